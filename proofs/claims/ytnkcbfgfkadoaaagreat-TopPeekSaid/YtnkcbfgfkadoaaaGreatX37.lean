/- Part 37 of the proof of TopPeek. -/
import Derived.Test.YtnkcbfgfkadoaaaGreatX36
set_option linter.all false
namespace Go.Proofs.YtnkcbfgfkadoaaaGreat.Sx
open Go
set_option maxRecDepth 10000
theorem fn10_ok:fnOk 10 34 [4]=true:=by kernel_rfl
noncomputable abbrev nwD:Option Code:=some (bR 10)
theorem nw_okD:dL nwD=true:=by kernel_rfl
theorem nw_is:isX (aA 2 nwD)=true:=by kernel_rfl
theorem nw_okI:dL (qV (aA 2 nwD))=true:=by kernel_rfl
theorem nw_lp:zV (aA 1 (qV (aA 2 nwD)))=some 0:=by kernel_rfl
theorem nw_no:aA 1 (aA 1 (qV (aA 2 nwD)))=none:=by kernel_rfl
theorem nw_okE:dL (aA 1 (aA 2 nwD))=true:=by kernel_rfl
section
variable{h:H}{own:Nat→Nat}{P L:Nat}{PL LL:List Int}{cs:Option (Nat×Option Nat)}{rows:List (Option rE)}{th st ga le re ti:Int}{cp cl:Option Nat}
def NewR(h:H)(own:Nat→Nat)(cells:List SV)(W:List Int)(k:Nat)(v:SV)(h':H):Prop:=∃N aL thr bZ,v=.ptr N.ns 0 0∧NwI h h' own bZ cells W N aL thr k∧h'.n≤h.n+400
theorem new_spec(A:Args h P L PL LL cs rows)(gA:0≤st∧st≤8)(hti:0≤ti∧ti≤100)(jN:1≤PL.length∧PL.length≤12)(hLL:PL.length=LL.length)(h8:rows.length≤8)(h88:∀x,some x∈rows→x.n≤8)(room:h.n+400≤1000000):
 lJ Tryz.prog 10 [.agg (nwC th st ga le re ti P L PL.length cp cl),vD cs rows.length] h (NewR h own (nwC th st ga le re ti P L PL.length cp cl) (qM st (Int.toNat (gB st ti PL.length)) LL PL.length) rows.length):=by
 refine lG fn10_ok ⟨by simp,by omega⟩ ⟨by simp,by simp⟩ fun ρ a w n Q s0 hq=>?_
 have lP:=A.p.2;have lL:=A.l.2;have lk0:∀{m j:Nat} {r:Nat→Nat} {R:List Nat},R.contains j=true→jI h r R j m .dead:=fun hc=>bE hc aZ
 have cf:decide ((0≤st∧st≤8)∧(0≤ti∧ti≤100)∧(1≤PL.length∧PL.length≤12)∧PL.length=PL.length∧PL.length≤LL.length)=true:=decide_eq_true ⟨gA,hti,jN,rfl,by omega⟩;have rest:∀(dQ:bF) (a1:Act) (w1:World) (h1:H) (cO:Nat→Nat) (N:Names),NwI h h1 own cO (nwC th st ga le re ti P L PL.length cp cl) (qM st (Int.toNat (gB st ti PL.length)) LL PL.length) N [] aC 0→h1.n≤h.n+164→
  St (ρ,h,w) 34 [(1,vD cs rows.length),(5,.ptr N.ns 0 0)] h1 dQ a1 w1→cB n Tryz.prog (aA 2 nwD) Q a1 w1:=fun dQ a1 w1 h1 cO N I hn1 s1=>by
  refine tF nw_is ?_;have two:∀iJ a2 w2,St (ρ,h,w) 34 [(5,.ptr N.ns 0 0),(13,vD cs rows.length),(14,.int .i64 rows.length),(15,.int .i64 (0:Nat))] h1 iJ a2 w2→cB n Tryz.prog (aA 1 (qV (aA 2 nwD))) (iH n Tryz.prog (aA 1 (aA 2 nwD)) Q) a2 w2:=fun iJ a2 w2 s2=>by
   refine vB nw_lp (fun k a w'=>∃i h2 eJ N2 aL thr aW,k=rows.length-i∧i≤rows.length∧NwI h h2 own eJ (nwC th st ga le re ti P L PL.length cp cl) (qM st (Int.toNat (gB st ti PL.length)) LL PL.length) N2 aL thr i∧h2.n≤h.n+164+20*i∧
    St (ρ,h,w) 34 [(5,.ptr N2.ns 0 0),(13,vD cs rows.length),(14,.int .i64 rows.length),(15,.int .i64 (i:Nat))] h2 aW a w') (k:=rows.length) ⟨0,h1,cO,N,[],aC,iJ,rfl,by omega,I,by omega,s2⟩ ?_
   rintro k a3 w3 ⟨i,h2,eJ,N2,aL,thr,gV,rfl,hi,I2,hn2,s3⟩;have AA:=I2.ns.2.2;have d1:∀{m j:Nat} {r:Nat→Nat} {R:List Nat},R.contains j=true→jI h2 r R j m .dead:=fun hc=>bE hc aZ
   rcases Nat.lt_or_ge i rows.length with cK|wQ
   ·cases cs with
    |none=>rw[A.no rfl]at cK;simp at cK
    |some y=>
     obtain⟨CL,cc⟩:=y;refine new_round A I2 h8 h88 (List.getElem?_eq_getElem cK) (by omega) s3 fun N' tps' thr' h4 AB mE a4 w4 I4 hn4 s4=>?_
     exact⟨rows.length-(i+1),by omega,i+1,h4,AB,N',tps',thr',mE,rfl,by omega,I4,by omega,s4⟩
   ·have ei:i=rows.length:=by omega
    subst ei;have out:∀mE a4 w4,St (ρ,h,w) 34 [(5,.ptr N2.ns 0 0)] h2 mE a4 w4→rA n Tryz.prog (fun k a w'=>∃i h2 eJ N2 aL thr aW,k=rows.length-i∧i≤rows.length∧NwI h h2 own eJ (nwC th st ga le re ti P L PL.length cp cl) (qM st (Int.toNat (gB st ti PL.length)) LL PL.length) N2 aL thr i∧h2.n≤h.n+164+20*i∧
     St (ρ,h,w) 34 [(5,.ptr N2.ns 0 0),(13,vD cs rows.length),(14,.int .i64 rows.length),(15,.int .i64 (i:Nat))] h2 aW a w') (rows.length-rows.length) 0 (aA 1 (aA 1 (qV (aA 2 nwD)))) (iH n Tryz.prog (aA 1 (aA 2 nwD)) Q) (.exit 0) a4 w4:=fun mE a4 w4 s4=>by
     unfold rA;simp only[if_true];rw[nw_no];show cB n Tryz.prog (aA 1 (aA 2 nwD)) Q a4 w4;have ft:Fit h2 (aT [.dead] [0]) (nm [N2.ns]):=aX (R:=[0]) (os:=[.dead]) (ns:=[N2.ns]) ⟨AA,d1 rfl,trivial⟩ (by simp[aQ,SO.lives]) (by simp) (by omega);refine bO (K:=0) (ns:=[N2.ns]) bW (aH _) nwe trivial ft rfl rfl rfl (by simp) (by omega) nw_okE s4 (fun _ hp=>hp) fun rB a5 w5 s5=>?_
     exact hq _ rB a5 w5 [.ptr N2.ns 0 0] h2 (.inl rfl) rfl ⟨N2,aL,thr,eJ,rfl,I2,by omega⟩ s5
    cases cs with
    |none=>
     have er:=A.no rfl;have ft:Fit h2 (aT [.dead] [0]) (nm [N2.ns]):=aX (R:=[0]) (os:=[.dead]) (ns:=[N2.ns]) ⟨AA,d1 rfl,trivial⟩ (by simp[aQ,SO.lives]) (by simp) (by omega);exact bO (K:=0) (ns:=[N2.ns]) bW (aH _) nwr_y trivial ft rfl rfl rfl (by simp) (by omega) nw_ok s3 (by subst er;exact fun _ hp=>hp) fun rB a5 w5 s5=>out rB a5 w5 s5
    |some y=>
     obtain⟨CL,cc⟩:=y;have lCL:=(A.cl _ rfl).2;have hn0:=I2.n;have ft:Fit h2 (aT [.dead,.dead] [0,1]) (nm [N2.ns,CL]):=aX (R:=[0,1]) (os:=[.dead,.dead]) (ns:=[N2.ns,CL]) ⟨AA,d1 rfl,by omega,d1 rfl,trivial⟩ (by simp[aQ,SO.lives]) (by simp) (by omega);exact bO (K:=0) (ns:=[N2.ns,CL]) bW (aH _) (nwr_x rows.length rows.length cc) (aU (decide_eq_false (by omega)) trivial) ft rfl rfl rfl (by simp) (by omega) nw_ok s3 (fun _ hp=>hp) fun rB a5 w5 s5=>out rB a5 w5 s5
  have AA:=I.ns.2.2;have d1:∀{m j:Nat} {r:Nat→Nat} {R:List Nat},R.contains j=true→jI h1 r R j m .dead:=fun hc=>bE hc aZ
  cases cs with
  |none=>
   have er:=A.no rfl;have ft:Fit h1 (aT [.dead,.dead] [0,1]) (nm [N.ns,N.ns]):=aX (R:=[0,1]) (os:=[.dead,.dead]) (ns:=[N.ns,N.ns]) ⟨AA,d1 rfl,AA,d1 rfl,trivial⟩ (by simp[aQ,SO.lives]) (by simp) (by omega);refine bO (K:=0) (ns:=[N.ns,N.ns]) bW (aH _) nw2_n trivial ft rfl rfl rfl (by simp) (by omega) nw_okI s1 (fun _ hp=>hp) fun rB a5 w5 s5=>?_
   exact two rB a5 w5 (by subst er;exact s5)
  |some y=>
   obtain⟨CL,cc⟩:=y;have lCL:=(A.cl _ rfl).2;have hn0:=I.n;have ft:Fit h1 (aT [.dead,.dead] [0,1]) (nm [CL,N.ns]):=aX (R:=[0,1]) (os:=[.dead,.dead]) (ns:=[CL,N.ns]) ⟨by omega,d1 rfl,AA,d1 rfl,trivial⟩ (by simp[aQ,SO.lives]) (by simp) (by omega);refine bO (K:=0) (ns:=[CL,N.ns]) bW (aH _) (nw2_s rows.length cc) trivial ft rfl rfl rfl (by simp) (by omega) nw_okI s1 (fun _ hp=>hp) fun rB a5 w5 s5=>?_
   exact two rB a5 w5 s5
 have first:∀(X:Nat),X<h.n→∃ft:Fit h (aT [.dead,.ints 3 1 LL,.dead] [0,1,2]) (nm [P,L,X]),True:=fun X hX=>⟨aX (R:=[0,1,2]) (os:=[.dead,.ints 3 1 LL,.dead]) (ns:=[P,L,X]) ⟨lP,lk0 rfl,lL,bE rfl (jM A.l.1 rfl),hX,lk0 rfl,trivial⟩ (by simp[aQ,SO.lives]) (by simp) (by omega),trivial⟩
 have next:∀X,X<h.n→∀dQ a1 w1,St (ρ,h,w) 34 [(1,vD cs rows.length),(5,.ptr (h.n+161) 0 0)] (h.lay 162 (laid (nx h.n 3 [] [P,L,X]) [164,11,10] [.cells 68 11 [.int .i64 th,.int .i64 st,.int .i64 ga,.int .i64 le,.int .i64 re,.int .i64 ti,.slice 0 0 PL.length cp,.slice 1 0 PL.length cl,.ptr 11 0 0,aC,aC],.cells 107 2 [.slice 10 0 (Int.toNat (gB st ti PL.length)) (some (Int.toNat (gB st ti PL.length))),aC],.ints 3 1 (qM st (Int.toNat (gB st ti PL.length)) LL PL.length)])) dQ a1 w1→cB n Tryz.prog (aA 2 nwD) Q a1 w1:=fun X hX dQ a1 w1 s1=>by
  obtain⟨ft,_⟩:=first X hX
  obtain⟨cO,g1,g2⟩:=gX (nn:=165) (K:=162) (ls:=[164,11,10]) (os:=[.cells 68 11 [.int .i64 th,.int .i64 st,.int .i64 ga,.int .i64 le,.int .i64 re,.int .i64 ti,.slice 0 0 PL.length cp,.slice 1 0 PL.length cl,.ptr 11 0 0,aC,aC],.cells 107 2 [.slice 10 0 (Int.toNat (gB st ti PL.length)) (some (Int.toNat (gB st ti PL.length))),aC],.ints 3 1 (qM st (Int.toNat (gB st ti PL.length)) LL PL.length)]) (tgs:=[0,1,2]) ft rfl rfl (by simp) (by omega) rfl rfl own;refine rest dQ a1 w1 (h.lay 162 (laid (nx h.n 3 [] [P,L,X]) [164,11,10] _)) cO ⟨h.n+161,h.n+8,h.n+7,0,0,0,none,none⟩ ⟨by show h.n≤h.n+162;omega,cQ _ _,(cY _ _),fun m hm=>g2 m hm fun l hl cK=>?_,g1 0 164 _ 0 rfl rfl rfl,?_,g1 2 10 _ 2 rfl rfl rfl,rfl,fun _=>rfl,fun h=>absurd rfl h,fun j t hj=>by simp at hj,by show h.n≤h.n+161;omega⟩ (by show h.n+162≤_;omega) s1
  ·simp only[List.mem_cons,List.not_mem_nil,or_false]at hl
   simp at cK;omega
  ·rw[qN]
   exact g1 1 11 _ 1 rfl rfl rfl
 cases cs with
 |none=>
  obtain⟨ft,_⟩:=first P lP
  exact bO (K:=162) (ns:=[P,L,P]) bW xD (nw1_n th st ga le re ti PL.length 0 cp cl none LL) (aU cf trivial) ft rfl rfl rfl (by simp) (by omega) nw_okD s0 (fun _ hp=>hp) fun dQ a1 w1 s1=>next P lP dQ a1 w1 s1
 |some y=>
  obtain⟨CL,cc⟩:=y;have lCL:=(A.cl _ rfl).2;obtain⟨ft,_⟩:=first CL lCL
  exact bO (K:=162) (ns:=[P,L,CL]) bW xD (nw1_s th st ga le re ti PL.length rows.length cp cl cc LL) (aU cf trivial) ft rfl rfl rfl (by simp) (by omega) nw_okD s0 (fun _ hp=>hp) fun dQ a1 w1 s1=>next CL lCL dQ a1 w1 s1
end
end Go.Proofs.YtnkcbfgfkadoaaaGreat.Sx
