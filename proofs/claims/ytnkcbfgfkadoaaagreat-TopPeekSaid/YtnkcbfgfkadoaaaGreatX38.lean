/- Part 38 of the proof of TopPeek. -/
import Derived.Test.YtnkcbfgfkadoaaaGreatX37
set_option linter.all false
namespace Go.Proofs.YtnkcbfgfkadoaaaGreat.Sx
open Go
set_option maxRecDepth 100000
def vJ(th st ga le re ti:Int)(P np:Nat)(cp:Option Nat)(lv cv:Value)(pk:SV):List SV:=[.int .i64 th,.int .i64 st,.int .i64 ga,.int .i64 le,.int .i64 re,.int .i64 ti,.slice P 0 np cp,.val lv,.val cv,pk]
noncomputable abbrev pkD:Option Code:=some (bR 22)
noncomputable abbrev pkLB:Option Code:=lpB (aA 1 (qV (aA 2 pkD)))
def pkV(z:Int):Int:=Int.tmod (IntKind.wrap .i64 z) 10-1
theorem pk1_s(th st ga le re ti:Int)(np k:Nat)(cp ck:Option Nat)(lv cv:Value):∀x:Nat→SV,follow [] ((bB Tryz.prog (runK Tryz.prog S0 20) false #[] 0 0 2 pkD (cJ 24 [(0,.agg (vJ th st ga le re ti 0 np cp lv cv (.slice 1 0 k ck)))] x) (aT [.dead,.dead] [0,1])).bind (dB [1,3] [2] []))=some ([],(24,.normal,[],[.ptr 2 0 0,aC],3,[.cells 28 10 (vJ th st ga le re ti 0 np cp lv cv (.slice 1 0 k ck))])):=by intro x;kernel_rfl
theorem pk1_n(th st ga le re ti:Int)(np:Nat)(cp:Option Nat)(lv cv:Value):∀x:Nat→SV,follow [] ((bB Tryz.prog (runK Tryz.prog S0 20) false #[] 0 0 2 pkD (cJ 24 [(0,.agg (vJ th st ga le re ti 0 np cp lv cv (aC)))] x) (aT [.dead,.dead] [0,1])).bind (dB [1,3] [2] []))=some ([],(24,.normal,[],[.ptr 2 0 0,aC],3,[.cells 28 10 (vJ th st ga le re ti 0 np cp lv cv (aC))])):=by intro x;kernel_rfl
theorem pk2:∀x:Nat→SV,follow [] ((bB Tryz.prog (runK Tryz.prog S0 20) false #[] 0 0 1 (qV (aA 2 pkD)) (cJ 24 [(1,.ptr 0 0 0),(3,aC)] x) (aT [.dead] [0])).bind (dB [1,3,4] [] []))=some ([],(24,.normal,[],[.ptr 0 0 0,aC,.int .i64 0],1,[])):=by intro x;kernel_rfl
theorem pkr_a(th st ga le re ti:Int)(np k i:Nat)(cp ck:Option Nat)(lv cv:Value)(z:Int)(T:List SV):∀x:Nat→SV,follow [(0,true),(0,true),(0,true),(0,true),(1,true),(8,true)] ((bB Tryz.prog (runK Tryz.prog S0 20) false #[] 0 0 3 pkLB (cJ 24 [(1,.ptr 0 0 0),(3,aC),(4,.int .i64 i)] x) (aT [.cells 28 10 (vJ th st ga le re ti 3 np cp lv cv (.slice 1 0 k ck)),.spot 5 1 i [.int .u8 z],.dead,.dead] [0,1,2,3])).bind (dB [1,3,4] [5] [1]))=some ([(decide ((i:Int)<k),true),(decide ((0:Int)≤i),true),(decide ((i:Int)<k),true),(Nat.beq (aE 0 (Int.toNat i)) i,true),(fits (pkV z),true),(fits ((i:Int)+1),true)],(24,.normal,[],[.ptr 0 0 0,.slice 5 0 1 none,.int .i64 ((i:Int)+1)],6,[.cells 3 1 [.int .i64 (pkV z)]])):=by intro x;kernel_rfl
theorem pkr_b(th st ga le re ti:Int)(np k i:Nat)(cp ck:Option Nat)(lv cv:Value)(z:Int)(T:List SV):∀x:Nat→SV,follow [(0,true),(0,true),(0,true),(0,true),(1,true),(0,true),(3,true),(3,true)] ((bB Tryz.prog (runK Tryz.prog S0 20) false #[] 0 0 3 pkLB (cJ 24 [(1,.ptr 0 0 0),(3,.slice 2 0 i none),(4,.int .i64 i)] x) (aT [.cells 28 10 (vJ th st ga le re ti 3 np cp lv cv (.slice 1 0 k ck)),.spot 5 1 i [.int .u8 z],.cells 3 1 T,.dead] [0,1,3])).bind (dB [1,3,4] [2,5] [2,1]))=some ([(decide ((i:Int)<k),true),(decide ((0:Int)≤i),true),(decide ((i:Int)<k),true),(Nat.beq (aE 0 (Int.toNat i)) i,true),(fits (pkV z),true),(Nat.ble (bG (aE 0 i) 1) T.length,true),(Nat.ble (i+1) 1000000000,true),(fits ((i:Int)+1),true)],(24,.normal,[],[.ptr 0 0 0,.slice 5 0 (i+1) none,.int .i64 ((i:Int)+1)],6,[.dead,.cells 3 1 (List.take (bG i 1) T++[.int .i64 (pkV z)])])):=by intro x;kernel_rfl
theorem pkx_n(th st ga le re ti:Int)(np k i:Nat)(cp ck:Option Nat)(lv cv:Value):∀x:Nat→SV,follow [(0,false)] ((bB Tryz.prog (runK Tryz.prog S0 20) false #[] 0 0 3 pkLB (cJ 24 [(1,.ptr 0 0 0),(3,aC),(4,.int .i64 i)] x) (aT [.cells 28 10 (vJ th st ga le re ti 3 np cp lv cv (.slice 1 0 k ck)),.dead,.dead,.dead] [0,1,2,3])).bind (dB [3] [] []))=some ([(decide ((i:Int)<k),false)],(24,(.exit 0),[],[aC],4,[])):=by intro x;kernel_rfl
theorem pkx_s(th st ga le re ti:Int)(np k i:Nat)(cp ck:Option Nat)(lv cv:Value):∀x:Nat→SV,follow [(0,false)] ((bB Tryz.prog (runK Tryz.prog S0 20) false #[] 0 0 3 pkLB (cJ 24 [(1,.ptr 0 0 0),(3,.slice 2 0 i none),(4,.int .i64 i)] x) (aT [.cells 28 10 (vJ th st ga le re ti 3 np cp lv cv (.slice 1 0 k ck)),.dead,.dead,.dead] [0,1,2,3])).bind (dB [3] [] []))=some ([(decide ((i:Int)<k),false)],(24,(.exit 0),[],[.slice 2 0 i none],4,[])):=by intro x;kernel_rfl
theorem pky(th st ga le re ti:Int)(np:Nat)(cp:Option Nat)(lv cv:Value):∀x:Nat→SV,follow [] ((bB Tryz.prog (runK Tryz.prog S0 20) false #[] 0 0 3 pkLB (cJ 24 [(1,.ptr 0 0 0),(3,aC),(4,.int .i64 0)] x) (aT [.cells 28 10 (vJ th st ga le re ti 3 np cp lv cv (aC)),.dead,.dead,.dead] [0,1,2,3])).bind (dB [3] [] []))=some ([],(24,(.exit 0),[],[aC],4,[])):=by intro x;kernel_rfl
theorem pke_n:∀x:Nat→SV,follow [] ((bB Tryz.prog (runK Tryz.prog S0 20) false #[] 0 0 2 (aA 1 (aA 2 pkD)) (cJ 24 [(3,aC)] x) (aT [] [])).bind (dB [2] [] []))=some ([],(24,.ret,[],[aC],0,[])):=by intro x;kernel_rfl
theorem pke_s(i:Nat):∀x:Nat→SV,follow [] ((bB Tryz.prog (runK Tryz.prog S0 20) false #[] 0 0 2 (aA 1 (aA 2 pkD)) (cJ 24 [(3,.slice 0 0 i none)] x) (aT [.dead] [0])).bind (dB [2] [] []))=some ([],(24,.ret,[],[.slice 0 0 i none],1,[])):=by intro x;kernel_rfl
theorem fn22_ok:fnOk 22 24 [2]=true:=by kernel_rfl
theorem pk_okD:dL pkD=true:=by kernel_rfl
theorem pk_is:isX (aA 2 pkD)=true:=by kernel_rfl
theorem pk_okI:dL (qV (aA 2 pkD))=true:=by kernel_rfl
theorem pk_lp:zV (aA 1 (qV (aA 2 pkD)))=some 0:=by kernel_rfl
theorem pk_no:aA 1 (aA 1 (qV (aA 2 pkD)))=none:=by kernel_rfl
theorem pk_okE:dL (aA 1 (aA 2 pkD))=true:=by kernel_rfl
theorem pk_ok:dL pkLB=true:=by kernel_rfl
theorem pk_tail:aA 3 pkLB=none:=by kernel_rfl
theorem pkV_fits(z:Int):fits (pkV z)=true:=by
 unfold pkV;have h1:=Int.tmod_lt_of_pos (IntKind.wrap .i64 z) (show(0:Int)<10 by omega);have h2:=Int.lt_tmod_of_pos (IntKind.wrap .i64 z) (show(0:Int)<10 by omega);exact aN (by omega)
theorem fE{P:Program}{n:Nat}{d:Option Code}{Q:Exit→Act→World→Prop}{a:Act}{w:World}:goX n P d Q .normal a w=cB n P d Q a w:=rfl
structure PkA(h:H)(K:Nat)(pv:List Int):Prop where
 g:h.get K=.cells 5 1 (pv.map (SV.int .u8))
 lt:K<h.n
def tS(K:Nat)(ck:Option Nat)(pv:List Int)(nil:Bool):SV:=match nil with
 |true=>aC
 |false=>.slice K 0 pv.length ck
structure jO(h h1:H):Prop where
 n:h.n≤h1.n
 R:h1.R=h.R
 C:h1.C=h.C
 old:∀m,m<h.n→h1.get m=h.get m
def PkL(h1:H)(V:SV)(i:Nat)(n0:Nat):Prop:=(i=0∧V=aC)∨∃p,∃T:List Int,V=.slice p 0 i none∧i≠0∧h1.get p=.cells 3 1 (T.map (SV.int .i64))∧T.length=i∧n0≤p∧p<h1.n
section
variable{h:H}{P K np:Nat}{pv:List Int}{th st ga le re ti:Int}{cp ck:Option Nat}{lv cv:Value}
theorem AD(q:Nat→Nat)(k:IntKind)(T:List Int):SV.rens q (T.map (SV.int k))=T.map (SV.int k):=by
 rw[SV.rens_map,List.map_map];rfl
set_option maxHeartbeats 1000000 in
theorem picks_spec(hR:∀m∈h.R,m<h.n)(hC:h.C=[])(lP:P<h.n){nil:Bool}(tJ:nil=true→pv=[])(A:nil=false→PkA h K pv)(hk:pv.length≤600)(room:h.n+2000≤1000000):
 lJ Tryz.prog 22 [.agg (vJ th st ga le re ti P np cp lv cv (tS K ck pv nil))] h (fun V h'=>jO h h'∧h'.n≤h.n+2000∧PkL h' V pv.length h.n):=by
 refine lG fn22_ok ⟨by simp,by omega⟩ ⟨by simp,by simp⟩ fun ρ a w n Q s0 hq=>?_
 have okn:∀{h1:H} {m:Nat},jO h h1→h.n≤m→okK h1 m=true:=fun g hm=>zY (fun x hx e=>by rw[g.R]at hx;have:=hR x hx;omega) (by rw[g.C];exact hC)
 let KK:Nat:=match nil with
  |true=>P
  |false=>K
 have lK:KK<h.n:=by cases nil;exact(A rfl).lt;exact lP
 have rest:∀(dQ:bF) (a1:Act) (w1:World) (h1:H),jO h h1→h1.n≤h.n+1→h.n<h1.n→h1.get h.n=.cells 28 10 (vJ th st ga le re ti P np cp lv cv (tS K ck pv nil))→St (ρ,h,w) 24 [(1,.ptr h.n 0 0),(3,aC)] h1 dQ a1 w1→cB n Tryz.prog (aA 2 pkD) Q a1 w1:=fun dQ a1 w1 h1 G hn1 lb gb s1=>by
  refine tF pk_is ?_;have ft0:Fit h1 (aT [.dead] [0]) (nm [h.n]):=aX (R:=[0]) (os:=[.dead]) (ns:=[h.n]) ⟨lb,bE rfl aZ,trivial⟩ (by simp[aQ,SO.lives]) (by simp) (by omega);refine bO (K:=0) (ns:=[h.n]) bW (aH _) pk2 trivial ft0 rfl rfl rfl (by simp) (by omega) pk_okI s1 (fun _ hp=>hp) fun iJ a2 w2 s2=>?_
  show cB n Tryz.prog (aA 1 (qV (aA 2 pkD))) (iH n Tryz.prog (aA 1 (aA 2 pkD)) Q) a2 w2;refine vB pk_lp (fun k a w'=>∃i h2 V aW,k=pv.length-i∧i≤pv.length∧jO h h2∧h2.n≤h.n+1+2*i∧h.n<h2.n∧h2.get h.n=.cells 28 10 (vJ th st ga le re ti P np cp lv cv (tS K ck pv nil))∧PkL h2 V i h.n∧
   St (ρ,h,w) 24 [(1,.ptr h.n 0 0),(3,V),(4,.int .i64 (i:Nat))] h2 aW a w') (k:=pv.length) ⟨0,h1,aC,iJ,rfl,by omega,G,by omega,lb,gb,.inl ⟨rfl,rfl⟩,s2⟩ ?_
  rintro k a3 w3 ⟨i,h2,V,gV,rfl,hi,G2,hn2,lb2,gb2,hV,s3⟩;have lP2:P<h2.n:=by have:=G2.n;omega
  have lK2:KK<h2.n:=by have:=G2.n;omega
  have dd:∀{m j:Nat} {r:Nat→Nat} {R:List Nat},R.contains j=true→jI h2 r R j m .dead:=fun hc=>bE hc aZ
  have c2:decide ((0:Int)≤i)=true:=decide_eq_true (by omega);have c3:Nat.beq (aE 0 (Int.toNat (i:Int))) i=true:=by rw[aY];simp
  have c4:fits ((i:Int)+1)=true:=aN (by omega);rcases Nat.lt_or_ge i pv.length with cK|wQ
  ·cases nil with
   |true=>rw[tJ rfl]at cK;simp at cK
   |false=>
    have gK:h2.get K=.cells 5 1 (pv.map (SV.int .u8)):=(G2.old _ (A rfl).lt).trans (A rfl).g;have c1:decide ((i:Int)<pv.length)=true:=decide_eq_true (by omega);have spot:∀{r:Nat→Nat},((.spot 5 1 i [.int .u8 pv[i]]:SO)≠.dead→live h2 K)∧∀(ρ:bF) (p:Pl) (w:World),OR ρ p w (h2.get K)→OR (ρ.via r) p w (.spot 5 1 i [.int .u8 pv[i]]):=fun{r}=>jF gK (by simp;omega) (by simp) fun j u hu=>by
     cases j with
     |zero=>
      simp only[List.getElem?_cons_zero,Option.some.injEq]at hu;subst hu;rw[Nat.mul_one,Nat.add_zero,List.getElem?_map,List.getElem?_eq_getElem cK];rfl
     |succ j=>simp at hu
    have bK:h.n≠K:=by have:K<h.n:=(A rfl).lt;omega
    have lK3:K<h2.n:=lK2;have fin:∀{h4:H} {V':SV} {mE:bF} {a4:Act} {w4:World},jO h h4→h4.n≤h2.n+2→h.n<h4.n→h4.get h.n=h2.get h.n→PkL h4 V' (i+1) h.n→St (ρ,h,w) 24 [(1,.ptr h.n 0 0),(3,V'),(4,.int .i64 ((i+1:Nat):Int))] h4 mE a4 w4→
     goX n Tryz.prog (aA 3 pkLB) (rA n Tryz.prog (fun k a w'=>∃i h2 V aW,k=pv.length-i∧i≤pv.length∧jO h h2∧h2.n≤h.n+1+2*i∧h.n<h2.n∧h2.get h.n=.cells 28 10 (vJ th st ga le re ti P np cp lv cv (tS K ck pv false))∧PkL h2 V i h.n∧
      St (ρ,h,w) 24 [(1,.ptr h.n 0 0),(3,V),(4,.int .i64 (i:Nat))] h2 aW a w') (pv.length-i) 0 (aA 1 (aA 1 (qV (aA 2 pkD)))) (iH n Tryz.prog (aA 1 (aA 2 pkD)) Q)) .normal a4 w4:=fun{h4 V' mE a4 w4} g hn lb' gb' hV' s'=>by
     rw[fE,pk_tail];exact⟨pv.length-(i+1),by omega,i+1,h4,V',mE,rfl,by omega,g,by omega,lb',gb'.trans gb2,hV',s'⟩
    rcases hV with⟨rfl,rfl⟩|⟨p,T,rfl,AQ,gp,hT,lop,hip⟩
    ·have ft:Fit h2 (aT [.cells 28 10 (vJ th st ga le re ti 3 np cp lv cv (.slice 1 0 pv.length ck)),.spot 5 1 0 [.int .u8 pv[0]],.dead,.dead] [0,1,2,3]) (nm [h.n,K,h.n,P]):=aX (R:=[0,1,2,3]) (os:=[.cells 28 10 (vJ th st ga le re ti 3 np cp lv cv (.slice 1 0 pv.length ck)),.spot 5 1 0 [.int .u8 pv[0]],.dead,.dead]) (ns:=[h.n,K,h.n,P]) ⟨lb2,bE rfl (jM gb2 rfl),lK3,bE rfl spot,lb2,dd rfl,lP2,dd rfl,trivial⟩ (by simp[aQ,SO.lives,bK]) (by simp) (by omega)
     refine bO (K:=2) (ns:=[h.n,K,h.n,P]) bW (aH _) (pkr_a th st ga le re ti np pv.length 0 cp ck lv cv pv[0] []) (aU c1 (aU c2 (aU c1 (aU c3 (aU (pkV_fits _) (aU c4 trivial)))))) ft rfl (by kernel_rfl) rfl (by simp) (by omega) pk_ok s3 (fun _ hp=>hp) fun mE a4 w4 s4=>?_
     obtain⟨eJ,g1,g2⟩:=gX (nn:=6) (K:=2) (ls:=[5]) (os:=[.cells 3 1 [.int .i64 (pkV pv[0])]]) (tgs:=[0]) ft rfl (by kernel_rfl) (by simp) (by omega) rfl rfl (fun _=>0);have a1:=g1 0 5 _ 0 rfl rfl rfl;have kp:∀m,m<h2.n→_:=fun m hm=>(g2 m hm fun l hl cK=>by simp only[List.mem_cons,List.not_mem_nil,or_false]at hl;subst hl;simp at cK).1
     exact fin (h4:=h2.lay 2 (laid (nx h2.n 4 [] [h.n,K,h.n,P]) [5] [.cells 3 1 [.int .i64 (pkV pv[0])]])) ⟨by show h.n≤h2.n+2;omega,(cQ _ _).trans G2.R,(cY _ _).trans G2.C,fun m hm=>(kp m (by omega)).trans (G2.old m hm)⟩ (Nat.le_refl _) (by show h.n<h2.n+2;omega) (kp _ lb2) (.inr ⟨h2.n+1,[pkV pv[0]],rfl,by omega,a1.1,rfl,by omega,by show h2.n+1<h2.n+2;omega⟩) s4
    ·have pb:h.n≠p:=fun e=>by rw[←e,gb2]at gp;simp at gp
     have pK:K≠p:=by have:K<h.n:=(A rfl).lt;omega
     have ft:Fit h2 (aT [.cells 28 10 (vJ th st ga le re ti 3 np cp lv cv (.slice 1 0 pv.length ck)),.spot 5 1 i [.int .u8 pv[i]],.cells 3 1 (T.map (SV.int .i64)),.dead] [0,1,3]) (nm [h.n,K,p,P]):=aX (R:=[0,1,3]) (os:=[.cells 28 10 (vJ th st ga le re ti 3 np cp lv cv (.slice 1 0 pv.length ck)),.spot 5 1 i [.int .u8 pv[i]],.cells 3 1 (T.map (SV.int .i64)),.dead]) (ns:=[h.n,K,p,P]) ⟨lb2,bE rfl (jM gb2 rfl),lK3,bE rfl spot,hip,rZ rfl (okn G2 lop) (by rw[gp];show _=SO.cells 3 1 (SV.rens _ _);rw[AD]) rfl,lP2,dd rfl,trivial⟩ (by simp[aQ,SO.lives,bK,pb,pK]) (by simp) (by omega);have d1:Nat.ble (bG (aE 0 i) 1) (T.map (SV.int .i64)).length=true:=Nat.ble_eq_true_of_le (by rw[bT,aY,List.length_map];omega);have d2:Nat.ble (i+1) 1000000000=true:=Nat.ble_eq_true_of_le (by omega);refine bO (K:=2) (ns:=[h.n,K,p,P]) bW (aH _) (pkr_b th st ga le re ti np pv.length i cp ck lv cv pv[i] (T.map (SV.int .i64))) (aU c1 (aU c2 (aU c1 (aU c3 (aU (pkV_fits _) (aU d1 (aU d2 (aU c4 trivial)))))))) ft (by kernel_rfl) (by kernel_rfl) rfl (by simp) (by omega) pk_ok s3 (fun _ hp=>hp) fun mE a4 w4 s4=>?_
     obtain⟨eJ,g1,g2⟩:=gX (nn:=6) (K:=2) (ls:=[2,5]) (os:=[.dead,.cells 3 1 (List.take (bG i 1) (T.map (SV.int .i64))++[.int .i64 (pkV pv[i])])]) (tgs:=[0,0]) ft (by kernel_rfl) (by kernel_rfl) (by simp) (by omega) rfl rfl (fun _=>0);have a1:=g1 1 5 _ 0 rfl rfl rfl;have e1:SV.rens (nx h2.n 4 [] [h.n,K,p,P]) (List.take (bG i 1) (T.map (SV.int .i64))++[.int .i64 (pkV pv[i])])=(T++[pkV pv[i]]).map (SV.int .i64):=by
      rw[bT,List.take_of_length_le (by rw[List.length_map];omega),SV.rens_append,AD,List.map_append];rfl
     have kp:∀m,m<h2.n→m≠p→_:=fun m hm hp=>(g2 m hm fun l hl cK=>by
      simp only[List.mem_cons,List.not_mem_nil,or_false]at hl;rcases hl with rfl|rfl
      ·exact fun e=>hp e.symm
      ·simp at cK).1
     have s5:St (ρ,h,w) 24 [(1,.ptr h.n 0 0),(3,.slice (h2.n+1) 0 (i+1) none),(4,.int .i64 ((i+1:Nat):Int))] (h2.lay 2 (laid (nx h2.n 4 [] [h.n,K,p,P]) [2,5] [.dead,.cells 3 1 (List.take (bG i 1) (T.map (SV.int .i64))++[.int .i64 (pkV pv[i])])])) mE a4 w4:=s4;exact fin (h4:=h2.lay 2 (laid (nx h2.n 4 [] [h.n,K,p,P]) [2,5] [.dead,.cells 3 1 (List.take (bG i 1) (T.map (SV.int .i64))++[.int .i64 (pkV pv[i])])])) ⟨by show h.n≤h2.n+2;omega,(cQ _ _).trans G2.R,(cY _ _).trans G2.C,fun m hm=>(kp m (by omega) (by omega)).trans (G2.old m hm)⟩ (Nat.le_refl _) (by show h.n<h2.n+2;omega) (kp _ lb2 pb) (.inr ⟨h2.n+1,T++[pkV pv[i]],rfl,by omega,a1.1.trans (congrArg (SO.cells 3 1) e1),by simp[hT],by omega,by show h2.n+1<h2.n+2;omega⟩) s5
  ·have ei:i=pv.length:=by omega
   subst ei;have out:∀{mE:bF} {a4:Act} {w4:World},St (ρ,h,w) 24 [(3,V)] h2 mE a4 w4→rA n Tryz.prog (fun k a w'=>∃i h2 V aW,k=pv.length-i∧i≤pv.length∧jO h h2∧h2.n≤h.n+1+2*i∧h.n<h2.n∧h2.get h.n=.cells 28 10 (vJ th st ga le re ti P np cp lv cv (tS K ck pv nil))∧PkL h2 V i h.n∧
    St (ρ,h,w) 24 [(1,.ptr h.n 0 0),(3,V),(4,.int .i64 (i:Nat))] h2 aW a w') (pv.length-pv.length) 0 (aA 1 (aA 1 (qV (aA 2 pkD)))) (iH n Tryz.prog (aA 1 (aA 2 pkD)) Q) (.exit 0) a4 w4:=fun{mE a4 w4} s4=>by
    unfold rA;simp only[if_true];rw[pk_no];show cB n Tryz.prog (aA 1 (aA 2 pkD)) Q a4 w4;have hV2:=hV;rcases hV with⟨_,rfl⟩|⟨p,T,rfl,_,gp,hT,lop,hip⟩
    ·exact bO (K:=0) (ns:=[]) bW (aH _) pke_n trivial (aX (R:=[]) (os:=[]) (ns:=[]) trivial (by simp[aQ]) (by simp) (by omega)) rfl rfl rfl (by simp) (by omega) pk_okE s4 (fun _ hp=>hp) fun rB a5 w5 s5=>hq _ rB a5 w5 [aC] h2 (.inl rfl) rfl ⟨G2,by omega,hV2⟩ s5
    ·exact bO (K:=0) (ns:=[p]) bW (aH _) (pke_s pv.length) trivial (aX (R:=[0]) (os:=[.dead]) (ns:=[p]) ⟨hip,dd rfl,trivial⟩ (by simp[aQ,SO.lives]) (by simp) (by omega)) rfl rfl rfl (by simp) (by omega) pk_okE s4 (fun _ hp=>hp) fun rB a5 w5 s5=>hq _ rB a5 w5 [.slice p 0 pv.length none] h2 (.inl rfl) rfl ⟨G2,by omega,hV2⟩ s5
   cases nil with
   |true=>
    have e0:=tJ rfl;rcases hV with⟨_,rfl⟩|⟨p,T,rfl,AQ,_⟩
    ·exact bO (K:=0) (ns:=[h.n,P,h.n,P]) bW (aH _) (pky th st ga le re ti np cp lv cv) trivial (aX (R:=[0,1,2,3]) (os:=[.cells 28 10 (vJ th st ga le re ti 3 np cp lv cv aC),.dead,.dead,.dead]) (ns:=[h.n,P,h.n,P]) ⟨lb2,bE rfl (jM gb2 rfl),lP2,dd rfl,lb2,dd rfl,lP2,dd rfl,trivial⟩ (by simp[aQ,SO.lives]) (by simp) (by omega)) rfl rfl rfl (by simp) (by omega) pk_ok s3 (by subst e0;exact fun _ hp=>hp) fun rB a5 w5 s5=>out s5
    ·rw[e0]at AQ;simp at AQ
   |false=>
    have lK3:K<h2.n:=lK2;rcases hV with⟨e0,rfl⟩|⟨p,T,rfl,AQ,gp,hT,lop,hip⟩
    ·exact bO (K:=0) (ns:=[h.n,K,h.n,P]) bW (aH _) (pkx_n th st ga le re ti np pv.length pv.length cp ck lv cv) (aU (decide_eq_false (by omega)) trivial) (aX (R:=[0,1,2,3]) (os:=[.cells 28 10 (vJ th st ga le re ti 3 np cp lv cv (.slice 1 0 pv.length ck)),.dead,.dead,.dead]) (ns:=[h.n,K,h.n,P]) ⟨lb2,bE rfl (jM gb2 rfl),lK3,dd rfl,lb2,dd rfl,lP2,dd rfl,trivial⟩ (by simp[aQ,SO.lives]) (by simp) (by omega)) rfl rfl rfl (by simp) (by omega) pk_ok s3 (fun _ hp=>hp) fun rB a5 w5 s5=>out s5
    ·exact bO (K:=0) (ns:=[h.n,K,p,P]) bW (aH _) (pkx_s th st ga le re ti np pv.length pv.length cp ck lv cv) (aU (decide_eq_false (by omega)) trivial) (aX (R:=[0,1,2,3]) (os:=[.cells 28 10 (vJ th st ga le re ti 3 np cp lv cv (.slice 1 0 pv.length ck)),.dead,.dead,.dead]) (ns:=[h.n,K,p,P]) ⟨lb2,bE rfl (jM gb2 rfl),lK3,dd rfl,hip,dd rfl,lP2,dd rfl,trivial⟩ (by simp[aQ,SO.lives]) (by simp) (by omega)) rfl rfl rfl (by simp) (by omega) pk_ok s3 (fun _ hp=>hp) fun rB a5 w5 s5=>out s5
 cases nil with
 |true=>
  have ft:Fit h (aT [.dead,.dead] [0,1]) (nm [P,P]):=aX (R:=[0,1]) (os:=[.dead,.dead]) (ns:=[P,P]) ⟨lP,bE rfl aZ,lP,bE rfl aZ,trivial⟩ (by simp[aQ,SO.lives]) (by simp) (by omega);refine bO (K:=1) (ns:=[P,P]) bW (aH _) (pk1_n th st ga le re ti np cp lv cv) trivial ft rfl rfl rfl (by simp) (by omega) pk_okD s0 (fun _ hp=>hp) fun dQ a1 w1 s1=>?_
  obtain⟨eJ,g1,g2⟩:=gX (nn:=3) (K:=1) (ls:=[2]) (os:=[.cells 28 10 (vJ th st ga le re ti 0 np cp lv cv aC)]) (tgs:=[0]) ft rfl rfl (by simp) (by omega) rfl rfl (fun _=>0);have a1':=g1 0 2 _ 0 rfl rfl rfl;exact rest dQ a1 w1 (h.lay 1 (laid (nx h.n 2 [] [P,P]) [2] [.cells 28 10 (vJ th st ga le re ti 0 np cp lv cv aC)])) ⟨by show h.n≤h.n+1;omega,cQ _ _,cY _ _,fun m hm=>(g2 m hm fun l hl cK=>by simp only[List.mem_cons,List.not_mem_nil,or_false]at hl;subst hl;simp at cK).1⟩ (Nat.le_refl _) (by show h.n<h.n+1;omega) a1'.1 s1
 |false=>
  have lK3:K<h.n:=(A rfl).lt;have ft:Fit h (aT [.dead,.dead] [0,1]) (nm [P,K]):=aX (R:=[0,1]) (os:=[.dead,.dead]) (ns:=[P,K]) ⟨lP,bE rfl aZ,lK3,bE rfl aZ,trivial⟩ (by simp[aQ,SO.lives]) (by simp) (by omega);refine bO (K:=1) (ns:=[P,K]) bW (aH _) (pk1_s th st ga le re ti np pv.length cp ck lv cv) trivial ft rfl rfl rfl (by simp) (by omega) pk_okD s0 (fun _ hp=>hp) fun dQ a1 w1 s1=>?_
  obtain⟨eJ,g1,g2⟩:=gX (nn:=3) (K:=1) (ls:=[2]) (os:=[.cells 28 10 (vJ th st ga le re ti 0 np cp lv cv (.slice 1 0 pv.length ck))]) (tgs:=[0]) ft rfl rfl (by simp) (by omega) rfl rfl (fun _=>0);have a1':=g1 0 2 _ 0 rfl rfl rfl;exact rest dQ a1 w1 (h.lay 1 (laid (nx h.n 2 [] [P,K]) [2] [.cells 28 10 (vJ th st ga le re ti 0 np cp lv cv (.slice 1 0 pv.length ck))])) ⟨by show h.n≤h.n+1;omega,cQ _ _,cY _ _,fun m hm=>(g2 m hm fun l hl cK=>by simp only[List.mem_cons,List.not_mem_nil,or_false]at hl;subst hl;simp at cK).1⟩ (Nat.le_refl _) (by show h.n<h.n+1;omega) a1'.1 s1
end
end Go.Proofs.YtnkcbfgfkadoaaaGreat.Sx
