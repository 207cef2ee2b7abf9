/- Part 25 of the proof of TopPeek. -/
import Derived.Test.YtnkcbfgfkadoaaaGreatX24
set_option linter.all false
namespace Go.Proofs.YtnkcbfgfkadoaaaGreat.Sx
open Go
set_option maxRecDepth 10000
section
variable{h:H}{own:Nat→Nat}{C:bS}{W:List Int}{nL:Nat}{aD:List Ev}{aL:List Nat}{N:Names}{i t sb nb lr:Nat}{k1 k2 k3:Int}{bV now:SV}{ob:mB}{V:Int→Prop}
theorem step_adm(ok:dU C)(w:hU C W)(F:tB h own C W nL aD aL N i t sb nb lr k1 k2 k3 bV now ob)(M:rV C nL k1 now ob):BH h own C nL aD aL N i t sb nb lr k1 k2 k3 bV V fun _=>rV C (nL+1) k1:=by
 obtain⟨hk,rfl,node,n,thr,o0,o2,o3,cN,hn,ht,M⟩:=M;cases M with
 |claim o1 Q off nQ now seen saw set b0 b1 b2 b3 hQ hnQ hQr hns hL=>
  cases now with
  |false=>
   have:=hns rfl;subst this;cases nL with
   |zero=>exact adm_new_n ok w hk cN hn ht hQ hnQ hQr F
   |succ m=>exact adm_new ok w hk cN hn ht hQ hnQ hQr F
  |true=>
   obtain⟨m,rfl⟩:=Nat.exists_eq_succ_of_ne_zero (by have:=hL rfl;omega:nL≠0);cases seen with
   |false=>exact adm_look ok w hk cN hn ht hQ hnQ hQr F
   |true=>exact adm_take ok w hk cN hn ht hQ hnQ hQr F
 |pool o1 done os v vs d off nP G had Gm saw set lf cur hG hL hd ho rW xM nD dE AO hGr xI nI hcur=>
  obtain⟨m,rfl⟩:=Nat.exists_eq_succ_of_ne_zero (by omega:nL≠0);subst ho;cases hG with
  |nil=>
   cases cur with
   |none=>exact pool_new0 ok w hk cN hn ht hd rW xM nD dE AO nI xI F
   |some s=>exact pool_on0 ok w hk cN hn ht hd rW xM nD dE AO nI xI (hcur s rfl) F
  |cons G nG h0 h1=>
   cases cur with
   |none=>exact pool_new1 ok w hk cN hn ht hd rW xM nD dE AO nI h0 h1 hGr xI F
   |some s=>exact pool_on1 ok w hk cN hn ht hd rW xM nD dE AO nI h0 h1 hGr xI (hcur s rfl) F
 |rest o1 done p ps d off nP cur hL hd ho rW xM hps hcur=>
  obtain⟨m,rfl⟩:=Nat.exists_eq_succ_of_ne_zero (by omega:nL≠0);subst ho;have hp:=hps p (by simp);have hps':∀x∈ps,x.isPool=false∧x.ok C:=fun x hx=>hps x (by simp[hx])
  cases cur with
  |some s=>
   obtain⟨hs,v,rfl⟩:=hcur s rfl;exact rest_add2 ok w hk cN hn ht hd rW xM hps' hp.2 hs F
  |none=>
   cases p with
   |pool v=>exact absurd hp.1 (by simp[Part.isPool])
   |store wd y=>exact rest_store ok w hk cN hn ht hd rW xM hps' hp.2 F
   |add v=>exact rest_add ok w hk cN hn ht hd rW xM hps' hp.2 F
   |back v=>exact rest_back ok w hk cN hn ht hd rW xM hps' hp.2 F
end
def Mch(C:bS)(nL:Nat)(V:Int→Prop)(k1 k2:Int)(now:SV)(ob:mB):Prop:=MShift C nL k1 now ob∨(k1=6∧MPeek C k2 now ob)∨(k1=5∧MCount C nL V k2 now ob)∨MRel C nL k1 now ob∨rV C nL k1 now ob
theorem uT.mono{C:bS}{nL nL':Nat}{g:SV→SO}{n:Int}{ob:mB}(h:nL≤nL')(m:uT C nL g n ob):uT C nL' g n ob:=by
 cases m with
 |look=>exact .look
 |take a=>exact .take (by omega)
 |read a=>exact .read (by omega)
 |list k q us a b c d e=>exact .list k q us (by omega) b c d e
 |add k q us s a b c d e f g=>exact .add k q us s (by omega) b c d e f g
theorem lF.mono{C:bS}{nL nL':Nat}{node:Int}{g:SV→SV→SV→SV→Int→SO}{ob:mB}(h:nL≤nL')(m:lF C nL node g ob):lF C nL' node g ob:=by
 cases m with
 |claim o1 Q off nQ now seen saw set b0 b1 b2 b3 a b c d e=>exact .claim o1 Q off nQ now seen saw set b0 b1 b2 b3 a b c d fun x=>by have:=e x;omega
 |pool o1 done os v vs d off nP G had Gm saw set lf cur a b c e f g i j k l m n o=>exact .pool o1 done os v vs d off nP G had Gm saw set lf cur a (by omega) c e f g i j k l m n o
 |rest o1 done p ps d off nP cur a b c e f g i=>exact .rest o1 done p ps d off nP cur (by omega) b c e f g i
theorem Mch.mono{C:bS}{nL nL':Nat}{V V':Int→Prop}{k1 k2:Int}{now:SV}{ob:mB}(h:nL≤nL')(hV:∀x,V x→V' x)(m:Mch C nL V k1 k2 now ob):Mch C nL' V' k1 k2 now ob:=by
 rcases m with m|m|m|m|m
 ·obtain⟨a,r,v,n,saw,at_,e1,e2,e3,e4,b,c,d,e⟩:=m
  exact .inl ⟨a,r,v,n,saw,at_,e1,e2,e3,e4,b,c,d.imp id fun d=>⟨d.1,by omega⟩,e⟩
 ·exact .inr (.inl m)
 ·obtain⟨k,a,st,left,e1,e2,e3,e4,G,b,c,d,e,f,g⟩:=m
  exact .inr (.inr (.inl ⟨k,a,st,left,e1,e2,e3,e4,G,b,c,d,fun x=>hV _ (e x),fun x=>by have:=f x;omega,g⟩))
 ·obtain⟨a,b,j,cH,thr,saw,o0,o1,o2,o3,a0,a1,a2,a3,n,c,d,e,f⟩:=m
  exact .inr (.inr (.inr (.inl ⟨a,b,j,cH,thr,saw,o0,o1,o2,o3,a0,a1,a2,a3,n,c,d,e,f.mono h⟩)))
 ·obtain⟨a,b,node,n,thr,o0,o2,o3,c,d,e,f⟩:=m
  exact .inr (.inr (.inr (.inr ⟨a,b,node,n,thr,o0,o2,o3,c,d,e,f.mono h⟩)))
section
variable{h:H}{own:Nat→Nat}{C:bS}{W:List Int}{nL:Nat}{aD:List Ev}{aL:List Nat}{N:Names}{i t sb nb lr:Nat}{k1 k2 k3:Int}{bV now:SV}{ob:mB}{V:Int→Prop}
theorem BH.imp{M M':(Int→Prop)→SV→mB→Prop}(hM:∀V now ob,M V now ob→M' V now ob)(s:BH h own C nL aD aL N i t sb nb lr k1 k2 k3 bV V M):BH h own C nL aD aL N i t sb nb lr k1 k2 k3 bV V M':=by
 obtain⟨W',a,b⟩:=s;refine⟨W',a,b.imp (fun b=>?_) id⟩;obtain⟨n,o,c,d⟩:=b;exact⟨n,o,hM _ _ _ c,d⟩
theorem step_any(ok:dU C)(w:hU C W)(F:tB h own C W nL aD aL N i t sb nb lr k1 k2 k3 bV now ob)(M:Mch C nL V k1 k2 now ob):BH h own C nL aD aL N i t sb nb lr k1 k2 k3 bV V fun V=>Mch C (nL+1) V k1 k2:=by
 rcases M with m|⟨_,m⟩|⟨k,m⟩|m|m
 ·exact(step_shift ok w F m).imp fun _ _ _ x=>.inl x
 ·exact step_peek ok w F m
 ·exact(step_count ok w F m).imp fun _ _ _ x=>.inr (.inr (.inl ⟨k,x⟩))
 ·exact(step_rel ok w F m).imp fun _ _ _ x=>.inr (.inr (.inr (.inl x)))
 ·exact(step_adm ok w F m).imp fun _ _ _ x=>.inr (.inr (.inr (.inr x)))
end
end Go.Proofs.YtnkcbfgfkadoaaaGreat.Sx
namespace Go.Proofs.YtnkcbfgfkadoaaaGreat.Sx
open Go
set_option maxRecDepth 100000
noncomputable def ctR(np:Nat)(c:Option Nat)(v:Int)(P:List Int):Out (SV×H):=runK Tryz.prog K4 30 (.fn 122 [.slice 0 0 np c,.int .i64 v]) (aT [.ints 3 1 P] [0])
def ctA:Nat→Nat
 |0=>0
 |_+1=>1
def ctW:Nat→Way
 |0=>[]
 |j+1=>ctW j++[(ctA j,true),(1,true),(0,true),(0,false)]
def ctC(np:Nat)(v:Int)(P:List Int):Nat→kB
 |0=>[]
 |j+1=>ctC np v P j++[(decide (((j:Nat):Int)<(np:Int)),true),(decide (((j:Nat):Int)<(np:Int)),true),(Nat.blt j P.length,true),(v==P.getD j 0,false)]
def xN(j:Nat)(np:Nat)(c:Option Nat)(v:Int)(P:List Int):Prop:=follow (ctW j++[(ctA j,true),(1,true),(0,true),(0,true)]) ((ctR np c v P).bind (cD []))=
 some (ctC np v P j++[(decide (((j:Nat):Int)<(np:Int)),true),(decide (((j:Nat):Int)<(np:Int)),true),(Nat.blt j P.length,true),(v==P.getD j 0,true)],(.bool true,1,[]))
def wB(j:Nat)(np:Nat)(c:Option Nat)(v:Int)(P:List Int):Prop:=follow (ctW j++[(ctA j,false)]) ((ctR np c v P).bind (cD []))=
 some (ctC np v P j++[(decide (((j:Nat):Int)<(np:Int)),false)],(.bool false,1,[]))
theorem cty_0(np:Nat)(c:Option Nat)(v:Int)(P:List Int):xN 0 np c v P:=by unfold xN;kernel_rfl
theorem cty_1(np:Nat)(c:Option Nat)(v:Int)(P:List Int):xN 1 np c v P:=by unfold xN;kernel_rfl
theorem cty_2(np:Nat)(c:Option Nat)(v:Int)(P:List Int):xN 2 np c v P:=by unfold xN;kernel_rfl
theorem cty_3(np:Nat)(c:Option Nat)(v:Int)(P:List Int):xN 3 np c v P:=by unfold xN;kernel_rfl
theorem cty_4(np:Nat)(c:Option Nat)(v:Int)(P:List Int):xN 4 np c v P:=by unfold xN;kernel_rfl
theorem cty_5(np:Nat)(c:Option Nat)(v:Int)(P:List Int):xN 5 np c v P:=by unfold xN;kernel_rfl
theorem cty_6(np:Nat)(c:Option Nat)(v:Int)(P:List Int):xN 6 np c v P:=by unfold xN;kernel_rfl
theorem cty_7(np:Nat)(c:Option Nat)(v:Int)(P:List Int):xN 7 np c v P:=by unfold xN;kernel_rfl
theorem cty_8(np:Nat)(c:Option Nat)(v:Int)(P:List Int):xN 8 np c v P:=by unfold xN;kernel_rfl
theorem cty_9(np:Nat)(c:Option Nat)(v:Int)(P:List Int):xN 9 np c v P:=by unfold xN;kernel_rfl
theorem cty_10(np:Nat)(c:Option Nat)(v:Int)(P:List Int):xN 10 np c v P:=by unfold xN;kernel_rfl
theorem cty_11(np:Nat)(c:Option Nat)(v:Int)(P:List Int):xN 11 np c v P:=by unfold xN;kernel_rfl
theorem ctn_0(np:Nat)(c:Option Nat)(v:Int)(P:List Int):wB 0 np c v P:=by unfold wB;kernel_rfl
theorem ctn_1(np:Nat)(c:Option Nat)(v:Int)(P:List Int):wB 1 np c v P:=by unfold wB;kernel_rfl
theorem ctn_2(np:Nat)(c:Option Nat)(v:Int)(P:List Int):wB 2 np c v P:=by unfold wB;kernel_rfl
theorem ctn_3(np:Nat)(c:Option Nat)(v:Int)(P:List Int):wB 3 np c v P:=by unfold wB;kernel_rfl
theorem ctn_4(np:Nat)(c:Option Nat)(v:Int)(P:List Int):wB 4 np c v P:=by unfold wB;kernel_rfl
theorem ctn_5(np:Nat)(c:Option Nat)(v:Int)(P:List Int):wB 5 np c v P:=by unfold wB;kernel_rfl
theorem ctn_6(np:Nat)(c:Option Nat)(v:Int)(P:List Int):wB 6 np c v P:=by unfold wB;kernel_rfl
theorem ctn_7(np:Nat)(c:Option Nat)(v:Int)(P:List Int):wB 7 np c v P:=by unfold wB;kernel_rfl
theorem ctn_8(np:Nat)(c:Option Nat)(v:Int)(P:List Int):wB 8 np c v P:=by unfold wB;kernel_rfl
theorem ctn_9(np:Nat)(c:Option Nat)(v:Int)(P:List Int):wB 9 np c v P:=by unfold wB;kernel_rfl
theorem ctn_10(np:Nat)(c:Option Nat)(v:Int)(P:List Int):wB 10 np c v P:=by unfold wB;kernel_rfl
theorem ctn_11(np:Nat)(c:Option Nat)(v:Int)(P:List Int):wB 11 np c v P:=by unfold wB;kernel_rfl
theorem ctn_12(np:Nat)(c:Option Nat)(v:Int)(P:List Int):wB 12 np c v P:=by unfold wB;kernel_rfl
theorem cty(np:Nat)(c:Option Nat)(v:Int)(P:List Int):∀{j:Nat},j≤11→xN j np c v P
 |0,_=>cty_0 np c v P
 |1,_=>cty_1 np c v P
 |2,_=>cty_2 np c v P
 |3,_=>cty_3 np c v P
 |4,_=>cty_4 np c v P
 |5,_=>cty_5 np c v P
 |6,_=>cty_6 np c v P
 |7,_=>cty_7 np c v P
 |8,_=>cty_8 np c v P
 |9,_=>cty_9 np c v P
 |10,_=>cty_10 np c v P
 |11,_=>cty_11 np c v P
 |j+12,h=>absurd h (by omega)
theorem ctn(np:Nat)(c:Option Nat)(v:Int)(P:List Int):∀{j:Nat},j≤12→wB j np c v P
 |0,_=>ctn_0 np c v P
 |1,_=>ctn_1 np c v P
 |2,_=>ctn_2 np c v P
 |3,_=>ctn_3 np c v P
 |4,_=>ctn_4 np c v P
 |5,_=>ctn_5 np c v P
 |6,_=>ctn_6 np c v P
 |7,_=>ctn_7 np c v P
 |8,_=>ctn_8 np c v P
 |9,_=>ctn_9 np c v P
 |10,_=>ctn_10 np c v P
 |11,_=>ctn_11 np c v P
 |12,_=>ctn_12 np c v P
 |j+13,h=>absurd h (by omega)
def inL(P:List Int)(v:Int):Bool:=P.any fun x=>v==x
theorem ctC_ok{np:Nat}{v:Int}{P:List Int}(hp:P.length=np):∀{j:Nat},j≤np→(∀i,i<j→(v==P.getD i 0)=false)→holds (ctC np v P j)
 |0,_,_=>trivial
 |j+1,h,hn=>aG (ctC_ok hp (by omega) fun i hi=>hn i (by omega)) ⟨decide_eq_true (by omega),decide_eq_true (by omega),aF.2 (by omega),hn j (by omega),trivial⟩
theorem inL_cases(P:List Int)(v:Int):(inL P v=false∧∀i,i<P.length→(v==P.getD i 0)=false)∨(inL P v=true∧∃j,j<P.length∧(v==P.getD j 0)=true∧∀i,i<j→(v==P.getD i 0)=false):=by
 induction P with
 |nil=>exact .inl ⟨rfl,fun i hi=>by simp at hi⟩
 |cons x P ih=>
  cases hx:(v==x)
  ·rcases ih with⟨h1,h2⟩|⟨h1,j,h2,h3,h4⟩
   ·refine .inl ⟨by simp only[inL,List.any_cons,hx,Bool.false_or];exact h1,fun i hi=>?_⟩
    cases i with
    |zero=>exact hx
    |succ i=>exact h2 i (by simpa using hi)
   ·refine .inr ⟨by simp only[inL,List.any_cons,hx,Bool.false_or];exact h1,j+1,by simp;omega,h3,fun i hi=>?_⟩
    cases i with
    |zero=>exact hx
    |succ i=>exact h4 i (by omega)
  ·exact .inr ⟨by simp only[inL,List.any_cons,hx,Bool.true_or],0,by simp,hx,fun i hi=>by omega⟩
noncomputable def contK:cI:=fun t h=>match t with
 |.fn 122 [.slice l 0 np c,.int .i64 v]=>match h.get l with
  |.ints 3 1 P=>some (.chk (Nat.blt l h.n&&Nat.ble (h.n+8) 1000000) (.chk (Nat.beq P.length np&&Nat.ble np 12) (.ret (.bool (inL P v),h.lay 8 []))))
  |_=>none
 |_=>none
theorem cont_sound:cX Tryz.prog contK:=fun f args h o r ho hg=>by
 unfold contK at ho;split at ho
 ·rename_i l np c v heq
  injection heq with e1 e2;subst e1;subst e2;split at ho
  ·rename_i P gl
   injection ho with ho;subst ho;obtain⟨hc,hg1⟩:=Out.chk_go hg;obtain⟨hd,pU⟩:=Out.chk_go hg1;have:=Out.ret_go pU;subst this;simp only[Bool.and_eq_true]at hc hd;obtain⟨c1,c2⟩:=hc;have c1:=aF.1 c1;have c2:=Nat.le_of_ble_eq_true c2;have d1:=Nat.eq_of_beq_eq_true hd.1;have d2:=Nat.le_of_ble_eq_true hd.2;have fit:=@zJ h l P c1 gl;rcases inL_cases P v with⟨h1,h2⟩|⟨h1,j,h2,h3,h4⟩
   ·rw[h1]
    exact cP (K:=8) (j:=[]) (ns:=[l]) bW aK (ctn np c v P d2) (aG (ctC_ok d1 (Nat.le_refl _) fun i hi=>h2 i (by omega)) ⟨decide_eq_false (by omega),trivial⟩) (rN.refl _) fit rfl rfl rfl (by simp) (by simp) c2
   ·rw[h1]
    exact cP (K:=8) (j:=[]) (ns:=[l]) bW aK (cty np c v P (j:=j) (by omega)) (aG (ctC_ok d1 (by omega) h4) ⟨decide_eq_true (by omega),decide_eq_true (by omega),aF.2 h2,h3,trivial⟩) (rN.refl _) fit rfl rfl rfl (by simp) (by simp) c2
  ·cases ho
 ·cases ho
attribute[irreducible] inL
noncomputable def K5:cI:=orK contK K4
theorem zN:cX Tryz.prog K5:=fW cont_sound aK
noncomputable def sbR(f:Nat)(th st ga le re ti:Int)(np:Nat)(c:Option Nat)(lv:Value)(P:List Int)(k1 k2 k3:Int):Out (SV×H):=runK Tryz.prog K5 30 (.fn f [cfg th st ga le re ti 0 np c lv,.agg [.int .i64 k1,.int .i64 k2,.int .i64 k3]]) (aT [.ints 3 1 P] [0])
theorem chk94_0(th st ga le re ti:Int)(np:Nat)(c:Option Nat)(lv:Value)(P:List Int)(k1 k2 k3:Int):follow [(0,true)] ((sbR 94 th st ga le re ti np c lv P k1 k2 k3).bind (cD []))=
 some ([(decide (k2<0),true)],(.int .i64 2,3,[])):=by kernel_rfl
theorem chk94_1(th st ga le re ti:Int)(np:Nat)(c:Option Nat)(lv:Value)(P:List Int)(k1 k2 k3:Int):follow [(0,false),(5,true)] ((sbR 94 th st ga le re ti np c lv P k1 k2 k3).bind (cD []))=
 some ([(decide (k2<0),false),(decide (k2≥↑np),true)],(.int .i64 2,3,[])):=by kernel_rfl
theorem chk94_2(th st ga le re ti:Int)(np:Nat)(c:Option Nat)(lv:Value)(P:List Int)(k1 k2 k3:Int):follow [(0,false),(5,false)] ((sbR 94 th st ga le re ti np c lv P k1 k2 k3).bind (cD []))=
 some ([(decide (k2<0),false),(decide (k2≥↑np),false)],(.int .i64 0,3,[])):=by kernel_rfl
theorem chk86_0(th st ga le re ti:Int)(np:Nat)(c:Option Nat)(lv:Value)(P:List Int)(k1 k2 k3:Int):follow [(1,true)] ((sbR 86 th st ga le re ti np c lv P k1 k2 k3).bind (cD []))=
 some ([(!namB k3 ti,true)],(.int .i64 5,7,[])):=by kernel_rfl
theorem chk86_1(th st ga le re ti:Int)(np:Nat)(c:Option Nat)(lv:Value)(P:List Int)(k1 k2 k3:Int):follow [(1,false)] ((sbR 86 th st ga le re ti np c lv P k1 k2 k3).bind (cD []))=
 some ([(!namB k3 ti,false)],(.int .i64 0,7,[])):=by kernel_rfl
theorem chk89_0(th st ga le re ti:Int)(np:Nat)(c:Option Nat)(lv:Value)(P:List Int)(k1 k2 k3:Int):follow [(0,true)] ((sbR 89 th st ga le re ti np c lv P k1 k2 k3).bind (cD []))=
 some ([(decide (k2<0),true)],(.int .i64 2,6,[])):=by kernel_rfl
theorem chk89_1(th st ga le re ti:Int)(np:Nat)(c:Option Nat)(lv:Value)(P:List Int)(k1 k2 k3:Int):follow [(0,false),(5,true)] ((sbR 89 th st ga le re ti np c lv P k1 k2 k3).bind (cD []))=
 some ([(decide (k2<0),false),(decide (k2≥↑np),true)],(.int .i64 2,6,[])):=by kernel_rfl
theorem chk89_2(th st ga le re ti:Int)(np:Nat)(c:Option Nat)(lv:Value)(P:List Int)(k1 k2 k3:Int):follow [(0,false),(5,false),(4,true)] ((sbR 89 th st ga le re ti np c lv P k1 k2 k3).bind (cD []))=
 some ([(decide (k2<0),false),(decide (k2≥↑np),false),(decide (k3<1),true)],(.int .i64 1,6,[])):=by kernel_rfl
theorem chk89_3(th st ga le re ti:Int)(np:Nat)(c:Option Nat)(lv:Value)(P:List Int)(k1 k2 k3:Int):follow [(0,false),(5,false),(4,false),(3,true)] ((sbR 89 th st ga le re ti np c lv P k1 k2 k3).bind (cD []))=
 some ([(decide (k2<0),false),(decide (k2≥↑np),false),(decide (k3<1),false),(decide (k3>1048576),true)],(.int .i64 1,6,[])):=by kernel_rfl
theorem chk89_4(th st ga le re ti:Int)(np:Nat)(c:Option Nat)(lv:Value)(P:List Int)(k1 k2 k3:Int):follow [(0,false),(5,false),(4,false),(3,false)] ((sbR 89 th st ga le re ti np c lv P k1 k2 k3).bind (cD []))=
 some ([(decide (k2<0),false),(decide (k2≥↑np),false),(decide (k3<1),false),(decide (k3>1048576),false)],(.int .i64 0,6,[])):=by kernel_rfl
theorem chk83_0(th st ga le re ti:Int)(np:Nat)(c:Option Nat)(lv:Value)(P:List Int)(k1 k2 k3:Int):follow [(0,true),(4,true),(4,true),(1,true)] ((sbR 83 th st ga le re ti np c lv P k1 k2 k3).bind (cD []))=
 some ([(decide (k2≥0),true),(decide (k2<↑np),true),(Nat.beq (List.length P) np&&Nat.ble np 12,true),(!!inL P k2,true)],(.int .i64 2,13,[])):=by kernel_rfl
theorem chk83_1(th st ga le re ti:Int)(np:Nat)(c:Option Nat)(lv:Value)(P:List Int)(k1 k2 k3:Int):follow [(0,true),(4,true),(4,true),(1,false),(4,true)] ((sbR 83 th st ga le re ti np c lv P k1 k2 k3).bind (cD []))=
 some ([(decide (k2≥0),true),(decide (k2<↑np),true),(Nat.beq (List.length P) np&&Nat.ble np 12,true),(!!inL P k2,false),(decide (k3<1),true)],(.int .i64 1,13,[])):=by kernel_rfl
theorem chk83_2(th st ga le re ti:Int)(np:Nat)(c:Option Nat)(lv:Value)(P:List Int)(k1 k2 k3:Int):follow [(0,true),(4,true),(4,true),(1,false),(4,false),(3,true)] ((sbR 83 th st ga le re ti np c lv P k1 k2 k3).bind (cD []))=
 some ([(decide (k2≥0),true),(decide (k2<↑np),true),(Nat.beq (List.length P) np&&Nat.ble np 12,true),(!!inL P k2,false),(decide (k3<1),false),(decide (k3>1048576),true)],(.int .i64 1,13,[])):=by kernel_rfl
theorem chk83_3(th st ga le re ti:Int)(np:Nat)(c:Option Nat)(lv:Value)(P:List Int)(k1 k2 k3:Int):follow [(0,true),(4,true),(4,true),(1,false),(4,false),(3,false)] ((sbR 83 th st ga le re ti np c lv P k1 k2 k3).bind (cD []))=
 some ([(decide (k2≥0),true),(decide (k2<↑np),true),(Nat.beq (List.length P) np&&Nat.ble np 12,true),(!!inL P k2,false),(decide (k3<1),false),(decide (k3>1048576),false)],(.int .i64 0,13,[])):=by kernel_rfl
theorem chk83_4(th st ga le re ti:Int)(np:Nat)(c:Option Nat)(lv:Value)(P:List Int)(k1 k2 k3:Int):follow [(0,true),(4,false)] ((sbR 83 th st ga le re ti np c lv P k1 k2 k3).bind (cD []))=
 some ([(decide (k2≥0),true),(decide (k2<↑np),false)],(.int .i64 2,5,[])):=by kernel_rfl
theorem chk83_5(th st ga le re ti:Int)(np:Nat)(c:Option Nat)(lv:Value)(P:List Int)(k1 k2 k3:Int):follow [(0,false)] ((sbR 83 th st ga le re ti np c lv P k1 k2 k3).bind (cD []))=
 some ([(decide (k2≥0),false)],(.int .i64 2,5,[])):=by kernel_rfl
theorem cfg_known{K:Nat}{S:cI}(hS:cX Tryz.prog S){th st ga le re ti:Int}{np:Nat}{c:Option Nat}{lv:Value}{P:List Int}{f n N:Nat}{args:List SV}{v:SV}{ps:Way}{cs:kB}{o:SO}(ho:o=.dead∨o=.ints 3 1 P)(T:follow ps ((runK Tryz.prog S N (.fn f (cfg th st ga le re ti 0 np c lv::args)) (aT [o] [0])).bind (cD []))=some (cs,(v,n,[])))(hc:holds cs)(hn:n≤K+1)(h1:1≤n)(hv:∀q,v.ren q=v)(ha:∀q,SV.rens q args=args)
 {h:H}{l:Nat}(hl:l<h.n)(hg:h.get l=.ints 3 1 P)(h6:h.n+K≤1000000):Spec Tryz.prog (.fn f (cfg th st ga le re ti l np c lv::args)) h (v,h.lay K []):=by
 have fit:h.n≤1000000→Fit h (aT [o] [0]) (nm [l]):=fun h6=>by
  rcases ho with e|e<;>subst e
  ·exact aX ⟨hl,⟨fun h=>absurd rfl h,fun _ _ _ _=>trivial⟩,trivial⟩ (dF (by simp)) (by simp) h6
  ·exact aX ⟨hl,⟨fun _=>by unfold live;rw[hg];simp,fun ρ p w h=>by rw[hg]at h;exact h⟩,trivial⟩ (dF (by simp)) (by simp) h6
 have key:=cP (os:=[]) (K:=K) (j:=[]) (ns:=[l]) bW hS T hc (rN.refl _) fit (by rcases ho with e|e<;>subst e<;>rfl) (by simp[fO,Nat.ble_eq_true_of_le h1]) rfl (by simp;omega) (by simp) h6;have e1:SV.rens (nm [l]) (cfg th st ga le re ti 0 np c lv::args)=cfg th st ga le re ti l np c lv::args:=by rw[SV.rens,ha];rfl
 rw[e1,hv]at key;exact key
def nodI(np:Nat)(k2:Int):Int:=if k2<0 then 2 else if k2≥(np:Int)then 2 else 0
def amtI(e k3:Int):Int:=if e=0 then(if k3<1 then 1 else if k3>1048576 then 1 else 0)else e
def lefI(np:Nat)(P:List Int)(k2:Int):Int:=if k2≥0 then(if k2<(np:Int)then(if inL P k2=true then 2 else 0)else 2)else 2
noncomputable def pJ(f:Nat)(ti:Int)(np:Nat)(P:List Int)(k2 k3:Int):Int:=match f with
 |94=>nodI np k2
 |86=>if namB k3 ti=true then 0 else 5
 |89=>amtI (nodI np k2) k3
 |_=>amtI (lefI np P k2) k3
def isSub(f:Nat):Bool:=Nat.beq f 94||Nat.beq f 86||Nat.beq f 89||Nat.beq f 83
noncomputable def subK:cI:=fun t h=>match t with
 |.fn f [.agg [.int .i64 th,.int .i64 st,.int .i64 ga,.int .i64 le,.int .i64 re,.int .i64 ti,.slice l 0 np c,.val lv],.agg [.int .i64 k1,.int .i64 k2,.int .i64 k3]]=>match isSub f with
  |true=>match h.get l with
   |.ints 3 1 P=>some (.chk (Nat.blt l h.n&&Nat.ble (h.n+40) 1000000) (.chk (Nat.beq P.length np&&Nat.ble np 12) (.ret (.int .i64 (pJ f ti np P k2 k3),h.lay 40 []))))
   |_=>none
  |false=>none
 |_=>none
theorem sub_sound:cX Tryz.prog subK:=fun f args h o r ho hg=>by
 unfold subK at ho;split at ho
 ·rename_i g th st ga le re ti l np c lv k1 k2 k3 heq
  injection heq with e1 e2;subst e1;subst e2;split at ho
  ·rename_i hf
   split at ho
   ·rename_i P gl
    injection ho with ho;subst ho;obtain⟨hc,hg1⟩:=Out.chk_go hg;obtain⟨hd,pU⟩:=Out.chk_go hg1;have:=Out.ret_go pU;subst this;have hd':=hd;simp only[Bool.and_eq_true]at hc hd;obtain⟨c1,c2⟩:=hc;have c1:=aF.1 c1;have c2:=Nat.le_of_ble_eq_true c2;have K:∀{n:Nat} {v:Int} {ps:Way} {cs:kB},follow ps ((sbR f th st ga le re ti np c lv P k1 k2 k3).bind (cD []))=some (cs,(.int .i64 v,n,[]))→holds cs→n≤41→1≤n→Spec Tryz.prog (.fn f [cfg th st ga le re ti l np c lv,.agg [.int .i64 k1,.int .i64 k2,.int .i64 k3]]) h (.int .i64 v,h.lay 40 []):=
     fun T hcd hn h1=>cfg_known zN (.inr rfl) T hcd hn h1 (fun _=>rfl) (fun _=>rfl) c1 gl c2
    simp only[isSub,Bool.or_eq_true]at hf;rcases hf with((hf|hf)|hf)|hf<;>have hf:=Nat.eq_of_beq_eq_true hf<;>subst hf
    ·show Spec _ _ _ (.int .i64 (nodI np k2),_)
     unfold nodI;split
     ·exact K (chk94_0 th st ga le re ti np c lv P k1 k2 k3) ⟨decide_eq_true (by assumption),trivial⟩ (by omega) (by omega)
     ·split
      ·exact K (chk94_1 th st ga le re ti np c lv P k1 k2 k3) ⟨decide_eq_false (by assumption),decide_eq_true (by assumption),trivial⟩ (by omega) (by omega)
      ·exact K (chk94_2 th st ga le re ti np c lv P k1 k2 k3) ⟨decide_eq_false (by assumption),decide_eq_false (by assumption),trivial⟩ (by omega) (by omega)
    ·show Spec _ _ _ (.int .i64 (if namB k3 ti=true then 0 else 5),_)
     split
     ·rename_i hb
      exact K (chk86_1 th st ga le re ti np c lv P k1 k2 k3) ⟨by simp[hb],trivial⟩ (by omega) (by omega)
     ·rename_i hb
      exact K (chk86_0 th st ga le re ti np c lv P k1 k2 k3) ⟨by simp[hb],trivial⟩ (by omega) (by omega)
    ·show Spec _ _ _ (.int .i64 (amtI (nodI np k2) k3),_)
     unfold nodI;split
     ·exact K (chk89_0 th st ga le re ti np c lv P k1 k2 k3) ⟨decide_eq_true (by assumption),trivial⟩ (by omega) (by omega)
     ·split
      ·exact K (chk89_1 th st ga le re ti np c lv P k1 k2 k3) ⟨decide_eq_false (by assumption),decide_eq_true (by assumption),trivial⟩ (by omega) (by omega)
      ·unfold amtI
       rw[if_pos rfl];split
       ·exact K (chk89_2 th st ga le re ti np c lv P k1 k2 k3) ⟨decide_eq_false (by assumption),decide_eq_false (by assumption),decide_eq_true (by assumption),trivial⟩ (by omega) (by omega)
       ·split
        ·exact K (chk89_3 th st ga le re ti np c lv P k1 k2 k3) ⟨decide_eq_false (by assumption),decide_eq_false (by assumption),decide_eq_false (by assumption),decide_eq_true (by assumption),trivial⟩ (by omega) (by omega)
        ·exact K (chk89_4 th st ga le re ti np c lv P k1 k2 k3) ⟨decide_eq_false (by assumption),decide_eq_false (by assumption),decide_eq_false (by assumption),decide_eq_false (by assumption),trivial⟩ (by omega) (by omega)
    ·show Spec _ _ _ (.int .i64 (amtI (lefI np P k2) k3),_)
     unfold lefI;split
     ·split
      ·split
       ·rename_i hb
        exact K (chk83_0 th st ga le re ti np c lv P k1 k2 k3) ⟨decide_eq_true (by assumption),decide_eq_true (by assumption),hd',by simp[hb],trivial⟩ (by omega) (by omega)
       ·rename_i hb
        have pT:(!!inL P k2)=false:=by simp[hb]
        unfold amtI;rw[if_pos rfl];split
        ·exact K (chk83_1 th st ga le re ti np c lv P k1 k2 k3) ⟨decide_eq_true (by assumption),decide_eq_true (by assumption),hd',pT,decide_eq_true (by assumption),trivial⟩ (by omega) (by omega)
        ·split
         ·exact K (chk83_2 th st ga le re ti np c lv P k1 k2 k3) ⟨decide_eq_true (by assumption),decide_eq_true (by assumption),hd',pT,decide_eq_false (by assumption),decide_eq_true (by assumption),trivial⟩ (by omega) (by omega)
         ·exact K (chk83_3 th st ga le re ti np c lv P k1 k2 k3) ⟨decide_eq_true (by assumption),decide_eq_true (by assumption),hd',pT,decide_eq_false (by assumption),decide_eq_false (by assumption),trivial⟩ (by omega) (by omega)
      ·exact K (chk83_4 th st ga le re ti np c lv P k1 k2 k3) ⟨decide_eq_true (by assumption),decide_eq_false (by assumption),trivial⟩ (by omega) (by omega)
     ·exact K (chk83_5 th st ga le re ti np c lv P k1 k2 k3) ⟨decide_eq_false (by assumption),trivial⟩ (by omega) (by omega)
   ·cases ho
  ·cases ho
 ·cases ho
attribute[irreducible] pJ
noncomputable def clnR(th st ga le re ti start:Int)(np:Nat)(c:Option Nat)(lv:Value):Out (SV×H):=runK Tryz.prog K5 30 (.fn 106 [cfg th st ga le re ti 0 np c lv,.int .i64 start]) (aT [.dead] [0])
def clnW(k:Nat):Way:=[(0,true),(0,true),(0,true)]++(List.range (k-1)).flatMap (fun _=>[(10,true),(0,true),(0,true)])++[(10,false)]
def clnC(ti start:Int):Nat→kB
 |0=>[]
 |j+1=>clnC ti start j++[(decide (((j:Nat):Int)<ti),true),(fits (start+((j:Nat):Int)),true),(!decide (ti=0),true)]
def qY(ti start:Int)(k:Nat):List Int:=(List.range k).map fun j=>Int.tmod (start+((j:Nat):Int)) ti
def clnO(th st ga le re ti:Int)(np:Nat)(c:Option Nat)(lv:Value)(l r k:Nat):SO:=.cells 171 17 [.int .i64 th,.int .i64 st,.int .i64 ga,.int .i64 le,.int .i64 re,.int .i64 ti,.slice l 0 np c,.val lv,.slice r 0 k none,.bool false,.int .i64 0,.int .i64 0,.bool false,.int .i64 0,.int .i64 0,.bool false,.int .i64 0]
def iU(k:Nat)(th st ga le re ti start:Int)(np:Nat)(c:Option Nat)(lv:Value):Prop:=follow (clnW k) ((clnR th st ga le re ti start np c lv).bind (cD [2,7+2*k]))=
 some (clnC ti start k++[(decide (((k:Nat):Int)<ti),false)],(.ptr 2 0 0,8+2*k,[clnO th st ga le re ti np c lv 0 (7+2*k) k,.cells 3 1 ((qY ti start k).map (SV.int .i64))]))
theorem cln_1(th st ga le re ti start:Int)(np:Nat)(c:Option Nat)(lv:Value):iU 1 th st ga le re ti start np c lv:=by unfold iU;kernel_rfl
theorem cln_2(th st ga le re ti start:Int)(np:Nat)(c:Option Nat)(lv:Value):iU 2 th st ga le re ti start np c lv:=by unfold iU;kernel_rfl
theorem cln_3(th st ga le re ti start:Int)(np:Nat)(c:Option Nat)(lv:Value):iU 3 th st ga le re ti start np c lv:=by unfold iU;kernel_rfl
theorem cln_4(th st ga le re ti start:Int)(np:Nat)(c:Option Nat)(lv:Value):iU 4 th st ga le re ti start np c lv:=by unfold iU;kernel_rfl
theorem cln_5(th st ga le re ti start:Int)(np:Nat)(c:Option Nat)(lv:Value):iU 5 th st ga le re ti start np c lv:=by unfold iU;kernel_rfl
theorem cln_6(th st ga le re ti start:Int)(np:Nat)(c:Option Nat)(lv:Value):iU 6 th st ga le re ti start np c lv:=by unfold iU;kernel_rfl
theorem cln_7(th st ga le re ti start:Int)(np:Nat)(c:Option Nat)(lv:Value):iU 7 th st ga le re ti start np c lv:=by unfold iU;kernel_rfl
theorem cln_8(th st ga le re ti start:Int)(np:Nat)(c:Option Nat)(lv:Value):iU 8 th st ga le re ti start np c lv:=by unfold iU;kernel_rfl
theorem cln_9(th st ga le re ti start:Int)(np:Nat)(c:Option Nat)(lv:Value):iU 9 th st ga le re ti start np c lv:=by unfold iU;kernel_rfl
theorem cln_10(th st ga le re ti start:Int)(np:Nat)(c:Option Nat)(lv:Value):iU 10 th st ga le re ti start np c lv:=by unfold iU;kernel_rfl
theorem cln_11(th st ga le re ti start:Int)(np:Nat)(c:Option Nat)(lv:Value):iU 11 th st ga le re ti start np c lv:=by unfold iU;kernel_rfl
theorem cln_12(th st ga le re ti start:Int)(np:Nat)(c:Option Nat)(lv:Value):iU 12 th st ga le re ti start np c lv:=by unfold iU;kernel_rfl
theorem cln_13(th st ga le re ti start:Int)(np:Nat)(c:Option Nat)(lv:Value):iU 13 th st ga le re ti start np c lv:=by unfold iU;kernel_rfl
theorem cln_14(th st ga le re ti start:Int)(np:Nat)(c:Option Nat)(lv:Value):iU 14 th st ga le re ti start np c lv:=by unfold iU;kernel_rfl
theorem cln_15(th st ga le re ti start:Int)(np:Nat)(c:Option Nat)(lv:Value):iU 15 th st ga le re ti start np c lv:=by unfold iU;kernel_rfl
theorem cln_16(th st ga le re ti start:Int)(np:Nat)(c:Option Nat)(lv:Value):iU 16 th st ga le re ti start np c lv:=by unfold iU;kernel_rfl
theorem cln_all(th st ga le re ti start:Int)(np:Nat)(c:Option Nat)(lv:Value):∀{k:Nat},1≤k→k≤16→iU k th st ga le re ti start np c lv
 |1,_,_=>cln_1 th st ga le re ti start np c lv
 |2,_,_=>cln_2 th st ga le re ti start np c lv
 |3,_,_=>cln_3 th st ga le re ti start np c lv
 |4,_,_=>cln_4 th st ga le re ti start np c lv
 |5,_,_=>cln_5 th st ga le re ti start np c lv
 |6,_,_=>cln_6 th st ga le re ti start np c lv
 |7,_,_=>cln_7 th st ga le re ti start np c lv
 |8,_,_=>cln_8 th st ga le re ti start np c lv
 |9,_,_=>cln_9 th st ga le re ti start np c lv
 |10,_,_=>cln_10 th st ga le re ti start np c lv
 |11,_,_=>cln_11 th st ga le re ti start np c lv
 |12,_,_=>cln_12 th st ga le re ti start np c lv
 |13,_,_=>cln_13 th st ga le re ti start np c lv
 |14,_,_=>cln_14 th st ga le re ti start np c lv
 |15,_,_=>cln_15 th st ga le re ti start np c lv
 |16,_,_=>cln_16 th st ga le re ti start np c lv
 |0,h,_=>absurd h (by omega)
 |k+17,_,h=>absurd h (by omega)
theorem clnC_ok{ti start:Int}(h0:0≤start∧start≤100):∀{k:Nat},k≤16→(k:Int)≤ti→holds (clnC ti start k)
 |0,_,_=>trivial
 |k+1,h,ht=>aG (clnC_ok h0 (by omega) (by omega)) ⟨decide_eq_true (by omega),aN (by omega),by rw[decide_eq_false (show¬ti=0 by omega)];rfl,trivial⟩
noncomputable def clnK:cI:=fun t h=>match t with
 |.fn 106 [.agg [.int .i64 th,.int .i64 st,.int .i64 ga,.int .i64 le,.int .i64 re,.int .i64 ti,.slice l 0 np c,.val lv],.int .i64 start]=>
  some (.chk (Nat.blt l h.n&&Nat.ble (h.n+40) 1000000) (.chk (decide (1≤ti∧ti≤16∧0≤start∧start≤100)) (.ret (.ptr h.n 0 0,h.lay 40 [(h.n,clnO th st ga le re ti np c lv l (h.n+1) ti.toNat),(h.n+1,.ints 3 1 (qY ti start ti.toNat))]))))
 |_=>none
theorem wC(q:Nat→Nat):∀l:List Int,SV.rens q (l.map (SV.int .i64))=l.map (SV.int .i64)
 |[]=>rfl
 |x::l=>by simp only[List.map_cons,SV.rens,SV.ren,wC q l]
theorem cln_sound:cX Tryz.prog clnK:=fun f args h o r ho hg=>by
 unfold clnK at ho;split at ho
 ·rename_i th st ga le re ti l np c lv start heq
  injection heq with e1 e2;subst e1;subst e2;injection ho with ho;subst ho;obtain⟨hc,hg1⟩:=Out.chk_go hg;obtain⟨hd,pU⟩:=Out.chk_go hg1;have:=Out.ret_go pU;subst this;simp only[Bool.and_eq_true]at hc;simp only[decide_eq_true_eq]at hd;obtain⟨d1,d2,d3,d4⟩:=hd;have c1:=aF.1 hc.1;have c2:=Nat.le_of_ble_eq_true hc.2;obtain⟨k,hk⟩:∃k:Nat,ti=(k:Int):=⟨ti.toNat,by omega⟩;have ek:ti.toNat=k:=by omega
  rw[ek];have fit:h.n≤1000000→Fit h (aT [.dead] [0]) (nm [l]):=fun h6=>aX ⟨c1,⟨fun h=>absurd rfl h,fun _ _ _ _=>trivial⟩,trivial⟩ (dF (by simp)) (by simp) h6
  have T:=cln_all th st ga le re ti start np c lv (k:=k) (by omega) (by omega);have key:=cP (os:=[clnO th st ga le re ti np c lv 0 (7+2*k) k,.ints 3 1 (qY ti start k)]) (K:=40) (j:=[6+2*k,2]) (ns:=[l]) bW zN T (aG (clnC_ok ⟨d3,d4⟩ (by omega) (by omega)) ⟨decide_eq_false (by omega),trivial⟩) ⟨.refl _,qG _ _ _,trivial⟩ fit rfl
   (by simp[fO]<;>omega) rfl (by simp<;>omega) (by simp<;>omega) c2
  have q0:nx h.n 1 [6+2*k,2] [l] 0=l:=rfl;have r1:rot (6+2*k) 1=2:=by unfold rot;rw[if_neg (by omega),if_pos (by omega)]
  have r2:rot (6+2*k) (7+2*k-1)=0:=by unfold rot;rw[if_pos (by omega)]
  have q2:nx h.n 1 [6+2*k,2] [l] 2=h.n:=by
   show(if 2<1 then _ else h.n+rot 2 (rot (6+2*k) 1))=h.n;rw[if_neg (by decide),r1];rfl
  have q7:nx h.n 1 [6+2*k,2] [l] (7+2*k)=h.n+1:=by
   show(if 7+2*k<1 then _ else h.n+rot 2 (rot (6+2*k) (7+2*k-1)))=h.n+1;rw[if_neg (by omega),r2];rfl
  have q1:[SO.dead].length=1:=rfl;rw[q1]at key;have e:laid (nx h.n 1 [6+2*k,2] [l]) [2,7+2*k] [clnO th st ga le re ti np c lv 0 (7+2*k) k,.ints 3 1 (qY ti start k)]=[(h.n,clnO th st ga le re ti np c lv l (h.n+1) k),(h.n+1,.ints 3 1 (qY ti start k))]:=by
   simp only[laid,List.zip_cons_cons,List.zip_nil_right,List.map_cons,List.map_nil,q2,q7,clnO,SO.ren,SV.rens,SV.ren,q0,wC]
  rw[e]at key;simp only[SV.ren,SV.rens,cfg,q2,nm,List.getD_cons_zero]at key;exact key
 ·cases ho
noncomputable def K6:cI:=orK subK (orK clnK K5)
theorem k6_sound:cX Tryz.prog K6:=fW sub_sound (fW cln_sound zN)
noncomputable def chR(th st ga le re ti:Int)(np:Nat)(c:Option Nat)(lv:Value)(P:List Int)(k1 k2 k3:Int):Out (SV×H):=runK Tryz.prog K6 30 (.fn 57 [cfg th st ga le re ti 0 np c lv,.agg [.int .i64 k1,.int .i64 k2,.int .i64 k3]]) (aT [.ints 3 1 P] [0])
theorem ch_1(th st ga le re ti:Int)(np:Nat)(c:Option Nat)(lv:Value)(P:List Int)(k1 k2 k3:Int):follow [(21,true),(2,true)] ((chR th st ga le re ti np c lv P k1 k2 k3).bind (cD []))=some ([(k1==1,true),(Nat.beq P.length np&&Nat.ble np 12,true)],(.int .i64 (pJ 83 ti np P k2 k3),45,[])):=by kernel_rfl
theorem ch_2(th st ga le re ti:Int)(np:Nat)(c:Option Nat)(lv:Value)(P:List Int)(k1 k2 k3:Int):follow [(21,false),(0,true),(2,true)] ((chR th st ga le re ti np c lv P k1 k2 k3).bind (cD []))=some ([(k1==1,false),(k1==2,true),(Nat.beq P.length np&&Nat.ble np 12,true)],(.int .i64 (pJ 86 ti np P k2 k3),45,[])):=by kernel_rfl
theorem ch_3(th st ga le re ti:Int)(np:Nat)(c:Option Nat)(lv:Value)(P:List Int)(k1 k2 k3:Int):follow [(21,false),(0,false),(0,true),(2,true)] ((chR th st ga le re ti np c lv P k1 k2 k3).bind (cD []))=some ([(k1==1,false),(k1==2,false),(k1==3,true),(Nat.beq P.length np&&Nat.ble np 12,true)],(.int .i64 (pJ 89 ti np P k2 k3),45,[])):=by kernel_rfl
theorem ch_4(th st ga le re ti:Int)(np:Nat)(c:Option Nat)(lv:Value)(P:List Int)(k1 k2 k3:Int):follow [(21,false),(0,false),(0,false),(0,true),(2,true)] ((chR th st ga le re ti np c lv P k1 k2 k3).bind (cD []))=some ([(k1==1,false),(k1==2,false),(k1==3,false),(k1==4,true),(Nat.beq P.length np&&Nat.ble np 12,true)],(.int .i64 (pJ 89 ti np P k2 k3),45,[])):=by kernel_rfl
theorem ch_5(th st ga le re ti:Int)(np:Nat)(c:Option Nat)(lv:Value)(P:List Int)(k1 k2 k3:Int):follow [(21,false),(0,false),(0,false),(0,false),(0,true),(2,true)] ((chR th st ga le re ti np c lv P k1 k2 k3).bind (cD []))=some ([(k1==1,false),(k1==2,false),(k1==3,false),(k1==4,false),(k1==5,true),(Nat.beq P.length np&&Nat.ble np 12,true)],(.int .i64 (pJ 94 ti np P k2 k3),45,[])):=by kernel_rfl
theorem ch_6(th st ga le re ti:Int)(np:Nat)(c:Option Nat)(lv:Value)(P:List Int)(k1 k2 k3:Int):follow [(21,false),(0,false),(0,false),(0,false),(0,false),(0,true),(2,true)] ((chR th st ga le re ti np c lv P k1 k2 k3).bind (cD []))=some ([(k1==1,false),(k1==2,false),(k1==3,false),(k1==4,false),(k1==5,false),(k1==6,true),(Nat.beq P.length np&&Nat.ble np 12,true)],(.int .i64 (pJ 94 ti np P k2 k3),45,[])):=by kernel_rfl
theorem ch_7(th st ga le re ti:Int)(np:Nat)(c:Option Nat)(lv:Value)(P:List Int)(k1 k2 k3:Int):follow [(21,false),(0,false),(0,false),(0,false),(0,false),(0,false)] ((chR th st ga le re ti np c lv P k1 k2 k3).bind (cD []))=some ([(k1==1,false),(k1==2,false),(k1==3,false),(k1==4,false),(k1==5,false),(k1==6,false)],(.int .i64 1,5,[])):=by kernel_rfl
noncomputable def fZ(ti:Int)(np:Nat)(P:List Int)(k1 k2 k3:Int):Int:=if k1=1 then pJ 83 ti np P k2 k3 else if k1=2 then pJ 86 ti np P k2 k3 else if k1=3 then pJ 89 ti np P k2 k3 else if k1=4 then pJ 89 ti np P k2 k3 else if k1=5 then pJ 94 ti np P k2 k3 else if k1=6 then pJ 94 ti np P k2 k3 else 1
noncomputable def chkK:cI:=fun t h=>match t with
 |.fn 57 [.agg [.int .i64 th,.int .i64 st,.int .i64 ga,.int .i64 le,.int .i64 re,.int .i64 ti,.slice l 0 np c,.val lv],.agg [.int .i64 k1,.int .i64 k2,.int .i64 k3]]=>match h.get l with
  |.ints 3 1 P=>some (.chk (Nat.blt l h.n&&Nat.ble (h.n+50) 1000000) (.chk (Nat.beq P.length np&&Nat.ble np 12) (.ret (.int .i64 (fZ ti np P k1 k2 k3),h.lay 50 []))))
  |_=>none
 |_=>none
theorem beqt'{a b:Int}(h:a=b):(a==b)=true:=by simp[h]
theorem chk_sound:cX Tryz.prog chkK:=fun f args h o r ho hg=>by
 unfold chkK at ho;split at ho
 ·rename_i th st ga le re ti l np c lv k1 k2 k3 heq
  injection heq with e1 e2;subst e1;subst e2;split at ho
  ·rename_i P gl
   injection ho with ho;subst ho;obtain⟨hc,hg1⟩:=Out.chk_go hg;obtain⟨hd,pU⟩:=Out.chk_go hg1;have:=Out.ret_go pU;subst this;simp only[Bool.and_eq_true]at hc;have c1:=aF.1 hc.1;have c2:=Nat.le_of_ble_eq_true hc.2;have K:∀{n:Nat} {v:Int} {ps:Way} {cs:kB},follow ps ((chR th st ga le re ti np c lv P k1 k2 k3).bind (cD []))=some (cs,(.int .i64 v,n,[]))→holds cs→n≤51→1≤n→Spec Tryz.prog (.fn 57 [cfg th st ga le re ti l np c lv,.agg [.int .i64 k1,.int .i64 k2,.int .i64 k3]]) h (.int .i64 v,h.lay 50 []):=
    fun T hcd hn h1=>cfg_known k6_sound (.inr rfl) T hcd hn h1 (fun _=>rfl) (fun _=>rfl) c1 gl c2
   show Spec _ _ _ (.int .i64 (fZ ti np P k1 k2 k3),_);unfold fZ;split
   ·exact K (ch_1 th st ga le re ti np c lv P k1 k2 k3) ⟨beqt' (by assumption),hd,trivial⟩ (by omega) (by omega)
   ·
    split
    ·exact K (ch_2 th st ga le re ti np c lv P k1 k2 k3) ⟨cS (by assumption),beqt' (by assumption),hd,trivial⟩ (by omega) (by omega)
    ·
     split
     ·exact K (ch_3 th st ga le re ti np c lv P k1 k2 k3) ⟨cS (by assumption),cS (by assumption),beqt' (by assumption),hd,trivial⟩ (by omega) (by omega)
     ·
      split
      ·exact K (ch_4 th st ga le re ti np c lv P k1 k2 k3) ⟨cS (by assumption),cS (by assumption),cS (by assumption),beqt' (by assumption),hd,trivial⟩ (by omega) (by omega)
      ·
       split
       ·exact K (ch_5 th st ga le re ti np c lv P k1 k2 k3) ⟨cS (by assumption),cS (by assumption),cS (by assumption),cS (by assumption),beqt' (by assumption),hd,trivial⟩ (by omega) (by omega)
       ·
        split
        ·exact K (ch_6 th st ga le re ti np c lv P k1 k2 k3) ⟨cS (by assumption),cS (by assumption),cS (by assumption),cS (by assumption),cS (by assumption),beqt' (by assumption),hd,trivial⟩ (by omega) (by omega)
        ·
         exact K (ch_7 th st ga le re ti np c lv P k1 k2 k3) ⟨cS (by assumption),cS (by assumption),cS (by assumption),cS (by assumption),cS (by assumption),cS (by assumption),trivial⟩ (by omega) (by omega)
  ·cases ho
 ·cases ho
theorem chkI_ok{C:bS}{k1 k2 k3:Int}(h:fZ C.ti C.PL.length C.PL k1 k2 k3=0):(k1=1∧bH C k2∧1≤k3∧k3≤1048576)∨(k1=2∧namB k3 C.ti=true)∨((k1=3∨k1=4)∧bH C k2∧1≤k3∧k3≤1048576)∨((k1=5∨k1=6)∧bH C k2):=by
 have am:∀{e:Int},amtI e k3=0→e=0∧1≤k3∧k3≤1048576:=fun{e} h=>by
  unfold amtI at h;split at h
  ·split at h
   ·cases h
   ·split at h
    ·cases h
    ·exact⟨by assumption,by omega,by omega⟩
  ·contradiction
 have nd:nodI C.PL.length k2=0→bH C k2:=fun h=>by
  unfold nodI at h;split at h
  ·cases h
  ·split at h
   ·cases h
   ·exact⟨by omega,by omega⟩
 unfold fZ at h;split at h
 ·refine .inl ⟨by assumption,?_⟩
  unfold pJ at h;obtain⟨h1,h2⟩:=am h;refine⟨?_,h2⟩;unfold lefI at h1;split at h1
  ·split at h1
   ·exact⟨by assumption,by assumption⟩
   ·cases h1
  ·cases h1
 ·split at h
  ·refine .inr (.inl ⟨by assumption,?_⟩)
   unfold pJ at h;simp only at h;split at h
   ·assumption
   ·cases h
  ·split at h
   ·refine .inr (.inr (.inl ⟨.inl (by assumption),?_⟩))
    unfold pJ at h;obtain⟨h1,h2⟩:=am h;exact⟨nd h1,h2⟩
   ·split at h
    ·refine .inr (.inr (.inl ⟨.inr (by assumption),?_⟩))
     unfold pJ at h;obtain⟨h1,h2⟩:=am h;exact⟨nd h1,h2⟩
    ·split at h
     ·refine .inr (.inr (.inr ⟨.inl (by assumption),?_⟩))
      unfold pJ at h;exact nd h
     ·split at h
      ·refine .inr (.inr (.inr ⟨.inr (by assumption),?_⟩))
       unfold pJ at h;exact nd h
      ·cases h
attribute[irreducible] fZ
noncomputable def K7:cI:=orK chkK K6
theorem mR:cX Tryz.prog K7:=fW chk_sound k6_sound
end Go.Proofs.YtnkcbfgfkadoaaaGreat.Sx
