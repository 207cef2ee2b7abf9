/- Part 44 of the proof of TopPeek. -/
import Derived.Test.YtnkcbfgfkadoaaaGreatX43
set_option linter.all false
namespace Go.Proofs.YtnkcbfgfkadoaaaGreat.Sx
open Go
set_option maxRecDepth 10000
section
variable{h:H}{th st ga le re ti:Int}{P L:Nat}{PL LL:List Int}{cp cl:Option Nat}{cs:Option (Nat×Option Nat)}{rows:List (Option rE)}{K:Nat}{ck:Option Nat}{pv:List Int}{nil:Bool}
abbrev hJ(th st ga le re ti:Int)(P L:Nat)(PL:List Int)(cp cl:Option Nat)(cs:Option (Nat×Option Nat))(nr K:Nat)(ck:Option Nat)(pv:List Int)(nil:Bool):List SV:=tW th st ga le re ti (some (P,PL.length,cp)) (some (L,PL.length,cl)) cs nr K ck pv nil
set_option maxHeartbeats 2000000 in
theorem seen_spec(hR:∀m∈h.R,m<h.n)(hC:h.C=[])(hPR:P∈h.R)(gP:h.get P=.ints 3 1 PL)(lL:L<h.n)(gL:h.get L=.ints 3 1 LL)(eLL:LL.length=PL.length)(rg:AH th st ga le re ti PL)(A:RowsA h cs rows)(h8:(rows.length:Int)≤th)(h88:∀x,some x∈rows→x.n≤8)
 (tJ:nil=true→pv=[])(hPk:nil=false→PkA h K pv)(hk:pv.length≤600)(room:h.n+700000≤1000000):
 lJ Tryz.prog 6 [.agg (hJ th st ga le re ti P L PL cp cl cs rows.length K ck pv nil)] h (SnR h th st ga le re ti P PL cp pv.length):=by
 have lP:=hR P hPR;have hth:=rg.th;refine lG fn6_ok ⟨by simp,by omega⟩ ⟨by simp,by simp⟩ fun ρ a w n Q s0 hq=>?_
 refine jU (d:=jK) sn_rg0 ?_;refine go_box (v:=.agg (hJ th st ga le re ti P L PL cp cl cs rows.length K ck pv nil)) bW sn_all0 sn_bx gd_sz trivial rfl (by simp) s0 (by omega) fun dQ a1 w1 s1=>?_
 have hb:∀m,m<h.n→(h.new (.cells 28 10 (hJ th st ga le re ti P L PL cp cl cs rows.length K ck pv nil))).get m=h.get m:=fun m hm=>H.get_new_ne (by omega)
 have gb1:(h.new (.cells 28 10 (hJ th st ga le re ti P L PL cp cl cs rows.length K ck pv nil))).get h.n=.cells 28 10 (hJ th st ga le re ti P L PL cp cl cs rows.length K ck pv nil):=H.get_new (by omega);have G1:jO h (h.new (.cells 28 10 (hJ th st ga le re ti P L PL cp cl cs rows.length K ck pv nil))):=⟨by show h.n≤h.n+1;omega,rfl,rfl,hb⟩;have hn1:(h.new (.cells 28 10 (hJ th st ga le re ti P L PL cp cl cs rows.length K ck pv nil))).n=h.n+1:=rfl;have s1:St (ρ,h,w) 90 [(1,.ptr h.n 0 0),(0,.agg (hJ th st ga le re ti P L PL cp cl cs rows.length K ck pv nil))] (h.new (.cells 28 10 (hJ th st ga le re ti P L PL cp cl cs rows.length K ck pv nil))) dQ a1 w1:=s1;generalize h.new (.cells 28 10 (hJ th st ga le re ti P L PL cp cl cs rows.length K ck pv nil))=h1 at*;have qO:∀{h2:H},h2.n≤1000000→Fit h2 (aT [] []) (nm []):=fun l6=>aX (R:=[]) (os:=[]) (ns:=[]) trivial (by simp[aQ]) (by simp) l6
 have ftb:∀{h2:H},h.n<h2.n→h2.n≤1000000→Fit h2 (aT [.dead] [0]) (nm [h.n]):=fun lb l6=>aX (R:=[0]) (os:=[.dead]) (ns:=[h.n]) ⟨lb,bE rfl aZ,trivial⟩ (by simp[aQ,SO.lives]) (by simp) l6
 refine jX (i:=1) (j:=3) (m:=3) (k:=0) (K:=0) (ns:=[]) bW (aH _) sn0 trivial (qO (by omega)) rfl rfl rfl (by simp) (by omega) sn_all0 sn_ok1 sn_len0 rfl (.inl rfl) s1 (fun q hq=>by cases hq) fun iJ a2 w2 s2=>?_
 have s2:St (ρ,h,w) 90 [(1,.ptr h.n 0 0)] h1 iJ a2 w2:=s2;have main:cB n Tryz.prog (aA 1 jK) Q a2 w2:=by
  refine jU (d:=aA 1 jK) sn_rg1 ?_;rw[sn_t12];refine jX (i:=0) (j:=1) (m:=6) (k:=0) (K:=0) (ns:=[h.n]) bW (aH _) sn1 trivial (ftb (by omega) (by omega)) rfl rfl rfl (by simp) (by omega) sT sn_ok2 (sn_len1 _ _ rfl) rfl (.inl rfl) s2 (fun _ hq=>hq) fun gV a3 w3 s3=>⟨fun e=>(by cases e),fun _ _=>?_⟩
  show GO n Tryz.prog (dX (aA 1 jK)) 1 (4+1) (aA 2 jK) _ a3 w3;have s3:St (ρ,h,w) 90 [(1,.ptr h.n 0 0),(13,.ptr h.n 0 0)] h1 gV a3 w3:=s3;refine xF (m:=4) bW sT sn_11 gd_ag trivial rfl gb1 (by show 8≤10;omega) (by simp) s3 fun a4 s4=>?_
  have s4:St (ρ,h,w) 90 [(14,.agg (nwC th st ga le re ti P L PL.length cp cl)),(1,.ptr h.n 0 0),(13,.ptr h.n 0 0)] h1 gV a4 w3:=s4;refine jX (i:=2) (j:=1) (m:=4) (k:=0) (K:=0) (ns:=[h.n]) bW (aH _) sn2 trivial (ftb (by omega) (by omega)) rfl rfl rfl (by simp) (by omega) sT sn_ok2 (sn_len1 _ _ rfl) rfl (.inl rfl) s4 (fun q hq=>by
   have e:cU (nm [h.n]) [(1,SV.ptr 0 0 0)]=[(1,.ptr h.n 0 0)]:=rfl;rw[e]at hq;simp only[List.mem_cons,List.not_mem_nil,or_false]at hq;subst hq;simp) fun rB a5 w5 s5=>⟨fun e=>(by cases e),fun _ _=>?_⟩
  show GO n Tryz.prog (dX (aA 1 jK)) 3 (2+1) (aA 2 jK) _ a5 w5;have s5:St (ρ,h,w) 90 [(1,.ptr h.n 0 0),(15,.ptr h.n 0 8),(14,.agg (nwC th st ga le re ti P L PL.length cp cl))] h1 rB a5 w5:=s5;refine go_ld1 (m:=2) bW sT sn_13 sn_one25 trivial rfl gb1 (v:=vD cs rows.length) rfl (by simp) s5 fun a6 s6=>?_
  have s6:St (ρ,h,w) 90 [(16,vD cs rows.length),(1,.ptr h.n 0 0),(15,.ptr h.n 0 8),(14,.agg (nwC th st ga le re ti P L PL.length cp cl))] h1 rB a6 w5:=s6;have R1:∀m∈h1.R,m<h1.n:=fun m hm=>by rw[G1.R]at hm;have:=hR m hm;omega
  have A1:Args h1 P L PL LL cs rows:=⟨R1,G1.C.trans hC,⟨(hb _ lP).trans gP,by omega⟩,⟨(hb _ lL).trans gL,by omega⟩,(A.grow G1).no,(A.grow G1).cl,(A.grow G1).row⟩;have gA:0≤st∧st≤8:=by have:=rg.st;omega
  have hti:0≤ti∧ti≤100:=by have:=rg.ti;omega
  refine jV (m:=1) sT sn_14 rfl (by simp) (new_spec (own:=AI h1.R) A1 gA hti rg.np eLL.symm (by omega) h88 (by omega)) s6 fun v h2 ρ7 a7 w7 hv s7=>?_
  obtain⟨N,aL,thr,bZ,rfl,I,hn2⟩:=hv;have s7:St (ρ,h,w) 90 [(17,.ptr N.ns 0 0),(16,vD cs rows.length),(1,.ptr h.n 0 0),(15,.ptr h.n 0 8),(14,.agg (nwC th st ga le re ti P L PL.length cp cl))] h2 ρ7 a7 w7:=s7;refine lN (m:=0) bW sT sn_15 (v:=.ptr N.ns 0 0) rfl (by simp) s7 fun a8 s8=>?_
  have s8:St (ρ,h,w) 90 [(5,.ptr N.ns 0 0),(17,.ptr N.ns 0 0),(16,vD cs rows.length),(1,.ptr h.n 0 0),(15,.ptr h.n 0 8),(14,.agg (nwC th st ga le re ti P L PL.length cp cl))] h2 ρ7 a8 w7:=s8;show cB n Tryz.prog (aA 2 jK) Q a8 w7;have s8:St (ρ,h,w) 90 [(5,.ptr N.ns 0 0),(1,.ptr h.n 0 0)] h2 ρ7 a8 w7:=s8.sub fun q hq=>by
   simp only[List.mem_cons,List.not_mem_nil,or_false]at hq;rcases hq with rfl|rfl<;>simp
  have hn0:=I.n;have AA:=I.ns.2.2;have nlo:=I.lo;have thr1:thr.one=true:=by
   rcases Nat.eq_zero_or_pos rows.length with z|z
   ·rw[I.thr0 z];rfl
   ·rw[(I.thr1 (by omega)).1];rfl
  obtain⟨u,s9⟩:=s8.forget hC (k:=7) I.ns.1 rfl rfl;have s9:St (ρ,h,w) 90 [(5,.ptr N.ns 0 0),(1,.ptr h.n 0 0)] (stH h2 N th st ga le re ti P L PL.length cp cl thr u) ρ7 a8 w7:=s9;have wok:hU (tX th st ga le re ti P PL cp u) (qM st (Int.toNat (gB st ti PL.length)) LL PL.length):=fresh_wok (rg.cfg cp u P);have SI:=start I R1 A1.C (by rw[G1.R];exact hPR) A1.p.1 (by omega) (by omega) u wok;obtain⟨g1,g2⟩:=stH_get (h1:=h2) (N:=N) (th:=th) (st:=st) (ga:=ga) (le:=le) (re:=re) (ti:=ti) (P:=P) (L:=L) (np:=PL.length) (cp:=cp) (cl:=cl) (thr:=thr) (u:=u) (by omega);have hn3:(stH h2 N th st ga le re ti P L PL.length cp cl thr u).n=h2.n:=rfl;have hR3:(stH h2 N th st ga le re ti P L PL.length cp cl thr u).R=h.R:=I.R.trans G1.R;have hC3:(stH h2 N th st ga le re ti P L PL.length cp cl thr u).C=h.C:=I.C.trans G1.C;generalize stH h2 N th st ga le re ti P L PL.length cp cl thr u=h3 at*;have old3:∀m,m<h1.n→h3.get m=h1.get m∧bZ m=AI h1.R m:=fun m hm=>⟨(g2 m (by omega)).trans (I.old m hm).1,(I.old m hm).2⟩
  have gb3:h3.get h.n=.cells 28 10 (hJ th st ga le re ti P L PL cp cl cs rows.length K ck pv nil):=(old3 h.n (by omega)).1.trans gb1;obtain⟨lv,s10⟩:=s9.forget hC (k:=7) gb3 rfl rfl;have g4:(h3.put h.n (.cells 28 10 ((hJ th st ga le re ti P L PL cp cl cs rows.length K ck pv nil).set 7 (.val lv)))).get h.n=.cells 28 10 ((hJ th st ga le re ti P L PL cp cl cs rows.length K ck pv nil).set 7 (.val lv)):=H.get_put (by omega);obtain⟨cv,s11⟩:=s10.forget hC (k:=8) g4 (v:=vD cs rows.length) rfl (csSV_one _ _);have g5:((h3.put h.n (.cells 28 10 ((hJ th st ga le re ti P L PL cp cl cs rows.length K ck pv nil).set 7 (.val lv)))).put h.n (.cells 28 10 (((hJ th st ga le re ti P L PL cp cl cs rows.length K ck pv nil).set 7 (.val lv)).set 8 (.val cv)))).get h.n=.cells 28 10 (snX th st ga le re ti P PL.length cp lv cv (tS K ck pv nil)):=(H.get_put (by show h.n≤1000000;omega)).trans rfl;have g5':∀m,m≠h.n→((h3.put h.n (.cells 28 10 ((hJ th st ga le re ti P L PL cp cl cs rows.length K ck pv nil).set 7 (.val lv)))).put h.n (.cells 28 10 (((hJ th st ga le re ti P L PL cp cl cs rows.length K ck pv nil).set 7 (.val lv)).set 8 (.val cv)))).get m=h3.get m:=fun m hm=>(H.get_put_ne (Ne.symm hm)).trans (H.get_put_ne (Ne.symm hm))
  have hn5:((h3.put h.n (.cells 28 10 ((hJ th st ga le re ti P L PL cp cl cs rows.length K ck pv nil).set 7 (.val lv)))).put h.n (.cells 28 10 (((hJ th st ga le re ti P L PL cp cl cs rows.length K ck pv nil).set 7 (.val lv)).set 8 (.val cv)))).n=h3.n:=rfl;have hR5:((h3.put h.n (.cells 28 10 ((hJ th st ga le re ti P L PL cp cl cs rows.length K ck pv nil).set 7 (.val lv)))).put h.n (.cells 28 10 (((hJ th st ga le re ti P L PL cp cl cs rows.length K ck pv nil).set 7 (.val lv)).set 8 (.val cv)))).R=h3.R:=rfl;have hC5:((h3.put h.n (.cells 28 10 ((hJ th st ga le re ti P L PL cp cl cs rows.length K ck pv nil).set 7 (.val lv)))).put h.n (.cells 28 10 (((hJ th st ga le re ti P L PL cp cl cs rows.length K ck pv nil).set 7 (.val lv)).set 8 (.val cv)))).C=h3.C:=rfl;generalize (h3.put h.n (.cells 28 10 ((hJ th st ga le re ti P L PL cp cl cs rows.length K ck pv nil).set 7 (.val lv)))).put h.n (.cells 28 10 (((hJ th st ga le re ti P L PL cp cl cs rows.length K ck pv nil).set 7 (.val lv)).set 8 (.val cv)))=h5 at*;have hbR:h.n∉h1.R:=fun hm=>by rw[G1.R]at hm;have:=hR _ hm;omega
  have tb:bZ h.n=7:=(old3 h.n (by omega)).2.trans (ownI_out hbR);have SI5:sW h5 bZ (tX th st ga le re ti P PL cp u) (qM st (Int.toNat (gB st ti PL.length)) LL PL.length) [] (stNm N (qM st (Int.toNat (gB st ti PL.length)) LL PL.length).length) []:=SI.move (fun m hm ht=>⟨g5' m (fun e=>by rw[e,tb]at ht;omega),rfl⟩) (by omega) hR5 hC5;have G5:∀m,m<h.n→h5.get m=h.get m:=fun m hm=>(g5' m (by omega)).trans ((old3 m (by omega)).1.trans (hb m hm))
  refine jU (d:=aA 2 jK) sn_rg2 ?_;refine xF (m:=2) bW sn_all2 sn_20 sn_ag28 trivial rfl g5 (by show 10≤10;omega) (by simp) s11 fun a12 s12=>?_
  have s12:St (ρ,h,w) 90 [(18,.agg (vJ th st ga le re ti P PL.length cp lv cv (tS K ck pv nil))),(5,.ptr N.ns 0 0),(1,.ptr h.n 0 0)] h5 ρ7 a12 w7:=s12;refine jV (m:=1) sn_all2 sn_21 rfl (by simp) (picks_spec (fun m hm=>by rw[hR5,hR3]at hm;have:=hR m hm;omega) (by rw[hC5,hC3];exact hC) (by omega) tJ (fun e=>⟨(G5 K (hPk e).lt).trans (hPk e).g,by have:=(hPk e).lt;omega⟩) hk (by omega)) s12 fun V6 h6 ρ13 a13 w13 hv s13=>?_
  obtain⟨G6,hn6,pk6⟩:=hv;have s13:St (ρ,h,w) 90 [(19,V6),(18,.agg (vJ th st ga le re ti P PL.length cp lv cv (tS K ck pv nil))),(5,.ptr N.ns 0 0),(1,.ptr h.n 0 0)] h6 ρ13 a13 w13:=s13;refine lN (m:=0) bW sn_all2 sn_22 (v:=V6) rfl (by simp) s13 fun a14 s14=>?_
  have s14:St (ρ,h,w) 90 [(6,V6),(19,V6),(18,.agg (vJ th st ga le re ti P PL.length cp lv cv (tS K ck pv nil))),(5,.ptr N.ns 0 0),(1,.ptr h.n 0 0)] h6 ρ13 a14 w13:=s14;show cB n Tryz.prog (aA 1 (aA 2 jK)) Q a14 w13;rw[sn_t23];have hn65:=G6.n;refine bD (K:=0) (ns:=[]) bW (aH _) sn3 trivial (qO (by omega)) rfl rfl rfl (by simp) (by omega) sn_ok3 s14 (fun q hq=>by cases hq) fun ρ15 a15 w15 s15=>?_
  have s15:St (ρ,h,w) 90 [(7,aC),(6,V6),(5,.ptr N.ns 0 0),(1,.ptr h.n 0 0)] h6 ρ15 a15 w15:=s15;rw[fE,sn_t34];refine tF sn_is4 ?_;refine bD (K:=0) (ns:=[]) bW (aH _) sn4 trivial (qO (by omega)) rfl rfl rfl (by simp) (by omega) sn_okI s15 (fun q hq=>by cases hq) fun ρ16 a16 w16 s16=>?_
  have s16:St (ρ,h,w) 90 [(8,.int .i64 0),(7,aC),(6,V6),(5,.ptr N.ns 0 0),(1,.ptr h.n 0 0)] h6 ρ16 a16 w16:=s16;rw[fE];obtain⟨own6,o6,pk7⟩:∃own6:Nat→Nat,(∀m,m<h5.n→own6 m=bZ m)∧((pv.length=0∧V6=aC)∨∃p,∃T:List Int,V6=.slice p 0 pv.length none∧At h6 own6 p 7 (.cells 3 1 (T.map (SV.int .i64)))∧T.length=pv.length):=by
   rcases pk6 with⟨e1,e2⟩|⟨p,T,e1,e2,e3,e4,e5,e6⟩
   ·exact⟨bZ,fun _ _=>rfl,.inl ⟨e1,e2⟩⟩
   ·exact⟨fun m=>if m=p then 7 else bZ m,fun m hm=>if_neg (by omega),.inr ⟨p,T,e1,⟨e3,if_pos rfl,e6⟩,e4⟩⟩
  have SI6:=SI5.move (h':=h6) (bZ:=own6) (fun m hm _=>⟨G6.old m hm,o6 m hm⟩) hn65 G6.R G6.C;refine seen_loop (u:=u) (lv:=lv) (cv:=cv) (ns:=N.ns) (V6:=V6) (K:=K) (ck:=ck) (pv:=pv) (nil:=nil) rg hk room hR hq (W:=qM st (Int.toNat (gB st ti PL.length)) LL PL.length) (own:=own6) ⟨SI6,⟨(G6.old _ (by omega)).trans g5,(o6 _ (by omega)).trans tb,by omega⟩,pk7,.inl ⟨rfl,rfl,rfl⟩,fun _=>rfl,rfl,fun j s d n0 W0 hs=>by simp at hs,fun m hm=>⟨(G6.old m (by omega)).trans (G5 m hm),?_⟩,by omega,by omega⟩ rfl (s16.sub fun q hq=>by
   simp only[List.mem_cons,List.not_mem_nil,or_false]at hq;rcases hq with rfl|rfl|rfl|rfl|rfl<;>simp)
  rw[o6 m (by omega),(old3 m (by omega)).2,G1.R]
 exact⟨fun _=>main,fun _ _=>main⟩
end
end Go.Proofs.YtnkcbfgfkadoaaaGreat.Sx
namespace Go.Proofs.YtnkcbfgfkadoaaaGreat.Sx
open Go
set_option maxRecDepth 100000
theorem eY{P:Program}{K:pY}{bY:Bool}{all:List Oper}{i m:Nat}{o:Oper}{os:List (Nat×Nat×Oper)}{a:SA}{h:H}{acc:Acc}{v:SV}(hg:o.guard=none)(hc:cl o.op=0)(hv:(ev P bY h a.eval o.op).go=some v)(ht:(eM P h a.eval o.op).all (fun y=>Nat.blt y.1 h.n)=true)(hn:qQ h o.op=[]):
 (cL P K bY all ((i,m,o)::os) a h acc).go=(cL P K bY all os (a.put o.dst v) h ((i,eM P h a.eval o.op,qQ h o.op)::acc)).go:=by
 have h1:step P K bY all o a h=fun k=>k a (one P K bY o a h):=by
  funext k;unfold step;rw[hg]
 have h2:one P K bY o a h=(ev P bY h a.eval o.op).bind fun v=>.ret (a.put o.dst v,h):=by
  unfold one;rw[hc];rfl
 conv=>lhs;unfold cL
 rw[hc];simp only[h1,h2,Out.go_bind,hv,Option.bind_some,Out.go,ht,hn,List.all_nil,Bool.and_self]
noncomputable abbrev bgD:Option Code:=some (bR 8)
noncomputable abbrev bgI:Option Code:=qV (aA 1 bgD)
noncomputable abbrev AM:Option Code:=lpB (aA 1 bgI)
noncomputable abbrev xQ:Option Code:=bkB (aA 1 AM)
noncomputable def bgO:List Oper:=(dX xQ).toList
def nthP(l:List (Nat×Nat×Oper))(k:Nat):Nat×Nat×Oper:=match l.drop k with
 |x::_=>x
 |[]=>(0,0,{dst:=none,op:=.move (.tmp 0),type:=0,pos:= "",after:=#[],guard:=none})
noncomputable def pe(k:Nat):Nat×Nat×Oper:=nthP (Sx.plan bgO) k
theorem bg_plan:Sx.plan bgO=[((pe 0).1,(pe 0).2.1,(pe 0).2.2),((pe 1).1,(pe 1).2.1,(pe 1).2.2),((pe 2).1,(pe 2).2.1,(pe 2).2.2),((pe 3).1,(pe 3).2.1,(pe 3).2.2),((pe 4).1,(pe 4).2.1,(pe 4).2.2),((pe 5).1,(pe 5).2.1,(pe 5).2.2),((pe 6).1,(pe 6).2.1,(pe 6).2.2),((pe 7).1,(pe 7).2.1,(pe 7).2.2),((pe 8).1,(pe 8).2.1,(pe 8).2.2),((pe 9).1,(pe 9).2.1,(pe 9).2.2),((pe 10).1,(pe 10).2.1,(pe 10).2.2)]:=by kernel_rfl
def bgK(n at_ i:Nat)(x y:Int)(k:Nat):List (Nat×SV):=[(0,.slice 0 0 n none),(1,.int .i64 at_),(5,.int .i64 i),(12,.slice 0 0 n none),(13,.int .i64 i),(14,.ptr 0 (aE 0 (Int.toNat i)) 0),(15,.ptr 0 (aE 0 (Int.toNat i)) 1),(16,.int .i64 x),(17,.slice 0 0 n none),(18,.int .i64 at_),(19,.ptr 0 (aE 0 (Int.toNat at_)) 0),(20,.ptr 0 (aE 0 (Int.toNat at_)) 1),(21,.int .i64 y),(22,.bool (x==y))].take (k+3)
noncomputable abbrev pS(n at_ i:Nat)(x y:Int)(z:Nat→SV)(k:Nat):SA:=cJ 24 (bgK n at_ i x y k) z
noncomputable abbrev bgH(E:List SV):H:=aT [.cells 42 10 E] [0]
section
variable(E:List SV)(n at_ i:Nat)(x y:Int)(z:Nat→SV)
theorem bg_e0:ev Tryz.prog false (bgH E) (pS n at_ i x y z 0).eval (pe 0).2.2.op=.ret (.slice 0 0 n none):=by kernel_rfl
theorem bg_e1:ev Tryz.prog false (bgH E) (pS n at_ i x y z 1).eval (pe 1).2.2.op=.ret (.int .i64 i):=by kernel_rfl
theorem bg_e2:ev Tryz.prog false (bgH E) (pS n at_ i x y z 2).eval (pe 2).2.2.op=.chk (decide ((0:Int)≤i)) (.chk (decide ((i:Int)<n)) (.ret (.ptr 0 (aE 0 (Int.toNat i)) 0))):=by kernel_rfl
theorem bg_e3:ev Tryz.prog false (bgH E) (pS n at_ i x y z 3).eval (pe 3).2.2.op=.ret (.ptr 0 (aE 0 (Int.toNat i)) 1):=by kernel_rfl
theorem bg_e4:ev Tryz.prog false (bgH E) (pS n at_ i x y z 4).eval (pe 4).2.2.op=Out.of E[ix 10 (aE 0 (Int.toNat i)) 1]?:=by kernel_rfl
theorem bg_e5:ev Tryz.prog false (bgH E) (pS n at_ i x y z 5).eval (pe 5).2.2.op=.ret (.slice 0 0 n none):=by kernel_rfl
theorem bg_e6:ev Tryz.prog false (bgH E) (pS n at_ i x y z 6).eval (pe 6).2.2.op=.ret (.int .i64 at_):=by kernel_rfl
theorem bg_e7:ev Tryz.prog false (bgH E) (pS n at_ i x y z 7).eval (pe 7).2.2.op=.chk (decide ((0:Int)≤at_)) (.chk (decide ((at_:Int)<n)) (.ret (.ptr 0 (aE 0 (Int.toNat at_)) 0))):=by kernel_rfl
theorem bg_e8:ev Tryz.prog false (bgH E) (pS n at_ i x y z 8).eval (pe 8).2.2.op=.ret (.ptr 0 (aE 0 (Int.toNat at_)) 1):=by kernel_rfl
theorem bg_e9:ev Tryz.prog false (bgH E) (pS n at_ i x y z 9).eval (pe 9).2.2.op=Out.of E[ix 10 (aE 0 (Int.toNat at_)) 1]?:=by kernel_rfl
theorem bg_e10:ev Tryz.prog false (bgH E) (pS n at_ i x y z 10).eval (pe 10).2.2.op=.ret (.bool (x==y)):=by kernel_rfl
theorem bg_put(n at_ i:Nat)(x y:Int)(z:Nat→SV):(pS n at_ i x y z 0).put (pe 0).2.2.dst (.slice 0 0 n none)=pS n at_ i x y z 1∧(pS n at_ i x y z 1).put (pe 1).2.2.dst (.int .i64 i)=pS n at_ i x y z 2∧(pS n at_ i x y z 2).put (pe 2).2.2.dst (.ptr 0 (aE 0 (Int.toNat i)) 0)=pS n at_ i x y z 3∧(pS n at_ i x y z 3).put (pe 3).2.2.dst (.ptr 0 (aE 0 (Int.toNat i)) 1)=pS n at_ i x y z 4∧
 (pS n at_ i x y z 4).put (pe 4).2.2.dst (.int .i64 x)=pS n at_ i x y z 5∧(pS n at_ i x y z 5).put (pe 5).2.2.dst (.slice 0 0 n none)=pS n at_ i x y z 6∧(pS n at_ i x y z 6).put (pe 6).2.2.dst (.int .i64 at_)=pS n at_ i x y z 7∧(pS n at_ i x y z 7).put (pe 7).2.2.dst (.ptr 0 (aE 0 (Int.toNat at_)) 0)=pS n at_ i x y z 8∧(pS n at_ i x y z 8).put (pe 8).2.2.dst (.ptr 0 (aE 0 (Int.toNat at_)) 1)=pS n at_ i x y z 9∧(pS n at_ i x y z 9).put (pe 9).2.2.dst (.int .i64 y)=pS n at_ i x y z 10∧(pS n at_ i x y z 10).put (pe 10).2.2.dst (.bool (x==y))=pS n at_ i x y z 11:=
 ⟨by kernel_rfl,by kernel_rfl,by kernel_rfl,by kernel_rfl,by kernel_rfl,by kernel_rfl,by kernel_rfl,by kernel_rfl,by kernel_rfl,by kernel_rfl,by kernel_rfl⟩
theorem bg_draw{P0:pY}{E:List SV}{n at_ i:Nat}{x y:Int}(hi:i<n)(ha:at_<n)(hx:E[i*10+1]?=some (.int .i64 x))(hy:E[at_*10+1]?=some (.int .i64 y))(z:Nat→SV):(cL Tryz.prog P0 false bgO (Sx.plan bgO) (pS n at_ i x y z 0) (bgH E) []).go=some (pS n at_ i x y z 11,bgH E):=by
 have c1:decide ((0:Int)≤i)=true:=decide_eq_true (by omega);have c2:decide ((i:Int)<n)=true:=decide_eq_true (by omega);have c3:decide ((0:Int)≤at_)=true:=decide_eq_true (by omega);have c4:decide ((at_:Int)<n)=true:=decide_eq_true (by omega);have i1:ix 10 (aE 0 (Int.toNat (i:Int))) 1=i*10+1:=by rw[aY];show(0+Int.toNat (i:Int))*10+1=_;simp
 have i2:ix 10 (aE 0 (Int.toNat (at_:Int))) 1=at_*10+1:=by rw[aY];show(0+Int.toNat (at_:Int))*10+1=_;simp
 obtain⟨p0,p1,p2,p3,p4,p5,p6,p7,p8,p9,p10⟩:=bg_put n at_ i x y z;rw[bg_plan];rw[eY (v:=.slice 0 0 n none) (by kernel_rfl) (by kernel_rfl) (by rw[bg_e0];rfl) (by kernel_rfl) (by kernel_rfl),p0];rw[eY (v:=.int .i64 i) (by kernel_rfl) (by kernel_rfl) (by rw[bg_e1];rfl) (by kernel_rfl) (by kernel_rfl),p1];rw[eY (v:=.ptr 0 (aE 0 (Int.toNat i)) 0) (by kernel_rfl) (by kernel_rfl) (by rw[bg_e2,c1,c2];rfl) (by kernel_rfl) (by kernel_rfl),p2];rw[eY (v:=.ptr 0 (aE 0 (Int.toNat i)) 1) (by kernel_rfl) (by kernel_rfl) (by rw[bg_e3];rfl) (by kernel_rfl) (by kernel_rfl),p3];rw[eY (v:=.int .i64 x) (by kernel_rfl) (by kernel_rfl) (by rw[bg_e4,i1,hx];rfl) (by kernel_rfl) (by kernel_rfl),p4];rw[eY (v:=.slice 0 0 n none) (by kernel_rfl) (by kernel_rfl) (by rw[bg_e5];rfl) (by kernel_rfl) (by kernel_rfl),p5];rw[eY (v:=.int .i64 at_) (by kernel_rfl) (by kernel_rfl) (by rw[bg_e6];rfl) (by kernel_rfl) (by kernel_rfl),p6];rw[eY (v:=.ptr 0 (aE 0 (Int.toNat at_)) 0) (by kernel_rfl) (by kernel_rfl) (by rw[bg_e7,c3,c4];rfl) (by kernel_rfl) (by kernel_rfl),p7];rw[eY (v:=.ptr 0 (aE 0 (Int.toNat at_)) 1) (by kernel_rfl) (by kernel_rfl) (by rw[bg_e8];rfl) (by kernel_rfl) (by kernel_rfl),p8];rw[eY (v:=.int .i64 y) (by kernel_rfl) (by kernel_rfl) (by rw[bg_e9,i2,hy];rfl) (by kernel_rfl) (by kernel_rfl),p9];rw[eY (v:=.bool (x==y)) (by kernel_rfl) (by kernel_rfl) (by rw[bg_e10];rfl) (by kernel_rfl) (by kernel_rfl),p10];rfl
end
section
variable{P:Program}{n:Nat}{Q:Exit→Act→World→Prop}{b:mX}{ρ:bF}{a:Act}{w:World}{N:Nat}{kn:List (Nat×SV)}{h:H}
theorem go_pathG{S:cI}{objs os:List SO}{R ns ts ks ls fs:List Nat}{nn M K k:Nat}{bY:Bool}{d:Option Code}{zU:List (Nat×SV)}{x':SX}{vs:List SV}
 (X:wV P)(hS:cX P S)(T:∀x:Nat→SV,((bB P (runK P S M) bY #[] 0 0 k d (cJ N zU x) (aT objs R)).bind (cM ts ks ls fs)).go=some (N,x',[],vs,ks.map x,nn,os))
 (ft:Fit h (aT objs R) (nm ns))(eK:eU R objs=true)(mK:fO objs.length R nn ls=true)(dM:os.all SO.plain=true)(hK:nn-objs.length≤K)(h6:h.n+K≤1000000)
 (hd:dL d=true)(s:St b N kn h ρ a w)(hkn:∀p∈cU (nm ns) zU,p∈kn)
 (hq:∀aW a' w',St b N (ts.zip (SV.rens (nx h.n objs.length [] ns) vs)++keepK ks kn) (h.lay K (laid (nx h.n objs.length [] ns) ls os)) aW a' w'→goX n P (aA k d) Q x' a' w'):cB n P d Q a w:=by
 obtain⟨x,ha,hx⟩:=(s.sub hkn).arX;obtain⟨⟨y,iS,s'⟩,g1,g2⟩:=Out.bind_go (T x);obtain⟨e0,e1,e2,e3,e6,e4,e5⟩:=seeZ_eq g2;simp only at e0 e1 e2 e3 e4 e5 e6;subst e1;have key:GO n P #[] 0 0 d Q a w:=yI X (kR X hS M) (fun o ho=>by simp at ho) hd rfl (Nat.le_refl _) (.inr rfl) g1 ha (ft.hr s.hr) fun uI a' w' p1 p2 p3=>by
  obtain⟨j1,j2,j3⟩:=nV (j:=[]) e5 ft eK mK dM hK (by simp) h6 s.hr p2 p3 e4 rfl;have fin:=hq _ a' w' ⟨s.le,by rw[p1.size];exact e0,by rw[p1.defers,e2];rfl,fun p hp=>by
   rcases List.mem_append.1 hp with hp|hp
   ·rw[←e3,SV.rens_map,List.map_map]at hp
    have:∀(ts:List Nat),p∈ts.zip (ts.map (SV.ren (nx h.n objs.length [] ns)∘iS.get))→p.2=(iS.get p.1).ren (nx h.n objs.length [] ns):=by
     intro ts
     induction ts with
     |nil=>intro h;simp at h
     |cons t ts ih=>
      intro h;rw[List.map_cons,List.zip_cons_cons]at h;rcases List.mem_cons.1 h with e|h
      ·rw[e];rfl
      ·exact ih h
    rw[this ts hp];exact(jH j3).1 (p1.at_ p.1)
   ·obtain⟨h1,h2⟩:=List.mem_filter.1 hp
    have hm:p.1∈ks:=by simpa using h2
    have hg:iS.get p.1=x p.1:=List.map_inj_left.1 e6 p.1 hm;have hv:=p1.at_ p.1;rw[hg]at hv;rw[hx p.1 _ _ hv];exact(s.vs p h1).mono j2.le,s.hr0,j1,s.fr.trans s.hr0 s.hr j2⟩
  refine⟨fun _=>fin,fun e e2=>?_⟩;subst e;subst e2;exact fin
 exact key
end
theorem bg0:∀x:Nat→SV,follow [] ((bB Tryz.prog (runK Tryz.prog S0 20) false #[] 0 0 1 bgD (cJ 24 [] x) (aT [] [])).bind (cM [] [0,1] [] []))=some ([],(24,.normal,[],[],[0,1].map x,0,[])):=by intro x;kernel_rfl
theorem bg1(k:Int):∀x:Nat→SV,follow [(0,true)] ((bB Tryz.prog (runK Tryz.prog S0 20) false #[] 0 0 1 bgI (cJ 24 [(1,.int .i64 k)] x) (aT [] [])).bind (cM [1,5] [0] [] []))=some ([(fits (k-1),true)],(24,.normal,[],[.int .i64 k,.int .i64 (k-1)],[0].map x,0,[])):=by intro x;kernel_rfl
theorem bgr_0(z:Int):∀x:Nat→SV,follow [(0,true)] ((bB Tryz.prog (runK Tryz.prog S0 20) false #[] 0 0 1 AM (cJ 24 [(5,.int .i64 z)] x) (aT [] [])).bind (cM [5] [0,1] [] []))=some ([(decide (z≥0),true)],(24,.normal,[],[.int .i64 z],[0,1].map x,0,[])):=by intro x;kernel_rfl
theorem bgr_1(z:Int):∀x:Nat→SV,follow [(0,false)] ((bB Tryz.prog (runK Tryz.prog S0 20) false #[] 0 0 1 AM (cJ 24 [(5,.int .i64 z)] x) (aT [] [])).bind (cM [] [] [] []))=some ([(decide (z≥0),false)],(24,(.exit 0),[],[],[].map x,0,[])):=by intro x;kernel_rfl
theorem bgi_t(z:Int):∀x:Nat→SV,follow [] ((bB Tryz.prog (runK Tryz.prog S0 20) false #[] 0 0 1 (aA 1 xQ) (cJ 24 [(5,.int .i64 z),(22,.bool true)] x) (aT [] [])).bind (cM [4] [] [] []))=some ([],(24,.ret,[],[.int .i64 z],[].map x,0,[])):=by intro x;kernel_rfl
theorem bgi_f:∀x:Nat→SV,follow [] ((bB Tryz.prog (runK Tryz.prog S0 20) false #[] 0 0 1 (aA 1 xQ) (cJ 24 [(22,.bool false)] x) (aT [] [])).bind (cM [] [0,1,5] [] []))=some ([],(24,.normal,[],[],[0,1,5].map x,0,[])):=by intro x;kernel_rfl
theorem bg3(z:Int):∀x:Nat→SV,follow [(0,true)] ((bB Tryz.prog (runK Tryz.prog S0 20) false #[] 0 0 1 (aA 2 AM) (cJ 24 [(5,.int .i64 z)] x) (aT [] [])).bind (cM [5] [0,1] [] []))=some ([(fits (z-1),true)],(24,.normal,[],[.int .i64 (z-1)],[0,1].map x,0,[])):=by intro x;kernel_rfl
theorem bge:∀x:Nat→SV,follow [] ((bB Tryz.prog (runK Tryz.prog S0 20) false #[] 0 0 2 (aA 1 (aA 1 bgD)) (cJ 24 [] x) (aT [] [])).bind (cM [4] [] [] []))=some ([],(24,.ret,[],[.int .i64 0],[].map x,0,[])):=by intro x;kernel_rfl
theorem fn8_ok:fnOk 8 24 [4]=true:=by kernel_rfl
theorem bg_okD:dL bgD=true:=by kernel_rfl
theorem bg_is1:isX (aA 1 bgD)=true:=by kernel_rfl
theorem bg_okI:dL bgI=true:=by kernel_rfl
theorem bg_okL:dL AM=true:=by kernel_rfl
theorem bg_okB:dL xQ=true:=by kernel_rfl
theorem bg_okB1:dL (aA 1 xQ)=true:=by kernel_rfl
theorem bg_okL2:dL (aA 2 AM)=true:=by kernel_rfl
theorem bg_okE:dL (aA 1 (aA 1 bgD))=true:=by kernel_rfl
theorem bg_lp:zV (aA 1 bgI)=some 0:=by kernel_rfl
theorem bg_bk:bkId (aA 1 AM)=some 1:=by kernel_rfl
theorem bg_noI:aA 1 (aA 1 bgI)=none:=by kernel_rfl
theorem bg_noB:aA 1 (aA 1 xQ)=none:=by kernel_rfl
theorem bg_t2:aA 1 (aA 1 AM)=aA 2 AM:=by kernel_rfl
theorem bg_noL:aA 1 (aA 2 AM)=none:=by kernel_rfl
def drD(d:Option Code):Bool:=match d with
 |some (.seq (.region _ _ true) _)=>true
 |_=>false
theorem mid_draw{P:Program}{K:pY}{bY:Bool}{d:Option Code}(hd:drD d=true)(sa:SA)(h:H):(bB P K bY #[] 0 0 1 d sa h).go=(cL P K bY (dX d).toList (Sx.plan (dX d).toList) sa h []).go.bind fun x=>some (.normal,x.1,x.2):=by
 unfold drD at hd;split at hd
 ·rename_i id ops rest
  show((Out.ret (sa,h)).bind fun x=>preX P K bY 1 _ x.1 x.2).go=_;simp only[Out.bind,preX,code,Out.go_bind,dX,hdX];cases (cL P K bY ops.toList (Sx.plan ops.toList) sa h []).go<;>rfl
 ·cases hd
theorem bg_dr:drD xQ=true:=by kernel_rfl
theorem bg_see(E:List SV)(n at_ i:Nat)(x y:Int)(z:Nat→SV):(cM [0,1,5,22] [] [] [] (SX.normal,pS n at_ i x y z 11,bgH E)).go=some (24,.normal,[],[.slice 0 0 n none,.int .i64 at_,.int .i64 i,.bool (x==y)],([]:List Nat).map z,1,[]):=by kernel_rfl
theorem bg_T{E:List SV}{n at_ i:Nat}{x y:Int}(hi:i<n)(ha:at_<n)(hx:E[i*10+1]?=some (.int .i64 x))(hy:E[at_*10+1]?=some (.int .i64 y)):∀z:Nat→SV,((bB Tryz.prog (runK Tryz.prog S0 20) false #[] 0 0 1 xQ (cJ 24 [(0,.slice 0 0 n none),(1,.int .i64 at_),(5,.int .i64 i)] z) (aT [.cells 42 10 E] [0])).bind (cM [0,1,5,22] [] [] [])).go=some (24,.normal,[],[.slice 0 0 n none,.int .i64 at_,.int .i64 i,.bool (x==y)],([]:List Nat).map z,1,[]):=fun z=>by
 have hd:=bg_draw (P0:=runK Tryz.prog S0 20) hi ha hx hy z;rw[Out.go_bind,mid_draw bg_dr];have e:cJ 24 [(0,SV.slice 0 0 n none),(1,.int .i64 at_),(5,.int .i64 i)] z=pS n at_ i x y z 0:=rfl;have hd':(cL Tryz.prog (runK Tryz.prog S0 20) false (dX xQ).toList (Sx.plan (dX xQ).toList) (pS n at_ i x y z 0) (bgH E) []).go=some (pS n at_ i x y z 11,bgH E):=hd;rw[e];show((cL Tryz.prog (runK Tryz.prog S0 20) false (dX xQ).toList (Sx.plan (dX xQ).toList) (pS n at_ i x y z 0) (bgH E) []).go.bind fun x=>some (SX.normal,x.1,x.2)).bind _=_;rw[hd'];show(cM [0,1,5,22] [] [] [] (SX.normal,pS n at_ i x y z 11,bgH E)).go=_;exact bg_see E n at_ i x y z
end Go.Proofs.YtnkcbfgfkadoaaaGreat.Sx
namespace Go.Proofs.YtnkcbfgfkadoaaaGreat.Sx
open Go
set_option maxRecDepth 10000
theorem sB:∀{aD:List Ev} {i f:Nat} {v:Ev},aD[i]?=some v→f<10→(eH aD)[i*10+f]?=v.c[f]?
 |[],i,f,v,h,_=>by simp at h
 |x::l,0,f,v,h,hf=>by
  simp at h;subst h;show(x.c++eH l)[0*10+f]?=_;rw[Nat.zero_mul,Nat.zero_add,List.getElem?_append_left (by simpa[Ev.c,lB]using hf)]
 |x::l,i+1,f,v,h,hf=>by
  have ih:=sB (aD:=l) (i:=i) (f:=f) (v:=v) (by simpa using h) hf;show(x.c++eH l)[(i+1)*10+f]?=_;have e:x.c.length=10:=rfl;rw[List.getElem?_append_right (by rw[e];omega),e,show(i+1)*10+f-10=i*10+f by omega];exact ih
def BgR(aD:List Ev)(k b:Nat):Prop:=∀(b0:Nat) (vb vk:Ev),b0<k→aD[b0]?=some vb→aD[k]?=some vk→vb.th=vk.th→(∀(j:Nat) (w:Ev),b0<j→j<k→aD[j]?=some w→w.th≠vk.th)→b≤b0
theorem begin_spec{h:H}{e k:Nat}{aD:List Ev}(ge:h.get e=.cells 42 10 (eH aD))(le:e<h.n)(hk:k<aD.length)(hE:aD.length≤100000)(h6:h.n≤1000000):
 lJ Tryz.prog 8 [.slice e 0 aD.length none,.int .i64 (k:Int)] h (fun v h'=>h'=h∧∃b:Nat,v=.int .i64 (b:Int)∧BgR aD k b∧b≤k):=by
 refine lG fn8_ok ⟨by simp,by omega⟩ ⟨by simp,by simp⟩ fun ρ a w n Q s0 hq=>?_
 have s0:St (ρ,h,w) 24 [(0,.slice e 0 aD.length none),(1,.int .i64 (k:Int))] h ρ a w:=s0;obtain⟨vk,hvk⟩:∃vk,aD[k]?=some vk:=⟨_,List.getElem?_eq_getElem hk⟩;have qO:Fit h (aT [] []) (nm []):=aX (R:=[]) (os:=[]) (ns:=[]) trivial (by simp[aQ]) (by simp) h6;refine bD (K:=0) (ns:=[]) bW (aH _) bg0 trivial qO rfl rfl rfl (by simp) h6 bg_okD s0 (fun q hq=>by cases hq) fun dQ a1 w1 s1=>?_
 have s1:St (ρ,h,w) 24 [(0,.slice e 0 aD.length none),(1,.int .i64 (k:Int))] h dQ a1 w1:=s1;rw[fE];refine tF bg_is1 ?_;refine bD (K:=0) (ns:=[]) bW (aH _) (bg1 (k:Int)) (aU (aN (by omega)) trivial) qO rfl rfl rfl (by simp) h6 bg_okI s1 (fun q hq=>by
  have e1:cU (nm []) [(1,SV.int .i64 (k:Int))]=[(1,.int .i64 (k:Int))]:=rfl;rw[e1]at hq;simp only[List.mem_cons,List.not_mem_nil,or_false]at hq;subst hq;simp) fun iJ a2 w2 s2=>?_
 have s2:St (ρ,h,w) 24 [(1,.int .i64 (k:Int)),(5,.int .i64 ((k:Int)-1)),(0,.slice e 0 aD.length none)] h iJ a2 w2:=s2;rw[fE];refine vB bg_lp (fun m a w'=>∃(z:Int) (aW:bF),-1≤z∧z<(k:Int)∧m=(z+1).toNat∧(∀(j:Nat) (w:Ev),z<(j:Int)→j<k→aD[j]?=some w→w.th≠vk.th)∧St (ρ,h,w) 24 [(5,.int .i64 z),(0,.slice e 0 aD.length none),(1,.int .i64 (k:Int))] h aW a w') (k:=k) ⟨(k:Int)-1,iJ,by omega,by omega,by omega,fun j w h1 h2=>by omega,s2.sub fun q hq=>by
  simp only[List.mem_cons,List.not_mem_nil,or_false]at hq;rcases hq with rfl|rfl|rfl<;>simp⟩ ?_
 rintro m a3 w3 ⟨z,gV,hz1,hz2,rfl,hz,s3⟩;by_cases c:z≥0
 ·obtain⟨i,rfl⟩:∃i:Nat,z=(i:Int):=⟨z.toNat,by omega⟩
  have hi:i<aD.length:=by omega
  obtain⟨vi,hvi⟩:∃vi,aD[i]?=some vi:=⟨_,List.getElem?_eq_getElem hi⟩;refine bD (K:=0) (ns:=[]) bW (aH _) (bgr_0 (i:Int)) (aU (decide_eq_true c) trivial) qO rfl rfl rfl (by simp) h6 bg_okL s3 (fun q hq=>by
   have e1:cU (nm []) [(5,SV.int .i64 (i:Int))]=[(5,.int .i64 (i:Int))]:=rfl;rw[e1]at hq;simp only[List.mem_cons,List.not_mem_nil,or_false]at hq;subst hq;simp) fun mE a4 w4 s4=>?_
  have s4:St (ρ,h,w) 24 [(5,.int .i64 (i:Int)),(0,.slice e 0 aD.length none),(1,.int .i64 (k:Int))] h mE a4 w4:=s4;rw[fE];refine go_bk bg_bk ?_;have ft1:Fit h (aT [.cells 42 10 (eH aD)] [0]) (nm [e]):=aX (R:=[0]) (os:=[.cells 42 10 (eH aD)]) (ns:=[e]) ⟨le,bE rfl (jM (by rw[ge];show _=SO.cells 42 10 (SV.rens _ _);rw[jS]) rfl),trivial⟩ (by simp[aQ,SO.lives]) (by simp) h6;have hx:=sB (f:=1) hvi (by omega);have hy:=sB (f:=1) hvk (by omega);refine go_pathG (K:=0) (ns:=[e]) bW (aH _) (bg_T (n:=aD.length) (at_:=k) (i:=i) (x:=vi.th) (y:=vk.th) hi hk hx hy) ft1 rfl rfl rfl (by simp) h6 bg_okB s4 (fun q hq=>by
   have e1:cU (nm [e]) [(0,SV.slice 0 0 aD.length none),(1,.int .i64 (k:Int)),(5,.int .i64 (i:Int))]=[(0,.slice e 0 aD.length none),(1,.int .i64 (k:Int)),(5,.int .i64 (i:Int))]:=rfl;rw[e1]at hq;simp only[List.mem_cons,List.not_mem_nil,or_false]at hq;rcases hq with rfl|rfl|rfl<;>simp) fun rB a5 w5 s5=>?_
  have s5:St (ρ,h,w) 24 [(0,.slice e 0 aD.length none),(1,.int .i64 (k:Int)),(5,.int .i64 (i:Int)),(22,.bool (vi.th==vk.th))] h rB a5 w5:=s5;rw[fE];by_cases ht:vi.th=vk.th
  ·have eb:(vi.th==vk.th)=true:=by simp[ht]
   rw[eb]at s5;refine bD (K:=0) (ns:=[]) bW (aH _) (bgi_t (i:Int)) trivial qO rfl rfl rfl (by simp) h6 bg_okB1 s5 (fun q hq=>by
    have e1:cU (nm []) [(5,SV.int .i64 (i:Int)),(22,.bool true)]=[(5,.int .i64 (i:Int)),(22,.bool true)]:=rfl;rw[e1]at hq;simp only[List.mem_cons,List.not_mem_nil,or_false]at hq;rcases hq with rfl|rfl<;>simp) fun ρ6 a6 w6 s6=>?_
   exact hq _ ρ6 a6 w6 [.int .i64 (i:Int)] h (.inl rfl) rfl ⟨rfl,i,rfl,fun b0 vb vk' hb0 hvb hvk' hth hno=>by
    rw[hvk]at hvk';injection hvk' with hvk';subst hvk';rcases Nat.lt_or_ge b0 i with cK|wQ
    ·exact absurd ht (hno i vi cK (by omega) hvi)
    ·exact wQ,by omega⟩ s6
  ·have eb:(vi.th==vk.th)=false:=by simp[ht]
   rw[eb]at s5;refine bD (K:=0) (ns:=[]) bW (aH _) bgi_f trivial qO rfl rfl rfl (by simp) h6 bg_okB1 s5 (fun q hq=>by
    have e1:cU (nm []) [(22,SV.bool false)]=[(22,.bool false)]:=rfl;rw[e1]at hq;simp only[List.mem_cons,List.not_mem_nil,or_false]at hq;subst hq;simp) fun ρ6 a6 w6 s6=>?_
   have s6:St (ρ,h,w) 24 [(0,.slice e 0 aD.length none),(1,.int .i64 (k:Int)),(5,.int .i64 (i:Int))] h ρ6 a6 w6:=s6;rw[fE,bg_noB];show cB n Tryz.prog (aA 1 (aA 1 AM)) _ a6 w6;rw[bg_t2];refine bD (K:=0) (ns:=[]) bW (aH _) (bg3 (i:Int)) (aU (aN (by omega)) trivial) qO rfl rfl rfl (by simp) h6 bg_okL2 s6 (fun q hq=>by
    have e1:cU (nm []) [(5,SV.int .i64 (i:Int))]=[(5,.int .i64 (i:Int))]:=rfl;rw[e1]at hq;simp only[List.mem_cons,List.not_mem_nil,or_false]at hq;subst hq;simp) fun ρ7 a7 w7 s7=>?_
   rw[fE,bg_noL];refine⟨i,by omega,(i:Int)-1,ρ7,by omega,by omega,by omega,fun j w h1 h2 h3=>?_,s7⟩;rcases Nat.lt_or_ge i j with cK|wQ
   ·exact hz j w (by omega) h2 h3
   ·have:j=i:=by omega
    subst this;rw[hvi]at h3;injection h3 with h3;subst h3;exact ht
 ·refine bD (K:=0) (ns:=[]) bW (aH _) (bgr_1 z) (aU (decide_eq_false c) trivial) qO rfl rfl rfl (by simp) h6 bg_okL s3 (fun q hq=>by
   have e1:cU (nm []) [(5,SV.int .i64 z)]=[(5,.int .i64 z)]:=rfl;rw[e1]at hq;simp only[List.mem_cons,List.not_mem_nil,or_false]at hq;subst hq;simp) fun mE a4 w4 s4=>?_
  rw[pO,tT,bg_noI];show cB n Tryz.prog (aA 1 (aA 1 bgD)) Q a4 w4;refine bD (K:=0) (ns:=[]) bW (aH _) bge trivial qO rfl rfl rfl (by simp) h6 bg_okE s4 (fun q hq=>by cases hq) fun rB a5 w5 s5=>?_
  exact hq _ rB a5 w5 [.int .i64 0] h (.inl rfl) rfl ⟨rfl,0,rfl,fun b0 _ _ _ _ _ _ _=>Nat.zero_le _,Nat.zero_le _⟩ s5
end Go.Proofs.YtnkcbfgfkadoaaaGreat.Sx
