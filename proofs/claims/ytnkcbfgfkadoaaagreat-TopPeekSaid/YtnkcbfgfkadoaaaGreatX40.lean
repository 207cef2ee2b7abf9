/- Part 40 of the proof of TopPeek. -/
import Derived.Test.YtnkcbfgfkadoaaaGreatX39
set_option linter.all false
namespace Go.Proofs.YtnkcbfgfkadoaaaGreat.Sx
open Go
set_option maxRecDepth 10000
section
variable{P:Program}{F:Fence}{n:Nat}{Q:Exit→Act→World→Prop}
theorem ev_wp(T:TOK P)(hF:FOK F){bY:Bool}{o:Oper}{σ:Operand→SV}{c:Act}{ρ:bF}{h:H}{w:World}{v:SV}(g1:(ev P bY h σ o.op).go=some v)(hZ:∀x∈o.op.operands,VR ρ (σ x) (c.eval x))(hr:HR ρ h w)
 (ho:dR o.op=true){next:Act→World→Prop}(hn:∀u,VR ρ v u→next (c.put o.dst u) w):o.wpIn F n P c w next Q:=by
 have yV:o.semAt F.round c.eval=execOp c.eval o:=Oper.semAt_eq _ _ _ fun cc hc=>by rw[hc]at ho;simp[dR]at ho
 obtain⟨u,r1,r2⟩:=ev_ok (w:=w) T g1 hr hZ;refine⟨fun f _=>hF.fn f,?_⟩;rw[yV,r1,Oper.uponIn_value];exact hn u r2
theorem al_wp(T:TOK P)(hF:FOK F){o:Oper}{σ:Operand→SV}{c:Act}{ρ:bF}{h:H}{w:World}{x:SO×(Nat→SV)}(g1:(al P σ o.op).go=some x)(hZ:∀x∈o.op.operands,VR ρ (σ x) (c.eval x))(hr:HR ρ h w)(h6:h.n<1000000)
 (ho:dR o.op=true){next:Act→World→Prop}(hn:∀aW u w',VR aW (x.2 h.n) u→HR aW (h.new x.1) w'→FR ρ h w aW (h.new x.1) w'→next (c.put o.dst u) w'):o.wpIn F n P c w next Q:=by
 have yV:o.semAt F.round c.eval=execOp c.eval o:=Oper.semAt_eq _ _ _ fun cc hc=>by rw[hc]at ho;simp[dR]at ho
 obtain⟨so,mk⟩:=x;obtain⟨obj,p,u,r1,r2,r3,r4,r5⟩:=al_ok (w:=w) (lc:=h.n) T g1 (hr.fresh _ (Nat.le_refl _)) hZ;obtain⟨q1,q2⟩:=hr.push h6 r3 r2 r4;refine⟨fun f _=>hF.fn f,?_⟩;rw[yV,r1,Oper.uponIn_value];exact hn _ u _ r5 q1 q2
noncomputable def sgK(kn:List (Nat×SV))(a:Act)(x:Operand):SV:=(evK kn x).getD (Classical.choose (rQ (a.eval x)))
theorem sgK_ok{kn:List (Nat×SV)}{a:Act}{ρ:bF}(hv:∀p∈kn,VR ρ p.2 (a.tmps.getD p.1 Go.undef)){o:Op}(ho:dR o=true):∀x∈o.operands,VR ρ (sgK kn a x) (a.eval x):=fun x hx=>by
 simp only[dR,Bool.and_eq_true,List.all_eq_true]at ho;unfold sgK;cases he:evK kn x with
 |none=>exact Classical.choose_spec (rQ (a.eval x)) ρ
 |some v=>exact evK_ok hv (ho.1 x (by simpa using hx)) he
theorem lV{kn:List (Nat×SV)}{a:Act}{t:Nat}{v:SV}(h:evK kn (.tmp t)=some v):sgK kn a (.tmp t)=v:=by unfold sgK;rw[h];rfl
def gdK(ops:Array Oper)(kn:List (Nat×SV))(g:Option (Nat×Bool)):Prop:=match g with
 |none=>True
 |some (j,want)=>∃t,mG ops.toList j=some t∧(t,SV.bool want)∈kn
variable{b:mX}{ρ:bF}{a:Act}{w:World}{N:Nat}{kn:List (Nat×SV)}{h:H}
theorem gd_wanted{ops:Array Oper}{o:Oper}(s:St b N kn h ρ a w)(hg:gdK ops kn o.guard):Region.wanted o (yielded ops a.tmps)=true:=by
 cases hgd:o.guard with
 |none=>exact iA hgd
 |some g=>
  obtain⟨j,want⟩:=g;rw[hgd]at hg;obtain⟨t,hj,hm⟩:=hg;have hv:=s.vs _ hm;obtain⟨x,ax⟩:=(s.cons hv).ar0;have ht:t<N:=by
   rcases Nat.lt_or_ge t N with h|h
   ·exact h
   ·simp only[VR]at hv
    rw[Array.getD_eq_getD_getElem?,Array.getElem?_eq_none (by rw[s.size];exact h)]at hv;simp[Go.undef]at hv
  have hb:(cJ N ((t,SV.bool want)::kn) x).get t=.bool want:=by
   rw[sR s.le,if_pos ht];simp[lk]
  rw[iB hgd hj hb (ax.at_ t)];simp
theorem go_ev{ops:Array Oper}{i m:Nat}{d:Option Code}{o:Oper}{v:SV}{bY:Bool}(X:wV P)(dS:ops.toList.all (fun o=>dR o.op)=true)(ho:ops.toList[i]?=some o)(hg:gdK ops kn o.guard)(lO:∀t,o.dst=some t→t<N)(s:St b N kn h ρ a w)
 (he:(ev P bY h (sgK kn a) o.op).go=some v)(hq:∀a',St b N (xO o.dst v kn) h ρ a' w→GO n P ops (i+1) m d Q a' w):GO n P ops i (m+1) d Q a w:=by
 have ho':ops[i]?=some o:=by simpa using ho
 have dE:dR o.op=true:=List.all_eq_true.1 dS o (List.mem_of_getElem? ho);unfold GO;simp only[List.range'_succ,wpOpsIn,ho'];rw[gd_wanted s hg,if_pos rfl];exact ev_wp X.tab rM he (sgK_ok s.vs dE) s.hr dE fun u hu=>hq _ (s.put lO hu s.hr (.refl s.hr))
theorem go_al{ops:Array Oper}{i m:Nat}{d:Option Code}{o:Oper}{x:SO×(Nat→SV)}(X:wV P)(dS:ops.toList.all (fun o=>dR o.op)=true)(ho:ops.toList[i]?=some o)(hg:gdK ops kn o.guard)(lO:∀t,o.dst=some t→t<N)(s:St b N kn h ρ a w)(h6:h.n<1000000)
 (he:(al P (sgK kn a) o.op).go=some x)(hq:∀aW a' w',St b N (xO o.dst (x.2 h.n) kn) (h.new x.1) aW a' w'→GO n P ops (i+1) m d Q a' w'):GO n P ops i (m+1) d Q a w:=by
 have ho':ops[i]?=some o:=by simpa using ho
 have dE:dR o.op=true:=List.all_eq_true.1 dS o (List.mem_of_getElem? ho);unfold GO;simp only[List.range'_succ,wpOpsIn,ho'];rw[gd_wanted s hg,if_pos rfl];exact al_wp X.tab rM he (sgK_ok s.vs dE) s.hr h6 dE fun aW u w' hu hr hf=>hq aW _ w' (s.put lO hu hr hf)
def bxO(o:Oper):Option (Nat×Nat×Option Nat×Option (Nat×Bool)):=match o with
 |{op:=.box t (.tmp x),dst:=dst,guard:=g, .. }=>some (t,x,dst,g)
 |_=>none
theorem go_box{ops:Array Oper}{i m t x sz:Nat}{d:Option Code}{dst:Option Nat}{g:Option (Nat×Bool)}{v:SV}(X:wV P)(dS:ops.toList.all (fun o=>dR o.op)=true)(hc:(ops.toList[i]?).bind bxO=some (t,x,dst,g))(sG:recSz P t=sz)(hg:gdK ops kn g)(hx:evK kn (.tmp x)=some v)(lO:∀t,dst=some t→t<N)(s:St b N kn h ρ a w)(h6:h.n<1000000)
 (hq:∀aW a' w',St b N (xO dst (.ptr h.n 0 0) kn) (h.new (.cells t sz v.cells)) aW a' w'→GO n P ops (i+1) m d Q a' w'):GO n P ops i (m+1) d Q a w:=by
 obtain⟨o,ho,lU⟩:=Option.bind_eq_some_iff.1 hc;unfold bxO at lU;split at lU
 ·injection lU with e
  injection e with e1 e2;injection e2 with e2 e3;injection e3 with e3 e4;subst e1;subst e2;subst e3;subst e4;refine go_al (x:=(.cells _ sz v.cells,fun l=>.ptr l 0 0)) X dS ho hg lO s h6 ?_ hq;simp only[al,lV hx,sG];rfl
 ·cases lU
def ldO(o:Oper):Option (Nat×Nat×Option Nat×Option (Nat×Bool)):=match o with
 |{op:=.load t (.tmp x),dst:=dst,guard:=g, .. }=>some (t,x,dst,g)
 |_=>none
def agN(P:Program)(t:Nat):Option Nat:=match P.underlying t with
 |some d=>match xG d with
  |true=>some (sz P t)
  |false=>none
 |none=>none
theorem rdN_go{l tt s:Nat}{c:List SV}(hg:h.get l=.cells tt s c):∀(k f:Nat),f+k≤c.length→(rdN h l 0 k f).go=some ((c.drop f).take k)
 |0,f,_=>by simp[rdN,Out.go]
 |k+1,f,hk=>by
  have cK:f<c.length:=by omega
  have ix0:ix s 0 f=f:=by
   unfold ix;split
   ·split<;>omega
   ·omega
  have h1:(rd h l 0 f).go=some c[f]:=by
   unfold rd rdO;rw[hg];simp only[ix0,List.getElem?_eq_getElem cK];rfl
  have ih:=rdN_go hg k (f+1) (by omega);simp only[rdN,Out.go_bind,h1,ih,Option.bind_some,Out.go];rw[List.drop_eq_getElem_cons cK,List.take_succ_cons]
theorem xF{ops:Array Oper}{i m t x k l f tt sz:Nat}{d:Option Code}{dst:Option Nat}{g:Option (Nat×Bool)}{c:List SV}(X:wV P)(dS:ops.toList.all (fun o=>dR o.op)=true)(hc:(ops.toList[i]?).bind ldO=some (t,x,dst,g))(hk:agN P t=some k)(hg:gdK ops kn g)(hx:evK kn (.tmp x)=some (.ptr l 0 f))(kX:h.get l=.cells tt sz c)(hlen:f+k≤c.length)(lO:∀t,dst=some t→t<N)(s:St b N kn h ρ a w)
 (hq:∀a',St b N (xO dst (.agg ((c.drop f).take k)) kn) h ρ a' w→GO n P ops (i+1) m d Q a' w):GO n P ops i (m+1) d Q a w:=by
 obtain⟨o,ho,lU⟩:=Option.bind_eq_some_iff.1 hc;unfold ldO at lU;split at lU
 ·injection lU with e
  injection e with e1 e2;injection e2 with e2 e3;injection e3 with e3 e4;subst e1;subst e2;subst e3;subst e4;refine go_ev (bY:=false) X dS ho hg lO s ?_ hq;simp only[ev,lV hx];unfold agN at hk;split at hk
  ·rename_i dd hd
   split at hk
   ·rename_i ha
    injection hk with hk;subst hk;simp only[load,hd,ha,Out.go_bind,rdN_go kX _ _ hlen,Option.bind_some,Out.go]
   ·cases hk
  ·cases hk
 ·cases lU
end
end Go.Proofs.YtnkcbfgfkadoaaaGreat.Sx
namespace Go.Proofs.YtnkcbfgfkadoaaaGreat.Sx
open Go
set_option maxRecDepth 100000
noncomputable abbrev AS:Option Code:=some (bR 5)
noncomputable abbrev oD:Option Code:=qV (aA 1 AS)
noncomputable abbrev gdJ:Option Code:=qV (aA 1 (aA 1 AS))
noncomputable abbrev gdLB:Option Code:=lpB (aA 1 gdJ)
theorem gt_ss_0(th st ga le re ti:Int)(np nl nt nk n i:Nat)(cp cl cc ck cn:Option Nat):follow [(0,true)] ((runK Tryz.prog S0 20 (.fn 20 [.agg [.int .i64 th,.int .i64 st,.int .i64 ga,.int .i64 le,.int .i64 re,.int .i64 ti,.slice 0 0 np cp,.slice 1 0 nl cl]]) (aT [.dead,.dead] [0,1])).bind (cD []))=some ([(decide ((np:Int)>100),true)],(.bool true,3,[])):=by kernel_rfl
theorem gt_ss_1(th st ga le re ti:Int)(np nl nt nk n i:Nat)(cp cl cc ck cn:Option Nat):follow [(0,false)] ((runK Tryz.prog S0 20 (.fn 20 [.agg [.int .i64 th,.int .i64 st,.int .i64 ga,.int .i64 le,.int .i64 re,.int .i64 ti,.slice 0 0 np cp,.slice 1 0 nl cl]]) (aT [.dead,.dead] [0,1])).bind (cD []))=some ([(decide ((np:Int)>100),false)],(.bool (decide ((nl:Int)>100)),3,[])):=by kernel_rfl
theorem gt_sn_0(th st ga le re ti:Int)(np nl nt nk n i:Nat)(cp cl cc ck cn:Option Nat):follow [(0,true)] ((runK Tryz.prog S0 20 (.fn 20 [.agg [.int .i64 th,.int .i64 st,.int .i64 ga,.int .i64 le,.int .i64 re,.int .i64 ti,.slice 0 0 np cp,aC]]) (aT [.dead,.dead] [0,1])).bind (cD []))=some ([(decide ((np:Int)>100),true)],(.bool true,3,[])):=by kernel_rfl
theorem gt_sn_1(th st ga le re ti:Int)(np nl nt nk n i:Nat)(cp cl cc ck cn:Option Nat):follow [(0,false)] ((runK Tryz.prog S0 20 (.fn 20 [.agg [.int .i64 th,.int .i64 st,.int .i64 ga,.int .i64 le,.int .i64 re,.int .i64 ti,.slice 0 0 np cp,aC]]) (aT [.dead,.dead] [0,1])).bind (cD []))=some ([(decide ((np:Int)>100),false)],(.bool false,3,[])):=by kernel_rfl
theorem gt_ns_0(th st ga le re ti:Int)(np nl nt nk n i:Nat)(cp cl cc ck cn:Option Nat):follow [] ((runK Tryz.prog S0 20 (.fn 20 [.agg [.int .i64 th,.int .i64 st,.int .i64 ga,.int .i64 le,.int .i64 re,.int .i64 ti,aC,.slice 1 0 nl cl]]) (aT [.dead,.dead] [0,1])).bind (cD []))=some ([],(.bool (decide ((nl:Int)>100)),3,[])):=by kernel_rfl
theorem gt_nn_0(th st ga le re ti:Int)(np nl nt nk n i:Nat)(cp cl cc ck cn:Option Nat):follow [] ((runK Tryz.prog S0 20 (.fn 20 [.agg [.int .i64 th,.int .i64 st,.int .i64 ga,.int .i64 le,.int .i64 re,.int .i64 ti,aC,aC]]) (aT [.dead,.dead] [0,1])).bind (cD []))=some ([],(.bool false,3,[])):=by kernel_rfl
theorem gd0_0(th st ga le re ti:Int)(np nl nt nk n i:Nat)(cp cl cc ck cn:Option Nat):∀x:Nat→SV,follow [] ((bB Tryz.prog (runK Tryz.prog S0 20) false (dX AS) 1 1 0 (aA 1 AS) (cJ 42 [(1,.ptr 0 0 0)] x) (aT [.dead] [0])).bind (dB [1,2] [] []))=some ([],(42,.normal,[],[.ptr 0 0 0,.bool false],1,[])):=by intro x;kernel_rfl
theorem gd1_0(th st ga le re ti:Int)(np nl nt nk n i:Nat)(cp cl cc ck cn:Option Nat):∀x:Nat→SV,follow [] ((bB Tryz.prog (runK Tryz.prog S0 20) false (dX oD) 0 1 0 (aA 1 oD) (cJ 42 [(1,.ptr 0 0 0),(2,.bool false)] x) (aT [.dead] [0])).bind (dB [1,2,4] [] []))=some ([],(42,.normal,[],[.ptr 0 0 0,.bool false,.ptr 0 0 0],1,[])):=by intro x;kernel_rfl
theorem gd2t_0(th st ga le re ti:Int)(np nl nt nk n i:Nat)(cp cl cc ck cn:Option Nat):∀x:Nat→SV,follow [] ((bB Tryz.prog (runK Tryz.prog S0 20) false (dX oD) 3 21 1 (aA 1 oD) (cJ 42 [(2,.bool false),(6,.bool true)] x) (aT [] [])).bind (dB [2] [] []))=some ([],(42,.ret,[],[.bool false],0,[])):=by intro x;kernel_rfl
theorem gd2f_0(th st ga le re ti:Int)(np nl nt nk n i:Nat)(cp cl cc ck cn:Option Nat):∀x:Nat→SV,follow [] ((bB Tryz.prog (runK Tryz.prog S0 20) false (dX oD) 3 2 0 (aA 1 oD) (cJ 42 [(1,.ptr 0 0 0),(2,.bool false),(6,.bool false)] x) (aT [.dead] [0])).bind (dB [1,2,7,8] [] []))=some ([],(42,.normal,[],[.ptr 0 0 0,.bool false,.bool false,.ptr 0 0 0],1,[])):=by intro x;kernel_rfl
theorem gd3f_0(th st ga le re ti:Int)(np nl nt nk n i:Nat)(cp cl cc ck cn:Option Nat):∀x:Nat→SV,follow [] ((bB Tryz.prog (runK Tryz.prog S0 20) false (dX oD) 7 17 1 (aA 1 oD) (cJ 42 [(2,.bool false),(7,.bool false),(10,.bool false)] x) (aT [] [])).bind (dB [2] [] []))=some ([],(42,.ret,[],[.bool false],0,[])):=by intro x;kernel_rfl
theorem gd3_ss_0(th st ga le re ti:Int)(np nl nt nk n i:Nat)(cp cl cc ck cn:Option Nat):∀x:Nat→SV,follow [(8,true)] ((bB Tryz.prog (runK Tryz.prog S0 20) false (dX oD) 7 17 1 (aA 1 oD) (cJ 42 [(1,.ptr 0 0 0),(2,.bool false),(7,.bool false),(10,.bool true)] x) (aT [.cells 28 10 [.int .i64 th,.any,.any,.any,.any,.any,.any,.any,.slice 1 0 nt cc,.slice 2 0 nk ck],.dead,.dead] [0,1,2])).bind (dB [1,2] [] []))=some ([(decide ((nt:Int)>th),true)],(42,.ret,[],[.ptr 0 0 0,.bool false],3,[])):=by intro x;kernel_rfl
theorem gd3_ss_1(th st ga le re ti:Int)(np nl nt nk n i:Nat)(cp cl cc ck cn:Option Nat):∀x:Nat→SV,follow [(8,false),(3,true)] ((bB Tryz.prog (runK Tryz.prog S0 20) false (dX oD) 7 17 1 (aA 1 oD) (cJ 42 [(1,.ptr 0 0 0),(2,.bool false),(7,.bool false),(10,.bool true)] x) (aT [.cells 28 10 [.int .i64 th,.any,.any,.any,.any,.any,.any,.any,.slice 1 0 nt cc,.slice 2 0 nk ck],.dead,.dead] [0,1,2])).bind (dB [1,2] [] []))=some ([(decide ((nt:Int)>th),false),(decide ((nk:Int)>600),true)],(42,.ret,[],[.ptr 0 0 0,.bool false],3,[])):=by intro x;kernel_rfl
theorem gd3_ss_2(th st ga le re ti:Int)(np nl nt nk n i:Nat)(cp cl cc ck cn:Option Nat):∀x:Nat→SV,follow [(8,false),(3,false)] ((bB Tryz.prog (runK Tryz.prog S0 20) false (dX oD) 7 17 1 (aA 1 oD) (cJ 42 [(1,.ptr 0 0 0),(2,.bool false),(7,.bool false),(10,.bool true)] x) (aT [.cells 28 10 [.int .i64 th,.any,.any,.any,.any,.any,.any,.any,.slice 1 0 nt cc,.slice 2 0 nk ck],.dead,.dead] [0,1,2])).bind (dB [1,2] [] []))=some ([(decide ((nt:Int)>th),false),(decide ((nk:Int)>600),false)],(42,.normal,[],[.ptr 0 0 0,.bool false],3,[])):=by intro x;kernel_rfl
theorem gd3_sn_0(th st ga le re ti:Int)(np nl nt nk n i:Nat)(cp cl cc ck cn:Option Nat):∀x:Nat→SV,follow [(8,true)] ((bB Tryz.prog (runK Tryz.prog S0 20) false (dX oD) 7 17 1 (aA 1 oD) (cJ 42 [(1,.ptr 0 0 0),(2,.bool false),(7,.bool false),(10,.bool true)] x) (aT [.cells 28 10 [.int .i64 th,.any,.any,.any,.any,.any,.any,.any,.slice 1 0 nt cc,aC],.dead,.dead] [0,1,2])).bind (dB [1,2] [] []))=some ([(decide ((nt:Int)>th),true)],(42,.ret,[],[.ptr 0 0 0,.bool false],3,[])):=by intro x;kernel_rfl
theorem gd3_sn_1(th st ga le re ti:Int)(np nl nt nk n i:Nat)(cp cl cc ck cn:Option Nat):∀x:Nat→SV,follow [(8,false)] ((bB Tryz.prog (runK Tryz.prog S0 20) false (dX oD) 7 17 1 (aA 1 oD) (cJ 42 [(1,.ptr 0 0 0),(2,.bool false),(7,.bool false),(10,.bool true)] x) (aT [.cells 28 10 [.int .i64 th,.any,.any,.any,.any,.any,.any,.any,.slice 1 0 nt cc,aC],.dead,.dead] [0,1,2])).bind (dB [1,2] [] []))=some ([(decide ((nt:Int)>th),false)],(42,.normal,[],[.ptr 0 0 0,.bool false],3,[])):=by intro x;kernel_rfl
theorem gd3_ns_0(th st ga le re ti:Int)(np nl nt nk n i:Nat)(cp cl cc ck cn:Option Nat):∀x:Nat→SV,follow [(9,true)] ((bB Tryz.prog (runK Tryz.prog S0 20) false (dX oD) 7 17 1 (aA 1 oD) (cJ 42 [(1,.ptr 0 0 0),(2,.bool false),(7,.bool false),(10,.bool true)] x) (aT [.cells 28 10 [.int .i64 th,.any,.any,.any,.any,.any,.any,.any,aC,.slice 2 0 nk ck],.dead,.dead] [0,1,2])).bind (dB [1,2] [] []))=some ([(decide ((0:Int)>th),true)],(42,.ret,[],[.ptr 0 0 0,.bool false],3,[])):=by intro x;kernel_rfl
theorem gd3_ns_1(th st ga le re ti:Int)(np nl nt nk n i:Nat)(cp cl cc ck cn:Option Nat):∀x:Nat→SV,follow [(9,false),(3,true)] ((bB Tryz.prog (runK Tryz.prog S0 20) false (dX oD) 7 17 1 (aA 1 oD) (cJ 42 [(1,.ptr 0 0 0),(2,.bool false),(7,.bool false),(10,.bool true)] x) (aT [.cells 28 10 [.int .i64 th,.any,.any,.any,.any,.any,.any,.any,aC,.slice 2 0 nk ck],.dead,.dead] [0,1,2])).bind (dB [1,2] [] []))=some ([(decide ((0:Int)>th),false),(decide ((nk:Int)>600),true)],(42,.ret,[],[.ptr 0 0 0,.bool false],3,[])):=by intro x;kernel_rfl
theorem gd3_ns_2(th st ga le re ti:Int)(np nl nt nk n i:Nat)(cp cl cc ck cn:Option Nat):∀x:Nat→SV,follow [(9,false),(3,false)] ((bB Tryz.prog (runK Tryz.prog S0 20) false (dX oD) 7 17 1 (aA 1 oD) (cJ 42 [(1,.ptr 0 0 0),(2,.bool false),(7,.bool false),(10,.bool true)] x) (aT [.cells 28 10 [.int .i64 th,.any,.any,.any,.any,.any,.any,.any,aC,.slice 2 0 nk ck],.dead,.dead] [0,1,2])).bind (dB [1,2] [] []))=some ([(decide ((0:Int)>th),false),(decide ((nk:Int)>600),false)],(42,.normal,[],[.ptr 0 0 0,.bool false],3,[])):=by intro x;kernel_rfl
theorem gd3_nn_0(th st ga le re ti:Int)(np nl nt nk n i:Nat)(cp cl cc ck cn:Option Nat):∀x:Nat→SV,follow [(9,true)] ((bB Tryz.prog (runK Tryz.prog S0 20) false (dX oD) 7 17 1 (aA 1 oD) (cJ 42 [(1,.ptr 0 0 0),(2,.bool false),(7,.bool false),(10,.bool true)] x) (aT [.cells 28 10 [.int .i64 th,.any,.any,.any,.any,.any,.any,.any,aC,aC],.dead,.dead] [0,1,2])).bind (dB [1,2] [] []))=some ([(decide ((0:Int)>th),true)],(42,.ret,[],[.ptr 0 0 0,.bool false],3,[])):=by intro x;kernel_rfl
theorem gd3_nn_1(th st ga le re ti:Int)(np nl nt nk n i:Nat)(cp cl cc ck cn:Option Nat):∀x:Nat→SV,follow [(9,false)] ((bB Tryz.prog (runK Tryz.prog S0 20) false (dX oD) 7 17 1 (aA 1 oD) (cJ 42 [(1,.ptr 0 0 0),(2,.bool false),(7,.bool false),(10,.bool true)] x) (aT [.cells 28 10 [.int .i64 th,.any,.any,.any,.any,.any,.any,.any,aC,aC],.dead,.dead] [0,1,2])).bind (dB [1,2] [] []))=some ([(decide ((0:Int)>th),false)],(42,.normal,[],[.ptr 0 0 0,.bool false],3,[])):=by intro x;kernel_rfl
theorem gd4_0(th st ga le re ti:Int)(np nl nt nk n i:Nat)(cp cl cc ck cn:Option Nat):∀x:Nat→SV,follow [] ((bB Tryz.prog (runK Tryz.prog S0 20) false #[] 0 0 1 gdJ (cJ 42 [(1,.ptr 0 0 0),(2,.bool false)] x) (aT [.dead] [0])).bind (dB [1,3] [] []))=some ([],(42,.normal,[],[.ptr 0 0 0,.int .i64 0],1,[])):=by intro x;kernel_rfl
theorem gdr_s_0(th st ga le re ti:Int)(np nl nt nk n i:Nat)(cp cl cc ck cn:Option Nat):∀x:Nat→SV,follow [(0,true),(0,true),(0,true),(0,true),(0,true)] ((bB Tryz.prog (runK Tryz.prog S0 20) false #[] 0 0 3 gdLB (cJ 42 [(1,.ptr 0 0 0),(3,.int .i64 i)] x) (aT [.cells 28 10 [.any,.any,.any,.any,.any,.any,.any,.any,.slice 1 0 nt cc,.any],.spot 48 1 i [.slice 2 0 n cn],.dead] [0,1,2])).bind (dB [2] [] []))=some ([(decide ((i:Int)<(nt:Int)),true),(decide (0≤(i:Int)),true),(decide ((i:Int)<(nt:Int)),true),(Nat.beq (aE 0 (Int.toNat (i:Int))) i,true),(decide ((n:Int)>8),true)],(42,.ret,[],[.bool false],3,[])):=by intro x;kernel_rfl
theorem gdr_s_1(th st ga le re ti:Int)(np nl nt nk n i:Nat)(cp cl cc ck cn:Option Nat):∀x:Nat→SV,follow [(0,true),(0,true),(0,true),(0,true),(0,false),(0,true)] ((bB Tryz.prog (runK Tryz.prog S0 20) false #[] 0 0 3 gdLB (cJ 42 [(1,.ptr 0 0 0),(3,.int .i64 i)] x) (aT [.cells 28 10 [.any,.any,.any,.any,.any,.any,.any,.any,.slice 1 0 nt cc,.any],.spot 48 1 i [.slice 2 0 n cn],.dead] [0,1,2])).bind (dB [1,3] [] []))=some ([(decide ((i:Int)<(nt:Int)),true),(decide (0≤(i:Int)),true),(decide ((i:Int)<(nt:Int)),true),(Nat.beq (aE 0 (Int.toNat (i:Int))) i,true),(decide ((n:Int)>8),false),(fits ((i:Int)+1),true)],(42,.normal,[],[.ptr 0 0 0,.int .i64 ((i:Int)+1)],3,[])):=by intro x;kernel_rfl
theorem gdr_n_0(th st ga le re ti:Int)(np nl nt nk n i:Nat)(cp cl cc ck cn:Option Nat):∀x:Nat→SV,follow [(0,true),(0,true),(0,true),(0,true),(2,true)] ((bB Tryz.prog (runK Tryz.prog S0 20) false #[] 0 0 3 gdLB (cJ 42 [(1,.ptr 0 0 0),(3,.int .i64 i)] x) (aT [.cells 28 10 [.any,.any,.any,.any,.any,.any,.any,.any,.slice 1 0 nt cc,.any],.spot 48 1 i [aC],.dead] [0,1,2])).bind (dB [1,3] [] []))=some ([(decide ((i:Int)<(nt:Int)),true),(decide (0≤(i:Int)),true),(decide ((i:Int)<(nt:Int)),true),(Nat.beq (aE 0 (Int.toNat (i:Int))) i,true),(fits ((i:Int)+1),true)],(42,.normal,[],[.ptr 0 0 0,.int .i64 ((i:Int)+1)],3,[])):=by intro x;kernel_rfl
theorem gdx_s_1(th st ga le re ti:Int)(np nl nt nk n i:Nat)(cp cl cc ck cn:Option Nat):∀x:Nat→SV,follow [(0,false)] ((bB Tryz.prog (runK Tryz.prog S0 20) false #[] 0 0 3 gdLB (cJ 42 [(1,.ptr 0 0 0),(3,.int .i64 i)] x) (aT [.cells 28 10 [.any,.any,.any,.any,.any,.any,.any,.any,.slice 1 0 nt cc,.any],.dead] [0,1])).bind (dB [1] [] []))=some ([(decide ((i:Int)<(nt:Int)),false)],(42,(.exit 0),[],[.ptr 0 0 0],2,[])):=by intro x;kernel_rfl
theorem gdx_n_0(th st ga le re ti:Int)(np nl nt nk n i:Nat)(cp cl cc ck cn:Option Nat):∀x:Nat→SV,follow [] ((bB Tryz.prog (runK Tryz.prog S0 20) false #[] 0 0 3 gdLB (cJ 42 [(1,.ptr 0 0 0),(3,.int .i64 0)] x) (aT [.cells 28 10 [.any,.any,.any,.any,.any,.any,.any,.any,aC,.any]] [0])).bind (dB [1] [] []))=some ([],(42,(.exit 0),[],[.ptr 0 0 0],1,[])):=by intro x;kernel_rfl
theorem gde_0(th st ga le re ti:Int)(np nl nt nk n i:Nat)(cp cl cc ck cn:Option Nat):∀x:Nat→SV,follow [] ((bB Tryz.prog (runK Tryz.prog S0 20) false #[] 0 0 2 (aA 1 (aA 1 (aA 1 AS))) (cJ 42 [] x) (aT [] [])).bind (dB [2] [] []))=some ([],(42,.ret,[],[.bool true],0,[])):=by intro x;kernel_rfl
end Go.Proofs.YtnkcbfgfkadoaaaGreat.Sx
namespace Go.Proofs.YtnkcbfgfkadoaaaGreat.Sx
open Go
set_option maxRecDepth 10000
theorem fn5_ok:fnOk 5 42 [2]=true:=by kernel_rfl
theorem gd_is1:isX (aA 1 AS)=true:=by kernel_rfl
theorem gd_is2:isX (aA 1 (aA 1 AS))=true:=by kernel_rfl
theorem gd_ok1:dL (aA 1 AS)=true:=by kernel_rfl
theorem jW:dL (aA 1 oD)=true:=by kernel_rfl
theorem gd_okJ:dL gdJ=true:=by kernel_rfl
theorem gd_lp:zV (aA 1 gdJ)=some 0:=by kernel_rfl
theorem gd_no:aA 1 (aA 1 gdJ)=none:=by kernel_rfl
theorem gd_noI:aA 1 (aA 1 oD)=none:=by kernel_rfl
theorem gd_okE:dL (aA 1 (aA 1 (aA 1 AS)))=true:=by kernel_rfl
theorem gd_ok:dL gdLB=true:=by kernel_rfl
theorem gd_tail:aA 3 gdLB=none:=by kernel_rfl
theorem gd_rg0:rgB AS=some 2:=by kernel_rfl
theorem gd_rg1:rgB oD=some 24:=by kernel_rfl
theorem gd_all0:(dX AS).toList.all (fun o=>dR o.op)=true:=by kernel_rfl
theorem fB:(dX oD).toList.all (fun o=>dR o.op)=true:=by kernel_rfl
theorem gd_len0:Nat.beq (1+1) (dX AS).toList.length=true:=by kernel_rfl
theorem gd_bx:((dX AS).toList[0]?).bind bxO=some (28,0,some 1,none):=by kernel_rfl
theorem gd_sz:recSz Tryz.prog 28=10:=by kernel_rfl
theorem gd_ag:agN Tryz.prog 24=some 8:=by kernel_rfl
theorem gd_ld1:((dX oD).toList[1]?).bind ldO=some (24,4,some 5,none):=by kernel_rfl
theorem gd_ca2:((dX oD).toList[2]?).bind rY=some (20,[.tmp 5],some 6):=by kernel_rfl
theorem gd_ld5:((dX oD).toList[5]?).bind ldO=some (24,8,some 9,some (3,false)):=by kernel_rfl
theorem gd_ds3:mG (dX oD).toList 3=some 7:=by kernel_rfl
theorem gd_ca6:((dX oD).toList[6]?).bind callG=some (21,[.tmp 9],some 10,3,false):=by kernel_rfl
structure RowsA(h:H)(cs:Option (Nat×Option Nat))(rows:List (Option rE)):Prop where
 no:cs=none→rows=[]
 cl:∀x,cs=some x→h.get x.1=.cells 48 1 (rows.map crSV)∧x.1<h.n
 row:∀x,some x∈rows→h.get x.r=.cells 37 3 (mD x.cl)∧x.r<h.n∧x.n≤x.cl.length
theorem RowsA.grow{h h1:H}{cs:Option (Nat×Option Nat)}{rows:List (Option rE)}(A:RowsA h cs rows)(g:jO h h1):RowsA h1 cs rows:=
 ⟨A.no,fun x hx=>by obtain⟨a1,a2⟩:=A.cl x hx;exact⟨(g.old _ a2).trans a1,by have:=g.n;omega⟩,fun x hx=>by obtain⟨a1,a2,a3⟩:=A.row x hx;exact⟨(g.old _ a2).trans a1,by have:=g.n;omega,a3⟩⟩
structure RowsB(h:H)(cs:Option (Nat×Option Nat))(rows:List (Option rE)):Prop where
 no:cs=none→rows=[]
 lt:∀x,cs=some x→x.1<h.n
 ok:rows.length≤8→RowsA h cs rows
theorem RowsB.grow{h h1:H}{cs:Option (Nat×Option Nat)}{rows:List (Option rE)}(A:RowsB h cs rows)(g:jO h h1):RowsB h1 cs rows:=
 ⟨A.no,fun x hx=>by have:=A.lt x hx;have:=g.n;omega,fun h8=>(A.ok h8).grow g⟩
section
variable{h:H}{th st ga le re ti:Int}{pP pL:Option (Nat×Nat×Option Nat)}{PL LL:List Int}{cs:Option (Nat×Option Nat)}{rows:List (Option rE)}{K:Nat}{ck:Option Nat}{pv:List Int}{nil:Bool}
theorem great_spec(hP:∀x,pP=some x→x.1<h.n)(hL:∀x,pL=some x→x.1<h.n)(h0:0<h.n)(room:h.n+10≤1000000):
 lJ Tryz.prog 20 [.agg [.int .i64 th,.int .i64 st,.int .i64 ga,.int .i64 le,.int .i64 re,.int .i64 ti,slO pP,slO pL]] h (fun v h'=>∃b,v=.bool b∧h'=h.lay 1 []):=by
 have ftd:∀{X Y:Nat},X<h.n→Y<h.n→h.n≤1000000→Fit h (aT [.dead,.dead] [0,1]) (nm [X,Y]):=fun{X Y} hX hY _=>aX (R:=[0,1]) (os:=[.dead,.dead]) (ns:=[X,Y]) ⟨hX,bE rfl aZ,hY,bE rfl aZ,trivial⟩ (by simp[aQ,SO.lives]) (by simp) (by omega)
 cases pP with
 |none=>
  cases pL with
  |none=>exact(cP (K:=1) (j:=[]) (ns:=[0,0]) (os:=[]) bW (aH _) (gt_nn_0 th st ga le re ti 0 0 0 0 0 0 none none none none none) trivial trivial (ftd h0 h0) rfl rfl rfl (by simp) (by simp) (by omega)).toE.imp fun v h' e=>⟨_,e.1,e.2⟩
  |some y=>exact(cP (K:=1) (j:=[]) (ns:=[0,y.1]) (os:=[]) bW (aH _) (gt_ns_0 th st ga le re ti 0 y.2.1 0 0 0 0 none y.2.2 none none none) trivial trivial (ftd h0 (hL _ rfl)) rfl rfl rfl (by simp) (by simp) (by omega)).toE.imp fun v h' e=>⟨_,e.1,e.2⟩
 |some x=>
  by_cases c:(x.2.1:Int)>100
  ·cases pL with
   |none=>exact(cP (K:=1) (j:=[]) (ns:=[x.1,0]) (os:=[]) bW (aH _) (gt_sn_0 th st ga le re ti x.2.1 0 0 0 0 0 x.2.2 none none none none) (aU (decide_eq_true c) trivial) trivial (ftd (hP _ rfl) h0) rfl rfl rfl (by simp) (by simp) (by omega)).toE.imp fun v h' e=>⟨_,e.1,e.2⟩
   |some y=>exact(cP (K:=1) (j:=[]) (ns:=[x.1,y.1]) (os:=[]) bW (aH _) (gt_ss_0 th st ga le re ti x.2.1 y.2.1 0 0 0 0 x.2.2 y.2.2 none none none) (aU (decide_eq_true c) trivial) trivial (ftd (hP _ rfl) (hL _ rfl)) rfl rfl rfl (by simp) (by simp) (by omega)).toE.imp fun v h' e=>⟨_,e.1,e.2⟩
  ·cases pL with
   |none=>exact(cP (K:=1) (j:=[]) (ns:=[x.1,0]) (os:=[]) bW (aH _) (gt_sn_1 th st ga le re ti x.2.1 0 0 0 0 0 x.2.2 none none none none) (aU (decide_eq_false c) trivial) trivial (ftd (hP _ rfl) h0) rfl rfl rfl (by simp) (by simp) (by omega)).toE.imp fun v h' e=>⟨_,e.1,e.2⟩
   |some y=>exact(cP (K:=1) (j:=[]) (ns:=[x.1,y.1]) (os:=[]) bW (aH _) (gt_ss_1 th st ga le re ti x.2.1 y.2.1 0 0 0 0 x.2.2 y.2.2 none none none) (aU (decide_eq_false c) trivial) trivial (ftd (hP _ rfl) (hL _ rfl)) rfl rfl rfl (by simp) (by simp) (by omega)).toE.imp fun v h' e=>⟨_,e.1,e.2⟩
def GdR(h:H)(th st ga le re ti:Int)(pP pL:Option (Nat×Nat×Option Nat))(PL LL:List Int)(rows:List (Option rE))(pv:List Int)(v:SV)(h':H):Prop:=∃b,v=.bool b∧jO h h'∧h'.n≤h.n+500∧(b=true→(∃P L cp cl,pP=some (P,PL.length,cp)∧pL=some (L,PL.length,cl))∧LL.length=PL.length∧AH th st ga le re ti PL∧
 (rows.length:Int)≤th∧pv.length≤600∧∀x,some x∈rows→x.n≤8)
def tW(th st ga le re ti:Int)(pP pL:Option (Nat×Nat×Option Nat))(cs:Option (Nat×Option Nat))(nr:Nat)(K:Nat)(ck:Option Nat)(pv:List Int)(nil:Bool):List SV:=[.int .i64 th,.int .i64 st,.int .i64 ga,.int .i64 le,.int .i64 re,.int .i64 ti,slO pP,slO pL,vD cs nr,tS K ck pv nil]
theorem wk_box{l l':List SV}(hl:l'.length=l.length)(h:∀(i:Nat) v v',l[i]?=some v→l'[i]?=some v'→v'=v∨(v'=.any∧v.one=true)):Wk (.cells 28 10 l) (.cells 28 10 l'):=zI hl h
theorem slO_one(p:Option (Nat×Nat×Option Nat)):(slO p).one=true:=by cases p<;>rfl
theorem csSV_one(p:Option (Nat×Option Nat))(k:Nat):(vD p k).one=true:=by cases p<;>rfl
theorem pkSV_one(K:Nat)(ck:Option Nat)(pv:List Int)(b:Bool):(tS K ck pv b).one=true:=by cases b<;>rfl
end
end Go.Proofs.YtnkcbfgfkadoaaaGreat.Sx
