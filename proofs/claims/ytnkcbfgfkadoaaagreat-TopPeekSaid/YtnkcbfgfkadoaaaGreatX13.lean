/- Part 13 of the proof of TopPeek. -/
import Derived.Test.YtnkcbfgfkadoaaaGreatX12
set_option linter.all false
namespace Go.Proofs.YtnkcbfgfkadoaaaGreat.Sx
open Go
set_option maxRecDepth 100000
structure aR where
 avail:Int
 lease:Int
 node:Int
 n:Int
 limit:Int
 nx:Int
 had:Int
 saw:Int
 extra:Int
 e1:Int
 e2:Int
 e3:Bool
 e4:Int
def aR.o(s:aR):SO:=.cells 193 13 [.int .i64 s.avail,.int .i64 s.lease,.int .i64 s.node,.int .i64 s.n,.int .i64 s.limit,.int .i64 s.nx,.int .i64 s.had,.int .i64 s.saw,.int .i64 s.extra,.int .i64 s.e1,.int .i64 s.e2,.bool s.e3,.int .i64 s.e4]
noncomputable def aJ(s:aR)(W:List Int):aR×List Int:=match s.nx with
 |0=>({s with had:=W.getD s.lease.toNat 0,nx:=if W.getD s.lease.toNat 0≥s.n then 1 else 2},W)
 |1=>if(W.getD s.lease.toNat 0==s.had)=true then({s with nx:=7},W.set s.lease.toNat (IntKind.wrap .i64 (s.had-s.n)))else({s with nx:=0},W)
 |2=>if W.getD s.avail.toNat 0<s.n then({s with saw:=W.getD s.avail.toNat 0,nx:=7,e1:=4,e2:=0,e3:=false,e4:=s.node},W)
  else({s with saw:=W.getD s.avail.toNat 0,nx:=3,extra:=if IntKind.wrap .i64 (Int.tdiv s.limit 2)<IntKind.wrap .i64 (W.getD s.avail.toNat 0-s.n)then IntKind.wrap .i64 (Int.tdiv s.limit 2)else IntKind.wrap .i64 (W.getD s.avail.toNat 0-s.n)},W)
 |3=>if(W.getD s.avail.toNat 0==s.saw)=true then({s with nx:=if(s.extra==0)=true then 7 else 4},W.set s.avail.toNat (IntKind.wrap .i64 (IntKind.wrap .i64 (s.saw-s.n)-s.extra)))else({s with nx:=2},W)
 |4=>({s with had:=W.getD s.lease.toNat 0,nx:=if IntKind.wrap .i64 (W.getD s.lease.toNat 0+s.extra)≤s.limit then 5 else 6},W)
 |5=>if(W.getD s.lease.toNat 0==s.had)=true then({s with nx:=7},W.set s.lease.toNat (IntKind.wrap .i64 (s.had+s.extra)))else({s with nx:=4},W)
 |6=>({s with nx:=7},plus s.avail s.extra W)
 |_=>(s,W)
structure iN(s:aR)(W:List Int):Prop where
 avail:0≤s.avail∧s.avail<W.length
 lease:0≤s.lease∧s.lease<W.length
 nx:s.nx=0∨s.nx=1∨s.nx=2∨s.nx=3∨s.nx=4∨s.nx=5∨s.nx=6
theorem pool_step{s:aR}{W:List Int}{nL:Nat}{c:Option Nat}(p:iN s W)(hL:nL+1≤1000000000):StepT 222 s.o W W.length nL c (.bool (decide ((aJ s W).1.nx=7))) (aJ s W).1.o (aJ s W).2:=by
 obtain⟨avail,lease,node,n,limit,nx,had,saw,extra,e1,e2,e3,e4⟩:=s;have ha:=p.avail;have hl:=p.lease;simp only at ha hl;rcases p.nx with h|h|h|h|h|h|h<;>simp only at h<;>subst h
 ·by_cases hc:W.getD lease.toNat 0≥n
  ·have e:(aJ ⟨avail,lease,node,n,limit,0,had,saw,extra,e1,e2,e3,e4⟩ W)=(⟨avail,lease,node,n,limit,1,W.getD lease.toNat 0,saw,extra,e1,e2,e3,e4⟩,W):=by simp only[aJ];rw[if_pos hc]
   rw[e];exact⟨_,_,_,_,pool_0_0 avail lease node n limit 0 had saw extra e1 e2 e4 e3 W W.length nL c,⟨dK hl.1 hl.2 hL,decide_eq_true hc,trivial⟩,by omega,by omega,by omega⟩
  ·have e:(aJ ⟨avail,lease,node,n,limit,0,had,saw,extra,e1,e2,e3,e4⟩ W)=(⟨avail,lease,node,n,limit,2,W.getD lease.toNat 0,saw,extra,e1,e2,e3,e4⟩,W):=by simp only[aJ];rw[if_neg hc]
   rw[e];exact⟨_,_,_,_,pool_0_1 avail lease node n limit 0 had saw extra e1 e2 e4 e3 W W.length nL c,⟨dK hl.1 hl.2 hL,decide_eq_false hc,trivial⟩,by omega,by omega,by omega⟩
 ·cases hc:(W.getD lease.toNat 0==had)
  ·have e:(aJ ⟨avail,lease,node,n,limit,1,had,saw,extra,e1,e2,e3,e4⟩ W)=(⟨avail,lease,node,n,limit,0,had,saw,extra,e1,e2,e3,e4⟩,W):=by simp only[aJ,hc];rfl
   rw[e];exact⟨_,_,_,_,pool_1_1 avail lease node n limit 0 had saw extra e1 e2 e4 e3 W W.length nL c,⟨dK hl.1 hl.2 hL,hc,trivial⟩,by omega,by omega,by omega⟩
  ·have e:(aJ ⟨avail,lease,node,n,limit,1,had,saw,extra,e1,e2,e3,e4⟩ W)=(⟨avail,lease,node,n,limit,7,had,saw,extra,e1,e2,e3,e4⟩,W.set lease.toNat (IntKind.wrap .i64 (had-n))):=by simp only[aJ,hc];rfl
   rw[e];exact⟨_,_,_,_,pool_1_0 avail lease node n limit 0 had saw extra e1 e2 e4 e3 W W.length nL c,⟨dK hl.1 hl.2 hL,hc,trivial⟩,by omega,by omega,by omega⟩
 ·by_cases hc:W.getD avail.toNat 0<n
  ·have e:(aJ ⟨avail,lease,node,n,limit,2,had,saw,extra,e1,e2,e3,e4⟩ W)=(⟨avail,lease,node,n,limit,7,had,W.getD avail.toNat 0,extra,4,0,false,node⟩,W):=by simp only[aJ];rw[if_pos hc]
   rw[e];exact⟨_,_,_,_,pool_2_0 avail lease node n limit 0 had saw extra e1 e2 e4 e3 W W.length nL c,⟨dK ha.1 ha.2 hL,decide_eq_true hc,trivial⟩,by omega,by omega,by omega⟩
  ·have e:(aJ ⟨avail,lease,node,n,limit,2,had,saw,extra,e1,e2,e3,e4⟩ W)=(⟨avail,lease,node,n,limit,3,had,W.getD avail.toNat 0,if IntKind.wrap .i64 (Int.tdiv limit 2)<IntKind.wrap .i64 (W.getD avail.toNat 0-n)then IntKind.wrap .i64 (Int.tdiv limit 2)else IntKind.wrap .i64 (W.getD avail.toNat 0-n),e1,e2,e3,e4⟩,W):=by simp only[aJ];rw[if_neg hc]
   rw[e];exact⟨_,_,_,_,pool_2_1 avail lease node n limit 0 had saw extra e1 e2 e4 e3 W W.length nL c,⟨dK ha.1 ha.2 hL,decide_eq_false hc,trivial⟩,by omega,by omega,by omega⟩
 ·cases hc:(W.getD avail.toNat 0==saw)
  ·have e:(aJ ⟨avail,lease,node,n,limit,3,had,saw,extra,e1,e2,e3,e4⟩ W)=(⟨avail,lease,node,n,limit,2,had,saw,extra,e1,e2,e3,e4⟩,W):=by simp only[aJ,hc];rfl
   rw[e];exact⟨_,_,_,_,pool_3_2 avail lease node n limit 0 had saw extra e1 e2 e4 e3 W W.length nL c,⟨dK ha.1 ha.2 hL,hc,trivial⟩,by omega,by omega,by omega⟩
  ·cases hx:(extra==0)
   ·have e:(aJ ⟨avail,lease,node,n,limit,3,had,saw,extra,e1,e2,e3,e4⟩ W)=(⟨avail,lease,node,n,limit,4,had,saw,extra,e1,e2,e3,e4⟩,W.set avail.toNat (IntKind.wrap .i64 (IntKind.wrap .i64 (saw-n)-extra))):=by simp only[aJ,hc,hx];rfl
    rw[e];exact⟨_,_,_,_,pool_3_1 avail lease node n limit 0 had saw extra e1 e2 e4 e3 W W.length nL c,⟨dK ha.1 ha.2 hL,hc,hx,trivial⟩,by omega,by omega,by omega⟩
   ·have e:(aJ ⟨avail,lease,node,n,limit,3,had,saw,extra,e1,e2,e3,e4⟩ W)=(⟨avail,lease,node,n,limit,7,had,saw,extra,e1,e2,e3,e4⟩,W.set avail.toNat (IntKind.wrap .i64 (IntKind.wrap .i64 (saw-n)-extra))):=by simp only[aJ,hc,hx];rfl
    rw[e];exact⟨_,_,_,_,pool_3_0 avail lease node n limit 0 had saw extra e1 e2 e4 e3 W W.length nL c,⟨dK ha.1 ha.2 hL,hc,hx,trivial⟩,by omega,by omega,by omega⟩
 ·by_cases hc:IntKind.wrap .i64 (W.getD lease.toNat 0+extra)≤limit
  ·have e:(aJ ⟨avail,lease,node,n,limit,4,had,saw,extra,e1,e2,e3,e4⟩ W)=(⟨avail,lease,node,n,limit,5,W.getD lease.toNat 0,saw,extra,e1,e2,e3,e4⟩,W):=by simp only[aJ];rw[if_pos hc]
   rw[e];exact⟨_,_,_,_,pool_4_0 avail lease node n limit 0 had saw extra e1 e2 e4 e3 W W.length nL c,⟨dK hl.1 hl.2 hL,decide_eq_true hc,trivial⟩,by omega,by omega,by omega⟩
  ·have e:(aJ ⟨avail,lease,node,n,limit,4,had,saw,extra,e1,e2,e3,e4⟩ W)=(⟨avail,lease,node,n,limit,6,W.getD lease.toNat 0,saw,extra,e1,e2,e3,e4⟩,W):=by simp only[aJ];rw[if_neg hc]
   rw[e];exact⟨_,_,_,_,pool_4_1 avail lease node n limit 0 had saw extra e1 e2 e4 e3 W W.length nL c,⟨dK hl.1 hl.2 hL,decide_eq_false hc,trivial⟩,by omega,by omega,by omega⟩
 ·cases hc:(W.getD lease.toNat 0==had)
  ·have e:(aJ ⟨avail,lease,node,n,limit,5,had,saw,extra,e1,e2,e3,e4⟩ W)=(⟨avail,lease,node,n,limit,4,had,saw,extra,e1,e2,e3,e4⟩,W):=by simp only[aJ,hc];rfl
   rw[e];exact⟨_,_,_,_,pool_5_1 avail lease node n limit 0 had saw extra e1 e2 e4 e3 W W.length nL c,⟨dK hl.1 hl.2 hL,hc,trivial⟩,by omega,by omega,by omega⟩
  ·have e:(aJ ⟨avail,lease,node,n,limit,5,had,saw,extra,e1,e2,e3,e4⟩ W)=(⟨avail,lease,node,n,limit,7,had,saw,extra,e1,e2,e3,e4⟩,W.set lease.toNat (IntKind.wrap .i64 (had+extra))):=by simp only[aJ,hc];rfl
   rw[e];exact⟨_,_,_,_,pool_5_0 avail lease node n limit 0 had saw extra e1 e2 e4 e3 W W.length nL c,⟨dK hl.1 hl.2 hL,hc,trivial⟩,by omega,by omega,by omega⟩
 ·exact⟨_,_,_,_,pool_6_0 avail lease node n limit 0 had saw extra e1 e2 e4 e3 W W.length nL c,⟨dK ha.1 ha.2 hL,trivial⟩,by omega,by omega,by omega⟩
noncomputable def stepK(h:H)(a M:Nat)(c:List Int→Prop)(F:List Int→SV×SO×List Int):Out (SV×H):=match h.get M with
 |.cells 107 2 [.slice wp 0 nW c0,.slice lp 0 nL none]=>match h.get wp,h.get lp with
  |.ints 3 1 W,.any 122 5 nA=>.chk (okK h a&&okK h M&&okK h wp&&okK h lp&&!Nat.beq a M&&!Nat.beq a wp&&!Nat.beq a lp&&!Nat.beq M wp&&!Nat.beq M lp&&!Nat.beq wp lp&&Nat.blt a h.n&&Nat.blt M h.n&&Nat.blt wp h.n&&Nat.blt lp h.n&&Nat.ble (h.n+36) 1000000)
   (.chk (@decide (c W∧nW=W.length∧nA=nL∧nL+1≤1000000000) (Classical.propDecidable _))
    (match F W with
     |(v,o,W')=>.ret (v,h.lay 36 [(a,o),(M,.cells 107 2 [.slice wp 0 nW c0,.slice h.n 0 (nL+1) none]),(wp,.ints 3 1 W'),(lp,.dead),(h.n,.any 122 5 (nL+1))])))
  |_,_=>.fail
 |_=>.fail
theorem stepK_ok{f:Nat}{o:SO}{h:H}{a M:Nat}{c:List Int→Prop}{F:List Int→SV×SO×List Int}{r:SV×H}(hg:(stepK h a M c F).go=some r)(ga:h.get a=o)(ho:∀q,o.ren q=o)(hp:o.plain=true)(hl:o.lives=true)
 (T:∀(W:List Int) nL c0,c W→nL+1≤1000000000→StepT f o W W.length nL c0 (F W).1 (F W).2.1 (F W).2.2∧(∀q,(F W).2.1.ren q=(F W).2.1)∧(∀q,(F W).1.ren q=(F W).1)∧(F W).2.1.plain=true):Spec Tryz.prog (.fn f [.ptr a 0 0,.ptr M 0 0]) h r:=by
 unfold stepK at hg;split at hg
 ·rename_i wp nW c0 lp nL gM
  split at hg
  ·rename_i W nA gW gL
   obtain⟨hc,hg⟩:=Out.chk_go hg;obtain⟨hd,hg⟩:=Out.chk_go hg;have hd:=@of_decide_eq_true _ (Classical.propDecidable _) hd;obtain⟨d1,d2,d3,d4⟩:=hd;subst d2;subst d3;have:=Out.ret_go hg;subst this;simp only[Bool.and_eq_true]at hc;obtain⟨⟨⟨⟨⟨⟨⟨⟨⟨⟨⟨⟨⟨⟨c1,c2⟩,c3⟩,c4⟩,c5⟩,c6⟩,c7⟩,c8⟩,c9⟩,c10⟩,c11⟩,c12⟩,c13⟩,c14⟩,c15⟩:=hc;obtain⟨t1,t2,t3,t4⟩:=T W nA c0 d1 d4;exact step_spec t1 ho t2 t3 hp t4 hl ga gM gW gL c1 c2 c3 c4 (by simp[fT c5,fT c6,fT c7,fT c8,fT c9,fT c10]) (aF.1 c11) (aF.1 c12) (aF.1 c13) (aF.1 c14) (Nat.le_of_ble_eq_true c15)
  ·cases hg
 ·cases hg
theorem fV_ren(q:Nat→Nat)(f:Nat):(fV f).ren q=fV f:=by cases f<;>rfl
theorem vW(q:Nat→Nat)(s:cG):s.o.ren q=s.o:=by simp only[cG.o,aO,SO.ren,SV.rens,SV.ren,fV_ren]
noncomputable def machK:cI:=fun t h=>match t with
 |.fn 227 [.ptr a 0 0,.ptr M 0 0]=>match h.get a with
  |.cells 201 10 [.int .i64 base,.int .i64 stripes,.int .i64 gate,.int .i64 d,.int .i64 x,.int .i64 lives,.int .i64 stripe,.int .i64 w,.int .i64 v,.func (.func (n+1)) [] []]=>
   some (stepK h a M (mN ⟨base,stripes,gate,d,x,lives,stripe,w,v,n+1⟩) fun W=>(.bool (Nat.beq (bJ ⟨base,stripes,gate,d,x,lives,stripe,w,v,n+1⟩ W).1.nf 0),(bJ ⟨base,stripes,gate,d,x,lives,stripe,w,v,n+1⟩ W).1.o,(bJ ⟨base,stripes,gate,d,x,lives,stripe,w,v,n+1⟩ W).2))
  |_=>none
 |.fn 222 [.ptr a 0 0,.ptr M 0 0]=>match h.get a with
  |.cells 193 13 [.int .i64 avail,.int .i64 lease,.int .i64 node,.int .i64 n,.int .i64 limit,.int .i64 nx,.int .i64 had,.int .i64 saw,.int .i64 extra,.int .i64 e1,.int .i64 e2,.bool e3,.int .i64 e4]=>
   some (stepK h a M (iN ⟨avail,lease,node,n,limit,nx,had,saw,extra,e1,e2,e3,e4⟩) fun W=>(.bool (decide ((aJ ⟨avail,lease,node,n,limit,nx,had,saw,extra,e1,e2,e3,e4⟩ W).1.nx=7)),(aJ ⟨avail,lease,node,n,limit,nx,had,saw,extra,e1,e2,e3,e4⟩ W).1.o,(aJ ⟨avail,lease,node,n,limit,nx,had,saw,extra,e1,e2,e3,e4⟩ W).2))
  |_=>none
 |_=>none
theorem mach_sound:cX Tryz.prog machK:=fun f args h o r ho hg=>by
 unfold machK at ho;split at ho
 ·rename_i a M heq
  injection heq with e1 e2;subst e1;subst e2;split at ho
  ·rename_i base stripes gate d x lives stripe w v n ga
   injection ho with ho;subst ho;refine stepK_ok hg (o:=cG.o ⟨base,stripes,gate,d,x,lives,stripe,w,v,n+1⟩) ga (fun q=>vW q _) rfl rfl fun W nL c0 hp hL=>⟨add_step hp hL,fun q=>vW q _,fun _=>rfl,rfl⟩
  ·cases ho
 ·rename_i a M heq
  injection heq with e1 e2;subst e1;subst e2;split at ho
  ·rename_i avail lease node n limit nx had saw extra e1 e2 e3 e4 ga
   injection ho with ho;subst ho;refine stepK_ok hg (o:=aR.o ⟨avail,lease,node,n,limit,nx,had,saw,extra,e1,e2,e3,e4⟩) ga (fun q=>rfl) rfl rfl fun W nL c0 hp hL=>⟨pool_step hp hL,fun q=>rfl,fun _=>rfl,rfl⟩
  ·cases ho
 ·cases ho
attribute[irreducible] aJ
noncomputable def K2:cI:=orK machK K1
theorem k2_sound:cX Tryz.prog K2:=fW mach_sound k1_sound
end Go.Proofs.YtnkcbfgfkadoaaaGreat.Sx
namespace Go.Proofs.YtnkcbfgfkadoaaaGreat.Sx
open Go
noncomputable def bR(f:Nat):Code:=match Tryz.prog.funcs[f]?with
 |some fn=>match fn.body with
  |some c=>c
  |none=>.skip
 |none=>.skip
def rO:Nat→Code→Code
 |0,c=>c
 |n+1,.seq _ d=>rO n d
 |_+1,c=>c
section
variable{P:Program}{S:cI}{n:Nat}{Q:Exit→Act→World→Prop}
def preC(P:Program)(K:pY)(bY:Bool):Nat→Code→SA→H→Out (SX×SA×H)
 |0,_,a,h=>.ret (.normal,a,h)
 |k+1,.seq c d,a,h=>(code P K bY false c a h).bind fun r=>match r with
  |(.normal,a,h)=>preC P K bY k d a h
  |r=>.ret r
 |_+1,_,_,_=>.fail
def goOn(Q:Exit→Act→World→Prop)(d:Code)(n:Nat)(P:Program)(x:SX)(a:Act)(w:World):Prop:=match x with
 |.normal=>d.wpIn Fence.wide n P Q a w
 |x=>Q (exOf x) a w
theorem pre_ok(X:wV P){K:pY}(hK:KOK P K){bY:Bool}:∀(k:Nat) (c:Code) (sa iS:SA) (h h':H) (x:SX) (ρ:bF) (a:Act) (w:World),eF c=true→(preC P K bY k c sa h).go=some (x,iS,h')→AR ρ sa a→HR ρ h w→
 (∀aW a' w',AR aW iS a'→HR aW h' w'→FR ρ h w aW h' w'→goOn Q (rO k c) n P x a' w')→c.wpIn Fence.wide n P Q a w
 |0,c,sa,iS,h,h',x,ρ,a,w,dE,hg,ha,hr,hq=>by
  have:=Out.ret_go hg;injection this with e1 e2;injection e2 with e2 e3;subst e1;subst e2;subst e3;exact hq ρ a w ha hr (.refl hr)
 |k+1,c,sa,iS,h,h',x,ρ,a,w,dE,hg,ha,hr,hq=>by
  cases c with
  |seq c d=>
   simp only[eF,Bool.and_eq_true]at dE;unfold preC at hg;obtain⟨⟨x1,BA,h1⟩,g1,g2⟩:=Out.bind_go hg;refine wpIn_seq (jD X.tab X.mixed rM hK (fun _=>rfl) c sa BA h h1 x1 ρ a w dE.1 g1 ha hr fun dQ a1 w1 p1 p2 p3=>?_);cases x1 with
   |normal=>exact pre_ok X hK k d BA iS h1 h' x dQ a1 w1 dE.2 g2 p1 p2 fun aW a' w' q1 q2 q3=>hq aW a' w' q1 q2 (p3.trans hr p2 q3)
   |exit j=>
    have:=Out.ret_go g2;injection this with e1 e2;injection e2 with e2 e3;subst e1;subst e2;subst e3;exact hq _ _ _ p1 p2 p3
   |ret=>
    have:=Out.ret_go g2;injection this with e1 e2;injection e2 with e2 e3;subst e1;subst e2;subst e3;exact hq _ _ _ p1 p2 p3
  |_=>cases hg
variable{h s':H}{objs os oV:List SO}{R ns ls:List Nat}{N m K:Nat}{j:List Nat}{ρ uI:bF}{w w':World}
end
theorem raws_ex:∀(us:List Value),(∀u∈us,∃s:SV,∀ρ,VR ρ s u)→∃l:List SV,∀ρ,bM ρ l us
 |[],_=>⟨[],fun _=>by simp[bM]⟩
 |u::us,h=>by
  obtain⟨s,h1⟩:=h u (by simp);obtain⟨l,h2⟩:=raws_ex us fun v hv=>h v (by simp[hv])
  exact⟨s::l,fun ρ=>by simp only[bM];exact⟨h1 ρ,h2 ρ⟩⟩
theorem rQ(u:Value):∃s:SV,∀ρ,VR ρ s u:=by
 match u with
 |.agg cs=>
  obtain⟨l,h⟩:=raws_ex cs.toList fun v hv=>rQ v
  exact⟨.agg l,fun ρ=>by simp only[VR];exact⟨cs,rfl,h ρ⟩⟩
 |.tuple cs=>
  obtain⟨l,h⟩:=raws_ex cs.toList fun v hv=>rQ v
  exact⟨.tup l,fun ρ=>by simp only[VR];exact⟨cs,rfl,h ρ⟩⟩
 |.bool b=>exact⟨.val (.bool b),fun ρ=>by simp[VR,Value.oneCell']⟩
 |.int k n=>exact⟨.val (.int k n),fun ρ=>by simp[VR,Value.oneCell']⟩
 |.float k b=>exact⟨.val (.float k b),fun ρ=>by simp[VR,Value.oneCell']⟩
 |.complex k a b=>exact⟨.val (.complex k a b),fun ρ=>by simp[VR,Value.oneCell']⟩
 |.string b=>exact⟨.val (.string b),fun ρ=>by simp[VR,Value.oneCell']⟩
 |.pointer b=>exact⟨.val (.pointer b),fun ρ=>by simp[VR,Value.oneCell']⟩
 |.slice a b c=>exact⟨.val (.slice a b c),fun ρ=>by simp[VR,Value.oneCell']⟩
 |.map b=>exact⟨.val (.map b),fun ρ=>by simp[VR,Value.oneCell']⟩
 |.chan b=>exact⟨.val (.chan b),fun ρ=>by simp[VR,Value.oneCell']⟩
 |.func a b c=>exact⟨.val (.func a b c),fun ρ=>by simp[VR,Value.oneCell']⟩
 |.nilFunc=>exact⟨.val .nilFunc,fun ρ=>by simp[VR,Value.oneCell']⟩
 |.iface a b=>exact⟨.val (.iface a b),fun ρ=>by simp[VR,Value.oneCell']⟩
 |.nilIface=>exact⟨.val .nilIface,fun ρ=>by simp[VR,Value.oneCell']⟩
termination_by SizeOf.sizeOf u
decreasing_by
 all_goals
  have:=Array.sizeOf_lt_of_mem (Array.mem_toList_iff.1 hv)
  simp_wf
  omega
end Go.Proofs.YtnkcbfgfkadoaaaGreat.Sx
namespace Go.Proofs.YtnkcbfgfkadoaaaGreat.Sx
open Go
set_option maxRecDepth 100000
def dA(base:Int)(st:Nat):List Int:=[base+1,base+2,base+0]++(((List.range st).map fun(i:Nat)=>base+(4+(i:Int)))++([base+1]++((List.range st).map fun(i:Nat)=>base+(4+(i:Int)))))
def pD(base st left:Int)(f1 f2:SV)(e1 e2:Int)(e3:Bool)(e4:Int)(en:Bool):SO:=.cells 189 10 [.int .i64 base,.int .i64 st,.int .i64 left,f1,f2,.int .i64 e1,.int .i64 e2,.bool e3,.int .i64 e4,.bool en]
def tryW(st:Nat):Way:=(22+22*st,true)::List.replicate (3+2*st) (13,true)
def tryC(base:Int)(st:Nat):kB:=(dA base st).map fun n=>(fits n,true)
noncomputable def tryR(st:Nat)(base left e1 e2 e4:Int)(e3 en:Bool):Out (SV×H):=runK Tryz.prog K2 30 (.fn 148 [.ptr 0 0 0]) (aT [pD base st left .any .any e1 e2 e3 e4 en] [])
def tryO(st:Nat)(base left e1 e2 e4:Int)(e3 en:Bool):List SO:=[pD base st left (.func (.func 167) [] [.ptr 2 0 0,.ptr (17+8*st) 0 0]) (.func (.func 168) [] [.ptr (17+8*st) 0 0,.ptr 2 0 0,.ptr 1 0 0]) e1 e2 e3 e4 en,.cells 22 1 [.slice (16+8*st) 0 (4+2*st) none],.cells 22 1 [aC],.cells 142 1 [.ptr 0 0 0],.cells 3 1 ((dA base st).map (SV.int .i64))]
def tryS(st:Nat):List Nat:=[0,2,17+8*st,1,16+8*st]
section
variable(base left e1 e2 e4:Int)(e3 en:Bool)
theorem try_1:follow (tryW 1) ((tryR 1 base left e1 e2 e4 e3 en).bind (cD (tryS 1)))=some (tryC base 1,(iK,26,tryO 1 base left e1 e2 e4 e3 en)):=by kernel_rfl
theorem try_2:follow (tryW 2) ((tryR 2 base left e1 e2 e4 e3 en).bind (cD (tryS 2)))=some (tryC base 2,(iK,34,tryO 2 base left e1 e2 e4 e3 en)):=by kernel_rfl
theorem try_4:follow (tryW 4) ((tryR 4 base left e1 e2 e4 e3 en).bind (cD (tryS 4)))=some (tryC base 4,(iK,50,tryO 4 base left e1 e2 e4 e3 en)):=by kernel_rfl
theorem try_8:follow (tryW 8) ((tryR 8 base left e1 e2 e4 e3 en).bind (cD (tryS 8)))=some (tryC base 8,(iK,82,tryO 8 base left e1 e2 e4 e3 en)):=by kernel_rfl
end
theorem qG(t s:Nat)(l:List Int):Wk (.cells t s (l.map (SV.int .i64))) (.ints t s l):=by
 refine .inr ⟨by simp,fun ρ p w h=>?_⟩;obtain⟨a1,a2,cs,fr,a3,a4,a5,a6⟩:=h;refine⟨a1,by simpa using a2,cs,fr,a3,a4,a5,fun i n hn=>?_⟩;obtain⟨u,b1,b2⟩:=a6 i (.int .i64 n) (by rw[List.getElem?_map,hn];rfl);simp only[VR]at b2;rw[b2.1]at b1;exact⟨b1,b2.2⟩
theorem zI{t s:Nat}{l l':List SV}(hl:l'.length=l.length)(h:∀(i:Nat) v v',l[i]?=some v→l'[i]?=some v'→v'=v∨(v'=.any∧v.one=true)):Wk (.cells t s l) (.cells t s l'):=by
 refine .inr ⟨by simp,fun ρ p w hh=>?_⟩;obtain⟨a1,a2,cs,fr,a3,a4,a5,a6⟩:=hh;refine⟨a1,by omega,cs,fr,a3,a4,a5,fun i v' yB=>?_⟩;have hi:i<l.length:=by have:=(List.getElem?_eq_some_iff.1 yB).1;omega
 obtain⟨u,b1,b2⟩:=a6 i l[i] (List.getElem?_eq_getElem hi);refine⟨u,b1,?_⟩;rcases h i l[i] v' (List.getElem?_eq_getElem hi) yB with e|⟨e,e2⟩
 ·rw[e];exact b2
 ·rw[e];simp only[VR];exact kU b2 e2
theorem sn_any{base st left e1 e2 e4:Int}{e3 en:Bool}{f1 f2:SV}(h1:f1.one=true)(h2:f2.one=true):Wk (pD base st left f1 f2 e1 e2 e3 e4 en) (pD base st left .any .any e1 e2 e3 e4 en):=by
 refine zI rfl fun i v v' hv yB=>?_
 match i with
 |0|1|2|5|6|7|8|9=>simp at hv yB;exact .inl (by rw[←hv,←yB])
 |3=>simp at hv yB;exact .inr ⟨yB.symm,by rw[←hv];exact h1⟩
 |4=>simp at hv yB;exact .inr ⟨yB.symm,by rw[←hv];exact h2⟩
 |n+10=>simp at hv
def tryL(a n:Nat)(st:Nat)(base left e1 e2 e4:Int)(e3 en:Bool):List (Nat×SO):=
 [(a,pD base st left (.func (.func 167) [] [.ptr (n+3) 0 0,.ptr n 0 0]) (.func (.func 168) [] [.ptr n 0 0,.ptr (n+3) 0 0,.ptr (n+2) 0 0]) e1 e2 e3 e4 en),(n+3,.cells 22 1 [.slice (n+1) 0 (4+2*st) none]),(n,.cells 22 1 [aC]),(n+2,.cells 142 1 [.ptr a 0 0]),(n+1,.ints 3 1 (dA base st))]
theorem uN{st:Nat}{base left e1 e2 e4:Int}{e3 en:Bool}{f1 f2:SV}{m:Nat}(T:follow (tryW st) ((tryR st base left e1 e2 e4 e3 en).bind (cD (tryS st)))=some (tryC base st,(iK,m,tryO st base left e1 e2 e4 e3 en)))(hm:m=18+8*st)(gA:st=1∨st=2∨st=4∨st=8)
 (hb:0≤base∧base≤100000)(h1:f1.one=true)(h2:f2.one=true){h:H}{a:Nat}(ga:h.get a=pD base st left f1 f2 e1 e2 e3 e4 en)(ka:okK h a=true)(la:a<h.n)(h6:h.n+100≤1000000):
 Spec Tryz.prog (.fn 148 [.ptr a 0 0]) h (iK,h.lay 100 (tryL a h.n st base left e1 e2 e4 e3 en)):=by
 have hc:holds (tryC base st):=by
  have:∀l:List Int,(∀n∈l,fits n=true)→holds (l.map fun n=>(fits n,true)):=by
   intro l
   induction l with
   |nil=>intro _;trivial
   |cons n l ih=>intro hl;exact⟨hl n (by simp),ih fun x hx=>hl x (by simp[hx])⟩
  refine this _ fun n hn=>aN ?_
  simp only[dA,List.mem_append,List.mem_cons,List.mem_map,List.mem_range]at hn;rcases hn with(h|h|h|h)|⟨i,h,rfl⟩|(h|h)|⟨i,h,rfl⟩<;>first|omega|cases h
 have fit:h.n≤1000000→Fit h (aT [pD base st left .any .any e1 e2 e3 e4 en] []) (nm [a]):=fun h6=>aX
  ⟨la,⟨ka,by rw[ga];exact sn_any h1 h2,rfl⟩,trivial⟩ (by simp[aQ,pD,SO.lives]) (by simp) h6
 subst hm;have key:=cP (os:=[pD base st left (.func (.func 167) [] [.ptr 2 0 0,.ptr (17+8*st) 0 0]) (.func (.func 168) [] [.ptr (17+8*st) 0 0,.ptr 2 0 0,.ptr 1 0 0]) e1 e2 e3 e4 en,.cells 22 1 [.slice (16+8*st) 0 (4+2*st) none],.cells 22 1 [aC],.cells 142 1 [.ptr 0 0 0],.ints 3 1 (dA base st)]) (K:=100) (j:=[15+8*st,16+8*st]) (ns:=[a]) bW k2_sound T hc
  ⟨.refl _,.refl _,.refl _,.refl _,qG _ _ _,trivial⟩ fit rfl (by rcases gA with e|e|e|e<;>subst e<;>rfl) rfl (by simp;omega) (by intro i hi;simp at hi;simp;omega) h6
 have e3':laid (nx h.n [pD base st left .any .any e1 e2 e3 e4 en].length [15+8*st,16+8*st] [a]) (tryS st) [pD base st left (.func (.func 167) [] [.ptr 2 0 0,.ptr (17+8*st) 0 0]) (.func (.func 168) [] [.ptr (17+8*st) 0 0,.ptr 2 0 0,.ptr 1 0 0]) e1 e2 e3 e4 en,.cells 22 1 [.slice (16+8*st) 0 (4+2*st) none],.cells 22 1 [aC],.cells 142 1 [.ptr 0 0 0],.ints 3 1 (dA base st)]=tryL a h.n st base left e1 e2 e4 e3 en:=by
  have q0:nx h.n 1 [15+8*st,16+8*st] [a] 0=a:=rfl;have q1:nx h.n 1 [15+8*st,16+8*st] [a] 1=h.n+2:=by rcases gA with e|e|e|e<;>subst e<;>rfl
  have q2:nx h.n 1 [15+8*st,16+8*st] [a] 2=h.n+3:=by rcases gA with e|e|e|e<;>subst e<;>rfl
  have q3:nx h.n 1 [15+8*st,16+8*st] [a] (17+8*st)=h.n:=by rcases gA with e|e|e|e<;>subst e<;>rfl
  have q4:nx h.n 1 [15+8*st,16+8*st] [a] (16+8*st)=h.n+1:=by rcases gA with e|e|e|e<;>subst e<;>rfl
  simp[laid,tryL,tryS,pD,SO.ren,SV.rens,SV.ren,aC,q0,q1,q2,q3,q4]
 rw[e3']at key;exact key
def tryK:cI:=fun t h=>match t with
 |.fn 148 [.ptr a 0 0]=>match h.get a with
  |.cells 189 10 [.int .i64 base,.int .i64 st,.int .i64 left,f1,f2,.int .i64 e1,.int .i64 e2,.bool e3,.int .i64 e4,.bool en]=>
   some (.chk (okK h a&&Nat.blt a h.n&&Nat.ble (h.n+100) 1000000&&f1.one&&f2.one) (.chk (decide ((st=1∨st=2∨st=4∨st=8)∧0≤base∧base≤100000)) (.ret (iK,h.lay 100 (tryL a h.n st.toNat base left e1 e2 e4 e3 en)))))
  |_=>none
 |_=>none
theorem try_sound:cX Tryz.prog tryK:=fun f args h o r ho hg=>by
 unfold tryK at ho;split at ho
 ·rename_i a heq
  injection heq with e1 e2;subst e1;subst e2;split at ho
  ·rename_i base st left f1 f2 e1 e2 e3 e4 en ga
   injection ho with ho;subst ho;obtain⟨hc,hg⟩:=Out.chk_go hg;obtain⟨hd,hg⟩:=Out.chk_go hg;have:=Out.ret_go hg;subst this;simp only[Bool.and_eq_true]at hc;obtain⟨⟨⟨⟨c1,c2⟩,c3⟩,c4⟩,c5⟩:=hc;obtain⟨d1,d2⟩:=of_decide_eq_true hd;rcases d1 with e|e|e|e<;>subst e
   ·exact uN (try_1 base left e1 e2 e4 e3 en) rfl (.inl rfl) d2 c4 c5 ga c1 (aF.1 c2) (Nat.le_of_ble_eq_true c3)
   ·exact uN (try_2 base left e1 e2 e4 e3 en) rfl (.inr (.inl rfl)) d2 c4 c5 ga c1 (aF.1 c2) (Nat.le_of_ble_eq_true c3)
   ·exact uN (try_4 base left e1 e2 e4 e3 en) rfl (.inr (.inr (.inl rfl))) d2 c4 c5 ga c1 (aF.1 c2) (Nat.le_of_ble_eq_true c3)
   ·exact uN (try_8 base left e1 e2 e4 e3 en) rfl (.inr (.inr (.inr rfl))) d2 c4 c5 ga c1 (aF.1 c2) (Nat.le_of_ble_eq_true c3)
  ·cases ho
 ·cases ho
noncomputable def K3:cI:=orK tryK K2
theorem k3_sound:cX Tryz.prog K3:=fW try_sound k2_sound
def eqL:List Int→List Int→Bool
 |a::l,b::m=>a==b&&eqL l m
 |_,_=>true
def clP(G:List Int):Bool:=G.getD 0 0==G.getD 1 0
def clQ(st:Nat)(G:List Int):Bool:=G.getD 0 0==G.getD (3+st) 0
def clE(st:Nat)(G:List Int):Bool:=eqL ((G.drop 3).take st) ((G.drop (4+st)).take st)
def sumG(st:Nat)(G:List Int):Int:=((G.drop 3).take st++List.replicate (8-st) 0).foldl (fun s w=>IntKind.wrap .i64 (s+valueOf w)) (G.getD 2 0)
def fX(left:Int):Int:=IntKind.wrap .i64 (left-1)
noncomputable def clR(st:Nat)(base left e1 e2 e4:Int)(e3 en:Bool)(c:Option Nat)(G:List Int):Out (SV×H):=runK Tryz.prog K3 30 (.fn 169 [.ptr 0 0 0,.slice 1 0 (4+2*st) c]) (aT [pD base st left .any .any e1 e2 e3 e4 en,.ints 3 1 G] [])
def clT(base:Int)(st:Nat):Bool:=decide (((st:Int)=1∨(st:Int)=2∨(st:Int)=4∨(st:Int)=8)∧0≤base∧base≤100000)
def clX(base:Int)(st:Nat)(left:Int)(G:List Int):List SO:=[pD base st (fX left) .any .any 0 (sumG st G) true 0 true,.ints 3 1 G]
def clI(base:Int)(st:Nat)(left:Int)(G:List Int):List SO:=[pD base st (fX left) .any .any 0 (G.getD 2 0) false 0 true,.ints 3 1 G]
def clA(base:Int)(st:Nat)(left e1 e2 e4:Int)(e3 en:Bool)(G:List Int):List SO:=[pD base st (fX left) (.func (.func 167) [] [.ptr 7 0 0,.ptr 4 0 0]) (.func (.func 168) [] [.ptr 4 0 0,.ptr 7 0 0,.ptr 6 0 0]) e1 e2 e3 e4 en,.ints 3 1 G,.cells 22 1 [.slice 5 0 (4+2*st) none],.cells 22 1 [aC],.cells 142 1 [.ptr 0 0 0],.ints 3 1 (dA base st)]
def ClT(st:Nat)(base left e1 e2 e4:Int)(e3 en:Bool)(c:Option Nat)(G:List Int):Prop:=
 follow [(19,true),(13,true),(2,true)] ((clR st base left e1 e2 e4 e3 en c G).bind (cD [0,1]))=some ([(clP G,true),(clQ st G,true),(clE st G,true)],(iK,36,clX base st left G))∧
 follow [(19,true),(13,true),(2,false),(0,true)] ((clR st base left e1 e2 e4 e3 en c G).bind (cD [0,1]))=some ([(clP G,true),(clQ st G,true),(clE st G,false),(fX left==0,true)],(iK,4,clI base st left G))∧
 follow [(19,true),(13,true),(2,false),(0,false),(1,true)] ((clR st base left e1 e2 e4 e3 en c G).bind (cD [0,1,7,4,6,5]))=some ([(clP G,true),(clQ st G,true),(clE st G,false),(fX left==0,false),(clT base st,true)],(iK,104,clA base st left e1 e2 e4 e3 en G))∧
 follow [(19,true),(13,false),(3,true)] ((clR st base left e1 e2 e4 e3 en c G).bind (cD [0,1]))=some ([(clP G,true),(clQ st G,false),(fX left==0,true)],(iK,4,clI base st left G))∧
 follow [(19,true),(13,false),(3,false),(1,true)] ((clR st base left e1 e2 e4 e3 en c G).bind (cD [0,1,7,4,6,5]))=some ([(clP G,true),(clQ st G,false),(fX left==0,false),(clT base st,true)],(iK,104,clA base st left e1 e2 e4 e3 en G))∧
 follow [(19,false),(11,true)] ((clR st base left e1 e2 e4 e3 en c G).bind (cD [0,1]))=some ([(clP G,false),(fX left==0,true)],(iK,4,clI base st left G))∧
 follow [(19,false),(11,false),(1,true)] ((clR st base left e1 e2 e4 e3 en c G).bind (cD [0,1,7,4,6,5]))=some ([(clP G,false),(fX left==0,false),(clT base st,true)],(iK,104,clA base st left e1 e2 e4 e3 en G))
theorem cl_1(base left e1 e2 e4 g0 g1 g2 g3 g4 g5:Int)(e3 en:Bool)(c:Option Nat):ClT 1 base left e1 e2 e4 e3 en c [g0,g1,g2,g3,g4,g5]:=by
 refine⟨?_,?_,?_,?_,?_,?_,?_⟩<;>kernel_rfl
theorem cl_2(base left e1 e2 e4 g0 g1 g2 g3 g4 g5 g6 g7:Int)(e3 en:Bool)(c:Option Nat):ClT 2 base left e1 e2 e4 e3 en c [g0,g1,g2,g3,g4,g5,g6,g7]:=by
 refine⟨?_,?_,?_,?_,?_,?_,?_⟩<;>kernel_rfl
theorem cl_4(base left e1 e2 e4 g0 g1 g2 g3 g4 g5 g6 g7 g8 g9 g10 g11:Int)(e3 en:Bool)(c:Option Nat):ClT 4 base left e1 e2 e4 e3 en c [g0,g1,g2,g3,g4,g5,g6,g7,g8,g9,g10,g11]:=by
 refine⟨?_,?_,?_,?_,?_,?_,?_⟩<;>kernel_rfl
theorem cl_8(base left e1 e2 e4 g0 g1 g2 g3 g4 g5 g6 g7 g8 g9 g10 g11 g12 g13 g14 g15 g16 g17 g18 g19:Int)(e3 en:Bool)(c:Option Nat):ClT 8 base left e1 e2 e4 e3 en c [g0,g1,g2,g3,g4,g5,g6,g7,g8,g9,g10,g11,g12,g13,g14,g15,g16,g17,g18,g19]:=by
 refine⟨?_,?_,?_,?_,?_,?_,?_⟩<;>kernel_rfl
theorem cl_all{st:Nat}(gA:st=1∨st=2∨st=4∨st=8)(base left e1 e2 e4:Int)(e3 en:Bool)(c:Option Nat){G:List Int}(hG:G.length=4+2*st):ClT st base left e1 e2 e4 e3 en c G:=by
 rcases gA with e|e|e|e<;>subst e
 ·match G,hG with
  |[g0,g1,g2,g3,g4,g5],_=>exact cl_1 base left e1 e2 e4 g0 g1 g2 g3 g4 g5 e3 en c
 ·match G,hG with
  |[g0,g1,g2,g3,g4,g5,g6,g7],_=>exact cl_2 base left e1 e2 e4 g0 g1 g2 g3 g4 g5 g6 g7 e3 en c
 ·match G,hG with
  |[g0,g1,g2,g3,g4,g5,g6,g7,g8,g9,g10,g11],_=>exact cl_4 base left e1 e2 e4 g0 g1 g2 g3 g4 g5 g6 g7 g8 g9 g10 g11 e3 en c
 ·match G,hG with
  |[g0,g1,g2,g3,g4,g5,g6,g7,g8,g9,g10,g11,g12,g13,g14,g15,g16,g17,g18,g19],_=>exact cl_8 base left e1 e2 e4 g0 g1 g2 g3 g4 g5 g6 g7 g8 g9 g10 g11 g12 g13 g14 g15 g16 g17 g18 g19 e3 en c
theorem cls_go{st:Nat}{base left e1 e2 e4:Int}{e3 en:Bool}{f1 f2:SV}{c:Option Nat}{G:List Int}(gA:st=1∨st=2∨st=4∨st=8)(hG:G.length=4+2*st)(h1:f1.one=true)(h2:f2.one=true){h:H}{a g:Nat}(ga:h.get a=pD base st left f1 f2 e1 e2 e3 e4 en)(gg:h.get g=.ints 3 1 G)
 (ka:okK h a=true)(kg:okK h g=true)(hd:a≠g)(la:a<h.n)(lg:g<h.n)(h6:h.n+110≤1000000){ps:Way}{cs:kB}{ls:List Nat}{n:Nat}{os:List SO}(T:follow ps ((clR st base left e1 e2 e4 e3 en c G).bind (cD ls))=some (cs,(iK,n,os)))(hc:holds cs)(mK:fO 2 [] n ls=true)(hp:os.all SO.plain=true)(hn:n≤112):
 Spec Tryz.prog (.fn 169 [.ptr a 0 0,.slice g 0 (4+2*st) c]) h (iK,h.lay 110 (laid (nx h.n 2 [] [a,g]) ls os)):=by
 have fit:h.n≤1000000→Fit h (aT [pD base st left .any .any e1 e2 e3 e4 en,.ints 3 1 G] []) (nm [a,g]):=fun h6=>aX
  ⟨la,⟨ka,by rw[ga];exact sn_any h1 h2,rfl⟩,lg,⟨kg,.of gg,rfl⟩,trivial⟩ (dF (by simp[hd])) (by simp) h6
 exact cP (os:=os) (K:=110) (j:=[]) (ns:=[a,g]) bW k3_sound T hc (rN.refl _) fit rfl mK hp (by simp;omega) (by simp) h6
def clsL(a g n:Nat)(st:Nat)(base left e1 e2 e4:Int)(e3 en:Bool)(G:List Int):List (Nat×SO):=
 [(a,pD base st (fX left) (.func (.func 167) [] [.ptr (n+5) 0 0,.ptr (n+2) 0 0]) (.func (.func 168) [] [.ptr (n+2) 0 0,.ptr (n+5) 0 0,.ptr (n+4) 0 0]) e1 e2 e3 e4 en),(g,.ints 3 1 G),(n+5,.cells 22 1 [.slice (n+3) 0 (4+2*st) none]),(n+2,.cells 22 1 [aC]),(n+4,.cells 142 1 [.ptr a 0 0]),(n+3,.ints 3 1 (dA base st))]
noncomputable def clsK:cI:=fun t h=>match t with
 |.fn 169 [.ptr a 0 0,.slice g 0 L c]=>match h.get a,h.get g with
  |.cells 189 10 [.int .i64 base,.int .i64 st,.int .i64 left,f1,f2,.int .i64 e1,.int .i64 e2,.bool e3,.int .i64 e4,.bool en],.ints 3 1 G=>
   some (.chk (okK h a&&okK h g&&!Nat.beq a g&&Nat.blt a h.n&&Nat.blt g h.n&&Nat.ble (h.n+110) 1000000&&f1.one&&f2.one) (.chk (decide ((st=1∨st=2∨st=4∨st=8)∧0≤base∧base≤100000∧G.length=4+2*st.toNat∧L=4+2*st.toNat))
    (.ite (clP G&&clQ st.toNat G&&clE st.toNat G)
     (.ret (iK,h.lay 110 [(a,pD base st (fX left) .any .any 0 (sumG st.toNat G) true 0 true),(g,.ints 3 1 G)]))
     (.ite (fX left==0)
      (.ret (iK,h.lay 110 [(a,pD base st (fX left) .any .any 0 (G.getD 2 0) false 0 true),(g,.ints 3 1 G)]))
      (.ret (iK,h.lay 110 (clsL a g h.n st.toNat base left e1 e2 e4 e3 en G)))))))
  |_,_=>none
 |_=>none
theorem cls_sound:cX Tryz.prog clsK:=fun f args h o r ho hg=>by
 unfold clsK at ho;split at ho
 ·rename_i a g L c heq
  injection heq with e1 e2;subst e1;subst e2;split at ho
  ·rename_i base st0 left f1 f2 e1 e2 e3 e4 en G ga gg
   injection ho with ho;subst ho;obtain⟨hc,hg1⟩:=Out.chk_go hg;obtain⟨hd,pU⟩:=Out.chk_go hg1;clear hg hg1;simp only[Bool.and_eq_true]at hc;obtain⟨⟨⟨⟨⟨⟨⟨c1,c2⟩,c3⟩,c4⟩,c5⟩,c6⟩,c7⟩,c8⟩:=hc;obtain⟨d1,d2,d3,d4,d5⟩:=of_decide_eq_true hd;have gA:∃st:Nat,st0=st∧(st=1∨st=2∨st=4∨st=8):=⟨st0.toNat,by omega,by omega⟩;obtain⟨st,e,gA⟩:=gA;subst e;simp only[Int.toNat_natCast]at pU d4 d5;subst d5;have hT:clT base st=true:=by simp only[clT,decide_eq_true_eq];omega
   obtain⟨t0,t1,t2,t3,t4,t5,t6⟩:=cl_all gA base left e1 e2 e4 e3 en c d4;have go:=@cls_go st base left e1 e2 e4 e3 en f1 f2 c G gA d4 c7 c8 h a g ga gg c1 c2 (fT c3) (aF.1 c4) (aF.1 c5) (Nat.le_of_ble_eq_true c6);have q0:nx h.n 2 [] [a,g] 0=a:=rfl;have q1:nx h.n 2 [] [a,g] 1=g:=rfl;have lX:laid (nx h.n 2 [] [a,g]) [0,1] (clX base st left G)=[(a,pD base st (fX left) .any .any 0 (sumG st G) true 0 true),(g,.ints 3 1 G)]:=rfl;have lI:laid (nx h.n 2 [] [a,g]) [0,1] (clI base st left G)=[(a,pD base st (fX left) .any .any 0 (G.getD 2 0) false 0 true),(g,.ints 3 1 G)]:=rfl;have lA:laid (nx h.n 2 [] [a,g]) [0,1,7,4,6,5] (clA base st left e1 e2 e4 e3 en G)=clsL a g h.n st base left e1 e2 e4 e3 en G:=rfl;simp only[Out.go]at pU;cases hP:clP G
   ·rw[hP]at pU
    simp only[Bool.false_and]at pU;cases hL:(fX left==0)
    ·rw[hL]at pU
     have:=Out.ret_go pU;subst this;rw[←lA];exact go t6 ⟨hP,hL,hT,trivial⟩ rfl rfl (by omega)
    ·rw[hL]at pU
     have:=Out.ret_go pU;subst this;rw[←lI];exact go t5 ⟨hP,hL,trivial⟩ rfl rfl (by omega)
   ·cases hQ:clQ st G
    ·rw[hP,hQ]at pU
     simp only[Bool.true_and,Bool.false_and]at pU;cases hL:(fX left==0)
     ·rw[hL]at pU
      have:=Out.ret_go pU;subst this;rw[←lA];exact go t4 ⟨hP,hQ,hL,hT,trivial⟩ rfl rfl (by omega)
     ·rw[hL]at pU
      have:=Out.ret_go pU;subst this;rw[←lI];exact go t3 ⟨hP,hQ,hL,trivial⟩ rfl rfl (by omega)
    ·cases hE:clE st G
     ·rw[hP,hQ,hE]at pU
      simp only[Bool.true_and,Bool.and_false]at pU;cases hL:(fX left==0)
      ·rw[hL]at pU
       have:=Out.ret_go pU;subst this;rw[←lA];exact go t2 ⟨hP,hQ,hE,hL,hT,trivial⟩ rfl rfl (by omega)
      ·rw[hL]at pU
       have:=Out.ret_go pU;subst this;rw[←lI];exact go t1 ⟨hP,hQ,hE,hL,trivial⟩ rfl rfl (by omega)
     ·rw[hP,hQ,hE]at pU
      simp only[Bool.true_and]at pU;have:=Out.ret_go pU;subst this;rw[←lX];exact go t0 ⟨hP,hQ,hE,trivial⟩ rfl rfl (by omega)
  ·cases ho
 ·cases ho
attribute[irreducible] sumG clP clQ clE fX
noncomputable def K4:cI:=orK clsK K3
theorem aK:cX Tryz.prog K4:=fW cls_sound k3_sound
end Go.Proofs.YtnkcbfgfkadoaaaGreat.Sx
namespace Go.Proofs.YtnkcbfgfkadoaaaGreat.Sx
open Go
structure Env where
 th:Int
 st:Int
 ga:Int
 le:Int
 re:Int
 ti:Int
 k1:Int
 k2:Int
 k3:Int
 np:Nat
 nt:Nat
 ne:Nat
 nW:Nat
 nL:Nat
 tn:Nat
 cp:Option Nat
 ct:Option Nat
 c:Option Nat
 lv:Value
 lf:SV
 W:List Int
 E:List SV
def Env.sO(e:Env)(ev:SV):SO:=.cells 68 11 [.int .i64 e.th,.int .i64 e.st,.int .i64 e.ga,.int .i64 e.le,.int .i64 e.re,.int .i64 e.ti,.slice 8 0 e.np e.cp,.val e.lv,.ptr 1 0 0,.slice 3 0 e.nt e.ct,ev]
def Env.tO(e:Env)(now:SV):SO:=.cells 74 5 [e.lf,.int .i64 e.k1,.int .i64 e.k2,.int .i64 e.k3,now]
def Env.objs(e:Env)(lg now:SV)(tail:List SO):List SO:=e.sO (.slice 4 0 e.ne none)::bI 2 e.nW e.c lg::.ints 3 1 e.W::.spot 69 1 e.tn [.ptr 5 0 0]::.cells 42 10 e.E::e.tO now::.cells 49 1 [.ptr 0 0 0]::.cells 3 1 [.int .i64 ↑e.tn]::.dead::.dead::tail
def Env.obj8(e:Env)(o8:SO)(lg now:SV)(tail:List SO):List SO:=e.sO (.slice 4 0 e.ne none)::bI 2 e.nW e.c lg::.ints 3 1 e.W::.spot 69 1 e.tn [.ptr 5 0 0]::.cells 42 10 e.E::e.tO now::.cells 49 1 [.ptr 0 0 0]::.cells 3 1 [.int .i64 ↑e.tn]::o8::.dead::tail
def r6A(tn:Nat)(x:Nat→SV):SA:=⟨setArgs .nil 0 (.ptr 0 0 0::.int .i64 ↑tn::x 2::x 3::.bool false::.ptr 5 0 0::.func (.func 55) [] [.ptr 6 0 0,.ptr 7 0 0]::(List.range' 7 64).map x),71,[],none⟩
def dD:Nat→List SO→List Nat
 |_,[]=>[]
 |i,o::os=>match o with
  |.spot _ _ _ _=>i::dD (i+1) os
  |_=>dD (i+1) os
noncomputable def R6(e:Env)(x:Nat→SV)(objs:List SO):Out (SX×SA×H):=code Tryz.prog (runK Tryz.prog K4 30) false false (rO 4 (bR 12)) (r6A e.tn x) (aT objs (3::8::9::dD 10 (objs.drop 10)))
noncomputable def R6g(S:cI)(o8:SO)(e:Env)(x:Nat→SV)(lg now:SV)(tail:List SO)(X:List Nat):Out (SX×SA×H):=code Tryz.prog (runK Tryz.prog S 30) false false (rO 4 (bR 12)) (r6A e.tn x) (aT (e.obj8 o8 lg now tail) (3::8::9::X))
def endC(e:Env):kB:=[(decide (0≤(e.tn:Int)),true),(decide ((e.tn:Int)<e.nt),true),(Nat.beq (aE 0 (Int.toNat e.tn)) e.tn,true),(Nat.ble (aE 0 (e.nL+1)) (e.nL+1),true),(Nat.ble (0+(e.nL+1)) 1000000000,true),(Nat.ble (bG (aE 0 e.ne) 10) e.E.length,true),(Nat.ble (e.ne+1) 1000000000,true)]
def endN(e:Env):kB:=[(decide (0≤(e.tn:Int)),true),(decide ((e.tn:Int)<e.nt),true),(Nat.beq (aE 0 (Int.toNat e.tn)) e.tn,true),(Nat.ble (bG (aE 0 e.ne) 10) e.E.length,true),(Nat.ble (e.ne+1) 1000000000,true)]
def lB(at_ th kind k1 k2 k3 a1 a2:Int)(a3:Bool)(a4:Int):List SV:=[.int .i64 at_,.int .i64 th,.int .i64 kind,.int .i64 k1,.int .i64 k2,.int .i64 k3,.int .i64 a1,.int .i64 a2,.bool a3,.int .i64 a4]
end Go.Proofs.YtnkcbfgfkadoaaaGreat.Sx
