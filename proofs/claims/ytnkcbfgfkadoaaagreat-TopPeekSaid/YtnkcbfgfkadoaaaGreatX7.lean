/- Part 7 of the proof of TopPeek. -/
import Derived.Test.YtnkcbfgfkadoaaaGreatX6
set_option linter.all false
namespace Go.Proofs.YtnkcbfgfkadoaaaGreat.Sx
open Go
section
variable{P:Program}{F:Fence}{n:Nat}{ρ:bF}{h:H}{w:World}
theorem HR.dropO{l:Nat}{p:Pl}{x x':Obj}(hr:HR ρ h w)(hv:live h l)(hp:ρ l=some p)(hR:p.R≠0)(hx:w.heap[p.b]?=some x)(hnc:kT x)(dE:okR h l=true):
 HR ρ (h.put l .dead) {w with heap:=w.heap.setIfInBounds p.b x'}∧FR ρ h w ρ (h.put l .dead) {w with heap:=w.heap.setIfInBounds p.b x'}:=by
 have hl:=(hr.at_ l hv).1;have yP:l≤1000000:=by have:=hr.n;omega
 have ne:∀b:Nat,b≠p.b→(w.heap.setIfInBounds p.b x')[b]?=w.heap[b]?:=fun b hb=>Array.getElem?_setIfInBounds_ne (Ne.symm hb)
 have keyc:∀(b:Nat) cs t fr,w.heap[b]?=some (Obj.cells cs t fr)→b≠p.b:=fun b cs t fr hb e=>by
  subst e;rw[hx]at hb;injection hb with hb;subst hb;exact hnc
 have eK:∀m,live (h.put l .dead) m→l≠m∧live h m:=fun m hm=>by
  by_cases e:l=m
  ·subst e;exact absurd (H.get_put yP) hm
  ·exact⟨e,by unfold live at hm⊢;rwa [H.get_put_ne e]at hm⟩
 refine⟨⟨hr.n,fun m hm=>?_,fun m m' q q' fS hm pZ hq AN=>hr.apart m m' q q' fS (eK m hm).2 (eK m' pZ).2 hq AN,hr.fresh,hr.amb_step rfl rfl (by simp) (fun b hs=>ne b fun e=>hR ((hr.amb.2 b hs).2 l p hv hp e.symm)) fun b m q hs hm hq e=>(hr.amb.2 b hs).2 m q (eK m hm).2 hq e⟩,⟨.refl _,fun _ _=>rfl,Nat.le_refl _,by simp,fun b cs t fr hb=>⟨cs,by simp only[ne b (keyc b cs t fr hb)];exact hb,rfl,fun _ _=>rfl⟩,fun b y hb _ ho=>?_,fun m _ hm=>(eK m hm).2,fun m q hm hvm _=>absurd (hr.at_ m (eK m hvm).2).1 (by omega),fun _ h=>.inr h,rfl,rfl,fun y hy _=>?_,⟨rfl,rfl,rfl⟩⟩⟩
 ·obtain⟨e,yQ⟩:=eK m hm
  obtain⟨h1,q,h2,h3,h4⟩:=hr.at_ m yQ;refine⟨h1,q,h2,by simpa using h3,?_⟩;rw[H.get_put_ne e];refine h4.frame (.refl _) (fun gF t' fr' pT=>⟨gF,by simp only[ne _ (keyc _ _ _ _ pT)];exact pT,rfl,fun _ _ _=>rfl⟩) (fun y hy _ hqR=>?_);have:q.b≠p.b:=by
   rcases hr.apart l m p q e hv yQ hp h2 with h5|h5|h5|h5
   ·exact Ne.symm h5
   ·exact absurd h5 hR
   ·exact absurd h5 hqR
   ·exact absurd h5.1 (vN dE)
  simp only[ne _ this];exact hy
 ·have:b≠p.b:=fun e=>ho (.inl ⟨l,p,hv,hp,e.symm,hR,vN dE⟩)
  simp only[ne b this];exact hb
 ·by_cases e:y.1=l
  ·obtain⟨_,q,hq,_,ho'⟩:=hr.at_ l hv
   rw[hp]at hq;injection hq with hq;subst hq;rw[e,H.get_put yP];exact flat_same (ho'.flat hx hnc) ⟨rfl,rfl,fun _ _=>rfl⟩ _ _
  ·rw[H.get_put_ne (Ne.symm e)];exact .refl _ _ _
theorem marks_ok{fn:Func}{tmps:Array Value}{R:Ending→World→Prop}:∀(ms:List Nat) (h h':H) (w:World),(rG ms h).go=some h'→HR ρ h w→(∀l∈ms,∃p,ρ l=some p)→
 (∀w',HR ρ h' w'→FR ρ h w ρ h' w'→LeavesInM F n P fn tmps R [] .returning w')→LeavesInM F n P fn tmps R (ms.map fun l=>tH (blk ρ l)) .returning w
 |[],h,h',w,hg,hr,_,hk=>by
  have:=Out.ret_go hg;subst this;exact hk w hr (.refl hr)
 |l::ms,h,h',w,hg,hr,hm,hk=>by
  unfold rG at hg;split at hg
  ·rename_i hgl dE
   obtain⟨p,hp⟩:=hm l (by simp);have hv:live h l:=by unfold live;rw[hgl];simp
   obtain⟨_,q,hq,_,ho⟩:=hr.at_ l hv;rw[hp]at hq;injection hq with hq;subst hq;rw[hgl]at ho;obtain⟨hR,hx⟩:=ho;obtain⟨q1,q2⟩:=hr.dropO (x':=.deferred none) hv hp hR hx trivial dE;have hb:blk ρ l=p.b:=by unfold blk;rw[hp]
   refine⟨by simp,.inl ⟨p.b,{w with heap:=w.heap.setIfInBounds p.b (.deferred none)},by simp[tH,hb],?_,?_⟩⟩
   ·simp[Instr.takeDeferred,getObj,setObj,Sem.run,hx]
   ·exact marks_ok ms _ h' _ hg q1 (fun m pZ=>hm m (by simp[pZ])) fun w' r1 r2=>hk w' r1 (q2.trans hr q1 r2)
  ·cases hg
theorem loadCell_ok{t:Nat}{a v:SV}{ra:Value}(hg:(load P h t a).go=some v)(hr:HR ρ h w)(ha:VR ρ a ra):∃u,(asAddr ra>>=fun x=>loadVar t x).run P w=.ok u w∧VR ρ v u:=by
 obtain⟨u,h1,h2⟩:=load_ok hg hr ha;refine⟨u,?_,h2⟩;unfold load at hg;split at hg
 ·simp only[VR]at ha
  obtain⟨p,hp,rfl⟩:=ha;simpa[Instr.loadAt,Instr.sureAddr,asAddr]using h1
 ·cases hg
theorem qE{sa:SA}{c:Act}(ha:AR ρ sa c)(hr:HR ρ h w)(f:ResultVar→Sem Value)(f1:∀t,f (.tmp t)=pure (c.tmps.getD t Go.undef))(f2:∀a t,f (.cell a t)=(asAddr (c.tmps.getD a Go.undef)>>=fun x=>loadVar t x)):
 ∀(rs:List ResultVar) (vs:List SV),(results P h sa rs).go=some vs→∃us:List Value,(rs.mapM f).run P w=.ok us w∧bM ρ vs us
 |[],vs,hg=>by
  have:=Out.ret_go hg;subst this;exact⟨[],by simp,by simp[bM]⟩
 |.tmp t::rs,vs,hg=>by
  obtain⟨vs',g1,g2⟩:=Out.bind_go hg;have:=Out.ret_go g2;subst this;obtain⟨us,h1,h2⟩:=qE ha hr f f1 f2 rs vs' g1;refine⟨c.tmps.getD t Go.undef::us,?_,by simp only[bM];exact⟨ha.at_ t,h2⟩⟩;simp only[List.mapM_cons,f1,Sem.run_bind,Sem.run_pure,Result.andThen_ok,h1]
 |.cell t ty::rs,vs,hg=>by
  obtain⟨v,g0,hg⟩:=Out.bind_go hg;obtain⟨vs',g1,g2⟩:=Out.bind_go hg;have:=Out.ret_go g2;subst this;obtain⟨us,h1,h2⟩:=qE ha hr f f1 f2 rs vs' g1;obtain⟨u,h3,h4⟩:=loadCell_ok g0 hr (ha.at_ t);refine⟨u::us,?_,by simp only[bM];exact⟨h4,h2⟩⟩;rw[List.mapM_cons,f2,Sem.run_bind,h3];simp only[Result.andThen_ok,Sem.run_bind,h1,Sem.run_pure]
theorem pack_ok{vs:List SV}{us:List Value}(h:bM ρ vs us):VR ρ (pack vs) (if h:us.toArray.size=1 then us.toArray[0]else .tuple us.toArray):=by
 match vs,us,h with
 |[],[],_=>simp[pack,VR,bM]
 |[v],[u],h=>simp only[bM]at h;simpa[pack]using h.1
 |v::v'::vs,u::u'::us,h=>simp[pack,VR,bM]at h⊢;exact h
def resF(c:Act):ResultVar→Sem Value
 |.tmp t=>pure (c.tmps.getD t Go.undef)
 |.cell a t=>(asAddr (c.tmps.getD a Go.undef)>>=fun x=>loadVar t x)
theorem tK{fn:Func}{sa:SA}{c:Act}(ha:AR ρ sa c)(hr:HR ρ h w){vs:List SV}(hg:(results P h sa fn.results.toList).go=some vs):∃u,(Go.results fn c.tmps).run P w=.ok u w∧VR ρ (pack vs) u:=by
 obtain⟨us,h1,h2⟩:=qE ha hr (resF c) (fun _=>rfl) (fun _ _=>rfl) _ vs hg;refine⟨_,?_,pack_ok h2⟩;have e:Go.results fn c.tmps=(fn.results.mapM (resF c)>>=fun vs=>pure (if h:vs.size=1 then vs[0]else .tuple vs)):=by
  unfold Go.results;congr 1
 rw[e,Array.mapM_eq_mapM_toList];simp only[Sem.run_bind,map_eq_pure_bind,h1,Result.andThen_ok,Sem.run_pure]
theorem iC:∀(vs:List SV) (t:Tr SV) (i j:Nat),i+vs.length≤1000→(setArgs t i vs).get D j=if i≤j∧j<i+vs.length then vs[j-i]?else t.get D j
 |[],t,i,j,_=>by rw[if_neg (by simp)];rfl
 |v::vs,t,i,j,hl=>by
  simp only[List.length_cons]at hl;show(setArgs (t.set D i v) (i+1) vs).get D j=_;rw[iC vs _ (i+1) j (by omega)];by_cases e:j=i
  ·subst e
   rw[if_neg (by omega),if_pos (by simp),Tr.get_set _ _ _ _ (by unfold D;omega)];simp
  ·rw[Tr.get_set_ne _ _ _ _ _ (Ne.symm e)]
   by_cases h1:i+1≤j∧j<i+1+vs.length
   ·rw[if_pos h1,if_pos (by simp;omega)]
    have:j-i=(j-(i+1))+1:=by omega
    rw[this];simp
   ·rw[if_neg h1,if_neg (by simp;omega)]
theorem VRs_get:∀{vs:List SV} {us:List Value},bM ρ vs us→vs.length=us.length∧∀(i:Nat) (v:SV),vs[i]?=some v→∃u,us[i]?=some u∧VR ρ v u
 |[],[],_=>⟨rfl,fun i v h=>by simp at h⟩
 |v::vs,u::us,h=>by
  simp only[bM]at h;obtain⟨h1,h2⟩:=VRs_get h.2;refine⟨by simp[h1],fun i x hx=>?_⟩;cases i with
  |zero=>simp at hx;subst hx;exact⟨u,by simp,h.1⟩
  |succ i=>simpa using h2 i x (by simpa using hx)
theorem uF{vs:List SV}{us:List Value}{m:Nat}(h:bM ρ vs us)(h1:vs.length≤m)(h2:m≤1000):AR ρ ⟨setArgs .nil 0 vs,m,[],none⟩ {tmps:=us.toArray++Array.replicate (m-us.toArray.size) Go.undef,defers:=[]}:=by
 obtain⟨e1,e2⟩:=VRs_get h;refine⟨h2,by simp;omega,fun i=>?_,fun l hl=>(by cases hl),rfl⟩;unfold SA.get;rw[iC vs _ 0 i (by omega)];by_cases hi:i<vs.length
 ·rw[if_pos (by omega),Nat.sub_zero]
  obtain⟨u,h3,h4⟩:=e2 i vs[i] (List.getElem?_eq_getElem hi);rw[List.getElem?_eq_getElem hi,Array.getD_eq_getD_getElem?,Array.getElem?_append_left (by simp;omega)];simp only[List.getElem?_toArray,h3];exact h4
 ·rw[if_neg (by omega)]
  have hund:VR ρ iK Go.undef:=by simp[iK,VR,Go.undef,bM]
  have tJ:(Tr.nil:Tr SV).get D i=none:=by unfold D;rfl
  rw[tJ,Array.getD_eq_getD_getElem?,Array.getElem?_append_right (by simp;omega),Array.getElem?_replicate];have e:∀(t:Tr SV) (h:t.get D i=none),(match t.get D i with|some v=>v|none=>iK)=iK:=fun t h=>by rw[h]
  split<;>split<;>first|exact hund|(rename_i he _;cases he)
theorem zipSet_ok:∀(ps:List Nat) (vs:List SV) (us:List Value) (sa iS:SA) (c:Act),(zipSet sa ps vs).go=some iS→bM ρ vs us→AR ρ sa c→
 ps.length=us.length∧AR ρ iS {c with tmps:=(ps.zip us).foldl (fun tmps (x:Nat×Value)=>tmps.setIfInBounds x.1 x.2) c.tmps}
 |[],[],[],sa,iS,c,hg,_,ha=>by
  have:=Out.ret_go hg;subst this;exact⟨rfl,ha⟩
 |p::ps,v::vs,u::us,sa,iS,c,hg,hv,ha=>by
  simp only[bM]at hv;obtain⟨h1,h2⟩:=zipSet_ok ps vs us _ iS (c.put (some p) u) hg hv.2 (ha.put hv.1);exact⟨by simp[h1],h2⟩
 |[],v::vs,_,sa,iS,c,hg,_,_=>by cases hg
 |p::ps,[],_,sa,iS,c,hg,_,_=>by cases hg
 |[],[],u::us,sa,iS,c,_,hv,_=>by simp[bM]at hv
 |p::ps,v::vs,[],sa,iS,c,_,hv,_=>by simp[bM]at hv
theorem rM:FOK Fence.wide:=⟨fun _=>trivial,rfl,.inl rfl⟩
theorem roundOK(l:Nat):FOK (Fence.wide.inRound l):=⟨fun _=>trivial,rfl,.inr ⟨l,rfl⟩⟩
structure wV(P:Program):Prop where
 tab:TOK P
 mixed:P.follows .mixedOrders=true
 funcs:∀(f:Nat) (fn:Func),P.funcs[f]?=some fn→okFunc fn=true
theorem call_ok(X:wV P){K:pY}(hK:KOK P K){f:Nat}{args:List SV}{h h':H}{v:SV}(hg:(call P f K args h).go=some (v,h')):(∃fn,P.funcs[f]?=some fn∧fn.body.isSome=true∧(fn.name== "runtime.NumGoroutine")=false)∧
 ∀ρ w us n,HR ρ h w→bM ρ args us→CallsIn Fence.wide n P f us.toArray w (AY ρ h w v h'):=by
 unfold call at hg;split at hg
 ·cases hg
 ·rename_i fn hfn
  split at hg
  ·cases hg
  ·rename_i c hb
   have dE:=X.funcs f fn hfn;simp only[okFunc,hb,Bool.and_eq_true,Bool.not_eq_true']at dE;refine⟨⟨fn,hfn,by simp[hb],dE.2⟩,fun ρ w us n hr hv=>?_⟩;split at hg
   ·cases hg
   ·rename_i sG
    simp only[Bool.and_eq_true]at sG;have hs1:=Nat.le_of_ble_eq_true sG.1;have hs2:=Nat.le_of_ble_eq_true sG.2;obtain⟨⟨x,sa,h1⟩,g1,g2⟩:=Out.bind_go hg;refine callsIn_of_wp_marks hfn hb trivial ?_;refine jD X.tab X.mixed rM hK (fun _=>rfl) c _ sa h h1 x ρ _ w dE.1 g1 (uF hv hs1 hs2) hr fun dQ a1 w1 p1 p2 p3=>?_
    have tail:∀g:((rG sa.marks h1).bind fun h=>(results P h sa fn.results.toList).bind fun vs=>.ret (pack vs,h)).go=some (v,h'),LeavesInM Fence.wide n P fn a1.tmps (AY ρ h w v h') a1.defers .returning w1:=by
     intro g;obtain⟨h2,k1,k2⟩:=Out.bind_go g;obtain⟨vs,k3,k4⟩:=Out.bind_go k2;have:=Out.ret_go k4;injection this with e1 e2;subst e1;subst e2;rw[p1.defers];refine marks_ok sa.marks h1 h2 w1 k1 p2 p1.marks fun w2 q1 q2=>?_
     obtain⟨u,r1,r2⟩:=tK p1 q1 k3;exact⟨u,r1,dQ,u,rfl,r2,q1,(p3.trans hr p2 q2)⟩
    cases x with
    |exit j=>cases g2
    |normal=>exact tail g2
    |ret=>exact tail g2
theorem endRound_ok{ρ:bF}{h:H}{w:World}{l:Nat}{p:Pl}(hr:HR ρ h w)(hp:ρ l=some p){jump:Option Code}{ok:Bool}{v:SV}{h':H}
 (hg:(match h.get l with
  |.loop _ _ t n p x y=>Out.ret (SV.bool ok,h.put l (.loop (match ok with|true=>.ready|false=>.done) jump t n p x y))
  |_=>.fail).go=some (v,h'))(hj:jump.isNone=ok)(dE:okR h l=true):∃u w',(Instr.endRound p.b jump).run P w=.ok u w'∧VR ρ v u∧HR ρ h' w'∧FR ρ h w ρ h' w':=by
 split at hg
 ·rename_i st oW tmps m ps wL body hgl
  have:=Out.ret_go hg;injection this with e1 e2;subst e1;subst e2;obtain⟨L,h1,h2,h3,h4,h5,h6,_,h7,h8⟩:=hr.loop hgl dE hp;cases ok with
  |true=>
   obtain⟨q1,q2⟩:=h8 .ready jump;refine⟨.bool true,_,?_,by simp[VR],q1,q2⟩;simp only[Instr.endRound,Sem.run_bind,lQ h1,Result.andThen_ok,nS _ h1,Sem.run_pure,hj];rfl
  |false=>
   obtain⟨q1,q2⟩:=h8 .done jump;refine⟨.bool false,_,?_,by simp[VR],q1,q2⟩;simp only[Instr.endRound,Sem.run_bind,lQ h1,Result.andThen_ok,nS _ h1,Sem.run_pure,hj];rfl
 ·cases hg
theorem round_ok(X:wV P){K:pY}(hK:KOK P K){l:Nat}{args:List SV}{h h':H}{v:SV}(hg:(round P l K args h).go=some (v,h')):∀ρ w us n p,HR ρ h w→ρ l=some p→bM ρ args us→
 ∃L,w.heap[p.b]?=some (.loop L)∧us.length=L.params.size∧
  RoundIn Fence.wide n P p.b L.fn ((L.params.zip us.toArray).foldl (fun tmps (x:Tmp×Value)=>tmps.setIfInBounds x.1 x.2) L.tmps) L.assign L.body w (AY ρ h w v h'):=by
 intro ρ w us n p hr hp hv;unfold round at hg;split at hg
 ·rename_i oW tmps m ps wL body hgl dE
  obtain⟨sa,g1,hg⟩:=Out.bind_go hg;obtain⟨L,h1,h2,h3,h4,h5,h6,⟨ok1,ok2⟩,h7,h8⟩:=hr.loop hgl dE hp;have ha0:AR ρ ⟨tmps,m,[],some l⟩ {tmps:=L.tmps,defers:=[]}:=⟨h7.2.1,h7.1,h7.2.2,fun _ hl=>(by cases hl),rfl⟩;obtain⟨z1,z2⟩:=zipSet_ok ps args us _ sa _ g1 hv ha0;refine⟨L,h1,by rw[←Array.length_toList,h4,z1],?_⟩;have hzip:(L.params.zip us.toArray).foldl (fun tmps (x:Tmp×Value)=>tmps.setIfInBounds x.1 x.2) L.tmps=(ps.zip us).foldl (fun tmps (x:Nat×Value)=>tmps.setIfInBounds x.1 x.2) L.tmps:=by
   rw[←Array.foldl_toList,Array.toList_zip,h4]
  rw[hzip];obtain⟨⟨x,BA,hh1⟩,k1,hg⟩:=Out.bind_go hg;refine roundIn_of_wpIn trivial ?_;rw[h5,h6];refine jD X.tab X.mixed (roundOK p.b) hK (fun e=>by cases e) wL sa BA h hh1 x ρ _ w ok1 k1 z2 hr fun dQ a1 w1 p1 p2 p3=>?_
  cases x with
  |exit j=>cases hg
  |ret=>cases hg
  |normal=>
   simp only at hg;split at hg
   ·rename_i rH tmps' m' ps' asg' body' hgl'
    have hp1:=p3.le _ _ hp;obtain⟨L',e1,e2,e3,e4,e5,e6,_,e7,e8⟩:=p2.loop hgl' (by unfold okR at dE⊢;rw[p3.ro];exact dE) hp1;obtain⟨q1,q2⟩:=e8 .busy rH;refine⟨{w1 with heap:=w1.heap.setIfInBounds p.b (.loop {L' with state:=.busy,pending:=rH})},?_,?_⟩
    ·have eL:({L' with state:=.busy,pending:=rH}:Loop)={L' with state:=.busy}:=by rw[←e3]
     rw[eL];simp only[Instr.beginRound,Sem.run_bind,lQ e1,Result.andThen_ok,nS _ e1,e2,Sem.run_pure]
    ·obtain⟨⟨x2,sa2,hh2⟩,k3,hg⟩:=Out.bind_go hg
     have f1:=p3.trans hr p2 q2;refine jD X.tab X.mixed (roundOK p.b) hK (fun e=>by cases e) body BA sa2 _ hh2 x2 dQ a1 _ ok2 k3 p1 q1 fun iJ a2 w2 r1 r2 r3=>?_
     have hp2:=r3.le _ _ hp1;have f2:=f1.trans hr q1 r3;have done:∀(jump:Option Code) (ok:Bool),jump.isNone=ok→(match hh2.get l with
      |.loop _ _ t n p x y=>Out.ret (SV.bool ok,hh2.put l (.loop (match ok with|true=>.ready|false=>.done) jump t n p x y))
      |_=>.fail).go=some (v,h')→∃u w',(Instr.endRound p.b jump).run P w2=.ok u w'∧AY ρ h w v h' (.returned u) w':=fun jump ok hj hg=>by
      obtain⟨u,w',s1,s2,s3,s4⟩:=endRound_ok (P:=P) r2 hp2 hg hj (by unfold okR at dE⊢;rw[f2.ro];exact dE);exact⟨u,w',s1,iJ,u,rfl,s2,s3,f2.trans hr r2 s4⟩
     cases x2 with
     |normal=>exact done none true rfl hg
     |ret=>exact done (some .ret) false rfl hg
     |exit j=>exact done (some (.exit j)) false rfl hg
   ·cases hg
 ·cases hg
end
end Go.Proofs.YtnkcbfgfkadoaaaGreat.Sx
