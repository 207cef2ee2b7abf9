/- Part 29 of the proof of TopPeek. -/
import Derived.Test.YtnkcbfgfkadoaaaGreatX28
set_option linter.all false
namespace Go.Proofs.YtnkcbfgfkadoaaaGreat.Sx
open Go
set_option maxRecDepth 10000
section
variable{h:H}{own:Nat→Nat}{C:bS}{W:List Int}{nL:Nat}{aD:List Ev}{aL:List Nat}{N:Names}{aP:List (Nat×List Int)}{i t sb nb lr b:Nat}{k1 k2 k3:Int}{bV now:SV}{ob:mB}{V:Int→Prop}
theorem step_inv(ok:dU C)(w:hU C W)(F:tB h own C W nL aD aL N i t sb nb lr k1 k2 k3 bV now ob)(M:Mch C nL V k1 k2 now ob)(bf:BF C aD aP i b k2 V)(lfo:oO h own i (bV.ren fun _=>lr))(yE:aL[i]?=some t)
 (others:∀j t',aL[j]?=some t'→j≠i→ThI h own C nL aD aP j t')(hs:∀(j n:Nat) (W:List Int),aP[j]?=some (n,W)→n≤aD.length∧hU C W)(fact:tE C aP aD)(nlb:nL≤aP.length)(evb:aD.length≤2*aP.length+1):
 ∃h' bZ W' eX ne' nl',Sec h h' N.ns i t sb nb∧h'.n=h.n+200∧PInv h' bZ C W' (nL+1) eX aL {N with ne:=ne',nl:=nl'} (aP++[(eX.length,W')])∧wY h h' own bZ i:=by
 have tb:=mV;have hb:=(List.getElem?_eq_some_iff.1 bf.here.choose_spec.1).1;have oth:∀{h':H} {bZ:Nat→Nat} (es:List Ev) (hx:List (Nat×List Int)),(∀v∈es,v.th=(i:Int))→wY h h' own bZ i→∀j t',aL[j]?=some t'→j≠i→ThI h' bZ C (nL+1) (aD++es) (aP++hx) j t':=fun es hx he af j t' hj fS=>
  (others j t' hj fS).grow (fun m o c hc a=>af.at_ a (by have:=tb j c;omega) (by have:=tb j c;omega) (by have:=tb j c;omega) (by have:=tb j c;omega) (by have:=tb j c;omega) fun d hd=>tg_ne fS hc hd) (by omega) es (fun v hv=>by rw[he v hv];omega) hx
 obtain⟨W',w',st⟩:=step_any ok w F M;rcases st with⟨iF,ob',M',h',bZ,ν',ne',nl',hn,sec,co,af,thr,ma,mC⟩|⟨at_,a1,a2,a3,a4,hv,h',bZ,ν',ne',nl',hn,sec,co,af,thr,ma,mC⟩
 ·refine⟨h',bZ,W',aD,ne',nl',sec,hn,⟨co,w',fun j t' hj=>?_,fun _=>F.he,by simp;omega,by simp;omega,fun j n W0 hh=>?_,?_⟩,af⟩
  ·by_cases e:j=i
   ·subst e
    rw[yE]at hj;injection hj with hj;subst hj;refine .busy _ k1 k2 k3 iF ob' ν' b _ (lfo.imp mC) thr ma M' ⟨bf.here,bf.none,fun x hx=>?_⟩;rcases hx with hx|hx
    ·obtain⟨j',n,W0,e1,e2,e3⟩:=bf.seen x hx
     exact⟨j',n,W0,by rw[List.getElem?_append_left (List.getElem?_eq_some_iff.1 e1).1];exact e1,e2,e3⟩
    ·exact⟨aP.length,aD.length,W',by simp,hb,hx.symm⟩
   ·have:=oth [] [(aD.length,W')] (by simp) af j t' hj e
    rwa [List.append_nil]at this
  ·rcases Nat.lt_or_ge j aP.length with hl|hl
   ·rw[List.getElem?_append_left hl]at hh;exact hs j n W0 hh
   ·rw[List.getElem?_append_right hl]at hh
    have:=List.mem_of_getElem? hh;simp only[List.mem_singleton,Prod.mk.injEq]at this;obtain⟨rfl,rfl⟩:=this;exact⟨Nat.le_refl _,w'⟩
  ·have:=fact.grow [] [(aD.length,W')] (fun k v hv=>by simp at hv)
   rwa [List.append_nil]at this
 ·refine⟨h',bZ,W',_,ne',nl',sec,hn,⟨co,w',fun j t' hj=>?_,fun _=>by simp,by simp;omega,by simp;omega,fun j n W0 hh=>?_,?_⟩,af⟩
  ·by_cases e:j=i
   ·subst e
    rw[yE]at hj;injection hj with hj;subst hj;exact .rest _ k1 k2 k3 (lfo.imp mC) thr
   ·exact oth [_] [_] (by simp) af j t' hj e
  ·rcases Nat.lt_or_ge j aP.length with hl|hl
   ·rw[List.getElem?_append_left hl]at hh
    have:=hs j n W0 hh;exact⟨by simp;omega,this.2⟩
   ·rw[List.getElem?_append_right hl]at hh
    have:=List.mem_of_getElem? hh;simp only[List.mem_singleton,Prod.mk.injEq]at this;obtain⟨rfl,rfl⟩:=this;exact⟨Nat.le_refl _,w'⟩
  ·refine fact.grow [_] [_] fun k v hv e1 e2 e3 e4=>?_
   have hk:k=0:=by
    have:=(List.getElem?_eq_some_iff.1 hv).1;simp at this;exact this
   subst hk;simp only[List.getElem?_cons_zero,Option.some.injEq]at hv;subst hv;simp only at e1 e2 e3 e4⊢;refine⟨M.node e2,b,bf.here.choose,by omega,by rw[List.getElem?_append_left hb];exact bf.here.choose_spec.1,bf.here.choose_spec.2,fun j w hj hk hw=>?_,?_⟩
   ·rw[List.getElem?_append_left (by omega)]at hw
    exact bf.none j w hj hw
   ·rcases hv e2 e3 e4 with hx|hx
    ·obtain⟨j',n,W0,f1,f2,f3⟩:=bf.seen _ hx
     have hj':=(List.getElem?_eq_some_iff.1 f1).1;refine⟨j',n,W0,by rw[List.getElem?_append_left hj'];exact f1,f2,?_,f3⟩;rcases Nat.eq_zero_or_pos j' with z|z
     ·exact .inl z
     ·refine .inr ⟨aP[j'-1].1,aP[j'-1].2,by rw[List.getElem?_append_left (by omega)];exact List.getElem?_eq_getElem (by omega),?_⟩
      have:=(hs (j'-1) _ _ (List.getElem?_eq_getElem (by omega))).1;omega
    ·refine⟨aP.length,aD.length+1,W',by simp,by omega,?_,hx.symm⟩
     rcases Nat.eq_zero_or_pos aP.length with z|z
     ·exact .inl z
     ·refine .inr ⟨aP[aP.length-1].1,aP[aP.length-1].2,by rw[List.getElem?_append_left (by omega)];exact List.getElem?_eq_getElem (by omega),?_⟩
      have:=(hs (aP.length-1) _ _ (List.getElem?_eq_getElem (by omega))).1;omega
end
end Go.Proofs.YtnkcbfgfkadoaaaGreat.Sx
namespace Go.Proofs.YtnkcbfgfkadoaaaGreat.Sx
open Go
set_option maxRecDepth 100000
theorem idle_1(e:Env):follow [(0,false),(6,false),(5,true),(0,true),(1,true)] ((PF (e.tn:Int) (e.idle aC (.val .nilIface)) [0,1,2,3,4,5,6,7,8,9]).bind (iV [4] []))=some ([(decide ((e.tn:Int)<0),false),(decide ((e.tn:Int)≥e.nt),false),(decide ((0:Int)≤e.tn),true),(decide ((e.tn:Int)<e.nt),true),(Nat.beq (aE 0 (Int.toNat e.tn)) e.tn,true)],(71,SX.ret,[],[.bool false],10,[])):=by kernel_rfl
section
variable{h:H}{own:Nat→Nat}{C:bS}{W:List Int}{nL:Nat}{aD:List Ev}{aL:List Nat}{N:Names}{aP:List (Nat×List Int)}{i t:Nat}{k1 k2 k3:Int}
theorem idle_ret0(co:Core h own C W nL aD aL N)(at_:aL[i]?=some t)(thr:At h own t (tg i 0) (kK aC k1 k2 k3 (.val .nilIface)))(h6:h.n≤1000000):tQ h h N.ns (i:Int) false:=by
 have hi:=(List.getElem?_eq_some_iff.1 at_).1;have n1:decide ((i:Int)<0)=false:=decide_eq_false (by omega);have n2:decide ((i:Int)≥aL.length)=false:=decide_eq_false (by omega);have n3:decide ((0:Int)≤i)=true:=decide_eq_true (by omega);have n4:decide ((i:Int)<aL.length)=true:=decide_eq_true (by omega);have n5:Nat.beq (aE 0 (Int.toNat (i:Int))) i=true:=by rw[aY];simp
 exact rX mR (idle_1 (bX C W.length nL aD aL N i k1 k2 k3)) ⟨n1,n2,n3,n4,n5,trivial⟩ (.refl _) (zS (m:=N.ns) (lr:=N.ns) co at_ thr co.sched.2.2 co.sched.2.2 (.of rfl) h6) rfl rfl rfl rfl (K:=0) (by simp[Env.idle]) h6
theorem PInv.stay(I:PInv h own C W nL aD aL N aP):PInv h own C W nL aD aL N (aP++[(aD.length,W)]):=by
 refine⟨I.co,I.w,fun j t' hj=>?_,I.nl,by have:=I.nlb;simp;omega,by have:=I.evb;simp;omega,fun j n W0 hh=>?_,?_⟩
 ·have:=(I.thr j t' hj).grow (fun m o c hc a=>a) (Nat.le_refl _) [] (by simp) [(aD.length,W)]
  rwa [List.append_nil]at this
 ·rcases Nat.lt_or_ge j aP.length with hl|hl
  ·rw[List.getElem?_append_left hl]at hh;exact I.hs j n W0 hh
  ·rw[List.getElem?_append_right hl]at hh
   have:=List.mem_of_getElem? hh;simp only[List.mem_singleton,Prod.mk.injEq]at this;obtain⟨rfl,rfl⟩:=this;exact⟨Nat.le_refl _,I.w⟩
 ·have:=I.fact.grow [] [(aD.length,W)] (fun k v hv=>by simp at hv)
  rwa [List.append_nil]at this
def PickR(h:H)(own:Nat→Nat)(C:bS)(aL:List Nat)(N:Names)(aP:List (Nat×List Int))(n:Int):Prop:=
 ∃v h' bZ W' nL' eX ne' nl',Spec Tryz.prog (.fn 12 [.ptr N.ns 0 0,.int .i64 n]) h (.bool v,h')∧h'.n≤h.n+400∧h.n≤h'.n∧PInv h' bZ C W' nL' eX aL {N with ne:=ne',nl:=nl'} (aP++[(eX.length,W')])∧
  (∀m,m<h.n→bZ m=own m)∧∀m,m<h.n→6≤own m→own m≤900→h'.get m=h.get m
theorem BJ.oth{h h':H}{own bZ:Nat→Nat}{i j m c:Nat}{o:SO}(af:BJ h h' own bZ i)(fS:j≠i)(hc:c<1000)(a:At h own m (tg j c) o):At h' bZ m (tg j c) o:=by
 have:=mV j c;exact af.at_ a (by omega) (by omega) (tg_ne fS hc (by omega))
theorem pick_rest{lf:SV}(ok:dU C)(I:PInv h own C W nL aD aL N aP)(h8:aL.length≤8)(room:h.n+400≤1000000)(hl:aP.length≤10000)(yE:aL[i]?=some t)(lfo:oO h own i lf)(thr:At h own t (tg i 0) (kK lf k1 k2 k3 (.val .nilIface))):PickR h own C aL N aP (i:Int):=by
 have nlb:=I.nlb;have evb:=I.evb;have stay:tQ h h N.ns (i:Int) false→PickR h own C aL N aP (i:Int):=fun p=>⟨_,_,own,W,nL,aD,N.ne,N.nl,zO p,by omega,Nat.le_refl _,I.stay,fun _ _=>rfl,fun _ _ _ _=>rfl⟩
 rcases lfo with rfl|⟨lr,off,nC,cC,cl,rfl,left,hlen⟩
 ·exact stay (idle_ret0 I.co yE thr (by omega))
 ·rcases Nat.eq_zero_or_pos nC with h0|h0
  ·exact stay (idle_ret I.co yE thr left.2.2 (by omega) h0)
  ·have oN:off<cl.length:=by omega
   obtain⟨c1,c2,c3,nN⟩:∃c1 c2 c3,cl[off]?=some (c1,c2,c3):=⟨cl[off].1,cl[off].2.1,cl[off].2.2,List.getElem?_eq_getElem oN⟩;have beg:Beg h own C W nL aD aL N i t lr off nC cC k1 k2 k3 c1 c2 c3 (mD cl):=⟨I.co,yE,thr,left,by rw[uX];omega,ccs_at nN⟩;have lftA:∀{h1:H} {cO:Nat→Nat},BJ h h1 own cO i→oO h1 cO i (.slice lr (off+1) (nC-1) (cC.map fun x=>x-1)):=fun af=>.inr ⟨lr,off+1,nC-1,_,cl,rfl,af.at_ left (by have:=mV i 990;omega) (by have:=mV i 990;omega) (by unfold tg;omega),by omega⟩
   have others:∀{h1:H} {cO:Nat→Nat} (es:List Ev) (hx:List (Nat×List Int)),(∀v∈es,v.th=(i:Int))→BJ h h1 own cO i→∀j t',aL[j]?=some t'→j≠i→ThI h1 cO C nL (aD++es) (aP++hx) j t':=fun es hx he af j t' hj fS=>
    (I.thr j t' hj).grow (fun m o c hc a=>af.oth fS hc a) (Nat.le_refl _) es (fun v hv=>by rw[he v hv];omega) hx
   by_cases gU:fZ C.ti C.PL.length C.PL c1 c2 c3=0
   ·obtain⟨h1,cO,pe,sb,nb,now,ob,ν,pg,hn1,co1,af1,thr1,sb1,nb1,ma1,M⟩:=bgn_any ok beg (by omega) h0 h8 (by omega) (by omega) I.nl gU
    have F:tB h1 cO C W nL (aD++[vI nL i c1 c2 c3]) aL {N with ne:=pe} i t sb nb lr c1 c2 c3 (.slice 9 (off+1) (nC-1) (cC.map fun x=>x-1)) now ob:=
     ⟨co1,by simp,⟨ν,⟨yE,thr1,sb1,nb1,by have:=left.2.2;omega⟩,ma1⟩,rfl,by omega,by omega,by simp;omega⟩
    obtain⟨h2,eJ,W2,evs2,ne2,nl2,sec,hn2,I2,af2⟩:=step_inv (aP:=aP) (b:=aD.length) ok I.w F M ⟨⟨vI nL i c1 c2 c3,by simp,rfl⟩,fun j w hj hw=>by
     have:=(List.getElem?_eq_some_iff.1 hw).1;simp at this;omega,fun x hx=>hx.elim⟩ (lftA af1) yE (fun j t' hj fS=>by
     have:=others [vI nL i c1 c2 c3] [] (by simp[vI]) af1 j t' hj fS
     rwa [List.append_nil]at this) (fun j n W0 hh=>by
     have:=I.hs j n W0 hh;exact⟨by simp;omega,this.2⟩) (by
     have:=I.fact.grow [vI nL i c1 c2 c3] [] fun k v hv e1=>by
      have:=List.mem_of_getElem? hv;simp only[List.mem_singleton]at this;subst this;exact absurd e1 (by simp[vI])
     rwa [List.append_nil]at this) nlb (by simp;omega)
    refine⟨_,h2,eJ,W2,nL+1,evs2,ne2,nl2,pick_of pg sec,by omega,by omega,I2,fun m hm=>by rw[af2.same m (by omega),af1.same m hm],fun m hm h6 h7=>?_⟩;have b0:=mV i;rw[af2.frame m (by omega) (by rw[af1.same m hm];omega) (by rw[af1.same m hm];omega) (by rw[af1.same m hm];omega) (by rw[af1.same m hm];omega) (by rw[af1.same m hm];omega) (fun c _=>by rw[af1.same m hm];have:=b0 c;omega)];exact af1.frame m hm (by omega) (by omega) (by have:=b0 0;omega)
   ·obtain⟨h1,cO,pe,pr,hn1,co1,af1,thr1⟩:=err_any ok beg (by omega) h0 (by omega) (by omega) I.nl gU
    refine⟨_,h1,cO,W,nL,_,pe,N.nl,zO pr,by omega,by omega,⟨co1,I.w,fun j t' hj=>?_,fun _=>by simp,by simp;omega,by simp;omega,fun j n W0 hh=>?_,?_⟩,af1.same,fun m hm h6 h7=>af1.frame m hm (by omega) (by omega) (by have:=mV i 0;omega)⟩
    ·by_cases e:j=i
     ·subst e
      rw[yE]at hj;injection hj with hj;subst hj;exact .rest _ c1 c2 c3 (lftA af1) thr1
     ·exact others _ _ (by simp[vI,enE]) af1 j t' hj e
    ·rcases Nat.lt_or_ge j aP.length with hl|hl
     ·rw[List.getElem?_append_left hl]at hh
      have:=I.hs j n W0 hh;exact⟨by simp;omega,this.2⟩
     ·rw[List.getElem?_append_right hl]at hh
      have:=List.mem_of_getElem? hh;simp only[List.mem_singleton,Prod.mk.injEq]at this;obtain⟨rfl,rfl⟩:=this;exact⟨Nat.le_refl _,I.w⟩
    ·refine I.fact.grow _ _ fun k v hv e1 e2 e3=>?_
     have:=List.mem_of_getElem? hv;simp only[List.mem_cons,List.not_mem_nil,or_false]at this;rcases this with rfl|rfl
     ·exact absurd e1 (by simp[vI])
     ·exact absurd e3 gU
theorem pick_inv(ok:dU C)(I:PInv h own C W nL aD aL N aP)(h8:aL.length≤8)(room:h.n+400≤1000000)(hl:aP.length≤10000)(n:Int):PickR h own C aL N aP n:=by
 have nlb:=I.nlb;have evb:=I.evb;by_cases hn:n<0∨n≥(aL.length:Int)
 ·exact⟨_,_,own,W,nL,aD,N.ne,N.nl,zO (out_ret I.co (by omega) hn),by omega,Nat.le_refl _,I.stay,fun _ _=>rfl,fun _ _ _ _=>rfl⟩
 ·obtain⟨i,rfl⟩:∃i:Nat,n=(i:Int):=⟨n.toNat,by omega⟩
  have hi:i<aL.length:=by omega
  have yE:aL[i]?=some aL[i]:=List.getElem?_eq_getElem hi;have th:=I.thr i _ yE;cases th with
  |rest lf k1 k2 k3 lfo thr=>exact pick_rest ok I h8 room hl yE lfo thr
  |busy lf k1 k2 k3 now ob ν b V lfo thr ma M bf=>
   obtain⟨ty,o,rfl,h10⟩:=M.now_eq;have a10:=ma.at_ _ h10;have hν:ν 10<h.n:=a10.2.2;have hone:lf.one=true:=by rcases lfo with rfl|⟨_,_,_,_,_,rfl,_⟩<;>rfl
   obtain⟨h1,cO,sb,nb,pg,hn1,hR,hC,fr,sb1,nb1⟩:=busy_go (m:=ν 10) (ty:=ty) I.co yE thr hone hν (by omega);have up:∀{m t:Nat} {o:SO},At h own m t o→At h1 cO m t o:=fun a=>⟨by rw[(fr _ a.2.2).2];exact a.1,by rw[(fr _ a.2.2).1];exact a.2.1,by have:=a.2.2;omega⟩
   have co1:Core h1 cO C W nL aD aL N:=⟨fun m hm=>by
    rw[hR]at hm;have:=I.co.oR m hm;exact⟨by rw[(fr m this.2).1];exact this.1,by omega⟩,by rw[hC];exact I.co.oC,up I.co.sched,up I.co.mem,up I.co.words,up I.co.thr,fun e=>up (I.co.ev e),fun e=>up (I.co.log e),up I.co.par⟩
   have hb:=(List.getElem?_eq_some_iff.1 bf.here.choose_spec.1).1;have hZ:aD≠[]:=fun e=>by subst e;simp at hb
   have key:∃(lr:Nat) (bV:SV),bV.ren (fun _=>lr)=lf∧bV.pls (fun p=>Nat.beq p 9)=true∧lr<h.n:=by
    rcases lfo with rfl|⟨lr,off,nC,cC,cl,rfl,left,_⟩
    ·exact⟨N.ns,aC,rfl,rfl,I.co.sched.2.2⟩
    ·exact⟨lr,.slice 9 off nC cC,rfl,rfl,left.2.2⟩
   obtain⟨lr,bV,e1,e2,e3⟩:=key;have F:tB h1 cO C W nL aD aL N i aL[i] sb nb lr k1 k2 k3 bV (.iface ty (.ptr 10 0 0)) ob:=
    ⟨co1,hZ,⟨ν,⟨yE,by rw[e1];exact up thr,sb1,nb1,by omega⟩,ma.imp fun m o c hc a=>up a⟩,e2,by omega,by omega,by omega⟩
   obtain⟨h2,eJ,W2,evs2,ne2,nl2,sec,hn2,I2,af2⟩:=step_inv (aP:=aP) ok I.w F M bf (by rw[e1];exact lfo.imp fun m o a=>up a) yE (fun j t' hj fS=>by
    have:=(I.thr j t' hj).grow (h':=h1) (bZ:=cO) (fun m o c hc a=>up a) (Nat.le_refl _) [] (by simp) []
    rwa [List.append_nil,List.append_nil]at this) I.hs I.fact nlb (by omega)
   refine⟨_,h2,eJ,W2,nL+1,evs2,ne2,nl2,pick_of pg sec,by omega,by omega,I2,fun m hm=>by rw[af2.same m (by omega),(fr m hm).1],fun m hm h6 h7=>?_⟩;have b0:=mV i;have s7:=(fr m hm).1;rw[af2.frame m (by omega) (by omega) (by omega) (by omega) (by omega) (by omega) (fun c _=>by have:=b0 c;omega)];exact(fr m hm).2
end
end Go.Proofs.YtnkcbfgfkadoaaaGreat.Sx
namespace Go.Proofs.YtnkcbfgfkadoaaaGreat.Sx
open Go
set_option maxRecDepth 10000
def tm(x:Int):Int:=IntKind.wrap .i64 (Int.tmod (IntKind.wrap .u64 x) 4294967296)
theorem p46_0(x:Int):follow [(1,true),(0,true)] ((runK Tryz.prog S0 20 (.fn 46 [.int .i64 x]) (aT [] [])).bind (cD []))=some ([(decide (tm x≥2147483648),true),(fits (tm x-4294967296),true)],(.int .i64 (tm x-4294967296),0,[])):=by kernel_rfl
theorem p46_1(x:Int):follow [(1,false)] ((runK Tryz.prog S0 20 (.fn 46 [.int .i64 x]) (aT [] [])).bind (cD []))=some ([(decide (tm x≥2147483648),false)],(.int .i64 (tm x),0,[])):=by kernel_rfl
theorem tm_eq(x:Int):tm x=x%4294967296:=by
 unfold tm;have e:IntKind.wrap .u64 x=x%18446744073709551616:=by simp[IntKind.wrap,IntKind.bits,IntKind.signed]
 have h0:0≤x%18446744073709551616:=Int.emod_nonneg _ (by omega);rw[e,Int.tmod_eq_emod_of_nonneg h0,show x%18446744073709551616%4294967296=x%4294967296 by omega];exact jB (by simp only[hd,lo,hi];omega)
theorem val46_ex(x:Int):∃h',(R0 46 [.int .i64 x]).go=some (.int .i64 (valueOf x),h')∧h'.n≤4:=by
 have t:=tm_eq x;by_cases c:tm x≥2147483648
 ·have e:valueOf x=tm x-4294967296:=sN _ _ (by omega) (by omega) (by omega)
  rw[e];exact iE (p46_0 x) ⟨decide_eq_true c,aN (by omega),trivial⟩ (by omega)
 ·have e:valueOf x=tm x:=sN _ _ (by omega) (by omega) (by omega)
  rw[e];exact iE (p46_1 x) ⟨decide_eq_false c,trivial⟩ (by omega)
theorem p24(th st ga le re ti v:Int)(np:Nat)(cp:Option Nat)(lv:Value):follow [(0,true),(0,true),(0,true),(0,true),(0,true)] ((runK Tryz.prog S0 20 (.fn 24 [cA th st ga le re ti np cp lv,.int .i64 v]) (aT [.dead] [0])).bind (cD []))=
 some ([(fits (2*st),true),(fits (6+2*st),true),(fits (v*(6+2*st)),true),(fits (v*(6+2*st)+2),true),(fits (v*(6+2*st)+2+st),true)],(.int .i64 (v*(6+2*st)+2+st),3,[])):=by kernel_rfl
theorem p23(th st ga le re ti:Int)(np:Nat)(cp:Option Nat)(lv:Value):follow [(0,true),(0,true),(0,true),(0,true),(0,true)] ((runK Tryz.prog S0 20 (.fn 23 [cA th st ga le re ti np cp lv]) (aT [.dead] [0])).bind (cD []))=
 some ([(fits (2*st),true),(fits (6+2*st),true),(fits (↑np*(6+2*st)),true),(fits (2*ti),true),(fits (↑np*(6+2*st)+2*ti),true)],(.int .i64 (↑np*(6+2*st)+2*ti),4,[])):=by kernel_rfl
noncomputable def outK:cI:=fun t h=>match t with
 |.fn 46 [.int .i64 x]=>pure h (.int .i64 (valueOf x))
 |.fn 24 [.agg [.int .i64 _,.int .i64 st,.int .i64 _,.int .i64 _,.int .i64 _,.int .i64 _,.slice P 0 _ _,.val _],.int .i64 v]=>qF h P (decide (0≤st∧st≤8∧0≤v∧v≤100)) (.int .i64 (aB st v+2+st))
 |.fn 23 [.agg [.int .i64 _,.int .i64 st,.int .i64 _,.int .i64 _,.int .i64 _,.int .i64 ti,.slice P 0 np _,.val _]]=>qF h P (decide (0≤st∧st≤8∧np≤100∧0≤ti∧ti≤100)) (.int .i64 (aB st np+2*ti))
 |_=>none
theorem pM:cX Tryz.prog outK:=fun f args h o r ho hg=>by
 unfold outK at ho;split at ho
 ·rename_i heq;injection heq with e1 e2;subst e1;subst e2;exact jE (val46_ex _) (fun _=>rfl) (fun _=>rfl) ho hg
 ·rename_i th st ga le re ti P np cp lv v heq
  injection heq with e1 e2;subst e1;subst e2;refine jL ho hg fun hc hp h6=>?_
  obtain⟨c1,c2,c3,c4⟩:=of_decide_eq_true hc;have:=fU c3 c4 c1 c2;exact eB (p24 th st ga le re ti v np cp lv) ⟨aN (by omega),aN (by omega),aN (by omega),aN (by omega),aN (by omega),trivial⟩ (by omega) (fun _=>rfl) rfl hp h6
 ·rename_i th st ga le re ti P np cp lv heq
  injection heq with e1 e2;subst e1;subst e2;refine jL ho hg fun hc hp h6=>?_
  obtain⟨c1,c2,c3,c4,c5⟩:=of_decide_eq_true hc;have:=fU (v:=(np:Int)) (by omega) (by omega) c1 c2;exact eB (p23 th st ga le re ti np cp lv) ⟨aN (by omega),aN (by omega),aN (by omega),aN (by omega),aN (by omega),trivial⟩ (by omega) (fun _=>rfl) rfl hp h6
 ·cases ho
def kI:Nat→Int
 |0=>0
 |k+1=>IntKind.wrap .i64 (kI k+1)
def aI(a:Int)(k:Nat):Int:=IntKind.wrap .i64 (IntKind.wrap .i64 (a+4)+kI k)
def sumC(W:List Int)(n:Nat)(a:Int):Nat→kB
 |0=>[(decide (0≤a),true),(decide (a<(n:Int)),true),(Nat.blt (ix 1 (aE 0 (Int.toNat a)) 0) (List.length W),true)]
 |k+1=>sumC W n a k++[(decide (0≤aI a k),true),(decide (aI a k<(n:Int)),true),(Nat.blt (ix 1 (aE 0 (Int.toNat (aI a k))) 0) (List.length W),true)]
def uY(W:List Int)(a:Int):Nat→Int
 |0=>List.getD W (ix 1 (aE 0 (Int.toNat a)) 0) 0
 |k+1=>IntKind.wrap .i64 (uY W a k+valueOf (List.getD W (ix 1 (aE 0 (Int.toNat (aI a k))) 0) 0))
noncomputable abbrev SumR(W:List Int)(n:Nat)(c:Option Nat)(a:Int)(st:Int):Out (SV×H):=runK Tryz.prog outK 20 (.fn 25 [.slice 0 0 n c,.int .i64 a,.int .i64 st]) (aT [.ints 3 1 W] [0])
theorem sum_1(W:List Int)(n:Nat)(c:Option Nat)(a:Int):follow [(0,true),(0,true),(0,true),(1,true),(0,true),(0,true)] ((SumR W n c a 1).bind (cD []))=some (sumC W n a 1,(.int .i64 (uY W a 1),5,[])):=by kernel_rfl
theorem sum_2(W:List Int)(n:Nat)(c:Option Nat)(a:Int):follow [(0,true),(0,true),(0,true),(1,true),(0,true),(0,true),(2,true),(0,true),(0,true)] ((SumR W n c a 2).bind (cD []))=some (sumC W n a 2,(.int .i64 (uY W a 2),9,[])):=by kernel_rfl
theorem sum_4(W:List Int)(n:Nat)(c:Option Nat)(a:Int):follow [(0,true),(0,true),(0,true),(1,true),(0,true),(0,true),(2,true),(0,true),(0,true),(2,true),(0,true),(0,true),(2,true),(0,true),(0,true)] ((SumR W n c a 4).bind (cD []))=some (sumC W n a 4,(.int .i64 (uY W a 4),17,[])):=by kernel_rfl
theorem sum_8(W:List Int)(n:Nat)(c:Option Nat)(a:Int):follow [(0,true),(0,true),(0,true),(1,true),(0,true),(0,true),(2,true),(0,true),(0,true),(2,true),(0,true),(0,true),(2,true),(0,true),(0,true),(2,true),(0,true),(0,true),(2,true),(0,true),(0,true),(2,true),(0,true),(0,true),(2,true),(0,true),(0,true)] ((SumR W n c a 8).bind (cD []))=some (sumC W n a 8,(.int .i64 (uY W a 8),33,[])):=by kernel_rfl
theorem w64{n:Int}(h:-1000000≤n∧n≤1000000):IntKind.wrap .i64 n=n:=jB (by simp only[hd,lo,hi];omega)
theorem kI_eq:∀k:Nat,k≤100→kI k=(k:Int)
 |0,_=>rfl
 |k+1,h=>by
  unfold kI;rw[kI_eq k (by omega),w64 (by omega)];omega
theorem aI_eq{a:Int}{k:Nat}(h:0≤a∧a≤100000)(hk:k≤100):aI a k=a+4+k:=by
 unfold aI;rw[kI_eq k hk,w64 (n:=a+4) (by omega),w64 (by omega)]
theorem sumC_ok{W:List Int}{n:Nat}{a:Int}(h:0≤a∧a≤100000)(hn:n≤W.length):∀k:Nat,k≤100→a+4+k≤(n:Int)→holds (sumC W n a k)
 |0,_,h1=>by
  have e:ix 1 (aE 0 a.toNat) 0=a.toNat:=by rw[aY];show 0+a.toNat=_;omega
  exact⟨decide_eq_true h.1,decide_eq_true (by omega),by rw[e];exact aF.2 (by omega),trivial⟩
 |k+1,hk,h1=>by
  have e:ix 1 (aE 0 (aI a k).toNat) 0=(aI a k).toNat:=by rw[aY];show 0+(aI a k).toNat=_;omega
  have ea:=aI_eq (k:=k) h (by omega);exact aG (sumC_ok h hn k (by omega) (by omega)) ⟨decide_eq_true (by omega),decide_eq_true (by omega),by rw[e];exact aF.2 (by omega),trivial⟩
noncomputable def held(W:List Int)(a:Int):Nat→Int
 |0=>0
 |k+1=>held W a k+valueOf (W.getD (a+4+k).toNat 0)
theorem wrapI_mod(y:Int):IntKind.wrap .i64 y%18446744073709551616=y%18446744073709551616:=by
 simp only[IntKind.wrap,IntKind.bits,IntKind.signed];simp;split<;>omega
theorem sumV_mod{W:List Int}{a:Int}(h:0≤a∧a≤100000):∀k:Nat,k≤100→(uY W a k)%18446744073709551616=(W.getD a.toNat 0+held W a k)%18446744073709551616
 |0,_=>by
  have e:ix 1 (aE 0 a.toNat) 0=a.toNat:=by rw[aY];show 0+a.toNat=_;omega
  unfold uY held;rw[e,Int.add_zero]
 |k+1,hk=>by
  have e:ix 1 (aE 0 (aI a k).toNat) 0=(aI a k).toNat:=by rw[aY];show 0+(aI a k).toNat=_;omega
  have ih:=sumV_mod (W:=W) h k (by omega);unfold uY held;rw[e,aI_eq h (by omega),wrapI_mod];omega
theorem wrap_congr{x y:Int}(h:x%18446744073709551616=y%18446744073709551616):IntKind.wrap .i64 x=IntKind.wrap .i64 y:=by
 simp only[IntKind.wrap,IntKind.bits,IntKind.signed];simp[h]
theorem zT{W:List Int}{a g:Int}:∀k:Nat,(∀j:Nat,j<k→-g≤valueOf (W.getD (a+4+j).toNat 0)∧valueOf (W.getD (a+4+j).toNat 0)≤g)→-(k*g)≤held W a k∧held W a k≤k*g
 |0,_=>by simp[held]
 |k+1,h=>by
  have ih:=zT (W:=W) (a:=a) (g:=g) k fun j hj=>h j (by omega)
  have:=h k (by omega);unfold held;rw[show((k+1:Nat):Int)*g=k*g+g by rw[Int.natCast_add,Int.add_mul];simp];omega
theorem sum_diff{W:List Int}{a:Int}(h:0≤a∧a≤100000){k:Nat}(hk:k≤100)(hb:-1000000000000≤held W a k∧held W a k≤1000000000000):IntKind.wrap .i64 (uY W a k-W.getD a.toNat 0)=held W a k:=by
 have e:(uY W a k-W.getD a.toNat 0)%18446744073709551616=held W a k%18446744073709551616:=by
  have:=sumV_mod (W:=W) h k hk;omega
 rw[wrap_congr e];exact jB (by simp only[hd,lo,hi];omega)
noncomputable def sumK:cI:=fun t h=>match t with
 |.fn 25 [.slice l 0 n c,.int .i64 a,.int .i64 st]=>match h.get l with
  |.ints 3 1 W=>some (.chk (Nat.blt l h.n&&Nat.ble (h.n+40) 1000000) (.chk (decide (0≤a∧a≤100000∧n≤W.length∧a+4+st≤(n:Int)∧(st=1∨st=2∨st=4∨st=8))) (.ret (.int .i64 (uY W a st.toNat),h.lay 40 []))))
  |_=>none
 |_=>none
theorem sum_sound:cX Tryz.prog sumK:=fun f args h o r ho hg=>by
 unfold sumK at ho;split at ho
 ·rename_i l n c a st heq
  injection heq with e1 e2;subst e1;subst e2;split at ho
  ·rename_i W gl
   injection ho with ho;subst ho;obtain⟨hc,hg1⟩:=Out.chk_go hg;obtain⟨hd,pU⟩:=Out.chk_go hg1;have:=Out.ret_go pU;subst this;simp only[Bool.and_eq_true]at hc;have c1:=aF.1 hc.1;have c2:=Nat.le_of_ble_eq_true hc.2;obtain⟨d1,d2,d3,d4,d5⟩:=of_decide_eq_true hd;have fit:=@zJ h l W c1 gl;have K:=fun(k:Nat) (hk:k≤100) (hh:a+4+k≤(n:Int))=>sumC_ok (W:=W) (n:=n) (a:=a) ⟨d1,d2⟩ d3 k hk hh
   rcases d5 with e|e|e|e<;>subst e
   ·exact cP (K:=40) (j:=[]) (ns:=[l]) bW pM (sum_1 W n c a) (K 1 (by omega) (by omega)) (rN.refl _) fit rfl rfl rfl (by simp) (by simp) c2
   ·exact cP (K:=40) (j:=[]) (ns:=[l]) bW pM (sum_2 W n c a) (K 2 (by omega) (by omega)) (rN.refl _) fit rfl rfl rfl (by simp) (by simp) c2
   ·exact cP (K:=40) (j:=[]) (ns:=[l]) bW pM (sum_4 W n c a) (K 4 (by omega) (by omega)) (rN.refl _) fit rfl rfl rfl (by simp) (by simp) c2
   ·exact cP (K:=40) (j:=[]) (ns:=[l]) bW pM (sum_8 W n c a) (K 8 (by omega) (by omega)) (rN.refl _) fit rfl rfl rfl (by simp) (by simp) c2
  ·cases ho
 ·cases ho
def qZ(ga:Int):Nat→Int
 |0=>0
 |k+1=>qZ ga k+ga-1
def gapC(ga:Int):Nat→kB
 |0=>[]
 |k+1=>gapC ga k++[(fits (qZ ga k+ga),true),(fits (qZ ga k+ga-1),true)]
noncomputable abbrev GapR(th st ga le re ti:Int)(np:Nat)(cp:Option Nat)(lv:Value):Out (SV×H):=runK Tryz.prog S0 20 (.fn 7 [cA th st ga le re ti np cp lv]) (aT [.dead] [0])
theorem gap_2(th ga le re ti:Int)(np:Nat)(cp:Option Nat)(lv:Value):follow [(1,true),(0,true),(2,true),(0,true)] ((GapR th 2 ga le re ti np cp lv).bind (cD []))=some (gapC ga 2,(.int .i64 (qZ ga 2),2,[])):=by kernel_rfl
theorem gap_1(th ga le re ti:Int)(np:Nat)(cp:Option Nat)(lv:Value):follow [(1,true),(0,true)] ((GapR th 1 ga le re ti np cp lv).bind (cD []))=some (gapC ga 1,(.int .i64 (qZ ga 1),2,[])):=by kernel_rfl
theorem gap_4(th ga le re ti:Int)(np:Nat)(cp:Option Nat)(lv:Value):follow [(1,true),(0,true),(2,true),(0,true),(2,true),(0,true),(2,true),(0,true)] ((GapR th 4 ga le re ti np cp lv).bind (cD []))=some (gapC ga 4,(.int .i64 (qZ ga 4),2,[])):=by kernel_rfl
theorem gap_8(th ga le re ti:Int)(np:Nat)(cp:Option Nat)(lv:Value):follow [(1,true),(0,true),(2,true),(0,true),(2,true),(0,true),(2,true),(0,true),(2,true),(0,true),(2,true),(0,true),(2,true),(0,true),(2,true),(0,true)] ((GapR th 8 ga le re ti np cp lv).bind (cD []))=some (gapC ga 8,(.int .i64 (qZ ga 8),2,[])):=by kernel_rfl
theorem gapV_eq(ga:Int):∀k:Nat,qZ ga k=k*(ga-1)
 |0=>by simp[qZ]
 |k+1=>by
  unfold qZ;rw[gapV_eq ga k,show((k+1:Nat):Int)*(ga-1)=k*(ga-1)+(ga-1) by rw[Int.natCast_add,Int.add_mul];simp];omega
theorem uZ{ga:Int}(h:1≤ga∧ga≤1048576):∀k:Nat,k≤8→holds (gapC ga k)
 |0,_=>trivial
 |k+1,hk=>by
  have e:=gapV_eq ga k;have b:0≤(k:Int)*(ga-1)∧(k:Int)*(ga-1)≤8*1048576:=by
   refine⟨Int.mul_nonneg (by omega) (by omega),?_⟩;have:=Int.mul_le_mul (show(k:Int)≤8 by omega) (show ga-1≤1048576 by omega) (by omega) (by omega);omega
  exact aG (uZ h k (by omega)) ⟨aN (by omega),aN (by omega),trivial⟩
section
variable{h:H}{own:Nat→Nat}{C:bS}{W:List Int}{nL:Nat}{aD:List Ev}{aL:List Nat}{N:Names}
end
section
variable{h:H}{own:Nat→Nat}{C:bS}{W:List Int}{nL:Nat}{aD:List Ev}{aL:List Nat}{N:Names}
end
def gapK:cI:=fun t h=>match t with
 |.fn 7 [.agg [.int .i64 _,.int .i64 st,.int .i64 ga,.int .i64 _,.int .i64 _,.int .i64 _,.slice P 0 _ _,.val _]]=>qF h P (decide ((st=1∨st=2∨st=4∨st=8)∧1≤ga∧ga≤1048576)) (.int .i64 (qZ ga st.toNat))
 |_=>none
theorem gap_sound:cX Tryz.prog gapK:=fun f args h o r ho hg=>by
 unfold gapK at ho;split at ho
 ·rename_i th st ga le re ti P np cp lv heq
  injection heq with e1 e2;subst e1;subst e2;refine jL ho hg fun hc hp h6=>?_
  obtain⟨c1,c2,c3⟩:=of_decide_eq_true hc;rcases c1 with e|e|e|e<;>subst e
  ·exact eB (gap_1 th ga le re ti np cp lv) (uZ ⟨c2,c3⟩ 1 (by omega)) (by omega) (fun _=>rfl) rfl hp h6
  ·exact eB (gap_2 th ga le re ti np cp lv) (uZ ⟨c2,c3⟩ 2 (by omega)) (by omega) (fun _=>rfl) rfl hp h6
  ·exact eB (gap_4 th ga le re ti np cp lv) (uZ ⟨c2,c3⟩ 4 (by omega)) (by omega) (fun _=>rfl) rfl hp h6
  ·exact eB (gap_8 th ga le re ti np cp lv) (uZ ⟨c2,c3⟩ 8 (by omega)) (by omega) (fun _=>rfl) rfl hp h6
 ·cases ho
noncomputable def K8:cI:=orK gapK (orK sumK outK)
theorem vA:cX Tryz.prog K8:=fW gap_sound (fW sum_sound pM)
section
variable{P:Program}{F:Fence}{n:Nat}{Q:Exit→Act→World→Prop}
theorem mW(T:TOK P)(hF:FOK F){K:pY}(hK:KOK P K){bY:Bool}{ops:Array Oper}{rest:List Oper}(dS:∀o∈ops.toList,dR o.op=true):∀(os:List Oper) (k:Nat) (a a':SA) (c:Act) (ρ:bF) (h h':H) (w:World),
 os++rest=ops.toList.drop k→(tG P K bY ops.toList os a h).go=some (a',h')→AR ρ a c→HR ρ h w→(∀aW c' w',AR aW a' c'→HR aW h' w'→FR ρ h w aW h' w'→wpOpsIn F n P ops Q (List.range' (k+os.length) rest.length) c' w')→
 wpOpsIn F n P ops Q (List.range' k (os.length+rest.length)) c w
 |[],k,a,a',c,ρ,h,h',w,_,hg,ha,hr,hq=>by
  have:=Out.ret_go hg;injection this with e1 e2;subst e1;subst e2;have:=hq ρ c w ha hr (.refl hr);simpa using this
 |o::os,k,a,a',c,ρ,h,h',w,nD,hg,ha,hr,hq=>by
  have hk:ops[k]?=some o:=by
   have:(ops.toList.drop k)[0]?=some o:=by rw[←nD];rfl
   rw[List.getElem?_drop]at this;simpa using this
  have hq:∀aW c' w',AR aW a' c'→HR aW h' w'→FR ρ h w aW h' w'→wpOpsIn F n P ops Q (List.range' (k+1+os.length) rest.length) c' w':=fun aW c' w' p1 p2 p3=>by
   have:=hq aW c' w' p1 p2 p3
   rwa [List.length_cons,show k+(os.length+1)=k+1+os.length by omega]at this
  have hos':os++rest=ops.toList.drop (k+1):=by
   have:(ops.toList.drop k).drop 1=os++rest:=by rw[←nD];rfl
   rw[←this,List.drop_drop]
  have ho:dR o.op=true:=dS o (by
   have:o∈ops.toList.drop k:=by rw[←nD];simp
   exact List.mem_of_mem_drop this)
  rw[List.length_cons,show os.length+1+rest.length=(os.length+rest.length)+1 by omega];simp only[List.range'_succ,wpOpsIn,hk];unfold tG at hg;rcases stepS_go hg with hg|⟨j,want,t,g1,g2,g3,g4⟩
  rotate_left
  ·rw[yX g1 g2 g3 (ha.at_ t),if_neg (by simp)]
   obtain⟨x,r1,r2⟩:=Out.bind_go g4;have:=Out.ret_go r1;subst this;exact⟨fun f _=>hF.fn f,mW T hF hK dS os (k+1) _ a' _ ρ h h' w hos' r2 (ha.put (by simp[iK,VR,Go.undef,bM])) hr hq⟩
  rcases yD hg with⟨g1,g2⟩|⟨j,want,t,b,g1,g2,g3,g4⟩
  ·obtain⟨x,r1,r2⟩:=Out.bind_go g2
   rw[iA g1,if_pos rfl];obtain⟨a1,h1⟩:=x;refine one_ok T hF hK r1 ha hr ho fun dQ c1 w1 q1 q2 q3=>?_
   exact mW T hF hK dS os (k+1) a1 a' c1 dQ h1 h' w1 hos' r2 q1 q2 fun aW c' w' p1 p2 p3=>hq aW c' w' p1 p2 (q3.trans hr q2 p3)
  ·have ha1:=ha.same g3
   rw[iB g1 g2 g3 (ha.at_ t)];obtain⟨x,r1,r2⟩:=Out.bind_go g4;obtain⟨a1,h1⟩:=x;cases hb:(b==want)
   ·rw[hb]at r1
    have:=Out.ret_go r1;injection this with e1 e2;subst e1;subst e2;rw[if_neg (by simp)];exact⟨fun f _=>hF.fn f,mW T hF hK dS os (k+1) _ a' _ ρ h h' w hos' r2 (ha1.put (by simp[iK,VR,Go.undef,bM])) hr hq⟩
   ·rw[hb]at r1
    rw[if_pos rfl];refine one_ok T hF hK r1 ha1 hr ho fun dQ c1 w1 q1 q2 q3=>?_
    exact mW T hF hK dS os (k+1) a1 a' c1 dQ h1 h' w1 hos' r2 q1 q2 fun aW c' w' p1 p2 p3=>hq aW c' w' p1 p2 (q3.trans hr q2 p3)
end
end Go.Proofs.YtnkcbfgfkadoaaaGreat.Sx
