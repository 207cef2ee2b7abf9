/- Part 26 of the proof of TopPeek. -/
import Derived.Test.YtnkcbfgfkadoaaaGreatX25
set_option linter.all false
namespace Go.Proofs.YtnkcbfgfkadoaaaGreat.Sx
open Go
set_option maxRecDepth 10000
def preA(n:Int):SA:=⟨setArgs .nil 0 [.ptr 0 0 0,.int .i64 n],71,[],none⟩
def preS(ns:Nat)(n:Int):SA:=⟨setArgs .nil 0 [.ptr ns 0 0,.int .i64 n],71,[],none⟩
def iV(ts ls:List Nat)(r:SX×SA×H):Out (Nat×SX×List Nat×List SV×Nat×List SO):=stN 20 r.2.1.n fun k=>(cR ts ls r).bind fun y=>.ret (k,y)
theorem seeP_eq{ts ls:List Nat}{r:SX×SA×H}{k:Nat}{x:SX}{ms:List Nat}{vs:List SV}{n:Nat}{os:List SO}(h:(iV ts ls r).go=some (k,x,ms,vs,n,os)):r.2.1.n=k∧r.1=x∧r.2.1.marks=ms∧ts.map r.2.1.get=vs∧r.2.2.n=n∧ls.map r.2.2.get=os:=by
 unfold iV at h;rw[iD]at h;obtain⟨y,h1,h2⟩:=Out.bind_go h;have:=Out.ret_go h2;injection this with e1 e2;subst e2;exact⟨e1,seeC_eq h1⟩
theorem okB12:eF (bR 12)=true:=by kernel_rfl
def tQ(h h1:H)(ns:Nat)(n:Int)(v:Bool):Prop:=∀(m:Nat) (Q:Exit→Act→World→Prop) (ρ:bF) (a:Act) (w:World),HR ρ h w→AR ρ (preS ns n) a→
 (∀aW a' w',HR aW h1 w'→FR ρ h w aW h1 w'→a'.tmps.getD 4 Go.undef=.bool v→a'.defers=[]→a'.tmps.size≤1000→Q .ret a' w')→(bR 12).wpIn Fence.wide m Tryz.prog Q a w
def PreGo(h h1:H)(ns i t sb nb:Nat):Prop:=∀(m:Nat) (Q:Exit→Act→World→Prop) (ρ:bF) (a:Act) (w:World),HR ρ h w→AR ρ (preS ns (i:Int)) a→
 (∀aW a' w',HR aW h1 w'→FR ρ h w aW h1 w'→ActR aW a' ns i t sb nb→(rO 4 (bR 12)).wpIn Fence.wide m Tryz.prog Q a' w')→(bR 12).wpIn Fence.wide m Tryz.prog Q a w
theorem pre_AR{ρ:bF}{ns:Nat}{n:Int}{a:Act}{r:Nat→Nat}(h0:r 0=ns)(ha:AR ρ (preS ns n) a):AR (ρ.via r) (preA n) a:=by
 refine⟨by simp[preA],ha.size,fun k=>?_,fun _ h=>(by cases h),ha.defers⟩;have:=ha.at_ k;have hv:∀s u,VR ρ (s.ren r) u→VR (ρ.via r) s u:=fun s u h=>(jH (oH ρ r)).2 h
 match k with
 |0=>exact hv (.ptr 0 0 0) _ (by simp only[SV.ren,h0];exact this)
 |1=>exact hv (.int .i64 n) _ this
 |k+2=>
  unfold SA.get preA;unfold SA.get preS at this;simp only at this⊢;rw[iC _ _ 0 _ (by simp),if_neg (by simp),Tr.get_nil]at this⊢;exact hv iK _ this
section
variable{S:cI}{h:H}{objs os oV:List SO}{R names ls:List Nat}{N K n:Nat}{j:List Nat}{ns:Nat}{nn:Int}{ps:Way}{ts ms:List Nat}{cs:kB}{x:SX}{vs:List SV}
theorem go_preP(hS:cX Tryz.prog S)(T:follow ps ((preC Tryz.prog (runK Tryz.prog S N) false 4 (bR 12) (preA nn) (aT objs R)).bind (iV ts ls))=some (cs,(71,x,ms,vs,n,oV)))(hc:holds cs)(hwk:rN oV os)
 (ft:Fit h (aT objs R) (nm names))(hns:nm names 0=ns)(eK:eU R objs=true)(mK:fO objs.length R n ls=true)(dM:os.all SO.plain=true)(hK:n-objs.length≤K)(hj:∀i∈j,i<n-objs.length)(h6:h.n+K≤1000000){m:Nat}{Q:Exit→Act→World→Prop}{ρ:bF}{a:Act}{w:World}(hr:HR ρ h w)(ha:AR ρ (preS ns nn) a)
 (hq:∀aW a' w',HR aW (h.lay K (laid (nx h.n objs.length j names) ls os)) w'→FR ρ h w aW (h.lay K (laid (nx h.n objs.length j names) ls os)) w'→bM aW (SV.rens (nx h.n objs.length j names) vs) (ts.map fun t=>a'.tmps.getD t Go.undef)→
  a'.tmps.size=71→a'.defers=ms.map (fun l=>tH (blk aW (nx h.n objs.length j names l)))→goOn Q (rO 4 (bR 12)) m Tryz.prog x a' w'):(bR 12).wpIn Fence.wide m Tryz.prog Q a w:=by
 obtain⟨⟨x',iS,s'⟩,g1,g2⟩:=Out.bind_go (dT _ _ _ _ T hc);obtain⟨e0,e1,e2,e3,e4,e5⟩:=seeP_eq g2;simp only at e0 e1 e2 e3 e4 e5;subst e1;refine pre_ok bW (kR bW hS N) 4 (bR 12) (preA nn) iS _ s' x' _ a w okB12 g1 (pre_AR hns ha) (ft.hr hr) fun uI a' w' p1 p2 p3=>?_
 obtain⟨j1,j2,j3⟩:=nV hwk ft eK mK dM hK hj h6 hr p2 p3 e4 e5;refine hq _ a' w' j1 j2 ?_ (by rw[p1.size];exact e0) ?_
 ·refine(kP j3).1 ?_
  rw[←e3];clear T g2 e3 hq
  induction ts with
  |nil=>simp[bM]
  |cons t ts ih=>simp only[List.map_cons,bM];exact⟨p1.at_ t,ih⟩
 ·rw[p1.defers,e2]
  refine List.map_congr_left fun l _=>?_
  unfold blk;rw[j3 l]
end
noncomputable def fn12:Bool:=match Tryz.prog.funcs[12]?with
 |some fn=>fn.body.isSome&&!(fn.name== "runtime.NumGoroutine")&&Nat.beq fn.ntmps 71&&(match fn.results.toList with
  |[.tmp 4]=>true
  |_=>false)
 |none=>false
theorem fn12_ok:fn12=true:=by kernel_rfl
theorem fn12_ex:∃fn,Tryz.prog.funcs[12]?=some fn∧fn.body=some (bR 12)∧(fn.name== "runtime.NumGoroutine")=false∧fn.ntmps=71∧fn.results.toList=[.tmp 4]:=by
 have h:=fn12_ok;unfold fn12 at h;unfold bR;split at h
 ·rename_i fn hfn
  simp only[Bool.and_eq_true,Bool.not_eq_true']at h;obtain⟨⟨⟨h1,h2⟩,h3⟩,h4⟩:=h;refine⟨fn,hfn,?_,h2,Nat.eq_of_beq_eq_true h3,?_⟩
  ·rw[hfn]
   cases hb:fn.body with
   |none=>rw[hb]at h1;cases h1
   |some c=>simp only[hb]
  ·split at h4
   ·rename_i e;exact e
   ·cases h4
 ·cases h
theorem any_AR{ρ:bF}{c:Act}{v:Bool}(h4:c.tmps.getD 4 Go.undef=.bool v)(hn:c.tmps.size≤1000)(h5:c.tmps.size=71∨4<c.tmps.size)(hd:c.defers=[]):∃sa:SA,AR ρ sa c∧sa.get 4=.bool v∧sa.marks=[]:=by
 have hx:∀k,∃s:SV,VR ρ s (c.tmps.getD k Go.undef)∧(k=4→s=.bool v):=fun k=>by
  by_cases h:k=4
  ·subst h;exact⟨.bool v,by rw[h4];simp[VR],fun _=>rfl⟩
  ·obtain⟨s,hs⟩:=rQ (c.tmps.getD k Go.undef)
   exact⟨s,hs _,fun e=>absurd e h⟩
 obtain⟨x,hxs⟩:∃x:Nat→SV,∀k,VR ρ (x k) (c.tmps.getD k Go.undef)∧(k=4→x k=.bool v):=⟨fun k=>Classical.choose (hx k),fun k=>Classical.choose_spec (hx k)⟩;have kX:∀k,SA.get ⟨setArgs .nil 0 ((List.range c.tmps.size).map x),c.tmps.size,[],none⟩ k=if k<c.tmps.size then x k else iK:=fun k=>by
  unfold SA.get;simp only;rw[iC _ _ 0 k (by simp;omega)];by_cases hk:k<c.tmps.size
  ·rw[if_pos ⟨by omega,by simp;omega⟩,if_pos hk,Nat.sub_zero,List.getElem?_map,List.getElem?_range hk];rfl
  ·rw[if_neg (by simp;omega),if_neg hk,Tr.get_nil]
 refine⟨⟨setArgs .nil 0 ((List.range c.tmps.size).map x),c.tmps.size,[],none⟩,⟨hn,rfl,fun k=>?_,fun _ h=>(by cases h),hd⟩,?_,rfl⟩
 ·rw[kX]
  by_cases hk:k<c.tmps.size
  ·rw[if_pos hk];exact(hxs k).1
  ·rw[if_neg hk,Array.getD_eq_getD_getElem?,Array.getElem?_eq_none (by omega)]
   simp only[Option.getD_none,iK,VR];exact⟨#[],rfl,by simp[bM]⟩
 ·rw[kX,if_pos (by omega)];exact(hxs 4).2 rfl
theorem pick_end{ρ:bF}{h h':H}{w:World}{fn:Func}{n:Nat}{v:Bool}(hres:fn.results.toList=[.tmp 4]){aW:bF}{a':Act}{w':World}(p1:HR aW h' w')(p2:FR ρ h w aW h' w')(p3:a'.tmps.getD 4 Go.undef=.bool v)(p4:a'.defers=[])(p5:a'.tmps.size≤1000):
 LeavesInM Fence.wide n Tryz.prog fn a'.tmps (AY ρ h w (.bool v) h') a'.defers .returning w':=by
 have h5:4<a'.tmps.size:=by
  rcases Nat.lt_or_ge 4 a'.tmps.size with h|h
  ·exact h
  ·rw[Array.getD_eq_getD_getElem?,Array.getElem?_eq_none h]at p3
   simp[Go.undef]at p3
 obtain⟨sa,q1,q2,q3⟩:=any_AR (ρ:=aW) p3 p5 (.inr h5) p4;rw[p4];obtain⟨u,s1,s2⟩:=tK (P:=Tryz.prog) (fn:=fn) (vs:=[.bool v]) q1 p1 (by rw[hres];simp only[results,Out.bind,q2];rfl);exact⟨u,s1,aW,u,rfl,s2,p1,p2⟩
theorem zO{h h1:H}{ns:Nat}{n:Int}{v:Bool}(p:tQ h h1 ns n v):Spec Tryz.prog (.fn 12 [.ptr ns 0 0,.int .i64 n]) h (.bool v,h1):=by
 obtain⟨fn,hfn,hb,hnm,hnt,hres⟩:=fn12_ex;refine⟨⟨fn,hfn,by rw[hb];rfl,hnm⟩,fun ρ w us m hr hv=>?_⟩;refine callsIn_of_wp_marks hfn hb trivial ?_;have ha:=uF hv (m:=71) (by simp) (by omega);rw[hnt];exact p m _ ρ _ w hr ha fun aW a' w' p1 p2 p3 p4 p5=>pick_end hres p1 p2 p3 p4 p5
theorem pick_of{h h1 h2:H}{ns i t sb nb:Nat}(p:PreGo h h1 ns i t sb nb)(s:Sec h1 h2 ns i t sb nb):Spec Tryz.prog (.fn 12 [.ptr ns 0 0,.int .i64 (i:Int)]) h (.bool true,h2):=by
 obtain⟨fn,hfn,hb,hnm,hnt,hres⟩:=fn12_ex;refine⟨⟨fn,hfn,by rw[hb];rfl,hnm⟩,fun ρ w us m hr hv=>?_⟩;refine callsIn_of_wp_marks hfn hb trivial ?_;have ha:=uF hv (m:=71) (by simp) (by omega);rw[hnt];exact p m _ ρ _ w hr ha fun dQ a1 w1 p1 p2 p3=>s m _ dQ a1 w1 p1 p3 fun aW a' w' q1 q2 q3 q4 q5=>pick_end hres q1 (p2.trans hr p1 q2) q3 q4 q5
def kK(lf:SV)(k1 k2 k3:Int)(now:SV):SO:=.cells 74 5 [lf,.int .i64 k1,.int .i64 k2,.int .i64 k3,now]
def Env.pre(e:Env)(ev lg lf now:SV)(o4 o9:SO)(tail:List SO):List SO:=e.sO ev::bI 2 e.nW e.c lg::.dead::.spot 69 1 e.tn [.ptr 5 0 0]::o4::kK lf e.k1 e.k2 e.k3 now::.dead::.dead::.ints 3 1 e.W::o9::tail
noncomputable def PF(n:Int)(objs:List SO)(R:List Nat):Out (SX×SA×H):=preC Tryz.prog (runK Tryz.prog K7 30) false 4 (bR 12) (preA n) (aT objs R)
def bX(C:bS)(nW nL:Nat)(aD:List Ev)(aL:List Nat)(N:Names)(i:Nat)(k1 k2 k3:Int):Env:=
 ⟨C.th,C.st,C.ga,C.le,C.re,C.ti,k1,k2,k3,C.PL.length,aL.length,aD.length,nW,nL,i,C.cp,N.ct,N.c,C.lv,.any,C.PL,eH aD⟩
def evP:List Ev→SV
 |[]=>aC
 |v::l=>.slice 4 0 (v::l).length none
def o4P:List Ev→SO
 |[]=>.dead
 |v::l=>.cells 42 10 (eH (v::l))
def lgR:Nat→List Nat
 |0=>[]
 |_+1=>[10]
def RP(nL:Nat):List Ev→List Nat
 |[]=>1::2::3::4::6::7::8::9::lgR nL
 |_::_=>1::2::3::6::7::8::9::lgR nL
def n4P(N:Names):List Ev→Nat
 |[]=>N.ns
 |_::_=>N.ne
def wZ(C:bS)(N:Names)(t lr:Nat)(aD:List Ev)(nL:Nat):List Nat:=[N.ns,N.nm,N.nw,N.nt,n4P N aD,t,N.ns,N.ns,C.P,lr]++lnP N.nl nL
structure ResP(e:Env)(k:Nat)(R ls:List Nat)(os:List SO)(n:Nat)(eX:List Ev)(pe ps pn:Nat)(lf2 tN:SV)(k1 k2 k3:Int):Prop where
 okls:fO k R n ls=true
 plen:ls.length=os.length
 plain:os.all SO.plain=true
 pK:Nat.ble (n-k) 200=true
 o0:∃(a nE:Nat),ls[a]?=some 0∧os[a]?=some (e.sO (.slice pe 0 nE none))∧nE=eX.length
 o5:∃a:Nat,ls[a]?=some 5∧os[a]?=some (kK lf2 k1 k2 k3 tN)
 oe:∃(a:Nat) (L:List SV),ls[a]?=some pe∧os[a]?=some (.cells 42 10 L)∧L=eH eX
 ob:∃a:Nat,ls[a]?=some ps∧os[a]?=some (.cells 49 1 [.ptr 0 0 0])
 oc:∃a:Nat,ls[a]?=some pn∧os[a]?=some (.cells 3 1 [.int .i64 ↑e.tn])
 new:(Nat.ble k pe&&Nat.ble k ps&&Nat.ble k pn&&!Nat.beq pe ps&&!Nat.beq pe pn&&!Nat.beq ps pn)=true
 old:(ls.all fun l=>Nat.ble k l||Nat.beq l 0||Nat.beq l 4||Nat.beq l 5)=true
 nne:eX≠[]
def okNrP(k pe ps pn:Nat)(nr:List (Nat×Nat)):Bool:=nr.all fun x=>Nat.ble k x.1&&!Nat.beq x.1 pe&&!Nat.beq x.1 ps&&!Nat.beq x.1 pn&&Nat.ble 10 x.2&&Nat.blt x.2 990
def tagP(i k pe ps pn:Nat)(nr:List (Nat×Nat))(d:Nat):Nat:=if d+k=pe then 4 else if d+k=ps then tg i 998 else if d+k=pn then tg i 999 else match nr.find? fun x=>Nat.beq x.1 (d+k)with
 |some x=>tg i x.2
 |none=>7
theorem jM{h:H}{n:Nat}{o:SO}{r:Nat→Nat}(hg:h.get n=o.ren r)(hp:o.plain=true):(o≠.dead→live h n)∧∀(ρ:bF) (p:Pl) (w:World),OR ρ p w (h.get n)→OR (ρ.via r) p w o:=
 ⟨fun hd=>by unfold live;rw[hg];exact SO.ren_live hp hd,fun ρ p w h=>by rw[hg]at h;exact(OR_ren (oH ρ r) hp).2 h⟩
theorem aZ{h:H}{n:Nat}{r:Nat→Nat}:((SO.dead:SO)≠.dead→live h n)∧∀(ρ:bF) (p:Pl) (w:World),OR ρ p w (h.get n)→OR (ρ.via r) p w .dead:=⟨fun h=>absurd rfl h,fun _ _ _ _=>trivial⟩
section
variable{h:H}{own:Nat→Nat}{C:bS}{W:List Int}{nL:Nat}{aD:List Ev}{aL:List Nat}{N:Names}{i t lr off nC:Nat}{cC:Option Nat}{k1 k2 k3 c1 c2 c3:Int}{cl:List SV}
structure Beg(h:H)(own:Nat→Nat)(C:bS)(W:List Int)(nL:Nat)(aD:List Ev)(aL:List Nat)(N:Names)(i t lr off nC:Nat)(cC:Option Nat)(k1 k2 k3 c1 c2 c3:Int)(cl:List SV):Prop where
 co:Core h own C W nL aD aL N
 at_:aL[i]?=some t
 thr:At h own t (tg i 0) (kK (.slice lr off nC cC) k1 k2 k3 (.val .nilIface))
 left:At h own lr (tg i 990) (.cells 37 3 cl)
 len:(off+1)*3≤cl.length
 cell:cl[off*3]?=some (.int .i64 c1)∧cl[off*3+1]?=some (.int .i64 c2)∧cl[off*3+2]?=some (.int .i64 c3)
def tR(C:bS)(W:List Int)(nL:Nat)(aD:List Ev)(aL:List Nat)(N:Names)(i off nC:Nat)(cC:Option Nat)(k1 k2 k3 c1 c2 c3:Int):List SO:=
 (bX C W.length nL aD aL N i k1 k2 k3).pre (evP aD) (lgP 10 nL) (.slice 9 off nC cC) (.val .nilIface) (o4P aD) (.spot 37 3 off [.int .i64 c1,.int .i64 c2,.int .i64 c3]) (gT nL)
theorem uW:(tR C W nL aD aL N i off nC cC k1 k2 k3 c1 c2 c3).length=10+(gT nL).length:=by simp[tR,Env.pre];omega
theorem beg_fit(b:Beg h own C W nL aD aL N i t lr off nC cC k1 k2 k3 c1 c2 c3 cl)(h6:h.n≤1000000):Fit h (aT (tR C W nL aD aL N i off nC cC k1 k2 k3 c1 c2 c3) (RP nL aD)) (nm (wZ C N t lr aD nL)):=by
 have co:=b.co;have cK:∀{m j:Nat} {o:SO},At h own m j o→m<h.n:=fun a=>a.2.2
 have htag:∀j,tg i j≠6:=fun j=>by unfold tg;omega
 have uE:nL≠0→nm (wZ C N t lr aD nL) 10=N.nl:=fun h0=>by
  cases nL with
  |zero=>exact absurd rfl h0
  |succ m=>rfl
 have h4n:n4P N aD<h.n:=by
  cases aD with
  |nil=>exact co.sched.2.2
  |cons v l=>exact(co.ev (by simp)).2.2
 have h4e:aD≠[]→n4P N aD=N.ne:=fun h=>by cases aD<;>first|rfl|exact absurd rfl h
 have key:pB h (nm (wZ C N t lr aD nL)) (RP nL aD) 0 (wZ C N t lr aD nL) (tR C W nL aD aL N i off nC cC k1 k2 k3 c1 c2 c3):=by
  have hR0:(RP nL aD).contains 0=false:=by cases aD<;>cases nL<;>rfl
  have hR5:(RP nL aD).contains 5=false:=by cases aD<;>cases nL<;>rfl
  have hR:∀j,j=1∨j=2∨j=3∨j=6∨j=7∨j=8∨j=9∨(j=10∧nL≠0)→(RP nL aD).contains j=true:=fun j hj=>by rcases hj with e|e|e|e|e|e|e|⟨e,e'⟩<;>subst e<;>cases aD<;>cases nL<;>first|rfl|exact absurd rfl e'
  have yes:∀{j n:Nat} {o:SO},(j=1∨j=2∨j=3∨j=6∨j=7∨j=8∨j=9∨(j=10∧nL≠0))→((o≠.dead→live h n)∧∀(ρ:bF) (p:Pl) (w:World),OR ρ p w (h.get n)→OR (ρ.via (nm (wZ C N t lr aD nL))) p w o)→jI h (nm (wZ C N t lr aD nL)) (RP nL aD) j n o:=fun hj hh=>by unfold jI;rw[hR _ hj];exact hh
  have yes':∀{j n:Nat} {o:SO},(RP nL aD).contains j=true→((o≠.dead→live h n)∧∀(ρ:bF) (p:Pl) (w:World),OR ρ p w (h.get n)→OR (ρ.via (nm (wZ C N t lr aD nL))) p w o)→jI h (nm (wZ C N t lr aD nL)) (RP nL aD) j n o:=fun hj hh=>by unfold jI;rw[hj];exact hh
  have no:∀{j n:Nat} {o:SO},(RP nL aD).contains j=false→(okK h n=true∧Wk (h.get n) (o.ren (nm (wZ C N t lr aD nL)))∧o.plain=true)→jI h (nm (wZ C N t lr aD nL)) (RP nL aD) j n o:=fun hj hh=>by unfold jI;rw[hj];exact hh
  have r0:nm (wZ C N t lr aD nL) 0=N.ns:=rfl;have r1:nm (wZ C N t lr aD nL) 1=N.nm:=rfl;have r3:nm (wZ C N t lr aD nL) 3=N.nt:=rfl;have r4:nm (wZ C N t lr aD nL) 4=n4P N aD:=rfl;have r5:nm (wZ C N t lr aD nL) 5=t:=rfl;have r8:nm (wZ C N t lr aD nL) 8=C.P:=rfl;have r9:nm (wZ C N t lr aD nL) 9=lr:=rfl;refine⟨co.sched.2.2,no hR0 ⟨co.sched.ok co.oR co.oC (by omega),.of ?_,rfl⟩,co.mem.2.2,yes (by simp) (jM ?_ rfl),co.words.2.2,yes (by simp) aZ,co.thr.2.2,yes (by simp) ?_,h4n,?_,b.thr.2.2,no hR5 ⟨b.thr.ok co.oR co.oC (htag _),.of ?_,rfl⟩,co.sched.2.2,yes (by simp) aZ,co.sched.2.2,yes (by simp) aZ,co.par.2.2,yes (by simp) (jM (by rw[co.par.1];rfl) rfl),b.left.2.2,yes (by simp) ?_,?_⟩
  ·rw[co.sched.1]
   have:(evP aD).ren (nm (wZ C N t lr aD nL))=evS N.ne aD:=by
    cases aD with
    |nil=>rfl
    |cons v l=>rfl
   simp[Env.sO,bX,SO.ren,SV.rens,SV.ren,bS.cells,r1,r3,r8,this]
  ·rw[co.mem.1]
   have:(lgP 10 nL).ren (nm (wZ C N t lr aD nL))=lgS N.nl nL:=by
    cases nL with
    |zero=>rfl
    |succ m=>rfl
   simp[bI,bX,SO.ren,SV.rens,SV.ren,this];rfl
  ·refine jF co.thr.1 ?_ (by simp) fun j v hv=>?_
   ·have:=(List.getElem?_eq_some_iff.1 b.at_).1
    simp[bX];omega
   ·cases j with
    |zero=>
     simp at hv;subst hv;simp[bX,SV.ren,r5,b.at_]
    |succ j=>simp at hv
  ·cases aD with
   |nil=>exact yes' rfl aZ
   |cons v l=>
    refine no (by cases nL<;>rfl) ⟨(co.ev (by simp)).ok co.oR co.oC (by omega),.of ?_,rfl⟩;show h.get N.ne=_;rw[(co.ev (by simp)).1];simp[o4P,SO.ren,jS]
  ·rw[b.thr.1]
   simp[kK,bX,SO.ren,SV.rens,SV.ren,r9]
  ·refine jF b.left.1 b.len (by simp) fun j v hv=>?_
   match j,hv with
   |0,hv=>simp at hv;subst hv;exact b.cell.1
   |1,hv=>simp at hv;subst hv;exact b.cell.2.1
   |2,hv=>simp at hv;subst hv;exact b.cell.2.2
   |j+3,hv=>simp at hv
  ·cases nL with
   |zero=>exact trivial
   |succ m=>
    have a:=co.log (by omega);exact⟨a.2.2,yes (by simp) (jM (by rw[a.1];rfl) rfl),trivial⟩
 refine aX key (iO own ?_) (by rw[uW];cases nL<;>simp[gT]) h6;have t0:=co.sched.2.1;have t1:=co.mem.2.1;have t3:=co.thr.2.1;have t5:=b.thr.2.1;have t6:=co.par.2.1;have t9:=b.left.2.1;have e9:∀(nL:Nat),nL=0∨own N.nl=5→((aQ (wZ C N t lr aD nL) (tR C W nL aD aL N i off nC cC k1 k2 k3 c1 c2 c3)).map own)=[0,1,3]++(match aD with|[]=>[]|_=>[own N.ne])++[tg i 0,6,tg i 990]++(match nL with|0=>[]|_=>[5]):=fun nL hn=>by
  cases aD<;>cases nL<;>simp[wZ,tR,Env.pre,aQ,SO.lives,Env.sO,bI,kK,o4P,lnP,gT,n4P,t0,t1,t3,t5,t6,t9]
  all_goals rcases hn with hn|hn<;>first|(cases hn;done)|exact hn
 rw[e9 nL (by
  rcases Nat.eq_zero_or_pos nL with h|h
  ·exact .inl h
  ·exact .inr (co.log (by omega)).2.1)]
 have tt:tg i 0>6∧tg i 990>6∧tg i 0≠tg i 990:=by unfold tg;omega
 cases aD with
 |nil=>cases nL<;>simp<;>omega
 |cons v l=>
  have t4:=(co.ev (by simp)).2.1;cases nL<;>simp[t4]<;>omega
end
structure BJ(h h':H)(own bZ:Nat→Nat)(i:Nat):Prop where
 n:h.n≤h'.n
 same:∀m,m<h.n→bZ m=own m
 frame:∀m,m<h.n→own m≠0→own m≠4→own m≠tg i 0→h'.get m=h.get m
theorem BJ.at_{h h':H}{own bZ:Nat→Nat}{i m t:Nat}{o:SO}(f:BJ h h' own bZ i)(a:At h own m t o)(h0:t≠0)(h4:t≠4)(hi:t≠tg i 0):At h' bZ m t o:=
 ⟨by rw[f.frame m a.2.2 (by rw[a.2.1];exact h0) (by rw[a.2.1];exact h4) (by rw[a.2.1];exact hi)];exact a.1,by rw[f.same m a.2.2];exact a.2.1,Nat.lt_of_lt_of_le a.2.2 f.n⟩
section
variable{h:H}{own:Nat→Nat}{C:bS}{W:List Int}{nL:Nat}{aD:List Ev}{aL:List Nat}{N:Names}{i t lr off nC:Nat}{cC:Option Nat}{k1 k2 k3 c1 c2 c3:Int}{cl:List SV}
theorem beg_out(b:Beg h own C W nL aD aL N i t lr off nC cC k1 k2 k3 c1 c2 c3 cl){ls:List Nat}{os:List SO}{n pe ps pn:Nat}{eX:List Ev}{lf2 tN:SV}{j1 j2 j3:Int}{nr:List (Nat×Nat)}{tl:List (Nat×Nat×SO)}
 (rs:ResP (bX C W.length nL aD aL N i k1 k2 k3) (10+(gT nL).length) (RP nL aD) ls os n eX pe ps pn lf2 tN j1 j2 j3)(nI:lf2.pls (fun p=>Nat.beq p 9)=true)(hn:okNrP (10+(gT nL).length) pe ps pn nr=true)(kO:okNd nr=true)(htl:Told ls os [] nr tl)(hnw:tN.pls (okP [] nr)=true)(h6:h.n+200≤1000000):
 let q:=nx h.n (10+(gT nL).length) [] (wZ C N t lr aD nL);let h1:=h.lay 200 (laid q ls os);let cO:=gR h.n own (tagP i (10+(gT nL).length) pe ps pn nr);let ν:=qT q nr fun _=>0
 Core h1 cO C W nL eX aL {N with ne:=q pe}∧BJ h h1 own cO i∧At h1 cO t (tg i 0) (kK (lf2.ren fun _=>lr) j1 j2 j3 ((tN.ren (rF [] nr)).ren (rv C.P ν)))∧
  At h1 cO (q ps) (tg i 998) (.cells 49 1 [.ptr N.ns 0 0])∧At h1 cO (q pn) (tg i 999) (.cells 3 1 [.int .i64 ↑i])∧jJ h1 cO i C.P ν (tl.map (·.2)):=by
 intro q h1 cO ν;have co:=b.co;have ft:=beg_fit b (by omega);have hk:(tR C W nL aD aL N i off nC cC k1 k2 k3 c1 c2 c3).length=10+(gT nL).length:=uW;have eK:eU (RP nL aD) (tR C W nL aD aL N i off nC cC k1 k2 k3 c1 c2 c3)=true:=by cases aD<;>cases nL<;>rfl
 obtain⟨b1,b2,b3⟩:=zG (K:=200) (j:=[]) (n:=n) ft eK (by rw[hk];exact rs.okls) (by rw[hk];exact Nat.le_of_ble_eq_true rs.pK) (by simp) h6 rs.plen;rw[hk]at b1 b2 b3;have hpK:=Nat.le_of_ble_eq_true rs.pK;have hn1:h1.n=h.n+200:=rfl;have qo:∀p,p<10+(gT nL).length→q p=nm (wZ C N t lr aD nL) p:=fun p hp=>by show nx _ _ _ _ p=_;unfold nx;rw[if_pos hp]
 have q0:q 0=N.ns:=qo 0 (by omega);have q1:q 1=N.nm:=qo 1 (by omega);have q3:q 3=N.nt:=qo 3 (by omega);have q5:q 5=t:=qo 5 (by omega);have q8:q 8=C.P:=qo 8 (by omega);have q9:q 9=lr:=qo 9 (by omega);have old_:∀m,m<h.n→cO m=own m:=fun m hm=>by show gR h.n own _ m=_;unfold gR;rw[if_pos hm]
 have new_:∀l∈ls,10+(gT nL).length≤l→q l=h.n+(l-(10+(gT nL).length))∧q l<h1.n∧cO (q l)=tagP i (10+(gT nL).length) pe ps pn nr (l-(10+(gT nL).length)):=fun l hl hlk=>by
  have:=(b3 l hl).2.2.2 hlk;rw[rot0]at this;refine⟨this.1,by rw[hn1];show nx _ _ _ _ l<_;omega,?_⟩;show gR h.n own _ (nx _ _ _ _ l)=_;rw[this.1];unfold gR;rw[if_neg (by omega)];congr 1;omega
 have uP:∀(a l:Nat) (o:SO),ls[a]?=some l→os[a]?=some o→h1.get (q l)=o.ren q:=fun a l o h1 h2=>b1 a l o h1 h2
 have frame:∀m,m<h.n→own m≠0→own m≠4→own m≠tg i 0→h1.get m=h.get m:=fun m hm n0 n4 ni=>b2 m fun l hl e=>by
  rcases Nat.lt_or_ge l (10+(gT nL).length)with h2|h2
  ·have:=List.all_eq_true.1 rs.old l hl
   simp only[Bool.or_eq_true]at this;have eq:=((b3 l hl).2.2.1 h2).1;rw[eq]at e;rcases this with((h3|h3)|h3)|h3
   ·have:=Nat.le_of_ble_eq_true h3;omega
   ·have:=Nat.eq_of_beq_eq_true h3;subst this
    exact n0 (by rw[←e];exact co.sched.2.1)
   ·have:=Nat.eq_of_beq_eq_true h3;subst this
    have hR:=(b3 4 hl).2.1;cases aD with
    |nil=>exact hR (by simp[RP])
    |cons v l=>exact n4 (by rw[←e];exact(co.ev (by simp)).2.1)
   ·have:=Nat.eq_of_beq_eq_true h3;subst this
    exact ni (by rw[←e];exact b.thr.2.1)
  ·have:=((b3 l hl).2.2.2 h2).1
   rw[this]at e;omega
 have af:BJ h h1 own cO i:=⟨by rw[hn1];omega,old_,frame⟩;have tgn:∀x c,x≤6→x≠tg i c:=fun x c hx=>by unfold tg;omega
 have hnew:=rs.new;simp only[Bool.and_eq_true]at hnew;obtain⟨⟨⟨⟨⟨w1,w2⟩,w3⟩,w4⟩,w5⟩,w6⟩:=hnew;have w1:=Nat.le_of_ble_eq_true w1;have w2:=Nat.le_of_ble_eq_true w2;have w3:=Nat.le_of_ble_eq_true w3;have w4:=fT w4;have w5:=fT w5;have w6:=fT w6;obtain⟨a0,nE,z1,z2,z3⟩:=rs.o0;obtain⟨a5,y1,y2⟩:=rs.o5;obtain⟨ae,L,x1,x2,x3⟩:=rs.oe;obtain⟨ab,u1,u2⟩:=rs.ob;obtain⟨ac,v1,v2⟩:=rs.oc;have ne_:=new_ pe (List.mem_of_getElem? x1) w1;have ns_:=new_ ps (List.mem_of_getElem? u1) w2;have nn_:=new_ pn (List.mem_of_getElem? v1) w3;have tg1:∀l,10+(gT nL).length≤l→l-(10+(gT nL).length)+(10+(gT nL).length)=l:=fun l hl=>by omega
 simp only[okNd,Bool.and_eq_true,decide_eq_true_eq]at kO;obtain⟨nd1,nd2⟩:=kO;have hnr:∀x∈nr,10+(gT nL).length≤x.1∧x.1≠pe∧x.1≠ps∧x.1≠pn∧10≤x.2∧x.2<990:=fun x hx=>by
  have:=List.all_eq_true.1 hn x hx;simp only[Bool.and_eq_true]at this;obtain⟨⟨⟨⟨⟨a1,a2⟩,a3⟩,a4⟩,a5⟩,a6⟩:=this;exact⟨Nat.le_of_ble_eq_true a1,fT a2,fT a3,fT a4,Nat.le_of_ble_eq_true a5,aF.1 a6⟩
 have new2:∀x∈nr,rF [] nr x.1=x.2∧ν x.2=q x.1:=fun x hx=>by
  obtain⟨a1,_⟩:=hnr x hx;constructor
  ·unfold rF
   rw[pE (by omega)];simp only[List.getElem?_nil];rw[uR nd1 hx]
  ·show qT q nr _ x.2=_
   unfold qT;rw[find_snd nd2 hx]
 have qI:∀p,okP [] nr p=true→p=8∨∃x∈nr,x.1=p:=fun p hp=>by
  simp only[okP,Bool.or_eq_true,Bool.and_eq_true]at hp;rcases hp with(hp|⟨⟨h1,h2⟩,_⟩)|hp
  ·exact .inl (Nat.eq_of_beq_eq_true hp)
  ·have h1:=Nat.le_of_ble_eq_true h1
   have h2:=aF.1 h2;simp at h2;omega
  ·obtain⟨x,hx,e⟩:=List.any_eq_true.1 hp
   exact .inr ⟨x,hx,Nat.eq_of_beq_eq_true e⟩
 have hqr:∀p,okP [] nr p=true→q p=rv C.P ν (rF [] nr p):=fun p hp=>by
  rcases qI p hp with e|⟨x,hx,e⟩
  ·subst e;rw[q8];rfl
  ·subst e
   obtain⟨a1,a2⟩:=new2 x hx;rw[a1,rv_ne (hnr x hx).2.2.2.2.1,a2]
 have hrole:∀p,okP [] nr p=true→oM (rF [] nr p)=true:=fun p hp=>by
  rcases qI p hp with e|⟨x,hx,e⟩
  ·subst e;rfl
  ·subst e
   rw[(new2 x hx).1];obtain⟨_,_,_,_,h1,h2⟩:=hnr x hx;unfold oM;rw[Nat.ble_eq_true_of_le h1,aF.2 h2];simp
 have hZ:evS (q pe) eX=.slice (q pe) 0 eX.length none:=by cases eX<;>first|rfl|exact absurd rfl rs.nne
 refine⟨⟨fun m hm=>?_,co.oC▸cY _ _,?_,?_,?_,?_,fun _=>?_,fun hl=>?_,?_⟩,af,?_,?_,?_,⟨fun x hx=>?_,fun x hx=>?_,fun x hx=>?_⟩⟩
 ·have pZ:m∈h.R:=by
   have:h1.R=h.R:=cQ _ _;rw[←this];exact hm
  obtain⟨r1,r2⟩:=co.oR m pZ;exact⟨by rw[old_ m r2];exact r1,by rw[hn1];omega⟩
 ·refine⟨?_,by rw[old_ _ co.sched.2.2];exact co.sched.2.1,by rw[hn1];exact Nat.lt_of_lt_of_le co.sched.2.2 (by omega)⟩
  show h1.get N.ns=_;rw[←q0,uP _ _ _ z1 z2,hZ,←z3];simp[Env.sO,bX,SO.ren,SV.rens,SV.ren,bS.cells,q1,q3,q8]
 ·exact af.at_ co.mem (by omega) (by omega) (tgn 1 0 (by omega))
 ·exact af.at_ co.words (by omega) (by omega) (tgn 2 0 (by omega))
 ·exact af.at_ co.thr (by omega) (by omega) (tgn 3 0 (by omega))
 ·refine⟨?_,?_,ne_.2.1⟩
  ·show h1.get (q pe)=_
   rw[uP _ _ _ x1 x2,x3];simp[SO.ren,jS]
  ·show cO (q pe)=4
   rw[ne_.2.2];unfold tagP;rw[if_pos (tg1 pe w1)]
 ·exact af.at_ (co.log hl) (by omega) (by omega) (tgn 5 0 (by omega))
 ·exact af.at_ co.par (by omega) (by omega) (tgn 6 0 (by omega))
 ·refine⟨?_,by rw[old_ _ b.thr.2.2];exact b.thr.2.1,by rw[hn1];have:=b.thr.2.2;omega⟩
  rw[←q5,uP _ _ _ y1 y2];have e1:lf2.ren q=lf2.ren fun _=>lr:=SV.ren_congr (q:=fun p=>Nat.beq p 9) (fun p hp=>by rw[Nat.eq_of_beq_eq_true hp];exact q9) _ nI
  have e2:tN.ren q=(tN.ren (rF [] nr)).ren (rv C.P ν):=by rw[SV.ren_ren];exact SV.ren_congr hqr _ hnw
  simp only[kK,SO.ren,SV.rens,SV.ren,e1,e2]
 ·refine⟨?_,?_,ns_.2.1⟩
  ·rw[uP _ _ _ u1 u2]
   simp[SO.ren,SV.rens,SV.ren,q0]
  ·rw[ns_.2.2];unfold tagP;rw[tg1 ps w2,if_neg (Ne.symm w4),if_pos rfl]
 ·refine⟨?_,?_,nn_.2.1⟩
  ·rw[uP _ _ _ v1 v2]
   rfl
  ·rw[nn_.2.2];unfold tagP;rw[tg1 pn w3,if_neg (Ne.symm w5),if_neg (Ne.symm w6),if_pos rfl]
 ·obtain⟨y,hy,rfl⟩:=List.mem_map.1 hx
  obtain⟨a,o,g1,g2,g3,g4,g5,g6,g7⟩:=htl.at_ y hy;have g5:=Nat.le_of_ble_eq_true g5;rcases qI y.1 g6 with e|⟨x,qS,e⟩
  ·omega
  ·obtain⟨f1,f2,f3,f4,f5,f6⟩:=hnr x qS
   obtain⟨a1,a2⟩:=new2 x qS;rw[e]at a1 a2 f1 f2 f3 f4;have:x.2=y.2.1:=by rw[←a1,g4]
   have hy1:=new_ y.1 (List.mem_of_getElem? g1) f1;refine⟨?_,?_,?_⟩
   ·rw[←this,a2,uP _ _ _ g1 g2,←g3,SO.ren_ren g7]
    exact SO.ren_congr hqr g7
   ·rw[←this,a2,hy1.2.2]
    unfold tagP;rw[tg1 y.1 f1,if_neg f2,if_neg f3,if_neg f4,←e,uR nd1 qS]
   ·rw[←this,a2];exact hy1.2.1
 ·obtain⟨y,hy,rfl⟩:=List.mem_map.1 hx
  obtain⟨a,o,g1,g2,g3,g4,g5,g6,g7⟩:=htl.at_ y hy;have g5:=Nat.le_of_ble_eq_true g5;rcases qI y.1 g6 with e|⟨x,qS,e⟩
  ·omega
  ·obtain⟨f1,f2,f3,f4,f5,f6⟩:=hnr x qS
   obtain⟨a1,a2⟩:=new2 x qS;rw[e]at a1;have:x.2=y.2.1:=by rw[←a1,g4]
   rw[←this];exact⟨f5,f6⟩
 ·obtain⟨y,hy,rfl⟩:=List.mem_map.1 hx
  obtain⟨a,o,g1,g2,g3,g4,g5,g6,g7⟩:=htl.at_ y hy;rw[←g3];exact SO.pls_told g7 hrole
end
end Go.Proofs.YtnkcbfgfkadoaaaGreat.Sx
namespace Go.Proofs.YtnkcbfgfkadoaaaGreat.Sx
open Go
set_option maxRecDepth 100000
def beg0(e:Env)(off nC:Nat):kB:=[(decide ((e.tn:Int)<0),false),(decide ((e.tn:Int)≥e.nt),false),(decide ((0:Int)≤e.tn),true),(decide ((e.tn:Int)<e.nt),true),(Nat.beq (aE 0 (Int.toNat e.tn)) e.tn,true),((nC:Int)==0,false),(decide ((0:Int)≤e.tn),true),(decide ((e.tn:Int)<e.nt),true),(Nat.beq (aE 0 (Int.toNat e.tn)) e.tn,true),(decide ((0:Int)≤e.tn),true),(decide ((e.tn:Int)<e.nt),true),(Nat.beq (aE 0 (Int.toNat e.tn)) e.tn,true),(decide ((0:Int)<nC),true),(Nat.beq (aE off (Int.toNat 0)) off,true),(Nat.beq (aE off (Int.toNat 0)) off,true),(Nat.beq (aE off (Int.toNat 0)) off,true),(Nat.ble nC nC,true),(Nat.ble 1 nC,true),(decide ((0:Int)≤e.tn),true),(decide ((e.tn:Int)<e.nt),true),(Nat.beq (aE 0 (Int.toNat e.tn)) e.tn,true)]
def xA(e:Env)(off nC:Nat):kB:=beg0 e off nC++[(Nat.beq (List.length e.W) e.np&&Nat.ble e.np 12,true)]
def xB(e:Env)(off nC:Nat):kB:=beg0 e off nC++[(Nat.ble (bG (aE 0 e.ne) 10) (List.length e.E),true),(Nat.ble (e.ne+1) 1000000000,true),(Nat.beq (List.length e.W) e.np&&Nat.ble e.np 12,true)]
def xC(e:Env)(off nC:Nat):kB:=beg0 e off nC++[(Nat.ble (aE 0 e.nL) e.nL,true),(Nat.ble (0+e.nL) 1000000000,true),(Nat.ble (bG (aE 0 e.ne) 10) (List.length e.E),true),(Nat.ble (e.ne+1) 1000000000,true),(Nat.beq (List.length e.W) e.np&&Nat.ble e.np 12,true)]
theorem ok1_nn(e:Env)(off nC:Nat)(cC:Option Nat)(c2 c3:Int):follow [(0,false),(6,false),(5,true),(0,true),(1,true),(7,false),(0,true),(0,true),(0,true),(4,true),(0,true),(0,true),(1,true),(0,true),(0,true),(0,true),(1,true),(0,true),(0,true),(0,true),(0,true),(11,true),(0,false),(23,true)] ((PF (e.tn:Int) (Env.pre e aC aC (.slice 9 off nC cC) (.val .nilIface) .dead (.spot 37 3 off [.int .i64 1,.int .i64 c2,.int .i64 c3]) []) [1,2,3,4,6,7,8,9]).bind (iV [0,1,4,5,6] [0,5,10,11,14,112,72,113,73,71]))=
 some (xA e off nC++(fZ e.ti e.np e.W 1 c2 c3 !=0,false)::[(decide (1≤e.ti∧e.ti≤16∧(0:Int)≤e.tn∧(e.tn:Int)≤100),true)],(71,SX.normal,[],[.ptr 0 0 0,.int .i64 (e.tn:Int),.bool false,.ptr 5 0 0,.func (.func 55) [] [.ptr 10 0 0,.ptr 11 0 0]],114,[e.sO (.slice 14 0 1 none),
  kK (.slice 9 (aE off (Int.toNat 1)) (nC-1) (Option.map (fun x=>x-1) cC)) (1) (c2) (c3) (.iface 136 (.ptr 112 0 0)),
  .cells 49 1 [.ptr 0 0 0],
  .cells 3 1 [.int .i64 (e.tn:Int)],
  .cells 42 10 (lB 0 (e.tn:Int) 1 1 c2 c3 0 0 false 0),
  .cells 155 19 [.int .i64 e.th,.int .i64 e.st,.int .i64 e.ga,.int .i64 e.le,.int .i64 e.re,.int .i64 e.ti,.slice 8 0 e.np e.cp,.val e.lv,.int .i64 c2,.int .i64 c3,.int .i64 (e.tn:Int),.ptr 72 0 0,aC,.slice 113 0 1 (some 1),.val .nilIface,.int .i64 0,.int .i64 0,.bool false,.int .i64 0],
  .cells 171 17 [.int .i64 e.th,.int .i64 e.st,.int .i64 e.ga,.int .i64 e.le,.int .i64 e.re,.int .i64 e.ti,.slice 8 0 e.np e.cp,.val e.lv,.slice 73 0 (Int.toNat e.ti) none,.bool false,.int .i64 0,.int .i64 0,.bool false,.int .i64 0,.int .i64 0,.bool false,.int .i64 0],
  .cells 159 2 [.func (.func 107) [] [.ptr 71 0 0],.func (.func 108) [.ptr 112 0 0] []],
  .ints 3 1 (qY e.ti ((e.tn:Int)) (Int.toNat e.ti)),
  .cells 136 1 [.ptr 112 0 0]])):=by kernel_rfl
theorem ok2_nn(e:Env)(off nC:Nat)(cC:Option Nat)(c2 c3:Int):follow [(0,false),(6,false),(5,true),(0,true),(1,true),(7,false),(0,true),(0,true),(0,true),(4,true),(0,true),(0,true),(1,true),(0,true),(0,true),(0,true),(1,true),(0,true),(0,true),(0,true),(0,true),(11,true),(0,false),(25,true)] ((PF (e.tn:Int) (Env.pre e aC aC (.slice 9 off nC cC) (.val .nilIface) .dead (.spot 37 3 off [.int .i64 2,.int .i64 c2,.int .i64 c3]) []) [1,2,3,4,6,7,8,9]).bind (iV [0,1,4,5,6] [0,5,10,11,14,83,84]))=
 some (xA e off nC++(fZ e.ti e.np e.W 2 c2 c3 !=0,false)::[(decide (0≤e.st∧e.st≤8∧e.np≤100∧0≤kZ c3 e.ti∧kZ c3 e.ti≤100),true)],(71,SX.normal,[],[.ptr 0 0 0,.int .i64 (e.tn:Int),.bool false,.ptr 5 0 0,.func (.func 55) [] [.ptr 10 0 0,.ptr 11 0 0]],85,[e.sO (.slice 14 0 1 none),
  kK (.slice 9 (aE off (Int.toNat 1)) (nC-1) (Option.map (fun x=>x-1) cC)) (2) (c2) (c3) (.iface 138 (.ptr 83 0 0)),
  .cells 49 1 [.ptr 0 0 0],
  .cells 3 1 [.int .i64 (e.tn:Int)],
  .cells 42 10 (lB 0 (e.tn:Int) 1 2 c2 c3 0 0 false 0),
  .cells 163 21 [.int .i64 e.th,.int .i64 e.st,.int .i64 e.ga,.int .i64 e.le,.int .i64 e.re,.int .i64 e.ti,.slice 8 0 e.np e.cp,.val e.lv,.int .i64 (aB e.st (e.np:Int)+2*kZ c3 e.ti),.int .i64 (uM c3 e.ti),.int .i64 (e.tn:Int),.int .i64 0,.slice 84 0 3 (some 3),.int .i64 0,.int .i64 0,.bool false,.int .i64 0,.int .i64 0,.int .i64 0,.bool false,.int .i64 0],
  .cells 181 1 [.func (.func 110) [.ptr 83 0 0] [],.func (.func 111) [.ptr 83 0 0] [],.func (.func 112) [.ptr 83 0 0] []]])):=by kernel_rfl
theorem ok3_nn(e:Env)(off nC:Nat)(cC:Option Nat)(c2 c3:Int):follow [(0,false),(6,false),(5,true),(0,true),(1,true),(7,false),(0,true),(0,true),(0,true),(4,true),(0,true),(0,true),(1,true),(0,true),(0,true),(0,true),(1,true),(0,true),(0,true),(0,true),(0,true),(11,true),(0,false),(25,true),(1,true)] ((PF (e.tn:Int) (Env.pre e aC aC (.slice 9 off nC cC) (.val .nilIface) .dead (.spot 37 3 off [.int .i64 3,.int .i64 c2,.int .i64 c3]) []) [1,2,3,4,6,7,8,9]).bind (iV [0,1,4,5,6] [0,5,10,11,14,89,71]))=
 some (xA e off nC++(fZ e.ti e.np e.W 3 c2 c3 !=0,false)::[(decide (0≤e.st∧e.st≤8∧0≤c2∧c2≤100),true),(decide (0≤e.st∧e.st≤8∧0≤c2∧c2≤100),true)],(71,SX.normal,[],[.ptr 0 0 0,.int .i64 (e.tn:Int),.bool false,.ptr 5 0 0,.func (.func 55) [] [.ptr 10 0 0,.ptr 11 0 0]],90,[e.sO (.slice 14 0 1 none),
  kK (.slice 9 (aE off (Int.toNat 1)) (nC-1) (Option.map (fun x=>x-1) cC)) (3) (c2) (c3) (.iface 140 (.ptr 89 0 0)),
  .cells 49 1 [.ptr 0 0 0],
  .cells 3 1 [.int .i64 (e.tn:Int)],
  .cells 42 10 (lB 0 (e.tn:Int) 1 3 c2 c3 0 0 false 0),
  .cells 185 11 [.int .i64 (aB e.st c2),.int .i64 (aB e.st c2+1),.int .i64 c2,.int .i64 c3,.int .i64 0,.slice 71 0 3 (some 3),.int .i64 0,.int .i64 0,.int .i64 0,.bool false,.int .i64 0],
  .cells 231 1 [.func (.func 114) [] [],.func (.func 115) [] [],.func (.func 116) [] []]])):=by kernel_rfl
theorem ok4_nn(e:Env)(off nC:Nat)(cC:Option Nat)(c2 c3:Int):follow [(0,false),(6,false),(5,true),(0,true),(1,true),(7,false),(0,true),(0,true),(0,true),(4,true),(0,true),(0,true),(1,true),(0,true),(0,true),(0,true),(1,true),(0,true),(0,true),(0,true),(0,true),(11,true),(0,false),(26,true),(1,true)] ((PF (e.tn:Int) (Env.pre e aC aC (.slice 9 off nC cC) (.val .nilIface) .dead (.spot 37 3 off [.int .i64 4,.int .i64 c2,.int .i64 c3]) []) [1,2,3,4,6,7,8,9]).bind (iV [0,1,4,5,6] [0,5,10,11,14,89,71]))=
 some (xA e off nC++(fZ e.ti e.np e.W 4 c2 c3 !=0,false)::[(decide (0≤e.st∧e.st≤8∧0≤c2∧c2≤100),true),(decide (0≤e.st∧e.st≤8∧0≤c2∧c2≤100),true)],(71,SX.normal,[],[.ptr 0 0 0,.int .i64 (e.tn:Int),.bool false,.ptr 5 0 0,.func (.func 55) [] [.ptr 10 0 0,.ptr 11 0 0]],90,[e.sO (.slice 14 0 1 none),
  kK (.slice 9 (aE off (Int.toNat 1)) (nC-1) (Option.map (fun x=>x-1) cC)) (4) (c2) (c3) (.iface 140 (.ptr 89 0 0)),
  .cells 49 1 [.ptr 0 0 0],
  .cells 3 1 [.int .i64 (e.tn:Int)],
  .cells 42 10 (lB 0 (e.tn:Int) 1 4 c2 c3 0 0 false 0),
  .cells 185 11 [.int .i64 (aB e.st c2),.int .i64 (aB e.st c2+1),.int .i64 c2,.int .i64 c3,.int .i64 0,.slice 71 0 3 (some 3),.int .i64 0,.int .i64 0,.int .i64 0,.bool false,.int .i64 0],
  .cells 231 1 [.func (.func 117) [] [],.func (.func 118) [] [],.func (.func 119) [] []]])):=by kernel_rfl
theorem ok5_nn(e:Env)(off nC:Nat)(cC:Option Nat)(c2 c3:Int):follow [(0,false),(6,false),(5,true),(0,true),(1,true),(7,false),(0,true),(0,true),(0,true),(4,true),(0,true),(0,true),(1,true),(0,true),(0,true),(0,true),(1,true),(0,true),(0,true),(0,true),(0,true),(11,true),(0,false),(27,true),(1,true)] ((PF (e.tn:Int) (Env.pre e aC aC (.slice 9 off nC cC) (.val .nilIface) .dead (.spot 37 3 off [.int .i64 5,.int .i64 c2,.int .i64 c3]) []) [1,2,3,4,6,7,8,9]).bind (iV [0,1,4,5,6] [0,5,10,11,14,79,83,80,82,81]))=
 some (xA e off nC++(fZ e.ti e.np e.W 5 c2 c3 !=0,false)::[(decide (0≤e.st∧e.st≤8∧0≤c2∧c2≤100),true),(decide ((e.st=1∨e.st=2∨e.st=4∨e.st=8)∧0≤aB e.st c2+2+e.st∧aB e.st c2+2+e.st≤100000),true)],(71,SX.normal,[],[.ptr 0 0 0,.int .i64 (e.tn:Int),.bool false,.ptr 5 0 0,.func (.func 55) [] [.ptr 10 0 0,.ptr 11 0 0]],180,[e.sO (.slice 14 0 1 none),
  kK (.slice 9 (aE off (Int.toNat 1)) (nC-1) (Option.map (fun x=>x-1) cC)) (5) (c2) (c3) (.iface 142 (.ptr 79 0 0)),
  .cells 49 1 [.ptr 0 0 0],
  .cells 3 1 [.int .i64 (e.tn:Int)],
  .cells 42 10 (lB 0 (e.tn:Int) 1 5 c2 c3 0 0 false 0),
  .cells 189 10 [.int .i64 (aB e.st c2+2+e.st),.int .i64 (e.st.toNat:Int),.int .i64 e.re,.func (.func 167) [] [.ptr 83 0 0,.ptr 80 0 0],.func (.func 168) [] [.ptr 80 0 0,.ptr 83 0 0,.ptr 82 0 0],.int .i64 0,.int .i64 0,.bool false,.int .i64 0,.bool false],
  .cells 22 1 [.slice 81 0 (4+2*Int.toNat e.st) none],
  .cells 22 1 [aC],
  .cells 142 1 [.ptr 79 0 0],
  .ints 3 1 (dA (aB e.st c2+2+e.st) (Int.toNat e.st))])):=by kernel_rfl
theorem ok6_nn(e:Env)(off nC:Nat)(cC:Option Nat)(c2 c3:Int):follow [(0,false),(6,false),(5,true),(0,true),(1,true),(7,false),(0,true),(0,true),(0,true),(4,true),(0,true),(0,true),(1,true),(0,true),(0,true),(0,true),(1,true),(0,true),(0,true),(0,true),(0,true),(11,true),(0,false),(28,true)] ((PF (e.tn:Int) (Env.pre e aC aC (.slice 9 off nC cC) (.val .nilIface) .dead (.spot 37 3 off [.int .i64 6,.int .i64 c2,.int .i64 c3]) []) [1,2,3,4,6,7,8,9]).bind (iV [0,1,4,5,6] [0,5,10,11,14,80,79,81]))=
 some (xA e off nC++(fZ e.ti e.np e.W 6 c2 c3 !=0,false)::[(decide (0≤e.st∧e.st≤8∧0≤c2∧c2≤100),true)],(71,SX.normal,[],[.ptr 0 0 0,.int .i64 (e.tn:Int),.bool false,.ptr 5 0 0,.func (.func 55) [] [.ptr 10 0 0,.ptr 11 0 0]],82,[e.sO (.slice 14 0 1 none),
  kK (.slice 9 (aE off (Int.toNat 1)) (nC-1) (Option.map (fun x=>x-1) cC)) (6) (c2) (c3) (.iface 142 (.ptr 80 0 0)),
  .cells 49 1 [.ptr 0 0 0],
  .cells 3 1 [.int .i64 (e.tn:Int)],
  .cells 42 10 (lB 0 (e.tn:Int) 1 6 c2 c3 0 0 false 0),
  .cells 189 10 [.int .i64 (aB e.st c2+2+e.st),.int .i64 0,.int .i64 0,.func (.func 149) [] [.ptr 79 0 0],.func (.func 150) [] [.ptr 81 0 0],.int .i64 0,.int .i64 0,.bool false,.int .i64 0,.bool false],
  .cells 3 1 [.int .i64 (aB e.st c2+2+e.st)],
  .cells 142 1 [.ptr 80 0 0]])):=by kernel_rfl
end Go.Proofs.YtnkcbfgfkadoaaaGreat.Sx
