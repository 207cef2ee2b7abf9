/- Part 39 of the proof of TopPeek. -/
import Derived.Test.YtnkcbfgfkadoaaaGreatX38
set_option linter.all false
namespace Go.Proofs.YtnkcbfgfkadoaaaGreat.Sx
open Go
set_option maxRecDepth 10000
section
variable{P:Program}{n:Nat}{Q:Exit→Act→World→Prop}{b:mX}{ρ:bF}{a:Act}{w:World}{N:Nat}{kn:List (Nat×SV)}{h:H}
theorem St.cons(s:St b N kn h ρ a w){t:Nat}{v:SV}(hv:VR ρ v (a.tmps.getD t Go.undef)):St b N ((t,v)::kn) h ρ a w:=⟨s.le,s.size,s.defers,fun p hp=>(List.mem_cons.1 hp).elim (fun e=>by subst e;exact hv) (s.vs p),s.hr0,s.hr,s.fr⟩
theorem HR.forget(hr:HR ρ h w){l t s k:Nat}{c:List SV}{v:SV}(hg:h.get l=.cells t s c)(hk:c[k]?=some v)(hv:v.one=true):∃u:Value,u.oneCell'=true∧HR ρ (h.put l (.cells t s (c.set k (.val u)))) w:=by
 have hl:live h l:=by unfold live;rw[hg];simp
 obtain⟨hln,p,hp,hb,ho⟩:=hr.at_ l hl;have h6:=hr.n;rw[hg]at ho;obtain⟨a1,a2,cs,fr,a3,a4,a5,a6⟩:=ho;obtain⟨u,b1,b2⟩:=a6 k v hk;have hu:=kU b2 hv;refine⟨u,hu,?_⟩;have gl:(h.put l (.cells t s (c.set k (.val u)))).get l=.cells t s (c.set k (.val u)):=H.get_put (by omega);have gm:∀m,l≠m→(h.put l (.cells t s (c.set k (.val u)))).get m=h.get m:=fun m hm=>H.get_put_ne hm
 have lv:∀m,live (h.put l (.cells t s (c.set k (.val u)))) m→live h m:=fun m hm=>by
  by_cases e:l=m
  ·subst e;exact hl
  ·unfold live at hm⊢;rwa [gm m e]at hm
 refine⟨hr.n,fun m hm=>?_,fun x y p p' fS hx hy=>hr.apart x y p p' fS (lv x hx) (lv y hy),hr.fresh,hr.amb.1,fun b hb=>⟨(hr.amb.2 b hb).1,fun x p hx=>(hr.amb.2 b hb).2 x p (lv x hx)⟩⟩;by_cases e:l=m
 ·subst e
  refine⟨hln,p,hp,hb,?_⟩;rw[gl];refine⟨a1,by rw[List.length_set];exact a2,cs,fr,a3,a4,a5,fun i v' yB=>?_⟩;rw[List.getElem?_set]at yB;split at yB
  ·rename_i e
   subst e;split at yB
   ·injection yB with yB;subst yB
    exact⟨u,b1,by simp only[VR,true_and];exact hu⟩
   ·cases yB
  ·exact a6 i v' yB
 ·have:=hr.at_ m (lv m hm)
  rw[gm m e];exact this
theorem St.forget(s:St b N kn h ρ a w)(hC:b.2.1.C=[]){l t sz k:Nat}{c:List SV}{v:SV}(hg:h.get l=.cells t sz c)(hk:c[k]?=some v)(hv:v.one=true):∃u:Value,St b N kn (h.put l (.cells t sz (c.set k (.val u)))) ρ a w:=by
 obtain⟨u,hu,hr⟩:=s.hr.forget hg hk hv;have hl:live h l:=by unfold live;rw[hg];simp
 have lv:∀m,live (h.put l (.cells t sz (c.set k (.val u)))) m→live h m:=fun m hm=>by
  by_cases e:l=m
  ·subst e;exact hl
  ·unfold live at hm⊢;rwa [H.get_put_ne e]at hm
 refine⟨u,{s with hr:=hr,fr:=⟨s.fr.le,s.fr.keep,s.fr.n,s.fr.size,s.fr.cells,s.fr.others,fun m h1 h2=>s.fr.old m h1 (lv m h2),fun m p h1 h2=>s.fr.new m p h1 (lv m h2),s.fr.amb,s.fr.ro,s.fr.ct,fun x hx=>absurd hx (by rw[hC];simp),s.fr.env⟩}⟩
def callG(o:Oper):Option (Nat×List Operand×Option Nat×Nat×Bool):=match o with
 |{guard:=some (j,want),op:=.call {callee:=.value (.func f),args:=args, .. },dst:=dst, .. }=>some (f,args.toList,dst,j,want)
 |_=>none
theorem go_callG{ops:Array Oper}{i m f j t:Nat}{want:Bool}{d:Option Code}{args:List Operand}{dst:Option Nat}{vs:List SV}{R:SV→H→Prop}
 (dS:ops.toList.all (fun o=>dR o.op)=true)(hc:(ops.toList[i]?).bind callG=some (f,args,dst,j,want))(hj:mG ops.toList j=some t)(hw:(t,SV.bool want)∈kn)(eA:args.map (evK kn)=vs.map some)(lO:∀t,dst=some t→t<N)(spec:lJ P f vs h R)(s:St b N kn h ρ a w)
 (hq:∀v h' aW a' w',R v h'→St b N (xO dst v kn) h' aW a' w'→GO n P ops (i+1) m d Q a' w'):GO n P ops i (m+1) d Q a w:=by
 obtain⟨o,ho,lU⟩:=Option.bind_eq_some_iff.1 hc;have ho':ops[i]?=some o:=by simpa using ho
 have dE:dR o.op=true:=List.all_eq_true.1 dS o (List.mem_of_getElem? ho);unfold callG at lU;split at lU
 ·rename_i dst' f' kE ats ty pos aft jj ww
  injection lU with e;injection e with e1 e2;injection e2 with e2 e3;injection e3 with e3 e4;injection e4 with e4 e5;subst e1;subst e2;subst e3;subst e4;subst e5;unfold GO;simp only[List.range'_succ,wpOpsIn,ho'];have hv:=s.vs _ hw;have hwn:Region.wanted {dst:=dst',op:=.call {callee:=.value (.func f'),args:=kE,argTypes:=ats},type:=ty,pos:=pos,after:=aft,guard:=some (jj,ww)} (yielded ops a.tmps)=true:=by
   have ha:∃x:Nat→SV,AR ρ (cJ N ((t,.bool ww)::kn) x) a:=(s.cons hv).ar0;obtain⟨x,ax⟩:=ha;have ht:t<N:=by
    rcases Nat.lt_or_ge t N with h|h
    ·exact h
    ·simp only[VR]at hv
     rw[Array.getD_eq_getD_getElem?,Array.getElem?_eq_none (by rw[s.size];exact h)]at hv;simp[Go.undef]at hv
   have hb:(cJ N ((t,SV.bool ww)::kn) x).get t=.bool ww:=by
    rw[sR s.le,if_pos ht];simp[lk]
   have:=iB (o:={dst:=dst',op:=.call {callee:=.value (.func f'),args:=kE,argTypes:=ats},type:=ty,pos:=pos,after:=aft,guard:=some (jj,ww)}) rfl hj hb (ax.at_ t);rw[this];simp
  rw[hwn,if_pos rfl];have hva:bM ρ vs (kE.toList.map a.eval):=by
   simp only[dR,Bool.and_eq_true,List.all_eq_true]at dE;have key:∀(l:List Operand) (vs:List SV),l.map (evK kn)=vs.map some→(∀x∈l,okX x=true)→bM ρ vs (l.map a.eval):=by
    intro l
    induction l with
    |nil=>intro vs h _;cases vs<;>simp[bM]at h⊢
    |cons x l ih=>
     intro vs h hx;cases vs with
     |nil=>simp at h
     |cons v vs=>
      simp only[List.map_cons,List.cons.injEq]at h;simp only[List.map_cons,bM];exact⟨evK_ok s.vs (hx x (by simp)) h.1,ih vs h.2 fun y hy=>hx y (by simp[hy])⟩
   refine key _ _ eA fun x hx=>dE.1 x ?_
   simp only[Op.operands,Call.operands];have qS:x∈kE:=by simpa using hx
   simpa using .inr qS
  obtain⟨⟨fn,k1,k2,k3⟩,k4⟩:=spec;have nO:=k4 ρ w _ (n-1) s.hr hva;refine⟨fun f _=>trivial,?_⟩;rw[Oper.semAt_eq _ _ _ fun cc hc=>by cases hc];have dZ:(execOp a.eval {dst:=dst',op:=.call {callee:=.value (.func f'),args:=kE,argTypes:=ats},type:=ty,pos:=pos,after:=aft,guard:=some (jj,ww)}).run P w=.ok (.enter f' (#[]++kE.map a.eval++#[])) w:=by
   simp only[execOp,resolve,Deferred.ofValue,Sem.run_bind,Result.andThen_ok,invoke];exact jR k1 k2 k3
  rw[dZ,Oper.uponIn_enter];refine⟨fun h=>(by cases h),?_⟩;have yW:(kE.toList.map a.eval).toArray=#[]++kE.map a.eval++#[]:=by apply Array.ext';simp
  rw[yW]at nO;refine nO.mono fun e w' he'=>?_
  obtain⟨v,h',r,aW,u,rfl,p1,p2,p3⟩:=he';exact hq v h' aW _ w' r (s.put lO p1 p2 p3)
 ·cases lU
end
def inB(n a b:Int):Bool:=match decide (n≥a)with
 |true=>decide (n≤b)
 |false=>false
theorem in_0(n a b:Int):follow [(0,true)] ((R0 43 [.int .i64 n,.int .i64 a,.int .i64 b]).bind (cD []))=some ([(decide (n≥a),true)],(.bool (decide (n≤b)),0,[])):=by kernel_rfl
theorem in_1(n a b:Int):follow [(0,false)] ((R0 43 [.int .i64 n,.int .i64 a,.int .i64 b]).bind (cD []))=some ([(decide (n≥a),false)],(.bool false,0,[])):=by kernel_rfl
theorem cZ{n a b:Int}:inB n a b=true↔a≤n∧n≤b:=by
 unfold inB;by_cases h:n≥a
 ·rw[decide_eq_true h];simp only[decide_eq_true_eq];omega
 ·rw[decide_eq_false h];simp only[Bool.false_eq_true,false_iff];omega
theorem in_ex(n a b:Int):∃h',(R0 43 [.int .i64 n,.int .i64 a,.int .i64 b]).go=some (.bool (inB n a b),h')∧h'.n≤4:=by
 unfold inB;by_cases h:n≥a
 ·rw[decide_eq_true h]
  exact iE (in_0 n a b) ⟨decide_eq_true h,trivial⟩ (by omega)
 ·rw[decide_eq_false h]
  exact iE (in_1 n a b) ⟨decide_eq_false h,trivial⟩ (by omega)
noncomputable def inK:cI:=fun t h=>match t with
 |.fn 43 [.int .i64 n,.int .i64 a,.int .i64 b]=>pure h (.bool (inB n a b))
 |_=>none
theorem gI:cX Tryz.prog inK:=fun f args h o r ho hg=>by
 unfold inK at ho;split at ho
 ·rename_i heq;injection heq with e1 e2;subst e1;subst e2;exact jE (in_ex _ _ _) (fun _=>rfl) (fun _=>rfl) ho hg
 ·cases ho
inductive Ht where
 |e
 |c (n:Nat) (k:Ht)
 |i (n:Nat) (t f:Ht)
section
variable{α:Type}
def xE:Nat→Out α→Out α
 |0,o=>o
 |n+1,.chk b k=>match b with
  |true=>xE n k
  |false=>.fail
 |n+1,.ite b t e=>match b with
  |true=>xE n t
  |false=>xE n e
 |_+1,o=>o
def AE:Nat→Out α→Out α
 |0,o=>o
 |m+1,.chk b k=>match b with
  |true=>AE m k
  |false=>.fail
 |m+1,.ite b t e=>match b with
  |true=>AE m t
  |false=>AE m e
 |_+1,o=>o
theorem pN:∀(n:Nat) (o:Out α) (a:α),(xE n o).go=some a→o.go=some a
 |0,_,_,h=>h
 |n+1,.ret _,_,h=>h
 |n+1,.fail,_,h=>h
 |n+1,.ask _ _,_,h=>h
 |n+1,.chk b k,a,h=>by
  unfold xE at h;cases b
  ·cases h
  ·exact pN n k a h
 |n+1,.ite b t e,a,h=>by
  unfold xE at h;cases b
  ·exact pN n e a h
  ·exact pN n t a h
theorem vF:∀(n:Nat) (o:Out α) (a:α),(AE n o).go=some a→o.go=some a
 |0,_,_,h=>h
 |n+1,.ret _,_,h=>h
 |n+1,.fail,_,h=>h
 |n+1,.ask _ _,_,h=>h
 |n+1,.chk b k,a,h=>by
  unfold AE at h;cases b
  ·cases h
  ·exact vF n k a h
 |n+1,.ite b t e,a,h=>by
  unfold AE at h;cases b
  ·exact vF n e a h
  ·exact vF n t a h
def joinC(b:Bool)(x y:Option (List Bool×List kB)):Option (List Bool×List kB):=match x with
 |some x=>match y with
  |some y=>some (x.1++y.1,(x.2.map fun c=>(b,true)::c)++y.2.map fun c=>(b,false)::c)
  |none=>none
 |none=>none
def consC(b:Bool)(x:Option (List Bool×List kB)):Option (List Bool×List kB):=match x with
 |some x=>some (b::x.1,x.2)
 |none=>none
def cov(isF isT:α→Bool):Ht→Out α→Option (List Bool×List kB)
 |.e,o=>match AE 1000 o with
  |.ret a=>match isF a with
   |true=>some ([],[])
   |false=>match isT a with
    |true=>some ([],[[]])
    |false=>none
  |_=>none
 |.c n k,o=>match xE n o with
  |.chk b o=>consC b (cov isF isT k o)
  |_=>none
 |.i n t f,o=>match xE n o with
  |.ite b x y=>joinC b (cov isF isT t x) (cov isF isT f y)
  |_=>none
theorem cov_go{isF isT:α→Bool}:∀(ht:Ht) (o:Out α) (cl:List Bool) (tl:List kB),cov isF isT ht o=some (cl,tl)→(∀b∈cl,b=true)→∃a,o.go=some a∧(isF a=true∨(isT a=true∧∃c∈tl,holds c))
 |.e,o,cl,tl,h,_=>by
  unfold cov at h;split at h
  ·rename_i a ho
   have hg:o.go=some a:=vF 1000 o a (by rw[ho];rfl);refine⟨a,hg,?_⟩;cases hf:isF a with
   |true=>exact .inl rfl
   |false=>
    rw[hf]at h;cases ht:isT a with
    |true=>
     rw[ht]at h;injection h with h;injection h with h1 h2;exact .inr ⟨rfl,[],by rw[←h2];simp,trivial⟩
    |false=>rw[ht]at h;cases h
  ·cases h
 |.c n k,o,cl,tl,h,hc=>by
  unfold cov at h;split at h
  ·rename_i b o' ho
   unfold consC at h;split at h
   ·rename_i x hx
    injection h with h;injection h with h1 h2;subst h1;subst h2;obtain⟨a,g,r⟩:=cov_go k o' x.1 x.2 hx fun b' hb=>hc b' (by simp[hb])
    have hb:=hc b (by simp);subst hb;exact⟨a,pN n o a (by rw[ho];exact g),r⟩
   ·cases h
  ·cases h
 |.i n t f,o,cl,tl,h,hc=>by
  unfold cov at h;split at h
  ·rename_i b x y ho
   unfold joinC at h;split at h
   ·rename_i p hp
    split at h
    ·rename_i q hq
     injection h with h;injection h with h1 h2;subst h1;subst h2;cases b with
     |true=>
      obtain⟨a,g,r⟩:=cov_go t x p.1 p.2 hp fun b' hb=>hc b' (by simp[hb])
      refine⟨a,pN n o a (by rw[ho];exact g),r.imp id fun⟨r1,c,r2,r3⟩=>⟨r1,(true,true)::c,List.mem_append_left _ (List.mem_map.2 ⟨c,r2,rfl⟩),⟨rfl,r3⟩⟩⟩
     |false=>
      obtain⟨a,g,r⟩:=cov_go f y q.1 q.2 hq fun b' hb=>hc b' (by simp[hb])
      refine⟨a,pN n o a (by rw[ho];exact g),r.imp id fun⟨r1,c,r2,r3⟩=>⟨r1,(false,false)::c,List.mem_append_right _ (List.mem_map.2 ⟨c,r2,rfl⟩),⟨rfl,r3⟩⟩⟩
    ·cases h
   ·cases h
  ·cases h
end
def AF(N t:Nat)(bd:Nat)(v:Bool)(r:SX×SA×H):Bool:=match r.1 with
 |.ret=>Nat.beq r.2.1.n N&&Nat.ble r.2.2.n bd&&(match r.2.1.marks with
  |[]=>true
  |_=>false)&&(match r.2.1.get t with
  |.bool b=>b==v
  |_=>false)
 |_=>false
def isAny(_:SX×SA×H):Bool:=true
section
variable{P:Program}{n:Nat}{Q:Exit→Act→World→Prop}{b:mX}{ρ:bF}{a:Act}{w:World}
theorem AG{S:cI}{h:H}{objs:List SO}{R ns:List Nat}{M N K B k t:Nat}{v:Bool}{isT:SX×SA×H→Bool}{bY:Bool}{d:Option Code}{zU kn:List (Nat×SV)}{ht:Ht}{cl:List Bool}{tl:List kB}
 (X:wV P)(hS:cX P S)(T:∀x,cov (AF N t B v) isT ht (bB P (runK P S M) bY #[] 0 0 k d (cJ N zU x) (aT objs R))=some (cl,tl))(nN:∀b∈cl,b=true)
 (ft:Fit h (aT objs R) (nm ns))(dS:(List.range objs.length).all (fun i=>R.contains i)=true)(hl:Nat.ble objs.length 1000=true)(hB:Nat.ble B (objs.length+K)=true)(h6:h.n+K≤1000000)
 (hd:dL d=true)(s:St b N kn h ρ a w)(hkn:∀p∈cU (nm ns) zU,p∈kn)
 (hq:∀aW a' w',St b N [(t,.bool v)] (h.lay K []) aW a' w'→Q .ret a' w')
 (hT:∀c∈tl,holds c→cB n P d Q a w):cB n P d Q a w:=by
 obtain⟨x,ha⟩:=(s.sub hkn).ar;obtain⟨⟨y,iS,s'⟩,g1,g2⟩:=cov_go ht _ cl tl (T x) nN;rcases g2 with g2|⟨_,c,hc,hh⟩
 rotate_left
 ·exact hT c hc hh
 have hl:=Nat.le_of_ble_eq_true hl;have hB:=Nat.le_of_ble_eq_true hB;unfold AF at g2;cases y with
 |normal=>cases g2
 |exit j=>cases g2
 |ret=>
  simp only[Bool.and_eq_true]at g2;obtain⟨⟨⟨e1,e2⟩,e3⟩,e4⟩:=g2;have e1:=Nat.eq_of_beq_eq_true e1;have e2:=Nat.le_of_ble_eq_true e2;have e3:iS.marks=[]:=by
   cases hm:iS.marks with
   |nil=>rfl
   |cons x l=>rw[hm]at e3;cases e3
  have e4:iS.get t=.bool v:=by
   split at e4
   ·rename_i b' hb
    rw[hb];have:b'=v:=by simpa using e4
    rw[this]
   ·cases e4
  have key:GO n P #[] 0 0 d Q a w:=yI X (kR X hS M) (fun o ho=>by simp at ho) hd rfl (Nat.le_refl _) (.inr rfl) g1 ha (ft.hr s.hr) fun uI a' w' p1 p2 p3=>by
   have hlive:eU R objs=true:=List.all_eq_true.2 fun i hi=>by
    have:=List.all_eq_true.1 dS i hi;rw[Bool.or_eq_true];exact .inl this
   have hkn':objs.length≤s'.n:=by
    have:=p3.n;rw[sY (by omega)]at this;exact this
   have mK:fO objs.length R s'.n []=true:=by
    simp only[fO,Bool.and_eq_true];refine⟨⟨⟨⟨by simp,?_⟩,by simp⟩,Nat.ble_eq_true_of_le hkn'⟩,Nat.ble_eq_true_of_le hl⟩;refine List.all_eq_true.2 fun i hi=>?_
    rw[Bool.or_eq_true];exact .inl (List.all_eq_true.1 dS i hi)
   obtain⟨j1,j2,j3⟩:=nV (j:=[]) (os:=[]) (oV:=[]) (ls:=[]) trivial ft hlive mK rfl (show s'.n-objs.length≤K by omega) (by simp) h6 s.hr p2 p3 rfl rfl;refine⟨fun _=>?_,fun _ e=>by cases e⟩;show Q .ret a' w';refine hq _ a' w' ⟨s.le,by rw[p1.size];exact e1,by rw[p1.defers,e3];rfl,fun p hp=>?_,s.hr0,j1,s.fr.trans s.hr0 s.hr j2⟩;simp only[List.mem_cons,List.not_mem_nil,or_false]at hp;subst hp;have:=(jH j3).1 (p1.at_ t);rw[e4]at this;exact this
  exact key
end
end Go.Proofs.YtnkcbfgfkadoaaaGreat.Sx
namespace Go.Proofs.YtnkcbfgfkadoaaaGreat.Sx
open Go
set_option maxRecDepth 100000
noncomputable abbrev xP:Option Code:=some (bR 21)
noncomputable abbrev rgLB:Option Code:=lpB (aA 1 (qV (aA 3 xP)))
theorem rgc_ss(th st ga le re ti:Int)(np nl i:Nat)(cp cl:Option Nat)(PL LL:List Int):∀x:Nat→SV,cov (AF 107 2 27 false) isAny (.i 1 (.e) (.i 3 (.i 4 (.i 4 (.i 3 (.e) (.i 4 (.e) (.i 4 (.e) (.i 4 (.e) (.i 4 (.e) (.i 1 (.e) (.i 6 (.e) (.e)))))))) (.i 8 (.e) (.i 4 (.e) (.i 4 (.e) (.i 4 (.e) (.i 1 (.e) (.i 6 (.e) (.e)))))))) (.i 13 (.e) (.i 4 (.e) (.i 4 (.e) (.i 4 (.e) (.i 1 (.e) (.i 6 (.e) (.e)))))))) (.i 18 (.e) (.i 4 (.e) (.i 4 (.e) (.i 4 (.e) (.i 1 (.e) (.i 6 (.e) (.e))))))))) (bB Tryz.prog (runK Tryz.prog inK 20) false #[] 0 0 3 xP (cJ 107 [(0,.agg [.int .i64 th,.int .i64 st,.int .i64 ga,.int .i64 le,.int .i64 re,.int .i64 ti,.slice 0 0 np cp,.slice 1 0 nl cl])] x) (aT [.dead,.dead] [0,1]))=some ([],[[(!inB th 1 8,false),(st !=1,true),(st !=2,true),(st !=4,true),(st !=8,false),(!inB ga 1 1048576,false),(!inB le 0 1048576,false),(!inB re 1 8,false),(!inB ti 1 16,false),(!inB ((np:Int)) 1 12,false),((nl:Int)!=(np:Int),false)],[(!inB th 1 8,false),(st !=1,true),(st !=2,true),(st !=4,false),(!inB ga 1 1048576,false),(!inB le 0 1048576,false),(!inB re 1 8,false),(!inB ti 1 16,false),(!inB ((np:Int)) 1 12,false),((nl:Int)!=(np:Int),false)],[(!inB th 1 8,false),(st !=1,true),(st !=2,false),(!inB ga 1 1048576,false),(!inB le 0 1048576,false),(!inB re 1 8,false),(!inB ti 1 16,false),(!inB ((np:Int)) 1 12,false),((nl:Int)!=(np:Int),false)],[(!inB th 1 8,false),(st !=1,false),(!inB ga 1 1048576,false),(!inB le 0 1048576,false),(!inB re 1 8,false),(!inB ti 1 16,false),(!inB ((np:Int)) 1 12,false),((nl:Int)!=(np:Int),false)]]):=by intro x;kernel_rfl
theorem rgc_sn(th st ga le re ti:Int)(np nl i:Nat)(cp cl:Option Nat)(PL LL:List Int):∀x:Nat→SV,cov (AF 107 2 27 false) isAny (.i 1 (.e) (.i 3 (.i 4 (.i 4 (.i 3 (.e) (.i 4 (.e) (.i 4 (.e) (.i 4 (.e) (.i 4 (.e) (.i 1 (.e) (.i 7 (.e) (.e)))))))) (.i 8 (.e) (.i 4 (.e) (.i 4 (.e) (.i 4 (.e) (.i 1 (.e) (.i 7 (.e) (.e)))))))) (.i 13 (.e) (.i 4 (.e) (.i 4 (.e) (.i 4 (.e) (.i 1 (.e) (.i 7 (.e) (.e)))))))) (.i 18 (.e) (.i 4 (.e) (.i 4 (.e) (.i 4 (.e) (.i 1 (.e) (.i 7 (.e) (.e))))))))) (bB Tryz.prog (runK Tryz.prog inK 20) false #[] 0 0 3 xP (cJ 107 [(0,.agg [.int .i64 th,.int .i64 st,.int .i64 ga,.int .i64 le,.int .i64 re,.int .i64 ti,.slice 0 0 np cp,aC])] x) (aT [.dead,.dead] [0,1]))=some ([],[[(!inB th 1 8,false),(st !=1,true),(st !=2,true),(st !=4,true),(st !=8,false),(!inB ga 1 1048576,false),(!inB le 0 1048576,false),(!inB re 1 8,false),(!inB ti 1 16,false),(!inB ((np:Int)) 1 12,false),(↑0!=(np:Int),false)],[(!inB th 1 8,false),(st !=1,true),(st !=2,true),(st !=4,false),(!inB ga 1 1048576,false),(!inB le 0 1048576,false),(!inB re 1 8,false),(!inB ti 1 16,false),(!inB ((np:Int)) 1 12,false),(↑0!=(np:Int),false)],[(!inB th 1 8,false),(st !=1,true),(st !=2,false),(!inB ga 1 1048576,false),(!inB le 0 1048576,false),(!inB re 1 8,false),(!inB ti 1 16,false),(!inB ((np:Int)) 1 12,false),(↑0!=(np:Int),false)],[(!inB th 1 8,false),(st !=1,false),(!inB ga 1 1048576,false),(!inB le 0 1048576,false),(!inB re 1 8,false),(!inB ti 1 16,false),(!inB ((np:Int)) 1 12,false),(↑0!=(np:Int),false)]]):=by intro x;kernel_rfl
theorem rgc_ns(th st ga le re ti:Int)(np nl i:Nat)(cp cl:Option Nat)(PL LL:List Int):∀x:Nat→SV,cov (AF 107 2 27 false) isAny (.i 1 (.e) (.i 3 (.i 4 (.i 4 (.i 3 (.e) (.i 4 (.e) (.i 4 (.e) (.i 4 (.e) (.i 4 (.e) (.e)))))) (.i 8 (.e) (.i 4 (.e) (.i 4 (.e) (.i 4 (.e) (.e)))))) (.i 13 (.e) (.i 4 (.e) (.i 4 (.e) (.i 4 (.e) (.e)))))) (.i 18 (.e) (.i 4 (.e) (.i 4 (.e) (.i 4 (.e) (.e))))))) (bB Tryz.prog (runK Tryz.prog inK 20) false #[] 0 0 3 xP (cJ 107 [(0,.agg [.int .i64 th,.int .i64 st,.int .i64 ga,.int .i64 le,.int .i64 re,.int .i64 ti,aC,.slice 1 0 nl cl])] x) (aT [.dead,.dead] [0,1]))=some ([],[]):=by intro x;kernel_rfl
theorem rgc_nn(th st ga le re ti:Int)(np nl i:Nat)(cp cl:Option Nat)(PL LL:List Int):∀x:Nat→SV,cov (AF 107 2 27 false) isAny (.i 1 (.e) (.i 3 (.i 4 (.i 4 (.i 3 (.e) (.i 4 (.e) (.i 4 (.e) (.i 4 (.e) (.i 4 (.e) (.e)))))) (.i 8 (.e) (.i 4 (.e) (.i 4 (.e) (.i 4 (.e) (.e)))))) (.i 13 (.e) (.i 4 (.e) (.i 4 (.e) (.i 4 (.e) (.e)))))) (.i 18 (.e) (.i 4 (.e) (.i 4 (.e) (.i 4 (.e) (.e))))))) (bB Tryz.prog (runK Tryz.prog inK 20) false #[] 0 0 3 xP (cJ 107 [(0,.agg [.int .i64 th,.int .i64 st,.int .i64 ga,.int .i64 le,.int .i64 re,.int .i64 ti,aC,aC])] x) (aT [.dead,.dead] [0,1]))=some ([],[]):=by intro x;kernel_rfl
theorem rgp_8(th st ga le re ti:Int)(np nl i:Nat)(cp cl:Option Nat)(PL LL:List Int):∀x:Nat→SV,follow [(1,false),(3,true),(4,true),(4,true),(3,false),(4,false),(4,false),(4,false),(4,false),(1,false),(6,false)] ((bB Tryz.prog (runK Tryz.prog inK 20) false #[] 0 0 3 xP (cJ 107 [(0,.agg [.int .i64 th,.int .i64 st,.int .i64 ga,.int .i64 le,.int .i64 re,.int .i64 ti,.slice 0 0 np cp,.slice 1 0 nl cl])] x) (aT [.dead,.dead] [0,1])).bind (dB [1,2] [2] []))=some ([(!inB th 1 8,false),(st !=1,true),(st !=2,true),(st !=4,true),(st !=8,false),(!inB ga 1 1048576,false),(!inB le 0 1048576,false),(!inB re 1 8,false),(!inB ti 1 16,false),(!inB ((np:Int)) 1 12,false),((nl:Int)!=(np:Int),false)],(107,.normal,[],[.ptr 2 0 0,.bool false],27,[.cells 24 8 [.int .i64 th,.int .i64 st,.int .i64 ga,.int .i64 le,.int .i64 re,.int .i64 ti,.slice 0 0 np cp,.slice 1 0 nl cl]])):=by intro x;kernel_rfl
theorem rgp_4(th st ga le re ti:Int)(np nl i:Nat)(cp cl:Option Nat)(PL LL:List Int):∀x:Nat→SV,follow [(1,false),(3,true),(4,true),(4,false),(8,false),(4,false),(4,false),(4,false),(1,false),(6,false)] ((bB Tryz.prog (runK Tryz.prog inK 20) false #[] 0 0 3 xP (cJ 107 [(0,.agg [.int .i64 th,.int .i64 st,.int .i64 ga,.int .i64 le,.int .i64 re,.int .i64 ti,.slice 0 0 np cp,.slice 1 0 nl cl])] x) (aT [.dead,.dead] [0,1])).bind (dB [1,2] [2] []))=some ([(!inB th 1 8,false),(st !=1,true),(st !=2,true),(st !=4,false),(!inB ga 1 1048576,false),(!inB le 0 1048576,false),(!inB re 1 8,false),(!inB ti 1 16,false),(!inB ((np:Int)) 1 12,false),((nl:Int)!=(np:Int),false)],(107,.normal,[],[.ptr 2 0 0,.bool false],27,[.cells 24 8 [.int .i64 th,.int .i64 st,.int .i64 ga,.int .i64 le,.int .i64 re,.int .i64 ti,.slice 0 0 np cp,.slice 1 0 nl cl]])):=by intro x;kernel_rfl
theorem rgp_2(th st ga le re ti:Int)(np nl i:Nat)(cp cl:Option Nat)(PL LL:List Int):∀x:Nat→SV,follow [(1,false),(3,true),(4,false),(13,false),(4,false),(4,false),(4,false),(1,false),(6,false)] ((bB Tryz.prog (runK Tryz.prog inK 20) false #[] 0 0 3 xP (cJ 107 [(0,.agg [.int .i64 th,.int .i64 st,.int .i64 ga,.int .i64 le,.int .i64 re,.int .i64 ti,.slice 0 0 np cp,.slice 1 0 nl cl])] x) (aT [.dead,.dead] [0,1])).bind (dB [1,2] [2] []))=some ([(!inB th 1 8,false),(st !=1,true),(st !=2,false),(!inB ga 1 1048576,false),(!inB le 0 1048576,false),(!inB re 1 8,false),(!inB ti 1 16,false),(!inB ((np:Int)) 1 12,false),((nl:Int)!=(np:Int),false)],(107,.normal,[],[.ptr 2 0 0,.bool false],27,[.cells 24 8 [.int .i64 th,.int .i64 st,.int .i64 ga,.int .i64 le,.int .i64 re,.int .i64 ti,.slice 0 0 np cp,.slice 1 0 nl cl]])):=by intro x;kernel_rfl
theorem rgp_1(th st ga le re ti:Int)(np nl i:Nat)(cp cl:Option Nat)(PL LL:List Int):∀x:Nat→SV,follow [(1,false),(3,false),(18,false),(4,false),(4,false),(4,false),(1,false),(6,false)] ((bB Tryz.prog (runK Tryz.prog inK 20) false #[] 0 0 3 xP (cJ 107 [(0,.agg [.int .i64 th,.int .i64 st,.int .i64 ga,.int .i64 le,.int .i64 re,.int .i64 ti,.slice 0 0 np cp,.slice 1 0 nl cl])] x) (aT [.dead,.dead] [0,1])).bind (dB [1,2] [2] []))=some ([(!inB th 1 8,false),(st !=1,false),(!inB ga 1 1048576,false),(!inB le 0 1048576,false),(!inB re 1 8,false),(!inB ti 1 16,false),(!inB ((np:Int)) 1 12,false),((nl:Int)!=(np:Int),false)],(107,.normal,[],[.ptr 2 0 0,.bool false],27,[.cells 24 8 [.int .i64 th,.int .i64 st,.int .i64 ga,.int .i64 le,.int .i64 re,.int .i64 ti,.slice 0 0 np cp,.slice 1 0 nl cl]])):=by intro x;kernel_rfl
theorem rgr(th st ga le re ti:Int)(np nl i:Nat)(cp cl:Option Nat)(PL LL:List Int):∀x:Nat→SV,cov (AF 107 2 11 false) isAny (.i 0 (.c 0 (.c 0 (.c 0 (.i 1 (.e) (.i 2 (.c 3 (.c 0 (.c 1 (.i 2 (.e) (.i 2 (.c 3 (.c 0 (.c 1 (.c 2 (.i 4 (.e) (.c 0 (.e))))))) (.c 10 (.e))))))) (.i 9 (.c 3 (.c 0 (.c 1 (.c 2 (.i 4 (.e) (.c 0 (.e))))))) (.c 10 (.e)))))))) (.e)) (bB Tryz.prog (runK Tryz.prog inK 20) false #[] 0 0 3 rgLB (cJ 107 [(1,.ptr 0 0 0),(3,.int .i64 i)] x) (aT [.cells 24 8 [.int .i64 th,.int .i64 st,.int .i64 ga,.int .i64 le,.int .i64 re,.int .i64 ti,.slice 1 0 np cp,.slice 2 0 np cl],.ints 3 1 PL,.ints 3 1 LL] [0,1,2]))=some ([decide (0≤(i:Int)),decide ((i:Int)<(np:Int)),Nat.blt (rD i) (List.length LL),decide (0≤(i:Int)),decide ((i:Int)<(np:Int)),Nat.blt (rD i) (List.length PL),decide (0≤(i:Int)),decide ((i:Int)<(np:Int)),Nat.blt (rD i) (List.length PL),fits ((i:Int)-1),fits ((i:Int)+1),fits ((i:Int)+1),decide (0≤(i:Int)),decide ((i:Int)<(np:Int)),Nat.blt (rD i) (List.length PL),fits ((i:Int)-1),fits ((i:Int)+1),fits ((i:Int)+1)],[[(decide ((i:Int)<(np:Int)),true),(!inB (zW LL i) 0 1099511627776,false),((i:Int)==0,true),(zW PL i !=-1,false),(decide ((i:Int)>0),true),(!inB (zW PL i) 0 ((i:Int)-1),false)],[(decide ((i:Int)<(np:Int)),true),(!inB (zW LL i) 0 1099511627776,false),((i:Int)==0,true),(zW PL i !=-1,false),(decide ((i:Int)>0),false)],[(decide ((i:Int)<(np:Int)),true),(!inB (zW LL i) 0 1099511627776,false),((i:Int)==0,false),(decide ((i:Int)>0),true),(!inB (zW PL i) 0 ((i:Int)-1),false)],[(decide ((i:Int)<(np:Int)),true),(!inB (zW LL i) 0 1099511627776,false),((i:Int)==0,false),(decide ((i:Int)>0),false)],[(decide ((i:Int)<(np:Int)),false)]]):=by intro x;kernel_rfl
theorem rgr_4(th st ga le re ti:Int)(np nl i:Nat)(cp cl:Option Nat)(PL LL:List Int):∀x:Nat→SV,follow [(0,true),(0,true),(0,true),(0,true),(1,false),(2,true),(3,true),(0,true),(1,true),(2,false),(2,false),(10,true)] ((bB Tryz.prog (runK Tryz.prog inK 20) false #[] 0 0 3 rgLB (cJ 107 [(1,.ptr 0 0 0),(3,.int .i64 i)] x) (aT [.cells 24 8 [.int .i64 th,.int .i64 st,.int .i64 ga,.int .i64 le,.int .i64 re,.int .i64 ti,.slice 1 0 np cp,.slice 2 0 np cl],.ints 3 1 PL,.ints 3 1 LL] [0,1,2])).bind (dB [1,3] [] []))=some ([(decide ((i:Int)<(np:Int)),true),(decide (0≤(i:Int)),true),(decide ((i:Int)<(np:Int)),true),(Nat.blt (rD i) (List.length LL),true),(!inB (zW LL i) 0 1099511627776,false),((i:Int)==0,true),(decide (0≤(i:Int)),true),(decide ((i:Int)<(np:Int)),true),(Nat.blt (rD i) (List.length PL),true),(zW PL i !=-1,false),(decide ((i:Int)>0),false),(fits ((i:Int)+1),true)],(107,.normal,[],[.ptr 0 0 0,.int .i64 ((i:Int)+1)],7,[])):=by intro x;kernel_rfl
theorem rgr_6(th st ga le re ti:Int)(np nl i:Nat)(cp cl:Option Nat)(PL LL:List Int):∀x:Nat→SV,follow [(0,true),(0,true),(0,true),(0,true),(1,false),(2,false),(9,true),(3,true),(0,true),(1,true),(2,true),(4,false),(0,true)] ((bB Tryz.prog (runK Tryz.prog inK 20) false #[] 0 0 3 rgLB (cJ 107 [(1,.ptr 0 0 0),(3,.int .i64 i)] x) (aT [.cells 24 8 [.int .i64 th,.int .i64 st,.int .i64 ga,.int .i64 le,.int .i64 re,.int .i64 ti,.slice 1 0 np cp,.slice 2 0 np cl],.ints 3 1 PL,.ints 3 1 LL] [0,1,2])).bind (dB [1,3] [] []))=some ([(decide ((i:Int)<(np:Int)),true),(decide (0≤(i:Int)),true),(decide ((i:Int)<(np:Int)),true),(Nat.blt (rD i) (List.length LL),true),(!inB (zW LL i) 0 1099511627776,false),((i:Int)==0,false),(decide ((i:Int)>0),true),(decide (0≤(i:Int)),true),(decide ((i:Int)<(np:Int)),true),(Nat.blt (rD i) (List.length PL),true),(fits ((i:Int)-1),true),(!inB (zW PL i) 0 ((i:Int)-1),false),(fits ((i:Int)+1),true)],(107,.normal,[],[.ptr 0 0 0,.int .i64 ((i:Int)+1)],11,[])):=by intro x;kernel_rfl
theorem rgr_8(th st ga le re ti:Int)(np nl i:Nat)(cp cl:Option Nat)(PL LL:List Int):∀x:Nat→SV,follow [(0,false)] ((bB Tryz.prog (runK Tryz.prog inK 20) false #[] 0 0 3 rgLB (cJ 107 [(1,.ptr 0 0 0),(3,.int .i64 i)] x) (aT [.cells 24 8 [.int .i64 th,.int .i64 st,.int .i64 ga,.int .i64 le,.int .i64 re,.int .i64 ti,.slice 1 0 np cp,.slice 2 0 np cl],.ints 3 1 PL,.ints 3 1 LL] [0,1,2])).bind (dB [1,3] [] []))=some ([(decide ((i:Int)<(np:Int)),false)],(107,(.exit 0),[],[.ptr 0 0 0,.int .i64 i],3,[])):=by intro x;kernel_rfl
theorem rg2:∀x:Nat→SV,follow [] ((bB Tryz.prog (runK Tryz.prog S0 20) false #[] 0 0 1 (qV (aA 3 xP)) (cJ 107 [(1,.ptr 0 0 0)] x) (aT [.dead] [0])).bind (dB [1,3] [] []))=some ([],(107,.normal,[],[.ptr 0 0 0,.int .i64 0],1,[])):=by intro x;kernel_rfl
theorem rge:∀x:Nat→SV,follow [] ((bB Tryz.prog (runK Tryz.prog S0 20) false #[] 0 0 2 (aA 1 (aA 3 xP)) (cJ 107 [] x) (aT [] [])).bind (dB [2] [] []))=some ([],(107,.ret,[],[.bool true],0,[])):=by intro x;kernel_rfl
end Go.Proofs.YtnkcbfgfkadoaaaGreat.Sx
namespace Go.Proofs.YtnkcbfgfkadoaaaGreat.Sx
open Go
set_option maxRecDepth 10000
theorem fn21_ok:fnOk 21 107 [2]=true:=by kernel_rfl
theorem sA:dL xP=true:=by kernel_rfl
theorem rg_is:isX (aA 3 xP)=true:=by kernel_rfl
theorem rg_okI:dL (qV (aA 3 xP))=true:=by kernel_rfl
theorem rg_lp:zV (aA 1 (qV (aA 3 xP)))=some 0:=by kernel_rfl
theorem rg_no:aA 1 (aA 1 (qV (aA 3 xP)))=none:=by kernel_rfl
theorem rg_okE:dL (aA 1 (aA 3 xP))=true:=by kernel_rfl
theorem rg_ok:dL rgLB=true:=by kernel_rfl
theorem rg_tail:aA 3 rgLB=none:=by kernel_rfl
theorem bnl:∀b∈([]:List Bool),b=true:=fun _ h=>by cases h
theorem bcn{b:Bool}{bs:List Bool}(h:b=true)(hs:∀b∈bs,b=true):∀b'∈b::bs,b'=true:=fun x hx=>(List.mem_cons.1 hx).elim (fun e=>by rw[e];exact h) (hs x)
def slO:Option (Nat×Nat×Option Nat)→SV
 |none=>aC
 |some x=>.slice x.1 0 x.2.1 x.2.2
structure AH(th st ga le re ti:Int)(PL:List Int):Prop where
 th:1≤th∧th≤8
 st:st=1∨st=2∨st=4∨st=8
 ga:1≤ga∧ga≤1048576
 le:0≤le∧le≤1048576
 re:1≤re∧re≤8
 ti:1≤ti∧ti≤16
 np:1≤PL.length∧PL.length≤12
 p0:PL.getD 0 0=-1
 par:∀i,1≤i→i<PL.length→0≤PL.getD i 0∧PL.getD i 0<(i:Int)
theorem AH.cfg{th st ga le re ti:Int}{PL:List Int}(r:AH th st ga le re ti PL)(cp:Option Nat)(lv:Value)(P:Nat):dU ⟨th,st,ga,le,re,ti,PL,cp,lv,P⟩:=⟨r.st,r.ga,r.le,r.re,r.ti,r.np,r.p0,r.par⟩
theorem nb{b:Bool}:(!b)=false↔b=true:=by cases b<;>simp
theorem frL_eq{LL:List Int}{i:Nat}:zW LL i=LL.getD i 0:=by unfold zW;rw[lH];simp
theorem stOf{st:Int}{x:Int}(h:(st !=x)=false):st=x:=by simpa using h
section
variable{h:H}{th st ga le re ti:Int}{pP pL:Option (Nat×Nat×Option Nat)}{PL LL:List Int}
def RgR(h:H)(th st ga le re ti:Int)(pP pL:Option (Nat×Nat×Option Nat))(PL LL:List Int)(v:SV)(h':H):Prop:=∃b,v=.bool b∧jO h h'∧h'.n≤h.n+300∧(b=true→(∃P L cp cl,pP=some (P,PL.length,cp)∧pL=some (L,PL.length,cl))∧LL.length=PL.length∧AH th st ga le re ti PL)
theorem jO.lay{K:Nat}:jO h (h.lay K []):=⟨by show h.n≤h.n+K;omega,rfl,rfl,fun _ _=>rfl⟩
theorem jO.trans{h1 h2:H}(a:jO h h1)(b:jO h1 h2):jO h h2:=⟨by have:=a.n;have:=b.n;omega,b.R.trans a.R,b.C.trans a.C,fun m hm=>(b.old m (by have:=a.n;omega)).trans (a.old m hm)⟩
set_option maxHeartbeats 1000000 in
theorem right_spec(hP:∀x,pP=some x→x.1<h.n∧h.get x.1=.ints 3 1 PL∧PL.length=x.2.1)(hL:∀x,pL=some x→x.1<h.n∧h.get x.1=.ints 3 1 LL∧LL.length=x.2.1)(hPL:∀x y,pP=some x→pL=some y→x.1≠y.1)(h0:0<h.n)(room:h.n+300≤1000000):
 lJ Tryz.prog 21 [.agg [.int .i64 th,.int .i64 st,.int .i64 ga,.int .i64 le,.int .i64 re,.int .i64 ti,slO pP,slO pL]] h (RgR h th st ga le re ti pP pL PL LL):=by
 refine lG fn21_ok ⟨by simp,by omega⟩ ⟨by simp,by simp⟩ fun ρ a w n Q s0 hq=>?_
 have no:∀{h1:H} {dQ:bF} {a1:Act} {w1:World},jO h h1→h1.n≤h.n+300→St (ρ,h,w) 107 [(2,.bool false)] h1 dQ a1 w1→Q .ret a1 w1:=fun{h1 dQ a1 w1} g hn s1=>hq _ dQ a1 w1 [.bool false] h1 (.inl rfl) rfl ⟨false,rfl,g,hn,fun e=>by cases e⟩ s1
 have ftd:∀{X Y:Nat},X<h.n→Y<h.n→Fit h (aT [.dead,.dead] [0,1]) (nm [X,Y]):=fun{X Y} hX hY=>aX (R:=[0,1]) (os:=[.dead,.dead]) (ns:=[X,Y]) ⟨hX,bE rfl aZ,hY,bE rfl aZ,trivial⟩ (by simp[aQ,SO.lives]) (by simp) (by omega)
 cases pP with
 |none=>
  cases pL with
  |none=>exact AG (K:=25) (ns:=[0,0]) (N:=107) bW gI (rgc_nn th st ga le re ti 0 0 0 none none [] []) (by simp) (ftd h0 h0) rfl rfl rfl (by omega) sA s0 (fun _ hp=>hp) (fun dQ a1 w1 s1=>no .lay (by show h.n+25≤_;omega) s1) (fun c hc=>by simp at hc)
  |some y=>
   obtain⟨L,nl,cl⟩:=y;exact AG (K:=25) (ns:=[0,L]) (N:=107) bW gI (rgc_ns th st ga le re ti 0 nl 0 none cl [] []) (by simp) (ftd h0 (hL _ rfl).1) rfl rfl rfl (by omega) sA s0 (fun _ hp=>hp) (fun dQ a1 w1 s1=>no .lay (by show h.n+25≤_;omega) s1) (fun c hc=>by simp at hc)
 |some x=>
  obtain⟨P,np,cp⟩:=x;obtain⟨lP,gP,eP⟩:=hP _ rfl;simp only at lP gP eP;subst eP;cases pL with
  |none=>
   refine AG (K:=25) (ns:=[P,0]) (N:=107) bW gI (rgc_sn th st ga le re ti PL.length 0 0 cp none [] []) (by simp) (ftd lP h0) rfl rfl rfl (by omega) sA s0 (fun _ hp=>hp) (fun dQ a1 w1 s1=>no .lay (by show h.n+25≤_;omega) s1) (fun c hc hh=>?_);exfalso;have bad:∀{b:Bool},(!inB (PL.length:Int) 1 12)=false→(((0:Nat):Int)!=(PL.length:Int))=false→False:=fun h1 h2=>by
    have h1:=cZ.1 (nb.1 h1);have h2:=stOf h2;omega
   simp only[List.mem_cons,List.not_mem_nil,or_false]at hc;rcases hc with rfl|rfl|rfl|rfl<;>simp only[holds]at hh
   ·exact bad (b:=true) hh.2.2.2.2.2.2.2.2.2.1 hh.2.2.2.2.2.2.2.2.2.2.1
   ·exact bad (b:=true) hh.2.2.2.2.2.2.2.2.1 hh.2.2.2.2.2.2.2.2.2.1
   ·exact bad (b:=true) hh.2.2.2.2.2.2.2.1 hh.2.2.2.2.2.2.2.2.1
   ·exact bad (b:=true) hh.2.2.2.2.2.2.1 hh.2.2.2.2.2.2.2.1
  |some y=>
   obtain⟨L,nl,cl⟩:=y;obtain⟨lL,gL,eL⟩:=hL _ rfl;simp only at lL gL eL;subst eL;refine AG (K:=25) (ns:=[P,L]) (N:=107) bW gI (rgc_ss th st ga le re ti PL.length LL.length 0 cp cl [] []) (by simp) (ftd lP lL) rfl rfl rfl (by omega) sA s0 (fun _ hp=>hp) (fun dQ a1 w1 s1=>no .lay (by show h.n+25≤_;omega) s1) (fun c hc hh=>?_);have main:(1≤th∧th≤8)→(st=1∨st=2∨st=4∨st=8)→(1≤ga∧ga≤1048576)→(0≤le∧le≤1048576)→(1≤re∧re≤8)→(1≤ti∧ti≤16)→(1≤PL.length∧PL.length≤12)→LL.length=PL.length→
    ∀dQ a1 w1,St (ρ,h,w) 107 [(1,.ptr (h.n+0) 0 0),(2,.bool false)] (h.lay 25 (laid (nx h.n 2 [] [P,L]) [2] [.cells 24 8 [.int .i64 th,.int .i64 st,.int .i64 ga,.int .i64 le,.int .i64 re,.int .i64 ti,.slice 0 0 PL.length cp,.slice 1 0 LL.length cl]])) dQ a1 w1→cB n Tryz.prog (aA 3 xP) Q a1 w1:=fun k1 k2 k3 k4 k5 k6 k7 k8 dQ a1 w1 s1=>by
    obtain⟨cO,g1,g2⟩:=gX (nn:=27) (K:=25) (ls:=[2]) (os:=[.cells 24 8 [.int .i64 th,.int .i64 st,.int .i64 ga,.int .i64 le,.int .i64 re,.int .i64 ti,.slice 0 0 PL.length cp,.slice 1 0 LL.length cl]]) (tgs:=[0]) (ftd lP lL) rfl rfl (by simp) (by omega) rfl rfl (fun _=>0);have a1':=g1 0 2 _ 0 rfl rfl rfl;have G1:jO h (h.lay 25 (laid (nx h.n 2 [] [P,L]) [2] [.cells 24 8 [.int .i64 th,.int .i64 st,.int .i64 ga,.int .i64 le,.int .i64 re,.int .i64 ti,.slice 0 0 PL.length cp,.slice 1 0 LL.length cl]])):=⟨by show h.n≤h.n+25;omega,cQ _ _,cY _ _,fun m hm=>(g2 m hm fun l hl cK=>by simp only[List.mem_cons,List.not_mem_nil,or_false]at hl;subst hl;simp at cK).1⟩;have hn1:(h.lay 25 (laid (nx h.n 2 [] [P,L]) [2] [.cells 24 8 [.int .i64 th,.int .i64 st,.int .i64 ga,.int .i64 le,.int .i64 re,.int .i64 ti,.slice 0 0 PL.length cp,.slice 1 0 LL.length cl]])).n=h.n+25:=rfl;have gb1:(h.lay 25 (laid (nx h.n 2 [] [P,L]) [2] [.cells 24 8 [.int .i64 th,.int .i64 st,.int .i64 ga,.int .i64 le,.int .i64 re,.int .i64 ti,.slice 0 0 PL.length cp,.slice 1 0 LL.length cl]])).get (h.n+0)=.cells 24 8 (nwC th st ga le re ti P L PL.length cp cl):=a1'.1.trans (by show SO.cells 24 8 _=_;rw[k8];rfl);generalize h.lay 25 (laid (nx h.n 2 [] [P,L]) [2] [.cells 24 8 [.int .i64 th,.int .i64 st,.int .i64 ga,.int .i64 le,.int .i64 re,.int .i64 ti,.slice 0 0 PL.length cp,.slice 1 0 LL.length cl]])=h1 at*;refine tF rg_is ?_;have ft0:Fit h1 (aT [.dead] [0]) (nm [h.n]):=aX (R:=[0]) (os:=[.dead]) (ns:=[h.n]) ⟨by omega,bE rfl aZ,trivial⟩ (by simp[aQ,SO.lives]) (by simp) (by omega)
    refine bO (K:=0) (ns:=[h.n]) bW (aH _) rg2 trivial ft0 rfl rfl rfl (by simp) (by omega) rg_okI s1 (fun p hp=>by
     have e:cU (nm [h.n]) [(1,SV.ptr 0 0 0)]=[(1,.ptr h.n 0 0)]:=rfl;rw[e]at hp;simp only[List.mem_cons,List.not_mem_nil,or_false]at hp;subst hp;exact .head _) fun iJ a2 w2 s2=>?_
    show cB n Tryz.prog (aA 1 (qV (aA 3 xP))) (iH n Tryz.prog (aA 1 (aA 3 xP)) Q) a2 w2;refine vB rg_lp (fun k a w'=>∃i h2 aW,k=PL.length-i∧i≤PL.length∧jO h h2∧h2.n≤h.n+25+8*i∧h.n<h2.n∧h2.get h.n=.cells 24 8 (nwC th st ga le re ti P L PL.length cp cl)∧(∀j:Nat,j<i→(j=0→PL.getD 0 0=-1)∧(1≤j→0≤PL.getD j 0∧PL.getD j 0<(j:Int)))∧
     St (ρ,h,w) 107 [(1,.ptr h.n 0 0),(3,.int .i64 (i:Nat))] h2 aW a w') (k:=PL.length) ⟨0,h1,iJ,rfl,by omega,G1,by omega,by omega,gb1,fun j hj=>by omega,s2⟩ ?_
    rintro k a3 w3 ⟨i,h2,gV,rfl,hi,G2,hn2,lb2,gb2,hpre,s3⟩;have gP2:h2.get P=.ints 3 1 PL:=(G2.old _ lP).trans gP;have gL2:h2.get L=.ints 3 1 LL:=(G2.old _ lL).trans gL;have hn0:=G2.n;have fS:P≠L:=hPL _ _ rfl rfl;have bP:h.n≠P:=by omega
    have bL:h.n≠L:=by omega
    have ft:Fit h2 (aT [.cells 24 8 (nwC th st ga le re ti 1 2 PL.length cp cl),.ints 3 1 PL,.ints 3 1 LL] [0,1,2]) (nm [h.n,P,L]):=aX (R:=[0,1,2]) (os:=[.cells 24 8 (nwC th st ga le re ti 1 2 PL.length cp cl),.ints 3 1 PL,.ints 3 1 LL]) (ns:=[h.n,P,L]) ⟨lb2,bE rfl (jM gb2 rfl),by omega,bE rfl (jM gP2 rfl),by omega,bE rfl (jM gL2 rfl),trivial⟩ (by simp[aQ,SO.lives,bP,bL,fS]) (by simp) (by omega);rcases Nat.lt_or_ge i PL.length with cK|wQ
    ·have c1:decide ((0:Int)≤(i:Int))=true:=decide_eq_true (by omega)
     have c2:decide ((i:Int)<(PL.length:Int))=true:=decide_eq_true (by omega);have c3:Nat.blt (rD i) LL.length=true:=aF.2 (by rw[lH];omega);have c4:Nat.blt (rD i) PL.length=true:=aF.2 (by rw[lH];omega);have c5:fits ((i:Int)-1)=true:=aN (by omega);have c6:fits ((i:Int)+1)=true:=aN (by omega);have go:∀{h4:H} {mE:bF} {a4:Act} {w4:World},h4=h2.lay 8 []∨h4=h2.lay 4 []→((i=0→PL.getD 0 0=-1)∧(1≤i→0≤PL.getD i 0∧PL.getD i 0<(i:Int)))→St (ρ,h,w) 107 [(1,.ptr h.n 0 0),(3,.int .i64 ((i:Int)+1))] h4 mE a4 w4→
      goX n Tryz.prog (aA 3 rgLB) (rA n Tryz.prog (fun k a w'=>∃i h2 aW,k=PL.length-i∧i≤PL.length∧jO h h2∧h2.n≤h.n+25+8*i∧h.n<h2.n∧h2.get h.n=.cells 24 8 (nwC th st ga le re ti P L PL.length cp cl)∧(∀j:Nat,j<i→(j=0→PL.getD 0 0=-1)∧(1≤j→0≤PL.getD j 0∧PL.getD j 0<(j:Int)))∧
     St (ρ,h,w) 107 [(1,.ptr h.n 0 0),(3,.int .i64 (i:Nat))] h2 aW a w') (PL.length-i) 0 (aA 1 (aA 1 (qV (aA 3 xP)))) (iH n Tryz.prog (aA 1 (aA 3 xP)) Q)) .normal a4 w4:=fun{h4 mE a4 w4} e4 hi4 s4=>by
      rw[fE,rg_tail];have e:h4.n≤h2.n+8∧h2.n≤h4.n∧h4.get=h2.get∧h4.R=h2.R∧h4.C=h2.C:=by
       rcases e4 with rfl|rfl
       ·exact⟨Nat.le_refl _,by show h2.n≤h2.n+8;omega,rfl,rfl,rfl⟩
       ·exact⟨by show h2.n+4≤h2.n+8;omega,by show h2.n≤h2.n+4;omega,rfl,rfl,rfl⟩
      obtain⟨e1,e2,e3,e5,e6⟩:=e;refine⟨PL.length-(i+1),by omega,i+1,h4,mE,rfl,by omega,⟨by omega,e5.trans G2.R,e6.trans G2.C,fun m hm=>by rw[e3];exact G2.old m hm⟩,by omega,by omega,by rw[e3];exact gb2,fun j hj=>?_,s4⟩;rcases Nat.lt_or_ge j i with h|h
      ·exact hpre j h
      ·have:j=i:=by omega
       subst this;exact hi4
     refine AG (K:=8) (ns:=[h.n,P,L]) (N:=107) bW gI (rgr th st ga le re ti PL.length PL.length i cp cl PL LL) (bcn c1 (bcn c2 (bcn c3 (bcn c1 (bcn c2 (bcn c4 (bcn c1 (bcn c2 (bcn c4 (bcn c5 (bcn c6 (bcn c6 (bcn c1 (bcn c2 (bcn c4 (bcn c5 (bcn c6 (bcn c6 (bnl))))))))))))))))))) ft rfl rfl rfl (by omega) rg_ok s3 (fun _ hp=>hp) (fun rB a5 w5 s5=>no (G2.trans .lay) (by show h2.n+8≤_;omega) s5) (fun c hc hh=>?_)
     ·simp only[List.mem_cons,List.not_mem_nil,or_false]at hc
      rcases hc with rfl|rfl|rfl|rfl|rfl<;>simp only[holds]at hh
      ·have h1:(i:Int)=0:=by simpa using hh.2.2.1
       have h2:=of_decide_eq_true hh.2.2.2.2.1;omega
      ·have h1:(i:Int)=0:=by simpa using hh.2.2.1
       have h3:zW PL i=-1:=stOf hh.2.2.2.1;refine bO (K:=4) (ns:=[h.n,P,L]) bW gI (rgr_4 th st ga le re ti PL.length PL.length i cp cl PL LL) (aU c2 (aU c1 (aU c2 (aU c3 (aU hh.2.1 (aU hh.2.2.1 (aU c1 (aU c2 (aU c4 (aU hh.2.2.2.1 (aU hh.2.2.2.2.1 (aU c6 trivial)))))))))))) ft rfl rfl rfl (by simp) (by omega) rg_ok s3 (fun _ hp=>hp) fun rB a5 w5 s5=>go (.inr rfl) ⟨fun e=>by subst e;rw[frL_eq]at h3;exact h3,fun e=>by omega⟩ s5
      ·have h1:¬(i:Int)=0:=by simpa using hh.2.2.1
       have h3:=cZ.1 (nb.1 hh.2.2.2.2.1);rw[frL_eq]at h3;refine bO (K:=8) (ns:=[h.n,P,L]) bW gI (rgr_6 th st ga le re ti PL.length PL.length i cp cl PL LL) (aU c2 (aU c1 (aU c2 (aU c3 (aU hh.2.1 (aU hh.2.2.1 (aU hh.2.2.2.1 (aU c1 (aU c2 (aU c4 (aU c5 (aU hh.2.2.2.2.1 (aU c6 trivial))))))))))))) ft rfl rfl rfl (by simp) (by omega) rg_ok s3 (fun _ hp=>hp) fun rB a5 w5 s5=>go (.inl rfl) ⟨fun e=>by subst e;simp at h1,fun e=>by omega⟩ s5
      ·have h1:¬(i:Int)=0:=by simpa using hh.2.2.1
       have h2:=of_decide_eq_false hh.2.2.2.1;omega
      ·have h2:=of_decide_eq_false hh.1
       omega
    ·have ei:i=PL.length:=by omega
     subst ei;refine bO (K:=0) (ns:=[h.n,P,L]) bW gI (rgr_8 th st ga le re ti PL.length PL.length PL.length cp cl PL LL) (aU (decide_eq_false (by omega)) trivial) ft rfl rfl rfl (by simp) (by omega) rg_ok s3 (fun _ hp=>hp) fun rB a5 w5 s5=>?_
     show rA n Tryz.prog (fun k a w'=>∃i h2 aW,k=PL.length-i∧i≤PL.length∧jO h h2∧h2.n≤h.n+25+8*i∧h.n<h2.n∧h2.get h.n=.cells 24 8 (nwC th st ga le re ti P L PL.length cp cl)∧(∀j:Nat,j<i→(j=0→PL.getD 0 0=-1)∧(1≤j→0≤PL.getD j 0∧PL.getD j 0<(j:Int)))∧
     St (ρ,h,w) 107 [(1,.ptr h.n 0 0),(3,.int .i64 (i:Nat))] h2 aW a w') (PL.length-PL.length) 0 (aA 1 (aA 1 (qV (aA 3 xP)))) (iH n Tryz.prog (aA 1 (aA 3 xP)) Q) (.exit 0) a5 w5
     unfold rA;simp only[if_true];rw[rg_no];show cB n Tryz.prog (aA 1 (aA 3 xP)) Q a5 w5;have qO:Fit h2 (aT [] []) (nm []):=aX (R:=[]) (os:=[]) (ns:=[]) trivial (by simp[aQ]) (by simp) (by omega);refine bO (K:=0) (ns:=[]) bW (aH _) rge trivial qO rfl rfl rfl (by simp) (by omega) rg_okE s5 (fun _ hp=>by cases hp) fun ρ6 a6 w6 s6=>?_
     exact hq _ ρ6 a6 w6 [.bool true] h2 (.inl rfl) rfl ⟨true,rfl,G2,by omega,fun _=>⟨⟨P,L,cp,cl,rfl,by rw[k8]⟩,k8,⟨k1,k2,k3,k4,k5,k6,k7,(hpre 0 (by omega)).1 rfl,fun i hi1 hi2=>(hpre i hi2).2 hi1⟩⟩⟩ s6
   simp only[List.mem_cons,List.not_mem_nil,or_false]at hc;have hh0:=hh;rcases hc with rfl|rfl|rfl|rfl
   ·simp only[holds]at hh
    exact bO (K:=25) (ns:=[P,L]) bW gI (rgp_8 th st ga le re ti PL.length LL.length 0 cp cl [] []) hh0 (ftd lP lL) rfl rfl rfl (by simp) (by omega) sA s0 (fun _ hp=>hp) fun dQ a1 w1 s1=>main (cZ.1 (nb.1 hh.1)) (.inr (.inr (.inr (stOf hh.2.2.2.2.1)))) (cZ.1 (nb.1 hh.2.2.2.2.2.1)) (cZ.1 (nb.1 hh.2.2.2.2.2.2.1)) (cZ.1 (nb.1 hh.2.2.2.2.2.2.2.1)) (cZ.1 (nb.1 hh.2.2.2.2.2.2.2.2.1)) (by have:=cZ.1 (nb.1 hh.2.2.2.2.2.2.2.2.2.1);omega) (by have:=stOf hh.2.2.2.2.2.2.2.2.2.2.1;omega) dQ a1 w1 s1
   ·simp only[holds]at hh
    exact bO (K:=25) (ns:=[P,L]) bW gI (rgp_4 th st ga le re ti PL.length LL.length 0 cp cl [] []) hh0 (ftd lP lL) rfl rfl rfl (by simp) (by omega) sA s0 (fun _ hp=>hp) fun dQ a1 w1 s1=>main (cZ.1 (nb.1 hh.1)) (.inr (.inr (.inl (stOf hh.2.2.2.1)))) (cZ.1 (nb.1 hh.2.2.2.2.1)) (cZ.1 (nb.1 hh.2.2.2.2.2.1)) (cZ.1 (nb.1 hh.2.2.2.2.2.2.1)) (cZ.1 (nb.1 hh.2.2.2.2.2.2.2.1)) (by have:=cZ.1 (nb.1 hh.2.2.2.2.2.2.2.2.1);omega) (by have:=stOf hh.2.2.2.2.2.2.2.2.2.1;omega) dQ a1 w1 s1
   ·simp only[holds]at hh
    exact bO (K:=25) (ns:=[P,L]) bW gI (rgp_2 th st ga le re ti PL.length LL.length 0 cp cl [] []) hh0 (ftd lP lL) rfl rfl rfl (by simp) (by omega) sA s0 (fun _ hp=>hp) fun dQ a1 w1 s1=>main (cZ.1 (nb.1 hh.1)) (.inr (.inl (stOf hh.2.2.1))) (cZ.1 (nb.1 hh.2.2.2.1)) (cZ.1 (nb.1 hh.2.2.2.2.1)) (cZ.1 (nb.1 hh.2.2.2.2.2.1)) (cZ.1 (nb.1 hh.2.2.2.2.2.2.1)) (by have:=cZ.1 (nb.1 hh.2.2.2.2.2.2.2.1);omega) (by have:=stOf hh.2.2.2.2.2.2.2.2.1;omega) dQ a1 w1 s1
   ·simp only[holds]at hh
    exact bO (K:=25) (ns:=[P,L]) bW gI (rgp_1 th st ga le re ti PL.length LL.length 0 cp cl [] []) hh0 (ftd lP lL) rfl rfl rfl (by simp) (by omega) sA s0 (fun _ hp=>hp) fun dQ a1 w1 s1=>main (cZ.1 (nb.1 hh.1)) (.inl (stOf hh.2.1)) (cZ.1 (nb.1 hh.2.2.1)) (cZ.1 (nb.1 hh.2.2.2.1)) (cZ.1 (nb.1 hh.2.2.2.2.1)) (cZ.1 (nb.1 hh.2.2.2.2.2.1)) (by have:=cZ.1 (nb.1 hh.2.2.2.2.2.2.1);omega) (by have:=stOf hh.2.2.2.2.2.2.2.1;omega) dQ a1 w1 s1
end
end Go.Proofs.YtnkcbfgfkadoaaaGreat.Sx
