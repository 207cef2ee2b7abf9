/- Part 30 of the proof of TopPeek. -/
import Derived.Test.YtnkcbfgfkadoaaaGreatX29
set_option linter.all false
namespace Go.Proofs.YtnkcbfgfkadoaaaGreat.Sx
open Go
set_option maxRecDepth 10000
def lk:List (Nat×SV)→Nat→SV→SV
 |[],_,d=>d
 |p::r,i,d=>match Nat.beq p.1 i with
  |true=>p.2
  |false=>lk r i d
def cJ(N:Nat)(kn:List (Nat×SV))(x:Nat→SV):SA:=⟨setArgs .nil 0 ((List.range N).map fun i=>lk kn i (x i)),N,[],none⟩
theorem sR{N:Nat}{kn:List (Nat×SV)}{x:Nat→SV}(hN:N≤1000)(i:Nat):(cJ N kn x).get i=if i<N then lk kn i (x i)else iK:=by
 unfold SA.get cJ;simp only;rw[iC _ _ 0 i (by simp;omega)];by_cases hk:i<N
 ·rw[if_pos ⟨by omega,by simp;omega⟩,if_pos hk,Nat.sub_zero,List.getElem?_map,List.getElem?_range hk];rfl
 ·rw[if_neg (by simp;omega),if_neg hk,Tr.get_nil]
theorem lk_or(kn:List (Nat×SV))(i:Nat)(d:SV):(∃p∈kn,p.1=i∧lk kn i d=p.2)∨lk kn i d=d:=by
 induction kn with
 |nil=>exact .inr rfl
 |cons p r ih=>
  unfold lk;cases hb:Nat.beq p.1 i
  ·rcases ih with⟨q,h1,h2,h3⟩|h
   ·exact .inl ⟨q,by simp[h1],h2,h3⟩
   ·exact .inr h
  ·exact .inl ⟨p,by simp,Nat.eq_of_beq_eq_true hb,rfl⟩
abbrev mX:=bF×H×World
structure St(b:mX)(N:Nat)(kn:List (Nat×SV))(h:H)(ρ:bF)(a:Act)(w:World):Prop where
 le:N≤1000
 size:a.tmps.size=N
 defers:a.defers=[]
 vs:∀p∈kn,VR ρ p.2 (a.tmps.getD p.1 Go.undef)
 hr0:HR b.1 b.2.1 b.2.2
 hr:HR ρ h w
 fr:FR b.1 b.2.1 b.2.2 ρ h w
theorem St.sub{b:mX}{N:Nat}{kn kn':List (Nat×SV)}{h:H}{ρ:bF}{a:Act}{w:World}(s:St b N kn h ρ a w)(hk:∀p∈kn',p∈kn):St b N kn' h ρ a w:={s with vs:=fun p hp=>s.vs p (hk p hp)}
def cU(q:Nat→Nat)(kn:List (Nat×SV)):List (Nat×SV):=kn.map fun p=>(p.1,p.2.ren q)
theorem St.ar{b:mX}{N:Nat}{kn:List (Nat×SV)}{h:H}{ρ:bF}{a:Act}{w:World}{r:Nat→Nat}(s:St b N (cU r kn) h ρ a w):∃x,AR (ρ.via r) (cJ N kn x) a:=by
 have hx:∀k,∃s:SV,∀ρ,VR ρ s (a.tmps.getD k Go.undef):=fun k=>rQ _
 refine⟨fun k=>Classical.choose (hx k),⟨s.le,s.size,fun k=>?_,fun _ h=>(by cases h),s.defers⟩⟩;rw[sR s.le];by_cases hk:k<N
 ·rw[if_pos hk]
  rcases lk_or kn k (Classical.choose (hx k))with⟨p,h1,h2,h3⟩|h1
  ·rw[h3,←h2]
   exact(jH (oH ρ r)).2 (s.vs (p.1,p.2.ren r) (List.mem_map.2 ⟨p,h1,rfl⟩))
  ·rw[h1];exact Classical.choose_spec (hx k) _
 ·rw[if_neg hk,Array.getD_eq_getD_getElem?,Array.getElem?_eq_none (by rw[s.size];omega)]
  simp only[Option.getD_none,iK,VR];exact⟨#[],rfl,by simp[bM]⟩
section
variable{β:Type}
def seeO(f:Nat)(o:SO)(c:SO→Out β):Out β:=match f with
 |0=>stO o c
 |1=>c o
 |2=>c .dead
 |_=>match o with
  |.cells t s l=>match l.all SV.one&&Nat.beq (l.length/s*s) l.length with
   |true=>stN 20 t fun t=>stN 20 s fun s=>stN 20 (l.length/s) fun n=>c (.any t s n)
   |false=>.fail
  |.any t s n=>stN 20 n fun n=>c (.any t s n)
  |_=>.fail
def seeF(h:H):List Nat→List Nat→(List SO→Out β)→Out β
 |[],_,c=>c []
 |l::ls,[],c=>seeO 0 (h.get l) fun o=>seeF h ls [] fun os=>c (o::os)
 |l::ls,f::fs,c=>seeO f (h.get l) fun o=>seeF h ls fs fun os=>c (o::os)
theorem seeO_eq{b:β}{f:Nat}{o:SO}{c:SO→Out β}(h:(seeO f o c).go=some b):∃o',Wk o o'∧(c o').go=some b:=by
 unfold seeO at h;split at h
 ·exact⟨o,.refl o,stO_eq _ _ h⟩
 ·exact⟨o,.refl o,h⟩
 ·exact⟨.dead,.inl rfl,h⟩
 ·split at h
  ·rename_i t s l
   split at h
   ·rename_i hc
    simp only[Bool.and_eq_true]at hc;rw[iD,iD,iD]at h;refine⟨_,.inr ⟨by simp,fun ρ p w h=>?_⟩,h⟩;obtain⟨a1,a2,cs,fr,a3,a4,a5,a6⟩:=h;have e:=Nat.eq_of_beq_eq_true hc.2;refine⟨a1,by omega,cs,fr,a3,a4,a5,fun i hi=>?_⟩;have tU:i<l.length:=by omega
    obtain⟨u,b1,b2⟩:=a6 i l[i] (List.getElem?_eq_getElem tU);exact⟨u,b1,kU b2 (List.all_eq_true.1 hc.1 _ (List.getElem_mem tU))⟩
   ·cases h
  ·rw[iD]at h;exact⟨_,.refl _,h⟩
  ·cases h
theorem yH{b:β}{h:H}:∀(ls fs:List Nat) (c:List SO→Out β),(seeF h ls fs c).go=some b→∃os,rN (ls.map h.get) os∧(c os).go=some b
 |[],_,c,hg=>⟨[],trivial,hg⟩
 |l::ls,[],c,hg=>by
  obtain⟨o,h1,h2⟩:=seeO_eq (f:=0) hg;obtain⟨os,h3,h4⟩:=yH ls [] _ h2;exact⟨o::os,⟨h1,h3⟩,h4⟩
 |l::ls,f::fs,c,hg=>by
  obtain⟨o,h1,h2⟩:=seeO_eq hg;obtain⟨os,h3,h4⟩:=yH ls fs _ h2;exact⟨o::os,⟨h1,h3⟩,h4⟩
end
def dB(ts ls fs:List Nat)(r:SX×SA×H):Out (Nat×SX×List Nat×List SV×Nat×List SO):=stN 20 r.2.1.n fun k=>uJ (ts.map r.2.1.get) fun vs=>stN 20 r.2.2.n fun n=>seeF r.2.2 ls fs fun os=>.ret (k,r.1,r.2.1.marks,vs,n,os)
theorem seeX_eq{ts ls fs:List Nat}{r:SX×SA×H}{k:Nat}{x:SX}{ms:List Nat}{vs:List SV}{n:Nat}{os:List SO}(h:(dB ts ls fs r).go=some (k,x,ms,vs,n,os)):r.2.1.n=k∧r.1=x∧r.2.1.marks=ms∧ts.map r.2.1.get=vs∧r.2.2.n=n∧rN (ls.map r.2.2.get) os:=by
 unfold dB at h;rw[iD,kQ,iD]at h;obtain⟨oV,h1,h2⟩:=yH ls fs (fun os=>.ret (r.2.1.n,r.1,r.2.1.marks,ts.map r.2.1.get,r.2.2.n,os)) h;have:=Out.ret_go h2;injection this with e1 e2;injection e2 with e2 e3;injection e3 with e3 e4;injection e4 with e4 e5;injection e5 with e5 e6;subst e6;exact⟨e1,e2,e3,e4,e5,h1⟩
def aA:Nat→Option Code→Option Code
 |0,d=>d
 |n+1,some (.seq _ d)=>aA n (some d)
 |n+1,some _=>aA n none
 |_+1,none=>none
section
variable(P:Program)
def preX(K:pY)(bY:Bool):Nat→Option Code→SA→H→Out (SX×SA×H)
 |0,_,a,h=>.ret (.normal,a,h)
 |k+1,some (.seq c d),a,h=>(code P K bY false c a h).bind fun r=>match r with
  |(.normal,a,h)=>preX K bY k (some d) a h
  |r=>.ret r
 |k+1,some c,a,h=>(code P K bY false c a h).bind fun r=>match r with
  |(.normal,a,h)=>preX K bY k none a h
  |r=>.ret r
 |_+1,none,_,_=>.fail
def bB(K:pY)(bY:Bool)(ops:Array Oper)(i j k:Nat)(d:Option Code)(a:SA)(h:H):Out (SX×SA×H):=
 (tG P K bY ops.toList ((ops.toList.drop i).take j) a h).bind fun x=>preX P K bY k d x.1 x.2
end
def dL(d:Option Code):Bool:=match d with
 |some c=>eF c
 |none=>true
section
variable{P:Program}{n:Nat}{Q:Exit→Act→World→Prop}
def cB(n:Nat)(P:Program)(d:Option Code)(Q:Exit→Act→World→Prop)(a:Act)(w:World):Prop:=match d with
 |some d=>d.wpIn Fence.wide n P Q a w
 |none=>Q .normal a w
def iH(n:Nat)(P:Program)(d:Option Code)(Q:Exit→Act→World→Prop):Exit→Act→World→Prop:=Exit.then (cB n P d Q) Q
def GO(n:Nat)(P:Program)(ops:Array Oper)(i m:Nat)(d:Option Code)(Q:Exit→Act→World→Prop)(a:Act)(w:World):Prop:=wpOpsIn Fence.wide n P ops (iH n P d Q) (List.range' i m) a w
def goX(n:Nat)(P:Program)(d:Option Code)(Q:Exit→Act→World→Prop)(x:SX)(a:Act)(w:World):Prop:=match x with
 |.normal=>cB n P d Q a w
 |x=>Q (exOf x) a w
theorem preX_ok(X:wV P){K:pY}(hK:KOK P K){bY:Bool}:∀(k:Nat) (d:Option Code) (sa iS:SA) (h h':H) (x:SX) (ρ:bF) (a:Act) (w:World),dL d=true→(preX P K bY k d sa h).go=some (x,iS,h')→AR ρ sa a→HR ρ h w→
 (∀aW a' w',AR aW iS a'→HR aW h' w'→FR ρ h w aW h' w'→goX n P (aA k d) Q x a' w')→cB n P d Q a w
 |0,d,sa,iS,h,h',x,ρ,a,w,dE,hg,ha,hr,hq=>by
  have:=Out.ret_go (by simpa[preX]using hg);injection this with e1 e2;injection e2 with e2 e3;subst e1;subst e2;subst e3;have:=hq ρ a w ha hr (.refl hr);simpa[aA,goX]using this
 |k+1,none,sa,iS,h,h',x,ρ,a,w,dE,hg,ha,hr,hq=>by simp[preX,Out.go]at hg
 |k+1,some c,sa,iS,h,h',x,ρ,a,w,dE,hg,ha,hr,hq=>by
  have main:∀(c0:Code) (d:Option Code),eF c0=true→dL d=true→aA (k+1) (some c)=aA k d→(∀a w,c0.wpIn Fence.wide n P (iH n P d Q) a w→c.wpIn Fence.wide n P Q a w)→
   ((code P K bY false c0 sa h).bind fun r=>match r with
     |(.normal,a,h)=>preX P K bY k d a h
     |r=>.ret r).go=some (x,iS,h')→cB n P (some c) Q a w:=fun c0 d h1 h2 h3 h4 hg=>by
   obtain⟨⟨x1,BA,h1'⟩,g1,g2⟩:=Out.bind_go hg;refine h4 a w (jD X.tab X.mixed rM hK (fun _=>rfl) c0 sa BA h h1' x1 ρ a w h1 g1 ha hr fun dQ a1 w1 p1 p2 p3=>?_);cases x1 with
   |normal=>
    refine preX_ok X hK k d BA iS h1' h' x dQ a1 w1 h2 g2 p1 p2 fun aW a' w' q1 q2 q3=>?_
    have:=hq aW a' w' q1 q2 (p3.trans hr p2 q3)
    rwa [h3]at this
   |exit j=>
    have:=Out.ret_go g2;injection this with e1 e2;injection e2 with e2 e3;subst e1;subst e2;subst e3;exact hq _ _ _ p1 p2 p3
   |ret=>
    have:=Out.ret_go g2;injection this with e1 e2;injection e2 with e2 e3;subst e1;subst e2;subst e3;exact hq _ _ _ p1 p2 p3
  have lone:∀(c:Code) (a:Act) (w:World),c.wpIn Fence.wide n P (iH n P none Q) a w→c.wpIn Fence.wide n P Q a w:=fun c a w h=>wpIn_mono h fun e a w h=>by cases e<;>exact h
  cases c with
  |seq c d=>
   simp only[dL,eF,Bool.and_eq_true]at dE;exact main c (some d) dE.1 dE.2 rfl (fun a w h=>wpIn_seq h) hg
  |_=>exact main _ none dE rfl rfl (lone _) hg
theorem yI(X:wV P){K:pY}(hK:KOK P K){bY:Bool}{ops:Array Oper}(dS:∀o∈ops.toList,dR o.op=true){i j m k:Nat}{d:Option Code}(hd:dL d=true)(hm:i+m=ops.toList.length)(hj:j≤m)(hk:k=0∨j=m){sa iS:SA}{h h':H}{x:SX}{ρ:bF}{a:Act}{w:World}
 (hg:(bB P K bY ops i j k d sa h).go=some (x,iS,h'))(ha:AR ρ sa a)(hr:HR ρ h w)
 (hq:∀aW a' w',AR aW iS a'→HR aW h' w'→FR ρ h w aW h' w'→(j=m→goX n P (aA k d) Q x a' w')∧(k=0→x=.normal→GO n P ops (i+j) (m-j) d Q a' w')):GO n P ops i m d Q a w:=by
 obtain⟨⟨BA,h1⟩,g1,g2⟩:=Out.bind_go hg;have hlen:((ops.toList.drop i).take j).length=j:=by rw[List.length_take,List.length_drop];omega
 have uO:(ops.toList.drop (i+j)).length=m-j:=by rw[List.length_drop];omega
 have e:((ops.toList.drop i).take j)++ops.toList.drop (i+j)=ops.toList.drop i:=by
  rw[←List.drop_drop];exact List.take_append_drop j _
 have key:=mW (Q:=iH n P d Q) (n:=n) X.tab rM hK (rest:=ops.toList.drop (i+j)) dS ((ops.toList.drop i).take j) i sa BA a ρ h h1 w e g1 ha hr fun dQ a1 w1 p1 p2 p3=>?_
 ·rw[hlen,uO,show j+(m-j)=m by omega]at key
  exact key
 ·rw[hlen,uO]
  rcases hk with rfl|rfl
  ·have:=Out.ret_go (by simpa[preX]using g2)
   injection this with e1 e2;injection e2 with e2 e3;subst e1;subst e2;subst e3;exact(hq dQ a1 w1 p1 p2 p3).2 rfl rfl
  ·rw[Nat.sub_self]
   show cB n P d Q a1 w1;exact preX_ok X hK k d BA iS h1 h' x dQ a1 w1 hd g2 p1 p2 fun aW a' w' q1 q2 q3=>(hq aW a' w' q1 q2 (p3.trans hr p2 q3)).1 rfl
theorem iW{S:cI}{h:H}{objs os:List SO}{R ns ts ls fs:List Nat}{nn M N K i j m k:Nat}{bY:Bool}{ops:Array Oper}{d:Option Code}{zU kn:List (Nat×SV)}{ps:Way}{cs:kB}{x':SX}{vs:List SV}{b:mX}{ρ:bF}{a:Act}{w:World}
 (X:wV P)(hS:cX P S)(T:∀x,follow ps ((bB P (runK P S M) bY ops i j k d (cJ N zU x) (aT objs R)).bind (dB ts ls fs))=some (cs,(N,x',[],vs,nn,os)))(hc:holds cs)
 (ft:Fit h (aT objs R) (nm ns))(eK:eU R objs=true)(mK:fO objs.length R nn ls=true)(dM:os.all SO.plain=true)(hK:nn-objs.length≤K)(h6:h.n+K≤1000000)
 (dS:ops.toList.all (fun o=>dR o.op)=true)(hd:dL d=true)(hm:Nat.beq (i+m) ops.toList.length=true)(hj:Nat.ble j m=true)(hk:k=0∨j=m)(s:St b N kn h ρ a w)(hkn:∀p∈cU (nm ns) zU,p∈kn)
 (hq:∀aW a' w',St b N (ts.zip (SV.rens (nx h.n objs.length [] ns) vs)) (h.lay K (laid (nx h.n objs.length [] ns) ls os)) aW a' w'→(j=m→goX n P (aA k d) Q x' a' w')∧(k=0→x'=.normal→GO n P ops (i+j) (m-j) d Q a' w')):GO n P ops i m d Q a w:=by
 obtain⟨x,ha⟩:=(s.sub hkn).ar;obtain⟨⟨y,iS,s'⟩,g1,g2⟩:=Out.bind_go (dT _ _ _ _ (T x) hc);obtain⟨e0,e1,e2,e3,e4,e5⟩:=seeX_eq g2;simp only at e0 e1 e2 e3 e4 e5;subst e1;refine yI X (kR X hS M) (fun o ho=>List.all_eq_true.1 dS o ho) hd (Nat.eq_of_beq_eq_true hm) (Nat.le_of_ble_eq_true hj) hk g1 ha (ft.hr s.hr) fun uI a' w' p1 p2 p3=>?_
 obtain⟨j1,j2,j3⟩:=nV (j:=[]) e5 ft eK mK dM hK (by simp) h6 s.hr p2 p3 e4 rfl;refine hq _ a' w' ⟨s.le,by rw[p1.size];exact e0,by rw[p1.defers,e2];rfl,?_,s.hr0,j1,s.fr.trans s.hr0 s.hr j2⟩;rw[←e3,SV.rens_map,List.map_map];intro p hp;have:∀(ts:List Nat),p∈ts.zip (ts.map (SV.ren (nx h.n objs.length [] ns)∘iS.get))→p.2=(iS.get p.1).ren (nx h.n objs.length [] ns):=by
  intro ts
  induction ts with
  |nil=>intro h;simp at h
  |cons t ts ih=>
   intro h;rw[List.map_cons,List.zip_cons_cons]at h;rcases List.mem_cons.1 h with e|h
   ·rw[e];rfl
   ·exact ih h
 rw[this ts hp];exact(jH j3).1 (p1.at_ p.1)
def rY(o:Oper):Option (Nat×List Operand×Option Nat):=match o with
 |{guard:=none,op:=.call {callee:=.value (.func f),args:=args, .. },dst:=dst, .. }=>some (f,args.toList,dst)
 |_=>none
def evK(kn:List (Nat×SV)):Operand→Option SV
 |.tmp t=>match kn.find? (fun p=>Nat.beq p.1 t)with
  |some p=>some p.2
  |none=>none
 |.const v=>some (ofV v)
 |.func f=>some (.func (.func f) [] [])
 |.global _=>none
def xO(dst:Option Nat)(v:SV)(kn:List (Nat×SV)):List (Nat×SV):=match dst with
 |some t=>(t,v)::kn.filter fun p=>!Nat.beq p.1 t
 |none=>kn
noncomputable def just(P:Program)(r:SV×H):pY:=fun t h=>match Classical.propDecidable (Spec P t h r)with
 |.isTrue _=>.ret r
 |.isFalse _=>.fail
theorem just_ok{r:SV×H}:KOK P (just P r) where
 fn:=fun f args h v h' hg=>by
  unfold just at hg;split at hg
  ·rename_i hs _
   have:=Out.ret_go hg;subst this;exact hs
  ·cases hg
 yield:=fun l args h v h' hg=>by
  unfold just at hg;split at hg
  ·rename_i hs _;exact hs.elim
  ·cases hg
theorem evK_ok{kn:List (Nat×SV)}{ρ:bF}{a:Act}(hv:∀p∈kn,VR ρ p.2 (a.tmps.getD p.1 Go.undef)){x:Operand}{v:SV}(hx:okX x=true)(h:evK kn x=some v):VR ρ v (a.eval x):=by
 cases x with
 |tmp t=>
  unfold evK at h;simp only at h;split at h
  ·rename_i p hp
   injection h with h;subst h;have:=List.find?_some hp;rw[←Nat.eq_of_beq_eq_true this];exact hv p (List.mem_of_find?_eq_some hp)
  ·cases h
 |const v'=>injection h with h;subst h;exact ofV_ok hx
 |func f=>injection h with h;subst h;simp only[Act.eval,VR];exact⟨#[],#[],rfl,by simp[bM],by simp[bM]⟩
 |global g=>cases h
theorem St.put{b:mX}{N:Nat}{kn:List (Nat×SV)}{h h':H}{ρ aW:bF}{a:Act}{w w':World}(s:St b N kn h ρ a w){dst:Option Nat}(hd:∀t,dst=some t→t<N){v:SV}{u:Value}(hv:VR aW v u)(hr:HR aW h' w')(f:FR ρ h w aW h' w'):St b N (xO dst v kn) h' aW (a.put dst u) w':=by
 refine⟨s.le,?_,?_,?_,s.hr0,hr,s.fr.trans s.hr0 s.hr f⟩
 ·cases dst<;>simp[Act.put,s.size]
 ·cases dst<;>simp[Act.put,s.defers]
 ·cases dst with
  |none=>exact fun p hp=>(s.vs p hp).mono f.le
  |some t=>
   have ht:=hd t rfl;intro p hp;rcases List.mem_cons.1 hp with e|hp
   ·subst e
    simp only[Act.put,Array.getD_eq_getD_getElem?];rw[Array.getElem?_setIfInBounds_self_of_lt (by rw[s.size];exact ht)];exact hv
   ·obtain⟨h1,h2⟩:=List.mem_filter.1 hp
    have fS:p.1≠t:=fun e=>by rw[e]at h2;simp at h2
    simp only[Act.put,Array.getD_eq_getD_getElem?];rw[Array.getElem?_setIfInBounds_ne (Ne.symm fS),←Array.getD_eq_getD_getElem?];exact(s.vs p h1).mono f.le
def rA(n:Nat)(P:Program)(I:Nat→Act→World→Prop)(k id:Nat)(d:Option Code)(Q:Exit→Act→World→Prop):Exit→Act→World→Prop:=fun e a w=>match e with
 |.normal=>∃j,j<k∧I j a w
 |.exit j=>if j=id then cB n P d Q a w else Q (.exit j) a w
 |e=>Q e a w
def inBk(n:Nat)(P:Program)(id:Nat)(d:Option Code)(Q:Exit→Act→World→Prop):Exit→Act→World→Prop:=fun e a w=>match e with
 |.normal=>cB n P d Q a w
 |.exit j=>if j=id then cB n P d Q a w else Q (.exit j) a w
 |e=>Q e a w
end
def hdX:Option Code→Code
 |some (.seq c _)=>c
 |some c=>c
 |none=>.skip
def isX:Option Code→Bool
 |some _=>true
 |none=>false
def zV(d:Option Code):Option Nat:=match hdX d with
 |.block id (.loop _)=>some id
 |_=>none
def lpB(d:Option Code):Option Code:=match hdX d with
 |.block _ (.loop c)=>some c
 |_=>none
def bkId(d:Option Code):Option Nat:=match hdX d with
 |.block id _=>some id
 |_=>none
def bkB(d:Option Code):Option Code:=match hdX d with
 |.block _ c=>some c
 |_=>none
def rgB(d:Option Code):Option Nat:=match hdX d with
 |.region _ ops false=>some ops.size
 |_=>none
def dX(d:Option Code):Array Oper:=match hdX d with
 |.region _ ops _=>ops
 |_=>#[]
def qV(d:Option Code):Option Code:=some (hdX d)
section
variable{P:Program}{n:Nat}{Q:Exit→Act→World→Prop}{a:Act}{w:World}
theorem go_hd{d:Option Code}(hd:isX d=true)(h:(hdX d).wpIn Fence.wide n P (iH n P (aA 1 d) Q) a w):cB n P d Q a w:=by
 cases d with
 |none=>cases hd
 |some c=>
  cases c with
  |seq c e=>exact wpIn_seq h
  |_=>exact wpIn_mono h fun e a w h=>by cases e<;>exact h
theorem tF{d:Option Code}(hd:isX d=true)(h:cB n P (qV d) (iH n P (aA 1 d) Q) a w):cB n P d Q a w:=go_hd hd h
theorem jU{d:Option Code}{m:Nat}(hd:rgB d=some m)(h:GO n P (dX d) 0 m (aA 1 d) Q a w):cB n P d Q a w:=by
 refine go_hd (by cases d<;>first|rfl|simp[rgB,hdX]at hd) ?_;unfold rgB at hd;unfold dX at h;split at hd
 ·rename_i id ops e
  rw[e]at h⊢;injection hd with hd;subst hd;refine wpIn_region ?_;rw[List.range_eq_range'];exact h
 ·cases hd
theorem vB{d:Option Code}{id:Nat}(hd:zV d=some id)(I:Nat→Act→World→Prop){k:Nat}(h0:I k a w)(round:∀k a w,I k a w→cB n P (lpB d) (rA n P I k id (aA 1 d) Q) a w):cB n P d Q a w:=by
 refine go_hd (by cases d<;>first|rfl|simp[zV,hdX]at hd) ?_;unfold zV at hd;unfold lpB at round;split at hd
 ·rename_i j c e
  rw[e]at round⊢;injection hd with hd;subst hd;refine wpIn_block (loop_k I h0 fun k a w hI=>wpIn_mono (round k a w hI) fun e a w h=>?_);cases e with
  |normal=>exact h
  |exit j=>
   simp only[Exit.then,Exit.inBlock,rA]at h⊢;split<;>rename_i hj
   ·subst hj;simpa[iH,Exit.then]using h
   ·simpa[hj,iH,Exit.then]using h
  |_=>exact h
 ·cases hd
theorem go_bk{d:Option Code}{id:Nat}(hd:bkId d=some id)(h:cB n P (bkB d) (inBk n P id (aA 1 d) Q) a w):cB n P d Q a w:=by
 refine go_hd (by cases d<;>first|rfl|simp[bkId,hdX]at hd) ?_;unfold bkId at hd;unfold bkB at h;split at hd
 ·rename_i j c e
  rw[e]at h⊢;injection hd with hd;subst hd;refine wpIn_block (wpIn_mono h fun e a w h=>?_);cases e with
  |normal=>exact h
  |exit j=>
   simp only[Exit.inBlock,inBk]at h⊢;split<;>rename_i hj
   ·subst hj;simpa[iH,Exit.then]using h
   ·simpa[hj,iH,Exit.then]using h
  |_=>exact h
 ·cases hd
theorem bO{S:cI}{h:H}{objs os:List SO}{R ns ts ls fs:List Nat}{nn M N K k:Nat}{bY:Bool}{d:Option Code}{zU kn:List (Nat×SV)}{ps:Way}{cs:kB}{x':SX}{vs:List SV}{b:mX}{ρ:bF}
 (X:wV P)(hS:cX P S)(T:∀x,follow ps ((bB P (runK P S M) bY #[] 0 0 k d (cJ N zU x) (aT objs R)).bind (dB ts ls fs))=some (cs,(N,x',[],vs,nn,os)))(hc:holds cs)
 (ft:Fit h (aT objs R) (nm ns))(eK:eU R objs=true)(mK:fO objs.length R nn ls=true)(dM:os.all SO.plain=true)(hK:nn-objs.length≤K)(h6:h.n+K≤1000000)
 (hd:dL d=true)(s:St b N kn h ρ a w)(hkn:∀p∈cU (nm ns) zU,p∈kn)
 (hq:∀aW a' w',St b N (ts.zip (SV.rens (nx h.n objs.length [] ns) vs)) (h.lay K (laid (nx h.n objs.length [] ns) ls os)) aW a' w'→goX n P (aA k d) Q x' a' w'):cB n P d Q a w:=
 iW (m:=0) (i:=0) (j:=0) X hS T hc ft eK mK dM hK h6 rfl hd rfl rfl (.inr rfl) s hkn fun aW a' w' h=>⟨fun _=>hq aW a' w' h,fun e e2=>by
  subst e;subst e2;have:=hq aW a' w' h;exact this⟩
def lJ(P:Program)(f:Nat)(args:List SV)(h:H)(R:SV→H→Prop):Prop:=(∃fn,P.funcs[f]?=some fn∧fn.body.isSome=true∧(fn.name== "runtime.NumGoroutine")=false)∧
 ∀ρ w us n,HR ρ h w→bM ρ args us→CallsIn Fence.wide n P f us.toArray w (fun e w'=>∃v h',R v h'∧AY ρ h w v h' e w')
theorem Spec.toE{f:Nat}{args:List SV}{h:H}{r:SV×H}(s:Spec P (.fn f args) h r):lJ P f args h (fun v h'=>v=r.1∧h'=r.2):=
 ⟨s.1,fun ρ w us n hr hv=>(s.2 ρ w us n hr hv).mono fun e w' h=>⟨r.1,r.2,⟨rfl,rfl⟩,h⟩⟩
theorem lJ.imp{f:Nat}{args:List SV}{h:H}{R R':SV→H→Prop}(s:lJ P f args h R)(hi:∀v h',R v h'→R' v h'):lJ P f args h R':=
 ⟨s.1,fun ρ w us n hr hv=>(s.2 ρ w us n hr hv).mono fun e w' ⟨v,h',r,p⟩=>⟨v,h',hi v h' r,p⟩⟩
theorem jV{ops:Array Oper}{i m f N:Nat}{d:Option Code}{args:List Operand}{dst:Option Nat}{kn:List (Nat×SV)}{vs:List SV}{R:SV→H→Prop}{h:H}{b:mX}{ρ:bF}
 (dS:ops.toList.all (fun o=>dR o.op)=true)(hc:(ops.toList[i]?).bind rY=some (f,args,dst))(eA:args.map (evK kn)=vs.map some)(lO:∀t,dst=some t→t<N)(spec:lJ P f vs h R)(s:St b N kn h ρ a w)
 (hq:∀v h' aW a' w',R v h'→St b N (xO dst v kn) h' aW a' w'→GO n P ops (i+1) m d Q a' w'):GO n P ops i (m+1) d Q a w:=by
 obtain⟨o,ho,lU⟩:=Option.bind_eq_some_iff.1 hc;have ho':ops[i]?=some o:=by simpa using ho
 have dE:dR o.op=true:=List.all_eq_true.1 dS o (List.mem_of_getElem? ho);unfold rY at lU;split at lU
 ·rename_i dst' f' kE ats ty pos aft
  injection lU with e;injection e with e1 e2;injection e2 with e2 e3;subst e1;subst e2;subst e3;unfold GO;simp only[List.range'_succ,wpOpsIn,ho'];rw[iA rfl,if_pos rfl];have hva:bM ρ vs (kE.toList.map a.eval):=by
   simp only[dR,Bool.and_eq_true,List.all_eq_true]at dE;have key:∀(l:List Operand) (vs:List SV),l.map (evK kn)=vs.map some→(∀x∈l,okX x=true)→bM ρ vs (l.map a.eval):=by
    intro l
    induction l with
    |nil=>intro vs h _;cases vs<;>simp[bM]at h⊢
    |cons x l ih=>
     intro vs h hx;cases vs with
     |nil=>simp at h
     |cons v vs=>
      simp only[List.map_cons,List.cons.injEq]at h;simp only[List.map_cons,bM];exact⟨evK_ok s.vs (hx x (by simp)) h.1,ih vs h.2 fun y hy=>hx y (by simp[hy])⟩
   refine key _ _ eA fun x hx=>dE.1 x ?_
   simp only[Op.operands,Call.operands];have qS:x∈kE:=by simpa using hx
   simpa using .inr qS
  obtain⟨⟨fn,k1,k2,k3⟩,k4⟩:=spec;have nO:=k4 ρ w _ (n-1) s.hr hva;refine⟨fun f _=>trivial,?_⟩;rw[Oper.semAt_eq _ _ _ fun cc hc=>by cases hc];have dZ:(execOp a.eval {dst:=dst',op:=.call {callee:=.value (.func f'),args:=kE,argTypes:=ats},type:=ty,pos:=pos,after:=aft,guard:=none}).run P w=.ok (.enter f' (#[]++kE.map a.eval++#[])) w:=by
   simp only[execOp,resolve,Deferred.ofValue,Sem.run_bind,Result.andThen_ok,invoke];exact jR k1 k2 k3
  rw[dZ,Oper.uponIn_enter];refine⟨fun h=>(by cases h),?_⟩;have yW:(kE.toList.map a.eval).toArray=#[]++kE.map a.eval++#[]:=by apply Array.ext';simp
  rw[yW]at nO;refine nO.mono fun e w' he'=>?_
  obtain⟨v,h',r,aW,u,rfl,p1,p2,p3⟩:=he';exact hq v h' aW _ w' r (s.put lO p1 p2 p3)
 ·cases lU
def resT:List ResultVar→Option (List Nat)
 |[]=>some []
 |.tmp t::r=>match resT r with
  |some l=>some (t::l)
  |none=>none
 |_::_=>none
def eqNs:List Nat→List Nat→Bool
 |[],[]=>true
 |x::xs,y::ys=>Nat.beq x y&&eqNs xs ys
 |_,_=>false
theorem eqNs_eq:∀{a b:List Nat},eqNs a b=true→a=b
 |[],[],_=>rfl
 |x::xs,y::ys,h=>by
  simp only[eqNs,Bool.and_eq_true]at h;rw[Nat.eq_of_beq_eq_true h.1,eqNs_eq h.2]
 |[],_::_,h=>by cases h
 |_::_,[],h=>by cases h
noncomputable def fnOk(f N:Nat)(res:List Nat):Bool:=match Tryz.prog.funcs[f]?with
 |some fn=>fn.body.isSome&&!(fn.name== "runtime.NumGoroutine")&&Nat.beq fn.ntmps N&&(match resT fn.results.toList with
  |some l=>eqNs l res
  |none=>false)
 |none=>false
theorem resT_map:∀{l:List ResultVar} {r:List Nat},resT l=some r→l=r.map .tmp
 |[],r,h=>by injection h with h;subst h;rfl
 |.tmp t::l,r,h=>by
  unfold resT at h;split at h
  ·rename_i q hq
   injection h with h;subst h;rw[resT_map hq];rfl
  ·cases h
 |.cell _ _::_,_,h=>by cases h
theorem St.ar0{b:mX}{N:Nat}{kn:List (Nat×SV)}{h:H}{ρ:bF}(s:St b N kn h ρ a w):∃x,AR ρ (cJ N kn x) a:=by
 have hx:∀k,∃s:SV,∀ρ,VR ρ s (a.tmps.getD k Go.undef):=fun k=>rQ _
 refine⟨fun k=>Classical.choose (hx k),⟨s.le,s.size,fun k=>?_,fun _ h=>(by cases h),s.defers⟩⟩;rw[sR s.le];by_cases hk:k<N
 ·rw[if_pos hk]
  rcases lk_or kn k (Classical.choose (hx k))with⟨p,h1,h2,h3⟩|h1
  ·rw[h3,←h2]
   exact s.vs p h1
  ·rw[h1];exact Classical.choose_spec (hx k) _
 ·rw[if_neg hk,Array.getD_eq_getD_getElem?,Array.getElem?_eq_none (by rw[s.size];omega)]
  simp only[Option.getD_none,iK,VR];exact⟨#[],rfl,by simp[bM]⟩
theorem res_of{h:H}{sa:SA}:∀(l:List Nat),(results P h sa (l.map .tmp)).go=some (l.map sa.get)
 |[]=>rfl
 |t::l=>by
  have:=res_of (h:=h) (sa:=sa) l;simp only[List.map_cons,results,Out.go_bind,this];rfl
theorem lk_zip{x:Nat→SV}:∀(l:List Nat) (vs:List SV),l.length=vs.length→l.Nodup→l.map (fun t=>lk (l.zip vs) t (x t))=vs
 |[],[],_,_=>rfl
 |t::l,v::vs,h,hd=>by
  simp only[List.map_cons,List.zip_cons_cons,lk,List.nodup_cons]at hd⊢;have e:Nat.beq t t=true:=by simp
  rw[e];congr 1;have:=lk_zip (x:=x) l vs (by simpa using h) hd.2;rw[←this];refine List.map_congr_left fun u hu=>?_
  have:Nat.beq t u=false:=by
   cases hb:Nat.beq t u
   ·rfl
   ·have:=Nat.eq_of_beq_eq_true hb;subst this;exact absurd hu hd.1
  rw[this,‹List.map _ l=vs›]
 |[],_::_,h,_=>by simp at h
 |_::_,[],h,_=>by simp at h
theorem lG{f N:Nat}{res:List Nat}{args:List SV}{h:H}{R:SV→H→Prop}(hf:fnOk f N res=true)(hN:args.length≤N∧N≤1000)(hres:res.Nodup∧∀t∈res,t<N)
 (hb:∀ρ a w n Q,St (ρ,h,w) N ((List.range args.length).zip args) h ρ a w→(∀e aW a' w' vs h',e=Exit.ret∨e=Exit.normal→vs.length=res.length→R (pack vs) h'→St (ρ,h,w) N (res.zip vs) h' aW a' w'→Q e a' w')→cB n Tryz.prog (some (bR f)) Q a w):lJ Tryz.prog f args h R:=by
 unfold fnOk at hf;split at hf
 ·rename_i fn hfn
  simp only[Bool.and_eq_true,Bool.not_eq_true']at hf;obtain⟨⟨⟨h1,h2⟩,h3⟩,h4⟩:=hf;have h3:=Nat.eq_of_beq_eq_true h3;have h5:fn.results.toList=res.map .tmp:=by
   split at h4
   ·rename_i l hl
    rw[←eqNs_eq h4];exact resT_map hl
   ·cases h4
  obtain⟨c,hc⟩:=Option.isSome_iff_exists.1 h1;have hbc:bR f=c:=by unfold bR;rw[hfn];simp only[hc]
  refine⟨⟨fn,hfn,by rw[hc];rfl,h2⟩,fun ρ w us m hr hv=>?_⟩;refine callsIn_of_wp_marks hfn hc trivial ?_;have ha:=uF hv (m:=N) hN.1 hN.2;rw[h3,←hbc];refine hb ρ _ w m _ ⟨hN.2,ha.size,rfl,fun p hp=>?_,hr,hr,.refl hr⟩ fun e aW a' w' vs h' he hl hR s=>?_
  ·obtain⟨i,hi⟩:=List.getElem?_of_mem hp
   obtain⟨i1,i2⟩:=List.getElem?_zip_eq_some.1 hi;have cK:=(List.getElem?_eq_some_iff.1 i2).1;have e1:p.1=i:=by
    rw[List.getElem?_range cK]at i1;injection i1 with i1;exact i1.symm
   have:=ha.at_ p.1;rw[e1]at this⊢;unfold SA.get at this;simp only at this;rw[iC _ _ 0 i (by omega),if_pos ⟨by omega,by omega⟩,Nat.sub_zero,i2]at this;exact this
  ·obtain⟨x,ax⟩:=s.ar0
   have hgo:(results Tryz.prog h' (cJ N (res.zip vs) x) fn.results.toList).go=some vs:=by
    rw[h5,res_of];congr 1;rw[←lk_zip (x:=x) res vs hl.symm hres.1];refine List.map_congr_left fun t ht=>?_
    rw[sR hN.2,if_pos (hres.2 t ht),lk_zip res vs hl.symm hres.1]
   obtain⟨u,r1,r2⟩:=tK ax s.hr hgo;have fin:LeavesInM Fence.wide m Tryz.prog fn a'.tmps (fun e w'=>∃v h',R v h'∧AY ρ h w v h' e w') a'.defers .returning w':=by
    rw[s.defers];exact⟨u,r1,_,h',hR,aW,u,rfl,r2,s.hr,s.fr⟩
   rcases he with rfl|rfl
   ·exact fin
   ·exact fin
 ·cases hf
end
structure Lv(n0:Nat)(h:H)(ns:List Nat)(objs:List SO):Prop where
 low:n0≤h.n
 rng:∀n∈ns,n0≤n∧n<h.n
 nd:ns.Nodup
 len:ns.length=objs.length
 at_:∀(i n:Nat) (o:SO),ns[i]?=some n→objs[i]?=some o→h.get n=o.ren (nm ns)
 R:∀m∈h.R,m<n0
 C:h.C=[]
theorem Lv.zero{h:H}(hR:∀m∈h.R,m<h.n)(hC:h.C=[]):Lv h.n h [] []:=⟨Nat.le_refl _,by simp,by simp,rfl,fun i n o h=>by simp at h,hR,hC⟩
theorem Lv.okK{n0:Nat}{h:H}{ns:List Nat}{objs:List SO}(L:Lv n0 h ns objs){n:Nat}(hn:n0≤n):okK h n=true:=by
 simp only[Sx.okK,okR,Bool.and_eq_true,List.all_eq_true,L.C];refine⟨fun x hx=>?_,fun x hx=>by cases hx⟩;have:=L.R x hx;cases hb:Nat.beq x n
 ·rfl
 ·have:=Nat.eq_of_beq_eq_true hb;omega
theorem Lv.fit{n0:Nat}{h:H}{ns:List Nat}{objs:List SO}(L:Lv n0 h ns objs)(hp:objs.all SO.plain=true)(hl:objs.length≤1000)(h6:h.n≤1000000):Fit h (aT objs []) (nm ns):=by
 refine aX ?_ (dF L.nd) hl h6;have:∀(ms:List Nat) (os:List SO) (i:Nat),ms.length=os.length→(∀(j n:Nat) (o:SO),ms[j]?=some n→os[j]?=some o→n0≤n∧n<h.n∧h.get n=o.ren (nm ns)∧o.plain=true)→pB h (nm ns) [] i ms os:=by
  intro ms
  induction ms with
  |nil=>intro os i h1 _;cases os<;>first|trivial|simp at h1
  |cons n ms ih=>
   intro os i h1 h2;cases os with
   |nil=>simp at h1
   |cons o os=>
    obtain⟨a1,a2,a3,a4⟩:=h2 0 n o rfl rfl;exact⟨a2,⟨L.okK a1,.of a3,a4⟩,ih os (i+1) (by simpa using h1) fun j n o h3 h4=>h2 (j+1) n o (by simpa using h3) (by simpa using h4)⟩
 refine this ns objs 0 L.len fun j n o h1 h2=>?_
 obtain⟨a1,a2⟩:=L.rng n (List.mem_of_getElem? h1);exact⟨a1,a2,L.at_ j n o h1 h2,List.all_eq_true.1 hp _ (List.mem_of_getElem? h2)⟩
def pos:List Nat→Nat→Nat
 |[],_=>0
 |x::r,l=>match Nat.beq x l with
  |true=>0
  |false=>pos r l+1
theorem pos_at:∀{ls:List Nat} {l:Nat} (q:Nat→Nat),l∈ls→nm (ls.map q) (pos ls l)=q l
 |[],l,_,h=>by simp at h
 |x::r,l,q,h=>by
  unfold pos;cases hb:Nat.beq x l
  ·have:l∈r:=by
    rcases List.mem_cons.1 h with e|h
    ·rw[e]at hb;simp at hb
    ·exact h
   have:=pos_at q this;unfold nm at this⊢;simp only[List.map_cons,List.getD_cons_succ];rw[List.getD_eq_getElem?_getD]at this⊢;cases hg:(r.map q)[pos r l]?with
   |none=>
    rw[hg]at this;have cK:pos r l<(r.map q).length:=by
     have:∀{ls:List Nat} {l:Nat},l∈ls→pos ls l<ls.length:=by
      intro ls
      induction ls with
      |nil=>intro l h;simp at h
      |cons x r ih=>
       intro l h;unfold pos;cases hb:Nat.beq x l
       ·have:l∈r:=by
         rcases List.mem_cons.1 h with e|h
         ·rw[e]at hb;simp at hb
         ·exact h
        have:=ih this;simp;omega
       ·simp
     rw[List.length_map];exact this ‹l∈r›
    rw[List.getElem?_eq_getElem cK]at hg;cases hg
   |some v=>rw[hg]at this;simpa using this
  ·have:=Nat.eq_of_beq_eq_true hb
   subst this;rfl
theorem Lv.next{n0:Nat}{h:H}{ns ls:List Nat}{objs os objs':List SO}{nn K m:Nat}(L:Lv n0 h ns objs)(hp:objs.all SO.plain=true)(hl:objs.length≤1000)(eK:eU [] objs=true)(mK:fO objs.length [] nn ls=true)(hK:nn-objs.length≤K)(h6:h.n+K≤1000000)(hlen:ls.length=os.length)
 (nN:(os.take m).all (SO.pls fun p=>(ls.take m).contains p)=true)(heq:(os.take m).map (SO.ren (pos (ls.take m)))=objs'):
 Lv n0 (h.lay K (laid (nx h.n objs.length [] ns) ls os)) ((ls.take m).map (nx h.n objs.length [] ns)) objs'∧∀k,k<n0→(h.lay K (laid (nx h.n objs.length [] ns) ls os)).get k=h.get k:=by
 have ft:=L.fit hp hl (by omega);obtain⟨g1,g2,g3⟩:=zG (j:=[]) ft eK mK hK (by simp) h6 hlen;have low:∀l∈ls,n0≤nx h.n objs.length [] ns l∧nx h.n objs.length [] ns l<h.n+K:=fun l hm=>by
  obtain⟨b1,b2,b3,b4⟩:=g3 l hm;rcases Nat.lt_or_ge l objs.length with hx|hx
  ·obtain⟨c1,c2⟩:=b3 hx
   rw[c1];refine⟨?_,by omega⟩;have:l<ns.length:=by rw[L.len];exact hx
   have e:nm ns l=ns[l]:=by unfold nm;rw[List.getD_eq_getElem?_getD,List.getElem?_eq_getElem this];rfl
   rw[e];exact(L.rng _ (List.getElem_mem this)).1
  ·obtain⟨c1,c2⟩:=b4 hx
   rw[c1];have:=L.low;omega
 have kO:(ls.map (nx h.n objs.length [] ns)).Nodup:=by
  have hls':=mK;simp only[fO,Bool.and_eq_true,decide_eq_true_eq]at hls';have l1:=hls'.1.1.1.1;have:∀(l:List Nat),l.Nodup→(∀a∈l,a∈ls)→(l.map (nx h.n objs.length [] ns)).Nodup:=by
   intro l
   induction l with
   |nil=>intro _ _;simp
   |cons a l ih=>
    intro hd hi;rw[List.map_cons,List.nodup_cons]at*;refine⟨fun hm=>?_,ih hd.2 fun b hb=>hi b (by simp[hb])⟩;obtain⟨b,hb,e⟩:=List.mem_map.1 hm;obtain⟨_,_,a3,a4⟩:=g3 a (hi a (by simp));obtain⟨_,_,b3,b4⟩:=g3 b (hi b (by simp[hb]));have hab:a=b:=by
     rcases Nat.lt_or_ge a objs.length with h1|h1<;>rcases Nat.lt_or_ge b objs.length with h2|h2
     ·rw[(a3 h1).1,(b3 h2).1]at e
      exact ft.inj _ _ (mJ (by omega) eK h1 (by simp)) (mJ (by omega) eK h2 (by simp)) e.symm
     ·rw[(a3 h1).1,(b4 h2).1]at e;have:=(a3 h1).2;omega
     ·rw[(a4 h1).1,(b3 h2).1]at e;have:=(b3 h2).2;omega
     ·rw[(a4 h1).1,(b4 h2).1]at e;have:=uH (Nat.add_left_cancel e);omega
    subst hab;exact hd.1 hb
  exact this ls l1 fun a ha=>ha
 refine⟨⟨?_,fun n hn=>?_,?_,?_,fun i n o h1 h2=>?_,(cQ _ h).symm▸L.R,(cY _ h).trans L.C⟩,fun k hk=>g2 k fun l hm e=>?_⟩
 ·show n0≤h.n+K
  have:=L.low;omega
 ·obtain⟨l,hm,rfl⟩:=List.mem_map.1 hn
  exact low l (List.mem_of_mem_take hm)
 ·rw[List.map_take];exact kO.sublist (List.take_sublist _ _)
 ·rw[←heq];simp[hlen]
 ·rw[←heq,List.getElem?_map]at h2
  rw[List.getElem?_map]at h1;cases hx:(ls.take m)[i]?with
  |none=>rw[hx]at h1;cases h1
  |some l=>
   cases hy:(os.take m)[i]?with
   |none=>rw[hy]at h2;cases h2
   |some o'=>
    rw[hx]at h1;rw[hy]at h2;simp only[Option.map_some,Option.some.injEq]at h1 h2;subst h1;subst h2;have hc:=List.all_eq_true.1 nN o' (List.mem_of_getElem? hy);have x1:ls[i]?=some l:=by
     rw[List.getElem?_take]at hx;split at hx
     ·exact hx
     ·cases hx
    have y1:os[i]?=some o':=by
     rw[List.getElem?_take]at hy;split at hy
     ·exact hy
     ·cases hy
    rw[g1 i l o' x1 y1,SO.ren_ren hc];refine SO.ren_congr (q:=fun p=>(ls.take m).contains p) (fun p hp=>?_) hc;exact(pos_at (nx h.n objs.length [] ns) (by simpa using hp)).symm
 ·have:=(low l hm).1;omega
theorem kn_next{q:Nat→Nat}{ls ts:List Nat}{vs:List SV}{kn:List (Nat×SV)}(nN:SV.plss (fun p=>ls.contains p) vs=true)(heq:ts.zip (SV.rens (pos ls) vs)=kn):cU (nm (ls.map q)) kn=ts.zip (SV.rens q vs):=by
 have e:SV.rens (nm (ls.map q)) (SV.rens (pos ls) vs)=SV.rens q vs:=by
  rw[SV.rens_rens];refine SV.rens_congr (q:=fun p=>ls.contains p) (fun p hp=>?_) vs nN;exact pos_at q (by simpa using hp)
 rw[←heq,←e,SV.rens_map (nm _)];unfold cU;rw[List.zip_map_right];rfl
mutual
theorem SV.ren_id:∀v:SV,v.ren (fun l=>l)=v
 |.val _=>rfl
 |.bool _=>rfl
 |.int _ _=>rfl
 |.ptr _ _ _=>rfl
 |.slice _ _ _ _=>rfl
 |.map _=>rfl
 |.func _ a b=>by simp only[SV.ren,SV.rens_id a,SV.rens_id b]
 |.iface _ v=>by simp only[SV.ren,SV.ren_id v]
 |.agg l=>by simp only[SV.ren,SV.rens_id l]
 |.tup l=>by simp only[SV.ren,SV.rens_id l]
 |.yield _=>rfl
 |.any=>rfl
theorem SV.rens_id:∀l:List SV,SV.rens (fun l=>l) l=l
 |[]=>rfl
 |x::xs=>by simp only[SV.rens,SV.ren_id x,SV.rens_id xs]
end
theorem mY{P:Program}{S:cI}{n n0:Nat}{h:H}{objs os objs':List SO}{ns ts ls fs:List Nat}{nn M N k m c:Nat}{d:Option Code}{zU kn':List (Nat×SV)}{vs:List SV}{b:mX}{ρ:bF}{a:Act}{w:World}{Q:Exit→Act→World→Prop}
 (X:wV P)(hS:cX P S)(T:∀x,follow [] ((bB P (runK P S M) false #[] 0 0 k d (cJ N zU x) (aT objs [])).bind (dB ts ls fs))=some ([],(N,.normal,[],vs,nn,os)))
 (hp:objs.all SO.plain=true)(hl:Nat.ble objs.length 1000=true)(eK:eU [] objs=true)(mK:fO objs.length [] nn ls=true)(hs:os.all SO.plain=true)(hlen:Nat.beq ls.length os.length=true)(nN:(os.take m).all (SO.pls fun p=>(ls.take m).contains p)=true)(heq:(os.take m).map (SO.ren (pos (ls.take m)))=objs')
 (hvl:SV.plss (fun p=>(ls.take m).contains p) vs=true)(hkn:ts.zip (SV.rens (pos (ls.take m)) vs)=kn')(hd:dL d=true)(hK:Nat.beq (nn-objs.length) c=true)(L:Lv n0 h ns objs)(h6:h.n+c≤1000000)(s:St b N (cU (nm ns) zU) h ρ a w)
 (hq:∀h' wX aW a' w',Lv n0 h' wX objs'→h'.n=h.n+c→(∀k,k<n0→h'.get k=h.get k)→h'.R=h.R→h'.C=h.C→St b N (cU (nm wX) kn') h' aW a' w'→cB n P (aA k d) Q a' w'):cB n P d Q a w:=by
 have hK:=Nat.eq_of_beq_eq_true hK;have hl:=Nat.le_of_ble_eq_true hl;refine bO (K:=c) (ns:=ns) X hS T trivial (L.fit hp hl (by omega)) eK mK hs (by omega) h6 hd s (fun _ h=>h) fun aW a' w' s'=>?_
 obtain⟨L',g'⟩:=L.next (m:=m) (K:=c) hp hl eK mK (by omega) h6 (Nat.eq_of_beq_eq_true hlen) nN heq;refine hq _ _ aW a' w' L' rfl g' (cQ _ _) (cY _ _) ?_;rw[kn_next hvl hkn];exact s'
theorem go_last{P:Program}{S:cI}{n n0:Nat}{h:H}{objs os:List SO}{ns ts ls fs:List Nat}{nn M N k c:Nat}{d:Option Code}{zU:List (Nat×SV)}{vs:List SV}{b:mX}{ρ:bF}{a:Act}{w:World}{Q:Exit→Act→World→Prop}
 (X:wV P)(hS:cX P S)(T:∀x,follow [] ((bB P (runK P S M) false #[] 0 0 k d (cJ N zU x) (aT objs [])).bind (dB ts ls fs))=some ([],(N,.ret,[],vs,nn,os)))
 (hp:objs.all SO.plain=true)(hl:Nat.ble objs.length 1000=true)(eK:eU [] objs=true)(mK:fO objs.length [] nn ls=true)(hs:os.all SO.plain=true)(hlen:Nat.beq ls.length os.length=true)(hv:SV.plss (fun _=>false) vs=true)(hd:dL d=true)(hK:Nat.beq (nn-objs.length) c=true)(L:Lv n0 h ns objs)(h6:h.n+c≤1000000)(s:St b N (cU (nm ns) zU) h ρ a w)
 (hq:∀h' aW a' w',h'.n=h.n+c→(∀k,k<n0→h'.get k=h.get k)→h'.R=h.R→h'.C=h.C→St b N (ts.zip vs) h' aW a' w'→Q .ret a' w'):cB n P d Q a w:=by
 have hK:=Nat.eq_of_beq_eq_true hK;have hl:=Nat.le_of_ble_eq_true hl;refine bO (K:=c) (ns:=ns) X hS T trivial (L.fit hp hl (by omega)) eK mK hs (by omega) h6 hd s (fun _ h=>h) fun aW a' w' s'=>?_
 obtain⟨_,g'⟩:=L.next (m:=0) (K:=c) (objs':=[]) hp hl eK mK (by omega) h6 (Nat.eq_of_beq_eq_true hlen) rfl rfl;refine hq _ aW a' w' rfl g' (cQ _ _) (cY _ _) ?_;have e:∀f g:Nat→Nat,SV.rens f vs=SV.rens g vs:=fun f g=>SV.rens_congr (q:=fun _=>false) (fun _ h=>by cases h) vs hv
 have e2:SV.rens (nx h.n objs.length [] ns) vs=vs:=by
  rw[e _ (fun l=>l)];exact SV.rens_id vs
 rw[e2]at s';exact s'
end Go.Proofs.YtnkcbfgfkadoaaaGreat.Sx
namespace Go.Proofs.YtnkcbfgfkadoaaaGreat.Sx
open Go
set_option maxRecDepth 100000
noncomputable def hO0:List SO:=[]
def hK0:List (Nat×SV):=[]
def hL0:List Nat:=[3,65,119,1,2,15,75,124,14,163,68,73,67,153,72,141,154,152,139]
def hS0:List SO:=[.cells 24 8 [.int .i64 2,.int .i64 2,.int .i64 4,.int .i64 4,.int .i64 2,.int .i64 3,.slice 1 0 4 (some 4),.slice 2 0 4 (some 4)],.cells 68 11 [.int .i64 2,.int .i64 2,.int .i64 4,.int .i64 4,.int .i64 2,.int .i64 3,.slice 1 0 4 (some 4),.slice 2 0 4 (some 4),.ptr 15 0 0,.slice 75 0 2 none,.slice 124 0 1 none],.cells 76 1 [.int .i64 1020],.cells 3 1 [.int .i64 (-1),.int .i64 0,.int .i64 1,.int .i64 0],.cells 3 1 [.int .i64 20,.int .i64 10,.int .i64 8,.int .i64 5],.cells 107 2 [.slice 14 0 46 (some 46),.slice 163 0 1 none],.cells 69 1 [.ptr 68 0 0,.ptr 73 0 0],.cells 42 10 [.int .i64 0,.int .i64 0,.int .i64 1,.int .i64 1,.int .i64 2,.int .i64 4,.int .i64 0,.int .i64 0,.bool false,.int .i64 0],.ints 3 1 [20,20,0,0,0,0,0,1,0,0,10,10,0,0,0,0,0,1,0,0,8,8,0,0,0,0,0,1,0,0,5,5,0,0,0,0,0,1,0,0,0,0,0,0,0,0],.any 122 5 1,.cells 74 5 [.slice 67 1 1 none,.int .i64 1,.int .i64 2,.int .i64 4,.iface 136 (.ptr 153 0 0)],.cells 74 5 [.slice 72 0 1 none,.int .i64 0,.int .i64 0,.int .i64 0,.val Value.nilIface],.cells 37 3 [.int .i64 1,.int .i64 2,.int .i64 4,.int .i64 5,.int .i64 0,.int .i64 0],.cells 155 19 [.int .i64 2,.int .i64 2,.int .i64 4,.int .i64 4,.int .i64 2,.int .i64 3,.slice 1 0 4 (some 4),.slice 2 0 4 (some 4),.int .i64 2,.int .i64 4,.int .i64 0,.ptr 141 0 0,aC,.slice 154 0 1 (some 1),.iface 151 (.ptr 141 0 0),.int .i64 0,.int .i64 0,.bool false,.int .i64 0],.cells 37 3 [.int .i64 4,.int .i64 1,.int .i64 10],.cells 171 17 [.int .i64 2,.int .i64 2,.int .i64 4,.int .i64 4,.int .i64 2,.int .i64 3,.slice 1 0 4 (some 4),.slice 2 0 4 (some 4),.slice 152 0 3 none,.bool true,.int .i64 0,.int .i64 0,.bool false,.int .i64 0,.int .i64 0,.bool false,.int .i64 0],.cells 159 2 [.func (.func 107) [] [.ptr 139 0 0],.func (.func 108) [.ptr 153 0 0] []],.cells 3 1 [.int .i64 0,.int .i64 1,.int .i64 2],.cells 136 1 [.ptr 153 0 0]]
def hV0:List SV:=[.ptr 3 0 0,.ptr 65 0 0,.ptr 119 0 0]
theorem head_0:∀x:Nat→SV,follow [] ((bB Tryz.prog (runK Tryz.prog S0 60) false #[] 0 0 6 (aA 0 (some (bR 4))) (cJ 90 hK0 x) (aT hO0 [])).bind (dB [1,3,4] hL0 [0,0,0,0,0,0,0,0,0,3,0,0,0,0,0,0,0,0,0]))=some ([],(90,.normal,[],hV0,164,hS0)):=by intro x;kernel_rfl
def hO1:List SO:=[.cells 24 8 [.int .i64 2,.int .i64 2,.int .i64 4,.int .i64 4,.int .i64 2,.int .i64 3,.slice 3 0 4 (some 4),.slice 4 0 4 (some 4)],.cells 68 11 [.int .i64 2,.int .i64 2,.int .i64 4,.int .i64 4,.int .i64 2,.int .i64 3,.slice 3 0 4 (some 4),.slice 4 0 4 (some 4),.ptr 5 0 0,.slice 6 0 2 none,.slice 7 0 1 none],.cells 76 1 [.int .i64 1020],.cells 3 1 [.int .i64 (-1),.int .i64 0,.int .i64 1,.int .i64 0],.cells 3 1 [.int .i64 20,.int .i64 10,.int .i64 8,.int .i64 5],.cells 107 2 [.slice 8 0 46 (some 46),.slice 9 0 1 none],.cells 69 1 [.ptr 10 0 0,.ptr 11 0 0],.cells 42 10 [.int .i64 0,.int .i64 0,.int .i64 1,.int .i64 1,.int .i64 2,.int .i64 4,.int .i64 0,.int .i64 0,.bool false,.int .i64 0],.ints 3 1 [20,20,0,0,0,0,0,1,0,0,10,10,0,0,0,0,0,1,0,0,8,8,0,0,0,0,0,1,0,0,5,5,0,0,0,0,0,1,0,0,0,0,0,0,0,0],.any 122 5 1,.cells 74 5 [.slice 12 1 1 none,.int .i64 1,.int .i64 2,.int .i64 4,.iface 136 (.ptr 13 0 0)],.cells 74 5 [.slice 14 0 1 none,.int .i64 0,.int .i64 0,.int .i64 0,.val Value.nilIface],.cells 37 3 [.int .i64 1,.int .i64 2,.int .i64 4,.int .i64 5,.int .i64 0,.int .i64 0],.cells 155 19 [.int .i64 2,.int .i64 2,.int .i64 4,.int .i64 4,.int .i64 2,.int .i64 3,.slice 3 0 4 (some 4),.slice 4 0 4 (some 4),.int .i64 2,.int .i64 4,.int .i64 0,.ptr 15 0 0,aC,.slice 16 0 1 (some 1),.iface 151 (.ptr 15 0 0),.int .i64 0,.int .i64 0,.bool false,.int .i64 0],.cells 37 3 [.int .i64 4,.int .i64 1,.int .i64 10],.cells 171 17 [.int .i64 2,.int .i64 2,.int .i64 4,.int .i64 4,.int .i64 2,.int .i64 3,.slice 3 0 4 (some 4),.slice 4 0 4 (some 4),.slice 17 0 3 none,.bool true,.int .i64 0,.int .i64 0,.bool false,.int .i64 0,.int .i64 0,.bool false,.int .i64 0],.cells 159 2 [.func (.func 107) [] [.ptr 18 0 0],.func (.func 108) [.ptr 13 0 0] []],.cells 3 1 [.int .i64 0,.int .i64 1,.int .i64 2],.cells 136 1 [.ptr 13 0 0]]
def hK1:List (Nat×SV):=[(1,.ptr 0 0 0),(3,.ptr 1 0 0),(4,.ptr 2 0 0)]
end Go.Proofs.YtnkcbfgfkadoaaaGreat.Sx
