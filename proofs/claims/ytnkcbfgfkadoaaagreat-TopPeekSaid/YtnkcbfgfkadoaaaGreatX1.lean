/- Part 1 of the proof of TopPeek. -/
import Derived.IntWalk
import Derived.Laws.Sem
import Derived.Test.YtnkcbfgfkadoaaaGreatX0
set_option linter.all false
namespace Go.Proofs.YtnkcbfgfkadoaaaGreat.Sx
open Go
theorem half_ne{n m:Nat}(h:n≠m)(hp:Nat.beq (n%2) 0=Nat.beq (m%2) 0):n/2≠m/2:=by
 rcases Nat.mod_two_eq_zero_or_one n with h1|h1<;>rcases Nat.mod_two_eq_zero_or_one m with h2|h2<;>rw[h1,h2]at hp
 ·omega
 ·exact absurd hp (by decide)
 ·exact absurd hp (by decide)
 ·omega
namespace Tr
variable{α:Type}
theorem get_nil(d n:Nat):(Tr.nil:Tr α).get d n=none:=by cases d<;>rfl
theorem get_set_ne:∀(d:Nat) (t:Tr α) (n m:Nat) (a:α),n≠m→(t.set d n a).get d m=t.get d m:=by
 intro d
 induction d with
 |zero=>intro t n m a _;rfl
 |succ d ih=>
  intro t n m a h;cases t with
  |nil=>
   cases n with
   |zero=>
    cases m with
    |zero=>exact absurd rfl h
    |succ m=>simp only[set,get];split<;>exact get_nil _ _
   |succ n=>
    cases hn:Nat.beq (n%2) 0<;>cases m with
    |zero=>simp[set,get,hn]
    |succ m=>
     simp only[set,get,hn];cases hm:Nat.beq (m%2) 0<;>simp only[]
     all_goals first
      |exact get_nil _ _
      |(rw[ih _ _ _ _ (half_ne (fun e=>h (by rw[e])) (by rw[hn,hm]))];exact get_nil _ _)
  |node v l r=>
   cases n with
   |zero=>
    cases m with
    |zero=>exact absurd rfl h
    |succ m=>simp only[set,get]
   |succ n=>
    cases hn:Nat.beq (n%2) 0<;>cases m with
    |zero=>simp[set,get,hn]
    |succ m=>
     simp only[set,get,hn];cases hm:Nat.beq (m%2) 0<;>simp only[]
     all_goals rw[ih _ _ _ _ (half_ne (fun e=>h (by rw[e])) (by rw[hn,hm]))]
theorem get_set:∀(d:Nat) (t:Tr α) (n:Nat) (a:α),n+1<2^d→(t.set d n a).get d n=some a:=by
 intro d
 induction d with
 |zero=>intro t n a h;simp at h
 |succ d ih=>
  intro t n a h;have hh:∀k,n=k+1→k/2+1<2^d:=by intro k hk;rw[Nat.pow_succ]at h;omega
  cases t with
  |nil=>
   cases n with
   |zero=>rfl
   |succ n=>cases hn:Nat.beq (n%2) 0<;>simp only[set,get,hn]<;>exact ih _ _ _ (hh n rfl)
  |node v l r=>
   cases n with
   |zero=>rfl
   |succ n=>cases hn:Nat.beq (n%2) 0<;>simp only[set,get,hn]<;>exact ih _ _ _ (hh n rfl)
end Tr
theorem H.get_put_ne{h:H}{l m:Nat}{o:SO}(hn:l≠m):(h.put l o).get m=h.get m:=by
 unfold H.get H.put;simp only;rw[Tr.get_set_ne _ _ _ _ _ hn]
theorem H.get_put{h:H}{l:Nat}{o:SO}(hl:l≤1000000):(h.put l o).get l=o:=by
 unfold H.get H.put;simp only;rw[Tr.get_set _ _ _ _ (by unfold D;omega)]
theorem H.get_new_ne{h:H}{m:Nat}{o:SO}(hn:h.n≠m):(h.new o).get m=h.get m:=by
 unfold H.get H.new;simp only;rw[Tr.get_set_ne _ _ _ _ _ hn]
theorem H.get_new{h:H}{o:SO}(hl:h.n≤1000000):(h.new o).get h.n=o:=by
 unfold H.get H.new;simp only;rw[Tr.get_set _ _ _ _ (by unfold D;omega)]
namespace Out
variable{α β:Type}
theorem go_bind(x:Out α)(f:α→Out β):(x.bind f).go=x.go.bind fun a=>(f a).go:=by
 induction x with
 |ret a=>rfl
 |fail=>rfl
 |chk b k ih=>cases b<;>simp[bind,go,ih]
 |ite b t e iht ihe=>cases b<;>simp[bind,go,iht,ihe]
 |ask p k ih=>simp only[bind,go];split<;>simp[ih]
theorem bind_go{x:Out α}{f:α→Out β}{b:β}(h:(x.bind f).go=some b):∃a,x.go=some a∧(f a).go=some b:=by
 rw[go_bind]at h;cases hx:x.go with
 |none=>rw[hx]at h;cases h
 |some a=>rw[hx]at h;exact⟨a,rfl,h⟩
theorem ret_go{a b:α}(h:(Out.ret a).go=some b):a=b:=by injection h
theorem chk_go{c:Bool}{k:Out α}{b:α}(h:(Out.chk c k).go=some b):c=true∧k.go=some b:=by
 cases c
 ·cases h
 ·exact⟨rfl,h⟩
theorem of_go{o:Option α}{b:α}(h:(Out.of o).go=some b):o=some b:=by
 cases o
 ·cases h
 ·injection h with h;rw[h]
theorem all_go{bs:List Bool}{k:Out α}{b:α}(h:(Out.all bs k).go=some b):(∀c∈bs,c=true)∧k.go=some b:=by
 induction bs with
 |nil=>exact⟨fun _ hc=>(nomatch hc),h⟩
 |cons c bs ih=>
  obtain⟨h1,h2⟩:=chk_go h;obtain⟨h3,h4⟩:=ih h2;exact⟨fun d hd=>(List.mem_cons.1 hd).elim (fun e=>e▸h1) (h3 d),h4⟩
end Out
def hd(k:IntKind)(n:Int):Prop:=lo k≤n∧n≤hi k
theorem tZ(k:IntKind)(n:Int):hd k (k.wrap n):=by
 cases k<;>simp only[hd,lo,hi,IntKind.wrap,IntKind.bits,IntKind.signed]<;>simp<;>(try split)<;>omega
theorem jB{k:IntKind}{n:Int}(h:hd k n):k.wrap n=n:=by
 cases k<;>simp only[hd,lo,hi]at h<;>simp only[IntKind.wrap,IntKind.bits,IntKind.signed]<;>simp<;>(try split)<;>omega
structure Pl where
 b:Nat
 o:Nat
 R:Nat
 sz:Nat
structure bF where
 f:Nat→Option Pl
 S:Nat→Prop
instance:CoeFun bF (fun _=>Nat→Option Pl):=⟨bF.f⟩
def xH:Nat:=9223372036854775807
mutual
def VR(ρ:bF):SV→Value→Prop
 |.val v,u=>u=v∧v.oneCell'=true
 |.bool b,u=>u=.bool b
 |.int k n,u=>u=.int k n∧hd k n
 |.ptr l i f,u=>∃p,ρ l=some p∧u=.pointer (some ⟨p.b,p.o+i*p.sz+f,none⟩)
 |.slice l i n c,u=>∃a cap,u=.slice (some a) n cap∧n≤cap∧cap≤xH∧(∀c0,c=some c0→cap=c0)∧
  ∃p,ρ l=some p∧(0<cap→a=⟨p.b,p.o+i*p.sz,none⟩∧(i+cap)*p.sz≤p.R)
 |.map l,u=>∃p,ρ l=some p∧u=.map (some p.b)
 |.func fn f c,u=>∃fs cs,u=.func fn fs cs∧bM ρ f fs.toList∧bM ρ c cs.toList
 |.iface t v,u=>∃x,u=.iface t x∧VR ρ v x
 |.agg l,u=>∃cs,u=.agg cs∧bM ρ l cs.toList
 |.tup l,u=>∃cs,u=.tuple cs∧bM ρ l cs.toList
 |.yield l,u=>∃p,ρ l=some p∧u=.func (.yield p.b) #[] #[]
 |.any,u=>u.oneCell'=true
def bM(ρ:bF):List SV→List Value→Prop
 |[],[]=>True
 |x::xs,y::ys=>VR ρ x y∧bM ρ xs ys
 |_,_=>False
end
def bF.le(ρ aW:bF):Prop:=∀l p,ρ l=some p→aW l=some p
theorem bF.le.refl(ρ:bF):ρ.le ρ:=fun _ _ h=>h
theorem bF.le.trans{a b c:bF}(h:a.le b)(h':b.le c):a.le c:=fun l p hp=>h' l p (h l p hp)
mutual
theorem VR.mono{ρ aW:bF}(hle:ρ.le aW):∀{s:SV} {u:Value},VR ρ s u→VR aW s u
 |.val _,_,h=>by simpa only[VR]using h
 |.bool _,_,h=>by simpa only[VR]using h
 |.int _ _,_,h=>by simpa only[VR]using h
 |.ptr _ _ _,_,h=>by simp only[VR]at h⊢;obtain⟨p,h1,h2⟩:=h;exact⟨p,hle _ _ h1,h2⟩
 |.slice _ _ _ _,_,h=>by
  simp only[VR]at h⊢;obtain⟨a,cap,h1,h2,h3,h4,h5⟩:=h;exact⟨a,cap,h1,h2,h3,h4,let⟨p,h6,h7⟩:=h5;⟨p,hle _ _ h6,h7⟩⟩
 |.map _,_,h=>by simp only[VR]at h⊢;obtain⟨p,h1,h2⟩:=h;exact⟨p,hle _ _ h1,h2⟩
 |.func _ _ _,_,h=>by
  simp only[VR]at h⊢;obtain⟨fs,cs,h1,h2,h3⟩:=h;exact⟨fs,cs,h1,bM.mono hle h2,bM.mono hle h3⟩
 |.iface _ _,_,h=>by simp only[VR]at h⊢;obtain⟨x,h1,h2⟩:=h;exact⟨x,h1,VR.mono hle h2⟩
 |.agg _,_,h=>by simp only[VR]at h⊢;obtain⟨x,h1,h2⟩:=h;exact⟨x,h1,bM.mono hle h2⟩
 |.tup _,_,h=>by simp only[VR]at h⊢;obtain⟨x,h1,h2⟩:=h;exact⟨x,h1,bM.mono hle h2⟩
 |.yield _,_,h=>by simp only[VR]at h⊢;obtain⟨p,h1,h2⟩:=h;exact⟨p,hle _ _ h1,h2⟩
 |.any,_,h=>by simpa only[VR]using h
theorem bM.mono{ρ aW:bF}(hle:ρ.le aW):∀{s:List SV} {u:List Value},bM ρ s u→bM aW s u
 |[],[],_=>by simp only[bM]
 |x::xs,y::ys,h=>by simp only[bM]at h⊢;exact⟨VR.mono hle h.1,bM.mono hle h.2⟩
 |[],_::_,h=>by simp only[bM]at h
 |_::_,[],h=>by simp only[bM]at h
end
theorem bM.length{ρ:bF}:∀{s:List SV} {u:List Value},bM ρ s u→s.length=u.length
 |[],[],_=>rfl
 |_::xs,_::ys,h=>by simp only[bM]at h;simp[bM.length h.2]
 |[],_::_,h=>by simp only[bM]at h
 |_::_,[],h=>by simp only[bM]at h
theorem bM.get{ρ:bF}:∀{s:List SV} {u:List Value},bM ρ s u→∀{i:Nat} {v:SV},s[i]?=some v→∃x,u[i]?=some x∧VR ρ v x
 |[],[],_,i,v,h=>by simp at h
 |x::xs,y::ys,h,i,v,hv=>by
  simp only[bM]at h;cases i with
  |zero=>simp at hv;subst hv;exact⟨y,rfl,h.1⟩
  |succ i=>simp at hv;obtain⟨z,h1,h2⟩:=bM.get h.2 hv;exact⟨z,by simpa using h1,h2⟩
 |[],_::_,h,_,_,_=>by simp only[bM]at h
 |_::_,[],h,_,_,_=>by simp only[bM]at h
theorem bM.of_get{ρ:bF}:∀{s:List SV} {u:List Value},s.length=u.length→(∀(i:Nat) (v:SV),s[i]?=some v→∃x,u[i]?=some x∧VR ρ v x)→bM ρ s u
 |[],[],_,_=>by simp only[bM]
 |x::xs,y::ys,h,hv=>by
  simp only[bM];obtain⟨z,h1,h2⟩:=hv 0 x rfl;simp at h1;subst h1;exact⟨h2,bM.of_get (by simpa using h) fun i v hi=>by simpa using hv (i+1) v (by simpa using hi)⟩
 |[],_::_,h,_=>by simp at h
 |_::_,[],h,_=>by simp at h
theorem bM.append{ρ:bF}:∀{s s':List SV} {u u':List Value},bM ρ s u→bM ρ s' u'→bM ρ (s++s') (u++u')
 |[],_,[],_,_,h=>h
 |_::_,_,_::_,_,h,h'=>by simp only[bM,List.cons_append]at h⊢;exact⟨h.1,bM.append h.2 h'⟩
 |[],_,_::_,_,h,_=>by simp only[bM]at h
 |_::_,_,[],_,h,_=>by simp only[bM]at h
def yN(fr:Nat×Nat)(a n:Nat):Prop:=∀i,a≤i→i<a+n→¬(fr.1≤i∧i<fr.2)
def TR(ρ:bF)(t:Tr SV)(n:Nat)(a:Array Value):Prop:=
 a.size=n∧n≤1000∧∀i,VR ρ (match t.get D i with|some v=>v|none=>iK) (a.getD i Go.undef)
def CB(w:World)(b:Nat)(cs:Array Value)(fr:Nat×Nat):Prop:=∃t,w.heap[b]?=some (.cells cs t fr)
def OR(ρ:bF)(p:Pl)(w:World):SO→Prop
 |.dead=>True
 |.cells t s l=>p.sz=s∧l.length≤p.R∧∃cs fr,CB w p.b cs fr∧yN fr p.o p.R∧p.o+p.R≤cs.size∧
  ∀i v,l[i]?=some v→∃u,cs[p.o+i]?=some u∧VR ρ v u
 |.ints t s l=>p.sz=s∧l.length≤p.R∧∃cs fr,CB w p.b cs fr∧yN fr p.o p.R∧p.o+p.R≤cs.size∧
  ∀i n,l[i]?=some n→cs[p.o+i]?=some (.int .i64 n)∧hd .i64 n
 |.spot t s k l=>p.sz=s∧l.length≤s∧(k+1)*s≤p.R∧∃cs fr,CB w p.b cs fr∧yN fr p.o p.R∧p.o+p.R≤cs.size∧
  ∀i v,l[i]?=some v→∃u,cs[p.o+k*s+i]?=some u∧VR ρ v u
 |.map es=>p.R≠0∧∃ms clock,w.heap[p.b]?=some (.map ms clock)∧bM ρ (es.map (·.2)) (ms.toList.map (·.val))∧es.map (fun e=>Value.int .i64 e.1)=ms.toList.map (·.key)
 |.loop st oW tmps n ps wL body=>p.R≠0∧∃L,w.heap[p.b]?=some (.loop L)∧L.state=st∧L.pending=oW∧L.params.toList=ps∧L.assign=wL∧L.body=body∧(eF wL=true∧eF body=true)∧TR ρ tmps n L.tmps
 |.defd=>p.R≠0∧w.heap[p.b]?=some (.deferred (some []))
 |.any t s n=>p.sz=s∧n*s≤p.R∧∃cs fr,CB w p.b cs fr∧yN fr p.o p.R∧p.o+p.R≤cs.size∧
  ∀i,i<n*s→∃u,cs[p.o+i]?=some u∧u.oneCell'=true
def live(h:H)(l:Nat):Prop:=h.get l≠.dead
def AmbOK(ρ:bF)(h:H)(w:World):Prop:=(∀w':World,(∀b,ρ.S b→w'.heap[b]?=w.heap[b]?)→h.A ρ.S w')∧∀b,ρ.S b→b<w.heap.size∧∀l p,live h l→ρ l=some p→p.b=b→p.R=0
structure HR(ρ:bF)(h:H)(w:World):Prop where
 n:h.n≤1000000
 at_:∀l,live h l→l<h.n∧∃p,ρ l=some p∧p.b<w.heap.size∧OR ρ p w (h.get l)
 apart:∀l l' p p',l≠l'→live h l→live h l'→ρ l=some p→ρ l'=some p'→p.b≠p'.b∨p.R=0∨p'.R=0∨(l∈h.R∧l'∈h.R)
 fresh:∀l,h.n≤l→ρ l=none
 amb:AmbOK ρ h w
def kT:Obj→Prop
 |.cells .. =>False
 |_=>True
def prot(h:H)(l k:Nat):Prop:=l∈h.R∨∃x∈h.C,x.1=l∧x.2.1≤k∧k<x.2.1+x.2.2
def AT(ρ:bF)(h:H)(b i:Nat):Prop:=(∃l p,live h l∧ρ l=some p∧p.b=b∧p.o≤i∧i<p.o+p.R∧¬prot h l (i-p.o))∨ρ.S b
def oln:SO→Option Nat
 |.cells _ _ c=>some c.length
 |_=>none
def qW(o o':SO)(a k:Nat):Prop:=xU o'=xU o∧oln o'=oln o∧∀i f,a≤ix (xU o) i f→ix (xU o) i f<a+k→rdO o' i f=rdO o i f
theorem qW.refl(o:SO)(a k:Nat):qW o o a k:=⟨rfl,rfl,fun _ _ _ _=>rfl⟩
theorem qW.trans{o o' o2:SO}{a k:Nat}(h:qW o o' a k)(h':qW o' o2 a k):qW o o2 a k:=
 ⟨h'.1.trans h.1,h'.2.1.trans h.2.1,fun i f h1 h2=>(h'.2.2 i f (by rw[h.1];exact h1) (by rw[h.1];exact h2)).trans (h.2.2 i f h1 h2)⟩
def wM(ρ:bF)(h:H)(b:Nat):Prop:=(∃l p,live h l∧ρ l=some p∧p.b=b∧p.R≠0∧l∉h.R)∨ρ.S b
structure yO(w w':World):Prop where
 os:w'.os=w.os
 tape:w'.tape=w.tape
 output:w'.output=w.output
theorem yO.refl(w:World):yO w w:=⟨rfl,rfl,rfl⟩
theorem yO.trans{a b c:World}(h:yO a b)(g:yO b c):yO a c:=⟨g.os.trans h.os,g.tape.trans h.tape,g.output.trans h.output⟩
structure FR(ρ:bF)(h:H)(w:World)(aW:bF)(h':H)(w':World):Prop where
 le:ρ.le aW
 keep:∀l,l<h.n→aW l=ρ l
 n:h.n≤h'.n
 size:w.heap.size≤w'.heap.size
 cells:∀b cs t fr,w.heap[b]?=some (.cells cs t fr)→∃gF,w'.heap[b]?=some (.cells gF t fr)∧gF.size=cs.size∧∀i,¬AT ρ h b i→gF[i]?=cs[i]?
 others:∀b o,w.heap[b]?=some o→kT o→¬wM ρ h b→w'.heap[b]?=some o
 old:∀l,l<h.n→live h' l→live h l
 new:∀l p,h.n≤l→live h' l→aW l=some p→w.heap.size≤p.b∨∀i,p.o≤i→i<p.o+p.R→AT ρ h p.b i
 amb:∀b,aW.S b→w.heap.size≤b∨ρ.S b
 ro:h'.R=h.R
 ct:h'.C=h.C
 eqc:∀x∈h.C,x.1<h.n→qW (h.get x.1) (h'.get x.1) x.2.1 x.2.2
 env:yO w w'
theorem dP{w:World}{b:Nat}{o:Obj}(h:w.heap[b]?=some o):b<w.heap.size:=by
 rcases Nat.lt_or_ge b w.heap.size with h'|h'
 ·exact h'
 ·rw[Array.getElem?_eq_none h']at h;cases h
theorem FR.refl{ρ:bF}{h:H}{w:World}(hr:HR ρ h w):FR ρ h w ρ h w where
 le:=.refl _
 keep:=fun _ _=>rfl
 n:=Nat.le_refl _
 size:=Nat.le_refl _
 cells:=fun _ cs _ _ hb=>⟨cs,hb,rfl,fun _ _=>rfl⟩
 others:=fun _ _ hb _ _=>hb
 old:=fun _ _ h=>h
 new:=fun l _ hl hv _=>absurd (hr.at_ l hv).1 (by omega)
 amb:=fun _ h=>.inr h
 ro:=rfl
 ct:=rfl
 eqc:=fun _ _ _=>.refl _ _ _
 env:=.refl _
section
variable{dQ iJ gV:bF}{h1 h2 h3:H}{w1 w2 w3:World}
theorem FR.owns_back(r1:HR dQ h1 w1)(f:FR dQ h1 w1 iJ h2 w2){b i:Nat}(hb:b<w1.heap.size)(h:AT iJ h2 b i):AT dQ h1 b i:=by
 rcases h with⟨l,p,hv,hp,rfl,ha,hc,hpr⟩|h
 ·rcases Nat.lt_or_ge l h1.n with hl|hl
  ·have hv1:=f.old l hl hv
   obtain⟨_,q,hq,_⟩:=r1.at_ l hv1;have:=f.le _ _ hq;rw[hp]at this;injection this with this;subst this;exact .inl ⟨l,p,hv1,hq,rfl,ha,hc,fun h=>hpr (by unfold prot at h⊢;rw[f.ro,f.ct];exact h)⟩
  ·rcases f.new l p hl hv hp with h|h
   ·omega
   ·exact h i ha hc
 ·rcases f.amb b h with h|h
  ·omega
  ·exact .inr h
theorem FR.ownsB_back(r1:HR dQ h1 w1)(f:FR dQ h1 w1 iJ h2 w2){b:Nat}(hb:b<w1.heap.size)(h:wM iJ h2 b):wM dQ h1 b:=by
 rcases h with⟨l,p,hv,hp,rfl,hR⟩|h
 ·rcases Nat.lt_or_ge l h1.n with hl|hl
  ·have hv1:=f.old l hl hv
   obtain⟨_,q,hq,_⟩:=r1.at_ l hv1;have:=f.le _ _ hq;rw[hp]at this;injection this with this;subst this;exact .inl ⟨l,p,hv1,hq,rfl,hR.1,by rw[←f.ro];exact hR.2⟩
  ·rcases f.new l p hl hv hp with h|h
   ·omega
   ·rcases h p.o (Nat.le_refl _) (by omega)with⟨l',p',a1,a2,a3,a4,a5,a6⟩|h
    ·exact .inl ⟨l',p',a1,a2,a3,by omega,fun h=>a6 (.inl h)⟩
    ·exact .inr h
 ·rcases f.amb b h with h|h
  ·omega
  ·exact .inr h
theorem HR.amb_step(r1:HR dQ h1 w1)(hA:h2.A=h1.A)(hS:iJ.S=dQ.S)(hs:w1.heap.size≤w2.heap.size)(hb:∀b,dQ.S b→w2.heap[b]?=w1.heap[b]?)(hp:∀b l p,dQ.S b→live h2 l→iJ l=some p→p.b=b→p.R=0):AmbOK iJ h2 w2:=by
 obtain⟨a1,a2⟩:=r1.amb;unfold AmbOK;rw[hA,hS];exact⟨fun w' hw=>a1 w' fun b h=>by rw[hw b h,hb b h],fun b h=>⟨Nat.lt_of_lt_of_le (a2 b h).1 hs,fun l p h1 h2 h3=>hp b l p h h1 h2 h3⟩⟩
theorem FR.trans(r1:HR dQ h1 w1)(r2:HR iJ h2 w2)(f:FR dQ h1 w1 iJ h2 w2)(g:FR iJ h2 w2 gV h3 w3):FR dQ h1 w1 gV h3 w3 where
 le:=f.le.trans g.le
 keep:=fun l hl=>by rw[g.keep l (Nat.lt_of_lt_of_le hl f.n),f.keep l hl]
 n:=Nat.le_trans f.n g.n
 size:=Nat.le_trans f.size g.size
 cells:=by
  intro b cs t fr hb;obtain⟨xX,e2,s2,k2⟩:=f.cells b cs t fr hb;obtain⟨cs3,e3,s3,k3⟩:=g.cells b xX t fr e2;refine⟨cs3,e3,by omega,fun i hi=>?_⟩;rw[k3 i (fun h=>hi (f.owns_back r1 (dP hb) h)),k2 i hi]
 others:=fun b o hb hn ho=>g.others b o (f.others b o hb hn ho) hn fun h=>ho (f.ownsB_back r1 (dP hb) h)
 old:=fun l hl hv=>f.old l hl (g.old l (Nat.lt_of_lt_of_le hl f.n) hv)
 new:=by
  intro l p hl hv hp;rcases Nat.lt_or_ge p.b w1.heap.size with hb|hb
  ·refine .inr fun i h3 h4=>?_
   rcases Nat.lt_or_ge l h2.n with hl2|hl2
   ·have hv2:=g.old l hl2 hv
    obtain⟨_,q,hq,_⟩:=r2.at_ l hv2;have:=g.le _ _ hq;rw[hp]at this;injection this with this;subst this;exact(f.new l p hl hv2 hq).resolve_left (by omega) i h3 h4
   ·rcases g.new l p hl2 hv hp with h|h
    ·have:=f.size;omega
    ·exact f.owns_back r1 hb (h i h3 h4)
  ·exact .inl hb
 amb:=fun b hb=>by
  rcases g.amb b hb with h|h
  ·exact .inl (Nat.le_trans f.size h)
  ·exact f.amb b h
 ro:=g.ro.trans f.ro
 ct:=g.ct.trans f.ct
 eqc:=fun x hx hl=>(f.eqc x hx hl).trans (g.eqc x (by rw[f.ct];exact hx) (Nat.lt_of_lt_of_le hl f.n))
 env:=f.env.trans g.env
end
theorem OR.frame{ρ aW:bF}{p:Pl}{w w':World}{o:SO}(hle:ρ.le aW)(h:OR ρ p w o)
 (hc:∀cs t fr,w.heap[p.b]?=some (.cells cs t fr)→∃gF,w'.heap[p.b]?=some (.cells gF t fr)∧gF.size=cs.size∧∀i,p.o≤i→i<p.o+p.R→gF[i]?=cs[i]?)
 (ho:∀x,w.heap[p.b]?=some x→kT x→p.R≠0→w'.heap[p.b]?=some x):OR aW p w' o:=by
 cases o with
 |dead=>trivial
 |cells t s l=>
  obtain⟨h1,h2,cs,fr,⟨tt,h3⟩,h4,h5,h6⟩:=h;obtain⟨gF,e1,e2,e3⟩:=hc cs tt fr h3;refine⟨h1,h2,gF,fr,⟨tt,e1⟩,h4,by omega,fun i v hv=>?_⟩;obtain⟨u,hu,hr⟩:=h6 i v hv;have hi:i<l.length:=(List.getElem?_eq_some_iff.1 hv).1;exact⟨u,by rw[e3 _ (by omega) (by omega)];exact hu,hr.mono hle⟩
 |ints t s l=>
  obtain⟨h1,h2,cs,fr,⟨tt,h3⟩,h4,h5,h6⟩:=h;obtain⟨gF,e1,e2,e3⟩:=hc cs tt fr h3;refine⟨h1,h2,gF,fr,⟨tt,e1⟩,h4,by omega,fun i v hv=>?_⟩;have hi:i<l.length:=(List.getElem?_eq_some_iff.1 hv).1;rw[e3 _ (by omega) (by omega)];exact h6 i v hv
 |spot t s k l=>
  obtain⟨h1,h2,h2',cs,fr,⟨tt,h3⟩,h4,h5,h6⟩:=h;obtain⟨gF,e1,e2,e3⟩:=hc cs tt fr h3;refine⟨h1,h2,h2',gF,fr,⟨tt,e1⟩,h4,by omega,fun i v hv=>?_⟩;obtain⟨u,hu,hr⟩:=h6 i v hv;have hi:i<l.length:=(List.getElem?_eq_some_iff.1 hv).1;have:(k+1)*s=k*s+s:=Nat.succ_mul k s;exact⟨u,by rw[e3 _ (by omega) (by omega)];exact hu,hr.mono hle⟩
 |map es=>
  obtain⟨h1,ms,c,h2,h3,h4⟩:=h;exact⟨h1,ms,c,ho _ h2 trivial h1,h3.mono hle,h4⟩
 |loop st oW tmps n ps wL body=>
  obtain⟨h1,L,h2,a1,a2,a3,a4,a5,a6,b1,b2,b3⟩:=h;exact⟨h1,L,ho _ h2 trivial h1,a1,a2,a3,a4,a5,a6,b1,b2,fun i=>(b3 i).mono hle⟩
 |defd=>exact⟨h.1,ho _ h.2 trivial h.1⟩
 |any t s n=>
  obtain⟨h1,h2,cs,fr,⟨tt,h3⟩,h4,h5,h6⟩:=h;obtain⟨gF,e1,e2,e3⟩:=hc cs tt fr h3;exact⟨h1,h2,gF,fr,⟨tt,e1⟩,h4,by omega,fun i hi=>by
   obtain⟨u,hu,ho⟩:=h6 i hi;exact⟨u,by rw[e3 _ (by omega) (by omega)];exact hu,ho⟩⟩
theorem HR.same{ρ:bF}{h:H}{w w':World}(hr:HR ρ h w)(he:w'.heap=w.heap):HR ρ h w' where
 n:=hr.n
 at_:=fun l hl=>by
  obtain⟨h1,p,h2,h3,h4⟩:=hr.at_ l hl;exact⟨h1,p,h2,by rw[he];exact h3,h4.frame (.refl _) (fun cs t fr h=>⟨cs,by rw[he];exact h,rfl,fun _ _ _=>rfl⟩) (fun x h _ _=>by rw[he];exact h)⟩
 apart:=hr.apart
 fresh:=hr.fresh
 amb:=hr.amb_step rfl rfl (by rw[he];exact Nat.le_refl _) (fun b _=>by rw[he]) (fun b l p hb hl hp he=>(hr.amb.2 b hb).2 l p hl hp he)
theorem FR.same{ρ:bF}{h:H}{w w':World}(hr:HR ρ h w)(he:w'.heap=w.heap)(hv:yO w w':=by exact⟨rfl,rfl,rfl⟩):FR ρ h w ρ h w' where
 le:=.refl _
 keep:=fun _ _=>rfl
 n:=Nat.le_refl _
 size:=by rw[he];exact Nat.le_refl _
 cells:=fun _ cs _ _ hb=>⟨cs,by rw[he];exact hb,rfl,fun _ _=>rfl⟩
 others:=fun _ _ hb _ _=>by rw[he];exact hb
 old:=fun _ _ h=>h
 new:=fun l _ hl hv _=>absurd (hr.at_ l hv).1 (by omega)
 amb:=fun _ h=>.inr h
 ro:=rfl
 ct:=rfl
 eqc:=fun _ _ _=>.refl _ _ _
 env:=hv
theorem jP{w:World}{a:Addr}{v:Value}{b:Nat}(h:b≠a.block):(w.setCell a v).heap[b]?=w.heap[b]?:=by
 simp only[World.setCell];rw[Array.getElem?_modify];simp[Ne.symm h]
theorem nJ{w:World}{b o:Nat}{v:Value}{cs:Array Value}{t:TypeId}{fr:Nat×Nat}(h:w.heap[b]?=some (.cells cs t fr)):
 (w.setCell ⟨b,o,none⟩ v).heap[b]?=some (.cells (cs.setIfInBounds o v) t fr):=by
 simp only[World.setCell];rw[Array.getElem?_modify];simp[h]
theorem size_setCell{w:World}{a:Addr}{v:Value}:(w.setCell a v).heap.size=w.heap.size:=by simp[World.setCell]
section
variable{ρ:bF}{h:H}{w:World}
theorem HR.put_live{l m:Nat}{o:SO}(hl:l≤1000000)(hv:live h l)(ho:o≠.dead):live (h.put l o) m↔live h m:=by
 unfold live;by_cases e:l=m
 ·subst e;rw[H.get_put hl];exact⟨fun _=>hv,fun _=>ho⟩
 ·rw[H.get_put_ne e]
theorem HR.write{l k:Nat}{p:Pl}{u:Value}{o:SO}(hr:HR ρ h w)(hv:live h l)(hp:ρ l=some p)(hk:k<p.R)(jN:¬prot h l k)(hsm:∀x∈h.C,x.1=l→qW (h.get l) o x.2.1 x.2.2)
 (hc:∃cs t fr,w.heap[p.b]?=some (.cells cs t fr))(hd:o≠.dead)(ho:OR ρ p (w.setCell ⟨p.b,p.o+k,none⟩ u) o):
 HR ρ (h.put l o) (w.setCell ⟨p.b,p.o+k,none⟩ u)∧FR ρ h w ρ (h.put l o) (w.setCell ⟨p.b,p.o+k,none⟩ u):=by
 have hl:=(hr.at_ l hv).1;have yP:l≤1000000:=by have:=hr.n;omega
 obtain⟨cs,t,fr,hb⟩:=hc;have key:∀(b:Nat) (gF:Array Value) (t':TypeId) (fr':Nat×Nat),w.heap[b]?=some (.cells gF t' fr')→∃xX,(w.setCell ⟨p.b,p.o+k,none⟩ u).heap[b]?=some (.cells xX t' fr')∧xX.size=gF.size∧∀i,(b=p.b→i≠p.o+k)→xX[i]?=gF[i]?:=by
  intro b gF t' fr' pT;by_cases e:b=p.b
  ·subst e
   exact⟨_,nJ pT,by simp,fun i hi=>by rw[Array.getElem?_setIfInBounds_ne (Ne.symm (hi rfl))]⟩
  ·exact⟨gF,by rw[jP e];exact pT,rfl,fun _ _=>rfl⟩
 have key2:∀(b:Nat) (x:Obj),w.heap[b]?=some x→kT x→(w.setCell ⟨p.b,p.o+k,none⟩ u).heap[b]?=some x:=by
  intro b x hx hn;by_cases e:b=p.b
  ·subst e;rw[hb]at hx;injection hx with hx;subst hx;exact hn.elim
  ·rw[jP e];exact hx
 refine⟨⟨hr.n,fun m hm=>?_,fun m m' q q' fS hm pZ=>hr.apart m m' q q' fS ((HR.put_live yP hv hd).1 hm) ((HR.put_live yP hv hd).1 pZ),hr.fresh,hr.amb_step rfl rfl (by rw[size_setCell];exact Nat.le_refl _) (fun b hs=>jP fun e=>absurd ((hr.amb.2 b hs).2 l p hv hp e.symm) (by omega)) fun b m q hs hm hq e=>(hr.amb.2 b hs).2 m q ((HR.put_live yP hv hd).1 hm) hq e⟩,⟨.refl _,fun _ _=>rfl,Nat.le_refl _,by rw[size_setCell];exact Nat.le_refl _,?_,fun b x hx hn _=>key2 b x hx hn,fun m _ hm=>(HR.put_live yP hv hd).1 hm,fun m q hm hvm _=>absurd (hr.at_ m ((HR.put_live yP hv hd).1 hvm)).1 (by omega),fun _ h=>.inr h,rfl,rfl,fun x hx _=>?_,⟨rfl,rfl,rfl⟩⟩⟩
 ·have yQ:=(HR.put_live yP hv hd).1 hm
  obtain⟨h1,q,h2,h3,h4⟩:=hr.at_ m yQ;refine⟨h1,q,h2,by rw[size_setCell];exact h3,?_⟩;by_cases e:l=m
  ·subst e
   rw[hp]at h2;injection h2 with h2;subst h2;rw[H.get_put yP];exact ho
  ·rw[H.get_put_ne e]
   refine h4.frame (.refl _) (fun gF t' fr' pT=>?_) (fun x hx hn _=>key2 _ x hx hn);obtain⟨xX,e1,e2,e3⟩:=key _ _ _ _ pT;refine⟨xX,e1,e2,fun i hi1 hi2=>e3 i fun hbe=>?_⟩;rcases hr.apart l m p q e hv yQ hp h2 with h5|h5|h5|h5
   ·omega
   ·omega
   ·omega
   ·exact absurd (.inl h5.1) jN
 ·intro b gF t' fr' pT
  obtain⟨xX,e1,e2,e3⟩:=key _ _ _ _ pT;refine⟨xX,e1,e2,fun i hi=>e3 i fun hbe he=>hi (.inl ⟨l,p,hv,hp,hbe.symm,by omega,by omega,by rw[he];simpa using jN⟩)⟩
 ·by_cases e:x.1=l
  ·rw[e,H.get_put yP];exact hsm x hx e
  ·rw[H.get_put_ne (Ne.symm e)];exact .refl _ _ _
def bF.upd(ρ:bF)(l:Nat)(p:Pl):bF:={ρ with f:=fun m=>if m=l then some p else ρ m}
theorem bF.upd_same(ρ:bF)(l:Nat)(p:Pl):(ρ.upd l p) l=some p:=by simp[bF.upd]
theorem bF.upd_ne(ρ:bF){l m:Nat}(p:Pl)(hn:m≠l):(ρ.upd l p) m=ρ m:=by simp[bF.upd,hn]
theorem bF.le_upd{ρ:bF}{l:Nat}(p:Pl)(hn:ρ l=none):ρ.le (ρ.upd l p):=fun m q hq=>by
 by_cases e:m=l
 ·subst e;rw[hn]at hq;cases hq
 ·rw[bF.upd_ne ρ p e];exact hq
theorem HR.new_live{m:Nat}{o:SO}(hn:h.n≤1000000)(hd:o≠.dead):live (h.new o) m↔(m=h.n∨live h m):=by
 unfold live;by_cases e:h.n=m
 ·subst e;rw[H.get_new hn];exact⟨fun _=>.inl rfl,fun _=>hd⟩
 ·rw[H.get_new_ne e];exact⟨.inr,fun h=>h.resolve_left (Ne.symm e)⟩
theorem HR.place{w':World}{p:Pl}{o:SO}(hr:HR ρ h w)(hn:h.n<1000000)(hd:o≠.dead)(hs:w.heap.size≤w'.heap.size)(hpb:p.b<w'.heap.size)
 (hc:∀(b:Nat) cs t fr,w.heap[b]?=some (Obj.cells cs t fr)→w'.heap[b]?=some (Obj.cells cs t fr))
 (hx:∀(b:Nat) (x:Obj),w.heap[b]?=some x→kT x→w'.heap[b]?=some x)
 (hnew:w.heap.size≤p.b∨p.R=0)(ho:OR (ρ.upd h.n p) p w' o)(hZ:yO w w':=by exact⟨rfl,rfl,rfl⟩):
 HR (ρ.upd h.n p) (h.new o) w'∧FR ρ h w (ρ.upd h.n p) (h.new o) w':=by
 have hle:=bF.le_upd (ρ:=ρ) p (hr.fresh h.n (Nat.le_refl _));have back:∀m q,m≠h.n→(ρ.upd h.n p) m=some q→ρ m=some q:=fun m q e hq=>by rwa [bF.upd_ne ρ p e]at hq
 refine⟨⟨by simp only[H.new];omega,fun m hm=>?_,fun m m' q q' fS hm pZ hq AN=>?_,fun m hm=>?_,?_⟩,⟨hle,fun m hm=>bF.upd_ne ρ p (by omega),by simp only[H.new];omega,hs,fun b cs t fr hb=>⟨cs,hc b cs t fr hb,rfl,fun _ _=>rfl⟩,fun b x h1 h2 _=>hx b x h1 h2,fun m hm hv=>?_,fun m q hm hv hq=>?_,fun _ h=>.inr h,rfl,rfl,fun x _ hx=>by rw[H.get_new_ne (by omega)];exact .refl _ _ _,hZ⟩⟩
 ·by_cases e:m=h.n
  ·subst e
   exact⟨by simp only[H.new];omega,p,bF.upd_same _ _ _,hpb,by rw[H.get_new hr.n];exact ho⟩
  ·have yQ:=((HR.new_live hr.n hd).1 hm).resolve_left e
   obtain⟨h1,q,h2,h3,h4⟩:=hr.at_ m yQ;refine⟨by simp only[H.new];omega,q,hle _ _ h2,by omega,?_⟩;rw[H.get_new_ne (Ne.symm e)];exact h4.frame hle (fun cs t fr hb=>⟨cs,hc _ _ _ _ hb,rfl,fun _ _ _=>rfl⟩) (fun x h1 h2 _=>hx _ x h1 h2)
 ·have old:∀m q,m≠h.n→live (h.new o) m→(ρ.upd h.n p) m=some q→q.b<w.heap.size:=fun m q e hm hq=>by
   have yQ:=((HR.new_live hr.n hd).1 hm).resolve_left e;obtain⟨_,q',h2,h3,_⟩:=hr.at_ m yQ;rw[back m q e hq]at h2;injection h2 with h2;rw[h2];exact h3
  by_cases e:m=h.n
  ·have e':m'≠h.n:=fun x=>fS (by rw[e,x])
   have:=old m' q' e' pZ AN;rw[e,bF.upd_same]at hq;injection hq with hq;subst hq;rcases hnew with h5|h5<;>omega
  ·by_cases e':m'=h.n
   ·have:=old m q e hm hq
    rw[e',bF.upd_same]at AN;injection AN with AN;subst AN;rcases hnew with h5|h5<;>omega
   ·exact hr.apart m m' q q' fS (((HR.new_live hr.n hd).1 hm).resolve_left e) (((HR.new_live hr.n hd).1 pZ).resolve_left e') (back m q e hq) (back m' q' e' AN)
 ·rw[bF.upd_ne ρ p (by simp only[H.new]at hm;omega)]
  exact hr.fresh m (by simp only[H.new]at hm;omega)
 ·refine hr.amb_step rfl rfl hs (fun b hb=>?_) fun b m q hb hm hq e=>?_
  ·have cK:=(hr.amb.2 b hb).1
   obtain⟨x,hxx⟩:∃x,w.heap[b]?=some x:=⟨_,Array.getElem?_eq_getElem cK⟩;rw[hxx];cases x with
   |cells cs t fr=>exact hc b cs t fr hxx
   |_=>exact hx b _ hxx trivial
  ·by_cases e':m=h.n
   ·rw[e',bF.upd_same]at hq
    injection hq with hq;subst hq;rcases hnew with h5|h5
    ·have:=(hr.amb.2 b hb).1;omega
    ·exact h5
   ·exact(hr.amb.2 b hb).2 m q (((HR.new_live hr.n hd).1 hm).resolve_left e') (back m q e' hq) e
 ·exact((HR.new_live hr.n hd).1 hv).resolve_left (by omega)
 ·by_cases e:m=h.n
  ·rw[e,bF.upd_same]at hq
   injection hq with hq;subst hq;rcases hnew with h5|h5
   ·exact .inl h5
   ·exact .inr fun i _ _=>by omega
  ·have:=(hr.at_ m (((HR.new_live hr.n hd).1 hv).resolve_left e)).1
   omega
theorem HR.push{p:Pl}{o:SO}{x:Obj}(hr:HR ρ h w)(hn:h.n<1000000)(hd:o≠.dead)(hpb:p.b=w.heap.size)
 (ho:OR (ρ.upd h.n p) p {w with heap:=w.heap.push x} o):
 HR (ρ.upd h.n p) (h.new o) {w with heap:=w.heap.push x}∧FR ρ h w (ρ.upd h.n p) (h.new o) {w with heap:=w.heap.push x}:=by
 refine hr.place hn hd (by simp) (by simp[hpb]) (fun b cs t fr hb=>?_) (fun b y hb _=>?_) (.inl (by omega)) ho
 ·rw[Array.getElem?_push_lt (dP hb),←hb];exact(Array.getElem?_eq_getElem (dP hb)).symm
 ·rw[Array.getElem?_push_lt (dP hb),←hb];exact(Array.getElem?_eq_getElem (dP hb)).symm
theorem HR.drop(hr:HR ρ h w)(l:Nat)(hl:l≤1000000):HR ρ (h.put l .dead) w:=by
 have eK:∀m,live (h.put l .dead) m→l≠m∧live h m:=fun m hm=>by
  by_cases e:l=m
  ·subst e;exact absurd (H.get_put hl) hm
  ·exact⟨e,by unfold live at hm⊢;rwa [H.get_put_ne e]at hm⟩
 refine⟨hr.n,fun m hm=>?_,fun m m' q q' fS hm pZ=>hr.apart m m' q q' fS (eK m hm).2 (eK m' pZ).2,hr.fresh,hr.amb_step rfl rfl (Nat.le_refl _) (fun _ _=>rfl) fun b m q hb hm hq e=>(hr.amb.2 b hb).2 m q (eK m hm).2 hq e⟩;obtain⟨e,yQ⟩:=eK m hm;rw[H.get_put_ne e];exact hr.at_ m yQ
end
theorem sX(s i f:Nat):ix s i f=i*s+f:=by
 unfold ix;split
 ·split
  ·omega
  ·omega
 ·rfl
theorem bT(n s:Nat):bG n s=n*s:=by unfold bG;split<;>omega
theorem aY(i n:Nat):aE i n=i+n:=by unfold aE;split<;>omega
theorem dropS_eq{α:Type}(n:Nat)(l:List α):mF n l=l.drop n:=by unfold mF;split<;>simp
theorem aF{a b:Nat}:Nat.blt a b=true↔a<b:=by simp[Nat.blt];omega
theorem jQ(b o k:Nat):(⟨b,o,none⟩:Addr).add k=⟨b,o+k,none⟩:=by
 unfold Addr.add;split
 ·subst_vars;rfl
 ·rfl
theorem cell_of{w:World}{b i:Nat}{cs:Array Value}{fr:Nat×Nat}(h:CB w b cs fr):w.cell? ⟨b,i,none⟩=cs[i]?:=by
 obtain⟨t,h⟩:=h;simp[World.cell?,h]
theorem vM{w:World}{b i:Nat}{cs:Array Value}{fr:Nat×Nat}(h:CB w b cs fr)(hf:¬(fr.1≤i∧i<fr.2)):w.frozen? ⟨b,i,none⟩=false:=by
 obtain⟨t,h⟩:=h;simp only[World.frozen?,h];simpa using fun h1=>by have:=hf;omega
theorem rd_ok{ρ:bF}{h:H}{w:World}{l i f:Nat}{v:SV}{p:Pl}(hg:(rd h l i f).go=some v)(hr:HR ρ h w)(hp:ρ l=some p):
 ∃u,w.cell? ⟨p.b,p.o+i*p.sz+f,none⟩=some u∧VR ρ v u:=by
 unfold rd at hg;have hl:live h l:=by
  unfold live;intro e;rw[e]at hg;cases hg
 obtain⟨_,q,h2,h3,h4⟩:=hr.at_ l hl;rw[hp]at h2;injection h2 with h2;subst h2;cases ho:h.get l with
 |cells t s c=>
  rw[ho]at hg h4;have h5:=Out.of_go hg;rw[sX]at h5;obtain⟨rfl,_,cs,fr,h6,_,_,h7⟩:=h4;obtain⟨u,h8,h9⟩:=h7 _ _ h5;exact⟨u,by rw[cell_of h6,←h8];congr 1;omega,h9⟩
 |ints t s c=>
  rw[ho]at hg h4;obtain⟨h5,h5'⟩:=Out.chk_go hg;have h5':=Out.ret_go h5';rw[aF,sX]at h5;rw[sX]at h5';obtain⟨rfl,_,cs,fr,h6,_,_,h7⟩:=h4;obtain⟨h8,h9⟩:=h7 _ _ (List.getElem?_eq_getElem h5);subst h5';rw[List.getD_eq_getElem?_getD,List.getElem?_eq_getElem h5];refine⟨_,by rw[cell_of h6];rw[←h8];congr 1;omega,?_⟩;simp only[VR,Option.getD_some];exact⟨trivial,h9⟩
 |spot t s k c=>
  rw[ho]at hg h4;obtain⟨h5,h5'⟩:=Out.chk_go hg;have h5':=Out.of_go h5';have h5:=Nat.eq_of_beq_eq_true h5;subst h5;obtain⟨rfl,_,_,cs,fr,h6,_,_,h7⟩:=h4;obtain⟨u,h8,h9⟩:=h7 _ _ h5';exact⟨u,by rw[cell_of h6,←h8],h9⟩
 |_=>rw[ho]at hg;cases hg
section
variable{P:Program}{w:World}
theorem bN{t:Nat}{d:TypeDesc}(h:P.underlying t=some d):(underlying t).run P w=.ok d w:=by simp[underlying,h]
theorem oY{t:Nat}{i:TypeInfo}(h:P.info? t=some i):(typeInfo t).run P w=.ok i w:=by simp[typeInfo,h]
theorem run_sizeOf{t:Nat}{i:TypeInfo}(h:P.info? t=some i):(sizeOf t).run P w=.ok i.size w:=by simp[sizeOf,oY h]
theorem info_of_und{t:Nat}{d:TypeDesc}(h:P.underlying t=some d):∃i,P.info? t=some i:=by
 unfold Program.underlying at h;cases hi:P.info? t with
 |none=>rw[hi]at h;cases h
 |some i=>exact⟨i,rfl⟩
theorem run_sz{t:Nat}{d:TypeDesc}(h:P.underlying t=some d):(sizeOf t).run P w=.ok (sz P t) w:=by
 obtain⟨i,hi⟩:=info_of_und h;rw[run_sizeOf hi];simp[sz,hi]
theorem sF{t:Nat}{d:TypeDesc}(h:P.underlying t=some d):(Go.isAgg t).run P w=.ok (xG d) w:=by
 simp only[Go.isAgg,Sem.run_bind,bN h,Result.andThen_ok];cases d<;>rfl
theorem kG{a:Addr}:∀(us:List Value) (i:Nat) (acc:Array Value),(∀(j:Nat) (u:Value),us[j]?=some u→w.cell? (a.add (i+j))=some u)→
 (loadCellsFrom a i us.length acc).run P w=.ok (acc++us.toArray) w
 |[],i,acc,_=>by simp[loadCellsFrom]
 |u::us,i,acc,h=>by
  have h0:=h 0 u rfl;simp only[Nat.add_zero]at h0;simp only[List.length_cons,loadCellsFrom,Sem.run_bind,run_load,h0,Result.andThen_ok];rw[kG us (i+1) _ fun j v hj=>by have:=h (j+1) v (by simpa using hj);rwa [show i+(j+1)=i+1+j by omega]at this];simp
end
section
variable{P:Program}{ρ:bF}{h:H}{w:World}
theorem rdN_ok{l i:Nat}{p:Pl}(hr:HR ρ h w)(hp:ρ l=some p):∀(n f:Nat) (vs:List SV),(rdN h l i n f).go=some vs→
 ∃us:List Value,us.length=n∧bM ρ vs us∧∀(j:Nat) (u:Value),us[j]?=some u→w.cell? ⟨p.b,p.o+i*p.sz+f+j,none⟩=some u
 |0,f,vs,hg=>by
  have:=Out.ret_go hg;subst this;exact⟨[],rfl,by simp only[bM],fun j u hj=>by simp at hj⟩
 |n+1,f,vs,hg=>by
  unfold rdN at hg;obtain⟨v,h1,hg⟩:=Out.bind_go hg;obtain⟨vs',h2,hg⟩:=Out.bind_go hg;have:=Out.ret_go hg;subst this;obtain⟨u,h3,h4⟩:=rd_ok h1 hr hp;obtain⟨us,h5,h6,h7⟩:=rdN_ok hr hp n (f+1) vs' h2;refine⟨u::us,by simp[h5],by simp only[bM];exact⟨h4,h6⟩,fun j x hj=>?_⟩;cases j with
  |zero=>simp at hj;subst hj;exact h3
  |succ j=>
   have:=h7 j x (by simpa using hj)
   rwa [show p.o+i*p.sz+(f+1)+j=p.o+i*p.sz+f+(j+1) by omega]at this
theorem load_ok{t:Nat}{a v:SV}{ra:Value}(hg:(load P h t a).go=some v)(hr:HR ρ h w)(ha:VR ρ a ra):∃u,(Instr.loadAt t ra).run P w=.ok u w∧VR ρ v u:=by
 unfold load at hg;split at hg
 ·rename_i l i f
  simp only[VR]at ha;obtain⟨p,hp,rfl⟩:=ha;split at hg
  ·rename_i d hd
   have hw:(Instr.loadAt t (.pointer (some ⟨p.b,p.o+i*p.sz+f,none⟩))).run P w=(loadVar t ⟨p.b,p.o+i*p.sz+f,none⟩).run P w:=by simp[Instr.loadAt,Instr.sureAddr]
   rw[hw];simp only[loadVar,Sem.run_bind,sF hd,Result.andThen_ok];split at hg
   ·rename_i hag
    obtain⟨vs,h1,hg⟩:=Out.bind_go hg;have:=Out.ret_go hg;subst this;obtain⟨us,h2,h3,h4⟩:=rdN_ok hr hp _ _ _ h1;refine⟨.agg us.toArray,?_,by simp only[VR];exact⟨us.toArray,rfl,by simpa using h3⟩⟩;simp only[hag,if_true,Sem.run_bind,run_sz hd,Result.andThen_ok,loadCells,←h2];rw[kG us 0 #[] fun j u hj=>by rw[Nat.zero_add,jQ];exact h4 j u hj];simp
   ·rename_i hag
    obtain⟨u,h1,h2⟩:=rd_ok hg hr hp;refine⟨u,?_,h2⟩;simp[hag,h1]
  ·cases hg
 ·cases hg
theorem kU{v:SV}{u:Value}(h:VR ρ v u)(ho:v.one=true):u.oneCell'=true:=by
 cases v<;>simp only[VR]at h<;>(try(simp[SV.one]at ho;done))
 ·exact h.1▸h.2
 ·subst h;rfl
 ·obtain⟨rfl,_⟩:=h;rfl
 ·obtain⟨p,_,rfl⟩:=h;rfl
 ·obtain⟨a,c,rfl,_⟩:=h;rfl
 ·obtain⟨p,_,rfl⟩:=h;rfl
 ·obtain⟨a,c,rfl,_⟩:=h;rfl
 ·obtain⟨x,rfl,_⟩:=h;rfl
 ·obtain⟨p,_,rfl⟩:=h;rfl
 ·exact h
theorem vN{h:H}{l:Nat}(ho:okR h l=true):l∉h.R:=fun hm=>by
 have:=List.all_eq_true.1 ho l hm;simp at this
theorem okC_ok{h:H}{l k:Nat}(ho:okW h l k=true):∀x∈h.C,x.1=l→k<x.2.1∨x.2.1+x.2.2≤k:=fun x hx e=>by
 simp only[okW,Bool.and_eq_true]at ho;have:=List.all_eq_true.1 ho.2 x hx;subst e;have e2:Nat.beq x.1 x.1=true:=by simp
 simp only[okC,e2,Bool.or_eq_true]at this;exact this.imp aF.1 Nat.le_of_ble_eq_true
theorem okW_ok{h:H}{l k:Nat}(ho:okW h l k=true):¬prot h l k:=by
 rintro(h1|⟨x,hx,e,h1,h2⟩)
 ·simp only[okW,Bool.and_eq_true]at ho
  exact vN ho.1 h1
 ·rcases okC_ok ho x hx e with h3|h3<;>omega
theorem vO{h:H}{l:Nat}(ho:okK h l=true):l∉h.R∧∀x∈h.C,x.1≠l:=by
 simp only[okK,Bool.and_eq_true]at ho;exact⟨vN ho.1,fun x hx e=>by
  have:=List.all_eq_true.1 ho.2 x hx;rw[e]at this;simp at this⟩
theorem okK_prot{h:H}{l k:Nat}(ho:okK h l=true):¬prot h l k:=by
 obtain⟨h1,h2⟩:=vO ho;rintro(h3|⟨x,hx,e,_⟩)
 ·exact h1 h3
 ·exact h2 x hx e
theorem same_cells{t s k a n:Nat}{c:List SV}{v:SV}(hk:k<a∨a+n≤k):qW (.cells t s c) (.cells t s (c.set k v)) a n:=by
 refine⟨rfl,by simp[oln],fun i f h1 h2=>?_⟩;simp only[xU]at h1 h2;simp only[rdO];rw[List.getElem?_set_ne (by omega)]
theorem same_ints{t s k a n:Nat}{c:List Int}{v:Int}(hk:k<a∨a+n≤k):qW (.ints t s c) (.ints t s (c.set k v)) a n:=by
 refine⟨rfl,rfl,fun i f h1 h2=>?_⟩;simp only[xU]at h1 h2;simp only[rdO,List.length_set];rw[List.getD_eq_getElem?_getD,List.getElem?_set_ne (by omega),←List.getD_eq_getElem?_getD]
theorem wr_ok{l i f:Nat}{v:SV}{u:Value}{p:Pl}{h':H}(hg:(wr h l i f v).go=some h')(hr:HR ρ h w)(hp:ρ l=some p)(hv:VR ρ v u):
 ∃w',(Go.store ⟨p.b,p.o+i*p.sz+f,none⟩ u).run P w=.ok () w'∧HR ρ h' w'∧FR ρ h w ρ h' w':=by
 unfold wr at hg;split at hg
 ·cases hg
 ·rename_i hone
  have hl:live h l:=by
   unfold live;intro e;rw[e]at hg;cases hg
  have eK:=(hr.at_ l hl).1;obtain⟨_,q,h2,h3,h4⟩:=hr.at_ l hl;rw[hp]at h2;injection h2 with h2;subst h2;have hu:=kU hv hone;cases ho:h.get l with
  |cells t s c=>
   rw[ho]at hg h4;simp only at hg;obtain⟨e1,e2,cs,fr,⟨tt,h6⟩,h7,h8,h9⟩:=h4;subst e1;rw[sX]at hg;split at hg
   ·rename_i x _ hx hw
    have:=Out.ret_go hg;subst this;have hk:i*p.sz+f<c.length:=(List.getElem?_eq_some_iff.1 hx).1;obtain⟨y,hy,_⟩:=h9 _ _ hx;have hadd:p.o+i*p.sz+f=p.o+(i*p.sz+f):=by omega
    rw[hadd];refine⟨w.setCell ⟨p.b,p.o+(i*p.sz+f),none⟩ u,?_,?_⟩
    ·rw[run_store _ _ _ _ _ hu,cell_of ⟨tt,h6⟩,hy]
     simp only[vM ⟨tt,h6⟩ (h7 (p.o+(i*p.sz+f)) (by omega) (by omega)),Bool.false_eq_true,if_false]
    ·refine hr.write hl hp (by omega) (okW_ok hw) (fun x hx e=>by rw[ho];exact same_cells (okC_ok hw x hx e)) ⟨cs,tt,fr,h6⟩ (by simp) ⟨rfl,by simpa using e2,_,fr,⟨tt,nJ h6⟩,h7,by simpa using h8,fun k z hz=>?_⟩
     by_cases hkk:i*p.sz+f=k
     ·subst hkk
      rw[List.getElem?_set_self hk]at hz;injection hz with hz;subst hz;exact⟨u,by rw[Array.getElem?_setIfInBounds_self_of_lt (by omega)],hv⟩
     ·rw[List.getElem?_set_ne hkk]at hz
      obtain⟨z',h10,xI⟩:=h9 k z hz;exact⟨z',by rw[Array.getElem?_setIfInBounds_ne (by omega)];exact h10,xI⟩
   ·cases hg
  |ints t s c=>
   rw[ho]at hg h4;simp only at hg;obtain⟨e1,e2,cs,fr,⟨tt,h6⟩,h7,h8,h9⟩:=h4;subst e1;rw[sX]at hg;split at hg
   ·rename_i n hw
    obtain⟨hk,hg⟩:=Out.chk_go hg;rw[aF]at hk;have:=Out.ret_go hg;subst this;simp only[VR]at hv;obtain⟨rfl,hn⟩:=hv;obtain⟨hy,_⟩:=h9 _ _ (List.getElem?_eq_getElem hk);have hadd:p.o+i*p.sz+f=p.o+(i*p.sz+f):=by omega
    rw[hadd];refine⟨w.setCell ⟨p.b,p.o+(i*p.sz+f),none⟩ (.int .i64 n),?_,?_⟩
    ·rw[run_store _ _ _ _ _ hu,cell_of ⟨tt,h6⟩,hy]
     simp only[vM ⟨tt,h6⟩ (h7 (p.o+(i*p.sz+f)) (by omega) (by omega)),Bool.false_eq_true,if_false]
    ·refine hr.write hl hp (by omega) (okW_ok hw) (fun x hx e=>by rw[ho];exact same_ints (okC_ok hw x hx e)) ⟨cs,tt,fr,h6⟩ (by simp) ⟨rfl,by simpa using e2,_,fr,⟨tt,nJ h6⟩,h7,by simpa using h8,fun k z hz=>?_⟩
     by_cases hkk:i*p.sz+f=k
     ·subst hkk
      rw[List.getElem?_set_self hk]at hz;injection hz with hz;subst hz;exact⟨by rw[Array.getElem?_setIfInBounds_self_of_lt (by omega)],hn⟩
     ·rw[List.getElem?_set_ne hkk]at hz
      obtain⟨h10,xI⟩:=h9 k z hz;exact⟨by rw[Array.getElem?_setIfInBounds_ne (by omega)];exact h10,xI⟩
   ·cases hg
  |_=>rw[ho]at hg;cases hg
theorem wrN_ok{l i:Nat}{p:Pl}(hp:ρ l=some p):∀(vs:List SV) (us:List Value) (h h':H) (w:World) (f k:Nat) (_:(wrN l i vs h (f+k)).go=some h') (_:HR ρ h w) (_:bM ρ vs us),
 ∃w',(storeCells ⟨p.b,p.o+i*p.sz+f,none⟩ us k).run P w=.ok () w'∧HR ρ h' w'∧FR ρ h w ρ h' w'
 |[],[],h,h',w,f,k,hg,hr,_=>by
  have:=Out.ret_go hg;subst this;exact⟨w,by simp[storeCells],hr,.refl hr⟩
 |v::vs,u::us,h,h',w,f,k,hg,hr,hv=>by
  unfold wrN at hg;simp only[bM]at hv;obtain⟨h1,e1,hg⟩:=Out.bind_go hg;obtain⟨w1,r1,hr1,f1⟩:=wr_ok (P:=P) e1 hr hp hv.1;obtain⟨w2,r2,hr2,f2⟩:=wrN_ok hp vs us h1 h' w1 f (k+1) hg hr1 hv.2;refine⟨w2,?_,hr2,f1.trans hr hr1 f2⟩;simp only[storeCells,Sem.run_bind];rw[jQ,show p.o+i*p.sz+f+k=p.o+i*p.sz+(f+k) by omega];rw[show p.o+i*p.sz+(f+k)=p.o+i*p.sz+(f+k)from rfl]at r1;rw[r1];exact r2
 |[],_::_,_,_,_,_,_,_,_,hv=>by simp only[bM]at hv
 |_::_,[],_,_,_,_,_,_,_,hv=>by simp only[bM]at hv
theorem oZ{v:SV}{u:Value}(h:VR ρ v u):bM ρ v.cells u.cells.toList:=by
 cases v<;>simp only[VR]at h
 case val=>obtain⟨rfl,h1⟩:=h;cases u<;>simp[SV.cells,Value.cells,bM,VR,Value.oneCell']at h1⊢
 case bool=>subst h;simp[SV.cells,Value.cells,bM,VR]
 case int=>obtain⟨rfl,h1⟩:=h;simp[SV.cells,Value.cells,bM,VR,h1]
 case ptr=>obtain⟨p,h1,rfl⟩:=h;simp[SV.cells,Value.cells,bM,VR,h1]
 case slice=>obtain⟨a,c,rfl,h1⟩:=h;simp only[SV.cells,Value.cells,bM,VR,and_true];exact⟨a,c,rfl,h1⟩
 case map=>obtain⟨p,h1,rfl⟩:=h;simp[SV.cells,Value.cells,bM,VR,h1]
 case func=>obtain⟨a,c,rfl,h1⟩:=h;simp only[SV.cells,Value.cells,bM,VR,and_true];exact⟨a,c,rfl,h1⟩
 case iface=>obtain⟨x,rfl,h1⟩:=h;simp only[SV.cells,Value.cells,bM,VR,and_true];exact⟨x,rfl,h1⟩
 case agg=>obtain⟨cs,rfl,h1⟩:=h;exact h1
 case tup=>obtain⟨cs,rfl,h1⟩:=h;simp only[SV.cells,Value.cells,bM,VR,and_true];exact⟨cs,rfl,h1⟩
 case yield=>obtain⟨p,h1,rfl⟩:=h;simp[SV.cells,Value.cells,bM,VR,h1]
 case any=>cases u<;>simp[SV.cells,Value.cells,bM,VR,Value.oneCell']at h⊢
theorem store_ok{t:Nat}{a v:SV}{ra u:Value}{h':H}(hg:(store P h t a v).go=some h')(hr:HR ρ h w)(ha:VR ρ a ra)(hv:VR ρ v u):
 ∃w',(Instr.storeAt t ra u).run P w=.ok () w'∧HR ρ h' w'∧FR ρ h w ρ h' w':=by
 unfold store at hg;split at hg
 ·rename_i l i f
  simp only[VR]at ha;obtain⟨p,hp,rfl⟩:=ha;split at hg
  ·rename_i ti hti
   split at hg
   ·rename_i hlen
    have hlen:=Nat.eq_of_beq_eq_true hlen;have hc:=oZ hv;obtain⟨w',h1,h2,h3⟩:=wrN_ok (P:=P) hp v.cells u.cells.toList h h' w f 0 hg hr hc;refine⟨w',?_,h2,h3⟩;have sG:u.cells.size=ti.size:=by rw[←hlen,hc.length];simp
    simp only[Instr.storeAt,Instr.sureAddr,storeVar,Sem.run_bind,Sem.run_pure,Result.andThen_ok,run_sizeOf hti,sG,ne_eq,not_true_eq_false,if_false];simpa using h1
   ·cases hg
  ·cases hg
 ·cases hg
end
end Go.Proofs.YtnkcbfgfkadoaaaGreat.Sx
