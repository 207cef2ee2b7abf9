/- Part 19 of the proof of TopPeek. -/
import Derived.Test.YtnkcbfgfkadoaaaGreatX18
set_option linter.all false
namespace Go.Proofs.YtnkcbfgfkadoaaaGreat.Sx
open Go
set_option maxRecDepth 10000
def xL(k p:Nat):Bool:=Nat.beq p 8||(Nat.ble 10 p&&Nat.blt p (10+k))
theorem plss_at{q:Nat→Bool}:∀{l:List SV} {i:Nat} {v:SV},SV.plss q l=true→l[i]?=some v→v.pls q=true
 |[],_,_,_,h=>by simp at h
 |x::xs,i,v,h,hv=>by
  simp only[SV.plss,Bool.and_eq_true]at h;cases i with
  |zero=>simp at hv;subst hv;exact h.1
  |succ i=>exact plss_at h.2 (by simpa using hv)
theorem rv_ne{P:Nat}{ν:Nat→Nat}{c:Nat}(h:10≤c):rv P ν c=ν c:=by
 unfold rv;cases hb:Nat.beq c 8
 ·rfl
 ·have:=Nat.eq_of_beq_eq_true hb;omega
theorem pE{a b:Nat}(h:b≤a):Nat.blt a b=false:=by
 cases hx:Nat.blt a b
 ·rfl
 ·have:=aF.1 hx;omega
theorem beqf{a b:Nat}(h:a≠b):(a==b)=false:=by simp[h]
theorem iO{α β:Type}(f:α→β):∀{l:List α},(l.map f).Nodup→l.Nodup
 |[],_=>List.nodup_nil
 |x::l,h=>by
  rw[List.map_cons,List.nodup_cons]at h;rw[List.nodup_cons];exact⟨fun hx=>h.1 (List.mem_map.2 ⟨x,hx,rfl⟩),iO f h.2⟩
theorem nodup_map{α β:Type}{f:α→β}(hf:∀a b,f a=f b→a=b):∀{l:List α},l.Nodup→(l.map f).Nodup
 |[],_=>List.nodup_nil
 |x::l,h=>by
  rw[List.nodup_cons]at h;rw[List.map_cons,List.nodup_cons];refine⟨fun hx=>?_,nodup_map hf h.2⟩;obtain⟨y,hy,e⟩:=List.mem_map.1 hx;exact h.1 (hf _ _ e▸hy)
theorem rol_old{cs:List Nat}{nr:List (Nat×Nat)}{p c:Nat}(h:10≤p)(hc:cs[p-10]?=some c):rF cs nr p=c:=by
 unfold rF;rw[pE h,hc]
section
variable{h:H}{own:Nat→Nat}{C:bS}{W:List Int}{nL:Nat}{aD:List Ev}{aL:List Nat}{N:Names}{i t sb nb lr:Nat}{ν:Nat→Nat}{ob:mB}{cs:List Nat}{T:List SO}
def rest(N:Names)(ν:Nat→Nat)(cs:List Nat)(nL:Nat):List Nat:=cs.map ν++lnP N.nl nL
def pF(C:bS)(N:Names)(t sb nb lr:Nat)(ν:Nat→Nat)(cs:List Nat)(nL:Nat):List Nat:=qX C N t sb nb lr++rest N ν cs nL
theorem nm_old{j c:Nat}(hj:cs[j]?=some c):nm (pF C N t sb nb lr ν cs nL) (10+j)=ν c:=by
 have hl:=(List.getElem?_eq_some_iff.1 hj).1;unfold nm pF rest;rw[List.getD_eq_getElem?_getD,List.getElem?_append_right (by simp[qX]),List.getElem?_append_left (by simp[qX];omega)];have e2:(qX C N t sb nb lr).length=10:=rfl;rw[e2,show 10+j-10=j by omega,List.getElem?_map,hj];rfl
theorem nm_rol(pG:∀c∈cs,10≤c∧c<990){p:Nat}(hp:xL cs.length p=true):nm (pF C N t sb nb lr ν cs nL) p=rv C.P ν (rF cs [] p):=by
 simp only[xL,Bool.or_eq_true,Bool.and_eq_true]at hp;rcases hp with hp|⟨h1,h2⟩
 ·have:=Nat.eq_of_beq_eq_true hp;subst this;rfl
 ·have h1:=Nat.le_of_ble_eq_true h1
  have h2:=aF.1 h2;have hj:cs[p-10]?=some (cs[p-10]'(by omega)):=List.getElem?_eq_getElem _;have:=nm_old (C:=C) (N:=N) (t:=t) (sb:=sb) (nb:=nb) (lr:=lr) (ν:=ν) (nL:=nL) hj;rw[rol_old h1 hj,rv_ne (pG _ (List.getElem_mem _)).1,←this];congr 1;omega
theorem At.okc{m j:Nat}{o:SO}(co:Core h own C W nL aD aL N)(a:At h own m (tg i j) o):okK h m=true:=a.ok co.oR co.oC (by unfold tg;omega)
theorem tail_fit(co:Core h own C W nL aD aL N)(ma:jJ h own i C.P ν ob)(pG:∀c∈cs,10≤c∧c<990)(hT:TOk ob (rF cs []) cs T)(dM:T.all (SO.pls (xL cs.length))=true):
 pB h (nm (pF C N t sb nb lr ν cs nL)) (3::8::9::dD 10 T) 10 (rest N ν cs nL) (T++gT nL):=by
 obtain⟨hlen,yE⟩:=hT.at_;have eq:∀p,xL cs.length p=true→rv C.P ν (rF cs [] p)=nm (pF C N t sb nb lr ν cs nL) p:=fun p hp=>(nm_rol pG hp).symm
 refine pB.app (pB.of (by simpa using hlen) fun j n o hn ho=>?_) ?_
 ·rw[List.getElem?_map]at hn
  cases hc:cs[j]?with
  |none=>rw[hc]at hn;cases hn
  |some c=>
   rw[hc]at hn;simp only[Option.map_some,Option.some.injEq]at hn;subst hn;have hR:(3::8::9::dD 10 T).contains (10+j)=rS o:=by
    have:=sP T 10 j o ho;simp only[List.contains_cons,this];have e3:(10+j==3)=false:=beqf (by omega);have e8:(10+j==8)=false:=beqf (by omega);have e9:(10+j==9)=false:=beqf (by omega);rw[e3,e8,e9];rfl
   have hop:=List.all_eq_true.1 dM o (List.mem_of_getElem? ho);rcases yE j c o hc ho with⟨g1,ty,s,k,sm,l,e,g2,g3,g4,g5⟩|⟨g1,g2,g3⟩
   ·subst e
    have a:=ma.at_ _ g2;refine⟨a.2.2,?_⟩;unfold jI;rw[hR,g1];simp only;have a1:h.get (ν c)=.cells ty s (SV.rens (rv C.P ν) l):=a.1;refine jF a1 (by rw[SV.rens_map,List.length_map];exact g3) g4 fun i v hv=>?_
    have hvp:v.pls (xL cs.length)=true:=plss_at hop hv;rw[SV.rens_map,List.getElem?_map,g5 i v hv];simp only[Option.map_some,Option.some.injEq];rw[SV.ren_ren];exact SV.ren_congr eq v hvp
   ·have a:=ma.at_ _ g2
    refine⟨a.2.2,?_⟩;unfold jI;rw[hR,g1];simp only;refine⟨At.okc co a,.of ?_,g3⟩;rw[a.1,SO.ren_ren hop];exact SO.ren_congr eq hop
 ·cases nL with
  |zero=>exact trivial
  |succ n=>
   have a:=co.log (by omega);refine⟨a.2.2,?_,trivial⟩;unfold jI;have hR:(3::8::9::dD 10 T).contains (10+(cs.map ν).length)=false:=by
    have nc:(dD 10 T).contains (10+(cs.map ν).length)=false:=by
     have:=sP (T++gT (n+1)) 10 (cs.map ν).length (.any 122 5 (n+1)) (by rw[List.getElem?_append_right (by simp[hlen])];simp[hlen,gT]);rw[spotIx_app]at this;exact this
    have e3:(10+(cs.map ν).length==3)=false:=beqf (by omega);have e8:(10+(cs.map ν).length==8)=false:=beqf (by omega);have e9:(10+(cs.map ν).length==9)=false:=beqf (by omega);simp only[List.contains_cons,nc,e3,e8,e9];rfl
   rw[hR];exact⟨a.ok co.oR co.oC (by omega),.of a.1,rfl⟩
theorem names_nodup{k1 k2 k3:Int}{now lg:SV}{o8:SO}(co:Core h own C W nL aD aL N)(he:aD≠[]){ns:Nat}{lf nw:SV}(hh:Here h own aL i t sb nb lr ns k1 k2 k3 lf nw)(ma:jJ h own i C.P ν ob)(pG:∀c∈cs,10≤c∧c<990)(oG:cs.Nodup)(hT:TOk ob (rF cs []) cs T)(h8:o8=.dead∨o8=.ints 3 1 C.PL)(e:Env):
 (aQ (pF C N t sb nb lr ν cs nL) (e.obj8 o8 lg now (T++gT nL))).Nodup:=by
 obtain⟨hlen,yE⟩:=hT.at_;have hν:∀c∈cs,own (ν c)=tg i c:=fun c hc=>by
  obtain⟨j,hj⟩:=List.mem_iff_getElem?.1 hc;have hl:=(List.getElem?_eq_some_iff.1 hj).1;rcases yE j c (T[j]'(by omega)) hj (List.getElem?_eq_getElem _)with⟨g1,ty,s,k,sm,l,_,g2,_⟩|⟨g1,g2,g3⟩
  ·exact(ma.at_ _ g2).2.1
  ·exact(ma.at_ _ g2).2.1
 have uO:((rest N ν cs nL).map own).Nodup∧∀x∈(rest N ν cs nL).map own,x=5∨∃c,10≤c∧c<990∧x=tg i c:=by
  have e1:(rest N ν cs nL).map own=cs.map (tg i)++(lnP N.nl nL).map own:=by
   unfold rest;rw[List.map_append,List.map_map];congr 1;exact List.map_congr_left fun c hc=>hν c hc
  have e2:(cs.map (tg i)).Nodup:=nodup_map (fun a b hab=>by unfold tg at hab;omega) oG;rw[e1];cases nL with
  |zero=>
   refine⟨by simpa[lnP]using e2,fun x hx=>?_⟩;simp[lnP]at hx;obtain⟨c,hc,rfl⟩:=hx;exact .inr ⟨c,(pG c hc).1,(pG c hc).2,rfl⟩
  |succ n=>
   have e5:own N.nl=5:=(co.log (by omega)).2.1;refine⟨?_,fun x hx=>?_⟩
   ·rw[List.nodup_append]
    refine⟨e2,by simp[lnP],fun a ha b hb=>?_⟩;obtain⟨c,hc,rfl⟩:=List.mem_map.1 ha;simp[lnP,e5]at hb;subst hb;unfold tg;omega
   ·rcases List.mem_append.1 hx with hx|hx
    ·obtain⟨c,hc,rfl⟩:=List.mem_map.1 hx
     exact .inr ⟨c,(pG c hc).1,(pG c hc).2,rfl⟩
    ·simp[lnP,e5]at hx;exact .inl hx
 have vS:((aQ (rest N ν cs nL) (T++gT nL)).map own).Sublist ((rest N ν cs nL).map own):=(tP _ _).map _;have hn2:=uO.1.sublist vS;have hm2:∀x∈(aQ (rest N ν cs nL) (T++gT nL)).map own,x=5∨∃c,10≤c∧c<990∧x=tg i c:=fun x hx=>uO.2 x (vS.subset hx)
 have key:((aQ (pF C N t sb nb lr ν cs nL) (e.obj8 o8 lg now (T++gT nL))).map own).Nodup:=by
  generalize hM:(aQ (rest N ν cs nL) (T++gT nL))=M at*;have hL:aQ (pF C N t sb nb lr ν cs nL) (e.obj8 o8 lg now (T++gT nL))=[N.ns,N.nm,N.nw,N.nt,N.ne,t,sb,nb]++((match o8.lives with|true=>[C.P]|false=>[])++M):=by
   subst hM;rcases h8 with e|e<;>subst e<;>rfl
  rw[hL,List.map_append,List.nodup_append,List.map_append,List.nodup_append];have ht:=hh.thr.2.1;have hsb:=hh.sb.2.1;have hnb:=hh.nb.2.1;have t0:=co.sched.2.1;have t1:=co.mem.2.1;have t2:=co.words.2.1;have t3:=co.thr.2.1;have t4:=(co.ev he).2.1;have t6:=co.par.2.1;simp only[List.map_cons,List.map_nil,ht,hsb,hnb,t0,t1,t2,t3,t4];have h6:∀x∈(match o8.lives with|true=>[C.P]|false=>([]:List Nat)).map own,x=6:=fun x hx=>by
   split at hx
   ·simp at hx;omega
   ·cases hx
  refine⟨by unfold tg;simp;omega,⟨by split<;>simp,hn2,fun a ha b hb=>?_⟩,fun a ha b hb=>?_⟩
  ·have:=h6 a ha
   rcases hm2 b hb with e|⟨c,h1,h2,e⟩
   ·omega
   ·rw[e,this];unfold tg;omega
  ·have pT:b=6∨b=5∨∃c,10≤c∧c<990∧b=tg i c:=by
    rcases List.mem_append.1 hb with hb|hb
    ·exact .inl (h6 b hb)
    ·exact .inr (hm2 b hb)
   intro e;subst e;unfold tg at*;simp at ha;rcases pT with e|e|⟨c,h1,h2,e⟩<;>omega
 exact iO own key
end
structure ActR(ρ:bF)(a:Act)(ns i t sb nb:Nat):Prop where
 size:a.tmps.size=71
 defers:a.defers=[]
 t0:VR ρ (.ptr ns 0 0) (a.tmps.getD 0 Go.undef)
 t1:VR ρ (.int .i64 i) (a.tmps.getD 1 Go.undef)
 t4:VR ρ (.bool false) (a.tmps.getD 4 Go.undef)
 t5:VR ρ (.ptr t 0 0) (a.tmps.getD 5 Go.undef)
 t6:VR ρ (.func (.func 55) [] [.ptr sb 0 0,.ptr nb 0 0]) (a.tmps.getD 6 Go.undef)
def Sec(h h':H)(ns i t sb nb:Nat):Prop:=∀(m:Nat) (Q:Exit→Act→World→Prop) (ρ:bF) (a:Act) (w:World),HR ρ h w→ActR ρ a ns i t sb nb→
 (∀aW a' w',HR aW h' w'→FR ρ h w aW h' w'→a'.tmps.getD 4 Go.undef=.bool true→a'.defers=[]→a'.tmps.size≤1000→Q .ret a' w')→(rO 4 (bR 12)).wpIn Fence.wide m Tryz.prog Q a w
theorem ok12:eF (rO 4 (bR 12))=true:=by kernel_rfl
theorem act_AR{ρ:bF}{a:Act}{ns i t sb nb:Nat}{r:Nat→Nat}(ha:ActR ρ a ns i t sb nb)(h0:r 0=ns)(h5:r 5=t)(h6:r 6=sb)(h7:r 7=nb):∃x,AR (ρ.via r) (r6A i x) a:=by
 have hx:∀k,∃s:SV,VR (ρ.via r) s (a.tmps.getD k Go.undef):=fun k=>by
  obtain⟨s,hs⟩:=rQ (a.tmps.getD k Go.undef);exact⟨s,hs _⟩
 obtain⟨x,hxs⟩:∃x:Nat→SV,∀k,VR (ρ.via r) (x k) (a.tmps.getD k Go.undef):=⟨fun k=>Classical.choose (hx k),fun k=>Classical.choose_spec (hx k)⟩;refine⟨x,by simp[r6A],by rw[ha.size];rfl,fun k=>?_,fun _ h=>(by cases h),ha.defers⟩;have hv:∀s u,VR ρ (s.ren r) u→VR (ρ.via r) s u:=fun s u h=>(jH (oH ρ r)).2 h
 unfold SA.get r6A;simp only;rw[iC _ _ 0 k (by simp)];by_cases hk:k<71
 ·rw[if_pos ⟨by omega,by simp;omega⟩]
  match k,hk with
  |0,_=>exact hv (.ptr 0 0 0) _ (by simp only[SV.ren,h0];exact ha.t0)
  |1,_=>exact hv (.int .i64 i) _ ha.t1
  |2,_=>exact hxs 2
  |3,_=>exact hxs 3
  |4,_=>exact hv (.bool false) _ ha.t4
  |5,_=>exact hv (.ptr 5 0 0) _ (by simp only[SV.ren,h5];exact ha.t5)
  |6,_=>exact hv (.func (.func 55) [] [.ptr 6 0 0,.ptr 7 0 0]) _ (by simp only[SV.ren,SV.rens,h6,h7];exact ha.t6)
  |k+7,hk=>
   have e:(SV.ptr 0 0 0::SV.int .i64 ↑i::x 2::x 3::SV.bool false::SV.ptr 5 0 0::SV.func (.func 55) [] [.ptr 6 0 0,.ptr 7 0 0]::(List.range' 7 64).map x)[k+7-0]?=some (x (k+7)):=by
    simp only[Nat.sub_zero,List.getElem?_cons_succ,List.getElem?_map];rw[List.getElem?_range' (by omega)];simp only[Option.map_some];congr 2;omega
   rw[e];exact hxs (k+7)
 ·rw[if_neg (by simp;omega),Tr.get_nil]
  simp only;rw[Array.getD_eq_getD_getElem?,Array.getElem?_eq_none (by rw[ha.size];omega)];simp only[Option.getD_none,iK,VR];exact⟨#[],rfl,by simp[bM]⟩
structure Res(e:Env)(k:Nat)(X ls:List Nat)(os:List SO)(n K jl ne:Nat)(eX:List Ev)(W':List Int)(iF:SV):Prop where
 pre:∃lsT,ls=0::1::2::4::5::6::7::lsT
 okls:fO k (3::8::9::X) n ls=true
 plen:ls.length=os.length
 plain:os.all SO.plain=true
 pK:Nat.ble (n-k) K=true
 o0:∃nE:Nat,os[0]?=some (e.sO (.slice ne 0 nE none))∧nE=eX.length
 o1:os[1]?=some (bI 2 e.nW e.c (.slice jl 0 (e.nL+1) none))
 o2:os[2]?=some (.ints 3 1 W')
 o4:os[4]?=some (e.tO iF)
 plog:∃a:Nat,ls[a]?=some jl∧os[a]?=some (SO.any 122 5 (e.nL+1))
 pev:∃(a:Nat) (L:List SV),ls[a]?=some ne∧os[a]?=some (SO.cells 42 10 L)∧L=eH eX
 nne:eX≠[]
 wlen:W'.length=e.nW
 pjl:Nat.ble k jl=true
 pne:(Nat.beq ne 4||(Nat.ble k ne&&!Nat.beq ne jl))=true
def okNr(k jl ne:Nat)(nr:List (Nat×Nat)):Bool:=nr.all fun x=>Nat.ble k x.1&&!Nat.beq x.1 jl&&!Nat.beq x.1 ne&&Nat.ble 10 x.2&&Nat.blt x.2 990
def okP(cs:List Nat)(nr:List (Nat×Nat))(p:Nat):Bool:=Nat.beq p 8||(Nat.ble 10 p&&Nat.blt p (10+cs.length)&&!nr.any fun x=>Nat.beq x.2 (rF cs [] p))||nr.any fun x=>Nat.beq x.1 p
def Told(ls:List Nat)(os:List SO)(cs:List Nat)(nr:List (Nat×Nat)):List (Nat×Nat×SO)→Prop
 |[]=>True
 |y::tl=>(∃(a:Nat) (o:SO),ls[a]?=some y.1∧os[a]?=some o∧o.ren (rF cs nr)=y.2.2∧rF cs nr y.1=y.2.1∧Nat.ble 10 y.1=true∧okP cs nr y.1=true∧o.pls (okP cs nr)=true)∧Told ls os cs nr tl
theorem Told.at_{ls:List Nat}{os:List SO}{cs:List Nat}{nr:List (Nat×Nat)}:∀{tl:List (Nat×Nat×SO)},Told ls os cs nr tl→∀y∈tl,∃(a:Nat) (o:SO),ls[a]?=some y.1∧os[a]?=some o∧o.ren (rF cs nr)=y.2.2∧rF cs nr y.1=y.2.1∧Nat.ble 10 y.1=true∧okP cs nr y.1=true∧o.pls (okP cs nr)=true
 |[],_,y,hy=>by cases hy
 |_::tl,h,y,hy=>by
  rcases List.mem_cons.1 hy with e|hy
  ·rw[e];exact h.1
  ·exact Told.at_ h.2 y hy
def owned:List Nat→List SO→List Nat
 |c::cs,o::os=>match rS o with
  |true=>owned cs os
  |false=>c::owned cs os
 |_,_=>[]
theorem owned_at:∀{cs:List Nat} {os:List SO} {j c:Nat} {o:SO},cs[j]?=some c→os[j]?=some o→rS o=false→c∈owned cs os
 |[],_,_,_,_,h,_,_=>by simp at h
 |_::_,[],_,_,_,_,h,_=>by simp at h
 |c'::cs,o'::os,j,c,o,h1,h2,h3=>by
  unfold owned;cases j with
  |zero=>simp at h1 h2;subst h1;subst h2;rw[h3];simp
  |succ j=>
   have:=owned_at (cs:=cs) (os:=os) (j:=j) (by simpa using h1) (by simpa using h2) h3;split
   ·exact this
   ·exact List.mem_cons_of_mem _ this
def dJ(nr:List (Nat×Nat))(c:Nat):Bool:=oM c&&!nr.any fun x=>Nat.beq x.2 c
def vY(i k jl ne:Nat)(nr:List (Nat×Nat))(d:Nat):Nat:=if d+k=jl then 5 else if d+k=ne then 4 else match nr.find? fun x=>Nat.beq x.1 (d+k)with
 |some x=>tg i x.2
 |none=>7
def qT(q:Nat→Nat)(nr:List (Nat×Nat))(ν:Nat→Nat)(c:Nat):Nat:=match nr.find? fun x=>Nat.beq x.2 c with
 |some x=>q x.1
 |none=>ν c
def okNd(nr:List (Nat×Nat)):Bool:=decide ((nr.map (·.1)).Nodup)&&decide ((nr.map (·.2)).Nodup)
theorem uR{nr:List (Nat×Nat)}(hd:(nr.map (·.1)).Nodup){x:Nat×Nat}(hx:x∈nr):(nr.find? fun y=>Nat.beq y.1 x.1)=some x:=by
 induction nr with
 |nil=>cases hx
 |cons z nr ih=>
  rw[List.map_cons,List.nodup_cons]at hd;rcases List.mem_cons.1 hx with e|hx
  ·subst e;simp[List.find?]
  ·have:Nat.beq z.1 x.1=false:=by
    cases hb:Nat.beq z.1 x.1
    ·rfl
    ·exact absurd (List.mem_map.2 ⟨x,hx,(Nat.eq_of_beq_eq_true hb).symm⟩) hd.1
   rw[List.find?_cons,this];exact ih hd.2 hx
theorem find_snd{nr:List (Nat×Nat)}(hd:(nr.map (·.2)).Nodup){x:Nat×Nat}(hx:x∈nr):(nr.find? fun y=>Nat.beq y.2 x.2)=some x:=by
 induction nr with
 |nil=>cases hx
 |cons z nr ih=>
  rw[List.map_cons,List.nodup_cons]at hd;rcases List.mem_cons.1 hx with e|hx
  ·subst e;simp[List.find?]
  ·have:Nat.beq z.2 x.2=false:=by
    cases hb:Nat.beq z.2 x.2
    ·rfl
    ·exact absurd (List.mem_map.2 ⟨x,hx,(Nat.eq_of_beq_eq_true hb).symm⟩) hd.1
   rw[List.find?_cons,this];exact ih hd.2 hx
theorem find_no{α:Type}{p:α→Bool}:∀{l:List α},l.any p=false→l.find? p=none
 |[],_=>rfl
 |x::l,h=>by
  rw[List.any_cons,Bool.or_eq_false_iff]at h;rw[List.find?_cons,h.1];exact find_no h.2
mutual
theorem SV.pls_ren(f:Nat→Nat)(q:Nat→Bool):∀(v:SV),(v.ren f).pls q=v.pls fun p=>q (f p)
 |.val _=>rfl
 |.bool _=>rfl
 |.int _ _=>rfl
 |.ptr l _ _=>rfl
 |.slice l _ _ _=>rfl
 |.map l=>rfl
 |.func _ a b=>by simp only[SV.ren,SV.pls,SV.plss_rens f q a,SV.plss_rens f q b]
 |.iface _ v=>by simp only[SV.ren,SV.pls,SV.pls_ren f q v]
 |.agg l=>by simp only[SV.ren,SV.pls,SV.plss_rens f q l]
 |.tup l=>by simp only[SV.ren,SV.pls,SV.plss_rens f q l]
 |.yield l=>rfl
 |.any=>rfl
theorem SV.plss_rens(f:Nat→Nat)(q:Nat→Bool):∀(l:List SV),SV.plss q (SV.rens f l)=SV.plss (fun p=>q (f p)) l
 |[]=>rfl
 |x::xs=>by simp only[SV.rens,SV.plss,SV.pls_ren f q x,SV.plss_rens f q xs]
end
mutual
theorem SV.pls_mono{q q':Nat→Bool}(hq:∀p,q p=true→q' p=true):∀(v:SV),v.pls q=true→v.pls q'=true
 |.val _,_=>rfl
 |.bool _,_=>rfl
 |.int _ _,_=>rfl
 |.ptr l _ _,h=>hq l h
 |.slice l _ _ _,h=>hq l h
 |.map l,h=>hq l h
 |.func _ a b,h=>by
  simp only[SV.pls,Bool.and_eq_true]at h⊢;exact⟨SV.plss_mono hq a h.1,SV.plss_mono hq b h.2⟩
 |.iface _ v,h=>SV.pls_mono hq v h
 |.agg l,h=>SV.plss_mono hq l h
 |.tup l,h=>SV.plss_mono hq l h
 |.yield l,h=>hq l h
 |.any,_=>rfl
theorem SV.plss_mono{q q':Nat→Bool}(hq:∀p,q p=true→q' p=true):∀(l:List SV),SV.plss q l=true→SV.plss q' l=true
 |[],_=>rfl
 |x::xs,h=>by
  simp only[SV.plss,Bool.and_eq_true]at h⊢;exact⟨SV.pls_mono hq x h.1,SV.plss_mono hq xs h.2⟩
end
theorem SO.pls_told{f:Nat→Nat}{q q':Nat→Bool}{o:SO}(h:o.pls q=true)(hq:∀p,q p=true→q' (f p)=true):(o.ren f).pls q'=true:=by
 cases o<;>first
  |rfl
  |(simp only[SO.ren,SO.pls,SV.plss_rens]at h⊢;exact SV.plss_mono hq _ h)
  |cases h
section
variable{h:H}{own:Nat→Nat}{C:bS}{W:List Int}{nL:Nat}{aD:List Ev}{aL:List Nat}{N:Names}{i t sb nb lr:Nat}{ν:Nat→Nat}{ob:mB}{cs:List Nat}{T:List SO}
theorem r6_mach{S:cI}(hS:cX Tryz.prog S){o8:SO}(h8:o8=.dead∨o8=.ints 3 1 C.PL)(co:Core h own C W nL aD aL N)(he:aD≠[]){k1 k2 k3:Int}{lf bV now sV:SV}(hh:Here h own aL i t sb nb lr N.ns k1 k2 k3 lf now)
 (ma:jJ h own i C.P ν ob)(pG:∀c∈cs,10≤c∧c<990)(oG:cs.Nodup)(hT:TOk ob (rF cs []) cs T)(dM:T.all (SO.pls (xL cs.length))=true)(hTl:T.all SO.lives=true)
 (nI:bV.pls (fun p=>Nat.beq p 9)=true)(hlf':bV.ren (fun _=>lr)=lf)(hnow:sV.pls (xL cs.length)=true)(hnow':(sV.ren (rF cs [])).ren (rv C.P ν)=now)
 {ps:Way}{cds:kB}{n K jl ne:Nat}{ls:List Nat}{os oV:List SO}{eX:List Ev}{W':List Int}{iF:SV}{nr:List (Nat×Nat)}{tl:List (Nat×Nat×SO)}{keep:mB}
 (hP:∀x,follow ps ((R6g S o8 (aV C W nL aD aL N i k1 k2 k3 bV) x (lgP (10+T.length) nL) sV (T++gT nL) (dD 10 T)).bind (cR [4] ls))=some (cds,(SX.ret,[],[SV.bool true],n,oV)))(hc:holds cds)(hwk:rN oV os)
 (rs:Res (aV C W nL aD aL N i k1 k2 k3 bV) (10+(T++gT nL).length) (dD 10 T) ls os n K jl ne eX W' iF)(hn:okNr (10+(T++gT nL).length) jl ne nr=true)(kO:okNd nr=true)(htl:Told ls os cs nr tl)
 (hkeep:∀x∈keep,x∈ob∧x.1∉owned cs T∧x.2.pls (dJ nr)=true∧dJ nr x.1=true)(hnw:iF.pls (okP cs nr)=true)(h6:h.n+K≤1000000):
 ∃h' bZ ν' ne' nl',h'.n=h.n+K∧Sec h h' N.ns i t sb nb∧Core h' bZ C W' (nL+1) eX aL {N with ne:=ne',nl:=nl'}∧wY h h' own bZ i∧
  At h' bZ t (tg i 0) (.cells 74 5 [lf,.int .i64 k1,.int .i64 k2,.int .i64 k3,(iF.ren (rF cs nr)).ren (rv C.P ν')])∧jJ h' bZ i C.P ν' (keep++tl.map (·.2))∧(∀m o,At h own m (tg i 990) o→At h' bZ m (tg i 990) o):=by
 obtain⟨hlen,yE⟩:=hT.at_;have hl10:(qX C N t sb nb lr).length=10:=rfl;have cK:(rest N ν cs nL).length=(T++gT nL).length:=by
  unfold rest;cases nL<;>simp[lnP,gT,hlen]
 have hlgn:nL≠0→nm (pF C N t sb nb lr ν cs nL) (10+T.length)=N.nl:=fun h0=>by
  cases nL with
  |zero=>exact absurd rfl h0
  |succ m=>
   unfold nm pF rest;rw[List.getD_eq_getElem?_getD,List.getElem?_append_right (by rw[hl10];omega),List.getElem?_append_right (by rw[hl10];simp;omega),hl10];simp[lnP,hlen]
 have hlg:(lgP (10+T.length) nL).ren (nm (pF C N t sb nb lr ν cs nL))=lgS N.nl nL:=by
  cases nL with
  |zero=>rfl
  |succ m=>simp only[lgP,lgS,SV.ren];rw[hlgn (by omega)]
 have h9:nm (pF C N t sb nb lr ν cs nL) 9=lr:=rfl;have hlfr:bV.ren (nm (pF C N t sb nb lr ν cs nL))=lf:=by
  rw[←hlf'];exact SV.ren_congr (q:=fun p=>Nat.beq p 9) (fun p hp=>by rw[Nat.eq_of_beq_eq_true hp];exact h9) _ nI
 have eqr:∀p,xL cs.length p=true→rv C.P ν (rF cs [] p)=nm (pF C N t sb nb lr ν cs nL) p:=fun p hp=>(nm_rol pG hp).symm
 have hnowr:sV.ren (nm (pF C N t sb nb lr ν cs nL))=now:=by
  rw[←hnow',SV.ren_ren];exact(SV.ren_congr eqr _ hnow).symm
 have hX:∀x∈dD 10 T,10≤x:=vX T 10;have fl:=base_fit (iF:=sV) (lg:=lgP (10+T.length) nL) (tail:=T++gT nL) (rest:=rest N ν cs nL) co hX h8 he hh hlg hlfr hnowr (tail_fit co ma pG hT dM);have hol:=rs.okls;have hk1000:10+(T++gT nL).length≤1000:=by
  simp only[fO,Bool.and_eq_true]at hol;exact Nat.le_of_ble_eq_true hol.2
 have hobl:((aV C W nL aD aL N i k1 k2 k3 bV).obj8 o8 (lgP (10+T.length) nL) sV (T++gT nL)).length=10+(T++gT nL).length:=by simp only[Env.obj8,List.length_cons];omega
 have ft:=aX fl (names_nodup co he hh ma pG oG hT h8 _) (by rw[hobl];exact hk1000) (by omega);have eK:eU (3::8::9::dD 10 T) ((aV C W nL aD aL N i k1 k2 k3 bV).obj8 o8 (lgP (10+T.length) nL) sV (T++gT nL))=true:=by
  unfold eU;rw[List.all_eq_true,hobl];intro p hp;rw[List.mem_range]at hp;rw[Bool.or_eq_true]
  match p,hp with
  |0,_=>exact .inr rfl
  |1,_=>exact .inr rfl
  |2,_=>exact .inr rfl
  |3,_=>exact .inl (by simp)
  |4,_=>exact .inr rfl
  |5,_=>exact .inr rfl
  |6,_=>exact .inr rfl
  |7,_=>exact .inr rfl
  |8,_=>exact .inl (by simp)
  |9,_=>exact .inl (by simp)
  |p+10,hp=>
   refine .inr ?_;show((T++gT nL).getD p .dead).lives=true;rw[List.getD_eq_getElem?_getD,List.getElem?_eq_getElem (by omega)];simp only[Option.getD_some];have hm:=List.getElem_mem (l:=T++gT nL) (n:=p) (by omega);generalize (T++gT nL)[p]'(by omega)=o at hm;rcases List.mem_append.1 hm with hm|hm
   ·exact List.all_eq_true.1 hTl o hm
   ·cases nL with
    |zero=>cases hm
    |succ m=>simp[gT]at hm;subst hm;rfl
 have o6:Out6 h own C nL aD aL N i t sb nb lr k1 k2 k3 bV W (rest N ν cs nL) (T++gT nL) ls os n K (vY i (10+(T++gT nL).length) jl ne nr) W' eX ne jl iF (dD 10 T):=by
  obtain⟨a,L,g1,g2,g3⟩:=rs.pev;obtain⟨nE,z1,z2⟩:=rs.o0;have hpj:=Nat.le_of_ble_eq_true rs.pjl;refine⟨rs.pre,rs.okls,rs.plen,Nat.le_of_ble_eq_true rs.pK,by rw[z1,z2],rs.o1,rs.o2,rs.o4,rs.plog,⟨a,g1,by rw[g2,g3]⟩,rs.nne,rs.wlen,⟨hpj,by unfold vY;rw[if_pos (by omega)]⟩,?_⟩;have:=rs.pne;simp only[Bool.or_eq_true,Bool.and_eq_true]at this;rcases this with h1|⟨h1,h2⟩
  ·exact .inl (Nat.eq_of_beq_eq_true h1)
  ·have h1:=Nat.le_of_ble_eq_true h1
   exact .inr ⟨h1,by unfold vY;rw[if_neg (by have:=fT h2;omega),if_pos (by omega)]⟩
 have hν:∀j c,cs[j]?=some c→own (ν c)=tg i c∧ν c<h.n:=fun j c hj=>by
  have hl:=(List.getElem?_eq_some_iff.1 hj).1;rcases yE j c (T[j]'(by omega)) hj (List.getElem?_eq_getElem _)with⟨g1,ty,s,k,sm,l,_,g2,_⟩|⟨g1,g2,g3⟩
  ·exact(ma.at_ _ g2).2
  ·exact(ma.at_ _ g2).2
 have uO:∀m∈rest N ν cs nL,own m=5∨∃c,c<1000∧own m=tg i c:=fun m hm=>by
  rcases List.mem_append.1 hm with hm|hm
  ·obtain⟨c,hc,rfl⟩:=List.mem_map.1 hm
   obtain⟨j,hj⟩:=List.mem_iff_getElem?.1 hc;exact .inr ⟨c,by have:=pG c hc;omega,(hν j c hj).1⟩
  ·cases nL with
   |zero=>cases hm
   |succ m=>simp[lnP]at hm;subst hm;exact .inl (co.log (by omega)).2.1
 have hk10:10≤10+(T++gT nL).length:=by omega
 have nxo:∀p,p<10+(T++gT nL).length→nx h.n (10+(T++gT nL).length) [] (pF C N t sb nb lr ν cs nL) p=nm (pF C N t sb nb lr ν cs nL) p:=fun p hp=>by unfold nx;rw[if_pos hp]
 have key:=core6 co he hh o6 hlfr ft eK uO cK (by omega) (SV.ren_congr (q:=fun p=>Nat.beq p 9) (fun p hp=>by
  rw[Nat.eq_of_beq_eq_true hp];exact nxo 9 (by omega)) _ nI)
 obtain⟨c1,c2,c3,c4,c5⟩:=key;generalize hq:nx h.n (10+(T++gT nL).length) [] (qX C N t sb nb lr++rest N ν cs nL)=q at*;have AN:nx h.n (10+(T++gT nL).length) [] (pF C N t sb nb lr ν cs nL)=q:=hq;have nxo:∀p,p<10+(T++gT nL).length→q p=nm (pF C N t sb nb lr ν cs nL) p:=fun p hp=>by rw[←AN];exact nxo p hp
 have hcT:10+cs.length≤10+(T++gT nL).length:=by simp;omega
 simp only[okNd,Bool.and_eq_true,decide_eq_true_eq]at kO;obtain⟨nd1,nd2⟩:=kO;have hnr:∀x∈nr,10+(T++gT nL).length≤x.1∧x.1≠jl∧x.1≠ne∧10≤x.2∧x.2<990:=fun x hx=>by
  have:=List.all_eq_true.1 hn x hx;simp only[Bool.and_eq_true]at this;obtain⟨⟨⟨⟨a1,a2⟩,a3⟩,a4⟩,a5⟩:=this;exact⟨Nat.le_of_ble_eq_true a1,fT a2,fT a3,Nat.le_of_ble_eq_true a4,aF.1 a5⟩
 have old:∀p,10≤p→p<10+cs.length→∃c,cs[p-10]?=some c∧(∀nr,rF cs nr p=c)∧q p=ν c∧10≤c∧c<990∧own (ν c)=tg i c∧ν c<h.n:=fun p h1 h2=>by
  have hj:cs[p-10]?=some (cs[p-10]'(by omega)):=List.getElem?_eq_getElem _;have hr:=pG _ (List.getElem_mem (l:=cs) (n:=p-10) (by omega));refine⟨_,hj,fun nr=>rol_old h1 hj,?_,hr.1,hr.2,(hν _ _ hj).1,(hν _ _ hj).2⟩;rw[nxo p (by omega),←nm_old (C:=C) (N:=N) (t:=t) (sb:=sb) (nb:=nb) (lr:=lr) (ν:=ν) (nL:=nL) hj];congr 1;omega
 have new:∀x∈nr,rF cs nr x.1=x.2∧qT q nr ν x.2=q x.1:=fun x hx=>by
  obtain⟨a1,_⟩:=hnr x hx;constructor
  ·unfold rF
   rw[pE (by omega),List.getElem?_eq_none (by omega),uR nd1 hx]
  ·unfold qT
   rw[find_snd nd2 hx]
 have stay:∀c,(nr.any fun x=>Nat.beq x.2 c)=false→qT q nr ν c=ν c:=fun c hc=>by unfold qT;rw[find_no hc]
 have qI:∀p,okP cs nr p=true→p=8∨(∃c,10≤p∧p<10+cs.length∧cs[p-10]?=some c∧rF cs nr p=c∧q p=ν c∧10≤c∧c<990∧own (ν c)=tg i c∧ν c<h.n∧qT q nr ν c=ν c)∨(∃x∈nr,x.1=p):=fun p hp=>by
  simp only[okP,Bool.or_eq_true,Bool.and_eq_true]at hp;rcases hp with(hp|⟨⟨h1,h2⟩,h3⟩)|hp
  ·exact .inl (Nat.eq_of_beq_eq_true hp)
  ·have h1:=Nat.le_of_ble_eq_true h1
   have h2:=aF.1 h2;obtain⟨c,a1,a2,a3,a4,a5,a6,a7⟩:=old p h1 h2;rw[a2 []]at h3;exact .inr (.inl ⟨c,h1,h2,a1,a2 nr,a3,a4,a5,a6,a7,stay c (by simpa using h3)⟩)
  ·obtain⟨x,hx,e⟩:=List.any_eq_true.1 hp
   exact .inr (.inr ⟨x,hx,Nat.eq_of_beq_eq_true e⟩)
 have hqr:∀p,okP cs nr p=true→q p=rv C.P (qT q nr ν) (rF cs nr p):=fun p hp=>by
  rcases qI p hp with e|⟨c,h1,h2,b1,b2,b3,b4,b5,b6,b7,b8⟩|⟨x,hx,e⟩
  ·subst e;rw[nxo 8 (by omega)];rfl
  ·rw[b2,rv_ne b4,b8,b3]
  ·subst e
   obtain⟨a1,a2⟩:=new x hx;rw[a1,rv_ne (hnr x hx).2.2.2.1,a2]
 have hrole:∀p,okP cs nr p=true→oM (rF cs nr p)=true:=fun p hp=>by
  have mk:∀c,10≤c→c<990→oM c=true:=fun c h1 h2=>by
   unfold oM;rw[Nat.ble_eq_true_of_le h1,aF.2 h2];simp
  rcases qI p hp with e|⟨c,h1,h2,b1,b2,b3,b4,b5,b6,b7,b8⟩|⟨x,hx,e⟩
  ·subst e;rfl
  ·rw[b2];exact mk c b4 b5
  ·subst e
   rw[(new x hx).1];exact mk _ (hnr x hx).2.2.2.1 (hnr x hx).2.2.2.2
 have hR:∀l∈ls,l∉(3::8::9::dD 10 T):=fun l hl hm=>by
  simp only[fO,Bool.and_eq_true]at hol;have:=List.all_eq_true.1 hol.1.1.2 l hl;rw[Bool.and_eq_true]at this;have h2:(3::8::9::dD 10 T).contains l=true:=by simpa using hm
  rw[h2]at this;cases this.2
 have fr3:∀m c,m<h.n→own m=tg i c→10≤c→c<998→c∉owned cs T→(h.lay K (laid q ls os)).get m=h.get m:=fun m c hm ho h1 h2 h3=>by
  refine c5 m hm fun l hl hlk e=>?_
  have hR':=hR l hl;rw[ho]at e;have tgo:∀x,x≤6→tg i c≠x:=fun x hx=>by unfold tg;omega
  rcases Nat.lt_or_ge l 10 with h4|h4
  ·have h3':l≠3:=fun e=>hR' (by simp[e])
   have h8':l≠8:=fun e=>hR' (by simp[e])
   have h9':l≠9:=fun e=>hR' (by simp[e])
   have:l=0∨l=1∨l=2∨l=4∨l=5∨l=6∨l=7:=by omega
   have tgi:∀d,c≠d→tg i c≠tg i d:=fun d hd=>by unfold tg;omega
   rcases this with e'|e'|e'|e'|e'|e'|e'<;>subst e'
   ·exact tgo 0 (by omega) (e.trans co.sched.2.1)
   ·exact tgo 1 (by omega) (e.trans co.mem.2.1)
   ·exact tgo 2 (by omega) (e.trans co.words.2.1)
   ·exact tgo 4 (by omega) (e.trans (co.ev he).2.1)
   ·exact tgi 0 (by omega) (e.trans hh.thr.2.1)
   ·exact tgi 998 (by omega) (e.trans hh.sb.2.1)
   ·exact tgi 999 (by omega) (e.trans hh.nb.2.1)
  ·rcases Nat.lt_or_ge l (10+cs.length)with h5|h5
   ·obtain⟨d,a1,a2,a3,a4,a5,a6,a7⟩:=old l h4 h5
    have e2:nm (qX C N t sb nb lr++rest N ν cs nL) l=ν d:=by
     have:=nxo l (by omega);rw[a3]at this;exact this.symm
    rw[e2,a6]at e;have hcd:c=d:=by unfold tg at e;omega
    subst hcd;have hTl:T[l-10]?=some (T[l-10]'(by omega)):=List.getElem?_eq_getElem _;have:=sP T 10 (l-10) _ hTl;rw[show 10+(l-10)=l by omega]at this;have hs:rS (T[l-10]'(by omega))=false:=by
     rw[←this];cases hb:(dD 10 T).contains l
     ·rfl
     ·exact absurd (show l∈3::8::9::dD 10 T by simp at hb;simp[hb]) hR'
    exact h3 (owned_at a1 hTl hs)
   ·have uE:nL≠0:=fun h0=>by subst h0;simp[gT]at hlk;omega
    have hl':l=10+T.length:=by
     cases nL with
     |zero=>exact absurd rfl uE
     |succ m=>simp[gT]at hlk;omega
    have e2:nm (qX C N t sb nb lr++rest N ν cs nL) l=N.nl:=by rw[hl'];exact hlgn uE
    rw[e2]at e;exact tgo 5 (by omega) (e.trans (co.log uE).2.1)
 refine⟨h.lay K (laid q ls os),gR h.n own (vY i (10+(T++gT nL).length) jl ne nr),qT q nr ν,q ne,q jl,rfl,?_,c1,c2,?_,⟨fun x hx=>?_,fun x hx=>?_,fun x hx=>?_⟩,fun m o ha=>?_⟩
 ·intro m Q ρ a w hr ha hQ
  obtain⟨x,hx⟩:=act_AR (r:=nm (pF C N t sb nb lr ν cs nL)) ha rfl rfl rfl rfl;refine go_code (j:=[]) (K:=K) bW hS (hP x) hc hwk ft eK (by rw[hobl];exact hol) rs.plain (by rw[hobl];exact Nat.le_of_ble_eq_true rs.pK) (by simp) h6 ok12 hx hr fun aW a' w' p1 p2 p3 p4 p5=>?_
  rw[hobl,hq]at p1 p2;refine hQ aW a' w' p1 p2 ?_ (by simpa using p5) p4;simp only[SV.rens,SV.ren,List.map_cons,List.map_nil,bM,VR]at p3;exact p3.1
 ·have e:iF.ren q=(iF.ren (rF cs nr)).ren (rv C.P (qT q nr ν)):=by
   rw[SV.ren_ren];exact SV.ren_congr hqr _ hnw
  rw[←e];exact c3
 ·rcases List.mem_append.1 hx with hx|hx
  ·obtain⟨k1,k2,k3,k4⟩:=hkeep x hx
   have a:=ma.at_ x k1;have r:=ma.rng x k1;have k4':(nr.any fun y=>Nat.beq y.2 x.1)=false:=by
    simp only[dJ,Bool.and_eq_true]at k4;simpa using k4.2
   rw[stay _ k4'];refine⟨?_,by rw[←a.2.1];exact c2.same _ a.2.2,Nat.lt_of_lt_of_le a.2.2 c2.n⟩;rw[fr3 _ x.1 a.2.2 a.2.1 r.1 (by omega) k2,a.1];refine SO.ren_congr (q:=dJ nr) (fun p hp=>?_) k3;simp only[dJ,Bool.and_eq_true]at hp;unfold rv;split
   ·rfl
   ·exact(stay p (by simpa using hp.2)).symm
  ·obtain⟨y,hy,rfl⟩:=List.mem_map.1 hx
   obtain⟨a,o,g1,g2,g3,g4,g5,g6,g7⟩:=htl.at_ y hy;obtain⟨d1,d2,d3,d4⟩:=c4 a y.1 o g1 g2;have g5:=Nat.le_of_ble_eq_true g5;have e:q y.1=qT q nr ν y.2.1∧gR h.n own (vY i (10+(T++gT nL).length) jl ne nr) (q y.1)=tg i y.2.1:=by
    rcases qI y.1 g6 with e|⟨c,h1,h2,b1,b2,b3,b4,b5,b6,b7,b8⟩|⟨x,hx,e⟩
    ·omega
    ·have:c=y.2.1:=by rw[←b2,g4]
     subst this;refine⟨by rw[b3,b8],?_⟩;rw[d3 (by omega)];have e2:nm (qX C N t sb nb lr++rest N ν cs nL) y.1=ν y.2.1:=by
      have:=nxo y.1 (by omega);rw[b3]at this;exact this.symm
     rw[e2,b6]
    ·obtain⟨a1,a2⟩:=new x hx
     obtain⟨f1,f2,f3,f4,f5⟩:=hnr x hx;rw[e]at a1 a2 f1 f2 f3;have:x.2=y.2.1:=by rw[←a1,g4]
     rw[←this];refine⟨a2.symm,?_⟩;rw[d4 f1];unfold vY;rw[show y.1-(10+(T++gT nL).length)+(10+(T++gT nL).length)=y.1 by omega,if_neg f2,if_neg f3,←e,uR nd1 hx]
   refine⟨?_,by rw[←e.1];exact e.2,by rw[←e.1];exact d2⟩;rw[←e.1,d1,←g3,SO.ren_ren g7];exact SO.ren_congr hqr g7
 ·rcases List.mem_append.1 hx with hx|hx
  ·exact ma.rng x (hkeep x hx).1
  ·obtain⟨y,hy,rfl⟩:=List.mem_map.1 hx
   obtain⟨a,o,g1,g2,g3,g4,g5,g6,g7⟩:=htl.at_ y hy;have g5:=Nat.le_of_ble_eq_true g5;rcases qI y.1 g6 with e|⟨c,h1,h2,b1,b2,b3,b4,b5,b6,b7,b8⟩|⟨x,hx,e⟩
   ·omega
   ·have:c=y.2.1:=by rw[←b2,g4]
    subst this;exact⟨b4,b5⟩
   ·obtain⟨a1,a2⟩:=new x hx
    obtain⟨f1,f2,f3,f4,f5⟩:=hnr x hx;rw[e]at a1;have:x.2=y.2.1:=by rw[←a1,g4]
    rw[←this];exact⟨f4,f5⟩
 ·rcases List.mem_append.1 hx with hx|hx
  ·exact ma.pl x (hkeep x hx).1
  ·obtain⟨y,hy,rfl⟩:=List.mem_map.1 hx
   obtain⟨a,o,g1,g2,g3,g4,g5,g6,g7⟩:=htl.at_ y hy;rw[←g3];exact SO.pls_told g7 hrole
 ·have hno:990∉owned cs T:=fun hm=>by
   have sub:∀(cs:List Nat) (T:List SO),∀c∈owned cs T,c∈cs:=by
    intro cs
    induction cs with
    |nil=>intro T c h;simp[owned]at h
    |cons d cs ih=>
     intro T c h;cases T with
     |nil=>simp[owned]at h
     |cons o T=>
      unfold owned at h;split at h
      ·exact List.mem_cons_of_mem _ (ih T c h)
      ·rcases List.mem_cons.1 h with e|h
       ·simp[e]
       ·exact List.mem_cons_of_mem _ (ih T c h)
   have:=pG 990 (sub cs T 990 hm);omega
  exact⟨by rw[fr3 m 990 ha.2.2 ha.2.1 (by omega) (by omega) hno];exact ha.1,by rw[←ha.2.1];exact c2.same _ ha.2.2,Nat.lt_of_lt_of_le ha.2.2 c2.n⟩
end
structure dU(C:bS):Prop where
 st:C.st=1∨C.st=2∨C.st=4∨C.st=8
 ga:1≤C.ga∧C.ga≤1048576
 le:0≤C.le∧C.le≤1048576
 re:1≤C.re∧C.re≤8
 ti:1≤C.ti∧C.ti≤16
 np:1≤C.PL.length∧C.PL.length≤12
 p0:C.PL.getD 0 0=-1
 par:∀i,1≤i→i<C.PL.length→0≤C.PL.getD i 0∧C.PL.getD i 0<(i:Int)
def bH(C:bS)(v:Int):Prop:=0≤v∧v<(C.PL.length:Int)
def dG(C:bS)(v:Int):Int:=aB C.st v+2+C.st
def siz(C:bS):Int:=aB C.st C.PL.length+2*C.ti
def okLive(C:bS)(x:Int):Prop:=(x=1∨x=2∨x=4∨x=8)∧x≤C.st
structure hU(C:bS)(W:List Int):Prop where
 len:(W.length:Int)=siz C
 live:∀v,bH C v→okLive C (W.getD (dG C v+3).toNat 0)
 str:∀v k,bH C v→0≤k→k<C.st→-C.ga<valueOf (W.getD (dG C v+4+k).toNat 0)∧valueOf (W.getD (dG C v+4+k).toNat 0)<C.ga
def safe(C:bS)(j:Int):Prop:=0≤j∧j<siz C∧∀v,bH C v→j≠dG C v+3∧∀k,0≤k→k<C.st→j≠dG C v+4+k
theorem jT{W:List Int}{i j:Nat}{x:Int}(hi:i<W.length):(W.set i x).getD j 0=if i=j then x else W.getD j 0:=by
 rw[List.getD_eq_getElem?_getD,List.getElem?_set,List.getD_eq_getElem?_getD];split
 ·rename_i h;subst h;simp[hi]
 ·rfl
section
variable{C:bS}(ok:dU C)
include ok
theorem vZ{v:Int}(h:bH C v):0≤aB C.st v∧aB C.st v+6+2*C.st≤aB C.st C.PL.length∧aB C.st C.PL.length≤264:=by
 have:=ok.np;obtain⟨h1,h2⟩:=h;unfold aB;rcases ok.st with e|e|e|e<;>rw[e]<;>omega
theorem dC:8≤siz C∧siz C≤300:=by
 have:=ok.np;have:=ok.ti;unfold siz aB;rcases ok.st with e|e|e|e<;>rw[e]<;>omega
theorem eO{v:Int}(h:bH C v):0≤dG C v∧dG C v+4+C.st≤siz C:=by
 have:=vZ ok h;have:=ok.ti;have gA:1≤C.st∧C.st≤8:=by rcases ok.st with e|e|e|e<;>omega
 unfold dG siz;omega
theorem cnt_apart{v u:Int}{a b:Int}(ha:0≤a)(ha':a<4+C.st)(hb:0≤b)(pT:b<4+C.st)(h:dG C v+a=dG C u+b):v=u∧a=b:=by
 unfold dG aB at h;rcases ok.st with e|e|e|e<;>rw[e]at h ha' pT<;>omega
theorem mO{v a:Int}(hv:bH C v)(ha:0≤a)(ha':a<2+C.st+3):safe C (aB C.st v+a):=by
 have hb:=vZ ok hv;have:=ok.ti;refine⟨by omega,?_,fun u hu=>?_⟩
 ·unfold siz;have gA:1≤C.st∧C.st≤8:=by rcases ok.st with e|e|e|e<;>omega
  omega
 ·clear hb
  unfold dG aB;obtain⟨u1,u2⟩:=hu;obtain⟨v1,v2⟩:=hv;rcases ok.st with e|e|e|e<;>simp only[e]at ha'⊢<;>refine⟨by omega,fun k h1 h2=>by omega⟩
theorem fI{a:Int}(ha:0≤a)(ha':a<2*C.ti):safe C (aB C.st C.PL.length+a):=by
 have hn:=ok.np;refine⟨?_,by unfold siz;omega,fun u hu=>?_⟩
 ·unfold aB;rcases ok.st with e|e|e|e<;>rw[e]<;>omega
 ·have:=vZ ok hu
  have gA:1≤C.st∧C.st≤8:=by rcases ok.st with e|e|e|e<;>omega
  unfold dG;refine⟨by omega,fun k h1 h2=>by omega⟩
theorem hU.safe{W:List Int}{j x:Int}(w:hU C W)(hj:safe C j):hU C (W.set j.toNat x):=by
 obtain⟨h1,h2,h3⟩:=hj;have hl:=w.len;have hi:j.toNat<W.length:=by omega
 refine⟨by rw[List.length_set];exact hl,fun v hv=>?_,fun v k hv k1 k2=>?_⟩
 ·have hb:=eO ok hv
  rw[jT hi,if_neg (by have:=(h3 v hv).1;omega)];exact w.live v hv
 ·have hb:=eO ok hv
  rw[jT hi,if_neg (by have:=(h3 v hv).2 k k1 k2;omega)];exact w.str v k hv k1 k2
theorem hU.plus{W:List Int}{j x:Int}(w:hU C W)(hj:Sx.safe C j):hU C (Sx.plus j x W):=hU.safe ok w hj
theorem hU.stripe{W:List Int}{v k x:Int}(w:hU C W)(hv:bH C v)(k1:0≤k)(k2:k<C.st)(hx:-C.ga<valueOf x∧valueOf x<C.ga):hU C (W.set (dG C v+4+k).toNat x):=by
 have hl:=w.len;have hb:=eO ok hv;have hi:(dG C v+4+k).toNat<W.length:=by omega
 refine⟨by rw[List.length_set];exact hl,fun u hu=>?_,fun u m hu m1 m2=>?_⟩
 ·have pT:=eO ok hu
  rw[jT hi,if_neg fun e=>?_]
  ·exact w.live u hu
  ·have:=cnt_apart ok (v:=v) (u:=u) (a:=4+k) (b:=3) (by omega) (by omega) (by omega) (by omega) (by omega)
   omega
 ·have pT:=eO ok hu
  rw[jT hi];split
  ·exact hx
  ·exact w.str u m hu m1 m2
theorem hU.grow{W:List Int}{v x:Int}(w:hU C W)(hv:bH C v)(hx:okLive C x):hU C (W.set (dG C v+3).toNat x):=by
 have hl:=w.len;have hb:=eO ok hv;have hs:1≤C.st:=by rcases ok.st with e|e|e|e<;>omega
 have hi:(dG C v+3).toNat<W.length:=by omega
 refine⟨by rw[List.length_set];exact hl,fun u hu=>?_,fun u m hu m1 m2=>?_⟩
 ·have pT:=eO ok hu
  rw[jT hi];split
  ·exact hx
  ·exact w.live u hu
 ·have pT:=eO ok hu
  rw[jT hi,if_neg fun e=>?_]
  ·exact w.str u m hu m1 m2
  ·have:=cnt_apart ok (v:=v) (u:=u) (a:=3) (b:=4+m) (by omega) (by omega) (by omega) (by omega) (by omega)
   omega
structure tA(C:bS)(s:cG):Prop where
 ex:∃v,bH C v∧s.base=dG C v
 stripes:s.stripes=C.st
 gate:s.gate=C.ga
 d:-1048576≤s.d∧s.d≤1048576
 x:0≤s.x∧s.x≤4294967295
 nf:s.nf=159∨s.nf=174∨s.nf=177∨s.nf=178∨s.nf=181∨s.nf=184∨s.nf=187∨s.nf=185∨s.nf=182
 stripe:s.nf≠159→∃k,0≤k∧k<C.st∧s.stripe=s.base+4+k
 lives:s.nf≠159→okLive C s.lives
 keep:s.nf=177→-C.ga<s.v∧s.v<C.ga
 grow:s.nf=182→s.lives<C.st
theorem add_go{s:cG}{W:List Int}(w:hU C W)(a:tA C s):mN s W∧hU C (bJ s W).2∧(bJ s W).2.length=W.length∧((bJ s W).1.nf=0∨tA C (bJ s W).1):=by
 obtain⟨v,hv,hb⟩:=a.ex;have hl:=w.len;have hcb:=eO ok hv;have hsb:=dC ok;have gA:1≤C.st∧C.st≤8:=by rcases ok.st with e|e|e|e<;>omega
 have hlive:=w.live v hv;have hga:=ok.ga;have pre:mN s W:=⟨by omega,by have:=a.stripes;omega,by have:=a.stripes;omega,by omega,a.d,a.nf,fun h=>by
  obtain⟨k,k1,k2,k3⟩:=a.stripe (by omega);omega,fun h=>⟨a.x.1,by rw[hb];obtain⟨h1,h2⟩:=hlive;omega⟩,fun h=>by
  obtain⟨h1,h2⟩:=a.lives (by omega);omega⟩
 refine⟨pre,?_⟩;obtain⟨base,stripes,gate,d,x,lives,stripe,w0,v0,nf⟩:=s;obtain⟨-,ast,aga,ad,ax,anf,astr,aliv,akeep,agrow⟩:=a;simp only at hb ast aga ad ax anf astr aliv akeep agrow;subst hb;subst ast;subst aga;have glob:∀a:Int,0≤a→a<3→Sx.safe C (dG C v+a):=fun a h1 h2=>by
  have:=mO ok hv (a:=2+C.st+a) (by omega) (by omega);unfold dG;rw[show aB C.st v+2+C.st+a=aB C.st v+(2+C.st+a) by omega];exact this
 have missOK:∀(s:cG),s.base=dG C v→s.stripes=C.st→s.gate=C.ga→s.d=d→(0≤s.x∧s.x≤4294967295)→(∃k,0≤k∧k<C.st∧s.stripe=s.base+4+k)→okLive C s.lives→tA C s.miss:=fun s h1 h2 h3 h4 h5 h6 h7=>by
  unfold cG.miss;split
  ·rename_i cK
   exact⟨⟨v,hv,h1⟩,h2,h3,by simp only;omega,h5,by simp,fun _=>h6,fun _=>h7,by simp,fun _=>by simp only;omega⟩
  ·obtain⟨_,n1,n2⟩:=next_ex s.x
   exact⟨⟨v,hv,h1⟩,h2,h3,by simp only;omega,⟨n1,n2⟩,by simp,by simp,by simp,by simp,by simp⟩
 rcases anf with h|h|h|h|h|h|h|h|h<;>subst h
 ·simp only[bJ]
  refine⟨w,trivial,.inr ⟨⟨v,hv,rfl⟩,rfl,rfl,ad,ax,by simp,fun _=>⟨Int.tmod x (W.getD (dG C v+3).toNat 0),Int.tmod_nonneg _ ax.1,?_,by simp only;omega⟩,fun _=>hlive,by simp,by simp⟩⟩;have:=Int.tmod_lt_of_pos x (show 0<W.getD (dG C v+3).toNat 0 by obtain⟨h1,h2⟩:=hlive;omega);have:=hlive.2;omega
 ·simp only[bJ]
  obtain⟨k,k1,k2,k3⟩:=astr (by omega);have e2:∀(c:Prop) [Decidable c],(if c then 177 else 178)=177∨(if c then 177 else 178)=178:=fun c _=>by split<;>simp
  refine⟨w,trivial,.inr ⟨⟨v,hv,rfl⟩,rfl,rfl,ad,ax,?_,fun _=>⟨k,k1,k2,k3⟩,fun _=>aliv (by omega),fun h=>?_,fun h=>?_⟩⟩
  ·simp only
   rcases e2 ((if 0-(valueOf (W.getD stripe.toNat 0)+d)>valueOf (W.getD stripe.toNat 0)+d then 0-(valueOf (W.getD stripe.toNat 0)+d)else valueOf (W.getD stripe.toNat 0)+d)<C.ga)with e|e<;>omega
  rotate_left
  ·simp only at h
   rcases e2 ((if 0-(valueOf (W.getD stripe.toNat 0)+d)>valueOf (W.getD stripe.toNat 0)+d then 0-(valueOf (W.getD stripe.toNat 0)+d)else valueOf (W.getD stripe.toNat 0)+d)<C.ga)with e|e<;>omega
  simp only at h;by_cases hc:(if 0-(valueOf (W.getD stripe.toNat 0)+d)>valueOf (W.getD stripe.toNat 0)+d then 0-(valueOf (W.getD stripe.toNat 0)+d)else valueOf (W.getD stripe.toNat 0)+d)<C.ga
  ·simp only;split at hc<;>omega
  ·rw[if_neg hc]at h;simp at h
 ·obtain⟨k,k1,k2,k3⟩:=astr (by omega)
  have hk:=akeep rfl;simp only[bJ];split
  ·refine⟨?_,by simp,.inl rfl⟩
   rw[k3];refine hU.stripe ok w hv k1 k2 ?_;rw[(pn_ex w0 v0).2 (by omega) (by omega)];exact hk
  ·exact⟨w,rfl,.inr (missOK _ rfl rfl rfl rfl ax ⟨k,k1,k2,k3⟩ (aliv (by omega)))⟩
 ·simp only[bJ]
  exact⟨hU.plus ok w (glob 1 (by omega) (by omega)),by simp[plus],.inr ⟨⟨v,hv,rfl⟩,rfl,rfl,ad,ax,by simp,fun _=>astr (by omega),fun _=>aliv (by omega),by simp,by simp⟩⟩
 ·obtain⟨k,k1,k2,k3⟩:=astr (by omega)
  simp only[bJ];split
  ·refine⟨?_,by simp,.inr ⟨⟨v,hv,rfl⟩,rfl,rfl,ad,ax,by simp,fun _=>⟨k,k1,k2,k3⟩,fun _=>aliv (by omega),by simp,by simp⟩⟩
   rw[k3];refine hU.stripe ok w hv k1 k2 ?_;rw[(pn_ex w0 0).2 (by omega) (by omega)];omega
  ·exact⟨w,rfl,.inr ⟨⟨v,hv,rfl⟩,rfl,rfl,ad,ax,by simp,fun _=>⟨k,k1,k2,k3⟩,fun _=>aliv (by omega),by simp,by simp⟩⟩
 ·simp only[bJ]
  exact⟨hU.plus ok w (glob 0 (by omega) (by omega)),by simp[plus],.inr ⟨⟨v,hv,rfl⟩,rfl,rfl,ad,ax,by simp,fun _=>astr (by omega),fun _=>aliv (by omega),by simp,by simp⟩⟩
 ·simp only[bJ]
  exact⟨hU.plus ok w (glob 2 (by omega) (by omega)),by simp[plus],.inl (by first|trivial|rfl)⟩
 ·simp only[bJ]
  exact⟨hU.plus ok w (glob 2 (by omega) (by omega)),by simp[plus],.inr (missOK _ rfl rfl rfl rfl ax (astr (by omega)) (aliv (by omega)))⟩
 ·have eK:=aliv (by omega)
  have hgr:=agrow rfl;obtain⟨_,n1,n2⟩:=next_ex x;simp only[bJ];refine⟨?_,by split<;>simp,.inr ⟨⟨v,hv,rfl⟩,rfl,rfl,ad,⟨n1,n2⟩,by simp,by simp,by simp,by simp,by simp⟩⟩;split
  ·refine hU.grow ok w hv ⟨?_,?_⟩
   ·obtain⟨h1,h2⟩:=eK
    rcases ok.st with e|e|e|e<;>omega
   ·obtain⟨h1,h2⟩:=eK
    rcases ok.st with e|e|e|e<;>omega
  ·exact w
structure rT(C:bS)(s:aR):Prop where
 ex:∃v k,bH C v∧0≤k∧k<C.st∧s.avail=aB C.st v+1∧s.lease=aB C.st v+2+k
 nx:s.nx=0∨s.nx=1∨s.nx=2∨s.nx=3∨s.nx=4∨s.nx=5∨s.nx=6
theorem yF{s:aR}{W:List Int}(w:hU C W)(a:rT C s):iN s W∧hU C (aJ s W).2∧(aJ s W).2.length=W.length∧((aJ s W).1.nx=7∨rT C (aJ s W).1)∧(s.nx=0→(aJ s W).1.nx≠7):=by
 obtain⟨v,k,hv,k1,k2,ha,hs⟩:=a.ex;have hl:=w.len;have hsa:Sx.safe C s.avail:=ha▸mO ok hv (by omega) (by omega);have hsl:Sx.safe C s.lease:=by
  rw[hs,show aB C.st v+2+k=aB C.st v+(2+k) by omega];exact mO ok hv (by omega) (by omega)
 have pre:iN s W:=⟨⟨hsa.1,by have:=hsa.2.1;omega⟩,⟨hsl.1,by have:=hsl.2.1;omega⟩,a.nx⟩;refine⟨pre,?_⟩;obtain⟨avail,lease,node,n,limit,nx,had,saw,extra,e1,e2,e3,e4⟩:=s;simp only at ha hs hsa hsl;have mk:∀(s:aR),s.avail=avail→s.lease=lease→(s.nx=0∨s.nx=1∨s.nx=2∨s.nx=3∨s.nx=4∨s.nx=5∨s.nx=6)→rT C s:=fun s h1 h2 h3=>⟨⟨v,k,hv,k1,k2,h1.trans ha,h2.trans hs⟩,h3⟩
 rcases a.nx with h|h|h|h|h|h|h<;>simp only at h<;>subst h<;>simp only[aJ]
 ·refine⟨w,(by first|trivial|rfl),.inr (mk _ rfl rfl (by simp only;split<;>simp)),fun _=>by split<;>simp⟩
 ·split
  ·exact⟨hU.safe ok w hsl,by simp,.inl rfl,by simp⟩
  ·exact⟨w,rfl,.inr (mk _ rfl rfl (by simp)),by simp⟩
 ·split
  ·exact⟨w,rfl,.inl rfl,by simp⟩
  ·exact⟨w,rfl,.inr (mk _ rfl rfl (by simp)),by simp⟩
 ·split
  ·refine⟨hU.safe ok w hsa,by simp,?_,by simp⟩
   by_cases he:(extra==0)=true
   ·exact .inl (by simp only;rw[if_pos he])
   ·exact .inr (mk _ rfl rfl (by simp only;rw[if_neg he];simp))
  ·exact⟨w,rfl,.inr (mk _ rfl rfl (by simp)),by simp⟩
 ·refine⟨w,(by first|trivial|rfl),.inr (mk _ rfl rfl (by simp only;split<;>simp)),by simp⟩
 ·split
  ·exact⟨hU.safe ok w hsl,by simp,.inl rfl,by simp⟩
  ·exact⟨w,rfl,.inr (mk _ rfl rfl (by simp)),by simp⟩
 ·exact⟨hU.plus ok w hsa,by simp[plus],.inl (by first|trivial|rfl),by simp⟩
end
end Go.Proofs.YtnkcbfgfkadoaaaGreat.Sx
