/- Part 20 of the proof of TopPeek. -/
import Derived.Test.YtnkcbfgfkadoaaaGreatX19
set_option linter.all false
namespace Go.Proofs.YtnkcbfgfkadoaaaGreat.Sx
open Go
set_option maxRecDepth 10000
structure tB(h:H)(own:Nat→Nat)(C:bS)(W:List Int)(nL:Nat)(aD:List Ev)(aL:List Nat)(N:Names)(i t sb nb lr:Nat)(k1 k2 k3:Int)(bV:SV)(now:SV)(ob:mB):Prop where
 co:Core h own C W nL aD aL N
 he:aD≠[]
 hh:∃ν,Here h own aL i t sb nb lr N.ns k1 k2 k3 (bV.ren fun _=>lr) (now.ren (rv C.P ν))∧jJ h own i C.P ν ob
 lf:bV.pls (fun p=>Nat.beq p 9)=true
 room:h.n+200≤1000000
 log:nL+1≤100000
 elen:aD.length+1≤1000000
def Lft(h:H)(own:Nat→Nat)(C:bS)(nL:Nat)(aL:List Nat)(N:Names)(i t sb nb lr:Nat)(k1 k2 k3:Int)(bV:SV)(W':List Int)(eX:List Ev)(iF:SV)(ob':mB):Prop:=
 ∃h' bZ ν' ne' nl',h'.n=h.n+200∧Sec h h' N.ns i t sb nb∧Core h' bZ C W' (nL+1) eX aL {N with ne:=ne',nl:=nl'}∧wY h h' own bZ i∧
  At h' bZ t (tg i 0) (.cells 74 5 [bV.ren fun _=>lr,.int .i64 k1,.int .i64 k2,.int .i64 k3,iF.ren (rv C.P ν')])∧jJ h' bZ i C.P ν' ob'∧(∀m o,At h own m (tg i 990) o→At h' bZ m (tg i 990) o)
structure ResE(e:Env)(k:Nat)(X ls:List Nat)(os:List SO)(n K jl ne:Nat)(W':List Int)(at_ a1 a2:Int)(a3:Bool)(a4:Int):Prop where
 pre:∃lsT,ls=0::1::2::4::5::6::7::lsT
 okls:fO k (3::8::9::X) n ls=true
 plen:ls.length=os.length
 plain:os.all SO.plain=true
 pK:Nat.ble (n-k) K=true
 o0:os[0]?=some (e.sO (.slice ne 0 (e.ne+1) none))
 o1:os[1]?=some (bI 2 e.nW e.c (.slice jl 0 (e.nL+1) none))
 o2:os[2]?=some (.ints 3 1 W')
 o4:os[4]?=some (e.tO (.val .nilIface))
 plog:∃a:Nat,ls[a]?=some jl∧os[a]?=some (SO.any 122 5 (e.nL+1))
 pev:∃a:Nat,ls[a]?=some ne∧os[a]?=some (SO.cells 42 10 (List.take (bG e.ne 10) e.E++lB at_ ↑e.tn 2 e.k1 e.k2 e.k3 a1 a2 a3 a4))
 wlen:W'.length=e.nW
 pjl:Nat.ble k jl=true
 pne:(Nat.beq ne 4||(Nat.ble k ne&&!Nat.beq ne jl))=true
theorem iT(aD:List Ev)(v:Ev):List.take (bG aD.length 10) (eH aD)++v.c=eH (aD++[v]):=by
 rw[evsC_app,bT,←lD,List.take_length];simp[eH]
section
variable{h:H}{own:Nat→Nat}{C:bS}{W:List Int}{nL:Nat}{aD:List Ev}{aL:List Nat}{N:Names}{i t sb nb lr:Nat}{k1 k2 k3:Int}{bV now:SV}{ob:mB}
theorem mC{S:cI}(hS:cX Tryz.prog S){o8:SO}(h8:o8=.dead∨o8=.ints 3 1 C.PL)(F:tB h own C W nL aD aL N i t sb nb lr k1 k2 k3 bV now ob)(cs:List Nat)(T:List SO)(sV:SV)(nr:List (Nat×Nat))(tl:List (Nat×Nat×SO))(keep:mB)
 {ps:Way}{cds:kB}{n jl ne:Nat}{ls:List Nat}{oV:List SO}{eX:List Ev}{W':List Int}{iF nowR':SV}(os:List SO){ob':mB}
 (hP:∀x,follow ps ((R6g S o8 (aV C W nL aD aL N i k1 k2 k3 bV) x (lgP (10+T.length) nL) sV (T++gT nL) (dD 10 T)).bind (cR [4] ls))=some (cds,(SX.ret,[],[SV.bool true],n,oV)))(hc:holds cds)(hwk:rN oV os)
 (rs:Res (aV C W nL aD aL N i k1 k2 k3 bV) (10+(T++gT nL).length) (dD 10 T) ls os n 200 jl ne eX W' iF)
 (hT:TOk ob (rF cs []) cs T)(htl:Told ls os cs nr tl)(hkeep:∀x∈keep,x∈ob∧x.1∉owned cs T∧x.2.pls (dJ nr)=true∧dJ nr x.1=true)(hob:∀x∈ob',x∈keep++tl.map (·.2))
 (pG:∀c∈cs,10≤c∧c<990:=by decide)(oG:cs.Nodup:=by decide)(dM:T.all (SO.pls (xL cs.length))=true:=by rfl)(hTl:T.all SO.lives=true:=by rfl)
 (hnow:sV.pls (xL cs.length)=true:=by rfl)(hnow':sV.ren (rF cs [])=now:=by rfl)
 (hn:okNr (10+(T++gT nL).length) jl ne nr=true:=by rfl)(kO:okNd nr=true:=by rfl)
 (hnw:iF.pls (okP cs nr)=true:=by rfl)(hnw':iF.ren (rF cs nr)=nowR':=by rfl):
 Lft h own C nL aL N i t sb nb lr k1 k2 k3 bV W' eX nowR' ob':=by
 obtain⟨co,he,⟨ν,hh,ma⟩,lf,room,log,elen⟩:=F;obtain⟨h',bZ,ν',ne',nl',a1,a2,a3,a4,a5,a6,a7⟩:=r6_mach hS h8 co he hh ma pG oG hT dM hTl lf rfl hnow (by rw[hnow']) hP hc hwk rs hn kO htl hkeep hnw room;exact⟨h',bZ,ν',ne',nl',a1,a2,a3,a4,by rw[←hnw'];exact a5,a6.mono hob,a7⟩
theorem mP{S:cI}(hS:cX Tryz.prog S){o8:SO}(h8:o8=.dead∨o8=.ints 3 1 C.PL)(F:tB h own C W nL aD aL N i t sb nb lr k1 k2 k3 bV now ob)(cs:List Nat)(T:List SO)(sV:SV)
 {ps:Way}{cds:kB}{n jl ne:Nat}{ls:List Nat}{os:List SO}{W':List Int}{at_ a1 a2:Int}{a3:Bool}{a4:Int}
 (hP:∀x,follow ps ((R6g S o8 (aV C W nL aD aL N i k1 k2 k3 bV) x (lgP (10+T.length) nL) sV (T++gT nL) (dD 10 T)).bind (cR [4] ls))=some (cds,(SX.ret,[],[SV.bool true],n,os)))(hc:holds cds)
 (rs:ResE (aV C W nL aD aL N i k1 k2 k3 bV) (10+(T++gT nL).length) (dD 10 T) ls os n 200 jl ne W' at_ a1 a2 a3 a4)
 (hT:TOk ob (rF cs []) cs T)
 (pG:∀c∈cs,10≤c∧c<990:=by decide)(oG:cs.Nodup:=by decide)(dM:T.all (SO.pls (xL cs.length))=true:=by rfl)(hTl:T.all SO.lives=true:=by rfl)
 (hnow:sV.pls (xL cs.length)=true:=by rfl)(hnow':sV.ren (rF cs [])=now:=by rfl):
 Lft h own C nL aL N i t sb nb lr k1 k2 k3 bV W' (aD++[⟨at_,i,2,k1,k2,k3,a1,a2,a3,a4⟩]) (.val .nilIface) []:=by
 obtain⟨a,e1,e2⟩:=rs.pev;exact mC hS h8 F cs T sV [] [] [] os hP hc (.refl _)
  ⟨rs.pre,rs.okls,rs.plen,rs.plain,rs.pK,⟨_,rs.o0,by simp[aV]⟩,rs.o1,rs.o2,rs.o4,rs.plog,⟨a,_,e1,e2,iT aD ⟨at_,i,2,k1,k2,k3,a1,a2,a3,a4⟩⟩,by simp,rs.wlen,rs.pjl,rs.pne⟩
  hT trivial (by simp) (by simp) pG oG dM hTl hnow hnow'
theorem tB.endC(F:tB h own C W nL aD aL N i t sb nb lr k1 k2 k3 bV now ob):holds (endC (aV C W nL aD aL N i k1 k2 k3 bV)):=by
 obtain⟨ν,hh,_⟩:=F.hh;have:=(List.getElem?_eq_some_iff.1 hh.at_).1;have:=F.log;have:=F.elen;refine⟨?_,?_,?_,?_,?_,?_,?_,trivial⟩
 ·simp[aV]
 ·simp[aV];omega
 ·simp[aV,aE]
 ·simp[aV,aE]
 ·exact Nat.ble_eq_true_of_le (by simp[aV];omega)
 ·exact Nat.ble_eq_true_of_le (by simp[aV,aE,bT,lD])
 ·exact Nat.ble_eq_true_of_le (by simp[aV];omega)
theorem tB.endN(F:tB h own C W nL aD aL N i t sb nb lr k1 k2 k3 bV now ob):holds (endN (aV C W nL aD aL N i k1 k2 k3 bV)):=by
 have:=F.endC;exact⟨this.1,this.2.1,this.2.2.1,this.2.2.2.2.2.1,this.2.2.2.2.2.2.1,trivial⟩
theorem tB.inW(F:tB h own C W nL aD aL N i t sb nb lr k1 k2 k3 bV now ob){j:Int}(h1:0≤j)(h2:j<W.length):inW j W.length nL W=true:=dK h1 h2 (by have:=F.log;omega)
theorem inN{W:List Int}{j:Int}(h1:0≤j)(h2:j<W.length):(decide (0≤j)&&decide (j<(W.length:Int))&&Nat.blt j.toNat W.length)=true:=by
 simp only[Bool.and_eq_true,decide_eq_true_eq];exact⟨⟨h1,h2⟩,aF.2 (by omega)⟩
end
theorem qU:∀{l:List SO} (k:Nat) {o o':SO},l[k]?=some o→Wk o o'→rN l (l.set k o')
 |[],_,_,_,h,_=>by simp at h
 |x::l,0,o,o',h,hw=>by
  simp at h;subst h;exact⟨hw,.refl _⟩
 |x::l,k+1,o,o',h,hw=>⟨.refl _,qU k (by simpa using h) hw⟩
theorem nY{n:Int}(h:-4000000000000000000≤n∧n≤4000000000000000000):fits n=true:=by simp only[fits,Bool.and_eq_true,decide_eq_true_eq];omega
def nowV(C:bS)(k2:Int)(V:Int→Prop)(W:List Int)(x:Int):Prop:=V x∨x=W.getD (dG C k2).toNat 0
def BH(h:H)(own:Nat→Nat)(C:bS)(nL:Nat)(aD:List Ev)(aL:List Nat)(N:Names)(i t sb nb lr:Nat)(k1 k2 k3:Int)(bV:SV)(V:Int→Prop)(M:(Int→Prop)→SV→mB→Prop):Prop:=
 ∃W',hU C W'∧((∃iF ob',M (nowV C k2 V W') iF ob'∧Lft h own C nL aL N i t sb nb lr k1 k2 k3 bV W' aD iF ob')∨
  ∃(at_ a1 a2:Int) (a3:Bool) (a4:Int),((k1=5∨k1=6)→a1=0→a3=false→nowV C k2 V W' a2)∧Lft h own C nL aL N i t sb nb lr k1 k2 k3 bV W' (aD++[⟨at_,i,2,k1,k2,k3,a1,a2,a3,a4⟩]) (.val .nilIface) [])
def MShift(C:bS)(nL:Nat)(k1:Int)(now:SV)(ob:mB):Prop:=(k1≠5∧k1≠6)∧∃(r:Bool) (v n saw at_ e1 e2:Int) (e3:Bool) (e4:Int),bH C v∧(1≤n∧n≤1048576)∧(at_=0∨((at_=1∨at_=2)∧0<nL))∧
 now=.iface 140 (.ptr 10 0 0)∧ob=[(10,kC (aB C.st v) (aB C.st v+1) v n saw at_ e1 e2 e3 e4),(11,match r with|true=>jZ 114 115 116|false=>jZ 117 118 119)]
section
variable{h:H}{own:Nat→Nat}{C:bS}{W:List Int}{nL:Nat}{aD:List Ev}{aL:List Nat}{N:Names}{i t sb nb lr:Nat}{k1 k2 k3:Int}{bV now:SV}{ob:mB}{V:Int→Prop}
theorem step_shift(ok:dU C)(w:hU C W)(F:tB h own C W nL aD aL N i t sb nb lr k1 k2 k3 bV now ob)(M:MShift C nL k1 now ob):BH h own C nL aD aL N i t sb nb lr k1 k2 k3 bV V fun _=>MShift C (nL+1) k1:=by
 obtain⟨hk,r,v,n,saw,at_,e1,e2,e3,e4,hv,hn,yE,rfl,rfl⟩:=M;have sl:safe C (aB C.st v):=by have:=mO ok hv (a:=0) (by omega) (by rcases ok.st with e|e|e|e<;>omega);rwa [Int.add_zero]at this
 have sa:safe C (aB C.st v+1):=mO ok hv (a:=1) (by omega) (by rcases ok.st with e|e|e|e<;>omega);have hl:=w.len;have jl:0≤aB C.st v∧aB C.st v<W.length:=⟨sl.1,by have:=sl.2.1;omega⟩;have ja:0≤aB C.st v+1∧aB C.st v+1<W.length:=⟨sa.1,by have:=sa.2.1;omega⟩;have no:∀{X:Prop},(k1=5∨k1=6)→X:=fun h=>(h.elim hk.1 hk.2).elim
 cases r
 ·rcases yE with e|⟨e|e,hL⟩<;>subst e
  ·by_cases c:W.getD (aB C.st v+1).toNat 0<n
   ·cases nL with
    |zero=>exact⟨W,w,.inr ⟨_,_,_,_,_,fun h=>no h,mP aK (.inl rfl) F [10,11] [kC (aB C.st v) (aB C.st v+1) v n saw 0 e1 e2 e3 e4,jZ 117 118 119] (.iface 140 (.ptr 10 0 0)) (fun x=>lower_n_0 (aV C W 0 aD aL N i k1 k2 k3 bV) x (aB C.st v) (aB C.st v+1) v n saw e1 e2 e4 e3) (aG ⟨inN ja.1 ja.2,decide_eq_true c,trivial⟩ F.endN) ⟨⟨_,rfl⟩,rfl,rfl,rfl,rfl,rfl,rfl,rfl,rfl,⟨10,rfl,rfl⟩,⟨9,rfl,rfl⟩,rfl,rfl,rfl⟩ ⟨⟨.head _,rfl⟩,⟨.tail _ (.head _),rfl⟩,trivial⟩⟩⟩
    |succ m=>exact⟨W,w,.inr ⟨_,_,_,_,_,fun h=>no h,mP aK (.inl rfl) F [10,11] [kC (aB C.st v) (aB C.st v+1) v n saw 0 e1 e2 e3 e4,jZ 117 118 119] (.iface 140 (.ptr 10 0 0)) (fun x=>lower_0_0 (aV C W (m+1) aD aL N i k1 k2 k3 bV) x (aB C.st v) (aB C.st v+1) v n saw e1 e2 e4 e3) (aG ⟨F.inW ja.1 ja.2,decide_eq_true c,trivial⟩ F.endC) ⟨⟨_,rfl⟩,rfl,rfl,rfl,rfl,rfl,rfl,rfl,rfl,⟨11,rfl,rfl⟩,⟨10,rfl,rfl⟩,rfl,rfl,rfl⟩ ⟨⟨.head _,rfl⟩,⟨.tail _ (.head _),rfl⟩,trivial⟩⟩⟩
   ·cases nL with
    |zero=>exact⟨W,w,.inl ⟨_,_,⟨hk,false,v,n,_,1,_,_,_,_,hv,hn,.inr ⟨.inl rfl,by omega⟩,rfl,rfl⟩,mC aK (.inl rfl) F [10,11] [kC (aB C.st v) (aB C.st v+1) v n saw 0 e1 e2 e3 e4,jZ 117 118 119] (.iface 140 (.ptr 10 0 0)) [] [(10,10,kC (aB C.st v) (aB C.st v+1) v n (W.getD (aB C.st v+1).toNat 0) 1 e1 e2 e3 e4),(11,11,jZ 117 118 119)] [] _ (fun x=>lower_n_1 (aV C W 0 aD aL N i k1 k2 k3 bV) x (aB C.st v) (aB C.st v+1) v n saw e1 e2 e4 e3) ⟨inN ja.1 ja.2,decide_eq_false c,trivial⟩ (.refl _) ⟨⟨_,rfl⟩,rfl,rfl,rfl,rfl,⟨_,rfl,rfl⟩,rfl,rfl,rfl,⟨9,rfl,rfl⟩,⟨3,_,rfl,rfl,rfl⟩,F.he,rfl,rfl,rfl⟩ ⟨⟨.head _,rfl⟩,⟨.tail _ (.head _),rfl⟩,trivial⟩ ⟨⟨7,_,rfl,rfl,rfl,rfl,rfl,rfl,rfl⟩,⟨8,_,rfl,rfl,rfl,rfl,rfl,rfl,rfl⟩,trivial⟩ (by simp) (fun _ h=>h)⟩⟩
    |succ m=>exact⟨W,w,.inl ⟨_,_,⟨hk,false,v,n,_,1,_,_,_,_,hv,hn,.inr ⟨.inl rfl,by omega⟩,rfl,rfl⟩,mC aK (.inl rfl) F [10,11] [kC (aB C.st v) (aB C.st v+1) v n saw 0 e1 e2 e3 e4,jZ 117 118 119] (.iface 140 (.ptr 10 0 0)) [] [(10,10,kC (aB C.st v) (aB C.st v+1) v n (W.getD (aB C.st v+1).toNat 0) 1 e1 e2 e3 e4),(11,11,jZ 117 118 119)] [] _ (fun x=>lower_0_1 (aV C W (m+1) aD aL N i k1 k2 k3 bV) x (aB C.st v) (aB C.st v+1) v n saw e1 e2 e4 e3) ⟨F.inW ja.1 ja.2,decide_eq_false c,trivial⟩ (.refl _) ⟨⟨_,rfl⟩,rfl,rfl,rfl,rfl,⟨_,rfl,rfl⟩,rfl,rfl,rfl,⟨10,rfl,rfl⟩,⟨3,_,rfl,rfl,rfl⟩,F.he,rfl,rfl,rfl⟩ ⟨⟨.head _,rfl⟩,⟨.tail _ (.head _),rfl⟩,trivial⟩ ⟨⟨7,_,rfl,rfl,rfl,rfl,rfl,rfl,rfl⟩,⟨8,_,rfl,rfl,rfl,rfl,rfl,rfl,rfl⟩,trivial⟩ (by simp) (fun _ h=>h)⟩⟩
  ·obtain⟨m,rfl⟩:=Nat.exists_eq_succ_of_ne_zero (by omega:nL≠0)
   cases c:W.getD (aB C.st v+1).toNat 0==saw
   ·exact⟨W,w,.inl ⟨_,_,⟨hk,false,v,n,_,0,_,_,_,_,hv,hn,.inl rfl,rfl,rfl⟩,mC aK (.inl rfl) F [10,11] [kC (aB C.st v) (aB C.st v+1) v n saw 1 e1 e2 e3 e4,jZ 117 118 119] (.iface 140 (.ptr 10 0 0)) [] [(10,10,kC (aB C.st v) (aB C.st v+1) v n saw 0 e1 e2 e3 e4),(11,11,jZ 117 118 119)] [] _ (fun x=>lower_1_1 (aV C W (m+1) aD aL N i k1 k2 k3 bV) x (aB C.st v) (aB C.st v+1) v n saw e1 e2 e4 e3) ⟨F.inW ja.1 ja.2,c,trivial⟩ (.refl _) ⟨⟨_,rfl⟩,rfl,rfl,rfl,rfl,⟨_,rfl,rfl⟩,rfl,rfl,rfl,⟨10,rfl,rfl⟩,⟨3,_,rfl,rfl,rfl⟩,F.he,rfl,rfl,rfl⟩ ⟨⟨.head _,rfl⟩,⟨.tail _ (.head _),rfl⟩,trivial⟩ ⟨⟨7,_,rfl,rfl,rfl,rfl,rfl,rfl,rfl⟩,⟨8,_,rfl,rfl,rfl,rfl,rfl,rfl,rfl⟩,trivial⟩ (by simp) (fun _ h=>h)⟩⟩
   ·exact⟨_,hU.safe ok w sa,.inl ⟨_,_,⟨hk,false,v,n,_,2,_,_,_,_,hv,hn,.inr ⟨.inr rfl,by omega⟩,rfl,rfl⟩,mC aK (.inl rfl) F [10,11] [kC (aB C.st v) (aB C.st v+1) v n saw 1 e1 e2 e3 e4,jZ 117 118 119] (.iface 140 (.ptr 10 0 0)) [] [(10,10,kC (aB C.st v) (aB C.st v+1) v n saw 2 e1 e2 e3 e4),(11,11,jZ 117 118 119)] [] _ (fun x=>lower_1_0 (aV C W (m+1) aD aL N i k1 k2 k3 bV) x (aB C.st v) (aB C.st v+1) v n saw e1 e2 e4 e3) ⟨F.inW ja.1 ja.2,c,trivial⟩ (.refl _) ⟨⟨_,rfl⟩,rfl,rfl,rfl,rfl,⟨_,rfl,rfl⟩,rfl,rfl,rfl,⟨10,rfl,rfl⟩,⟨3,_,rfl,rfl,rfl⟩,F.he,(by simp[aV]),rfl,rfl⟩ ⟨⟨.head _,rfl⟩,⟨.tail _ (.head _),rfl⟩,trivial⟩ ⟨⟨7,_,rfl,rfl,rfl,rfl,rfl,rfl,rfl⟩,⟨8,_,rfl,rfl,rfl,rfl,rfl,rfl,rfl⟩,trivial⟩ (by simp) (fun _ h=>h)⟩⟩
  ·obtain⟨m,rfl⟩:=Nat.exists_eq_succ_of_ne_zero (by omega:nL≠0)
   exact⟨_,hU.plus ok w sl,.inr ⟨_,_,_,_,_,fun h=>no h,mP aK (.inl rfl) F [10,11] [kC (aB C.st v) (aB C.st v+1) v n saw 2 e1 e2 e3 e4,jZ 117 118 119] (.iface 140 (.ptr 10 0 0)) (fun x=>lower_2_0 (aV C W (m+1) aD aL N i k1 k2 k3 bV) x (aB C.st v) (aB C.st v+1) v n saw e1 e2 e4 e3) (aG ⟨nY (by omega),F.inW jl.1 jl.2,trivial⟩ F.endC) ⟨⟨_,rfl⟩,rfl,rfl,rfl,rfl,rfl,rfl,rfl,rfl,⟨11,rfl,rfl⟩,⟨10,rfl,rfl⟩,(by simp[aV,plus]),rfl,rfl⟩ ⟨⟨.head _,rfl⟩,⟨.tail _ (.head _),rfl⟩,trivial⟩⟩⟩
 ·rcases yE with e|⟨e|e,hL⟩<;>subst e
  ·by_cases c:W.getD (aB C.st v).toNat 0>1099511627776-n
   ·cases nL with
    |zero=>exact⟨W,w,.inr ⟨_,_,_,_,_,fun h=>no h,mP aK (.inl rfl) F [10,11] [kC (aB C.st v) (aB C.st v+1) v n saw 0 e1 e2 e3 e4,jZ 114 115 116] (.iface 140 (.ptr 10 0 0)) (fun x=>raise_n_0 (aV C W 0 aD aL N i k1 k2 k3 bV) x (aB C.st v) (aB C.st v+1) v n saw e1 e2 e4 e3) (aG ⟨inN jl.1 jl.2,nY (by omega),decide_eq_true c,trivial⟩ F.endN) ⟨⟨_,rfl⟩,rfl,rfl,rfl,rfl,rfl,rfl,rfl,rfl,⟨10,rfl,rfl⟩,⟨9,rfl,rfl⟩,rfl,rfl,rfl⟩ ⟨⟨.head _,rfl⟩,⟨.tail _ (.head _),rfl⟩,trivial⟩⟩⟩
    |succ m=>exact⟨W,w,.inr ⟨_,_,_,_,_,fun h=>no h,mP aK (.inl rfl) F [10,11] [kC (aB C.st v) (aB C.st v+1) v n saw 0 e1 e2 e3 e4,jZ 114 115 116] (.iface 140 (.ptr 10 0 0)) (fun x=>raise_0_0 (aV C W (m+1) aD aL N i k1 k2 k3 bV) x (aB C.st v) (aB C.st v+1) v n saw e1 e2 e4 e3) (aG ⟨F.inW jl.1 jl.2,nY (by omega),decide_eq_true c,trivial⟩ F.endC) ⟨⟨_,rfl⟩,rfl,rfl,rfl,rfl,rfl,rfl,rfl,rfl,⟨11,rfl,rfl⟩,⟨10,rfl,rfl⟩,rfl,rfl,rfl⟩ ⟨⟨.head _,rfl⟩,⟨.tail _ (.head _),rfl⟩,trivial⟩⟩⟩
   ·cases nL with
    |zero=>exact⟨W,w,.inl ⟨_,_,⟨hk,true,v,n,_,1,_,_,_,_,hv,hn,.inr ⟨.inl rfl,by omega⟩,rfl,rfl⟩,mC aK (.inl rfl) F [10,11] [kC (aB C.st v) (aB C.st v+1) v n saw 0 e1 e2 e3 e4,jZ 114 115 116] (.iface 140 (.ptr 10 0 0)) [] [(10,10,kC (aB C.st v) (aB C.st v+1) v n (W.getD (aB C.st v).toNat 0) 1 e1 e2 e3 e4),(11,11,jZ 114 115 116)] [] _ (fun x=>raise_n_1 (aV C W 0 aD aL N i k1 k2 k3 bV) x (aB C.st v) (aB C.st v+1) v n saw e1 e2 e4 e3) ⟨inN jl.1 jl.2,nY (by omega),decide_eq_false c,trivial⟩ (.refl _) ⟨⟨_,rfl⟩,rfl,rfl,rfl,rfl,⟨_,rfl,rfl⟩,rfl,rfl,rfl,⟨9,rfl,rfl⟩,⟨3,_,rfl,rfl,rfl⟩,F.he,rfl,rfl,rfl⟩ ⟨⟨.head _,rfl⟩,⟨.tail _ (.head _),rfl⟩,trivial⟩ ⟨⟨7,_,rfl,rfl,rfl,rfl,rfl,rfl,rfl⟩,⟨8,_,rfl,rfl,rfl,rfl,rfl,rfl,rfl⟩,trivial⟩ (by simp) (fun _ h=>h)⟩⟩
    |succ m=>exact⟨W,w,.inl ⟨_,_,⟨hk,true,v,n,_,1,_,_,_,_,hv,hn,.inr ⟨.inl rfl,by omega⟩,rfl,rfl⟩,mC aK (.inl rfl) F [10,11] [kC (aB C.st v) (aB C.st v+1) v n saw 0 e1 e2 e3 e4,jZ 114 115 116] (.iface 140 (.ptr 10 0 0)) [] [(10,10,kC (aB C.st v) (aB C.st v+1) v n (W.getD (aB C.st v).toNat 0) 1 e1 e2 e3 e4),(11,11,jZ 114 115 116)] [] _ (fun x=>raise_0_1 (aV C W (m+1) aD aL N i k1 k2 k3 bV) x (aB C.st v) (aB C.st v+1) v n saw e1 e2 e4 e3) ⟨F.inW jl.1 jl.2,nY (by omega),decide_eq_false c,trivial⟩ (.refl _) ⟨⟨_,rfl⟩,rfl,rfl,rfl,rfl,⟨_,rfl,rfl⟩,rfl,rfl,rfl,⟨10,rfl,rfl⟩,⟨3,_,rfl,rfl,rfl⟩,F.he,rfl,rfl,rfl⟩ ⟨⟨.head _,rfl⟩,⟨.tail _ (.head _),rfl⟩,trivial⟩ ⟨⟨7,_,rfl,rfl,rfl,rfl,rfl,rfl,rfl⟩,⟨8,_,rfl,rfl,rfl,rfl,rfl,rfl,rfl⟩,trivial⟩ (by simp) (fun _ h=>h)⟩⟩
  ·obtain⟨m,rfl⟩:=Nat.exists_eq_succ_of_ne_zero (by omega:nL≠0)
   cases c:W.getD (aB C.st v).toNat 0==saw
   ·exact⟨W,w,.inl ⟨_,_,⟨hk,true,v,n,_,0,_,_,_,_,hv,hn,.inl rfl,rfl,rfl⟩,mC aK (.inl rfl) F [10,11] [kC (aB C.st v) (aB C.st v+1) v n saw 1 e1 e2 e3 e4,jZ 114 115 116] (.iface 140 (.ptr 10 0 0)) [] [(10,10,kC (aB C.st v) (aB C.st v+1) v n saw 0 e1 e2 e3 e4),(11,11,jZ 114 115 116)] [] _ (fun x=>raise_1_1 (aV C W (m+1) aD aL N i k1 k2 k3 bV) x (aB C.st v) (aB C.st v+1) v n saw e1 e2 e4 e3) ⟨F.inW jl.1 jl.2,c,trivial⟩ (.refl _) ⟨⟨_,rfl⟩,rfl,rfl,rfl,rfl,⟨_,rfl,rfl⟩,rfl,rfl,rfl,⟨10,rfl,rfl⟩,⟨3,_,rfl,rfl,rfl⟩,F.he,rfl,rfl,rfl⟩ ⟨⟨.head _,rfl⟩,⟨.tail _ (.head _),rfl⟩,trivial⟩ ⟨⟨7,_,rfl,rfl,rfl,rfl,rfl,rfl,rfl⟩,⟨8,_,rfl,rfl,rfl,rfl,rfl,rfl,rfl⟩,trivial⟩ (by simp) (fun _ h=>h)⟩⟩
   ·exact⟨_,hU.safe ok w sl,.inl ⟨_,_,⟨hk,true,v,n,_,2,_,_,_,_,hv,hn,.inr ⟨.inr rfl,by omega⟩,rfl,rfl⟩,mC aK (.inl rfl) F [10,11] [kC (aB C.st v) (aB C.st v+1) v n saw 1 e1 e2 e3 e4,jZ 114 115 116] (.iface 140 (.ptr 10 0 0)) [] [(10,10,kC (aB C.st v) (aB C.st v+1) v n saw 2 e1 e2 e3 e4),(11,11,jZ 114 115 116)] [] _ (fun x=>raise_1_0 (aV C W (m+1) aD aL N i k1 k2 k3 bV) x (aB C.st v) (aB C.st v+1) v n saw e1 e2 e4 e3) ⟨F.inW jl.1 jl.2,c,trivial⟩ (.refl _) ⟨⟨_,rfl⟩,rfl,rfl,rfl,rfl,⟨_,rfl,rfl⟩,rfl,rfl,rfl,⟨10,rfl,rfl⟩,⟨3,_,rfl,rfl,rfl⟩,F.he,(by simp[aV]),rfl,rfl⟩ ⟨⟨.head _,rfl⟩,⟨.tail _ (.head _),rfl⟩,trivial⟩ ⟨⟨7,_,rfl,rfl,rfl,rfl,rfl,rfl,rfl⟩,⟨8,_,rfl,rfl,rfl,rfl,rfl,rfl,rfl⟩,trivial⟩ (by simp) (fun _ h=>h)⟩⟩
  ·obtain⟨m,rfl⟩:=Nat.exists_eq_succ_of_ne_zero (by omega:nL≠0)
   exact⟨_,hU.plus ok w sa,.inr ⟨_,_,_,_,_,fun h=>no h,mP aK (.inl rfl) F [10,11] [kC (aB C.st v) (aB C.st v+1) v n saw 2 e1 e2 e3 e4,jZ 114 115 116] (.iface 140 (.ptr 10 0 0)) (fun x=>raise_2_0 (aV C W (m+1) aD aL N i k1 k2 k3 bV) x (aB C.st v) (aB C.st v+1) v n saw e1 e2 e4 e3) (aG ⟨F.inW ja.1 ja.2,trivial⟩ F.endC) ⟨⟨_,rfl⟩,rfl,rfl,rfl,rfl,rfl,rfl,rfl,rfl,⟨11,rfl,rfl⟩,⟨10,rfl,rfl⟩,(by simp[aV,plus]),rfl,rfl⟩ ⟨⟨.head _,rfl⟩,⟨.tail _ (.head _),rfl⟩,trivial⟩⟩⟩
end
def pkO(base e1 e2:Int)(e3:Bool)(e4:Int):SO:=pD base 0 0 (.func (.func 149) [] [.ptr 11 0 0]) (.func (.func 150) [] [.ptr 12 0 0]) e1 e2 e3 e4 false
def ctO(base:Int)(st:Nat)(left e1 e2:Int)(e3:Bool)(e4:Int):SO:=pD base st left (.func (.func 167) [] [.ptr 11 0 0,.ptr 12 0 0]) (.func (.func 168) [] [.ptr 12 0 0,.ptr 11 0 0,.ptr 13 0 0]) e1 e2 e3 e4 false
def MPeek(C:bS)(k2:Int)(now:SV)(ob:mB):Prop:=bH C k2∧∃(e1 e2:Int) (e3:Bool) (e4:Int),now=.iface 142 (.ptr 10 0 0)∧ob=[(10,pkO (dG C k2) e1 e2 e3 e4),(11,.cells 3 1 [.int .i64 (dG C k2)]),(12,.cells 142 1 [.ptr 10 0 0])]
def MCount(C:bS)(nL:Nat)(V:Int→Prop)(k2:Int)(now:SV)(ob:mB):Prop:=bH C k2∧∃(st:Nat) (left e1 e2:Int) (e3:Bool) (e4:Int) (G:List Int),(st:Int)=C.st∧now=.iface 142 (.ptr 10 0 0)∧G.length<4+2*st∧(3≤G.length→V (G.getD 2 0))∧(G≠[]→0<nL)∧
 ob=(10,ctO (dG C k2) st left e1 e2 e3 e4)::(11,.cells 22 1 [.slice 14 0 (4+2*st) none])::(12,.cells 22 1 [match G with|[]=>aC|_=>.slice 15 0 G.length none])::(13,.cells 142 1 [.ptr 10 0 0])::(14,.ints 3 1 (dA (dG C k2) st))::(match G with|[]=>[]|_=>[(15,.ints 3 1 G)])
theorem mQ(base:Int)(st:Nat):(dA base st).length=4+2*st:=by simp[dA];omega
theorem ordL_at(base:Int)(st j:Nat)(hj:j<4+2*st):base≤(dA base st).getD j 0∧(dA base st).getD j 0<base+4+st∨(dA base st).getD j 0<base+3∧base≤(dA base st).getD j 0:=by
 have hl:=mQ base st;rw[List.getD_eq_getElem?_getD,List.getElem?_eq_getElem (by omega)];simp only[Option.getD_some];have hm:=List.getElem_mem (l:=dA base st) (n:=j) (by omega);generalize (dA base st)[j]'(by omega)=x at hm;simp only[dA,List.mem_append,List.mem_cons,List.mem_map,List.mem_range,List.not_mem_nil,or_false]at hm;rcases hm with(h|h|h)|⟨k,hk,h⟩|h|⟨k,hk,h⟩<;>omega
theorem got_len{W O G:List Int}{n:Nat}(h:G.length=n):(pW W O n G).length=n+1:=by
 unfold pW;rw[bT];simp[h]
theorem got_eq{W O G:List Int}{n:Nat}(h:G.length=n):pW W O n G=G++[W.getD (O.getD n 0).toNat 0]:=by
 unfold pW;rw[bT,Nat.mul_one,←h,List.take_length];rfl
section
variable{h:H}{own:Nat→Nat}{C:bS}{W:List Int}{nL:Nat}{aD:List Ev}{aL:List Nat}{N:Names}{i t sb nb lr:Nat}{k1 k2 k3:Int}{bV now:SV}{ob:mB}{V:Int→Prop}
theorem step_peek(ok:dU C)(w:hU C W)(F:tB h own C W nL aD aL N i t sb nb lr k1 k2 k3 bV now ob)(M:MPeek C k2 now ob){M':(Int→Prop)→SV→mB→Prop}:BH h own C nL aD aL N i t sb nb lr k1 k2 k3 bV V M':=by
 obtain⟨hv,e1,e2,e3,e4,rfl,rfl⟩:=M;have hl:=w.len;have hb:=eO ok hv;have hs:=dC ok;have gA:1≤C.st∧C.st≤8:=by rcases ok.st with e|e|e|e<;>omega
 have hz:W.getD (dG C k2+0).toNat 0=W.getD (dG C k2).toNat 0:=by rw[Int.add_zero]
 cases nL with
 |zero=>exact⟨W,w,.inr ⟨_,_,_,_,_,fun _ _ _=>.inr hz,mP aK (.inl rfl) F [10,11,12] [pkO (dG C k2) e1 e2 e3 e4,.cells 3 1 [.int .i64 (dG C k2)],.cells 142 1 [.ptr 10 0 0]] (.iface 142 (.ptr 10 0 0)) (fun x=>peek_n_0 (aV C W 0 aD aL N i k1 k2 k3 bV) x (dG C k2) e1 e2 e4 e3) (aG ⟨nY (by omega),inN (by omega) (by omega),trivial⟩ F.endN) ⟨⟨_,rfl⟩,rfl,rfl,rfl,rfl,rfl,rfl,rfl,rfl,⟨11,rfl,rfl⟩,⟨10,rfl,rfl⟩,rfl,rfl,rfl⟩ ⟨⟨.head _,rfl⟩,⟨.tail _ (.head _),rfl⟩,⟨.tail _ (.tail _ (.head _)),rfl⟩,trivial⟩⟩⟩
 |succ m=>exact⟨W,w,.inr ⟨_,_,_,_,_,fun _ _ _=>.inr hz,mP aK (.inl rfl) F [10,11,12] [pkO (dG C k2) e1 e2 e3 e4,.cells 3 1 [.int .i64 (dG C k2)],.cells 142 1 [.ptr 10 0 0]] (.iface 142 (.ptr 10 0 0)) (fun x=>peek_0 (aV C W (m+1) aD aL N i k1 k2 k3 bV) x (dG C k2) e1 e2 e4 e3) (aG ⟨nY (by omega),F.inW (by omega) (by omega),trivial⟩ F.endC) ⟨⟨_,rfl⟩,rfl,rfl,rfl,rfl,rfl,rfl,rfl,rfl,⟨12,rfl,rfl⟩,⟨11,rfl,rfl⟩,rfl,rfl,rfl⟩ ⟨⟨.head _,rfl⟩,⟨.tail _ (.head _),rfl⟩,⟨.tail _ (.tail _ (.head _)),rfl⟩,trivial⟩⟩⟩
theorem cS{a b:Int}(h:a≠b):(a==b)=false:=by simp[h]
theorem step_count(ok:dU C)(w:hU C W)(F:tB h own C W nL aD aL N i t sb nb lr k1 k2 k3 bV now ob)(M:MCount C nL V k2 now ob):BH h own C nL aD aL N i t sb nb lr k1 k2 k3 bV V fun V=>MCount C (nL+1) V k2:=by
 obtain⟨hv,st,left,e1,e2,e3,e4,G,gA,rfl,hG,hV,hL,rfl⟩:=M;have hl:=w.len;have hb:=eO ok hv;have hs:=dC ok;have hst':1≤C.st∧C.st≤8:=by rcases ok.st with e|e|e|e<;>omega
 have inO:∀j,j<4+2*st→0≤(dA (dG C k2) st).getD j 0∧(dA (dG C k2) st).getD j 0<W.length:=fun j hj=>by
  have:=ordL_at (dG C k2) st j hj;omega
 cases G with
 |nil=>
  have AZ:=inO 0 (by omega);cases nL with
  |zero=>exact⟨W,w,.inl ⟨_,_,⟨hv,st,left,e1,e2,e3,e4,[W.getD ((dA (dG C k2) st).getD 0 0).toNat 0],gA,rfl,by simp;omega,by simp,by omega,rfl⟩,mC aK (.inl rfl) F [10,11,12,13,14] [ctO (dG C k2) st left e1 e2 e3 e4,.cells 22 1 [.slice 14 0 (4+2*st) none],.cells 22 1 [aC],.cells 142 1 [.ptr 10 0 0],.ints 3 1 (dA (dG C k2) st)] (.iface 142 (.ptr 10 0 0)) [(20,15)] [(10,10,ctO (dG C k2) st left e1 e2 e3 e4),(11,11,.cells 22 1 [.slice 14 0 (4+2*st) none]),(12,12,.cells 22 1 [.slice 15 0 1 none]),(13,13,.cells 142 1 [.ptr 10 0 0]),(14,14,.ints 3 1 (dA (dG C k2) st)),(20,15,.ints 3 1 [W.getD ((dA (dG C k2) st).getD 0 0).toNat 0])] [] _ (fun x=>count_n_1 (aV C W 0 aD aL N i k1 k2 k3 bV) x (dG C k2) left e1 e2 e4 e3 st (dA (dG C k2) st)) ⟨decide_eq_true (by omega),aF.2 (by rw[mQ];show 0<_;omega),inN AZ.1 AZ.2,cS (by omega),trivial⟩ (qU 13 rfl (qG _ _ [_])) ⟨⟨_,rfl⟩,rfl,rfl,rfl,rfl,⟨_,rfl,rfl⟩,rfl,rfl,rfl,⟨12,rfl,rfl⟩,⟨3,_,rfl,rfl,rfl⟩,F.he,rfl,rfl,rfl⟩ ⟨⟨.head _,rfl⟩,⟨.tail _ (.head _),rfl⟩,⟨.tail _ (.tail _ (.head _)),rfl⟩,⟨.tail _ (.tail _ (.tail _ (.head _))),rfl⟩,⟨.tail _ (.tail _ (.tail _ (.tail _ (.head _)))),rfl⟩,trivial⟩ ⟨⟨7,_,rfl,rfl,rfl,rfl,rfl,rfl,rfl⟩,⟨8,_,rfl,rfl,rfl,rfl,rfl,rfl,rfl⟩,⟨9,_,rfl,rfl,rfl,rfl,rfl,rfl,rfl⟩,⟨10,_,rfl,rfl,rfl,rfl,rfl,rfl,rfl⟩,⟨11,_,rfl,rfl,rfl,rfl,rfl,rfl,rfl⟩,⟨13,_,rfl,rfl,rfl,rfl,rfl,rfl,rfl⟩,trivial⟩ (by simp) (fun _ h=>h)⟩⟩
  |succ m=>exact⟨W,w,.inl ⟨_,_,⟨hv,st,left,e1,e2,e3,e4,[W.getD ((dA (dG C k2) st).getD 0 0).toNat 0],gA,rfl,by simp;omega,by simp,by omega,rfl⟩,mC aK (.inl rfl) F [10,11,12,13,14] [ctO (dG C k2) st left e1 e2 e3 e4,.cells 22 1 [.slice 14 0 (4+2*st) none],.cells 22 1 [aC],.cells 142 1 [.ptr 10 0 0],.ints 3 1 (dA (dG C k2) st)] (.iface 142 (.ptr 10 0 0)) [(21,15)] [(10,10,ctO (dG C k2) st left e1 e2 e3 e4),(11,11,.cells 22 1 [.slice 14 0 (4+2*st) none]),(12,12,.cells 22 1 [.slice 15 0 1 none]),(13,13,.cells 142 1 [.ptr 10 0 0]),(14,14,.ints 3 1 (dA (dG C k2) st)),(21,15,.ints 3 1 [W.getD ((dA (dG C k2) st).getD 0 0).toNat 0])] [] _ (fun x=>count_0_1 (aV C W (m+1) aD aL N i k1 k2 k3 bV) x (dG C k2) left e1 e2 e4 e3 st (dA (dG C k2) st)) ⟨decide_eq_true (by omega),aF.2 (by rw[mQ];show 0<_;omega),F.inW AZ.1 AZ.2,cS (by omega),trivial⟩ (qU 14 rfl (qG _ _ [_])) ⟨⟨_,rfl⟩,rfl,rfl,rfl,rfl,⟨_,rfl,rfl⟩,rfl,rfl,rfl,⟨13,rfl,rfl⟩,⟨3,_,rfl,rfl,rfl⟩,F.he,rfl,rfl,rfl⟩ ⟨⟨.head _,rfl⟩,⟨.tail _ (.head _),rfl⟩,⟨.tail _ (.tail _ (.head _)),rfl⟩,⟨.tail _ (.tail _ (.tail _ (.head _))),rfl⟩,⟨.tail _ (.tail _ (.tail _ (.tail _ (.head _)))),rfl⟩,trivial⟩ ⟨⟨7,_,rfl,rfl,rfl,rfl,rfl,rfl,rfl⟩,⟨8,_,rfl,rfl,rfl,rfl,rfl,rfl,rfl⟩,⟨9,_,rfl,rfl,rfl,rfl,rfl,rfl,rfl⟩,⟨10,_,rfl,rfl,rfl,rfl,rfl,rfl,rfl⟩,⟨11,_,rfl,rfl,rfl,rfl,rfl,rfl,rfl⟩,⟨14,_,rfl,rfl,rfl,rfl,rfl,rfl,rfl⟩,trivial⟩ (by simp) (fun _ h=>h)⟩⟩
 |cons g G=>
  obtain⟨m,rfl⟩:=Nat.exists_eq_succ_of_ne_zero (by have:=hL (by simp);omega:nL≠0);have AZ:=inO _ hG;have h0:decide ((0:Int)≤((g::G).length:Int))=true:=decide_eq_true (Int.natCast_nonneg _);by_cases tC:(g::G).length+1=4+2*st
  ·have hz:((((g::G).length+1:Nat):Int)==((4+2*st:Nat):Int))=true:=by rw[tC];simp
   have nN:decide (((st:Int)=1∨(st:Int)=2∨(st:Int)=4∨(st:Int)=8)∧0≤dG C k2∧dG C k2≤100000∧List.length (pW W (dA (dG C k2) st) (g::G).length (g::G))=4+2*st∧(g::G).length+1=4+2*st)=true:=
    decide_eq_true ⟨by rw[gA];exact ok.st,by omega,by omega,by rw[got_len rfl];exact tC,tC⟩
   have h2:(pW W (dA (dG C k2) st) (g::G).length (g::G)).getD 2 0=(g::G).getD 2 0:=by
    rw[got_eq rfl,List.getD_eq_getElem?_getD,List.getElem?_append_left (by omega),List.getD_eq_getElem?_getD]
   cases c1:(clP (pW W (dA (dG C k2) st) (g::G).length (g::G))&&clQ st (pW W (dA (dG C k2) st) (g::G).length (g::G))&&clE st (pW W (dA (dG C k2) st) (g::G).length (g::G)))
   ·cases c2:(fX left==0)
    ·exact⟨W,w,.inl ⟨_,_,⟨hv,st,fX left,e1,e2,e3,e4,[],gA,rfl,by simp;omega,by simp,by simp,rfl⟩,mC aK (.inl rfl) F [10,11,12,13,14,15] [ctO (dG C k2) st left e1 e2 e3 e4,.cells 22 1 [.slice 14 0 (4+2*st) none],.cells 22 1 [.slice 15 0 (g::G).length none],.cells 142 1 [.ptr 10 0 0],.ints 3 1 (dA (dG C k2) st),.ints 3 1 (g::G)] (.iface 142 (.ptr 10 0 0)) [(28,11),(25,12),(27,13),(26,14)] [(10,10,ctO (dG C k2) st (fX left) e1 e2 e3 e4),(28,11,.cells 22 1 [.slice 14 0 (4+2*st) none]),(25,12,.cells 22 1 [aC]),(27,13,.cells 142 1 [.ptr 10 0 0]),(26,14,.ints 3 1 (dA (dG C k2) st))] [] _ (fun x=>count_1_2 (aV C W (m+1) aD aL N i k1 k2 k3 bV) x (dG C k2) left e1 e2 e4 e3 st (dA (dG C k2) st) (g::G).length (g::G)) ⟨h0,decide_eq_true (by omega),aF.2 (by rw[mQ];exact hG),F.inW AZ.1 AZ.2,Nat.ble_eq_true_of_le (by rw[bT,Nat.mul_one];exact Nat.le_refl _),Nat.ble_eq_true_of_le (by omega),hz,nN,c1,c2,trivial⟩ (.refl _) ⟨⟨_,rfl⟩,rfl,rfl,rfl,rfl,⟨_,rfl,rfl⟩,rfl,rfl,rfl,⟨14,rfl,rfl⟩,⟨3,_,rfl,rfl,rfl⟩,F.he,rfl,rfl,rfl⟩ ⟨⟨.head _,rfl⟩,⟨.tail _ (.head _),rfl⟩,⟨.tail _ (.tail _ (.head _)),rfl⟩,⟨.tail _ (.tail _ (.tail _ (.head _))),rfl⟩,⟨.tail _ (.tail _ (.tail _ (.tail _ (.head _)))),rfl⟩,⟨.tail _ (.tail _ (.tail _ (.tail _ (.tail _ (.head _))))),rfl⟩,trivial⟩ ⟨⟨7,_,rfl,rfl,rfl,rfl,rfl,rfl,rfl⟩,⟨15,_,rfl,rfl,rfl,rfl,rfl,rfl,rfl⟩,⟨16,_,rfl,rfl,rfl,rfl,rfl,rfl,rfl⟩,⟨17,_,rfl,rfl,rfl,rfl,rfl,rfl,rfl⟩,⟨19,_,rfl,rfl,rfl,rfl,rfl,rfl,rfl⟩,trivial⟩ (by simp) (fun _ h=>h)⟩⟩
    ·exact⟨W,w,.inr ⟨_,_,_,_,_,(fun _ _ _=>.inl (Eq.mpr (congrArg V h2) (hV (by omega)))),mP aK (.inl rfl) F [10,11,12,13,14,15] [ctO (dG C k2) st left e1 e2 e3 e4,.cells 22 1 [.slice 14 0 (4+2*st) none],.cells 22 1 [.slice 15 0 (g::G).length none],.cells 142 1 [.ptr 10 0 0],.ints 3 1 (dA (dG C k2) st),.ints 3 1 (g::G)] (.iface 142 (.ptr 10 0 0)) (fun x=>count_1_1 (aV C W (m+1) aD aL N i k1 k2 k3 bV) x (dG C k2) left e1 e2 e4 e3 st (dA (dG C k2) st) (g::G).length (g::G)) (aG ⟨h0,decide_eq_true (by omega),aF.2 (by rw[mQ];exact hG),F.inW AZ.1 AZ.2,Nat.ble_eq_true_of_le (by rw[bT,Nat.mul_one];exact Nat.le_refl _),Nat.ble_eq_true_of_le (by omega),hz,nN,c1,c2,trivial⟩ F.endC) ⟨⟨_,rfl⟩,rfl,rfl,rfl,rfl,rfl,rfl,rfl,rfl,⟨15,rfl,rfl⟩,⟨14,rfl,rfl⟩,rfl,rfl,rfl⟩ ⟨⟨.head _,rfl⟩,⟨.tail _ (.head _),rfl⟩,⟨.tail _ (.tail _ (.head _)),rfl⟩,⟨.tail _ (.tail _ (.tail _ (.head _))),rfl⟩,⟨.tail _ (.tail _ (.tail _ (.tail _ (.head _)))),rfl⟩,⟨.tail _ (.tail _ (.tail _ (.tail _ (.tail _ (.head _))))),rfl⟩,trivial⟩⟩⟩
   ·exact⟨W,w,.inr ⟨_,_,_,_,_,(fun _ _ h=>(by cases h)),mP aK (.inl rfl) F [10,11,12,13,14,15] [ctO (dG C k2) st left e1 e2 e3 e4,.cells 22 1 [.slice 14 0 (4+2*st) none],.cells 22 1 [.slice 15 0 (g::G).length none],.cells 142 1 [.ptr 10 0 0],.ints 3 1 (dA (dG C k2) st),.ints 3 1 (g::G)] (.iface 142 (.ptr 10 0 0)) (fun x=>count_1_0 (aV C W (m+1) aD aL N i k1 k2 k3 bV) x (dG C k2) left e1 e2 e4 e3 st (dA (dG C k2) st) (g::G).length (g::G)) (aG ⟨h0,decide_eq_true (by omega),aF.2 (by rw[mQ];exact hG),F.inW AZ.1 AZ.2,Nat.ble_eq_true_of_le (by rw[bT,Nat.mul_one];exact Nat.le_refl _),Nat.ble_eq_true_of_le (by omega),hz,nN,c1,trivial⟩ F.endC) ⟨⟨_,rfl⟩,rfl,rfl,rfl,rfl,rfl,rfl,rfl,rfl,⟨15,rfl,rfl⟩,⟨14,rfl,rfl⟩,rfl,rfl,rfl⟩ ⟨⟨.head _,rfl⟩,⟨.tail _ (.head _),rfl⟩,⟨.tail _ (.tail _ (.head _)),rfl⟩,⟨.tail _ (.tail _ (.tail _ (.head _))),rfl⟩,⟨.tail _ (.tail _ (.tail _ (.tail _ (.head _)))),rfl⟩,⟨.tail _ (.tail _ (.tail _ (.tail _ (.tail _ (.head _))))),rfl⟩,trivial⟩⟩⟩
  ·have hz:((((g::G).length+1:Nat):Int)==((4+2*st:Nat):Int))=false:=by simp only[beq_eq_false_iff_ne];omega
   have hgl:=got_len (W:=W) (O:=dA (dG C k2) st) (G:=g::G) rfl;have fS:pW W (dA (dG C k2) st) (g::G).length (g::G)≠[]:=fun e=>by rw[e]at hgl;simp at hgl
   have hV2:3≤(pW W (dA (dG C k2) st) (g::G).length (g::G)).length→nowV C k2 V W ((pW W (dA (dG C k2) st) (g::G).length (g::G)).getD 2 0):=fun h3=>by
    rw[hgl]at h3;rw[got_eq rfl];by_cases h4:3≤(g::G).length
    ·rw[List.getD_eq_getElem?_getD,List.getElem?_append_left (by omega),←List.getD_eq_getElem?_getD];exact .inl (hV h4)
    ·have e2:(g::G).length=2:=by omega
     have e3:(dA (dG C k2) st).getD 2 0=dG C k2+0:=rfl;rw[List.getD_eq_getElem?_getD,List.getElem?_append_right (by omega),e2,e3,Int.add_zero];exact .inr rfl
   have hsl:(match pW W (dA (dG C k2) st) (g::G).length (g::G)with|[]=>aC|_=>SV.slice 15 0 (pW W (dA (dG C k2) st) (g::G).length (g::G)).length none)=.slice 15 0 ((g::G).length+1) none:=by rw[←hgl];split<;>first|contradiction|rfl
   have hml:(match pW W (dA (dG C k2) st) (g::G).length (g::G)with|[]=>([]:mB)|_=>[(15,SO.ints 3 1 (pW W (dA (dG C k2) st) (g::G).length (g::G)))])=[(15,.ints 3 1 (pW W (dA (dG C k2) st) (g::G).length (g::G)))]:=by split<;>first|contradiction|rfl
   exact⟨W,w,.inl ⟨_,([(10,10,ctO (dG C k2) st left e1 e2 e3 e4),(11,11,.cells 22 1 [.slice 14 0 (4+2*st) none]),(12,12,.cells 22 1 [.slice 15 0 ((g::G).length+1) none]),(13,13,.cells 142 1 [.ptr 10 0 0]),(14,14,.ints 3 1 (dA (dG C k2) st)),(22,15,.ints 3 1 (pW W (dA (dG C k2) st) (g::G).length (g::G)))]).map (fun(x:Nat×Nat×SO)=>x.2),⟨hv,st,left,e1,e2,e3,e4,pW W (dA (dG C k2) st) (g::G).length (g::G),gA,rfl,by rw[hgl];omega,hV2,fun _=>by omega,by rw[hsl,hml];rfl⟩,mC aK (.inl rfl) F [10,11,12,13,14,15] [ctO (dG C k2) st left e1 e2 e3 e4,.cells 22 1 [.slice 14 0 (4+2*st) none],.cells 22 1 [.slice 15 0 (g::G).length none],.cells 142 1 [.ptr 10 0 0],.ints 3 1 (dA (dG C k2) st),.ints 3 1 (g::G)] (.iface 142 (.ptr 10 0 0)) [(22,15)] [(10,10,ctO (dG C k2) st left e1 e2 e3 e4),(11,11,.cells 22 1 [.slice 14 0 (4+2*st) none]),(12,12,.cells 22 1 [.slice 15 0 ((g::G).length+1) none]),(13,13,.cells 142 1 [.ptr 10 0 0]),(14,14,.ints 3 1 (dA (dG C k2) st)),(22,15,.ints 3 1 (pW W (dA (dG C k2) st) (g::G).length (g::G)))] [] _ (fun x=>count_1_3 (aV C W (m+1) aD aL N i k1 k2 k3 bV) x (dG C k2) left e1 e2 e4 e3 st (dA (dG C k2) st) (g::G).length (g::G)) ⟨h0,decide_eq_true (by omega),aF.2 (by rw[mQ];exact hG),F.inW AZ.1 AZ.2,Nat.ble_eq_true_of_le (by rw[bT,Nat.mul_one];exact Nat.le_refl _),Nat.ble_eq_true_of_le (by omega),hz,trivial⟩ (.refl _) ⟨⟨_,rfl⟩,rfl,rfl,rfl,rfl,⟨_,rfl,rfl⟩,rfl,rfl,rfl,⟨14,rfl,rfl⟩,⟨3,_,rfl,rfl,rfl⟩,F.he,rfl,rfl,rfl⟩ ⟨⟨.head _,rfl⟩,⟨.tail _ (.head _),rfl⟩,⟨.tail _ (.tail _ (.head _)),rfl⟩,⟨.tail _ (.tail _ (.tail _ (.head _))),rfl⟩,⟨.tail _ (.tail _ (.tail _ (.tail _ (.head _)))),rfl⟩,⟨.tail _ (.tail _ (.tail _ (.tail _ (.tail _ (.head _))))),rfl⟩,trivial⟩ ⟨⟨7,_,rfl,rfl,rfl,rfl,rfl,rfl,rfl⟩,⟨8,_,rfl,rfl,rfl,rfl,rfl,rfl,rfl⟩,⟨9,_,rfl,rfl,rfl,rfl,rfl,rfl,rfl⟩,⟨10,_,rfl,rfl,rfl,rfl,rfl,rfl,rfl⟩,⟨11,_,rfl,rfl,rfl,rfl,rfl,rfl,rfl⟩,⟨15,_,rfl,rfl,rfl,rfl,rfl,rfl,rfl⟩,trivial⟩ (by simp) (fun _ h=>h)⟩⟩
end
theorem upI_eq(P:List Int)(v:Int):upI P v=P.getD v.toNat 0:=rfl
theorem pH(P:List Int):∀(k:Nat) (v:Int),(chain P k v).length=k
 |0,_=>rfl
 |k+1,v=>by simp[chain,pH P k]
section
variable{C:bS}(ok:dU C)
include ok
theorem way_up:∀(m:Nat) (v:Int),v.toNat<m→bH C v→∃k,1≤k∧k≤v.toNat+1∧qH C.PL C.PL.length k v=true∧∀x∈chain C.PL k v,bH C x
 |0,_,h,_=>absurd h (by omega)
 |m+1,v,h,hv=>by
  obtain⟨h1,h2⟩:=hv;have hb:Nat.blt (ix 1 (aE 0 v.toNat) 0) C.PL.length=true:=aF.2 (by show v.toNat<_;omega);by_cases h0:v=0
  ·subst h0
   refine⟨1,by omega,by omega,?_,fun x hx=>?_⟩
   ·simp only[qH,Bool.and_eq_true,decide_eq_true_eq]
    refine⟨⟨⟨by omega,h2⟩,hb⟩,?_⟩;rw[upI_eq];have:=ok.p0;simp only[Int.toNat_zero];omega
   ·simp[chain]at hx;subst hx;exact⟨h1,h2⟩
  ·have hp:=ok.par v.toNat (by omega) (by omega)
   obtain⟨k,k1,k2,k3,k4⟩:=way_up m (upI C.PL v) (by rw[upI_eq];omega) (by rw[upI_eq];exact⟨hp.1,by omega⟩);refine⟨k+1,by omega,by rw[upI_eq]at k2;omega,?_,fun x hx=>?_⟩
   ·simp only[qH,Bool.and_eq_true,decide_eq_true_eq]
    exact⟨⟨⟨h1,h2⟩,hb⟩,k3⟩
   ·simp only[chain,List.mem_cons]at hx
    rcases hx with rfl|hx
    ·exact⟨h1,h2⟩
    ·exact k4 x hx
theorem pathB_ex{v:Int}(hv:0≤v):∃k,k≤12∧nX C.PL C.PL.length k v=true∧∀x∈chain C.PL k v,bH C x:=by
 by_cases h:v<C.PL.length
 ·obtain⟨k,k1,k2,k3,k4⟩:=way_up ok (v.toNat+1) v (by omega) ⟨hv,h⟩
  have:=ok.np;refine⟨k,by omega,?_,k4⟩;obtain⟨j,rfl⟩:=Nat.exists_eq_succ_of_ne_zero (by omega:k≠0);unfold nX;simp only[Bool.and_eq_true];exact⟨Nat.ble_eq_true_of_le (by omega),k3⟩
 ·refine⟨0,by omega,?_,fun x hx=>by simp[chain]at hx⟩
  unfold nX;simp;omega
theorem pathB_node{v:Int}(hv:bH C v):∃k,1≤k∧k≤12∧nX C.PL C.PL.length k v=true∧∀x∈chain C.PL k v,bH C x:=by
 obtain⟨k,k1,k2,k3,k4⟩:=way_up ok (v.toNat+1) v (by omega) hv;have:=ok.np;obtain⟨h1,h2⟩:=hv;refine⟨k,k1,by omega,?_,k4⟩;obtain⟨j,rfl⟩:=Nat.exists_eq_succ_of_ne_zero (by omega:k≠0);unfold nX;simp only[Bool.and_eq_true];exact⟨Nat.ble_eq_true_of_le (by omega),k3⟩
end
theorem pI{l:List Int}{j:Nat}(h:j<l.length):l.getD j 0∈l:=by
 rw[List.getD_eq_getElem?_getD,List.getElem?_eq_getElem h];exact List.getElem_mem _
theorem gH{l:List SV}{k:Nat}{v:SV}{pr:Nat→Nat}(h:l[k]?=some (v.ren pr)):(k+1)*1≤l.length∧[v].length≤1∧∀i w,[v][i]?=some w→l[k*1+i]?=some (w.ren pr):=by
 have:=(List.getElem?_eq_some_iff.1 h).1;refine⟨by omega,by simp,fun i w hw=>?_⟩;cases i with
 |zero=>simp at hw;subst hw;rw[show k*1+0=k by omega];exact h
 |succ i=>simp at hw
theorem fJ{l:List SV}{k:Nat}{v u:SV}{pr:Nat→Nat}(h:l[2*k]?=some (v.ren pr))(h':l[2*k+1]?=some (u.ren pr)):(k+1)*2≤l.length∧[v,u].length≤2∧∀i w,[v,u][i]?=some w→l[k*2+i]?=some (w.ren pr):=by
 have:=(List.getElem?_eq_some_iff.1 h').1;refine⟨by omega,by simp,fun i w hw=>?_⟩
 match i,hw with
 |0,hw=>simp at hw;subst hw;rw[show k*2+0=2*k by omega];exact h
 |1,hw=>simp at hw;subst hw;rw[show k*2+1=2*k+1 by omega];exact h'
 |i+2,hw=>simp at hw
def selZ(sel ls:List Nat)(os:List SO):List (Nat×SO):=(ls.zip os).filter fun x=>sel.contains x.1
def tellZ(cs:List Nat)(nr:List (Nat×Nat))(z:List (Nat×SO)):List (Nat×Nat×SO):=z.map fun x=>(x.1,rF cs nr x.1,x.2.ren (rF cs nr))
def okZ(cs:List Nat)(nr:List (Nat×Nat))(z:List (Nat×SO)):Bool:=z.all fun x=>Nat.ble 10 x.1&&okP cs nr x.1&&x.2.pls (okP cs nr)
theorem told_of{ls:List Nat}{os:List SO}{cs:List Nat}{nr:List (Nat×Nat)}:∀{z:List (Nat×SO)},(∀x∈z,x∈ls.zip os)→okZ cs nr z=true→Told ls os cs nr (tellZ cs nr z)
 |[],_,_=>trivial
 |x::z,hz,dE=>by
  simp only[okZ,List.all_cons,Bool.and_eq_true]at dE;obtain⟨⟨⟨h1,h2⟩,h3⟩,h4⟩:=dE;refine⟨?_,told_of (fun y hy=>hz y (List.mem_cons_of_mem _ hy)) h4⟩;obtain⟨a,ha⟩:=List.mem_iff_getElem?.1 (hz x (by simp));rw[List.getElem?_zip_eq_some]at ha;exact⟨a,x.2,ha.1,ha.2,rfl,rfl,h1,h2,h3⟩
theorem zL{ls:List Nat}{os:List SO}{cs:List Nat}{nr:List (Nat×Nat)}(sel:List Nat)(h:okZ cs nr (selZ sel ls os)=true):Told ls os cs nr (tellZ cs nr (selZ sel ls os)):=
 told_of (fun x hx=>(List.mem_filter.1 hx).1) h
end Go.Proofs.YtnkcbfgfkadoaaaGreat.Sx
