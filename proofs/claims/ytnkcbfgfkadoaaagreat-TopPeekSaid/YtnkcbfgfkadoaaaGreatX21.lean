/- Part 21 of the proof of TopPeek. -/
import Derived.Test.YtnkcbfgfkadoaaaGreatX20
set_option linter.all false
namespace Go.Proofs.YtnkcbfgfkadoaaaGreat.Sx
open Go
set_option maxRecDepth 10000
set_option maxHeartbeats 4000000
def e0(C:bS):Env:=aV C [] 0 [] [] ⟨0,0,0,0,0,0,none,none⟩ 0 0 0 0 .any
def tV(C:bS)(word cH thr saw:Int)(left:SV)(o0 o1:Int)(o2:Bool)(o3 a0 a1:Int)(a2:Bool)(a3:Int):SO:=uQ (e0 C) word cH thr saw left o0 o1 o2 o3 a0 a1 a2 a3
def zM:List SV:=[.func (.func 110) [.ptr 10 0 0] [],.func (.func 111) [.ptr 10 0 0] [],.func (.func 112) [.ptr 10 0 0] []]
def rlR(k:Nat):List SV:=[.func (.func 112) [.ptr 10 0 0] []]++((List.range (2*k)).map fun q=>.func (.func 163) [] [.ptr (3*q+20) 0 0,.ptr (3*q+21) 0 0])++[.func (.func 145) [.ptr 10 0 0] []]
def uS(us:List Int)(k q:Nat):mB:=[(3*q+20,.cells 72 1 [.val .nilIface]),(3*q+21,.cells 156 1 [.func (.func (rsN k q)) [] [.ptr 12 0 0,.ptr (3*q+22) 0 0,.ptr 13 0 0]]),(3*q+22,.cells 3 1 [.int .i64 (us.getD (xK k q) 0)])]
def eI(us:List Int)(k q:Nat):mB:=(List.range' q (2*k-q)).flatMap (uS us k)
inductive uT(C:bS)(nL:Nat)(g:SV→SO)(n:Int):mB→Prop
 |look:uT C nL g n [(10,g (.slice 11 0 3 (some 3))),(11,.cells 181 1 zM)]
 |take:0<nL→uT C nL g n [(10,g (.slice 11 1 2 (some 2))),(11,.cells 181 1 zM)]
 |read:0<nL→uT C nL g n [(10,g (.slice 11 2 1 (some 1))),(11,.cells 181 1 zM)]
 |list (k q:Nat) (us:List Int):0<nL→k≤12→q≤2*k→us.length=k→(∀x∈us,bH C x)→uT C nL g n ((10,g (.slice 11 (q+1) (2*k+1-q) none))::(11,.cells 181 1 (rlR k))::(12,.cells 138 1 [.ptr 10 0 0])::(13,.cells 3 1 [.int .i64 n])::eI us k q)
 |add (k q:Nat) (us:List Int) (s:cG):0<nL→k≤12→k≤q→q<2*k→us.length=k→(∀x∈us,bH C x)→tA C s→
  uT C nL g n ((10,g (.slice 11 (q+1) (2*k+1-q) none))::(11,.cells 181 1 (rlR k))::(12,.cells 138 1 [.ptr 10 0 0])::(13,.cells 3 1 [.int .i64 n])::(14,s.o)::(3*q+20,.cells 72 1 [.iface 176 (.ptr 14 0 0)])::
   (3*q+21,.cells 156 1 [.func (.func (rsN k q)) [] [.ptr 12 0 0,.ptr (3*q+22) 0 0,.ptr 13 0 0]])::(3*q+22,.cells 3 1 [.int .i64 (us.getD (xK k q) 0)])::eI us k (q+1))
def MRel(C:bS)(nL:Nat)(k1:Int)(now:SV)(ob:mB):Prop:=(k1≠5∧k1≠6)∧now=.iface 138 (.ptr 10 0 0)∧∃(j cH thr saw o0 o1:Int) (o2:Bool) (o3 a0 a1:Int) (a2:Bool) (a3 n:Int),(0≤j∧j<C.ti)∧(0≤thr∧thr<8)∧(0≤n∧n≤1048576)∧
 uT C nL (fun left=>tV C (aB C.st C.PL.length+2*j) cH thr saw left o0 o1 o2 o3 a0 a1 a2 a3) n ob
def rdNr(k:Nat):List (Nat×Nat):=[(64+10*k,11),(13,12),(22,13)]++(List.range (2*k)).flatMap fun j=>[(65+5*j,3*j+20),(64+5*j,3*j+21),(63+5*j,3*j+22)]
def rdSel(k:Nat):List Nat:=10::(rdNr k).map (·.1)
theorem wA{α:Type}{a b:List α}(e:a=b){x:α}(h:x∈a):x∈b:=e▸h
theorem read_all(e:Env)(x:Nat→SV)(word cH thr saw o0 o1 o3 a0 a1 a3:Int)(o2 a2:Bool)(P:List Int):∀{k:Nat},k≤12→fN k e x word cH thr saw o0 o1 o3 a0 a1 a3 o2 a2 P
 |0,_=>read_0 e x word cH thr saw o0 o1 o3 a0 a1 a3 o2 a2 P
 |1,_=>read_1 e x word cH thr saw o0 o1 o3 a0 a1 a3 o2 a2 P
 |2,_=>read_2 e x word cH thr saw o0 o1 o3 a0 a1 a3 o2 a2 P
 |3,_=>read_3 e x word cH thr saw o0 o1 o3 a0 a1 a3 o2 a2 P
 |4,_=>read_4 e x word cH thr saw o0 o1 o3 a0 a1 a3 o2 a2 P
 |5,_=>read_5 e x word cH thr saw o0 o1 o3 a0 a1 a3 o2 a2 P
 |6,_=>read_6 e x word cH thr saw o0 o1 o3 a0 a1 a3 o2 a2 P
 |7,_=>read_7 e x word cH thr saw o0 o1 o3 a0 a1 a3 o2 a2 P
 |8,_=>read_8 e x word cH thr saw o0 o1 o3 a0 a1 a3 o2 a2 P
 |9,_=>read_9 e x word cH thr saw o0 o1 o3 a0 a1 a3 o2 a2 P
 |10,_=>read_10 e x word cH thr saw o0 o1 o3 a0 a1 a3 o2 a2 P
 |11,_=>read_11 e x word cH thr saw o0 o1 o3 a0 a1 a3 o2 a2 P
 |12,_=>read_12 e x word cH thr saw o0 o1 o3 a0 a1 a3 o2 a2 P
 |k+13,h=>absurd h (by omega)
theorem aO_pls(q:Nat→Bool)(s:cG):s.o.pls q=true:=by
 obtain⟨a1,a2,a3,a4,a5,a6,a7,a8,a9,nf⟩:=s;cases nf<;>rfl
theorem dW(off:Nat):Nat.beq (aE off (Int.toNat 0)) off=true:=by rw[aY];simp
theorem BI{us:List Int}{k q:Nat}(h:q<2*k):eI us k q=uS us k q++eI us k (q+1):=by
 unfold eI;rw[show 2*k-q=(2*k-(q+1))+1 by omega,List.range'_succ];rfl
theorem kS{us:List Int}{k q:Nat}{O:List Nat}{nr:List (Nat×Nat)}{ob:mB}(hk:k≤12)(hO:∀c∈O,c<3*q+20)(hn:∀x∈nr,x.2=14)(hob:∀x∈eI us k q,x∈ob):
 ∀x∈eI us k q,x∈ob∧x.1∉O∧x.2.pls (dJ nr)=true∧dJ nr x.1=true:=fun x hx=>by
 refine⟨hob x hx,?_⟩;unfold eI at hx;rw[List.mem_flatMap]at hx;obtain⟨p,hp,hx⟩:=hx;rw[List.mem_range'_1]at hp;have role:∀c,12≤c→c<990→c≠14→dJ nr c=true:=fun c h1 h2 h3=>by
  unfold dJ oM;have:(nr.any fun x=>Nat.beq x.2 c)=false:=by
   rw[List.any_eq_false];intro y hy hb;have:=Nat.eq_of_beq_eq_true hb;have:=hn y hy;omega
  rw[this,Nat.ble_eq_true_of_le (by omega:10≤c),aF.2 h2];simp
 have out:∀c,3*p+20≤c→c∉O:=fun c hc hm=>by have:=hO c hm;omega
 simp only[uS,List.mem_cons,List.not_mem_nil,or_false]at hx;rcases hx with rfl|rfl|rfl
 ·exact⟨out _ (by simp only;omega),rfl,role _ (by omega) (by omega) (by omega)⟩
 ·refine⟨out _ (by simp only;omega),?_,role _ (by omega) (by omega) (by omega)⟩
  simp only[SO.pls,SV.plss,SV.pls,Bool.and_true,Bool.true_and,role 12 (by omega) (by omega) (by omega),role 13 (by omega) (by omega) (by omega),role (3*p+22) (by omega) (by omega) (by omega)]
 ·exact⟨out _ (by simp only;omega),rfl,role _ (by omega) (by omega) (by omega)⟩
theorem rlR_at{k q:Nat}(h:q<2*k):(rlR k)[q+1]?=some (.func (.func 163) [] [.ptr (3*q+20) 0 0,.ptr (3*q+21) 0 0]):=by
 unfold rlR;rw[List.getElem?_append_left (by simp;omega),List.getElem?_append_right (by simp)];simp[h]
theorem rlR_last{k:Nat}:(rlR k)[2*k+1]?=some (.func (.func 145) [.ptr 10 0 0] []):=by
 unfold rlR;rw[List.getElem?_append_right (by simp)];simp
theorem yG{k:Nat}{nr:List (Nat×Nat)}(hk:k≤12)(hn:∀x∈nr,x.2=14):(SO.cells 181 1 (rlR k)).pls (dJ nr)=true:=by
 have role:∀c,10≤c→c<990→c≠14→dJ nr c=true:=fun c h1 h2 h3=>by
  unfold dJ oM;have:(nr.any fun x=>Nat.beq x.2 c)=false:=by
   rw[List.any_eq_false];intro y hy hb;have:=Nat.eq_of_beq_eq_true hb;have:=hn y hy;omega
  rw[this,Nat.ble_eq_true_of_le (by omega:10≤c),aF.2 h2];simp
 have app:∀(a b:List SV),SV.plss (dJ nr) a=true→SV.plss (dJ nr) b=true→SV.plss (dJ nr) (a++b)=true:=by
  intro a
  induction a with
  |nil=>intro b _ h;exact h
  |cons x a ih=>
   intro b h1 h2;simp only[List.cons_append,SV.plss,Bool.and_eq_true]at h1⊢;exact⟨h1.1,ih b h1.2 h2⟩
 have mp:∀l:List Nat,(∀q∈l,q<24)→SV.plss (dJ nr) (l.map fun q=>.func (.func 163) [] [.ptr (3*q+20) 0 0,.ptr (3*q+21) 0 0])=true:=by
  intro l
  induction l with
  |nil=>intro _;rfl
  |cons q l ih=>
   intro h;have hq:=h q (by simp);simp only[List.map_cons,SV.plss,SV.pls,Bool.and_eq_true];exact⟨⟨trivial,role _ (by omega) (by omega) (by omega),role _ (by omega) (by omega) (by omega),trivial⟩,ih fun p hp=>h p (by simp[hp])⟩
 show SV.plss _ (rlR k)=true;unfold rlR;refine app _ _ (app _ _ ?_ (mp _ fun q hq=>by rw[List.mem_range]at hq;omega)) ?_
 ·simp only[SV.plss,SV.pls,role 10 (by omega) (by omega) (by omega)];rfl
 ·simp only[SV.plss,SV.pls,role 10 (by omega) (by omega) (by omega)];rfl
section
variable{h:H}{word cH thr saw o0 o1:Int}{o2:Bool}{o3 a0 a1:Int}{a2:Bool}{a3:Int}{m:Nat}{own:Nat→Nat}{C:bS}{W:List Int}{nL:Nat}{aD:List Ev}{aL:List Nat}{N:Names}{i t sb nb lr:Nat}{k1 k2 k3:Int}{bV now:SV}{ob:mB}{V:Int→Prop}
def RdP(k:Nat)(h:H)(own:Nat→Nat)(C:bS)(W:List Int)(m:Nat)(aD:List Ev)(aL:List Nat)(N:Names)(i t sb nb lr:Nat)(k1 k2 k3:Int)(bV:SV)(word cH thr saw o0 o1:Int)(o2:Bool)(o3 a0 a1:Int)(a2:Bool)(a3:Int):Prop:=tB h own C W (m+1) aD aL N i t sb nb lr k1 k2 k3 bV (.iface 138 (.ptr 10 0 0)) [(10,tV C word cH thr saw (.slice 11 2 1 (some 1)) o0 o1 o2 o3 a0 a1 a2 a3),(11,.cells 181 1 zM)]→(∀x,fN k (aV C W (m+1) aD aL N i k1 k2 k3 bV) x word cH thr saw o0 o1 o3 a0 a1 a3 o2 a2 C.PL)→holds [(fits (word+1),true),(inW (word+1) W.length (m+1) W,true),(nX C.PL C.PL.length k (kD (W.getD (word+1).toNat 0)),true)]→
 Lft h own C (m+1) aL N i t sb nb lr k1 k2 k3 bV W aD (.iface 138 (.ptr 10 0 0)) ((10,tV C word cH thr saw (.slice 11 1 (2*k+1) none) 0 (mL (W.getD (word+1).toNat 0)) false (kD (W.getD (word+1).toNat 0)) a0 a1 a2 a3)::(11,.cells 181 1 (rlR k))::(12,.cells 138 1 [.ptr 10 0 0])::(13,.cells 3 1 [.int .i64 (mL (W.getD (word+1).toNat 0))])::eI (chain C.PL k (kD (W.getD (word+1).toNat 0))) k 0)
theorem rd_all{k:Nat}(hk:k≤12):RdP k h own C W m aD aL N i t sb nb lr k1 k2 k3 bV word cH thr saw o0 o1 o2 o3 a0 a1 a2 a3:=by
 replace hk:k=0∨k=1∨k=2∨k=3∨k=4∨k=5∨k=6∨k=7∨k=8∨k=9∨k=10∨k=11∨k=12:=by omega
 exact fun F T hcd=>mC (jl:=17) (ne:=4) (W':=W) (eX:=aD) (iF:=(.iface 138 (.ptr 10 0 0))) (fW (zK _) aK) (.inr rfl) F [10,11] [tV C word cH thr saw (.slice 11 2 1 (some 1)) o0 o1 o2 o3 a0 a1 a2 a3,.cells 181 1 zM] (.iface 138 (.ptr 10 0 0)) (rdNr k) _ [] _ (fun x=>T x) hcd (.refl _) ⟨⟨List.drop 7 ([0,1,2,4,5,6,7,10,11,12,17,64+10*k,13,22]++rsS (2*k)),(by rcases hk with rfl|rfl|rfl|rfl|rfl|rfl|rfl|rfl|rfl|rfl|rfl|rfl|rfl<;>kernel_rfl)⟩,(by rcases hk with rfl|rfl|rfl|rfl|rfl|rfl|rfl|rfl|rfl|rfl|rfl|rfl|rfl<;>kernel_rfl),(by rcases hk with rfl|rfl|rfl|rfl|rfl|rfl|rfl|rfl|rfl|rfl|rfl|rfl|rfl<;>kernel_rfl),(by rcases hk with rfl|rfl|rfl|rfl|rfl|rfl|rfl|rfl|rfl|rfl|rfl|rfl|rfl<;>kernel_rfl),(by rcases hk with rfl|rfl|rfl|rfl|rfl|rfl|rfl|rfl|rfl|rfl|rfl|rfl|rfl<;>kernel_rfl),⟨aD.length,(by rcases hk with rfl|rfl|rfl|rfl|rfl|rfl|rfl|rfl|rfl|rfl|rfl|rfl|rfl<;>kernel_rfl),rfl⟩,(by rcases hk with rfl|rfl|rfl|rfl|rfl|rfl|rfl|rfl|rfl|rfl|rfl|rfl|rfl<;>kernel_rfl),(by rcases hk with rfl|rfl|rfl|rfl|rfl|rfl|rfl|rfl|rfl|rfl|rfl|rfl|rfl<;>kernel_rfl),(by rcases hk with rfl|rfl|rfl|rfl|rfl|rfl|rfl|rfl|rfl|rfl|rfl|rfl|rfl<;>kernel_rfl),⟨10,(by rcases hk with rfl|rfl|rfl|rfl|rfl|rfl|rfl|rfl|rfl|rfl|rfl|rfl|rfl<;>kernel_rfl),(by rcases hk with rfl|rfl|rfl|rfl|rfl|rfl|rfl|rfl|rfl|rfl|rfl|rfl|rfl<;>kernel_rfl)⟩,⟨3,eH aD,(by rcases hk with rfl|rfl|rfl|rfl|rfl|rfl|rfl|rfl|rfl|rfl|rfl|rfl|rfl<;>kernel_rfl),(by rcases hk with rfl|rfl|rfl|rfl|rfl|rfl|rfl|rfl|rfl|rfl|rfl|rfl|rfl<;>kernel_rfl),rfl⟩,F.he,rfl,(by rcases hk with rfl|rfl|rfl|rfl|rfl|rfl|rfl|rfl|rfl|rfl|rfl|rfl|rfl<;>kernel_rfl),(by rcases hk with rfl|rfl|rfl|rfl|rfl|rfl|rfl|rfl|rfl|rfl|rfl|rfl|rfl<;>kernel_rfl)⟩ ⟨⟨.head _,rfl⟩,⟨.tail _ (.head _),rfl⟩,trivial⟩ (zL (rdSel k) (by rcases hk with rfl|rfl|rfl|rfl|rfl|rfl|rfl|rfl|rfl|rfl|rfl|rfl|rfl<;>kernel_rfl)) (by simp) (fun x hx=>wA (by rcases hk with rfl|rfl|rfl|rfl|rfl|rfl|rfl|rfl|rfl|rfl|rfl|rfl|rfl<;>kernel_rfl) hx) (hn:=(by rcases hk with rfl|rfl|rfl|rfl|rfl|rfl|rfl|rfl|rfl|rfl|rfl|rfl|rfl<;>kernel_rfl)) (kO:=(by rcases hk with rfl|rfl|rfl|rfl|rfl|rfl|rfl|rfl|rfl|rfl|rfl|rfl|rfl<;>kernel_rfl)) (hnw:=(by rcases hk with rfl|rfl|rfl|rfl|rfl|rfl|rfl|rfl|rfl|rfl|rfl|rfl|rfl<;>kernel_rfl)) (hnw':=(by rcases hk with rfl|rfl|rfl|rfl|rfl|rfl|rfl|rfl|rfl|rfl|rfl|rfl|rfl<;>kernel_rfl))
theorem step_rel(ok:dU C)(w:hU C W)(F:tB h own C W nL aD aL N i t sb nb lr k1 k2 k3 bV now ob)(M:MRel C nL k1 now ob):BH h own C nL aD aL N i t sb nb lr k1 k2 k3 bV V fun _=>MRel C (nL+1) k1:=by
 obtain⟨hk,rfl,j,cH,thr,saw,o0,o1,o2,o3,a0,a1,a2,a3,n,hj,ht,hn,M⟩:=M;have hl:=w.len;have hs:=dC ok;have gA:1≤C.st∧C.st≤8:=by rcases ok.st with e|e|e|e<;>omega
 have sw:safe C (aB C.st C.PL.length+2*j):=fI ok (by omega) (by omega);have jw:0≤(aB C.st C.PL.length+2*j)∧(aB C.st C.PL.length+2*j)<W.length:=⟨sw.1,by have:=sw.2.1;omega⟩;have sw1:safe C (aB C.st C.PL.length+(2*j+1)):=fI ok (by omega) (by omega);have jw1:0≤(aB C.st C.PL.length+2*j)+1∧(aB C.st C.PL.length+2*j)+1<W.length:=⟨by omega,by have:=sw1.2.1;omega⟩;have no:∀{X:Prop},(k1=5∨k1=6)→X:=fun h=>(h.elim hk.1 hk.2).elim
 cases M with
 |look=>
  cases c1:(sZ (W.getD (aB C.st C.PL.length+2*j).toNat 0)!=cH)
  ·cases c2:(dV (W.getD (aB C.st C.PL.length+2*j).toNat 0)!=2)
   ·cases nL with
    |zero=>exact⟨W,w,.inl ⟨_,_,⟨hk,rfl,j,cH,thr,(W.getD (aB C.st C.PL.length+2*j).toNat 0),o0,o1,o2,o3,a0,a1,a2,a3,n,hj,ht,hn,.take (by omega)⟩,mC aK (.inl rfl) F [10,11] [tV C (aB C.st C.PL.length+2*j) cH thr saw (.slice 11 0 3 (some 3)) o0 o1 o2 o3 a0 a1 a2 a3,.spot 181 1 0 [.func (.func 110) [.ptr 10 0 0] []]] (.iface 138 (.ptr 10 0 0)) [] [(10,10,tV C (aB C.st C.PL.length+2*j) cH thr (W.getD (aB C.st C.PL.length+2*j).toNat 0) (.slice 11 1 2 (some 2)) o0 o1 o2 o3 a0 a1 a2 a3)] [(11,.cells 181 1 zM)] _ (fun x=>look_n_2 (aV C W 0 aD aL N i k1 k2 k3 bV) x (aB C.st C.PL.length+2*j) cH thr saw o0 o1 o3 a0 a1 a3 o2 a2) ⟨inN jw.1 jw.2,c1,c2,trivial⟩ (.refl _) ⟨⟨_,rfl⟩,rfl,rfl,rfl,rfl,⟨_,rfl,rfl⟩,rfl,rfl,rfl,⟨8,rfl,rfl⟩,⟨3,_,rfl,rfl,rfl⟩,F.he,rfl,rfl,rfl⟩ ⟨⟨.head _,rfl⟩,⟨_,.tail _ (.head _),gH rfl⟩,trivial⟩ ⟨⟨7,_,rfl,rfl,rfl,rfl,rfl,rfl,rfl⟩,trivial⟩ (fun x hx=>by simp at hx;subst hx;exact⟨.tail _ (.head _),show 11∉[10] by decide,rfl,rfl⟩) (by simp)⟩⟩
    |succ m=>exact⟨W,w,.inl ⟨_,_,⟨hk,rfl,j,cH,thr,(W.getD (aB C.st C.PL.length+2*j).toNat 0),o0,o1,o2,o3,a0,a1,a2,a3,n,hj,ht,hn,.take (by omega)⟩,mC aK (.inl rfl) F [10,11] [tV C (aB C.st C.PL.length+2*j) cH thr saw (.slice 11 0 3 (some 3)) o0 o1 o2 o3 a0 a1 a2 a3,.spot 181 1 0 [.func (.func 110) [.ptr 10 0 0] []]] (.iface 138 (.ptr 10 0 0)) [] [(10,10,tV C (aB C.st C.PL.length+2*j) cH thr (W.getD (aB C.st C.PL.length+2*j).toNat 0) (.slice 11 1 2 (some 2)) o0 o1 o2 o3 a0 a1 a2 a3)] [(11,.cells 181 1 zM)] _ (fun x=>look_2 (aV C W (m+1) aD aL N i k1 k2 k3 bV) x (aB C.st C.PL.length+2*j) cH thr saw o0 o1 o3 a0 a1 a3 o2 a2) ⟨F.inW jw.1 jw.2,c1,c2,trivial⟩ (.refl _) ⟨⟨_,rfl⟩,rfl,rfl,rfl,rfl,⟨_,rfl,rfl⟩,rfl,rfl,rfl,⟨9,rfl,rfl⟩,⟨3,_,rfl,rfl,rfl⟩,F.he,rfl,rfl,rfl⟩ ⟨⟨.head _,rfl⟩,⟨_,.tail _ (.head _),gH rfl⟩,trivial⟩ ⟨⟨7,_,rfl,rfl,rfl,rfl,rfl,rfl,rfl⟩,trivial⟩ (fun x hx=>by simp at hx;subst hx;exact⟨.tail _ (.head _),show 11∉[10] by decide,rfl,rfl⟩) (by simp)⟩⟩
   ·cases nL with
    |zero=>exact⟨W,w,.inr ⟨_,_,_,_,_,fun h=>no h,mP aK (.inl rfl) F [10,11] [tV C (aB C.st C.PL.length+2*j) cH thr saw (.slice 11 0 3 (some 3)) o0 o1 o2 o3 a0 a1 a2 a3,.spot 181 1 0 [.func (.func 110) [.ptr 10 0 0] []]] (.iface 138 (.ptr 10 0 0)) (fun x=>look_n_1 (aV C W 0 aD aL N i k1 k2 k3 bV) x (aB C.st C.PL.length+2*j) cH thr saw o0 o1 o3 a0 a1 a3 o2 a2) (aG ⟨inN jw.1 jw.2,c1,c2,trivial⟩ F.endN) ⟨⟨_,rfl⟩,rfl,rfl,rfl,rfl,rfl,rfl,rfl,rfl,⟨9,rfl,rfl⟩,⟨8,rfl,rfl⟩,rfl,rfl,rfl⟩ ⟨⟨.head _,rfl⟩,⟨_,.tail _ (.head _),gH rfl⟩,trivial⟩⟩⟩
    |succ m=>exact⟨W,w,.inr ⟨_,_,_,_,_,fun h=>no h,mP aK (.inl rfl) F [10,11] [tV C (aB C.st C.PL.length+2*j) cH thr saw (.slice 11 0 3 (some 3)) o0 o1 o2 o3 a0 a1 a2 a3,.spot 181 1 0 [.func (.func 110) [.ptr 10 0 0] []]] (.iface 138 (.ptr 10 0 0)) (fun x=>look_1 (aV C W (m+1) aD aL N i k1 k2 k3 bV) x (aB C.st C.PL.length+2*j) cH thr saw o0 o1 o3 a0 a1 a3 o2 a2) (aG ⟨F.inW jw.1 jw.2,c1,c2,trivial⟩ F.endC) ⟨⟨_,rfl⟩,rfl,rfl,rfl,rfl,rfl,rfl,rfl,rfl,⟨10,rfl,rfl⟩,⟨9,rfl,rfl⟩,rfl,rfl,rfl⟩ ⟨⟨.head _,rfl⟩,⟨_,.tail _ (.head _),gH rfl⟩,trivial⟩⟩⟩
  ·cases nL with
   |zero=>exact⟨W,w,.inr ⟨_,_,_,_,_,fun h=>no h,mP aK (.inl rfl) F [10,11] [tV C (aB C.st C.PL.length+2*j) cH thr saw (.slice 11 0 3 (some 3)) o0 o1 o2 o3 a0 a1 a2 a3,.spot 181 1 0 [.func (.func 110) [.ptr 10 0 0] []]] (.iface 138 (.ptr 10 0 0)) (fun x=>look_n_0 (aV C W 0 aD aL N i k1 k2 k3 bV) x (aB C.st C.PL.length+2*j) cH thr saw o0 o1 o3 a0 a1 a3 o2 a2) (aG ⟨inN jw.1 jw.2,c1,trivial⟩ F.endN) ⟨⟨_,rfl⟩,rfl,rfl,rfl,rfl,rfl,rfl,rfl,rfl,⟨9,rfl,rfl⟩,⟨8,rfl,rfl⟩,rfl,rfl,rfl⟩ ⟨⟨.head _,rfl⟩,⟨_,.tail _ (.head _),gH rfl⟩,trivial⟩⟩⟩
   |succ m=>exact⟨W,w,.inr ⟨_,_,_,_,_,fun h=>no h,mP aK (.inl rfl) F [10,11] [tV C (aB C.st C.PL.length+2*j) cH thr saw (.slice 11 0 3 (some 3)) o0 o1 o2 o3 a0 a1 a2 a3,.spot 181 1 0 [.func (.func 110) [.ptr 10 0 0] []]] (.iface 138 (.ptr 10 0 0)) (fun x=>look_0 (aV C W (m+1) aD aL N i k1 k2 k3 bV) x (aB C.st C.PL.length+2*j) cH thr saw o0 o1 o3 a0 a1 a3 o2 a2) (aG ⟨F.inW jw.1 jw.2,c1,trivial⟩ F.endC) ⟨⟨_,rfl⟩,rfl,rfl,rfl,rfl,rfl,rfl,rfl,rfl,⟨10,rfl,rfl⟩,⟨9,rfl,rfl⟩,rfl,rfl,rfl⟩ ⟨⟨.head _,rfl⟩,⟨_,.tail _ (.head _),gH rfl⟩,trivial⟩⟩⟩
 |take hL=>
  obtain⟨m,rfl⟩:=Nat.exists_eq_succ_of_ne_zero (by omega:nL≠0);cases c1:((W.getD (aB C.st C.PL.length+2*j).toNat 0)==saw)
  ·exact⟨W,w,.inr ⟨_,_,_,_,_,fun h=>no h,mP aK (.inl rfl) F [10,11] [tV C (aB C.st C.PL.length+2*j) cH thr saw (.slice 11 1 2 (some 2)) o0 o1 o2 o3 a0 a1 a2 a3,.spot 181 1 1 [.func (.func 111) [.ptr 10 0 0] []]] (.iface 138 (.ptr 10 0 0)) (fun x=>take_1 (aV C W (m+1) aD aL N i k1 k2 k3 bV) x (aB C.st C.PL.length+2*j) cH thr saw o0 o1 o3 a0 a1 a3 o2 a2) (aG ⟨F.inW jw.1 jw.2,c1,trivial⟩ F.endC) ⟨⟨_,rfl⟩,rfl,rfl,rfl,rfl,rfl,rfl,rfl,rfl,⟨10,rfl,rfl⟩,⟨9,rfl,rfl⟩,rfl,rfl,rfl⟩ ⟨⟨.head _,rfl⟩,⟨_,.tail _ (.head _),gH rfl⟩,trivial⟩⟩⟩
  ·exact⟨_,hU.safe ok w sw,.inl ⟨_,_,⟨hk,rfl,j,cH,thr,(eD saw 3),o0,o1,o2,o3,a0,a1,a2,a3,n,hj,ht,hn,.read (by omega)⟩,mC aK (.inl rfl) F [10,11] [tV C (aB C.st C.PL.length+2*j) cH thr saw (.slice 11 1 2 (some 2)) o0 o1 o2 o3 a0 a1 a2 a3,.spot 181 1 1 [.func (.func 111) [.ptr 10 0 0] []]] (.iface 138 (.ptr 10 0 0)) [] [(10,10,tV C (aB C.st C.PL.length+2*j) cH thr (eD saw 3) (.slice 11 2 1 (some 1)) o0 o1 o2 o3 a0 a1 a2 a3)] [(11,.cells 181 1 zM)] _ (fun x=>take_0 (aV C W (m+1) aD aL N i k1 k2 k3 bV) x (aB C.st C.PL.length+2*j) cH thr saw o0 o1 o3 a0 a1 a3 o2 a2) ⟨F.inW jw.1 jw.2,c1,trivial⟩ (.refl _) ⟨⟨_,rfl⟩,rfl,rfl,rfl,rfl,⟨_,rfl,rfl⟩,rfl,rfl,rfl,⟨9,rfl,rfl⟩,⟨3,_,rfl,rfl,rfl⟩,F.he,(by simp[aV]),rfl,rfl⟩ ⟨⟨.head _,rfl⟩,⟨_,.tail _ (.head _),gH rfl⟩,trivial⟩ ⟨⟨7,_,rfl,rfl,rfl,rfl,rfl,rfl,rfl⟩,trivial⟩ (fun x hx=>by simp at hx;subst hx;exact⟨.tail _ (.head _),show 11∉[10] by decide,rfl,rfl⟩) (by simp)⟩⟩
 |read hL=>
  obtain⟨m,rfl⟩:=Nat.exists_eq_succ_of_ne_zero (by omega:nL≠0);obtain⟨_,b1,b2,b3,b4⟩:=of_ex (W.getD ((aB C.st C.PL.length+2*j)+1).toNat 0);obtain⟨k,rU,hpb,hch⟩:=pathB_ex ok b1;have nN:=pH C.PL k (kD (W.getD ((aB C.st C.PL.length+2*j)+1).toNat 0));refine⟨W,w,.inl ⟨_,(10,tV C (aB C.st C.PL.length+2*j) cH thr saw (.slice 11 1 (2*k+1) none) 0 (mL (W.getD ((aB C.st C.PL.length+2*j)+1).toNat 0)) false (kD (W.getD ((aB C.st C.PL.length+2*j)+1).toNat 0)) a0 a1 a2 a3)::(11,.cells 181 1 (rlR k))::(12,.cells 138 1 [.ptr 10 0 0])::(13,.cells 3 1 [.int .i64 (mL (W.getD ((aB C.st C.PL.length+2*j)+1).toNat 0))])::eI (chain C.PL k (kD (W.getD ((aB C.st C.PL.length+2*j)+1).toNat 0))) k 0,⟨hk,rfl,j,cH,thr,saw,0,(mL (W.getD ((aB C.st C.PL.length+2*j)+1).toNat 0)),false,(kD (W.getD ((aB C.st C.PL.length+2*j)+1).toNat 0)),a0,a1,a2,a3,(mL (W.getD ((aB C.st C.PL.length+2*j)+1).toNat 0)),hj,ht,⟨b3,b4⟩,.list k 0 _ (by omega) rU (by omega) nN hch⟩,?_⟩⟩;have hcd:holds [(fits ((aB C.st C.PL.length+2*j)+1),true),(inW ((aB C.st C.PL.length+2*j)+1) W.length (m+1) W,true),(nX C.PL C.PL.length k (kD (W.getD ((aB C.st C.PL.length+2*j)+1).toNat 0)),true)]:=⟨nY (by omega),F.inW jw1.1 jw1.2,hpb,trivial⟩;have T:=fun x=>read_all (aV C W (m+1) aD aL N i k1 k2 k3 bV) x (aB C.st C.PL.length+2*j) cH thr saw o0 o1 o3 a0 a1 a3 o2 a2 C.PL rU
  clear hpb hch nN;exact rd_all rU F T hcd
 |list k q us hL rU hq hus hch=>
  obtain⟨m,rfl⟩:=Nat.exists_eq_succ_of_ne_zero (by omega:nL≠0);by_cases hq2:q=2*k
  ·subst hq2
   have e1:2*k+1-2*k=1:=by omega
   simp only[e1]at F;exact⟨_,hU.safe ok w sw,.inr ⟨_,_,_,_,_,fun h=>no h,mP aK (.inl rfl) F [10,11] [tV C (aB C.st C.PL.length+2*j) cH thr saw (.slice 11 (2*k+1) 1 none) o0 o1 o2 o3 a0 a1 a2 a3,.spot 181 1 (2*k+1) [.func (.func 145) [.ptr 10 0 0] []]] (.iface 138 (.ptr 10 0 0)) (fun x=>let_0 (aV C W (m+1) aD aL N i k1 k2 k3 bV) x (aB C.st C.PL.length+2*j) cH thr saw o0 o1 o3 a0 a1 a3 o2 a2 (2*k+1)) (aG ⟨dW _,F.inW jw.1 jw.2,trivial⟩ F.endC) ⟨⟨_,rfl⟩,rfl,rfl,rfl,rfl,rfl,rfl,rfl,rfl,⟨10,rfl,rfl⟩,⟨9,rfl,rfl⟩,(by simp[aV]),rfl,rfl⟩ ⟨⟨.head _,rfl⟩,⟨_,.tail _ (.head _),gH rlR_last⟩,trivial⟩⟩⟩
  ·have hu:bH C (us.getD (xK k q) 0):=hch _ (pI (by
    rw[hus];unfold xK;cases hb:Nat.blt q k
    ·simp only;omega
    ·have:=aF.1 hb;simp only;exact this))
   obtain⟨hu0,hu1⟩:=hu;have jN:=ok.np;have gE:0≤C.st:=by omega
   have hu100:us.getD (xK k q) 0≤100:=by omega
   rw[BI (by omega)]at F;by_cases hqk:q<k
   ·have hN:rsN k q=142:=by unfold rsN;rw[aF.2 hqk]
    simp only[uS,hN,List.cons_append,List.nil_append]at F;have sa:safe C (aB C.st (us.getD (xK k q) 0)+1):=mO ok ⟨hu0,hu1⟩ (by omega) (by omega);have jsa:0≤aB C.st (us.getD (xK k q) 0)+1∧aB C.st (us.getD (xK k q) 0)+1<W.length:=⟨sa.1,by have:=sa.2.1;omega⟩;exact⟨_,hU.plus ok w sa,.inl ⟨_,_,⟨hk,rfl,j,cH,thr,saw,o0,o1,o2,o3,a0,a1,a2,a3,n,hj,ht,hn,.list k (q+1) us (by omega) rU (by omega) hus hch⟩,mC aK (.inl rfl) F [10,11,3*q+20,3*q+21,12,3*q+22,13] [tV C (aB C.st C.PL.length+2*j) cH thr saw (.slice 11 (q+1) (2*k+1-q) none) o0 o1 o2 o3 a0 a1 a2 a3,.spot 181 1 (q+1) [.func (.func 163) [] [.ptr 12 0 0,.ptr 13 0 0]],.cells 72 1 [.val .nilIface],.cells 156 1 [.func (.func 142) [] [.ptr 14 0 0,.ptr 15 0 0,.ptr 16 0 0]],.cells 138 1 [.ptr 10 0 0],.cells 3 1 [.int .i64 (us.getD (xK k q) 0)],.cells 3 1 [.int .i64 n]] (.iface 138 (.ptr 10 0 0)) [] [(10,10,tV C (aB C.st C.PL.length+2*j) cH thr saw (.slice 11 (q+1+1) (2*k+1-(q+1)) none) o0 o1 o2 o3 a0 a1 a2 a3),(14,12,.cells 138 1 [.ptr 10 0 0]),(16,13,.cells 3 1 [.int .i64 n])] ((11,.cells 181 1 (rlR k))::eI us k (q+1)) _ (fun x=>refund_s_0 (aV C W (m+1) aD aL N i k1 k2 k3 bV) x (aB C.st C.PL.length+2*j) cH thr saw o0 o1 o3 a0 a1 a3 o2 a2 (us.getD (xK k q) 0) n (q+1) (2*k+1-q)) ⟨decide_eq_true (by omega),decide_eq_true (by omega),dW _,decide_eq_true ⟨gE,gA.2,hu0,hu100⟩,decide_eq_true ⟨gE,gA.2,hu0,hu100⟩,F.inW jsa.1 jsa.2,Nat.ble_eq_true_of_le (Nat.le_refl _),Nat.ble_eq_true_of_le (by omega),cS (by show((2*k+1-q-1:Nat):Int)≠0;omega),cS (by show((2*k+1-q-1:Nat):Int)≠0;omega),trivial⟩ (.refl _) ⟨⟨_,rfl⟩,rfl,rfl,rfl,rfl,⟨_,rfl,rfl⟩,rfl,rfl,rfl,⟨14,rfl,rfl⟩,⟨3,_,rfl,rfl,rfl⟩,F.he,(by simp[aV,plus]),rfl,rfl⟩ ⟨⟨.head _,rfl⟩,⟨_,.tail _ (.head _),gH (rlR_at (by omega))⟩,⟨.tail _ (.tail _ (.tail _ (.tail _ (.head _)))),rfl⟩,⟨.tail _ (.tail _ (.tail _ (.tail _ (.tail _ (.head _))))),rfl⟩,⟨.tail _ (.tail _ (.head _)),rfl⟩,⟨.tail _ (.tail _ (.tail _ (.tail _ (.tail _ (.tail _ (.head _)))))),rfl⟩,⟨.tail _ (.tail _ (.tail _ (.head _))),rfl⟩,trivial⟩ ⟨⟨7,_,rfl,rfl,rfl,rfl,rfl,rfl,rfl⟩,⟨10,_,rfl,rfl,rfl,rfl,rfl,rfl,rfl⟩,⟨12,_,rfl,rfl,rfl,rfl,rfl,rfl,rfl⟩,trivial⟩ (fun x hx=>by
    rcases List.mem_cons.1 hx with rfl|hx
    ·exact⟨.tail _ (.head _),fun h=>by have h:11∈[10,3*q+20,3*q+21,12,3*q+22,13]:=h;simp at h,yG rU (by simp),rfl⟩
    ·exact kS rU (fun c hc=>by have hc:c∈[10,3*q+20,3*q+21,12,3*q+22,13]:=hc;simp at hc;omega) (by simp) (fun y hy=>.tail _ (.tail _ (.tail _ (.tail _ (.tail _ (.tail _ (.tail _ (hy)))))))) x hx) (fun x hx=>by simp at hx⊢;rcases hx with h|h|h|h|h<;>simp[h]) (pG:=fun c hc=>by simp at hc;omega) (oG:=by simp<;>omega)⟩⟩
   ·have hN:rsN k q=144:=by unfold rsN;rw[pE (by omega)]
    simp only[uS,hN,List.cons_append,List.nil_append]at F;have lE:m+1+1≤1000000000:=by have:=F.log;omega
    have hx:=wrap_u32 ((thr+1)*2654435761);have a0K:tA C (cG.mk (aB C.st (us.getD (xK k q) 0)+2+C.st) C.st C.ga (0-n) (IntKind.wrap .i64 (IntKind.wrap .u32 ((thr+1)*2654435761))) 0 0 0 0 159):=
     ⟨⟨_,⟨hu0,hu1⟩,rfl⟩,rfl,rfl,by simp only;omega,hx,.inl rfl,by simp,by simp,by simp,by simp⟩
    obtain⟨g1,g2,g3,g4⟩:=add_go ok w a0K;have g5:tA C (bJ (cG.mk (aB C.st (us.getD (xK k q) 0)+2+C.st) C.st C.ga (0-n) (IntKind.wrap .i64 (IntKind.wrap .u32 ((thr+1)*2654435761))) 0 0 0 0 159) W).1:=g4.resolve_left (by simp[bJ]);refine⟨_,g2,.inl ⟨_,(10,tV C (aB C.st C.PL.length+2*j) cH thr saw (.slice 11 (q+1) (2*k+1-q) none) o0 o1 o2 o3 a0 a1 a2 a3)::(11,.cells 181 1 (rlR k))::(12,.cells 138 1 [.ptr 10 0 0])::(13,.cells 3 1 [.int .i64 n])::(14,(bJ (cG.mk (aB C.st (us.getD (xK k q) 0)+2+C.st) C.st C.ga (0-n) (IntKind.wrap .i64 (IntKind.wrap .u32 ((thr+1)*2654435761))) 0 0 0 0 159) W).1.o)::(3*q+20,.cells 72 1 [.iface 176 (.ptr 14 0 0)])::
     (3*q+21,.cells 156 1 [.func (.func 144) [] [.ptr 12 0 0,.ptr (3*q+22) 0 0,.ptr 13 0 0]])::(3*q+22,.cells 3 1 [.int .i64 (us.getD (xK k q) 0)])::eI us k (q+1),⟨hk,rfl,j,cH,thr,saw,o0,o1,o2,o3,a0,a1,a2,a3,n,hj,ht,hn,?_⟩,
     mC aK (.inl rfl) F [10,11,3*q+20,3*q+21,12,3*q+22,13] [tV C (aB C.st C.PL.length+2*j) cH thr saw (.slice 11 (q+1) (2*k+1-q) none) o0 o1 o2 o3 a0 a1 a2 a3,.spot 181 1 (q+1) [.func (.func 163) [] [.ptr 12 0 0,.ptr 13 0 0]],.cells 72 1 [.val .nilIface],.cells 156 1 [.func (.func 144) [] [.ptr 14 0 0,.ptr 15 0 0,.ptr 16 0 0]],.cells 138 1 [.ptr 10 0 0],.cells 3 1 [.int .i64 (us.getD (xK k q) 0)],.cells 3 1 [.int .i64 n]] (.iface 138 (.ptr 10 0 0)) [(26,14)] [(10,10,tV C (aB C.st C.PL.length+2*j) cH thr saw (.slice 11 (q+1) (2*k+1-q) none) o0 o1 o2 o3 a0 a1 a2 a3),(12,3*q+20,.cells 72 1 [.iface 176 (.ptr 14 0 0)]),(13,3*q+21,.cells 156 1 [.func (.func 144) [] [.ptr 12 0 0,.ptr (3*q+22) 0 0,.ptr 13 0 0]]),(14,12,.cells 138 1 [.ptr 10 0 0]),(15,3*q+22,.cells 3 1 [.int .i64 (us.getD (xK k q) 0)]),(16,13,.cells 3 1 [.int .i64 n]),(26,14,(bJ (cG.mk (aB C.st (us.getD (xK k q) 0)+2+C.st) C.st C.ga (0-n) (IntKind.wrap .i64 (IntKind.wrap .u32 ((thr+1)*2654435761))) 0 0 0 0 159) W).1.o)] ((11,.cells 181 1 (rlR k))::eI us k (q+1)) _ (fun x=>addb_s_0 (aV C W (m+1) aD aL N i k1 k2 k3 bV) x (aB C.st C.PL.length+2*j) cH thr saw o0 o1 o3 a0 a1 a3 o2 a2 (us.getD (xK k q) 0) n (q+1) (2*k+1-q)) ⟨decide_eq_true (by omega),decide_eq_true (by omega),dW _,nY (by omega),decide_eq_true ⟨gE,gA.2,hu0,hu100⟩,nY (by omega),nY (by omega),@decide_eq_true _ (Classical.propDecidable _) ⟨g1,rfl,rfl,lE⟩,cS (by omega),cS (by omega),trivial⟩ (.refl _) ⟨⟨_,rfl⟩,rfl,rfl,rfl,rfl,⟨_,rfl,rfl⟩,rfl,rfl,rfl,⟨14,rfl,rfl⟩,⟨3,_,rfl,rfl,rfl⟩,F.he,g3,rfl,rfl⟩ ⟨⟨.head _,rfl⟩,⟨_,.tail _ (.head _),gH (rlR_at (by omega))⟩,⟨.tail _ (.tail _ (.tail _ (.tail _ (.head _)))),rfl⟩,⟨.tail _ (.tail _ (.tail _ (.tail _ (.tail _ (.head _))))),rfl⟩,⟨.tail _ (.tail _ (.head _)),rfl⟩,⟨.tail _ (.tail _ (.tail _ (.tail _ (.tail _ (.tail _ (.head _)))))),rfl⟩,⟨.tail _ (.tail _ (.tail _ (.head _))),rfl⟩,trivial⟩ ⟨⟨7,_,rfl,rfl,rfl,rfl,rfl,rfl,rfl⟩,⟨8,_,rfl,rfl,rfl,rfl,rfl,rfl,rfl⟩,⟨9,_,rfl,rfl,rfl,rfl,rfl,rfl,rfl⟩,⟨10,_,rfl,rfl,rfl,rfl,rfl,rfl,rfl⟩,⟨11,_,rfl,rfl,rfl,rfl,rfl,rfl,rfl⟩,⟨12,_,rfl,rfl,rfl,rfl,rfl,rfl,rfl⟩,⟨15,_,rfl,rfl,vW _ _,rfl,rfl,rfl,aO_pls _ _⟩,trivial⟩ (fun x hx=>by
    rcases List.mem_cons.1 hx with rfl|hx
    ·exact⟨.tail _ (.head _),fun h=>by have h:11∈[10,3*q+20,3*q+21,12,3*q+22,13]:=h;simp at h,yG rU (by simp),rfl⟩
    ·exact kS rU (fun c hc=>by have hc:c∈[10,3*q+20,3*q+21,12,3*q+22,13]:=hc;simp at hc;omega) (by simp) (fun y hy=>.tail _ (.tail _ (.tail _ (.tail _ (.tail _ (.tail _ (.tail _ (hy)))))))) x hx) (fun x hx=>by simp at hx⊢;rcases hx with h|h|h|h|h|h|h|h|h<;>simp[h]) (pG:=fun c hc=>by simp at hc;omega) (oG:=by simp<;>omega)⟩⟩
    rw[←hN];exact .add k q us _ (by omega) rU (by omega) (by omega) hus hch g5
 |add k q us s hL rU hqk hq hus hch hs=>
  obtain⟨m,rfl⟩:=Nat.exists_eq_succ_of_ne_zero (by omega:nL≠0);have hN:rsN k q=144:=by unfold rsN;rw[pE (by omega)]
  simp only[hN]at F;have lE:m+1+1≤1000000000:=by have:=F.log;omega
  obtain⟨g1,g2,g3,g4⟩:=add_go ok w hs;obtain⟨base,stripes,gate,d,ax,lives,stripe,aw,av,nf⟩:=s;obtain⟨nf,rfl⟩:∃z,nf=z+1:=Nat.exists_eq_succ_of_ne_zero (by have:=hs.nf;simp only at this;omega);cases c1:Nat.beq (bJ ⟨base,stripes,gate,d,ax,lives,stripe,aw,av,nf+1⟩ W).1.nf 0
  ·have g5:=g4.resolve_left (fun e=>by rw[e]at c1;cases c1)
   refine⟨_,g2,.inl ⟨_,(10,tV C (aB C.st C.PL.length+2*j) cH thr saw (.slice 11 (q+1) (2*k+1-q) none) o0 o1 o2 o3 a0 a1 a2 a3)::(11,.cells 181 1 (rlR k))::(12,.cells 138 1 [.ptr 10 0 0])::(13,.cells 3 1 [.int .i64 n])::(14,(bJ ⟨base,stripes,gate,d,ax,lives,stripe,aw,av,nf+1⟩ W).1.o)::(3*q+20,.cells 72 1 [.iface 176 (.ptr 14 0 0)])::
    (3*q+21,.cells 156 1 [.func (.func 144) [] [.ptr 12 0 0,.ptr (3*q+22) 0 0,.ptr 13 0 0]])::(3*q+22,.cells 3 1 [.int .i64 (us.getD (xK k q) 0)])::eI us k (q+1),⟨hk,rfl,j,cH,thr,saw,o0,o1,o2,o3,a0,a1,a2,a3,n,hj,ht,hn,?_⟩,
    mC aK (.inl rfl) F [10,11,3*q+20,3*q+21,12,3*q+22,13,14] [tV C (aB C.st C.PL.length+2*j) cH thr saw (.slice 11 (q+1) (2*k+1-q) none) o0 o1 o2 o3 a0 a1 a2 a3,.spot 181 1 (q+1) [.func (.func 163) [] [.ptr 12 0 0,.ptr 13 0 0]],.cells 72 1 [.iface 176 (.ptr 17 0 0)],.cells 156 1 [.func (.func 144) [] [.ptr 14 0 0,.ptr 15 0 0,.ptr 16 0 0]],.cells 138 1 [.ptr 10 0 0],.cells 3 1 [.int .i64 (us.getD (xK k q) 0)],.cells 3 1 [.int .i64 n],cG.o ⟨base,stripes,gate,d,ax,lives,stripe,aw,av,nf+1⟩] (.iface 138 (.ptr 10 0 0)) [] [(10,10,tV C (aB C.st C.PL.length+2*j) cH thr saw (.slice 11 (q+1) (2*k+1-q) none) o0 o1 o2 o3 a0 a1 a2 a3),(12,3*q+20,.cells 72 1 [.iface 176 (.ptr 14 0 0)]),(13,3*q+21,.cells 156 1 [.func (.func 144) [] [.ptr 12 0 0,.ptr (3*q+22) 0 0,.ptr 13 0 0]]),(14,12,.cells 138 1 [.ptr 10 0 0]),(15,3*q+22,.cells 3 1 [.int .i64 (us.getD (xK k q) 0)]),(16,13,.cells 3 1 [.int .i64 n]),(17,14,(bJ ⟨base,stripes,gate,d,ax,lives,stripe,aw,av,nf+1⟩ W).1.o)] ((11,.cells 181 1 (rlR k))::eI us k (q+1)) _ (fun x=>addb_c_1 (aV C W (m+1) aD aL N i k1 k2 k3 bV) x (aB C.st C.PL.length+2*j) cH thr saw o0 o1 o3 a0 a1 a3 o2 a2 (us.getD (xK k q) 0) n (q+1) (2*k+1-q) base stripes gate d ax lives stripe aw av nf) ⟨decide_eq_true (by omega),decide_eq_true (by omega),dW _,@decide_eq_true _ (Classical.propDecidable _) ⟨g1,rfl,rfl,lE⟩,c1,cS (by omega),cS (by omega),trivial⟩ (.refl _) ⟨⟨_,rfl⟩,rfl,rfl,rfl,rfl,⟨_,rfl,rfl⟩,rfl,rfl,rfl,⟨15,rfl,rfl⟩,⟨3,_,rfl,rfl,rfl⟩,F.he,g3,rfl,rfl⟩ ⟨⟨.head _,rfl⟩,⟨_,.tail _ (.head _),gH (rlR_at (by omega))⟩,⟨.tail _ (.tail _ (.tail _ (.tail _ (.tail _ (.head _))))),rfl⟩,⟨.tail _ (.tail _ (.tail _ (.tail _ (.tail _ (.tail _ (.head _)))))),rfl⟩,⟨.tail _ (.tail _ (.head _)),rfl⟩,⟨.tail _ (.tail _ (.tail _ (.tail _ (.tail _ (.tail _ (.tail _ (.head _))))))),rfl⟩,⟨.tail _ (.tail _ (.tail _ (.head _))),rfl⟩,⟨.tail _ (.tail _ (.tail _ (.tail _ (.head _)))),rfl⟩,trivial⟩ ⟨⟨7,_,rfl,rfl,rfl,rfl,rfl,rfl,rfl⟩,⟨8,_,rfl,rfl,rfl,rfl,rfl,rfl,rfl⟩,⟨9,_,rfl,rfl,rfl,rfl,rfl,rfl,rfl⟩,⟨10,_,rfl,rfl,rfl,rfl,rfl,rfl,rfl⟩,⟨11,_,rfl,rfl,rfl,rfl,rfl,rfl,rfl⟩,⟨12,_,rfl,rfl,rfl,rfl,rfl,rfl,rfl⟩,⟨13,_,rfl,rfl,vW _ _,rfl,rfl,rfl,aO_pls _ _⟩,trivial⟩ (fun x hx=>by
    rcases List.mem_cons.1 hx with rfl|hx
    ·exact⟨.tail _ (.head _),fun h=>by have h:11∈[10,3*q+20,3*q+21,12,3*q+22,13,14]:=h;simp at h,yG rU (by simp),rfl⟩
    ·exact kS rU (fun c hc=>by have hc:c∈[10,3*q+20,3*q+21,12,3*q+22,13,14]:=hc;simp at hc;omega) (by simp) (fun y hy=>.tail _ (.tail _ (.tail _ (.tail _ (.tail _ (.tail _ (.tail _ (.tail _ (hy))))))))) x hx) (fun x hx=>by simp at hx⊢;rcases hx with h|h|h|h|h|h|h|h|h<;>simp[h]) (pG:=fun c hc=>by simp at hc;omega) (oG:=by simp<;>omega)⟩⟩
   rw[←hN];exact .add k q us _ (by omega) rU (by omega) (by omega) hus hch g5
  ·exact⟨_,g2,.inl ⟨_,_,⟨hk,rfl,j,cH,thr,saw,o0,o1,o2,o3,a0,a1,a2,a3,n,hj,ht,hn,.list k (q+1) us (by omega) rU (by omega) hus hch⟩,mC aK (.inl rfl) F [10,11,3*q+20,3*q+21,12,3*q+22,13,14] [tV C (aB C.st C.PL.length+2*j) cH thr saw (.slice 11 (q+1) (2*k+1-q) none) o0 o1 o2 o3 a0 a1 a2 a3,.spot 181 1 (q+1) [.func (.func 163) [] [.ptr 12 0 0,.ptr 13 0 0]],.cells 72 1 [.iface 176 (.ptr 17 0 0)],.cells 156 1 [.func (.func 144) [] [.ptr 14 0 0,.ptr 15 0 0,.ptr 16 0 0]],.cells 138 1 [.ptr 10 0 0],.cells 3 1 [.int .i64 (us.getD (xK k q) 0)],.cells 3 1 [.int .i64 n],cG.o ⟨base,stripes,gate,d,ax,lives,stripe,aw,av,nf+1⟩] (.iface 138 (.ptr 10 0 0)) [] [(10,10,tV C (aB C.st C.PL.length+2*j) cH thr saw (.slice 11 (q+1+1) (2*k+1-(q+1)) none) o0 o1 o2 o3 a0 a1 a2 a3),(14,12,.cells 138 1 [.ptr 10 0 0]),(16,13,.cells 3 1 [.int .i64 n])] ((11,.cells 181 1 (rlR k))::eI us k (q+1)) _ (fun x=>addb_c_0 (aV C W (m+1) aD aL N i k1 k2 k3 bV) x (aB C.st C.PL.length+2*j) cH thr saw o0 o1 o3 a0 a1 a3 o2 a2 (us.getD (xK k q) 0) n (q+1) (2*k+1-q) base stripes gate d ax lives stripe aw av nf) ⟨decide_eq_true (by omega),decide_eq_true (by omega),dW _,@decide_eq_true _ (Classical.propDecidable _) ⟨g1,rfl,rfl,lE⟩,c1,Nat.ble_eq_true_of_le (Nat.le_refl _),Nat.ble_eq_true_of_le (by omega),cS (by show((2*k+1-q-1:Nat):Int)≠0;omega),cS (by show((2*k+1-q-1:Nat):Int)≠0;omega),trivial⟩ (.refl _) ⟨⟨_,rfl⟩,rfl,rfl,rfl,rfl,⟨_,rfl,rfl⟩,rfl,rfl,rfl,⟨15,rfl,rfl⟩,⟨3,_,rfl,rfl,rfl⟩,F.he,g3,rfl,rfl⟩ ⟨⟨.head _,rfl⟩,⟨_,.tail _ (.head _),gH (rlR_at (by omega))⟩,⟨.tail _ (.tail _ (.tail _ (.tail _ (.tail _ (.head _))))),rfl⟩,⟨.tail _ (.tail _ (.tail _ (.tail _ (.tail _ (.tail _ (.head _)))))),rfl⟩,⟨.tail _ (.tail _ (.head _)),rfl⟩,⟨.tail _ (.tail _ (.tail _ (.tail _ (.tail _ (.tail _ (.tail _ (.head _))))))),rfl⟩,⟨.tail _ (.tail _ (.tail _ (.head _))),rfl⟩,⟨.tail _ (.tail _ (.tail _ (.tail _ (.head _)))),rfl⟩,trivial⟩ ⟨⟨7,_,rfl,rfl,rfl,rfl,rfl,rfl,rfl⟩,⟨10,_,rfl,rfl,rfl,rfl,rfl,rfl,rfl⟩,⟨12,_,rfl,rfl,rfl,rfl,rfl,rfl,rfl⟩,trivial⟩ (fun x hx=>by
   rcases List.mem_cons.1 hx with rfl|hx
   ·exact⟨.tail _ (.head _),fun h=>by have h:11∈[10,3*q+20,3*q+21,12,3*q+22,13,14]:=h;simp at h,yG rU (by simp),rfl⟩
   ·exact kS rU (fun c hc=>by have hc:c∈[10,3*q+20,3*q+21,12,3*q+22,13,14]:=hc;simp at hc;omega) (by simp) (fun y hy=>.tail _ (.tail _ (.tail _ (.tail _ (.tail _ (.tail _ (.tail _ (.tail _ (hy))))))))) x hx) (fun x hx=>by simp at hx⊢;rcases hx with h|h|h|h|h<;>simp[h]) (pG:=fun c hc=>by simp at hc;omega) (oG:=by simp<;>omega)⟩⟩
end
end Go.Proofs.YtnkcbfgfkadoaaaGreat.Sx
namespace Go.Proofs.YtnkcbfgfkadoaaaGreat.Sx
open Go
set_option maxRecDepth 10000
inductive Part where
 |pool (v:Int)
 |store (w y:Int)
 |add (v:Int)
 |back (v:Int)
def Part.c1(p:Part)(a b:Nat):SV:=match p with
 |.pool _=>.func (.func 124) [] [.ptr 15 0 0,.ptr a 0 0]
 |.store _ _=>.func (.func 157) [] [.ptr a 0 0,.ptr b 0 0]
 |.add _=>.func (.func 132) [] [.ptr 15 0 0,.ptr a 0 0]
 |.back _=>.func (.func 153) [] [.ptr 15 0 0,.ptr a 0 0]
def Part.c2(p:Part)(a:Nat):SV:=match p with
 |.pool _=>.func (.func 126) [] [.ptr 15 0 0,.ptr a 0 0]
 |_=>.func (.func 134) [] []
def Part.obs(p:Part)(a b:Nat):mB:=match p with
 |.pool v=>[(a,.cells 3 1 [.int .i64 v])]
 |.store w y=>[(a,.cells 3 1 [.int .i64 w]),(b,.cells 3 1 [.int .i64 y])]
 |.add v=>[(a,.cells 3 1 [.int .i64 v])]
 |.back v=>[(a,.cells 3 1 [.int .i64 v])]
def fD:Nat→List Part→List SV
 |_,[]=>[]
 |q,p::ps=>p.c1 (2*q+20) (2*q+21)::p.c2 (2*q+20)::fD (q+1) ps
def fY:Nat→List Part→mB
 |_,[]=>[]
 |q,p::ps=>p.obs (2*q+20) (2*q+21)++fY (q+1) ps
def Part.ok(C:bS):Part→Prop
 |.pool v=>bH C v
 |.store w _=>safe C w
 |.add v=>bH C v
 |.back v=>bH C v
def Part.isPool:Part→Bool
 |.pool _=>true
 |_=>false
theorem bU(p:Part)(ps:List Part):∀(done:List Part) (q:Nat),(fD q (done++p::ps))[2*done.length]?=some (p.c1 (2*(q+done.length)+20) (2*(q+done.length)+21))∧(fD q (done++p::ps))[2*done.length+1]?=some (p.c2 (2*(q+done.length)+20))
 |[],q=>⟨rfl,rfl⟩
 |r::done,q=>by
  obtain⟨h1,h2⟩:=bU p ps done (q+1);have e:q+1+done.length=q+(done.length+1):=by omega
  rw[e]at h1 h2;simp only[List.cons_append,List.length_cons,fD];refine⟨?_,?_⟩
  ·rw[show 2*(done.length+1)=2*done.length+1+1 by omega,List.getElem?_cons_succ,List.getElem?_cons_succ];exact h1
  ·rw[show 2*(done.length+1)+1=2*done.length+1+1+1 by omega,List.getElem?_cons_succ,List.getElem?_cons_succ];exact h2
theorem role2{nr:List (Nat×Nat)}{c:Nat}(h1:10≤c)(h2:c<990)(hn:∀x∈nr,x.2≠c):dJ nr c=true:=by
 unfold dJ oM;have:(nr.any fun x=>Nat.beq x.2 c)=false:=by
  rw[List.any_eq_false];intro y hy hb;exact hn y hy (Nat.eq_of_beq_eq_true hb)
 rw[this,Nat.ble_eq_true_of_le h1,aF.2 h2];simp
theorem prow_pls{nr:List (Nat×Nat)}(hn:∀x∈nr,x.2<20∧x.2≠15):∀(ps:List Part) (q:Nat),q+ps.length≤60→SV.plss (dJ nr) (fD q ps)=true
 |[],_,_=>rfl
 |p::ps,q,h=>by
  simp only[List.length_cons]at h;have r15:=role2 (nr:=nr) (c:=15) (by omega) (by omega) fun x hx=>(hn x hx).2
  have ra:=role2 (nr:=nr) (c:=2*q+20) (by omega) (by omega) fun x hx=>by have:=(hn x hx).1;omega
  have rb:=role2 (nr:=nr) (c:=2*q+21) (by omega) (by omega) fun x hx=>by have:=(hn x hx).1;omega
  have ih:=prow_pls hn ps (q+1) (by omega);cases p<;>simp only[fD,Part.c1,Part.c2,SV.plss,SV.pls,r15,ra,rb,ih,Bool.and_true,Bool.true_and]
theorem iP{nr:List (Nat×Nat)}(hn:∀x∈nr,x.2<20∧x.2≠15){ps:List Part}(h:ps.length≤60):(SO.cells 159 2 (fD 0 ps)).pls (dJ nr)=true:=prow_pls hn ps 0 (by omega)
theorem eE{nr:List (Nat×Nat)}{O:List Nat}(hn:∀x∈nr,x.2<20):∀(ps:List Part) (q:Nat),q+ps.length≤60→(∀c∈O,c<2*q+20)→∀x∈fY q ps,x.1∉O∧x.2.pls (dJ nr)=true∧dJ nr x.1=true
 |[],_,_,_,x,hx=>by cases hx
 |p::ps,q,h,hO,x,hx=>by
  simp only[List.length_cons]at h;have ra:=role2 (nr:=nr) (c:=2*q+20) (by omega) (by omega) fun x hx=>by have:=hn x hx;omega
  have rb:=role2 (nr:=nr) (c:=2*q+21) (by omega) (by omega) fun x hx=>by have:=hn x hx;omega
  have na:2*q+20∉O:=fun hm=>by have:=hO _ hm;omega
  have nb:2*q+21∉O:=fun hm=>by have:=hO _ hm;omega
  simp only[fY,List.mem_append]at hx;rcases hx with hx|hx
  ·cases p<;>simp only[Part.obs,List.mem_cons,List.not_mem_nil,or_false]at hx
   ·subst hx;exact⟨na,rfl,ra⟩
   ·rcases hx with rfl|rfl
    ·exact⟨na,rfl,ra⟩
    ·exact⟨nb,rfl,rb⟩
   ·subst hx;exact⟨na,rfl,ra⟩
   ·subst hx;exact⟨na,rfl,ra⟩
  ·exact eE hn ps (q+1) (by omega) (fun c hc=>by have:=hO c hc;omega) x hx
theorem uU(t s:Nat)(l:List SV)(i:Nat)(h1:∀v,l[i]?=some v→v.one=true):Wk (.cells t s l) (.cells t s (l.set i .any)):=by
 refine .inr ⟨by simp,fun ρ p w h=>?_⟩;obtain⟨a1,a2,cs,fr,a3,a4,a5,a6⟩:=h;refine⟨a1,by rw[List.length_set];exact a2,cs,fr,a3,a4,a5,fun j v hv=>?_⟩;rw[List.getElem?_set]at hv;split at hv
 ·rename_i e
  split at hv
  ·rename_i cK
   subst e;injection hv with hv;subst hv;obtain⟨u,b1,b2⟩:=a6 i l[i] (List.getElem?_eq_getElem cK);exact⟨u,b1,kU b2 (h1 _ (List.getElem?_eq_getElem cK))⟩
  ·cases hv
 ·exact a6 j v hv
theorem Wk.trans{a b c:SO}(h:Wk a b)(h':Wk b c):Wk a c:=by
 rcases h' with h'|⟨h1,h2⟩
 ·exact .inl h'
 ·rcases h with h|⟨h3,h4⟩
  ·exact absurd h h1
  ·exact .inr ⟨h3,fun ρ p w x=>h2 ρ p w (h4 ρ p w x)⟩
def bQ(C:bS)(node n thr:Int)(mA had parts now:SV)(o0 o1:Int)(o2:Bool)(o3:Int):SO:=dN (e0 C) node n thr mA had parts now o0 o1 o2 o3
def dO(C:bS)(left:SV)(seen:Bool)(saw set:Int)(en:Bool)(b0 b1:Int)(b2:Bool)(b3:Int):SO:=fM (e0 C) left seen saw set en b0 b1 b2 b3
theorem wk_adm{e:Env}{node n thr:Int}{mA had parts now:SV}{o0 o1:Int}{o2:Bool}{o3:Int}(h1:mA.one=true)(h2:had.one=true):Wk (dN e node n thr mA had parts now o0 o1 o2 o3) (dN e node n thr .any .any parts now o0 o1 o2 o3):=
 (uU 155 19 _ 11 fun v hv=>by injection hv with hv;subst hv;exact h1).trans (uU 155 19 _ 12 fun v hv=>by injection hv with hv;subst hv;exact h2)
theorem wk_clm{e:Env}{left:SV}{seen:Bool}{saw set:Int}{en:Bool}{b0 b1:Int}{b2:Bool}{b3:Int}(h1:left.one=true):Wk (fM e left seen saw set en b0 b1 b2 b3) (fM e .any seen saw set en b0 b1 b2 b3):=
 uU 171 17 _ 8 fun v hv=>by injection hv with hv;subst hv;exact h1
inductive HadOK:List Int→SV→mB→Prop
 |nil:HadOK [] aC []
 |cons (G:List Int) (n:Nat):G≠[]→n=G.length→HadOK G (.slice 16 0 n none) [(16,.ints 3 1 G)]
inductive lF(C:bS)(nL:Nat)(node:Int)(g:SV→SV→SV→SV→Int→SO):mB→Prop
 |claim (o1:Int) (Q:List Int) (off nQ:Nat) (now:Bool) (seen:Bool) (saw set b0 b1:Int) (b2:Bool) (b3:Int):Q.length=off+nQ→0<nQ→(∀x∈Q,0≤x∧x<C.ti)→(now=false→seen=false)→(now=true→0<nL)→
  lF C nL node g [(10,g (.ptr 14 0 0) aC (.slice 11 0 1 (some 1)) (match now with|true=>.iface 151 (.ptr 14 0 0)|false=>.val .nilIface) o1),(11,.cells 159 2 [.func (.func 107) [] [.ptr 12 0 0],.func (.func 108) [.ptr 10 0 0] []]),(12,.cells 136 1 [.ptr 10 0 0]),(13,.cells 3 1 (Q.map (SV.int .i64))),(14,dO C (.slice 13 off nQ none) seen saw set false b0 b1 b2 b3)]
 |pool (o1:Int) (done os:List Part) (v:Int) (vs:List Int) (d off nP:Nat) (G:List Int) (had:SV) (Gm:mB) (saw set lf:Int) (cur:Option aR):HadOK G had Gm→0<nL→done.length=d→off=d→nP=vs.length+os.length+1→nP+d≤30→os≠[]→(∀p∈os,p.isPool=false∧p.ok C)→(∀x∈v::vs,bH C x)→(∀x∈G,bH C x)→G.length+vs.length≤11→(0≤lf∧lf<C.ti)→(∀s,cur=some s→rT C s)→
  lF C nL node g ((10,g (.ptr 14 0 0) had (.slice 18 off nP none) (match cur with|some _=>.iface 173 (.ptr 17 0 0)|none=>.val .nilIface) o1)::(18,.cells 159 2 (fD 0 (done++.pool v::(vs.map .pool++os))))::(15,.cells 136 1 [.ptr 10 0 0])::(14,dO C .any true saw set true 0 lf false 0)::(2*d+20,.cells 3 1 [.int .i64 v])::
   (Gm++((match cur with|some s=>[(17,s.o)]|none=>[])++fY (d+1) (vs.map .pool++os))))
 |rest (o1:Int) (done:List Part) (p:Part) (ps:List Part) (d off nP:Nat) (cur:Option cG):0<nL→done.length=d→off=d→nP=ps.length+1→nP+d≤30→(∀x∈p::ps,x.isPool=false∧x.ok C)→(∀s,cur=some s→tA C s∧∃v,p=.add v)→
  lF C nL node g ((10,g .any .any (.slice 18 off nP none) (match cur with|some _=>.iface 176 (.ptr 17 0 0)|none=>.val .nilIface) o1)::(18,.cells 159 2 (fD 0 (done++p::ps)))::(15,.cells 136 1 [.ptr 10 0 0])::(p.obs (2*d+20) (2*d+21)++((match cur with|some s=>[(17,s.o)]|none=>[])++fY (d+1) ps)))
def rV(C:bS)(nL:Nat)(k1:Int)(now:SV)(ob:mB):Prop:=(k1≠5∧k1≠6)∧now=.iface 136 (.ptr 10 0 0)∧∃(node n thr o0:Int) (o2:Bool) (o3:Int),bH C node∧(1≤n∧n≤1048576)∧(0≤thr∧thr<8)∧
 lF C nL node (fun mA had parts now o1=>bQ C node n thr mA had parts now o0 o1 o2 o3) ob
end Go.Proofs.YtnkcbfgfkadoaaaGreat.Sx
