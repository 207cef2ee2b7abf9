/- Part 28 of the proof of TopPeek. -/
import Derived.Test.YtnkcbfgfkadoaaaGreatX27
set_option linter.all false
namespace Go.Proofs.YtnkcbfgfkadoaaaGreat.Sx
open Go
set_option maxRecDepth 10000
set_option maxHeartbeats 1000000
theorem wD(t s:Nat)(l:List Int):Wk (.ints t s l) (.cells t s (l.map (SV.int .i64))):=by
 refine .inr ⟨by simp,fun ρ p w h=>?_⟩;obtain⟨a1,a2,cs,fr,a3,a4,a5,a6⟩:=h;refine⟨a1,by simpa using a2,cs,fr,a3,a4,a5,fun i v hv=>?_⟩;rw[List.getElem?_map]at hv;cases hn:l[i]?with
 |none=>rw[hn]at hv;cases hv
 |some n=>
  rw[hn]at hv;injection hv with hv;subst hv;exact⟨_,(a6 i n hn).1,rfl,(a6 i n hn).2⟩
theorem zP(f:Nat→Nat)(Q:List Int):SO.ren f (.cells 3 1 (Q.map (SV.int .i64)))=.cells 3 1 (Q.map (SV.int .i64)):=by simp only[SO.ren,wC]
theorem zQ{ti start:Int}{k:Nat}(h:1≤ti∧0≤start):∀x∈qY ti start k,0≤x∧x<ti:=fun x hx=>by
 obtain⟨j,_,rfl⟩:=List.mem_map.1 hx;have h0:0≤start+(j:Int):=by omega
 rw[Int.tmod_eq_emod_of_nonneg h0];exact⟨Int.emod_nonneg _ (by omega),Int.emod_lt_of_pos _ (by omega)⟩
section
variable{h:H}{own:Nat→Nat}{C:bS}{W:List Int}{nL:Nat}{aD:List Ev}{aL:List Nat}{N:Names}{i t lr off nC:Nat}{cC:Option Nat}{k1 k2 k3 c1 c2 c3:Int}{cl:List SV}
theorem beg0_ok{e:Env}{off nC:Nat}(h1:e.tn<e.nt)(h2:0<nC):holds (beg0 e off nC):=by
 have tn:decide ((0:Int)≤e.tn)=true∧decide ((e.tn:Int)<e.nt)=true∧Nat.beq (aE 0 (Int.toNat e.tn)) e.tn=true:=⟨decide_eq_true (by omega),decide_eq_true (by omega),by rw[aY];simp⟩;have ix:Nat.beq (aE off (Int.toNat 0)) off=true:=by rw[aY];simp
 have n1:decide ((e.tn:Int)<0)=false:=decide_eq_false (by omega);have n2:decide ((e.tn:Int)≥e.nt)=false:=decide_eq_false (by omega);have n3:((nC:Int)==0)=false:=beq_false_of_ne (by omega);have n4:decide ((0:Int)<nC)=true:=decide_eq_true (by omega);exact⟨n1,n2,tn.1,tn.2.1,tn.2.2,n3,tn.1,tn.2.1,tn.2.2,tn.1,tn.2.1,tn.2.2,n4,ix,ix,ix,Nat.ble_eq_true_of_le (Nat.le_refl _),Nat.ble_eq_true_of_le h2,tn.1,tn.2.1,tn.2.2,trivial⟩
theorem begP_ok{C:bS}(h:1≤C.PL.length∧C.PL.length≤12):(Nat.beq C.PL.length C.PL.length&&Nat.ble C.PL.length 12)=true:=by
 simp only[Bool.and_eq_true];exact⟨Nat.beq_refl _,Nat.ble_eq_true_of_le h.2⟩
theorem mS{aD:List Ev}(b:Beg h own C W nL aD aL N i t lr off nC cC k1 k2 k3 c1 c2 c3 cl)(pX:0<nC)(jN:1≤C.PL.length∧C.PL.length≤12):holds (xA (bX C W.length nL aD aL N i k1 k2 k3) off nC):=
 aG (beg0_ok (List.getElem?_eq_some_iff.1 b.at_).1 pX) ⟨begP_ok jN,trivial⟩
theorem mT{aD:List Ev}(b:Beg h own C W nL aD aL N i t lr off nC cC k1 k2 k3 c1 c2 c3 cl)(pX:0<nC)(jN:1≤C.PL.length∧C.PL.length≤12)(tD:aD.length+1≤1000000000):holds (xB (bX C W.length nL aD aL N i k1 k2 k3) off nC):=
 aG (beg0_ok (List.getElem?_eq_some_iff.1 b.at_).1 pX) ⟨Nat.ble_eq_true_of_le (by show bG (aE 0 aD.length) 10≤(eH aD).length;rw[bT,aY,lD];omega),Nat.ble_eq_true_of_le tD,begP_ok jN,trivial⟩
theorem mU{aD:List Ev}(b:Beg h own C W nL aD aL N i t lr off nC cC k1 k2 k3 c1 c2 c3 cl)(pX:0<nC)(jN:1≤C.PL.length∧C.PL.length≤12)(tD:aD.length+1≤1000000000)(uE:nL≤1000000000):holds (xC (bX C W.length nL aD aL N i k1 k2 k3) off nC):=
 aG (beg0_ok (List.getElem?_eq_some_iff.1 b.at_).1 pX) ⟨Nat.ble_eq_true_of_le (by show aE 0 nL≤nL;rw[aY];omega),Nat.ble_eq_true_of_le (by show 0+nL≤_;omega),Nat.ble_eq_true_of_le (by show bG (aE 0 aD.length) 10≤(eH aD).length;rw[bT,aY,lD];omega),Nat.ble_eq_true_of_le tD,begP_ok jN,trivial⟩
theorem bgn1(ok:dU C)(b:Beg h own C W nL aD aL N i t lr off nC cC k1 k2 k3 1 c2 c3 cl)(h6:h.n+200≤1000000)(pX:0<nC)(h8:aL.length≤8)(tD:aD.length+1≤1000000000)(uE:nL≤1000000000)(hZ:nL≠0→aD≠[])(gU:fZ C.ti C.PL.length C.PL 1 c2 c3=0)(kO:bH C c2)(zR:1≤c3∧c3≤1048576):BgnR h own C W nL aD aL N i t lr off nC cC 1 c2 c3:=by
 have hi:=(List.getElem?_eq_some_iff.1 b.at_).1;have jN:=ok.np;have hti:=ok.ti;have gA:1≤C.st∧C.st≤8:=by rcases ok.st with e|e|e|e<;>omega
 have c1:decide (1≤C.ti∧C.ti≤16∧(0:Int)≤(i:Int)∧(i:Int)≤100)=true:=decide_eq_true (by omega);cases aD with
 |nil=>
  cases nL with
  |zero=>exact fA b h6 [(112,10),(113,11),(71,12),(72,14),(73,13)] [(112,10,bQ C c2 c3 i (.ptr 14 0 0) aC (.slice 11 0 1 (some 1)) (.val .nilIface) 0 0 false 0),(113,11,.cells 159 2 [.func (.func 107) [] [.ptr 12 0 0],.func (.func 108) [.ptr 10 0 0] []]),(71,12,.cells 136 1 [.ptr 10 0 0]),(73,13,.cells 3 1 ((qY C.ti (i:Int) C.ti.toNat).map (SV.int .i64))),(72,14,dO C (.slice 13 0 C.ti.toNat none) false 0 0 false 0 0 false 0)] (ok1_nn (bX C W.length 0 [] aL N i k1 k2 k3) off nC cC c2 c3) (aG (mS b pX jN) ⟨by simp[gU,bX],c1,trivial⟩) (qU 8 rfl (wD _ _ _)) ⟨rfl,rfl,rfl,rfl,⟨0,_,rfl,rfl,rfl⟩,⟨1,rfl,rfl⟩,⟨4,_,rfl,rfl,rfl⟩,⟨2,rfl,rfl⟩,⟨3,rfl,rfl⟩,rfl,rfl,by simp⟩ ⟨⟨5,_,rfl,rfl,rfl,rfl,rfl,rfl,rfl⟩,⟨7,_,rfl,rfl,rfl,rfl,rfl,rfl,rfl⟩,⟨9,_,rfl,rfl,rfl,rfl,rfl,rfl,rfl⟩,⟨8,_,rfl,rfl,zP _ _,rfl,rfl,rfl,iG _ _⟩,⟨6,_,rfl,rfl,rfl,rfl,rfl,rfl,rfl⟩,trivial⟩ (.inr (.inr (.inr (.inr ⟨by decide,rfl,c2,c3,i,0,false,0,kO,zR,by omega,.claim 0 (qY C.ti i C.ti.toNat) 0 C.ti.toNat false false 0 0 0 0 false 0 (by simp[qY]) (by omega) (zQ (by omega)) (by simp) (by simp)⟩))))
  |succ m=>exact absurd rfl (hZ (by omega))
 |cons v l=>
  cases nL with
  |zero=>exact fA b h6 [(112,10),(113,11),(71,12),(72,14),(73,13)] [(112,10,bQ C c2 c3 i (.ptr 14 0 0) aC (.slice 11 0 1 (some 1)) (.val .nilIface) 0 0 false 0),(113,11,.cells 159 2 [.func (.func 107) [] [.ptr 12 0 0],.func (.func 108) [.ptr 10 0 0] []]),(71,12,.cells 136 1 [.ptr 10 0 0]),(73,13,.cells 3 1 ((qY C.ti (i:Int) C.ti.toNat).map (SV.int .i64))),(72,14,dO C (.slice 13 0 C.ti.toNat none) false 0 0 false 0 0 false 0)] (ok1_ne (bX C W.length 0 (v::l) aL N i k1 k2 k3) off nC cC c2 c3) (aG (mT b pX jN tD) ⟨by simp[gU,bX],c1,trivial⟩) (qU 9 rfl (wD _ _ _)) ⟨rfl,rfl,rfl,rfl,⟨0,_,rfl,rfl,(by simp[bX])⟩,⟨2,rfl,rfl⟩,⟨5,_,rfl,rfl,iT _ (vI _ _ _ _ _)⟩,⟨3,rfl,rfl⟩,⟨4,rfl,rfl⟩,rfl,rfl,by simp⟩ ⟨⟨6,_,rfl,rfl,rfl,rfl,rfl,rfl,rfl⟩,⟨8,_,rfl,rfl,rfl,rfl,rfl,rfl,rfl⟩,⟨10,_,rfl,rfl,rfl,rfl,rfl,rfl,rfl⟩,⟨9,_,rfl,rfl,zP _ _,rfl,rfl,rfl,iG _ _⟩,⟨7,_,rfl,rfl,rfl,rfl,rfl,rfl,rfl⟩,trivial⟩ (.inr (.inr (.inr (.inr ⟨by decide,rfl,c2,c3,i,0,false,0,kO,zR,by omega,.claim 0 (qY C.ti i C.ti.toNat) 0 C.ti.toNat false false 0 0 0 0 false 0 (by simp[qY]) (by omega) (zQ (by omega)) (by simp) (by simp)⟩))))
  |succ m=>exact fA b h6 [(115,10),(116,11),(74,12),(75,14),(76,13)] [(115,10,bQ C c2 c3 i (.ptr 14 0 0) aC (.slice 11 0 1 (some 1)) (.val .nilIface) 0 0 false 0),(116,11,.cells 159 2 [.func (.func 107) [] [.ptr 12 0 0],.func (.func 108) [.ptr 10 0 0] []]),(74,12,.cells 136 1 [.ptr 10 0 0]),(76,13,.cells 3 1 ((qY C.ti (i:Int) C.ti.toNat).map (SV.int .i64))),(75,14,dO C (.slice 13 0 C.ti.toNat none) false 0 0 false 0 0 false 0)] (ok1_le (bX C W.length (m+1) (v::l) aL N i k1 k2 k3) off nC cC c2 c3) (aG (mU b pX jN tD uE) ⟨by simp[gU,bX],c1,trivial⟩) (qU 9 rfl (wD _ _ _)) ⟨rfl,rfl,rfl,rfl,⟨0,_,rfl,rfl,(by simp[bX])⟩,⟨2,rfl,rfl⟩,⟨5,_,rfl,rfl,(by rw[Nat.zero_add];exact iT _ (vI _ _ _ _ _))⟩,⟨3,rfl,rfl⟩,⟨4,rfl,rfl⟩,rfl,rfl,by simp⟩ ⟨⟨6,_,rfl,rfl,rfl,rfl,rfl,rfl,rfl⟩,⟨8,_,rfl,rfl,rfl,rfl,rfl,rfl,rfl⟩,⟨10,_,rfl,rfl,rfl,rfl,rfl,rfl,rfl⟩,⟨9,_,rfl,rfl,zP _ _,rfl,rfl,rfl,iG _ _⟩,⟨7,_,rfl,rfl,rfl,rfl,rfl,rfl,rfl⟩,trivial⟩ (.inr (.inr (.inr (.inr ⟨by decide,rfl,c2,c3,i,0,false,0,kO,zR,by omega,.claim 0 (qY C.ti i C.ti.toNat) 0 C.ti.toNat false false 0 0 0 0 false 0 (by simp[qY]) (by omega) (zQ (by omega)) (by simp) (by simp)⟩))))
theorem bgn2(ok:dU C)(b:Beg h own C W nL aD aL N i t lr off nC cC k1 k2 k3 2 c2 c3 cl)(h6:h.n+200≤1000000)(pX:0<nC)(h8:aL.length≤8)(tD:aD.length+1≤1000000000)(uE:nL≤1000000000)(hZ:nL≠0→aD≠[])(gU:fZ C.ti C.PL.length C.PL 2 c2 c3=0)(hj:0≤kZ c3 C.ti∧kZ c3 C.ti<C.ti):BgnR h own C W nL aD aL N i t lr off nC cC 2 c2 c3:=by
 have hi:=(List.getElem?_eq_some_iff.1 b.at_).1;have jN:=ok.np;have hti:=ok.ti;have gA:1≤C.st∧C.st≤8:=by rcases ok.st with e|e|e|e<;>omega
 have c1:decide (0≤C.st∧C.st≤8∧C.PL.length≤100∧0≤kZ c3 C.ti∧kZ c3 C.ti≤100)=true:=decide_eq_true (by omega);cases aD with
 |nil=>
  cases nL with
  |zero=>exact fA b h6 [(83,10),(84,11)] [(83,10,tV C (aB C.st C.PL.length+2*kZ c3 C.ti) (uM c3 C.ti) i 0 (.slice 11 0 3 (some 3)) 0 0 false 0 0 0 false 0),(84,11,.cells 181 1 zM)] (ok2_nn (bX C W.length 0 [] aL N i k1 k2 k3) off nC cC c2 c3) (aG (mS b pX jN) ⟨by simp[gU,bX],c1,trivial⟩) (.refl _) ⟨rfl,rfl,rfl,rfl,⟨0,_,rfl,rfl,rfl⟩,⟨1,rfl,rfl⟩,⟨4,_,rfl,rfl,rfl⟩,⟨2,rfl,rfl⟩,⟨3,rfl,rfl⟩,rfl,rfl,by simp⟩ ⟨⟨5,_,rfl,rfl,rfl,rfl,rfl,rfl,rfl⟩,⟨6,_,rfl,rfl,rfl,rfl,rfl,rfl,rfl⟩,trivial⟩ (.inr (.inr (.inr (.inl ⟨by decide,rfl,kZ c3 C.ti,uM c3 C.ti,i,0,0,0,false,0,0,0,false,0,0,hj,by omega,by omega,.look⟩))))
  |succ m=>exact absurd rfl (hZ (by omega))
 |cons v l=>
  cases nL with
  |zero=>exact fA b h6 [(83,10),(84,11)] [(83,10,tV C (aB C.st C.PL.length+2*kZ c3 C.ti) (uM c3 C.ti) i 0 (.slice 11 0 3 (some 3)) 0 0 false 0 0 0 false 0),(84,11,.cells 181 1 zM)] (ok2_ne (bX C W.length 0 (v::l) aL N i k1 k2 k3) off nC cC c2 c3) (aG (mT b pX jN tD) ⟨by simp[gU,bX],c1,trivial⟩) (.refl _) ⟨rfl,rfl,rfl,rfl,⟨0,_,rfl,rfl,(by simp[bX])⟩,⟨2,rfl,rfl⟩,⟨5,_,rfl,rfl,iT _ (vI _ _ _ _ _)⟩,⟨3,rfl,rfl⟩,⟨4,rfl,rfl⟩,rfl,rfl,by simp⟩ ⟨⟨6,_,rfl,rfl,rfl,rfl,rfl,rfl,rfl⟩,⟨7,_,rfl,rfl,rfl,rfl,rfl,rfl,rfl⟩,trivial⟩ (.inr (.inr (.inr (.inl ⟨by decide,rfl,kZ c3 C.ti,uM c3 C.ti,i,0,0,0,false,0,0,0,false,0,0,hj,by omega,by omega,.look⟩))))
  |succ m=>exact fA b h6 [(86,10),(87,11)] [(86,10,tV C (aB C.st C.PL.length+2*kZ c3 C.ti) (uM c3 C.ti) i 0 (.slice 11 0 3 (some 3)) 0 0 false 0 0 0 false 0),(87,11,.cells 181 1 zM)] (ok2_le (bX C W.length (m+1) (v::l) aL N i k1 k2 k3) off nC cC c2 c3) (aG (mU b pX jN tD uE) ⟨by simp[gU,bX],c1,trivial⟩) (.refl _) ⟨rfl,rfl,rfl,rfl,⟨0,_,rfl,rfl,(by simp[bX])⟩,⟨2,rfl,rfl⟩,⟨5,_,rfl,rfl,(by rw[Nat.zero_add];exact iT _ (vI _ _ _ _ _))⟩,⟨3,rfl,rfl⟩,⟨4,rfl,rfl⟩,rfl,rfl,by simp⟩ ⟨⟨6,_,rfl,rfl,rfl,rfl,rfl,rfl,rfl⟩,⟨7,_,rfl,rfl,rfl,rfl,rfl,rfl,rfl⟩,trivial⟩ (.inr (.inr (.inr (.inl ⟨by decide,rfl,kZ c3 C.ti,uM c3 C.ti,i,0,0,0,false,0,0,0,false,0,0,hj,by omega,by omega,.look⟩))))
theorem bgn3(ok:dU C)(b:Beg h own C W nL aD aL N i t lr off nC cC k1 k2 k3 3 c2 c3 cl)(h6:h.n+200≤1000000)(pX:0<nC)(h8:aL.length≤8)(tD:aD.length+1≤1000000000)(uE:nL≤1000000000)(hZ:nL≠0→aD≠[])(gU:fZ C.ti C.PL.length C.PL 3 c2 c3=0)(kO:bH C c2)(zR:1≤c3∧c3≤1048576):BgnR h own C W nL aD aL N i t lr off nC cC 3 c2 c3:=by
 have hi:=(List.getElem?_eq_some_iff.1 b.at_).1;have jN:=ok.np;have hti:=ok.ti;have gA:1≤C.st∧C.st≤8:=by rcases ok.st with e|e|e|e<;>omega
 have c1:decide (0≤C.st∧C.st≤8∧0≤c2∧c2≤100)=true:=decide_eq_true (by have:=kO.1;have:=kO.2;omega);cases aD with
 |nil=>
  cases nL with
  |zero=>exact fA b h6 [(89,10),(71,11)] [(89,10,kC (aB C.st c2) (aB C.st c2+1) c2 c3 0 0 0 0 false 0),(71,11,jZ 114 115 116)] (ok3_nn (bX C W.length 0 [] aL N i k1 k2 k3) off nC cC c2 c3) (aG (mS b pX jN) ⟨by simp[gU,bX],c1,c1,trivial⟩) (.refl _) ⟨rfl,rfl,rfl,rfl,⟨0,_,rfl,rfl,rfl⟩,⟨1,rfl,rfl⟩,⟨4,_,rfl,rfl,rfl⟩,⟨2,rfl,rfl⟩,⟨3,rfl,rfl⟩,rfl,rfl,by simp⟩ ⟨⟨5,_,rfl,rfl,rfl,rfl,rfl,rfl,rfl⟩,⟨6,_,rfl,rfl,rfl,rfl,rfl,rfl,rfl⟩,trivial⟩ (.inl ⟨by decide,true,c2,c3,0,0,0,0,false,0,kO,zR,.inl rfl,rfl,rfl⟩)
  |succ m=>exact absurd rfl (hZ (by omega))
 |cons v l=>
  cases nL with
  |zero=>exact fA b h6 [(89,10),(71,11)] [(89,10,kC (aB C.st c2) (aB C.st c2+1) c2 c3 0 0 0 0 false 0),(71,11,jZ 114 115 116)] (ok3_ne (bX C W.length 0 (v::l) aL N i k1 k2 k3) off nC cC c2 c3) (aG (mT b pX jN tD) ⟨by simp[gU,bX],c1,c1,trivial⟩) (.refl _) ⟨rfl,rfl,rfl,rfl,⟨0,_,rfl,rfl,(by simp[bX])⟩,⟨2,rfl,rfl⟩,⟨5,_,rfl,rfl,iT _ (vI _ _ _ _ _)⟩,⟨3,rfl,rfl⟩,⟨4,rfl,rfl⟩,rfl,rfl,by simp⟩ ⟨⟨6,_,rfl,rfl,rfl,rfl,rfl,rfl,rfl⟩,⟨7,_,rfl,rfl,rfl,rfl,rfl,rfl,rfl⟩,trivial⟩ (.inl ⟨by decide,true,c2,c3,0,0,0,0,false,0,kO,zR,.inl rfl,rfl,rfl⟩)
  |succ m=>exact fA b h6 [(92,10),(74,11)] [(92,10,kC (aB C.st c2) (aB C.st c2+1) c2 c3 0 0 0 0 false 0),(74,11,jZ 114 115 116)] (ok3_le (bX C W.length (m+1) (v::l) aL N i k1 k2 k3) off nC cC c2 c3) (aG (mU b pX jN tD uE) ⟨by simp[gU,bX],c1,c1,trivial⟩) (.refl _) ⟨rfl,rfl,rfl,rfl,⟨0,_,rfl,rfl,(by simp[bX])⟩,⟨2,rfl,rfl⟩,⟨5,_,rfl,rfl,(by rw[Nat.zero_add];exact iT _ (vI _ _ _ _ _))⟩,⟨3,rfl,rfl⟩,⟨4,rfl,rfl⟩,rfl,rfl,by simp⟩ ⟨⟨6,_,rfl,rfl,rfl,rfl,rfl,rfl,rfl⟩,⟨7,_,rfl,rfl,rfl,rfl,rfl,rfl,rfl⟩,trivial⟩ (.inl ⟨by decide,true,c2,c3,0,0,0,0,false,0,kO,zR,.inl rfl,rfl,rfl⟩)
theorem bgn4(ok:dU C)(b:Beg h own C W nL aD aL N i t lr off nC cC k1 k2 k3 4 c2 c3 cl)(h6:h.n+200≤1000000)(pX:0<nC)(h8:aL.length≤8)(tD:aD.length+1≤1000000000)(uE:nL≤1000000000)(hZ:nL≠0→aD≠[])(gU:fZ C.ti C.PL.length C.PL 4 c2 c3=0)(kO:bH C c2)(zR:1≤c3∧c3≤1048576):BgnR h own C W nL aD aL N i t lr off nC cC 4 c2 c3:=by
 have hi:=(List.getElem?_eq_some_iff.1 b.at_).1;have jN:=ok.np;have hti:=ok.ti;have gA:1≤C.st∧C.st≤8:=by rcases ok.st with e|e|e|e<;>omega
 have c1:decide (0≤C.st∧C.st≤8∧0≤c2∧c2≤100)=true:=decide_eq_true (by have:=kO.1;have:=kO.2;omega);cases aD with
 |nil=>
  cases nL with
  |zero=>exact fA b h6 [(89,10),(71,11)] [(89,10,kC (aB C.st c2) (aB C.st c2+1) c2 c3 0 0 0 0 false 0),(71,11,jZ 117 118 119)] (ok4_nn (bX C W.length 0 [] aL N i k1 k2 k3) off nC cC c2 c3) (aG (mS b pX jN) ⟨by simp[gU,bX],c1,c1,trivial⟩) (.refl _) ⟨rfl,rfl,rfl,rfl,⟨0,_,rfl,rfl,rfl⟩,⟨1,rfl,rfl⟩,⟨4,_,rfl,rfl,rfl⟩,⟨2,rfl,rfl⟩,⟨3,rfl,rfl⟩,rfl,rfl,by simp⟩ ⟨⟨5,_,rfl,rfl,rfl,rfl,rfl,rfl,rfl⟩,⟨6,_,rfl,rfl,rfl,rfl,rfl,rfl,rfl⟩,trivial⟩ (.inl ⟨by decide,false,c2,c3,0,0,0,0,false,0,kO,zR,.inl rfl,rfl,rfl⟩)
  |succ m=>exact absurd rfl (hZ (by omega))
 |cons v l=>
  cases nL with
  |zero=>exact fA b h6 [(89,10),(71,11)] [(89,10,kC (aB C.st c2) (aB C.st c2+1) c2 c3 0 0 0 0 false 0),(71,11,jZ 117 118 119)] (ok4_ne (bX C W.length 0 (v::l) aL N i k1 k2 k3) off nC cC c2 c3) (aG (mT b pX jN tD) ⟨by simp[gU,bX],c1,c1,trivial⟩) (.refl _) ⟨rfl,rfl,rfl,rfl,⟨0,_,rfl,rfl,(by simp[bX])⟩,⟨2,rfl,rfl⟩,⟨5,_,rfl,rfl,iT _ (vI _ _ _ _ _)⟩,⟨3,rfl,rfl⟩,⟨4,rfl,rfl⟩,rfl,rfl,by simp⟩ ⟨⟨6,_,rfl,rfl,rfl,rfl,rfl,rfl,rfl⟩,⟨7,_,rfl,rfl,rfl,rfl,rfl,rfl,rfl⟩,trivial⟩ (.inl ⟨by decide,false,c2,c3,0,0,0,0,false,0,kO,zR,.inl rfl,rfl,rfl⟩)
  |succ m=>exact fA b h6 [(92,10),(74,11)] [(92,10,kC (aB C.st c2) (aB C.st c2+1) c2 c3 0 0 0 0 false 0),(74,11,jZ 117 118 119)] (ok4_le (bX C W.length (m+1) (v::l) aL N i k1 k2 k3) off nC cC c2 c3) (aG (mU b pX jN tD uE) ⟨by simp[gU,bX],c1,c1,trivial⟩) (.refl _) ⟨rfl,rfl,rfl,rfl,⟨0,_,rfl,rfl,(by simp[bX])⟩,⟨2,rfl,rfl⟩,⟨5,_,rfl,rfl,(by rw[Nat.zero_add];exact iT _ (vI _ _ _ _ _))⟩,⟨3,rfl,rfl⟩,⟨4,rfl,rfl⟩,rfl,rfl,by simp⟩ ⟨⟨6,_,rfl,rfl,rfl,rfl,rfl,rfl,rfl⟩,⟨7,_,rfl,rfl,rfl,rfl,rfl,rfl,rfl⟩,trivial⟩ (.inl ⟨by decide,false,c2,c3,0,0,0,0,false,0,kO,zR,.inl rfl,rfl,rfl⟩)
theorem bgn5(ok:dU C)(b:Beg h own C W nL aD aL N i t lr off nC cC k1 k2 k3 5 c2 c3 cl)(h6:h.n+200≤1000000)(pX:0<nC)(h8:aL.length≤8)(tD:aD.length+1≤1000000000)(uE:nL≤1000000000)(hZ:nL≠0→aD≠[])(gU:fZ C.ti C.PL.length C.PL 5 c2 c3=0)(kO:bH C c2):BgnR h own C W nL aD aL N i t lr off nC cC 5 c2 c3:=by
 have hi:=(List.getElem?_eq_some_iff.1 b.at_).1;have jN:=ok.np;have hti:=ok.ti;have gA:1≤C.st∧C.st≤8:=by rcases ok.st with e|e|e|e<;>omega
 have c1:decide (0≤C.st∧C.st≤8∧0≤c2∧c2≤100)=true:=decide_eq_true (by have:=kO.1;have:=kO.2;omega);have aU:aB C.st c2+2+C.st=dG C c2:=rfl;have hcb:0≤dG C c2∧dG C c2≤100000:=by have:=eO ok kO;have:=dC ok;omega
 have c2':decide ((C.st=1∨C.st=2∨C.st=4∨C.st=8)∧0≤aB C.st c2+2+C.st∧aB C.st c2+2+C.st≤100000)=true:=decide_eq_true ⟨ok.st,by rw[aU];exact hcb⟩;cases aD with
 |nil=>
  cases nL with
  |zero=>exact fA b h6 [(79,10),(83,11),(80,12),(82,13),(81,14)] [(79,10,ctO (dG C c2) C.st.toNat C.re 0 0 false 0),(83,11,.cells 22 1 [.slice 14 0 (4+2*C.st.toNat) none]),(80,12,.cells 22 1 [aC]),(82,13,.cells 142 1 [.ptr 10 0 0]),(81,14,.ints 3 1 (dA (dG C c2) C.st.toNat))] (ok5_nn (bX C W.length 0 [] aL N i k1 k2 k3) off nC cC c2 c3) (aG (mS b pX jN) ⟨by simp[gU,bX],c1,c2',trivial⟩) (.refl _) ⟨rfl,rfl,rfl,rfl,⟨0,_,rfl,rfl,rfl⟩,⟨1,rfl,rfl⟩,⟨4,_,rfl,rfl,rfl⟩,⟨2,rfl,rfl⟩,⟨3,rfl,rfl⟩,rfl,rfl,by simp⟩ ⟨⟨5,_,rfl,rfl,rfl,rfl,rfl,rfl,rfl⟩,⟨6,_,rfl,rfl,rfl,rfl,rfl,rfl,rfl⟩,⟨7,_,rfl,rfl,rfl,rfl,rfl,rfl,rfl⟩,⟨8,_,rfl,rfl,rfl,rfl,rfl,rfl,rfl⟩,⟨9,_,rfl,rfl,rfl,rfl,rfl,rfl,rfl⟩,trivial⟩ (.inr (.inr (.inl ⟨rfl,kO,C.st.toNat,C.re,0,0,false,0,[],by omega,rfl,(by show 0<_;omega),(fun h=>absurd h (by decide)),(fun h=>absurd rfl h),rfl⟩)))
  |succ m=>exact absurd rfl (hZ (by omega))
 |cons v l=>
  cases nL with
  |zero=>exact fA b h6 [(79,10),(83,11),(80,12),(82,13),(81,14)] [(79,10,ctO (dG C c2) C.st.toNat C.re 0 0 false 0),(83,11,.cells 22 1 [.slice 14 0 (4+2*C.st.toNat) none]),(80,12,.cells 22 1 [aC]),(82,13,.cells 142 1 [.ptr 10 0 0]),(81,14,.ints 3 1 (dA (dG C c2) C.st.toNat))] (ok5_ne (bX C W.length 0 (v::l) aL N i k1 k2 k3) off nC cC c2 c3) (aG (mT b pX jN tD) ⟨by simp[gU,bX],c1,c2',trivial⟩) (.refl _) ⟨rfl,rfl,rfl,rfl,⟨0,_,rfl,rfl,(by simp[bX])⟩,⟨2,rfl,rfl⟩,⟨5,_,rfl,rfl,iT _ (vI _ _ _ _ _)⟩,⟨3,rfl,rfl⟩,⟨4,rfl,rfl⟩,rfl,rfl,by simp⟩ ⟨⟨6,_,rfl,rfl,rfl,rfl,rfl,rfl,rfl⟩,⟨7,_,rfl,rfl,rfl,rfl,rfl,rfl,rfl⟩,⟨8,_,rfl,rfl,rfl,rfl,rfl,rfl,rfl⟩,⟨9,_,rfl,rfl,rfl,rfl,rfl,rfl,rfl⟩,⟨10,_,rfl,rfl,rfl,rfl,rfl,rfl,rfl⟩,trivial⟩ (.inr (.inr (.inl ⟨rfl,kO,C.st.toNat,C.re,0,0,false,0,[],by omega,rfl,(by show 0<_;omega),(fun h=>absurd h (by decide)),(fun h=>absurd rfl h),rfl⟩)))
  |succ m=>exact fA b h6 [(82,10),(86,11),(83,12),(85,13),(84,14)] [(82,10,ctO (dG C c2) C.st.toNat C.re 0 0 false 0),(86,11,.cells 22 1 [.slice 14 0 (4+2*C.st.toNat) none]),(83,12,.cells 22 1 [aC]),(85,13,.cells 142 1 [.ptr 10 0 0]),(84,14,.ints 3 1 (dA (dG C c2) C.st.toNat))] (ok5_le (bX C W.length (m+1) (v::l) aL N i k1 k2 k3) off nC cC c2 c3) (aG (mU b pX jN tD uE) ⟨by simp[gU,bX],c1,c2',trivial⟩) (.refl _) ⟨rfl,rfl,rfl,rfl,⟨0,_,rfl,rfl,(by simp[bX])⟩,⟨2,rfl,rfl⟩,⟨5,_,rfl,rfl,(by rw[Nat.zero_add];exact iT _ (vI _ _ _ _ _))⟩,⟨3,rfl,rfl⟩,⟨4,rfl,rfl⟩,rfl,rfl,by simp⟩ ⟨⟨6,_,rfl,rfl,rfl,rfl,rfl,rfl,rfl⟩,⟨7,_,rfl,rfl,rfl,rfl,rfl,rfl,rfl⟩,⟨8,_,rfl,rfl,rfl,rfl,rfl,rfl,rfl⟩,⟨9,_,rfl,rfl,rfl,rfl,rfl,rfl,rfl⟩,⟨10,_,rfl,rfl,rfl,rfl,rfl,rfl,rfl⟩,trivial⟩ (.inr (.inr (.inl ⟨rfl,kO,C.st.toNat,C.re,0,0,false,0,[],by omega,rfl,(by show 0<_;omega),(fun h=>absurd h (by decide)),(fun h=>absurd rfl h),rfl⟩)))
theorem bgn6(ok:dU C)(b:Beg h own C W nL aD aL N i t lr off nC cC k1 k2 k3 6 c2 c3 cl)(h6:h.n+200≤1000000)(pX:0<nC)(h8:aL.length≤8)(tD:aD.length+1≤1000000000)(uE:nL≤1000000000)(hZ:nL≠0→aD≠[])(gU:fZ C.ti C.PL.length C.PL 6 c2 c3=0)(kO:bH C c2):BgnR h own C W nL aD aL N i t lr off nC cC 6 c2 c3:=by
 have hi:=(List.getElem?_eq_some_iff.1 b.at_).1;have jN:=ok.np;have hti:=ok.ti;have gA:1≤C.st∧C.st≤8:=by rcases ok.st with e|e|e|e<;>omega
 have c1:decide (0≤C.st∧C.st≤8∧0≤c2∧c2≤100)=true:=decide_eq_true (by have:=kO.1;have:=kO.2;omega);cases aD with
 |nil=>
  cases nL with
  |zero=>exact fA b h6 [(80,10),(79,11),(81,12)] [(80,10,pkO (dG C c2) 0 0 false 0),(79,11,.cells 3 1 [.int .i64 (dG C c2)]),(81,12,.cells 142 1 [.ptr 10 0 0])] (ok6_nn (bX C W.length 0 [] aL N i k1 k2 k3) off nC cC c2 c3) (aG (mS b pX jN) ⟨by simp[gU,bX],c1,trivial⟩) (.refl _) ⟨rfl,rfl,rfl,rfl,⟨0,_,rfl,rfl,rfl⟩,⟨1,rfl,rfl⟩,⟨4,_,rfl,rfl,rfl⟩,⟨2,rfl,rfl⟩,⟨3,rfl,rfl⟩,rfl,rfl,by simp⟩ ⟨⟨5,_,rfl,rfl,rfl,rfl,rfl,rfl,rfl⟩,⟨6,_,rfl,rfl,rfl,rfl,rfl,rfl,rfl⟩,⟨7,_,rfl,rfl,rfl,rfl,rfl,rfl,rfl⟩,trivial⟩ (.inr (.inl ⟨rfl,kO,0,0,false,0,rfl,rfl⟩))
  |succ m=>exact absurd rfl (hZ (by omega))
 |cons v l=>
  cases nL with
  |zero=>exact fA b h6 [(80,10),(79,11),(81,12)] [(80,10,pkO (dG C c2) 0 0 false 0),(79,11,.cells 3 1 [.int .i64 (dG C c2)]),(81,12,.cells 142 1 [.ptr 10 0 0])] (ok6_ne (bX C W.length 0 (v::l) aL N i k1 k2 k3) off nC cC c2 c3) (aG (mT b pX jN tD) ⟨by simp[gU,bX],c1,trivial⟩) (.refl _) ⟨rfl,rfl,rfl,rfl,⟨0,_,rfl,rfl,(by simp[bX])⟩,⟨2,rfl,rfl⟩,⟨5,_,rfl,rfl,iT _ (vI _ _ _ _ _)⟩,⟨3,rfl,rfl⟩,⟨4,rfl,rfl⟩,rfl,rfl,by simp⟩ ⟨⟨6,_,rfl,rfl,rfl,rfl,rfl,rfl,rfl⟩,⟨7,_,rfl,rfl,rfl,rfl,rfl,rfl,rfl⟩,⟨8,_,rfl,rfl,rfl,rfl,rfl,rfl,rfl⟩,trivial⟩ (.inr (.inl ⟨rfl,kO,0,0,false,0,rfl,rfl⟩))
  |succ m=>exact fA b h6 [(83,10),(82,11),(84,12)] [(83,10,pkO (dG C c2) 0 0 false 0),(82,11,.cells 3 1 [.int .i64 (dG C c2)]),(84,12,.cells 142 1 [.ptr 10 0 0])] (ok6_le (bX C W.length (m+1) (v::l) aL N i k1 k2 k3) off nC cC c2 c3) (aG (mU b pX jN tD uE) ⟨by simp[gU,bX],c1,trivial⟩) (.refl _) ⟨rfl,rfl,rfl,rfl,⟨0,_,rfl,rfl,(by simp[bX])⟩,⟨2,rfl,rfl⟩,⟨5,_,rfl,rfl,(by rw[Nat.zero_add];exact iT _ (vI _ _ _ _ _))⟩,⟨3,rfl,rfl⟩,⟨4,rfl,rfl⟩,rfl,rfl,by simp⟩ ⟨⟨6,_,rfl,rfl,rfl,rfl,rfl,rfl,rfl⟩,⟨7,_,rfl,rfl,rfl,rfl,rfl,rfl,rfl⟩,⟨8,_,rfl,rfl,rfl,rfl,rfl,rfl,rfl⟩,trivial⟩ (.inr (.inl ⟨rfl,kO,0,0,false,0,rfl,rfl⟩))
theorem bgn_any(ok:dU C)(b:Beg h own C W nL aD aL N i t lr off nC cC k1 k2 k3 c1 c2 c3 cl)(h6:h.n+200≤1000000)(pX:0<nC)(h8:aL.length≤8)(tD:aD.length+1≤1000000000)(uE:nL≤1000000000)(hZ:nL≠0→aD≠[])(gU:fZ C.ti C.PL.length C.PL c1 c2 c3=0):BgnR h own C W nL aD aL N i t lr off nC cC c1 c2 c3:=by
 rcases chkI_ok gU with⟨rfl,a1,a2,a3⟩|⟨rfl,a1⟩|⟨rfl|rfl,a1,a2,a3⟩|⟨rfl|rfl,a1⟩
 ·exact bgn1 ok b h6 pX h8 tD uE hZ gU a1 ⟨a2,a3⟩
 ·exact bgn2 ok b h6 pX h8 tD uE hZ gU ((nam_ex _ _).2 ok.ti.1)
 ·exact bgn3 ok b h6 pX h8 tD uE hZ gU a1 ⟨a2,a3⟩
 ·exact bgn4 ok b h6 pX h8 tD uE hZ gU a1 ⟨a2,a3⟩
 ·exact bgn5 ok b h6 pX h8 tD uE hZ gU a1
 ·exact bgn6 ok b h6 pX h8 tD uE hZ gU a1
end
end Go.Proofs.YtnkcbfgfkadoaaaGreat.Sx
namespace Go.Proofs.YtnkcbfgfkadoaaaGreat.Sx
open Go
set_option maxRecDepth 10000
theorem ro_wk{h:H}{n:Nat}{o:SO}{r:Nat→Nat}(hl:live h n)(hp:o.plain=true)(hw:Wk (h.get n) (o.ren r))(ho:o.ren r≠.dead):(o≠.dead→live h n)∧∀(ρ:bF) (p:Pl) (w:World),OR ρ p w (h.get n)→OR (ρ.via r) p w o:=
 ⟨fun _=>hl,fun ρ p w h=>(OR_ren (oH ρ r) hp).2 ((hw.resolve_left ho).2 ρ p w h)⟩
section
variable{h:H}{own:Nat→Nat}{C:bS}{W:List Int}{nL:Nat}{aD:List Ev}{aL:List Nat}{N:Names}{i t lr m:Nat}{lf now:SV}{k1 k2 k3:Int}
def nsI(C:bS)(N:Names)(t m lr:Nat):List Nat:=[N.ns,N.nm,N.ns,N.nt,N.ns,t,m,N.ns,C.P,lr]
theorem sched_ro(co:Core h own C W nL aD aL N){e:Env}{t m lr:Nat}(he:e=bX C W.length nL aD aL N i k1 k2 k3):((e.sO .any:SO)≠.dead→live h N.ns)∧∀(ρ:bF) (p:Pl) (w:World),OR ρ p w (h.get N.ns)→OR (ρ.via (nm (nsI C N t m lr))) p w (e.sO .any):=by
 subst he;refine ro_wk (by unfold live;rw[co.sched.1];simp) rfl ?_ (by simp[Env.sO,SO.ren]);rw[co.sched.1];have:=uU 68 11 (C.cells++[.ptr N.nm 0 0,.slice N.nt 0 aL.length N.ct,evS N.ne aD]) 10 fun v hv=>by
  have e:(C.cells++[.ptr N.nm 0 0,.slice N.nt 0 aL.length N.ct,evS N.ne aD])[10]?=some (evS N.ne aD):=rfl;rw[e]at hv;injection hv with hv;subst hv;cases aD<;>rfl
 exact this
theorem out_fit(co:Core h own C W nL aD aL N)(h6:h.n≤1000000):Fit h (aT (bX C W.length nL aD aL N 0 0 0 0).out [0,1,2,3,4,5,6,7,8,9]) (nm (nsI C N N.ns N.ns N.ns)):=by
 have yes:∀{j n:Nat} {o:SO},([0,1,2,3,4,5,6,7,8,9]:List Nat).contains j=true→((o≠.dead→live h n)∧∀(ρ:bF) (p:Pl) (w:World),OR ρ p w (h.get n)→OR (ρ.via (nm (nsI C N N.ns N.ns N.ns))) p w o)→jI h (nm (nsI C N N.ns N.ns N.ns)) [0,1,2,3,4,5,6,7,8,9] j n o:=fun hj hh=>by unfold jI;rw[hj];exact hh
 have c0:=co.sched.2.2;refine aX (R:=[0,1,2,3,4,5,6,7,8,9]) (ns:=nsI C N N.ns N.ns N.ns) ⟨c0,yes rfl (sched_ro co rfl),co.mem.2.2,yes rfl aZ,c0,yes rfl aZ,co.thr.2.2,yes rfl aZ,c0,yes rfl aZ,c0,yes rfl aZ,c0,yes rfl aZ,c0,yes rfl aZ,co.par.2.2,yes rfl aZ,c0,yes rfl aZ,trivial⟩ ?_ (by simp[Env.out]) h6;simp[nsI,Env.out,aQ,SO.lives,Env.sO]
theorem zS(co:Core h own C W nL aD aL N)(at_:aL[i]?=some t)(thr:At h own t (tg i 0) (kK lf k1 k2 k3 now)){bV iF:SV}(hm:m<h.n)(hlr:lr<h.n)(hw:Wk (kK lf k1 k2 k3 now) ((kK bV k1 k2 k3 iF).ren (nm (nsI C N t m lr))))(h6:h.n≤1000000):Fit h (aT ((bX C W.length nL aD aL N i k1 k2 k3).idle bV iF) [0,1,2,3,4,5,6,7,8,9]) (nm (nsI C N t m lr)):=by
 have yes:∀{j n:Nat} {o:SO},([0,1,2,3,4,5,6,7,8,9]:List Nat).contains j=true→((o≠.dead→live h n)∧∀(ρ:bF) (p:Pl) (w:World),OR ρ p w (h.get n)→OR (ρ.via (nm (nsI C N t m lr))) p w o)→jI h (nm (nsI C N t m lr)) [0,1,2,3,4,5,6,7,8,9] j n o:=fun hj hh=>by unfold jI;rw[hj];exact hh
 have c0:=co.sched.2.2;refine aX (R:=[0,1,2,3,4,5,6,7,8,9]) (ns:=nsI C N t m lr) ⟨c0,yes rfl (sched_ro co rfl),co.mem.2.2,yes rfl aZ,c0,yes rfl aZ,co.thr.2.2,yes rfl ?_,c0,yes rfl aZ,thr.2.2,yes rfl (ro_wk (by unfold live;rw[thr.1];simp[kK]) rfl (by rw[thr.1];exact hw) (by simp[kK,SO.ren])),hm,yes rfl aZ,c0,yes rfl aZ,co.par.2.2,yes rfl aZ,hlr,yes rfl aZ,trivial⟩ ?_ (by simp[Env.idle]) h6
 ·refine jF co.thr.1 ?_ (by simp) fun j v hv=>?_
  ·have:=(List.getElem?_eq_some_iff.1 at_).1
   simp[bX];omega
  ·cases j with
   |zero=>
    simp at hv;subst hv;have:nm (nsI C N t m lr) 5=t:=rfl;simp[bX,SV.ren,this,at_]
   |succ j=>simp at hv
 ·refine iO own ?_
  have t0:=co.sched.2.1;have t3:=co.thr.2.1;have t5:=thr.2.1;have:((aQ (nsI C N t m lr) ((bX C W.length nL aD aL N i k1 k2 k3).idle bV iF)).map own)=[0,3,tg i 0]:=by
   simp[nsI,Env.idle,aQ,SO.lives,Env.sO,kK,t0,t3,t5]
  rw[this];have tt:tg i 0>6:=by unfold tg;omega
  simp;omega
theorem rX{S:cI}{objs os oV:List SO}{R names ls:List Nat}{K n:Nat}{ns:Nat}{nn:Int}{ps:Way}{cs:kB}{v:Bool}(hS:cX Tryz.prog S)(T:follow ps ((preC Tryz.prog (runK Tryz.prog S 30) false 4 (bR 12) (preA nn) (aT objs R)).bind (iV [4] ls))=some (cs,(71,.ret,[],[.bool v],n,oV)))(hc:holds cs)(hwk:rN oV os)
 (ft:Fit h (aT objs R) (nm names))(hns:nm names 0=ns)(eK:eU R objs=true)(mK:fO objs.length R n ls=true)(dM:os.all SO.plain=true)(hK:n-objs.length≤K)(h6:h.n+K≤1000000):tQ h (h.lay K (laid (nx h.n objs.length [] names) ls os)) ns nn v:=by
 intro m Q ρ a w hr ha hq;refine go_preP hS T hc hwk ft hns eK mK dM hK (j:=[]) (by simp) h6 hr ha fun aW a' w' p1 p2 p3 p4 p5=>?_
 show Q .ret a' w';simp only[SV.rens,SV.ren,List.map_cons,List.map_nil,bM,VR,and_true]at p3;exact hq aW a' w' p1 p2 p3 (by rw[p5];rfl) (by omega)
theorem out_ret(co:Core h own C W nL aD aL N)(h6:h.n≤1000000){n:Int}(hn:n<0∨n≥(aL.length:Int)):tQ h h N.ns n false:=by
 by_cases c:n<0
 ·exact rX mR (out_0 (bX C W.length nL aD aL N 0 0 0 0) n) ⟨decide_eq_true c,trivial⟩ (.refl _) (out_fit co h6) rfl rfl rfl rfl (K:=0) (by simp[Env.out]) h6
 ·exact rX mR (out_1 (bX C W.length nL aD aL N 0 0 0 0) n) ⟨decide_eq_false c,decide_eq_true (hn.resolve_left c),trivial⟩ (.refl _) (out_fit co h6) rfl rfl rfl rfl (K:=0) (by simp[Env.out]) h6
theorem idle_ret{off nC:Nat}{cC:Option Nat}(co:Core h own C W nL aD aL N)(at_:aL[i]?=some t)(thr:At h own t (tg i 0) (kK (.slice lr off nC cC) k1 k2 k3 (.val .nilIface)))(hlr:lr<h.n)(h6:h.n≤1000000)(h0:nC=0):tQ h h N.ns (i:Int) false:=by
 have hi:=(List.getElem?_eq_some_iff.1 at_).1;have n1:decide ((i:Int)<0)=false:=decide_eq_false (by omega);have n2:decide ((i:Int)≥aL.length)=false:=decide_eq_false (by omega);have n3:decide ((0:Int)≤i)=true:=decide_eq_true (by omega);have n4:decide ((i:Int)<aL.length)=true:=decide_eq_true (by omega);have n5:Nat.beq (aE 0 (Int.toNat (i:Int))) i=true:=by rw[aY];simp
 subst h0;exact rX mR (idle_0 (bX C W.length nL aD aL N i k1 k2 k3) off 0 cC) ⟨n1,n2,n3,n4,n5,rfl,trivial⟩ (.refl _) (zS (m:=N.ns) co at_ thr co.sched.2.2 hlr (.of rfl) h6) rfl rfl rfl rfl (K:=0) (by simp[Env.idle]) h6
def tagB(i d:Nat):Nat:=if d=0 then tg i 998 else if d=1 then tg i 999 else 7
theorem busy_go{ty:Nat}(co:Core h own C W nL aD aL N)(at_:aL[i]?=some t)(thr:At h own t (tg i 0) (kK lf k1 k2 k3 (.iface ty (.ptr m 0 0))))(nI:lf.one=true)(hm:m<h.n)(h6:h.n+200≤1000000):
 ∃(h1:H) (cO:Nat→Nat) (sb nb:Nat),PreGo h h1 N.ns i t sb nb∧h1.n=h.n+200∧h1.R=h.R∧h1.C=h.C∧(∀x,x<h.n→cO x=own x∧h1.get x=h.get x)∧At h1 cO sb (tg i 998) (.cells 49 1 [.ptr N.ns 0 0])∧At h1 cO nb (tg i 999) (.cells 3 1 [.int .i64 ↑i]):=by
 have hi:=(List.getElem?_eq_some_iff.1 at_).1;have n1:decide ((i:Int)<0)=false:=decide_eq_false (by omega);have n2:decide ((i:Int)≥aL.length)=false:=decide_eq_false (by omega);have n3:decide ((0:Int)≤i)=true:=decide_eq_true (by omega);have n4:decide ((i:Int)<aL.length)=true:=decide_eq_true (by omega);have n5:Nat.beq (aE 0 (Int.toNat (i:Int))) i=true:=by rw[aY];simp
 have hw:Wk (kK lf k1 k2 k3 (.iface ty (.ptr m 0 0))) ((kK .any k1 k2 k3 (.iface ty (.ptr 6 0 0))).ren (nm (nsI C N t m N.ns))):=uU 74 5 [lf,.int .i64 k1,.int .i64 k2,.int .i64 k3,.iface ty (.ptr m 0 0)] 0 fun v hv=>by injection hv with hv;subst hv;exact nI
 have ft:=zS (lr:=N.ns) co at_ thr hm co.sched.2.2 hw (by omega);have T:=busy_0 (bX C W.length nL aD aL N i k1 k2 k3) ty;have hc:holds [(decide (((bX C W.length nL aD aL N i k1 k2 k3).tn:Int)<0),false),(decide (((bX C W.length nL aD aL N i k1 k2 k3).tn:Int)≥(bX C W.length nL aD aL N i k1 k2 k3).nt),false),(decide ((0:Int)≤(bX C W.length nL aD aL N i k1 k2 k3).tn),true),(decide (((bX C W.length nL aD aL N i k1 k2 k3).tn:Int)<(bX C W.length nL aD aL N i k1 k2 k3).nt),true),(Nat.beq (aE 0 (Int.toNat (bX C W.length nL aD aL N i k1 k2 k3).tn)) (bX C W.length nL aD aL N i k1 k2 k3).tn,true),(decide ((0:Int)≤(bX C W.length nL aD aL N i k1 k2 k3).tn),true),(decide (((bX C W.length nL aD aL N i k1 k2 k3).tn:Int)<(bX C W.length nL aD aL N i k1 k2 k3).nt),true),(Nat.beq (aE 0 (Int.toNat (bX C W.length nL aD aL N i k1 k2 k3).tn)) (bX C W.length nL aD aL N i k1 k2 k3).tn,true)]:=⟨n1,n2,n3,n4,n5,n3,n4,n5,trivial⟩;have hk:((bX C W.length nL aD aL N i k1 k2 k3).idle .any (.iface ty (.ptr 6 0 0))).length=10:=rfl;obtain⟨b1,b2,b3⟩:=zG (K:=200) (j:=[]) (n:=12) (ls:=[10,11]) (os:=[.cells 49 1 [.ptr 0 0 0],.cells 3 1 [.int .i64 ((i:Nat):Int)]]) ft rfl rfl (by rw[hk];decide) (by simp) h6 rfl;rw[hk]at b1 b2 b3;have q0:nx h.n 10 [] (nsI C N t m N.ns) 0=N.ns:=rfl;have q5:nx h.n 10 [] (nsI C N t m N.ns) 5=t:=rfl;have q10:nx h.n 10 [] (nsI C N t m N.ns) 10=h.n:=rfl;have q11:nx h.n 10 [] (nsI C N t m N.ns) 11=h.n+1:=rfl;refine⟨h.lay 200 (laid (nx h.n 10 [] (nsI C N t m N.ns)) [10,11] [.cells 49 1 [.ptr 0 0 0],.cells 3 1 [.int .i64 ((i:Nat):Int)]]),gR h.n own (tagB i),h.n,h.n+1,?_,rfl,cQ _ _,cY _ _,fun x hx=>⟨by unfold gR;rw[if_pos hx],b2 x fun l hl=>?_⟩,⟨?_,?_,?_⟩,⟨?_,?_,?_⟩⟩
 ·intro m' Q ρ a w hr ha hq
  refine go_preP mR T hc (.refl _) ft rfl rfl rfl rfl (K:=200) (by rw[hk];decide) (j:=[]) (by simp) h6 hr ha fun aW a' w' p1 p2 p3 p4 p5=>?_
  rw[hk]at p1 p2 p3;show(rO 4 (bR 12)).wpIn Fence.wide m' Tryz.prog Q a' w';simp only[SV.rens,SV.ren,List.map_cons,List.map_nil,bM,and_true]at p3;obtain⟨v0,v1,v4,v5,v6⟩:=p3;exact hq aW a' w' p1 p2 ⟨p4,by rw[p5];rfl,v0,v1,v4,v5,v6⟩
 ·simp only[List.mem_cons,List.not_mem_nil,or_false]at hl
  rcases hl with rfl|rfl
  ·rw[q10];omega
  ·rw[q11];omega
 ·have:=b1 0 10 _ rfl rfl
  rw[q10]at this;rw[this];simp[SO.ren,SV.rens,SV.ren,q0]
 ·unfold gR;rw[if_neg (by omega),Nat.sub_self];rfl
 ·show h.n<h.n+200;omega
 ·have:=b1 1 11 _ rfl rfl
  rw[q11]at this;rw[this];rfl
 ·unfold gR;rw[if_neg (by omega),Nat.add_sub_cancel_left];rfl
 ·show h.n+1<h.n+200;omega
end
noncomputable def enE(C:bS)(nL i:Nat)(c1 c2 c3:Int):Ev:=⟨(nL:Int),(i:Int),2,c1,c2,c3,fZ C.ti C.PL.length C.PL c1 c2 c3,0,false,0⟩
section
variable{h:H}{own:Nat→Nat}{C:bS}{W:List Int}{nL:Nat}{aD:List Ev}{aL:List Nat}{N:Names}{i t lr off nC:Nat}{cC:Option Nat}{k1 k2 k3 c1 c2 c3:Int}{cl:List SV}
def ErrR(h:H)(own:Nat→Nat)(C:bS)(W:List Int)(nL:Nat)(aD:List Ev)(aL:List Nat)(N:Names)(i t lr off nC:Nat)(cC:Option Nat)(c1 c2 c3:Int):Prop:=
 ∃(h1:H) (cO:Nat→Nat) (pe:Nat),tQ h h1 N.ns (i:Int) true∧h1.n=h.n+200∧Core h1 cO C W nL (aD++[vI nL i c1 c2 c3,enE C nL i c1 c2 c3]) aL {N with ne:=pe}∧BJ h h1 own cO i∧
  At h1 cO t (tg i 0) (kK (.slice lr (off+1) (nC-1) (cC.map fun x=>x-1)) c1 c2 c3 (.val .nilIface))
theorem err_fin(b:Beg h own C W nL aD aL N i t lr off nC cC k1 k2 k3 c1 c2 c3 cl)(h6:h.n+200≤1000000){ls:List Nat}{os:List SO}{n pe ps pn:Nat}{way:Way}{cs:kB}
 (T:follow way ((PF (i:Int) (tR C W nL aD aL N i off nC cC k1 k2 k3 c1 c2 c3) (RP nL aD)).bind (iV [4] ls))=some (cs,(71,SX.ret,[],[.bool true],n,os)))
 (hc:holds cs)
 (rs:ResP (bX C W.length nL aD aL N i k1 k2 k3) (10+(gT nL).length) (RP nL aD) ls os n (aD++[vI nL i c1 c2 c3,enE C nL i c1 c2 c3]) pe ps pn (.slice 9 (aE off (Int.toNat 1)) (nC-Int.toNat 1) (Option.map (fun x=>x-Int.toNat 1) cC)) (.val .nilIface) c1 c2 c3):
 ErrR h own C W nL aD aL N i t lr off nC cC c1 c2 c3:=by
 have hk:(tR C W nL aD aL N i off nC cC k1 k2 k3 c1 c2 c3).length=10+(gT nL).length:=uW;have eK:eU (RP nL aD) (tR C W nL aD aL N i off nC cC k1 k2 k3 c1 c2 c3)=true:=by cases aD<;>cases nL<;>rfl
 have p:=rX mR T hc (.refl _) (beg_fit b (by omega)) rfl eK (by rw[hk];exact rs.okls) rs.plain (by rw[hk];exact Nat.le_of_ble_eq_true rs.pK) h6;rw[hk]at p;obtain⟨a1,a2,a3,a4,a5,a6⟩:=beg_out (nr:=[]) (tl:=[]) b rs rfl rfl rfl trivial rfl h6;refine⟨_,_,_,p,rfl,a1,a2,?_⟩;have e:(SV.slice 9 (aE off (Int.toNat 1)) (nC-Int.toNat 1) (Option.map (fun x=>x-Int.toNat 1) cC)).ren (fun _=>lr)=.slice lr (off+1) (nC-1) (cC.map fun x=>x-1):=by
  simp only[SV.ren,aY];rfl
 rw[e]at a3;exact a3
theorem take_app(aD:List Ev)(v w:Ev):List.take (bG (aD.length+1) 10) (List.take (bG aD.length 10) (eH aD)++v.c)++w.c=eH (aD++[v,w]):=by
 have:=iT (aD++[v]) w;rw[List.length_append,List.append_assoc]at this;rw[iT];exact this
theorem err_any(ok:dU C)(b:Beg h own C W nL aD aL N i t lr off nC cC k1 k2 k3 c1 c2 c3 cl)(h6:h.n+200≤1000000)(pX:0<nC)(tD:aD.length+1+1≤1000000000)(uE:nL≤1000000000)(hZ:nL≠0→aD≠[])(gU:fZ C.ti C.PL.length C.PL c1 c2 c3≠0):ErrR h own C W nL aD aL N i t lr off nC cC c1 c2 c3:=by
 have hi:=(List.getElem?_eq_some_iff.1 b.at_).1;have jN:=ok.np;have n0:(fZ C.ti C.PL.length C.PL c1 c2 c3 !=0)=true:=by simp[gU]
 have n3:decide ((0:Int)≤i)=true:=decide_eq_true (by omega);have n4:decide ((i:Int)<aL.length)=true:=decide_eq_true (by omega);have n5:Nat.beq (aE 0 (Int.toNat (i:Int))) i=true:=by rw[aY];simp
 have n6:Nat.ble (aE 0 nL) nL=true:=Nat.ble_eq_true_of_le (by rw[aY];omega);have n7:Nat.ble (0+nL) 1000000000=true:=Nat.ble_eq_true_of_le (by omega);have n9:Nat.ble (aD.length+1+1) 1000000000=true:=Nat.ble_eq_true_of_le tD;have n8:∀v:Ev,Nat.ble (bG (aE 0 (aD.length+1)) 10) (List.length (List.take (bG aD.length 10) (eH aD)++v.c))=true:=fun v=>Nat.ble_eq_true_of_le (by rw[iT,lD,bT,aY];simp)
 cases aD with
 |nil=>
  cases nL with
  |zero=>exact err_fin b h6 (err_nn (bX C W.length 0 [] aL N i k1 k2 k3) off nC cC c1 c2 c3) (aG (mS b pX jN) ⟨n0,n3,n4,n5,trivial⟩) ⟨rfl,rfl,rfl,rfl,⟨0,_,rfl,rfl,rfl⟩,⟨1,rfl,rfl⟩,⟨4,_,rfl,rfl,rfl⟩,⟨2,rfl,rfl⟩,⟨3,rfl,rfl⟩,rfl,rfl,by simp⟩
  |succ m=>exact absurd rfl (hZ (by omega))
 |cons v l=>
  cases nL with
  |zero=>exact err_fin b h6 (err_ne (bX C W.length 0 (v::l) aL N i k1 k2 k3) off nC cC c1 c2 c3) (aG (mT b pX jN (by omega)) ⟨n0,n3,n4,n5,n8 (vI 0 i c1 c2 c3),n9,trivial⟩) ⟨rfl,rfl,rfl,rfl,⟨0,_,rfl,rfl,by simp[bX]⟩,⟨2,rfl,rfl⟩,⟨5,_,rfl,rfl,take_app _ (vI 0 i c1 c2 c3) (enE C 0 i c1 c2 c3)⟩,⟨3,rfl,rfl⟩,⟨4,rfl,rfl⟩,rfl,rfl,by simp⟩
  |succ m=>exact err_fin b h6 (err_le (bX C W.length (m+1) (v::l) aL N i k1 k2 k3) off nC cC c1 c2 c3) (aG (mU b pX jN (by omega) uE) ⟨n0,n3,n4,n5,n6,n7,by rw[Nat.zero_add];exact n8 (vI (m+1) i c1 c2 c3),n9,trivial⟩) ⟨rfl,rfl,rfl,rfl,⟨0,_,rfl,rfl,by simp[bX]⟩,⟨2,rfl,rfl⟩,⟨5,_,rfl,rfl,by rw[Nat.zero_add];exact take_app _ (vI (m+1) i c1 c2 c3) (enE C (m+1) i c1 c2 c3)⟩,⟨3,rfl,rfl⟩,⟨4,rfl,rfl⟩,rfl,rfl,by simp⟩
end
def mD(cl:List (Int×Int×Int)):List SV:=cl.flatMap fun c=>[.int .i64 c.1,.int .i64 c.2.1,.int .i64 c.2.2]
theorem uX:∀cl:List (Int×Int×Int),(mD cl).length=cl.length*3
 |[]=>rfl
 |c::cl=>by
  have:=uX cl;simp only[mD,List.flatMap_cons,List.length_append,List.length_cons,List.length_nil]at this⊢;omega
theorem ccs_at:∀{cl:List (Int×Int×Int)} {k:Nat} {c:Int×Int×Int},cl[k]?=some c→(mD cl)[k*3]?=some (.int .i64 c.1)∧(mD cl)[k*3+1]?=some (.int .i64 c.2.1)∧(mD cl)[k*3+2]?=some (.int .i64 c.2.2)
 |[],k,c,h=>by simp at h
 |d::cl,0,c,h=>by
  simp at h;subst h;exact⟨rfl,rfl,rfl⟩
 |d::cl,k+1,c,h=>by
  have:=ccs_at (cl:=cl) (k:=k) (c:=c) (by simpa using h);have e:mD (d::cl)=[.int .i64 d.1,.int .i64 d.2.1,.int .i64 d.2.2]++mD cl:=rfl;rw[e,show(k+1)*3=3+k*3 by omega,show 3+k*3+1=3+(k*3+1) by omega,show 3+k*3+2=3+(k*3+2) by omega];rw[List.getElem?_append_right (by simp),List.getElem?_append_right (by simp),List.getElem?_append_right (by simp)];simpa[Nat.add_sub_cancel_left]using this
def oO(h:H)(own:Nat→Nat)(i:Nat)(lf:SV):Prop:=lf=aC∨∃(lr off nC:Nat) (cC:Option Nat) (cl:List (Int×Int×Int)),lf=.slice lr off nC cC∧At h own lr (tg i 990) (.cells 37 3 (mD cl))∧off+nC≤cl.length
structure BF(C:bS)(aD:List Ev)(aP:List (Nat×List Int))(i b:Nat)(k2:Int)(V:Int→Prop):Prop where
 here:∃vb,aD[b]?=some vb∧vb.th=(i:Int)
 none:∀j w,b<j→aD[j]?=some w→w.th≠(i:Int)
 seen:∀x,V x→∃(j n:Nat) (W:List Int),aP[j]?=some (n,W)∧b<n∧W.getD (dG C k2).toNat 0=x
inductive ThI(h:H)(own:Nat→Nat)(C:bS)(nL:Nat)(aD:List Ev)(aP:List (Nat×List Int))(i t:Nat):Prop
 |rest (lf:SV) (k1 k2 k3:Int):oO h own i lf→At h own t (tg i 0) (kK lf k1 k2 k3 (.val .nilIface))→ThI h own C nL aD aP i t
 |busy (lf:SV) (k1 k2 k3:Int) (now:SV) (ob:mB) (ν:Nat→Nat) (b:Nat) (V:Int→Prop):oO h own i lf→At h own t (tg i 0) (kK lf k1 k2 k3 (now.ren (rv C.P ν)))→jJ h own i C.P ν ob→Mch C nL V k1 k2 now ob→BF C aD aP i b k2 V→ThI h own C nL aD aP i t
def tE(C:bS)(aP:List (Nat×List Int))(aD:List Ev):Prop:=∀(k:Nat) (v:Ev),aD[k]?=some v→v.kind=2→(v.k1=5∨v.k1=6)→v.a1=0→v.a3=false→
 bH C v.k2∧∃b vb,b<k∧aD[b]?=some vb∧vb.th=v.th∧(∀j w,b<j→j<k→aD[j]?=some w→w.th≠v.th)∧
  ∃(j n:Nat) (W:List Int),aP[j]?=some (n,W)∧b<n∧(j=0∨∃n' W',aP[j-1]?=some (n',W')∧n'≤k)∧W.getD (dG C v.k2).toNat 0=v.a2
structure PInv(h:H)(own:Nat→Nat)(C:bS)(W:List Int)(nL:Nat)(aD:List Ev)(aL:List Nat)(N:Names)(aP:List (Nat×List Int)):Prop where
 co:Core h own C W nL aD aL N
 w:hU C W
 thr:∀i t,aL[i]?=some t→ThI h own C nL aD aP i t
 nl:nL≠0→aD≠[]
 nlb:nL≤aP.length
 evb:aD.length≤2*aP.length
 hs:∀(j n:Nat) (W:List Int),aP[j]?=some (n,W)→n≤aD.length∧hU C W
 fact:tE C aP aD
theorem tg_ne{i j c d:Nat}(h:i≠j)(hc:c<1000)(hd:d<1000):tg i c≠tg j d:=by unfold tg;omega
theorem mV(i c:Nat):tg i c>900:=by unfold tg;omega
section
variable{h h':H}{own bZ:Nat→Nat}{C:bS}{W W':List Int}{nL nL':Nat}{aD eX:List Ev}{aL:List Nat}{N:Names}{aP hist':List (Nat×List Int)}{i j t:Nat}
theorem oO.imp(hf:∀m o,At h own m (tg i 990) o→At h' bZ m (tg i 990) o){lf:SV}(l:oO h own i lf):oO h' bZ i lf:=by
 rcases l with e|⟨lr,off,nC,cC,cl,e,a,b⟩
 ·exact .inl e
 ·exact .inr ⟨lr,off,nC,cC,cl,e,hf _ _ a,b⟩
theorem jJ.imp(hf:∀m o c,c<1000→At h own m (tg i c) o→At h' bZ m (tg i c) o){P:Nat}{ν:Nat→Nat}{ob:mB}(m:jJ h own i P ν ob):jJ h' bZ i P ν ob:=
 ⟨fun x hx=>hf _ _ _ (by have:=(m.rng x hx).2;omega) (m.at_ x hx),m.rng,m.pl⟩
theorem BF.grow{b:Nat}{k2:Int}{V:Int→Prop}(f:BF C aD aP i b k2 V)(es:List Ev)(he:∀v∈es,v.th≠(i:Int))(hx:List (Nat×List Int)):BF C (aD++es) (aP++hx) i b k2 V:=by
 obtain⟨⟨vb,h1,h2⟩,h3,h4⟩:=f;have hb:=(List.getElem?_eq_some_iff.1 h1).1;refine⟨⟨vb,by rw[List.getElem?_append_left hb];exact h1,h2⟩,fun j w hj hw=>?_,fun x hV=>?_⟩
 ·rcases Nat.lt_or_ge j aD.length with hl|hl
  ·rw[List.getElem?_append_left hl]at hw;exact h3 j w hj hw
  ·rw[List.getElem?_append_right hl]at hw
   exact he w (List.mem_of_getElem? hw)
 ·obtain⟨j,n,W,e1,e2,e3⟩:=h4 x hV
  exact⟨j,n,W,by rw[List.getElem?_append_left (List.getElem?_eq_some_iff.1 e1).1];exact e1,e2,e3⟩
theorem ThI.grow(th:ThI h own C nL aD aP i t)(hf:∀m o c,c<1000→At h own m (tg i c) o→At h' bZ m (tg i c) o)(hn:nL≤nL')(es:List Ev)(he:∀v∈es,v.th≠(i:Int))(hx:List (Nat×List Int)):ThI h' bZ C nL' (aD++es) (aP++hx) i t:=by
 cases th with
 |rest lf k1 k2 k3 a b=>exact .rest lf k1 k2 k3 (a.imp fun m o=>hf m o 990 (by omega)) (hf _ _ _ (by omega) b)
 |busy lf k1 k2 k3 now ob ν b V c d m mm f=>exact .busy lf k1 k2 k3 now ob ν b V (c.imp fun m o=>hf m o 990 (by omega)) (hf _ _ _ (by omega) d) (m.imp hf) (mm.mono hn fun _ x=>x) (f.grow es he hx)
theorem tE.grow(f:tE C aP aD)(es:List Ev)(hx:List (Nat×List Int))(hn:∀(k:Nat) (v:Ev),es[k]?=some v→v.kind=2→(v.k1=5∨v.k1=6)→v.a1=0→v.a3=false→
 bH C v.k2∧∃b vb,b<aD.length+k∧(aD++es)[b]?=some vb∧vb.th=v.th∧(∀j w,b<j→j<aD.length+k→(aD++es)[j]?=some w→w.th≠v.th)∧
  ∃(j n:Nat) (W:List Int),(aP++hx)[j]?=some (n,W)∧b<n∧(j=0∨∃n' W',(aP++hx)[j-1]?=some (n',W')∧n'≤aD.length+k)∧W.getD (dG C v.k2).toNat 0=v.a2):tE C (aP++hx) (aD++es):=by
 intro k v hv h1 h2 h3 h4;rcases Nat.lt_or_ge k aD.length with hl|hl
 ·rw[List.getElem?_append_left hl]at hv
  obtain⟨a,b,vb,b1,b2,b3,b4,j,n,W,c1,c2,c3,c4⟩:=f k v hv h1 h2 h3 h4;refine⟨a,b,vb,b1,by rw[List.getElem?_append_left (by omega)];exact b2,b3,fun j w hj hk hw=>?_,j,n,W,by rw[List.getElem?_append_left (List.getElem?_eq_some_iff.1 c1).1];exact c1,c2,c3.imp id fun c3=>?_,c4⟩
  ·rw[List.getElem?_append_left (by omega)]at hw;exact b4 j w hj hk hw
  ·obtain⟨n',W',e1,e2⟩:=c3
   exact⟨n',W',by rw[List.getElem?_append_left (List.getElem?_eq_some_iff.1 e1).1];exact e1,e2⟩
 ·rw[List.getElem?_append_right hl]at hv
  have:=hn (k-aD.length) v hv h1 h2 h3 h4;rw[show aD.length+(k-aD.length)=k by omega]at this;exact this
theorem Mch.node{V:Int→Prop}{k1 k2:Int}{now:SV}{ob:mB}(m:Mch C nL V k1 k2 now ob)(hk:k1=5∨k1=6):bH C k2:=by
 rcases m with m|⟨_,m⟩|⟨_,m⟩|m|m
 ·exact(hk.elim m.1.1 m.1.2).elim
 ·exact m.1
 ·exact m.1
 ·exact(hk.elim m.1.1 m.1.2).elim
 ·exact(hk.elim m.1.1 m.1.2).elim
theorem Mch.now_eq{V:Int→Prop}{k1 k2:Int}{now:SV}{ob:mB}(m:Mch C nL V k1 k2 now ob):∃ty o,now=.iface ty (.ptr 10 0 0)∧(10,o)∈ob:=by
 rcases m with m|⟨_,m⟩|⟨_,m⟩|m|m
 ·obtain⟨a,r,v,n,saw,at_,e1,e2,e3,e4,b,c,d,e,f⟩:=m
  exact⟨_,_,e,by rw[f];exact .head _⟩
 ·obtain⟨a,e1,e2,e3,e4,b,c⟩:=m
  exact⟨_,_,b,by rw[c];exact .head _⟩
 ·obtain⟨hv,st,left,e1,e2,e3,e4,G,a,b,c,d,e,f⟩:=m
  exact⟨_,_,b,by rw[f];exact .head _⟩
 ·obtain⟨a,b,j,cH,thr,saw,o0,o1,o2,o3,a0,a1,a2,a3,n,c,d,e,f⟩:=m
  refine⟨138,?_⟩;cases f<;>exact⟨_,b,.head _⟩
 ·obtain⟨a,b,node,n,thr,o0,o2,o3,c,d,e,f⟩:=m
  refine⟨136,?_⟩;cases f<;>exact⟨_,b,.head _⟩
end
end Go.Proofs.YtnkcbfgfkadoaaaGreat.Sx
