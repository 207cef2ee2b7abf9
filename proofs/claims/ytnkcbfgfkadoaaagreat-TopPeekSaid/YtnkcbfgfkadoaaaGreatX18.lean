/- Part 18 of the proof of TopPeek. -/
import Derived.Test.YtnkcbfgfkadoaaaGreatX17
set_option linter.all false
namespace Go.Proofs.YtnkcbfgfkadoaaaGreat.Sx
open Go
set_option maxRecDepth 100000
def plsF(a d k:Nat):List Nat:=(List.range k).map fun j=>a+d*j
def caR(k:Nat):List SV:=(List.range k).flatMap (fun j=>[.func (.func 124) [] [.ptr 36 0 0,.ptr (78+3*j) 0 0],.func (.func 126) [] [.ptr 36 0 0,.ptr (78+3*j) 0 0]])++
 [.func (.func 157) [] [.ptr (94+3*k) 0 0,.ptr (95+3*k) 0 0],.func (.func 134) [] [],.func (.func 157) [] [.ptr (98+3*k) 0 0,.ptr (99+3*k) 0 0],.func (.func 134) [] []]++
 (List.range k).flatMap fun j=>[.func (.func 132) [] [.ptr 36 0 0,.ptr (102+3*k+3*j) 0 0],.func (.func 134) [] []]
def caV(P:List Int)(node:Int)(k:Nat):List SO:=(List.range k).map fun j=>.cells 3 1 [.int .i64 ((chain P k node).getD j 0)]
def caM(e:Env)(node n thr o0 o1 o3 lf saw set b0 b1 b3:Int)(o2 b2:Bool)(off nQ:Nat):List SO:=e.objs (.slice 15 0 e.nL none) (.iface 136 (.ptr 10 0 0)) [dN e node n thr (.ptr 14 0 0) (aC) (.slice 11 0 1 (some 1)) (.iface 151 (.ptr 14 0 0)) (o0) (o1) (o2) (o3),.cells 159 2 [.func (.func 107) [] [.ptr 12 0 0],.func (.func 108) [.ptr 10 0 0] []],.cells 136 1 [.ptr 10 0 0],.spot 3 1 off [.int .i64 lf],fM e (.slice 13 off nQ none) (true) (saw) (set) (false) (b0) (b1) (b2) (b3),.any 122 5 e.nL]
def cF(k:Nat)(e:Env)(x:Nat→SV)(node n thr o0 o1 o3 lf saw set b0 b1 b3:Int)(o2 b2:Bool)(off nQ:Nat)(P:List Int):Prop:=follow [(6,true),(0,true),(1,true),(3,true),(0,true),(2,true),(0,true),(6,true),(2+13*k,true),(2,true)] ((R6k k e x P (caM e node n thr o0 o1 o3 lf saw set b0 b1 b3 o2 b2 off nQ)).bind (cR [4] ([0,1,2,4,5,6,7,10,12,14,15,11,34,101+6*k,36]++plsF 78 3 k++[94+3*k,95+3*k,98+3*k,99+3*k]++plsF (102+3*k) 3 k)))=
 some ([(decide ((0:Int)<(nQ:Int)),true),(Nat.beq (aE off (Int.toNat 0)) off,true),(decide (0≤e.st∧e.st≤8∧e.np≤100∧0≤lf∧lf≤100),true),(inW (aB e.st (e.np:Int)+2*lf) e.nW e.nL e.W,true),(List.getD e.W (Int.toNat (aB e.st (e.np:Int)+2*lf)) 0==saw,true),(decide ((0:Int)<(nQ:Int)),true),(Nat.beq (aE off (Int.toNat 0)) off,true),(nX P e.np k node,true),(decide (0≤e.st∧e.st≤8∧e.np≤100∧0≤lf∧lf≤100),true),(fits (aB e.st (e.np:Int)+2*lf+1),true)],
 (SX.ret,[],[.bool true],106+6*k,[e.sO (.slice 4 0 e.ne none),bI 2 e.nW e.c (.slice 34 0 (e.nL+1) none),.ints 3 1 (List.set e.W (Int.toNat (aB e.st (e.np:Int)+2*lf)) (eD saw 1)),.cells 42 10 e.E,e.tO (.iface 136 (.ptr 10 0 0)),.cells 49 1 [.ptr 0 0 0],.cells 3 1 [.int .i64 ↑e.tn],dN e node n thr (.ptr 14 0 0) (aC) (.slice (101+6*k) 0 (2*k+2) none) (.val Value.nilIface) (o0) ((handI lf (eD (eD saw 1) 2))) (o2) (o3),.cells 136 1 [.ptr 10 0 0],fM e (.slice 13 off nQ none) (true) (saw) ((eD saw 1)) (true) (0) (lf) (false) (0),.dead,.cells 159 2 [.func (.func 107) [] [.ptr 12 0 0],.func (.func 108) [.ptr 10 0 0] []],.any 122 5 (e.nL+1),.cells 159 2 (caR k),.cells 136 1 [.ptr 10 0 0]]++caV P node k++[.cells 3 1 [.int .i64 (aB e.st (e.np:Int)+2*lf+1)],.cells 3 1 [.int .i64 (bodyI node n)],.cells 3 1 [.int .i64 (aB e.st (e.np:Int)+2*lf)],.cells 3 1 [.int .i64 (eD (eD saw 1) 2)]]++caV P node k))
theorem claimed_1(e:Env)(x:Nat→SV)(node n thr o0 o1 o3 lf saw set b0 b1 b3:Int)(o2 b2:Bool)(off nQ:Nat)(P:List Int):cF 1 e x node n thr o0 o1 o3 lf saw set b0 b1 b3 o2 b2 off nQ P:=by unfold cF;kernel_rfl
theorem claimed_2(e:Env)(x:Nat→SV)(node n thr o0 o1 o3 lf saw set b0 b1 b3:Int)(o2 b2:Bool)(off nQ:Nat)(P:List Int):cF 2 e x node n thr o0 o1 o3 lf saw set b0 b1 b3 o2 b2 off nQ P:=by unfold cF;kernel_rfl
theorem claimed_3(e:Env)(x:Nat→SV)(node n thr o0 o1 o3 lf saw set b0 b1 b3:Int)(o2 b2:Bool)(off nQ:Nat)(P:List Int):cF 3 e x node n thr o0 o1 o3 lf saw set b0 b1 b3 o2 b2 off nQ P:=by unfold cF;kernel_rfl
theorem claimed_4(e:Env)(x:Nat→SV)(node n thr o0 o1 o3 lf saw set b0 b1 b3:Int)(o2 b2:Bool)(off nQ:Nat)(P:List Int):cF 4 e x node n thr o0 o1 o3 lf saw set b0 b1 b3 o2 b2 off nQ P:=by unfold cF;kernel_rfl
theorem claimed_5(e:Env)(x:Nat→SV)(node n thr o0 o1 o3 lf saw set b0 b1 b3:Int)(o2 b2:Bool)(off nQ:Nat)(P:List Int):cF 5 e x node n thr o0 o1 o3 lf saw set b0 b1 b3 o2 b2 off nQ P:=by unfold cF;kernel_rfl
theorem claimed_6(e:Env)(x:Nat→SV)(node n thr o0 o1 o3 lf saw set b0 b1 b3:Int)(o2 b2:Bool)(off nQ:Nat)(P:List Int):cF 6 e x node n thr o0 o1 o3 lf saw set b0 b1 b3 o2 b2 off nQ P:=by unfold cF;kernel_rfl
theorem claimed_7(e:Env)(x:Nat→SV)(node n thr o0 o1 o3 lf saw set b0 b1 b3:Int)(o2 b2:Bool)(off nQ:Nat)(P:List Int):cF 7 e x node n thr o0 o1 o3 lf saw set b0 b1 b3 o2 b2 off nQ P:=by unfold cF;kernel_rfl
theorem claimed_8(e:Env)(x:Nat→SV)(node n thr o0 o1 o3 lf saw set b0 b1 b3:Int)(o2 b2:Bool)(off nQ:Nat)(P:List Int):cF 8 e x node n thr o0 o1 o3 lf saw set b0 b1 b3 o2 b2 off nQ P:=by unfold cF;kernel_rfl
theorem claimed_9(e:Env)(x:Nat→SV)(node n thr o0 o1 o3 lf saw set b0 b1 b3:Int)(o2 b2:Bool)(off nQ:Nat)(P:List Int):cF 9 e x node n thr o0 o1 o3 lf saw set b0 b1 b3 o2 b2 off nQ P:=by unfold cF;kernel_rfl
theorem claimed_10(e:Env)(x:Nat→SV)(node n thr o0 o1 o3 lf saw set b0 b1 b3:Int)(o2 b2:Bool)(off nQ:Nat)(P:List Int):cF 10 e x node n thr o0 o1 o3 lf saw set b0 b1 b3 o2 b2 off nQ P:=by unfold cF;kernel_rfl
theorem claimed_11(e:Env)(x:Nat→SV)(node n thr o0 o1 o3 lf saw set b0 b1 b3:Int)(o2 b2:Bool)(off nQ:Nat)(P:List Int):cF 11 e x node n thr o0 o1 o3 lf saw set b0 b1 b3 o2 b2 off nQ P:=by unfold cF;kernel_rfl
theorem claimed_12(e:Env)(x:Nat→SV)(node n thr o0 o1 o3 lf saw set b0 b1 b3:Int)(o2 b2:Bool)(off nQ:Nat)(P:List Int):cF 12 e x node n thr o0 o1 o3 lf saw set b0 b1 b3 o2 b2 off nQ P:=by unfold cF;kernel_rfl
theorem claimed_all(e:Env)(x:Nat→SV)(node n thr o0 o1 o3 lf saw set b0 b1 b3:Int)(o2 b2:Bool)(off nQ:Nat)(P:List Int):∀{k:Nat},1≤k→k≤12→cF k e x node n thr o0 o1 o3 lf saw set b0 b1 b3 o2 b2 off nQ P
 |1,_,_=>claimed_1 e x node n thr o0 o1 o3 lf saw set b0 b1 b3 o2 b2 off nQ P
 |2,_,_=>claimed_2 e x node n thr o0 o1 o3 lf saw set b0 b1 b3 o2 b2 off nQ P
 |3,_,_=>claimed_3 e x node n thr o0 o1 o3 lf saw set b0 b1 b3 o2 b2 off nQ P
 |4,_,_=>claimed_4 e x node n thr o0 o1 o3 lf saw set b0 b1 b3 o2 b2 off nQ P
 |5,_,_=>claimed_5 e x node n thr o0 o1 o3 lf saw set b0 b1 b3 o2 b2 off nQ P
 |6,_,_=>claimed_6 e x node n thr o0 o1 o3 lf saw set b0 b1 b3 o2 b2 off nQ P
 |7,_,_=>claimed_7 e x node n thr o0 o1 o3 lf saw set b0 b1 b3 o2 b2 off nQ P
 |8,_,_=>claimed_8 e x node n thr o0 o1 o3 lf saw set b0 b1 b3 o2 b2 off nQ P
 |9,_,_=>claimed_9 e x node n thr o0 o1 o3 lf saw set b0 b1 b3 o2 b2 off nQ P
 |10,_,_=>claimed_10 e x node n thr o0 o1 o3 lf saw set b0 b1 b3 o2 b2 off nQ P
 |11,_,_=>claimed_11 e x node n thr o0 o1 o3 lf saw set b0 b1 b3 o2 b2 off nQ P
 |12,_,_=>claimed_12 e x node n thr o0 o1 o3 lf saw set b0 b1 b3 o2 b2 off nQ P
 |0,h,_=>absurd h (by omega)
 |k+13,_,h=>absurd h (by omega)
theorem claim_take_0(e:Env)(x:Nat→SV)(node n thr o0 o1 o3 lf saw set b0 b1 b3:Int)(o2 b2:Bool)(off nQ:Nat):follow [(8,true),(0,true),(1,true),(3,true),(0,false),(2,true),(0,true),(0,true),(7,true),(0,true),(0,true),(2,true),(2,true),(3,true),(3,true)] ((R6 e x (e.objs (.slice 15 0 e.nL none) (.iface 136 (.ptr 10 0 0)) [dN e node n thr (.ptr 14 0 0) (aC) (.slice 11 0 1 (some 1)) (.iface 151 (.ptr 14 0 0)) (o0) (o1) (o2) (o3),.spot 159 2 0 [.func (.func 107) [] [.ptr 12 0 0],.func (.func 108) [.ptr 10 0 0] []],.cells 136 1 [.ptr 10 0 0],.spot 3 1 off [.int .i64 lf],fM e (.slice 13 off nQ none) (true) (saw) (set) (false) (b0) (b1) (b2) (b3),.any 122 5 e.nL])).bind (cR [4] [0,1,2,4,5,6,7,10,12,14,15,43,34]))=
 some ([(decide ((0:Int)<(nQ:Int)),true),(Nat.beq (aE off (Int.toNat 0)) off,true),(decide (0≤e.st∧e.st≤8∧e.np≤100∧0≤lf∧lf≤100),true),(inW (aB e.st (e.np:Int)+2*lf) e.nW e.nL e.W,true),(List.getD e.W (Int.toNat (aB e.st (e.np:Int)+2*lf)) 0==saw,false),(Nat.ble nQ nQ,true),(Nat.ble 1 nQ,true),(((nQ-Int.toNat 1:Nat):Int)==0,true)]++endC e,(SX.ret,[],[.bool true],44,[e.sO (.slice 43 0 (e.ne+1) none),bI 2 e.nW e.c (.slice 34 0 (e.nL+1) none),.ints 3 1 e.W,.dead,e.tO (.val Value.nilIface),.cells 49 1 [.ptr 0 0 0],.cells 3 1 [.int .i64 ↑e.tn],dN e node n thr (.ptr 14 0 0) (aC) (.slice 11 1 0 (some 0)) (.val Value.nilIface) (3) (0) (false) (0),.cells 136 1 [.ptr 10 0 0],fM e (.slice 13 (aE off (Int.toNat 1)) (nQ-Int.toNat 1) none) (false) (saw) (set) (true) (3) (0) (false) (0),.dead,.cells 42 10 (List.take (bG e.ne 10) e.E++lB (↑(0+(e.nL+1))) (↑e.tn) (2) (e.k1) (e.k2) (e.k3) (3) (0) (false) (0)),.any 122 5 (e.nL+1)])):=by kernel_rfl
theorem claim_take_1(e:Env)(x:Nat→SV)(node n thr o0 o1 o3 lf saw set b0 b1 b3:Int)(o2 b2:Bool)(off nQ:Nat):follow [(8,true),(0,true),(1,true),(3,true),(0,false),(2,true),(0,true),(0,false)] ((R6 e x (e.objs (.slice 15 0 e.nL none) (.iface 136 (.ptr 10 0 0)) [dN e node n thr (.ptr 14 0 0) (aC) (.slice 11 0 1 (some 1)) (.iface 151 (.ptr 14 0 0)) (o0) (o1) (o2) (o3),.spot 159 2 0 [.func (.func 107) [] [.ptr 12 0 0],.func (.func 108) [.ptr 10 0 0] []],.cells 136 1 [.ptr 10 0 0],.spot 3 1 off [.int .i64 lf],fM e (.slice 13 off nQ none) (true) (saw) (set) (false) (b0) (b1) (b2) (b3),.any 122 5 e.nL])).bind (cR [4] [0,1,2,4,5,6,7,10,12,14,15,34]))=
 some ([(decide ((0:Int)<(nQ:Int)),true),(Nat.beq (aE off (Int.toNat 0)) off,true),(decide (0≤e.st∧e.st≤8∧e.np≤100∧0≤lf∧lf≤100),true),(inW (aB e.st (e.np:Int)+2*lf) e.nW e.nL e.W,true),(List.getD e.W (Int.toNat (aB e.st (e.np:Int)+2*lf)) 0==saw,false),(Nat.ble nQ nQ,true),(Nat.ble 1 nQ,true),(((nQ-Int.toNat 1:Nat):Int)==0,false)],(SX.ret,[],[.bool true],35,[e.sO (.slice 4 0 e.ne none),bI 2 e.nW e.c (.slice 34 0 (e.nL+1) none),.ints 3 1 e.W,.cells 42 10 e.E,e.tO (.iface 136 (.ptr 10 0 0)),.cells 49 1 [.ptr 0 0 0],.cells 3 1 [.int .i64 ↑e.tn],dN e node n thr (.ptr 14 0 0) (aC) (.slice 11 0 1 (some 1)) (.iface 151 (.ptr 14 0 0)) (o0) (o1) (o2) (o3),.cells 136 1 [.ptr 10 0 0],fM e (.slice 13 (aE off (Int.toNat 1)) (nQ-Int.toNat 1) none) (false) (saw) (set) (false) (b0) (b1) (b2) (b3),.dead,.any 122 5 (e.nL+1)])):=by kernel_rfl
theorem pool_s0_0(e:Env)(x:Nat→SV)(node n thr o0 o1 o3 v saw set lf fQ:Int)(o2:Bool)(off nP nH nQ oQ:Nat)(G:List Int):follow [(0,false),(1,true),(0,true),(0,true),(1,true),(1,true),(1,true),(1,true),(0,false),(0,false)] ((R6 e x (e.objs (.slice 15 0 e.nL none) (.iface 136 (.ptr 10 0 0)) [dN e node n thr (.ptr 14 0 0) (aC) (.slice 11 off nP none) (.val Value.nilIface) (o0) (o1) (o2) (o3),.spot 159 2 off [.func (.func 124) [] [.ptr 12 0 0,.ptr 13 0 0],.func (.func 126) [] [.ptr 12 0 0,.ptr 13 0 0]],.cells 136 1 [.ptr 10 0 0],.cells 3 1 [.int .i64 v],fM e (.any) (true) (saw) (set) (true) (0) (lf) (false) (0),.any 122 5 e.nL])).bind (cR [4] [0,1,2,4,5,6,7,10,12,13,14,15,35,34]))=
 some ([((nP:Int)==0,false),(decide ((0:Int)<(nP:Int)),true),(Nat.beq (aE off (Int.toNat 0)) off,true),(Nat.beq (aE off (Int.toNat 0)) off,true),(!decide (e.st=0),true),(decide (0≤e.st∧e.st≤8∧0≤v∧v≤100),true),(decide (0≤e.st∧e.st≤8∧0≤v∧v≤100∧0≤Int.tmod thr e.st∧Int.tmod thr e.st≤100),true),(@decide (iN (aR.mk (aB e.st v+1) (aB e.st v+2+Int.tmod thr e.st) (v) (n) (e.le) (0) (0) (0) (0) (0) (0) (false) (0)) e.W∧e.nW=List.length e.W∧e.nL=e.nL∧e.nL+1≤1000000000) (Classical.propDecidable _),true),(decide (aR.nx (Prod.fst (aJ (aR.mk (aB e.st v+1) (aB e.st v+2+Int.tmod thr e.st) (v) (n) (e.le) (0) (0) (0) (0) (0) (0) (false) (0)) e.W))=7),false),((nP:Int)==0,false)],(SX.ret,[],[.bool true],71,[e.sO (.slice 4 0 e.ne none),bI 2 e.nW e.c (.slice 35 0 (e.nL+1) none),.ints 3 1 (Prod.snd (aJ (aR.mk (aB e.st v+1) (aB e.st v+2+Int.tmod thr e.st) (v) (n) (e.le) (0) (0) (0) (0) (0) (0) (false) (0)) e.W)),.cells 42 10 e.E,e.tO (.iface 136 (.ptr 10 0 0)),.cells 49 1 [.ptr 0 0 0],.cells 3 1 [.int .i64 ↑e.tn],dN e node n thr (.ptr 14 0 0) (aC) (.slice 11 off nP none) (.iface 173 (.ptr 34 0 0)) (o0) (o1) (o2) (o3),.cells 136 1 [.ptr 10 0 0],.cells 3 1 [.int .i64 v],fM e (.any) (true) (saw) (set) (true) (0) (lf) (false) (0),.dead,.any 122 5 (e.nL+1),aR.o (Prod.fst (aJ (aR.mk (aB e.st v+1) (aB e.st v+2+Int.tmod thr e.st) (v) (n) (e.le) (0) (0) (0) (0) (0) (0) (false) (0)) e.W))])):=by kernel_rfl
theorem pool_s1_0(e:Env)(x:Nat→SV)(node n thr o0 o1 o3 v saw set lf fQ:Int)(o2:Bool)(off nP nH nQ oQ:Nat)(G:List Int):follow [(0,false),(1,true),(0,true),(0,true),(1,true),(1,true),(1,true),(1,true),(0,false),(0,false)] ((R6 e x (e.objs (.slice 16 0 e.nL none) (.iface 136 (.ptr 10 0 0)) [dN e node n thr (.ptr 14 0 0) (.slice 15 0 nH none) (.slice 11 off nP none) (.val Value.nilIface) (o0) (o1) (o2) (o3),.spot 159 2 off [.func (.func 124) [] [.ptr 12 0 0,.ptr 13 0 0],.func (.func 126) [] [.ptr 12 0 0,.ptr 13 0 0]],.cells 136 1 [.ptr 10 0 0],.cells 3 1 [.int .i64 v],fM e (.any) (true) (saw) (set) (true) (0) (lf) (false) (0),.ints 3 1 G,.any 122 5 e.nL])).bind (cR [4] [0,1,2,4,5,6,7,10,12,13,14,15,16,36,35]))=
 some ([((nP:Int)==0,false),(decide ((0:Int)<(nP:Int)),true),(Nat.beq (aE off (Int.toNat 0)) off,true),(Nat.beq (aE off (Int.toNat 0)) off,true),(!decide (e.st=0),true),(decide (0≤e.st∧e.st≤8∧0≤v∧v≤100),true),(decide (0≤e.st∧e.st≤8∧0≤v∧v≤100∧0≤Int.tmod thr e.st∧Int.tmod thr e.st≤100),true),(@decide (iN (aR.mk (aB e.st v+1) (aB e.st v+2+Int.tmod thr e.st) (v) (n) (e.le) (0) (0) (0) (0) (0) (0) (false) (0)) e.W∧e.nW=List.length e.W∧e.nL=e.nL∧e.nL+1≤1000000000) (Classical.propDecidable _),true),(decide (aR.nx (Prod.fst (aJ (aR.mk (aB e.st v+1) (aB e.st v+2+Int.tmod thr e.st) (v) (n) (e.le) (0) (0) (0) (0) (0) (0) (false) (0)) e.W))=7),false),((nP:Int)==0,false)],(SX.ret,[],[.bool true],72,[e.sO (.slice 4 0 e.ne none),bI 2 e.nW e.c (.slice 36 0 (e.nL+1) none),.ints 3 1 (Prod.snd (aJ (aR.mk (aB e.st v+1) (aB e.st v+2+Int.tmod thr e.st) (v) (n) (e.le) (0) (0) (0) (0) (0) (0) (false) (0)) e.W)),.cells 42 10 e.E,e.tO (.iface 136 (.ptr 10 0 0)),.cells 49 1 [.ptr 0 0 0],.cells 3 1 [.int .i64 ↑e.tn],dN e node n thr (.ptr 14 0 0) (.slice 15 0 nH none) (.slice 11 off nP none) (.iface 173 (.ptr 35 0 0)) (o0) (o1) (o2) (o3),.cells 136 1 [.ptr 10 0 0],.cells 3 1 [.int .i64 v],fM e (.any) (true) (saw) (set) (true) (0) (lf) (false) (0),.ints 3 1 G,.dead,.any 122 5 (e.nL+1),aR.o (Prod.fst (aJ (aR.mk (aB e.st v+1) (aB e.st v+2+Int.tmod thr e.st) (v) (n) (e.le) (0) (0) (0) (0) (0) (0) (false) (0)) e.W))])):=by kernel_rfl
theorem pool_c0_0(e:Env)(x:Nat→SV)(node n thr o0 o1 o3 v saw set lf fQ:Int)(o2:Bool)(off nP nH nQ oQ:Nat)(G:List Int)(avail lease nd pn limit nx had bA extra e1 e2 e4:Int)(e3:Bool):follow [(0,false),(1,true),(0,true),(0,true),(2,true),(0,true),(1,true),(0,true),(0,true),(8,false)] ((R6 e x (e.objs (.slice 16 0 e.nL none) (.iface 136 (.ptr 10 0 0)) [dN e node n thr (.ptr 14 0 0) (aC) (.slice 11 off nP none) (.iface 173 (.ptr 15 0 0)) (o0) (o1) (o2) (o3),.spot 159 2 off [.func (.func 124) [] [.ptr 12 0 0,.ptr 13 0 0],.func (.func 126) [] [.ptr 12 0 0,.ptr 13 0 0]],.cells 136 1 [.ptr 10 0 0],.cells 3 1 [.int .i64 v],fM e (.any) (true) (saw) (set) (true) (0) (lf) (false) (0),.cells 193 13 [.int .i64 avail,.int .i64 lease,.int .i64 nd,.int .i64 pn,.int .i64 limit,.int .i64 nx,.int .i64 had,.int .i64 bA,.int .i64 extra,.int .i64 e1,.int .i64 e2,.bool e3,.int .i64 e4],.any 122 5 e.nL])).bind (cR [4] [0,1,2,4,5,6,7,10,12,13,14,15,16,18,59]))=
 some ([((nP:Int)==0,false),(decide ((0:Int)<(nP:Int)),true),(Nat.beq (aE off (Int.toNat 0)) off,true),(Nat.beq (aE off (Int.toNat 0)) off,true),(@decide (iN (aR.mk (avail) (lease) (nd) (pn) (limit) (nx) (had) (bA) (extra) (e1) (e2) (e3) (e4)) e.W∧e.nW=List.length e.W∧e.nL=e.nL∧e.nL+1≤1000000000) (Classical.propDecidable _),true),(decide (aR.nx (Prod.fst (aJ (aR.mk (avail) (lease) (nd) (pn) (limit) (nx) (had) (bA) (extra) (e1) (e2) (e3) (e4)) e.W))=7),true),(Nat.ble nP nP,true),(Nat.ble 1 nP,true),(aR.e1 (Prod.fst (aJ (aR.mk (avail) (lease) (nd) (pn) (limit) (nx) (had) (bA) (extra) (e1) (e2) (e3) (e4)) e.W))==0,true),(((nP-Int.toNat 1:Nat):Int)==0,false)],(SX.ret,[],[.bool true],60,[e.sO (.slice 4 0 e.ne none),bI 2 e.nW e.c (.slice 18 0 (e.nL+1) none),.ints 3 1 (Prod.snd (aJ (aR.mk (avail) (lease) (nd) (pn) (limit) (nx) (had) (bA) (extra) (e1) (e2) (e3) (e4)) e.W)),.cells 42 10 e.E,e.tO (.iface 136 (.ptr 10 0 0)),.cells 49 1 [.ptr 0 0 0],.cells 3 1 [.int .i64 ↑e.tn],dN e node n thr (.ptr 14 0 0) (.slice 59 0 1 none) (.slice 11 (aE off (Int.toNat 1)) (nP-Int.toNat 1) none) (.val Value.nilIface) (o0) (o1) (o2) (o3),.cells 136 1 [.ptr 10 0 0],.cells 3 1 [.int .i64 v],fM e (.any) (true) (saw) (set) (true) (0) (lf) (false) (0),aR.o (Prod.fst (aJ (aR.mk (avail) (lease) (nd) (pn) (limit) (nx) (had) (bA) (extra) (e1) (e2) (e3) (e4)) e.W)),.dead,.any 122 5 (e.nL+1),.cells 3 1 [.int .i64 v]])):=by kernel_rfl
theorem pool_c0_1(e:Env)(x:Nat→SV)(node n thr o0 o1 o3 v saw set lf fQ:Int)(o2:Bool)(off nP nH nQ oQ:Nat)(G:List Int)(avail lease nd pn limit nx had bA extra e1 e2 e4:Int)(e3:Bool):follow [(0,false),(1,true),(0,true),(0,true),(2,true),(0,true),(1,true),(0,true),(0,false),(5,true)] ((R6 e x (e.objs (.slice 16 0 e.nL none) (.iface 136 (.ptr 10 0 0)) [dN e node n thr (.ptr 14 0 0) (aC) (.slice 11 off nP none) (.iface 173 (.ptr 15 0 0)) (o0) (o1) (o2) (o3),.spot 159 2 off [.func (.func 124) [] [.ptr 12 0 0,.ptr 13 0 0],.func (.func 126) [] [.ptr 12 0 0,.ptr 13 0 0]],.cells 136 1 [.ptr 10 0 0],.cells 3 1 [.int .i64 v],fM e (.any) (true) (saw) (set) (true) (0) (lf) (false) (0),.cells 193 13 [.int .i64 avail,.int .i64 lease,.int .i64 nd,.int .i64 pn,.int .i64 limit,.int .i64 nx,.int .i64 had,.int .i64 bA,.int .i64 extra,.int .i64 e1,.int .i64 e2,.bool e3,.int .i64 e4],.any 122 5 e.nL])).bind (cR [4] [0,1,2,4,5,6,7,10,12,13,14,15,16,18,74,71,72]))=
 some ([((nP:Int)==0,false),(decide ((0:Int)<(nP:Int)),true),(Nat.beq (aE off (Int.toNat 0)) off,true),(Nat.beq (aE off (Int.toNat 0)) off,true),(@decide (iN (aR.mk (avail) (lease) (nd) (pn) (limit) (nx) (had) (bA) (extra) (e1) (e2) (e3) (e4)) e.W∧e.nW=List.length e.W∧e.nL=e.nL∧e.nL+1≤1000000000) (Classical.propDecidable _),true),(decide (aR.nx (Prod.fst (aJ (aR.mk (avail) (lease) (nd) (pn) (limit) (nx) (had) (bA) (extra) (e1) (e2) (e3) (e4)) e.W))=7),true),(Nat.ble nP nP,true),(Nat.ble 1 nP,true),(aR.e1 (Prod.fst (aJ (aR.mk (avail) (lease) (nd) (pn) (limit) (nx) (had) (bA) (extra) (e1) (e2) (e3) (e4)) e.W))==0,false),(decide (0≤e.st∧e.st≤8∧e.np≤100∧0≤lf∧lf≤100),true)],(SX.ret,[],[.bool true],75,[e.sO (.slice 4 0 e.ne none),bI 2 e.nW e.c (.slice 18 0 (e.nL+1) none),.ints 3 1 (Prod.snd (aJ (aR.mk (avail) (lease) (nd) (pn) (limit) (nx) (had) (bA) (extra) (e1) (e2) (e3) (e4)) e.W)),.cells 42 10 e.E,e.tO (.iface 136 (.ptr 10 0 0)),.cells 49 1 [.ptr 0 0 0],.cells 3 1 [.int .i64 ↑e.tn],dN e node n thr (.ptr 14 0 0) (aC) (.slice 74 0 1 none) (.val Value.nilIface) ((aR.e1 (Prod.fst (aJ (aR.mk (avail) (lease) (nd) (pn) (limit) (nx) (had) (bA) (extra) (e1) (e2) (e3) (e4)) e.W)))) ((aR.e2 (Prod.fst (aJ (aR.mk (avail) (lease) (nd) (pn) (limit) (nx) (had) (bA) (extra) (e1) (e2) (e3) (e4)) e.W)))) ((aR.e3 (Prod.fst (aJ (aR.mk (avail) (lease) (nd) (pn) (limit) (nx) (had) (bA) (extra) (e1) (e2) (e3) (e4)) e.W)))) ((aR.e4 (Prod.fst (aJ (aR.mk (avail) (lease) (nd) (pn) (limit) (nx) (had) (bA) (extra) (e1) (e2) (e3) (e4)) e.W)))),.cells 136 1 [.ptr 10 0 0],.cells 3 1 [.int .i64 v],fM e (.any) (true) (saw) (set) (true) (0) (lf) (false) (0),aR.o (Prod.fst (aJ (aR.mk (avail) (lease) (nd) (pn) (limit) (nx) (had) (bA) (extra) (e1) (e2) (e3) (e4)) e.W)),.dead,.any 122 5 (e.nL+1),.cells 159 2 [.func (.func 157) [] [.ptr 71 0 0,.ptr 72 0 0],.func (.func 134) [] []],.cells 3 1 [.int .i64 (aB e.st (e.np:Int)+2*lf)],.cells 3 1 [.int .i64 (eD set 0)]])):=by kernel_rfl
theorem pool_c0_2(e:Env)(x:Nat→SV)(node n thr o0 o1 o3 v saw set lf fQ:Int)(o2:Bool)(off nP nH nQ oQ:Nat)(G:List Int)(avail lease nd pn limit nx had bA extra e1 e2 e4:Int)(e3:Bool):follow [(0,false),(1,true),(0,true),(0,true),(2,true),(0,false),(0,false)] ((R6 e x (e.objs (.slice 16 0 e.nL none) (.iface 136 (.ptr 10 0 0)) [dN e node n thr (.ptr 14 0 0) (aC) (.slice 11 off nP none) (.iface 173 (.ptr 15 0 0)) (o0) (o1) (o2) (o3),.spot 159 2 off [.func (.func 124) [] [.ptr 12 0 0,.ptr 13 0 0],.func (.func 126) [] [.ptr 12 0 0,.ptr 13 0 0]],.cells 136 1 [.ptr 10 0 0],.cells 3 1 [.int .i64 v],fM e (.any) (true) (saw) (set) (true) (0) (lf) (false) (0),.cells 193 13 [.int .i64 avail,.int .i64 lease,.int .i64 nd,.int .i64 pn,.int .i64 limit,.int .i64 nx,.int .i64 had,.int .i64 bA,.int .i64 extra,.int .i64 e1,.int .i64 e2,.bool e3,.int .i64 e4],.any 122 5 e.nL])).bind (cR [4] [0,1,2,4,5,6,7,10,12,13,14,15,16,18]))=
 some ([((nP:Int)==0,false),(decide ((0:Int)<(nP:Int)),true),(Nat.beq (aE off (Int.toNat 0)) off,true),(Nat.beq (aE off (Int.toNat 0)) off,true),(@decide (iN (aR.mk (avail) (lease) (nd) (pn) (limit) (nx) (had) (bA) (extra) (e1) (e2) (e3) (e4)) e.W∧e.nW=List.length e.W∧e.nL=e.nL∧e.nL+1≤1000000000) (Classical.propDecidable _),true),(decide (aR.nx (Prod.fst (aJ (aR.mk (avail) (lease) (nd) (pn) (limit) (nx) (had) (bA) (extra) (e1) (e2) (e3) (e4)) e.W))=7),false),((nP:Int)==0,false)],(SX.ret,[],[.bool true],54,[e.sO (.slice 4 0 e.ne none),bI 2 e.nW e.c (.slice 18 0 (e.nL+1) none),.ints 3 1 (Prod.snd (aJ (aR.mk (avail) (lease) (nd) (pn) (limit) (nx) (had) (bA) (extra) (e1) (e2) (e3) (e4)) e.W)),.cells 42 10 e.E,e.tO (.iface 136 (.ptr 10 0 0)),.cells 49 1 [.ptr 0 0 0],.cells 3 1 [.int .i64 ↑e.tn],dN e node n thr (.ptr 14 0 0) (aC) (.slice 11 off nP none) (.iface 173 (.ptr 15 0 0)) (o0) (o1) (o2) (o3),.cells 136 1 [.ptr 10 0 0],.cells 3 1 [.int .i64 v],fM e (.any) (true) (saw) (set) (true) (0) (lf) (false) (0),aR.o (Prod.fst (aJ (aR.mk (avail) (lease) (nd) (pn) (limit) (nx) (had) (bA) (extra) (e1) (e2) (e3) (e4)) e.W)),.dead,.any 122 5 (e.nL+1)])):=by kernel_rfl
theorem pool_c_0(e:Env)(x:Nat→SV)(node n thr o0 o1 o3 v saw set lf fQ:Int)(o2:Bool)(off nP nH nQ oQ:Nat)(G:List Int)(avail lease nd pn limit nx had bA extra e1 e2 e4:Int)(e3:Bool):follow [(0,false),(1,true),(0,true),(0,true),(2,true),(0,true),(1,true),(0,true),(0,true),(0,true),(3,true),(3,false)] ((R6 e x (e.objs (.slice 17 0 e.nL none) (.iface 136 (.ptr 10 0 0)) [dN e node n thr (.ptr 14 0 0) (.slice 15 0 nH none) (.slice 11 off nP none) (.iface 173 (.ptr 16 0 0)) (o0) (o1) (o2) (o3),.spot 159 2 off [.func (.func 124) [] [.ptr 12 0 0,.ptr 13 0 0],.func (.func 126) [] [.ptr 12 0 0,.ptr 13 0 0]],.cells 136 1 [.ptr 10 0 0],.cells 3 1 [.int .i64 v],fM e (.any) (true) (saw) (set) (true) (0) (lf) (false) (0),.ints 3 1 G,.cells 193 13 [.int .i64 avail,.int .i64 lease,.int .i64 nd,.int .i64 pn,.int .i64 limit,.int .i64 nx,.int .i64 had,.int .i64 bA,.int .i64 extra,.int .i64 e1,.int .i64 e2,.bool e3,.int .i64 e4],.any 122 5 e.nL])).bind (cR [4] [0,1,2,4,5,6,7,10,12,13,14,15,16,17,19,60]))=
 some ([((nP:Int)==0,false),(decide ((0:Int)<(nP:Int)),true),(Nat.beq (aE off (Int.toNat 0)) off,true),(Nat.beq (aE off (Int.toNat 0)) off,true),(@decide (iN (aR.mk (avail) (lease) (nd) (pn) (limit) (nx) (had) (bA) (extra) (e1) (e2) (e3) (e4)) e.W∧e.nW=List.length e.W∧e.nL=e.nL∧e.nL+1≤1000000000) (Classical.propDecidable _),true),(decide (aR.nx (Prod.fst (aJ (aR.mk (avail) (lease) (nd) (pn) (limit) (nx) (had) (bA) (extra) (e1) (e2) (e3) (e4)) e.W))=7),true),(Nat.ble nP nP,true),(Nat.ble 1 nP,true),(aR.e1 (Prod.fst (aJ (aR.mk (avail) (lease) (nd) (pn) (limit) (nx) (had) (bA) (extra) (e1) (e2) (e3) (e4)) e.W))==0,true),(Nat.ble (bG (aE 0 nH) 1) (List.length G),true),(Nat.ble (nH+1) 1000000000,true),(((nP-Int.toNat 1:Nat):Int)==0,false)],(SX.ret,[],[.bool true],61,[e.sO (.slice 4 0 e.ne none),bI 2 e.nW e.c (.slice 19 0 (e.nL+1) none),.ints 3 1 (Prod.snd (aJ (aR.mk (avail) (lease) (nd) (pn) (limit) (nx) (had) (bA) (extra) (e1) (e2) (e3) (e4)) e.W)),.cells 42 10 e.E,e.tO (.iface 136 (.ptr 10 0 0)),.cells 49 1 [.ptr 0 0 0],.cells 3 1 [.int .i64 ↑e.tn],dN e node n thr (.ptr 14 0 0) (.slice 60 0 (nH+1) none) (.slice 11 (aE off (Int.toNat 1)) (nP-Int.toNat 1) none) (.val Value.nilIface) (o0) (o1) (o2) (o3),.cells 136 1 [.ptr 10 0 0],.cells 3 1 [.int .i64 v],fM e (.any) (true) (saw) (set) (true) (0) (lf) (false) (0),.dead,aR.o (Prod.fst (aJ (aR.mk (avail) (lease) (nd) (pn) (limit) (nx) (had) (bA) (extra) (e1) (e2) (e3) (e4)) e.W)),.dead,.any 122 5 (e.nL+1),.ints 3 1 (List.take (bG nH 1) (mF (bG 0 1) G)++[v])])):=by kernel_rfl
theorem pool_c_1(e:Env)(x:Nat→SV)(node n thr o0 o1 o3 v saw set lf fQ:Int)(o2:Bool)(off nP nH nQ oQ:Nat)(G:List Int)(avail lease nd pn limit nx had bA extra e1 e2 e4:Int)(e3:Bool):follow [(0,false),(1,true),(0,true),(0,true),(2,true),(0,false),(0,false)] ((R6 e x (e.objs (.slice 17 0 e.nL none) (.iface 136 (.ptr 10 0 0)) [dN e node n thr (.ptr 14 0 0) (.slice 15 0 nH none) (.slice 11 off nP none) (.iface 173 (.ptr 16 0 0)) (o0) (o1) (o2) (o3),.spot 159 2 off [.func (.func 124) [] [.ptr 12 0 0,.ptr 13 0 0],.func (.func 126) [] [.ptr 12 0 0,.ptr 13 0 0]],.cells 136 1 [.ptr 10 0 0],.cells 3 1 [.int .i64 v],fM e (.any) (true) (saw) (set) (true) (0) (lf) (false) (0),.ints 3 1 G,.cells 193 13 [.int .i64 avail,.int .i64 lease,.int .i64 nd,.int .i64 pn,.int .i64 limit,.int .i64 nx,.int .i64 had,.int .i64 bA,.int .i64 extra,.int .i64 e1,.int .i64 e2,.bool e3,.int .i64 e4],.any 122 5 e.nL])).bind (cR [4] [0,1,2,4,5,6,7,10,12,13,14,15,16,17,19]))=
 some ([((nP:Int)==0,false),(decide ((0:Int)<(nP:Int)),true),(Nat.beq (aE off (Int.toNat 0)) off,true),(Nat.beq (aE off (Int.toNat 0)) off,true),(@decide (iN (aR.mk (avail) (lease) (nd) (pn) (limit) (nx) (had) (bA) (extra) (e1) (e2) (e3) (e4)) e.W∧e.nW=List.length e.W∧e.nL=e.nL∧e.nL+1≤1000000000) (Classical.propDecidable _),true),(decide (aR.nx (Prod.fst (aJ (aR.mk (avail) (lease) (nd) (pn) (limit) (nx) (had) (bA) (extra) (e1) (e2) (e3) (e4)) e.W))=7),false),((nP:Int)==0,false)],(SX.ret,[],[.bool true],55,[e.sO (.slice 4 0 e.ne none),bI 2 e.nW e.c (.slice 19 0 (e.nL+1) none),.ints 3 1 (Prod.snd (aJ (aR.mk (avail) (lease) (nd) (pn) (limit) (nx) (had) (bA) (extra) (e1) (e2) (e3) (e4)) e.W)),.cells 42 10 e.E,e.tO (.iface 136 (.ptr 10 0 0)),.cells 49 1 [.ptr 0 0 0],.cells 3 1 [.int .i64 ↑e.tn],dN e node n thr (.ptr 14 0 0) (.slice 15 0 nH none) (.slice 11 off nP none) (.iface 173 (.ptr 16 0 0)) (o0) (o1) (o2) (o3),.cells 136 1 [.ptr 10 0 0],.cells 3 1 [.int .i64 v],fM e (.any) (true) (saw) (set) (true) (0) (lf) (false) (0),.ints 3 1 G,aR.o (Prod.fst (aJ (aR.mk (avail) (lease) (nd) (pn) (limit) (nx) (had) (bA) (extra) (e1) (e2) (e3) (e4)) e.W)),.dead,.any 122 5 (e.nL+1)])):=by kernel_rfl
def rfR(j:Nat):List SV:=(List.range j).flatMap (fun i=>[.func (.func 153) [] [.ptr 57 0 0,.ptr (59+3*i) 0 0],.func (.func 134) [] []])++[.func (.func 157) [] [.ptr (72+3*j) 0 0,.ptr (73+3*j) 0 0],.func (.func 134) [] []]
def rfC(G:List Int)(j:Nat):kB:=(List.range j).map fun i=>(Nat.blt (j-1-i) G.length,true)
def lT(j:Nat)(e:Env)(x:Nat→SV)(node n thr o0 o1 o3 v saw set lf fQ:Int)(o2:Bool)(off nP nH nQ oQ:Nat)(G:List Int)(avail lease nd pn limit nx had bA extra e1 e2 e4:Int)(e3:Bool):Prop:=follow ([(0,false),(1,true),(0,true),(0,true),(2,true),(0,true),(1,true),(0,true),(0,false),(4,true)]++List.replicate j (12,true)) ((R6 e x (e.objs (.slice 17 0 e.nL none) (.iface 136 (.ptr 10 0 0)) [dN e node n thr (.ptr 14 0 0) (.slice 15 0 j none) (.slice 11 off nP none) (.iface 173 (.ptr 16 0 0)) (o0) (o1) (o2) (o3),.spot 159 2 off [.func (.func 124) [] [.ptr 12 0 0,.ptr 13 0 0],.func (.func 126) [] [.ptr 12 0 0,.ptr 13 0 0]],.cells 136 1 [.ptr 10 0 0],.cells 3 1 [.int .i64 v],fM e (.any) (true) (saw) (set) (true) (0) (lf) (false) (0),.ints 3 1 G,aR.o (aR.mk (avail) (lease) (nd) (pn) (limit) (nx) (had) (bA) (extra) (e1) (e2) (e3) (e4)),.any 122 5 e.nL])).bind (cR [4] ([0,1,2,4,5,6,7,10,12,13,14,15,16,17,19,75+3*j,57]++plsF 59 3 j++[72+3*j,73+3*j])))=
 some ([((nP:Int)==0,false),(decide ((0:Int)<(nP:Int)),true),(Nat.beq (aE off (Int.toNat 0)) off,true),(Nat.beq (aE off (Int.toNat 0)) off,true),(@decide (iN (aR.mk (avail) (lease) (nd) (pn) (limit) (nx) (had) (bA) (extra) (e1) (e2) (e3) (e4)) e.W∧e.nW=List.length e.W∧e.nL=e.nL∧e.nL+1≤1000000000) (Classical.propDecidable _),true),(decide (aR.nx (Prod.fst (aJ (aR.mk (avail) (lease) (nd) (pn) (limit) (nx) (had) (bA) (extra) (e1) (e2) (e3) (e4)) e.W))=7),true),(Nat.ble nP nP,true),(Nat.ble 1 nP,true),(aR.e1 (Prod.fst (aJ (aR.mk (avail) (lease) (nd) (pn) (limit) (nx) (had) (bA) (extra) (e1) (e2) (e3) (e4)) e.W))==0,false)]++rfC G j++[(decide (0≤e.st∧e.st≤8∧e.np≤100∧0≤lf∧lf≤100),true)],
 (SX.ret,[],[.bool true],76+3*j,[e.sO (.slice 4 0 e.ne none),bI 2 e.nW e.c (.slice 19 0 (e.nL+1) none),.ints 3 1 (Prod.snd (aJ (aR.mk (avail) (lease) (nd) (pn) (limit) (nx) (had) (bA) (extra) (e1) (e2) (e3) (e4)) e.W)),.cells 42 10 e.E,e.tO (.iface 136 (.ptr 10 0 0)),.cells 49 1 [.ptr 0 0 0],.cells 3 1 [.int .i64 ↑e.tn],dN e node n thr (.ptr 14 0 0) (.slice 15 0 j none) (.slice (75+3*j) 0 (j+1) none) (.val Value.nilIface) (aR.e1 (Prod.fst (aJ (aR.mk (avail) (lease) (nd) (pn) (limit) (nx) (had) (bA) (extra) (e1) (e2) (e3) (e4)) e.W))) (aR.e2 (Prod.fst (aJ (aR.mk (avail) (lease) (nd) (pn) (limit) (nx) (had) (bA) (extra) (e1) (e2) (e3) (e4)) e.W))) (aR.e3 (Prod.fst (aJ (aR.mk (avail) (lease) (nd) (pn) (limit) (nx) (had) (bA) (extra) (e1) (e2) (e3) (e4)) e.W))) (aR.e4 (Prod.fst (aJ (aR.mk (avail) (lease) (nd) (pn) (limit) (nx) (had) (bA) (extra) (e1) (e2) (e3) (e4)) e.W))),.cells 136 1 [.ptr 10 0 0],.cells 3 1 [.int .i64 v],fM e (.any) (true) (saw) (set) (true) (0) (lf) (false) (0),.ints 3 1 G,aR.o (Prod.fst (aJ (aR.mk (avail) (lease) (nd) (pn) (limit) (nx) (had) (bA) (extra) (e1) (e2) (e3) (e4)) e.W)),.dead,.any 122 5 (e.nL+1),.cells 159 2 (rfR j),.cells 136 1 [.ptr 10 0 0]]++(List.range j).map (fun i=>.cells 3 1 [.int .i64 (G.getD (j-1-i) 0)])++[.cells 3 1 [.int .i64 (aB e.st (e.np:Int)+2*lf)],.cells 3 1 [.int .i64 (eD set 0)]]))
theorem ref_1(e:Env)(x:Nat→SV)(node n thr o0 o1 o3 v saw set lf fQ:Int)(o2:Bool)(off nP nH nQ oQ:Nat)(G:List Int)(avail lease nd pn limit nx had bA extra e1 e2 e4:Int)(e3:Bool):lT 1 e x node n thr o0 o1 o3 v saw set lf fQ o2 off nP nH nQ oQ G avail lease nd pn limit nx had bA extra e1 e2 e4 e3:=by unfold lT;kernel_rfl
theorem ref_2(e:Env)(x:Nat→SV)(node n thr o0 o1 o3 v saw set lf fQ:Int)(o2:Bool)(off nP nH nQ oQ:Nat)(G:List Int)(avail lease nd pn limit nx had bA extra e1 e2 e4:Int)(e3:Bool):lT 2 e x node n thr o0 o1 o3 v saw set lf fQ o2 off nP nH nQ oQ G avail lease nd pn limit nx had bA extra e1 e2 e4 e3:=by unfold lT;kernel_rfl
theorem ref_3(e:Env)(x:Nat→SV)(node n thr o0 o1 o3 v saw set lf fQ:Int)(o2:Bool)(off nP nH nQ oQ:Nat)(G:List Int)(avail lease nd pn limit nx had bA extra e1 e2 e4:Int)(e3:Bool):lT 3 e x node n thr o0 o1 o3 v saw set lf fQ o2 off nP nH nQ oQ G avail lease nd pn limit nx had bA extra e1 e2 e4 e3:=by unfold lT;kernel_rfl
theorem ref_4(e:Env)(x:Nat→SV)(node n thr o0 o1 o3 v saw set lf fQ:Int)(o2:Bool)(off nP nH nQ oQ:Nat)(G:List Int)(avail lease nd pn limit nx had bA extra e1 e2 e4:Int)(e3:Bool):lT 4 e x node n thr o0 o1 o3 v saw set lf fQ o2 off nP nH nQ oQ G avail lease nd pn limit nx had bA extra e1 e2 e4 e3:=by unfold lT;kernel_rfl
theorem ref_5(e:Env)(x:Nat→SV)(node n thr o0 o1 o3 v saw set lf fQ:Int)(o2:Bool)(off nP nH nQ oQ:Nat)(G:List Int)(avail lease nd pn limit nx had bA extra e1 e2 e4:Int)(e3:Bool):lT 5 e x node n thr o0 o1 o3 v saw set lf fQ o2 off nP nH nQ oQ G avail lease nd pn limit nx had bA extra e1 e2 e4 e3:=by unfold lT;kernel_rfl
theorem ref_6(e:Env)(x:Nat→SV)(node n thr o0 o1 o3 v saw set lf fQ:Int)(o2:Bool)(off nP nH nQ oQ:Nat)(G:List Int)(avail lease nd pn limit nx had bA extra e1 e2 e4:Int)(e3:Bool):lT 6 e x node n thr o0 o1 o3 v saw set lf fQ o2 off nP nH nQ oQ G avail lease nd pn limit nx had bA extra e1 e2 e4 e3:=by unfold lT;kernel_rfl
theorem ref_7(e:Env)(x:Nat→SV)(node n thr o0 o1 o3 v saw set lf fQ:Int)(o2:Bool)(off nP nH nQ oQ:Nat)(G:List Int)(avail lease nd pn limit nx had bA extra e1 e2 e4:Int)(e3:Bool):lT 7 e x node n thr o0 o1 o3 v saw set lf fQ o2 off nP nH nQ oQ G avail lease nd pn limit nx had bA extra e1 e2 e4 e3:=by unfold lT;kernel_rfl
theorem ref_8(e:Env)(x:Nat→SV)(node n thr o0 o1 o3 v saw set lf fQ:Int)(o2:Bool)(off nP nH nQ oQ:Nat)(G:List Int)(avail lease nd pn limit nx had bA extra e1 e2 e4:Int)(e3:Bool):lT 8 e x node n thr o0 o1 o3 v saw set lf fQ o2 off nP nH nQ oQ G avail lease nd pn limit nx had bA extra e1 e2 e4 e3:=by unfold lT;kernel_rfl
theorem ref_9(e:Env)(x:Nat→SV)(node n thr o0 o1 o3 v saw set lf fQ:Int)(o2:Bool)(off nP nH nQ oQ:Nat)(G:List Int)(avail lease nd pn limit nx had bA extra e1 e2 e4:Int)(e3:Bool):lT 9 e x node n thr o0 o1 o3 v saw set lf fQ o2 off nP nH nQ oQ G avail lease nd pn limit nx had bA extra e1 e2 e4 e3:=by unfold lT;kernel_rfl
theorem ref_10(e:Env)(x:Nat→SV)(node n thr o0 o1 o3 v saw set lf fQ:Int)(o2:Bool)(off nP nH nQ oQ:Nat)(G:List Int)(avail lease nd pn limit nx had bA extra e1 e2 e4:Int)(e3:Bool):lT 10 e x node n thr o0 o1 o3 v saw set lf fQ o2 off nP nH nQ oQ G avail lease nd pn limit nx had bA extra e1 e2 e4 e3:=by unfold lT;kernel_rfl
theorem ref_11(e:Env)(x:Nat→SV)(node n thr o0 o1 o3 v saw set lf fQ:Int)(o2:Bool)(off nP nH nQ oQ:Nat)(G:List Int)(avail lease nd pn limit nx had bA extra e1 e2 e4:Int)(e3:Bool):lT 11 e x node n thr o0 o1 o3 v saw set lf fQ o2 off nP nH nQ oQ G avail lease nd pn limit nx had bA extra e1 e2 e4 e3:=by unfold lT;kernel_rfl
theorem ref_all(e:Env)(x:Nat→SV)(node n thr o0 o1 o3 v saw set lf fQ:Int)(o2:Bool)(off nP nH nQ oQ:Nat)(G:List Int)(avail lease nd pn limit nx had bA extra e1 e2 e4:Int)(e3:Bool):∀{j:Nat},1≤j→j≤11→lT j e x node n thr o0 o1 o3 v saw set lf fQ o2 off nP nH nQ oQ G avail lease nd pn limit nx had bA extra e1 e2 e4 e3
 |1,_,_=>ref_1 e x node n thr o0 o1 o3 v saw set lf fQ o2 off nP nH nQ oQ G avail lease nd pn limit nx had bA extra e1 e2 e4 e3
 |2,_,_=>ref_2 e x node n thr o0 o1 o3 v saw set lf fQ o2 off nP nH nQ oQ G avail lease nd pn limit nx had bA extra e1 e2 e4 e3
 |3,_,_=>ref_3 e x node n thr o0 o1 o3 v saw set lf fQ o2 off nP nH nQ oQ G avail lease nd pn limit nx had bA extra e1 e2 e4 e3
 |4,_,_=>ref_4 e x node n thr o0 o1 o3 v saw set lf fQ o2 off nP nH nQ oQ G avail lease nd pn limit nx had bA extra e1 e2 e4 e3
 |5,_,_=>ref_5 e x node n thr o0 o1 o3 v saw set lf fQ o2 off nP nH nQ oQ G avail lease nd pn limit nx had bA extra e1 e2 e4 e3
 |6,_,_=>ref_6 e x node n thr o0 o1 o3 v saw set lf fQ o2 off nP nH nQ oQ G avail lease nd pn limit nx had bA extra e1 e2 e4 e3
 |7,_,_=>ref_7 e x node n thr o0 o1 o3 v saw set lf fQ o2 off nP nH nQ oQ G avail lease nd pn limit nx had bA extra e1 e2 e4 e3
 |8,_,_=>ref_8 e x node n thr o0 o1 o3 v saw set lf fQ o2 off nP nH nQ oQ G avail lease nd pn limit nx had bA extra e1 e2 e4 e3
 |9,_,_=>ref_9 e x node n thr o0 o1 o3 v saw set lf fQ o2 off nP nH nQ oQ G avail lease nd pn limit nx had bA extra e1 e2 e4 e3
 |10,_,_=>ref_10 e x node n thr o0 o1 o3 v saw set lf fQ o2 off nP nH nQ oQ G avail lease nd pn limit nx had bA extra e1 e2 e4 e3
 |11,_,_=>ref_11 e x node n thr o0 o1 o3 v saw set lf fQ o2 off nP nH nQ oQ G avail lease nd pn limit nx had bA extra e1 e2 e4 e3
 |0,h,_=>absurd h (by omega)
 |j+12,_,h=>absurd h (by omega)
end Go.Proofs.YtnkcbfgfkadoaaaGreat.Sx
namespace Go.Proofs.YtnkcbfgfkadoaaaGreat.Sx
open Go
set_option maxRecDepth 10000
mutual
def SV.pls(q:Nat→Bool):SV→Bool
 |.ptr l _ _=>q l
 |.slice l _ _ _=>q l
 |.map l=>q l
 |.func _ f c=>SV.plss q f&&SV.plss q c
 |.iface _ v=>SV.pls q v
 |.agg l=>SV.plss q l
 |.tup l=>SV.plss q l
 |.yield l=>q l
 |_=>true
def SV.plss(q:Nat→Bool):List SV→Bool
 |[]=>true
 |x::xs=>SV.pls q x&&SV.plss q xs
end
def SO.pls(q:Nat→Bool):SO→Bool
 |.cells _ _ l=>SV.plss q l
 |.spot _ _ _ l=>SV.plss q l
 |.map _=>false
 |.loop _ _ _ _ _ _ _=>false
 |_=>true
section
variable{q:Nat→Bool}{f g:Nat→Nat}(hfg:∀l,q l=true→f l=g l)
include hfg
mutual
theorem SV.ren_congr:∀(v:SV),v.pls q=true→v.ren f=v.ren g
 |.val _,_=>rfl
 |.bool _,_=>rfl
 |.int _ _,_=>rfl
 |.ptr l _ _,h=>by simp only[SV.ren,hfg l h]
 |.slice l _ _ _,h=>by simp only[SV.ren,hfg l h]
 |.map l,h=>by simp only[SV.ren,hfg l h]
 |.func _ a b,h=>by
  simp only[SV.pls,Bool.and_eq_true]at h;simp only[SV.ren,SV.rens_congr a h.1,SV.rens_congr b h.2]
 |.iface _ v,h=>by simp only[SV.ren,SV.ren_congr v h]
 |.agg l,h=>by simp only[SV.ren,SV.rens_congr l h]
 |.tup l,h=>by simp only[SV.ren,SV.rens_congr l h]
 |.yield l,h=>by simp only[SV.ren,hfg l h]
 |.any,_=>rfl
theorem SV.rens_congr:∀(l:List SV),SV.plss q l=true→SV.rens f l=SV.rens g l
 |[],_=>rfl
 |x::xs,h=>by
  simp only[SV.plss,Bool.and_eq_true]at h;simp only[SV.rens,SV.ren_congr x h.1,SV.rens_congr xs h.2]
end
theorem SO.ren_congr{o:SO}(h:o.pls q=true):o.ren f=o.ren g:=by
 cases o<;>first
  |rfl
  |(simp only[SO.ren];rw[SV.rens_congr hfg _ h])
  |cases h
end
mutual
theorem SV.ren_ren(f g:Nat→Nat):∀(v:SV),(v.ren f).ren g=v.ren fun l=>g (f l)
 |.val _=>rfl
 |.bool _=>rfl
 |.int _ _=>rfl
 |.ptr l _ _=>rfl
 |.slice l _ _ _=>rfl
 |.map l=>rfl
 |.func _ a b=>by simp only[SV.ren,SV.rens_rens f g a,SV.rens_rens f g b]
 |.iface _ v=>by simp only[SV.ren,SV.ren_ren f g v]
 |.agg l=>by simp only[SV.ren,SV.rens_rens f g l]
 |.tup l=>by simp only[SV.ren,SV.rens_rens f g l]
 |.yield l=>rfl
 |.any=>rfl
theorem SV.rens_rens(f g:Nat→Nat):∀(l:List SV),SV.rens g (SV.rens f l)=SV.rens (fun l=>g (f l)) l
 |[]=>rfl
 |x::xs=>by simp only[SV.rens,SV.ren_ren f g x,SV.rens_rens f g xs]
end
theorem SO.ren_ren{f g:Nat→Nat}{q:Nat→Bool}{o:SO}(h:o.pls q=true):(o.ren f).ren g=o.ren fun l=>g (f l):=by
 cases o<;>first
  |rfl
  |(simp only[SO.ren,SV.rens_rens];done)
  |cases h
abbrev mB:=List (Nat×SO)
def rF(cs:List Nat)(nr:List (Nat×Nat))(p:Nat):Nat:=match Nat.blt p 10 with
 |true=>p
 |false=>match cs[p-10]?with
  |some c=>c
  |none=>match nr.find? fun x=>Nat.beq x.1 p with
   |some x=>x.2
   |none=>0
def rv(P:Nat)(ν:Nat→Nat)(c:Nat):Nat:=match Nat.beq c 8 with
 |true=>P
 |false=>ν c
def oM(c:Nat):Bool:=Nat.beq c 8||(Nat.ble 10 c&&Nat.blt c 990)
structure jJ(h:H)(own:Nat→Nat)(i P:Nat)(ν:Nat→Nat)(ob:mB):Prop where
 at_:∀x∈ob,At h own (ν x.1) (tg i x.1) (x.2.ren (rv P ν))
 rng:∀x∈ob,10≤x.1∧x.1<990
 pl:∀x∈ob,x.2.pls oM=true
theorem jJ.mono{h:H}{own:Nat→Nat}{i P:Nat}{ν:Nat→Nat}{ob ob':mB}(m:jJ h own i P ν ob)(hs:∀x∈ob',x∈ob):jJ h own i P ν ob':=
 ⟨fun x hx=>m.at_ x (hs x hx),fun x hx=>m.rng x (hs x hx),fun x hx=>m.pl x (hs x hx)⟩
def TOk(ob:mB)(pr:Nat→Nat):List Nat→List SO→Prop
 |c::cs,o::os=>(match o with
  |.spot t s k sm=>∃l,(c,SO.cells t s l)∈ob∧(k+1)*s≤l.length∧sm.length≤s∧∀i v,sm[i]?=some v→l[k*s+i]?=some (v.ren pr)
  |o=>(c,o.ren pr)∈ob∧o.plain=true)∧TOk ob pr cs os
 |[],[]=>True
 |_,_=>False
def rS:SO→Bool
 |.spot _ _ _ _=>true
 |_=>false
theorem TOk.at_{ob:mB}{pr:Nat→Nat}:∀{cs:List Nat} {os:List SO},TOk ob pr cs os→cs.length=os.length∧∀(j c:Nat) (o:SO),cs[j]?=some c→os[j]?=some o→
 (rS o=true∧∃t s k sm l,o=.spot t s k sm∧(c,SO.cells t s l)∈ob∧(k+1)*s≤l.length∧sm.length≤s∧∀i v,sm[i]?=some v→l[k*s+i]?=some (v.ren pr))∨(rS o=false∧(c,o.ren pr)∈ob∧o.plain=true)
 |[],[],_=>⟨rfl,fun j c o h=>by simp at h⟩
 |c::cs,o::os,h=>by
  obtain⟨h1,h2⟩:=h;obtain⟨g1,g2⟩:=TOk.at_ h2;refine⟨by simp[g1],fun j c' o' hc ho=>?_⟩;cases j with
  |zero=>
   simp at hc ho;subst hc;subst ho;cases o with
   |spot t s k sm=>obtain⟨l,a⟩:=h1;exact .inl ⟨rfl,t,s,k,sm,l,rfl,a⟩
   |_=>exact .inr ⟨rfl,h1⟩
  |succ j=>exact g2 j c' o' (by simpa using hc) (by simpa using ho)
 |[],_::_,h=>h.elim
 |_::_,[],h=>h.elim
theorem vX:∀(T:List SO) (i:Nat),∀x∈dD i T,i≤x
 |[],_,x,h=>by cases h
 |o::T,i,x,h=>by
  have ih:=vX T (i+1);unfold dD at h;split at h
  ·rcases List.mem_cons.1 h with e|h
   ·omega
   ·have:=ih x h;omega
  ·have:=ih x h;omega
theorem sP:∀(T:List SO) (i j:Nat) (o:SO),T[j]?=some o→(dD i T).contains (i+j)=rS o
 |[],_,_,_,h=>by simp at h
 |o'::T,i,j,o,h=>by
  have wQ:=vX T (i+1);have nc:(dD (i+1) T).contains i=false:=by
   cases hx:(dD (i+1) T).contains i
   ·rfl
   ·have:=wQ i (by simpa using hx);omega
  cases j with
  |zero=>
   simp at h;subst h;unfold dD;cases o'<;>simp[rS]<;>intro hx<;>have:=wQ i hx<;>omega
  |succ j=>
   have ih:=sP T (i+1) j o (by simpa using h);rw[show i+1+j=i+(j+1) by omega]at ih;unfold dD;split
   ·rw[List.contains_cons,ih]
    have:(i+(j+1)==i)=false:=by simp
    rw[this];rfl
   ·exact ih
theorem pB.of{h:H}{r:Nat→Nat}{R:List Nat}:∀{ns:List Nat} {os:List SO} {i:Nat},ns.length=os.length→(∀j n o,ns[j]?=some n→os[j]?=some o→n<h.n∧jI h r R (i+j) n o)→pB h r R i ns os
 |[],[],_,_,_=>trivial
 |n::ns,o::os,i,hl,hh=>by
  obtain⟨a,b⟩:=hh 0 n o rfl rfl;refine⟨a,b,pB.of (by simpa using hl) fun j n' o' h1 h2=>?_⟩;have:=hh (j+1) n' o' (by simpa using h1) (by simpa using h2)
  rwa [show i+1+j=i+(j+1) by omega]
 |[],_::_,_,hl,_=>by simp at hl
 |_::_,[],_,hl,_=>by simp at hl
def lgP(k:Nat):Nat→SV
 |0=>aC
 |n+1=>.slice k 0 (n+1) none
def gT:Nat→List SO
 |0=>[]
 |n+1=>[.any 122 5 (n+1)]
def lnP(nl:Nat):Nat→List Nat
 |0=>[]
 |_+1=>[nl]
theorem spotIx_app(T:List SO):∀(i nL:Nat),dD i (T++gT nL)=dD i T:=by
 induction T with
 |nil=>intro i nL;cases nL<;>rfl
 |cons o T ih=>
  intro i nL;show dD i (o::(T++gT nL))=_;unfold dD;split<;>rw[ih]
theorem tP:∀(ns:List Nat) (os:List SO),(aQ ns os).Sublist ns
 |[],_=>by unfold aQ;exact List.Sublist.refl _
 |_::_,[]=>by unfold aQ;exact List.nil_sublist _
 |n::ns,o::os=>by
  unfold aQ;split
  ·exact(tP ns os).cons_cons _
  ·exact(tP ns os).cons _
end Go.Proofs.YtnkcbfgfkadoaaaGreat.Sx
