/- Part 42 of the proof of TopPeek. -/
import Derived.Test.YtnkcbfgfkadoaaaGreatX41
set_option linter.all false
namespace Go.Proofs.YtnkcbfgfkadoaaaGreat.Sx
open Go
set_option maxRecDepth 100000
noncomputable abbrev jK:Option Code:=some (bR 6)
noncomputable abbrev snI:Option Code:=qV (aA 4 jK)
noncomputable abbrev wG:Option Code:=lpB (aA 1 snI)
noncomputable abbrev fR:Option Code:=bkB (aA 1 wG)
theorem sn0:∀x:Nat→SV,follow [] ((bB Tryz.prog (runK Tryz.prog S0 20) false (dX jK) 1 3 0 (aA 1 jK) (cJ 90 [] x) (aT [] [])).bind (cM [] [1] [] []))=some ([],(90,.normal,[],[],[1].map x,0,[])):=by intro x;kernel_rfl
theorem sn1:∀x:Nat→SV,follow [] ((bB Tryz.prog (runK Tryz.prog S0 20) false (dX (aA 1 jK)) 0 1 0 (aA 2 jK) (cJ 90 [(1,.ptr 0 0 0)] x) (aT [.dead] [0])).bind (cM [1,13] [] [] []))=some ([],(90,.normal,[],[.ptr 0 0 0,.ptr 0 0 0],[].map x,1,[])):=by intro x;kernel_rfl
theorem sn2:∀x:Nat→SV,follow [] ((bB Tryz.prog (runK Tryz.prog S0 20) false (dX (aA 1 jK)) 2 1 0 (aA 2 jK) (cJ 90 [(1,.ptr 0 0 0)] x) (aT [.dead] [0])).bind (cM [1,15] [14] [] []))=some ([],(90,.normal,[],[.ptr 0 0 0,.ptr 0 0 8],[14].map x,1,[])):=by intro x;kernel_rfl
theorem sn3:∀x:Nat→SV,follow [] ((bB Tryz.prog (runK Tryz.prog S0 20) false #[] 0 0 1 (aA 3 jK) (cJ 90 [] x) (aT [] [])).bind (cM [7] [1,5,6] [] []))=some ([],(90,.normal,[],[aC],[1,5,6].map x,0,[])):=by intro x;kernel_rfl
theorem sn4:∀x:Nat→SV,follow [] ((bB Tryz.prog (runK Tryz.prog S0 20) false #[] 0 0 1 snI (cJ 90 [] x) (aT [] [])).bind (cM [8] [1,5,6,7] [] []))=some ([],(90,.normal,[],[.int .i64 0],[1,5,6,7].map x,0,[])):=by intro x;kernel_rfl
theorem snr_0(nk i:Nat):∀x:Nat→SV,follow [(0,true)] ((bB Tryz.prog (runK Tryz.prog S0 20) false #[] 0 0 1 wG (cJ 90 [(6,.slice 0 0 nk none),(8,.int .i64 i)] x) (aT [.dead] [0])).bind (cM [6,8] [1,5,7] [] []))=some ([(decide ((i:Int)<nk),true)],(90,.normal,[],[.slice 0 0 nk none,.int .i64 i],[1,5,7].map x,1,[])):=by intro x;kernel_rfl
theorem snr_1(nk i:Nat):∀x:Nat→SV,follow [(0,false)] ((bB Tryz.prog (runK Tryz.prog S0 20) false #[] 0 0 1 wG (cJ 90 [(6,.slice 0 0 nk none),(8,.int .i64 i)] x) (aT [.dead] [0])).bind (cM [] [1,5,7] [] []))=some ([(decide ((i:Int)<nk),false)],(90,(.exit 0),[],[],[1,5,7].map x,1,[])):=by intro x;kernel_rfl
theorem snr_2:∀x:Nat→SV,follow [] ((bB Tryz.prog (runK Tryz.prog S0 20) false #[] 0 0 1 wG (cJ 90 [(6,aC),(8,.int .i64 0)] x) (aT [] [])).bind (cM [] [1,5,7] [] []))=some ([],(90,(.exit 0),[],[],[1,5,7].map x,0,[])):=by intro x;kernel_rfl
theorem snp(nk i:Nat)(v:Int):∀x:Nat→SV,follow [(0,true),(0,true),(0,true)] ((bB Tryz.prog (runK Tryz.prog S0 20) false (dX fR) 0 5 0 (aA 1 fR) (cJ 90 [(5,.ptr 0 0 0),(6,.slice 1 0 nk none),(8,.int .i64 i)] x) (aT [.dead,.spot 3 1 i [.int .i64 v]] [0,1])).bind (cM [5,6,8,26,30] [1,7] [] []))=some ([(decide ((0:Int)≤i),true),(decide ((i:Int)<nk),true),(Nat.beq (aE 0 (Int.toNat i)) i,true)],(90,.normal,[],[.ptr 0 0 0,.slice 1 0 nk none,.int .i64 i,.ptr 0 0 0,.int .i64 v],[1,7].map x,2,[])):=by intro x;kernel_rfl
theorem sna_e(th st ga le re ti:Int)(np nW nE:Nat)(cp cW cE:Option Nat)(lv:Value)(W:List Int)(E:List SV):∀x:Nat→SV,follow [(2,true),(2,true),(4,true),(0,false),(2,true),(2,true)] ((bB Tryz.prog (runK Tryz.prog K8 20) false #[] 0 0 4 (aA 1 fR) (cJ 90 [(1,.ptr 4 0 0),(5,.ptr 0 0 0)] x) (aT [.cells 68 11 [.any,.any,.any,.any,.any,.any,.any,.any,.ptr 1 0 0,.any,.slice 3 0 nE cE],.cells 107 2 [.slice 2 0 nW cW,.any],.ints 3 1 W,.cells 42 10 E,.cells 28 10 [.int .i64 th,.int .i64 st,.int .i64 ga,.int .i64 le,.int .i64 re,.int .i64 ti,.slice 5 0 np cp,.val lv,.any,.any],.dead] [0,1,2,3,4,5])).bind (cM [1,5,9,10] [6,7,8] [7,16] [1,0]))=some ([(Nat.ble (bG (aE 0 nW) 1) (List.length W),true),(Nat.ble (0+nW) 1000000000,true),(decide (0≤st∧st≤8∧np≤100∧0≤ti∧ti≤100),true),(((0+nW:Nat):Int)!=aB st np+2*ti,false),(Nat.ble (bG (aE 0 nE) 10) (List.length E),true),(Nat.ble (0+nE) 1000000000,true)],(90,.normal,[],[.ptr 4 0 0,.ptr 0 0 0,.slice 7 0 (0+nW) none,.ptr 16 0 0],[6,7,8].map x,19,[.ints 3 1 (List.take (bG nW 1) (mF (bG 0 1) W)),.cells 46 3 [.int .i64 ((0+nE:Nat):Int),aC,aC]])):=by intro x;kernel_rfl
theorem sna_n(th st ga le re ti:Int)(np nW nE:Nat)(cp cW cE:Option Nat)(lv:Value)(W:List Int)(E:List SV):∀x:Nat→SV,follow [(2,true),(2,true),(4,true),(0,false)] ((bB Tryz.prog (runK Tryz.prog K8 20) false #[] 0 0 4 (aA 1 fR) (cJ 90 [(1,.ptr 4 0 0),(5,.ptr 0 0 0)] x) (aT [.cells 68 11 [.any,.any,.any,.any,.any,.any,.any,.any,.ptr 1 0 0,.any,aC],.cells 107 2 [.slice 2 0 nW cW,.any],.ints 3 1 W,.dead,.cells 28 10 [.int .i64 th,.int .i64 st,.int .i64 ga,.int .i64 le,.int .i64 re,.int .i64 ti,.slice 5 0 np cp,.val lv,.any,.any],.dead] [0,1,2,3,4,5])).bind (cM [1,5,9,10] [6,7,8] [7,16] [1,0]))=some ([(Nat.ble (bG (aE 0 nW) 1) (List.length W),true),(Nat.ble (0+nW) 1000000000,true),(decide (0≤st∧st≤8∧np≤100∧0≤ti∧ti≤100),true),(((0+nW:Nat):Int)!=aB st np+2*ti,false)],(90,.normal,[],[.ptr 4 0 0,.ptr 0 0 0,.slice 7 0 (0+nW) none,.ptr 16 0 0],[6,7,8].map x,17,[.ints 3 1 (List.take (bG nW 1) (mF (bG 0 1) W)),.cells 46 3 [.int .i64 0,aC,aC]])):=by intro x;kernel_rfl
def snA(st:Int)(v:Nat):Int:=aB st v+2+st
def snC1(st:Int)(nW:Nat)(W:List Int)(v:Nat):kB:=[(decide (0≤st∧st≤8∧(0:Int)≤v∧(v:Int)≤100),true),(decide (0≤snA st v∧snA st v≤100000∧nW≤List.length W∧snA st v+4+st≤(nW:Int)∧(st=1∨st=2∨st=4∨st=8)),true),(fits (snA st v+1),true),(decide (0≤snA st v+1),true),(decide (snA st v+1<(nW:Int)),true),(Nat.blt (rD (snA st v+1)) (List.length W),true),(fits (snA st v+2),true),(decide (0≤snA st v+2),true),(decide (snA st v+2<(nW:Int)),true),(Nat.blt (rD (snA st v+2)) (List.length W),true)]
def snC(st:Int)(nW:Nat)(W:List Int):Nat→kB
 |0=>[]
 |v+1=>snC st nW W v++snC1 st nW W v
def oE:Nat→Way
 |0=>[]
 |1=>(2,true)::(1,true)::(8,true)::List.replicate 7 (0,true)
 |k+1=>oE k++(11,true)::(1,true)::(8,true)::List.replicate 7 (0,true)
def pQ(st:Int)(W:List Int)(k:Nat):List Int:=(List.range k).map fun v=>uY W (snA st v) st.toNat
theorem snb_1(th st ga le re ti:Int)(nW:Nat)(cp:Option Nat)(lv:Value)(W:List Int)(ne:Int):∀x:Nat→SV,follow (oE 1) ((bB Tryz.prog (runK Tryz.prog K8 20) false #[] 0 0 1 (aA 5 fR) (cJ 90 [(1,.ptr 0 0 0),(9,.slice 2 0 nW none),(10,.ptr 3 0 0)] x) (aT [.cells 28 10 [.int .i64 th,.int .i64 st,.int .i64 ga,.int .i64 le,.int .i64 re,.int .i64 ti,.slice 1 0 1 cp,.val lv,.any,.any],.dead,.ints 3 1 W,.cells 46 3 [.int .i64 ne,aC,aC]] [0,1,2])).bind (cM [1,10] [5,6,7,8] [3,53] []))=some ((snC st nW W 1),(90,.normal,[],[.ptr 0 0 0,.ptr 3 0 0],[5,6,7,8].map x,56,[.cells 46 3 [.int .i64 ne,.slice 53 0 1 none,.slice 55 0 1 none],.cells 3 1 ((pQ st W 1).map (SV.int .i64))])):=by intro x;kernel_rfl
theorem snb_2(th st ga le re ti:Int)(nW:Nat)(cp:Option Nat)(lv:Value)(W:List Int)(ne:Int):∀x:Nat→SV,follow (oE 2) ((bB Tryz.prog (runK Tryz.prog K8 20) false #[] 0 0 1 (aA 5 fR) (cJ 90 [(1,.ptr 0 0 0),(9,.slice 2 0 nW none),(10,.ptr 3 0 0)] x) (aT [.cells 28 10 [.int .i64 th,.int .i64 st,.int .i64 ga,.int .i64 le,.int .i64 re,.int .i64 ti,.slice 1 0 2 cp,.val lv,.any,.any],.dead,.ints 3 1 W,.cells 46 3 [.int .i64 ne,aC,aC]] [0,1,2])).bind (cM [1,10] [5,6,7,8] [3,105] []))=some ((snC st nW W 2),(90,.normal,[],[.ptr 0 0 0,.ptr 3 0 0],[5,6,7,8].map x,108,[.cells 46 3 [.int .i64 ne,.slice 105 0 2 none,.slice 107 0 2 none],.cells 3 1 ((pQ st W 2).map (SV.int .i64))])):=by intro x;kernel_rfl
theorem snb_3(th st ga le re ti:Int)(nW:Nat)(cp:Option Nat)(lv:Value)(W:List Int)(ne:Int):∀x:Nat→SV,follow (oE 3) ((bB Tryz.prog (runK Tryz.prog K8 20) false #[] 0 0 1 (aA 5 fR) (cJ 90 [(1,.ptr 0 0 0),(9,.slice 2 0 nW none),(10,.ptr 3 0 0)] x) (aT [.cells 28 10 [.int .i64 th,.int .i64 st,.int .i64 ga,.int .i64 le,.int .i64 re,.int .i64 ti,.slice 1 0 3 cp,.val lv,.any,.any],.dead,.ints 3 1 W,.cells 46 3 [.int .i64 ne,aC,aC]] [0,1,2])).bind (cM [1,10] [5,6,7,8] [3,157] []))=some ((snC st nW W 3),(90,.normal,[],[.ptr 0 0 0,.ptr 3 0 0],[5,6,7,8].map x,160,[.cells 46 3 [.int .i64 ne,.slice 157 0 3 none,.slice 159 0 3 none],.cells 3 1 ((pQ st W 3).map (SV.int .i64))])):=by intro x;kernel_rfl
theorem snb_4(th st ga le re ti:Int)(nW:Nat)(cp:Option Nat)(lv:Value)(W:List Int)(ne:Int):∀x:Nat→SV,follow (oE 4) ((bB Tryz.prog (runK Tryz.prog K8 20) false #[] 0 0 1 (aA 5 fR) (cJ 90 [(1,.ptr 0 0 0),(9,.slice 2 0 nW none),(10,.ptr 3 0 0)] x) (aT [.cells 28 10 [.int .i64 th,.int .i64 st,.int .i64 ga,.int .i64 le,.int .i64 re,.int .i64 ti,.slice 1 0 4 cp,.val lv,.any,.any],.dead,.ints 3 1 W,.cells 46 3 [.int .i64 ne,aC,aC]] [0,1,2])).bind (cM [1,10] [5,6,7,8] [3,209] []))=some ((snC st nW W 4),(90,.normal,[],[.ptr 0 0 0,.ptr 3 0 0],[5,6,7,8].map x,212,[.cells 46 3 [.int .i64 ne,.slice 209 0 4 none,.slice 211 0 4 none],.cells 3 1 ((pQ st W 4).map (SV.int .i64))])):=by intro x;kernel_rfl
theorem snb_5(th st ga le re ti:Int)(nW:Nat)(cp:Option Nat)(lv:Value)(W:List Int)(ne:Int):∀x:Nat→SV,follow (oE 5) ((bB Tryz.prog (runK Tryz.prog K8 20) false #[] 0 0 1 (aA 5 fR) (cJ 90 [(1,.ptr 0 0 0),(9,.slice 2 0 nW none),(10,.ptr 3 0 0)] x) (aT [.cells 28 10 [.int .i64 th,.int .i64 st,.int .i64 ga,.int .i64 le,.int .i64 re,.int .i64 ti,.slice 1 0 5 cp,.val lv,.any,.any],.dead,.ints 3 1 W,.cells 46 3 [.int .i64 ne,aC,aC]] [0,1,2])).bind (cM [1,10] [5,6,7,8] [3,261] []))=some ((snC st nW W 5),(90,.normal,[],[.ptr 0 0 0,.ptr 3 0 0],[5,6,7,8].map x,264,[.cells 46 3 [.int .i64 ne,.slice 261 0 5 none,.slice 263 0 5 none],.cells 3 1 ((pQ st W 5).map (SV.int .i64))])):=by intro x;kernel_rfl
theorem snb_6(th st ga le re ti:Int)(nW:Nat)(cp:Option Nat)(lv:Value)(W:List Int)(ne:Int):∀x:Nat→SV,follow (oE 6) ((bB Tryz.prog (runK Tryz.prog K8 20) false #[] 0 0 1 (aA 5 fR) (cJ 90 [(1,.ptr 0 0 0),(9,.slice 2 0 nW none),(10,.ptr 3 0 0)] x) (aT [.cells 28 10 [.int .i64 th,.int .i64 st,.int .i64 ga,.int .i64 le,.int .i64 re,.int .i64 ti,.slice 1 0 6 cp,.val lv,.any,.any],.dead,.ints 3 1 W,.cells 46 3 [.int .i64 ne,aC,aC]] [0,1,2])).bind (cM [1,10] [5,6,7,8] [3,313] []))=some ((snC st nW W 6),(90,.normal,[],[.ptr 0 0 0,.ptr 3 0 0],[5,6,7,8].map x,316,[.cells 46 3 [.int .i64 ne,.slice 313 0 6 none,.slice 315 0 6 none],.cells 3 1 ((pQ st W 6).map (SV.int .i64))])):=by intro x;kernel_rfl
theorem snb_7(th st ga le re ti:Int)(nW:Nat)(cp:Option Nat)(lv:Value)(W:List Int)(ne:Int):∀x:Nat→SV,follow (oE 7) ((bB Tryz.prog (runK Tryz.prog K8 20) false #[] 0 0 1 (aA 5 fR) (cJ 90 [(1,.ptr 0 0 0),(9,.slice 2 0 nW none),(10,.ptr 3 0 0)] x) (aT [.cells 28 10 [.int .i64 th,.int .i64 st,.int .i64 ga,.int .i64 le,.int .i64 re,.int .i64 ti,.slice 1 0 7 cp,.val lv,.any,.any],.dead,.ints 3 1 W,.cells 46 3 [.int .i64 ne,aC,aC]] [0,1,2])).bind (cM [1,10] [5,6,7,8] [3,365] []))=some ((snC st nW W 7),(90,.normal,[],[.ptr 0 0 0,.ptr 3 0 0],[5,6,7,8].map x,368,[.cells 46 3 [.int .i64 ne,.slice 365 0 7 none,.slice 367 0 7 none],.cells 3 1 ((pQ st W 7).map (SV.int .i64))])):=by intro x;kernel_rfl
theorem snb_8(th st ga le re ti:Int)(nW:Nat)(cp:Option Nat)(lv:Value)(W:List Int)(ne:Int):∀x:Nat→SV,follow (oE 8) ((bB Tryz.prog (runK Tryz.prog K8 20) false #[] 0 0 1 (aA 5 fR) (cJ 90 [(1,.ptr 0 0 0),(9,.slice 2 0 nW none),(10,.ptr 3 0 0)] x) (aT [.cells 28 10 [.int .i64 th,.int .i64 st,.int .i64 ga,.int .i64 le,.int .i64 re,.int .i64 ti,.slice 1 0 8 cp,.val lv,.any,.any],.dead,.ints 3 1 W,.cells 46 3 [.int .i64 ne,aC,aC]] [0,1,2])).bind (cM [1,10] [5,6,7,8] [3,417] []))=some ((snC st nW W 8),(90,.normal,[],[.ptr 0 0 0,.ptr 3 0 0],[5,6,7,8].map x,420,[.cells 46 3 [.int .i64 ne,.slice 417 0 8 none,.slice 419 0 8 none],.cells 3 1 ((pQ st W 8).map (SV.int .i64))])):=by intro x;kernel_rfl
theorem snb_9(th st ga le re ti:Int)(nW:Nat)(cp:Option Nat)(lv:Value)(W:List Int)(ne:Int):∀x:Nat→SV,follow (oE 9) ((bB Tryz.prog (runK Tryz.prog K8 20) false #[] 0 0 1 (aA 5 fR) (cJ 90 [(1,.ptr 0 0 0),(9,.slice 2 0 nW none),(10,.ptr 3 0 0)] x) (aT [.cells 28 10 [.int .i64 th,.int .i64 st,.int .i64 ga,.int .i64 le,.int .i64 re,.int .i64 ti,.slice 1 0 9 cp,.val lv,.any,.any],.dead,.ints 3 1 W,.cells 46 3 [.int .i64 ne,aC,aC]] [0,1,2])).bind (cM [1,10] [5,6,7,8] [3,469] []))=some ((snC st nW W 9),(90,.normal,[],[.ptr 0 0 0,.ptr 3 0 0],[5,6,7,8].map x,472,[.cells 46 3 [.int .i64 ne,.slice 469 0 9 none,.slice 471 0 9 none],.cells 3 1 ((pQ st W 9).map (SV.int .i64))])):=by intro x;kernel_rfl
theorem snb_10(th st ga le re ti:Int)(nW:Nat)(cp:Option Nat)(lv:Value)(W:List Int)(ne:Int):∀x:Nat→SV,follow (oE 10) ((bB Tryz.prog (runK Tryz.prog K8 20) false #[] 0 0 1 (aA 5 fR) (cJ 90 [(1,.ptr 0 0 0),(9,.slice 2 0 nW none),(10,.ptr 3 0 0)] x) (aT [.cells 28 10 [.int .i64 th,.int .i64 st,.int .i64 ga,.int .i64 le,.int .i64 re,.int .i64 ti,.slice 1 0 10 cp,.val lv,.any,.any],.dead,.ints 3 1 W,.cells 46 3 [.int .i64 ne,aC,aC]] [0,1,2])).bind (cM [1,10] [5,6,7,8] [3,521] []))=some ((snC st nW W 10),(90,.normal,[],[.ptr 0 0 0,.ptr 3 0 0],[5,6,7,8].map x,524,[.cells 46 3 [.int .i64 ne,.slice 521 0 10 none,.slice 523 0 10 none],.cells 3 1 ((pQ st W 10).map (SV.int .i64))])):=by intro x;kernel_rfl
theorem snb_11(th st ga le re ti:Int)(nW:Nat)(cp:Option Nat)(lv:Value)(W:List Int)(ne:Int):∀x:Nat→SV,follow (oE 11) ((bB Tryz.prog (runK Tryz.prog K8 20) false #[] 0 0 1 (aA 5 fR) (cJ 90 [(1,.ptr 0 0 0),(9,.slice 2 0 nW none),(10,.ptr 3 0 0)] x) (aT [.cells 28 10 [.int .i64 th,.int .i64 st,.int .i64 ga,.int .i64 le,.int .i64 re,.int .i64 ti,.slice 1 0 11 cp,.val lv,.any,.any],.dead,.ints 3 1 W,.cells 46 3 [.int .i64 ne,aC,aC]] [0,1,2])).bind (cM [1,10] [5,6,7,8] [3,573] []))=some ((snC st nW W 11),(90,.normal,[],[.ptr 0 0 0,.ptr 3 0 0],[5,6,7,8].map x,576,[.cells 46 3 [.int .i64 ne,.slice 573 0 11 none,.slice 575 0 11 none],.cells 3 1 ((pQ st W 11).map (SV.int .i64))])):=by intro x;kernel_rfl
theorem snb_12(th st ga le re ti:Int)(nW:Nat)(cp:Option Nat)(lv:Value)(W:List Int)(ne:Int):∀x:Nat→SV,follow (oE 12) ((bB Tryz.prog (runK Tryz.prog K8 20) false #[] 0 0 1 (aA 5 fR) (cJ 90 [(1,.ptr 0 0 0),(9,.slice 2 0 nW none),(10,.ptr 3 0 0)] x) (aT [.cells 28 10 [.int .i64 th,.int .i64 st,.int .i64 ga,.int .i64 le,.int .i64 re,.int .i64 ti,.slice 1 0 12 cp,.val lv,.any,.any],.dead,.ints 3 1 W,.cells 46 3 [.int .i64 ne,aC,aC]] [0,1,2])).bind (cM [1,10] [5,6,7,8] [3,625] []))=some ((snC st nW W 12),(90,.normal,[],[.ptr 0 0 0,.ptr 3 0 0],[5,6,7,8].map x,628,[.cells 46 3 [.int .i64 ne,.slice 625 0 12 none,.slice 627 0 12 none],.cells 3 1 ((pQ st W 12).map (SV.int .i64))])):=by intro x;kernel_rfl
theorem sn6(i:Nat):∀x:Nat→SV,follow [(0,true)] ((bB Tryz.prog (runK Tryz.prog S0 20) false #[] 0 0 1 (aA 2 wG) (cJ 90 [(8,.int .i64 i)] x) (aT [] [])).bind (cM [8] [1,5,6,7] [] []))=some ([(fits ((i:Int)+1),true)],(90,.normal,[],[.int .i64 ((i:Int)+1)],[1,5,6,7].map x,0,[])):=by intro x;kernel_rfl
theorem sne:∀x:Nat→SV,follow [] ((bB Tryz.prog (runK Tryz.prog S0 20) false (dX (aA 5 jK)) 5 1 1 (aA 6 jK) (cJ 90 [] x) (aT [] [])).bind (cM [4] [2,3] [] []))=some ([],(90,.ret,[],[.bool true],[2,3].map x,0,[])):=by intro x;kernel_rfl
end Go.Proofs.YtnkcbfgfkadoaaaGreat.Sx
namespace Go.Proofs.YtnkcbfgfkadoaaaGreat.Sx
open Go
set_option maxRecDepth 10000
theorem pz_0(n:Int):follow [(0,true)] ((runK Tryz.prog S0 20 (.fn 12 [.ptr 0 0 0,.int .i64 n]) (aT [.cells 68 11 [.any,.any,.any,.any,.any,.any,.any,.any,.any,aC,.any]] [0])).bind (cD []))=some ([(decide (n<0),true)],(.bool false,1,[])):=by kernel_rfl
theorem pz_1(n:Int):follow [(0,false),(7,true)] ((runK Tryz.prog S0 20 (.fn 12 [.ptr 0 0 0,.int .i64 n]) (aT [.cells 68 11 [.any,.any,.any,.any,.any,.any,.any,.any,.any,aC,.any]] [0])).bind (cD []))=some ([(decide (n<0),false),(decide (n≥((0:Nat):Int)),true)],(.bool false,1,[])):=by kernel_rfl
theorem ez_e(nE:Nat)(cE:Option Nat)(E:List SV):follow [(2,true),(2,true)] ((runK Tryz.prog S0 20 (.fn 14 [.ptr 0 0 0]) (aT [.cells 68 11 [.any,.any,.any,.any,.any,.any,.any,.any,.any,.any,.slice 1 0 nE cE],.cells 42 10 E] [0,1])).bind (cD [3]))=some ([(Nat.ble (bG (aE 0 nE) 10) (List.length E),true),(Nat.ble (0+nE) 1000000000,true)],(.slice 3 0 (0+nE) none,4,[.cells 42 10 ([]++List.take (bG nE 10) E)])):=by kernel_rfl
theorem ez_n:follow [] ((runK Tryz.prog S0 20 (.fn 14 [.ptr 0 0 0]) (aT [.cells 68 11 [.any,.any,.any,.any,.any,.any,.any,.any,.any,.any,aC],.dead] [0,1])).bind (cD []))=some ([],(aC,2,[])):=by kernel_rfl
theorem iY{h1:H}{bx t s:Nat}{X Y Z:List SV}{r:Nat→Nat}(hg:h1.get bx=.cells t s X)(hz:SV.rens r Y=Z)(hl:Z.length=X.length)(hh:∀(i:Nat) v v',X[i]?=some v→Z[i]?=some v'→v'=v∨(v'=.any∧v.one=true)):((.cells t s Y:SO)≠.dead→live h1 bx)∧∀(ρ:bF) (p:Pl) (w:World),OR ρ p w (h1.get bx)→OR (ρ.via r) p w (.cells t s Y):=
 ro_wk (by unfold live;rw[hg];simp) rfl (by rw[hg];show Wk _ (.cells t s (SV.rens r Y));rw[hz];exact zI hl hh) (by show SO.cells t s (SV.rens r Y)≠_;simp)
structure Lk(h:H)(own:Nat→Nat)(C:bS)(W:List Int)(aD:List Ev)(N:Names)(thr lg:SV)(aP:List (Nat×List Int)):Prop where
 oR:∀m∈h.R,own m=6∧m<h.n
 oC:h.C=[]
 sched:At h own N.ns 0 (.cells 68 11 (C.cells++[.ptr N.nm 0 0,thr,evS N.ne aD]))
 mem:At h own N.nm 1 (.cells 107 2 [.slice N.nw 0 W.length N.c,lg])
 words:At h own N.nw 2 (.ints 3 1 W)
 ev:aD≠[]→At h own N.ne 4 (.cells 42 10 (eH aD))
 par:At h own C.P 6 (.ints 3 1 C.PL)
 one:thr.one=true∧lg.one=true
 w:hU C W
 evb:aD.length≤2*aP.length
 hs:∀(j n:Nat) (W:List Int),aP[j]?=some (n,W)→n≤aD.length∧hU C W
 fact:tE C aP aD
structure PZ(h:H)(own:Nat→Nat)(C:bS)(W:List Int)(N:Names)(aP:List (Nat×List Int)):Prop where
 lk:Lk h own C W [] N aC aC aP
def sW(h:H)(own:Nat→Nat)(C:bS)(W:List Int)(aD:List Ev)(N:Names)(aP:List (Nat×List Int)):Prop:=
 (∃nL aL,aL.length≤8∧PInv h own C W nL aD aL N aP)∨(aD=[]∧PZ h own C W N aP)
section
variable{h h':H}{own bZ:Nat→Nat}{C:bS}{W:List Int}{aD:List Ev}{N:Names}{aP:List (Nat×List Int)}{nL:Nat}{aL:List Nat}
theorem sW.look(I:sW h own C W aD N aP):∃thr lg,Lk h own C W aD N thr lg aP:=by
 rcases I with⟨nL,aL,_,I⟩|⟨rfl,I⟩
 ·exact⟨_,_,I.co.oR,I.co.oC,I.co.sched,I.co.mem,I.co.words,I.co.ev,I.co.par,⟨rfl,by cases nL<;>rfl⟩,I.w,I.evb,I.hs,I.fact⟩
 ·exact⟨_,_,I.lk⟩
theorem At.move(hk:∀m,m<h.n→(own m≤6∨900<own m)→h'.get m=h.get m∧bZ m=own m)(hn:h.n≤h'.n){m t:Nat}{o:SO}(a:At h own m t o)(ht:t≤6∨900<t):At h' bZ m t o:=by
 obtain⟨k1,k2⟩:=hk m a.2.2 (by rw[a.2.1];exact ht);exact⟨by rw[k1];exact a.1,by rw[k2];exact a.2.1,by have:=a.2.2;omega⟩
theorem sW.move(I:sW h own C W aD N aP)(hk:∀m,m<h.n→(own m≤6∨900<own m)→h'.get m=h.get m∧bZ m=own m)(hn:h.n≤h'.n)(hR:h'.R=h.R)(hC:h'.C=h.C):sW h' bZ C W aD N aP:=by
 have mv:=fun{m t:Nat} {o:SO} (a:At h own m t o) (ht:t≤6∨900<t)=>a.move (h':=h') (bZ:=bZ) hk hn ht
 have oR:(∀m∈h.R,own m=6∧m<h.n)→∀m∈h'.R,bZ m=6∧m<h'.n:=fun o m hm=>by
  rw[hR]at hm;obtain⟨a,b⟩:=o m hm;have:=(hk m b (by rw[a];omega)).2;exact⟨this.trans a,by omega⟩
 rcases I with⟨nL,aL,h8,I⟩|⟨rfl,I⟩
 ·refine .inl ⟨nL,aL,h8,⟨⟨oR I.co.oR,hC.trans I.co.oC,mv I.co.sched (by omega),mv I.co.mem (by omega),mv I.co.words (by omega),mv I.co.thr (by omega),fun e=>mv (I.co.ev e) (by omega),fun e=>mv (I.co.log e) (by omega),mv I.co.par (by omega)⟩,I.w,fun i t ht=>?_,I.nl,I.nlb,I.evb,I.hs,I.fact⟩⟩
  have:=(I.thr i t ht).grow (h':=h') (bZ:=bZ) (fun m o c hc a=>mv a (by have:=mV i c;omega)) (Nat.le_refl _) [] (by simp) []
  rwa [List.append_nil,List.append_nil]at this
 ·have l:=I.lk
  exact .inr ⟨rfl,⟨oR l.oR,hC.trans l.oC,mv l.sched (by omega),mv l.mem (by omega),mv l.words (by omega),fun e=>absurd rfl e,mv l.par (by omega),l.one,l.w,l.evb,l.hs,l.fact⟩⟩
theorem pR{thr lg:SV}(L:Lk h own C W aD N thr lg aP):∀v∈C.cells++[.ptr N.nm 0 0,thr,evS N.ne aD],v.one=true:=by
 intro v hv;simp only[bS.cells,List.mem_append,List.mem_cons,List.not_mem_nil,or_false]at hv;have he:(evS N.ne aD).one=true:=by cases aD<;>rfl
 rcases hv with(rfl|rfl|rfl|rfl|rfl|rfl|rfl|rfl)|rfl|rfl|rfl<;>first|rfl|exact L.one.1|exact he
theorem sW.pick(ok:dU C)(I:sW h own C W aD N aP)(room:h.n+400≤1000000)(hl:aP.length≤10000)(n:Int):∃v h' bZ W' eX N',Spec Tryz.prog (.fn 12 [.ptr N.ns 0 0,.int .i64 n]) h (.bool v,h')∧h'.n≤h.n+400∧h.n≤h'.n∧sW h' bZ C W' eX N' (aP++[(eX.length,W')])∧N'.ns=N.ns∧
 (∀m,m<h.n→bZ m=own m)∧∀m,m<h.n→6≤own m→own m≤900→h'.get m=h.get m:=by
 rcases I with⟨nL,aL,h8,I⟩|⟨rfl,I⟩
 ·obtain⟨v,h',bZ,W',nL',eX,ne',nl',sp,b1,b2,I',o1,o2⟩:=pick_inv ok I h8 room hl n
  exact⟨v,h',bZ,W',eX,_,sp,b1,b2,.inl ⟨nL',aL,h8,I'⟩,rfl,o1,o2⟩
 ·have L:=I.lk
  have ft:h.n≤1000000→Fit h (aT [.cells 68 11 [.any,.any,.any,.any,.any,.any,.any,.any,.any,aC,.any]] [0]) (nm [N.ns]):=fun h6=>aX (R:=[0]) (os:=[.cells 68 11 [.any,.any,.any,.any,.any,.any,.any,.any,.any,aC,.any]]) (ns:=[N.ns]) ⟨L.sched.2.2,bE rfl (iY L.sched.1 (Z:=iI [true,true,true,true,true,true,true,true,true,false,true] _) rfl (dI _ _) (eC _ _ (pR L))),trivial⟩ (by simp[aQ,SO.lives]) (by simp) h6
  have sp:Spec Tryz.prog (.fn 12 [.ptr N.ns 0 0,.int .i64 n]) h (.bool false,h):=by
   by_cases c:n<0
   ·exact cP (K:=0) (j:=[]) (ns:=[N.ns]) (os:=[]) bW (aH _) (pz_0 n) (aU (decide_eq_true c) trivial) trivial ft rfl rfl rfl (by simp) (by simp) (by omega)
   ·exact cP (K:=0) (j:=[]) (ns:=[N.ns]) (os:=[]) bW (aH _) (pz_1 n) (aU (decide_eq_false c) (aU (decide_eq_true (by omega)) trivial)) trivial ft rfl rfl rfl (by simp) (by simp) (by omega)
  refine⟨false,h,own,W,[],N,sp,by omega,Nat.le_refl _,.inr ⟨rfl,⟨L.oR,L.oC,L.sched,L.mem,L.words,L.ev,L.par,L.one,L.w,by simp,fun j n W0 hh=>?_,fun k v hv=>by simp at hv⟩⟩,rfl,fun _ _=>rfl,fun _ _ _ _=>rfl⟩;rcases Nat.lt_or_ge j aP.length with hl|hl
  ·rw[List.getElem?_append_left hl]at hh;exact L.hs j n W0 hh
  ·rw[List.getElem?_append_right hl]at hh
   have:=List.mem_of_getElem? hh;simp only[List.mem_singleton,Prod.mk.injEq]at this;obtain⟨rfl,rfl⟩:=this;exact⟨Nat.le_refl _,L.w⟩
theorem sW.events(I:sW h own C W aD N aP)(hE:aD.length≤1000000)(h6:h.n+2≤1000000):∃v h',Spec Tryz.prog (.fn 14 [.ptr N.ns 0 0]) h (v,h')∧jO h h'∧h'.n=h.n+2∧((aD=[]∧v=aC)∨(aD≠[]∧∃e,v=.slice e 0 aD.length none∧h'.get e=.cells 42 10 (eH aD)∧h.n≤e∧e<h'.n)):=by
 obtain⟨thr,lg,L⟩:=I.look;cases aD with
 |nil=>
  have ft:h.n≤1000000→Fit h (aT [.cells 68 11 [.any,.any,.any,.any,.any,.any,.any,.any,.any,.any,aC],.dead] [0,1]) (nm [N.ns,N.ns]):=fun h6=>aX (R:=[0,1]) (os:=[.cells 68 11 [.any,.any,.any,.any,.any,.any,.any,.any,.any,.any,aC],.dead]) (ns:=[N.ns,N.ns]) ⟨L.sched.2.2,bE rfl (iY L.sched.1 (Z:=iI [true,true,true,true,true,true,true,true,true,true,false] _) rfl (dI _ _) (eC _ _ (pR L))),L.sched.2.2,bE rfl aZ,trivial⟩ (by simp[aQ,SO.lives]) (by simp) h6
  exact⟨aC,h.lay 2 [],cP (K:=2) (j:=[]) (ns:=[N.ns,N.ns]) (os:=[]) bW (aH _) ez_n trivial trivial ft rfl rfl rfl (by simp) (by simp) h6,.lay,rfl,.inl ⟨rfl,rfl⟩⟩
 |cons x l=>
  have ae:=L.ev (by simp);have nsne:N.ns≠N.ne:=fun e=>by have h1:=L.sched.2.1;have h2:=ae.2.1;rw[e]at h1;omega
  have ft:h.n≤1000000→Fit h (aT [.cells 68 11 [.any,.any,.any,.any,.any,.any,.any,.any,.any,.any,.slice 1 0 (x::l).length none],.cells 42 10 (eH (x::l))] [0,1]) (nm [N.ns,N.ne]):=fun h6=>aX (R:=[0,1]) (os:=[.cells 68 11 [.any,.any,.any,.any,.any,.any,.any,.any,.any,.any,.slice 1 0 (x::l).length none],.cells 42 10 (eH (x::l))]) (ns:=[N.ns,N.ne]) ⟨L.sched.2.2,bE rfl (iY L.sched.1 (Z:=iI [true,true,true,true,true,true,true,true,true,true,false] _) rfl (dI _ _) (eC _ _ (pR L))),ae.2.2,bE rfl (jM (by rw[ae.1];show _=SO.cells 42 10 (SV.rens _ (eH (x::l)));rw[jS]) rfl),trivial⟩ (by simp[aQ,SO.lives,nsne]) (by simp) h6
  have lenE:=lD (x::l);have c1:Nat.ble (bG (aE 0 (x::l).length) 10) (eH (x::l)).length=true:=Nat.ble_eq_true_of_le (by rw[bT,aY,lenE];omega);have c2:Nat.ble (0+(x::l).length) 1000000000=true:=Nat.ble_eq_true_of_le (by omega);have sp:=cP (K:=2) (j:=[]) (ns:=[N.ns,N.ne]) bW (aH _) (ez_e (x::l).length none (eH (x::l))) (aU c1 (aU c2 trivial)) (rN.refl _) ft rfl rfl rfl (by simp) (by simp) h6;obtain⟨eJ,g1,g2⟩:=gX (nn:=4) (K:=2) (ls:=[3]) (os:=[.cells 42 10 ([]++List.take (bG (x::l).length 10) (eH (x::l)))]) (tgs:=[0]) (ft (by omega)) rfl rfl (by simp) h6 rfl rfl (fun _=>0);have a1:=g1 0 3 _ 0 rfl rfl rfl;have e1:SV.rens (nx h.n 2 [] [N.ns,N.ne]) ([]++List.take (bG (x::l).length 10) (eH (x::l)))=eH (x::l):=by
   rw[List.nil_append,bT,List.take_of_length_le (by omega),jS]
  refine⟨_,_,sp,⟨by show h.n≤h.n+2;omega,cQ _ _,cY _ _,fun m hm=>(g2 m hm fun l hl cK=>by simp only[List.mem_cons,List.not_mem_nil,or_false]at hl;subst hl;simp at cK).1⟩,rfl,.inr ⟨by simp,h.n+1,by show SV.slice _ 0 (0+_) none=_;rw[Nat.zero_add];rfl,a1.1.trans (congrArg (SO.cells 42 10) e1),by omega,by show h.n+1<h.n+2;omega⟩⟩
end
section
variable{P:Program}{n:Nat}{Q:Exit→Act→World→Prop}{b:mX}{ρ:bF}{a:Act}{w:World}{N:Nat}{kn:List (Nat×SV)}{h:H}
def bsO(o:Oper):Option (Nat×Nat×Option Nat):=match o with
 |{op:=.buildSlice t 1 parts,dst:=dst,guard:=none, .. }=>match parts.toList with
  |[(0,.tmp x)]=>some (t,x,dst)
  |_=>none
 |_=>none
def elN(P:Program)(t:Nat):Option (Nat×Nat):=match P.underlying t with
 |some (.slice e)=>match zero P e with
  |.ret z=>match Nat.blt 0 (sz P e)&&Nat.ble (1*sz P e) 1000&&Nat.beq z.cells.length (sz P e)with
   |true=>some (e,sz P e)
   |false=>none
  |_=>none
 |_=>none
theorem setAt_all:∀(vs cs:List SV) (o:Nat),vs.length+o=cs.length→setAt cs o vs=cs.take o++vs
 |[],cs,o,h=>by simp at h;simp[setAt,h]
 |v::vs,cs,o,h=>by
  simp only[List.length_cons]at h;unfold setAt;rw[setAt_all vs (cs.set o v) (o+1) (by rw[List.length_set];omega)];have ho:o<cs.length:=by omega
  rw[List.take_set,List.take_add_one,List.getElem?_eq_getElem ho];simp only[Option.toList_some];rw[List.set_append_right _ _ (by rw[List.length_take];omega)];have:o-(cs.take o).length=0:=by rw[List.length_take];omega
  rw[this];simp
theorem go_bs1{ops:Array Oper}{i m t x e k:Nat}{d:Option Code}{dst:Option Nat}{v:SV}(X:wV P)(dS:ops.toList.all (fun o=>dR o.op)=true)(hc:(ops.toList[i]?).bind bsO=some (t,x,dst))(hk:elN P t=some (e,k))(hx:evK kn (.tmp x)=some v)(hv:v.cells.length=k)(lO:∀t,dst=some t→t<N)(s:St b N kn h ρ a w)(h6:h.n<1000000)
 (hq:∀aW a' w',St b N (xO dst (.slice h.n 0 1 (some 1)) kn) (h.new (.cells e k v.cells)) aW a' w'→GO n P ops (i+1) m d Q a' w'):GO n P ops i (m+1) d Q a w:=by
 obtain⟨o,ho,lU⟩:=Option.bind_eq_some_iff.1 hc;unfold bsO at lU;split at lU
 ·split at lU
  ·rename_i hp
   injection lU with e0;injection e0 with e1 e2;injection e2 with e2 e3;subst e1;subst e2;subst e3;refine go_al (x:=(.cells e k v.cells,fun l=>.slice l 0 1 (some 1))) X dS ho trivial lO s h6 ?_ hq;unfold elN at hk;split at hk
   ·rename_i e' hu
    split at hk
    ·rename_i z hz
     split at hk
     ·rename_i hb
      injection hk with hk;injection hk with k1 k2;subst k1;subst k2;simp only[Bool.and_eq_true]at hb;have hzl:=Nat.eq_of_beq_eq_true hb.2;simp only[al,hu,hb.1.1,hb.1.2,Bool.and_self,hz,Out.bind,hp,List.map_cons,List.map_nil,lV hx];have hle:Nat.ble (0*sz P e'+sz P e') ((List.range (1*sz P e')).map fun i=>z.cells.getD (i%z.cells.length) iK).length=true:=Nat.ble_eq_true_of_le (by simp);simp only[fill,hv,hle,Nat.beq_refl,Bool.and_self,Out.bind];rw[setAt_all _ _ _ (by simp[hv])];simp[Out.go]
     ·cases hk
    ·cases hk
   ·cases hk
  ·cases lU
 ·cases lU
def apO(o:Oper):Option (Nat×Nat×Nat×Nat×Option Nat):=match o with
 |{op:=.call {callee:=.builtin .append,args:=args,argTypes:=ts},dst:=dst,guard:=none, .. }=>match args.toList,ts.toList with
  |[.tmp x,.tmp y],t::t2::_=>some (t,t2,x,y,dst)
  |_,_=>none
 |_=>none
def apT(P:Program)(t t2:Nat):Option (Nat×Nat):=match P.underlying t,P.underlying t2 with
 |some (.slice e),some (.slice _)=>match P.info? e with
  |some ie=>match Nat.blt 0 ie.size&&Nat.ble ie.bytes 1000&&(ie.zero.isSome&&Nat.blt e P.types.size)with
   |true=>some (e,ie.size)
   |false=>none
  |none=>none
 |_,_=>none
theorem go_app{ops:Array Oper}{i m t t2 x y e k c Y:Nat}{d:Option Code}{dst:Option Nat}{V:SV}{l l2:List SV}(X:wV P)(dS:ops.toList.all (fun o=>dR o.op)=true)(hc:(ops.toList[i]?).bind apO=some (t,t2,x,y,dst))(hk:apT P t t2=some (e,k))(hx:evK kn (.tmp x)=some V)(hy:evK kn (.tmp y)=some (.slice Y 0 1 (some 1)))
 (hV:(V=aC∧c=0∧l=[])∨∃M,V=.slice M 0 c none∧h.get M=.cells e k l∧l.length=c*k∧okK h M=true)(hY:h.get Y=.cells e k l2)(hl2:l2.length=k)(hone:l2.all SV.one=true)(hcb:c+1≤1000000000)(lO:∀t,dst=some t→t<N)(s:St b N kn h ρ a w)(h6:h.n<1000000)
 (hq:∀aW a' w',St b N (xO dst (.slice h.n 0 (c+1) none) kn) ((kill h V).new (.cells e k (l++l2))) aW a' w'→GO n P ops (i+1) m d Q a' w'):GO n P ops i (m+1) d Q a w:=by
 obtain⟨o,ho,lU⟩:=Option.bind_eq_some_iff.1 hc;have ho':ops[i]?=some o:=by simpa using ho
 have dE:dR o.op=true:=List.all_eq_true.1 dS o (List.mem_of_getElem? ho);unfold apO at lU;split at lU
 ·split at lU
  ·rename_i ha ht
   injection lU with e0;injection e0 with e1 e2;injection e2 with e2 e3;injection e3 with e3 e4;injection e4 with e4 e5;subst e1;subst e2;subst e3;subst e4;subst e5;unfold GO;simp only[List.range'_succ,wpOpsIn,ho'];rw[iA rfl,if_pos rfl];refine ef_ok X.tab rM (just_ok (r:=(aC,h))) (σ:=sgK kn a) (h:=h) (ρ:=ρ) (v:=.slice h.n 0 (c+1) none) (h':=(kill h V).new (.cells e k (l++l2))) ?_ (sgK_ok s.vs dE) s.hr dE fun aW u w' q1 q2 q3=>hq aW _ w' (s.put lO q1 q2 q3)
   unfold ef;simp only[ha,ht,lV hx,lV hy];unfold apT at hk;split at hk
   ·rename_i e' e2' hu hu2
    split at hk
    ·rename_i ie hi
     split at hk
     ·rename_i hb
      injection hk with hk;injection hk with k1 k2;subst k1;subst k2;simp only[Bool.and_eq_true]at hb;unfold append;simp only[hu,hu2,hi,hb.1.1,hb.1.2,hb.2.1,hb.2.2,aF.2 h6,Bool.and_self];have hrow:rowOf h (.slice Y 0 1 (some 1))=.chk (Nat.ble (bG (aE 0 1) ie.size) l2.length) (.ret (.cs e' ie.size l2)):=by
       unfold rowOf;simp only[hY,bT,Nat.zero_mul,mF,Nat.one_mul,aY,Nat.zero_add,hl2];rw[List.take_of_length_le (by omega)]
      have c1:Nat.ble (bG (aE 0 1) ie.size) l2.length=true:=Nat.ble_eq_true_of_le (by rw[bT,aY,hl2];omega);have c2:Nat.ble (c+1) 1000000000=true:=Nat.ble_eq_true_of_le hcb;have hY1:len (.slice Y 0 1 (some 1))=.ret 1:=rfl;rcases hV with⟨rfl,rfl,rfl⟩|⟨M,rfl,hM,hlen,hokM⟩
      ·have h1:len aC=.chk (Nat.ble 0 1000000000) (.ret 0):=rfl
       have h2:rowOf h aC=.ret .none:=rfl;have f1:full aC=true:=rfl;have f2:okKx h aC=true:=rfl;have f3:kill h aC=h:=rfl;simp only[h1,h2,hY1,hrow,Out.bind,Out.go,c1,show Nat.ble 0 1000000000=true from rfl,oX,Out.all,kF,Nat.beq_refl,Bool.and_self,c2,f1,f2,f3,Bool.or_true,Bool.true_or,cat,List.nil_append,show Nat.blt 0 1=true from rfl,Nat.zero_add]
      ·have h1:len (.slice M 0 c none)=.ret c:=rfl
       have h2:rowOf h (.slice M 0 c none)=.chk (Nat.ble (bG (aE 0 c) ie.size) l.length) (.ret (.cs e' ie.size l)):=by
        unfold rowOf;simp only[hM,bT,Nat.zero_mul,mF,aY,Nat.zero_add];rw[List.take_of_length_le (by rw[hlen];exact Nat.le_refl _)]
       have c3:Nat.ble (bG (aE 0 c) ie.size) l.length=true:=Nat.ble_eq_true_of_le (by rw[bT,aY,Nat.zero_add,hlen];exact Nat.le_refl _);simp only[h1,h2,hY1,hrow,Out.bind,Out.go,c1,c3,oX,Out.all,kF,Nat.beq_refl,Bool.and_self,c2,full,Bool.false_or,Bool.true_or,rowOne,hone,okKx,hokM,cat,kill]
     ·cases hk
    ·cases hk
   ·cases hk
  ·cases lU
 ·cases lU
end
def AI(R:List Nat)(m:Nat):Nat:=match R.contains m with
 |true=>6
 |false=>7
theorem ownI_le(R:List Nat)(m:Nat):6≤AI R m∧AI R m≤7:=by unfold AI;split<;>omega
theorem ownI_in{R:List Nat}{m:Nat}(h:m∈R):AI R m=6:=by unfold AI;rw[show R.contains m=true by simpa using h]
theorem ownI_out{R:List Nat}{m:Nat}(h:m∉R):AI R m=7:=by unfold AI;rw[show R.contains m=false by simpa using h]
section
variable{h h1:H}{cO:Nat→Nat}{th st ga le re ti:Int}{P L:Nat}{PL:List Int}{cp cl:Option Nat}{W:List Int}{N:Names}{aL:List Nat}{thr:SV}{k:Nat}
def tX(th st ga le re ti:Int)(P:Nat)(PL:List Int)(cp:Option Nat)(u:Value):bS:=⟨th,st,ga,le,re,ti,PL,cp,u,P⟩
def stNm(N:Names)(k:Nat):Names:=⟨N.ns,N.nm,N.nw,N.nt,0,0,none,some k⟩
def stH(h1:H)(N:Names)(th st ga le re ti:Int)(P L np:Nat)(cp cl:Option Nat)(thr:SV)(u:Value):H:=h1.put N.ns (.cells 68 11 ((nwC th st ga le re ti P L np cp cl++[.ptr N.nm 0 0,thr,aC]).set 7 (.val u)))
theorem stH_get{u:Value}(hn:N.ns≤1000000){np:Nat}:(stH h1 N th st ga le re ti P L np cp cl thr u).get N.ns=.cells 68 11 ((nwC th st ga le re ti P L np cp cl++[.ptr N.nm 0 0,thr,aC]).set 7 (.val u))∧∀m,m≠N.ns→(stH h1 N th st ga le re ti P L np cp cl thr u).get m=h1.get m:=⟨H.get_put hn,fun _ hm=>H.get_put_ne (Ne.symm hm)⟩
theorem start(I:NwI h h1 (AI h.R) cO (nwC th st ga le re ti P L PL.length cp cl) W N aL thr k)(hR:∀m∈h.R,m<h.n)(hC:h.C=[])(hP:P∈h.R)(gP:h.get P=.ints 3 1 PL)(k8:k≤8)(h6:h1.n≤1000000)(u:Value)(w:hU (tX th st ga le re ti P PL cp u) W):
 sW (stH h1 N th st ga le re ti P L PL.length cp cl thr u) cO (tX th st ga le re ti P PL cp u) W [] (stNm N W.length) []:=by
 have AA:=I.ns.2.2;obtain⟨g1,g2⟩:=stH_get (h1:=h1) (N:=N) (th:=th) (st:=st) (ga:=ga) (le:=le) (re:=re) (ti:=ti) (P:=P) (L:=L) (np:=PL.length) (cp:=cp) (cl:=cl) (thr:=thr) (u:=u) (by omega);have hRh:(stH h1 N th st ga le re ti P L PL.length cp cl thr u).R=h.R:=I.R;have hCh:(stH h1 N th st ga le re ti P L PL.length cp cl thr u).C=h.C:=I.C;have hnh:(stH h1 N th st ga le re ti P L PL.length cp cl thr u).n=h1.n:=rfl;have hn0:=I.n;generalize stH h1 N th st ga le re ti P L PL.length cp cl thr u=h2 at*;have mv:∀{m t:Nat} {o:SO},At h1 cO m t o→t≠0→At h2 cO m t o:=fun{m t o} a ht=>⟨(g2 m (fun e=>ht (by rw[←a.2.1,e];exact I.ns.2.1))).trans a.1,a.2.1,by rw[hnh];exact a.2.2⟩
 have oR:∀m∈h2.R,cO m=6∧m<h2.n:=fun m hm=>by
  rw[hRh]at hm;have:=hR m hm;refine⟨?_,by omega⟩;rw[(I.old m this).2];exact ownI_in hm
 have oC:h2.C=[]:=hCh.trans hC;have par:At h2 cO P 6 (.ints 3 1 PL):=by
  have lP:=hR P hP;refine⟨?_,(I.old P lP).2.trans (ownI_in hP),by omega⟩;rw[g2 P (by have:=I.lo;omega),(I.old P lP).1];exact gP
 have fact:∀{C:bS},tE C [] []:=fun k v hv=>by simp at hv
 rcases Nat.eq_zero_or_pos k with e|e
 ·have et:=I.thr0 e
  subst et;exact .inr ⟨rfl,⟨oR,oC,⟨g1,I.ns.2.1,by rw[hnh];exact AA⟩,mv I.nm (by omega),mv I.nw (by omega),fun e=>absurd rfl e,par,⟨rfl,rfl⟩,w,by simp,fun j n W0 hh=>by simp at hh,fact⟩⟩
 ·obtain⟨et,at3,_⟩:=I.thr1 (by omega)
  subst et;have el:=I.len;refine .inl ⟨0,aL,by omega,⟨⟨oR,oC,⟨?_,I.ns.2.1,by rw[hnh];exact AA⟩,mv I.nm (by omega),mv I.nw (by omega),mv at3 (by omega),fun e=>absurd rfl e,fun e=>absurd rfl e,par⟩,w,fun i t ht=>?_,fun e=>absurd rfl e,by simp,by simp,fun j n W0 hh=>by simp at hh,fact⟩⟩
  ·show h2.get N.ns=_
   rw[g1,←el];rfl
  ·obtain⟨lf,l1,l2⟩:=I.th i t ht
   exact .rest lf 0 0 0 (l1.imp fun m o a=>mv a (by have:=mV i 990;omega)) (mv l2 (by have:=mV i 0;omega))
end
def wH(np:Nat):List (Nat×List Int)→List (Nat×Nat)→List SV
 |x::r,y::q=>.int .i64 (x.1:Int)::.slice y.1 0 np none::.slice y.2 0 np none::wH np r q
 |_,_=>[]
theorem AJ{np:Nat}:∀(aP:List (Nat×List Int)) (Ms:List (Nat×Nat)),Ms.length=aP.length→(wH np aP Ms).length=aP.length*3
 |[],[],_=>rfl
 |x::r,y::q,h=>by
  simp only[List.length_cons]at h;simp only[wH,List.length_cons,AJ r q (by omega)];omega
 |[],_::_,h=>by simp at h
 |_::_,[],h=>by simp at h
theorem momC_app{np:Nat}(x:Nat×List Int)(y:Nat×Nat):∀(aP:List (Nat×List Int)) (Ms:List (Nat×Nat)),Ms.length=aP.length→wH np (aP++[x]) (Ms++[y])=wH np aP Ms++[.int .i64 (x.1:Int),.slice y.1 0 np none,.slice y.2 0 np none]
 |[],[],_=>rfl
 |a::r,b::q,h=>by
  simp only[List.length_cons]at h;simp only[List.cons_append,wH,momC_app x y r q (by omega)]
 |[],_::_,h=>by simp at h
 |_::_,[],h=>by simp at h
theorem AK{np:Nat}:∀(aP:List (Nat×List Int)) (Ms:List (Nat×Nat)) (j:Nat) (n:Nat) (W:List Int) (s d:Nat),aP[j]?=some (n,W)→Ms[j]?=some (s,d)→(wH np aP Ms)[j*3]?=some (.int .i64 (n:Int))∧(wH np aP Ms)[j*3+1]?=some (.slice s 0 np none)∧(wH np aP Ms)[j*3+2]?=some (.slice d 0 np none)
 |[],_,j,n,W,s,d,h1,_=>by simp at h1
 |_::_,[],j,n,W,s,d,_,h2=>by simp at h2
 |x::r,y::q,0,n,W,s,d,h1,h2=>by
  simp at h1 h2;subst h1;subst h2;exact⟨rfl,rfl,rfl⟩
 |x::r,y::q,j+1,n,W,s,d,h1,h2=>by
  obtain⟨a,b,c⟩:=AK (np:=np) r q j n W s d (by simpa using h1) (by simpa using h2);have e:wH np (x::r) (y::q)=[.int .i64 (x.1:Int),.slice y.1 0 np none,.slice y.2 0 np none]++wH np r q:=rfl;rw[e,show(j+1)*3=3+j*3 by omega,show 3+j*3+1=3+(j*3+1) by omega,show 3+j*3+2=3+(j*3+2) by omega];rw[List.getElem?_append_right (by simp),List.getElem?_append_right (by simp),List.getElem?_append_right (by simp)];simpa[Nat.add_sub_cancel_left]using⟨a,b,c⟩
def MomOK(h:H)(st:Int)(np:Nat)(aP:List (Nat×List Int))(Ms:List (Nat×Nat)):Prop:=Ms.length=aP.length∧∀(j s d n:Nat) (W:List Int),Ms[j]?=some (s,d)→aP[j]?=some (n,W)→h.get s=.cells 3 1 ((pQ st W np).map (SV.int .i64))∧s<h.n
def OutOK(h:H)(st:Int)(np:Nat)(aP:List (Nat×List Int))(V:SV):Prop:=(aP=[]∧V=aC)∨∃M Ms,V=.slice M 0 aP.length none∧aP≠[]∧h.get M=.cells 46 3 (wH np aP Ms)∧M<h.n∧MomOK h st np aP Ms
def EvOK(h:H)(aD:List Ev)(V:SV):Prop:=(aD=[]∧V=aC)∨(aD≠[]∧∃e,V=.slice e 0 aD.length none∧h.get e=.cells 42 10 (eH aD)∧e<h.n)
def SnR(h:H)(th st ga le re ti:Int)(P:Nat)(PL:List Int)(cp:Option Nat)(k:Nat)(v:SV)(h':H):Prop:=∃(u:Value) (aP:List (Nat×List Int)) (aD:List Ev) (V1 V2:SV),v=.tup [V1,V2,.bool true]∧h.n≤h'.n∧h'.n≤h.n+700000∧(∀m,m<h.n→h'.get m=h.get m)∧aP.length=k∧aD.length≤2*k∧
 (∀(j n:Nat) (W:List Int),aP[j]?=some (n,W)→n≤aD.length∧hU (tX th st ga le re ti P PL cp u) W)∧tE (tX th st ga le re ti P PL cp u) aP aD∧OutOK h' st PL.length aP V1∧EvOK h' aD V2
end Go.Proofs.YtnkcbfgfkadoaaaGreat.Sx
