/- Part 35 of the proof of TopPeek. -/
import Derived.Test.YtnkcbfgfkadoaaaGreatX30
set_option linter.all false
namespace Go.Proofs.YtnkcbfgfkadoaaaGreat.Sx
open Go
set_option maxRecDepth 100000
noncomputable abbrev FrR(th st ga le re ti:Int)(np:Nat)(cp cl:Option Nat)(LL:List Int):Out (SV×H):=runK Tryz.prog S0 20 (.fn 26 [.agg [.int .i64 th,.int .i64 st,.int .i64 ga,.int .i64 le,.int .i64 re,.int .i64 ti,.slice 0 0 np cp,.slice 1 0 np cl]]) (aT [.dead,.ints 3 1 LL] [0,1])
def gB(st ti:Int)(k:Nat):Int:=(k:Int)*(6+2*st)+2*ti
def jG(st:Int)(v:Nat):Int:=(v:Int)*(6+2*st)
def rD(i:Int):Nat:=ix 1 (aE 0 (Int.toNat i)) 0
def zW(LL:List Int)(v:Nat):Int:=List.getD LL (rD v) 0
def qM(st:Int)(N:Nat)(LL:List Int):Nat→List Int
 |0=>List.replicate N 0
 |v+1=>List.set (List.set (List.set (qM st N LL v) (rD (jG st v)) (zW LL v)) (rD (jG st v+1)) (zW LL v)) (rD (jG st v+2+st+3)) 1
def frC1(st:Int)(N:Nat)(LL:List Int)(v:Nat):kB:=
 let W:=qM st N LL v;let W1:=List.set W (rD (jG st v)) (zW LL v);let W2:=List.set W1 (rD (jG st v+1)) (zW LL v)
 [(Nat.blt v (List.length LL),true),(fits (2*st),true),(fits (6+2*st),true),(fits (jG st v),true),(decide (0≤jG st v),true),(decide (jG st v<(N:Int)),true),(Nat.blt (rD (jG st v)) (List.length W),true),
  (Nat.blt v (List.length LL),true),(fits (2*st),true),(fits (6+2*st),true),(fits (jG st v),true),(fits (jG st v+1),true),(decide (0≤jG st v+1),true),(decide (jG st v+1<(N:Int)),true),(Nat.blt (rD (jG st v+1)) (List.length W1),true),
  (fits (2*st),true),(fits (6+2*st),true),(fits (jG st v),true),(fits (jG st v+2),true),(fits (jG st v+2+st),true),(fits (jG st v+2+st+3),true),(decide (0≤jG st v+2+st+3),true),(decide (jG st v+2+st+3<(N:Int)),true),(Nat.blt (rD (jG st v+2+st+3)) (List.length W2),true)]
def frC(st ti:Int)(k:Nat)(LL:List Int):Nat→kB
 |0=>[(fits (2*st),true),(fits (6+2*st),true),(fits ((k:Int)*(6+2*st)),true),(fits (2*ti),true),(fits (gB st ti k),true),(decide (0≤gB st ti k),true),(decide (gB st ti k=gB st ti k),true),(decide (gB st ti k≤1000000000),true)]
 |v+1=>frC st ti k LL v++frC1 st (Int.toNat (gB st ti k)) LL v
def frRd(a:Nat):Way:=(a,true)::(List.replicate 6 (0,true)++(2,true)::List.replicate 16 (0,true))
def oB:Nat→Way
 |0=>List.replicate 8 (0,true)
 |1=>List.replicate 8 (0,true)++frRd 3
 |v+1=>oB v++frRd 4
theorem fr_1(th st ga le re ti:Int)(cp cl:Option Nat)(LL:List Int):follow (oB 1) ((FrR th st ga le re ti 1 cp cl LL).bind (cD [9,8]))=some (frC st ti 1 LL 1,(.ptr 9 0 0,23,[.cells 107 2 [.slice 8 0 (Int.toNat (gB st ti 1)) (some (Int.toNat (gB st ti 1))),aC],.ints 3 1 (qM st (Int.toNat (gB st ti 1)) LL 1)])):=by kernel_rfl
theorem fr_2(th st ga le re ti:Int)(cp cl:Option Nat)(LL:List Int):follow (oB 2) ((FrR th st ga le re ti 2 cp cl LL).bind (cD [9,8]))=some (frC st ti 2 LL 2,(.ptr 9 0 0,35,[.cells 107 2 [.slice 8 0 (Int.toNat (gB st ti 2)) (some (Int.toNat (gB st ti 2))),aC],.ints 3 1 (qM st (Int.toNat (gB st ti 2)) LL 2)])):=by kernel_rfl
theorem fr_3(th st ga le re ti:Int)(cp cl:Option Nat)(LL:List Int):follow (oB 3) ((FrR th st ga le re ti 3 cp cl LL).bind (cD [9,8]))=some (frC st ti 3 LL 3,(.ptr 9 0 0,47,[.cells 107 2 [.slice 8 0 (Int.toNat (gB st ti 3)) (some (Int.toNat (gB st ti 3))),aC],.ints 3 1 (qM st (Int.toNat (gB st ti 3)) LL 3)])):=by kernel_rfl
theorem fr_4(th st ga le re ti:Int)(cp cl:Option Nat)(LL:List Int):follow (oB 4) ((FrR th st ga le re ti 4 cp cl LL).bind (cD [9,8]))=some (frC st ti 4 LL 4,(.ptr 9 0 0,59,[.cells 107 2 [.slice 8 0 (Int.toNat (gB st ti 4)) (some (Int.toNat (gB st ti 4))),aC],.ints 3 1 (qM st (Int.toNat (gB st ti 4)) LL 4)])):=by kernel_rfl
theorem fr_5(th st ga le re ti:Int)(cp cl:Option Nat)(LL:List Int):follow (oB 5) ((FrR th st ga le re ti 5 cp cl LL).bind (cD [9,8]))=some (frC st ti 5 LL 5,(.ptr 9 0 0,71,[.cells 107 2 [.slice 8 0 (Int.toNat (gB st ti 5)) (some (Int.toNat (gB st ti 5))),aC],.ints 3 1 (qM st (Int.toNat (gB st ti 5)) LL 5)])):=by kernel_rfl
theorem fr_6(th st ga le re ti:Int)(cp cl:Option Nat)(LL:List Int):follow (oB 6) ((FrR th st ga le re ti 6 cp cl LL).bind (cD [9,8]))=some (frC st ti 6 LL 6,(.ptr 9 0 0,83,[.cells 107 2 [.slice 8 0 (Int.toNat (gB st ti 6)) (some (Int.toNat (gB st ti 6))),aC],.ints 3 1 (qM st (Int.toNat (gB st ti 6)) LL 6)])):=by kernel_rfl
theorem fr_7(th st ga le re ti:Int)(cp cl:Option Nat)(LL:List Int):follow (oB 7) ((FrR th st ga le re ti 7 cp cl LL).bind (cD [9,8]))=some (frC st ti 7 LL 7,(.ptr 9 0 0,95,[.cells 107 2 [.slice 8 0 (Int.toNat (gB st ti 7)) (some (Int.toNat (gB st ti 7))),aC],.ints 3 1 (qM st (Int.toNat (gB st ti 7)) LL 7)])):=by kernel_rfl
theorem fr_8(th st ga le re ti:Int)(cp cl:Option Nat)(LL:List Int):follow (oB 8) ((FrR th st ga le re ti 8 cp cl LL).bind (cD [9,8]))=some (frC st ti 8 LL 8,(.ptr 9 0 0,107,[.cells 107 2 [.slice 8 0 (Int.toNat (gB st ti 8)) (some (Int.toNat (gB st ti 8))),aC],.ints 3 1 (qM st (Int.toNat (gB st ti 8)) LL 8)])):=by kernel_rfl
theorem fr_9(th st ga le re ti:Int)(cp cl:Option Nat)(LL:List Int):follow (oB 9) ((FrR th st ga le re ti 9 cp cl LL).bind (cD [9,8]))=some (frC st ti 9 LL 9,(.ptr 9 0 0,119,[.cells 107 2 [.slice 8 0 (Int.toNat (gB st ti 9)) (some (Int.toNat (gB st ti 9))),aC],.ints 3 1 (qM st (Int.toNat (gB st ti 9)) LL 9)])):=by kernel_rfl
theorem fr_10(th st ga le re ti:Int)(cp cl:Option Nat)(LL:List Int):follow (oB 10) ((FrR th st ga le re ti 10 cp cl LL).bind (cD [9,8]))=some (frC st ti 10 LL 10,(.ptr 9 0 0,131,[.cells 107 2 [.slice 8 0 (Int.toNat (gB st ti 10)) (some (Int.toNat (gB st ti 10))),aC],.ints 3 1 (qM st (Int.toNat (gB st ti 10)) LL 10)])):=by kernel_rfl
theorem fr_11(th st ga le re ti:Int)(cp cl:Option Nat)(LL:List Int):follow (oB 11) ((FrR th st ga le re ti 11 cp cl LL).bind (cD [9,8]))=some (frC st ti 11 LL 11,(.ptr 9 0 0,143,[.cells 107 2 [.slice 8 0 (Int.toNat (gB st ti 11)) (some (Int.toNat (gB st ti 11))),aC],.ints 3 1 (qM st (Int.toNat (gB st ti 11)) LL 11)])):=by kernel_rfl
theorem fr_12(th st ga le re ti:Int)(cp cl:Option Nat)(LL:List Int):follow (oB 12) ((FrR th st ga le re ti 12 cp cl LL).bind (cD [9,8]))=some (frC st ti 12 LL 12,(.ptr 9 0 0,155,[.cells 107 2 [.slice 8 0 (Int.toNat (gB st ti 12)) (some (Int.toNat (gB st ti 12))),aC],.ints 3 1 (qM st (Int.toNat (gB st ti 12)) LL 12)])):=by kernel_rfl
end Go.Proofs.YtnkcbfgfkadoaaaGreat.Sx
