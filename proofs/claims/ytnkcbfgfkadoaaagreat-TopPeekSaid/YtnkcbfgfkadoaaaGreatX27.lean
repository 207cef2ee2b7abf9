/- Part 27 of the proof of TopPeek. -/
import Derived.Test.YtnkcbfgfkadoaaaGreatX26
set_option linter.all false
namespace Go.Proofs.YtnkcbfgfkadoaaaGreat.Sx
open Go
set_option maxRecDepth 100000
theorem ok1_ne(e:Env)(off nC:Nat)(cC:Option Nat)(c2 c3:Int):follow [(0,false),(6,false),(5,true),(0,true),(1,true),(7,false),(0,true),(0,true),(0,true),(4,true),(0,true),(0,true),(1,true),(0,true),(0,true),(0,true),(1,true),(0,true),(0,true),(0,true),(0,true),(2,true),(3,true),(4,true),(0,false),(23,true)] ((PF (e.tn:Int) (Env.pre e (.slice 4 0 e.ne none) aC (.slice 9 off nC cC) (.val .nilIface) (.cells 42 10 e.E) (.spot 37 3 off [.int .i64 1,.int .i64 c2,.int .i64 c3]) []) [1,2,3,6,7,8,9]).bind (iV [0,1,4,5,6] [0,4,5,10,11,14,112,72,113,73,71]))=
 some (xB e off nC++(fZ e.ti e.np e.W 1 c2 c3 !=0,false)::[(decide (1≤e.ti∧e.ti≤16∧(0:Int)≤e.tn∧(e.tn:Int)≤100),true)],(71,SX.normal,[],[.ptr 0 0 0,.int .i64 (e.tn:Int),.bool false,.ptr 5 0 0,.func (.func 55) [] [.ptr 10 0 0,.ptr 11 0 0]],114,[e.sO (.slice 14 0 (e.ne+1) none),
  .dead,
  kK (.slice 9 (aE off (Int.toNat 1)) (nC-1) (Option.map (fun x=>x-1) cC)) (1) (c2) (c3) (.iface 136 (.ptr 112 0 0)),
  .cells 49 1 [.ptr 0 0 0],
  .cells 3 1 [.int .i64 (e.tn:Int)],
  .cells 42 10 (List.take (bG e.ne 10) e.E++lB (0) ((e.tn:Int)) (1) (1) (c2) (c3) (0) (0) (false) (0)),
  .cells 155 19 [.int .i64 e.th,.int .i64 e.st,.int .i64 e.ga,.int .i64 e.le,.int .i64 e.re,.int .i64 e.ti,.slice 8 0 e.np e.cp,.val e.lv,.int .i64 c2,.int .i64 c3,.int .i64 (e.tn:Int),.ptr 72 0 0,aC,.slice 113 0 1 (some 1),.val .nilIface,.int .i64 0,.int .i64 0,.bool false,.int .i64 0],
  .cells 171 17 [.int .i64 e.th,.int .i64 e.st,.int .i64 e.ga,.int .i64 e.le,.int .i64 e.re,.int .i64 e.ti,.slice 8 0 e.np e.cp,.val e.lv,.slice 73 0 (Int.toNat e.ti) none,.bool false,.int .i64 0,.int .i64 0,.bool false,.int .i64 0,.int .i64 0,.bool false,.int .i64 0],
  .cells 159 2 [.func (.func 107) [] [.ptr 71 0 0],.func (.func 108) [.ptr 112 0 0] []],
  .ints 3 1 (qY e.ti ((e.tn:Int)) (Int.toNat e.ti)),
  .cells 136 1 [.ptr 112 0 0]])):=by kernel_rfl
theorem ok2_ne(e:Env)(off nC:Nat)(cC:Option Nat)(c2 c3:Int):follow [(0,false),(6,false),(5,true),(0,true),(1,true),(7,false),(0,true),(0,true),(0,true),(4,true),(0,true),(0,true),(1,true),(0,true),(0,true),(0,true),(1,true),(0,true),(0,true),(0,true),(0,true),(2,true),(3,true),(4,true),(0,false),(25,true)] ((PF (e.tn:Int) (Env.pre e (.slice 4 0 e.ne none) aC (.slice 9 off nC cC) (.val .nilIface) (.cells 42 10 e.E) (.spot 37 3 off [.int .i64 2,.int .i64 c2,.int .i64 c3]) []) [1,2,3,6,7,8,9]).bind (iV [0,1,4,5,6] [0,4,5,10,11,14,83,84]))=
 some (xB e off nC++(fZ e.ti e.np e.W 2 c2 c3 !=0,false)::[(decide (0≤e.st∧e.st≤8∧e.np≤100∧0≤kZ c3 e.ti∧kZ c3 e.ti≤100),true)],(71,SX.normal,[],[.ptr 0 0 0,.int .i64 (e.tn:Int),.bool false,.ptr 5 0 0,.func (.func 55) [] [.ptr 10 0 0,.ptr 11 0 0]],85,[e.sO (.slice 14 0 (e.ne+1) none),
  .dead,
  kK (.slice 9 (aE off (Int.toNat 1)) (nC-1) (Option.map (fun x=>x-1) cC)) (2) (c2) (c3) (.iface 138 (.ptr 83 0 0)),
  .cells 49 1 [.ptr 0 0 0],
  .cells 3 1 [.int .i64 (e.tn:Int)],
  .cells 42 10 (List.take (bG e.ne 10) e.E++lB (0) ((e.tn:Int)) (1) (2) (c2) (c3) (0) (0) (false) (0)),
  .cells 163 21 [.int .i64 e.th,.int .i64 e.st,.int .i64 e.ga,.int .i64 e.le,.int .i64 e.re,.int .i64 e.ti,.slice 8 0 e.np e.cp,.val e.lv,.int .i64 (aB e.st (e.np:Int)+2*kZ c3 e.ti),.int .i64 (uM c3 e.ti),.int .i64 (e.tn:Int),.int .i64 0,.slice 84 0 3 (some 3),.int .i64 0,.int .i64 0,.bool false,.int .i64 0,.int .i64 0,.int .i64 0,.bool false,.int .i64 0],
  .cells 181 1 [.func (.func 110) [.ptr 83 0 0] [],.func (.func 111) [.ptr 83 0 0] [],.func (.func 112) [.ptr 83 0 0] []]])):=by kernel_rfl
theorem ok3_ne(e:Env)(off nC:Nat)(cC:Option Nat)(c2 c3:Int):follow [(0,false),(6,false),(5,true),(0,true),(1,true),(7,false),(0,true),(0,true),(0,true),(4,true),(0,true),(0,true),(1,true),(0,true),(0,true),(0,true),(1,true),(0,true),(0,true),(0,true),(0,true),(2,true),(3,true),(4,true),(0,false),(25,true),(1,true)] ((PF (e.tn:Int) (Env.pre e (.slice 4 0 e.ne none) aC (.slice 9 off nC cC) (.val .nilIface) (.cells 42 10 e.E) (.spot 37 3 off [.int .i64 3,.int .i64 c2,.int .i64 c3]) []) [1,2,3,6,7,8,9]).bind (iV [0,1,4,5,6] [0,4,5,10,11,14,89,71]))=
 some (xB e off nC++(fZ e.ti e.np e.W 3 c2 c3 !=0,false)::[(decide (0≤e.st∧e.st≤8∧0≤c2∧c2≤100),true),(decide (0≤e.st∧e.st≤8∧0≤c2∧c2≤100),true)],(71,SX.normal,[],[.ptr 0 0 0,.int .i64 (e.tn:Int),.bool false,.ptr 5 0 0,.func (.func 55) [] [.ptr 10 0 0,.ptr 11 0 0]],90,[e.sO (.slice 14 0 (e.ne+1) none),
  .dead,
  kK (.slice 9 (aE off (Int.toNat 1)) (nC-1) (Option.map (fun x=>x-1) cC)) (3) (c2) (c3) (.iface 140 (.ptr 89 0 0)),
  .cells 49 1 [.ptr 0 0 0],
  .cells 3 1 [.int .i64 (e.tn:Int)],
  .cells 42 10 (List.take (bG e.ne 10) e.E++lB (0) ((e.tn:Int)) (1) (3) (c2) (c3) (0) (0) (false) (0)),
  .cells 185 11 [.int .i64 (aB e.st c2),.int .i64 (aB e.st c2+1),.int .i64 c2,.int .i64 c3,.int .i64 0,.slice 71 0 3 (some 3),.int .i64 0,.int .i64 0,.int .i64 0,.bool false,.int .i64 0],
  .cells 231 1 [.func (.func 114) [] [],.func (.func 115) [] [],.func (.func 116) [] []]])):=by kernel_rfl
theorem ok4_ne(e:Env)(off nC:Nat)(cC:Option Nat)(c2 c3:Int):follow [(0,false),(6,false),(5,true),(0,true),(1,true),(7,false),(0,true),(0,true),(0,true),(4,true),(0,true),(0,true),(1,true),(0,true),(0,true),(0,true),(1,true),(0,true),(0,true),(0,true),(0,true),(2,true),(3,true),(4,true),(0,false),(26,true),(1,true)] ((PF (e.tn:Int) (Env.pre e (.slice 4 0 e.ne none) aC (.slice 9 off nC cC) (.val .nilIface) (.cells 42 10 e.E) (.spot 37 3 off [.int .i64 4,.int .i64 c2,.int .i64 c3]) []) [1,2,3,6,7,8,9]).bind (iV [0,1,4,5,6] [0,4,5,10,11,14,89,71]))=
 some (xB e off nC++(fZ e.ti e.np e.W 4 c2 c3 !=0,false)::[(decide (0≤e.st∧e.st≤8∧0≤c2∧c2≤100),true),(decide (0≤e.st∧e.st≤8∧0≤c2∧c2≤100),true)],(71,SX.normal,[],[.ptr 0 0 0,.int .i64 (e.tn:Int),.bool false,.ptr 5 0 0,.func (.func 55) [] [.ptr 10 0 0,.ptr 11 0 0]],90,[e.sO (.slice 14 0 (e.ne+1) none),
  .dead,
  kK (.slice 9 (aE off (Int.toNat 1)) (nC-1) (Option.map (fun x=>x-1) cC)) (4) (c2) (c3) (.iface 140 (.ptr 89 0 0)),
  .cells 49 1 [.ptr 0 0 0],
  .cells 3 1 [.int .i64 (e.tn:Int)],
  .cells 42 10 (List.take (bG e.ne 10) e.E++lB (0) ((e.tn:Int)) (1) (4) (c2) (c3) (0) (0) (false) (0)),
  .cells 185 11 [.int .i64 (aB e.st c2),.int .i64 (aB e.st c2+1),.int .i64 c2,.int .i64 c3,.int .i64 0,.slice 71 0 3 (some 3),.int .i64 0,.int .i64 0,.int .i64 0,.bool false,.int .i64 0],
  .cells 231 1 [.func (.func 117) [] [],.func (.func 118) [] [],.func (.func 119) [] []]])):=by kernel_rfl
theorem ok5_ne(e:Env)(off nC:Nat)(cC:Option Nat)(c2 c3:Int):follow [(0,false),(6,false),(5,true),(0,true),(1,true),(7,false),(0,true),(0,true),(0,true),(4,true),(0,true),(0,true),(1,true),(0,true),(0,true),(0,true),(1,true),(0,true),(0,true),(0,true),(0,true),(2,true),(3,true),(4,true),(0,false),(27,true),(1,true)] ((PF (e.tn:Int) (Env.pre e (.slice 4 0 e.ne none) aC (.slice 9 off nC cC) (.val .nilIface) (.cells 42 10 e.E) (.spot 37 3 off [.int .i64 5,.int .i64 c2,.int .i64 c3]) []) [1,2,3,6,7,8,9]).bind (iV [0,1,4,5,6] [0,4,5,10,11,14,79,83,80,82,81]))=
 some (xB e off nC++(fZ e.ti e.np e.W 5 c2 c3 !=0,false)::[(decide (0≤e.st∧e.st≤8∧0≤c2∧c2≤100),true),(decide ((e.st=1∨e.st=2∨e.st=4∨e.st=8)∧0≤aB e.st c2+2+e.st∧aB e.st c2+2+e.st≤100000),true)],(71,SX.normal,[],[.ptr 0 0 0,.int .i64 (e.tn:Int),.bool false,.ptr 5 0 0,.func (.func 55) [] [.ptr 10 0 0,.ptr 11 0 0]],180,[e.sO (.slice 14 0 (e.ne+1) none),
  .dead,
  kK (.slice 9 (aE off (Int.toNat 1)) (nC-1) (Option.map (fun x=>x-1) cC)) (5) (c2) (c3) (.iface 142 (.ptr 79 0 0)),
  .cells 49 1 [.ptr 0 0 0],
  .cells 3 1 [.int .i64 (e.tn:Int)],
  .cells 42 10 (List.take (bG e.ne 10) e.E++lB (0) ((e.tn:Int)) (1) (5) (c2) (c3) (0) (0) (false) (0)),
  .cells 189 10 [.int .i64 (aB e.st c2+2+e.st),.int .i64 (e.st.toNat:Int),.int .i64 e.re,.func (.func 167) [] [.ptr 83 0 0,.ptr 80 0 0],.func (.func 168) [] [.ptr 80 0 0,.ptr 83 0 0,.ptr 82 0 0],.int .i64 0,.int .i64 0,.bool false,.int .i64 0,.bool false],
  .cells 22 1 [.slice 81 0 (4+2*Int.toNat e.st) none],
  .cells 22 1 [aC],
  .cells 142 1 [.ptr 79 0 0],
  .ints 3 1 (dA (aB e.st c2+2+e.st) (Int.toNat e.st))])):=by kernel_rfl
theorem ok6_ne(e:Env)(off nC:Nat)(cC:Option Nat)(c2 c3:Int):follow [(0,false),(6,false),(5,true),(0,true),(1,true),(7,false),(0,true),(0,true),(0,true),(4,true),(0,true),(0,true),(1,true),(0,true),(0,true),(0,true),(1,true),(0,true),(0,true),(0,true),(0,true),(2,true),(3,true),(4,true),(0,false),(28,true)] ((PF (e.tn:Int) (Env.pre e (.slice 4 0 e.ne none) aC (.slice 9 off nC cC) (.val .nilIface) (.cells 42 10 e.E) (.spot 37 3 off [.int .i64 6,.int .i64 c2,.int .i64 c3]) []) [1,2,3,6,7,8,9]).bind (iV [0,1,4,5,6] [0,4,5,10,11,14,80,79,81]))=
 some (xB e off nC++(fZ e.ti e.np e.W 6 c2 c3 !=0,false)::[(decide (0≤e.st∧e.st≤8∧0≤c2∧c2≤100),true)],(71,SX.normal,[],[.ptr 0 0 0,.int .i64 (e.tn:Int),.bool false,.ptr 5 0 0,.func (.func 55) [] [.ptr 10 0 0,.ptr 11 0 0]],82,[e.sO (.slice 14 0 (e.ne+1) none),
  .dead,
  kK (.slice 9 (aE off (Int.toNat 1)) (nC-1) (Option.map (fun x=>x-1) cC)) (6) (c2) (c3) (.iface 142 (.ptr 80 0 0)),
  .cells 49 1 [.ptr 0 0 0],
  .cells 3 1 [.int .i64 (e.tn:Int)],
  .cells 42 10 (List.take (bG e.ne 10) e.E++lB (0) ((e.tn:Int)) (1) (6) (c2) (c3) (0) (0) (false) (0)),
  .cells 189 10 [.int .i64 (aB e.st c2+2+e.st),.int .i64 0,.int .i64 0,.func (.func 149) [] [.ptr 79 0 0],.func (.func 150) [] [.ptr 81 0 0],.int .i64 0,.int .i64 0,.bool false,.int .i64 0,.bool false],
  .cells 3 1 [.int .i64 (aB e.st c2+2+e.st)],
  .cells 142 1 [.ptr 80 0 0]])):=by kernel_rfl
theorem ok1_le(e:Env)(off nC:Nat)(cC:Option Nat)(c2 c3:Int):follow [(0,false),(6,false),(5,true),(0,true),(1,true),(7,false),(0,true),(0,true),(0,true),(4,true),(0,true),(0,true),(1,true),(0,true),(0,true),(0,true),(1,true),(0,true),(0,true),(0,true),(0,true),(2,true),(2,true),(3,true),(3,true),(4,true),(0,false),(23,true)] ((PF (e.tn:Int) (Env.pre e (.slice 4 0 e.ne none) (.slice 10 0 e.nL none) (.slice 9 off nC cC) (.val .nilIface) (.cells 42 10 e.E) (.spot 37 3 off [.int .i64 1,.int .i64 c2,.int .i64 c3]) [.any 122 5 e.nL]) [1,2,3,6,7,8,9,10]).bind (iV [0,1,4,5,6] [0,4,5,11,12,17,115,75,116,76,74]))=
 some (xC e off nC++(fZ e.ti e.np e.W 1 c2 c3 !=0,false)::[(decide (1≤e.ti∧e.ti≤16∧(0:Int)≤e.tn∧(e.tn:Int)≤100),true)],(71,SX.normal,[],[.ptr 0 0 0,.int .i64 (e.tn:Int),.bool false,.ptr 5 0 0,.func (.func 55) [] [.ptr 11 0 0,.ptr 12 0 0]],117,[e.sO (.slice 17 0 (e.ne+1) none),
  .dead,
  kK (.slice 9 (aE off (Int.toNat 1)) (nC-1) (Option.map (fun x=>x-1) cC)) (1) (c2) (c3) (.iface 136 (.ptr 115 0 0)),
  .cells 49 1 [.ptr 0 0 0],
  .cells 3 1 [.int .i64 (e.tn:Int)],
  .cells 42 10 (List.take (bG e.ne 10) e.E++lB (((0+e.nL:Nat):Int)) ((e.tn:Int)) (1) (1) (c2) (c3) (0) (0) (false) (0)),
  .cells 155 19 [.int .i64 e.th,.int .i64 e.st,.int .i64 e.ga,.int .i64 e.le,.int .i64 e.re,.int .i64 e.ti,.slice 8 0 e.np e.cp,.val e.lv,.int .i64 c2,.int .i64 c3,.int .i64 (e.tn:Int),.ptr 75 0 0,aC,.slice 116 0 1 (some 1),.val .nilIface,.int .i64 0,.int .i64 0,.bool false,.int .i64 0],
  .cells 171 17 [.int .i64 e.th,.int .i64 e.st,.int .i64 e.ga,.int .i64 e.le,.int .i64 e.re,.int .i64 e.ti,.slice 8 0 e.np e.cp,.val e.lv,.slice 76 0 (Int.toNat e.ti) none,.bool false,.int .i64 0,.int .i64 0,.bool false,.int .i64 0,.int .i64 0,.bool false,.int .i64 0],
  .cells 159 2 [.func (.func 107) [] [.ptr 74 0 0],.func (.func 108) [.ptr 115 0 0] []],
  .ints 3 1 (qY e.ti ((e.tn:Int)) (Int.toNat e.ti)),
  .cells 136 1 [.ptr 115 0 0]])):=by kernel_rfl
theorem ok2_le(e:Env)(off nC:Nat)(cC:Option Nat)(c2 c3:Int):follow [(0,false),(6,false),(5,true),(0,true),(1,true),(7,false),(0,true),(0,true),(0,true),(4,true),(0,true),(0,true),(1,true),(0,true),(0,true),(0,true),(1,true),(0,true),(0,true),(0,true),(0,true),(2,true),(2,true),(3,true),(3,true),(4,true),(0,false),(25,true)] ((PF (e.tn:Int) (Env.pre e (.slice 4 0 e.ne none) (.slice 10 0 e.nL none) (.slice 9 off nC cC) (.val .nilIface) (.cells 42 10 e.E) (.spot 37 3 off [.int .i64 2,.int .i64 c2,.int .i64 c3]) [.any 122 5 e.nL]) [1,2,3,6,7,8,9,10]).bind (iV [0,1,4,5,6] [0,4,5,11,12,17,86,87]))=
 some (xC e off nC++(fZ e.ti e.np e.W 2 c2 c3 !=0,false)::[(decide (0≤e.st∧e.st≤8∧e.np≤100∧0≤kZ c3 e.ti∧kZ c3 e.ti≤100),true)],(71,SX.normal,[],[.ptr 0 0 0,.int .i64 (e.tn:Int),.bool false,.ptr 5 0 0,.func (.func 55) [] [.ptr 11 0 0,.ptr 12 0 0]],88,[e.sO (.slice 17 0 (e.ne+1) none),
  .dead,
  kK (.slice 9 (aE off (Int.toNat 1)) (nC-1) (Option.map (fun x=>x-1) cC)) (2) (c2) (c3) (.iface 138 (.ptr 86 0 0)),
  .cells 49 1 [.ptr 0 0 0],
  .cells 3 1 [.int .i64 (e.tn:Int)],
  .cells 42 10 (List.take (bG e.ne 10) e.E++lB (((0+e.nL:Nat):Int)) ((e.tn:Int)) (1) (2) (c2) (c3) (0) (0) (false) (0)),
  .cells 163 21 [.int .i64 e.th,.int .i64 e.st,.int .i64 e.ga,.int .i64 e.le,.int .i64 e.re,.int .i64 e.ti,.slice 8 0 e.np e.cp,.val e.lv,.int .i64 (aB e.st (e.np:Int)+2*kZ c3 e.ti),.int .i64 (uM c3 e.ti),.int .i64 (e.tn:Int),.int .i64 0,.slice 87 0 3 (some 3),.int .i64 0,.int .i64 0,.bool false,.int .i64 0,.int .i64 0,.int .i64 0,.bool false,.int .i64 0],
  .cells 181 1 [.func (.func 110) [.ptr 86 0 0] [],.func (.func 111) [.ptr 86 0 0] [],.func (.func 112) [.ptr 86 0 0] []]])):=by kernel_rfl
theorem ok3_le(e:Env)(off nC:Nat)(cC:Option Nat)(c2 c3:Int):follow [(0,false),(6,false),(5,true),(0,true),(1,true),(7,false),(0,true),(0,true),(0,true),(4,true),(0,true),(0,true),(1,true),(0,true),(0,true),(0,true),(1,true),(0,true),(0,true),(0,true),(0,true),(2,true),(2,true),(3,true),(3,true),(4,true),(0,false),(25,true),(1,true)] ((PF (e.tn:Int) (Env.pre e (.slice 4 0 e.ne none) (.slice 10 0 e.nL none) (.slice 9 off nC cC) (.val .nilIface) (.cells 42 10 e.E) (.spot 37 3 off [.int .i64 3,.int .i64 c2,.int .i64 c3]) [.any 122 5 e.nL]) [1,2,3,6,7,8,9,10]).bind (iV [0,1,4,5,6] [0,4,5,11,12,17,92,74]))=
 some (xC e off nC++(fZ e.ti e.np e.W 3 c2 c3 !=0,false)::[(decide (0≤e.st∧e.st≤8∧0≤c2∧c2≤100),true),(decide (0≤e.st∧e.st≤8∧0≤c2∧c2≤100),true)],(71,SX.normal,[],[.ptr 0 0 0,.int .i64 (e.tn:Int),.bool false,.ptr 5 0 0,.func (.func 55) [] [.ptr 11 0 0,.ptr 12 0 0]],93,[e.sO (.slice 17 0 (e.ne+1) none),
  .dead,
  kK (.slice 9 (aE off (Int.toNat 1)) (nC-1) (Option.map (fun x=>x-1) cC)) (3) (c2) (c3) (.iface 140 (.ptr 92 0 0)),
  .cells 49 1 [.ptr 0 0 0],
  .cells 3 1 [.int .i64 (e.tn:Int)],
  .cells 42 10 (List.take (bG e.ne 10) e.E++lB (((0+e.nL:Nat):Int)) ((e.tn:Int)) (1) (3) (c2) (c3) (0) (0) (false) (0)),
  .cells 185 11 [.int .i64 (aB e.st c2),.int .i64 (aB e.st c2+1),.int .i64 c2,.int .i64 c3,.int .i64 0,.slice 74 0 3 (some 3),.int .i64 0,.int .i64 0,.int .i64 0,.bool false,.int .i64 0],
  .cells 231 1 [.func (.func 114) [] [],.func (.func 115) [] [],.func (.func 116) [] []]])):=by kernel_rfl
theorem ok4_le(e:Env)(off nC:Nat)(cC:Option Nat)(c2 c3:Int):follow [(0,false),(6,false),(5,true),(0,true),(1,true),(7,false),(0,true),(0,true),(0,true),(4,true),(0,true),(0,true),(1,true),(0,true),(0,true),(0,true),(1,true),(0,true),(0,true),(0,true),(0,true),(2,true),(2,true),(3,true),(3,true),(4,true),(0,false),(26,true),(1,true)] ((PF (e.tn:Int) (Env.pre e (.slice 4 0 e.ne none) (.slice 10 0 e.nL none) (.slice 9 off nC cC) (.val .nilIface) (.cells 42 10 e.E) (.spot 37 3 off [.int .i64 4,.int .i64 c2,.int .i64 c3]) [.any 122 5 e.nL]) [1,2,3,6,7,8,9,10]).bind (iV [0,1,4,5,6] [0,4,5,11,12,17,92,74]))=
 some (xC e off nC++(fZ e.ti e.np e.W 4 c2 c3 !=0,false)::[(decide (0≤e.st∧e.st≤8∧0≤c2∧c2≤100),true),(decide (0≤e.st∧e.st≤8∧0≤c2∧c2≤100),true)],(71,SX.normal,[],[.ptr 0 0 0,.int .i64 (e.tn:Int),.bool false,.ptr 5 0 0,.func (.func 55) [] [.ptr 11 0 0,.ptr 12 0 0]],93,[e.sO (.slice 17 0 (e.ne+1) none),
  .dead,
  kK (.slice 9 (aE off (Int.toNat 1)) (nC-1) (Option.map (fun x=>x-1) cC)) (4) (c2) (c3) (.iface 140 (.ptr 92 0 0)),
  .cells 49 1 [.ptr 0 0 0],
  .cells 3 1 [.int .i64 (e.tn:Int)],
  .cells 42 10 (List.take (bG e.ne 10) e.E++lB (((0+e.nL:Nat):Int)) ((e.tn:Int)) (1) (4) (c2) (c3) (0) (0) (false) (0)),
  .cells 185 11 [.int .i64 (aB e.st c2),.int .i64 (aB e.st c2+1),.int .i64 c2,.int .i64 c3,.int .i64 0,.slice 74 0 3 (some 3),.int .i64 0,.int .i64 0,.int .i64 0,.bool false,.int .i64 0],
  .cells 231 1 [.func (.func 117) [] [],.func (.func 118) [] [],.func (.func 119) [] []]])):=by kernel_rfl
theorem ok5_le(e:Env)(off nC:Nat)(cC:Option Nat)(c2 c3:Int):follow [(0,false),(6,false),(5,true),(0,true),(1,true),(7,false),(0,true),(0,true),(0,true),(4,true),(0,true),(0,true),(1,true),(0,true),(0,true),(0,true),(1,true),(0,true),(0,true),(0,true),(0,true),(2,true),(2,true),(3,true),(3,true),(4,true),(0,false),(27,true),(1,true)] ((PF (e.tn:Int) (Env.pre e (.slice 4 0 e.ne none) (.slice 10 0 e.nL none) (.slice 9 off nC cC) (.val .nilIface) (.cells 42 10 e.E) (.spot 37 3 off [.int .i64 5,.int .i64 c2,.int .i64 c3]) [.any 122 5 e.nL]) [1,2,3,6,7,8,9,10]).bind (iV [0,1,4,5,6] [0,4,5,11,12,17,82,86,83,85,84]))=
 some (xC e off nC++(fZ e.ti e.np e.W 5 c2 c3 !=0,false)::[(decide (0≤e.st∧e.st≤8∧0≤c2∧c2≤100),true),(decide ((e.st=1∨e.st=2∨e.st=4∨e.st=8)∧0≤aB e.st c2+2+e.st∧aB e.st c2+2+e.st≤100000),true)],(71,SX.normal,[],[.ptr 0 0 0,.int .i64 (e.tn:Int),.bool false,.ptr 5 0 0,.func (.func 55) [] [.ptr 11 0 0,.ptr 12 0 0]],183,[e.sO (.slice 17 0 (e.ne+1) none),
  .dead,
  kK (.slice 9 (aE off (Int.toNat 1)) (nC-1) (Option.map (fun x=>x-1) cC)) (5) (c2) (c3) (.iface 142 (.ptr 82 0 0)),
  .cells 49 1 [.ptr 0 0 0],
  .cells 3 1 [.int .i64 (e.tn:Int)],
  .cells 42 10 (List.take (bG e.ne 10) e.E++lB (((0+e.nL:Nat):Int)) ((e.tn:Int)) (1) (5) (c2) (c3) (0) (0) (false) (0)),
  .cells 189 10 [.int .i64 (aB e.st c2+2+e.st),.int .i64 (e.st.toNat:Int),.int .i64 e.re,.func (.func 167) [] [.ptr 86 0 0,.ptr 83 0 0],.func (.func 168) [] [.ptr 83 0 0,.ptr 86 0 0,.ptr 85 0 0],.int .i64 0,.int .i64 0,.bool false,.int .i64 0,.bool false],
  .cells 22 1 [.slice 84 0 (4+2*Int.toNat e.st) none],
  .cells 22 1 [aC],
  .cells 142 1 [.ptr 82 0 0],
  .ints 3 1 (dA (aB e.st c2+2+e.st) (Int.toNat e.st))])):=by kernel_rfl
theorem ok6_le(e:Env)(off nC:Nat)(cC:Option Nat)(c2 c3:Int):follow [(0,false),(6,false),(5,true),(0,true),(1,true),(7,false),(0,true),(0,true),(0,true),(4,true),(0,true),(0,true),(1,true),(0,true),(0,true),(0,true),(1,true),(0,true),(0,true),(0,true),(0,true),(2,true),(2,true),(3,true),(3,true),(4,true),(0,false),(28,true)] ((PF (e.tn:Int) (Env.pre e (.slice 4 0 e.ne none) (.slice 10 0 e.nL none) (.slice 9 off nC cC) (.val .nilIface) (.cells 42 10 e.E) (.spot 37 3 off [.int .i64 6,.int .i64 c2,.int .i64 c3]) [.any 122 5 e.nL]) [1,2,3,6,7,8,9,10]).bind (iV [0,1,4,5,6] [0,4,5,11,12,17,83,82,84]))=
 some (xC e off nC++(fZ e.ti e.np e.W 6 c2 c3 !=0,false)::[(decide (0≤e.st∧e.st≤8∧0≤c2∧c2≤100),true)],(71,SX.normal,[],[.ptr 0 0 0,.int .i64 (e.tn:Int),.bool false,.ptr 5 0 0,.func (.func 55) [] [.ptr 11 0 0,.ptr 12 0 0]],85,[e.sO (.slice 17 0 (e.ne+1) none),
  .dead,
  kK (.slice 9 (aE off (Int.toNat 1)) (nC-1) (Option.map (fun x=>x-1) cC)) (6) (c2) (c3) (.iface 142 (.ptr 83 0 0)),
  .cells 49 1 [.ptr 0 0 0],
  .cells 3 1 [.int .i64 (e.tn:Int)],
  .cells 42 10 (List.take (bG e.ne 10) e.E++lB (((0+e.nL:Nat):Int)) ((e.tn:Int)) (1) (6) (c2) (c3) (0) (0) (false) (0)),
  .cells 189 10 [.int .i64 (aB e.st c2+2+e.st),.int .i64 0,.int .i64 0,.func (.func 149) [] [.ptr 82 0 0],.func (.func 150) [] [.ptr 84 0 0],.int .i64 0,.int .i64 0,.bool false,.int .i64 0,.bool false],
  .cells 3 1 [.int .i64 (aB e.st c2+2+e.st)],
  .cells 142 1 [.ptr 83 0 0]])):=by kernel_rfl
theorem err_nn(e:Env)(off nC:Nat)(cC:Option Nat)(c1 c2 c3:Int):follow [(0,false),(6,false),(5,true),(0,true),(1,true),(7,false),(0,true),(0,true),(0,true),(4,true),(0,true),(0,true),(1,true),(0,true),(0,true),(0,true),(1,true),(0,true),(0,true),(0,true),(0,true),(11,true),(0,true),(0,true),(0,true),(0,true)] ((PF (e.tn:Int) (Env.pre e aC aC (.slice 9 off nC cC) (.val .nilIface) .dead (.spot 37 3 off [.int .i64 c1,.int .i64 c2,.int .i64 c3]) []) [1,2,3,4,6,7,8,9]).bind (iV [4] [0,5,10,11,67]))=
 some (xA e off nC++[((fZ e.ti e.np e.W c1 c2 c3)!=0,true),(decide ((0:Int)≤e.tn),true),(decide ((e.tn:Int)<e.nt),true),(Nat.beq (aE 0 (Int.toNat e.tn)) e.tn,true)],(71,SX.ret,[],[.bool true],68,[e.sO (.slice 67 0 2 none),
  kK (.slice 9 (aE off (Int.toNat 1)) (nC-Int.toNat 1) (Option.map (fun x=>x-Int.toNat 1) cC)) c1 c2 c3 (.val .nilIface),
  .cells 49 1 [.ptr 0 0 0],
  .cells 3 1 [.int .i64 (e.tn:Int)],
  .cells 42 10 (lB 0 (e.tn:Int) 1 c1 c2 c3 0 0 false 0++lB 0 (e.tn:Int) 2 c1 c2 c3 (fZ e.ti e.np e.W c1 c2 c3) 0 false 0)])):=by kernel_rfl
theorem err_ne(e:Env)(off nC:Nat)(cC:Option Nat)(c1 c2 c3:Int):follow [(0,false),(6,false),(5,true),(0,true),(1,true),(7,false),(0,true),(0,true),(0,true),(4,true),(0,true),(0,true),(1,true),(0,true),(0,true),(0,true),(1,true),(0,true),(0,true),(0,true),(0,true),(2,true),(3,true),(4,true),(0,true),(0,true),(0,true),(0,true),(2,true),(3,true)] ((PF (e.tn:Int) (Env.pre e (.slice 4 0 e.ne none) aC (.slice 9 off nC cC) (.val .nilIface) (.cells 42 10 e.E) (.spot 37 3 off [.int .i64 c1,.int .i64 c2,.int .i64 c3]) []) [1,2,3,6,7,8,9]).bind (iV [4] [0,4,5,10,11,67]))=
 some (xB e off nC++[((fZ e.ti e.np e.W c1 c2 c3)!=0,true),(decide ((0:Int)≤e.tn),true),(decide ((e.tn:Int)<e.nt),true),(Nat.beq (aE 0 (Int.toNat e.tn)) e.tn,true),(Nat.ble (bG (aE 0 (e.ne+1)) 10) (List.length (List.take (bG e.ne 10) e.E++lB 0 (e.tn:Int) 1 c1 c2 c3 0 0 false 0)),true),(Nat.ble (e.ne+1+1) 1000000000,true)],(71,SX.ret,[],[.bool true],68,[e.sO (.slice 67 0 (e.ne+1+1) none),
  .dead,
  kK (.slice 9 (aE off (Int.toNat 1)) (nC-Int.toNat 1) (Option.map (fun x=>x-Int.toNat 1) cC)) c1 c2 c3 (.val .nilIface),
  .cells 49 1 [.ptr 0 0 0],
  .cells 3 1 [.int .i64 (e.tn:Int)],
  .cells 42 10 (List.take (bG (e.ne+1) 10) (List.take (bG e.ne 10) e.E++lB 0 (e.tn:Int) 1 c1 c2 c3 0 0 false 0)++lB 0 (e.tn:Int) 2 c1 c2 c3 (fZ e.ti e.np e.W c1 c2 c3) 0 false 0)])):=by kernel_rfl
theorem err_le(e:Env)(off nC:Nat)(cC:Option Nat)(c1 c2 c3:Int):follow [(0,false),(6,false),(5,true),(0,true),(1,true),(7,false),(0,true),(0,true),(0,true),(4,true),(0,true),(0,true),(1,true),(0,true),(0,true),(0,true),(1,true),(0,true),(0,true),(0,true),(0,true),(2,true),(2,true),(3,true),(3,true),(4,true),(0,true),(0,true),(0,true),(0,true),(2,true),(2,true),(3,true),(3,true)] ((PF (e.tn:Int) (Env.pre e (.slice 4 0 e.ne none) (.slice 10 0 e.nL none) (.slice 9 off nC cC) (.val .nilIface) (.cells 42 10 e.E) (.spot 37 3 off [.int .i64 c1,.int .i64 c2,.int .i64 c3]) [.any 122 5 e.nL]) [1,2,3,6,7,8,9,10]).bind (iV [4] [0,4,5,11,12,72]))=
 some (xC e off nC++[((fZ e.ti e.np e.W c1 c2 c3)!=0,true),(decide ((0:Int)≤e.tn),true),(decide ((e.tn:Int)<e.nt),true),(Nat.beq (aE 0 (Int.toNat e.tn)) e.tn,true),(Nat.ble (aE 0 e.nL) e.nL,true),(Nat.ble (0+e.nL) 1000000000,true),(Nat.ble (bG (aE 0 (e.ne+1)) 10) (List.length (List.take (bG e.ne 10) e.E++lB ((0+e.nL:Nat):Int) (e.tn:Int) 1 c1 c2 c3 0 0 false 0)),true),(Nat.ble (e.ne+1+1) 1000000000,true)],(71,SX.ret,[],[.bool true],73,[e.sO (.slice 72 0 (e.ne+1+1) none),
  .dead,
  kK (.slice 9 (aE off (Int.toNat 1)) (nC-Int.toNat 1) (Option.map (fun x=>x-Int.toNat 1) cC)) c1 c2 c3 (.val .nilIface),
  .cells 49 1 [.ptr 0 0 0],
  .cells 3 1 [.int .i64 (e.tn:Int)],
  .cells 42 10 (List.take (bG (e.ne+1) 10) (List.take (bG e.ne 10) e.E++lB ((0+e.nL:Nat):Int) (e.tn:Int) 1 c1 c2 c3 0 0 false 0)++lB ((0+e.nL:Nat):Int) (e.tn:Int) 2 c1 c2 c3 (fZ e.ti e.np e.W c1 c2 c3) 0 false 0)])):=by kernel_rfl
def Env.out(e:Env):List SO:=[e.sO .any,.dead,.dead,.dead,.dead,.dead,.dead,.dead,.dead,.dead]
def Env.idle(e:Env)(lf now:SV):List SO:=[e.sO .any,.dead,.dead,.spot 69 1 e.tn [.ptr 5 0 0],.dead,kK lf e.k1 e.k2 e.k3 now,.dead,.dead,.dead,.dead]
theorem out_0(e:Env)(n:Int):follow [(0,true)] ((PF n e.out [0,1,2,3,4,5,6,7,8,9]).bind (iV [4] []))=some ([(decide (n<0),true)],(71,SX.ret,[],[.bool false],10,[])):=by kernel_rfl
theorem out_1(e:Env)(n:Int):follow [(0,false),(6,true)] ((PF n e.out [0,1,2,3,4,5,6,7,8,9]).bind (iV [4] []))=some ([(decide (n<0),false),(decide (n≥(e.nt:Int)),true)],(71,SX.ret,[],[.bool false],10,[])):=by kernel_rfl
theorem idle_0(e:Env)(off nC:Nat)(cC:Option Nat):follow [(0,false),(6,false),(5,true),(0,true),(1,true),(7,true)] ((PF (e.tn:Int) (e.idle (.slice 9 off nC cC) (.val .nilIface)) [0,1,2,3,4,5,6,7,8,9]).bind (iV [4] []))=some ([(decide ((e.tn:Int)<0),false),(decide ((e.tn:Int)≥e.nt),false),(decide ((0:Int)≤e.tn),true),(decide ((e.tn:Int)<e.nt),true),(Nat.beq (aE 0 (Int.toNat e.tn)) e.tn,true),((nC:Int)==0,true)],(71,SX.ret,[],[.bool false],10,[])):=by kernel_rfl
theorem busy_0(e:Env)(ty:Nat):follow [(0,false),(6,false),(5,true),(0,true),(1,true),(8,true),(0,true),(0,true)] ((PF (e.tn:Int) (e.idle .any (.iface ty (.ptr 6 0 0))) [0,1,2,3,4,5,6,7,8,9]).bind (iV [0,1,4,5,6] [10,11]))=some ([(decide ((e.tn:Int)<0),false),(decide ((e.tn:Int)≥e.nt),false),(decide ((0:Int)≤e.tn),true),(decide ((e.tn:Int)<e.nt),true),(Nat.beq (aE 0 (Int.toNat e.tn)) e.tn,true),(decide ((0:Int)≤e.tn),true),(decide ((e.tn:Int)<e.nt),true),(Nat.beq (aE 0 (Int.toNat e.tn)) e.tn,true)],(71,SX.normal,[],[.ptr 0 0 0,.int .i64 (e.tn:Int),.bool false,.ptr 5 0 0,.func (.func 55) [] [.ptr 10 0 0,.ptr 11 0 0]],12,[.cells 49 1 [.ptr 0 0 0],.cells 3 1 [.int .i64 (e.tn:Int)]])):=by kernel_rfl
end Go.Proofs.YtnkcbfgfkadoaaaGreat.Sx
namespace Go.Proofs.YtnkcbfgfkadoaaaGreat.Sx
open Go
set_option maxRecDepth 10000
def vI(nL i:Nat)(c1 c2 c3:Int):Ev:=⟨(nL:Int),(i:Int),1,c1,c2,c3,0,0,false,0⟩
section
variable{h:H}{own:Nat→Nat}{C:bS}{W:List Int}{nL:Nat}{aD:List Ev}{aL:List Nat}{N:Names}{i t lr off nC:Nat}{cC:Option Nat}{k1 k2 k3 c1 c2 c3:Int}{cl:List SV}
theorem beg_path(b:Beg h own C W nL aD aL N i t lr off nC cC k1 k2 k3 c1 c2 c3 cl){ls:List Nat}{os oV:List SO}{n ps pn:Nat}{way:Way}{cs:kB}
 (T:follow way ((PF (i:Int) (tR C W nL aD aL N i off nC cC k1 k2 k3 c1 c2 c3) (RP nL aD)).bind (iV [0,1,4,5,6] ls))=some (cs,(71,SX.normal,[],[.ptr 0 0 0,.int .i64 (i:Int),.bool false,.ptr 5 0 0,.func (.func 55) [] [.ptr ps 0 0,.ptr pn 0 0]],n,oV)))
 (hc:holds cs)(hwk:rN oV os)(okls:fO (10+(gT nL).length) (RP nL aD) n ls=true)(dM:os.all SO.plain=true)(hK:Nat.ble (n-(10+(gT nL).length)) 200=true)(h6:h.n+200≤1000000):
 let q:=nx h.n (10+(gT nL).length) [] (wZ C N t lr aD nL)
 PreGo h (h.lay 200 (laid q ls os)) N.ns i t (q ps) (q pn):=by
 intro q m Q ρ a w hr ha hq;have hk:(tR C W nL aD aL N i off nC cC k1 k2 k3 c1 c2 c3).length=10+(gT nL).length:=uW;have eK:eU (RP nL aD) (tR C W nL aD aL N i off nC cC k1 k2 k3 c1 c2 c3)=true:=by cases aD<;>cases nL<;>rfl
 have q0:q 0=N.ns:=by show nx _ _ _ _ 0=_;unfold nx;rw[if_pos (by omega)];rfl
 have q5:q 5=t:=by show nx _ _ _ _ 5=_;unfold nx;rw[if_pos (by omega)];rfl
 refine go_preP mR T hc hwk (beg_fit b (by omega)) rfl eK (by rw[hk];exact okls) dM (by rw[hk];exact Nat.le_of_ble_eq_true hK) (j:=[]) (by simp) h6 hr ha fun aW a' w' p1 p2 p3 p4 p5=>?_
 rw[hk]at p1 p2 p3;show(rO 4 (bR 12)).wpIn Fence.wide m Tryz.prog Q a' w';simp only[SV.rens,SV.ren,List.map_cons,List.map_nil,bM,and_true]at p3;obtain⟨v0,v1,v4,v5,v6⟩:=p3;refine hq aW a' w' p1 p2 ⟨p4,by rw[p5];rfl,?_,v1,v4,?_,v6⟩
 ·rw[show nx h.n (10+(gT nL).length) [] (wZ C N t lr aD nL) 0=N.ns from q0]at v0;exact v0
 ·rw[show nx h.n (10+(gT nL).length) [] (wZ C N t lr aD nL) 5=t from q5]at v5;exact v5
def BgnR(h:H)(own:Nat→Nat)(C:bS)(W:List Int)(nL:Nat)(aD:List Ev)(aL:List Nat)(N:Names)(i t lr off nC:Nat)(cC:Option Nat)(c1 c2 c3:Int):Prop:=
 ∃(h1:H) (cO:Nat→Nat) (pe sb nb:Nat) (now:SV) (ob:mB) (ν:Nat→Nat),PreGo h h1 N.ns i t sb nb∧h1.n=h.n+200∧Core h1 cO C W nL (aD++[vI nL i c1 c2 c3]) aL {N with ne:=pe}∧BJ h h1 own cO i∧
  At h1 cO t (tg i 0) (kK (.slice lr (off+1) (nC-1) (cC.map fun x=>x-1)) c1 c2 c3 (now.ren (rv C.P ν)))∧At h1 cO sb (tg i 998) (.cells 49 1 [.ptr N.ns 0 0])∧At h1 cO nb (tg i 999) (.cells 3 1 [.int .i64 ↑i])∧jJ h1 cO i C.P ν ob∧Mch C nL (fun _=>False) c1 c2 now ob
theorem fA(b:Beg h own C W nL aD aL N i t lr off nC cC k1 k2 k3 c1 c2 c3 cl)(h6:h.n+200≤1000000){ls:List Nat}{os oV:List SO}{n pe ps pn:Nat}{way:Way}{cs:kB}{tN:SV}(nr:List (Nat×Nat))(tl:List (Nat×Nat×SO))
 (T:follow way ((PF (i:Int) (tR C W nL aD aL N i off nC cC k1 k2 k3 c1 c2 c3) (RP nL aD)).bind (iV [0,1,4,5,6] ls))=some (cs,(71,SX.normal,[],[.ptr 0 0 0,.int .i64 (i:Int),.bool false,.ptr 5 0 0,.func (.func 55) [] [.ptr ps 0 0,.ptr pn 0 0]],n,oV)))
 (hc:holds cs)(hwk:rN oV os)
 (rs:ResP (bX C W.length nL aD aL N i k1 k2 k3) (10+(gT nL).length) (RP nL aD) ls os n (aD++[vI nL i c1 c2 c3]) pe ps pn (.slice 9 (aE off (Int.toNat 1)) (nC-Int.toNat 1) (Option.map (fun x=>x-Int.toNat 1) cC)) tN c1 c2 c3)
 (htl:Told ls os [] nr tl)(M:Mch C nL (fun _=>False) c1 c2 (tN.ren (rF [] nr)) (tl.map (·.2)))
 (hn:okNrP (10+(gT nL).length) pe ps pn nr=true:=by rfl)(kO:okNd nr=true:=by rfl)(hnw:tN.pls (okP [] nr)=true:=by rfl):
 BgnR h own C W nL aD aL N i t lr off nC cC c1 c2 c3:=by
 have p:=beg_path b T hc hwk rs.okls rs.plain rs.pK h6;obtain⟨a1,a2,a3,a4,a5,a6⟩:=beg_out b rs rfl hn kO htl hnw h6;refine⟨_,_,_,_,_,_,_,_,p,rfl,a1,a2,?_,a4,a5,a6,M⟩;have e:(SV.slice 9 (aE off (Int.toNat 1)) (nC-Int.toNat 1) (Option.map (fun x=>x-Int.toNat 1) cC)).ren (fun _=>lr)=.slice lr (off+1) (nC-1) (cC.map fun x=>x-1):=by
  simp only[SV.ren,aY];rfl
 rw[e]at a3;exact a3
end
end Go.Proofs.YtnkcbfgfkadoaaaGreat.Sx
