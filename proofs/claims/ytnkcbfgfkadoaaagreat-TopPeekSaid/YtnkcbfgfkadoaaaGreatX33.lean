/- Part 33 of the proof of TopPeek. -/
import Derived.Test.YtnkcbfgfkadoaaaGreatX32
set_option linter.all false
namespace Go.Proofs.YtnkcbfgfkadoaaaGreat.Sx
open Go
set_option maxRecDepth 100000
def hL7:List Nat:=[0,1,2,3,4,5,6,7,8,9,10,11,12,13,14]
def hS7:List SO:=[.dead,.dead,.dead,.dead,.dead,.dead,.dead,.dead,.dead,.dead,.dead,.dead,.dead,.dead,.dead]
def hV7:List SV:=[.bool true]
theorem head_7:∀x:Nat→SV,follow [] ((bB Tryz.prog (runK Tryz.prog S0 60) false #[] 0 0 2 (aA 13 (some (bR 4))) (cJ 90 hK7 x) (aT hO7 [])).bind (dB [0] hL7 [2,2,2,2,2,2,2,2,2,2,2,2,2,2,2]))=some ([],(90,.ret,[],hV7,871,hS7)):=by intro x;kernel_rfl
end Go.Proofs.YtnkcbfgfkadoaaaGreat.Sx
