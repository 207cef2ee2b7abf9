/- The reference's 'Right', in the printed texts' form (with rounds that it does not need). -/
import Derived.Test.YtkcpifmdjnfgaaaTraceRef
namespace Go.Proofs.Ytkcpifmdjnfgaaa.PTrace
open Go.RowKit Go.Proofs.YtkcpifmdjnfgaaaW.PrintWords Go.Proofs.YtkcpifmdjnfgaaaW.PrintLast Go.Proofs.YtkcpifmdjnfgaaaW.PrintMore
def breadlineref18_Right.f (_ : Nat) (l : List S37) (t : Int) : Option Bool := refRight.f l t
theorem breadlineref18_Right.mono : ∀ a0 a1 k, LeO (breadlineref18_Right.f k a0 a1) (breadlineref18_Right.f (k + 1) a0 a1) := fun _ _ _ => LeO.refl _
theorem breadlineref18_Right.calls (k : Nat) (A0 : Option Addr) (c0 : Nat) (l0 : List S37) (a1 : Int) (r : Bool) (w : World) (hr0 : Kd.C k37 w A0 l0.length l0) (hc0 : l0.length ≤ c0) (h : breadlineref18_Right.f k l0 a1 = some r) :
    Calls Try.prog 10 #[.slice A0 l0.length c0, .int .i64 a1] w fun e w' => e = .returned (.bool r) ∧ Below w.heap.size w w' := refRight.calls A0 c0 l0 a1 r w hr0 hc0 h
end Go.Proofs.Ytkcpifmdjnfgaaa.PTrace
