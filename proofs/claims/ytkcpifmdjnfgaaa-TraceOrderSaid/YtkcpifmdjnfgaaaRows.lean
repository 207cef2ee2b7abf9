/-
  No cell of these rows narrows 'for every input' (looked for: loops, veiled, ifaces, maps, wideKeys, modest, calm, conditions, laid).
  DERIVED. THE GIVEN ROWS OF THIS SEAT. 5 by the template 'for every input the law returns true; each argument reads behind the call as it read before'; 0 by the template 'total and deterministic' (their statements: YtkcpifmdjnfgaaaTotals.lean).
  GIVEN WITH THE SEED: the statements are not yours to turn. If you find one false, say at which input.
  Laid BY PROGRAM, IN A SANDBOX (cutbox-rows.mjs): the forced cells as the released guide's own fill.sh prints them over the translation 17c364f77169f9f6… (all of the seat's roots in one cut). By AI agents, Wed Nov 11 2026. No macro, syntax, notation, axiom, sorry.
-/
import Derived.Test.YtkcpifmdjnfgaaaChecked
import GoSem.Claim
import GoSem.ClaimJoined
import GoSem.ClaimMapViews
import Derived.JoinedTies
import Derived.KernelRfl
namespace Go.Proofs.Ytkcpifmdjnfgaaa
/- THE CELL 'sum', in the pinned program and in every row, IS THE sha256 OF THE DUMP (.gsa) THAT YtkcpifmdjnfgaaaProg.lean LOADS. Nothing in Lean hashes anything: it is a label: what it is worth is what the hold of that sum in a sandbox is worth. -/
noncomputable def Try.pinned : Pinned := { name := "ytkcpifmdjnfgaaa", sum := "17c364f77169f9f615edd7d36a6341a34cfa7a8e4469a1783fb3a46e52c3285b", checked := Try.checked }
namespace Rows
def none {H : Type} : Left H := { results := [], args := [] }

/-- 'breadlinelaw18.TraceTells': WHATEVER THE INPUT: true; the input reads as it did. -/
def traceTellsSpec : ChangeSpec := { name := "traceTells", fn := fun _ => fun
  | [d1, d2, d3, d4] => { results := [.lit (.bool true)], args := [d1, d2, d3, d4] }
  | _ => none }
def traceTellsRow : OpenClaim := { program := "ytkcpifmdjnfgaaa", sum := "17c364f77169f9f615edd7d36a6341a34cfa7a8e4469a1783fb3a46e52c3285b", func := "breadline/breadlinelaw18.TraceTells", spec := "traceTells", apart := false }
def TraceTellsSaid : Prop := traceTellsRow.holds Try.pinned (OpenSpec.ofChange traceTellsSpec)

/-- ITS FALSE NEIGHBOUR: 'it returns false'. Refute it at one input. -/
def traceTellsWrong : ChangeSpec := { name := "traceTells", fn := fun _ => fun
  | [d1, d2, d3, d4] => { results := [.lit (.bool false)], args := [d1, d2, d3, d4] }
  | _ => none }
def TraceTellsWrongFalsely : Prop := traceTellsRow.holds Try.pinned (OpenSpec.ofChange traceTellsWrong)

/-- 'breadlinelaw18.TraceOrder': WHATEVER THE INPUT: true; the input reads as it did. -/
def traceOrderSpec : ChangeSpec := { name := "traceOrder", fn := fun _ => fun
  | [d1, d2] => { results := [.lit (.bool true)], args := [d1, d2] }
  | _ => none }
def traceOrderRow : OpenClaim := { program := "ytkcpifmdjnfgaaa", sum := "17c364f77169f9f615edd7d36a6341a34cfa7a8e4469a1783fb3a46e52c3285b", func := "breadline/breadlinelaw18.TraceOrder", spec := "traceOrder", apart := false }
def TraceOrderSaid : Prop := traceOrderRow.holds Try.pinned (OpenSpec.ofChange traceOrderSpec)

/-- ITS FALSE NEIGHBOUR: 'it returns false'. Refute it at one input. -/
def traceOrderWrong : ChangeSpec := { name := "traceOrder", fn := fun _ => fun
  | [d1, d2] => { results := [.lit (.bool false)], args := [d1, d2] }
  | _ => none }
def TraceOrderWrongFalsely : Prop := traceOrderRow.holds Try.pinned (OpenSpec.ofChange traceOrderWrong)

/-- 'breadlinelaw18.TraceOn': WHATEVER THE INPUT: true; the input reads as it did. -/
def traceOnSpec : ChangeSpec := { name := "traceOn", fn := fun _ => fun
  | [d1, d2] => { results := [.lit (.bool true)], args := [d1, d2] }
  | _ => none }
def traceOnRow : OpenClaim := { program := "ytkcpifmdjnfgaaa", sum := "17c364f77169f9f615edd7d36a6341a34cfa7a8e4469a1783fb3a46e52c3285b", func := "breadline/breadlinelaw18.TraceOn", spec := "traceOn", apart := false }
def TraceOnSaid : Prop := traceOnRow.holds Try.pinned (OpenSpec.ofChange traceOnSpec)

/-- ITS FALSE NEIGHBOUR: 'it returns false'. Refute it at one input. -/
def traceOnWrong : ChangeSpec := { name := "traceOn", fn := fun _ => fun
  | [d1, d2] => { results := [.lit (.bool false)], args := [d1, d2] }
  | _ => none }
def TraceOnWrongFalsely : Prop := traceOnRow.holds Try.pinned (OpenSpec.ofChange traceOnWrong)

/-- 'breadlinelaw18.TraceEnds': WHATEVER THE INPUT: true; the input reads as it did. -/
def traceEndsSpec : ChangeSpec := { name := "traceEnds", fn := fun _ => fun
  | [d1, d2] => { results := [.lit (.bool true)], args := [d1, d2] }
  | _ => none }
def traceEndsRow : OpenClaim := { program := "ytkcpifmdjnfgaaa", sum := "17c364f77169f9f615edd7d36a6341a34cfa7a8e4469a1783fb3a46e52c3285b", func := "breadline/breadlinelaw18.TraceEnds", spec := "traceEnds", apart := false }
def TraceEndsSaid : Prop := traceEndsRow.holds Try.pinned (OpenSpec.ofChange traceEndsSpec)

/-- ITS FALSE NEIGHBOUR: 'it returns false'. Refute it at one input. -/
def traceEndsWrong : ChangeSpec := { name := "traceEnds", fn := fun _ => fun
  | [d1, d2] => { results := [.lit (.bool false)], args := [d1, d2] }
  | _ => none }
def TraceEndsWrongFalsely : Prop := traceEndsRow.holds Try.pinned (OpenSpec.ofChange traceEndsWrong)

/-- 'breadlinelaw18.TracePart': WHATEVER THE INPUT: true; the input reads as it did. -/
def tracePartSpec : ChangeSpec := { name := "tracePart", fn := fun _ => fun
  | [d1, d2, d3] => { results := [.lit (.bool true)], args := [d1, d2, d3] }
  | _ => none }
def tracePartRow : OpenClaim := { program := "ytkcpifmdjnfgaaa", sum := "17c364f77169f9f615edd7d36a6341a34cfa7a8e4469a1783fb3a46e52c3285b", func := "breadline/breadlinelaw18.TracePart", spec := "tracePart", apart := false }
def TracePartSaid : Prop := tracePartRow.holds Try.pinned (OpenSpec.ofChange tracePartSpec)

/-- ITS FALSE NEIGHBOUR: 'it returns false'. Refute it at one input. -/
def tracePartWrong : ChangeSpec := { name := "tracePart", fn := fun _ => fun
  | [d1, d2, d3] => { results := [.lit (.bool false)], args := [d1, d2, d3] }
  | _ => none }
def TracePartWrongFalsely : Prop := tracePartRow.holds Try.pinned (OpenSpec.ofChange tracePartWrong)

/- THE SECOND FORM. 'bulk': how many values and letters a reading holds, each counted each time it is reached (what is shared counts as often as it is met; a slice's spare places count too). A statement '..UptoSaid' is the law's where the arguments, and the package variables that the reading takes, are together of bulk at most 1048576: NARROWER than '..Said'. Prove '..Said' where nothing that the law and all that it calls make is longer than what came in: it says more and counts as full. Else prove '..UptoSaid'. A law counts once. -/
mutual
def uptoBulk {H : Type} : DataW H → Nat
  | .lit (.string bytes) => bytes.length + 1
  | .lit _ => 1
  | .nil => 1
  | .ptr d => uptoBulk d + 1
  | .slice elems spare => uptoBulkAll elems + uptoBulkAll spare + 1
  | .agg parts => uptoBulkAll parts + 1
  | .iface _ d => uptoBulk d + 1
  | .map entries => uptoBulkEntries entries + 1
  | .held _ => 1
def uptoBulkAll {H : Type} : List (DataW H) → Nat
  | [] => 0
  | d :: r => uptoBulk d + uptoBulkAll r
def uptoBulkEntries {H : Type} : List (Lit × DataW H) → Nat
  | [] => 0
  | x :: r => uptoBulkEntry x + uptoBulkEntries r
def uptoBulkEntry {H : Type} : Lit × DataW H → Nat
  | (.string bytes, d) => bytes.length + uptoBulk d + 1
  | (_, d) => uptoBulk d + 1
 end
def uptoSmall : (H : Type) → List (DataW H) → Bool := fun _ ds => decide (uptoBulkAll ds ≤ 1048576)
def OpenSpec.upto (s : _root_.Go.ChangeSpec) : _root_.Go.OpenSpec := { _root_.Go.OpenSpec.ofChange s with cond := some uptoSmall }

/-- 'breadlinelaw18.TraceTells', WHERE WHAT IT READS IS OF BULK AT MOST 1048576: true; the input reads as it did. -/
def traceTellsUptoRow : OpenClaim := { program := "ytkcpifmdjnfgaaa", sum := "17c364f77169f9f615edd7d36a6341a34cfa7a8e4469a1783fb3a46e52c3285b", func := "breadline/breadlinelaw18.TraceTells", spec := "traceTells", apart := false, narrowed := true }
def TraceTellsUptoSaid : Prop := traceTellsUptoRow.holds Try.pinned (OpenSpec.upto traceTellsSpec)

/-- 'breadlinelaw18.TraceOrder', WHERE WHAT IT READS IS OF BULK AT MOST 1048576: true; the input reads as it did. -/
def traceOrderUptoRow : OpenClaim := { program := "ytkcpifmdjnfgaaa", sum := "17c364f77169f9f615edd7d36a6341a34cfa7a8e4469a1783fb3a46e52c3285b", func := "breadline/breadlinelaw18.TraceOrder", spec := "traceOrder", apart := false, narrowed := true }
def TraceOrderUptoSaid : Prop := traceOrderUptoRow.holds Try.pinned (OpenSpec.upto traceOrderSpec)

/-- 'breadlinelaw18.TraceOn', WHERE WHAT IT READS IS OF BULK AT MOST 1048576: true; the input reads as it did. -/
def traceOnUptoRow : OpenClaim := { program := "ytkcpifmdjnfgaaa", sum := "17c364f77169f9f615edd7d36a6341a34cfa7a8e4469a1783fb3a46e52c3285b", func := "breadline/breadlinelaw18.TraceOn", spec := "traceOn", apart := false, narrowed := true }
def TraceOnUptoSaid : Prop := traceOnUptoRow.holds Try.pinned (OpenSpec.upto traceOnSpec)

/-- 'breadlinelaw18.TraceEnds', WHERE WHAT IT READS IS OF BULK AT MOST 1048576: true; the input reads as it did. -/
def traceEndsUptoRow : OpenClaim := { program := "ytkcpifmdjnfgaaa", sum := "17c364f77169f9f615edd7d36a6341a34cfa7a8e4469a1783fb3a46e52c3285b", func := "breadline/breadlinelaw18.TraceEnds", spec := "traceEnds", apart := false, narrowed := true }
def TraceEndsUptoSaid : Prop := traceEndsUptoRow.holds Try.pinned (OpenSpec.upto traceEndsSpec)

/-- 'breadlinelaw18.TracePart', WHERE WHAT IT READS IS OF BULK AT MOST 1048576: true; the input reads as it did. -/
def tracePartUptoRow : OpenClaim := { program := "ytkcpifmdjnfgaaa", sum := "17c364f77169f9f615edd7d36a6341a34cfa7a8e4469a1783fb3a46e52c3285b", func := "breadline/breadlinelaw18.TracePart", spec := "tracePart", apart := false, narrowed := true }
def TracePartUptoSaid : Prop := tracePartUptoRow.holds Try.pinned (OpenSpec.upto tracePartSpec)

end Rows
end Go.Proofs.Ytkcpifmdjnfgaaa
