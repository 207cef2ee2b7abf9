/-
  No cell of these rows narrows 'for every input' (looked for: loops, veiled, ifaces, maps, wideKeys, modest, calm, conditions, laid).
  DERIVED. THE GIVEN ROWS OF THIS SEAT. 6 by the template 'for every input the law returns true; each argument reads behind the call as it read before'; 0 by the template 'total and deterministic' (their statements: YtjhmgkddhgfpmaaTotals.lean).
  GIVEN WITH THE SEED: the statements are not yours to turn. If you find one false, say at which input.
  Laid BY PROGRAM, IN A SANDBOX (cutbox-rows.mjs): the forced cells as the released guide's own fill.sh prints them over the translation a004a63ad7e8da58… (all of the seat's roots in one cut). By AI agents, Wed Nov 11 2026. No macro, syntax, notation, axiom, sorry.
-/
import Derived.Test.YtjhmgkddhgfpmaaChecked
import GoSem.Claim
import GoSem.ClaimJoined
import GoSem.ClaimMapViews
import Derived.JoinedTies
import Derived.KernelRfl
namespace Go.Proofs.Ytjhmgkddhgfpmaa
/- THE CELL 'sum', in the pinned program and in every row, IS THE sha256 OF THE DUMP (.gsa) THAT YtjhmgkddhgfpmaaProg.lean LOADS. Nothing in Lean hashes anything: it is a label: what it is worth is what the hold of that sum in a sandbox is worth. -/
noncomputable def Try.pinned : Pinned := { name := "ytjhmgkddhgfpmaa", sum := "a004a63ad7e8da58c26d5b82d4820c8dead9cad94c5968981148ebaaa380d473", checked := Try.checked }
namespace Rows
def none {H : Type} : Left H := { results := [], args := [] }

/-- 'breadlinelaw02.DrawTells': WHATEVER THE INPUT: true; the input reads as it did. -/
def drawTellsSpec : ChangeSpec := { name := "drawTells", fn := fun _ => fun
  | [d1, d2, d3] => { results := [.lit (.bool true)], args := [d1, d2, d3] }
  | _ => none }
def drawTellsRow : OpenClaim := { program := "ytjhmgkddhgfpmaa", sum := "a004a63ad7e8da58c26d5b82d4820c8dead9cad94c5968981148ebaaa380d473", func := "breadline/breadlinelaw02.DrawTells", spec := "drawTells", unfollowed := true, recurses := true, apart := false }
def DrawTellsSaid : Prop := drawTellsRow.holds Try.pinned (OpenSpec.ofChange drawTellsSpec)

/-- ITS FALSE NEIGHBOUR: 'it returns false'. Refute it at one input. -/
def drawTellsWrong : ChangeSpec := { name := "drawTells", fn := fun _ => fun
  | [d1, d2, d3] => { results := [.lit (.bool false)], args := [d1, d2, d3] }
  | _ => none }
def DrawTellsWrongFalsely : Prop := drawTellsRow.holds Try.pinned (OpenSpec.ofChange drawTellsWrong)

/-- 'breadlinelaw02.DrawDraws': WHATEVER THE INPUT: true; the input reads as it did. -/
def drawDrawsSpec : ChangeSpec := { name := "drawDraws", fn := fun _ => fun
  | [d1, d2] => { results := [.lit (.bool true)], args := [d1, d2] }
  | _ => none }
def drawDrawsRow : OpenClaim := { program := "ytjhmgkddhgfpmaa", sum := "a004a63ad7e8da58c26d5b82d4820c8dead9cad94c5968981148ebaaa380d473", func := "breadline/breadlinelaw02.DrawDraws", spec := "drawDraws", unfollowed := true, recurses := true, apart := false }
def DrawDrawsSaid : Prop := drawDrawsRow.holds Try.pinned (OpenSpec.ofChange drawDrawsSpec)

/-- ITS FALSE NEIGHBOUR: 'it returns false'. Refute it at one input. -/
def drawDrawsWrong : ChangeSpec := { name := "drawDraws", fn := fun _ => fun
  | [d1, d2] => { results := [.lit (.bool false)], args := [d1, d2] }
  | _ => none }
def DrawDrawsWrongFalsely : Prop := drawDrawsRow.holds Try.pinned (OpenSpec.ofChange drawDrawsWrong)

/-- 'breadlinelaw02.DrawApart': WHATEVER THE INPUT: true; the input reads as it did. -/
def drawApartSpec : ChangeSpec := { name := "drawApart", fn := fun _ => fun
  | [d1, d2] => { results := [.lit (.bool true)], args := [d1, d2] }
  | _ => none }
def drawApartRow : OpenClaim := { program := "ytjhmgkddhgfpmaa", sum := "a004a63ad7e8da58c26d5b82d4820c8dead9cad94c5968981148ebaaa380d473", func := "breadline/breadlinelaw02.DrawApart", spec := "drawApart", unfollowed := true, recurses := true, apart := false }
def DrawApartSaid : Prop := drawApartRow.holds Try.pinned (OpenSpec.ofChange drawApartSpec)

/-- ITS FALSE NEIGHBOUR: 'it returns false'. Refute it at one input. -/
def drawApartWrong : ChangeSpec := { name := "drawApart", fn := fun _ => fun
  | [d1, d2] => { results := [.lit (.bool false)], args := [d1, d2] }
  | _ => none }
def DrawApartWrongFalsely : Prop := drawApartRow.holds Try.pinned (OpenSpec.ofChange drawApartWrong)

/-- 'breadlinelaw02.DrawBits': WHATEVER THE INPUT: true; the input reads as it did. -/
def drawBitsSpec : ChangeSpec := { name := "drawBits", fn := fun _ => fun
  | [d1, d2] => { results := [.lit (.bool true)], args := [d1, d2] }
  | _ => none }
def drawBitsRow : OpenClaim := { program := "ytjhmgkddhgfpmaa", sum := "a004a63ad7e8da58c26d5b82d4820c8dead9cad94c5968981148ebaaa380d473", func := "breadline/breadlinelaw02.DrawBits", spec := "drawBits", unfollowed := true, recurses := true, apart := false }
def DrawBitsSaid : Prop := drawBitsRow.holds Try.pinned (OpenSpec.ofChange drawBitsSpec)

/-- ITS FALSE NEIGHBOUR: 'it returns false'. Refute it at one input. -/
def drawBitsWrong : ChangeSpec := { name := "drawBits", fn := fun _ => fun
  | [d1, d2] => { results := [.lit (.bool false)], args := [d1, d2] }
  | _ => none }
def DrawBitsWrongFalsely : Prop := drawBitsRow.holds Try.pinned (OpenSpec.ofChange drawBitsWrong)

/-- 'breadlinelaw02.DrawPick': WHATEVER THE INPUT: true; the input reads as it did. -/
def drawPickSpec : ChangeSpec := { name := "drawPick", fn := fun _ => fun
  | [d1, d2, d3] => { results := [.lit (.bool true)], args := [d1, d2, d3] }
  | _ => none }
def drawPickRow : OpenClaim := { program := "ytjhmgkddhgfpmaa", sum := "a004a63ad7e8da58c26d5b82d4820c8dead9cad94c5968981148ebaaa380d473", func := "breadline/breadlinelaw02.DrawPick", spec := "drawPick", unfollowed := true, recurses := true, apart := false }
def DrawPickSaid : Prop := drawPickRow.holds Try.pinned (OpenSpec.ofChange drawPickSpec)

/-- ITS FALSE NEIGHBOUR: 'it returns false'. Refute it at one input. -/
def drawPickWrong : ChangeSpec := { name := "drawPick", fn := fun _ => fun
  | [d1, d2, d3] => { results := [.lit (.bool false)], args := [d1, d2, d3] }
  | _ => none }
def DrawPickWrongFalsely : Prop := drawPickRow.holds Try.pinned (OpenSpec.ofChange drawPickWrong)

/-- 'breadlinelaw02.DrawThreads': WHATEVER THE INPUT: true; the input reads as it did. -/
def drawThreadsSpec : ChangeSpec := { name := "drawThreads", fn := fun _ => fun
  | [d1, d2] => { results := [.lit (.bool true)], args := [d1, d2] }
  | _ => none }
def drawThreadsRow : OpenClaim := { program := "ytjhmgkddhgfpmaa", sum := "a004a63ad7e8da58c26d5b82d4820c8dead9cad94c5968981148ebaaa380d473", func := "breadline/breadlinelaw02.DrawThreads", spec := "drawThreads", unfollowed := true, recurses := true, apart := false }
def DrawThreadsSaid : Prop := drawThreadsRow.holds Try.pinned (OpenSpec.ofChange drawThreadsSpec)

/-- ITS FALSE NEIGHBOUR: 'it returns false'. Refute it at one input. -/
def drawThreadsWrong : ChangeSpec := { name := "drawThreads", fn := fun _ => fun
  | [d1, d2] => { results := [.lit (.bool false)], args := [d1, d2] }
  | _ => none }
def DrawThreadsWrongFalsely : Prop := drawThreadsRow.holds Try.pinned (OpenSpec.ofChange drawThreadsWrong)

/- THE SECOND FORM. 'bulk': how many values and letters a reading holds, each counted each time it is reached (what is shared counts as often as it is met; a slice's spare places count too). A statement '..UptoSaid' is the law's where the arguments, and the package variables that the reading takes, are together of bulk at most 1048576: NARROWER than '..Said'. Prove '..Said' where nothing that the law and all that it calls make is longer than what came in: it says more and counts as full. Else prove '..UptoSaid'. A law counts once. -/
mutual
def uptoBulk {H : Type} : DataW H → Nat
  | .lit (.string bytes) => bytes.length + 1
  | .lit _ => 1
  | .nil => 1
  | .ptr d => uptoBulk d + 1
  | .slice elems spare => uptoBulkAll elems + uptoBulkAll spare + 1
  | .agg parts => uptoBulkAll parts + 1
  | .iface _ d => uptoBulk d + 1
  | .map entries => uptoBulkEntries entries + 1
  | .held _ => 1
def uptoBulkAll {H : Type} : List (DataW H) → Nat
  | [] => 0
  | d :: r => uptoBulk d + uptoBulkAll r
def uptoBulkEntries {H : Type} : List (Lit × DataW H) → Nat
  | [] => 0
  | x :: r => uptoBulkEntry x + uptoBulkEntries r
def uptoBulkEntry {H : Type} : Lit × DataW H → Nat
  | (.string bytes, d) => bytes.length + uptoBulk d + 1
  | (_, d) => uptoBulk d + 1
 end
def uptoSmall : (H : Type) → List (DataW H) → Bool := fun _ ds => decide (uptoBulkAll ds ≤ 1048576)
def OpenSpec.upto (s : _root_.Go.ChangeSpec) : _root_.Go.OpenSpec := { _root_.Go.OpenSpec.ofChange s with cond := some uptoSmall }

/-- 'breadlinelaw02.DrawTells', WHERE WHAT IT READS IS OF BULK AT MOST 1048576: true; the input reads as it did. -/
def drawTellsUptoRow : OpenClaim := { program := "ytjhmgkddhgfpmaa", sum := "a004a63ad7e8da58c26d5b82d4820c8dead9cad94c5968981148ebaaa380d473", func := "breadline/breadlinelaw02.DrawTells", spec := "drawTells", unfollowed := true, recurses := true, apart := false, narrowed := true }
def DrawTellsUptoSaid : Prop := drawTellsUptoRow.holds Try.pinned (OpenSpec.upto drawTellsSpec)

/-- 'breadlinelaw02.DrawDraws', WHERE WHAT IT READS IS OF BULK AT MOST 1048576: true; the input reads as it did. -/
def drawDrawsUptoRow : OpenClaim := { program := "ytjhmgkddhgfpmaa", sum := "a004a63ad7e8da58c26d5b82d4820c8dead9cad94c5968981148ebaaa380d473", func := "breadline/breadlinelaw02.DrawDraws", spec := "drawDraws", unfollowed := true, recurses := true, apart := false, narrowed := true }
def DrawDrawsUptoSaid : Prop := drawDrawsUptoRow.holds Try.pinned (OpenSpec.upto drawDrawsSpec)

/-- 'breadlinelaw02.DrawApart', WHERE WHAT IT READS IS OF BULK AT MOST 1048576: true; the input reads as it did. -/
def drawApartUptoRow : OpenClaim := { program := "ytjhmgkddhgfpmaa", sum := "a004a63ad7e8da58c26d5b82d4820c8dead9cad94c5968981148ebaaa380d473", func := "breadline/breadlinelaw02.DrawApart", spec := "drawApart", unfollowed := true, recurses := true, apart := false, narrowed := true }
def DrawApartUptoSaid : Prop := drawApartUptoRow.holds Try.pinned (OpenSpec.upto drawApartSpec)

/-- 'breadlinelaw02.DrawBits', WHERE WHAT IT READS IS OF BULK AT MOST 1048576: true; the input reads as it did. -/
def drawBitsUptoRow : OpenClaim := { program := "ytjhmgkddhgfpmaa", sum := "a004a63ad7e8da58c26d5b82d4820c8dead9cad94c5968981148ebaaa380d473", func := "breadline/breadlinelaw02.DrawBits", spec := "drawBits", unfollowed := true, recurses := true, apart := false, narrowed := true }
def DrawBitsUptoSaid : Prop := drawBitsUptoRow.holds Try.pinned (OpenSpec.upto drawBitsSpec)

/-- 'breadlinelaw02.DrawPick', WHERE WHAT IT READS IS OF BULK AT MOST 1048576: true; the input reads as it did. -/
def drawPickUptoRow : OpenClaim := { program := "ytjhmgkddhgfpmaa", sum := "a004a63ad7e8da58c26d5b82d4820c8dead9cad94c5968981148ebaaa380d473", func := "breadline/breadlinelaw02.DrawPick", spec := "drawPick", unfollowed := true, recurses := true, apart := false, narrowed := true }
def DrawPickUptoSaid : Prop := drawPickUptoRow.holds Try.pinned (OpenSpec.upto drawPickSpec)

/-- 'breadlinelaw02.DrawThreads', WHERE WHAT IT READS IS OF BULK AT MOST 1048576: true; the input reads as it did. -/
def drawThreadsUptoRow : OpenClaim := { program := "ytjhmgkddhgfpmaa", sum := "a004a63ad7e8da58c26d5b82d4820c8dead9cad94c5968981148ebaaa380d473", func := "breadline/breadlinelaw02.DrawThreads", spec := "drawThreads", unfollowed := true, recurses := true, apart := false, narrowed := true }
def DrawThreadsUptoSaid : Prop := drawThreadsUptoRow.holds Try.pinned (OpenSpec.upto drawThreadsSpec)

end Rows
end Go.Proofs.Ytjhmgkddhgfpmaa
