/-
  No cell of these rows narrows 'for every input' (looked for: loops, veiled, ifaces, maps, wideKeys, modest, calm, conditions, laid).
  DERIVED. THE GIVEN ROWS OF THIS SEAT. 6 by the template 'for every input the law returns true; each argument reads behind the call as it read before'; 0 by the template 'total and deterministic' (their statements: YtpkjhddflhgeoaaTotals.lean).
  GIVEN WITH THE SEED: the statements are not yours to turn. If you find one false, say at which input.
  Laid BY PROGRAM, IN A SANDBOX (cutbox-rows.mjs): the forced cells as the released guide's own fill.sh prints them over the translation e8b0609c4ff3b9c0… (all of the seat's roots in one cut). By AI agents, Wed Nov 11 2026. No macro, syntax, notation, axiom, sorry.
-/
import Derived.Test.YtpkjhddflhgeoaaChecked
import GoSem.Claim
import GoSem.ClaimJoined
import GoSem.ClaimMapViews
import Derived.JoinedTies
import Derived.KernelRfl
namespace Go.Proofs.Ytpkjhddflhgeoaa
/- THE CELL 'sum', in the pinned program and in every row, IS THE sha256 OF THE DUMP (.gsa) THAT YtpkjhddflhgeoaaProg.lean LOADS. Nothing in Lean hashes anything: it is a label: what it is worth is what the hold of that sum in a sandbox is worth. -/
noncomputable def Try.pinned : Pinned := { name := "ytpkjhddflhgeoaa", sum := "e8b0609c4ff3b9c01fc1c97a15c78b3b951c1d6b93de16eb41b333423f28389b", checked := Try.checked }
namespace Rows
def none {H : Type} : Left H := { results := [], args := [] }

/-- 'breadlinelaw01.PackTells': WHATEVER THE INPUT: true; the input reads as it did. -/
def packTellsSpec : ChangeSpec := { name := "packTells", fn := fun _ => fun
  | [d1, d2, d3] => { results := [.lit (.bool true)], args := [d1, d2, d3] }
  | _ => none }
def packTellsRow : OpenClaim := { program := "ytpkjhddflhgeoaa", sum := "e8b0609c4ff3b9c01fc1c97a15c78b3b951c1d6b93de16eb41b333423f28389b", func := "breadline/breadlinelaw01.PackTells", spec := "packTells", unfollowed := true, recurses := true, apart := false }
def PackTellsSaid : Prop := packTellsRow.holds Try.pinned (OpenSpec.ofChange packTellsSpec)

/-- ITS FALSE NEIGHBOUR: 'it returns false'. Refute it at one input. -/
def packTellsWrong : ChangeSpec := { name := "packTells", fn := fun _ => fun
  | [d1, d2, d3] => { results := [.lit (.bool false)], args := [d1, d2, d3] }
  | _ => none }
def PackTellsWrongFalsely : Prop := packTellsRow.holds Try.pinned (OpenSpec.ofChange packTellsWrong)

/-- 'breadlinelaw01.PackBack': WHATEVER THE INPUT: true; the input reads as it did. -/
def packBackSpec : ChangeSpec := { name := "packBack", fn := fun _ => fun
  | [d1, d2] => { results := [.lit (.bool true)], args := [d1, d2] }
  | _ => none }
def packBackRow : OpenClaim := { program := "ytpkjhddflhgeoaa", sum := "e8b0609c4ff3b9c01fc1c97a15c78b3b951c1d6b93de16eb41b333423f28389b", func := "breadline/breadlinelaw01.PackBack", spec := "packBack", unfollowed := true, recurses := true, apart := false }
def PackBackSaid : Prop := packBackRow.holds Try.pinned (OpenSpec.ofChange packBackSpec)

/-- ITS FALSE NEIGHBOUR: 'it returns false'. Refute it at one input. -/
def packBackWrong : ChangeSpec := { name := "packBack", fn := fun _ => fun
  | [d1, d2] => { results := [.lit (.bool false)], args := [d1, d2] }
  | _ => none }
def PackBackWrongFalsely : Prop := packBackRow.holds Try.pinned (OpenSpec.ofChange packBackWrong)

/-- 'breadlinelaw01.PackWord': WHATEVER THE INPUT: true; the input reads as it did. -/
def packWordSpec : ChangeSpec := { name := "packWord", fn := fun _ => fun
  | [d] => { results := [.lit (.bool true)], args := [d] }
  | _ => none }
def packWordRow : OpenClaim := { program := "ytpkjhddflhgeoaa", sum := "e8b0609c4ff3b9c01fc1c97a15c78b3b951c1d6b93de16eb41b333423f28389b", func := "breadline/breadlinelaw01.PackWord", spec := "packWord", unfollowed := true, recurses := true, apart := false }
def PackWordSaid : Prop := packWordRow.holds Try.pinned (OpenSpec.ofChange packWordSpec)

/-- ITS FALSE NEIGHBOUR: 'it returns false'. Refute it at one input. -/
def packWordWrong : ChangeSpec := { name := "packWord", fn := fun _ => fun
  | [d] => { results := [.lit (.bool false)], args := [d] }
  | _ => none }
def PackWordWrongFalsely : Prop := packWordRow.holds Try.pinned (OpenSpec.ofChange packWordWrong)

/-- 'breadlinelaw01.PackApart': WHATEVER THE INPUT: true; the input reads as it did. -/
def packApartSpec : ChangeSpec := { name := "packApart", fn := fun _ => fun
  | [d1, d2] => { results := [.lit (.bool true)], args := [d1, d2] }
  | _ => none }
def packApartRow : OpenClaim := { program := "ytpkjhddflhgeoaa", sum := "e8b0609c4ff3b9c01fc1c97a15c78b3b951c1d6b93de16eb41b333423f28389b", func := "breadline/breadlinelaw01.PackApart", spec := "packApart", unfollowed := true, recurses := true, apart := false }
def PackApartSaid : Prop := packApartRow.holds Try.pinned (OpenSpec.ofChange packApartSpec)

/-- ITS FALSE NEIGHBOUR: 'it returns false'. Refute it at one input. -/
def packApartWrong : ChangeSpec := { name := "packApart", fn := fun _ => fun
  | [d1, d2] => { results := [.lit (.bool false)], args := [d1, d2] }
  | _ => none }
def PackApartWrongFalsely : Prop := packApartRow.holds Try.pinned (OpenSpec.ofChange packApartWrong)

/-- 'breadlinelaw01.PackNext': WHATEVER THE INPUT: true; the input reads as it did. -/
def packNextSpec : ChangeSpec := { name := "packNext", fn := fun _ => fun
  | [d1, d2] => { results := [.lit (.bool true)], args := [d1, d2] }
  | _ => none }
def packNextRow : OpenClaim := { program := "ytpkjhddflhgeoaa", sum := "e8b0609c4ff3b9c01fc1c97a15c78b3b951c1d6b93de16eb41b333423f28389b", func := "breadline/breadlinelaw01.PackNext", spec := "packNext", unfollowed := true, recurses := true, apart := false }
def PackNextSaid : Prop := packNextRow.holds Try.pinned (OpenSpec.ofChange packNextSpec)

/-- ITS FALSE NEIGHBOUR: 'it returns false'. Refute it at one input. -/
def packNextWrong : ChangeSpec := { name := "packNext", fn := fun _ => fun
  | [d1, d2] => { results := [.lit (.bool false)], args := [d1, d2] }
  | _ => none }
def PackNextWrongFalsely : Prop := packNextRow.holds Try.pinned (OpenSpec.ofChange packNextWrong)

/-- 'breadlinelaw01.PackRow': WHATEVER THE INPUT: true; the input reads as it did. -/
def packRowSpec : ChangeSpec := { name := "packRow", fn := fun _ => fun
  | [d1, d2] => { results := [.lit (.bool true)], args := [d1, d2] }
  | _ => none }
def packRowRow : OpenClaim := { program := "ytpkjhddflhgeoaa", sum := "e8b0609c4ff3b9c01fc1c97a15c78b3b951c1d6b93de16eb41b333423f28389b", func := "breadline/breadlinelaw01.PackRow", spec := "packRow", unfollowed := true, recurses := true, apart := false }
def PackRowSaid : Prop := packRowRow.holds Try.pinned (OpenSpec.ofChange packRowSpec)

/-- ITS FALSE NEIGHBOUR: 'it returns false'. Refute it at one input. -/
def packRowWrong : ChangeSpec := { name := "packRow", fn := fun _ => fun
  | [d1, d2] => { results := [.lit (.bool false)], args := [d1, d2] }
  | _ => none }
def PackRowWrongFalsely : Prop := packRowRow.holds Try.pinned (OpenSpec.ofChange packRowWrong)

/- THE SECOND FORM. 'bulk': how many values and letters a reading holds, each counted each time it is reached (what is shared counts as often as it is met; a slice's spare places count too). A statement '..UptoSaid' is the law's where the arguments, and the package variables that the reading takes, are together of bulk at most 1048576: NARROWER than '..Said'. Prove '..Said' where nothing that the law and all that it calls make is longer than what came in: it says more and counts as full. Else prove '..UptoSaid'. A law counts once. -/
mutual
def uptoBulk {H : Type} : DataW H → Nat
  | .lit (.string bytes) => bytes.length + 1
  | .lit _ => 1
  | .nil => 1
  | .ptr d => uptoBulk d + 1
  | .slice elems spare => uptoBulkAll elems + uptoBulkAll spare + 1
  | .agg parts => uptoBulkAll parts + 1
  | .iface _ d => uptoBulk d + 1
  | .map entries => uptoBulkEntries entries + 1
  | .held _ => 1
def uptoBulkAll {H : Type} : List (DataW H) → Nat
  | [] => 0
  | d :: r => uptoBulk d + uptoBulkAll r
def uptoBulkEntries {H : Type} : List (Lit × DataW H) → Nat
  | [] => 0
  | x :: r => uptoBulkEntry x + uptoBulkEntries r
def uptoBulkEntry {H : Type} : Lit × DataW H → Nat
  | (.string bytes, d) => bytes.length + uptoBulk d + 1
  | (_, d) => uptoBulk d + 1
 end
def uptoSmall : (H : Type) → List (DataW H) → Bool := fun _ ds => decide (uptoBulkAll ds ≤ 1048576)
def OpenSpec.upto (s : _root_.Go.ChangeSpec) : _root_.Go.OpenSpec := { _root_.Go.OpenSpec.ofChange s with cond := some uptoSmall }

/-- 'breadlinelaw01.PackTells', WHERE WHAT IT READS IS OF BULK AT MOST 1048576: true; the input reads as it did. -/
def packTellsUptoRow : OpenClaim := { program := "ytpkjhddflhgeoaa", sum := "e8b0609c4ff3b9c01fc1c97a15c78b3b951c1d6b93de16eb41b333423f28389b", func := "breadline/breadlinelaw01.PackTells", spec := "packTells", unfollowed := true, recurses := true, apart := false, narrowed := true }
def PackTellsUptoSaid : Prop := packTellsUptoRow.holds Try.pinned (OpenSpec.upto packTellsSpec)

/-- 'breadlinelaw01.PackBack', WHERE WHAT IT READS IS OF BULK AT MOST 1048576: true; the input reads as it did. -/
def packBackUptoRow : OpenClaim := { program := "ytpkjhddflhgeoaa", sum := "e8b0609c4ff3b9c01fc1c97a15c78b3b951c1d6b93de16eb41b333423f28389b", func := "breadline/breadlinelaw01.PackBack", spec := "packBack", unfollowed := true, recurses := true, apart := false, narrowed := true }
def PackBackUptoSaid : Prop := packBackUptoRow.holds Try.pinned (OpenSpec.upto packBackSpec)

/-- 'breadlinelaw01.PackWord', WHERE WHAT IT READS IS OF BULK AT MOST 1048576: true; the input reads as it did. -/
def packWordUptoRow : OpenClaim := { program := "ytpkjhddflhgeoaa", sum := "e8b0609c4ff3b9c01fc1c97a15c78b3b951c1d6b93de16eb41b333423f28389b", func := "breadline/breadlinelaw01.PackWord", spec := "packWord", unfollowed := true, recurses := true, apart := false, narrowed := true }
def PackWordUptoSaid : Prop := packWordUptoRow.holds Try.pinned (OpenSpec.upto packWordSpec)

/-- 'breadlinelaw01.PackApart', WHERE WHAT IT READS IS OF BULK AT MOST 1048576: true; the input reads as it did. -/
def packApartUptoRow : OpenClaim := { program := "ytpkjhddflhgeoaa", sum := "e8b0609c4ff3b9c01fc1c97a15c78b3b951c1d6b93de16eb41b333423f28389b", func := "breadline/breadlinelaw01.PackApart", spec := "packApart", unfollowed := true, recurses := true, apart := false, narrowed := true }
def PackApartUptoSaid : Prop := packApartUptoRow.holds Try.pinned (OpenSpec.upto packApartSpec)

/-- 'breadlinelaw01.PackNext', WHERE WHAT IT READS IS OF BULK AT MOST 1048576: true; the input reads as it did. -/
def packNextUptoRow : OpenClaim := { program := "ytpkjhddflhgeoaa", sum := "e8b0609c4ff3b9c01fc1c97a15c78b3b951c1d6b93de16eb41b333423f28389b", func := "breadline/breadlinelaw01.PackNext", spec := "packNext", unfollowed := true, recurses := true, apart := false, narrowed := true }
def PackNextUptoSaid : Prop := packNextUptoRow.holds Try.pinned (OpenSpec.upto packNextSpec)

/-- 'breadlinelaw01.PackRow', WHERE WHAT IT READS IS OF BULK AT MOST 1048576: true; the input reads as it did. -/
def packRowUptoRow : OpenClaim := { program := "ytpkjhddflhgeoaa", sum := "e8b0609c4ff3b9c01fc1c97a15c78b3b951c1d6b93de16eb41b333423f28389b", func := "breadline/breadlinelaw01.PackRow", spec := "packRow", unfollowed := true, recurses := true, apart := false, narrowed := true }
def PackRowUptoSaid : Prop := packRowUptoRow.holds Try.pinned (OpenSpec.upto packRowSpec)

end Rows
end Go.Proofs.Ytpkjhddflhgeoaa
