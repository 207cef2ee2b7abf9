/-
  No cell of these rows narrows 'for every input' (looked for: loops, veiled, ifaces, maps, wideKeys, modest, calm, conditions, laid).
  DERIVED. THE GIVEN ROWS OF THIS SEAT. 6 by the template 'for every input the law returns true; each argument reads behind the call as it read before'; 0 by the template 'total and deterministic' (their statements: YtcpkofbhkcpodaaTotals.lean).
  GIVEN WITH THE SEED: the statements are not yours to turn. If you find one false, say at which input.
  Laid BY PROGRAM, IN A SANDBOX (cutbox-rows.mjs): the forced cells as the released guide's own fill.sh prints them over the translation 0713d35b0e536d66… (all of the seat's roots in one cut). By AI agents, Wed Nov 11 2026. No macro, syntax, notation, axiom, sorry.
-/
import Derived.Test.YtcpkofbhkcpodaaChecked
import GoSem.Claim
import GoSem.ClaimJoined
import GoSem.ClaimMapViews
import Derived.JoinedTies
import Derived.KernelRfl
namespace Go.Proofs.Ytcpkofbhkcpodaa
/- THE CELL 'sum', in the pinned program and in every row, IS THE sha256 OF THE DUMP (.gsa) THAT YtcpkofbhkcpodaaProg.lean LOADS. Nothing in Lean hashes anything: it is a label: what it is worth is what the hold of that sum in a sandbox is worth. -/
noncomputable def Try.pinned : Pinned := { name := "ytcpkofbhkcpodaa", sum := "0713d35b0e536d662a7bc559b7cff4ac899a244fbb516463d5a1e8975de4dc7a", checked := Try.checked }
namespace Rows
def none {H : Type} : Left H := { results := [], args := [] }

/-- 'breadlinelaw10.SlotTells': WHATEVER THE INPUT: true; the input reads as it did. -/
def slotTellsSpec : ChangeSpec := { name := "slotTells", fn := fun _ => fun
  | [d1, d2, d3, d4, d5, d6] => { results := [.lit (.bool true)], args := [d1, d2, d3, d4, d5, d6] }
  | _ => none }
def slotTellsRow : OpenClaim := { program := "ytcpkofbhkcpodaa", sum := "0713d35b0e536d662a7bc559b7cff4ac899a244fbb516463d5a1e8975de4dc7a", func := "breadline/breadlinelaw10.SlotTells", spec := "slotTells", unfollowed := true, recurses := true, apart := false }
def SlotTellsSaid : Prop := slotTellsRow.holds Try.pinned (OpenSpec.ofChange slotTellsSpec)

/-- ITS FALSE NEIGHBOUR: 'it returns false'. Refute it at one input. -/
def slotTellsWrong : ChangeSpec := { name := "slotTells", fn := fun _ => fun
  | [d1, d2, d3, d4, d5, d6] => { results := [.lit (.bool false)], args := [d1, d2, d3, d4, d5, d6] }
  | _ => none }
def SlotTellsWrongFalsely : Prop := slotTellsRow.holds Try.pinned (OpenSpec.ofChange slotTellsWrong)

/-- 'breadlinelaw10.SlotBody': WHATEVER THE INPUT: true; the input reads as it did. -/
def slotBodySpec : ChangeSpec := { name := "slotBody", fn := fun _ => fun
  | [d1, d2, d3] => { results := [.lit (.bool true)], args := [d1, d2, d3] }
  | _ => none }
def slotBodyRow : OpenClaim := { program := "ytcpkofbhkcpodaa", sum := "0713d35b0e536d662a7bc559b7cff4ac899a244fbb516463d5a1e8975de4dc7a", func := "breadline/breadlinelaw10.SlotBody", spec := "slotBody", unfollowed := true, recurses := true, apart := false }
def SlotBodySaid : Prop := slotBodyRow.holds Try.pinned (OpenSpec.ofChange slotBodySpec)

/-- ITS FALSE NEIGHBOUR: 'it returns false'. Refute it at one input. -/
def slotBodyWrong : ChangeSpec := { name := "slotBody", fn := fun _ => fun
  | [d1, d2, d3] => { results := [.lit (.bool false)], args := [d1, d2, d3] }
  | _ => none }
def SlotBodyWrongFalsely : Prop := slotBodyRow.holds Try.pinned (OpenSpec.ofChange slotBodyWrong)

/-- 'breadlinelaw10.SlotHandle': WHATEVER THE INPUT: true; the input reads as it did. -/
def slotHandleSpec : ChangeSpec := { name := "slotHandle", fn := fun _ => fun
  | [d1, d2, d3, d4] => { results := [.lit (.bool true)], args := [d1, d2, d3, d4] }
  | _ => none }
def slotHandleRow : OpenClaim := { program := "ytcpkofbhkcpodaa", sum := "0713d35b0e536d662a7bc559b7cff4ac899a244fbb516463d5a1e8975de4dc7a", func := "breadline/breadlinelaw10.SlotHandle", spec := "slotHandle", unfollowed := true, recurses := true, apart := false }
def SlotHandleSaid : Prop := slotHandleRow.holds Try.pinned (OpenSpec.ofChange slotHandleSpec)

/-- ITS FALSE NEIGHBOUR: 'it returns false'. Refute it at one input. -/
def slotHandleWrong : ChangeSpec := { name := "slotHandle", fn := fun _ => fun
  | [d1, d2, d3, d4] => { results := [.lit (.bool false)], args := [d1, d2, d3, d4] }
  | _ => none }
def SlotHandleWrongFalsely : Prop := slotHandleRow.holds Try.pinned (OpenSpec.ofChange slotHandleWrong)

/-- 'breadlinelaw10.SlotTurn': WHATEVER THE INPUT: true; the input reads as it did. -/
def slotTurnSpec : ChangeSpec := { name := "slotTurn", fn := fun _ => fun
  | [d1, d2, d3] => { results := [.lit (.bool true)], args := [d1, d2, d3] }
  | _ => none }
def slotTurnRow : OpenClaim := { program := "ytcpkofbhkcpodaa", sum := "0713d35b0e536d662a7bc559b7cff4ac899a244fbb516463d5a1e8975de4dc7a", func := "breadline/breadlinelaw10.SlotTurn", spec := "slotTurn", unfollowed := true, recurses := true, apart := false }
def SlotTurnSaid : Prop := slotTurnRow.holds Try.pinned (OpenSpec.ofChange slotTurnSpec)

/-- ITS FALSE NEIGHBOUR: 'it returns false'. Refute it at one input. -/
def slotTurnWrong : ChangeSpec := { name := "slotTurn", fn := fun _ => fun
  | [d1, d2, d3] => { results := [.lit (.bool false)], args := [d1, d2, d3] }
  | _ => none }
def SlotTurnWrongFalsely : Prop := slotTurnRow.holds Try.pinned (OpenSpec.ofChange slotTurnWrong)

/-- 'breadlinelaw10.SlotState': WHATEVER THE INPUT: true; the input reads as it did. -/
def slotStateSpec : ChangeSpec := { name := "slotState", fn := fun _ => fun
  | [d1, d2, d3] => { results := [.lit (.bool true)], args := [d1, d2, d3] }
  | _ => none }
def slotStateRow : OpenClaim := { program := "ytcpkofbhkcpodaa", sum := "0713d35b0e536d662a7bc559b7cff4ac899a244fbb516463d5a1e8975de4dc7a", func := "breadline/breadlinelaw10.SlotState", spec := "slotState", unfollowed := true, recurses := true, apart := false }
def SlotStateSaid : Prop := slotStateRow.holds Try.pinned (OpenSpec.ofChange slotStateSpec)

/-- ITS FALSE NEIGHBOUR: 'it returns false'. Refute it at one input. -/
def slotStateWrong : ChangeSpec := { name := "slotState", fn := fun _ => fun
  | [d1, d2, d3] => { results := [.lit (.bool false)], args := [d1, d2, d3] }
  | _ => none }
def SlotStateWrongFalsely : Prop := slotStateRow.holds Try.pinned (OpenSpec.ofChange slotStateWrong)

/-- 'breadlinelaw10.SlotApart': WHATEVER THE INPUT: true; the input reads as it did. -/
def slotApartSpec : ChangeSpec := { name := "slotApart", fn := fun _ => fun
  | [d1, d2, d3, d4, d5, d6] => { results := [.lit (.bool true)], args := [d1, d2, d3, d4, d5, d6] }
  | _ => none }
def slotApartRow : OpenClaim := { program := "ytcpkofbhkcpodaa", sum := "0713d35b0e536d662a7bc559b7cff4ac899a244fbb516463d5a1e8975de4dc7a", func := "breadline/breadlinelaw10.SlotApart", spec := "slotApart", unfollowed := true, recurses := true, apart := false }
def SlotApartSaid : Prop := slotApartRow.holds Try.pinned (OpenSpec.ofChange slotApartSpec)

/-- ITS FALSE NEIGHBOUR: 'it returns false'. Refute it at one input. -/
def slotApartWrong : ChangeSpec := { name := "slotApart", fn := fun _ => fun
  | [d1, d2, d3, d4, d5, d6] => { results := [.lit (.bool false)], args := [d1, d2, d3, d4, d5, d6] }
  | _ => none }
def SlotApartWrongFalsely : Prop := slotApartRow.holds Try.pinned (OpenSpec.ofChange slotApartWrong)

/- THE SECOND FORM. 'bulk': how many values and letters a reading holds, each counted each time it is reached (what is shared counts as often as it is met; a slice's spare places count too). A statement '..UptoSaid' is the law's where the arguments, and the package variables that the reading takes, are together of bulk at most 1048576: NARROWER than '..Said'. Prove '..Said' where nothing that the law and all that it calls make is longer than what came in: it says more and counts as full. Else prove '..UptoSaid'. A law counts once. -/
mutual
def uptoBulk {H : Type} : DataW H → Nat
  | .lit (.string bytes) => bytes.length + 1
  | .lit _ => 1
  | .nil => 1
  | .ptr d => uptoBulk d + 1
  | .slice elems spare => uptoBulkAll elems + uptoBulkAll spare + 1
  | .agg parts => uptoBulkAll parts + 1
  | .iface _ d => uptoBulk d + 1
  | .map entries => uptoBulkEntries entries + 1
  | .held _ => 1
def uptoBulkAll {H : Type} : List (DataW H) → Nat
  | [] => 0
  | d :: r => uptoBulk d + uptoBulkAll r
def uptoBulkEntries {H : Type} : List (Lit × DataW H) → Nat
  | [] => 0
  | x :: r => uptoBulkEntry x + uptoBulkEntries r
def uptoBulkEntry {H : Type} : Lit × DataW H → Nat
  | (.string bytes, d) => bytes.length + uptoBulk d + 1
  | (_, d) => uptoBulk d + 1
 end
def uptoSmall : (H : Type) → List (DataW H) → Bool := fun _ ds => decide (uptoBulkAll ds ≤ 1048576)
def OpenSpec.upto (s : _root_.Go.ChangeSpec) : _root_.Go.OpenSpec := { _root_.Go.OpenSpec.ofChange s with cond := some uptoSmall }

/-- 'breadlinelaw10.SlotTells', WHERE WHAT IT READS IS OF BULK AT MOST 1048576: true; the input reads as it did. -/
def slotTellsUptoRow : OpenClaim := { program := "ytcpkofbhkcpodaa", sum := "0713d35b0e536d662a7bc559b7cff4ac899a244fbb516463d5a1e8975de4dc7a", func := "breadline/breadlinelaw10.SlotTells", spec := "slotTells", unfollowed := true, recurses := true, apart := false, narrowed := true }
def SlotTellsUptoSaid : Prop := slotTellsUptoRow.holds Try.pinned (OpenSpec.upto slotTellsSpec)

/-- 'breadlinelaw10.SlotBody', WHERE WHAT IT READS IS OF BULK AT MOST 1048576: true; the input reads as it did. -/
def slotBodyUptoRow : OpenClaim := { program := "ytcpkofbhkcpodaa", sum := "0713d35b0e536d662a7bc559b7cff4ac899a244fbb516463d5a1e8975de4dc7a", func := "breadline/breadlinelaw10.SlotBody", spec := "slotBody", unfollowed := true, recurses := true, apart := false, narrowed := true }
def SlotBodyUptoSaid : Prop := slotBodyUptoRow.holds Try.pinned (OpenSpec.upto slotBodySpec)

/-- 'breadlinelaw10.SlotHandle', WHERE WHAT IT READS IS OF BULK AT MOST 1048576: true; the input reads as it did. -/
def slotHandleUptoRow : OpenClaim := { program := "ytcpkofbhkcpodaa", sum := "0713d35b0e536d662a7bc559b7cff4ac899a244fbb516463d5a1e8975de4dc7a", func := "breadline/breadlinelaw10.SlotHandle", spec := "slotHandle", unfollowed := true, recurses := true, apart := false, narrowed := true }
def SlotHandleUptoSaid : Prop := slotHandleUptoRow.holds Try.pinned (OpenSpec.upto slotHandleSpec)

/-- 'breadlinelaw10.SlotTurn', WHERE WHAT IT READS IS OF BULK AT MOST 1048576: true; the input reads as it did. -/
def slotTurnUptoRow : OpenClaim := { program := "ytcpkofbhkcpodaa", sum := "0713d35b0e536d662a7bc559b7cff4ac899a244fbb516463d5a1e8975de4dc7a", func := "breadline/breadlinelaw10.SlotTurn", spec := "slotTurn", unfollowed := true, recurses := true, apart := false, narrowed := true }
def SlotTurnUptoSaid : Prop := slotTurnUptoRow.holds Try.pinned (OpenSpec.upto slotTurnSpec)

/-- 'breadlinelaw10.SlotState', WHERE WHAT IT READS IS OF BULK AT MOST 1048576: true; the input reads as it did. -/
def slotStateUptoRow : OpenClaim := { program := "ytcpkofbhkcpodaa", sum := "0713d35b0e536d662a7bc559b7cff4ac899a244fbb516463d5a1e8975de4dc7a", func := "breadline/breadlinelaw10.SlotState", spec := "slotState", unfollowed := true, recurses := true, apart := false, narrowed := true }
def SlotStateUptoSaid : Prop := slotStateUptoRow.holds Try.pinned (OpenSpec.upto slotStateSpec)

/-- 'breadlinelaw10.SlotApart', WHERE WHAT IT READS IS OF BULK AT MOST 1048576: true; the input reads as it did. -/
def slotApartUptoRow : OpenClaim := { program := "ytcpkofbhkcpodaa", sum := "0713d35b0e536d662a7bc559b7cff4ac899a244fbb516463d5a1e8975de4dc7a", func := "breadline/breadlinelaw10.SlotApart", spec := "slotApart", unfollowed := true, recurses := true, apart := false, narrowed := true }
def SlotApartUptoSaid : Prop := slotApartUptoRow.holds Try.pinned (OpenSpec.upto slotApartSpec)

end Rows
end Go.Proofs.Ytcpkofbhkcpodaa
