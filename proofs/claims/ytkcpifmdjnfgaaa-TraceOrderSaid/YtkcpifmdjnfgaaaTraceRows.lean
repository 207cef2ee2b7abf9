/- Rows of numbers of the call's own, as the laws' walks read them; the reference's 'Right' and the program's 'Ends' on right events. -/
import Derived.Test.YtkcpifmdjnfgaaaTraceLaw0
import Derived.BigQuiet
namespace Go.Proofs.Ytkcpifmdjnfgaaa.PTrace.Rows2
set_option linter.unusedVariables false
open Go.RowKit Go.Maps Go.Proofs.Ytkcpifmdjnfgaaa.PTrace Go.Proofs.YtkcpifmdjnfgaaaW.PrintWords Go.Proofs.YtkcpifmdjnfgaaaW.PrintLast Go.Proofs.YtkcpifmdjnfgaaaW.PrintMore
theorem ref_right_f {l : List S37} {t : Int} (hf : fitB l = true) : refRight.f l t = some (rightB l t) := by unfold refRight.f; rw [if_pos hf, right_ref]
theorem ends_f {l : List S37} (hf : fitB l = true) (ht : takesB l = true) : trace_Ends.f l = some (endsTo l l.length) := by unfold trace_Ends.f; rw [if_pos ⟨hf, ht⟩]
theorem most_f {l : List S37} (hf : fitB l = true) : trace_Most.f l = some (mostTo l l.length) := by unfold trace_Most.f; rw [if_pos hf]
theorem before_f {l : List S37} (hf : fitB l = true) (a b : Int) : trace_Before.f l a b = some (beforeB l a b) := by unfold trace_Before.f; rw [if_pos hf]
theorem row_form {w : World} {B n : Nat} {v : Value} {xs : List Value} (h : w.ownsRow B 3 1 v n xs) : ∃ A c, v = .slice A n c := by
  obtain ⟨_, h⟩ := h
  rcases h with ⟨hv, h0⟩ | ⟨g, cap, cur, hv, _⟩
  · exact ⟨none, 0, by rw [hv, h0]⟩
  · exact ⟨_, _, hv⟩
theorem ints_row {w : World} {base : Nat} {v : Value} {ok : Nat → Prop} {xs : List Int} (h : Kd.R (Kd.int .i64) 3 w base ok v xs) : ∃ A c, v = .slice A xs.length c ∧ ∀ i, i < xs.length → ∃ g, A = some ⟨g, 0, none⟩ ∧ base ≤ g ∧ g < w.heap.size ∧ w.cell? ⟨g, i, none⟩ = some (.int .i64 (xs.getD i 0)) := by
  have ho : w.ownsRow base 3 1 v xs.length (nums .i64 xs) := Kd.own_of_R h
  obtain ⟨A, c, rfl⟩ := row_form ho
  refine ⟨A, c, rfl, fun i hi => ?_⟩
  obtain ⟨g, cap, e, _, _, hB, hg⟩ := row_slice ho (by omega)
  injection e with e1 e2 e3
  subst e1 e3
  have := (own_at ho (i : Int) (by omega) (by omega)).1
  rw [Int.toNat_natCast] at this
  exact ⟨g, rfl, hB, hg, by rw [this]; unfold rd; rw [Int.toNat_natCast]⟩
theorem before_calls {l : List S37} (hf : fitB l = true) (A : Option Addr) (c : Nat) (a b : Nat) (r : Bool) (w : World) (hr0 : Kd.C k37 w A l.length l) (hc0 : l.length ≤ c) (h : beforeB l a b = r) :
    Calls Try.prog 16 #[.slice A l.length c, .int .i64 a, .int .i64 b] w fun e w' => e = .returned (.bool r) ∧ Below w.heap.size w w' :=
  trace_Before.calls A c l a b r w hr0 hc0 (by rw [before_f hf, h])
end Go.Proofs.Ytkcpifmdjnfgaaa.PTrace.Rows2
