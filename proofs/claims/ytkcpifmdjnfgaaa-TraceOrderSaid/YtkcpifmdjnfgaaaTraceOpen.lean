/- A slice of events that came in, as a list of events. -/
import Derived.Test.YtkcpifmdjnfgaaaTracePure
import Derived.ProofKit
import Derived.Deep.Slices
namespace Go.Proofs.Ytkcpifmdjnfgaaa.PTrace
open Go.RowKit Go.ChangeShapes Go.WideShapes Go.Deep Go.Proofs.YtkcpifmdjnfgaaaW.PrintWords Go.Proofs.YtkcpifmdjnfgaaaW.PrintLast Go.Proofs.YtkcpifmdjnfgaaaW.PrintMore
section
variable {H : Type} {enc : TypeId × Value → H} {w : World} {base : Nat} {spare : Nat → Bool} {held : Bool}
theorem c3 : Try.prog.cellsOf 3 = 1 := by kernel_rfl
theorem c4 : Try.prog.cellsOf 4 = 1 := by kernel_rfl
theorem c33 : Try.prog.cellsOf 33 = 1 := by kernel_rfl
theorem c32 : Try.prog.cellsOf 32 = 3 := by kernel_rfl
theorem c35 : Try.prog.cellsOf 35 = 4 := by kernel_rfl
theorem c37 : Try.prog.cellsOf 37 = 10 := by kernel_rfl
theorem int_of {n : Nat} {cs : List Value} {x : DataW H × List MemPlace} (h : DataW.trod enc Try.prog w base spare held n 3 cs = some x) : ∃ z, cs = [.int .i64 z] ∧ (Lit.int .i64 z).wf = true := by
  obtain ⟨z, h1, _, h2⟩ := DataW.trod_int Try.underlying3 h
  exact ⟨z, h1, h2⟩
theorem call_of {n : Nat} {cs : List Value} {x : DataW H × List MemPlace} (h : DataW.trod enc Try.prog w base spare held n 32 cs = some x) : ∃ z0 z1 z2, cs = [.int .i64 z0, .int .i64 z1, .int .i64 z2] := by
  obtain ⟨xs, m, _, _, hl, hx, hf⟩ := DataW.trod_struct Try.underlying32 h
  rw [c32] at hl
  match cs, hl, xs, hx with
  | [u0, u1, u2], _, [y0, y1, y2], _ =>
    have g0 := hf 0 _ rfl
    have g1 := hf 1 _ rfl
    have g2 := hf 2 _ rfl
    simp [c3] at g0 g1 g2
    obtain ⟨z0, e0, _⟩ := int_of g0
    obtain ⟨z1, e1, _⟩ := int_of g1
    obtain ⟨z2, e2, _⟩ := int_of g2
    simp at e0 e1 e2
    exact ⟨z0, z1, z2, by rw [e0, e1, e2]⟩
theorem ans_of {n : Nat} {cs : List Value} {x : DataW H × List MemPlace} (h : DataW.trod enc Try.prog w base spare held n 35 cs = some x) : ∃ z0 z1 b z2, cs = [.int .i64 z0, .int .i64 z1, .bool b, .int .i64 z2] := by
  obtain ⟨xs, m, _, _, hl, hx, hf⟩ := DataW.trod_struct Try.underlying35 h
  rw [c35] at hl
  match cs, hl, xs, hx with
  | [u0, u1, u2, u3], _, [y0, y1, y2, y3], _ =>
    have g0 := hf 0 _ rfl
    have g1 := hf 1 _ rfl
    have g2 := hf 2 _ rfl
    have g3 := hf 3 _ rfl
    simp [c3, c4, c33] at g0 g1 g2 g3
    obtain ⟨z0, e0, _⟩ := DataW.trod_int Try.underlying33 g0
    obtain ⟨z1, e1, _⟩ := int_of g1
    obtain ⟨b, e2, _⟩ := DataW.trod_bool Try.underlying4 g2
    obtain ⟨z2, e3, _⟩ := int_of g3
    simp at e0 e1 e2 e3
    exact ⟨z0, z1, b, z2, by rw [e0, e1, e2, e3]⟩
theorem event_of {n : Nat} {cs : List Value} {x : DataW H × List MemPlace} (h : DataW.trod enc Try.prog w base spare held n 37 cs = some x) : ∃ e : S37, k37.K w e cs ∧ (Lit.int .i64 e.f1).wf = true := by
  obtain ⟨xs, m, _, _, hl, hx, hf⟩ := DataW.trod_struct Try.underlying37 h
  rw [c37] at hl
  match cs, hl, xs, hx with
  | [u0, u1, u2, u3, u4, u5, u6, u7, u8, u9], _, [y0, y1, y2, y3, y4], _ =>
    have g0 := hf 0 _ rfl
    have g1 := hf 1 _ rfl
    have g2 := hf 2 _ rfl
    have g3 := hf 3 _ rfl
    have g4 := hf 4 _ rfl
    simp [c3, c32, c35] at g0 g1 g2 g3 g4
    obtain ⟨z0, e0, _⟩ := int_of g0
    obtain ⟨z1, e1, hw⟩ := int_of g1
    obtain ⟨z2, e2, _⟩ := int_of g2
    obtain ⟨z3, z4, z5, e3⟩ := call_of g3
    obtain ⟨z6, z7, b, z8, e4⟩ := ans_of g4
    simp at e0 e1 e2 e3 e4
    obtain ⟨rfl, rfl, rfl⟩ := e3
    obtain ⟨rfl, rfl, rfl, rfl⟩ := e4
    subst e0 e1 e2
    exact ⟨⟨z0, z1, z2, ⟨z3, z4, z5⟩, ⟨z6, z7, b, z8⟩⟩, k37_mk w _, hw⟩
/-- The list of events. -/
theorem open_events {a : Option Addr} {len cap : Nat} {d : DataW H} {p : List MemPlace} (h : DataW.Trod enc Try.prog w base spare held 22 (.slice a len cap) d p) :
    ∃ l : List S37, l.length = len ∧ Kd.C k37 w a l.length l ∧ l.length ≤ cap ∧ cap ≤ maxLen ∧ ∀ e ∈ l, (Lit.int .i64 e.f1).wf = true := by
  obtain ⟨fuel, hf⟩ := h
  rcases open_slice Try.underlying22 hf with ⟨hcs, _⟩ | ⟨x, len', cap', m, n, D, Pl, hcs, _, hl, hm, hmm, _, hi⟩
  · simp [Value.cells] at hcs
    obtain ⟨rfl, rfl, rfl⟩ := hcs
    exact ⟨[], rfl, ⟨rfl, by simp, fun h => by simp at h⟩, Nat.le_refl _, by simp, fun e he => by simp at he⟩
  · simp [Value.cells] at hcs
    obtain ⟨rfl, rfl, rfl⟩ := hcs
    have hlm : len ≤ m := by rw [hmm]; split <;> omega
    have hex : ∀ i : Nat, ∃ e : S37, i < len → (∃ cs', w.cells? base (x.add (i * 10)) 10 = some cs' ∧ k37.K w e cs') ∧ (Lit.int .i64 e.f1).wf = true := by
      intro i
      by_cases hil : i < len
      · obtain ⟨cs', h1, h2⟩ := hi i (by omega)
        rw [c37] at h1
        obtain ⟨e, h3, h4⟩ := event_of h2
        exact ⟨e, fun _ => ⟨⟨cs', h1, h3⟩, h4⟩⟩
      · exact ⟨z37, fun h => absurd h hil⟩
    let F : Nat → S37 := fun i => (hex i).choose
    have hF : ∀ i, i < len → (∃ cs', w.cells? base (x.add (i * 10)) 10 = some cs' ∧ k37.K w (F i) cs') ∧ (Lit.int .i64 (F i).f1).wf = true := fun i hil => (hex i).choose_spec hil
    refine ⟨(List.range len).map F, by simp, ?_, by simpa using hl, hm, fun e he => ?_⟩
    · refine ⟨by simp, by simp; unfold maxLen at hm; omega, fun _ => ⟨x, rfl, fun j p hp => ?_⟩⟩
      rw [List.getElem?_map] at hp
      have hj : j < len := by
        have := (List.getElem?_eq_some_iff.1 (show ((List.range len).map F)[j]? = some p by rw [List.getElem?_map]; exact hp)).1
        simpa using this
      rw [List.getElem?_range hj] at hp
      simp at hp
      subst hp
      obtain ⟨⟨cs', h1, h2⟩, _⟩ := hF j hj
      obtain ⟨_, hcl, hat⟩ := World.cells?_some h1
      refine ⟨cs', k37.K_len h2, h2, fun i u hu => ?_⟩
      have hil := (List.getElem?_eq_some_iff.1 hu).1
      have := hat i (by omega)
      rw [hu, Go.Deep.add_add] at this
      exact this
    · obtain ⟨j, hj, rfl⟩ := List.mem_map.1 he
      exact (hF j (List.mem_range.1 hj)).2
end
end Go.Proofs.Ytkcpifmdjnfgaaa.PTrace
