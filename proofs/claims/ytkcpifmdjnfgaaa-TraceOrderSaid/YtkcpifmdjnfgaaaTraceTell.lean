/- Right by the document is right by the program; so 'TraceTells' answers true. -/
import Derived.Test.YtkcpifmdjnfgaaaTraceTell0
import Derived.Test.YtkcpifmdjnfgaaaPTracex17
namespace Go.Proofs.Ytkcpifmdjnfgaaa.PTrace
set_option linter.unusedVariables false
open Go.RowKit Go.Maps Go.Proofs.YtkcpifmdjnfgaaaW.PrintWords Go.Proofs.YtkcpifmdjnfgaaaW.PrintLast Go.Proofs.YtkcpifmdjnfgaaaW.PrintMore

set_option maxRecDepth 100000 in
theorem head_true : breadlinelaw18_head.f 20 = some true := by decide +kernel
theorem head_mono : ∀ n k, LeO (breadlinelaw18_head.f k) (breadlinelaw18_head.f (k + n))
  | 0, k => LeO.refl _
  | n + 1, k => fun r h => breadlinelaw18_head.mono (k + n) r (head_mono n k r h)
theorem head_any_ (K : Nat) (hK : 20 ≤ K) : breadlinelaw18_head.f K = some true := by
  have := head_mono (K - 20) 20 true head_true
  rwa [show 20 + (K - 20) = K by omega] at this
/-- Where all kinds are known: what is on is what began last. -/
theorem open_last (l : List S37) (t : Int) : ∀ k, (∀ j, j < k → (ev l j).f2 = 1 ∨ (ev l j).f2 = 2) → openAt l k t = match lastOf l t k with | some p => if (ev l p).f2 = 1 then some p else none | none => none
  | 0, _ => rfl
  | k + 1, h => by
    have ih := open_last l t k (fun j hj => h j (by omega))
    unfold openAt lastOf
    by_cases ht : (ev l k).f1 = t
    · rw [if_pos ht, if_pos ht]
      show _ = if (ev l k).f2 = 1 then some k else none
      by_cases h1 : (ev l k).f2 = 1
      · rw [if_pos h1, if_pos h1]
      · rcases h k (by omega) with h2 | h2
        · exact absurd h2 h1
        · rw [if_neg h1, if_neg h1, if_pos h2]
    · rw [if_neg ht, if_neg ht]; exact ih
theorem take_ref {l : List S37} {k : Nat} (h : ∀ j, j < k → (ev l j).f2 = 1 ∨ (ev l j).f2 = 2) : takeB l k = kindB l k := by
  unfold takeB kindB
  rw [open_last l _ k h]
  by_cases h1 : (ev l k).f2 = 1
  · rw [if_pos h1, if_pos h1]
    congr 1
    cases lastOf l (ev l k).f1 k with
    | none => rfl
    | some p =>
      show (!(if (ev l p).f2 = 1 then some p else none).isSome) = ((ev l p).f2 != 1)
      by_cases hp : (ev l p).f2 = 1
      · rw [if_pos hp, hp]; rfl
      · rw [if_neg hp]; symm; simpa using hp
  · rw [if_neg h1, if_neg h1]
    by_cases h2 : (ev l k).f2 = 2
    · rw [if_pos h2, if_pos h2]
      cases lastOf l (ev l k).f1 k with
      | none => rfl
      | some p =>
        show (match (if (ev l p).f2 = 1 then some p else none) with | some p => callB (ev l p).f3 (ev l k).f3 | none => false) = ((ev l p).f2 == 1 && callB (ev l p).f3 (ev l k).f3)
        by_cases hp : (ev l p).f2 = 1
        · rw [if_pos hp, hp]; rfl
        · rw [if_neg hp]
          have : ((ev l p).f2 == 1) = false := beq_eq_false_iff_ne.2 hp
          rw [this]; rfl
    · rw [if_neg h2, if_neg h2]
theorem kind_ways {l : List S37} {k : Nat} (h : kindB l k = true) : (ev l k).f2 = 1 ∨ (ev l k).f2 = 2 := by
  by_cases h1 : (ev l k).f2 = 1
  · exact .inl h1
  · by_cases h2 : (ev l k).f2 = 2
    · exact .inr h2
    · rw [kind_0 h1 h2] at h; cases h
theorem step_iff {l : List S37} {t : Int} {k : Nat} : stepB l t k = true ↔ 0 ≤ (ev l k).f1 ∧ (ev l k).f1 < t ∧ wasAt l k ≤ (ev l k).f0 ∧ takeB l k = true := by
  unfold stepB; simp
theorem refB_iff {l : List S37} {t : Int} {k : Nat} : refB l t k = true ↔ 0 ≤ (ev l k).f1 ∧ (ev l k).f1 < t ∧ 0 ≤ (ev l k).f0 ∧ (k = 0 ∨ (ev l (k - 1)).f0 ≤ (ev l k).f0) ∧ kindB l k = true := by
  unfold refB; simp
theorem steps_iff (l : List S37) (t : Int) : ∀ n, (∀ k, k < n → stepB l t k = true) ↔ (∀ k, k < n → refB l t k = true)
  | 0 => ⟨fun _ k hk => by omega, fun _ k hk => by omega⟩
  | n + 1 => by
    have ih := steps_iff l t n
    constructor
    · intro h
      have h' := ih.1 (fun k hk => h k (by omega))
      intro k hk
      by_cases e : k = n
      · subst e
        obtain ⟨a, b, c, d⟩ := step_iff.1 (h k (by omega))
        rw [take_ref (fun j hj => kind_ways (refB_iff.1 (h' j hj)).2.2.2.2)] at d
        cases k with
        | zero => exact refB_iff.2 ⟨a, b, c, .inl rfl, d⟩
        | succ k =>
          have h0 := (refB_iff.1 (h' k (by omega))).2.2.1
          have c' : (ev l k).f0 ≤ (ev l (k + 1)).f0 := c
          exact refB_iff.2 ⟨a, b, by omega, .inr c', d⟩
      · exact h' k (by omega)
    · intro h
      have h' := ih.2 (fun k hk => h k (by omega))
      intro k hk
      by_cases e : k = n
      · subst e
        obtain ⟨a, b, c, d, f⟩ := refB_iff.1 (h k (by omega))
        rw [← take_ref (fun j hj => kind_ways (refB_iff.1 (h j (by omega))).2.2.2.2)] at f
        cases k with
        | zero => exact step_iff.2 ⟨a, b, c, f⟩
        | succ k =>
          refine step_iff.2 ⟨a, b, ?_, f⟩
          rcases d with d | d
          · omega
          · exact d
      · exact h' k (by omega)
theorem right_ref (l : List S37) (t : Int) : rightB l t = refRightB l t := by
  rw [Bool.eq_iff_iff]
  simp only [rightB, refRightB, List.all_eq_true, List.mem_range]
  exact steps_iff l t l.length
theorem right_takes {l : List S37} {t : Int} (h : rightB l t = true) : takesB l = true := by
  simp only [rightB, takesB, List.all_eq_true, List.mem_range] at h ⊢
  exact fun k hk => (step_iff.1 (h k hk)).2.2.2
theorem fit_of {l : List S37} (hl : l.length ≤ 1000) (h : ∀ e ∈ l, (Lit.int .i64 e.f1).wf = true) : fitB l = true := by
  unfold fitB
  simp only [Bool.and_eq_true, List.all_eq_true, decide_eq_true_eq]
  refine ⟨fun e he => ?_, hl⟩
  have := h e he
  simp [Lit.wf, IntKind.min, IntKind.max, IntKind.signed, IntKind.bits] at this
  omega
theorem tells (l : List S37) (t a b : Int) (hw : ∀ e ∈ l, (Lit.int .i64 e.f1).wf = true) : breadlinelaw18_TraceTells.f 1000 l t a b = some true := by
  unfold breadlinelaw18_TraceTells.f
  rw [head_any_ _ (by omega)]
  simp only [Option.bind_some]
  by_cases hl : (l.length : Int) > 200
  · rw [if_pos hl]
    simp only [breadlinelaw18_TraceTells.j0]
    rw [if_pos trivial, if_pos trivial, decide_eq_true hl]
  · rw [if_neg hl]
    have hf : fitB l = true := fit_of (by omega) hw
    have e1 : trace_Right.f l t = some (rightB l t) := by unfold trace_Right.f; rw [if_pos hf]
    have e2 : ∀ K, breadlineref18_Right.f K l t = some (rightB l t) := fun K => by unfold breadlineref18_Right.f refRight.f; rw [if_pos hf, right_ref]
    rw [e1, e2]
    simp only [Option.bind_some, bne_self_eq_false]
    simp only [breadlinelaw18_TraceTells.j0]
    rw [if_neg (by simp), if_pos trivial, e2]
    simp only [Option.bind_some]
    by_cases hr : rightB l t = true
    · have ht := right_takes hr
      rw [if_pos hr]
      have e3 : trace_Ends.f l = some (endsTo l l.length) := by unfold trace_Ends.f; rw [if_pos ⟨hf, ht⟩]
      have e4 : trace_Before.f l a b = some (beforeB l a b) := by unfold trace_Before.f; rw [if_pos hf]
      have e5 : trace_Most.f l = some (mostTo l l.length) := by unfold trace_Most.f; rw [if_pos hf]
      have hl1 := endsTo_len l l.length
      have hl2 := callsTo_len l l.length
      rw [e3, ref_ends l (by omega) _ (by omega)]
      simp only [Option.bind_some]
      rw [same_f _ (by omega) _ (by omega)]
      simp only [Option.bind_some]
      rw [if_pos trivial, calls_f l (by omega) _ (by omega), ref_calls l (by omega) _ (by omega)]
      simp only [Option.bind_some]
      rw [same_f _ (by omega) _ (by omega)]
      simp only [Option.bind_some]
      rw [if_pos trivial, e4, ref_before l (by omega) a b _ (by omega)]
      simp only [Option.bind_some]
      rw [if_pos (by simp), e5, ref_most l (by omega) ht _ (by omega)]
      simp
    · rw [if_neg hr]
end Go.Proofs.Ytkcpifmdjnfgaaa.PTrace
