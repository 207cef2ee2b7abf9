/- Of right events: the beginning, and with one more. -/
import Derived.Test.YtkcpifmdjnfgaaaTraceLaw0
namespace Go.Proofs.Ytkcpifmdjnfgaaa.PTrace
set_option linter.unusedVariables false
set_option linter.unusedSimpArgs false
open Go.RowKit Go.Maps Go.Proofs.YtkcpifmdjnfgaaaW.PrintWords Go.Proofs.YtkcpifmdjnfgaaaW.PrintLast Go.Proofs.YtkcpifmdjnfgaaaW.PrintMore

section
variable {a b : List S37} {n : Nat} (h : ∀ j, j < n → ev a j = ev b j)
include h
theorem alike_open (t : Int) : ∀ k, k ≤ n → openAt a k t = openAt b k t
  | 0, _ => rfl
  | k + 1, hk => by
    have ih := alike_open t k (by omega)
    unfold openAt
    rw [h k (by omega), ih]
theorem alike_map : ∀ k, k ≤ n → mapTo a k = mapTo b k
  | 0, _ => rfl
  | k + 1, hk => by
    have ih := alike_map k (by omega)
    unfold mapTo
    rw [h k (by omega), ih]
theorem alike_most : ∀ k, k ≤ n → mostTo a k = mostTo b k
  | 0, _ => rfl
  | k + 1, hk => by
    have ih := alike_most k (by omega)
    unfold mostTo
    rw [ih, alike_map h (k + 1) hk]
theorem alike_was : ∀ k, k ≤ n → wasAt a k = wasAt b k
  | 0, _ => rfl
  | k + 1, hk => by
    show (ev a k).f0 = (ev b k).f0
    rw [h k (by omega)]
theorem alike_take (k : Nat) (hk : k < n) : takeB a k = takeB b k := by
  unfold takeB
  rw [h k hk, alike_open h _ k (by omega)]
  cases ho : openAt b k (ev b k).f1 with
  | none => rfl
  | some p =>
    have := openAt_lt b _ k p ho
    simp only [h p (by omega)]
theorem alike_step (t : Int) (k : Nat) (hk : k < n) : stepB a t k = stepB b t k := by
  unfold stepB
  rw [h k hk, alike_was h k (by omega), alike_take h k hk]
end
theorem ev_take (l : List S37) (k : Nat) : ∀ j, j < k → ev (l.take k) j = ev l j := fun j hj => by
  unfold ev
  rw [List.getD_eq_getElem?_getD, List.getD_eq_getElem?_getD, List.getElem?_take_of_lt hj]
theorem ev_more (l : List S37) (x : S37) : ∀ j, j < l.length → ev (l ++ [x]) j = ev l j := fun j hj => by
  unfold ev
  rw [List.getD_eq_getElem?_getD, List.getD_eq_getElem?_getD, List.getElem?_append_left hj]
theorem ev_last (l : List S37) (x : S37) : ev (l ++ [x]) l.length = x := by
  unfold ev
  rw [List.getD_eq_getElem?_getD, List.getElem?_append_right (Nat.le_refl _)]
  simp
theorem right_at {l : List S37} {t : Int} (h : rightB l t = true) {k : Nat} (hk : k < l.length) : stepB l t k = true := by
  simp only [rightB, List.all_eq_true, List.mem_range] at h
  exact h k hk
theorem part_right {l : List S37} {t : Int} (h : rightB l t = true) {k : Nat} (hk : k ≤ l.length) : rightB (l.take k) t = true := by
  refine right_yes fun j hj => ?_
  rw [List.length_take] at hj
  rw [alike_step (ev_take l k) t j (by omega)]
  exact right_at h (by omega)
theorem most_mono (l : List S37) : ∀ n k, mostTo l k ≤ mostTo l (k + n)
  | 0, k => Int.le_refl _
  | n + 1, k => by
    have := most_mono l n k
    have e : mostTo l (k + (n + 1)) = max (mostTo l (k + n)) (Maps.size (mapTo l (k + n + 1))) := rfl
    rw [e]
    omega
theorem part_most (l : List S37) {k : Nat} (hk : k ≤ l.length) : mostTo (l.take k) (l.take k).length ≤ mostTo l l.length := by
  rw [List.length_take, Nat.min_eq_left hk, alike_most (ev_take l k) k (Nat.le_refl _)]
  have := most_mono l (l.length - k) k
  rwa [show k + (l.length - k) = l.length by omega] at this
def oddOf (t : Int) : S37 := ⟨1152921504606846976, t, 1, ⟨0, 0, 0⟩, ⟨0, 0, false, 0⟩⟩
theorem odd_wrong (l : List S37) (t : Int) : rightB (l ++ [oddOf t]) t = false := by
  refine right_no (k := l.length) (by simp) ?_
  unfold stepB
  rw [ev_last]
  rw [decide_eq_false (p := (oddOf t).f1 < t) (by show ¬ t < t; omega)]
  simp
theorem no_open {l : List S37} {t : Int} (h : ∀ j, j < l.length → (ev l j).f1 < t) : ∀ k, k ≤ l.length → openAt l k t = none
  | 0, _ => rfl
  | k + 1, hk => by
    have ih := no_open h k (by omega)
    have := h k (by omega)
    unfold openAt
    rw [if_neg (by omega), ih]
theorem odd_right {l : List S37} {t : Int} (h : rightB l t = true) (h0 : 0 ≤ t) (hl : wasAt l l.length ≤ 1152921504606846976) : rightB (l ++ [oddOf t]) (t + 1) = true := by
  refine right_yes fun j hj => ?_
  rw [List.length_append] at hj
  by_cases e : j < l.length
  · rw [alike_step (ev_more l _) (t + 1) j e]
    obtain ⟨a, b, c, d⟩ := step_iff.1 (right_at h e)
    exact step_iff.2 ⟨a, by omega, c, d⟩
  · have : j = l.length := by simp at hj; omega
    subst this
    rw [step_iff, ev_last, alike_was (ev_more l _) l.length (Nat.le_refl _)]
    refine ⟨h0, ?_, hl, ?_⟩
    · show t < t + 1; omega
    · unfold takeB
      rw [ev_last, if_pos (show (oddOf t).f2 = 1 from rfl), alike_open (ev_more l _) _ l.length (Nat.le_refl _)]
      rw [no_open (t := (oddOf t).f1) (fun j hj => (step_iff.1 (right_at h hj)).2.1) _ (Nat.le_refl _)]
      rfl
theorem fit_take {l : List S37} (h : fitB l = true) (k : Nat) : fitB (l.take k) = true := by
  simp only [fitB, Bool.and_eq_true, List.all_eq_true, decide_eq_true_eq] at h ⊢
  refine ⟨fun e he => h.1 e (List.mem_of_mem_take he), ?_⟩
  rw [List.length_take]; omega
theorem fit_more {l : List S37} (h : fitB l = true) (hl : l.length ≤ 100) {t : Int} (h0 : 0 ≤ t) (h1 : t ≤ 100) : fitB (l ++ [oddOf t]) = true := by
  simp only [fitB, Bool.and_eq_true, List.all_eq_true, decide_eq_true_eq] at h ⊢
  refine ⟨fun e he => ?_, by simp; omega⟩
  rcases List.mem_append.1 he with he | he
  · exact h.1 e he
  · simp at he
    subst he
    show -9223372036854775808 ≤ t ∧ t ≤ 9223372036854775807
    omega
theorem right_f {l : List S37} {t : Int} (hf : fitB l = true) : trace_Right.f l t = some (rightB l t) := by unfold trace_Right.f; rw [if_pos hf]
theorem most_f {l : List S37} (hf : fitB l = true) : trace_Most.f l = some (mostTo l l.length) := by unfold trace_Most.f; rw [if_pos hf]
end Go.Proofs.Ytkcpifmdjnfgaaa.PTrace
