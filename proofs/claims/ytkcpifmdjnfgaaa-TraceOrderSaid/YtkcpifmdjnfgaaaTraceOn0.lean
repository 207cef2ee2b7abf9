/- Of right events: calls of which neither is before the other are on at one time; before is an order. -/
import Derived.Test.YtkcpifmdjnfgaaaTracePart0
namespace Go.Proofs.Ytkcpifmdjnfgaaa.PTrace
set_option linter.unusedVariables false
set_option linter.unusedSimpArgs false
open Go.RowKit Go.Maps Go.Proofs.YtkcpifmdjnfgaaaW.PrintWords Go.Proofs.YtkcpifmdjnfgaaaW.PrintLast Go.Proofs.YtkcpifmdjnfgaaaW.PrintMore

/-- Before, of the places of beginnings. -/
theorem before_iff {l : List S37} {a b : Nat} (hb : b < l.length) (ha1 : (ev l a).f2 = 1) (hb1 : (ev l b).f2 = 1) : beforeB l a b = true ↔ a < b ∧ ∃ j, a < j ∧ j < b ∧ (ev l j).f1 = (ev l a).f1 := by
  unfold beforeB
  simp only [Int.toNat_natCast, Bool.and_eq_true, decide_eq_true_eq, List.any_eq_true, List.mem_range, beq_iff_eq]
  constructor
  · rintro ⟨_, h2, _, _, _, j, hj, he⟩
    exact ⟨by omega, a + 1 + j, by omega, by omega, he⟩
  · rintro ⟨h1, j, h2, h3, h4⟩
    refine ⟨by omega, by omega, by omega, ha1, hb1, j - (a + 1), by omega, ?_⟩
    rw [show a + 1 + (j - (a + 1)) = j by omega]
    exact h4
theorem before_back (l : List S37) {a b : Nat} (h : b ≤ a) : beforeB l a b = false := before_no (.inr (.inl (by omega)))
theorem before_trans {l : List S37} {a b c : Nat} (hb : b < l.length) (hc : c < l.length) (ha1 : (ev l a).f2 = 1) (hb1 : (ev l b).f2 = 1) (hc1 : (ev l c).f2 = 1) (h1 : beforeB l a b = true) (h2 : beforeB l b c = true) : beforeB l a c = true := by
  obtain ⟨h3, j, j1, j2, j3⟩ := (before_iff hb ha1 hb1).1 h1
  obtain ⟨h4, _⟩ := (before_iff hc hb1 hc1).1 h2
  exact (before_iff hc ha1 hc1).2 ⟨by omega, j, j1, by omega, j3⟩
/-- Of one thread's calls each is before the next. -/
theorem before_thread {l : List S37} (ht : takesB l = true) {a b : Nat} (hab : a < b) (hb : b < l.length) (ha1 : (ev l a).f2 = 1) (hb1 : (ev l b).f2 = 1) (he : (ev l a).f1 = (ev l b).f1) : beforeB l a b = true := by
  rcases take_kind (takes_at ht hb) with ⟨_, ho, _⟩ | ⟨h2, _⟩
  · have := openAt_none l _ b ho a hab ha1 he
    rcases endTo_ways l a b with ⟨h, _⟩ | ⟨q, _, q1, q2, q3, _⟩
    · exact absurd h this
    · exact (before_iff hb ha1 hb1).2 ⟨hab, q, q1, q2, q3⟩
  · omega
theorem size_pos {D : DataW Unit} (hD : Tidy D) {k : Lit} (h : Maps.has D k = true) : 1 ≤ Maps.size D := by
  have h1 := size_put (k := k) hD (.lit (.int .i64 0))
  cases hD0 : Maps.size D with
  | succ n => omega
  | zero =>
    obtain ⟨es, rfl⟩ : ∃ es, D = .map es := by
      have := hD.isMap
      cases D with
      | map es => exact ⟨es, rfl⟩
      | _ => exact absurd this (by simp [IsMap])
    have : es = [] := by
      simpa [Maps.size] using hD0
    subst this
    simp [Maps.has] at h
theorem open_stays {l : List S37} {b : Nat} (h1 : (ev l b).f2 = 1) : ∀ n, (∀ j, b < j → j < b + 1 + n → (ev l j).f1 ≠ (ev l b).f1) → openAt l (b + 1 + n) (ev l b).f1 = some b
  | 0, _ => by
    show openAt l (b + 1) _ = _
    unfold openAt
    rw [if_pos rfl, if_pos h1]
  | n + 1, h => by
    have ih := open_stays h1 n (fun j a c => h j a (by omega))
    show openAt l (b + 1 + n + 1) _ = _
    unfold openAt
    rw [if_neg (h _ (by omega) (by omega)), ih]
/-- Of two calls of which neither is before the other. -/
theorem both_on {l : List S37} (ht : takesB l = true) {a b : Nat} (hab : a < b) (hb : b < l.length) (ha1 : (ev l a).f2 = 1) (hb1 : (ev l b).f2 = 1) (hn : beforeB l a b = false) :
    (ev l b).f1 ≠ (ev l a).f1 ∧ (∀ j, a < j → j < b → (ev l j).f1 ≠ (ev l a).f1) ∧ 2 ≤ mostTo l l.length := by
  have hno : ∀ j, a < j → j < b → (ev l j).f1 ≠ (ev l a).f1 := fun j h1 h2 h3 => by
    rw [(before_iff hb ha1 hb1).2 ⟨hab, j, h1, h2, h3⟩] at hn; cases hn
  have hne : (ev l b).f1 ≠ (ev l a).f1 := fun h => by
    rw [before_thread ht hab hb ha1 hb1 h.symm] at hn; cases hn
  refine ⟨hne, hno, ?_⟩
  have ho := open_stays ha1 (b - (a + 1)) (fun j h1 h2 => hno j h1 (by omega))
  rw [show a + 1 + (b - (a + 1)) = b by omega] at ho
  have hh := has_mapTo l (ev l a).f1 b
  rw [ho] at hh
  have h1 := size_pos (tidy_mapTo l b) hh
  have h2 := size_take (takes_at ht hb)
  rw [if_pos hb1] at h2
  have h3 : mostTo l (b + 1) = max (mostTo l b) (Maps.size (mapTo l (b + 1))) := rfl
  have h4 := most_mono l (l.length - (b + 1)) (b + 1)
  rw [show b + 1 + (l.length - (b + 1)) = l.length by omega] at h4
  omega
/-- What the walk of 'TraceOn' is told of two calls. -/
theorem on_pair {l : List S37} (ht : takesB l = true) {i j : Nat} (hij : j < i) (hi : i < (beginsTo l l.length).length) : ∃ a b : Nat, a < b ∧ b < l.length ∧ (ev l a).f2 = 1 ∧ (ev l b).f2 = 1 ∧ cAt l j = (a : Int) ∧ cAt l i = (b : Int) ∧
    (beforeB l a b = false → 2 ≤ mostTo l l.length ∧ (eAt l j = -1 ∨ ∃ q : Nat, eAt l j = (q : Int) ∧ b < q) ∧ (eAt l i = -1 ∨ ∃ q : Nat, eAt l i = (q : Int) ∧ a < q)) := by
  obtain ⟨a, a1, a2, a3, ha⟩ := call_at ht (i := j) (by omega)
  obtain ⟨b, b1, b2, b3, hb⟩ := call_at ht hi
  have hab : a < b := by have := begins_lt l hij hi; omega
  refine ⟨a, b, hab, b1, a2, b2, a3, b3, fun hn => ?_⟩
  obtain ⟨h1, h2, h3⟩ := both_on ht hab b1 a2 b2 hn
  refine ⟨h3, ?_, ?_⟩
  · rcases ha with ⟨h, _⟩ | ⟨q, h, q1, q2, q3, _, _, _⟩
    · exact .inl h
    · refine .inr ⟨q, h, ?_⟩
      rcases Nat.lt_trichotomy q b with hq | hq | hq
      · exact absurd q3 (h2 q q1 hq)
      · subst hq; exact absurd q3 h1
      · exact hq
  · rcases hb with ⟨h, _⟩ | ⟨q, h, q1, _, _, _, _, _⟩
    · exact .inl h
    · exact .inr ⟨q, h, by omega⟩
end Go.Proofs.Ytkcpifmdjnfgaaa.PTrace
