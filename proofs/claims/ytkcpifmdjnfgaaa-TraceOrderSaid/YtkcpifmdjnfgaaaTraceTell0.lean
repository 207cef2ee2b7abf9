/- The document's answers on right events are the program's. -/
import Derived.Test.YtkcpifmdjnfgaaaTraceEnds0
import Derived.Test.YtkcpifmdjnfgaaaTraceRef
import Derived.Test.YtkcpifmdjnfgaaaTraceEnds
import Derived.Test.YtkcpifmdjnfgaaaTraceMost
import Derived.Test.YtkcpifmdjnfgaaaTraceBefore
import Derived.Test.YtkcpifmdjnfgaaaPTracex5
import Derived.Test.YtkcpifmdjnfgaaaPTracex6
import Derived.Test.YtkcpifmdjnfgaaaPTracex11
import Derived.Test.YtkcpifmdjnfgaaaPTracex12
import Derived.Test.YtkcpifmdjnfgaaaPTracex14
import Derived.Test.YtkcpifmdjnfgaaaPTracex15
namespace Go.Proofs.Ytkcpifmdjnfgaaa.PTrace
set_option linter.unusedVariables false
set_option linter.unusedSimpArgs false
open Go.RowKit Go.Maps Go.Proofs.YtkcpifmdjnfgaaaW.PrintWords Go.Proofs.YtkcpifmdjnfgaaaW.PrintLast Go.Proofs.YtkcpifmdjnfgaaaW.PrintMore

theorem w64 {x : Int} (h : -9223372036854775808 ≤ x ∧ x ≤ 9223372036854775807) : wrap64 x = x := IntWalk.wrap64_in _ h
/-- The end of the call that begins at b, as the reference looks for it. -/
theorem end_l0 (l : List S37) (b : Nat) (hl : l.length ≤ 1000) (hb : b < l.length) : ∀ (m i : Nat), l.length - i = m → b < i → i ≤ l.length → (∀ j, b < j → j < i → (ev l j).f1 ≠ (ev l b).f1) → ∀ K, m + 1 ≤ K → breadlineref18_end.l0 K l b i = some (endTo l b l.length)
  | 0, i, hm, hbi, hil, hno, K, hK => by
    obtain ⟨K, rfl⟩ : ∃ k, K = k + 1 := ⟨K - 1, by omega⟩
    simp only [breadlineref18_end.l0]
    rw [if_neg (by omega)]
    congr 1
    rcases endTo_ways l b l.length with ⟨h, _⟩ | ⟨q, _, q1, q2, q3, _⟩
    · exact h.symm
    · exact absurd q3 (hno q q1 (by omega))
  | m + 1, i, hm, hbi, hil, hno, K, hK => by
    obtain ⟨K, rfl⟩ : ∃ k, K = k + 1 := ⟨K - 1, by omega⟩
    simp only [breadlineref18_end.l0]
    rw [if_pos (by omega), if_pos (by omega), if_pos (by omega), if_pos (by omega), rd_ev, rd_ev]
    by_cases h : (ev l i).f1 = (ev l b).f1
    · rw [if_pos h]
      congr 1
      rcases endTo_ways l b l.length with ⟨_, hn⟩ | ⟨q, hq, q1, q2, q3, q4⟩
      · exact absurd h (hn i hbi (by omega))
      · rw [hq]
        rcases Nat.lt_trichotomy q i with hlt | he | hgt
        · exact absurd q3 (hno q q1 hlt)
        · rw [he]
        · exact absurd h (q4 i hbi hgt)
    · rw [if_neg h, w64 (by omega)]
      exact end_l0 l b hl hb m (i + 1) (by omega) (by omega) (by omega) (fun j h1 h2 => by
        by_cases e : j = i
        · rw [e]; exact h
        · exact hno j h1 (by omega)) K (by omega)
theorem end_f (l : List S37) (b : Nat) (hl : l.length ≤ 1000) (hb : b < l.length) (K : Nat) (hK : l.length ≤ K) : breadlineref18_end.f K l b = some (endTo l b l.length) := by
  unfold breadlineref18_end.f
  rw [w64 (by omega)]
  exact end_l0 l b hl hb _ (b + 1) rfl (by omega) (by omega) (fun j h1 h2 => by omega) K (by omega)
def endsAt (l : List S37) (i : Nat) : List Int := (beginsTo l i).map fun b => endTo l b l.length
theorem ref_ends_l0 (l : List S37) (hl : l.length ≤ 1000) : ∀ (m i : Nat), l.length - i = m → i ≤ l.length → ∀ K, l.length + m + 1 ≤ K → breadlineref18_Ends.l0 K l (endsAt l i) i = some (endsTo l l.length)
  | 0, i, hm, hil, K, hK => by
    obtain ⟨K, rfl⟩ : ∃ k, K = k + 1 := ⟨K - 1, by omega⟩
    simp only [breadlineref18_Ends.l0]
    rw [if_neg (by omega)]
    have : i = l.length := by omega
    rw [this]; rfl
  | m + 1, i, hm, hil, K, hK => by
    obtain ⟨K, rfl⟩ : ∃ k, K = k + 1 := ⟨K - 1, by omega⟩
    have ih := ref_ends_l0 l hl m (i + 1) (by omega) (by omega) K (by omega)
    simp only [breadlineref18_Ends.l0]
    rw [if_pos (by omega), if_pos (by omega), rd_ev]
    by_cases h : (ev l i).f2 = 1
    · have he : endsAt l (i + 1) = endsAt l i ++ [endTo l i l.length] := by
        unfold endsAt
        rw [beginsTo, if_pos h]; simp
      have hle : (endsAt l i).length ≤ i := by unfold endsAt; rw [List.length_map]; exact beginsTo_len l i
      rw [if_pos h, end_f l i hl (by omega) K (by omega)]
      simp only [Option.bind_some]
      rw [if_pos (by omega), ← he, w64 (by omega)]
      exact ih
    · have he : endsAt l (i + 1) = endsAt l i := by
        unfold endsAt
        rw [beginsTo, if_neg h]
      rw [if_neg h, ← he, w64 (by omega)]
      exact ih
theorem ref_ends (l : List S37) (hl : l.length ≤ 1000) (K : Nat) (hK : 2 * l.length + 1 ≤ K) : breadlineref18_Ends.f K l = some (endsTo l l.length) :=
  ref_ends_l0 l hl l.length 0 (by omega) (by omega) K (by omega)
theorem callsTo_succ (l : List S37) (i : Nat) : callsTo l (i + 1) = if (ev l i).f2 = 1 then callsTo l i ++ [(i : Int)] else callsTo l i := by
  unfold callsTo
  rw [beginsTo]
  split
  · simp
  · rfl
theorem callsTo_len (l : List S37) (i : Nat) : (callsTo l i).length ≤ i := by unfold callsTo; rw [List.length_map]; exact beginsTo_len l i
theorem ref_calls_l0 (l : List S37) (hl : l.length ≤ 1000) : ∀ (m i : Nat), l.length - i = m → i ≤ l.length → ∀ K, m + 1 ≤ K → breadlineref18_Calls.l0 K l (callsTo l i) i = some (callsTo l l.length)
  | 0, i, hm, hil, K, hK => by
    obtain ⟨K, rfl⟩ : ∃ k, K = k + 1 := ⟨K - 1, by omega⟩
    simp only [breadlineref18_Calls.l0]
    rw [if_neg (by omega)]
    have : i = l.length := by omega
    rw [this]
  | m + 1, i, hm, hil, K, hK => by
    obtain ⟨K, rfl⟩ : ∃ k, K = k + 1 := ⟨K - 1, by omega⟩
    have ih := ref_calls_l0 l hl m (i + 1) (by omega) (by omega) K (by omega)
    have hle := callsTo_len l i
    simp only [breadlineref18_Calls.l0]
    rw [if_pos (by omega), if_pos (by omega), rd_ev]
    by_cases h : (ev l i).f2 = 1
    · have he := callsTo_succ l i
      rw [if_pos h] at he
      rw [if_pos h, if_pos (by omega), ← he, w64 (by omega)]
      exact ih
    · have he := callsTo_succ l i
      rw [if_neg h] at he
      rw [if_neg h, ← he, w64 (by omega)]
      exact ih
theorem ref_calls (l : List S37) (hl : l.length ≤ 1000) (K : Nat) (hK : l.length + 1 ≤ K) : breadlineref18_Calls.f K l = some (callsTo l l.length) :=
  ref_calls_l0 l hl l.length 0 (by omega) (by omega) K (by omega)
theorem calls_l0 (l : List S37) (hl : l.length ≤ 1000) : ∀ (m i : Nat), l.length - i = m → i ≤ l.length → ∀ K, m + 1 ≤ K → trace_Calls.l0 K (callsTo l i) l l.length i = some (callsTo l l.length)
  | 0, i, hm, hil, K, hK => by
    obtain ⟨K, rfl⟩ : ∃ k, K = k + 1 := ⟨K - 1, by omega⟩
    simp only [trace_Calls.l0]
    rw [if_neg (by omega)]
    have : i = l.length := by omega
    rw [this]
  | m + 1, i, hm, hil, K, hK => by
    obtain ⟨K, rfl⟩ : ∃ k, K = k + 1 := ⟨K - 1, by omega⟩
    have ih := calls_l0 l hl m (i + 1) (by omega) (by omega) K (by omega)
    have hle := callsTo_len l i
    simp only [trace_Calls.l0]
    rw [if_pos (by omega), if_pos (by omega), if_pos (by omega), rd_ev]
    by_cases h : (ev l i).f2 = 1
    · have he := callsTo_succ l i
      rw [if_pos h] at he
      rw [if_pos h, if_pos (by omega), ← he, w64 (by omega)]
      exact ih
    · have he := callsTo_succ l i
      rw [if_neg h] at he
      rw [if_neg h, ← he, w64 (by omega)]
      exact ih
theorem calls_f (l : List S37) (hl : l.length ≤ 1000) (K : Nat) (hK : l.length + 1 ≤ K) : trace_Calls.f K l = some (callsTo l l.length) :=
  calls_l0 l hl l.length 0 (by omega) (by omega) K (by omega)
theorem same_l0 (x : List Int) (hl : x.length ≤ 1000) : ∀ (m i : Nat), x.length - i = m → i ≤ x.length → ∀ K, m + 1 ≤ K → breadlineref03_SameInts.l0 K x x i = some true
  | 0, i, hm, hil, K, hK => by
    obtain ⟨K, rfl⟩ : ∃ k, K = k + 1 := ⟨K - 1, by omega⟩
    simp only [breadlineref03_SameInts.l0]
    rw [if_neg (by omega)]
  | m + 1, i, hm, hil, K, hK => by
    obtain ⟨K, rfl⟩ : ∃ k, K = k + 1 := ⟨K - 1, by omega⟩
    have ih := same_l0 x hl m (i + 1) (by omega) (by omega) K (by omega)
    simp only [breadlineref03_SameInts.l0]
    rw [if_pos (by omega), if_pos (by omega), if_pos (by omega), if_pos trivial, w64 (by omega)]
    exact ih
theorem same_f (x : List Int) (hl : x.length ≤ 1000) (K : Nat) (hK : x.length + 1 ≤ K) : breadlineref03_SameInts.f K x x = some true := by
  unfold breadlineref03_SameInts.f
  rw [if_pos rfl]
  exact same_l0 x hl x.length 0 (by omega) (by omega) K (by omega)
/-- Before. -/
theorem before_ref (l : List S37) (a b : Nat) (hb : b < l.length) (ha1 : (ev l a).f2 = 1) (hb1 : (ev l b).f2 = 1) (ha : a < l.length) : beforeB l a b = (decide (0 ≤ endTo l a l.length) && decide (endTo l a l.length < b)) := by
  rw [Bool.eq_iff_iff]
  unfold beforeB
  simp only [Int.toNat_natCast, Bool.and_eq_true, decide_eq_true_eq, List.any_eq_true, List.mem_range, beq_iff_eq]
  constructor
  · rintro ⟨_, h2, _, _, _, j, hj, he⟩
    rcases endTo_ways l a l.length with ⟨_, hn⟩ | ⟨q, hq, q1, q2, q3, q4⟩
    · exact absurd he (hn _ (by omega) (by omega))
    · rw [hq]
      refine ⟨by omega, ?_⟩
      by_cases h : q < b
      · omega
      · exact absurd he (q4 _ (by omega) (by omega))
  · rintro ⟨h1, h2⟩
    rcases endTo_ways l a l.length with ⟨hq, _⟩ | ⟨q, hq, q1, q2, q3, q4⟩
    · omega
    · rw [hq] at h2
      refine ⟨by omega, by omega, by omega, ha1, hb1, q - (a + 1), by omega, ?_⟩
      rw [show a + 1 + (q - (a + 1)) = q by omega]
      exact q3
theorem begins_f (l : List S37) (a : Int) : breadlineref18_begins.f l a = some (decide (0 ≤ a) && (decide (a < l.length) && ((ev l a.toNat).f2 == 1))) := by
  unfold breadlineref18_begins.f
  by_cases h : 0 ≤ a
  · obtain ⟨n, rfl⟩ := Int.eq_ofNat_of_zero_le h
    rw [if_pos (by omega)]
    by_cases h1 : (n : Int) < l.length
    · rw [if_pos h1, if_pos h, rd_ev]
      simp [h, h1]
    · rw [if_neg h1]
      simp
      omega
  · rw [if_neg (by omega)]
    simp
    omega
theorem ref_before (l : List S37) (hl : l.length ≤ 1000) (a b : Int) (K : Nat) (hK : l.length ≤ K) : breadlineref18_Before.f K l a b = some (beforeB l a b) := by
  unfold breadlineref18_Before.f
  rw [begins_f, begins_f]
  simp only [Option.bind_some]
  by_cases ha : (decide (0 ≤ a) && (decide (a < l.length) && ((ev l a.toNat).f2 == 1))) = true
  · rw [if_pos ha]
    by_cases hb : (decide (0 ≤ b) && (decide (b < l.length) && ((ev l b.toNat).f2 == 1))) = true
    · rw [if_pos hb]
      simp only [Bool.and_eq_true, decide_eq_true_eq, beq_iff_eq] at ha hb
      obtain ⟨a0, a1, a2⟩ := ha
      obtain ⟨b0, b1, b2⟩ := hb
      obtain ⟨n, rfl⟩ := Int.eq_ofNat_of_zero_le a0
      obtain ⟨m, rfl⟩ := Int.eq_ofNat_of_zero_le b0
      rw [Int.toNat_natCast] at a2 b2
      rw [end_f l n hl (by omega) K hK]
      simp only [Option.bind_some]
      rw [before_ref l n m (by omega) a2 b2 (by omega)]
      by_cases h : endTo l n l.length ≥ 0
      · rw [if_pos h, decide_eq_true (show 0 ≤ endTo l n l.length from h)]; rfl
      · rw [if_neg h, decide_eq_false (p := 0 ≤ endTo l n l.length) (by omega)]; rfl
    · rw [if_neg hb]
      simp only [Bool.and_eq_true, decide_eq_true_eq, beq_iff_eq] at ha hb
      congr 1
      symm
      apply before_no
      by_cases h1 : b ≤ a
      · exact .inr (.inl h1)
      · by_cases h2 : (l.length : Int) ≤ b
        · exact .inr (.inr (.inl h2))
        · exact .inr (.inr (.inr (.inr (fun h => hb ⟨by omega, by omega, h⟩))))
  · rw [if_neg ha]
    simp only [Bool.and_eq_true, decide_eq_true_eq, beq_iff_eq] at ha
    congr 1
    symm
    apply before_no
    by_cases h1 : a < 0
    · exact .inl h1
    · by_cases h2 : b ≤ a
      · exact .inr (.inl h2)
      · by_cases h3 : (l.length : Int) ≤ b
        · exact .inr (.inr (.inl h3))
        · exact .inr (.inr (.inr (.inl (fun h => ha ⟨by omega, by omega, h⟩))))
/-- Most: of events that may happen. -/
theorem size_take {l : List S37} {k : Nat} (h : takeB l k = true) : (Maps.size (mapTo l (k + 1)) : Int) = if (ev l k).f2 = 1 then (Maps.size (mapTo l k) : Int) + 1 else (Maps.size (mapTo l k) : Int) - 1 := by
  have hh := has_mapTo l (ev l k).f1 k
  rcases take_kind h with ⟨h1, ho, _⟩ | ⟨h2, p, ho, _⟩
  · rw [ho] at hh
    rw [if_pos h1, mapTo, if_pos h1, size_put (tidy_mapTo l k), hh]
    simp
  · rw [ho] at hh
    rw [if_neg (by omega), mapTo, if_neg (by omega), if_pos h2]
    have := size_del (k := .int .i64 (ev l k).f1) (tidy_mapTo l k)
    rw [hh] at this
    simp at this
    omega
theorem ref_most_l0 (l : List S37) (hl : l.length ≤ 1000) (ht : takesB l = true) : ∀ (m i : Nat), l.length - i = m → i ≤ l.length → ∀ K, m + 1 ≤ K → breadlineref18_Most.l0 K l (Maps.size (mapTo l i) : Int) (mostTo l i) i = some (mostTo l l.length)
  | 0, i, hm, hil, K, hK => by
    obtain ⟨K, rfl⟩ : ∃ k, K = k + 1 := ⟨K - 1, by omega⟩
    simp only [breadlineref18_Most.l0]
    rw [if_neg (by omega)]
    have : i = l.length := by omega
    rw [this]
  | m + 1, i, hm, hil, K, hK => by
    obtain ⟨K, rfl⟩ : ∃ k, K = k + 1 := ⟨K - 1, by omega⟩
    have ih := ref_most_l0 l hl ht m (i + 1) (by omega) (by omega) K (by omega)
    have hst := size_take (takes_at ht (show i < l.length by omega))
    have hsz := size_mapTo l i
    have hbd := mostTo_bd l i
    have hmx : ∀ a b : Int, mx a b = max a b := fun a b => by unfold mx; omega
    simp only [breadlineref18_Most.l0]
    rw [if_pos (by omega), if_pos (by omega), rd_ev]
    by_cases h : (ev l i).f2 = 1
    · rw [if_pos h] at hst
      rw [if_pos h, w64 (by omega), ← hst, hmx, w64 (by omega)]
      exact ih
    · rw [if_neg h] at hst
      rw [if_neg h, w64 (by omega), ← hst, hmx, w64 (by omega)]
      exact ih
theorem ref_most (l : List S37) (hl : l.length ≤ 1000) (ht : takesB l = true) (K : Nat) (hK : l.length + 1 ≤ K) : breadlineref18_Most.f K l = some (mostTo l l.length) :=
  ref_most_l0 l hl ht l.length 0 (by omega) (by omega) K (by omega)
end Go.Proofs.Ytkcpifmdjnfgaaa.PTrace
