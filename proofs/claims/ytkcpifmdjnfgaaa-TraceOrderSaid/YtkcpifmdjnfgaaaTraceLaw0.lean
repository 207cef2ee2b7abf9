/- Of right events: calls and ends, one by one; each End is that of one call. -/
import Derived.Test.YtkcpifmdjnfgaaaTraceTell
namespace Go.Proofs.Ytkcpifmdjnfgaaa.PTrace
set_option linter.unusedVariables false
set_option linter.unusedSimpArgs false
open Go.RowKit Go.Maps Go.Proofs.YtkcpifmdjnfgaaaW.PrintWords Go.Proofs.YtkcpifmdjnfgaaaW.PrintLast Go.Proofs.YtkcpifmdjnfgaaaW.PrintMore

def cAt (l : List S37) (i : Nat) : Int := (callsTo l l.length).getD i 0
def eAt (l : List S37) (i : Nat) : Int := (endsTo l l.length).getD i 0
theorem begins_at (l : List S37) {i : Nat} (hi : i < (beginsTo l l.length).length) : ∃ b : Nat, (beginsTo l l.length)[i]? = some b ∧ b < l.length ∧ (ev l b).f2 = 1 ∧ cAt l i = (b : Int) ∧ eAt l i = endTo l b l.length := by
  have h := List.getElem?_eq_getElem hi
  obtain ⟨h1, h2⟩ := beginsTo_lt l l.length _ (List.mem_of_getElem? h)
  refine ⟨_, h, h1, h2, ?_, ?_⟩
  · unfold cAt callsTo
    rw [List.getD_eq_getElem?_getD, List.getElem?_map, h]; rfl
  · unfold eAt endsTo
    rw [List.getD_eq_getElem?_getD, List.getElem?_map, h]; rfl
theorem calls_len (l : List S37) : (callsTo l l.length).length = (beginsTo l l.length).length := by unfold callsTo; rw [List.length_map]
theorem ends_len (l : List S37) : (endsTo l l.length).length = (beginsTo l l.length).length := by unfold endsTo; rw [List.length_map]
theorem takes_kind {l : List S37} (h : takesB l = true) : ∀ k, k < l.length → (ev l k).f2 = 1 ∨ (ev l k).f2 = 2 := fun k hk => by
  rcases take_kind (takes_at h hk) with h | h
  · exact .inl h.1
  · exact .inr h.1
/-- The first event of its thread behind a beginning is the call's end. -/
theorem end_is {l : List S37} (ht : takesB l = true) {b q : Nat} (hb : (ev l b).f2 = 1) (hbq : b < q) (hq : q < l.length) (he : (ev l q).f1 = (ev l b).f1) (hno : ∀ j, b < j → j < q → (ev l j).f1 ≠ (ev l b).f1) : (ev l q).f2 = 2 ∧ openAt l q (ev l q).f1 = some b ∧ callB (ev l b).f3 (ev l q).f3 = true := by
  have hend : endTo l b q = -1 := by
    rcases endTo_ways l b q with ⟨h, _⟩ | ⟨r, _, r1, r2, r3, _⟩
    · exact h
    · exact absurd r3 (hno r r1 r2)
  rcases take_kind (takes_at ht hq) with ⟨_, ho, _⟩ | ⟨h2, p, ho, hc⟩
  · exact absurd hend (openAt_none l _ q ho b hbq hb he.symm)
  · obtain ⟨p1, p2, p3, _, p5⟩ := openAt_some l _ (takes_kind ht) q p (by omega) ho
    have : p = b := by
      rcases Nat.lt_trichotomy p b with h | h | h
      · exact absurd he.symm (p5 b h hbq)
      · exact h
      · exact absurd (p2.trans he) (hno p h p3)
    subst this
    exact ⟨h2, ho, hc⟩
theorem call_at {l : List S37} (ht : takesB l = true) {i : Nat} (hi : i < (beginsTo l l.length).length) : ∃ b : Nat, b < l.length ∧ (ev l b).f2 = 1 ∧ cAt l i = (b : Int) ∧
    ((eAt l i = -1 ∧ ∀ j, b < j → j < l.length → (ev l j).f1 ≠ (ev l b).f1) ∨
     ∃ q : Nat, eAt l i = (q : Int) ∧ b < q ∧ q < l.length ∧ (ev l q).f1 = (ev l b).f1 ∧ (ev l q).f2 = 2 ∧ callB (ev l b).f3 (ev l q).f3 = true ∧ ∀ j, b < j → j < q → (ev l j).f1 ≠ (ev l b).f1) := by
  obtain ⟨b, _, h1, h2, h3, h4⟩ := begins_at l hi
  refine ⟨b, h1, h2, h3, ?_⟩
  rw [h4]
  rcases endTo_ways l b l.length with ⟨h, hn⟩ | ⟨q, h, q1, q2, q3, q4⟩
  · exact .inl ⟨h, hn⟩
  · obtain ⟨k1, _, k3⟩ := end_is ht h2 q1 q2 q3 q4
    exact .inr ⟨q, h, q1, q2, q3, k1, k3, q4⟩
theorem begins_lt (l : List S37) {i j : Nat} (hij : i < j) (hj : j < (beginsTo l l.length).length) : cAt l i < cAt l j := by
  obtain ⟨b, hb, _, _, h1, _⟩ := begins_at l (i := i) (by omega)
  obtain ⟨c, hc, _, _, h2, _⟩ := begins_at l hj
  have := List.pairwise_iff_getElem.1 (beginsTo_nodup l l.length) i j (by omega) hj hij
  rw [List.getElem?_eq_getElem (by omega)] at hb hc
  injection hb with hb
  injection hc with hc
  rw [h1, h2, ← hb, ← hc]
  omega
/-- The ends are apart. -/
theorem ends_apart {l : List S37} (ht : takesB l = true) {i j : Nat} (hij : i < j) (hj : j < (beginsTo l l.length).length) (hi0 : 0 ≤ eAt l i) : eAt l i ≠ eAt l j := by
  intro h
  have hlt := begins_lt l hij hj
  obtain ⟨b, b1, b2, b3, hb⟩ := call_at ht (i := i) (by omega)
  obtain ⟨c, c1, c2, c3, hc⟩ := call_at ht hj
  rcases hb with ⟨h1, _⟩ | ⟨q, h1, q1, q2, q3, _, _, q4⟩
  · omega
  · rcases hc with ⟨h2, _⟩ | ⟨r, h2, r1, r2, r3, _, _, r4⟩
    · omega
    · have : q = r := by omega
      subst this
      exact q4 c (by omega) r1 (r3.symm.trans q3)
/-- Which events were met as ends. -/
def metTo (l : List S37) : Nat → List Bool
  | 0 => List.replicate l.length false
  | i + 1 => if eAt l i < 0 then metTo l i else (metTo l i).set (eAt l i).toNat true
theorem metTo_len (l : List S37) : ∀ i, (metTo l i).length = l.length
  | 0 => List.length_replicate
  | i + 1 => by
    have := metTo_len l i
    unfold metTo
    split
    · exact this
    · rw [List.length_set]; exact this
theorem metTo_ways (l : List S37) (q : Nat) : ∀ i, (metTo l i).getD q false = true → ∃ j, j < i ∧ eAt l j = (q : Int)
  | 0, h => by
    unfold metTo at h
    rw [List.getD_eq_getElem?_getD, List.getElem?_replicate] at h
    split at h <;> simp at h
  | i + 1, h => by
    have ih := metTo_ways l q i
    unfold metTo at h
    split at h
    · obtain ⟨j, h1, h2⟩ := ih h; exact ⟨j, by omega, h2⟩
    · by_cases e : (eAt l i).toNat = q
      · exact ⟨i, by omega, by omega⟩
      · rw [List.getD_eq_getElem?_getD, List.getElem?_set, if_neg e, ← List.getD_eq_getElem?_getD] at h
        obtain ⟨j, h1, h2⟩ := ih h; exact ⟨j, by omega, h2⟩
theorem met_not {l : List S37} (ht : takesB l = true) {i : Nat} (hi : i < (beginsTo l l.length).length) {q : Nat} (hq : eAt l i = (q : Int)) : rdOf false (metTo l i) (q : Int) = false := by
  unfold rdOf
  rw [Int.toNat_natCast]
  cases h : (metTo l i).getD q false with
  | false => rfl
  | true =>
    obtain ⟨j, h1, h2⟩ := metTo_ways l q i h
    exact absurd (h2.trans hq.symm) (ends_apart ht h1 hi (by omega))
def manyTo (l : List S37) : Nat → Nat
  | 0 => 0
  | i + 1 => if eAt l i < 0 then manyTo l i else manyTo l i + 1
theorem manyTo_le (l : List S37) : ∀ i, manyTo l i ≤ i
  | 0 => Nat.le_refl _
  | i + 1 => by
    have := manyTo_le l i
    unfold manyTo
    split <;> omega
def cnt (xs : List Int) : Nat := xs.countP fun x => decide (0 ≤ x)
theorem many_cnt (l : List S37) : ∀ i, i ≤ (endsTo l l.length).length → manyTo l i = cnt ((endsTo l l.length).take i)
  | 0, _ => by simp [manyTo, cnt]
  | i + 1, h => by
    have ih := many_cnt l i (by omega)
    have he : (endsTo l l.length)[i]? = some (eAt l i) := by
      unfold eAt
      rw [List.getD_eq_getElem?_getD, List.getElem?_eq_getElem (by omega)]; rfl
    unfold manyTo
    rw [List.take_add_one, he]
    unfold cnt at ih ⊢
    rw [List.countP_append, ← ih]
    by_cases h0 : eAt l i < 0
    · rw [if_pos h0]
      simp
      omega
    · rw [if_neg h0]
      simp
      omega
theorem cnt_all {l : List S37} (ht : takesB l = true) : ∀ k, k ≤ l.length → cnt (endsTo l k) + (beginsTo l k).length = k
  | 0, _ => rfl
  | k + 1, hk => by
    have ih := cnt_all ht k (by omega)
    rcases take_kind (takes_at ht (show k < l.length by omega)) with ⟨h1, ho, _⟩ | ⟨h2, p, ho, _⟩
    · have hb : beginsTo l (k + 1) = beginsTo l k ++ [k] := by rw [beginsTo, if_pos h1]
      rw [endsTo_begin h1 ho, hb]
      unfold cnt at ih ⊢
      rw [List.countP_append]
      simp
      omega
    · have hb : beginsTo l (k + 1) = beginsTo l k := by rw [beginsTo, if_neg (by omega)]
      obtain ⟨he, hlt⟩ := endsTo_end (k := k) (p := p) (by omega) (takes_kind ht) (by omega) ho
      obtain ⟨p1, p2, p3, _, p5⟩ := openAt_some l _ (takes_kind ht) k p (by omega) ho
      have hr := beginsTo_rank l p p1 k p3
      have hv : (endsTo l k)[rankOf l p]? = some (-1) := by
        unfold endsTo
        rw [List.getElem?_map, hr]
        simp only [Option.map_some]
        congr 1
        rcases endTo_ways l p k with ⟨h, _⟩ | ⟨q, _, q1, q2, q3, _⟩
        · exact h
        · exact absurd (q3.trans p2) (p5 q q1 q2)
      rw [he, hb]
      unfold cnt at ih ⊢
      rw [List.countP_set hlt]
      rw [List.getElem?_eq_getElem hlt] at hv
      injection hv with hv
      rw [hv]
      simp
      omega
theorem many_all {l : List S37} (ht : takesB l = true) : manyTo l (beginsTo l l.length).length + (beginsTo l l.length).length = l.length := by
  have h1 := many_cnt l (beginsTo l l.length).length (by rw [ends_len]; exact Nat.le_refl _)
  rw [h1, List.take_of_length_le (by rw [ends_len]; exact Nat.le_refl _)]
  exact cnt_all ht l.length (Nat.le_refl _)
end Go.Proofs.Ytkcpifmdjnfgaaa.PTrace
