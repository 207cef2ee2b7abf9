
import Derived.Test.YtadblpcjkahikaaPTraceRunsx3
import Derived.Test.YtadblpcjkahikaaPTraceRunsx8
import Derived.Test.YtadblpcjkahikaaRunsConf
namespace Go.Proofs.Ytadblpcjkahikaa.PTraceRuns
open Go.RowKit Go.Proofs.YtadblpcjkahikaaW.PrintWords
set_option linter.unusedVariables false
theorem in_eq (x y z : Int) : breadlineref04_in.f x y z = some (decide (y ≤ x) && decide (x ≤ z)) := by
  unfold breadlineref04_in.f
  by_cases h : y ≤ x
  · rw [if_pos h, decide_eq_true h]; rfl
  · rw [if_neg h, decide_eq_false h]; rfl
def RowsOk (pa li : List Int) : Prop := 1 ≤ pa.length ∧ pa.length ≤ 12 ∧ li.length = pa.length ∧ ∀ j : Nat, j < pa.length → (j = 0 → pa.getD j 0 = -1) ∧ (0 < j → 0 ≤ pa.getD j 0 ∧ pa.getD j 0 < j)
def NumsOk (th S ga le re ti : Int) : Prop := (1 ≤ th ∧ th ≤ 8) ∧ (S = 1 ∨ S = 2 ∨ S = 4 ∨ S = 8) ∧ (1 ≤ ga ∧ ga ≤ 1048576) ∧ (0 ≤ le ∧ le ≤ 1048576) ∧ (1 ≤ re ∧ re ≤ 8) ∧ (1 ≤ ti ∧ ti ≤ 16)
section
variable (a0 a1 a2 a3 a4 a5 : Int) (pa li : List Int)
theorem right_l (hN : pa.length ≤ 12) (hl : li.length = pa.length) : ∀ (d i k : Nat), pa.length = i + d → d < k → ∃ r, breadlineref04_Right.l0 k (i : Int) a0 a1 a2 a3 a4 a5 pa li = some r ∧ (r = true → ∀ j : Nat, i ≤ j → j < pa.length → (j = 0 → pa.getD j 0 = -1) ∧ (0 < j → 0 ≤ pa.getD j 0 ∧ pa.getD j 0 < j)) := by
  intro d
  induction d with
  | zero =>
    intro i k h hk
    obtain ⟨k, rfl⟩ : ∃ m, k = m + 1 := ⟨k - 1, by omega⟩
    rw [breadlineref04_Right.l0, if_neg (by omega)]
    exact ⟨_, rfl, fun _ j h1 h2 => absurd h2 (by omega)⟩
  | succ d ih =>
    intro i k h hk
    obtain ⟨k, rfl⟩ : ∃ m, k = m + 1 := ⟨k - 1, by omega⟩
    obtain ⟨r, hr, hr1⟩ := ih (i + 1) k (by omega) (by omega)
    have e1 : wrap64 ((i : Int) + 1) = ((i + 1 : Nat) : Int) := by unfold wrap64; omega
    have e2 : wrap64 ((i : Int) - 1) = (i : Int) - 1 := by unfold wrap64; omega
    have e3 : rd pa (i : Int) = pa.getD i 0 := by unfold rd; rw [Int.toNat_natCast]
    have next : (i = 0 → pa.getD i 0 = -1) ∧ (0 < i → 0 ≤ pa.getD i 0 ∧ pa.getD i 0 < i) → (r = true → ∀ j : Nat, i ≤ j → j < pa.length → (j = 0 → pa.getD j 0 = -1) ∧ (0 < j → 0 ≤ pa.getD j 0 ∧ pa.getD j 0 < j)) := fun h0 ht j h1 h2 => by
      by_cases e : j = i
      · subst e; exact h0
      · exact hr1 ht j (by omega) h2
    have no : ∀ {P : Prop}, (false = true → P) := fun h => by cases h
    rw [breadlineref04_Right.l0, if_pos (by omega), if_pos (by omega), if_pos (by omega)]
    simp only [in_eq, Option.bind_some, e1, e2, e3]
    split
    · split
      · rename_i h0
        split
        · rename_i h1
          rw [if_neg (by omega)]
          exact ⟨r, hr, next ⟨fun _ => h1, fun h => by omega⟩⟩
        · exact ⟨_, rfl, no⟩
      · rename_i h0
        rw [if_pos (by omega)]
        split
        · rename_i h1
          simp only [Bool.and_eq_true, decide_eq_true_eq] at h1
          exact ⟨r, hr, next ⟨fun h => absurd h (by omega), fun _ => ⟨h1.1, by omega⟩⟩⟩
        · exact ⟨_, rfl, no⟩
    · exact ⟨_, rfl, no⟩
theorem right_j (k : Nat) (hk : 16 ≤ k) (b : Bool) : ∃ r, breadlineref04_Right.j0 k b a0 a1 a2 a3 a4 a5 pa li = some r ∧ (r = true → b = false ∧ RowsOk pa li) := by
  have no : ∀ {P : Prop}, (false = true → P) := fun h => by cases h
  obtain ⟨k, rfl⟩ : ∃ m, k = m + 2 := ⟨k - 2, by omega⟩
  rw [breadlineref04_Right.j0]
  cases b with
  | true => rw [if_pos rfl]; exact ⟨_, rfl, no⟩
  | false =>
    rw [if_neg (by decide), in_eq, Option.bind_some]
    split
    · rename_i h1
      simp only [Bool.and_eq_true, decide_eq_true_eq] at h1
      rw [breadlineref04_Right.j1]
      split
      · exact ⟨_, rfl, no⟩
      · rename_i h2
        have h3 : li.length = pa.length := by
          have h4 : ((li.length : Int) != (pa.length : Int)) = false := by simpa using h2
          have h5 := (bne_eq_false_iff_eq.1 h4); omega
        obtain ⟨r, hr, hr1⟩ := right_l a0 a1 a2 a3 a4 a5 pa li (by omega) h3 pa.length 0 k (by omega) (by omega)
        exact ⟨r, hr, fun h => ⟨rfl, by omega, by omega, h3, fun j hj => hr1 h j (Nat.zero_le _) hj⟩⟩
    · rw [breadlineref04_Right.j1, if_pos rfl]
      exact ⟨_, rfl, no⟩
theorem right_ok (k : Nat) (hk : 16 ≤ k) : ∃ r, breadlineref04_Right.f k a0 a1 a2 a3 a4 a5 pa li = some r ∧ (r = true → NumsOk a0 a1 a2 a3 a4 a5 ∧ RowsOk pa li) := by
  have J := right_j a0 a1 a2 a3 a4 a5 pa li k hk
  unfold breadlineref04_Right.f
  simp only [in_eq, Option.bind_some]
  repeat' split
  all_goals (
    refine ⟨(J _).choose, (J _).choose_spec.1, fun hr => ?_⟩
    obtain ⟨h1, h2⟩ := (J _).choose_spec.2 hr
    first
    | (exact absurd h1 (by decide))
    | (refine ⟨?_, h2⟩
       simp only [Bool.and_eq_true, decide_eq_true_eq, Bool.not_eq_false'] at *
       unfold NumsOk
       omega))
theorem good_l (calls : List (List S43)) (pk : List Int) (hT : calls.length ≤ 8) : ∀ (d i k : Nat), calls.length = i + d → d < k → ∃ r, breadlinelaw16_Good.l0 k (i : Int) a0 a1 a2 a3 a4 a5 pa li calls pk = some r ∧ (r = true → ∀ j : Nat, i ≤ j → j < calls.length → (calls.getD j []).length ≤ 8) := by
  intro d
  induction d with
  | zero =>
    intro i k h hk
    obtain ⟨k, rfl⟩ : ∃ m, k = m + 1 := ⟨k - 1, by omega⟩
    rw [breadlinelaw16_Good.l0, if_neg (by omega)]
    exact ⟨_, rfl, fun _ j h1 h2 => absurd h2 (by omega)⟩
  | succ d ih =>
    intro i k h hk
    obtain ⟨k, rfl⟩ : ∃ m, k = m + 1 := ⟨k - 1, by omega⟩
    obtain ⟨r, hr, hr1⟩ := ih (i + 1) k (by omega) (by omega)
    have e1 : wrap64 ((i : Int) + 1) = ((i + 1 : Nat) : Int) := by unfold wrap64; omega
    have e3 : rd_L5 calls (i : Int) = calls.getD i [] := by unfold rd_L5; rw [Int.toNat_natCast]
    rw [breadlinelaw16_Good.l0, if_pos (by omega), if_pos (by omega), e1, e3]
    split
    · exact ⟨_, rfl, fun h => by cases h⟩
    · rename_i h0
      refine ⟨r, hr, fun ht j h1 h2 => ?_⟩
      by_cases e : j = i
      · subst e; omega
      · exact hr1 ht j (by omega) h2
theorem good_ok (calls : List (List S43)) (pk : List Int) : ∃ k r, breadlinelaw16_Good.f k a0 a1 a2 a3 a4 a5 pa li calls pk = some r ∧ (r = true → NumsOk a0 a1 a2 a3 a4 a5 ∧ RowsOk pa li ∧ (calls.length : Int) ≤ a0 ∧ pk.length ≤ 600 ∧ ∀ j : Nat, j < calls.length → (calls.getD j []).length ≤ 8) := by
  have no : ∀ {P : Prop}, (false = true → P) := fun h => by cases h
  have jt : ∀ k, breadlinelaw16_Good.j0 (k + 1) true a0 a1 a2 a3 a4 a5 pa li calls pk = some false := fun k => by rw [breadlinelaw16_Good.j0, if_pos rfl]
  refine ⟨30, ?_⟩
  unfold breadlinelaw16_Good.f breadlinelaw04_Great.f
  obtain ⟨r1, hr1, hr2⟩ := right_ok a0 a1 a2 a3 a4 a5 pa li 30 (by omega)
  have rest : ∃ r, ((breadlineref04_Right.f 30 a0 a1 a2 a3 a4 a5 pa li).bind fun t139 => (if t139 = true then (if (calls.length : Int) > a0 then (breadlinelaw16_Good.j0 30 true a0 a1 a2 a3 a4 a5 pa li calls pk) else (breadlinelaw16_Good.j0 30 (decide ((pk.length : Int) > 600)) a0 a1 a2 a3 a4 a5 pa li calls pk)) else (breadlinelaw16_Good.j0 30 true a0 a1 a2 a3 a4 a5 pa li calls pk))) = some r ∧ (r = true → NumsOk a0 a1 a2 a3 a4 a5 ∧ RowsOk pa li ∧ (calls.length : Int) ≤ a0 ∧ pk.length ≤ 600 ∧ ∀ j : Nat, j < calls.length → (calls.getD j []).length ≤ 8) := by
    rw [hr1, Option.bind_some]
    split
    · rename_i h1
      obtain ⟨h2, h3⟩ := hr2 h1
      split
      · exact ⟨_, jt 29, no⟩
      · rename_i h4
        have h5 : calls.length ≤ 8 := by unfold NumsOk at h2; omega
        by_cases h6 : (pk.length : Int) > 600
        · rw [decide_eq_true h6]; exact ⟨_, jt 29, no⟩
        · rw [decide_eq_false h6, breadlinelaw16_Good.j0, if_neg (by decide)]
          obtain ⟨r, hr, hr3⟩ := good_l a0 a1 a2 a3 a4 a5 pa li calls pk h5 calls.length 0 29 (by omega) (by omega)
          exact ⟨r, hr, fun h => ⟨h2, h3, by omega, by omega, fun j hj => hr3 h j (Nat.zero_le _) hj⟩⟩
    · exact ⟨_, jt 29, no⟩
  split
  · rw [Option.bind_some, if_pos rfl]; exact ⟨_, jt 29, no⟩
  · rw [Option.bind_some]
    split
    · exact ⟨_, jt 29, no⟩
    · exact rest
theorem picks_l (calls : List (List S43)) (pk : List Int) (hP : pk.length ≤ 600) : ∀ (d i k : Nat) (xs : List Int), pk.length = i + d → d < k → xs.length = i → ∃ r, breadlinelaw16_Picks.l0 k xs (i : Int) a0 a1 a2 a3 a4 a5 pa li calls pk = some r ∧ r.length = pk.length := by
  intro d
  induction d with
  | zero =>
    intro i k xs h hk hx
    obtain ⟨k, rfl⟩ : ∃ m, k = m + 1 := ⟨k - 1, by omega⟩
    rw [breadlinelaw16_Picks.l0, if_neg (by omega)]
    exact ⟨_, rfl, by omega⟩
  | succ d ih =>
    intro i k xs h hk hx
    obtain ⟨k, rfl⟩ : ∃ m, k = m + 1 := ⟨k - 1, by omega⟩
    rw [breadlinelaw16_Picks.l0, if_pos (by omega), if_pos (by omega), if_pos (by omega), show wrap64 ((i : Int) + 1) = ((i + 1 : Nat) : Int) by unfold wrap64; omega]
    exact ih (i + 1) k _ (by omega) (by omega) (by rw [List.length_append, List.length_singleton, hx])
theorem picks_ok (calls : List (List S43)) (pk : List Int) (hP : pk.length ≤ 600) : ∃ k r, breadlinelaw16_Picks.f k a0 a1 a2 a3 a4 a5 pa li calls pk = some r ∧ r.length = pk.length :=
  ⟨pk.length + 1, picks_l a0 a1 a2 a3 a4 a5 pa li calls pk hP pk.length 0 _ [] (by omega) (by omega) rfl⟩
end
theorem conf_ok {th S ga le re ti : Int} {pa li : List Int} (h : NumsOk th S ga le re ti) (hr : RowsOk pa li) : ∃ c : Cf, c.Ok ∧ c.th = th ∧ (c.S : Int) = S ∧ c.ga = ga ∧ c.le = le ∧ c.re = re ∧ (c.ti : Int) = ti ∧ c.pa = pa ∧ c.li = li := by
  obtain ⟨h1, h2, h3, h4, h5, h6⟩ := h
  obtain ⟨r1, r2, r3, r4⟩ := hr
  obtain ⟨s, hs⟩ := Int.eq_ofNat_of_zero_le (show 0 ≤ S by omega)
  obtain ⟨t, ht⟩ := Int.eq_ofNat_of_zero_le (show 0 ≤ ti by omega)
  refine ⟨⟨th, s, ga, le, re, t, pa, li⟩, ⟨by show s = 1 ∨ s = 2 ∨ s = 4 ∨ s = 8; omega, h3.1, h3.2, h4.1, h4.2, h5.1, h5.2, by show 1 ≤ t; omega, by show t ≤ 16; omega, r1, r2, r3, (r4 0 (by omega)).1 rfl, fun i h7 h8 => (r4 i h8).2 h7⟩, rfl, hs.symm, rfl, rfl, rfl, ht.symm, rfl, rfl⟩
end Go.Proofs.Ytadblpcjkahikaa.PTraceRuns

