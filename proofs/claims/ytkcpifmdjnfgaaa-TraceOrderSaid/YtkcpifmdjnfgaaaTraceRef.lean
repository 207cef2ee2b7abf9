/- The walk of the reference's 'Right'. -/
import Derived.Test.YtkcpifmdjnfgaaaTraceRight
import Derived.Test.YtkcpifmdjnfgaaaPTracex8
import Derived.BigQuiet
namespace Go.Proofs.Ytkcpifmdjnfgaaa.PTrace
set_option linter.unusedVariables false
set_option linter.unusedSimpArgs false
open Go.BigFrame Go.RowKit Go.Maps Go.Proofs.YtkcpifmdjnfgaaaW.PrintWords Go.Proofs.YtkcpifmdjnfgaaaW.PrintLast Go.Proofs.YtkcpifmdjnfgaaaW.PrintMore
attribute [local go_sem high] eqA32 eqA35

/-- The place of the last event of a thread ahead of a place. -/
def lastOf (l : List S37) (t : Int) : Nat → Option Nat
  | 0 => none
  | k + 1 => if (ev l k).f1 = t then some k else lastOf l t k
def lastI (l : List S37) (t : Int) (i : Nat) : Int := match lastOf l t i with | some p => (p : Int) | none => -1
theorem lastOf_lt (l : List S37) (t : Int) : ∀ k p, lastOf l t k = some p → p < k
  | 0, _, h => by simp [lastOf] at h
  | k + 1, p, h => by
    unfold lastOf at h
    split at h
    · injection h; omega
    · have := lastOf_lt l t k p h; omega
theorem last_l0 (l : List S37) (t : Int) (hl : l.length ≤ 1000) : ∀ i : Nat, i ≤ l.length → breadlineref18_last.l0 (i + 1) l t ((i : Int) - 1) = some (lastI l t i)
  | 0, _ => by
    simp only [breadlineref18_last.l0]
    rw [if_neg (by omega)]
    rfl
  | i + 1, hi => by
    have ih := last_l0 l t hl i (by omega)
    have e : (((i + 1 : Nat) : Int) - 1) = (i : Int) := by omega
    rw [e]
    simp only [breadlineref18_last.l0]
    rw [if_pos (by omega), if_pos (by omega), if_pos (by omega), rd_ev]
    unfold lastI lastOf
    by_cases h : (ev l i).f1 = t
    · rw [if_pos h, if_pos h]
    · rw [if_neg h, if_neg h]
      rw [IntWalk.wrap64_in _ (by omega)]
      exact ih
theorem last_any (A0 : Option Addr) (c0 : Nat) (l : List S37) (t : Int) (i : Nat) (hl : l.length ≤ 1000) (hi : i ≤ l.length) (hc : l.length ≤ c0) (W : World) (hr : Kd.C k37 W A0 l.length l) :
    Calls Try.prog 23 #[.slice A0 l.length c0, .int .i64 t, .int .i64 i] W fun e w' => e = .returned (.int .i64 (lastI l t i)) ∧ ∃ m, w' = W.drewN m := by
  refine (breadlineref18_last.calls (i + 1) A0 c0 l t i (lastI l t i) W hr hc ?_).mono fun _ _ ⟨he, hd⟩ => ⟨he, hd.out⟩
  unfold breadlineref18_last.f
  rw [IntWalk.wrap64_in _ (by omega)]
  exact last_l0 l t hl i hi
/-- The reference's word on one event. -/
def kindB (l : List S37) (i : Nat) : Bool :=
  if (ev l i).f2 = 1 then (match lastOf l (ev l i).f1 i with | some p => (ev l p).f2 != 1 | none => true) && zeroB (ev l i).f4
  else if (ev l i).f2 = 2 then (match lastOf l (ev l i).f1 i with | some p => (ev l p).f2 == 1 && callB (ev l p).f3 (ev l i).f3 | none => false) else false
def refB (l : List S37) (threads : Int) (i : Nat) : Bool :=
  decide (0 ≤ (ev l i).f1) && (decide ((ev l i).f1 < threads) && (decide (0 ≤ (ev l i).f0) && ((decide (i = 0) || decide ((ev l (i - 1)).f0 ≤ (ev l i).f0)) && kindB l i)))
def refRightB (l : List S37) (threads : Int) : Bool := (List.range l.length).all (refB l threads)
theorem lastI_ways (l : List S37) (t : Int) (i : Nat) : (lastOf l t i = none ∧ lastI l t i = -1) ∨ ∃ p, lastOf l t i = some p ∧ lastI l t i = (p : Int) ∧ p < i := by
  cases h : lastOf l t i with
  | none => exact .inl ⟨rfl, by unfold lastI; rw [h]⟩
  | some p => exact .inr ⟨p, rfl, by unfold lastI; rw [h], lastOf_lt l t i p h⟩
theorem kind_1 {l : List S37} {i : Nat} (h : (ev l i).f2 = 1) : kindB l i = ((match lastOf l (ev l i).f1 i with | some p => (ev l p).f2 != 1 | none => true) && zeroB (ev l i).f4) := by unfold kindB; rw [if_pos h]
theorem kind_2 {l : List S37} {i : Nat} (h1 : (ev l i).f2 ≠ 1) (h : (ev l i).f2 = 2) : kindB l i = (match lastOf l (ev l i).f1 i with | some p => (ev l p).f2 == 1 && callB (ev l p).f3 (ev l i).f3 | none => false) := by unfold kindB; rw [if_neg h1, if_pos h]
theorem kind_0 {l : List S37} {i : Nat} (h1 : (ev l i).f2 ≠ 1) (h : (ev l i).f2 ≠ 2) : kindB l i = false := by unfold kindB; rw [if_neg h1, if_neg h]
theorem refB_kind {l : List S37} {a1 : Int} {i : Nat} (d0 : 0 ≤ (ev l i).f1) (d1 : (ev l i).f1 < a1) (d2 : 0 ≤ (ev l i).f0) : (i = 0 ∨ (ev l (i - 1)).f0 ≤ (ev l i).f0) → refB l a1 i = kindB l i := by
  intro h
  unfold refB
  rw [decide_eq_true (p := 0 ≤ (ev l i).f1) (by omega), decide_eq_true (p := (ev l i).f1 < a1) (by omega), decide_eq_true (p := 0 ≤ (ev l i).f0) (by omega)]
  have e : (decide (i = 0) || decide ((ev l (i - 1)).f0 ≤ (ev l i).f0)) = true := by
    rcases h with h | h
    · rw [decide_eq_true h]; rfl
    · rw [decide_eq_true h]; simp
  rw [e]
  simp
theorem ref_no {l : List S37} {threads : Int} {k : Nat} (hk : k < l.length) (h : refB l threads k = false) : refRightB l threads = false := by
  cases hr : refRightB l threads
  · rfl
  · simp only [refRightB, List.all_eq_true, List.mem_range] at hr
    rw [hr k hk] at h
    cases h
theorem ref_yes {l : List S37} {threads : Int} (h : ∀ k, k < l.length → refB l threads k = true) : refRightB l threads = true := by
  simp only [refRightB, List.all_eq_true, List.mem_range]
  exact h
theorem ref_more {l : List S37} {threads : Int} {i : Nat} (h : ∀ k, k < i → refB l threads k = true) (hi : refB l threads i = true) : ∀ k, k < i + 1 → refB l threads k = true := fun k hk => by
  by_cases e : k = i
  · rw [e]; exact hi
  · exact h k (by omega)
def refRight.f (l : List S37) (threads : Int) : Option Bool := if fitB l = true then some (refRightB l threads) else none
theorem refRight.of {l : List S37} {a : Int} {r : Bool} (h : refRight.f l a = some r) : fitB l = true ∧ r = refRightB l a := by
  unfold refRight.f at h
  split at h
  · injection h with h; exact ⟨by assumption, h.symm⟩
  · cases h
set_option maxHeartbeats 8000000 in
set_option maxRecDepth 100000 in
theorem refRight.calls (A0 : Option Addr) (c0 : Nat) (l0 : List S37) (a1 : Int) (r : Bool) (w : World) (hr0 : Kd.C k37 w A0 l0.length l0) (hc0 : l0.length ≤ c0) (h : refRight.f l0 a1 = some r) :
    Calls Try.prog 10 #[.slice A0 l0.length c0, .int .i64 a1] w fun e w' => e = .returned (.bool r) ∧ Below w.heap.size w w' := by
  obtain ⟨hfit, hr⟩ := refRight.of h
  have HF := Lib.hid hr
  have hlen := fit_len hfit
  clear h hr hfit
  have hl9 : (l0.length : Int) ≤ 1000 := by omega
  have HR0 := Lib.hid hr0
  have HC0 := Lib.hid hc0
  clear hr0 hc0
  go_enter Try.func10, Try.ntmps10
  go_wp2_with fail
  go_loopw [5] (fun u wr => ∃ i : Nat, i ≤ l0.length ∧ u = .int .i64 i ∧ Hid (∀ j, j < i → refB l0 a1 j = true) ∧ Below w.heap.size w wr) (fun u _ => l0.length - (intOf u).toNat)
  case atStart => exact ⟨0, Nat.zero_le _, rfl, Lib.hid (fun j hj => by omega), Below.refl _ _⟩
  case round =>
    obtain ⟨i, hi, rfl, HS, hnx⟩ := hrel
    by_cases hlt : i < l0.length
    · have hrw := Kd.C_below HR0.out hnx
      obtain ⟨ad, e, x0, x1, x2, x3, x4, x5, x6, x7, x8, x9⟩ := at_ev hrw i hlt
      subst e
      have hk0 : (0 : Int) ≤ (i : Int) := by omega
      have hk1 : (i : Int) < (l0.length : Int) := by omega
      have HW := Lib.hid hrw
      have HL : Hid (∀ W, Kd.C k37 W (some ad) l0.length l0 → Calls Try.prog 23 #[.slice (some ad) l0.length c0, .int .i64 (ev l0 i).f1, .int .i64 i] W fun e w' => e = .returned (.int .i64 (lastI l0 (ev l0 i).f1 i)) ∧ ∃ m, w' = W.drewN m) :=
        Lib.hid (fun W hW => last_any (some ad) c0 l0 (ev l0 i).f1 i hlen (by omega) HC0.out W hW)
      have HB : Hid (∀ m, Below w.heap.size w ((wr.alloc (.cells #[.int .i64 (ev l0 i).f0, .int .i64 (ev l0 i).f1, .int .i64 (ev l0 i).f2, .int .i64 (ev l0 i).f3.f0, .int .i64 (ev l0 i).f3.f1, .int .i64 (ev l0 i).f3.f2, .int .i64 (ev l0 i).f4.f0, .int .i64 (ev l0 i).f4.f1, .bool (ev l0 i).f4.f2, .int .i64 (ev l0 i).f4.f3] 37)).drewN m)) :=
        Lib.hid (fun m => below_drewN_ (hnx.alloc hnx.size _) m)
      clear hrw hnx
      go_wp2_with fail
      clear x0 x1 x2 x3 x4 x5 x6 x7 x8 x9
      by_cases d0 : (ev l0 i).f1 < 0
      · have HN := Lib.hid (show refB l0 a1 i = false by unfold refB; rw [decide_eq_false (by omega)]; rfl)
        have hd0 : decide ((ev l0 i).f1 < 0) = true := decide_eq_true d0
        go_big_quiet (fail)
        go_wp2_with fail
        go_ret
        exact ⟨by rw [HF.out, ref_no hlt HN.out]; rfl, (by first | exact HB.out _ | exact below_drewN_ (HB.out _) _)⟩
      replace d0 : 0 ≤ (ev l0 i).f1 := by omega
      have hd0 : decide ((ev l0 i).f1 < 0) = false := decide_eq_false (by omega)
      by_cases d1 : a1 ≤ (ev l0 i).f1
      · have HN := Lib.hid (show refB l0 a1 i = false by unfold refB; rw [decide_eq_false (p := (ev l0 i).f1 < a1) (by omega)]; simp)
        have hd1 : decide (a1 ≤ (ev l0 i).f1) = true := decide_eq_true d1
        go_big_quiet (fail)
        go_wp2_with fail
        go_ret
        exact ⟨by rw [HF.out, ref_no hlt HN.out]; rfl, (by first | exact HB.out _ | exact below_drewN_ (HB.out _) _)⟩
      replace d1 : (ev l0 i).f1 < a1 := by omega
      have hd1 : decide (a1 ≤ (ev l0 i).f1) = false := decide_eq_false (by omega)
      by_cases d2 : (ev l0 i).f0 < 0
      · have HN := Lib.hid (show refB l0 a1 i = false by unfold refB; rw [decide_eq_false (p := 0 ≤ (ev l0 i).f0) (by omega)]; simp)
        have hd2 : decide ((ev l0 i).f0 < 0) = true := decide_eq_true d2
        go_big_quiet (fail)
        go_wp2_with fail
        go_ret
        exact ⟨by rw [HF.out, ref_no hlt HN.out]; rfl, (by first | exact HB.out _ | exact below_drewN_ (HB.out _) _)⟩
      replace d2 : 0 ≤ (ev l0 i).f0 := by omega
      have hd2 : decide ((ev l0 i).f0 < 0) = false := decide_eq_false (by omega)
      have HK := Lib.hid (refB_kind (a1 := a1) d0 d1 d2)
      have HKK := Lib.hid (lastI_ways l0 (ev l0 i).f1 i)
      rcases Nat.eq_zero_or_pos i with hz | hz
      · subst hz
        have HKX := Lib.hid (HK.out (.inl rfl))
        go_big_quiet (fail)
        go_wp2_with fail
        have hp : lastOf l0 (ev l0 0).f1 0 = none := rfl
        have hq : lastI l0 (ev l0 0).f1 0 = -1 := rfl
        · rw [hq] at HL
          have HP := Lib.hid hp
          clear hp hq
          by_cases k1 : (ev l0 0).f2 = 1
          · have k1' : ((ev l0 0).f2 == 1) = true := by simpa using k1
            cases hz4 : zeroB (ev l0 0).f4
            · have HN := Lib.hid (show refB l0 a1 0 = false by rw [HKX.out, kind_1 k1, HP.out]; simp [hz4])
              have z4 : Hid (((ev l0 0).f4.f0 == 0 && ((ev l0 0).f4.f1 == 0 && (!(ev l0 0).f4.f2 && ((ev l0 0).f4.f3 == 0)))) = false) := Lib.hid hz4
              clear k1 hz4
              have Z := z4.out
              go_wp2_with (go_at_call 23; refine (HL.out _ (by first | exact Kd.C_drewN (Kd.C_alloc HW.out _) _ | exact Kd.C_alloc HW.out _)).mono ?_; rintro e w1 ⟨rfl, m1, rfl⟩)
              try (go_big_quiet (fail); go_wp2_with fail)
              try (go_big_quiet (fail); go_wp2_with fail)
              go_ret
              exact ⟨by rw [HF.out, ref_no hlt HN.out]; rfl, (by first | exact HB.out _ | exact below_drewN_ (HB.out _) _)⟩
            · have HN := Lib.hid (show refB l0 a1 0 = true by rw [HKX.out, kind_1 k1, HP.out]; simp [hz4])
              have z4 : Hid (((ev l0 0).f4.f0 == 0 && ((ev l0 0).f4.f1 == 0 && (!(ev l0 0).f4.f2 && ((ev l0 0).f4.f3 == 0)))) = true) := Lib.hid hz4
              clear k1 hz4
              have Z := z4.out
              go_wp2_with (go_at_call 23; refine (HL.out _ (by first | exact Kd.C_drewN (Kd.C_alloc HW.out _) _ | exact Kd.C_alloc HW.out _)).mono ?_; rintro e w1 ⟨rfl, m1, rfl⟩)
              try (go_big_quiet (fail); go_wp2_with fail)
              try (go_big_quiet (fail); go_wp2_with fail)
              go_roundw
              case rel => exact ⟨0 + 1, by omega, by go_num, Lib.hid (ref_more HS.out HN.out), (by first | exact HB.out _ | exact below_drewN_ (HB.out _) _)⟩
              case measure => simp [intOf]; omega
          have k1' : ((ev l0 0).f2 == 1) = false := beq_eq_false_iff_ne.2 k1
          by_cases k2 : (ev l0 0).f2 = 2
          · have k2' : ((ev l0 0).f2 == 2) = true := by simpa using k2
            have HN := Lib.hid (show refB l0 a1 0 = false by rw [HKX.out, kind_2 k1 k2, HP.out])
            clear k1 k2
            go_wp2_with (go_at_call 23; refine (HL.out _ (by first | exact Kd.C_drewN (Kd.C_alloc HW.out _) _ | exact Kd.C_alloc HW.out _)).mono ?_; rintro e w1 ⟨rfl, m1, rfl⟩)
            try (go_big_quiet (fail); go_wp2_with fail)
            try (go_big_quiet (fail); go_wp2_with fail)
            go_ret
            exact ⟨by rw [HF.out, ref_no hlt HN.out]; rfl, (by first | exact HB.out _ | exact below_drewN_ (HB.out _) _)⟩
          have k2' : ((ev l0 0).f2 == 2) = false := beq_eq_false_iff_ne.2 k2
          have HN := Lib.hid (show refB l0 a1 0 = false by rw [HKX.out, kind_0 k1 k2])
          clear k1 k2
          go_wp2_with (go_at_call 23; refine (HL.out _ (by first | exact Kd.C_drewN (Kd.C_alloc HW.out _) _ | exact Kd.C_alloc HW.out _)).mono ?_; rintro e w1 ⟨rfl, m1, rfl⟩)
          try (go_big_quiet (fail); go_wp2_with fail)
          try (go_big_quiet (fail); go_wp2_with fail)
          go_ret
          exact ⟨by rw [HF.out, ref_no hlt HN.out]; rfl, (by first | exact HB.out _ | exact below_drewN_ (HB.out _) _)⟩
      obtain ⟨q, hqi⟩ : ∃ q : Nat, i - 1 = q := ⟨_, rfl⟩
      have HQI := Lib.hid hqi
      obtain ⟨ad1, e1, g0, g1, g2, g3, g4, g5, g6, g7, g8, g9⟩ := at_ev HW.out q (by omega)
      obtain rfl : ad = ad1 := by injection e1
      have g0' : ∀ o, (wr.alloc o).cell? (ad.add (q * 10)) = some (.int .i64 (ev l0 q).f0) := fun o => (World.cell?_of_block (Below.heap_alloc wr o _ (World.block_lt_of_cell? wr _ g0))).trans g0
      clear e1 g0 g1 g2 g3 g4 g5 g6 g7 g8 g9
      have hz1 : decide (0 < i) = true := decide_eq_true (by omega)
      have hz2 : (i : Int) - 1 = (q : Int) := by omega
      have hz7 : IntKind.i64.wrap (q : Int) = (q : Int) := IntWalk.i64_in _ (by omega)
      have hz5 : (0 : Int) ≤ (q : Int) := by omega
      have hz6 : (q : Int) < (l0.length : Int) := by omega
      clear hqi
      by_cases d3 : (ev l0 i).f0 < (ev l0 q).f0
      · have HN := Lib.hid (show refB l0 a1 i = false by unfold refB; rw [HQI.out, decide_eq_false (p := i = 0) (by omega), decide_eq_false (p := (ev l0 q).f0 ≤ (ev l0 i).f0) (by omega)]; simp)
        have hd3 : decide ((ev l0 i).f0 < (ev l0 q).f0) = true := decide_eq_true d3
        go_big_quiet (fail)
        go_wp2_with fail
        go_ret
        exact ⟨by rw [HF.out, ref_no hlt HN.out]; rfl, (by first | exact HB.out _ | exact below_drewN_ (HB.out _) _)⟩
      replace d3 : (ev l0 q).f0 ≤ (ev l0 i).f0 := by omega
      have hd3 : decide ((ev l0 i).f0 < (ev l0 q).f0) = false := decide_eq_false (by omega)
      have HKX := Lib.hid (HK.out (.inr (by rw [HQI.out]; exact d3)))
      go_big_quiet (fail)
      go_wp2_with fail
      rcases HKK.out with ⟨hp, hq⟩ | ⟨p, hp, hq, hpi⟩
      · rw [hq] at HL
        have HP := Lib.hid hp
        clear hp hq
        by_cases k1 : (ev l0 i).f2 = 1
        · have k1' : ((ev l0 i).f2 == 1) = true := by simpa using k1
          cases hz4 : zeroB (ev l0 i).f4
          · have HN := Lib.hid (show refB l0 a1 i = false by rw [HKX.out, kind_1 k1, HP.out]; simp [hz4])
            have z4 : Hid (((ev l0 i).f4.f0 == 0 && ((ev l0 i).f4.f1 == 0 && (!(ev l0 i).f4.f2 && ((ev l0 i).f4.f3 == 0)))) = false) := Lib.hid hz4
            clear k1 hz4
            have Z := z4.out
            go_wp2_with (go_at_call 23; refine (HL.out _ (by first | exact Kd.C_drewN (Kd.C_alloc HW.out _) _ | exact Kd.C_alloc HW.out _)).mono ?_; rintro e w1 ⟨rfl, m1, rfl⟩)
            try (go_big_quiet (fail); go_wp2_with fail)
            try (go_big_quiet (fail); go_wp2_with fail)
            go_ret
            exact ⟨by rw [HF.out, ref_no hlt HN.out]; rfl, (by first | exact HB.out _ | exact below_drewN_ (HB.out _) _)⟩
          · have HN := Lib.hid (show refB l0 a1 i = true by rw [HKX.out, kind_1 k1, HP.out]; simp [hz4])
            have z4 : Hid (((ev l0 i).f4.f0 == 0 && ((ev l0 i).f4.f1 == 0 && (!(ev l0 i).f4.f2 && ((ev l0 i).f4.f3 == 0)))) = true) := Lib.hid hz4
            clear k1 hz4
            have Z := z4.out
            go_wp2_with (go_at_call 23; refine (HL.out _ (by first | exact Kd.C_drewN (Kd.C_alloc HW.out _) _ | exact Kd.C_alloc HW.out _)).mono ?_; rintro e w1 ⟨rfl, m1, rfl⟩)
            try (go_big_quiet (fail); go_wp2_with fail)
            try (go_big_quiet (fail); go_wp2_with fail)
            go_roundw
            case rel => exact ⟨i + 1, by omega, by go_num, Lib.hid (ref_more HS.out HN.out), (by first | exact HB.out _ | exact below_drewN_ (HB.out _) _)⟩
            case measure => simp [intOf]; omega
        have k1' : ((ev l0 i).f2 == 1) = false := beq_eq_false_iff_ne.2 k1
        by_cases k2 : (ev l0 i).f2 = 2
        · have k2' : ((ev l0 i).f2 == 2) = true := by simpa using k2
          have HN := Lib.hid (show refB l0 a1 i = false by rw [HKX.out, kind_2 k1 k2, HP.out])
          clear k1 k2
          go_wp2_with (go_at_call 23; refine (HL.out _ (by first | exact Kd.C_drewN (Kd.C_alloc HW.out _) _ | exact Kd.C_alloc HW.out _)).mono ?_; rintro e w1 ⟨rfl, m1, rfl⟩)
          try (go_big_quiet (fail); go_wp2_with fail)
          try (go_big_quiet (fail); go_wp2_with fail)
          go_ret
          exact ⟨by rw [HF.out, ref_no hlt HN.out]; rfl, (by first | exact HB.out _ | exact below_drewN_ (HB.out _) _)⟩
        have k2' : ((ev l0 i).f2 == 2) = false := beq_eq_false_iff_ne.2 k2
        have HN := Lib.hid (show refB l0 a1 i = false by rw [HKX.out, kind_0 k1 k2])
        clear k1 k2
        go_wp2_with (go_at_call 23; refine (HL.out _ (by first | exact Kd.C_drewN (Kd.C_alloc HW.out _) _ | exact Kd.C_alloc HW.out _)).mono ?_; rintro e w1 ⟨rfl, m1, rfl⟩)
        try (go_big_quiet (fail); go_wp2_with fail)
        try (go_big_quiet (fail); go_wp2_with fail)
        go_ret
        exact ⟨by rw [HF.out, ref_no hlt HN.out]; rfl, (by first | exact HB.out _ | exact below_drewN_ (HB.out _) _)⟩
      · rw [hq] at HL
        obtain ⟨ad', e', q0, q1, q2, q3, q4, q5, q6, q7, q8, q9⟩ := at_ev HW.out p (by omega)
        obtain rfl : ad = ad' := by injection e'
        have far : ∀ (a : Addr) (v : Value), wr.cell? a = some v → ∀ o, (wr.alloc o).cell? a = some v := fun a v hv o => (World.cell?_of_block (Below.heap_alloc wr o _ (World.block_lt_of_cell? wr _ hv))).trans hv
        replace q2 := far _ _ q2
        replace q3 := far _ _ q3
        replace q4 := far _ _ q4
        replace q5 := far _ _ q5
        clear far e' q0 q1 q6 q7 q8 q9
        have hp0 : (0 : Int) ≤ (p : Int) := by omega
        have hp1 : (p : Int) < (l0.length : Int) := by omega
        have HP := Lib.hid hp
        clear hp hq
        by_cases k1 : (ev l0 i).f2 = 1
        · have k1' : ((ev l0 i).f2 == 1) = true := by simpa using k1
          by_cases o1 : (ev l0 p).f2 = 1
          · have HN := Lib.hid (show refB l0 a1 i = false by rw [HKX.out, kind_1 k1, HP.out]; simp [o1])
            have o1' : ((ev l0 p).f2 == 1) = true := by simpa using o1
            clear k1 o1
            go_wp2_with (go_at_call 23; refine (HL.out _ (by first | exact Kd.C_drewN (Kd.C_alloc HW.out _) _ | exact Kd.C_alloc HW.out _)).mono ?_; rintro e w1 ⟨rfl, m1, rfl⟩)
            try (go_big_quiet (fail); go_wp2_with fail)
            try (go_big_quiet (fail); go_wp2_with fail)
            go_ret
            exact ⟨by rw [HF.out, ref_no hlt HN.out]; rfl, (by first | exact HB.out _ | exact below_drewN_ (HB.out _) _)⟩
          have o1' : ((ev l0 p).f2 == 1) = false := beq_eq_false_iff_ne.2 o1
          cases hz4 : zeroB (ev l0 i).f4
          · have HN := Lib.hid (show refB l0 a1 i = false by rw [HKX.out, kind_1 k1, HP.out]; simp [o1, hz4])
            have z4 : Hid (((ev l0 i).f4.f0 == 0 && ((ev l0 i).f4.f1 == 0 && (!(ev l0 i).f4.f2 && ((ev l0 i).f4.f3 == 0)))) = false) := Lib.hid hz4
            clear k1 o1 hz4
            have Z := z4.out
            go_wp2_with (go_at_call 23; refine (HL.out _ (by first | exact Kd.C_drewN (Kd.C_alloc HW.out _) _ | exact Kd.C_alloc HW.out _)).mono ?_; rintro e w1 ⟨rfl, m1, rfl⟩)
            try (go_big_quiet (fail); go_wp2_with fail)
            try (go_big_quiet (fail); go_wp2_with fail)
            go_ret
            exact ⟨by rw [HF.out, ref_no hlt HN.out]; rfl, (by first | exact HB.out _ | exact below_drewN_ (HB.out _) _)⟩
          · have HN := Lib.hid (show refB l0 a1 i = true by rw [HKX.out, kind_1 k1, HP.out]; simp [o1, hz4])
            have z4 : Hid (((ev l0 i).f4.f0 == 0 && ((ev l0 i).f4.f1 == 0 && (!(ev l0 i).f4.f2 && ((ev l0 i).f4.f3 == 0)))) = true) := Lib.hid hz4
            clear k1 o1 hz4
            have Z := z4.out
            go_wp2_with (go_at_call 23; refine (HL.out _ (by first | exact Kd.C_drewN (Kd.C_alloc HW.out _) _ | exact Kd.C_alloc HW.out _)).mono ?_; rintro e w1 ⟨rfl, m1, rfl⟩)
            try (go_big_quiet (fail); go_wp2_with fail)
            try (go_big_quiet (fail); go_wp2_with fail)
            go_roundw
            case rel => exact ⟨i + 1, by omega, by go_num, Lib.hid (ref_more HS.out HN.out), (by first | exact HB.out _ | exact below_drewN_ (HB.out _) _)⟩
            case measure => simp [intOf]; omega
        have k1' : ((ev l0 i).f2 == 1) = false := beq_eq_false_iff_ne.2 k1
        by_cases k2 : (ev l0 i).f2 = 2
        · have k2' : ((ev l0 i).f2 == 2) = true := by simpa using k2
          by_cases o1 : (ev l0 p).f2 = 1
          · have o1' : ((ev l0 p).f2 == 1) = true := by simpa using o1
            cases hc3 : callB (ev l0 p).f3 (ev l0 i).f3
            · have HN := Lib.hid (show refB l0 a1 i = false by rw [HKX.out, kind_2 k1 k2, HP.out]; simp [o1, hc3])
              have z3 : Hid (((ev l0 p).f3.f0 == (ev l0 i).f3.f0 && ((ev l0 p).f3.f1 == (ev l0 i).f3.f1 && ((ev l0 p).f3.f2 == (ev l0 i).f3.f2))) = false) := Lib.hid hc3
              clear k1 k2 o1 hc3
              have Z := z3.out
              go_wp2_with (go_at_call 23; refine (HL.out _ (by first | exact Kd.C_drewN (Kd.C_alloc HW.out _) _ | exact Kd.C_alloc HW.out _)).mono ?_; rintro e w1 ⟨rfl, m1, rfl⟩)
              try (go_big_quiet (fail); go_wp2_with fail)
              try (go_big_quiet (fail); go_wp2_with fail)
              go_ret
              exact ⟨by rw [HF.out, ref_no hlt HN.out]; rfl, (by first | exact HB.out _ | exact below_drewN_ (HB.out _) _)⟩
            · have HN := Lib.hid (show refB l0 a1 i = true by rw [HKX.out, kind_2 k1 k2, HP.out]; simp [o1, hc3])
              have z3 : Hid (((ev l0 p).f3.f0 == (ev l0 i).f3.f0 && ((ev l0 p).f3.f1 == (ev l0 i).f3.f1 && ((ev l0 p).f3.f2 == (ev l0 i).f3.f2))) = true) := Lib.hid hc3
              clear k1 k2 o1 hc3
              have Z := z3.out
              go_wp2_with (go_at_call 23; refine (HL.out _ (by first | exact Kd.C_drewN (Kd.C_alloc HW.out _) _ | exact Kd.C_alloc HW.out _)).mono ?_; rintro e w1 ⟨rfl, m1, rfl⟩)
              try (go_big_quiet (fail); go_wp2_with fail)
              try (go_big_quiet (fail); go_wp2_with fail)
              go_roundw
              case rel => exact ⟨i + 1, by omega, by go_num, Lib.hid (ref_more HS.out HN.out), (by first | exact HB.out _ | exact below_drewN_ (HB.out _) _)⟩
              case measure => simp [intOf]; omega
          have HN := Lib.hid (show refB l0 a1 i = false by rw [HKX.out, kind_2 k1 k2, HP.out]; simp [o1])
          have o1' : ((ev l0 p).f2 == 1) = false := beq_eq_false_iff_ne.2 o1
          clear k1 k2 o1
          go_wp2_with (go_at_call 23; refine (HL.out _ (by first | exact Kd.C_drewN (Kd.C_alloc HW.out _) _ | exact Kd.C_alloc HW.out _)).mono ?_; rintro e w1 ⟨rfl, m1, rfl⟩)
          try (go_big_quiet (fail); go_wp2_with fail)
          try (go_big_quiet (fail); go_wp2_with fail)
          go_ret
          exact ⟨by rw [HF.out, ref_no hlt HN.out]; rfl, (by first | exact HB.out _ | exact below_drewN_ (HB.out _) _)⟩
        have k2' : ((ev l0 i).f2 == 2) = false := beq_eq_false_iff_ne.2 k2
        have HN := Lib.hid (show refB l0 a1 i = false by rw [HKX.out, kind_0 k1 k2])
        clear k1 k2
        go_wp2_with (go_at_call 23; refine (HL.out _ (by first | exact Kd.C_drewN (Kd.C_alloc HW.out _) _ | exact Kd.C_alloc HW.out _)).mono ?_; rintro e w1 ⟨rfl, m1, rfl⟩)
        try (go_big_quiet (fail); go_wp2_with fail)
        try (go_big_quiet (fail); go_wp2_with fail)
        go_ret
        exact ⟨by rw [HF.out, ref_no hlt HN.out]; rfl, (by first | exact HB.out _ | exact below_drewN_ (HB.out _) _)⟩
    · have hie : i = l0.length := by omega
      subst hie
      have HY := Lib.hid (ref_yes HS.out)
      go_wp2_with fail
      go_ret
      exact ⟨by rw [HF.out, HY.out]; rfl, hnx⟩
end Go.Proofs.Ytkcpifmdjnfgaaa.PTrace
