-- Written by a program of this claim's wip folder (stubprint.py) out of the translation; three functions are stubs that the session proves. Lean checks it.
import Derived.Test.YtkcpifmdjnfgaaaPTracex0
namespace Go.Proofs.Ytkcpifmdjnfgaaa.PTrace
open Go.RowKit Go.Proofs.YtkcpifmdjnfgaaaW.PrintWords Go.Proofs.YtkcpifmdjnfgaaaW.PrintLast Go.Proofs.YtkcpifmdjnfgaaaW.PrintMore
attribute [local go_sem] max2_int min2_int max_two min_two max_three min_three max_four min_four   -- for this text's walks alone
set_option linter.unusedVariables false
set_option linter.unusedSimpArgs false

/-! ### breadlineref18_Most: function 19 -/
def breadlineref18_Most.l0 : Nat → List (S37) → Int → Int → Int → Option (Int)
  | 0, _, _, _, _ => none
  | k + 1, x0, x3, x4, x5 => if x5 < (x0.length : Int) then (if 0 ≤ x5 then (if ((rd_T37 x0 x5).f2) = 1 then (breadlineref18_Most.l0 k x0 (wrap64 (x3 + 1)) (mx x4 (wrap64 (x3 + 1))) (wrap64 (x5 + 1))) else (breadlineref18_Most.l0 k x0 (wrap64 (x3 - 1)) (mx x4 (wrap64 (x3 - 1))) (wrap64 (x5 + 1)))) else (none)) else (some x4)
def breadlineref18_Most.f (k : Nat) (l0 : List (S37)) : Option (Int) := breadlineref18_Most.l0 k l0 0 0 0
theorem breadlineref18_Most.mono_l : ∀ k, (∀ y0 y1 y2 y3, LeO (breadlineref18_Most.l0 k y0 y1 y2 y3) (breadlineref18_Most.l0 (k + 1) y0 y1 y2 y3))
  | 0 => fun _ _ _ _ r h => by simp [breadlineref18_Most.l0] at h
  | k + 1 => by
    have ih0 := breadlineref18_Most.mono_l k
    · intro y0 y1 y2 y3
      unfold breadlineref18_Most.l0
      repeat' first
      | (with_reducible exact ih0 _ _ _ _)
      | (with_reducible exact LeO.refl _)
      | (with_reducible exact LeO.none _)
      | (with_reducible refine LeO.ite ?_ ?_)
      | (with_reducible refine LeO.bind ?_ (fun _ => ?_))
      | exact ih0 _ _ _ _
      | exact LeO.none _
      | refine LeO.ite ?_ ?_
      | refine LeO.bind ?_ (fun _ => ?_)
theorem breadlineref18_Most.mono : ∀ a0 k, LeO (breadlineref18_Most.f k a0) (breadlineref18_Most.f (k + 1) a0) := by
  intro a0 k
  have ih0 := breadlineref18_Most.mono_l k
  unfold breadlineref18_Most.f
  repeat' first
      | (with_reducible exact ih0 _ _ _ _)
      | (with_reducible exact LeO.refl _)
      | (with_reducible exact LeO.none _)
      | (with_reducible refine LeO.ite ?_ ?_)
      | (with_reducible refine LeO.bind ?_ (fun _ => ?_))
      | exact ih0 _ _ _ _
      | exact LeO.none _
      | refine LeO.ite ?_ ?_
      | refine LeO.bind ?_ (fun _ => ?_)
set_option maxHeartbeats 8000000 in
set_option maxRecDepth 100000 in
theorem breadlineref18_Most.calls (k : Nat) (A0 : Option Addr) (c0 : Nat) (l0 : List (S37)) (r : Int) (w : World) (hr0 : Kd.C k37 w A0 l0.length l0) (hc0 : l0.length ≤ c0) (h : breadlineref18_Most.f k l0 = some r) :
    Calls Try.prog 19 #[.slice A0 l0.length c0] w fun e w' => e = .returned (.int .i64 r) ∧ Below w.heap.size w w' := by
  have HR0 := Aside0.mk hr0
  have HC0 := Aside0.mk hc0
  clear hr0 hc0
  have HB := Aside0.mk (Below.refl w.heap.size w)
  have H : (breadlineref18_Most.l0 k l0 0 0 0) = some r := h
  clear h
  have H' := Aside0.mk H
  clear H
  go_enter Try.func19, Try.ntmps19
  go_wp2
  go_loopg [3, 4, 5] k (fun kq v3 v4 v5 w' => ∃ (x3_1 : Int) (x4_1 : Int) (x5_1 : Int), v3 = .int .i64 x3_1 ∧ v4 = .int .i64 x4_1 ∧ v5 = .int .i64 x5_1 ∧ Aside0 (breadlineref18_Most.l0 kq l0 x3_1 x4_1 x5_1 = some r) ∧ Aside0 (kq ≤ k) ∧ Aside0 (Below w.heap.size w w'))
  case atStart => exact ⟨(0), (0), (0), (by first | rfl | (simp; done) | (simp [*]; done)), (by first | rfl | (simp; done) | (simp [*]; done)), (by first | rfl | (simp; done) | (simp [*]; done)), H', ⟨Nat.le_refl _⟩, ⟨by repeat (first | (with_reducible first | exact HB.out | apply below_alloc | apply pw_below_drewN | apply below_drew1) | exact HB.out)⟩⟩
  case round =>
    clear H'
    try clear c1
    obtain ⟨x3_1, x4_1, x5_1, rfl, rfl, rfl, HA, HK1, HB⟩ := hrel
    cases gk with
    | zero => exact absurd HA.out (by simp [breadlineref18_Most.l0])
    | succ k1 =>
      have H := HA.out
      clear HA
      simp only [breadlineref18_Most.l0] at H
      by_cases c2 : x5_1 < (l0.length : Int)
      · rw [if_pos c2] at H
        have c2b0 : decide (x5_1 < (l0.length : Int)) = true := decide_eq_true c2
        clear c2
        by_cases c3 : 0 ≤ x5_1
        · rw [if_pos c3] at H
          have c3b0 : decide (0 ≤ x5_1) = true := decide_eq_true c3
          clear c3
          by_cases c4 : ((rd_T37 l0 x5_1).f2) = 1
          · rw [if_pos c4] at H
            have c4b0 : (((rd_T37 l0 x5_1).f2) == 1) = true := beq_iff_eq.mpr c4
            have c4b1 : (((rd_T37 l0 x5_1).f2) != 1) = false := bne_eq_false_iff_eq.mpr c4
            clear c4
            obtain ⟨ji5, hji5⟩ : ∃ j_ : Int, (mx x4_1 (wrap64 (x3_1 + 1))) = j_ := ⟨_, rfl⟩
            replace H : (breadlineref18_Most.l0 k1 l0 (wrap64 (x3_1 + 1)) ji5 (wrap64 (x5_1 + 1))) = some r := by first | (rw [hji5] at H; exact H) | (simp only [hji5] at H ⊢; exact H)
            have hji5_ : (if x4_1 < (wrap64 (x3_1 + 1)) then (wrap64 (x3_1 + 1)) else x4_1) = ji5 := hji5
            have H' := Aside0.mk H
            clear H
            have p132 : 0 ≤ (x5_1 : Int) := of_decide_eq_true (by first | (with_reducible assumption) | assumption)
            have q132 : x5_1 < (l0.length : Int) := of_decide_eq_true (by first | (with_reducible assumption) | assumption)
            obtain ⟨ad132, e132, hx132_0, hx132_1, hx132_2, hx132_3, hx132_4, hx132_5, hx132_6, hx132_7, hx132_8, hx132_9⟩ := at_T37 HR0.out x5_1 p132 q132
            cases e132
            replace hx132_0 := (HB.out.cell (World.block_lt_of_cell? w _ hx132_0)).trans hx132_0
            replace hx132_1 := (HB.out.cell (World.block_lt_of_cell? w _ hx132_1)).trans hx132_1
            replace hx132_2 := (HB.out.cell (World.block_lt_of_cell? w _ hx132_2)).trans hx132_2
            replace hx132_3 := (HB.out.cell (World.block_lt_of_cell? w _ hx132_3)).trans hx132_3
            replace hx132_4 := (HB.out.cell (World.block_lt_of_cell? w _ hx132_4)).trans hx132_4
            replace hx132_5 := (HB.out.cell (World.block_lt_of_cell? w _ hx132_5)).trans hx132_5
            replace hx132_6 := (HB.out.cell (World.block_lt_of_cell? w _ hx132_6)).trans hx132_6
            replace hx132_7 := (HB.out.cell (World.block_lt_of_cell? w _ hx132_7)).trans hx132_7
            replace hx132_8 := (HB.out.cell (World.block_lt_of_cell? w _ hx132_8)).trans hx132_8
            replace hx132_9 := (HB.out.cell (World.block_lt_of_cell? w _ hx132_9)).trans hx132_9
            replace p132 := eq_true p132
            replace q132 := eq_true q132
            go_wp2
            go_roundg k1
            case measure => have := HK1.out; omega
            case rel => exact ⟨(wrap64 (x3_1 + 1)), (ji5), (wrap64 (x5_1 + 1)), (by first | rfl | (simp; done) | (simp [*]; done)), (by first | rfl | (simp; done) | (simp only [← hji5] <;> (first | rfl | simp)) | (simp [*]; done)), (by first | rfl | (simp; done) | (simp [*]; done)), H', ⟨by have := HK1.out; omega⟩, ⟨by repeat (first | (with_reducible first | exact HB.out | apply below_alloc | apply pw_below_drewN | apply below_drew1) | exact HB.out)⟩⟩
          · rw [if_neg c4] at H
            have c4b0 : (((rd_T37 l0 x5_1).f2) == 1) = false := beq_eq_false_iff_ne.mpr c4
            have c4b1 : (((rd_T37 l0 x5_1).f2) != 1) = true := bne_iff_ne.mpr c4
            obtain ⟨ji6, hji6⟩ : ∃ j_ : Int, (mx x4_1 (wrap64 (x3_1 - 1))) = j_ := ⟨_, rfl⟩
            replace H : (breadlineref18_Most.l0 k1 l0 (wrap64 (x3_1 - 1)) ji6 (wrap64 (x5_1 + 1))) = some r := by first | (rw [hji6] at H; exact H) | (simp only [hji6] at H ⊢; exact H)
            have hji6_ : (if x4_1 < (wrap64 (x3_1 - 1)) then (wrap64 (x3_1 - 1)) else x4_1) = ji6 := hji6
            have H' := Aside0.mk H
            clear H
            have p132 : 0 ≤ (x5_1 : Int) := of_decide_eq_true (by first | (with_reducible assumption) | assumption)
            have q132 : x5_1 < (l0.length : Int) := of_decide_eq_true (by first | (with_reducible assumption) | assumption)
            obtain ⟨ad132, e132, hx132_0, hx132_1, hx132_2, hx132_3, hx132_4, hx132_5, hx132_6, hx132_7, hx132_8, hx132_9⟩ := at_T37 HR0.out x5_1 p132 q132
            cases e132
            replace hx132_0 := (HB.out.cell (World.block_lt_of_cell? w _ hx132_0)).trans hx132_0
            replace hx132_1 := (HB.out.cell (World.block_lt_of_cell? w _ hx132_1)).trans hx132_1
            replace hx132_2 := (HB.out.cell (World.block_lt_of_cell? w _ hx132_2)).trans hx132_2
            replace hx132_3 := (HB.out.cell (World.block_lt_of_cell? w _ hx132_3)).trans hx132_3
            replace hx132_4 := (HB.out.cell (World.block_lt_of_cell? w _ hx132_4)).trans hx132_4
            replace hx132_5 := (HB.out.cell (World.block_lt_of_cell? w _ hx132_5)).trans hx132_5
            replace hx132_6 := (HB.out.cell (World.block_lt_of_cell? w _ hx132_6)).trans hx132_6
            replace hx132_7 := (HB.out.cell (World.block_lt_of_cell? w _ hx132_7)).trans hx132_7
            replace hx132_8 := (HB.out.cell (World.block_lt_of_cell? w _ hx132_8)).trans hx132_8
            replace hx132_9 := (HB.out.cell (World.block_lt_of_cell? w _ hx132_9)).trans hx132_9
            replace p132 := eq_true p132
            replace q132 := eq_true q132
            go_wp2
            go_roundg k1
            case measure => have := HK1.out; omega
            case rel => exact ⟨(wrap64 (x3_1 - 1)), (ji6), (wrap64 (x5_1 + 1)), (by first | rfl | (simp; done) | (simp [*]; done)), (by first | rfl | (simp; done) | (simp only [← hji6] <;> (first | rfl | simp)) | (simp [*]; done)), (by first | rfl | (simp; done) | (simp [*]; done)), H', ⟨by have := HK1.out; omega⟩, ⟨by repeat (first | (with_reducible first | exact HB.out | apply below_alloc | apply pw_below_drewN | apply below_drew1) | exact HB.out)⟩⟩
        · rw [if_neg c3] at H
          exact absurd H (by simp)
      · rw [if_neg c2] at H
        have c2b0 : decide (x5_1 < (l0.length : Int)) = false := decide_eq_false c2
        clear c2
        obtain rfl := Option.some.inj H
        go_wp2
        go_ret
        exact ⟨by first | rfl | (simp [errW_none, errW_some] <;> rfl) | (simp [*, errW_none, errW_some] <;> rfl), by repeat (first | (with_reducible first | exact HB.out | apply below_alloc | apply pw_below_drewN | apply below_drew1) | exact HB.out)⟩

end Go.Proofs.Ytkcpifmdjnfgaaa.PTrace
