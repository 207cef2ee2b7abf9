/- For every a and b, threads' first draws are alike just if the threads are: the law returns true. Conditions: none.
   The frame was written by proof-skeleton.mjs; the walk is the seat's own. -/
import Derived.Test.YtjhmgkddhgfpmaaWalks
import Derived.WalkKit
import Derived.Lib.Hide
import Derived.ProofKit
import Derived.OpenShut
namespace Go.Proofs.Ytjhmgkddhgfpmaa.drawThreads
open Go.ChangeShapes Go.WideShapes Go.ChangeAt Go.RowKit
set_option linter.unusedVariables false      -- a walk need not use every 'w<i>' (that an integer argument fits its kind)

theorem own : ownKnob Try.prog.godebug = none := by kernel_rfl

/-! ### STEP 1: THE WALK: the Go text returns true. 'Grown w w'': the world has at most new blocks (Derived/RowKit3.lean). Part the cases AHEAD of 'go_enter' where a test parts the walk; take each callee by a contract of your own. -/
set_option maxHeartbeats 1000000 in
theorem walk (a0 : Int) (a1 : Int) (w0 : (Lit.int .u16 a0).wf = true) (w1 : (Lit.int .u16 a1).wf = true) (w : World) :
    Calls Try.prog 8 #[.int .u16 a0, .int .u16 a1] w fun e w' => e = .returned (.bool true) ∧ Grown w w' := by
  obtain ⟨lo1, hi1⟩ := u16_bd w1
  obtain ⟨lo0, hi0⟩ := u16_bd w0
  have lm1 : 0 ≤ a1 % 1001 := by omega
  have hm1 : a1 % 1001 ≤ 1000 := by omega
  have lm0 : 0 ≤ a0 % 1001 := by omega
  have hm0 : a0 % 1001 ≤ 1000 := by omega
  have hx := bg_inj ⟨lm0, hm0⟩ ⟨lm1, hm1⟩
  have hy := beq_two hx
  clear hx
  go_enter Try.func8, Try.ntmps8
  go_wp2_with (first | (go_at_call 9; refine (head_any _).mono ?_; rintro e u1 ⟨rfl, g1⟩) | (go_at_call 10; refine (next_any _ _).mono ?_; rintro e u2 ⟨rfl, g2⟩) | (go_at_call 11; refine (rnext_any _ _).mono ?_; rintro e u ⟨rfl, rfl⟩) | (go_at_call 12; refine (begin_any _ ⟨by omega, by omega⟩ _).mono ?_; rintro e u ⟨rfl, rfl⟩) | (go_at_call 13; refine (rbegin_any _ ⟨by omega, by omega⟩ _).mono ?_; rintro e u ⟨rfl, rfl⟩) | (go_at_call 14; refine (good_any _ _).mono ?_; rintro e u ⟨rfl, rfl⟩) | (go_at_call 15; refine (pick_any _ _ (by omega) (by omega) _).mono ?_; rintro e u ⟨rfl, rfl⟩) | (go_at_call 16; refine (rpick_any _ _ (by omega) (by omega) _).mono ?_; rintro e u ⟨rfl, rfl⟩))
  go_ret
  exact ⟨rfl, g1⟩

/-! ### THE ROW's STEP:  -/
set_option maxRecDepth 100000 in
theorem lifted (os : Os) (started : os.Started) (H : Type) (enc : TypeId × Value → H) :
    ReturnsInHanded {} Try.checked os 8 .any (Rows.drawThreadsSpec.pre6 enc Try.prog Try.f8 Rows.drawThreadsRow.domain false) (Rows.drawThreadsSpec.post enc Try.prog Try.f8 false true false false) := by
  refine returnsInHanded_of_change (C := Try.checked) own started (by kernel_rfl) Try.func8
    (ChangeSpec.witness6 (enc := enc) (C := Try.checked) false ⟨#[], #[.int .u16 0, .int .u16 0], []⟩ 8 (by kernel_rfl) (by kernel_rfl) (by kernel_rfl) (by kernel_rfl)) ?_
  intro W base args ds gs before hval0 hW hcnd _
  have hval : ∀ (j : Nat) t v, Try.f8.params[j]? = some t → args[j]? = some v → Value.okWide Try.prog W .any base t v := hval0
  have hW' := hW
  obtain ⟨p, q, hA0, hV, rfl, hfz, hnd⟩ := hW
  have hA : DataW.TrodAll enc Try.prog W 0 (fun _ => true) true Try.f8.params.toList args.toList ds p := hA0
  rw [Try.params8] at hA hval
  obtain ⟨v0, vs0, d0, ds0, p0, q0, hargs, rfl, rfl, h0, r0⟩ := trodAll_cons hA
  obtain ⟨v1, vs1, d1, ds1, p1, q1, rfl, rfl, rfl, h1, r1⟩ := trodAll_cons r0
  obtain ⟨rfl, rfl, rfl⟩ := trodAll_nil r1
  obtain rfl : args = #[v0, v1] := by cases args; simp_all
  obtain ⟨rfl, rfl⟩ := trodVars_none hV
  obtain ⟨a0, rfl, rfl, rfl, w0⟩ := open_int Try.underlying22 (hval 0 22 v0 rfl rfl) h0
  obtain ⟨a1, rfl, rfl, rfl, w1⟩ := open_int Try.underlying22 (hval 1 22 v1 rfl rfl) h1
  clear hA0 hval0
  simp only [List.append_nil] at hW'
  refine (walk a0 a1 w0 w1 W).mono fun e W' ⟨he, hg⟩ => ?_
  subst he
  exact ⟨_, rfl, post_of_same (pa := []) (pv := []) hW' (fun _ _ _ => (trodAll_cons_mk (shut_bool Try.underlying4 _) trodAll_mk0)) (fun sp _ => (trodAll_cons_mk (shut_int Try.underlying22 w0) (trodAll_cons_mk (shut_int Try.underlying22 w1) trodAll_mk0))) (fun _ _ => rfl) rfl
    (hg.frame _) hg.2.1 (ok_one (by kernel_rfl) rfl (okWide_bool_mk Try.underlying4 _))⟩

theorem over : Rows.drawThreadsRow.holds Try.pinned (OpenSpec.ofChange Rows.drawThreadsSpec) :=
  OpenClaim.holds_of_wide 8 Try.f8 rfl rfl rfl rfl rfl rfl rfl ⟨rfl, rfl, rfl, rfl, rfl⟩ rfl rfl rfl rfl rfl (by kernel_rfl) Try.func8 (by kernel_rfl)
    (of_decide_eq_true (by kernel_rfl)) (by unfold Func.isWrapper; first | (rw [if_pos (by decide +kernel)]; kernel_rfl) | (rw [if_neg (by decide +kernel)]; exact ⟨rfl, rfl⟩))
    (fun os started H enc _ => lifted os started H enc)

/-- ████ THE STATEMENT ████ -/
theorem proved : Rows.DrawThreadsSaid :=
  over
#print axioms proved
end Go.Proofs.Ytjhmgkddhgfpmaa.drawThreads
