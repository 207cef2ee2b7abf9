/- For every w and value, Next refuses just what may not be, and its word has the value and a version one more, going round, and is another word: the law returns true. Conditions: none.
   The frame was written by proof-skeleton.mjs; the walk is the seat's own. -/
import Derived.Test.YtpkjhddflhgeoaaPackWalks
import Derived.WalkKit
import Derived.ProofKit
import Derived.OpenShut
namespace Go.Proofs.Ytpkjhddflhgeoaa.packNext
open Go.ChangeShapes Go.WideShapes Go.ChangeAt Go.RowKit
set_option linter.unusedVariables false      -- a walk need not use every 'w<i>' (that an integer argument fits its kind)

theorem own : ownKnob Try.prog.godebug = none := by kernel_rfl

/-! ### STEP 1: THE WALK: the Go text returns true. 'Grown w w'': the world has at most new blocks (Derived/RowKit3.lean). Part the cases AHEAD of 'go_enter' where a test parts the walk; take each callee by a contract of your own. -/
set_option maxHeartbeats 1000000 in
theorem walk (a0 : Int) (a1 : Int) (w0 : (Lit.int .i64 a0).wf = true) (w1 : (Lit.int .i64 a1).wf = true) (w : World) :
    Calls Try.prog 7 #[.int .i64 a0, .int .i64 a1] w fun e w' => e = .returned (.bool true) ∧ Grown w w' := by
  rcases okB_cases 0 a1 with h | ⟨h, h1, h2, h3, h4⟩
  · have hw := nextN_no (w := a0) h
    by_cases c3 : a1 < -2147483648
    · go_enter Try.func7, Try.ntmps7
      go_wp2_with (first | (go_at_call 9; refine (head_any _).mono ?_; rintro e u1 ⟨rfl, rfl⟩) | (go_at_call 10; refine (word_any _ _ _).mono ?_; rintro e u1 ⟨rfl, rfl⟩) | (go_at_call 11; refine (rword_any _ _ _).mono ?_; rintro e u1 ⟨rfl, rfl⟩) | (go_at_call 12; refine (next_any _ _ _).mono ?_; rintro e u1 ⟨rfl, rfl⟩) | (go_at_call 13; refine (rnext_any _ _ _).mono ?_; rintro e u1 ⟨rfl, rfl⟩) | (go_at_call 14; refine (ver_any _ _).mono ?_; rintro e u1 ⟨rfl, rfl⟩) | (go_at_call 15; refine (rver_any _ _).mono ?_; rintro e u1 ⟨rfl, rfl⟩) | (go_at_call 16; refine (val_any _ _).mono ?_; rintro e u1 ⟨rfl, rfl⟩) | (go_at_call 17; refine (rval_any _ _).mono ?_; rintro e u1 ⟨rfl, rfl⟩))
      go_ret
      exact ⟨rfl, Grown.refl _⟩
    · have c4 : 2147483648 ≤ a1 := by have := okB_not h; omega
      go_enter Try.func7, Try.ntmps7
      go_wp2_with (first | (go_at_call 9; refine (head_any _).mono ?_; rintro e u1 ⟨rfl, rfl⟩) | (go_at_call 10; refine (word_any _ _ _).mono ?_; rintro e u1 ⟨rfl, rfl⟩) | (go_at_call 11; refine (rword_any _ _ _).mono ?_; rintro e u1 ⟨rfl, rfl⟩) | (go_at_call 12; refine (next_any _ _ _).mono ?_; rintro e u1 ⟨rfl, rfl⟩) | (go_at_call 13; refine (rnext_any _ _ _).mono ?_; rintro e u1 ⟨rfl, rfl⟩) | (go_at_call 14; refine (ver_any _ _).mono ?_; rintro e u1 ⟨rfl, rfl⟩) | (go_at_call 15; refine (rver_any _ _).mono ?_; rintro e u1 ⟨rfl, rfl⟩) | (go_at_call 16; refine (val_any _ _).mono ?_; rintro e u1 ⟨rfl, rfl⟩) | (go_at_call 17; refine (rval_any _ _).mono ?_; rintro e u1 ⟨rfl, rfl⟩))
      go_ret
      exact ⟨rfl, Grown.refl _⟩
  · have hw := nextN_ok (w := a0) h
    have e1 := ver_wd (x := a1) (nv_bd a0)
    have e2 := val_wd (nv_bd a0) ⟨h3, h4⟩
    have e3 : (wd (nv a0) a1 != a0) = true := by
      rw [bne_iff_ne]
      intro h
      rw [h] at e1
      have := ver_bd a0
      unfold nv at e1
      omega
    generalize wd (nv a0) a1 = Z at hw e1 e2 e3
    have hb := ver_bd a0
    obtain ⟨hb1, hb2⟩ := hb
    by_cases hl : ver a0 = 4294967295
    · have e4 : nv a0 = 0 := by unfold nv; omega
      rw [e4] at e1
      have e5 : (ver a0 == 4294967295) = true := by simpa using hl
      have e6 : ((0 : Int) == ver a0 + 1) = false := beq_eq_false_iff_ne.2 (by omega)
      clear e4 hl
      go_enter Try.func7, Try.ntmps7
      go_wp2_with (first | (go_at_call 9; refine (head_any _).mono ?_; rintro e u1 ⟨rfl, rfl⟩) | (go_at_call 10; refine (word_any _ _ _).mono ?_; rintro e u1 ⟨rfl, rfl⟩) | (go_at_call 11; refine (rword_any _ _ _).mono ?_; rintro e u1 ⟨rfl, rfl⟩) | (go_at_call 12; refine (next_any _ _ _).mono ?_; rintro e u1 ⟨rfl, rfl⟩) | (go_at_call 13; refine (rnext_any _ _ _).mono ?_; rintro e u1 ⟨rfl, rfl⟩) | (go_at_call 14; refine (ver_any _ _).mono ?_; rintro e u1 ⟨rfl, rfl⟩) | (go_at_call 15; refine (rver_any _ _).mono ?_; rintro e u1 ⟨rfl, rfl⟩) | (go_at_call 16; refine (val_any _ _).mono ?_; rintro e u1 ⟨rfl, rfl⟩) | (go_at_call 17; refine (rval_any _ _).mono ?_; rintro e u1 ⟨rfl, rfl⟩))
      go_ret
      exact ⟨rfl, Grown.refl _⟩
    · have e4 : nv a0 = ver a0 + 1 := by unfold nv; omega
      rw [e4] at e1
      clear e4
      go_enter Try.func7, Try.ntmps7
      go_wp2_with (first | (go_at_call 9; refine (head_any _).mono ?_; rintro e u1 ⟨rfl, rfl⟩) | (go_at_call 10; refine (word_any _ _ _).mono ?_; rintro e u1 ⟨rfl, rfl⟩) | (go_at_call 11; refine (rword_any _ _ _).mono ?_; rintro e u1 ⟨rfl, rfl⟩) | (go_at_call 12; refine (next_any _ _ _).mono ?_; rintro e u1 ⟨rfl, rfl⟩) | (go_at_call 13; refine (rnext_any _ _ _).mono ?_; rintro e u1 ⟨rfl, rfl⟩) | (go_at_call 14; refine (ver_any _ _).mono ?_; rintro e u1 ⟨rfl, rfl⟩) | (go_at_call 15; refine (rver_any _ _).mono ?_; rintro e u1 ⟨rfl, rfl⟩) | (go_at_call 16; refine (val_any _ _).mono ?_; rintro e u1 ⟨rfl, rfl⟩) | (go_at_call 17; refine (rval_any _ _).mono ?_; rintro e u1 ⟨rfl, rfl⟩))
      go_ret
      exact ⟨rfl, Grown.refl _⟩

/-! ### THE ROW's STEP:  -/
set_option maxRecDepth 100000 in
theorem lifted (os : Os) (started : os.Started) (H : Type) (enc : TypeId × Value → H) :
    ReturnsInHanded {} Try.checked os 7 .any (Rows.packNextSpec.pre6 enc Try.prog Try.f7 Rows.packNextRow.domain false) (Rows.packNextSpec.post enc Try.prog Try.f7 false true false false) := by
  refine returnsInHanded_of_change (C := Try.checked) own started (by kernel_rfl) Try.func7
    (ChangeSpec.witness6 (enc := enc) (C := Try.checked) false ⟨#[], #[.int .i64 0, .int .i64 0], []⟩ 8 (by kernel_rfl) (by kernel_rfl) (by kernel_rfl) (by kernel_rfl)) ?_
  intro W base args ds gs before hval0 hW hcnd _
  have hval : ∀ (j : Nat) t v, Try.f7.params[j]? = some t → args[j]? = some v → Value.okWide Try.prog W .any base t v := hval0
  have hW' := hW
  obtain ⟨p, q, hA0, hV, rfl, hfz, hnd⟩ := hW
  have hA : DataW.TrodAll enc Try.prog W 0 (fun _ => true) true Try.f7.params.toList args.toList ds p := hA0
  rw [Try.params7] at hA hval
  obtain ⟨v0, vs0, d0, ds0, p0, q0, hargs, rfl, rfl, h0, r0⟩ := trodAll_cons hA
  obtain ⟨v1, vs1, d1, ds1, p1, q1, rfl, rfl, rfl, h1, r1⟩ := trodAll_cons r0
  obtain ⟨rfl, rfl, rfl⟩ := trodAll_nil r1
  obtain rfl : args = #[v0, v1] := by cases args; simp_all
  obtain ⟨rfl, rfl⟩ := trodVars_none hV
  obtain ⟨a0, rfl, rfl, rfl, w0⟩ := open_int Try.underlying3 (hval 0 3 v0 rfl rfl) h0
  obtain ⟨a1, rfl, rfl, rfl, w1⟩ := open_int Try.underlying3 (hval 1 3 v1 rfl rfl) h1
  clear hA0 hval0
  simp only [List.append_nil] at hW'
  refine (walk a0 a1 w0 w1 W).mono fun e W' ⟨he, hg⟩ => ?_
  subst he
  exact ⟨_, rfl, post_of_same (pa := []) (pv := []) hW' (fun _ _ _ => (trodAll_cons_mk (shut_bool Try.underlying4 _) trodAll_mk0)) (fun sp _ => (trodAll_cons_mk (shut_int Try.underlying3 w0) (trodAll_cons_mk (shut_int Try.underlying3 w1) trodAll_mk0))) (fun _ _ => rfl) rfl
    (hg.frame _) hg.2.1 (ok_one (by kernel_rfl) rfl (okWide_bool_mk Try.underlying4 _))⟩

theorem over : Rows.packNextRow.holds Try.pinned (OpenSpec.ofChange Rows.packNextSpec) :=
  OpenClaim.holds_of_wide 7 Try.f7 rfl rfl rfl rfl rfl rfl rfl ⟨rfl, rfl, rfl, rfl, rfl⟩ rfl rfl rfl rfl rfl (by kernel_rfl) Try.func7 (by kernel_rfl)
    (of_decide_eq_true (by kernel_rfl)) (by unfold Func.isWrapper; first | (rw [if_pos (by decide +kernel)]; kernel_rfl) | (rw [if_neg (by decide +kernel)]; exact ⟨rfl, rfl⟩))
    (fun os started H enc _ => lifted os started H enc)

/-- ████ THE STATEMENT ████ -/
theorem proved : Rows.PackNextSaid :=
  over
#print axioms proved
end Go.Proofs.Ytpkjhddflhgeoaa.packNext
