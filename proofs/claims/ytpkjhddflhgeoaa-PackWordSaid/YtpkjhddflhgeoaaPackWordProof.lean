/- For every w, w is the word of its version and its value: the law returns true. Conditions: none.
   The frame was written by proof-skeleton.mjs; the walk is the seat's own. -/
import Derived.Test.YtpkjhddflhgeoaaPackWalks
import Derived.WalkKit
import Derived.ProofKit
import Derived.OpenShut
namespace Go.Proofs.Ytpkjhddflhgeoaa.packWord
open Go.ChangeShapes Go.WideShapes Go.ChangeAt Go.RowKit
set_option linter.unusedVariables false      -- a walk need not use every 'w<i>' (that an integer argument fits its kind)

theorem own : ownKnob Try.prog.godebug = none := by kernel_rfl

/-! ### STEP 1: THE WALK: the Go text returns true. 'Grown w w'': the world has at most new blocks (Derived/RowKit3.lean). Part the cases AHEAD of 'go_enter' where a test parts the walk; take each callee by a contract of your own. -/
set_option maxHeartbeats 1000000 in
theorem walk (a0 : Int) (w0 : (Lit.int .i64 a0).wf = true) (w : World) :
    Calls Try.prog 5 #[.int .i64 a0] w fun e w' => e = .returned (.bool true) ∧ Grown w w' := by
  have hb := bounds_i64 w0
  have h1 := ver_bd a0
  have h2 := val_bd a0
  have h3 : okB (ver a0) (val a0) = true := okB_iff.2 ⟨h1.1, h1.2, h2.1, h2.2⟩
  have h4 := wordN_ok h3
  rw [wd_back hb] at h4
  clear h1 h2 hb
  go_enter Try.func5, Try.ntmps5
  go_wp2_with (first | (go_at_call 9; refine (head_any _).mono ?_; rintro e u1 ⟨rfl, rfl⟩) | (go_at_call 10; refine (word_any _ _ _).mono ?_; rintro e u1 ⟨rfl, rfl⟩) | (go_at_call 11; refine (rword_any _ _ _).mono ?_; rintro e u1 ⟨rfl, rfl⟩) | (go_at_call 12; refine (next_any _ _ _).mono ?_; rintro e u1 ⟨rfl, rfl⟩) | (go_at_call 13; refine (rnext_any _ _ _).mono ?_; rintro e u1 ⟨rfl, rfl⟩) | (go_at_call 14; refine (ver_any _ _).mono ?_; rintro e u1 ⟨rfl, rfl⟩) | (go_at_call 15; refine (rver_any _ _).mono ?_; rintro e u1 ⟨rfl, rfl⟩) | (go_at_call 16; refine (val_any _ _).mono ?_; rintro e u1 ⟨rfl, rfl⟩) | (go_at_call 17; refine (rval_any _ _).mono ?_; rintro e u1 ⟨rfl, rfl⟩))
  go_ret
  exact ⟨rfl, Grown.refl _⟩

/-! ### THE ROW's STEP:  -/
set_option maxRecDepth 100000 in
theorem lifted (os : Os) (started : os.Started) (H : Type) (enc : TypeId × Value → H) :
    ReturnsInHanded {} Try.checked os 5 .any (Rows.packWordSpec.pre6 enc Try.prog Try.f5 Rows.packWordRow.domain false) (Rows.packWordSpec.post enc Try.prog Try.f5 false true false false) := by
  refine returnsInHanded_of_change (C := Try.checked) own started (by kernel_rfl) Try.func5
    (ChangeSpec.witness6 (enc := enc) (C := Try.checked) false ⟨#[], #[.int .i64 0], []⟩ 8 (by kernel_rfl) (by kernel_rfl) (by kernel_rfl) (by kernel_rfl)) ?_
  intro W base args ds gs before hval0 hW hcnd _
  have hval : ∀ (j : Nat) t v, Try.f5.params[j]? = some t → args[j]? = some v → Value.okWide Try.prog W .any base t v := hval0
  have hW' := hW
  obtain ⟨p, q, hA0, hV, rfl, hfz, hnd⟩ := hW
  have hA : DataW.TrodAll enc Try.prog W 0 (fun _ => true) true Try.f5.params.toList args.toList ds p := hA0
  rw [Try.params5] at hA hval
  obtain ⟨v0, vs0, d0, ds0, p0, q0, hargs, rfl, rfl, h0, r0⟩ := trodAll_cons hA
  obtain ⟨rfl, rfl, rfl⟩ := trodAll_nil r0
  obtain rfl : args = #[v0] := by cases args; simp_all
  obtain ⟨rfl, rfl⟩ := trodVars_none hV
  obtain ⟨a0, rfl, rfl, rfl, w0⟩ := open_int Try.underlying3 (hval 0 3 v0 rfl rfl) h0
  clear hA0 hval0
  simp only [List.append_nil] at hW'
  refine (walk a0 w0 W).mono fun e W' ⟨he, hg⟩ => ?_
  subst he
  exact ⟨_, rfl, post_of_same (pa := []) (pv := []) hW' (fun _ _ _ => (trodAll_cons_mk (shut_bool Try.underlying4 _) trodAll_mk0)) (fun sp _ => (trodAll_cons_mk (shut_int Try.underlying3 w0) trodAll_mk0)) (fun _ _ => rfl) rfl
    (hg.frame _) hg.2.1 (ok_one (by kernel_rfl) rfl (okWide_bool_mk Try.underlying4 _))⟩

theorem over : Rows.packWordRow.holds Try.pinned (OpenSpec.ofChange Rows.packWordSpec) :=
  OpenClaim.holds_of_wide 5 Try.f5 rfl rfl rfl rfl rfl rfl rfl ⟨rfl, rfl, rfl, rfl, rfl⟩ rfl rfl rfl rfl rfl (by kernel_rfl) Try.func5 (by kernel_rfl)
    (of_decide_eq_true (by kernel_rfl)) (by unfold Func.isWrapper; first | (rw [if_pos (by decide +kernel)]; kernel_rfl) | (rw [if_neg (by decide +kernel)]; exact ⟨rfl, rfl⟩))
    (fun os started H enc _ => lifted os started H enc)

/-- ████ THE STATEMENT ████ -/
theorem proved : Rows.PackWordSaid :=
  over
#print axioms proved
end Go.Proofs.Ytpkjhddflhgeoaa.packWord
