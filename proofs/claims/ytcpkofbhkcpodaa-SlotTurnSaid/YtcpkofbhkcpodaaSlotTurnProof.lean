/- For every w, state and ticket, a turned word has the state that was asked for, another version and another handle: the law returns true. Conditions: none.
   The frame was written by proof-skeleton.mjs; the walk is the seat's own. -/
import Derived.Test.YtcpkofbhkcpodaaSlotLaws
import Derived.WalkKit
import Derived.ProofKit
import Derived.OpenShut
import Derived.ShutString
namespace Go.Proofs.Ytcpkofbhkcpodaa.slotTurn
open Go.ChangeShapes Go.WideShapes Go.ChangeAt Go.RowKit
open Go.ChangeMaps (open_string shut_string)
set_option linter.unusedVariables false      -- a walk need not use every 'w<i>' (that an integer argument fits its kind)

theorem own : ownKnob Try.prog.godebug = none := by kernel_rfl

/-! ### STEP 1: THE WALK: the Go text returns true. 'Grown w w'': the world has at most new blocks (Derived/RowKit3.lean). Part the cases AHEAD of 'go_enter' where a test parts the walk; take each callee by a contract of your own. -/
set_option maxRecDepth 100000 in
set_option maxHeartbeats 1000000 in
theorem walk (a0 : Int) (a1 : Int) (a2 : Int) (w0 : (Lit.int .i64 a0).wf = true) (w1 : (Lit.int .u8 a1).wf = true) (w2 : (Lit.int .u8 a2).wf = true) (w : World) :
    Calls Try.prog 6 #[.int .i64 a0, .int .u8 a1, .int .u8 a2] w fun e w' => e = .returned (.bool true) ∧ Grown w w' := by
  have lo1 := (bounds_u8 w1).1
  have hi1 := (bounds_u8 w1).2
  have lo2 := (bounds_u8 w2).1
  have hi2 := (bounds_u8 w2).2
  obtain ⟨S, hS⟩ : ∃ S, a1 % 4 = S := ⟨_, rfl⟩
  obtain ⟨K, hK⟩ : ∃ K, a2 % 16 = K := ⟨_, rfl⟩
  have s1 : 0 ≤ S := by omega
  have s2 : S ≤ 3 := by omega
  have k1 : 0 ≤ K := by omega
  have k2 : K < 16 := by omega
  have hk1 : knownB S = true := knownB_iff.2 ⟨s1, s2⟩
  have hk2 : knownB (4 + a1) = false := by simp [knownB]; omega
  have hb : handB K = true := handB_iff.2 ⟨k1, k2⟩
  obtain ⟨Z, hZ, z1, z2, z3⟩ := turn_facts a0 S K hk1 hb
  go_enter Try.func6, Try.ntmps6
  go_wp2_with (first | (go_at_call 10; refine (turn_any _ _ _).mono ?_; rintro e u ⟨rfl, rfl⟩) | (go_at_call 11; refine (rturn_any _ _ _).mono ?_; rintro e u ⟨rfl, rfl⟩) | (go_at_call 13; refine (rbody_any _ _ _).mono ?_; rintro e u ⟨rfl, rfl⟩) | (go_at_call 15; refine (rof_any _ _).mono ?_; rintro e u ⟨rfl, rfl⟩) | (go_at_call 16; refine (slot_state_any _ _).mono ?_; rintro e u ⟨rfl, rfl⟩) | (go_at_call 17; refine (rslot_state_any _ _).mono ?_; rintro e u ⟨rfl, rfl⟩) | (go_at_call 19; refine (rhandle_any _ _ _).mono ?_; rintro e u ⟨rfl, rfl⟩) | (go_at_call 21; refine (rnamed_any _ _ (by omega) _).mono ?_; rintro e u ⟨rfl, rfl⟩) | (go_at_call 22; refine (rver_any _ _).mono ?_; rintro e u ⟨rfl, rfl⟩) | (go_at_call 23; refine (rword_any _ _ _).mono ?_; rintro e u ⟨rfl, rfl⟩))
  refine (head_any _).mono ?_
  rintro e u0 ⟨rfl, g0⟩
  go_wp2_with (first | (go_at_call 10; refine (turn_any _ _ _).mono ?_; rintro e u ⟨rfl, rfl⟩) | (go_at_call 11; refine (rturn_any _ _ _).mono ?_; rintro e u ⟨rfl, rfl⟩) | (go_at_call 13; refine (rbody_any _ _ _).mono ?_; rintro e u ⟨rfl, rfl⟩) | (go_at_call 15; refine (rof_any _ _).mono ?_; rintro e u ⟨rfl, rfl⟩) | (go_at_call 16; refine (slot_state_any _ _).mono ?_; rintro e u ⟨rfl, rfl⟩) | (go_at_call 17; refine (rslot_state_any _ _).mono ?_; rintro e u ⟨rfl, rfl⟩) | (go_at_call 19; refine (rhandle_any _ _ _).mono ?_; rintro e u ⟨rfl, rfl⟩) | (go_at_call 21; refine (rnamed_any _ _ (by omega) _).mono ?_; rintro e u ⟨rfl, rfl⟩) | (go_at_call 22; refine (rver_any _ _).mono ?_; rintro e u ⟨rfl, rfl⟩) | (go_at_call 23; refine (rword_any _ _ _).mono ?_; rintro e u ⟨rfl, rfl⟩))
  refine (handle_any _ _ _).mono ?_
  rintro e u1 ⟨rfl, g1⟩
  go_wp2_with (first | (go_at_call 10; refine (turn_any _ _ _).mono ?_; rintro e u ⟨rfl, rfl⟩) | (go_at_call 11; refine (rturn_any _ _ _).mono ?_; rintro e u ⟨rfl, rfl⟩) | (go_at_call 13; refine (rbody_any _ _ _).mono ?_; rintro e u ⟨rfl, rfl⟩) | (go_at_call 15; refine (rof_any _ _).mono ?_; rintro e u ⟨rfl, rfl⟩) | (go_at_call 16; refine (slot_state_any _ _).mono ?_; rintro e u ⟨rfl, rfl⟩) | (go_at_call 17; refine (rslot_state_any _ _).mono ?_; rintro e u ⟨rfl, rfl⟩) | (go_at_call 19; refine (rhandle_any _ _ _).mono ?_; rintro e u ⟨rfl, rfl⟩) | (go_at_call 21; refine (rnamed_any _ _ (by omega) _).mono ?_; rintro e u ⟨rfl, rfl⟩) | (go_at_call 22; refine (rver_any _ _).mono ?_; rintro e u ⟨rfl, rfl⟩) | (go_at_call 23; refine (rword_any _ _ _).mono ?_; rintro e u ⟨rfl, rfl⟩))
  refine (handle_any _ _ _).mono ?_
  rintro e u2 ⟨rfl, g2⟩
  go_wp2_with (first | (go_at_call 10; refine (turn_any _ _ _).mono ?_; rintro e u ⟨rfl, rfl⟩) | (go_at_call 11; refine (rturn_any _ _ _).mono ?_; rintro e u ⟨rfl, rfl⟩) | (go_at_call 13; refine (rbody_any _ _ _).mono ?_; rintro e u ⟨rfl, rfl⟩) | (go_at_call 15; refine (rof_any _ _).mono ?_; rintro e u ⟨rfl, rfl⟩) | (go_at_call 16; refine (slot_state_any _ _).mono ?_; rintro e u ⟨rfl, rfl⟩) | (go_at_call 17; refine (rslot_state_any _ _).mono ?_; rintro e u ⟨rfl, rfl⟩) | (go_at_call 19; refine (rhandle_any _ _ _).mono ?_; rintro e u ⟨rfl, rfl⟩) | (go_at_call 21; refine (rnamed_any _ _ (by omega) _).mono ?_; rintro e u ⟨rfl, rfl⟩) | (go_at_call 22; refine (rver_any _ _).mono ?_; rintro e u ⟨rfl, rfl⟩) | (go_at_call 23; refine (rword_any _ _ _).mono ?_; rintro e u ⟨rfl, rfl⟩))
  go_ret
  exact ⟨rfl, ((g0.trans g1).trans g2).1⟩

/-! ### THE ROW's STEP:  -/
set_option maxRecDepth 100000 in
theorem lifted (os : Os) (started : os.Started) (H : Type) (enc : TypeId × Value → H) :
    ReturnsInHanded {} Try.checked os 6 .any (Rows.slotTurnSpec.pre6 enc Try.prog Try.f6 Rows.slotTurnRow.domain false) (Rows.slotTurnSpec.post enc Try.prog Try.f6 false true false false) := by
  refine returnsInHanded_of_change (C := Try.checked) own started (by kernel_rfl) Try.func6
    (ChangeSpec.witness6 (enc := enc) (C := Try.checked) false ⟨#[], #[.int .i64 0, .int .u8 0, .int .u8 0], []⟩ 8 (by kernel_rfl) (by kernel_rfl) (by kernel_rfl) (by kernel_rfl)) ?_
  intro W base args ds gs before hval0 hW hcnd _
  have hval : ∀ (j : Nat) t v, Try.f6.params[j]? = some t → args[j]? = some v → Value.okWide Try.prog W .any base t v := hval0
  have hW' := hW
  obtain ⟨p, q, hA0, hV, rfl, hfz, hnd⟩ := hW
  have hA : DataW.TrodAll enc Try.prog W 0 (fun _ => true) true Try.f6.params.toList args.toList ds p := hA0
  rw [Try.params6] at hA hval
  obtain ⟨v0, vs0, d0, ds0, p0, q0, hargs, rfl, rfl, h0, r0⟩ := trodAll_cons hA
  obtain ⟨v1, vs1, d1, ds1, p1, q1, rfl, rfl, rfl, h1, r1⟩ := trodAll_cons r0
  obtain ⟨v2, vs2, d2, ds2, p2, q2, rfl, rfl, rfl, h2, r2⟩ := trodAll_cons r1
  obtain ⟨rfl, rfl, rfl⟩ := trodAll_nil r2
  obtain rfl : args = #[v0, v1, v2] := by cases args; simp_all
  obtain ⟨rfl, rfl⟩ := trodVars_none hV
  obtain ⟨a0, rfl, rfl, rfl, w0⟩ := open_int Try.underlying3 (hval 0 3 v0 rfl rfl) h0
  obtain ⟨a1, rfl, rfl, rfl, w1⟩ := open_int Try.underlying5 (hval 1 5 v1 rfl rfl) h1
  obtain ⟨a2, rfl, rfl, rfl, w2⟩ := open_int Try.underlying5 (hval 2 5 v2 rfl rfl) h2
  clear hA0 hval0
  simp only [List.append_nil] at hW'
  refine (walk a0 a1 a2 w0 w1 w2 W).mono fun e W' ⟨he, hg⟩ => ?_
  subst he
  exact ⟨_, rfl, post_of_same (pa := []) (pv := []) hW' (fun _ _ _ => (trodAll_cons_mk (shut_bool Try.underlying4 _) trodAll_mk0)) (fun sp _ => (trodAll_cons_mk (shut_int Try.underlying3 w0) (trodAll_cons_mk (shut_int Try.underlying5 w1) (trodAll_cons_mk (shut_int Try.underlying5 w2) trodAll_mk0)))) (fun _ _ => rfl) rfl
    (hg.frame _) hg.2.1 (ok_one (by kernel_rfl) rfl (okWide_bool_mk Try.underlying4 _))⟩

theorem over : Rows.slotTurnRow.holds Try.pinned (OpenSpec.ofChange Rows.slotTurnSpec) :=
  OpenClaim.holds_of_wide 6 Try.f6 rfl rfl rfl rfl rfl rfl rfl ⟨rfl, rfl, rfl, rfl, rfl⟩ rfl rfl rfl rfl rfl (by kernel_rfl) Try.func6 (by kernel_rfl)
    (of_decide_eq_true (by kernel_rfl)) (by unfold Func.isWrapper; first | (rw [if_pos (by decide +kernel)]; kernel_rfl) | (rw [if_neg (by decide +kernel)]; exact ⟨rfl, rfl⟩))
    (fun os started H enc _ => lifted os started H enc)

/-- ████ THE STATEMENT ████ -/
theorem proved : Rows.SlotTurnSaid :=
  over
#print axioms proved
end Go.Proofs.Ytcpkofbhkcpodaa.slotTurn
