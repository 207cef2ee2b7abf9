/- For every node, n and w, a body word tells what it was made of, and a word that tells something is made of it: the law returns true. Conditions: none.
   The frame was written by proof-skeleton.mjs; the walk is the seat's own. -/
import Derived.Test.YtcpkofbhkcpodaaSlotLaws
import Derived.WalkKit
import Derived.ProofKit
import Derived.OpenShut
import Derived.ShutString
namespace Go.Proofs.Ytcpkofbhkcpodaa.slotBody
open Go.ChangeShapes Go.WideShapes Go.ChangeAt Go.RowKit
open Go.ChangeMaps (open_string shut_string)
set_option linter.unusedVariables false      -- a walk need not use every 'w<i>' (that an integer argument fits its kind)

theorem own : ownKnob Try.prog.godebug = none := by kernel_rfl

/-! ### STEP 1: THE WALK: the Go text returns true. 'Grown w w'': the world has at most new blocks (Derived/RowKit3.lean). Part the cases AHEAD of 'go_enter' where a test parts the walk; take each callee by a contract of your own. -/
set_option maxRecDepth 100000 in
set_option maxHeartbeats 1000000 in
theorem walk (a0 : Int) (a1 : Int) (a2 : Int) (w0 : (Lit.int .i64 a0).wf = true) (w1 : (Lit.int .i64 a1).wf = true) (w2 : (Lit.int .i64 a2).wf = true) (w : World) :
    Calls Try.prog 4 #[.int .i64 a0, .int .i64 a1, .int .i64 a2] w fun e w' => e = .returned (.bool true) ∧ Grown w w' := by
  have o0 : ofB 0 = false := by decide
  rcases bodyB_ways a0 a1 with h1 | ⟨h1, h2⟩ | ⟨h1, h2, h3⟩ | ⟨h1, h2, h3⟩
  · have hb : bodyB a0 a1 = false := bodyB_not (.inl h1)
    have hn := bodyN_no hb
    rcases of_ways a2 with ⟨k1, k2, k3⟩ | ⟨k1, k2⟩
    · skip
      go_enter Try.func4, Try.ntmps4
      go_wp2_with (first | (go_at_call 10; refine (turn_any _ _ _).mono ?_; rintro e u ⟨rfl, rfl⟩) | (go_at_call 11; refine (rturn_any _ _ _).mono ?_; rintro e u ⟨rfl, rfl⟩) | (go_at_call 13; refine (rbody_any _ _ _).mono ?_; rintro e u ⟨rfl, rfl⟩) | (go_at_call 15; refine (rof_any _ _).mono ?_; rintro e u ⟨rfl, rfl⟩) | (go_at_call 16; refine (slot_state_any _ _).mono ?_; rintro e u ⟨rfl, rfl⟩) | (go_at_call 17; refine (rslot_state_any _ _).mono ?_; rintro e u ⟨rfl, rfl⟩) | (go_at_call 19; refine (rhandle_any _ _ _).mono ?_; rintro e u ⟨rfl, rfl⟩) | (go_at_call 21; refine (rnamed_any _ _ (by omega) _).mono ?_; rintro e u ⟨rfl, rfl⟩) | (go_at_call 22; refine (rver_any _ _).mono ?_; rintro e u ⟨rfl, rfl⟩) | (go_at_call 23; refine (rword_any _ _ _).mono ?_; rintro e u ⟨rfl, rfl⟩))
      refine (head_any _).mono ?_
      rintro e u0 ⟨rfl, g0⟩
      go_wp2_with (first | (go_at_call 10; refine (turn_any _ _ _).mono ?_; rintro e u ⟨rfl, rfl⟩) | (go_at_call 11; refine (rturn_any _ _ _).mono ?_; rintro e u ⟨rfl, rfl⟩) | (go_at_call 13; refine (rbody_any _ _ _).mono ?_; rintro e u ⟨rfl, rfl⟩) | (go_at_call 15; refine (rof_any _ _).mono ?_; rintro e u ⟨rfl, rfl⟩) | (go_at_call 16; refine (slot_state_any _ _).mono ?_; rintro e u ⟨rfl, rfl⟩) | (go_at_call 17; refine (rslot_state_any _ _).mono ?_; rintro e u ⟨rfl, rfl⟩) | (go_at_call 19; refine (rhandle_any _ _ _).mono ?_; rintro e u ⟨rfl, rfl⟩) | (go_at_call 21; refine (rnamed_any _ _ (by omega) _).mono ?_; rintro e u ⟨rfl, rfl⟩) | (go_at_call 22; refine (rver_any _ _).mono ?_; rintro e u ⟨rfl, rfl⟩) | (go_at_call 23; refine (rword_any _ _ _).mono ?_; rintro e u ⟨rfl, rfl⟩))
      refine (body_any _ _ _).mono ?_
      rintro e u1 ⟨rfl, g1⟩
      go_wp2_with (first | (go_at_call 10; refine (turn_any _ _ _).mono ?_; rintro e u ⟨rfl, rfl⟩) | (go_at_call 11; refine (rturn_any _ _ _).mono ?_; rintro e u ⟨rfl, rfl⟩) | (go_at_call 13; refine (rbody_any _ _ _).mono ?_; rintro e u ⟨rfl, rfl⟩) | (go_at_call 15; refine (rof_any _ _).mono ?_; rintro e u ⟨rfl, rfl⟩) | (go_at_call 16; refine (slot_state_any _ _).mono ?_; rintro e u ⟨rfl, rfl⟩) | (go_at_call 17; refine (rslot_state_any _ _).mono ?_; rintro e u ⟨rfl, rfl⟩) | (go_at_call 19; refine (rhandle_any _ _ _).mono ?_; rintro e u ⟨rfl, rfl⟩) | (go_at_call 21; refine (rnamed_any _ _ (by omega) _).mono ?_; rintro e u ⟨rfl, rfl⟩) | (go_at_call 22; refine (rver_any _ _).mono ?_; rintro e u ⟨rfl, rfl⟩) | (go_at_call 23; refine (rword_any _ _ _).mono ?_; rintro e u ⟨rfl, rfl⟩))
      refine (of_any _ _).mono ?_
      rintro e u2 ⟨rfl, g2⟩
      go_wp2_with (first | (go_at_call 10; refine (turn_any _ _ _).mono ?_; rintro e u ⟨rfl, rfl⟩) | (go_at_call 11; refine (rturn_any _ _ _).mono ?_; rintro e u ⟨rfl, rfl⟩) | (go_at_call 13; refine (rbody_any _ _ _).mono ?_; rintro e u ⟨rfl, rfl⟩) | (go_at_call 15; refine (rof_any _ _).mono ?_; rintro e u ⟨rfl, rfl⟩) | (go_at_call 16; refine (slot_state_any _ _).mono ?_; rintro e u ⟨rfl, rfl⟩) | (go_at_call 17; refine (rslot_state_any _ _).mono ?_; rintro e u ⟨rfl, rfl⟩) | (go_at_call 19; refine (rhandle_any _ _ _).mono ?_; rintro e u ⟨rfl, rfl⟩) | (go_at_call 21; refine (rnamed_any _ _ (by omega) _).mono ?_; rintro e u ⟨rfl, rfl⟩) | (go_at_call 22; refine (rver_any _ _).mono ?_; rintro e u ⟨rfl, rfl⟩) | (go_at_call 23; refine (rword_any _ _ _).mono ?_; rintro e u ⟨rfl, rfl⟩))
      refine (of_any _ _).mono ?_
      rintro e u3 ⟨rfl, g3⟩
      go_wp2_with (first | (go_at_call 10; refine (turn_any _ _ _).mono ?_; rintro e u ⟨rfl, rfl⟩) | (go_at_call 11; refine (rturn_any _ _ _).mono ?_; rintro e u ⟨rfl, rfl⟩) | (go_at_call 13; refine (rbody_any _ _ _).mono ?_; rintro e u ⟨rfl, rfl⟩) | (go_at_call 15; refine (rof_any _ _).mono ?_; rintro e u ⟨rfl, rfl⟩) | (go_at_call 16; refine (slot_state_any _ _).mono ?_; rintro e u ⟨rfl, rfl⟩) | (go_at_call 17; refine (rslot_state_any _ _).mono ?_; rintro e u ⟨rfl, rfl⟩) | (go_at_call 19; refine (rhandle_any _ _ _).mono ?_; rintro e u ⟨rfl, rfl⟩) | (go_at_call 21; refine (rnamed_any _ _ (by omega) _).mono ?_; rintro e u ⟨rfl, rfl⟩) | (go_at_call 22; refine (rver_any _ _).mono ?_; rintro e u ⟨rfl, rfl⟩) | (go_at_call 23; refine (rword_any _ _ _).mono ?_; rintro e u ⟨rfl, rfl⟩))
      go_ret
      exact ⟨rfl, (((g0.trans g1).trans g2).trans g3).1⟩
    · skip
      go_enter Try.func4, Try.ntmps4
      go_wp2_with (first | (go_at_call 10; refine (turn_any _ _ _).mono ?_; rintro e u ⟨rfl, rfl⟩) | (go_at_call 11; refine (rturn_any _ _ _).mono ?_; rintro e u ⟨rfl, rfl⟩) | (go_at_call 13; refine (rbody_any _ _ _).mono ?_; rintro e u ⟨rfl, rfl⟩) | (go_at_call 15; refine (rof_any _ _).mono ?_; rintro e u ⟨rfl, rfl⟩) | (go_at_call 16; refine (slot_state_any _ _).mono ?_; rintro e u ⟨rfl, rfl⟩) | (go_at_call 17; refine (rslot_state_any _ _).mono ?_; rintro e u ⟨rfl, rfl⟩) | (go_at_call 19; refine (rhandle_any _ _ _).mono ?_; rintro e u ⟨rfl, rfl⟩) | (go_at_call 21; refine (rnamed_any _ _ (by omega) _).mono ?_; rintro e u ⟨rfl, rfl⟩) | (go_at_call 22; refine (rver_any _ _).mono ?_; rintro e u ⟨rfl, rfl⟩) | (go_at_call 23; refine (rword_any _ _ _).mono ?_; rintro e u ⟨rfl, rfl⟩))
      refine (head_any _).mono ?_
      rintro e u0 ⟨rfl, g0⟩
      go_wp2_with (first | (go_at_call 10; refine (turn_any _ _ _).mono ?_; rintro e u ⟨rfl, rfl⟩) | (go_at_call 11; refine (rturn_any _ _ _).mono ?_; rintro e u ⟨rfl, rfl⟩) | (go_at_call 13; refine (rbody_any _ _ _).mono ?_; rintro e u ⟨rfl, rfl⟩) | (go_at_call 15; refine (rof_any _ _).mono ?_; rintro e u ⟨rfl, rfl⟩) | (go_at_call 16; refine (slot_state_any _ _).mono ?_; rintro e u ⟨rfl, rfl⟩) | (go_at_call 17; refine (rslot_state_any _ _).mono ?_; rintro e u ⟨rfl, rfl⟩) | (go_at_call 19; refine (rhandle_any _ _ _).mono ?_; rintro e u ⟨rfl, rfl⟩) | (go_at_call 21; refine (rnamed_any _ _ (by omega) _).mono ?_; rintro e u ⟨rfl, rfl⟩) | (go_at_call 22; refine (rver_any _ _).mono ?_; rintro e u ⟨rfl, rfl⟩) | (go_at_call 23; refine (rword_any _ _ _).mono ?_; rintro e u ⟨rfl, rfl⟩))
      refine (body_any _ _ _).mono ?_
      rintro e u1 ⟨rfl, g1⟩
      go_wp2_with (first | (go_at_call 10; refine (turn_any _ _ _).mono ?_; rintro e u ⟨rfl, rfl⟩) | (go_at_call 11; refine (rturn_any _ _ _).mono ?_; rintro e u ⟨rfl, rfl⟩) | (go_at_call 13; refine (rbody_any _ _ _).mono ?_; rintro e u ⟨rfl, rfl⟩) | (go_at_call 15; refine (rof_any _ _).mono ?_; rintro e u ⟨rfl, rfl⟩) | (go_at_call 16; refine (slot_state_any _ _).mono ?_; rintro e u ⟨rfl, rfl⟩) | (go_at_call 17; refine (rslot_state_any _ _).mono ?_; rintro e u ⟨rfl, rfl⟩) | (go_at_call 19; refine (rhandle_any _ _ _).mono ?_; rintro e u ⟨rfl, rfl⟩) | (go_at_call 21; refine (rnamed_any _ _ (by omega) _).mono ?_; rintro e u ⟨rfl, rfl⟩) | (go_at_call 22; refine (rver_any _ _).mono ?_; rintro e u ⟨rfl, rfl⟩) | (go_at_call 23; refine (rword_any _ _ _).mono ?_; rintro e u ⟨rfl, rfl⟩))
      refine (of_any _ _).mono ?_
      rintro e u2 ⟨rfl, g2⟩
      go_wp2_with (first | (go_at_call 10; refine (turn_any _ _ _).mono ?_; rintro e u ⟨rfl, rfl⟩) | (go_at_call 11; refine (rturn_any _ _ _).mono ?_; rintro e u ⟨rfl, rfl⟩) | (go_at_call 13; refine (rbody_any _ _ _).mono ?_; rintro e u ⟨rfl, rfl⟩) | (go_at_call 15; refine (rof_any _ _).mono ?_; rintro e u ⟨rfl, rfl⟩) | (go_at_call 16; refine (slot_state_any _ _).mono ?_; rintro e u ⟨rfl, rfl⟩) | (go_at_call 17; refine (rslot_state_any _ _).mono ?_; rintro e u ⟨rfl, rfl⟩) | (go_at_call 19; refine (rhandle_any _ _ _).mono ?_; rintro e u ⟨rfl, rfl⟩) | (go_at_call 21; refine (rnamed_any _ _ (by omega) _).mono ?_; rintro e u ⟨rfl, rfl⟩) | (go_at_call 22; refine (rver_any _ _).mono ?_; rintro e u ⟨rfl, rfl⟩) | (go_at_call 23; refine (rword_any _ _ _).mono ?_; rintro e u ⟨rfl, rfl⟩))
      refine (of_any _ _).mono ?_
      rintro e u3 ⟨rfl, g3⟩
      go_wp2_with (first | (go_at_call 10; refine (turn_any _ _ _).mono ?_; rintro e u ⟨rfl, rfl⟩) | (go_at_call 11; refine (rturn_any _ _ _).mono ?_; rintro e u ⟨rfl, rfl⟩) | (go_at_call 13; refine (rbody_any _ _ _).mono ?_; rintro e u ⟨rfl, rfl⟩) | (go_at_call 15; refine (rof_any _ _).mono ?_; rintro e u ⟨rfl, rfl⟩) | (go_at_call 16; refine (slot_state_any _ _).mono ?_; rintro e u ⟨rfl, rfl⟩) | (go_at_call 17; refine (rslot_state_any _ _).mono ?_; rintro e u ⟨rfl, rfl⟩) | (go_at_call 19; refine (rhandle_any _ _ _).mono ?_; rintro e u ⟨rfl, rfl⟩) | (go_at_call 21; refine (rnamed_any _ _ (by omega) _).mono ?_; rintro e u ⟨rfl, rfl⟩) | (go_at_call 22; refine (rver_any _ _).mono ?_; rintro e u ⟨rfl, rfl⟩) | (go_at_call 23; refine (rword_any _ _ _).mono ?_; rintro e u ⟨rfl, rfl⟩))
      refine (body_any _ _ _).mono ?_
      rintro e u4 ⟨rfl, g4⟩
      go_wp2_with (first | (go_at_call 10; refine (turn_any _ _ _).mono ?_; rintro e u ⟨rfl, rfl⟩) | (go_at_call 11; refine (rturn_any _ _ _).mono ?_; rintro e u ⟨rfl, rfl⟩) | (go_at_call 13; refine (rbody_any _ _ _).mono ?_; rintro e u ⟨rfl, rfl⟩) | (go_at_call 15; refine (rof_any _ _).mono ?_; rintro e u ⟨rfl, rfl⟩) | (go_at_call 16; refine (slot_state_any _ _).mono ?_; rintro e u ⟨rfl, rfl⟩) | (go_at_call 17; refine (rslot_state_any _ _).mono ?_; rintro e u ⟨rfl, rfl⟩) | (go_at_call 19; refine (rhandle_any _ _ _).mono ?_; rintro e u ⟨rfl, rfl⟩) | (go_at_call 21; refine (rnamed_any _ _ (by omega) _).mono ?_; rintro e u ⟨rfl, rfl⟩) | (go_at_call 22; refine (rver_any _ _).mono ?_; rintro e u ⟨rfl, rfl⟩) | (go_at_call 23; refine (rword_any _ _ _).mono ?_; rintro e u ⟨rfl, rfl⟩))
      go_ret
      exact ⟨rfl, ((((g0.trans g1).trans g2).trans g3).trans g4).1⟩
  · have hb : bodyB a0 a1 = false := bodyB_not (.inr (.inl h2))
    have hn := bodyN_no hb
    rcases of_ways a2 with ⟨k1, k2, k3⟩ | ⟨k1, k2⟩
    · skip
      go_enter Try.func4, Try.ntmps4
      go_wp2_with (first | (go_at_call 10; refine (turn_any _ _ _).mono ?_; rintro e u ⟨rfl, rfl⟩) | (go_at_call 11; refine (rturn_any _ _ _).mono ?_; rintro e u ⟨rfl, rfl⟩) | (go_at_call 13; refine (rbody_any _ _ _).mono ?_; rintro e u ⟨rfl, rfl⟩) | (go_at_call 15; refine (rof_any _ _).mono ?_; rintro e u ⟨rfl, rfl⟩) | (go_at_call 16; refine (slot_state_any _ _).mono ?_; rintro e u ⟨rfl, rfl⟩) | (go_at_call 17; refine (rslot_state_any _ _).mono ?_; rintro e u ⟨rfl, rfl⟩) | (go_at_call 19; refine (rhandle_any _ _ _).mono ?_; rintro e u ⟨rfl, rfl⟩) | (go_at_call 21; refine (rnamed_any _ _ (by omega) _).mono ?_; rintro e u ⟨rfl, rfl⟩) | (go_at_call 22; refine (rver_any _ _).mono ?_; rintro e u ⟨rfl, rfl⟩) | (go_at_call 23; refine (rword_any _ _ _).mono ?_; rintro e u ⟨rfl, rfl⟩))
      refine (head_any _).mono ?_
      rintro e u0 ⟨rfl, g0⟩
      go_wp2_with (first | (go_at_call 10; refine (turn_any _ _ _).mono ?_; rintro e u ⟨rfl, rfl⟩) | (go_at_call 11; refine (rturn_any _ _ _).mono ?_; rintro e u ⟨rfl, rfl⟩) | (go_at_call 13; refine (rbody_any _ _ _).mono ?_; rintro e u ⟨rfl, rfl⟩) | (go_at_call 15; refine (rof_any _ _).mono ?_; rintro e u ⟨rfl, rfl⟩) | (go_at_call 16; refine (slot_state_any _ _).mono ?_; rintro e u ⟨rfl, rfl⟩) | (go_at_call 17; refine (rslot_state_any _ _).mono ?_; rintro e u ⟨rfl, rfl⟩) | (go_at_call 19; refine (rhandle_any _ _ _).mono ?_; rintro e u ⟨rfl, rfl⟩) | (go_at_call 21; refine (rnamed_any _ _ (by omega) _).mono ?_; rintro e u ⟨rfl, rfl⟩) | (go_at_call 22; refine (rver_any _ _).mono ?_; rintro e u ⟨rfl, rfl⟩) | (go_at_call 23; refine (rword_any _ _ _).mono ?_; rintro e u ⟨rfl, rfl⟩))
      refine (body_any _ _ _).mono ?_
      rintro e u1 ⟨rfl, g1⟩
      go_wp2_with (first | (go_at_call 10; refine (turn_any _ _ _).mono ?_; rintro e u ⟨rfl, rfl⟩) | (go_at_call 11; refine (rturn_any _ _ _).mono ?_; rintro e u ⟨rfl, rfl⟩) | (go_at_call 13; refine (rbody_any _ _ _).mono ?_; rintro e u ⟨rfl, rfl⟩) | (go_at_call 15; refine (rof_any _ _).mono ?_; rintro e u ⟨rfl, rfl⟩) | (go_at_call 16; refine (slot_state_any _ _).mono ?_; rintro e u ⟨rfl, rfl⟩) | (go_at_call 17; refine (rslot_state_any _ _).mono ?_; rintro e u ⟨rfl, rfl⟩) | (go_at_call 19; refine (rhandle_any _ _ _).mono ?_; rintro e u ⟨rfl, rfl⟩) | (go_at_call 21; refine (rnamed_any _ _ (by omega) _).mono ?_; rintro e u ⟨rfl, rfl⟩) | (go_at_call 22; refine (rver_any _ _).mono ?_; rintro e u ⟨rfl, rfl⟩) | (go_at_call 23; refine (rword_any _ _ _).mono ?_; rintro e u ⟨rfl, rfl⟩))
      refine (of_any _ _).mono ?_
      rintro e u2 ⟨rfl, g2⟩
      go_wp2_with (first | (go_at_call 10; refine (turn_any _ _ _).mono ?_; rintro e u ⟨rfl, rfl⟩) | (go_at_call 11; refine (rturn_any _ _ _).mono ?_; rintro e u ⟨rfl, rfl⟩) | (go_at_call 13; refine (rbody_any _ _ _).mono ?_; rintro e u ⟨rfl, rfl⟩) | (go_at_call 15; refine (rof_any _ _).mono ?_; rintro e u ⟨rfl, rfl⟩) | (go_at_call 16; refine (slot_state_any _ _).mono ?_; rintro e u ⟨rfl, rfl⟩) | (go_at_call 17; refine (rslot_state_any _ _).mono ?_; rintro e u ⟨rfl, rfl⟩) | (go_at_call 19; refine (rhandle_any _ _ _).mono ?_; rintro e u ⟨rfl, rfl⟩) | (go_at_call 21; refine (rnamed_any _ _ (by omega) _).mono ?_; rintro e u ⟨rfl, rfl⟩) | (go_at_call 22; refine (rver_any _ _).mono ?_; rintro e u ⟨rfl, rfl⟩) | (go_at_call 23; refine (rword_any _ _ _).mono ?_; rintro e u ⟨rfl, rfl⟩))
      refine (of_any _ _).mono ?_
      rintro e u3 ⟨rfl, g3⟩
      go_wp2_with (first | (go_at_call 10; refine (turn_any _ _ _).mono ?_; rintro e u ⟨rfl, rfl⟩) | (go_at_call 11; refine (rturn_any _ _ _).mono ?_; rintro e u ⟨rfl, rfl⟩) | (go_at_call 13; refine (rbody_any _ _ _).mono ?_; rintro e u ⟨rfl, rfl⟩) | (go_at_call 15; refine (rof_any _ _).mono ?_; rintro e u ⟨rfl, rfl⟩) | (go_at_call 16; refine (slot_state_any _ _).mono ?_; rintro e u ⟨rfl, rfl⟩) | (go_at_call 17; refine (rslot_state_any _ _).mono ?_; rintro e u ⟨rfl, rfl⟩) | (go_at_call 19; refine (rhandle_any _ _ _).mono ?_; rintro e u ⟨rfl, rfl⟩) | (go_at_call 21; refine (rnamed_any _ _ (by omega) _).mono ?_; rintro e u ⟨rfl, rfl⟩) | (go_at_call 22; refine (rver_any _ _).mono ?_; rintro e u ⟨rfl, rfl⟩) | (go_at_call 23; refine (rword_any _ _ _).mono ?_; rintro e u ⟨rfl, rfl⟩))
      go_ret
      exact ⟨rfl, (((g0.trans g1).trans g2).trans g3).1⟩
    · skip
      go_enter Try.func4, Try.ntmps4
      go_wp2_with (first | (go_at_call 10; refine (turn_any _ _ _).mono ?_; rintro e u ⟨rfl, rfl⟩) | (go_at_call 11; refine (rturn_any _ _ _).mono ?_; rintro e u ⟨rfl, rfl⟩) | (go_at_call 13; refine (rbody_any _ _ _).mono ?_; rintro e u ⟨rfl, rfl⟩) | (go_at_call 15; refine (rof_any _ _).mono ?_; rintro e u ⟨rfl, rfl⟩) | (go_at_call 16; refine (slot_state_any _ _).mono ?_; rintro e u ⟨rfl, rfl⟩) | (go_at_call 17; refine (rslot_state_any _ _).mono ?_; rintro e u ⟨rfl, rfl⟩) | (go_at_call 19; refine (rhandle_any _ _ _).mono ?_; rintro e u ⟨rfl, rfl⟩) | (go_at_call 21; refine (rnamed_any _ _ (by omega) _).mono ?_; rintro e u ⟨rfl, rfl⟩) | (go_at_call 22; refine (rver_any _ _).mono ?_; rintro e u ⟨rfl, rfl⟩) | (go_at_call 23; refine (rword_any _ _ _).mono ?_; rintro e u ⟨rfl, rfl⟩))
      refine (head_any _).mono ?_
      rintro e u0 ⟨rfl, g0⟩
      go_wp2_with (first | (go_at_call 10; refine (turn_any _ _ _).mono ?_; rintro e u ⟨rfl, rfl⟩) | (go_at_call 11; refine (rturn_any _ _ _).mono ?_; rintro e u ⟨rfl, rfl⟩) | (go_at_call 13; refine (rbody_any _ _ _).mono ?_; rintro e u ⟨rfl, rfl⟩) | (go_at_call 15; refine (rof_any _ _).mono ?_; rintro e u ⟨rfl, rfl⟩) | (go_at_call 16; refine (slot_state_any _ _).mono ?_; rintro e u ⟨rfl, rfl⟩) | (go_at_call 17; refine (rslot_state_any _ _).mono ?_; rintro e u ⟨rfl, rfl⟩) | (go_at_call 19; refine (rhandle_any _ _ _).mono ?_; rintro e u ⟨rfl, rfl⟩) | (go_at_call 21; refine (rnamed_any _ _ (by omega) _).mono ?_; rintro e u ⟨rfl, rfl⟩) | (go_at_call 22; refine (rver_any _ _).mono ?_; rintro e u ⟨rfl, rfl⟩) | (go_at_call 23; refine (rword_any _ _ _).mono ?_; rintro e u ⟨rfl, rfl⟩))
      refine (body_any _ _ _).mono ?_
      rintro e u1 ⟨rfl, g1⟩
      go_wp2_with (first | (go_at_call 10; refine (turn_any _ _ _).mono ?_; rintro e u ⟨rfl, rfl⟩) | (go_at_call 11; refine (rturn_any _ _ _).mono ?_; rintro e u ⟨rfl, rfl⟩) | (go_at_call 13; refine (rbody_any _ _ _).mono ?_; rintro e u ⟨rfl, rfl⟩) | (go_at_call 15; refine (rof_any _ _).mono ?_; rintro e u ⟨rfl, rfl⟩) | (go_at_call 16; refine (slot_state_any _ _).mono ?_; rintro e u ⟨rfl, rfl⟩) | (go_at_call 17; refine (rslot_state_any _ _).mono ?_; rintro e u ⟨rfl, rfl⟩) | (go_at_call 19; refine (rhandle_any _ _ _).mono ?_; rintro e u ⟨rfl, rfl⟩) | (go_at_call 21; refine (rnamed_any _ _ (by omega) _).mono ?_; rintro e u ⟨rfl, rfl⟩) | (go_at_call 22; refine (rver_any _ _).mono ?_; rintro e u ⟨rfl, rfl⟩) | (go_at_call 23; refine (rword_any _ _ _).mono ?_; rintro e u ⟨rfl, rfl⟩))
      refine (of_any _ _).mono ?_
      rintro e u2 ⟨rfl, g2⟩
      go_wp2_with (first | (go_at_call 10; refine (turn_any _ _ _).mono ?_; rintro e u ⟨rfl, rfl⟩) | (go_at_call 11; refine (rturn_any _ _ _).mono ?_; rintro e u ⟨rfl, rfl⟩) | (go_at_call 13; refine (rbody_any _ _ _).mono ?_; rintro e u ⟨rfl, rfl⟩) | (go_at_call 15; refine (rof_any _ _).mono ?_; rintro e u ⟨rfl, rfl⟩) | (go_at_call 16; refine (slot_state_any _ _).mono ?_; rintro e u ⟨rfl, rfl⟩) | (go_at_call 17; refine (rslot_state_any _ _).mono ?_; rintro e u ⟨rfl, rfl⟩) | (go_at_call 19; refine (rhandle_any _ _ _).mono ?_; rintro e u ⟨rfl, rfl⟩) | (go_at_call 21; refine (rnamed_any _ _ (by omega) _).mono ?_; rintro e u ⟨rfl, rfl⟩) | (go_at_call 22; refine (rver_any _ _).mono ?_; rintro e u ⟨rfl, rfl⟩) | (go_at_call 23; refine (rword_any _ _ _).mono ?_; rintro e u ⟨rfl, rfl⟩))
      refine (of_any _ _).mono ?_
      rintro e u3 ⟨rfl, g3⟩
      go_wp2_with (first | (go_at_call 10; refine (turn_any _ _ _).mono ?_; rintro e u ⟨rfl, rfl⟩) | (go_at_call 11; refine (rturn_any _ _ _).mono ?_; rintro e u ⟨rfl, rfl⟩) | (go_at_call 13; refine (rbody_any _ _ _).mono ?_; rintro e u ⟨rfl, rfl⟩) | (go_at_call 15; refine (rof_any _ _).mono ?_; rintro e u ⟨rfl, rfl⟩) | (go_at_call 16; refine (slot_state_any _ _).mono ?_; rintro e u ⟨rfl, rfl⟩) | (go_at_call 17; refine (rslot_state_any _ _).mono ?_; rintro e u ⟨rfl, rfl⟩) | (go_at_call 19; refine (rhandle_any _ _ _).mono ?_; rintro e u ⟨rfl, rfl⟩) | (go_at_call 21; refine (rnamed_any _ _ (by omega) _).mono ?_; rintro e u ⟨rfl, rfl⟩) | (go_at_call 22; refine (rver_any _ _).mono ?_; rintro e u ⟨rfl, rfl⟩) | (go_at_call 23; refine (rword_any _ _ _).mono ?_; rintro e u ⟨rfl, rfl⟩))
      refine (body_any _ _ _).mono ?_
      rintro e u4 ⟨rfl, g4⟩
      go_wp2_with (first | (go_at_call 10; refine (turn_any _ _ _).mono ?_; rintro e u ⟨rfl, rfl⟩) | (go_at_call 11; refine (rturn_any _ _ _).mono ?_; rintro e u ⟨rfl, rfl⟩) | (go_at_call 13; refine (rbody_any _ _ _).mono ?_; rintro e u ⟨rfl, rfl⟩) | (go_at_call 15; refine (rof_any _ _).mono ?_; rintro e u ⟨rfl, rfl⟩) | (go_at_call 16; refine (slot_state_any _ _).mono ?_; rintro e u ⟨rfl, rfl⟩) | (go_at_call 17; refine (rslot_state_any _ _).mono ?_; rintro e u ⟨rfl, rfl⟩) | (go_at_call 19; refine (rhandle_any _ _ _).mono ?_; rintro e u ⟨rfl, rfl⟩) | (go_at_call 21; refine (rnamed_any _ _ (by omega) _).mono ?_; rintro e u ⟨rfl, rfl⟩) | (go_at_call 22; refine (rver_any _ _).mono ?_; rintro e u ⟨rfl, rfl⟩) | (go_at_call 23; refine (rword_any _ _ _).mono ?_; rintro e u ⟨rfl, rfl⟩))
      go_ret
      exact ⟨rfl, ((((g0.trans g1).trans g2).trans g3).trans g4).1⟩
  · have hb : bodyB a0 a1 = false := bodyB_not (.inr (.inr (.inl h3)))
    have hn := bodyN_no hb
    rcases of_ways a2 with ⟨k1, k2, k3⟩ | ⟨k1, k2⟩
    · skip
      go_enter Try.func4, Try.ntmps4
      go_wp2_with (first | (go_at_call 10; refine (turn_any _ _ _).mono ?_; rintro e u ⟨rfl, rfl⟩) | (go_at_call 11; refine (rturn_any _ _ _).mono ?_; rintro e u ⟨rfl, rfl⟩) | (go_at_call 13; refine (rbody_any _ _ _).mono ?_; rintro e u ⟨rfl, rfl⟩) | (go_at_call 15; refine (rof_any _ _).mono ?_; rintro e u ⟨rfl, rfl⟩) | (go_at_call 16; refine (slot_state_any _ _).mono ?_; rintro e u ⟨rfl, rfl⟩) | (go_at_call 17; refine (rslot_state_any _ _).mono ?_; rintro e u ⟨rfl, rfl⟩) | (go_at_call 19; refine (rhandle_any _ _ _).mono ?_; rintro e u ⟨rfl, rfl⟩) | (go_at_call 21; refine (rnamed_any _ _ (by omega) _).mono ?_; rintro e u ⟨rfl, rfl⟩) | (go_at_call 22; refine (rver_any _ _).mono ?_; rintro e u ⟨rfl, rfl⟩) | (go_at_call 23; refine (rword_any _ _ _).mono ?_; rintro e u ⟨rfl, rfl⟩))
      refine (head_any _).mono ?_
      rintro e u0 ⟨rfl, g0⟩
      go_wp2_with (first | (go_at_call 10; refine (turn_any _ _ _).mono ?_; rintro e u ⟨rfl, rfl⟩) | (go_at_call 11; refine (rturn_any _ _ _).mono ?_; rintro e u ⟨rfl, rfl⟩) | (go_at_call 13; refine (rbody_any _ _ _).mono ?_; rintro e u ⟨rfl, rfl⟩) | (go_at_call 15; refine (rof_any _ _).mono ?_; rintro e u ⟨rfl, rfl⟩) | (go_at_call 16; refine (slot_state_any _ _).mono ?_; rintro e u ⟨rfl, rfl⟩) | (go_at_call 17; refine (rslot_state_any _ _).mono ?_; rintro e u ⟨rfl, rfl⟩) | (go_at_call 19; refine (rhandle_any _ _ _).mono ?_; rintro e u ⟨rfl, rfl⟩) | (go_at_call 21; refine (rnamed_any _ _ (by omega) _).mono ?_; rintro e u ⟨rfl, rfl⟩) | (go_at_call 22; refine (rver_any _ _).mono ?_; rintro e u ⟨rfl, rfl⟩) | (go_at_call 23; refine (rword_any _ _ _).mono ?_; rintro e u ⟨rfl, rfl⟩))
      refine (body_any _ _ _).mono ?_
      rintro e u1 ⟨rfl, g1⟩
      go_wp2_with (first | (go_at_call 10; refine (turn_any _ _ _).mono ?_; rintro e u ⟨rfl, rfl⟩) | (go_at_call 11; refine (rturn_any _ _ _).mono ?_; rintro e u ⟨rfl, rfl⟩) | (go_at_call 13; refine (rbody_any _ _ _).mono ?_; rintro e u ⟨rfl, rfl⟩) | (go_at_call 15; refine (rof_any _ _).mono ?_; rintro e u ⟨rfl, rfl⟩) | (go_at_call 16; refine (slot_state_any _ _).mono ?_; rintro e u ⟨rfl, rfl⟩) | (go_at_call 17; refine (rslot_state_any _ _).mono ?_; rintro e u ⟨rfl, rfl⟩) | (go_at_call 19; refine (rhandle_any _ _ _).mono ?_; rintro e u ⟨rfl, rfl⟩) | (go_at_call 21; refine (rnamed_any _ _ (by omega) _).mono ?_; rintro e u ⟨rfl, rfl⟩) | (go_at_call 22; refine (rver_any _ _).mono ?_; rintro e u ⟨rfl, rfl⟩) | (go_at_call 23; refine (rword_any _ _ _).mono ?_; rintro e u ⟨rfl, rfl⟩))
      refine (of_any _ _).mono ?_
      rintro e u2 ⟨rfl, g2⟩
      go_wp2_with (first | (go_at_call 10; refine (turn_any _ _ _).mono ?_; rintro e u ⟨rfl, rfl⟩) | (go_at_call 11; refine (rturn_any _ _ _).mono ?_; rintro e u ⟨rfl, rfl⟩) | (go_at_call 13; refine (rbody_any _ _ _).mono ?_; rintro e u ⟨rfl, rfl⟩) | (go_at_call 15; refine (rof_any _ _).mono ?_; rintro e u ⟨rfl, rfl⟩) | (go_at_call 16; refine (slot_state_any _ _).mono ?_; rintro e u ⟨rfl, rfl⟩) | (go_at_call 17; refine (rslot_state_any _ _).mono ?_; rintro e u ⟨rfl, rfl⟩) | (go_at_call 19; refine (rhandle_any _ _ _).mono ?_; rintro e u ⟨rfl, rfl⟩) | (go_at_call 21; refine (rnamed_any _ _ (by omega) _).mono ?_; rintro e u ⟨rfl, rfl⟩) | (go_at_call 22; refine (rver_any _ _).mono ?_; rintro e u ⟨rfl, rfl⟩) | (go_at_call 23; refine (rword_any _ _ _).mono ?_; rintro e u ⟨rfl, rfl⟩))
      refine (of_any _ _).mono ?_
      rintro e u3 ⟨rfl, g3⟩
      go_wp2_with (first | (go_at_call 10; refine (turn_any _ _ _).mono ?_; rintro e u ⟨rfl, rfl⟩) | (go_at_call 11; refine (rturn_any _ _ _).mono ?_; rintro e u ⟨rfl, rfl⟩) | (go_at_call 13; refine (rbody_any _ _ _).mono ?_; rintro e u ⟨rfl, rfl⟩) | (go_at_call 15; refine (rof_any _ _).mono ?_; rintro e u ⟨rfl, rfl⟩) | (go_at_call 16; refine (slot_state_any _ _).mono ?_; rintro e u ⟨rfl, rfl⟩) | (go_at_call 17; refine (rslot_state_any _ _).mono ?_; rintro e u ⟨rfl, rfl⟩) | (go_at_call 19; refine (rhandle_any _ _ _).mono ?_; rintro e u ⟨rfl, rfl⟩) | (go_at_call 21; refine (rnamed_any _ _ (by omega) _).mono ?_; rintro e u ⟨rfl, rfl⟩) | (go_at_call 22; refine (rver_any _ _).mono ?_; rintro e u ⟨rfl, rfl⟩) | (go_at_call 23; refine (rword_any _ _ _).mono ?_; rintro e u ⟨rfl, rfl⟩))
      go_ret
      exact ⟨rfl, (((g0.trans g1).trans g2).trans g3).1⟩
    · skip
      go_enter Try.func4, Try.ntmps4
      go_wp2_with (first | (go_at_call 10; refine (turn_any _ _ _).mono ?_; rintro e u ⟨rfl, rfl⟩) | (go_at_call 11; refine (rturn_any _ _ _).mono ?_; rintro e u ⟨rfl, rfl⟩) | (go_at_call 13; refine (rbody_any _ _ _).mono ?_; rintro e u ⟨rfl, rfl⟩) | (go_at_call 15; refine (rof_any _ _).mono ?_; rintro e u ⟨rfl, rfl⟩) | (go_at_call 16; refine (slot_state_any _ _).mono ?_; rintro e u ⟨rfl, rfl⟩) | (go_at_call 17; refine (rslot_state_any _ _).mono ?_; rintro e u ⟨rfl, rfl⟩) | (go_at_call 19; refine (rhandle_any _ _ _).mono ?_; rintro e u ⟨rfl, rfl⟩) | (go_at_call 21; refine (rnamed_any _ _ (by omega) _).mono ?_; rintro e u ⟨rfl, rfl⟩) | (go_at_call 22; refine (rver_any _ _).mono ?_; rintro e u ⟨rfl, rfl⟩) | (go_at_call 23; refine (rword_any _ _ _).mono ?_; rintro e u ⟨rfl, rfl⟩))
      refine (head_any _).mono ?_
      rintro e u0 ⟨rfl, g0⟩
      go_wp2_with (first | (go_at_call 10; refine (turn_any _ _ _).mono ?_; rintro e u ⟨rfl, rfl⟩) | (go_at_call 11; refine (rturn_any _ _ _).mono ?_; rintro e u ⟨rfl, rfl⟩) | (go_at_call 13; refine (rbody_any _ _ _).mono ?_; rintro e u ⟨rfl, rfl⟩) | (go_at_call 15; refine (rof_any _ _).mono ?_; rintro e u ⟨rfl, rfl⟩) | (go_at_call 16; refine (slot_state_any _ _).mono ?_; rintro e u ⟨rfl, rfl⟩) | (go_at_call 17; refine (rslot_state_any _ _).mono ?_; rintro e u ⟨rfl, rfl⟩) | (go_at_call 19; refine (rhandle_any _ _ _).mono ?_; rintro e u ⟨rfl, rfl⟩) | (go_at_call 21; refine (rnamed_any _ _ (by omega) _).mono ?_; rintro e u ⟨rfl, rfl⟩) | (go_at_call 22; refine (rver_any _ _).mono ?_; rintro e u ⟨rfl, rfl⟩) | (go_at_call 23; refine (rword_any _ _ _).mono ?_; rintro e u ⟨rfl, rfl⟩))
      refine (body_any _ _ _).mono ?_
      rintro e u1 ⟨rfl, g1⟩
      go_wp2_with (first | (go_at_call 10; refine (turn_any _ _ _).mono ?_; rintro e u ⟨rfl, rfl⟩) | (go_at_call 11; refine (rturn_any _ _ _).mono ?_; rintro e u ⟨rfl, rfl⟩) | (go_at_call 13; refine (rbody_any _ _ _).mono ?_; rintro e u ⟨rfl, rfl⟩) | (go_at_call 15; refine (rof_any _ _).mono ?_; rintro e u ⟨rfl, rfl⟩) | (go_at_call 16; refine (slot_state_any _ _).mono ?_; rintro e u ⟨rfl, rfl⟩) | (go_at_call 17; refine (rslot_state_any _ _).mono ?_; rintro e u ⟨rfl, rfl⟩) | (go_at_call 19; refine (rhandle_any _ _ _).mono ?_; rintro e u ⟨rfl, rfl⟩) | (go_at_call 21; refine (rnamed_any _ _ (by omega) _).mono ?_; rintro e u ⟨rfl, rfl⟩) | (go_at_call 22; refine (rver_any _ _).mono ?_; rintro e u ⟨rfl, rfl⟩) | (go_at_call 23; refine (rword_any _ _ _).mono ?_; rintro e u ⟨rfl, rfl⟩))
      refine (of_any _ _).mono ?_
      rintro e u2 ⟨rfl, g2⟩
      go_wp2_with (first | (go_at_call 10; refine (turn_any _ _ _).mono ?_; rintro e u ⟨rfl, rfl⟩) | (go_at_call 11; refine (rturn_any _ _ _).mono ?_; rintro e u ⟨rfl, rfl⟩) | (go_at_call 13; refine (rbody_any _ _ _).mono ?_; rintro e u ⟨rfl, rfl⟩) | (go_at_call 15; refine (rof_any _ _).mono ?_; rintro e u ⟨rfl, rfl⟩) | (go_at_call 16; refine (slot_state_any _ _).mono ?_; rintro e u ⟨rfl, rfl⟩) | (go_at_call 17; refine (rslot_state_any _ _).mono ?_; rintro e u ⟨rfl, rfl⟩) | (go_at_call 19; refine (rhandle_any _ _ _).mono ?_; rintro e u ⟨rfl, rfl⟩) | (go_at_call 21; refine (rnamed_any _ _ (by omega) _).mono ?_; rintro e u ⟨rfl, rfl⟩) | (go_at_call 22; refine (rver_any _ _).mono ?_; rintro e u ⟨rfl, rfl⟩) | (go_at_call 23; refine (rword_any _ _ _).mono ?_; rintro e u ⟨rfl, rfl⟩))
      refine (of_any _ _).mono ?_
      rintro e u3 ⟨rfl, g3⟩
      go_wp2_with (first | (go_at_call 10; refine (turn_any _ _ _).mono ?_; rintro e u ⟨rfl, rfl⟩) | (go_at_call 11; refine (rturn_any _ _ _).mono ?_; rintro e u ⟨rfl, rfl⟩) | (go_at_call 13; refine (rbody_any _ _ _).mono ?_; rintro e u ⟨rfl, rfl⟩) | (go_at_call 15; refine (rof_any _ _).mono ?_; rintro e u ⟨rfl, rfl⟩) | (go_at_call 16; refine (slot_state_any _ _).mono ?_; rintro e u ⟨rfl, rfl⟩) | (go_at_call 17; refine (rslot_state_any _ _).mono ?_; rintro e u ⟨rfl, rfl⟩) | (go_at_call 19; refine (rhandle_any _ _ _).mono ?_; rintro e u ⟨rfl, rfl⟩) | (go_at_call 21; refine (rnamed_any _ _ (by omega) _).mono ?_; rintro e u ⟨rfl, rfl⟩) | (go_at_call 22; refine (rver_any _ _).mono ?_; rintro e u ⟨rfl, rfl⟩) | (go_at_call 23; refine (rword_any _ _ _).mono ?_; rintro e u ⟨rfl, rfl⟩))
      refine (body_any _ _ _).mono ?_
      rintro e u4 ⟨rfl, g4⟩
      go_wp2_with (first | (go_at_call 10; refine (turn_any _ _ _).mono ?_; rintro e u ⟨rfl, rfl⟩) | (go_at_call 11; refine (rturn_any _ _ _).mono ?_; rintro e u ⟨rfl, rfl⟩) | (go_at_call 13; refine (rbody_any _ _ _).mono ?_; rintro e u ⟨rfl, rfl⟩) | (go_at_call 15; refine (rof_any _ _).mono ?_; rintro e u ⟨rfl, rfl⟩) | (go_at_call 16; refine (slot_state_any _ _).mono ?_; rintro e u ⟨rfl, rfl⟩) | (go_at_call 17; refine (rslot_state_any _ _).mono ?_; rintro e u ⟨rfl, rfl⟩) | (go_at_call 19; refine (rhandle_any _ _ _).mono ?_; rintro e u ⟨rfl, rfl⟩) | (go_at_call 21; refine (rnamed_any _ _ (by omega) _).mono ?_; rintro e u ⟨rfl, rfl⟩) | (go_at_call 22; refine (rver_any _ _).mono ?_; rintro e u ⟨rfl, rfl⟩) | (go_at_call 23; refine (rword_any _ _ _).mono ?_; rintro e u ⟨rfl, rfl⟩))
      go_ret
      exact ⟨rfl, ((((g0.trans g1).trans g2).trans g3).trans g4).1⟩
  · by_cases h4 : 1048576 < a1
    · have hb : bodyB a0 a1 = false := bodyB_not (.inr (.inr (.inr h4)))
      have hn := bodyN_no hb
      rcases of_ways a2 with ⟨k1, k2, k3⟩ | ⟨k1, k2⟩
      · skip
        go_enter Try.func4, Try.ntmps4
        go_wp2_with (first | (go_at_call 10; refine (turn_any _ _ _).mono ?_; rintro e u ⟨rfl, rfl⟩) | (go_at_call 11; refine (rturn_any _ _ _).mono ?_; rintro e u ⟨rfl, rfl⟩) | (go_at_call 13; refine (rbody_any _ _ _).mono ?_; rintro e u ⟨rfl, rfl⟩) | (go_at_call 15; refine (rof_any _ _).mono ?_; rintro e u ⟨rfl, rfl⟩) | (go_at_call 16; refine (slot_state_any _ _).mono ?_; rintro e u ⟨rfl, rfl⟩) | (go_at_call 17; refine (rslot_state_any _ _).mono ?_; rintro e u ⟨rfl, rfl⟩) | (go_at_call 19; refine (rhandle_any _ _ _).mono ?_; rintro e u ⟨rfl, rfl⟩) | (go_at_call 21; refine (rnamed_any _ _ (by omega) _).mono ?_; rintro e u ⟨rfl, rfl⟩) | (go_at_call 22; refine (rver_any _ _).mono ?_; rintro e u ⟨rfl, rfl⟩) | (go_at_call 23; refine (rword_any _ _ _).mono ?_; rintro e u ⟨rfl, rfl⟩))
        refine (head_any _).mono ?_
        rintro e u0 ⟨rfl, g0⟩
        go_wp2_with (first | (go_at_call 10; refine (turn_any _ _ _).mono ?_; rintro e u ⟨rfl, rfl⟩) | (go_at_call 11; refine (rturn_any _ _ _).mono ?_; rintro e u ⟨rfl, rfl⟩) | (go_at_call 13; refine (rbody_any _ _ _).mono ?_; rintro e u ⟨rfl, rfl⟩) | (go_at_call 15; refine (rof_any _ _).mono ?_; rintro e u ⟨rfl, rfl⟩) | (go_at_call 16; refine (slot_state_any _ _).mono ?_; rintro e u ⟨rfl, rfl⟩) | (go_at_call 17; refine (rslot_state_any _ _).mono ?_; rintro e u ⟨rfl, rfl⟩) | (go_at_call 19; refine (rhandle_any _ _ _).mono ?_; rintro e u ⟨rfl, rfl⟩) | (go_at_call 21; refine (rnamed_any _ _ (by omega) _).mono ?_; rintro e u ⟨rfl, rfl⟩) | (go_at_call 22; refine (rver_any _ _).mono ?_; rintro e u ⟨rfl, rfl⟩) | (go_at_call 23; refine (rword_any _ _ _).mono ?_; rintro e u ⟨rfl, rfl⟩))
        refine (body_any _ _ _).mono ?_
        rintro e u1 ⟨rfl, g1⟩
        go_wp2_with (first | (go_at_call 10; refine (turn_any _ _ _).mono ?_; rintro e u ⟨rfl, rfl⟩) | (go_at_call 11; refine (rturn_any _ _ _).mono ?_; rintro e u ⟨rfl, rfl⟩) | (go_at_call 13; refine (rbody_any _ _ _).mono ?_; rintro e u ⟨rfl, rfl⟩) | (go_at_call 15; refine (rof_any _ _).mono ?_; rintro e u ⟨rfl, rfl⟩) | (go_at_call 16; refine (slot_state_any _ _).mono ?_; rintro e u ⟨rfl, rfl⟩) | (go_at_call 17; refine (rslot_state_any _ _).mono ?_; rintro e u ⟨rfl, rfl⟩) | (go_at_call 19; refine (rhandle_any _ _ _).mono ?_; rintro e u ⟨rfl, rfl⟩) | (go_at_call 21; refine (rnamed_any _ _ (by omega) _).mono ?_; rintro e u ⟨rfl, rfl⟩) | (go_at_call 22; refine (rver_any _ _).mono ?_; rintro e u ⟨rfl, rfl⟩) | (go_at_call 23; refine (rword_any _ _ _).mono ?_; rintro e u ⟨rfl, rfl⟩))
        refine (of_any _ _).mono ?_
        rintro e u2 ⟨rfl, g2⟩
        go_wp2_with (first | (go_at_call 10; refine (turn_any _ _ _).mono ?_; rintro e u ⟨rfl, rfl⟩) | (go_at_call 11; refine (rturn_any _ _ _).mono ?_; rintro e u ⟨rfl, rfl⟩) | (go_at_call 13; refine (rbody_any _ _ _).mono ?_; rintro e u ⟨rfl, rfl⟩) | (go_at_call 15; refine (rof_any _ _).mono ?_; rintro e u ⟨rfl, rfl⟩) | (go_at_call 16; refine (slot_state_any _ _).mono ?_; rintro e u ⟨rfl, rfl⟩) | (go_at_call 17; refine (rslot_state_any _ _).mono ?_; rintro e u ⟨rfl, rfl⟩) | (go_at_call 19; refine (rhandle_any _ _ _).mono ?_; rintro e u ⟨rfl, rfl⟩) | (go_at_call 21; refine (rnamed_any _ _ (by omega) _).mono ?_; rintro e u ⟨rfl, rfl⟩) | (go_at_call 22; refine (rver_any _ _).mono ?_; rintro e u ⟨rfl, rfl⟩) | (go_at_call 23; refine (rword_any _ _ _).mono ?_; rintro e u ⟨rfl, rfl⟩))
        refine (of_any _ _).mono ?_
        rintro e u3 ⟨rfl, g3⟩
        go_wp2_with (first | (go_at_call 10; refine (turn_any _ _ _).mono ?_; rintro e u ⟨rfl, rfl⟩) | (go_at_call 11; refine (rturn_any _ _ _).mono ?_; rintro e u ⟨rfl, rfl⟩) | (go_at_call 13; refine (rbody_any _ _ _).mono ?_; rintro e u ⟨rfl, rfl⟩) | (go_at_call 15; refine (rof_any _ _).mono ?_; rintro e u ⟨rfl, rfl⟩) | (go_at_call 16; refine (slot_state_any _ _).mono ?_; rintro e u ⟨rfl, rfl⟩) | (go_at_call 17; refine (rslot_state_any _ _).mono ?_; rintro e u ⟨rfl, rfl⟩) | (go_at_call 19; refine (rhandle_any _ _ _).mono ?_; rintro e u ⟨rfl, rfl⟩) | (go_at_call 21; refine (rnamed_any _ _ (by omega) _).mono ?_; rintro e u ⟨rfl, rfl⟩) | (go_at_call 22; refine (rver_any _ _).mono ?_; rintro e u ⟨rfl, rfl⟩) | (go_at_call 23; refine (rword_any _ _ _).mono ?_; rintro e u ⟨rfl, rfl⟩))
        go_ret
        exact ⟨rfl, (((g0.trans g1).trans g2).trans g3).1⟩
      · skip
        go_enter Try.func4, Try.ntmps4
        go_wp2_with (first | (go_at_call 10; refine (turn_any _ _ _).mono ?_; rintro e u ⟨rfl, rfl⟩) | (go_at_call 11; refine (rturn_any _ _ _).mono ?_; rintro e u ⟨rfl, rfl⟩) | (go_at_call 13; refine (rbody_any _ _ _).mono ?_; rintro e u ⟨rfl, rfl⟩) | (go_at_call 15; refine (rof_any _ _).mono ?_; rintro e u ⟨rfl, rfl⟩) | (go_at_call 16; refine (slot_state_any _ _).mono ?_; rintro e u ⟨rfl, rfl⟩) | (go_at_call 17; refine (rslot_state_any _ _).mono ?_; rintro e u ⟨rfl, rfl⟩) | (go_at_call 19; refine (rhandle_any _ _ _).mono ?_; rintro e u ⟨rfl, rfl⟩) | (go_at_call 21; refine (rnamed_any _ _ (by omega) _).mono ?_; rintro e u ⟨rfl, rfl⟩) | (go_at_call 22; refine (rver_any _ _).mono ?_; rintro e u ⟨rfl, rfl⟩) | (go_at_call 23; refine (rword_any _ _ _).mono ?_; rintro e u ⟨rfl, rfl⟩))
        refine (head_any _).mono ?_
        rintro e u0 ⟨rfl, g0⟩
        go_wp2_with (first | (go_at_call 10; refine (turn_any _ _ _).mono ?_; rintro e u ⟨rfl, rfl⟩) | (go_at_call 11; refine (rturn_any _ _ _).mono ?_; rintro e u ⟨rfl, rfl⟩) | (go_at_call 13; refine (rbody_any _ _ _).mono ?_; rintro e u ⟨rfl, rfl⟩) | (go_at_call 15; refine (rof_any _ _).mono ?_; rintro e u ⟨rfl, rfl⟩) | (go_at_call 16; refine (slot_state_any _ _).mono ?_; rintro e u ⟨rfl, rfl⟩) | (go_at_call 17; refine (rslot_state_any _ _).mono ?_; rintro e u ⟨rfl, rfl⟩) | (go_at_call 19; refine (rhandle_any _ _ _).mono ?_; rintro e u ⟨rfl, rfl⟩) | (go_at_call 21; refine (rnamed_any _ _ (by omega) _).mono ?_; rintro e u ⟨rfl, rfl⟩) | (go_at_call 22; refine (rver_any _ _).mono ?_; rintro e u ⟨rfl, rfl⟩) | (go_at_call 23; refine (rword_any _ _ _).mono ?_; rintro e u ⟨rfl, rfl⟩))
        refine (body_any _ _ _).mono ?_
        rintro e u1 ⟨rfl, g1⟩
        go_wp2_with (first | (go_at_call 10; refine (turn_any _ _ _).mono ?_; rintro e u ⟨rfl, rfl⟩) | (go_at_call 11; refine (rturn_any _ _ _).mono ?_; rintro e u ⟨rfl, rfl⟩) | (go_at_call 13; refine (rbody_any _ _ _).mono ?_; rintro e u ⟨rfl, rfl⟩) | (go_at_call 15; refine (rof_any _ _).mono ?_; rintro e u ⟨rfl, rfl⟩) | (go_at_call 16; refine (slot_state_any _ _).mono ?_; rintro e u ⟨rfl, rfl⟩) | (go_at_call 17; refine (rslot_state_any _ _).mono ?_; rintro e u ⟨rfl, rfl⟩) | (go_at_call 19; refine (rhandle_any _ _ _).mono ?_; rintro e u ⟨rfl, rfl⟩) | (go_at_call 21; refine (rnamed_any _ _ (by omega) _).mono ?_; rintro e u ⟨rfl, rfl⟩) | (go_at_call 22; refine (rver_any _ _).mono ?_; rintro e u ⟨rfl, rfl⟩) | (go_at_call 23; refine (rword_any _ _ _).mono ?_; rintro e u ⟨rfl, rfl⟩))
        refine (of_any _ _).mono ?_
        rintro e u2 ⟨rfl, g2⟩
        go_wp2_with (first | (go_at_call 10; refine (turn_any _ _ _).mono ?_; rintro e u ⟨rfl, rfl⟩) | (go_at_call 11; refine (rturn_any _ _ _).mono ?_; rintro e u ⟨rfl, rfl⟩) | (go_at_call 13; refine (rbody_any _ _ _).mono ?_; rintro e u ⟨rfl, rfl⟩) | (go_at_call 15; refine (rof_any _ _).mono ?_; rintro e u ⟨rfl, rfl⟩) | (go_at_call 16; refine (slot_state_any _ _).mono ?_; rintro e u ⟨rfl, rfl⟩) | (go_at_call 17; refine (rslot_state_any _ _).mono ?_; rintro e u ⟨rfl, rfl⟩) | (go_at_call 19; refine (rhandle_any _ _ _).mono ?_; rintro e u ⟨rfl, rfl⟩) | (go_at_call 21; refine (rnamed_any _ _ (by omega) _).mono ?_; rintro e u ⟨rfl, rfl⟩) | (go_at_call 22; refine (rver_any _ _).mono ?_; rintro e u ⟨rfl, rfl⟩) | (go_at_call 23; refine (rword_any _ _ _).mono ?_; rintro e u ⟨rfl, rfl⟩))
        refine (of_any _ _).mono ?_
        rintro e u3 ⟨rfl, g3⟩
        go_wp2_with (first | (go_at_call 10; refine (turn_any _ _ _).mono ?_; rintro e u ⟨rfl, rfl⟩) | (go_at_call 11; refine (rturn_any _ _ _).mono ?_; rintro e u ⟨rfl, rfl⟩) | (go_at_call 13; refine (rbody_any _ _ _).mono ?_; rintro e u ⟨rfl, rfl⟩) | (go_at_call 15; refine (rof_any _ _).mono ?_; rintro e u ⟨rfl, rfl⟩) | (go_at_call 16; refine (slot_state_any _ _).mono ?_; rintro e u ⟨rfl, rfl⟩) | (go_at_call 17; refine (rslot_state_any _ _).mono ?_; rintro e u ⟨rfl, rfl⟩) | (go_at_call 19; refine (rhandle_any _ _ _).mono ?_; rintro e u ⟨rfl, rfl⟩) | (go_at_call 21; refine (rnamed_any _ _ (by omega) _).mono ?_; rintro e u ⟨rfl, rfl⟩) | (go_at_call 22; refine (rver_any _ _).mono ?_; rintro e u ⟨rfl, rfl⟩) | (go_at_call 23; refine (rword_any _ _ _).mono ?_; rintro e u ⟨rfl, rfl⟩))
        refine (body_any _ _ _).mono ?_
        rintro e u4 ⟨rfl, g4⟩
        go_wp2_with (first | (go_at_call 10; refine (turn_any _ _ _).mono ?_; rintro e u ⟨rfl, rfl⟩) | (go_at_call 11; refine (rturn_any _ _ _).mono ?_; rintro e u ⟨rfl, rfl⟩) | (go_at_call 13; refine (rbody_any _ _ _).mono ?_; rintro e u ⟨rfl, rfl⟩) | (go_at_call 15; refine (rof_any _ _).mono ?_; rintro e u ⟨rfl, rfl⟩) | (go_at_call 16; refine (slot_state_any _ _).mono ?_; rintro e u ⟨rfl, rfl⟩) | (go_at_call 17; refine (rslot_state_any _ _).mono ?_; rintro e u ⟨rfl, rfl⟩) | (go_at_call 19; refine (rhandle_any _ _ _).mono ?_; rintro e u ⟨rfl, rfl⟩) | (go_at_call 21; refine (rnamed_any _ _ (by omega) _).mono ?_; rintro e u ⟨rfl, rfl⟩) | (go_at_call 22; refine (rver_any _ _).mono ?_; rintro e u ⟨rfl, rfl⟩) | (go_at_call 23; refine (rword_any _ _ _).mono ?_; rintro e u ⟨rfl, rfl⟩))
        go_ret
        exact ⟨rfl, ((((g0.trans g1).trans g2).trans g3).trans g4).1⟩
    · have bf := body_facts h1 h2 h3 (show a1 ≤ 1048576 by omega)
      have hb := bf.1
      have m1 := bf.2.2.1
      have m2 := bf.2.2.2.1
      have m3 := bf.2.2.2.2
      clear bf
      obtain ⟨Z, hZ⟩ : ∃ Z, bodyN a0 a1 = Z := ⟨_, rfl⟩
      rw [hZ] at m1 m2 m3
      rcases of_ways a2 with ⟨k1, k2, k3⟩ | ⟨k1, k2⟩
      · skip
        go_enter Try.func4, Try.ntmps4
        go_wp2_with (first | (go_at_call 10; refine (turn_any _ _ _).mono ?_; rintro e u ⟨rfl, rfl⟩) | (go_at_call 11; refine (rturn_any _ _ _).mono ?_; rintro e u ⟨rfl, rfl⟩) | (go_at_call 13; refine (rbody_any _ _ _).mono ?_; rintro e u ⟨rfl, rfl⟩) | (go_at_call 15; refine (rof_any _ _).mono ?_; rintro e u ⟨rfl, rfl⟩) | (go_at_call 16; refine (slot_state_any _ _).mono ?_; rintro e u ⟨rfl, rfl⟩) | (go_at_call 17; refine (rslot_state_any _ _).mono ?_; rintro e u ⟨rfl, rfl⟩) | (go_at_call 19; refine (rhandle_any _ _ _).mono ?_; rintro e u ⟨rfl, rfl⟩) | (go_at_call 21; refine (rnamed_any _ _ (by omega) _).mono ?_; rintro e u ⟨rfl, rfl⟩) | (go_at_call 22; refine (rver_any _ _).mono ?_; rintro e u ⟨rfl, rfl⟩) | (go_at_call 23; refine (rword_any _ _ _).mono ?_; rintro e u ⟨rfl, rfl⟩))
        refine (head_any _).mono ?_
        rintro e u0 ⟨rfl, g0⟩
        go_wp2_with (first | (go_at_call 10; refine (turn_any _ _ _).mono ?_; rintro e u ⟨rfl, rfl⟩) | (go_at_call 11; refine (rturn_any _ _ _).mono ?_; rintro e u ⟨rfl, rfl⟩) | (go_at_call 13; refine (rbody_any _ _ _).mono ?_; rintro e u ⟨rfl, rfl⟩) | (go_at_call 15; refine (rof_any _ _).mono ?_; rintro e u ⟨rfl, rfl⟩) | (go_at_call 16; refine (slot_state_any _ _).mono ?_; rintro e u ⟨rfl, rfl⟩) | (go_at_call 17; refine (rslot_state_any _ _).mono ?_; rintro e u ⟨rfl, rfl⟩) | (go_at_call 19; refine (rhandle_any _ _ _).mono ?_; rintro e u ⟨rfl, rfl⟩) | (go_at_call 21; refine (rnamed_any _ _ (by omega) _).mono ?_; rintro e u ⟨rfl, rfl⟩) | (go_at_call 22; refine (rver_any _ _).mono ?_; rintro e u ⟨rfl, rfl⟩) | (go_at_call 23; refine (rword_any _ _ _).mono ?_; rintro e u ⟨rfl, rfl⟩))
        refine (body_any _ _ _).mono ?_
        rintro e u1 ⟨rfl, g1⟩
        go_wp2_with (first | (go_at_call 10; refine (turn_any _ _ _).mono ?_; rintro e u ⟨rfl, rfl⟩) | (go_at_call 11; refine (rturn_any _ _ _).mono ?_; rintro e u ⟨rfl, rfl⟩) | (go_at_call 13; refine (rbody_any _ _ _).mono ?_; rintro e u ⟨rfl, rfl⟩) | (go_at_call 15; refine (rof_any _ _).mono ?_; rintro e u ⟨rfl, rfl⟩) | (go_at_call 16; refine (slot_state_any _ _).mono ?_; rintro e u ⟨rfl, rfl⟩) | (go_at_call 17; refine (rslot_state_any _ _).mono ?_; rintro e u ⟨rfl, rfl⟩) | (go_at_call 19; refine (rhandle_any _ _ _).mono ?_; rintro e u ⟨rfl, rfl⟩) | (go_at_call 21; refine (rnamed_any _ _ (by omega) _).mono ?_; rintro e u ⟨rfl, rfl⟩) | (go_at_call 22; refine (rver_any _ _).mono ?_; rintro e u ⟨rfl, rfl⟩) | (go_at_call 23; refine (rword_any _ _ _).mono ?_; rintro e u ⟨rfl, rfl⟩))
        refine (of_any _ _).mono ?_
        rintro e u2 ⟨rfl, g2⟩
        go_wp2_with (first | (go_at_call 10; refine (turn_any _ _ _).mono ?_; rintro e u ⟨rfl, rfl⟩) | (go_at_call 11; refine (rturn_any _ _ _).mono ?_; rintro e u ⟨rfl, rfl⟩) | (go_at_call 13; refine (rbody_any _ _ _).mono ?_; rintro e u ⟨rfl, rfl⟩) | (go_at_call 15; refine (rof_any _ _).mono ?_; rintro e u ⟨rfl, rfl⟩) | (go_at_call 16; refine (slot_state_any _ _).mono ?_; rintro e u ⟨rfl, rfl⟩) | (go_at_call 17; refine (rslot_state_any _ _).mono ?_; rintro e u ⟨rfl, rfl⟩) | (go_at_call 19; refine (rhandle_any _ _ _).mono ?_; rintro e u ⟨rfl, rfl⟩) | (go_at_call 21; refine (rnamed_any _ _ (by omega) _).mono ?_; rintro e u ⟨rfl, rfl⟩) | (go_at_call 22; refine (rver_any _ _).mono ?_; rintro e u ⟨rfl, rfl⟩) | (go_at_call 23; refine (rword_any _ _ _).mono ?_; rintro e u ⟨rfl, rfl⟩))
        refine (of_any _ _).mono ?_
        rintro e u3 ⟨rfl, g3⟩
        go_wp2_with (first | (go_at_call 10; refine (turn_any _ _ _).mono ?_; rintro e u ⟨rfl, rfl⟩) | (go_at_call 11; refine (rturn_any _ _ _).mono ?_; rintro e u ⟨rfl, rfl⟩) | (go_at_call 13; refine (rbody_any _ _ _).mono ?_; rintro e u ⟨rfl, rfl⟩) | (go_at_call 15; refine (rof_any _ _).mono ?_; rintro e u ⟨rfl, rfl⟩) | (go_at_call 16; refine (slot_state_any _ _).mono ?_; rintro e u ⟨rfl, rfl⟩) | (go_at_call 17; refine (rslot_state_any _ _).mono ?_; rintro e u ⟨rfl, rfl⟩) | (go_at_call 19; refine (rhandle_any _ _ _).mono ?_; rintro e u ⟨rfl, rfl⟩) | (go_at_call 21; refine (rnamed_any _ _ (by omega) _).mono ?_; rintro e u ⟨rfl, rfl⟩) | (go_at_call 22; refine (rver_any _ _).mono ?_; rintro e u ⟨rfl, rfl⟩) | (go_at_call 23; refine (rword_any _ _ _).mono ?_; rintro e u ⟨rfl, rfl⟩))
        go_ret
        exact ⟨rfl, (((g0.trans g1).trans g2).trans g3).1⟩
      · skip
        go_enter Try.func4, Try.ntmps4
        go_wp2_with (first | (go_at_call 10; refine (turn_any _ _ _).mono ?_; rintro e u ⟨rfl, rfl⟩) | (go_at_call 11; refine (rturn_any _ _ _).mono ?_; rintro e u ⟨rfl, rfl⟩) | (go_at_call 13; refine (rbody_any _ _ _).mono ?_; rintro e u ⟨rfl, rfl⟩) | (go_at_call 15; refine (rof_any _ _).mono ?_; rintro e u ⟨rfl, rfl⟩) | (go_at_call 16; refine (slot_state_any _ _).mono ?_; rintro e u ⟨rfl, rfl⟩) | (go_at_call 17; refine (rslot_state_any _ _).mono ?_; rintro e u ⟨rfl, rfl⟩) | (go_at_call 19; refine (rhandle_any _ _ _).mono ?_; rintro e u ⟨rfl, rfl⟩) | (go_at_call 21; refine (rnamed_any _ _ (by omega) _).mono ?_; rintro e u ⟨rfl, rfl⟩) | (go_at_call 22; refine (rver_any _ _).mono ?_; rintro e u ⟨rfl, rfl⟩) | (go_at_call 23; refine (rword_any _ _ _).mono ?_; rintro e u ⟨rfl, rfl⟩))
        refine (head_any _).mono ?_
        rintro e u0 ⟨rfl, g0⟩
        go_wp2_with (first | (go_at_call 10; refine (turn_any _ _ _).mono ?_; rintro e u ⟨rfl, rfl⟩) | (go_at_call 11; refine (rturn_any _ _ _).mono ?_; rintro e u ⟨rfl, rfl⟩) | (go_at_call 13; refine (rbody_any _ _ _).mono ?_; rintro e u ⟨rfl, rfl⟩) | (go_at_call 15; refine (rof_any _ _).mono ?_; rintro e u ⟨rfl, rfl⟩) | (go_at_call 16; refine (slot_state_any _ _).mono ?_; rintro e u ⟨rfl, rfl⟩) | (go_at_call 17; refine (rslot_state_any _ _).mono ?_; rintro e u ⟨rfl, rfl⟩) | (go_at_call 19; refine (rhandle_any _ _ _).mono ?_; rintro e u ⟨rfl, rfl⟩) | (go_at_call 21; refine (rnamed_any _ _ (by omega) _).mono ?_; rintro e u ⟨rfl, rfl⟩) | (go_at_call 22; refine (rver_any _ _).mono ?_; rintro e u ⟨rfl, rfl⟩) | (go_at_call 23; refine (rword_any _ _ _).mono ?_; rintro e u ⟨rfl, rfl⟩))
        refine (body_any _ _ _).mono ?_
        rintro e u1 ⟨rfl, g1⟩
        go_wp2_with (first | (go_at_call 10; refine (turn_any _ _ _).mono ?_; rintro e u ⟨rfl, rfl⟩) | (go_at_call 11; refine (rturn_any _ _ _).mono ?_; rintro e u ⟨rfl, rfl⟩) | (go_at_call 13; refine (rbody_any _ _ _).mono ?_; rintro e u ⟨rfl, rfl⟩) | (go_at_call 15; refine (rof_any _ _).mono ?_; rintro e u ⟨rfl, rfl⟩) | (go_at_call 16; refine (slot_state_any _ _).mono ?_; rintro e u ⟨rfl, rfl⟩) | (go_at_call 17; refine (rslot_state_any _ _).mono ?_; rintro e u ⟨rfl, rfl⟩) | (go_at_call 19; refine (rhandle_any _ _ _).mono ?_; rintro e u ⟨rfl, rfl⟩) | (go_at_call 21; refine (rnamed_any _ _ (by omega) _).mono ?_; rintro e u ⟨rfl, rfl⟩) | (go_at_call 22; refine (rver_any _ _).mono ?_; rintro e u ⟨rfl, rfl⟩) | (go_at_call 23; refine (rword_any _ _ _).mono ?_; rintro e u ⟨rfl, rfl⟩))
        refine (of_any _ _).mono ?_
        rintro e u2 ⟨rfl, g2⟩
        go_wp2_with (first | (go_at_call 10; refine (turn_any _ _ _).mono ?_; rintro e u ⟨rfl, rfl⟩) | (go_at_call 11; refine (rturn_any _ _ _).mono ?_; rintro e u ⟨rfl, rfl⟩) | (go_at_call 13; refine (rbody_any _ _ _).mono ?_; rintro e u ⟨rfl, rfl⟩) | (go_at_call 15; refine (rof_any _ _).mono ?_; rintro e u ⟨rfl, rfl⟩) | (go_at_call 16; refine (slot_state_any _ _).mono ?_; rintro e u ⟨rfl, rfl⟩) | (go_at_call 17; refine (rslot_state_any _ _).mono ?_; rintro e u ⟨rfl, rfl⟩) | (go_at_call 19; refine (rhandle_any _ _ _).mono ?_; rintro e u ⟨rfl, rfl⟩) | (go_at_call 21; refine (rnamed_any _ _ (by omega) _).mono ?_; rintro e u ⟨rfl, rfl⟩) | (go_at_call 22; refine (rver_any _ _).mono ?_; rintro e u ⟨rfl, rfl⟩) | (go_at_call 23; refine (rword_any _ _ _).mono ?_; rintro e u ⟨rfl, rfl⟩))
        refine (of_any _ _).mono ?_
        rintro e u3 ⟨rfl, g3⟩
        go_wp2_with (first | (go_at_call 10; refine (turn_any _ _ _).mono ?_; rintro e u ⟨rfl, rfl⟩) | (go_at_call 11; refine (rturn_any _ _ _).mono ?_; rintro e u ⟨rfl, rfl⟩) | (go_at_call 13; refine (rbody_any _ _ _).mono ?_; rintro e u ⟨rfl, rfl⟩) | (go_at_call 15; refine (rof_any _ _).mono ?_; rintro e u ⟨rfl, rfl⟩) | (go_at_call 16; refine (slot_state_any _ _).mono ?_; rintro e u ⟨rfl, rfl⟩) | (go_at_call 17; refine (rslot_state_any _ _).mono ?_; rintro e u ⟨rfl, rfl⟩) | (go_at_call 19; refine (rhandle_any _ _ _).mono ?_; rintro e u ⟨rfl, rfl⟩) | (go_at_call 21; refine (rnamed_any _ _ (by omega) _).mono ?_; rintro e u ⟨rfl, rfl⟩) | (go_at_call 22; refine (rver_any _ _).mono ?_; rintro e u ⟨rfl, rfl⟩) | (go_at_call 23; refine (rword_any _ _ _).mono ?_; rintro e u ⟨rfl, rfl⟩))
        refine (body_any _ _ _).mono ?_
        rintro e u4 ⟨rfl, g4⟩
        go_wp2_with (first | (go_at_call 10; refine (turn_any _ _ _).mono ?_; rintro e u ⟨rfl, rfl⟩) | (go_at_call 11; refine (rturn_any _ _ _).mono ?_; rintro e u ⟨rfl, rfl⟩) | (go_at_call 13; refine (rbody_any _ _ _).mono ?_; rintro e u ⟨rfl, rfl⟩) | (go_at_call 15; refine (rof_any _ _).mono ?_; rintro e u ⟨rfl, rfl⟩) | (go_at_call 16; refine (slot_state_any _ _).mono ?_; rintro e u ⟨rfl, rfl⟩) | (go_at_call 17; refine (rslot_state_any _ _).mono ?_; rintro e u ⟨rfl, rfl⟩) | (go_at_call 19; refine (rhandle_any _ _ _).mono ?_; rintro e u ⟨rfl, rfl⟩) | (go_at_call 21; refine (rnamed_any _ _ (by omega) _).mono ?_; rintro e u ⟨rfl, rfl⟩) | (go_at_call 22; refine (rver_any _ _).mono ?_; rintro e u ⟨rfl, rfl⟩) | (go_at_call 23; refine (rword_any _ _ _).mono ?_; rintro e u ⟨rfl, rfl⟩))
        go_ret
        exact ⟨rfl, ((((g0.trans g1).trans g2).trans g3).trans g4).1⟩

/-! ### THE ROW's STEP:  -/
set_option maxRecDepth 100000 in
theorem lifted (os : Os) (started : os.Started) (H : Type) (enc : TypeId × Value → H) :
    ReturnsInHanded {} Try.checked os 4 .any (Rows.slotBodySpec.pre6 enc Try.prog Try.f4 Rows.slotBodyRow.domain false) (Rows.slotBodySpec.post enc Try.prog Try.f4 false true false false) := by
  refine returnsInHanded_of_change (C := Try.checked) own started (by kernel_rfl) Try.func4
    (ChangeSpec.witness6 (enc := enc) (C := Try.checked) false ⟨#[], #[.int .i64 0, .int .i64 0, .int .i64 0], []⟩ 8 (by kernel_rfl) (by kernel_rfl) (by kernel_rfl) (by kernel_rfl)) ?_
  intro W base args ds gs before hval0 hW hcnd _
  have hval : ∀ (j : Nat) t v, Try.f4.params[j]? = some t → args[j]? = some v → Value.okWide Try.prog W .any base t v := hval0
  have hW' := hW
  obtain ⟨p, q, hA0, hV, rfl, hfz, hnd⟩ := hW
  have hA : DataW.TrodAll enc Try.prog W 0 (fun _ => true) true Try.f4.params.toList args.toList ds p := hA0
  rw [Try.params4] at hA hval
  obtain ⟨v0, vs0, d0, ds0, p0, q0, hargs, rfl, rfl, h0, r0⟩ := trodAll_cons hA
  obtain ⟨v1, vs1, d1, ds1, p1, q1, rfl, rfl, rfl, h1, r1⟩ := trodAll_cons r0
  obtain ⟨v2, vs2, d2, ds2, p2, q2, rfl, rfl, rfl, h2, r2⟩ := trodAll_cons r1
  obtain ⟨rfl, rfl, rfl⟩ := trodAll_nil r2
  obtain rfl : args = #[v0, v1, v2] := by cases args; simp_all
  obtain ⟨rfl, rfl⟩ := trodVars_none hV
  obtain ⟨a0, rfl, rfl, rfl, w0⟩ := open_int Try.underlying3 (hval 0 3 v0 rfl rfl) h0
  obtain ⟨a1, rfl, rfl, rfl, w1⟩ := open_int Try.underlying3 (hval 1 3 v1 rfl rfl) h1
  obtain ⟨a2, rfl, rfl, rfl, w2⟩ := open_int Try.underlying3 (hval 2 3 v2 rfl rfl) h2
  clear hA0 hval0
  simp only [List.append_nil] at hW'
  refine (walk a0 a1 a2 w0 w1 w2 W).mono fun e W' ⟨he, hg⟩ => ?_
  subst he
  exact ⟨_, rfl, post_of_same (pa := []) (pv := []) hW' (fun _ _ _ => (trodAll_cons_mk (shut_bool Try.underlying4 _) trodAll_mk0)) (fun sp _ => (trodAll_cons_mk (shut_int Try.underlying3 w0) (trodAll_cons_mk (shut_int Try.underlying3 w1) (trodAll_cons_mk (shut_int Try.underlying3 w2) trodAll_mk0)))) (fun _ _ => rfl) rfl
    (hg.frame _) hg.2.1 (ok_one (by kernel_rfl) rfl (okWide_bool_mk Try.underlying4 _))⟩

theorem over : Rows.slotBodyRow.holds Try.pinned (OpenSpec.ofChange Rows.slotBodySpec) :=
  OpenClaim.holds_of_wide 4 Try.f4 rfl rfl rfl rfl rfl rfl rfl ⟨rfl, rfl, rfl, rfl, rfl⟩ rfl rfl rfl rfl rfl (by kernel_rfl) Try.func4 (by kernel_rfl)
    (of_decide_eq_true (by kernel_rfl)) (by unfold Func.isWrapper; first | (rw [if_pos (by decide +kernel)]; kernel_rfl) | (rw [if_neg (by decide +kernel)]; exact ⟨rfl, rfl⟩))
    (fun os started H enc _ => lifted os started H enc)

/-- ████ THE STATEMENT ████ -/
theorem proved : Rows.SlotBodySaid :=
  over
#print axioms proved
end Go.Proofs.Ytcpkofbhkcpodaa.slotBody
