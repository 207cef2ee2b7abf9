/- For all tickets, versions, tenants and amounts, unlike ones have unlike handles and bodies: the law returns true. Conditions: none.
   The frame was written by proof-skeleton.mjs; the walk is the seat's own. -/
import Derived.Test.YtcpkofbhkcpodaaSlotLaws
import Derived.WalkKit
import Derived.ProofKit
import Derived.OpenShut
import Derived.ShutString
namespace Go.Proofs.Ytcpkofbhkcpodaa.slotApart
open Go.ChangeShapes Go.WideShapes Go.ChangeAt Go.RowKit
open Go.ChangeMaps (open_string shut_string)
set_option linter.unusedVariables false      -- a walk need not use every 'w<i>' (that an integer argument fits its kind)

theorem own : ownKnob Try.prog.godebug = none := by kernel_rfl

/-! ### STEP 1: THE WALK: the Go text returns true. 'Grown w w'': the world has at most new blocks (Derived/RowKit3.lean). Part the cases AHEAD of 'go_enter' where a test parts the walk; take each callee by a contract of your own. -/
set_option maxRecDepth 100000 in
set_option maxHeartbeats 1000000 in
theorem walk (a0 : Int) (a1 : Int) (a2 : Int) (a3 : Int) (a4 : Int) (a5 : Int) (w0 : (Lit.int .u8 a0).wf = true) (w1 : (Lit.int .u8 a1).wf = true) (w2 : (Lit.int .u32 a2).wf = true) (w3 : (Lit.int .u32 a3).wf = true) (w4 : (Lit.int .u32 a4).wf = true) (w5 : (Lit.int .u32 a5).wf = true) (w : World) :
    Calls Try.prog 8 #[.int .u8 a0, .int .u8 a1, .int .u32 a2, .int .u32 a3, .int .u32 a4, .int .u32 a5] w fun e w' => e = .returned (.bool true) ∧ Grown w w' := by
  have lo0 := (bounds_u8 w0).1
  have hi0 := (bounds_u8 w0).2
  have lo1 := (bounds_u8 w1).1
  have hi1 := (bounds_u8 w1).2
  have lo2 := (bounds_u32 w2).1
  have hi2 := (bounds_u32 w2).2
  have lo3 := (bounds_u32 w3).1
  have hi3 := (bounds_u32 w3).2
  have lo4 := (bounds_u32 w4).1
  have hi4 := (bounds_u32 w4).2
  have lo5 := (bounds_u32 w5).1
  have hi5 := (bounds_u32 w5).2
  have hh := apart_hands (a0 % 16) (a1 % 16) a2 a3 (by omega) (by omega) (by omega) (by omega) (by omega) (by omega) (by omega) (by omega)
  have hd := apart_bodies (a0 % 12) (a1 % 12) (a4 % 1048576 + 1) (a5 % 1048576 + 1) (by omega) (by omega) (by omega) (by omega) (by omega) (by omega) (by omega) (by omega)
  have hm : a4 % 1048576 + 1 = a5 % 1048576 + 1 ↔ a4 % 1048576 = a5 % 1048576 := by omega
  rw [hm] at hd
  clear hm
  by_cases c1 : a0 % 16 = a1 % 16
  · have t1 : (a0 % 16 == a1 % 16) = true := by simpa using c1
    have t2 := beq_two (hh.trans ⟨fun x => x.2, fun x => ⟨c1, x⟩⟩)
    clear hh c1
    by_cases c2 : a0 % 12 = a1 % 12
    · have t3 : (a0 % 12 == a1 % 12) = true := by simpa using c2
      have t4 := beq_two (hd.trans ⟨fun x => x.2, fun x => ⟨c2, x⟩⟩)
      clear hd c2
      go_enter Try.func8, Try.ntmps8
      go_wp2_with (first | (go_at_call 10; refine (turn_any _ _ _).mono ?_; rintro e u ⟨rfl, rfl⟩) | (go_at_call 11; refine (rturn_any _ _ _).mono ?_; rintro e u ⟨rfl, rfl⟩) | (go_at_call 13; refine (rbody_any _ _ _).mono ?_; rintro e u ⟨rfl, rfl⟩) | (go_at_call 15; refine (rof_any _ _).mono ?_; rintro e u ⟨rfl, rfl⟩) | (go_at_call 16; refine (slot_state_any _ _).mono ?_; rintro e u ⟨rfl, rfl⟩) | (go_at_call 17; refine (rslot_state_any _ _).mono ?_; rintro e u ⟨rfl, rfl⟩) | (go_at_call 19; refine (rhandle_any _ _ _).mono ?_; rintro e u ⟨rfl, rfl⟩) | (go_at_call 21; refine (rnamed_any _ _ (by omega) _).mono ?_; rintro e u ⟨rfl, rfl⟩) | (go_at_call 22; refine (rver_any _ _).mono ?_; rintro e u ⟨rfl, rfl⟩) | (go_at_call 23; refine (rword_any _ _ _).mono ?_; rintro e u ⟨rfl, rfl⟩))
      refine (head_any _).mono ?_
      rintro e u0 ⟨rfl, g0⟩
      go_wp2_with (first | (go_at_call 10; refine (turn_any _ _ _).mono ?_; rintro e u ⟨rfl, rfl⟩) | (go_at_call 11; refine (rturn_any _ _ _).mono ?_; rintro e u ⟨rfl, rfl⟩) | (go_at_call 13; refine (rbody_any _ _ _).mono ?_; rintro e u ⟨rfl, rfl⟩) | (go_at_call 15; refine (rof_any _ _).mono ?_; rintro e u ⟨rfl, rfl⟩) | (go_at_call 16; refine (slot_state_any _ _).mono ?_; rintro e u ⟨rfl, rfl⟩) | (go_at_call 17; refine (rslot_state_any _ _).mono ?_; rintro e u ⟨rfl, rfl⟩) | (go_at_call 19; refine (rhandle_any _ _ _).mono ?_; rintro e u ⟨rfl, rfl⟩) | (go_at_call 21; refine (rnamed_any _ _ (by omega) _).mono ?_; rintro e u ⟨rfl, rfl⟩) | (go_at_call 22; refine (rver_any _ _).mono ?_; rintro e u ⟨rfl, rfl⟩) | (go_at_call 23; refine (rword_any _ _ _).mono ?_; rintro e u ⟨rfl, rfl⟩))
      refine (handle_any _ _ _).mono ?_
      rintro e u1 ⟨rfl, g1⟩
      go_wp2_with (first | (go_at_call 10; refine (turn_any _ _ _).mono ?_; rintro e u ⟨rfl, rfl⟩) | (go_at_call 11; refine (rturn_any _ _ _).mono ?_; rintro e u ⟨rfl, rfl⟩) | (go_at_call 13; refine (rbody_any _ _ _).mono ?_; rintro e u ⟨rfl, rfl⟩) | (go_at_call 15; refine (rof_any _ _).mono ?_; rintro e u ⟨rfl, rfl⟩) | (go_at_call 16; refine (slot_state_any _ _).mono ?_; rintro e u ⟨rfl, rfl⟩) | (go_at_call 17; refine (rslot_state_any _ _).mono ?_; rintro e u ⟨rfl, rfl⟩) | (go_at_call 19; refine (rhandle_any _ _ _).mono ?_; rintro e u ⟨rfl, rfl⟩) | (go_at_call 21; refine (rnamed_any _ _ (by omega) _).mono ?_; rintro e u ⟨rfl, rfl⟩) | (go_at_call 22; refine (rver_any _ _).mono ?_; rintro e u ⟨rfl, rfl⟩) | (go_at_call 23; refine (rword_any _ _ _).mono ?_; rintro e u ⟨rfl, rfl⟩))
      refine (handle_any _ _ _).mono ?_
      rintro e u2 ⟨rfl, g2⟩
      go_wp2_with (first | (go_at_call 10; refine (turn_any _ _ _).mono ?_; rintro e u ⟨rfl, rfl⟩) | (go_at_call 11; refine (rturn_any _ _ _).mono ?_; rintro e u ⟨rfl, rfl⟩) | (go_at_call 13; refine (rbody_any _ _ _).mono ?_; rintro e u ⟨rfl, rfl⟩) | (go_at_call 15; refine (rof_any _ _).mono ?_; rintro e u ⟨rfl, rfl⟩) | (go_at_call 16; refine (slot_state_any _ _).mono ?_; rintro e u ⟨rfl, rfl⟩) | (go_at_call 17; refine (rslot_state_any _ _).mono ?_; rintro e u ⟨rfl, rfl⟩) | (go_at_call 19; refine (rhandle_any _ _ _).mono ?_; rintro e u ⟨rfl, rfl⟩) | (go_at_call 21; refine (rnamed_any _ _ (by omega) _).mono ?_; rintro e u ⟨rfl, rfl⟩) | (go_at_call 22; refine (rver_any _ _).mono ?_; rintro e u ⟨rfl, rfl⟩) | (go_at_call 23; refine (rword_any _ _ _).mono ?_; rintro e u ⟨rfl, rfl⟩))
      refine (body_any _ _ _).mono ?_
      rintro e u3 ⟨rfl, g3⟩
      go_wp2_with (first | (go_at_call 10; refine (turn_any _ _ _).mono ?_; rintro e u ⟨rfl, rfl⟩) | (go_at_call 11; refine (rturn_any _ _ _).mono ?_; rintro e u ⟨rfl, rfl⟩) | (go_at_call 13; refine (rbody_any _ _ _).mono ?_; rintro e u ⟨rfl, rfl⟩) | (go_at_call 15; refine (rof_any _ _).mono ?_; rintro e u ⟨rfl, rfl⟩) | (go_at_call 16; refine (slot_state_any _ _).mono ?_; rintro e u ⟨rfl, rfl⟩) | (go_at_call 17; refine (rslot_state_any _ _).mono ?_; rintro e u ⟨rfl, rfl⟩) | (go_at_call 19; refine (rhandle_any _ _ _).mono ?_; rintro e u ⟨rfl, rfl⟩) | (go_at_call 21; refine (rnamed_any _ _ (by omega) _).mono ?_; rintro e u ⟨rfl, rfl⟩) | (go_at_call 22; refine (rver_any _ _).mono ?_; rintro e u ⟨rfl, rfl⟩) | (go_at_call 23; refine (rword_any _ _ _).mono ?_; rintro e u ⟨rfl, rfl⟩))
      refine (body_any _ _ _).mono ?_
      rintro e u4 ⟨rfl, g4⟩
      go_wp2_with (first | (go_at_call 10; refine (turn_any _ _ _).mono ?_; rintro e u ⟨rfl, rfl⟩) | (go_at_call 11; refine (rturn_any _ _ _).mono ?_; rintro e u ⟨rfl, rfl⟩) | (go_at_call 13; refine (rbody_any _ _ _).mono ?_; rintro e u ⟨rfl, rfl⟩) | (go_at_call 15; refine (rof_any _ _).mono ?_; rintro e u ⟨rfl, rfl⟩) | (go_at_call 16; refine (slot_state_any _ _).mono ?_; rintro e u ⟨rfl, rfl⟩) | (go_at_call 17; refine (rslot_state_any _ _).mono ?_; rintro e u ⟨rfl, rfl⟩) | (go_at_call 19; refine (rhandle_any _ _ _).mono ?_; rintro e u ⟨rfl, rfl⟩) | (go_at_call 21; refine (rnamed_any _ _ (by omega) _).mono ?_; rintro e u ⟨rfl, rfl⟩) | (go_at_call 22; refine (rver_any _ _).mono ?_; rintro e u ⟨rfl, rfl⟩) | (go_at_call 23; refine (rword_any _ _ _).mono ?_; rintro e u ⟨rfl, rfl⟩))
      go_ret
      exact ⟨rfl, ((((g0.trans g1).trans g2).trans g3).trans g4).1⟩
    · have t3 : (a0 % 12 == a1 % 12) = false := by simpa using c2
      have t4 : (bodyN (a0 % 12) (a4 % 1048576 + 1) == bodyN (a1 % 12) (a5 % 1048576 + 1)) = false := beq_eq_false_iff_ne.2 fun x => c2 (hd.1 x).1
      clear hd c2
      go_enter Try.func8, Try.ntmps8
      go_wp2_with (first | (go_at_call 10; refine (turn_any _ _ _).mono ?_; rintro e u ⟨rfl, rfl⟩) | (go_at_call 11; refine (rturn_any _ _ _).mono ?_; rintro e u ⟨rfl, rfl⟩) | (go_at_call 13; refine (rbody_any _ _ _).mono ?_; rintro e u ⟨rfl, rfl⟩) | (go_at_call 15; refine (rof_any _ _).mono ?_; rintro e u ⟨rfl, rfl⟩) | (go_at_call 16; refine (slot_state_any _ _).mono ?_; rintro e u ⟨rfl, rfl⟩) | (go_at_call 17; refine (rslot_state_any _ _).mono ?_; rintro e u ⟨rfl, rfl⟩) | (go_at_call 19; refine (rhandle_any _ _ _).mono ?_; rintro e u ⟨rfl, rfl⟩) | (go_at_call 21; refine (rnamed_any _ _ (by omega) _).mono ?_; rintro e u ⟨rfl, rfl⟩) | (go_at_call 22; refine (rver_any _ _).mono ?_; rintro e u ⟨rfl, rfl⟩) | (go_at_call 23; refine (rword_any _ _ _).mono ?_; rintro e u ⟨rfl, rfl⟩))
      refine (head_any _).mono ?_
      rintro e u0 ⟨rfl, g0⟩
      go_wp2_with (first | (go_at_call 10; refine (turn_any _ _ _).mono ?_; rintro e u ⟨rfl, rfl⟩) | (go_at_call 11; refine (rturn_any _ _ _).mono ?_; rintro e u ⟨rfl, rfl⟩) | (go_at_call 13; refine (rbody_any _ _ _).mono ?_; rintro e u ⟨rfl, rfl⟩) | (go_at_call 15; refine (rof_any _ _).mono ?_; rintro e u ⟨rfl, rfl⟩) | (go_at_call 16; refine (slot_state_any _ _).mono ?_; rintro e u ⟨rfl, rfl⟩) | (go_at_call 17; refine (rslot_state_any _ _).mono ?_; rintro e u ⟨rfl, rfl⟩) | (go_at_call 19; refine (rhandle_any _ _ _).mono ?_; rintro e u ⟨rfl, rfl⟩) | (go_at_call 21; refine (rnamed_any _ _ (by omega) _).mono ?_; rintro e u ⟨rfl, rfl⟩) | (go_at_call 22; refine (rver_any _ _).mono ?_; rintro e u ⟨rfl, rfl⟩) | (go_at_call 23; refine (rword_any _ _ _).mono ?_; rintro e u ⟨rfl, rfl⟩))
      refine (handle_any _ _ _).mono ?_
      rintro e u1 ⟨rfl, g1⟩
      go_wp2_with (first | (go_at_call 10; refine (turn_any _ _ _).mono ?_; rintro e u ⟨rfl, rfl⟩) | (go_at_call 11; refine (rturn_any _ _ _).mono ?_; rintro e u ⟨rfl, rfl⟩) | (go_at_call 13; refine (rbody_any _ _ _).mono ?_; rintro e u ⟨rfl, rfl⟩) | (go_at_call 15; refine (rof_any _ _).mono ?_; rintro e u ⟨rfl, rfl⟩) | (go_at_call 16; refine (slot_state_any _ _).mono ?_; rintro e u ⟨rfl, rfl⟩) | (go_at_call 17; refine (rslot_state_any _ _).mono ?_; rintro e u ⟨rfl, rfl⟩) | (go_at_call 19; refine (rhandle_any _ _ _).mono ?_; rintro e u ⟨rfl, rfl⟩) | (go_at_call 21; refine (rnamed_any _ _ (by omega) _).mono ?_; rintro e u ⟨rfl, rfl⟩) | (go_at_call 22; refine (rver_any _ _).mono ?_; rintro e u ⟨rfl, rfl⟩) | (go_at_call 23; refine (rword_any _ _ _).mono ?_; rintro e u ⟨rfl, rfl⟩))
      refine (handle_any _ _ _).mono ?_
      rintro e u2 ⟨rfl, g2⟩
      go_wp2_with (first | (go_at_call 10; refine (turn_any _ _ _).mono ?_; rintro e u ⟨rfl, rfl⟩) | (go_at_call 11; refine (rturn_any _ _ _).mono ?_; rintro e u ⟨rfl, rfl⟩) | (go_at_call 13; refine (rbody_any _ _ _).mono ?_; rintro e u ⟨rfl, rfl⟩) | (go_at_call 15; refine (rof_any _ _).mono ?_; rintro e u ⟨rfl, rfl⟩) | (go_at_call 16; refine (slot_state_any _ _).mono ?_; rintro e u ⟨rfl, rfl⟩) | (go_at_call 17; refine (rslot_state_any _ _).mono ?_; rintro e u ⟨rfl, rfl⟩) | (go_at_call 19; refine (rhandle_any _ _ _).mono ?_; rintro e u ⟨rfl, rfl⟩) | (go_at_call 21; refine (rnamed_any _ _ (by omega) _).mono ?_; rintro e u ⟨rfl, rfl⟩) | (go_at_call 22; refine (rver_any _ _).mono ?_; rintro e u ⟨rfl, rfl⟩) | (go_at_call 23; refine (rword_any _ _ _).mono ?_; rintro e u ⟨rfl, rfl⟩))
      refine (body_any _ _ _).mono ?_
      rintro e u3 ⟨rfl, g3⟩
      go_wp2_with (first | (go_at_call 10; refine (turn_any _ _ _).mono ?_; rintro e u ⟨rfl, rfl⟩) | (go_at_call 11; refine (rturn_any _ _ _).mono ?_; rintro e u ⟨rfl, rfl⟩) | (go_at_call 13; refine (rbody_any _ _ _).mono ?_; rintro e u ⟨rfl, rfl⟩) | (go_at_call 15; refine (rof_any _ _).mono ?_; rintro e u ⟨rfl, rfl⟩) | (go_at_call 16; refine (slot_state_any _ _).mono ?_; rintro e u ⟨rfl, rfl⟩) | (go_at_call 17; refine (rslot_state_any _ _).mono ?_; rintro e u ⟨rfl, rfl⟩) | (go_at_call 19; refine (rhandle_any _ _ _).mono ?_; rintro e u ⟨rfl, rfl⟩) | (go_at_call 21; refine (rnamed_any _ _ (by omega) _).mono ?_; rintro e u ⟨rfl, rfl⟩) | (go_at_call 22; refine (rver_any _ _).mono ?_; rintro e u ⟨rfl, rfl⟩) | (go_at_call 23; refine (rword_any _ _ _).mono ?_; rintro e u ⟨rfl, rfl⟩))
      refine (body_any _ _ _).mono ?_
      rintro e u4 ⟨rfl, g4⟩
      go_wp2_with (first | (go_at_call 10; refine (turn_any _ _ _).mono ?_; rintro e u ⟨rfl, rfl⟩) | (go_at_call 11; refine (rturn_any _ _ _).mono ?_; rintro e u ⟨rfl, rfl⟩) | (go_at_call 13; refine (rbody_any _ _ _).mono ?_; rintro e u ⟨rfl, rfl⟩) | (go_at_call 15; refine (rof_any _ _).mono ?_; rintro e u ⟨rfl, rfl⟩) | (go_at_call 16; refine (slot_state_any _ _).mono ?_; rintro e u ⟨rfl, rfl⟩) | (go_at_call 17; refine (rslot_state_any _ _).mono ?_; rintro e u ⟨rfl, rfl⟩) | (go_at_call 19; refine (rhandle_any _ _ _).mono ?_; rintro e u ⟨rfl, rfl⟩) | (go_at_call 21; refine (rnamed_any _ _ (by omega) _).mono ?_; rintro e u ⟨rfl, rfl⟩) | (go_at_call 22; refine (rver_any _ _).mono ?_; rintro e u ⟨rfl, rfl⟩) | (go_at_call 23; refine (rword_any _ _ _).mono ?_; rintro e u ⟨rfl, rfl⟩))
      go_ret
      exact ⟨rfl, ((((g0.trans g1).trans g2).trans g3).trans g4).1⟩
  · have t1 : (a0 % 16 == a1 % 16) = false := by simpa using c1
    have t2 : (handN (a0 % 16) (wordN a2 0) == handN (a1 % 16) (wordN a3 0)) = false := beq_eq_false_iff_ne.2 fun x => c1 (hh.1 x).1
    clear hh c1
    by_cases c2 : a0 % 12 = a1 % 12
    · have t3 : (a0 % 12 == a1 % 12) = true := by simpa using c2
      have t4 := beq_two (hd.trans ⟨fun x => x.2, fun x => ⟨c2, x⟩⟩)
      clear hd c2
      go_enter Try.func8, Try.ntmps8
      go_wp2_with (first | (go_at_call 10; refine (turn_any _ _ _).mono ?_; rintro e u ⟨rfl, rfl⟩) | (go_at_call 11; refine (rturn_any _ _ _).mono ?_; rintro e u ⟨rfl, rfl⟩) | (go_at_call 13; refine (rbody_any _ _ _).mono ?_; rintro e u ⟨rfl, rfl⟩) | (go_at_call 15; refine (rof_any _ _).mono ?_; rintro e u ⟨rfl, rfl⟩) | (go_at_call 16; refine (slot_state_any _ _).mono ?_; rintro e u ⟨rfl, rfl⟩) | (go_at_call 17; refine (rslot_state_any _ _).mono ?_; rintro e u ⟨rfl, rfl⟩) | (go_at_call 19; refine (rhandle_any _ _ _).mono ?_; rintro e u ⟨rfl, rfl⟩) | (go_at_call 21; refine (rnamed_any _ _ (by omega) _).mono ?_; rintro e u ⟨rfl, rfl⟩) | (go_at_call 22; refine (rver_any _ _).mono ?_; rintro e u ⟨rfl, rfl⟩) | (go_at_call 23; refine (rword_any _ _ _).mono ?_; rintro e u ⟨rfl, rfl⟩))
      refine (head_any _).mono ?_
      rintro e u0 ⟨rfl, g0⟩
      go_wp2_with (first | (go_at_call 10; refine (turn_any _ _ _).mono ?_; rintro e u ⟨rfl, rfl⟩) | (go_at_call 11; refine (rturn_any _ _ _).mono ?_; rintro e u ⟨rfl, rfl⟩) | (go_at_call 13; refine (rbody_any _ _ _).mono ?_; rintro e u ⟨rfl, rfl⟩) | (go_at_call 15; refine (rof_any _ _).mono ?_; rintro e u ⟨rfl, rfl⟩) | (go_at_call 16; refine (slot_state_any _ _).mono ?_; rintro e u ⟨rfl, rfl⟩) | (go_at_call 17; refine (rslot_state_any _ _).mono ?_; rintro e u ⟨rfl, rfl⟩) | (go_at_call 19; refine (rhandle_any _ _ _).mono ?_; rintro e u ⟨rfl, rfl⟩) | (go_at_call 21; refine (rnamed_any _ _ (by omega) _).mono ?_; rintro e u ⟨rfl, rfl⟩) | (go_at_call 22; refine (rver_any _ _).mono ?_; rintro e u ⟨rfl, rfl⟩) | (go_at_call 23; refine (rword_any _ _ _).mono ?_; rintro e u ⟨rfl, rfl⟩))
      refine (handle_any _ _ _).mono ?_
      rintro e u1 ⟨rfl, g1⟩
      go_wp2_with (first | (go_at_call 10; refine (turn_any _ _ _).mono ?_; rintro e u ⟨rfl, rfl⟩) | (go_at_call 11; refine (rturn_any _ _ _).mono ?_; rintro e u ⟨rfl, rfl⟩) | (go_at_call 13; refine (rbody_any _ _ _).mono ?_; rintro e u ⟨rfl, rfl⟩) | (go_at_call 15; refine (rof_any _ _).mono ?_; rintro e u ⟨rfl, rfl⟩) | (go_at_call 16; refine (slot_state_any _ _).mono ?_; rintro e u ⟨rfl, rfl⟩) | (go_at_call 17; refine (rslot_state_any _ _).mono ?_; rintro e u ⟨rfl, rfl⟩) | (go_at_call 19; refine (rhandle_any _ _ _).mono ?_; rintro e u ⟨rfl, rfl⟩) | (go_at_call 21; refine (rnamed_any _ _ (by omega) _).mono ?_; rintro e u ⟨rfl, rfl⟩) | (go_at_call 22; refine (rver_any _ _).mono ?_; rintro e u ⟨rfl, rfl⟩) | (go_at_call 23; refine (rword_any _ _ _).mono ?_; rintro e u ⟨rfl, rfl⟩))
      refine (handle_any _ _ _).mono ?_
      rintro e u2 ⟨rfl, g2⟩
      go_wp2_with (first | (go_at_call 10; refine (turn_any _ _ _).mono ?_; rintro e u ⟨rfl, rfl⟩) | (go_at_call 11; refine (rturn_any _ _ _).mono ?_; rintro e u ⟨rfl, rfl⟩) | (go_at_call 13; refine (rbody_any _ _ _).mono ?_; rintro e u ⟨rfl, rfl⟩) | (go_at_call 15; refine (rof_any _ _).mono ?_; rintro e u ⟨rfl, rfl⟩) | (go_at_call 16; refine (slot_state_any _ _).mono ?_; rintro e u ⟨rfl, rfl⟩) | (go_at_call 17; refine (rslot_state_any _ _).mono ?_; rintro e u ⟨rfl, rfl⟩) | (go_at_call 19; refine (rhandle_any _ _ _).mono ?_; rintro e u ⟨rfl, rfl⟩) | (go_at_call 21; refine (rnamed_any _ _ (by omega) _).mono ?_; rintro e u ⟨rfl, rfl⟩) | (go_at_call 22; refine (rver_any _ _).mono ?_; rintro e u ⟨rfl, rfl⟩) | (go_at_call 23; refine (rword_any _ _ _).mono ?_; rintro e u ⟨rfl, rfl⟩))
      refine (body_any _ _ _).mono ?_
      rintro e u3 ⟨rfl, g3⟩
      go_wp2_with (first | (go_at_call 10; refine (turn_any _ _ _).mono ?_; rintro e u ⟨rfl, rfl⟩) | (go_at_call 11; refine (rturn_any _ _ _).mono ?_; rintro e u ⟨rfl, rfl⟩) | (go_at_call 13; refine (rbody_any _ _ _).mono ?_; rintro e u ⟨rfl, rfl⟩) | (go_at_call 15; refine (rof_any _ _).mono ?_; rintro e u ⟨rfl, rfl⟩) | (go_at_call 16; refine (slot_state_any _ _).mono ?_; rintro e u ⟨rfl, rfl⟩) | (go_at_call 17; refine (rslot_state_any _ _).mono ?_; rintro e u ⟨rfl, rfl⟩) | (go_at_call 19; refine (rhandle_any _ _ _).mono ?_; rintro e u ⟨rfl, rfl⟩) | (go_at_call 21; refine (rnamed_any _ _ (by omega) _).mono ?_; rintro e u ⟨rfl, rfl⟩) | (go_at_call 22; refine (rver_any _ _).mono ?_; rintro e u ⟨rfl, rfl⟩) | (go_at_call 23; refine (rword_any _ _ _).mono ?_; rintro e u ⟨rfl, rfl⟩))
      refine (body_any _ _ _).mono ?_
      rintro e u4 ⟨rfl, g4⟩
      go_wp2_with (first | (go_at_call 10; refine (turn_any _ _ _).mono ?_; rintro e u ⟨rfl, rfl⟩) | (go_at_call 11; refine (rturn_any _ _ _).mono ?_; rintro e u ⟨rfl, rfl⟩) | (go_at_call 13; refine (rbody_any _ _ _).mono ?_; rintro e u ⟨rfl, rfl⟩) | (go_at_call 15; refine (rof_any _ _).mono ?_; rintro e u ⟨rfl, rfl⟩) | (go_at_call 16; refine (slot_state_any _ _).mono ?_; rintro e u ⟨rfl, rfl⟩) | (go_at_call 17; refine (rslot_state_any _ _).mono ?_; rintro e u ⟨rfl, rfl⟩) | (go_at_call 19; refine (rhandle_any _ _ _).mono ?_; rintro e u ⟨rfl, rfl⟩) | (go_at_call 21; refine (rnamed_any _ _ (by omega) _).mono ?_; rintro e u ⟨rfl, rfl⟩) | (go_at_call 22; refine (rver_any _ _).mono ?_; rintro e u ⟨rfl, rfl⟩) | (go_at_call 23; refine (rword_any _ _ _).mono ?_; rintro e u ⟨rfl, rfl⟩))
      go_ret
      exact ⟨rfl, ((((g0.trans g1).trans g2).trans g3).trans g4).1⟩
    · have t3 : (a0 % 12 == a1 % 12) = false := by simpa using c2
      have t4 : (bodyN (a0 % 12) (a4 % 1048576 + 1) == bodyN (a1 % 12) (a5 % 1048576 + 1)) = false := beq_eq_false_iff_ne.2 fun x => c2 (hd.1 x).1
      clear hd c2
      go_enter Try.func8, Try.ntmps8
      go_wp2_with (first | (go_at_call 10; refine (turn_any _ _ _).mono ?_; rintro e u ⟨rfl, rfl⟩) | (go_at_call 11; refine (rturn_any _ _ _).mono ?_; rintro e u ⟨rfl, rfl⟩) | (go_at_call 13; refine (rbody_any _ _ _).mono ?_; rintro e u ⟨rfl, rfl⟩) | (go_at_call 15; refine (rof_any _ _).mono ?_; rintro e u ⟨rfl, rfl⟩) | (go_at_call 16; refine (slot_state_any _ _).mono ?_; rintro e u ⟨rfl, rfl⟩) | (go_at_call 17; refine (rslot_state_any _ _).mono ?_; rintro e u ⟨rfl, rfl⟩) | (go_at_call 19; refine (rhandle_any _ _ _).mono ?_; rintro e u ⟨rfl, rfl⟩) | (go_at_call 21; refine (rnamed_any _ _ (by omega) _).mono ?_; rintro e u ⟨rfl, rfl⟩) | (go_at_call 22; refine (rver_any _ _).mono ?_; rintro e u ⟨rfl, rfl⟩) | (go_at_call 23; refine (rword_any _ _ _).mono ?_; rintro e u ⟨rfl, rfl⟩))
      refine (head_any _).mono ?_
      rintro e u0 ⟨rfl, g0⟩
      go_wp2_with (first | (go_at_call 10; refine (turn_any _ _ _).mono ?_; rintro e u ⟨rfl, rfl⟩) | (go_at_call 11; refine (rturn_any _ _ _).mono ?_; rintro e u ⟨rfl, rfl⟩) | (go_at_call 13; refine (rbody_any _ _ _).mono ?_; rintro e u ⟨rfl, rfl⟩) | (go_at_call 15; refine (rof_any _ _).mono ?_; rintro e u ⟨rfl, rfl⟩) | (go_at_call 16; refine (slot_state_any _ _).mono ?_; rintro e u ⟨rfl, rfl⟩) | (go_at_call 17; refine (rslot_state_any _ _).mono ?_; rintro e u ⟨rfl, rfl⟩) | (go_at_call 19; refine (rhandle_any _ _ _).mono ?_; rintro e u ⟨rfl, rfl⟩) | (go_at_call 21; refine (rnamed_any _ _ (by omega) _).mono ?_; rintro e u ⟨rfl, rfl⟩) | (go_at_call 22; refine (rver_any _ _).mono ?_; rintro e u ⟨rfl, rfl⟩) | (go_at_call 23; refine (rword_any _ _ _).mono ?_; rintro e u ⟨rfl, rfl⟩))
      refine (handle_any _ _ _).mono ?_
      rintro e u1 ⟨rfl, g1⟩
      go_wp2_with (first | (go_at_call 10; refine (turn_any _ _ _).mono ?_; rintro e u ⟨rfl, rfl⟩) | (go_at_call 11; refine (rturn_any _ _ _).mono ?_; rintro e u ⟨rfl, rfl⟩) | (go_at_call 13; refine (rbody_any _ _ _).mono ?_; rintro e u ⟨rfl, rfl⟩) | (go_at_call 15; refine (rof_any _ _).mono ?_; rintro e u ⟨rfl, rfl⟩) | (go_at_call 16; refine (slot_state_any _ _).mono ?_; rintro e u ⟨rfl, rfl⟩) | (go_at_call 17; refine (rslot_state_any _ _).mono ?_; rintro e u ⟨rfl, rfl⟩) | (go_at_call 19; refine (rhandle_any _ _ _).mono ?_; rintro e u ⟨rfl, rfl⟩) | (go_at_call 21; refine (rnamed_any _ _ (by omega) _).mono ?_; rintro e u ⟨rfl, rfl⟩) | (go_at_call 22; refine (rver_any _ _).mono ?_; rintro e u ⟨rfl, rfl⟩) | (go_at_call 23; refine (rword_any _ _ _).mono ?_; rintro e u ⟨rfl, rfl⟩))
      refine (handle_any _ _ _).mono ?_
      rintro e u2 ⟨rfl, g2⟩
      go_wp2_with (first | (go_at_call 10; refine (turn_any _ _ _).mono ?_; rintro e u ⟨rfl, rfl⟩) | (go_at_call 11; refine (rturn_any _ _ _).mono ?_; rintro e u ⟨rfl, rfl⟩) | (go_at_call 13; refine (rbody_any _ _ _).mono ?_; rintro e u ⟨rfl, rfl⟩) | (go_at_call 15; refine (rof_any _ _).mono ?_; rintro e u ⟨rfl, rfl⟩) | (go_at_call 16; refine (slot_state_any _ _).mono ?_; rintro e u ⟨rfl, rfl⟩) | (go_at_call 17; refine (rslot_state_any _ _).mono ?_; rintro e u ⟨rfl, rfl⟩) | (go_at_call 19; refine (rhandle_any _ _ _).mono ?_; rintro e u ⟨rfl, rfl⟩) | (go_at_call 21; refine (rnamed_any _ _ (by omega) _).mono ?_; rintro e u ⟨rfl, rfl⟩) | (go_at_call 22; refine (rver_any _ _).mono ?_; rintro e u ⟨rfl, rfl⟩) | (go_at_call 23; refine (rword_any _ _ _).mono ?_; rintro e u ⟨rfl, rfl⟩))
      refine (body_any _ _ _).mono ?_
      rintro e u3 ⟨rfl, g3⟩
      go_wp2_with (first | (go_at_call 10; refine (turn_any _ _ _).mono ?_; rintro e u ⟨rfl, rfl⟩) | (go_at_call 11; refine (rturn_any _ _ _).mono ?_; rintro e u ⟨rfl, rfl⟩) | (go_at_call 13; refine (rbody_any _ _ _).mono ?_; rintro e u ⟨rfl, rfl⟩) | (go_at_call 15; refine (rof_any _ _).mono ?_; rintro e u ⟨rfl, rfl⟩) | (go_at_call 16; refine (slot_state_any _ _).mono ?_; rintro e u ⟨rfl, rfl⟩) | (go_at_call 17; refine (rslot_state_any _ _).mono ?_; rintro e u ⟨rfl, rfl⟩) | (go_at_call 19; refine (rhandle_any _ _ _).mono ?_; rintro e u ⟨rfl, rfl⟩) | (go_at_call 21; refine (rnamed_any _ _ (by omega) _).mono ?_; rintro e u ⟨rfl, rfl⟩) | (go_at_call 22; refine (rver_any _ _).mono ?_; rintro e u ⟨rfl, rfl⟩) | (go_at_call 23; refine (rword_any _ _ _).mono ?_; rintro e u ⟨rfl, rfl⟩))
      refine (body_any _ _ _).mono ?_
      rintro e u4 ⟨rfl, g4⟩
      go_wp2_with (first | (go_at_call 10; refine (turn_any _ _ _).mono ?_; rintro e u ⟨rfl, rfl⟩) | (go_at_call 11; refine (rturn_any _ _ _).mono ?_; rintro e u ⟨rfl, rfl⟩) | (go_at_call 13; refine (rbody_any _ _ _).mono ?_; rintro e u ⟨rfl, rfl⟩) | (go_at_call 15; refine (rof_any _ _).mono ?_; rintro e u ⟨rfl, rfl⟩) | (go_at_call 16; refine (slot_state_any _ _).mono ?_; rintro e u ⟨rfl, rfl⟩) | (go_at_call 17; refine (rslot_state_any _ _).mono ?_; rintro e u ⟨rfl, rfl⟩) | (go_at_call 19; refine (rhandle_any _ _ _).mono ?_; rintro e u ⟨rfl, rfl⟩) | (go_at_call 21; refine (rnamed_any _ _ (by omega) _).mono ?_; rintro e u ⟨rfl, rfl⟩) | (go_at_call 22; refine (rver_any _ _).mono ?_; rintro e u ⟨rfl, rfl⟩) | (go_at_call 23; refine (rword_any _ _ _).mono ?_; rintro e u ⟨rfl, rfl⟩))
      go_ret
      exact ⟨rfl, ((((g0.trans g1).trans g2).trans g3).trans g4).1⟩

/-! ### THE ROW's STEP:  -/
set_option maxRecDepth 100000 in
theorem lifted (os : Os) (started : os.Started) (H : Type) (enc : TypeId × Value → H) :
    ReturnsInHanded {} Try.checked os 8 .any (Rows.slotApartSpec.pre6 enc Try.prog Try.f8 Rows.slotApartRow.domain false) (Rows.slotApartSpec.post enc Try.prog Try.f8 false true false false) := by
  refine returnsInHanded_of_change (C := Try.checked) own started (by kernel_rfl) Try.func8
    (ChangeSpec.witness6 (enc := enc) (C := Try.checked) false ⟨#[], #[.int .u8 0, .int .u8 0, .int .u32 0, .int .u32 0, .int .u32 0, .int .u32 0], []⟩ 8 (by kernel_rfl) (by kernel_rfl) (by kernel_rfl) (by kernel_rfl)) ?_
  intro W base args ds gs before hval0 hW hcnd _
  have hval : ∀ (j : Nat) t v, Try.f8.params[j]? = some t → args[j]? = some v → Value.okWide Try.prog W .any base t v := hval0
  have hW' := hW
  obtain ⟨p, q, hA0, hV, rfl, hfz, hnd⟩ := hW
  have hA : DataW.TrodAll enc Try.prog W 0 (fun _ => true) true Try.f8.params.toList args.toList ds p := hA0
  rw [Try.params8] at hA hval
  obtain ⟨v0, vs0, d0, ds0, p0, q0, hargs, rfl, rfl, h0, r0⟩ := trodAll_cons hA
  obtain ⟨v1, vs1, d1, ds1, p1, q1, rfl, rfl, rfl, h1, r1⟩ := trodAll_cons r0
  obtain ⟨v2, vs2, d2, ds2, p2, q2, rfl, rfl, rfl, h2, r2⟩ := trodAll_cons r1
  obtain ⟨v3, vs3, d3, ds3, p3, q3, rfl, rfl, rfl, h3, r3⟩ := trodAll_cons r2
  obtain ⟨v4, vs4, d4, ds4, p4, q4, rfl, rfl, rfl, h4, r4⟩ := trodAll_cons r3
  obtain ⟨v5, vs5, d5, ds5, p5, q5, rfl, rfl, rfl, h5, r5⟩ := trodAll_cons r4
  obtain ⟨rfl, rfl, rfl⟩ := trodAll_nil r5
  obtain rfl : args = #[v0, v1, v2, v3, v4, v5] := by cases args; simp_all
  obtain ⟨rfl, rfl⟩ := trodVars_none hV
  obtain ⟨a0, rfl, rfl, rfl, w0⟩ := open_int Try.underlying5 (hval 0 5 v0 rfl rfl) h0
  obtain ⟨a1, rfl, rfl, rfl, w1⟩ := open_int Try.underlying5 (hval 1 5 v1 rfl rfl) h1
  obtain ⟨a2, rfl, rfl, rfl, w2⟩ := open_int Try.underlying33 (hval 2 33 v2 rfl rfl) h2
  obtain ⟨a3, rfl, rfl, rfl, w3⟩ := open_int Try.underlying33 (hval 3 33 v3 rfl rfl) h3
  obtain ⟨a4, rfl, rfl, rfl, w4⟩ := open_int Try.underlying33 (hval 4 33 v4 rfl rfl) h4
  obtain ⟨a5, rfl, rfl, rfl, w5⟩ := open_int Try.underlying33 (hval 5 33 v5 rfl rfl) h5
  clear hA0 hval0
  simp only [List.append_nil] at hW'
  refine (walk a0 a1 a2 a3 a4 a5 w0 w1 w2 w3 w4 w5 W).mono fun e W' ⟨he, hg⟩ => ?_
  subst he
  exact ⟨_, rfl, post_of_same (pa := []) (pv := []) hW' (fun _ _ _ => (trodAll_cons_mk (shut_bool Try.underlying4 _) trodAll_mk0)) (fun sp _ => (trodAll_cons_mk (shut_int Try.underlying5 w0) (trodAll_cons_mk (shut_int Try.underlying5 w1) (trodAll_cons_mk (shut_int Try.underlying33 w2) (trodAll_cons_mk (shut_int Try.underlying33 w3) (trodAll_cons_mk (shut_int Try.underlying33 w4) (trodAll_cons_mk (shut_int Try.underlying33 w5) trodAll_mk0))))))) (fun _ _ => rfl) rfl
    (hg.frame _) hg.2.1 (ok_one (by kernel_rfl) rfl (okWide_bool_mk Try.underlying4 _))⟩

theorem over : Rows.slotApartRow.holds Try.pinned (OpenSpec.ofChange Rows.slotApartSpec) :=
  OpenClaim.holds_of_wide 8 Try.f8 rfl rfl rfl rfl rfl rfl rfl ⟨rfl, rfl, rfl, rfl, rfl⟩ rfl rfl rfl rfl rfl (by kernel_rfl) Try.func8 (by kernel_rfl)
    (of_decide_eq_true (by kernel_rfl)) (by unfold Func.isWrapper; first | (rw [if_pos (by decide +kernel)]; kernel_rfl) | (rw [if_neg (by decide +kernel)]; exact ⟨rfl, rfl⟩))
    (fun os started H enc _ => lifted os started H enc)

/-- ████ THE STATEMENT ████ -/
theorem proved : Rows.SlotApartSaid :=
  over
#print axioms proved
end Go.Proofs.Ytcpkofbhkcpodaa.slotApart
