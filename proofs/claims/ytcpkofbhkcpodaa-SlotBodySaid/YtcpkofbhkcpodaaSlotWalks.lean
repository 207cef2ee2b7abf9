/- The walks of package slot and of its reference: what each call computes. -/
import Derived.Test.YtcpkofbhkcpodaaPackWalks
import Derived.Test.YtcpkofbhkcpodaaSlotPlain
import Derived.Deep.QuietTactic
import Derived.BigQuiet
import Derived.Deep.RegionHeld3
namespace Go.Proofs.Ytcpkofbhkcpodaa
open Go.RowKit

/-- Only new blocks have come. -/
def Q (u u' : World) : Prop := Grown u u' ∧ Below u.heap.size u u'
theorem Q.refl (u : World) : Q u u := ⟨Grown.refl _, Below.refl _ _⟩
theorem Q.trans {a b c : World} (h : Q a b) (k : Q b c) : Q a c :=
  ⟨⟨World.keptBut_trans h.1.1 k.1.1, fun x => (k.1.2.1 x).trans (h.1.2.1 x), Nat.le_trans h.1.2.2 k.1.2.2⟩, h.2.trans (k.2.mono h.2.size)⟩
theorem Q.alloc {a b : World} (h : Q a b) (c : Array Value) (t : TypeId) : Q a (b.alloc (.cells c t)) := ⟨h.1.alloc c t, h.2.alloc h.2.size _⟩
theorem Q.drew {a b : World} (h : Q a b) : Q a b.drew := ⟨h.1.drew, h.2.drew⟩
theorem Q.drewN {a b : World} (h : Q a b) (n : Nat) : Q a (b.drewN n) := ⟨h.1, ⟨h.2.os, h.2.tape, h.2.output, h.2.size, h.2.block⟩⟩
theorem Q.keeps {a b : World} (h : Q a b) {p : Addr} {v : Value} (hc : a.cell? p = some v) : b.cell? p = some v := by
  rw [h.2.cell (World.block_lt_of_cell? a _ hc)]; exact hc

set_option maxHeartbeats 400000 in
theorem known_any (s : Int) (u : World) : Calls Try.prog 24 #[.int .i64 s] u fun e u' => e = .returned (.bool (knownB s)) ∧ u = u' := by
  by_cases h : 0 ≤ s
  · go_enter Try.func24, Try.ntmps24
    go_wp2
    go_ret
    exact ⟨by simp [knownB, h], rfl⟩
  · have h' : decide (0 ≤ s) = false := by simpa using h
    go_enter Try.func24, Try.ntmps24
    go_wp2
    go_ret
    exact ⟨by unfold knownB; rw [h']; simp, rfl⟩
set_option maxHeartbeats 400000 in
theorem slot_state_any (w : Int) (u : World) : Calls Try.prog 16 #[.int .i64 w] u fun e u' => e = .returned (.int .i64 (stateN w)) ∧ u = u' := by
  obtain ⟨hv1, hv2⟩ := val_bd w
  cases hk : knownB (val w)
  · rw [stateN_no hk]
    go_enter Try.func16, Try.ntmps16
    go_wp2_with (first | (go_at_call 29; refine (val_any _ _).mono ?_; rintro e u1 ⟨rfl, rfl⟩) | (go_at_call 24; refine (known_any _ _).mono ?_; rintro e u1 ⟨rfl, rfl⟩))
    go_ret
    exact ⟨rfl, rfl⟩
  · rw [stateN_ok hk]
    go_enter Try.func16, Try.ntmps16
    go_wp2_with (first | (go_at_call 29; refine (val_any _ _).mono ?_; rintro e u1 ⟨rfl, rfl⟩) | (go_at_call 24; refine (known_any _ _).mono ?_; rintro e u1 ⟨rfl, rfl⟩))
    go_ret
    exact ⟨rfl, rfl⟩
set_option maxHeartbeats 400000 in
theorem turn_any (w s : Int) (u : World) : Calls Try.prog 10 #[.int .i64 w, .int .i64 s] u fun e u' => e = .returned (.tuple #[.int .i64 (turnN w s), .bool (knownB s)]) ∧ u = u' := by
  cases hk : knownB s
  · rw [turnN_no hk]
    go_enter Try.func10, Try.ntmps10
    go_wp2_with (go_at_call 24; refine (known_any _ _).mono ?_; rintro e u1 ⟨rfl, rfl⟩)
    go_ret2
    exact ⟨rfl, rfl⟩
  · rw [turnN_ok hk]
    have ho : okB 0 s = true := known_ok hk
    go_enter Try.func10, Try.ntmps10
    go_wp2_with (first | (go_at_call 24; refine (known_any _ _).mono ?_; rintro e u1 ⟨rfl, rfl⟩) | (go_at_call 25; refine (next_any _ _ _).mono ?_; rintro e u1 ⟨rfl, rfl⟩))
    go_ret2
    exact ⟨rfl, rfl⟩
set_option maxHeartbeats 400000 in
theorem right_any (v n : Int) (u : World) : Calls Try.prog 27 #[.agg #[.int .i64 v, .int .i64 n]] u fun e u' => e = .returned (.bool (bodyB v n)) ∧ Q u u' := by
  rcases bodyB_ways v n with h1 | ⟨h1, h2⟩ | ⟨h1, h2, h3⟩ | ⟨h1, h2, h3⟩
  · rw [bodyB_not (.inl h1)]
    go_enter Try.func27, Try.ntmps27
    go_wp2
    go_ret
    exact ⟨rfl, (Q.refl _).alloc _ _⟩
  · rw [bodyB_not (.inr (.inl h2))]
    go_enter Try.func27, Try.ntmps27
    go_wp2
    go_ret
    exact ⟨rfl, (Q.refl _).alloc _ _⟩
  · rw [bodyB_not (.inr (.inr (.inl h3)))]
    go_enter Try.func27, Try.ntmps27
    go_wp2
    go_ret
    exact ⟨rfl, (Q.refl _).alloc _ _⟩
  · have e : bodyB v n = decide (n ≤ 1048576) := by simp [bodyB, h1, h2, h3]
    rw [e]
    go_enter Try.func27, Try.ntmps27
    go_wp2
    go_ret
    exact ⟨rfl, (Q.refl _).alloc _ _⟩
set_option maxHeartbeats 400000 in
theorem bword_core (v n : Int) (h1 : 0 ≤ v) (h2 : v < 12) (_h3 : 1 ≤ n) (_h4 : n ≤ 1048576) (R : Int) (hR : bits .or .i64 (v * 2097152) n = R) (u : World) : Calls Try.prog 28 #[.agg #[.int .i64 v, .int .i64 n]] u fun e u' => e = .returned (.int .i64 R) ∧ Q u u' := by
  go_enter Try.func28, Try.ntmps28
  go_wp2
  go_ret
  exact ⟨rfl, (Q.refl _).alloc _ _⟩
theorem or_i64 (v n : Int) (h1 : 0 ≤ v) (h2 : v < 12) (h3 : 1 ≤ n) (h4 : n ≤ 1048576) : bits .or .i64 (v * 2097152) n = v * 2097152 + n := by
  obtain ⟨a, rfl⟩ := Int.eq_ofNat_of_zero_le h1
  obtain ⟨b, rfl⟩ := Int.eq_ofNat_of_zero_le (show 0 ≤ n by omega)
  have e : (a : Int) * 2097152 = ((a * 2097152 : Nat) : Int) := by simp
  rw [e]
  show IntKind.i64.wrap ((BitVec.ofInt 64 ((a * 2097152 : Nat) : Int) ||| BitVec.ofInt 64 (b : Int)).toNat : Int) = _
  rw [BitVec.toNat_or, BitVec.ofInt_natCast, BitVec.ofInt_natCast, BitVec.toNat_ofNat, BitVec.toNat_ofNat, Nat.mod_eq_of_lt (by omega), Nat.mod_eq_of_lt (by omega), nat_join21 _ _ (by omega) (by omega)]
  rw [IntWalk.i64_in ((a * 2097152 + b : Nat) : Int) (by omega)]
  simp
theorem bword_any (v n : Int) (h1 : 0 ≤ v) (h2 : v < 12) (h3 : 1 ≤ n) (h4 : n ≤ 1048576) (u : World) : Calls Try.prog 28 #[.agg #[.int .i64 v, .int .i64 n]] u fun e u' => e = .returned (.int .i64 (v * 2097152 + n)) ∧ Q u u' :=
  bword_core v n h1 h2 h3 h4 _ (or_i64 v n h1 h2 h3 h4) u
set_option maxHeartbeats 400000 in
theorem body_any (v n : Int) (u : World) : Calls Try.prog 12 #[.int .i64 v, .int .i64 n] u fun e u' => e = .returned (.tuple #[.int .i64 (bodyN v n), .bool (bodyB v n)]) ∧ Q u u' := by
  rcases bodyB_cases v n with h | ⟨h, h1, h2, h3, h4⟩
  · rw [bodyN_no h, h]
    go_enter Try.func12, Try.ntmps12
    go_wp2_with (go_at_call 27; refine (right_any _ _ _).mono ?_; rintro e u1 ⟨rfl, g1⟩)
    go_ret2
    exact ⟨rfl, ((Q.refl _).alloc _ _).trans g1⟩
  · rw [bodyN_ok h, h]
    go_enter Try.func12, Try.ntmps12
    go_wp2_with fail
    refine (right_any _ _ _).mono ?_
    rintro e u1 ⟨rfl, g1⟩
    have c0 := g1.keeps (p := ⟨u.heap.size, 0, none⟩) (v := .int .i64 v) (by go_simp)
    have c1 := g1.keeps (p := ⟨u.heap.size, 1, none⟩) (v := .int .i64 n) (by go_simp)
    go_wp2_with (go_at_call 28; refine (bword_any _ _ h1 h2 h3 h4 _).mono ?_; rintro e u2 ⟨rfl, g2⟩)
    go_ret2
    exact ⟨rfl, (((Q.refl _).alloc _ _).trans g1).trans g2⟩
set_option maxHeartbeats 400000 in
theorem slot_named_any (n : Int) (u : World) : Calls Try.prog 32 #[.int .i64 n] u fun e u' => e = .returned (.agg #[.int .i64 (n.tmod 16), .int .i64 (wrap64 (n.tdiv 16))]) ∧ Q u u' := by
  go_enter Try.func32, Try.ntmps32
  go_wp2
  refine bodyPost_ret (v := .agg #[.int .i64 (n.tmod 16), .int .i64 (wrap64 (n.tdiv 16))]) (by simp [results, Try.results32, go_sem]) rfl ⟨rfl, ?_⟩
  exact (Q.refl _).alloc _ _
theorem of_node (w : Int) : ofB w = true → 0 ≤ w / 2097152 ∧ w / 2097152 < 12 ∧ 1 ≤ w % 2097152 ∧ w % 2097152 ≤ 1048576 := fun h => bodyB_iff.1 h
set_option maxHeartbeats 400000 in
theorem of_core (w V A : Int) (hV : w / 2097152 = V) (hA : bits .and .i64 w 2097151 = A) (u : World) : Calls Try.prog 14 #[.int .i64 w] u fun e u' => e = .returned (.tuple #[.int .i64 (if bodyB V A then V else 0), .int .i64 (if bodyB V A then A else 0), .bool (bodyB V A)]) ∧ Q u u' := by
  cases h : bodyB V A
  · go_enter Try.func14, Try.ntmps14
    go_wp2_with (go_at_call 27; refine (right_any _ _ _).mono ?_; rintro e u1 ⟨rfl, g1⟩)
    go_ret3
    exact ⟨rfl, ((Q.refl _).alloc _ _).trans g1⟩
  · go_enter Try.func14, Try.ntmps14
    go_wp2_with fail
    refine (right_any _ _ _).mono ?_
    rintro e u1 ⟨rfl, g1⟩
    have c0 := g1.keeps (p := ⟨u.heap.size, 0, none⟩) (v := .int .i64 V) (by go_simp)
    have c1 := g1.keeps (p := ⟨u.heap.size, 1, none⟩) (v := .int .i64 A) (by go_simp)
    go_wp2_with fail
    go_quiet (fail)
    go_wp2_with fail
    go_ret3
    exact ⟨rfl, (((Q.refl _).alloc _ _).trans g1).drewN _⟩
theorem and_low (w : Int) : bits .and .i64 w 2097151 = w % 2097152 := by
  show IntKind.i64.wrap ((BitVec.ofInt 64 w &&& BitVec.ofInt 64 2097151).toNat : Int) = _
  have e : (BitVec.ofInt 64 2097151).toNat = 2 ^ 21 - 1 := by decide
  rw [BitVec.toNat_and, e, Nat.and_two_pow_sub_one_eq_mod, BitVec.toNat_ofInt]
  have h : 0 ≤ w % ((2 ^ 64 : Nat) : Int) := Int.emod_nonneg _ (by decide)
  obtain ⟨n, hn⟩ := Int.eq_ofNat_of_zero_le h
  rw [hn, Int.toNat_natCast, IntWalk.i64_in _ (by omega)]
  omega
theorem of_any (w : Int) (u : World) : Calls Try.prog 14 #[.int .i64 w] u fun e u' => e = .returned (.tuple #[.int .i64 (ofV w), .int .i64 (ofA w), .bool (ofB w)]) ∧ Q u u' :=
  of_core w _ _ rfl (and_low w) u
set_option maxHeartbeats 400000 in
theorem rbody_any (v n : Int) (u : World) : Calls Try.prog 13 #[.int .i64 v, .int .i64 n] u fun e u' => e = .returned (.tuple #[.int .i64 (bodyN v n), .bool (bodyB v n)]) ∧ u = u' := by
  rcases bodyB_ways v n with h1 | ⟨h1, h2⟩ | ⟨h1, h2, h3⟩ | ⟨h1, h2, h3⟩
  · have h := bodyB_not (n := n) (.inl h1)
    rw [bodyN_no h, h]
    clear h
    go_enter Try.func13, Try.ntmps13
    go_wp2
    go_ret2
    exact ⟨rfl, rfl⟩
  · have h := bodyB_not (n := n) (.inr (.inl h2))
    rw [bodyN_no h, h]
    clear h
    go_enter Try.func13, Try.ntmps13
    go_wp2
    go_ret2
    exact ⟨rfl, rfl⟩
  · have h := bodyB_not (v := v) (.inr (.inr (.inl h3)))
    rw [bodyN_no h, h]
    clear h
    go_enter Try.func13, Try.ntmps13
    go_wp2
    go_ret2
    exact ⟨rfl, rfl⟩
  · by_cases h4 : 1048576 < n
    · have h := bodyB_not (v := v) (.inr (.inr (.inr h4)))
      rw [bodyN_no h, h]
      clear h
      go_enter Try.func13, Try.ntmps13
      go_wp2
      go_ret2
      exact ⟨rfl, rfl⟩
    · have h : bodyB v n = true := bodyB_iff.2 ⟨h1, h2, h3, by omega⟩
      rw [bodyN_ok h, h]
      clear h
      go_enter Try.func13, Try.ntmps13
      go_wp2
      go_ret2
      exact ⟨rfl, rfl⟩
set_option maxHeartbeats 400000 in
theorem rof_any (w : Int) (u : World) : Calls Try.prog 15 #[.int .i64 w] u fun e u' => e = .returned (.tuple #[.int .i64 (ofV w), .int .i64 (ofA w), .bool (ofB w)]) ∧ u = u' := by
  by_cases hw : w < 0
  · have hb : bodyB (w / 2097152) (w % 2097152) = false := bodyB_not (.inl (by omega))
    have ho : ofB w = false := hb
    rw [ofV_no ho, ofA_no ho, ho]
    clear hb ho
    go_enter Try.func15, Try.ntmps15
    go_wp2
    go_ret3
    exact ⟨rfl, rfl⟩
  · have hw0 : 0 ≤ w := by omega
    cases hb : bodyB (w / 2097152) (w % 2097152)
    · have ho : ofB w = false := hb
      rw [ofV_no ho, ofA_no ho, ho]
      have hn := bodyN_no hb
      clear ho
      go_enter Try.func15, Try.ntmps15
      go_wp2_with (go_at_call 13; refine (rbody_any _ _ _).mono ?_; rintro e u1 ⟨rfl, rfl⟩)
      go_ret3
      exact ⟨rfl, rfl⟩
    · have ho : ofB w = true := hb
      rw [ofV_ok ho, ofA_ok ho, ho]
      have hn : bodyN (w / 2097152) (w % 2097152) = w := by rw [bodyN_ok hb]; omega
      clear ho
      go_enter Try.func15, Try.ntmps15
      go_wp2_with (go_at_call 13; refine (rbody_any _ _ _).mono ?_; rintro e u1 ⟨rfl, rfl⟩)
      go_ret3
      exact ⟨rfl, rfl⟩
set_option maxHeartbeats 400000 in
theorem rslot_state_any (w : Int) (u : World) : Calls Try.prog 17 #[.int .i64 w] u fun e u' => e = .returned (.int .i64 (stateN w)) ∧ u = u' := by
  have hv := val_bd w
  obtain ⟨V, hV⟩ : ∃ V, V = val w := ⟨_, rfl⟩
  rw [← hV] at hv
  obtain ⟨hv1, hv2⟩ := hv
  have hc := Lib.hid hV
  by_cases h1 : V < 0
  · have hk : knownB (val w) = false := by rw [← hV]; simp [knownB]; omega
    rw [stateN_no hk]
    clear hk hV
    go_enter Try.func17, Try.ntmps17
    go_wp2_with fail
    refine (rval_any _ _).mono ?_
    rintro e u1 ⟨rfl, rfl⟩
    rw [← hc.out]
    go_wp2_with fail
    go_ret
    exact ⟨rfl, rfl⟩
  · by_cases h2 : 3 < V
    · have hk : knownB (val w) = false := by rw [← hV]; simp [knownB]; omega
      rw [stateN_no hk]
      clear hk hV
      go_enter Try.func17, Try.ntmps17
      go_wp2_with fail
      refine (rval_any _ _).mono ?_
      rintro e u1 ⟨rfl, rfl⟩
      rw [← hc.out]
      go_wp2_with fail
      go_ret
      exact ⟨rfl, rfl⟩
    · have hk : knownB (val w) = true := by rw [← hV]; simp [knownB]; omega
      rw [stateN_ok hk, ← hV]
      clear hk hV
      go_enter Try.func17, Try.ntmps17
      go_wp2_with fail
      refine (rval_any _ _).mono ?_
      rintro e u1 ⟨rfl, rfl⟩
      rw [← hc.out]
      go_wp2_with fail
      go_ret
      exact ⟨rfl, rfl⟩
set_option maxHeartbeats 400000 in
theorem rturn_any (w s : Int) (u : World) : Calls Try.prog 11 #[.int .i64 w, .int .i64 s] u fun e u' => e = .returned (.tuple #[.int .i64 (turnN w s), .bool (knownB s)]) ∧ u = u' := by
  by_cases h1 : s < 0
  · have hk : knownB s = false := by simp [knownB]; omega
    rw [turnN_no hk, hk]
    clear hk
    go_enter Try.func11, Try.ntmps11
    go_wp2
    go_ret2
    exact ⟨rfl, rfl⟩
  · by_cases h2 : 3 < s
    · have hk : knownB s = false := by simp [knownB]; omega
      rw [turnN_no hk, hk]
      clear hk
      go_enter Try.func11, Try.ntmps11
      go_wp2
      go_ret2
      exact ⟨rfl, rfl⟩
    · have hk : knownB s = true := by simp [knownB]; omega
      rw [turnN_ok hk, hk]
      have ho : okB 0 s = true := known_ok hk
      clear hk
      go_enter Try.func11, Try.ntmps11
      go_wp2_with (go_at_call 26; refine (rnext_any _ _ _).mono ?_; rintro e u1 ⟨rfl, rfl⟩)
      go_ret2
      exact ⟨rfl, rfl⟩
end Go.Proofs.Ytcpkofbhkcpodaa
