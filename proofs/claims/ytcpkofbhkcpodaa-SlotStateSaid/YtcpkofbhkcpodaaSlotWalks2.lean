/- The walks of package slot's handles and of their reference. -/
import Derived.Test.YtcpkofbhkcpodaaSlotWalks
namespace Go.Proofs.Ytcpkofbhkcpodaa
open Go.RowKit

set_option maxHeartbeats 400000 in
theorem handle_neg (t w : Int) (h : t < 0) (u : World) : Calls Try.prog 18 #[.int .i64 t, .int .i64 w] u fun e u' => e = .returned (.tuple #[.int .i64 0, .bool false]) ∧ Q u u' := by
  obtain ⟨h1, h2⟩ := ver_bd w
  go_enter Try.func18, Try.ntmps18
  go_wp2_with (go_at_call 31; refine (ver_any _ _).mono ?_; rintro e u1 ⟨rfl, rfl⟩)
  go_quiet (fail)
  go_wp2_with fail
  go_ret2
  exact ⟨rfl, ((Q.refl _).alloc _ _).drewN _⟩
theorem slot_named_eq (n T V : Int) (hT : n.tmod 16 = T) (hV : wrap64 (n.tdiv 16) = V) (u : World) :
    Calls Try.prog 32 #[.int .i64 n] u fun e u' => e = .returned (.agg #[.int .i64 T, .int .i64 V]) ∧ Q u u' := by
  subst hT hV
  exact slot_named_any n u
theorem tdm (n : Int) (h : 0 ≤ n) (h2 : n < 9223372036854775808) : n.tmod 16 = n % 16 ∧ wrap64 (n.tdiv 16) = n / 16 := by
  refine ⟨Int.tmod_eq_emod_of_nonneg h, ?_⟩
  rw [Int.tdiv_eq_ediv_of_nonneg h]
  exact IntWalk.wrap64_in _ (by omega)
theorem tmod_lt (n : Int) : n.tmod 16 < 16 := Int.tmod_lt_of_pos n (by omega)
set_option maxHeartbeats 1000000 in
theorem handle_yes (t w : Int) (h0 : 0 ≤ t) (h : t < 16) (u : World) : Calls Try.prog 18 #[.int .i64 t, .int .i64 w] u fun e u' => e = .returned (.tuple #[.int .i64 (ver w * 16 + t), .bool true]) ∧ Q u u' := by
  obtain ⟨h1, h2⟩ := ver_bd w
  have hn := tdm (ver w * 16 + t) (by omega) (by omega)
  have hT := Lib.hid (show (ver w * 16 + t).tmod 16 = t by omega)
  have hV := Lib.hid (show wrap64 ((ver w * 16 + t).tdiv 16) = ver w by omega)
  have hd : decide (t < 0) = false := by simpa using h0
  clear hn
  go_enter Try.func18, Try.ntmps18
  go_wp2_with (go_at_call 31; refine (ver_any _ _).mono ?_; rintro e u1 ⟨rfl, rfl⟩)
  go_region_held3 (fun w' => w'.cell? ⟨u.heap.size, 0, none⟩ = some (.int .i64 t) ∧ w'.cell? ⟨u.heap.size, 1, none⟩ = some (.int .i64 (ver w)))
    (first | go_keep | (go_split_ands; exact ⟨g1.keeps (by assumption), g1.keeps (by assumption)⟩))
    (first | (go_at_call 32; refine (slot_named_eq _ _ _ hT.out hV.out _).mono ?_; rintro e u1 ⟨rfl, g1⟩))
  go_wp2_with fail
  go_ret2
  exact ⟨rfl, ((Q.refl _).alloc _ _).drew.trans g1⟩
set_option maxHeartbeats 1000000 in
theorem handle_big (t w N T V : Int) (h0 : 0 ≤ t) (hN : wrap64 (ver w * 16 + t) = N) (hT : Hid (N.tmod 16 = T)) (hV : Hid (wrap64 (N.tdiv 16) = V)) (hTt : (T == t) = false) (u : World) :
    Calls Try.prog 18 #[.int .i64 t, .int .i64 w] u fun e u' => e = .returned (.tuple #[.int .i64 0, .bool false]) ∧ Q u u' := by
  obtain ⟨h1, h2⟩ := ver_bd w
  have hd : decide (t < 0) = false := by simpa using h0
  go_enter Try.func18, Try.ntmps18
  go_wp2_with (go_at_call 31; refine (ver_any _ _).mono ?_; rintro e u1 ⟨rfl, rfl⟩)
  go_region_held3 (fun w' => w'.cell? ⟨u.heap.size, 0, none⟩ = some (.int .i64 t) ∧ w'.cell? ⟨u.heap.size, 1, none⟩ = some (.int .i64 (ver w)))
    (first | go_keep | (go_split_ands; exact ⟨g1.keeps (by assumption), g1.keeps (by assumption)⟩))
    (first | (go_at_call 32; refine (slot_named_eq _ _ _ hT.out hV.out _).mono ?_; rintro e u1 ⟨rfl, g1⟩))
  go_wp2_with fail
  go_ret2
  exact ⟨rfl, ((Q.refl _).alloc _ _).drew.trans g1⟩
theorem handle_any (t w : Int) (u : World) : Calls Try.prog 18 #[.int .i64 t, .int .i64 w] u fun e u' => e = .returned (.tuple #[.int .i64 (handN t w), .bool (handB t)]) ∧ Q u u' := by
  by_cases h : t < 0
  · have hb := handB_not (.inl h)
    rw [handN_no hb, hb]
    exact handle_neg t w h u
  · by_cases h2 : t < 16
    · have hb : handB t = true := handB_iff.2 (by omega)
      rw [handN_ok hb, hb]
      exact handle_yes t w (by omega) h2 u
    · have hb := handB_not (.inr (show 16 ≤ t by omega))
      rw [handN_no hb, hb]
      refine handle_big t w _ _ _ (by omega) rfl (Lib.hid rfl) (Lib.hid rfl) (beq_eq_false_iff_ne.2 ?_) u
      have := tmod_lt (wrap64 (ver w * 16 + t))
      omega
set_option maxHeartbeats 400000 in
theorem named_neg (n k T V : Int) (hT : n.tmod 16 = T) (hV : wrap64 (n.tdiv 16) = V) (h : n < 0) (u : World) :
    Calls Try.prog 20 #[.int .i64 n, .int .i64 k] u fun e u' => e = .returned (.tuple #[.int .i64 0, .int .i64 0, .bool false]) ∧ Q u u' := by
  have hT' := Lib.hid hT
  have hV' := Lib.hid hV
  clear hT hV
  go_enter Try.func20, Try.ntmps20
  go_wp2_with fail
  refine (slot_named_eq _ _ _ hT'.out hV'.out _).mono ?_
  rintro e u1 ⟨rfl, g1⟩
  go_wp2_with fail
  go_ret3
  exact ⟨rfl, g1.alloc _ _⟩
set_option maxHeartbeats 400000 in
theorem named_pos (n k T V : Int) (hT : n.tmod 16 = T) (hV : wrap64 (n.tdiv 16) = V) (h : 0 ≤ n) (_hT1 : 0 ≤ T) (hV1 : 0 ≤ V) (hV2 : V < 1152921504606846976) (b : Bool) (hb : b = (decide (T < k) && decide (V < 4294967296))) (u : World) :
    Calls Try.prog 20 #[.int .i64 n, .int .i64 k] u fun e u' => e = .returned (.tuple #[.int .i64 (if b then T else 0), .int .i64 (if b then V else 0), .bool b]) ∧ Q u u' := by
  have hT' := Lib.hid hT
  have hV' := Lib.hid hV
  clear hT hV
  by_cases h1 : k ≤ T
  · have hb' : b = false := by rw [hb]; simp; omega
    subst hb'
    clear hb
    go_enter Try.func20, Try.ntmps20
    go_wp2_with fail
    refine (slot_named_eq _ _ _ hT'.out hV'.out _).mono ?_
    rintro e u1 ⟨rfl, g1⟩
    go_wp2_with fail
    go_ret3
    exact ⟨rfl, g1.alloc _ _⟩
  · by_cases h2 : V < 4294967296
    · have hb' : b = true := by rw [hb]; simp; omega
      subst hb'
      clear hb
      have hz : V / 4294967296 = 0 := by omega
      go_enter Try.func20, Try.ntmps20
      go_wp2_with fail
      refine (slot_named_eq _ _ _ hT'.out hV'.out _).mono ?_
      rintro e u1 ⟨rfl, g1⟩
      go_wp2_with fail
      go_quiet (fail)
      go_wp2_with fail
      go_ret3
      exact ⟨rfl, (g1.alloc _ _).drewN _⟩
    · have hb' : b = false := by rw [hb]; simp; omega
      subst hb'
      clear hb
      have hz : (V / 4294967296 != 0) = true := by rw [bne_iff_ne]; omega
      go_enter Try.func20, Try.ntmps20
      go_wp2_with fail
      refine (slot_named_eq _ _ _ hT'.out hV'.out _).mono ?_
      rintro e u1 ⟨rfl, g1⟩
      go_wp2_with fail
      go_ret3
      exact ⟨rfl, g1.alloc _ _⟩
theorem named_any (n k : Int) (hn : n < 9223372036854775808) (u : World) :
    Calls Try.prog 20 #[.int .i64 n, .int .i64 k] u fun e u' => e = .returned (.tuple #[.int .i64 (nameT n k), .int .i64 (nameV n k), .bool (nameB n k)]) ∧ Q u u' := by
  by_cases h : n < 0
  · have hb := nameB_not (k := k) (.inl h)
    rw [nameT_no hb, nameV_no hb, hb]
    exact named_neg n k _ _ rfl rfl h u
  · have ht := tdm n (by omega) hn
    have := named_pos n k (n % 16) (n / 16) ht.1 ht.2 (by omega) (by omega) (by omega) (by omega) (nameB n k) (by
      unfold nameB
      rw [decide_eq_true (show 0 ≤ n by omega)]
      rfl) u
    exact this
set_option maxHeartbeats 400000 in
theorem rhandle_any (t w : Int) (u : World) : Calls Try.prog 19 #[.int .i64 t, .int .i64 w] u fun e u' => e = .returned (.tuple #[.int .i64 (handN t w), .bool (handB t)]) ∧ u = u' := by
  obtain ⟨h1, h2⟩ := ver_bd w
  by_cases h : t < 0
  · have hb := handB_not (.inl h)
    rw [handN_no hb, hb]
    clear hb
    go_enter Try.func19, Try.ntmps19
    go_wp2
    go_ret2
    exact ⟨rfl, rfl⟩
  · by_cases h2 : t < 16
    · have hb : handB t = true := handB_iff.2 (by omega)
      rw [handN_ok hb, hb]
      clear hb
      go_enter Try.func19, Try.ntmps19
      go_wp2_with (go_at_call 22; refine (rver_any _ _).mono ?_; rintro e u1 ⟨rfl, rfl⟩)
      go_ret2
      exact ⟨rfl, rfl⟩
    · have hb := handB_not (.inr (show 16 ≤ t by omega))
      rw [handN_no hb, hb]
      clear hb
      go_enter Try.func19, Try.ntmps19
      go_wp2
      go_ret2
      exact ⟨rfl, rfl⟩
set_option maxHeartbeats 400000 in
theorem rnamed_neg (n k T V : Int) (_hT : n.tmod 16 = T) (_hV : wrap64 (n.tdiv 16) = V) (h : n < 0) (u : World) :
    Calls Try.prog 21 #[.int .i64 n, .int .i64 k] u fun e u' => e = .returned (.tuple #[.int .i64 0, .int .i64 0, .bool false]) ∧ u = u' := by
  go_enter Try.func21, Try.ntmps21
  go_wp2
  go_ret3
  exact ⟨rfl, rfl⟩
set_option maxHeartbeats 400000 in
theorem rnamed_any (n k : Int) (hn : n < 9223372036854775808) (u : World) :
    Calls Try.prog 21 #[.int .i64 n, .int .i64 k] u fun e u' => e = .returned (.tuple #[.int .i64 (nameT n k), .int .i64 (nameV n k), .bool (nameB n k)]) ∧ u = u' := by
  by_cases h : n < 0
  · have hb := nameB_not (k := k) (.inl h)
    rw [nameT_no hb, nameV_no hb, hb]
    exact rnamed_neg n k _ _ rfl rfl h u
  · have h0 : 0 ≤ n := by omega
    by_cases h1 : k ≤ n % 16
    · have hb := nameB_not (k := k) (n := n) (.inr (.inl h1))
      rw [nameT_no hb, nameV_no hb, hb]
      clear hb
      go_enter Try.func21, Try.ntmps21
      go_wp2
      go_ret3
      exact ⟨rfl, rfl⟩
    · by_cases h2 : 4294967296 ≤ n / 16
      · have hb := nameB_not (k := k) (n := n) (.inr (.inr h2))
        rw [nameT_no hb, nameV_no hb, hb]
        clear hb
        go_enter Try.func21, Try.ntmps21
        go_wp2
        go_ret3
        exact ⟨rfl, rfl⟩
      · have hb : nameB n k = true := nameB_iff.2 (by omega)
        rw [nameT_ok hb, nameV_ok hb, hb]
        clear hb
        go_enter Try.func21, Try.ntmps21
        go_wp2
        go_ret3
        exact ⟨rfl, rfl⟩
theorem s1 : turnN 0 1 = 4294967297 := by decide +kernel
theorem s2 : knownB 1 = true := by decide +kernel
theorem s3 : turnN 4294967297 2 = 8589934594 := by decide +kernel
theorem s4 : knownB 2 = true := by decide +kernel
theorem s5 : handN 3 8589934594 = 35 := by decide +kernel
theorem s6 : handB 3 = true := by decide +kernel
theorem s7 : nameT 35 4 = 3 := by decide +kernel
theorem s8 : nameV 35 4 = 2 := by decide +kernel
theorem s9 : nameB 35 4 = true := by decide +kernel
theorem s10 : nameT 35 3 = 0 := by decide +kernel
theorem s11 : nameV 35 3 = 0 := by decide +kernel
theorem s12 : nameB 35 3 = false := by decide +kernel
theorem s13 : bodyN 2 5 = 4194309 := by decide +kernel
theorem s14 : bodyB 2 5 = true := by decide +kernel
theorem s15 : ofV 4194309 = 2 := by decide +kernel
theorem s16 : ofA 4194309 = 5 := by decide +kernel
theorem s17 : ofB 4194309 = true := by decide +kernel
theorem s18 : stateN 8589934594 = 2 := by decide +kernel
theorem s19 : stateN 7 = -1 := by decide +kernel
set_option maxHeartbeats 1000000 in
theorem head_any (u : World) : Calls Try.prog 9 #[] u fun e u' => e = .returned (.bool true) ∧ Q u u' := by
  go_enter Try.func9, Try.ntmps9
  go_wp2_with (go_at_call 10; refine (turn_any _ _ _).mono ?_; rintro e u1 ⟨rfl, rfl⟩; first | rw [s1, s2] | rw [s3, s4])
  refine (handle_any _ _ _).mono ?_
  rintro e u1 ⟨rfl, g1⟩
  rw [s5, s6]
  go_wp2_with fail
  refine (named_any _ _ (by omega) _).mono ?_
  rintro e u2 ⟨rfl, g2⟩
  rw [s7, s8, s9]
  go_wp2_with fail
  refine (named_any _ _ (by omega) _).mono ?_
  rintro e u3 ⟨rfl, g3⟩
  rw [s10, s11, s12]
  go_wp2_with fail
  refine (body_any _ _ _).mono ?_
  rintro e u4 ⟨rfl, g4⟩
  rw [s13, s14]
  go_wp2_with fail
  refine (of_any _ _).mono ?_
  rintro e u5 ⟨rfl, g5⟩
  rw [s15, s16, s17]
  go_wp2_with (go_at_call 16; refine (slot_state_any _ _).mono ?_; rintro e u1 ⟨rfl, rfl⟩; first | rw [s18] | rw [s19])
  go_ret
  exact ⟨rfl, (((g1.trans g2).trans g3).trans g4).trans g5⟩
end Go.Proofs.Ytcpkofbhkcpodaa
