/- The walks of package pack and of its reference: what each call computes. -/
import Derived.Test.YtpkjhddflhgeoaaPackPlain
import Derived.Test.YtpkjhddflhgeoaaRows
import Derived.WalkKit
import Derived.WalkSpells
import Derived.WalkLawsBesides
import Derived.RowKit3
import Derived.OpenShut
import Derived.IntWalk
import Derived.Lib.Hide
namespace Go.Proofs.Ytpkjhddflhgeoaa
open Go.RowKit

theorem pk_ret {k : IntKind} {a b : Int} (h : a = b) : Ending.returned (.int k a) = .returned (.int k b) := by rw [h]
theorem pk_ret2 {k : IntKind} {a b : Int} {c : Bool} (h : a = b) : Ending.returned (.tuple #[.int k a, .bool c]) = .returned (.tuple #[.int k b, .bool c]) := by rw [h]
theorem u64_nat64 (w : Int) : IntKind.u64.wrap w = nat64 w := IntKind.wrap_u64 w

set_option maxHeartbeats 400000 in
theorem ver_core (w U : Int) (hU : IntKind.u64.wrap w = U) (h1 : 0 ≤ U) (h2 : U < 18446744073709551616) (u : World) :
    Calls Try.prog 14 #[.int .i64 w] u fun e u' => e = .returned (.int .i64 (U / 4294967296)) ∧ u = u' := by
  go_enter Try.func14, Try.ntmps14
  go_wp2
  go_ret
  exact ⟨rfl, rfl⟩
theorem ver_any (w : Int) (u : World) : Calls Try.prog 14 #[.int .i64 w] u fun e u' => e = .returned (.int .i64 (ver w)) ∧ u = u' :=
  ver_core w _ (u64_nat64 w) (nat64_bd w).1 (nat64_bd w).2 u
set_option maxHeartbeats 400000 in
theorem rver_core (w U : Int) (hU : IntKind.u64.wrap w = U) (h1 : 0 ≤ U) (h2 : U < 18446744073709551616) (u : World) :
    Calls Try.prog 15 #[.int .i64 w] u fun e u' => e = .returned (.int .i64 (U / 4294967296)) ∧ u = u' := by
  go_enter Try.func15, Try.ntmps15
  go_wp2
  go_ret
  exact ⟨rfl, rfl⟩
theorem rver_any (w : Int) (u : World) : Calls Try.prog 15 #[.int .i64 w] u fun e u' => e = .returned (.int .i64 (ver w)) ∧ u = u' :=
  rver_core w _ (u64_nat64 w) (nat64_bd w).1 (nat64_bd w).2 u
set_option maxHeartbeats 400000 in
theorem val_core (w U V : Int) (hU : IntKind.u64.wrap w = U) (_h1 : 0 ≤ U) (_h2 : U < 18446744073709551616) (hV : wrap32 (U % 4294967296) = V) (_h3 : -2147483648 ≤ V) (_h4 : V < 2147483648) (u : World) :
    Calls Try.prog 16 #[.int .i64 w] u fun e u' => e = .returned (.int .i64 V) ∧ u = u' := by
  go_enter Try.func16, Try.ntmps16
  go_wp2
  go_ret
  exact ⟨rfl, rfl⟩
theorem val_any (w : Int) (u : World) : Calls Try.prog 16 #[.int .i64 w] u fun e u' => e = .returned (.int .i64 (val w)) ∧ u = u' :=
  val_core w _ _ (u64_nat64 w) (nat64_bd w).1 (nat64_bd w).2 (by unfold val wrap32; rfl) (val_bd w).1 (val_bd w).2 u
set_option maxHeartbeats 400000 in
theorem rval_core (w U : Int) (hU : IntKind.u64.wrap w = U) (h1 : 0 ≤ U) (h2 : U < 18446744073709551616) (u : World) :
    Calls Try.prog 17 #[.int .i64 w] u fun e u' => e = .returned (.int .i64 ((U % 4294967296 + 2147483648) % 4294967296 - 2147483648)) ∧ u = u' := by
  have h3 : 0 ≤ U % 4294967296 := by omega
  have h4 : U % 4294967296 < 4294967296 := by omega
  by_cases h5 : U % 4294967296 < 2147483648
  all_goals
    go_enter Try.func17, Try.ntmps17
    go_wp2
    go_ret
    exact ⟨pk_ret (by omega), rfl⟩
theorem rval_any (w : Int) (u : World) : Calls Try.prog 17 #[.int .i64 w] u fun e u' => e = .returned (.int .i64 (val w)) ∧ u = u' :=
  rval_core w _ (u64_nat64 w) (nat64_bd w).1 (nat64_bd w).2 u
theorem join_or (A x : Int) (hA : 0 ≤ A ∧ A < 4294967296) : bits .or .u64 (A * 4294967296) (x % 4294967296) = A * 4294967296 + x % 4294967296 := by
  obtain ⟨n, rfl⟩ := Int.eq_ofNat_of_zero_le hA.1
  obtain ⟨m, hm⟩ := Int.eq_ofNat_of_zero_le (show 0 ≤ x % 4294967296 by omega)
  rw [hm]
  have e : (n : Int) * 4294967296 = ((n * 4294967296 : Nat) : Int) := by simp
  rw [e, u64_or_nat _ _ (by omega) (by omega), nat_join32 _ _ (by omega) (by omega)]
  simp
set_option maxHeartbeats 400000 in
theorem with_core (w on x A R : Int) (hw : 0 ≤ w) (hw2 : w < 18446744073709551616) (_ho : 0 ≤ on) (_ho2 : on ≤ 1) (hx1 : -2147483648 ≤ x) (hx2 : x < 2147483648)
    (hA : (w / 4294967296 + on) % 4294967296 = A) (_hA1 : 0 ≤ A) (_hA2 : A < 4294967296) (hR : bits .or .u64 (A * 4294967296) (x % 4294967296) = R) (u : World) :
    Calls Try.prog 19 #[.int .u64 w, .int .u32 on, .int .i64 x] u fun e u' => e = .returned (.int .u64 R) ∧ u = u' := by
  go_enter Try.func19, Try.ntmps19
  go_wp2
  go_ret
  exact ⟨rfl, rfl⟩
theorem with_any (w on x : Int) (hw : 0 ≤ w) (hw2 : w < 18446744073709551616) (ho : 0 ≤ on) (ho2 : on ≤ 1) (hx1 : -2147483648 ≤ x) (hx2 : x < 2147483648) (u : World) :
    Calls Try.prog 19 #[.int .u64 w, .int .u32 on, .int .i64 x] u fun e u' => e = .returned (.int .u64 ((w / 4294967296 + on) % 4294967296 * 4294967296 + x % 4294967296)) ∧ u = u' :=
  with_core w on x _ _ hw hw2 ho ho2 hx1 hx2 rfl (by omega) (by omega) (join_or _ _ (by omega)) u
set_option maxHeartbeats 400000 in
theorem state_core1 (v x V : Int) (hV : v % 4294967296 = V) (_h1 : 0 ≤ V) (_h2 : V < 4294967296) (hb : (v == V) = false) (u : World) :
    Calls Try.prog 18 #[.int .i64 v, .int .i64 x] u fun e u' => e = .returned (.int .i64 1) ∧ u = u' := by
  have hb' : (v != V) = true := by rw [bne, hb]; rfl
  go_enter Try.func18, Try.ntmps18
  go_wp2
  go_ret
  exact ⟨rfl, rfl⟩
set_option maxHeartbeats 400000 in
theorem state_core2 (v x X : Int) (h1 : 0 ≤ v) (h2 : v < 4294967296) (hX : wrap32 x = X) (_h3 : -2147483648 ≤ X) (_h4 : X < 2147483648) (hc : (x == X) = false) (u : World) :
    Calls Try.prog 18 #[.int .i64 v, .int .i64 x] u fun e u' => e = .returned (.int .i64 1) ∧ u = u' := by
  have hc' : (x != X) = true := by rw [bne, hc]; rfl
  go_enter Try.func18, Try.ntmps18
  go_wp2
  go_ret
  exact ⟨rfl, rfl⟩
set_option maxHeartbeats 400000 in
theorem state_core3 (v x : Int) (h1 : 0 ≤ v) (h2 : v < 4294967296) (h3 : -2147483648 ≤ x) (h4 : x < 2147483648) (u : World) :
    Calls Try.prog 18 #[.int .i64 v, .int .i64 x] u fun e u' => e = .returned (.int .i64 0) ∧ u = u' := by
  go_enter Try.func18, Try.ntmps18
  go_wp2
  go_ret
  exact ⟨rfl, rfl⟩
def stN (b : Bool) : Int := if b then 0 else 1
theorem state_any (v x : Int) (u : World) :
    Calls Try.prog 18 #[.int .i64 v, .int .i64 x] u fun e u' => e = .returned (.int .i64 (stN (okB v x))) ∧ u = u' := by
  rcases okB_cases v x with h | ⟨h, h1, h2, h3, h4⟩
  · rw [h]
    by_cases hv : 0 ≤ v ∧ v < 4294967296
    · refine state_core2 v x _ hv.1 hv.2 rfl (by unfold wrap32; omega) (by unfold wrap32; omega) (beq_eq_false_iff_ne.2 ?_) u
      have := okB_not h
      unfold wrap32
      omega
    · exact state_core1 v x _ rfl (by omega) (by omega) (beq_eq_false_iff_ne.2 (by omega)) u
  · rw [h]
    exact state_core3 v x h1 h2 h3 h4 u
set_option maxHeartbeats 400000 in
theorem word_no (v x : Int) (h : okB v x = false) (u : World) :
    Calls Try.prog 10 #[.int .i64 v, .int .i64 x] u fun e u' => e = .returned (.tuple #[.int .i64 0, .bool false]) ∧ u = u' := by
  have hs : stN false = 1 := rfl
  go_enter Try.func10, Try.ntmps10
  go_wp2_with (go_at_call 18; refine (state_any _ _ _).mono ?_; rintro e u1 ⟨rfl, rfl⟩)
  go_ret2
  exact ⟨rfl, rfl⟩
set_option maxHeartbeats 400000 in
theorem word_core (v x R : Int) (h : okB v x = true) (h1 : 0 ≤ v) (h2 : v < 4294967296) (h3 : -2147483648 ≤ x) (h4 : x < 2147483648)
   (hR : wrap64 ((v * 4294967296 / 4294967296 + 0) % 4294967296 * 4294967296 + x % 4294967296) = R) (u : World) :
    Calls Try.prog 10 #[.int .i64 v, .int .i64 x] u fun e u' => e = .returned (.tuple #[.int .i64 R, .bool true]) ∧ u = u' := by
  have hs : stN true = 0 := rfl
  have HR := Lib.hid hR
  clear hR
  go_enter Try.func10, Try.ntmps10
  go_wp2_with (go_at_call 18; refine (state_any _ _ _).mono ?_; rintro e u1 ⟨rfl, rfl⟩)
  refine (with_any _ _ _ (by omega) (by omega) (by omega) (by omega) h3 h4 _).mono ?_
  rintro e u1 ⟨rfl, rfl⟩
  generalize hq : (v * 4294967296 / 4294967296 + 0) % 4294967296 * 4294967296 + x % 4294967296 = q at HR
  go_wp2_with fail
  rw [HR.out]
  go_ret2
  exact ⟨rfl, rfl⟩
theorem word_any (v x : Int) (u : World) :
    Calls Try.prog 10 #[.int .i64 v, .int .i64 x] u fun e u' => e = .returned (.tuple #[.int .i64 (wordN v x), .bool (okB v x)]) ∧ u = u' := by
  rcases okB_cases v x with h | ⟨h, h1, h2, h3, h4⟩
  · rw [wordN_no h, h]
    exact word_no v x h u
  · rw [wordN_ok h, h]
    exact word_core v x _ h h1 h2 h3 h4 (by unfold wrap64 wd; omega) u
set_option maxHeartbeats 400000 in
theorem next_no (w x : Int) (h : okB 0 x = false) (u : World) :
    Calls Try.prog 12 #[.int .i64 w, .int .i64 x] u fun e u' => e = .returned (.tuple #[.int .i64 0, .bool false]) ∧ u = u' := by
  have hs : stN false = 1 := rfl
  go_enter Try.func12, Try.ntmps12
  go_wp2_with (go_at_call 18; refine (state_any _ _ _).mono ?_; rintro e u1 ⟨rfl, rfl⟩)
  go_ret2
  exact ⟨rfl, rfl⟩
set_option maxHeartbeats 400000 in
theorem next_core (w x U R : Int) (h : okB 0 x = true) (h3 : -2147483648 ≤ x) (h4 : x < 2147483648) (hU : IntKind.u64.wrap w = U) (hU1 : 0 ≤ U) (hU2 : U < 18446744073709551616)
   (hR : wrap64 ((U / 4294967296 + 1) % 4294967296 * 4294967296 + x % 4294967296) = R) (u : World) :
    Calls Try.prog 12 #[.int .i64 w, .int .i64 x] u fun e u' => e = .returned (.tuple #[.int .i64 R, .bool true]) ∧ u = u' := by
  have hmf : ∀ (fn : Fn) (first cap : Array Value) (w : World), (Instr.makeFunc fn first cap).run Try.prog w = .ok (.func fn first cap) w := fun _ _ _ _ => rfl
  have hs : stN true = 0 := rfl
  have HR := Lib.hid hR
  clear hR
  go_enter Try.func12, Try.ntmps12
  go_wp2_with (go_at_call 18; refine (state_any _ _ _).mono ?_; rintro e u1 ⟨rfl, rfl⟩)
  refine (with_any _ _ _ hU1 hU2 (by omega) (by omega) h3 h4 _).mono ?_
  rintro e u1 ⟨rfl, rfl⟩
  generalize hq : (U / 4294967296 + 1) % 4294967296 * 4294967296 + x % 4294967296 = q at HR
  go_wp2_with fail
  rw [HR.out]
  go_ret2
  exact ⟨rfl, rfl⟩
theorem next_any (w x : Int) (u : World) :
    Calls Try.prog 12 #[.int .i64 w, .int .i64 x] u fun e u' => e = .returned (.tuple #[.int .i64 (nextN w x), .bool (okB 0 x)]) ∧ u = u' := by
  rcases okB_cases 0 x with h | ⟨h, h1, h2, h3, h4⟩
  · rw [nextN_no h, h]
    exact next_no w x h u
  · rw [nextN_ok h, h]
    refine next_core w x _ _ h h3 h4 (u64_nat64 w) (nat64_bd w).1 (nat64_bd w).2 ?_ u
    unfold wrap64 wd nv ver
    rfl
set_option maxHeartbeats 400000 in
theorem rword_core (v x R : Int) (_h : okB v x = true) (h1 : 0 ≤ v) (h2 : v < 4294967296) (h3 : -2147483648 ≤ x) (h4 : x < 2147483648) (A : Int) (hA : v * 4294967296 = A) (_a1 : 0 ≤ A) (_a2 : A < 18446744073709551616) (Q : Int)
    (hQ : bits .or .u64 A (x % 4294967296) = Q) (hR : wrap64 Q = R) (u : World) :
    Calls Try.prog 11 #[.int .i64 v, .int .i64 x] u fun e u' => e = .returned (.tuple #[.int .i64 R, .bool true]) ∧ u = u' := by
  go_enter Try.func11, Try.ntmps11
  go_wp2
  go_ret2
  exact ⟨pk_ret2 hR, rfl⟩
set_option maxHeartbeats 400000 in
theorem rword_no (v x : Int) (h : v < 0 ∨ 4294967296 ≤ v ∨ x < -2147483648 ∨ 2147483648 ≤ x) (u : World) :
    Calls Try.prog 11 #[.int .i64 v, .int .i64 x] u fun e u' => e = .returned (.tuple #[.int .i64 0, .bool false]) ∧ u = u' := by
  by_cases h1 : v < 0
  · go_enter Try.func11, Try.ntmps11
    go_wp2
    go_ret2
    exact ⟨rfl, rfl⟩
  · by_cases h2 : 4294967296 ≤ v
    · go_enter Try.func11, Try.ntmps11
      go_wp2
      go_ret2
      exact ⟨rfl, rfl⟩
    · by_cases h3 : x < -2147483648
      · go_enter Try.func11, Try.ntmps11
        go_wp2
        go_ret2
        exact ⟨rfl, rfl⟩
      · have h4 : 2147483648 ≤ x := by omega
        go_enter Try.func11, Try.ntmps11
        go_wp2
        go_ret2
        exact ⟨rfl, rfl⟩
theorem rword_any (v x : Int) (u : World) :
    Calls Try.prog 11 #[.int .i64 v, .int .i64 x] u fun e u' => e = .returned (.tuple #[.int .i64 (wordN v x), .bool (okB v x)]) ∧ u = u' := by
  rcases okB_cases v x with h | ⟨h, h1, h2, h3, h4⟩
  · rw [wordN_no h, h]
    exact rword_no v x (okB_not h) u
  · rw [wordN_ok h, h]
    exact rword_core v x _ h h1 h2 h3 h4 _ rfl (by omega) (by omega) _ (join_or v x ⟨h1, h2⟩) (by unfold wrap64 wd; omega) u
set_option maxHeartbeats 400000 in
theorem rnext_any (w x : Int) (u : World) :
    Calls Try.prog 13 #[.int .i64 w, .int .i64 x] u fun e u' => e = .returned (.tuple #[.int .i64 (nextN w x), .bool (okB 0 x)]) ∧ u = u' := by
  rw [nextN_word, ← okB_nv w x]
  obtain ⟨h1, h2⟩ := ver_bd w
  by_cases h : ver w + 1 = 4294967296
  · have HN : nv w = 0 := by unfold nv; omega
    rw [HN]
    have h' : (ver w + 1 == 4294967296) = true := by simpa using h
    clear HN h
    go_enter Try.func13, Try.ntmps13
    go_wp2_with (first | (go_at_call 15; refine (rver_any _ _).mono ?_; rintro e u1 ⟨rfl, rfl⟩) | (go_at_call 11; refine (rword_any _ _ _).mono ?_; rintro e u1 ⟨rfl, rfl⟩))
    go_ret2
    exact ⟨rfl, rfl⟩
  · have HN : nv w = ver w + 1 := by unfold nv; omega
    rw [HN]
    have h' : (ver w + 1 == 4294967296) = false := by simpa using h
    clear HN h
    go_enter Try.func13, Try.ntmps13
    go_wp2_with (first | (go_at_call 15; refine (rver_any _ _).mono ?_; rintro e u1 ⟨rfl, rfl⟩) | (go_at_call 11; refine (rword_any _ _ _).mono ?_; rintro e u1 ⟨rfl, rfl⟩))
    go_ret2
    exact ⟨rfl, rfl⟩
theorem w1 : wordN 1 (-1) = 8589934591 := by decide +kernel
theorem o1 : okB 1 (-1) = true := by decide +kernel
theorem w2 : wordN (-1) 0 = 0 := by decide +kernel
theorem o2 : okB (-1) 0 = false := by decide +kernel
theorem n1 : nextN 8589934591 5 = 8589934597 := by decide +kernel
theorem o3 : okB 0 5 = true := by decide +kernel
theorem n2 : nextN (-1) 7 = 7 := by decide +kernel
theorem o4 : okB 0 7 = true := by decide +kernel
theorem v1 : ver 8589934591 = 1 := by decide +kernel
theorem v2 : val 8589934591 = -1 := by decide +kernel
set_option maxHeartbeats 400000 in
theorem head_any (u : World) : Calls Try.prog 9 #[] u fun e u' => e = .returned (.bool true) ∧ u = u' := by
  go_enter Try.func9, Try.ntmps9
  go_wp2_with (first | (go_at_call 10; refine (word_any _ _ _).mono ?_; rintro e u1 ⟨rfl, rfl⟩; first | rw [w1, o1] | rw [w2, o2]) | (go_at_call 12; refine (next_any _ _ _).mono ?_; rintro e u1 ⟨rfl, rfl⟩; first | rw [n1, o3] | rw [n2, o4]) | (go_at_call 14; refine (ver_any _ _).mono ?_; rintro e u1 ⟨rfl, rfl⟩; rw [v1]) | (go_at_call 16; refine (val_any _ _).mono ?_; rintro e u1 ⟨rfl, rfl⟩; rw [v2]))
  go_ret
  exact ⟨rfl, rfl⟩
end Go.Proofs.Ytpkjhddflhgeoaa
