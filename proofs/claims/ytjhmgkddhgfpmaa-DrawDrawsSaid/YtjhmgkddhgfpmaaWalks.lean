/- The walks of the draws' functions: what each call computes. -/
import Derived.Test.YtjhmgkddhgfpmaaRows
import Derived.Test.YtjhmgkddhgfpmaaPlain
import Derived.WalkKit
import Derived.WalkSpells
import Derived.WalkLawsBesides
import Derived.RowKit3
import Derived.OpenShut
import Derived.IntWalk
import Derived.Laws.EntriesVeiled
namespace Go.Proofs.Ytjhmgkddhgfpmaa
open Go.RowKit

theorem ret_int {k : IntKind} {a b : Int} (h : a = b) : Ending.returned (.int k a) = .returned (.int k b) := by rw [h]
theorem up_bits (k p : Nat) (hp : p = 2 ^ k) (b : BitVec 32) : bits .xor .u32 (b.toNat : Int) ((b.toNat : Int) * (p : Int) % 4294967296) = ((sl k b).toNat : Int) := by
  have e : ((b.toNat : Int) * (p : Int) % 4294967296) = ((b.toNat * p % 4294967296 : Nat) : Int) := by simp
  rw [e, u32_xor_nat _ _ b.isLt (by omega)]
  unfold sl
  rw [BitVec.toNat_xor, BitVec.toNat_shiftLeft, Nat.shiftLeft_eq, hp]
theorem down_bits (k p : Nat) (hp : p = 2 ^ k) (b : BitVec 32) : bits .xor .u32 (b.toNat : Int) ((b.toNat : Int) / (p : Int)) = ((sr k b).toNat : Int) := by
  have e : ((b.toNat : Int) / (p : Int)) = ((b.toNat / p : Nat) : Int) := by simp
  have hb := b.isLt
  have hd := Nat.div_le_self b.toNat p
  rw [e, u32_xor_nat _ _ b.isLt (by omega)]
  unfold sr
  rw [BitVec.toNat_xor, BitVec.toNat_ushiftRight, Nat.shiftRight_eq_div_pow, hp]

set_option maxHeartbeats 400000 in
theorem up13 (b : BitVec 32) (a : Addr) (w : World) (hc : w.cell? a = some (.int .i64 13)) :
    Calls Try.prog 19 #[.int .u32 (b.toNat : Int), .pointer (some a)] w fun e w' => e = .returned (.int .u32 ((sl 13 b).toNat : Int)) ∧ w = w' := by
  go_enter Try.func19, Try.ntmps19
  go_wp2
  go_ret
  exact ⟨ret_int (up_bits 13 8192 rfl b), rfl⟩
set_option maxHeartbeats 400000 in
theorem up5 (b : BitVec 32) (a : Addr) (w : World) (hc : w.cell? a = some (.int .i64 5)) :
    Calls Try.prog 19 #[.int .u32 (b.toNat : Int), .pointer (some a)] w fun e w' => e = .returned (.int .u32 ((sl 5 b).toNat : Int)) ∧ w = w' := by
  go_enter Try.func19, Try.ntmps19
  go_wp2
  go_ret
  exact ⟨ret_int (up_bits 5 32 rfl b), rfl⟩
set_option maxHeartbeats 400000 in
theorem down17 (b : BitVec 32) (a : Addr) (w : World) (hc : w.cell? a = some (.int .i64 17)) :
    Calls Try.prog 21 #[.int .u32 (b.toNat : Int), .pointer (some a)] w fun e w' => e = .returned (.int .u32 ((sr 17 b).toNat : Int)) ∧ w = w' := by
  go_enter Try.func21, Try.ntmps21
  go_wp2
  go_ret
  exact ⟨ret_int (down_bits 17 131072 rfl b), rfl⟩
set_option maxHeartbeats 400000 in
theorem shifts_any (w : World) :
    Calls Try.prog 17 #[] w fun e w' => ∃ a b c : Addr, e = .returned (.agg #[.func (.func 19) #[] #[.pointer (some a)], .func (.func 21) #[] #[.pointer (some b)], .func (.func 19) #[] #[.pointer (some c)]]) ∧
     w'.cell? a = some (.int .i64 13) ∧ w'.cell? b = some (.int .i64 17) ∧ w'.cell? c = some (.int .i64 5) ∧ Grown w w' := by
  have hmf : ∀ (fn : Fn) (first cap : Array Value) (w : World), (Instr.makeFunc fn first cap).run Try.prog w = .ok (.func fn first cap) w := fun _ _ _ _ => rfl
  go_enter Try.func17, Try.ntmps17
  go_wp2
  refine bodyPost_ret (v := .agg #[.func (.func 19) #[] #[.pointer (some ⟨w.heap.size + 1, 0, none⟩)], .func (.func 21) #[] #[.pointer (some ⟨w.heap.size + 1 + 1, 0, none⟩)], .func (.func 19) #[] #[.pointer (some ⟨w.heap.size + 1 + 1 + 1, 0, none⟩)]]) (by simp [results, Try.results17, go_sem]) rfl ⟨_, _, _, rfl, ?_, ?_, ?_, ?_⟩
  · go_simp
  · go_simp
  · go_simp
  · exact ((((Grown.refl _).alloc _ _).alloc _ _).alloc _ _).alloc _ _
def rowOf (b : BitVec 32) : Nat → BitVec 32
  | 0 => b
  | 1 => sl 13 b
  | 2 => sr 17 (sl 13 b)
  | _ => step32 b
set_option maxHeartbeats 400000 in
theorem next_good (b : BitVec 32) (hb : 1 ≤ (b.toNat : Int)) (w : World) :
    Calls Try.prog 10 #[.int .i64 (b.toNat : Int)] w fun e w' => e = .returned (.int .i64 ((step32 b).toNat : Int)) ∧ Grown w w' := by
  have hb2 : (b.toNat : Int) < 4294967296 := by have := b.isLt; omega
  have hm : (b.toNat : Int) % 4294967296 = b.toNat := by omega
  have hn : (((b.toNat : Int)) == 0) = false := by simp; omega
  go_enter Try.func10, Try.ntmps10
  go_wp2_with fail
  refine (shifts_any _).mono ?_
  rintro e w1 ⟨p, q, r, rfl, hp, hq, hr, hg⟩
  have i0 : ∀ w : World, (Instr.index 35 (.agg #[.func (.func 19) #[] #[.pointer (some p)], .func (.func 21) #[] #[.pointer (some q)], .func (.func 19) #[] #[.pointer (some r)]]) (.int .i64 0)).run Try.prog w = .ok (.func (.func 19) #[] #[.pointer (some p)]) w := fun _ => by kernel_rfl
  have i1 : ∀ w : World, (Instr.index 35 (.agg #[.func (.func 19) #[] #[.pointer (some p)], .func (.func 21) #[] #[.pointer (some q)], .func (.func 19) #[] #[.pointer (some r)]]) (.int .i64 1)).run Try.prog w = .ok (.func (.func 21) #[] #[.pointer (some q)]) w := fun _ => by kernel_rfl
  have i2 : ∀ w : World, (Instr.index 35 (.agg #[.func (.func 19) #[] #[.pointer (some p)], .func (.func 21) #[] #[.pointer (some q)], .func (.func 19) #[] #[.pointer (some r)]]) (.int .i64 2)).run Try.prog w = .ok (.func (.func 19) #[] #[.pointer (some r)]) w := fun _ => by kernel_rfl
  go_wp2_with fail
  go_loop [3, 17] (fun n i => ∃ k : Nat, k ≤ 3 ∧ i = .int .i64 k ∧ n = .int .u32 ((rowOf b k).toNat : Int)) (fun _ i => 3 - (intOf i).toNat)
  case atStart => exact ⟨0, Nat.zero_le _, rfl, rfl⟩
  case round =>
    obtain ⟨k, hk, rfl, rfl⟩ := hrel
    have hk5 : k = 0 ∨ k = 1 ∨ k = 2 ∨ k = 3 := by omega
    rcases hk5 with rfl | rfl | rfl | rfl
    · go_wp2_with (go_at_call 19; refine (up13 _ _ _ hp).mono ?_; rintro e w' ⟨rfl, rfl⟩)
      go_round
      case rel => exact ⟨1, by omega, rfl, rfl⟩
      case measure => simp [intOf]
    · go_wp2_with (go_at_call 21; refine (down17 _ _ _ hq).mono ?_; rintro e w' ⟨rfl, rfl⟩)
      go_round
      case rel => exact ⟨2, by omega, rfl, rfl⟩
      case measure => simp [intOf]
    · go_wp2_with (go_at_call 19; refine (up5 _ _ _ hr).mono ?_; rintro e w' ⟨rfl, rfl⟩)
      go_round
      case rel => exact ⟨3, by omega, rfl, rfl⟩
      case measure => simp [intOf]
    · go_wp2_with fail
      go_ret
      exact ⟨rfl, hg⟩
set_option maxHeartbeats 400000 in
theorem next_zero (w : World) :
    Calls Try.prog 10 #[.int .i64 0] w fun e w' => e = .returned (.int .i64 ((step32 1#32).toNat : Int)) ∧ Grown w w' := by
  go_enter Try.func10, Try.ntmps10
  go_wp2_with fail
  refine (shifts_any _).mono ?_
  rintro e w1 ⟨p, q, r, rfl, hp, hq, hr, hg⟩
  have i0 : ∀ w : World, (Instr.index 35 (.agg #[.func (.func 19) #[] #[.pointer (some p)], .func (.func 21) #[] #[.pointer (some q)], .func (.func 19) #[] #[.pointer (some r)]]) (.int .i64 0)).run Try.prog w = .ok (.func (.func 19) #[] #[.pointer (some p)]) w := fun _ => by kernel_rfl
  have i1 : ∀ w : World, (Instr.index 35 (.agg #[.func (.func 19) #[] #[.pointer (some p)], .func (.func 21) #[] #[.pointer (some q)], .func (.func 19) #[] #[.pointer (some r)]]) (.int .i64 1)).run Try.prog w = .ok (.func (.func 21) #[] #[.pointer (some q)]) w := fun _ => by kernel_rfl
  have i2 : ∀ w : World, (Instr.index 35 (.agg #[.func (.func 19) #[] #[.pointer (some p)], .func (.func 21) #[] #[.pointer (some q)], .func (.func 19) #[] #[.pointer (some r)]]) (.int .i64 2)).run Try.prog w = .ok (.func (.func 19) #[] #[.pointer (some r)]) w := fun _ => by kernel_rfl
  go_wp2_with fail
  go_loop [3, 17] (fun n i => ∃ k : Nat, k ≤ 3 ∧ i = .int .i64 k ∧ n = .int .u32 ((rowOf 1#32 k).toNat : Int)) (fun _ i => 3 - (intOf i).toNat)
  case atStart => exact ⟨0, Nat.zero_le _, rfl, rfl⟩
  case round =>
    obtain ⟨k, hk, rfl, rfl⟩ := hrel
    have hk5 : k = 0 ∨ k = 1 ∨ k = 2 ∨ k = 3 := by omega
    rcases hk5 with rfl | rfl | rfl | rfl
    · go_wp2_with (go_at_call 19; refine (up13 (rowOf 1#32 0) _ _ hp).mono ?_; rintro e w' ⟨rfl, rfl⟩)
      go_round
      case rel => exact ⟨1, by omega, rfl, rfl⟩
      case measure => simp [intOf]
    · go_wp2_with (go_at_call 21; refine (down17 (rowOf 1#32 1) _ _ hq).mono ?_; rintro e w' ⟨rfl, rfl⟩)
      go_round
      case rel => exact ⟨2, by omega, rfl, rfl⟩
      case measure => simp [intOf]
    · go_wp2_with (go_at_call 19; refine (up5 (rowOf 1#32 2) _ _ hr).mono ?_; rintro e w' ⟨rfl, rfl⟩)
      go_round
      case rel => exact ⟨3, by omega, rfl, rfl⟩
      case measure => simp [intOf]
    · go_wp2_with fail
      go_ret
      exact ⟨rfl, hg⟩
set_option maxHeartbeats 400000 in
theorem next_far (x y : Int) (hm : x % 4294967296 = y) (_h1 : 0 ≤ y) (_h2 : y < 4294967296) (hx : (x == y) = false) (w : World) :
    Calls Try.prog 10 #[.int .i64 x] w fun e w' => e = .returned (.int .i64 ((step32 1#32).toNat : Int)) ∧ Grown w w' := by
  go_enter Try.func10, Try.ntmps10
  go_wp2_with fail
  refine (shifts_any _).mono ?_
  rintro e w1 ⟨p, q, r, rfl, hp, hq, hr, hg⟩
  have i0 : ∀ w : World, (Instr.index 35 (.agg #[.func (.func 19) #[] #[.pointer (some p)], .func (.func 21) #[] #[.pointer (some q)], .func (.func 19) #[] #[.pointer (some r)]]) (.int .i64 0)).run Try.prog w = .ok (.func (.func 19) #[] #[.pointer (some p)]) w := fun _ => by kernel_rfl
  have i1 : ∀ w : World, (Instr.index 35 (.agg #[.func (.func 19) #[] #[.pointer (some p)], .func (.func 21) #[] #[.pointer (some q)], .func (.func 19) #[] #[.pointer (some r)]]) (.int .i64 1)).run Try.prog w = .ok (.func (.func 21) #[] #[.pointer (some q)]) w := fun _ => by kernel_rfl
  have i2 : ∀ w : World, (Instr.index 35 (.agg #[.func (.func 19) #[] #[.pointer (some p)], .func (.func 21) #[] #[.pointer (some q)], .func (.func 19) #[] #[.pointer (some r)]]) (.int .i64 2)).run Try.prog w = .ok (.func (.func 19) #[] #[.pointer (some r)]) w := fun _ => by kernel_rfl
  go_wp2_with fail
  go_loop [3, 17] (fun n i => ∃ k : Nat, k ≤ 3 ∧ i = .int .i64 k ∧ n = .int .u32 ((rowOf 1#32 k).toNat : Int)) (fun _ i => 3 - (intOf i).toNat)
  case atStart => exact ⟨0, Nat.zero_le _, rfl, rfl⟩
  case round =>
    obtain ⟨k, hk, rfl, rfl⟩ := hrel
    have hk5 : k = 0 ∨ k = 1 ∨ k = 2 ∨ k = 3 := by omega
    rcases hk5 with rfl | rfl | rfl | rfl
    · go_wp2_with (go_at_call 19; refine (up13 (rowOf 1#32 0) _ _ hp).mono ?_; rintro e w' ⟨rfl, rfl⟩)
      go_round
      case rel => exact ⟨1, by omega, rfl, rfl⟩
      case measure => simp [intOf]
    · go_wp2_with (go_at_call 21; refine (down17 (rowOf 1#32 1) _ _ hq).mono ?_; rintro e w' ⟨rfl, rfl⟩)
      go_round
      case rel => exact ⟨2, by omega, rfl, rfl⟩
      case measure => simp [intOf]
    · go_wp2_with (go_at_call 19; refine (up5 (rowOf 1#32 2) _ _ hr).mono ?_; rintro e w' ⟨rfl, rfl⟩)
      go_round
      case rel => exact ⟨3, by omega, rfl, rfl⟩
      case measure => simp [intOf]
    · go_wp2_with fail
      go_ret
      exact ⟨rfl, hg⟩
theorem next_any (x : Int) (w : World) :
    Calls Try.prog 10 #[.int .i64 x] w fun e w' => e = .returned (.int .i64 (nx x)) ∧ Grown w w' := by
  by_cases h : 1 ≤ x ∧ x < 4294967296
  · have e := seed_toNat h
    have := next_good (seed x) (by omega) w
    rw [e] at this
    exact this
  · have e : seed x = 1#32 := by unfold seed; rw [if_neg h]
    unfold nx
    rw [e]
    by_cases h0 : x = 0
    · subst h0
      exact next_zero w
    · exact next_far x _ rfl (by omega) (by omega) (by simp; omega) w
set_option maxHeartbeats 400000 in
theorem begin_any (t : Int) (ht : 0 ≤ t ∧ t ≤ 1000) (w : World) :
    Calls Try.prog 12 #[.int .i64 t] w fun e w' => e = .returned (.int .i64 (bg t)) ∧ w = w' := by
  obtain ⟨h1, h2⟩ := ht
  go_enter Try.func12, Try.ntmps12
  go_wp2
  go_ret
  exact ⟨rfl, rfl⟩
set_option maxHeartbeats 400000 in
theorem rbegin_any (t : Int) (ht : 0 ≤ t ∧ t ≤ 1000) (w : World) :
    Calls Try.prog 13 #[.int .i64 t] w fun e w' => e = .returned (.int .i64 (bg t)) ∧ w = w' := by
  obtain ⟨h1, h2⟩ := ht
  go_enter Try.func13, Try.ntmps13
  go_wp2
  go_ret
  exact ⟨rfl, rfl⟩
set_option maxHeartbeats 400000 in
theorem good_any (x : Int) (w : World) :
    Calls Try.prog 14 #[.int .i64 x] w fun e w' => e = .returned (.bool (goodB x)) ∧ w = w' := by
  by_cases h : 1 ≤ x
  · go_enter Try.func14, Try.ntmps14
    go_wp2
    go_ret
    exact ⟨by simp [goodB, h], rfl⟩
  · have h' : decide (1 ≤ x) = false := by simpa using h
    go_enter Try.func14, Try.ntmps14
    go_wp2
    go_ret
    exact ⟨by unfold goodB; rw [h']; simp, rfl⟩
set_option maxHeartbeats 400000 in
theorem pick_any (x many : Int) (h : 1 ≤ x ∧ x < 4294967296) (hm : 1 ≤ many ∧ many ≤ 1048576) (w : World) :
    Calls Try.prog 15 #[.int .i64 x, .int .i64 many] w fun e w' => e = .returned (.int .i64 (x % many)) ∧ w = w' := by
  obtain ⟨h1, h2⟩ := h
  obtain ⟨h3, h4⟩ := hm
  go_enter Try.func15, Try.ntmps15
  go_wp2
  go_ret
  exact ⟨rfl, rfl⟩
set_option maxHeartbeats 400000 in
theorem rpick_any (x many : Int) (h : 1 ≤ x ∧ x < 4294967296) (hm : 1 ≤ many ∧ many ≤ 1048576) (w : World) :
    Calls Try.prog 16 #[.int .i64 x, .int .i64 many] w fun e w' => e = .returned (.int .i64 (x % many)) ∧ w = w' := by
  obtain ⟨h1, h2⟩ := h
  obtain ⟨h3, h4⟩ := hm
  go_enter Try.func16, Try.ntmps16
  go_wp2
  go_ret
  exact ⟨rfl, rfl⟩

theorem sl13_lit (b : BitVec 32) : bits .xor .u32 (b.toNat : Int) ((b.toNat : Int) * 8192 % 4294967296) = ((sl 13 b).toNat : Int) := up_bits 13 8192 rfl b
theorem sl5_lit (b : BitVec 32) : bits .xor .u32 (b.toNat : Int) ((b.toNat : Int) * 32 % 4294967296) = ((sl 5 b).toNat : Int) := up_bits 5 32 rfl b
theorem sr17_lit (b : BitVec 32) : bits .xor .u32 (b.toNat : Int) ((b.toNat : Int) / 131072) = ((sr 17 b).toNat : Int) := down_bits 17 131072 rfl b
theorem nat32 (b : BitVec 32) : 0 ≤ (b.toNat : Int) ∧ (b.toNat : Int) < 4294967296 := by have := b.isLt; omega
set_option maxHeartbeats 400000 in
theorem rnext_core (n A B C : Int) (h1 : 1 ≤ n) (h2 : n < 4294967296) (_hm : n % 4294967296 = n) (_a1 : 0 ≤ A) (_a2 : A < 4294967296) (_b1 : 0 ≤ B) (_b2 : B < 4294967296) (_c1 : 0 ≤ C) (_c2 : C < 4294967296)
    (e1 : bits .xor .u32 n (n * 8192 % 4294967296) = A) (e2 : bits .xor .u32 A (A / 131072) = B) (e3 : bits .xor .u32 B (B * 32 % 4294967296) = C) (w : World) :
    Calls Try.prog 11 #[.int .i64 n] w fun e w' => e = .returned (.int .i64 C) ∧ w = w' := by
  go_enter Try.func11, Try.ntmps11
  go_wp2
  go_ret
  exact ⟨rfl, rfl⟩
theorem rnext_good (b : BitVec 32) (hb : 1 ≤ (b.toNat : Int)) (w : World) :
    Calls Try.prog 11 #[.int .i64 (b.toNat : Int)] w fun e w' => e = .returned (.int .i64 ((step32 b).toNat : Int)) ∧ w = w' := by
  have hb2 : (b.toNat : Int) < 4294967296 := (nat32 b).2
  exact rnext_core _ _ _ _ hb hb2 (Int.emod_eq_of_lt (nat32 b).1 hb2) (nat32 _).1 (nat32 _).2 (nat32 _).1 (nat32 _).2 (nat32 _).1 (nat32 _).2 (sl13_lit b) (sr17_lit _) (sl5_lit _) w
set_option maxHeartbeats 400000 in
theorem rnext_bad (x : Int) (h : x < 1 ∨ 4294967296 ≤ x) (w : World) :
    Calls Try.prog 11 #[.int .i64 x] w fun e w' => e = .returned (.int .i64 ((step32 1#32).toNat : Int)) ∧ w = w' := by
  have e1 : bits .xor .u32 1 8192 = 8193 := by decide +kernel
  have e2 : bits .xor .u32 8193 0 = 8193 := by decide +kernel
  have e3 : bits .xor .u32 8193 262176 = 270369 := by decide +kernel
  rcases h with h | h
  · go_enter Try.func11, Try.ntmps11
    go_wp2
    go_ret
    exact ⟨rfl, rfl⟩
  · go_enter Try.func11, Try.ntmps11
    go_wp2
    go_ret
    exact ⟨rfl, rfl⟩
theorem rnext_any (x : Int) (w : World) :
    Calls Try.prog 11 #[.int .i64 x] w fun e w' => e = .returned (.int .i64 (nx x)) ∧ w = w' := by
  by_cases h : 1 ≤ x ∧ x < 4294967296
  · have e := seed_toNat h
    have := rnext_good (seed x) (by omega) w
    rw [e] at this
    exact this
  · have e : seed x = 1#32 := by unfold seed; rw [if_neg h]
    unfold nx
    rw [e]
    exact rnext_bad x (by omega) w
theorem u16_bd {n : Int} (h : (Lit.int .u16 n).wf = true) : 0 ≤ n ∧ n ≤ 65535 := bounds_u16 h
theorem u8_bd {n : Int} (h : (Lit.int .u8 n).wf = true) : 0 ≤ n ∧ n ≤ 255 := bounds_u8 h
theorem xor_i64_nat (a b : Nat) (ha : a < 4294967296) (hb : b < 4294967296) : bits .xor .i64 (a : Int) (b : Int) = ((a ^^^ b : Nat) : Int) := by
  have hx : a ^^^ b < 2 ^ 32 := Nat.xor_lt_two_pow (by omega) (by omega)
  show IntKind.i64.wrap ((BitVec.ofInt 64 (a : Int) ^^^ BitVec.ofInt 64 (b : Int)).toNat : Int) = _
  rw [BitVec.toNat_xor, BitVec.ofInt_natCast, BitVec.ofInt_natCast, BitVec.toNat_ofNat, BitVec.toNat_ofNat, Nat.mod_eq_of_lt (by omega), Nat.mod_eq_of_lt (by omega)]
  exact IntWalk.i64_in ((a ^^^ b : Nat) : Int) (by omega)
theorem xor_seed {x y : Int} (hx : 1 ≤ x ∧ x < 4294967296) (hy : 1 ≤ y ∧ y < 4294967296) : bits .xor .i64 x y = (((seed x ^^^ seed y).toNat : Nat) : Int) := by
  have e1 := seed_toNat hx
  have e2 := seed_toNat hy
  have h := xor_i64_nat (seed x).toNat (seed y).toNat (seed x).isLt (seed y).isLt
  rw [e1, e2] at h
  rw [h, BitVec.toNat_xor]
theorem nx_xor {x y : Int} (hx : 1 ≤ x ∧ x < 4294967296) (hy : 1 ≤ y ∧ y < 4294967296) (hne : x ≠ y) : bits .xor .i64 (nx x) (nx y) = nx (bits .xor .i64 x y) := by
  have hs : seed (bits .xor .i64 x y) = seed x ^^^ seed y := by
    have hz : seed x ^^^ seed y ≠ 0#32 := fun h => hne (by rw [← seed_toNat hx, ← seed_toNat hy, BitVec.xor_eq_zero_iff.1 h])
    have hz2 : (seed x ^^^ seed y).toNat ≠ 0 := fun h0 => hz (BitVec.eq_of_toNat_eq (by simpa using h0))
    have hlt := (seed x ^^^ seed y).isLt
    have hg : 1 ≤ bits .xor .i64 x y ∧ bits .xor .i64 x y < 4294967296 := by rw [xor_seed hx hy]; omega
    apply BitVec.eq_of_toNat_eq
    have h1 := seed_toNat hg
    rw [xor_seed hx hy] at h1 ⊢
    exact Int.ofNat_inj.1 h1
  unfold nx
  rw [xor_i64_nat _ _ (step32 (seed x)).isLt (step32 (seed y)).isLt, hs, step32_xor, BitVec.toNat_xor]
theorem beq_two {a b c d : Int} (h : a = b ↔ c = d) : ((a == b) == (c == d)) = true := by
  by_cases e : c = d
  · rw [h.2 e, e]; simp
  · have e' : ¬ a = b := fun x => e (h.1 x)
    rw [beq_eq_false_iff_ne.2 e, beq_eq_false_iff_ne.2 e']; rfl
theorem and_i64_nat (a b : Nat) (ha : a < 4294967296) (hb : b < 4294967296) : bits .and .i64 (a : Int) (b : Int) = ((a &&& b : Nat) : Int) := by
  have hx : a &&& b < 2 ^ 32 := Nat.and_lt_two_pow _ (by omega)
  show IntKind.i64.wrap ((BitVec.ofInt 64 (a : Int) &&& BitVec.ofInt 64 (b : Int)).toNat : Int) = _
  rw [BitVec.toNat_and, BitVec.ofInt_natCast, BitVec.ofInt_natCast, BitVec.toNat_ofNat, BitVec.toNat_ofNat, Nat.mod_eq_of_lt (by omega), Nat.mod_eq_of_lt (by omega)]
  exact IntWalk.i64_in ((a &&& b : Nat) : Int) (by omega)
theorem mask_any (x k : Int) (hx : 0 ≤ x ∧ x < 4294967296) : ∃ P : Int, wrap64 (2 ^ (k % 20).toNat) = P ∧ 1 ≤ P ∧ P ≤ 1048576 ∧ bits .and .i64 x (P - 1) = x % P := by
  obtain ⟨X, rfl⟩ := Int.eq_ofNat_of_zero_le hx.1
  generalize hn : (k % 20).toNat = n
  have hn2 : n ≤ 19 := by omega
  have hp : 2 ^ n ≤ 2 ^ 19 := Nat.pow_le_pow_right (by omega) hn2
  have hp1 : 0 < 2 ^ n := Nat.two_pow_pos n
  have ec : ((2 : Int) ^ n) = ((2 ^ n : Nat) : Int) := by simp
  refine ⟨((2 ^ n : Nat) : Int), ?_, by omega, by omega, ?_⟩
  · rw [ec]; exact IntWalk.wrap64_in _ (by omega)
  · have e1 : ((2 ^ n : Nat) : Int) - 1 = ((2 ^ n - 1 : Nat) : Int) := by omega
    rw [e1, and_i64_nat _ _ (by omega) (by omega), Nat.and_two_pow_sub_one_eq_mod]
    simp
theorem goodB_iff {x : Int} : goodB x = true ↔ 1 ≤ x ∧ x < 4294967296 := by simp [goodB]
theorem goodB_not {x : Int} (h : goodB x = false) : ¬ (1 ≤ x ∧ x < 4294967296) := by
  intro hx
  rw [goodB_iff.2 hx] at h
  cases h
theorem goodB_cases (x : Int) : goodB x = false ∨ (goodB x = true ∧ 1 ≤ x ∧ x < 4294967296) := by
  cases h : goodB x
  · exact .inl rfl
  · exact .inr ⟨rfl, goodB_iff.1 h⟩
theorem grown_trans {a b c : World} (h : Grown a b) (k : Grown b c) : Grown a c :=
  ⟨World.keptBut_trans h.1 k.1, fun x => (k.2.1 x).trans (h.2.1 x), Nat.le_trans h.2.2 k.2.2⟩
theorem nx1 : nx 1 = 270369 := by decide +kernel
theorem nx2 : nx 270369 = 67634689 := by decide +kernel
theorem nx0 : nx 0 = 270369 := by decide +kernel
theorem bg0 : bg 0 = 2654435761 := by decide +kernel
theorem bg1 : bg 1 = 1013904226 := by decide +kernel
set_option maxHeartbeats 400000 in
theorem head_any (w : World) :
    Calls Try.prog 9 #[] w fun e w' => e = .returned (.bool true) ∧ Grown w w' := by
  go_enter Try.func9, Try.ntmps9
  go_wp2_with fail
  refine (next_any _ _).mono ?_
  rintro e w1 ⟨rfl, hg1⟩
  rw [nx1]
  go_wp2_with fail
  refine (next_any _ _).mono ?_
  rintro e w2 ⟨rfl, hg2⟩
  rw [nx2]
  go_wp2_with fail
  refine (next_any _ _).mono ?_
  rintro e w3 ⟨rfl, hg3⟩
  rw [nx0]
  go_wp2_with fail
  refine (begin_any _ (by omega) _).mono ?_
  rintro e w4 ⟨rfl, rfl⟩
  rw [bg0]
  go_wp2_with fail
  refine (begin_any _ (by omega) _).mono ?_
  rintro e w4 ⟨rfl, rfl⟩
  rw [bg1]
  go_wp2_with fail
  refine (pick_any _ _ (by omega) (by omega) _).mono ?_
  rintro e w4 ⟨rfl, rfl⟩
  go_wp2_with fail
  go_ret
  exact ⟨rfl, grown_trans (grown_trans hg1 hg2) hg3⟩

end Go.Proofs.Ytjhmgkddhgfpmaa
