/- The plain arithmetic of the draws: the xorshift step over 32 bits is linear and one to one; a multiple by an odd number goes round without a repeat. No program is in sight. -/
namespace Go.Proofs.Ytjhmgkddhgfpmaa
def sl (k : Nat) (a : BitVec 32) : BitVec 32 := a ^^^ (a <<< k)
def sr (k : Nat) (a : BitVec 32) : BitVec 32 := a ^^^ (a >>> k)
def step32 (b : BitVec 32) : BitVec 32 := sl 5 (sr 17 (sl 13 b))
theorem xx (a b c d : BitVec 32) : (a ^^^ b) ^^^ (c ^^^ d) = (a ^^^ c) ^^^ (b ^^^ d) := by
  ac_rfl
theorem sl_xor (k : Nat) (a b : BitVec 32) : sl k (a ^^^ b) = sl k a ^^^ sl k b := by
  unfold sl; rw [BitVec.shiftLeft_xor_distrib, xx]
theorem sr_xor (k : Nat) (a b : BitVec 32) : sr k (a ^^^ b) = sr k a ^^^ sr k b := by
  unfold sr; rw [BitVec.ushiftRight_xor_distrib, xx]
theorem step32_xor (a b : BitVec 32) : step32 (a ^^^ b) = step32 a ^^^ step32 b := by
  unfold step32; rw [sl_xor, sr_xor, sl_xor]
theorem sl_fix {a : BitVec 32} {k : Nat} (hk : 0 < k) (h : sl k a = 0#32) : a = 0#32 := by
  have h1 : a = a <<< k := BitVec.xor_eq_zero_iff.1 h
  have h2 : ∀ n : Nat, a = a <<< (k * n) := by
    intro n
    induction n with
    | zero => simp
    | succ n ih =>
      rw [Nat.mul_succ, BitVec.shiftLeft_add, ← ih]; exact h1
  have h3 := h2 32
  rw [BitVec.shiftLeft_eq_zero (by omega)] at h3
  exact h3
theorem sr_fix {a : BitVec 32} {k : Nat} (hk : 0 < k) (h : sr k a = 0#32) : a = 0#32 := by
  have h1 : a = a >>> k := BitVec.xor_eq_zero_iff.1 h
  have h2 : ∀ n : Nat, a = a >>> (k * n) := by
    intro n
    induction n with
    | zero => simp
    | succ n ih =>
      rw [Nat.mul_succ, BitVec.shiftRight_add, ← ih]; exact h1
  have h3 := h2 32
  rw [BitVec.ushiftRight_eq_zero (by omega)] at h3
  exact h3
theorem step32_zero {a : BitVec 32} (h : step32 a = 0#32) : a = 0#32 :=
  sl_fix (by decide) (sr_fix (by decide) (sl_fix (by decide) h))
theorem step32_inj {a b : BitVec 32} (h : step32 a = step32 b) : a = b := by
  have h0 : step32 (a ^^^ b) = 0#32 := by rw [step32_xor, h]; exact BitVec.xor_self
  exact BitVec.xor_eq_zero_iff.1 (step32_zero h0)
theorem inv32 (s : Int) (hs : 0 ≤ s) (hs' : s ≤ 1001) : (s * 2654435761 % 4294967296) * 244002641 % 4294967296 = s := by
  rw [Int.mul_emod, Int.emod_emod, ← Int.mul_emod, Int.mul_assoc]
  have : (2654435761 : Int) * 244002641 = 150801925 * 4294967296 + 1 := by decide
  omega

/-- A draw's number as 32 bits: of what is no draw that of 1. -/
def seed (x : Int) : BitVec 32 := if 1 ≤ x ∧ x < 4294967296 then BitVec.ofInt 32 x else 1#32
/-- The next draw. -/
def nx (x : Int) : Int := ((step32 (seed x)).toNat : Int)
def goodB (x : Int) : Bool := decide (1 ≤ x) && decide (x < 4294967296)
theorem seed_toNat {x : Int} (h : 1 ≤ x ∧ x < 4294967296) : ((seed x).toNat : Int) = x := by
  obtain ⟨n, rfl⟩ := Int.eq_ofNat_of_zero_le (show (0 : Int) ≤ x by omega)
  unfold seed
  rw [if_pos h, BitVec.ofInt_natCast, BitVec.toNat_ofNat]
  omega
theorem seed_ne (x : Int) : seed x ≠ 0#32 := by
  intro h
  by_cases hx : 1 ≤ x ∧ x < 4294967296
  · have := seed_toNat hx
    rw [h] at this
    simp at this
    omega
  · unfold seed at h
    rw [if_neg hx] at h
    exact absurd h (by decide)
theorem nx_good (x : Int) : 1 ≤ nx x ∧ nx x < 4294967296 := by
  unfold nx
  have h : step32 (seed x) ≠ 0#32 := fun h => seed_ne x (step32_zero h)
  have h1 : (step32 (seed x)).toNat ≠ 0 := fun h0 => h (BitVec.eq_of_toNat_eq (by simpa using h0))
  have h2 := (step32 (seed x)).isLt
  omega
theorem nx_inj {x y : Int} (hx : 1 ≤ x ∧ x < 4294967296) (hy : 1 ≤ y ∧ y < 4294967296) : nx x = nx y ↔ x = y := by
  constructor
  · intro h
    unfold nx at h
    have h1 : step32 (seed x) = step32 (seed y) := BitVec.eq_of_toNat_eq (by omega)
    have h2 := step32_inj h1
    rw [← seed_toNat hx, ← seed_toNat hy, h2]
  · rintro rfl; rfl
theorem nx_bad {x : Int} (hx : ¬ (1 ≤ x ∧ x < 4294967296)) : nx x = nx 1 := by
  unfold nx seed
  rw [if_neg hx, if_pos (by omega)]
  rfl
def bg (t : Int) : Int := (t + 1) * 2654435761 % 4294967296
theorem bg_inv {s : Int} (hs : 0 ≤ s ∧ s ≤ 1000) : bg s * 244002641 % 4294967296 = s + 1 := inv32 (s + 1) (by omega) (by omega)
theorem bg_inj {s t : Int} (hs : 0 ≤ s ∧ s ≤ 1000) (ht : 0 ≤ t ∧ t ≤ 1000) : bg s = bg t ↔ s = t := by
  constructor
  · intro h
    have h1 := bg_inv hs
    rw [h, bg_inv ht] at h1
    omega
  · rintro rfl; rfl
theorem bg_good {s : Int} (hs : 0 ≤ s ∧ s ≤ 1000) : 1 ≤ bg s ∧ bg s < 4294967296 := by
  have h1 := bg_inv hs
  have h2 : 0 ≤ bg s := Int.emod_nonneg _ (by decide)
  have h3 : bg s < 4294967296 := Int.emod_lt_of_pos _ (by decide)
  have h4 : bg s ≠ 0 := by
    intro h
    rw [h, Int.zero_mul, Int.zero_emod] at h1
    omega
  omega
end Go.Proofs.Ytjhmgkddhgfpmaa
