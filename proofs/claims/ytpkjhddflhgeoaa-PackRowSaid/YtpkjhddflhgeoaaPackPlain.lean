/- The plain arithmetic of two numbers in one word. No program is in sight. -/
namespace Go.Proofs.Ytpkjhddflhgeoaa
/-- A word's bits as a number from 0 on; its version, and its value; the word of a version and a value. -/
def nat64 (w : Int) : Int := w % 18446744073709551616
def ver (w : Int) : Int := nat64 w / 4294967296
def val (w : Int) : Int := (nat64 w % 4294967296 + 2147483648) % 4294967296 - 2147483648
def wd (v x : Int) : Int := (v * 4294967296 + x % 4294967296 + 9223372036854775808) % 18446744073709551616 - 9223372036854775808
def okB (v x : Int) : Bool := decide (0 ≤ v) && decide (v < 4294967296) && decide (-2147483648 ≤ x) && decide (x < 2147483648)
theorem nat64_bd (w : Int) : 0 ≤ nat64 w ∧ nat64 w < 18446744073709551616 := by unfold nat64; omega
theorem ver_bd (w : Int) : 0 ≤ ver w ∧ ver w < 4294967296 := by have := nat64_bd w; unfold ver; omega
theorem val_bd (w : Int) : -2147483648 ≤ val w ∧ val w < 2147483648 := by unfold val; omega
theorem wd_bd (v x : Int) : -9223372036854775808 ≤ wd v x ∧ wd v x ≤ 9223372036854775807 := by unfold wd; omega
theorem nat64_wd {v x : Int} (hv : 0 ≤ v ∧ v < 4294967296) : nat64 (wd v x) = v * 4294967296 + x % 4294967296 := by
  unfold nat64 wd; omega
theorem ver_wd {v x : Int} (hv : 0 ≤ v ∧ v < 4294967296) : ver (wd v x) = v := by
  unfold ver; rw [nat64_wd hv]; omega
theorem val_wd {v x : Int} (hv : 0 ≤ v ∧ v < 4294967296) (hx : -2147483648 ≤ x ∧ x < 2147483648) : val (wd v x) = x := by
  unfold val; rw [nat64_wd hv]; omega
theorem val_mod (w : Int) : val w % 4294967296 = nat64 w % 4294967296 := by unfold val; omega
theorem wd_back {w : Int} (hw : -9223372036854775808 ≤ w ∧ w ≤ 9223372036854775807) : wd (ver w) (val w) = w := by
  unfold wd
  rw [val_mod]
  unfold ver nat64
  omega
theorem wd_inj {a b : Int} (ha : -9223372036854775808 ≤ a ∧ a ≤ 9223372036854775807) (hb : -9223372036854775808 ≤ b ∧ b ≤ 9223372036854775807) : a = b ↔ ver a = ver b ∧ val a = val b := by
  constructor
  · rintro rfl; exact ⟨rfl, rfl⟩
  · rintro ⟨h1, h2⟩; rw [← wd_back ha, ← wd_back hb, h1, h2]
theorem okB_iff {v x : Int} : okB v x = true ↔ 0 ≤ v ∧ v < 4294967296 ∧ -2147483648 ≤ x ∧ x < 2147483648 := by
  simp [okB, and_assoc]
theorem okB_cases (v x : Int) : okB v x = false ∨ (okB v x = true ∧ 0 ≤ v ∧ v < 4294967296 ∧ -2147483648 ≤ x ∧ x < 2147483648) := by
  cases h : okB v x
  · exact .inl rfl
  · exact .inr ⟨rfl, okB_iff.1 h⟩
theorem okB_not {v x : Int} (h : okB v x = false) : v < 0 ∨ 4294967296 ≤ v ∨ x < -2147483648 ∨ 2147483648 ≤ x := by
  by_cases h2 : v < 0 ∨ 4294967296 ≤ v ∨ x < -2147483648 ∨ 2147483648 ≤ x
  · exact h2
  · rw [okB_iff.2 (by omega)] at h
    cases h
theorem beq_two {a b c d : Int} (h : a = b ↔ c = d) : ((a == b) == (c == d)) = true := by
  by_cases e : c = d
  · rw [h.2 e, e]; simp
  · have e' : ¬ a = b := fun x => e (h.1 x)
    rw [beq_eq_false_iff_ne.2 e, beq_eq_false_iff_ne.2 e']; rfl
/-- The next word's version. -/
def nv (w : Int) : Int := (ver w + 1) % 4294967296
theorem nv_bd (w : Int) : 0 ≤ nv w ∧ nv w < 4294967296 := by unfold nv; omega
def wordN (v x : Int) : Int := if okB v x then wd v x else 0
def nextN (w x : Int) : Int := if okB 0 x then wd (nv w) x else 0
theorem okB_nv (w x : Int) : okB (nv w) x = okB 0 x := by
  have h := nv_bd w
  rw [Bool.eq_iff_iff, okB_iff, okB_iff]
  omega
theorem wordN_ok {v x : Int} (h : okB v x = true) : wordN v x = wd v x := by unfold wordN; rw [if_pos h]
theorem wordN_no {v x : Int} (h : okB v x = false) : wordN v x = 0 := by unfold wordN; rw [h]; rfl
theorem nextN_ok {w x : Int} (h : okB 0 x = true) : nextN w x = wd (nv w) x := by unfold nextN; rw [if_pos h]
theorem nextN_no {w x : Int} (h : okB 0 x = false) : nextN w x = 0 := by unfold nextN; rw [h]; rfl
theorem nextN_word (w x : Int) : nextN w x = wordN (nv w) x := by
  unfold nextN wordN; rw [okB_nv]
theorem val_ok (w : Int) : okB 0 (val w) = true := by
  have := val_bd w
  rw [okB_iff]; omega
end Go.Proofs.Ytpkjhddflhgeoaa
