/- The plain arithmetic of a ticket's words. No program is in sight. -/
import Derived.Test.YtcpkofbhkcpodaaPackPlain
namespace Go.Proofs.Ytcpkofbhkcpodaa
def knownB (s : Int) : Bool := decide (0 ≤ s) && decide (s ≤ 3)
theorem knownB_iff {s : Int} : knownB s = true ↔ 0 ≤ s ∧ s ≤ 3 := by simp [knownB]
theorem known_ok {s : Int} (h : knownB s = true) : okB 0 s = true := by
  rw [knownB_iff] at h
  rw [okB_iff]; omega
def stateN (w : Int) : Int := if knownB (val w) then val w else -1
theorem stateN_ok {w : Int} (h : knownB (val w) = true) : stateN w = val w := by unfold stateN; rw [if_pos h]
theorem stateN_no {w : Int} (h : knownB (val w) = false) : stateN w = -1 := by unfold stateN; rw [h]; rfl
def turnN (w s : Int) : Int := if knownB s then nextN w s else 0
theorem turnN_ok {w s : Int} (h : knownB s = true) : turnN w s = nextN w s := by unfold turnN; rw [if_pos h]
theorem turnN_no {w s : Int} (h : knownB s = false) : turnN w s = 0 := by unfold turnN; rw [h]; rfl
def bodyB (v n : Int) : Bool := decide (0 ≤ v) && decide (v < 12) && decide (1 ≤ n) && decide (n ≤ 1048576)
theorem bodyB_iff {v n : Int} : bodyB v n = true ↔ 0 ≤ v ∧ v < 12 ∧ 1 ≤ n ∧ n ≤ 1048576 := by simp [bodyB, and_assoc]
theorem bodyB_not {v n : Int} (h : v < 0 ∨ 12 ≤ v ∨ n < 1 ∨ 1048576 < n) : bodyB v n = false := by
  cases hb : bodyB v n
  · rfl
  · rw [bodyB_iff] at hb; omega
theorem bodyB_ways (v n : Int) : v < 0 ∨ (0 ≤ v ∧ 12 ≤ v) ∨ (0 ≤ v ∧ v < 12 ∧ n < 1) ∨ (0 ≤ v ∧ v < 12 ∧ 1 ≤ n) := by omega
def bodyN (v n : Int) : Int := if bodyB v n then v * 2097152 + n else 0
theorem bodyN_ok {v n : Int} (h : bodyB v n = true) : bodyN v n = v * 2097152 + n := by unfold bodyN; rw [if_pos h]
theorem bodyN_no {v n : Int} (h : bodyB v n = false) : bodyN v n = 0 := by unfold bodyN; rw [h]; rfl
theorem bodyB_cases (v n : Int) : bodyB v n = false ∨ (bodyB v n = true ∧ 0 ≤ v ∧ v < 12 ∧ 1 ≤ n ∧ n ≤ 1048576) := by
  cases h : bodyB v n
  · exact .inl rfl
  · exact .inr ⟨rfl, bodyB_iff.1 h⟩
theorem bodyB_no {v n : Int} (h : bodyB v n = false) : v < 0 ∨ 12 ≤ v ∨ n < 1 ∨ 1048576 < n := by
  by_cases h2 : v < 0 ∨ 12 ≤ v ∨ n < 1 ∨ 1048576 < n
  · exact h2
  · rw [bodyB_iff.2 (by omega)] at h
    cases h
/-- Is a word that of a tenant and an amount; its tenant, and its amount. -/
def ofB (w : Int) : Bool := bodyB (w / 2097152) (w % 2097152)
def ofV (w : Int) : Int := if ofB w then w / 2097152 else 0
def ofA (w : Int) : Int := if ofB w then w % 2097152 else 0
def handB (t : Int) : Bool := decide (0 ≤ t) && decide (t < 16)
theorem handB_iff {t : Int} : handB t = true ↔ 0 ≤ t ∧ t < 16 := by simp [handB]
def handN (t w : Int) : Int := if handB t then ver w * 16 + t else 0
theorem handN_ok {t w : Int} (h : handB t = true) : handN t w = ver w * 16 + t := by unfold handN; rw [if_pos h]
theorem handN_no {t w : Int} (h : handB t = false) : handN t w = 0 := by unfold handN; rw [h]; rfl
theorem handB_not {t : Int} (h : t < 0 ∨ 16 ≤ t) : handB t = false := by
  cases hb : handB t
  · rfl
  · rw [handB_iff] at hb; omega
def nameB (n k : Int) : Bool := decide (0 ≤ n) && decide (n % 16 < k) && decide (n / 16 < 4294967296)
theorem nameB_iff {n k : Int} : nameB n k = true ↔ 0 ≤ n ∧ n % 16 < k ∧ n / 16 < 4294967296 := by simp [nameB, and_assoc]
theorem nameB_not {n k : Int} (h : n < 0 ∨ k ≤ n % 16 ∨ 4294967296 ≤ n / 16) : nameB n k = false := by
  cases hb : nameB n k
  · rfl
  · rw [nameB_iff] at hb; omega
def nameT (n k : Int) : Int := if nameB n k then n % 16 else 0
def nameV (n k : Int) : Int := if nameB n k then n / 16 else 0
theorem ofV_ok {w : Int} (h : ofB w = true) : ofV w = w / 2097152 := by unfold ofV; rw [if_pos h]
theorem ofV_no {w : Int} (h : ofB w = false) : ofV w = 0 := by unfold ofV; rw [h]; rfl
theorem ofA_ok {w : Int} (h : ofB w = true) : ofA w = w % 2097152 := by unfold ofA; rw [if_pos h]
theorem ofA_no {w : Int} (h : ofB w = false) : ofA w = 0 := by unfold ofA; rw [h]; rfl
theorem nameT_ok {n k : Int} (h : nameB n k = true) : nameT n k = n % 16 := by unfold nameT; rw [if_pos h]
theorem nameT_no {n k : Int} (h : nameB n k = false) : nameT n k = 0 := by unfold nameT; rw [h]; rfl
theorem nameV_ok {n k : Int} (h : nameB n k = true) : nameV n k = n / 16 := by unfold nameV; rw [if_pos h]
theorem nameV_no {n k : Int} (h : nameB n k = false) : nameV n k = 0 := by unfold nameV; rw [h]; rfl
end Go.Proofs.Ytcpkofbhkcpodaa
