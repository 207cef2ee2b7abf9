/- The plain facts of bodies and handles that the laws want. No program is in sight. -/
import Derived.Test.YtcpkofbhkcpodaaSlotWalks2
namespace Go.Proofs.Ytcpkofbhkcpodaa
theorem of_ways (w : Int) : (ofB w = false ∧ ofV w = 0 ∧ ofA w = 0) ∨ (ofB w = true ∧ bodyB (ofV w) (ofA w) = true ∧ bodyN (ofV w) (ofA w) = w) := by
  cases h : ofB w
  · exact .inl ⟨rfl, ofV_no h, ofA_no h⟩
  · refine .inr ⟨rfl, ?_⟩
    rw [ofV_ok h, ofA_ok h]
    have hb : bodyB (w / 2097152) (w % 2097152) = true := h
    rw [bodyN_ok hb]
    exact ⟨hb, by omega⟩
theorem body_facts {v n : Int} (h1 : 0 ≤ v) (h2 : v < 12) (h3 : 1 ≤ n) (h4 : n ≤ 1048576) :
    bodyB v n = true ∧ bodyN v n = v * 2097152 + n ∧ ofB (bodyN v n) = true ∧ ofV (bodyN v n) = v ∧ ofA (bodyN v n) = n := by
  have hb : bodyB v n = true := bodyB_iff.2 ⟨h1, h2, h3, h4⟩
  have hn := bodyN_ok hb
  have e1 : (v * 2097152 + n) / 2097152 = v := by omega
  have e2 : (v * 2097152 + n) % 2097152 = n := by omega
  have ho : ofB (bodyN v n) = true := by unfold ofB; rw [hn, e1, e2]; exact hb
  refine ⟨hb, hn, ho, ?_, ?_⟩
  · rw [ofV_ok ho, hn, e1]
  · rw [ofA_ok ho, hn, e2]
theorem hand_facts {t w : Int} (h1 : 0 ≤ t) (h2 : t < 16) :
    handB t = true ∧ handN t w = ver w * 16 + t ∧ nameB (handN t w) 16 = true ∧ nameT (handN t w) 16 = t ∧ nameV (handN t w) 16 = ver w := by
  have hb : handB t = true := handB_iff.2 ⟨h1, h2⟩
  have hn := handN_ok (w := w) hb
  have hv := ver_bd w
  have e1 : (ver w * 16 + t) % 16 = t := by omega
  have e2 : (ver w * 16 + t) / 16 = ver w := by omega
  have ho : nameB (handN t w) 16 = true := by rw [nameB_iff, hn, e1, e2]; omega
  refine ⟨hb, hn, ho, ?_, ?_⟩
  · rw [nameT_ok ho, hn, e1]
  · rw [nameV_ok ho, hn, e2]
theorem name_ways (n k : Int) : (nameB n k = false ∧ nameT n k = 0 ∧ nameV n k = 0) ∨
    (nameB n k = true ∧ nameT n k < k ∧ 0 ≤ nameT n k ∧ okB (nameV n k) 0 = true ∧ handB (nameT n k) = true ∧ handN (nameT n k) (wordN (nameV n k) 0) = n) := by
  cases h : nameB n k
  · exact .inl ⟨rfl, nameT_no h, nameV_no h⟩
  · have hi := nameB_iff.1 h
    have hv : okB (nameV n k) 0 = true := by rw [nameV_ok h, okB_iff]; omega
    have hh : handB (nameT n k) = true := by rw [nameT_ok h, handB_iff]; omega
    refine .inr ⟨rfl, by rw [nameT_ok h]; omega, by rw [nameT_ok h]; omega, hv, hh, ?_⟩
    rw [handN_ok hh, wordN_ok hv, ver_wd (by rw [nameV_ok h]; omega), nameT_ok h, nameV_ok h]
    omega
theorem hand_ways (t : Int) : t < 0 ∨ (0 ≤ t ∧ 16 ≤ t) ∨ (0 ≤ t ∧ t < 16) := by omega
theorem turn_facts (w s k : Int) (hs : knownB s = true) (hk : handB k = true) :
    ∃ Z, turnN w s = Z ∧ stateN Z = s ∧ (handN k w != handN k Z) = true ∧ (Z != w) = true := by
  have ho := okB_iff.1 (known_ok hs)
  have hv := ver_wd (x := s) (nv_bd w)
  have hx := val_wd (nv_bd w) ⟨ho.2.2.1, ho.2.2.2⟩
  have hne : nv w ≠ ver w := by
    have := ver_bd w
    unfold nv
    omega
  refine ⟨wd (nv w) s, ?_, ?_, ?_, ?_⟩
  · rw [turnN_ok hs, nextN_ok (known_ok hs)]
  · rw [stateN_ok (by rw [hx]; exact hs), hx]
  · rw [bne_iff_ne, handN_ok hk, handN_ok hk, hv]
    omega
  · rw [bne_iff_ne]
    intro h
    rw [h] at hv
    exact hne hv.symm
theorem state_facts (v x : Int) (h1 : 0 ≤ v) (h2 : v < 4294967296) (h3 : -2147483648 ≤ x) (h4 : x < 2147483648) :
    ((x < 0 ∨ 3 < x) → stateN (wordN v x) = -1) ∧ (0 ≤ x ∧ x ≤ 3 → stateN (wordN v x) = x) := by
  have ho : okB v x = true := okB_iff.2 ⟨h1, h2, h3, h4⟩
  have hx := val_wd ⟨h1, h2⟩ ⟨h3, h4⟩
  rw [wordN_ok ho]
  refine ⟨fun h => stateN_no ?_, fun h => ?_⟩
  · rw [hx]; simp [knownB]; omega
  · rw [stateN_ok (by rw [hx]; exact knownB_iff.2 h), hx]
theorem apart_hands (t u v w : Int) (t1 : 0 ≤ t) (t2 : t < 16) (u1 : 0 ≤ u) (u2 : u < 16) (v1 : 0 ≤ v) (v2 : v < 4294967296) (w1 : 0 ≤ w) (w2 : w < 4294967296) :
    handN t (wordN v 0) = handN u (wordN w 0) ↔ t = u ∧ v = w := by
  rw [handN_ok (handB_iff.2 ⟨t1, t2⟩), handN_ok (handB_iff.2 ⟨u1, u2⟩), wordN_ok (okB_iff.2 ⟨v1, v2, by omega, by omega⟩), wordN_ok (okB_iff.2 ⟨w1, w2, by omega, by omega⟩), ver_wd ⟨v1, v2⟩, ver_wd ⟨w1, w2⟩]
  omega
theorem apart_bodies (t u m n : Int) (t1 : 0 ≤ t) (t2 : t < 12) (u1 : 0 ≤ u) (u2 : u < 12) (m1 : 1 ≤ m) (m2 : m ≤ 1048576) (n1 : 1 ≤ n) (n2 : n ≤ 1048576) :
    bodyN t m = bodyN u n ↔ t = u ∧ m = n := by
  rw [bodyN_ok (bodyB_iff.2 ⟨t1, t2, m1, m2⟩), bodyN_ok (bodyB_iff.2 ⟨u1, u2, n1, n2⟩)]
  omega
end Go.Proofs.Ytcpkofbhkcpodaa
