/- The walk of the law 'TraceEnds'. -/
import Derived.Test.YtkcpifmdjnfgaaaTraceLaw0
import Derived.Test.YtkcpifmdjnfgaaaTraceOpen
import Derived.BigQuiet
namespace Go.Proofs.Ytkcpifmdjnfgaaa.PTrace
set_option linter.unusedVariables false
set_option linter.unusedSimpArgs false
open Go.BigFrame Go.RowKit Go.Maps Go.Proofs.YtkcpifmdjnfgaaaW.PrintWords Go.Proofs.YtkcpifmdjnfgaaaW.PrintLast Go.Proofs.YtkcpifmdjnfgaaaW.PrintMore
attribute [local go_sem high] eqA32 eqA35

theorem ref_right_f {l : List S37} {t : Int} (hf : fitB l = true) : refRight.f l t = some (rightB l t) := by unfold refRight.f; rw [if_pos hf, right_ref]
theorem ends_f {l : List S37} (hf : fitB l = true) (ht : takesB l = true) : trace_Ends.f l = some (endsTo l l.length) := by unfold trace_Ends.f; rw [if_pos ⟨hf, ht⟩]
/-- A row of numbers of the call's own, as the walk reads it. -/
theorem ints_row {w : World} {base : Nat} {v : Value} {ok : Nat → Prop} {xs : List Int} (h : Kd.R (Kd.int .i64) 3 w base ok v xs) : ∃ A c, v = .slice A xs.length c ∧ ∀ i, i < xs.length → ∃ g, A = some ⟨g, 0, none⟩ ∧ base ≤ g ∧ g < w.heap.size ∧ w.cell? ⟨g, i, none⟩ = some (.int .i64 (xs.getD i 0)) := by
  have ho : w.ownsRow base 3 1 v xs.length (nums .i64 xs) := Kd.own_of_R h
  obtain ⟨A, c, rfl⟩ := row_form ho
  refine ⟨A, c, rfl, fun i hi => ?_⟩
  obtain ⟨g, cap, e, _, _, hB, hg⟩ := row_slice ho (by omega)
  injection e with e1 e2 e3
  subst e1 e3
  have := (own_at ho (i : Int) (by omega) (by omega)).1
  rw [Int.toNat_natCast] at this
  exact ⟨g, rfl, hB, hg, by rw [this]; unfold rd; rw [Int.toNat_natCast]⟩
theorem row_form4 {w : World} {B n : Nat} {v : Value} {xs : List Value} (h : w.ownsRow B 4 1 v n xs) : ∃ A c, v = .slice A n c ∧ (0 < n → ∃ g, A = some ⟨g, 0, none⟩ ∧ B ≤ g) := by
  obtain ⟨_, h⟩ := h
  rcases h with ⟨hv, h0⟩ | ⟨g, cap, cur, hv, hb, _⟩
  · exact ⟨none, 0, by rw [hv, h0], fun h => by omega⟩
  · exact ⟨_, _, hv, fun _ => ⟨g, rfl, hb⟩⟩
set_option maxHeartbeats 1000000 in
set_option maxRecDepth 100000 in
theorem ends_long (A0 : Option Addr) (c0 : Nat) (l0 : List S37) (a1 : Int) (w : World) (hm : (l0.length : Int) ≤ 9223372036854775807) (hl : (100 : Int) < l0.length) :
    Calls Try.prog 6 #[.slice A0 l0.length c0, .int .i64 a1] w fun e w' => e = .returned (.bool true) ∧ Below w.heap.size w w' := by
  go_enter Try.func6, Try.ntmps6
  go_wp2_with (go_at_call 8; refine (breadlinelaw18_head.calls 20 true _ head_true).mono ?_; rintro e w1 ⟨rfl, hb1⟩)
  go_ret
  exact ⟨rfl, hb1⟩
set_option maxHeartbeats 1000000 in
set_option maxRecDepth 100000 in
theorem ends_wrong (A0 : Option Addr) (c0 : Nat) (l0 : List S37) (a1 : Int) (w : World) (hr0 : Kd.C k37 w A0 l0.length l0) (hc0 : l0.length ≤ c0) (hl : (l0.length : Int) ≤ 100) (h : refRight.f l0 a1 = some false) :
    Calls Try.prog 6 #[.slice A0 l0.length c0, .int .i64 a1] w fun e w' => e = .returned (.bool true) ∧ Below w.heap.size w w' := by
  have HR0 := Lib.hid hr0
  have HH := Lib.hid h
  clear hr0 h
  go_enter Try.func6, Try.ntmps6
  go_wp2_with (first | (go_at_call 8; refine (breadlinelaw18_head.calls 20 true _ head_true).mono ?_; rintro e w1 ⟨rfl, hb1⟩) | (go_at_call 10; refine (refRight.calls _ _ l0 a1 false _ (Kd.C_below HR0.out hb1) hc0 HH.out).mono ?_; rintro e w2 ⟨rfl, hb2⟩))
  go_ret
  exact ⟨rfl, below_step hb1 hb2⟩
theorem ends_step {wr w4 : World} {g5 c5 k q : Nat} {l0 : List S37} (hR : Kd.bool.R 4 wr w4.heap.size (fun _ => True) (.slice (some ⟨g5, 0, none⟩) l0.length c5) (metTo l0 k)) (hnx : Below w4.heap.size w4 wr) (hg5 : w4.heap.size ≤ g5) (hE : eAt l0 k = (q : Int)) (nq : Nat) :
    Kd.bool.R 4 ((wr.drewN nq).setCell ⟨g5, q, none⟩ (.bool true)) w4.heap.size (fun _ => True) (.slice (some ⟨g5, 0, none⟩) l0.length c5) (metTo l0 (k + 1)) ∧ Below w4.heap.size w4 ((wr.drewN nq).setCell ⟨g5, q, none⟩ (.bool true)) := by
  have hR' : Kd.bool.R 4 wr w4.heap.size (fun _ => True) (.slice (some ⟨g5, 0, none⟩) (metTo l0 k).length c5) (metTo l0 k) := by rw [metTo_len]; exact hR
  obtain ⟨p1, p2⟩ := Kd.R_put (Kd.R_drewN hR' nq) (q : Int) true
  rw [Int.toNat_natCast] at p1 p2
  have hME : metTo l0 (k + 1) = (metTo l0 k).set q true := by rw [metTo, if_neg (by omega), hE, Int.toNat_natCast]
  rw [hME]
  rw [metTo_len] at p1
  exact ⟨p1, (below_drewN_ hnx nq).grown p2 hnx.size (fun j hj => by injection hj with hj; omega)⟩
theorem many_step {l0 : List S37} {k q : Nat} (hE : eAt l0 k = (q : Int)) : Value.int .i64 (((manyTo l0 k : Nat) : Int) + 1) = Value.int .i64 ((manyTo l0 (k + 1) : Nat) : Int) := by
  rw [manyTo, if_neg (by omega)]; rfl
set_option maxHeartbeats 4000000 in
set_option maxRecDepth 100000 in
theorem ends_main (A0 : Option Addr) (c0 : Nat) (l0 : List S37) (a1 : Int) (w : World) (hr0 : Kd.C k37 w A0 l0.length l0) (hc0 : l0.length ≤ c0) (hl : (l0.length : Int) ≤ 100) (hf : fitB l0 = true) (hr : rightB l0 a1 = true) :
    Calls Try.prog 6 #[.slice A0 l0.length c0, .int .i64 a1] w fun e w' => e = .returned (.bool true) ∧ Below w.heap.size w w' := by
  have HR0 := Lib.hid hr0
  have HT := Lib.hid (right_takes hr)
  have HH := Lib.hid (show refRight.f l0 a1 = some true by rw [ref_right_f hf, hr])
  have HF := Lib.hid hf
  have HCL := Lib.hid (calls_len l0)
  have HEL := Lib.hid (ends_len l0)
  have hbl := beginsTo_len l0 l0.length
  obtain ⟨m, hm⟩ : ∃ m, (beginsTo l0 l0.length).length = m := ⟨_, rfl⟩
  have HM := Lib.hid hm
  rw [hm] at hbl
  have HCm : Hid ((callsTo l0 l0.length).length = m) := Lib.hid (by rw [HCL.out, HM.out])
  have HEm : Hid ((endsTo l0 l0.length).length = m) := Lib.hid (by rw [HEL.out, HM.out])
  clear hr0 hr hf hm
  go_enter Try.func6, Try.ntmps6
  go_wp2_with (first
    | (go_at_call 8; refine (breadlinelaw18_head.calls 20 true _ head_true).mono ?_; rintro e w1 ⟨rfl, hb1⟩)
    | (go_at_call 10; refine (refRight.calls _ _ l0 a1 true _ (Kd.C_below HR0.out hb1) hc0 HH.out).mono ?_; rintro e w2 ⟨rfl, hb2⟩; have hb12 := below_step hb1 hb2)
    | (go_at_call 14; refine (trace_Calls.calls 1000 _ _ l0 (callsTo l0 l0.length) _ (Kd.C_below HR0.out hb12) hc0 (calls_f l0 (by omega) _ (by omega))).mono ?_; rintro e w3 ⟨v3, rfl, hR3, hb3⟩; have hb13 := below_step hb12 hb3; obtain ⟨A3, c3, rfl, hc3⟩ := ints_row hR3)
    | (go_at_call 12; refine (trace_Ends.calls _ _ l0 (endsTo l0 l0.length) _ (Kd.C_below HR0.out hb13) hc0 (ends_f HF.out HT.out)).mono ?_; rintro e w4 ⟨v4, rfl, hR4, hb4⟩; have hb14 := below_step hb13 hb4; obtain ⟨A4, c4, rfl, hc4⟩ := ints_row hR4; rw [HEm.out, HCm.out])
    | (refine Kd.R_make Kd.bool (w0 := w4) w4.heap.size 4 rfl rfl 38 _ _ rfl (l0.length : Int) rfl rfl Try.underlying38 (.bool false) 1 info4 rfl (by decide) (by decide) false (ok := fun _ => True) (okp := fun _ => True) rfl (fun _ hk => hk) trivial (by omega) (by rw [Int.toNat_natCast]; omega) (Below.refl _ _) (Nat.le_refl _) ?_; intro v5 w5 hR5 hb5 hg5 hn5))
  have hR5' : Kd.bool.R 4 w5 w4.heap.size (fun _ => True) v5 (metTo l0 0) := by
    have e : metTo l0 0 = List.replicate ((l0.length : Int)).toNat false := by rw [Int.toNat_natCast]; rfl
    rw [e]; exact hR5
  obtain ⟨A5, c5, rfl, hA5⟩ := row_form4 (Kd.own_of_R hR5')
  rw [metTo_len] at hR5' hA5 ⊢
  have h34 := hb4.size
  have hb14' : Hid (∀ a : Addr, a.block < w3.heap.size → w4.cell? a = w3.cell? a) := Lib.hid (fun a ha => hb4.cell ha)
  have HC3 := Lib.hid hc3
  have HC4 := Lib.hid hc4
  have HA5 := Lib.hid hA5
  have HR4 := Lib.hid (Kd.C_below HR0.out hb14)
  clear hc3 hc4 hA5 hR3 hR4 hR5 hg5 hn5 hb1 hb2 hb12 hb13 hb3 HCL HEL HF HH
  go_loopw [9, 10] (fun mv iv wr => ∃ k : Nat, k ≤ m ∧ iv = .int .i64 k ∧ mv = .int .i64 (manyTo l0 k) ∧ Kd.bool.R 4 wr w4.heap.size (fun _ => True) (.slice A5 l0.length c5) (metTo l0 k) ∧ Below w4.heap.size w4 wr)
    (fun _ iv _ => m - (intOf iv).toNat)
  case atStart => exact ⟨0, Nat.zero_le _, rfl, rfl, hR5', hb5⟩
  case round =>
    obtain ⟨k, hk, rfl, rfl, hR, hnx⟩ := hrel
    clear hR5' hb5 hb4
    by_cases hlt : k < m
    · obtain ⟨b, b1, b2, b3, hE⟩ := call_at HT.out (i := k) (by rw [HM.out]; exact hlt)
      obtain ⟨g3, e3, hg3, hg3', x3⟩ := HC3.out k (by rw [HCm.out]; exact hlt)
      obtain ⟨g4, e4, hg4, hg4', x4⟩ := HC4.out k (by rw [HEm.out]; exact hlt)
      subst e3 e4
      obtain ⟨g5, e5, hg5⟩ := HA5.out (by omega)
      subst e5
      have hn4 := hnx.size
      have X3 : Hid (∀ W, Below w4.heap.size w4 W → W.cell? ⟨g3, k, none⟩ = some (.int .i64 (b : Int))) := Lib.hid (fun W h => by
        rw [h.cell (show g3 < w4.heap.size by omega), hb14'.out ⟨g3, k, none⟩ hg3', x3]; exact congrArg (fun z => some (Value.int .i64 z)) b3)
      replace x3 : wr.cell? ⟨g3, k, none⟩ = some (.int .i64 (b : Int)) := by
        rw [hnx.cell (show g3 < w4.heap.size by omega), hb14'.out ⟨g3, k, none⟩ hg3', x3]; exact congrArg (fun z => some (Value.int .i64 z)) b3
      replace x4 : wr.cell? ⟨g4, k, none⟩ = some (.int .i64 (eAt l0 k)) := by
        rw [hnx.cell (show g4 < w4.heap.size by omega), x4]; rfl
      have hrw := Kd.C_below HR4.out hnx
      obtain ⟨ad, e, y0, y1, y2, y3, y4, y5, y6, y7, y8, y9⟩ := at_ev hrw b b1
      subst e
      have hk0 : (0 : Int) ≤ (k : Int) := by omega
      have hk1 : (k : Int) < (m : Int) := by omega
      have hb0 : (0 : Int) ≤ (b : Int) := by omega
      have hbn : (b : Int) < (l0.length : Int) := by omega
      have hbd0 : decide ((b : Int) < 0) = false := decide_eq_false (by omega)
      have hbd1 : decide ((l0.length : Int) ≤ (b : Int)) = false := decide_eq_false (by omega)
      have hkb : ((ev l0 b).f2 != 1) = false := by rw [b2]; rfl
      have HRW := Lib.hid hrw
      clear y0 y7 y8 y9 y6 hrw
      rcases hE with ⟨hE, hno⟩ | ⟨q, hE, q1, q2, q3, q4, q5, q6⟩
      · rw [hE] at x4
        have HNO := Lib.hid hno
        have HME : Hid (metTo l0 (k + 1) = metTo l0 k) := Lib.hid (by rw [metTo, if_pos (by omega)])
        have HMN : Hid (manyTo l0 (k + 1) = manyTo l0 k) := Lib.hid (by rw [manyTo, if_pos (by omega)])
        have hn1 : decide ((l0.length : Int) ≤ -1) = false := decide_eq_false (by omega)
        clear hno hE
        go_wp2_with fail
        clear x3 x4 y1 y2 y3 y4 y5
        go_loopw [11] (fun jv wj => ∃ j : Nat, b < j ∧ j ≤ l0.length ∧ jv = .int .i64 j ∧ Kd.bool.R 4 wj w4.heap.size (fun _ => True) (.slice (some ⟨g5, 0, none⟩) l0.length c5) (metTo l0 k) ∧ Below w4.heap.size w4 wj)
          (fun jv _ => l0.length - (intOf jv).toNat)
        case atStart => exact ⟨b + 1, by omega, by omega, by go_num, hR, hnx⟩
        case round =>
          obtain ⟨j, hj, hjn, rfl, hRj, hnj⟩ := hrel
          by_cases hjl : j < l0.length
          · have x3 := X3.out _ hnj
            have hrj := Kd.C_below HR4.out hnj
            obtain ⟨ad1, e1, y0, y1, y2, y3, y4, y5, y6, y7, y8, y9⟩ := at_ev hrj b b1
            obtain rfl : ad = ad1 := by injection e1
            obtain ⟨ad2, e2, z0, z1, z2, z3, z4, z5, z6, z7, z8, z9⟩ := at_ev hrj j hjl
            obtain rfl : ad = ad2 := by injection e2
            have hj0 : (0 : Int) ≤ (j : Int) := by omega
            have hj1 : (j : Int) < (l0.length : Int) := by omega
            have hne : ((ev l0 j).f1 == (ev l0 b).f1) = false := beq_eq_false_iff_ne.2 (HNO.out j hj hjl)
            clear e1 e2 y0 y2 y3 y4 y5 y6 y7 y8 y9 z0 z2 z3 z4 z5 z6 z7 z8 z9 hrj hkb
            go_wp2_with fail
            go_big_quiet (fail)
            go_wp2_with fail
            go_roundw
            case rel => exact ⟨j + 1, by omega, by omega, by go_num, Kd.R_drewN hRj _, below_drewN_ hnj _⟩
            case measure => simp [intOf]; omega
          · have hje : j = l0.length := by omega
            subst hje
            clear hjl hkb
            go_wp2_with fail
            go_roundw
            case rel => exact ⟨k + 1, by omega, by go_num, by rw [HMN.out], by rw [HME.out]; exact hRj, hnj⟩
            case measure => simp [intOf]; omega
      · rw [hE] at x4
        obtain ⟨ad1, e1, z0, z1, z2, z3, z4, z5, z6, z7, z8, z9⟩ := at_ev HRW.out q q2
        obtain rfl : ad = ad1 := by injection e1
        have hmet := Lib.hid (met_not HT.out (i := k) (by rw [HM.out]; exact hlt) hE)
        have hcell := Kd.R_cell (d := false) (by rw [metTo_len]; exact hR) (q : Int) (by omega) (by rw [metTo_len]; omega)
        rw [hmet.out, Int.toNat_natCast] at hcell
        have HST := Lib.hid (fun nq : Nat => ends_step hR hnx hg5 hE nq)
        have HMS := Lib.hid (many_step (l0 := l0) (k := k) hE)
        obtain ⟨hc5, hf5⟩ := hcell
        have hmle := manyTo_le l0 k
        have hq0 : (0 : Int) ≤ (q : Int) := by omega
        have hq1 : (q : Int) < (l0.length : Int) := by omega
        have hd1 : decide ((l0.length : Int) ≤ (q : Int)) = false := decide_eq_false (by omega)
        have hd2 : decide ((q : Int) < -1) = false := decide_eq_false (by omega)
        have hd3 : decide ((q : Int) < 0) = false := decide_eq_false (by omega)
        have hd4 : decide ((q : Int) ≤ (b : Int)) = false := decide_eq_false (by omega)
        have hd4' : decide (q ≤ b) = false := decide_eq_false (by omega)
        have hd1' : decide (l0.length ≤ q) = false := decide_eq_false (by omega)
        have hd5 : ((ev l0 q).f2 != 2) = false := by rw [q4]; rfl
        have hd6 : ((ev l0 q).f1 != (ev l0 b).f1) = false := by rw [q3]; simp
        simp only [callB, Bool.and_eq_true, beq_iff_eq] at q5
        obtain ⟨s0, s1, s2⟩ := q5
        have hs0 : ((ev l0 q).f3.f0 == (ev l0 b).f3.f0) = true := by rw [s0]; simp
        have hs1 : ((ev l0 q).f3.f1 == (ev l0 b).f3.f1) = true := by rw [s1]; simp
        have hs2 : ((ev l0 q).f3.f2 == (ev l0 b).f3.f2) = true := by rw [s2]; simp
        clear q3 q4 q6 e1 hE s0 s1 s2 z0 z6 z7 z8 z9 hmet
        go_wp2_with fail
        go_quiet (fail)
        go_wp2_with fail
        go_roundw
        case rel => exact ⟨k + 1, by omega, by go_num, HMS.out, (HST.out nq).1, (HST.out nq).2⟩
        case measure => simp [intOf]; omega
    · have hke : k = m := by omega
      subst hke
      have HMA : Hid (manyTo l0 k + k = l0.length) := Lib.hid (by have := many_all HT.out; rw [HM.out] at this; exact this)
      have hmle := manyTo_le l0 k
      have hsum : (((manyTo l0 k : Nat) : Int) + (k : Int) == (l0.length : Int)) = true := by rw [beq_iff_eq]; have := HMA.out; omega
      clear hlt
      go_wp2_with fail
      go_ret
      exact ⟨rfl, below_step hb14 hnx⟩
theorem ends_any (A0 : Option Addr) (c0 : Nat) (l0 : List S37) (a1 : Int) (w : World) (hr0 : Kd.C k37 w A0 l0.length l0) (hc0 : l0.length ≤ c0) (hm0 : c0 ≤ maxLen) (hw : ∀ e ∈ l0, (Lit.int .i64 e.f1).wf = true) :
    Calls Try.prog 6 #[.slice A0 l0.length c0, .int .i64 a1] w fun e w' => e = .returned (.bool true) ∧ Below w.heap.size w w' := by
  unfold maxLen at hm0
  by_cases hl : (100 : Int) < l0.length
  · exact ends_long A0 c0 l0 a1 w (by omega) hl
  · have hf : fitB l0 = true := fit_of (by omega) hw
    cases hr : rightB l0 a1 with
    | false => exact ends_wrong A0 c0 l0 a1 w hr0 hc0 (by omega) (by rw [ref_right_f hf, hr])
    | true => exact ends_main A0 c0 l0 a1 w hr0 hc0 (by omega) hf hr
end Go.Proofs.Ytkcpifmdjnfgaaa.PTrace
