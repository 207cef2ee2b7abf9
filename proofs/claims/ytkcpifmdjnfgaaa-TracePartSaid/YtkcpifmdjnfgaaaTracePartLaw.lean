/- The walk of the law 'TracePart'. -/
import Derived.Test.YtkcpifmdjnfgaaaTracePart0
import Derived.Test.YtkcpifmdjnfgaaaTraceOpen
import Derived.BigQuiet
namespace Go.Proofs.Ytkcpifmdjnfgaaa.PTrace
set_option linter.unusedVariables false
set_option linter.unusedSimpArgs false
open Go.BigFrame Go.RowKit Go.Maps Go.Proofs.YtkcpifmdjnfgaaaW.PrintWords Go.Proofs.YtkcpifmdjnfgaaaW.PrintLast Go.Proofs.YtkcpifmdjnfgaaaW.PrintMore

theorem part_ref_f {l : List S37} {t : Int} (hf : fitB l = true) : refRight.f l t = some (rightB l t) := by unfold refRight.f; rw [if_pos hf, right_ref]
theorem part_right_calls (A0 : Option Addr) (c0 k : Nat) (l0 : List S37) (a1 : Int) (r : Bool) (w : World) (hr0 : Kd.C k37 w A0 l0.length l0) (hc0 : l0.length ≤ c0) (hk : k ≤ l0.length) (h : trace_Right.f (l0.take k) a1 = some r) :
    Calls Try.prog 9 #[.slice A0 k c0, .int .i64 a1] w fun e w' => e = .returned (.bool r) ∧ Below w.heap.size w w' := by
  have hlen : (l0.take k).length = k := by rw [List.length_take]; omega
  have := trace_Right.calls A0 c0 (l0.take k) a1 r w (Kd.C_take hr0 hk) (by omega) h
  rwa [hlen] at this
theorem part_most_calls (A0 : Option Addr) (c0 k : Nat) (l0 : List S37) (r : Int) (w : World) (hr0 : Kd.C k37 w A0 l0.length l0) (hc0 : l0.length ≤ c0) (hk : k ≤ l0.length) (h : trace_Most.f (l0.take k) = some r) :
    Calls Try.prog 18 #[.slice A0 k c0] w fun e w' => e = .returned (.int .i64 r) ∧ Below w.heap.size w w' := by
  have hlen : (l0.take k).length = k := by rw [List.length_take]; omega
  have := trace_Most.calls A0 c0 (l0.take k) r w (Kd.C_take hr0 hk) (by omega) h
  rwa [hlen] at this
set_option maxHeartbeats 1000000 in
set_option maxRecDepth 100000 in
theorem part_long (A0 : Option Addr) (c0 : Nat) (l0 : List S37) (a1 a2 : Int) (w : World) (hm : (l0.length : Int) ≤ 9223372036854775807) (hl : (100 : Int) < l0.length) :
    Calls Try.prog 7 #[.slice A0 l0.length c0, .int .i64 a1, .int .u8 a2] w fun e w' => e = .returned (.bool true) ∧ Below w.heap.size w w' := by
  go_enter Try.func7, Try.ntmps7
  go_wp2_with (go_at_call 8; refine (breadlinelaw18_head.calls 20 true _ head_true).mono ?_; rintro e w1 ⟨rfl, hb1⟩)
  go_ret
  exact ⟨rfl, hb1⟩
set_option maxHeartbeats 1000000 in
set_option maxRecDepth 100000 in
theorem part_wrong (A0 : Option Addr) (c0 : Nat) (l0 : List S37) (a1 a2 : Int) (r : Bool) (w : World) (hr0 : Kd.C k37 w A0 l0.length l0) (hc0 : l0.length ≤ c0) (hl : (l0.length : Int) ≤ 100) (h : refRight.f l0 a1 = some r) (hor : r = false ∨ (r = true ∧ a1 < 0) ∨ (r = true ∧ 0 ≤ a1 ∧ 100 < a1)) :
    Calls Try.prog 7 #[.slice A0 l0.length c0, .int .i64 a1, .int .u8 a2] w fun e w' => e = .returned (.bool true) ∧ Below w.heap.size w w' := by
  have HR0 := Lib.hid hr0
  have HH := Lib.hid h
  clear hr0 h
  rcases hor with rfl | ⟨rfl, h1⟩ | ⟨rfl, h1, h2⟩
  · go_enter Try.func7, Try.ntmps7
    go_wp2_with (first | (go_at_call 8; refine (breadlinelaw18_head.calls 20 true _ head_true).mono ?_; rintro e w1 ⟨rfl, hb1⟩) | (go_at_call 10; refine (refRight.calls _ _ l0 a1 false _ (Kd.C_below HR0.out hb1) hc0 HH.out).mono ?_; rintro e w2 ⟨rfl, hb2⟩))
    go_ret
    exact ⟨rfl, below_step hb1 hb2⟩
  · go_enter Try.func7, Try.ntmps7
    go_wp2_with (first | (go_at_call 8; refine (breadlinelaw18_head.calls 20 true _ head_true).mono ?_; rintro e w1 ⟨rfl, hb1⟩) | (go_at_call 10; refine (refRight.calls _ _ l0 a1 true _ (Kd.C_below HR0.out hb1) hc0 HH.out).mono ?_; rintro e w2 ⟨rfl, hb2⟩))
    go_ret
    exact ⟨rfl, below_step hb1 hb2⟩
  · go_enter Try.func7, Try.ntmps7
    go_wp2_with (first | (go_at_call 8; refine (breadlinelaw18_head.calls 20 true _ head_true).mono ?_; rintro e w1 ⟨rfl, hb1⟩) | (go_at_call 10; refine (refRight.calls _ _ l0 a1 true _ (Kd.C_below HR0.out hb1) hc0 HH.out).mono ?_; rintro e w2 ⟨rfl, hb2⟩))
    go_ret
    exact ⟨rfl, below_step hb1 hb2⟩
theorem odd_calls (A0 : Option Addr) (c0 : Nat) (l0 : List S37) (t a1 : Int) (r : Bool) (w : World) (hr0 : Kd.C k37 w A0 (l0 ++ [oddOf t]).length (l0 ++ [oddOf t])) (hc0 : l0.length + 1 ≤ c0) (h : trace_Right.f (l0 ++ [oddOf t]) a1 = some r) :
    Calls Try.prog 9 #[.slice A0 (l0.length + 1) c0, .int .i64 a1] w fun e w' => e = .returned (.bool r) ∧ Below w.heap.size w w' := by
  have hlen : (l0 ++ [oddOf t]).length = l0.length + 1 := by simp
  have := trace_Right.calls A0 c0 (l0 ++ [oddOf t]) a1 r w hr0 (by rw [hlen]; exact hc0) h
  rwa [hlen] at this
set_option maxHeartbeats 4000000 in
set_option maxRecDepth 100000 in
theorem part_after (A0 : Option Addr) (c0 : Nat) (l0 : List S37) (a1 a2 : Int) (w : World) (hr0 : Kd.C k37 w A0 l0.length l0) (hc0 : l0.length ≤ c0) (hcm : (c0 : Int) ≤ 9223372036854775807) (hl : (l0.length : Int) ≤ 100) (hf : fitB l0 = true) (hr : rightB l0 a1 = true) (h0 : 0 ≤ a1) (h1 : a1 ≤ 100) (ha0 : 0 ≤ a2) (ha1 : a2 ≤ 255) (hpos0 : 0 < l0.length) (hlast : 1152921504606846976 < wasAt l0 l0.length) :
    Calls Try.prog 7 #[.slice A0 l0.length c0, .int .i64 a1, .int .u8 a2] w fun e w' => e = .returned (.bool true) ∧ Below w.heap.size w w' := by
  have HR0 := Lib.hid hr0
  have HH := Lib.hid (show refRight.f l0 a1 = some true by rw [part_ref_f hf, hr])
  obtain ⟨k, hk⟩ : ∃ k : Nat, Int.tmod a2 ((l0.length : Int) + 1) = (k : Int) := ⟨(Int.tmod a2 ((l0.length : Int) + 1)).toNat, by have := Int.tmod_nonneg ((l0.length : Int) + 1) ha0; omega⟩
  have hkl : k ≤ l0.length := by have := Int.tmod_lt_of_pos a2 (show (0 : Int) < (l0.length : Int) + 1 by omega); omega
  have HR1 : Hid (trace_Right.f (l0.take k) a1 = some true) := Lib.hid (by rw [right_f (fit_take hf k), part_right hr hkl])
  have HR2 : Hid (trace_Right.f (l0 ++ [oddOf a1]) a1 = some false) := Lib.hid (by rw [right_f (fit_more hf (by omega) h0 h1), odd_wrong])
  have HM1 := Lib.hid (most_f (fit_take hf k))
  have HM2 := Lib.hid (most_f hf)
  have hmm : mostTo (l0.take k) (l0.take k).length ≤ mostTo l0 l0.length := part_most l0 hkl
  have hmb := mostTo_bd l0 l0.length
  have hmc := mostTo_bd (l0.take k) (l0.take k).length
  have HR3 : Hid (wasAt l0 l0.length ≤ 1152921504606846976 → trace_Right.f (l0 ++ [oddOf a1]) (a1 + 1) = some true) := Lib.hid (fun h => by rw [right_f (fit_more hf (by omega) h0 h1), odd_right hr h0 h])
  generalize mostTo (l0.take k) (l0.take k).length = mk at *
  generalize mostTo l0 l0.length = ml at *
  obtain ⟨i0, hi0, _⟩ := info_parts info37
  have hcut := cut_to (P := Try.prog) 22 37 .i64 Try.underlying22 hi0 A0 l0.length c0 (k : Int) (by omega) (by omega) hc0
  rw [Int.toNat_natCast] at hcut
  have hk0 : (0 : Int) ≤ (k : Int) := by omega
  have hk1 : (k : Int) ≤ (l0.length : Int) := by omega
  have hk2 : (k : Int) ≤ (c0 : Int) := by omega
  have hc1 : (l0.length : Int) ≤ (c0 : Int) := by omega
  have hle : decide (mk ≤ ml) = true := decide_eq_true hmm
  obtain ⟨q, hq⟩ : ∃ q : Nat, l0.length = q + 1 := ⟨l0.length - 1, by omega⟩
  obtain ⟨ad, e, _, _, _, _, _, _, _, _, _, _⟩ := at_ev hr0 q (by omega)
  subst e
  have hql : q < l0.length := by omega
  have hqv : (l0.length : Int) - 1 = (q : Int) := by omega
  have hqw : IntKind.i64.wrap (q : Int) = (q : Int) := IntWalk.i64_in _ (by omega)
  have hq0 : (0 : Int) ≤ (q : Int) := by omega
  have hq1 : (q : Int) < (l0.length : Int) := by omega
  have hwas : wasAt l0 l0.length = (ev l0 q).f0 := by rw [hq]; rfl
  rw [hwas] at hlast HR3
  have HQ := Lib.hid hq
  have hpos : decide ((0 : Int) < (l0.length : Int)) = true := decide_eq_true (by omega)
  have hpos' : decide (0 < l0.length) = true := decide_eq_true (by omega)
  clear hq hwas hpos0
  have hlg : decide (1152921504606846976 < (ev l0 q).f0) = true := decide_eq_true hlast
  clear HR3
  clear hr0 hr hf hi0
  have HCUT := Lib.hid hcut
  clear hcut
  go_enter Try.func7, Try.ntmps7
  go_wp2_with (first
    | (go_at_call 8; refine (breadlinelaw18_head.calls 20 true _ head_true).mono ?_; rintro e w1 ⟨rfl, hb1⟩)
    | (go_at_call 10; refine (refRight.calls _ _ l0 a1 true _ (Kd.C_below HR0.out hb1) hc0 HH.out).mono ?_; rintro e w2 ⟨rfl, hb2⟩; have hb12 := below_step hb1 hb2)
    | ((with_reducible refine gate_dst (N := 35) rfl ?_); refine Kd.R_lit k37 (w0 := w2) w2.heap.size 37 rfl rfl (xs := ([] : List S37)) (inner := []) (ok := fun _ => True) (okp := fun _ => True) ?hr (Reps.none _ _) (fun _ hk => hk) trivial (Below.refl _ _) (Nat.le_refl _) (by simp) ?_; (case hr => first | (go_simp; done) | (go_simp; rfl)); intro v3 w3 hO3 hb3 _ _; have hb13 := below_step hb12 hb3)
    | ((with_reducible refine gate_dst (N := 37) rfl ?_); refine Kd.R_append_rows k37 (w0 := w2) w2.heap.size rfl (.tmp 35) (.tmp 36) 22 37 (.agg #[(.int .i64 0), (.int .i64 0), (.int .i64 0), (.int .i64 0), (.int .i64 0), (.int .i64 0), (.int .i64 0), (.int .i64 0), (.bool false), (.int .i64 0)]) 80 rfl Try.underlying22 info37 rfl (by decide) (by omega) v3 [] l0 _ _ _ (fun _ => True) (fun _ => False) rfl rfl hO3 (Kd.C_below HR0.out hb13) (fun x cs h => by rw [k37_open h]; exact k37_mkM _ _ _ _) (fun _ hk => hk.elim) (fun _ _ => trivial) hb3 hb3.size (by simp; omega) ?_; intro v4 w4 hO4 hb4 hg4 hat4)
    | ((with_reducible refine gate_dst (N := 41) rfl ?_); refine Kd.R_append k37 (w0 := w2) w2.heap.size rfl (.tmp 37) (.tmp 40) 22 37 (.agg #[(.int .i64 0), (.int .i64 0), (.int .i64 0), (.int .i64 0), (.int .i64 0), (.int .i64 0), (.int .i64 0), (.int .i64 0), (.bool false), (.int .i64 0)]) 80 rfl Try.underlying22 info37 rfl (by decide) (by omega) v4 ([] ++ l0) (oddOf a1) [.int .i64 1152921504606846976, .int .i64 a1, .int .i64 1, .int .i64 0, .int .i64 0, .int .i64 0, .int .i64 0, .int .i64 0, .bool false, .int .i64 0] (fun _ => True) (fun _ => False) rfl rfl (k37_mkM _ _ _ (oddOf a1)) (fun _ hk => hk.elim) (fun _ _ => trivial) hO4 hb4 hb4.size (by simp; omega) ?_; intro v5 w5 hO5 hb5 _ _; have hb15 := below_step hb12 hb5; have hO5' : Kd.R k37 37 w5 w2.heap.size (fun _ => True) v5 (l0 ++ [oddOf a1]) := (by simpa using hO5); obtain ⟨A5, c5, rfl, hc5, hC5⟩ := Kd.R_reads hO5'; rw [show (l0 ++ [oddOf a1]).length = l0.length + 1 by simp] at hc5 ⊢)
    | (go_at_call 9; refine (odd_calls A5 c5 l0 a1 a1 false _ hC8 hc5 HR2.out).mono ?_; rintro e w9 ⟨rfl, hb9⟩; have hb19 := below_step hb18 hb9; have hC9 := Kd.C_below hC8 hb9; obtain ⟨ad1, e1, y0, y1, y2, y3, y4, y5, y6, y7, y8, y9⟩ := at_ev (Kd.C_below HR0.out hb19) q hql; obtain rfl : ad = ad1 := (by injection e1); clear e1 y1 y2 y3 y4 y5 y6 y7 y8 y9)
    | (go_at_call 18; refine (trace_Most.calls _ c0 l0 ml _ (Kd.C_below HR0.out hb17) hc0 HM2.out).mono ?_; rintro e w8 ⟨rfl, hb8⟩; have hb18 := below_step hb17 hb8; have hC8 := Kd.C_below (Kd.C_below (Kd.C_below hC5 hb6) hb7) hb8)
    | (go_at_call 18; refine (part_most_calls _ c0 k l0 mk _ (Kd.C_below HR0.out hb16) hc0 hkl HM1.out).mono ?_; rintro e w7 ⟨rfl, hb7⟩; have hb17 := below_step hb16 hb7)
    | (go_at_call 9; refine (part_right_calls _ c0 k l0 a1 true _ (Kd.C_below HR0.out hb15) hc0 hkl HR1.out).mono ?_; rintro e w6 ⟨rfl, hb6⟩; have hb16 := below_step hb15 hb6))
  go_ret
  exact ⟨rfl, hb19⟩
set_option maxHeartbeats 4000000 in
set_option maxRecDepth 100000 in
theorem part_before (A0 : Option Addr) (c0 : Nat) (l0 : List S37) (a1 a2 : Int) (w : World) (hr0 : Kd.C k37 w A0 l0.length l0) (hc0 : l0.length ≤ c0) (hcm : (c0 : Int) ≤ 9223372036854775807) (hl : (l0.length : Int) ≤ 100) (hf : fitB l0 = true) (hr : rightB l0 a1 = true) (h0 : 0 ≤ a1) (h1 : a1 ≤ 100) (ha0 : 0 ≤ a2) (ha1 : a2 ≤ 255) (hpos0 : 0 < l0.length) (hlast : wasAt l0 l0.length ≤ 1152921504606846976) :
    Calls Try.prog 7 #[.slice A0 l0.length c0, .int .i64 a1, .int .u8 a2] w fun e w' => e = .returned (.bool true) ∧ Below w.heap.size w w' := by
  have HR0 := Lib.hid hr0
  have HH := Lib.hid (show refRight.f l0 a1 = some true by rw [part_ref_f hf, hr])
  obtain ⟨k, hk⟩ : ∃ k : Nat, Int.tmod a2 ((l0.length : Int) + 1) = (k : Int) := ⟨(Int.tmod a2 ((l0.length : Int) + 1)).toNat, by have := Int.tmod_nonneg ((l0.length : Int) + 1) ha0; omega⟩
  have hkl : k ≤ l0.length := by have := Int.tmod_lt_of_pos a2 (show (0 : Int) < (l0.length : Int) + 1 by omega); omega
  have HR1 : Hid (trace_Right.f (l0.take k) a1 = some true) := Lib.hid (by rw [right_f (fit_take hf k), part_right hr hkl])
  have HR2 : Hid (trace_Right.f (l0 ++ [oddOf a1]) a1 = some false) := Lib.hid (by rw [right_f (fit_more hf (by omega) h0 h1), odd_wrong])
  have HM1 := Lib.hid (most_f (fit_take hf k))
  have HM2 := Lib.hid (most_f hf)
  have hmm : mostTo (l0.take k) (l0.take k).length ≤ mostTo l0 l0.length := part_most l0 hkl
  have hmb := mostTo_bd l0 l0.length
  have hmc := mostTo_bd (l0.take k) (l0.take k).length
  have HR3 : Hid (wasAt l0 l0.length ≤ 1152921504606846976 → trace_Right.f (l0 ++ [oddOf a1]) (a1 + 1) = some true) := Lib.hid (fun h => by rw [right_f (fit_more hf (by omega) h0 h1), odd_right hr h0 h])
  generalize mostTo (l0.take k) (l0.take k).length = mk at *
  generalize mostTo l0 l0.length = ml at *
  obtain ⟨i0, hi0, _⟩ := info_parts info37
  have hcut := cut_to (P := Try.prog) 22 37 .i64 Try.underlying22 hi0 A0 l0.length c0 (k : Int) (by omega) (by omega) hc0
  rw [Int.toNat_natCast] at hcut
  have hk0 : (0 : Int) ≤ (k : Int) := by omega
  have hk1 : (k : Int) ≤ (l0.length : Int) := by omega
  have hk2 : (k : Int) ≤ (c0 : Int) := by omega
  have hc1 : (l0.length : Int) ≤ (c0 : Int) := by omega
  have hle : decide (mk ≤ ml) = true := decide_eq_true hmm
  obtain ⟨q, hq⟩ : ∃ q : Nat, l0.length = q + 1 := ⟨l0.length - 1, by omega⟩
  obtain ⟨ad, e, _, _, _, _, _, _, _, _, _, _⟩ := at_ev hr0 q (by omega)
  subst e
  have hql : q < l0.length := by omega
  have hqv : (l0.length : Int) - 1 = (q : Int) := by omega
  have hqw : IntKind.i64.wrap (q : Int) = (q : Int) := IntWalk.i64_in _ (by omega)
  have hq0 : (0 : Int) ≤ (q : Int) := by omega
  have hq1 : (q : Int) < (l0.length : Int) := by omega
  have hwas : wasAt l0 l0.length = (ev l0 q).f0 := by rw [hq]; rfl
  rw [hwas] at hlast HR3
  have HQ := Lib.hid hq
  have hpos : decide ((0 : Int) < (l0.length : Int)) = true := decide_eq_true (by omega)
  have hpos' : decide (0 < l0.length) = true := decide_eq_true (by omega)
  clear hq hwas hpos0
  have hlg : decide (1152921504606846976 < (ev l0 q).f0) = false := decide_eq_false (by omega)
  replace HR3 := HR3.out hlast
  clear hr0 hr hf hi0
  have HCUT := Lib.hid hcut
  clear hcut
  go_enter Try.func7, Try.ntmps7
  go_wp2_with (first
    | (go_at_call 8; refine (breadlinelaw18_head.calls 20 true _ head_true).mono ?_; rintro e w1 ⟨rfl, hb1⟩)
    | (go_at_call 10; refine (refRight.calls _ _ l0 a1 true _ (Kd.C_below HR0.out hb1) hc0 HH.out).mono ?_; rintro e w2 ⟨rfl, hb2⟩; have hb12 := below_step hb1 hb2)
    | ((with_reducible refine gate_dst (N := 35) rfl ?_); refine Kd.R_lit k37 (w0 := w2) w2.heap.size 37 rfl rfl (xs := ([] : List S37)) (inner := []) (ok := fun _ => True) (okp := fun _ => True) ?hr (Reps.none _ _) (fun _ hk => hk) trivial (Below.refl _ _) (Nat.le_refl _) (by simp) ?_; (case hr => first | (go_simp; done) | (go_simp; rfl)); intro v3 w3 hO3 hb3 _ _; have hb13 := below_step hb12 hb3)
    | ((with_reducible refine gate_dst (N := 37) rfl ?_); refine Kd.R_append_rows k37 (w0 := w2) w2.heap.size rfl (.tmp 35) (.tmp 36) 22 37 (.agg #[(.int .i64 0), (.int .i64 0), (.int .i64 0), (.int .i64 0), (.int .i64 0), (.int .i64 0), (.int .i64 0), (.int .i64 0), (.bool false), (.int .i64 0)]) 80 rfl Try.underlying22 info37 rfl (by decide) (by omega) v3 [] l0 _ _ _ (fun _ => True) (fun _ => False) rfl rfl hO3 (Kd.C_below HR0.out hb13) (fun x cs h => by rw [k37_open h]; exact k37_mkM _ _ _ _) (fun _ hk => hk.elim) (fun _ _ => trivial) hb3 hb3.size (by simp; omega) ?_; intro v4 w4 hO4 hb4 hg4 hat4)
    | ((with_reducible refine gate_dst (N := 41) rfl ?_); refine Kd.R_append k37 (w0 := w2) w2.heap.size rfl (.tmp 37) (.tmp 40) 22 37 (.agg #[(.int .i64 0), (.int .i64 0), (.int .i64 0), (.int .i64 0), (.int .i64 0), (.int .i64 0), (.int .i64 0), (.int .i64 0), (.bool false), (.int .i64 0)]) 80 rfl Try.underlying22 info37 rfl (by decide) (by omega) v4 ([] ++ l0) (oddOf a1) [.int .i64 1152921504606846976, .int .i64 a1, .int .i64 1, .int .i64 0, .int .i64 0, .int .i64 0, .int .i64 0, .int .i64 0, .bool false, .int .i64 0] (fun _ => True) (fun _ => False) rfl rfl (k37_mkM _ _ _ (oddOf a1)) (fun _ hk => hk.elim) (fun _ _ => trivial) hO4 hb4 hb4.size (by simp; omega) ?_; intro v5 w5 hO5 hb5 _ _; have hb15 := below_step hb12 hb5; have hO5' : Kd.R k37 37 w5 w2.heap.size (fun _ => True) v5 (l0 ++ [oddOf a1]) := (by simpa using hO5); obtain ⟨A5, c5, rfl, hc5, hC5⟩ := Kd.R_reads hO5'; rw [show (l0 ++ [oddOf a1]).length = l0.length + 1 by simp] at hc5 ⊢)
    | (go_at_call 9; refine (odd_calls A5 c5 l0 a1 (a1 + 1) true _ hC9 hc5 HR3).mono ?_; rintro e w10 ⟨rfl, hb10⟩; have hb110 := below_step hb19 hb10)
    | (go_at_call 9; refine (odd_calls A5 c5 l0 a1 a1 false _ hC8 hc5 HR2.out).mono ?_; rintro e w9 ⟨rfl, hb9⟩; have hb19 := below_step hb18 hb9; have hC9 := Kd.C_below hC8 hb9; obtain ⟨ad1, e1, y0, y1, y2, y3, y4, y5, y6, y7, y8, y9⟩ := at_ev (Kd.C_below HR0.out hb19) q hql; obtain rfl : ad = ad1 := (by injection e1); clear e1 y1 y2 y3 y4 y5 y6 y7 y8 y9)
    | (go_at_call 18; refine (trace_Most.calls _ c0 l0 ml _ (Kd.C_below HR0.out hb17) hc0 HM2.out).mono ?_; rintro e w8 ⟨rfl, hb8⟩; have hb18 := below_step hb17 hb8; have hC8 := Kd.C_below (Kd.C_below (Kd.C_below hC5 hb6) hb7) hb8)
    | (go_at_call 18; refine (part_most_calls _ c0 k l0 mk _ (Kd.C_below HR0.out hb16) hc0 hkl HM1.out).mono ?_; rintro e w7 ⟨rfl, hb7⟩; have hb17 := below_step hb16 hb7)
    | (go_at_call 9; refine (part_right_calls _ c0 k l0 a1 true _ (Kd.C_below HR0.out hb15) hc0 hkl HR1.out).mono ?_; rintro e w6 ⟨rfl, hb6⟩; have hb16 := below_step hb15 hb6))
  go_ret
  exact ⟨rfl, hb110⟩
set_option maxHeartbeats 4000000 in
set_option maxRecDepth 100000 in
theorem part_empty (A0 : Option Addr) (c0 : Nat) (l0 : List S37) (a1 a2 : Int) (w : World) (hr0 : Kd.C k37 w A0 l0.length l0) (hc0 : l0.length ≤ c0) (hcm : (c0 : Int) ≤ 9223372036854775807) (hl : (l0.length : Int) ≤ 100) (hf : fitB l0 = true) (hr : rightB l0 a1 = true) (h0 : 0 ≤ a1) (h1 : a1 ≤ 100) (ha0 : 0 ≤ a2) (ha1 : a2 ≤ 255) (hpos0 : l0.length = 0) :
    Calls Try.prog 7 #[.slice A0 l0.length c0, .int .i64 a1, .int .u8 a2] w fun e w' => e = .returned (.bool true) ∧ Below w.heap.size w w' := by
  have HR0 := Lib.hid hr0
  have HH := Lib.hid (show refRight.f l0 a1 = some true by rw [part_ref_f hf, hr])
  obtain ⟨k, hk⟩ : ∃ k : Nat, Int.tmod a2 ((l0.length : Int) + 1) = (k : Int) := ⟨(Int.tmod a2 ((l0.length : Int) + 1)).toNat, by have := Int.tmod_nonneg ((l0.length : Int) + 1) ha0; omega⟩
  have hkl : k ≤ l0.length := by have := Int.tmod_lt_of_pos a2 (show (0 : Int) < (l0.length : Int) + 1 by omega); omega
  have HR1 : Hid (trace_Right.f (l0.take k) a1 = some true) := Lib.hid (by rw [right_f (fit_take hf k), part_right hr hkl])
  have HR2 : Hid (trace_Right.f (l0 ++ [oddOf a1]) a1 = some false) := Lib.hid (by rw [right_f (fit_more hf (by omega) h0 h1), odd_wrong])
  have HM1 := Lib.hid (most_f (fit_take hf k))
  have HM2 := Lib.hid (most_f hf)
  have hmm : mostTo (l0.take k) (l0.take k).length ≤ mostTo l0 l0.length := part_most l0 hkl
  have hmb := mostTo_bd l0 l0.length
  have hmc := mostTo_bd (l0.take k) (l0.take k).length
  have HR3 : Hid (wasAt l0 l0.length ≤ 1152921504606846976 → trace_Right.f (l0 ++ [oddOf a1]) (a1 + 1) = some true) := Lib.hid (fun h => by rw [right_f (fit_more hf (by omega) h0 h1), odd_right hr h0 h])
  generalize mostTo (l0.take k) (l0.take k).length = mk at *
  generalize mostTo l0 l0.length = ml at *
  obtain ⟨i0, hi0, _⟩ := info_parts info37
  have hcut := cut_to (P := Try.prog) 22 37 .i64 Try.underlying22 hi0 A0 l0.length c0 (k : Int) (by omega) (by omega) hc0
  rw [Int.toNat_natCast] at hcut
  have hk0 : (0 : Int) ≤ (k : Int) := by omega
  have hk1 : (k : Int) ≤ (l0.length : Int) := by omega
  have hk2 : (k : Int) ≤ (c0 : Int) := by omega
  have hc1 : (l0.length : Int) ≤ (c0 : Int) := by omega
  have hle : decide (mk ≤ ml) = true := decide_eq_true hmm
  have hpos : decide ((0 : Int) < (l0.length : Int)) = false := decide_eq_false (by omega)
  have hpos' : decide (0 < l0.length) = false := decide_eq_false (by omega)
  replace HR3 := HR3.out (by rw [hpos0]; show (0 : Int) ≤ _; omega)
  have HZ := Lib.hid hpos0
  clear hpos0
  clear hr0 hr hf hi0
  have HCUT := Lib.hid hcut
  clear hcut
  go_enter Try.func7, Try.ntmps7
  go_wp2_with (first
    | (go_at_call 8; refine (breadlinelaw18_head.calls 20 true _ head_true).mono ?_; rintro e w1 ⟨rfl, hb1⟩)
    | (go_at_call 10; refine (refRight.calls _ _ l0 a1 true _ (Kd.C_below HR0.out hb1) hc0 HH.out).mono ?_; rintro e w2 ⟨rfl, hb2⟩; have hb12 := below_step hb1 hb2)
    | ((with_reducible refine gate_dst (N := 35) rfl ?_); refine Kd.R_lit k37 (w0 := w2) w2.heap.size 37 rfl rfl (xs := ([] : List S37)) (inner := []) (ok := fun _ => True) (okp := fun _ => True) ?hr (Reps.none _ _) (fun _ hk => hk) trivial (Below.refl _ _) (Nat.le_refl _) (by simp) ?_; (case hr => first | (go_simp; done) | (go_simp; rfl)); intro v3 w3 hO3 hb3 _ _; have hb13 := below_step hb12 hb3)
    | ((with_reducible refine gate_dst (N := 37) rfl ?_); refine Kd.R_append_rows k37 (w0 := w2) w2.heap.size rfl (.tmp 35) (.tmp 36) 22 37 (.agg #[(.int .i64 0), (.int .i64 0), (.int .i64 0), (.int .i64 0), (.int .i64 0), (.int .i64 0), (.int .i64 0), (.int .i64 0), (.bool false), (.int .i64 0)]) 80 rfl Try.underlying22 info37 rfl (by decide) (by omega) v3 [] l0 _ _ _ (fun _ => True) (fun _ => False) rfl rfl hO3 (Kd.C_below HR0.out hb13) (fun x cs h => by rw [k37_open h]; exact k37_mkM _ _ _ _) (fun _ hk => hk.elim) (fun _ _ => trivial) hb3 hb3.size (by simp; omega) ?_; intro v4 w4 hO4 hb4 hg4 hat4)
    | ((with_reducible refine gate_dst (N := 41) rfl ?_); refine Kd.R_append k37 (w0 := w2) w2.heap.size rfl (.tmp 37) (.tmp 40) 22 37 (.agg #[(.int .i64 0), (.int .i64 0), (.int .i64 0), (.int .i64 0), (.int .i64 0), (.int .i64 0), (.int .i64 0), (.int .i64 0), (.bool false), (.int .i64 0)]) 80 rfl Try.underlying22 info37 rfl (by decide) (by omega) v4 ([] ++ l0) (oddOf a1) [.int .i64 1152921504606846976, .int .i64 a1, .int .i64 1, .int .i64 0, .int .i64 0, .int .i64 0, .int .i64 0, .int .i64 0, .bool false, .int .i64 0] (fun _ => True) (fun _ => False) rfl rfl (k37_mkM _ _ _ (oddOf a1)) (fun _ hk => hk.elim) (fun _ _ => trivial) hO4 hb4 hb4.size (by simp; omega) ?_; intro v5 w5 hO5 hb5 _ _; have hb15 := below_step hb12 hb5; have hO5' : Kd.R k37 37 w5 w2.heap.size (fun _ => True) v5 (l0 ++ [oddOf a1]) := (by simpa using hO5); obtain ⟨A5, c5, rfl, hc5, hC5⟩ := Kd.R_reads hO5'; rw [show (l0 ++ [oddOf a1]).length = l0.length + 1 by simp] at hc5 ⊢)
    | (go_at_call 9; refine (odd_calls A5 c5 l0 a1 (a1 + 1) true _ hC9 hc5 HR3).mono ?_; rintro e w10 ⟨rfl, hb10⟩; have hb110 := below_step hb19 hb10)
    | (go_at_call 9; refine (odd_calls A5 c5 l0 a1 a1 false _ hC8 hc5 HR2.out).mono ?_; rintro e w9 ⟨rfl, hb9⟩; have hb19 := below_step hb18 hb9; have hC9 := Kd.C_below hC8 hb9)
    | (go_at_call 18; refine (trace_Most.calls _ c0 l0 ml _ (Kd.C_below HR0.out hb17) hc0 HM2.out).mono ?_; rintro e w8 ⟨rfl, hb8⟩; have hb18 := below_step hb17 hb8; have hC8 := Kd.C_below (Kd.C_below (Kd.C_below hC5 hb6) hb7) hb8)
    | (go_at_call 18; refine (part_most_calls _ c0 k l0 mk _ (Kd.C_below HR0.out hb16) hc0 hkl HM1.out).mono ?_; rintro e w7 ⟨rfl, hb7⟩; have hb17 := below_step hb16 hb7)
    | (go_at_call 9; refine (part_right_calls _ c0 k l0 a1 true _ (Kd.C_below HR0.out hb15) hc0 hkl HR1.out).mono ?_; rintro e w6 ⟨rfl, hb6⟩; have hb16 := below_step hb15 hb6))
  go_ret
  exact ⟨rfl, hb110⟩
theorem part_any (A0 : Option Addr) (c0 : Nat) (l0 : List S37) (a1 a2 : Int) (w : World) (hr0 : Kd.C k37 w A0 l0.length l0) (hc0 : l0.length ≤ c0) (hm0 : c0 ≤ maxLen) (hw : ∀ e ∈ l0, (Lit.int .i64 e.f1).wf = true) (w2 : (Lit.int .u8 a2).wf = true) :
    Calls Try.prog 7 #[.slice A0 l0.length c0, .int .i64 a1, .int .u8 a2] w fun e w' => e = .returned (.bool true) ∧ Below w.heap.size w w' := by
  unfold maxLen at hm0
  have hb : 0 ≤ a2 ∧ a2 ≤ 255 := by
    simp [Lit.wf, IntKind.min, IntKind.max, IntKind.signed, IntKind.bits] at w2
    omega
  by_cases hl : (100 : Int) < l0.length
  · exact part_long A0 c0 l0 a1 a2 w (by omega) hl
  · have hf : fitB l0 = true := fit_of (by omega) hw
    cases hr : rightB l0 a1 with
    | false => exact part_wrong A0 c0 l0 a1 a2 false w hr0 hc0 (by omega) (by rw [part_ref_f hf, hr]) (.inl rfl)
    | true =>
      by_cases h0 : a1 < 0
      · exact part_wrong A0 c0 l0 a1 a2 true w hr0 hc0 (by omega) (by rw [part_ref_f hf, hr]) (.inr (.inl ⟨rfl, h0⟩))
      · by_cases h1 : 100 < a1
        · exact part_wrong A0 c0 l0 a1 a2 true w hr0 hc0 (by omega) (by rw [part_ref_f hf, hr]) (.inr (.inr ⟨rfl, by omega, h1⟩))
        · by_cases hz : l0.length = 0
          · exact part_empty A0 c0 l0 a1 a2 w hr0 hc0 (by omega) (by omega) hf hr (by omega) (by omega) hb.1 hb.2 hz
          · by_cases hla : 1152921504606846976 < wasAt l0 l0.length
            · exact part_after A0 c0 l0 a1 a2 w hr0 hc0 (by omega) (by omega) hf hr (by omega) (by omega) hb.1 hb.2 (by omega) hla
            · exact part_before A0 c0 l0 a1 a2 w hr0 hc0 (by omega) (by omega) hf hr (by omega) (by omega) hb.1 hb.2 (by omega) (by omega)
end Go.Proofs.Ytkcpifmdjnfgaaa.PTrace
