/- The walk of the law 'TraceOrder'. -/
import Derived.Test.YtkcpifmdjnfgaaaTraceOn0
import Derived.Test.YtkcpifmdjnfgaaaTraceRows
import Derived.Test.YtkcpifmdjnfgaaaTraceOpen
import Derived.Deep.RegionHeld3
namespace Go.Proofs.Ytkcpifmdjnfgaaa.PTrace
set_option linter.unusedVariables false
set_option linter.unusedSimpArgs false
open Go.BigFrame Go.RowKit Go.Maps Go.Proofs.YtkcpifmdjnfgaaaW.PrintWords Go.Proofs.YtkcpifmdjnfgaaaW.PrintLast Go.Proofs.YtkcpifmdjnfgaaaW.PrintMore

set_option maxHeartbeats 1000000 in
set_option maxRecDepth 100000 in
theorem ord_long (A0 : Option Addr) (c0 : Nat) (l0 : List S37) (a1 : Int) (w : World) (hm : (l0.length : Int) ≤ 9223372036854775807) (hl : (40 : Int) < l0.length) :
    Calls Try.prog 4 #[.slice A0 l0.length c0, .int .i64 a1] w fun e w' => e = .returned (.bool true) ∧ Below w.heap.size w w' := by
  go_enter Try.func4, Try.ntmps4
  go_wp2_with (go_at_call 8; refine (breadlinelaw18_head.calls 20 true _ head_true).mono ?_; rintro e w1 ⟨rfl, hb1⟩)
  go_ret
  exact ⟨rfl, hb1⟩
set_option maxHeartbeats 1000000 in
set_option maxRecDepth 100000 in
theorem ord_wrong (A0 : Option Addr) (c0 : Nat) (l0 : List S37) (a1 : Int) (w : World) (hr0 : Kd.C k37 w A0 l0.length l0) (hc0 : l0.length ≤ c0) (hl : (l0.length : Int) ≤ 40) (h : refRight.f l0 a1 = some false) :
    Calls Try.prog 4 #[.slice A0 l0.length c0, .int .i64 a1] w fun e w' => e = .returned (.bool true) ∧ Below w.heap.size w w' := by
  have HR0 := Lib.hid hr0
  have HH := Lib.hid h
  clear hr0 h
  go_enter Try.func4, Try.ntmps4
  go_wp2_with (first | (go_at_call 8; refine (breadlinelaw18_head.calls 20 true _ head_true).mono ?_; rintro e w1 ⟨rfl, hb1⟩) | (go_at_call 10; refine (refRight.calls _ _ l0 a1 false _ (Kd.C_below HR0.out hb1) hc0 HH.out).mono ?_; rintro e w2 ⟨rfl, hb2⟩))
  go_ret
  exact ⟨rfl, below_step hb1 hb2⟩
set_option maxHeartbeats 8000000 in
set_option maxRecDepth 100000 in
theorem ord_main (A0 : Option Addr) (c0 : Nat) (l0 : List S37) (a1 : Int) (w : World) (hr0 : Kd.C k37 w A0 l0.length l0) (hc0 : l0.length ≤ c0) (hl : (l0.length : Int) ≤ 40) (hf : fitB l0 = true) (hr : rightB l0 a1 = true) :
    Calls Try.prog 4 #[.slice A0 l0.length c0, .int .i64 a1] w fun e w' => e = .returned (.bool true) ∧ Below w.heap.size w w' := by
  have HR0 := Lib.hid hr0
  have HT := Lib.hid (right_takes hr)
  have HH := Lib.hid (show refRight.f l0 a1 = some true by rw [Rows2.ref_right_f hf, hr])
  have HF := Lib.hid hf
  have HCL := Lib.hid (calls_len l0)
  have hbl := beginsTo_len l0 l0.length
  obtain ⟨m, hm⟩ : ∃ m, (beginsTo l0 l0.length).length = m := ⟨_, rfl⟩
  have HM := Lib.hid hm
  rw [hm] at hbl
  have HCm : Hid ((callsTo l0 l0.length).length = m) := Lib.hid (by rw [HCL.out, HM.out])
  have HCA : Hid (∀ i, i < m → ∃ b : Nat, b < l0.length ∧ (ev l0 b).f2 = 1 ∧ cAt l0 i = (b : Int)) := Lib.hid (fun i hi => by
    obtain ⟨b, h1, h2, h3, _⟩ := call_at HT.out (i := i) (by rw [HM.out]; exact hi)
    exact ⟨b, h1, h2, h3⟩)
  have XLT : Hid (∀ i j : Nat, i < j → j < m → ∀ a b : Nat, cAt l0 i = (a : Int) → cAt l0 j = (b : Int) → a < b) := Lib.hid (fun i j h1 h2 a b e1 e2 => by
    have := begins_lt l0 h1 (by rw [HM.out]; exact h2)
    omega)
  clear hr0 hr hf hm
  go_enter Try.func4, Try.ntmps4
  go_wp2_with (first
    | (go_at_call 8; refine (breadlinelaw18_head.calls 20 true _ head_true).mono ?_; rintro e w1 ⟨rfl, hb1⟩)
    | (go_at_call 10; refine (refRight.calls _ _ l0 a1 true _ (Kd.C_below HR0.out hb1) hc0 HH.out).mono ?_; rintro e w2 ⟨rfl, hb2⟩; have hb12 := below_step hb1 hb2)
    | (go_at_call 14; refine (trace_Calls.calls 1000 _ _ l0 (callsTo l0 l0.length) _ (Kd.C_below HR0.out hb12) hc0 (calls_f l0 (by omega) _ (by omega))).mono ?_; rintro e w3 ⟨v3, rfl, hR3, hb3⟩; have hb13 := below_step hb12 hb3; obtain ⟨A3, c3, rfl, hc3⟩ := Rows2.ints_row hR3; rw [HCm.out]))
  have HC3 := Lib.hid hc3
  have HR4 := Lib.hid (Kd.C_below HR0.out hb13)
  have X0 : Hid (∀ i, i < m → ∃ g, A3 = some ⟨g, 0, none⟩ ∧ g < w3.heap.size ∧ ∀ W, Below w3.heap.size w3 W → W.cell? ⟨g, i, none⟩ = some (.int .i64 (cAt l0 i))) := Lib.hid (fun i hi => by
    obtain ⟨g, e, _, hg, x⟩ := HC3.out i (by rw [HCm.out]; exact hi)
    exact ⟨g, e, hg, fun W h => by rw [h.cell hg, x]; rfl⟩)
  clear hc3 HC3 hR3 hb1 hb2 hb12 hb3 HCL HH
  go_loopw [7] (fun iv wr => ∃ i : Nat, i ≤ m ∧ iv = .int .i64 i ∧ Below w3.heap.size w3 wr) (fun iv _ => m - (intOf iv).toNat)
  case atStart => exact ⟨0, Nat.zero_le _, rfl, Below.refl _ _⟩
  case round =>
    obtain ⟨i, hi, rfl, hnx⟩ := hrel
    by_cases hlt : i < m
    · have hi0 : (0 : Int) ≤ (i : Int) := by omega
      have hi1 : (i : Int) < (m : Int) := by omega
      obtain ⟨a, ha1, ha2, ha3⟩ := HCA.out i hlt
      obtain ⟨g3, e3, hg3, xi0⟩ := X0.out i hlt
      subst e3
      have xi : ∀ W, Below w3.heap.size w3 W → W.cell? ⟨g3, i, none⟩ = some (.int .i64 (a : Int)) := fun W h => by rw [xi0 W h, ha3]
      have XI := Lib.hid xi
      have hxi := xi _ hnx
      have HNX := Lib.hid hnx
      have HRX := Lib.hid (Kd.C_below HR4.out hnx)
      have HAA := Lib.hid (before_back l0 (Nat.le_refl a))
      have hai0 : (0 : Int) ≤ (a : Int) := by omega
      have hai1 : (a : Int) < (l0.length : Int) := by omega
      have had0 : decide ((a : Int) < 0) = false := decide_eq_false (by omega)
      have had1 : decide ((l0.length : Int) ≤ (a : Int)) = false := decide_eq_false (by omega)
      have had2 : decide (l0.length ≤ a) = false := decide_eq_false (by omega)
      have HA2 := Lib.hid ha2
      have HA3 := Lib.hid ha3
      clear xi xi0 ha3 ha2
      go_wp2_with fail
      go_region_held3 (fun w' => w'.cell? ⟨g3, i, none⟩ = some (.int .i64 (a : Int)))
        (first | go_keep | (go_split_ands; exact (hbA.cell (World.block_lt_of_cell? _ _ (by assumption))).trans (by assumption)))
        (first
          | (go_at_call 16; refine (Rows2.before_calls HF.out _ _ a a false _ (by repeat (first | exact HRX.out | (with_reducible refine Kd.C_drew ?_) | (with_reducible refine Kd.C_drewN ?_ _))) hc0 HAA.out).mono ?_; rintro e wA ⟨rfl, hbA⟩))
      have hbI : Below w3.heap.size w3 wA := below_step (below_drew1 HNX.out) hbA
      clear hxi had0 had1 had2
      go_wp2_with fail
      go_loopw [8] (fun jv wj => ∃ j : Nat, j ≤ m ∧ jv = .int .i64 j ∧ Below w3.heap.size w3 wj) (fun jv _ => m - (intOf jv).toNat)
      case atStart => exact ⟨0, Nat.zero_le _, rfl, hbI⟩
      case round =>
        obtain ⟨j, hj, rfl, hnj⟩ := hrel
        clear hbI hbA
        by_cases hjl : j < m
        · have hj0 : (0 : Int) ≤ (j : Int) := by omega
          have hj1 : (j : Int) < (m : Int) := by omega
          obtain ⟨b, hb1, hb2, hb3⟩ := HCA.out j hjl
          obtain ⟨g3b, e3b, _, xj0⟩ := X0.out j hjl
          obtain rfl : g3 = g3b := by injection e3b with e; injection e
          have xj : ∀ W, Below w3.heap.size w3 W → W.cell? ⟨g3, j, none⟩ = some (.int .i64 (b : Int)) := fun W h => by rw [xj0 W h, hb3]
          have XJ := Lib.hid xj
          have hxi := XI.out _ hnj
          have hxj := xj _ hnj
          have HNJ := Lib.hid hnj
          have HRJ := Lib.hid (Kd.C_below HR4.out hnj)
          have hbi0 : (0 : Int) ≤ (b : Int) := by omega
          have hbi1 : (b : Int) < (l0.length : Int) := by omega
          have HB2 := Lib.hid hb2
          clear xj xj0 hb2 e3b
          obtain ⟨ad, e, y0, y1, y2, y3, y4, y5, y6, y7, y8, y9⟩ := at_ev HRJ.out a ha1
          subst e
          obtain ⟨ad2, e2, z0, z1, z2, z3, z4, z5, z6, z7, z8, z9⟩ := at_ev HRJ.out b hb1
          obtain rfl : ad = ad2 := by injection e2
          clear e2 y0 y2 y3 y4 y5 y6 y7 y8 y9 z0 z2 z3 z4 z5 z6 z7 z8 z9
          have hd1 : decide ((b : Int) < 0) = false := decide_eq_false (by omega)
          have hd2 : decide ((b : Int) < (l0.length : Int)) = true := decide_eq_true (by omega)
          have hd3 : decide (b < l0.length) = true := decide_eq_true (by omega)
          have hd4 : decide (0 ≤ (b : Int)) = true := decide_eq_true (by omega)
          by_cases hij : i < j
          · have HAB := Lib.hid (XLT.out i j hij hjl a b HA3.out hb3)
            have hg1 : decide (i < j) = true := decide_eq_true hij
            have hg2 : decide ((i : Int) < (j : Int)) = true := decide_eq_true (by omega)
            by_cases he : (ev l0 a).f1 = (ev l0 b).f1
            · have hbt := Lib.hid (before_thread HT.out HAB.out hb1 HA2.out HB2.out he)
              have hgt : ((ev l0 a).f1 == (ev l0 b).f1) = true := by rw [beq_iff_eq]; exact he
              clear he hb3
              go_wp2_with fail
              go_region_held3 (fun w' => w'.cell? ⟨g3, i, none⟩ = some (.int .i64 (a : Int)) ∧ w'.cell? ⟨g3, j, none⟩ = some (.int .i64 (b : Int)) ∧ w'.cell? ⟨(ad.add (a * 10)).block, (ad.add (a * 10)).off + 1, none⟩ = some (.int .i64 (ev l0 a).f1) ∧ w'.cell? ⟨(ad.add (b * 10)).block, (ad.add (b * 10)).off + 1, none⟩ = some (.int .i64 (ev l0 b).f1))
                (first | go_keep | (go_split_ands; exact ⟨(hbA.cell (World.block_lt_of_cell? _ _ (by assumption))).trans (by assumption), (hbA.cell (World.block_lt_of_cell? _ _ (by assumption))).trans (by assumption), (hbA.cell (World.block_lt_of_cell? _ _ (by assumption))).trans (by assumption), (hbA.cell (World.block_lt_of_cell? _ _ (by assumption))).trans (by assumption)⟩))
                (first
                  | (go_at_call 16; refine (Rows2.before_calls HF.out _ _ a b true _ (by repeat (first | exact HRJ.out | (with_reducible refine Kd.C_drew ?_) | (with_reducible refine Kd.C_drewN ?_ _))) hc0 hbt.out).mono ?_; rintro e wA ⟨rfl, hbA⟩))
              have hbJ : Below w3.heap.size w3 wA := below_step (below_drew1 HNJ.out) hbA
              clear hxi hxj y1 z1 hg1 hg2 hd1 hd2 hd3 hd4
              go_wp2_with fail
              go_loopw [9] (fun kv wk => ∃ k : Nat, k ≤ m ∧ kv = .int .i64 k ∧ Below w3.heap.size w3 wk) (fun kv _ => m - (intOf kv).toNat)
              case atStart => exact ⟨0, Nat.zero_le _, rfl, hbJ⟩
              case round =>
                obtain ⟨k, hk, rfl, hnk⟩ := hrel
                clear hbJ
                by_cases hkl : k < m
                · have hk0 : (0 : Int) ≤ (k : Int) := by omega
                  have hk1 : (k : Int) < (m : Int) := by omega
                  obtain ⟨c, hc1, hc2, hc3⟩ := HCA.out k hkl
                  obtain ⟨g3c, e3c, _, xk⟩ := X0.out k hkl
                  obtain rfl : g3 = g3c := by injection e3c with e; injection e
                  have hxk : wr.cell? ⟨g3, k, none⟩ = some (.int .i64 (c : Int)) := by rw [xk wr hnk, hc3]
                  have hxi := XI.out _ hnk
                  have hxj := XJ.out _ hnk
                  have HNK := Lib.hid hnk
                  have HRK := Lib.hid (Kd.C_below HR4.out hnk)
                  have HC2 := Lib.hid hc2
                  clear xk hc3 hc2 e3c
                  cases h1 : beforeB l0 a b
                  · have H1 := Lib.hid h1
                    clear h1
                    go_wp2_with fail
                    refine wp_region_held_drew (S := (fun w' => w'.cell? ⟨g3, i, none⟩ = some (.int .i64 (a : Int)) ∧ w'.cell? ⟨g3, j, none⟩ = some (.int .i64 (b : Int)) ∧ w'.cell? ⟨g3, k, none⟩ = some (.int .i64 (c : Int)))) (by kernel_rfl) ?_ (fun hHeld => ?_)
                    · (try dsimp only); (first | go_keep | (go_split_ands; exact ⟨(hbA.cell (World.block_lt_of_cell? _ _ (by assumption))).trans (by assumption), (hbA.cell (World.block_lt_of_cell? _ _ (by assumption))).trans (by assumption), (hbA.cell (World.block_lt_of_cell? _ _ (by assumption))).trans (by assumption)⟩))
                    refine wpAnyH_take (i := 0) (oi := { dst := some 118, op := Go.Op.move (Go.Operand.tmp 0), type := 22, pos := "law.go:59", after := #[], guard := none }) (v := ?_) rfl (by kernel_rfl) (by kernel_rfl) (by kernel_rfl) (fun _ _ _ h => h) (Or.inl ⟨by rfl, ?_⟩) (by assumption) ?_
                    rotate_left
                    · (intro w hSw; (try dsimp only at hSw); go_simp); try with_reducible rfl
                    try simp only [Act.put, List.setIfInBounds_toArray, List.set_cons_zero, List.set_cons_succ]
                    refine wpAnyH_take (i := 1) (oi := { dst := some 119, op := Go.Op.move (Go.Operand.tmp 6), type := 26, pos := "law.go:59", after := #[], guard := none }) (v := ?_) rfl (by kernel_rfl) (by kernel_rfl) (by kernel_rfl) (fun _ _ _ h => h) (Or.inl ⟨by rfl, ?_⟩) (by assumption) ?_
                    rotate_left
                    · (intro w hSw; (try dsimp only at hSw); go_simp); try with_reducible rfl
                    try simp only [Act.put, List.setIfInBounds_toArray, List.set_cons_zero, List.set_cons_succ]
                    refine wpAnyH_take (i := 2) (oi := { dst := some 120, op := Go.Op.move (Go.Operand.tmp 7), type := 3, pos := "law.go:59", after := #[], guard := none }) (v := ?_) rfl (by kernel_rfl) (by kernel_rfl) (by kernel_rfl) (fun _ _ _ h => h) (Or.inl ⟨by rfl, ?_⟩) (by assumption) ?_
                    rotate_left
                    · (intro w hSw; (try dsimp only at hSw); go_simp); try with_reducible rfl
                    try simp only [Act.put, List.setIfInBounds_toArray, List.set_cons_zero, List.set_cons_succ]
                    refine wpAnyH_take (i := 3) (oi := { dst := some 121, op := Go.Op.indexAddr 26 (Go.Operand.tmp 119) (Go.Operand.tmp 120), type := 0, pos := "law.go:59", after := #[{ on := 1, ground := Go.Ground.data }, { on := 2, ground := Go.Ground.data }], guard := none }) (v := ?_) rfl (by kernel_rfl) (by kernel_rfl) (by kernel_rfl) (fun _ _ _ h => h) (Or.inl ⟨by rfl, ?_⟩) (by assumption) ?_
                    rotate_left
                    · (intro w hSw; (try dsimp only at hSw); go_simp); try with_reducible rfl
                    try simp only [Act.put, List.setIfInBounds_toArray, List.set_cons_zero, List.set_cons_succ]
                    refine wpAnyH_take (i := 4) (oi := { dst := some 122, op := Go.Op.load 3 (Go.Operand.tmp 121), type := 3, pos := "law.go:59", after := #[{ on := 3, ground := Go.Ground.data }], guard := none }) (v := ?_) rfl (by kernel_rfl) (by kernel_rfl) (by kernel_rfl) (fun _ _ _ h => h) (Or.inl ⟨by rfl, ?_⟩) (by assumption) ?_
                    rotate_left
                    · (intro w hSw; (try dsimp only at hSw); go_simp); try with_reducible rfl
                    try simp only [Act.put, List.setIfInBounds_toArray, List.set_cons_zero, List.set_cons_succ]
                    refine wpAnyH_take (i := 5) (oi := { dst := some 123, op := Go.Op.move (Go.Operand.tmp 6), type := 26, pos := "law.go:59", after := #[], guard := none }) (v := ?_) rfl (by kernel_rfl) (by kernel_rfl) (by kernel_rfl) (fun _ _ _ h => h) (Or.inl ⟨by rfl, ?_⟩) (by assumption) ?_
                    rotate_left
                    · (intro w hSw; (try dsimp only at hSw); go_simp); try with_reducible rfl
                    try simp only [Act.put, List.setIfInBounds_toArray, List.set_cons_zero, List.set_cons_succ]
                    refine wpAnyH_take (i := 6) (oi := { dst := some 124, op := Go.Op.move (Go.Operand.tmp 8), type := 3, pos := "law.go:59", after := #[], guard := none }) (v := ?_) rfl (by kernel_rfl) (by kernel_rfl) (by kernel_rfl) (fun _ _ _ h => h) (Or.inl ⟨by rfl, ?_⟩) (by assumption) ?_
                    rotate_left
                    · (intro w hSw; (try dsimp only at hSw); go_simp); try with_reducible rfl
                    try simp only [Act.put, List.setIfInBounds_toArray, List.set_cons_zero, List.set_cons_succ]
                    refine wpAnyH_take (i := 7) (oi := { dst := some 125, op := Go.Op.indexAddr 26 (Go.Operand.tmp 123) (Go.Operand.tmp 124), type := 0, pos := "law.go:59", after := #[{ on := 5, ground := Go.Ground.data }, { on := 6, ground := Go.Ground.data }], guard := none }) (v := ?_) rfl (by kernel_rfl) (by kernel_rfl) (by kernel_rfl) (fun _ _ _ h => h) (Or.inl ⟨by rfl, ?_⟩) (by assumption) ?_
                    rotate_left
                    · (intro w hSw; (try dsimp only at hSw); go_simp); try with_reducible rfl
                    try simp only [Act.put, List.setIfInBounds_toArray, List.set_cons_zero, List.set_cons_succ]
                    refine wpAnyH_take (i := 8) (oi := { dst := some 126, op := Go.Op.load 3 (Go.Operand.tmp 125), type := 3, pos := "law.go:59", after := #[{ on := 7, ground := Go.Ground.data }], guard := none }) (v := ?_) rfl (by kernel_rfl) (by kernel_rfl) (by kernel_rfl) (fun _ _ _ h => h) (Or.inl ⟨by rfl, ?_⟩) (by assumption) ?_
                    rotate_left
                    · (intro w hSw; (try dsimp only at hSw); go_simp); try with_reducible rfl
                    try simp only [Act.put, List.setIfInBounds_toArray, List.set_cons_zero, List.set_cons_succ]
                    refine wpAnyH_ready (rs := [9]) (by kernel_rfl) (by simp) ?_
                    refine AllReadyH.cons (o := { dst := some 127, op := Go.Op.call { callee := Go.Callee.value (Go.Operand.func 16), args := #[Go.Operand.tmp 118, Go.Operand.tmp 122, Go.Operand.tmp 126], argTypes := #[22, 3, 3] }, type := 4, pos := "law.go:59", after := #[{ on := 0, ground := Go.Ground.data }, { on := 4, ground := Go.Ground.data }, { on := 8, ground := Go.Ground.data }], guard := none }) rfl (fun K hK => ?_) AllReadyH.nil
                    go_simp
                    (go_at_call 16; refine (Rows2.before_calls HF.out _ _ a b false _ (by repeat (first | exact HRK.out | (with_reducible refine Kd.C_drew ?_) | (with_reducible refine Kd.C_drewN ?_ _))) hc0 H1.out).mono ?_; rintro e wA ⟨rfl, hbA⟩)
                    try go_wp2_with fail
                    refine hK.out _ _ ?_ (fun hHeld9 => ?_)
                    · (try dsimp only); (first | go_keep | (go_split_ands; exact ⟨(hbA.cell (World.block_lt_of_cell? _ _ (by assumption))).trans (by assumption), (hbA.cell (World.block_lt_of_cell? _ _ (by assumption))).trans (by assumption), (hbA.cell (World.block_lt_of_cell? _ _ (by assumption))).trans (by assumption)⟩))
                    clear hK K hHeld
                    have hHeld := hHeld9
                    clear hHeld9
                    try simp only [Act.put, List.setIfInBounds_toArray, List.set_cons_zero, List.set_cons_succ]
                    refine wpAnyH_take (i := 10) (oi := { dst := some 128, op := Go.Op.move (Go.Operand.tmp 127), type := 4, pos := "law.go:59", after := #[{ on := 9, ground := Go.Ground.data }, { on := 9, ground := Go.Ground.chain }], guard := none }) (v := ?_) rfl (by kernel_rfl) (by kernel_rfl) (by kernel_rfl) (fun _ _ _ h => h) (Or.inl ⟨by rfl, ?_⟩) (by assumption) ?_
                    rotate_left
                    · (intro w hSw; (try dsimp only at hSw); go_simp); try with_reducible rfl
                    try simp only [Act.put, List.setIfInBounds_toArray, List.set_cons_zero, List.set_cons_succ]
                    refine wpAnyH_take (i := 11) (oi := { dst := some 129, op := Go.Op.move (Go.Operand.tmp 0), type := 22, pos := "law.go:59", after := #[{ on := 10, ground := Go.Ground.guard }], guard := some (10, true) }) (v := undef) rfl (by kernel_rfl) (by kernel_rfl) (by kernel_rfl) (fun _ _ _ h => h) (Or.inr ⟨by rfl, rfl⟩) (by assumption) ?_
                    try simp only [Act.put, List.setIfInBounds_toArray, List.set_cons_zero, List.set_cons_succ]
                    refine wpAnyH_take (i := 12) (oi := { dst := some 130, op := Go.Op.move (Go.Operand.tmp 6), type := 26, pos := "law.go:59", after := #[{ on := 10, ground := Go.Ground.guard }], guard := some (10, true) }) (v := undef) rfl (by kernel_rfl) (by kernel_rfl) (by kernel_rfl) (fun _ _ _ h => h) (Or.inr ⟨by rfl, rfl⟩) (by assumption) ?_
                    try simp only [Act.put, List.setIfInBounds_toArray, List.set_cons_zero, List.set_cons_succ]
                    refine wpAnyH_take (i := 13) (oi := { dst := some 131, op := Go.Op.move (Go.Operand.tmp 8), type := 3, pos := "law.go:59", after := #[{ on := 10, ground := Go.Ground.guard }], guard := some (10, true) }) (v := undef) rfl (by kernel_rfl) (by kernel_rfl) (by kernel_rfl) (fun _ _ _ h => h) (Or.inr ⟨by rfl, rfl⟩) (by assumption) ?_
                    try simp only [Act.put, List.setIfInBounds_toArray, List.set_cons_zero, List.set_cons_succ]
                    refine wpAnyH_take (i := 14) (oi := { dst := some 132, op := Go.Op.indexAddr 26 (Go.Operand.tmp 130) (Go.Operand.tmp 131), type := 0, pos := "law.go:59", after := #[{ on := 12, ground := Go.Ground.data }, { on := 13, ground := Go.Ground.data }, { on := 10, ground := Go.Ground.guard }], guard := some (10, true) }) (v := undef) rfl (by kernel_rfl) (by kernel_rfl) (by kernel_rfl) (fun _ _ _ h => h) (Or.inr ⟨by rfl, rfl⟩) (by assumption) ?_
                    try simp only [Act.put, List.setIfInBounds_toArray, List.set_cons_zero, List.set_cons_succ]
                    refine wpAnyH_take (i := 15) (oi := { dst := some 133, op := Go.Op.load 3 (Go.Operand.tmp 132), type := 3, pos := "law.go:59", after := #[{ on := 14, ground := Go.Ground.data }, { on := 10, ground := Go.Ground.guard }], guard := some (10, true) }) (v := undef) rfl (by kernel_rfl) (by kernel_rfl) (by kernel_rfl) (fun _ _ _ h => h) (Or.inr ⟨by rfl, rfl⟩) (by assumption) ?_
                    try simp only [Act.put, List.setIfInBounds_toArray, List.set_cons_zero, List.set_cons_succ]
                    refine wpAnyH_take (i := 16) (oi := { dst := some 134, op := Go.Op.move (Go.Operand.tmp 6), type := 26, pos := "law.go:59", after := #[{ on := 10, ground := Go.Ground.guard }], guard := some (10, true) }) (v := undef) rfl (by kernel_rfl) (by kernel_rfl) (by kernel_rfl) (fun _ _ _ h => h) (Or.inr ⟨by rfl, rfl⟩) (by assumption) ?_
                    try simp only [Act.put, List.setIfInBounds_toArray, List.set_cons_zero, List.set_cons_succ]
                    refine wpAnyH_take (i := 17) (oi := { dst := some 135, op := Go.Op.move (Go.Operand.tmp 9), type := 3, pos := "law.go:59", after := #[{ on := 10, ground := Go.Ground.guard }], guard := some (10, true) }) (v := undef) rfl (by kernel_rfl) (by kernel_rfl) (by kernel_rfl) (fun _ _ _ h => h) (Or.inr ⟨by rfl, rfl⟩) (by assumption) ?_
                    try simp only [Act.put, List.setIfInBounds_toArray, List.set_cons_zero, List.set_cons_succ]
                    refine wpAnyH_take (i := 18) (oi := { dst := some 136, op := Go.Op.indexAddr 26 (Go.Operand.tmp 134) (Go.Operand.tmp 135), type := 0, pos := "law.go:59", after := #[{ on := 16, ground := Go.Ground.data }, { on := 17, ground := Go.Ground.data }, { on := 10, ground := Go.Ground.guard }], guard := some (10, true) }) (v := undef) rfl (by kernel_rfl) (by kernel_rfl) (by kernel_rfl) (fun _ _ _ h => h) (Or.inr ⟨by rfl, rfl⟩) (by assumption) ?_
                    try simp only [Act.put, List.setIfInBounds_toArray, List.set_cons_zero, List.set_cons_succ]
                    refine wpAnyH_take (i := 19) (oi := { dst := some 137, op := Go.Op.load 3 (Go.Operand.tmp 136), type := 3, pos := "law.go:59", after := #[{ on := 18, ground := Go.Ground.data }, { on := 10, ground := Go.Ground.guard }], guard := some (10, true) }) (v := undef) rfl (by kernel_rfl) (by kernel_rfl) (by kernel_rfl) (fun _ _ _ h => h) (Or.inr ⟨by rfl, rfl⟩) (by assumption) ?_
                    try simp only [Act.put, List.setIfInBounds_toArray, List.set_cons_zero, List.set_cons_succ]
                    refine wpAnyH_take (i := 20) (oi := { dst := some 138, op := Go.Op.call { callee := Go.Callee.value (Go.Operand.func 16), args := #[Go.Operand.tmp 129, Go.Operand.tmp 133, Go.Operand.tmp 137], argTypes := #[22, 3, 3] }, type := 4, pos := "law.go:59", after := #[{ on := 11, ground := Go.Ground.data }, { on := 15, ground := Go.Ground.data }, { on := 19, ground := Go.Ground.data }, { on := 10, ground := Go.Ground.chain }, { on := 10, ground := Go.Ground.guard }], guard := some (10, true) }) (v := undef) rfl (by kernel_rfl) (by kernel_rfl) (by kernel_rfl) (fun _ _ _ h => h) (Or.inr ⟨by rfl, rfl⟩) (by assumption) ?_
                    try simp only [Act.put, List.setIfInBounds_toArray, List.set_cons_zero, List.set_cons_succ]
                    refine wpAnyH_take (i := 21) (oi := { dst := some 139, op := Go.Op.pick (Go.Operand.tmp 128) (Go.Operand.tmp 138) (Go.Operand.const (Go.Value.bool false)), type := 4, pos := "law.go:59", after := #[{ on := 10, ground := Go.Ground.data }, { on := 20, ground := Go.Ground.data }], guard := none }) (v := ?_) rfl (by kernel_rfl) (by kernel_rfl) (by kernel_rfl) (fun _ _ _ h => h) (Or.inl ⟨by rfl, ?_⟩) (by assumption) ?_
                    rotate_left
                    · (intro w hSw; (try dsimp only at hSw); go_simp); try with_reducible rfl
                    try simp only [Act.put, List.setIfInBounds_toArray, List.set_cons_zero, List.set_cons_succ]
                    refine wpAnyH_take (i := 22) (oi := { dst := some 140, op := Go.Op.move (Go.Operand.tmp 139), type := 4, pos := "law.go:59", after := #[{ on := 21, ground := Go.Ground.data }, { on := 20, ground := Go.Ground.chain }], guard := none }) (v := ?_) rfl (by kernel_rfl) (by kernel_rfl) (by kernel_rfl) (fun _ _ _ h => h) (Or.inl ⟨by rfl, ?_⟩) (by assumption) ?_
                    rotate_left
                    · (intro w hSw; (try dsimp only at hSw); go_simp); try with_reducible rfl
                    try simp only [Act.put, List.setIfInBounds_toArray, List.set_cons_zero, List.set_cons_succ]
                    refine wpAnyH_take (i := 23) (oi := { dst := some 141, op := Go.Op.move (Go.Operand.tmp 0), type := 22, pos := "law.go:59", after := #[{ on := 22, ground := Go.Ground.guard }], guard := some (22, true) }) (v := undef) rfl (by kernel_rfl) (by kernel_rfl) (by kernel_rfl) (fun _ _ _ h => h) (Or.inr ⟨by rfl, rfl⟩) (by assumption) ?_
                    try simp only [Act.put, List.setIfInBounds_toArray, List.set_cons_zero, List.set_cons_succ]
                    refine wpAnyH_take (i := 24) (oi := { dst := some 142, op := Go.Op.move (Go.Operand.tmp 6), type := 26, pos := "law.go:59", after := #[{ on := 22, ground := Go.Ground.guard }], guard := some (22, true) }) (v := undef) rfl (by kernel_rfl) (by kernel_rfl) (by kernel_rfl) (fun _ _ _ h => h) (Or.inr ⟨by rfl, rfl⟩) (by assumption) ?_
                    try simp only [Act.put, List.setIfInBounds_toArray, List.set_cons_zero, List.set_cons_succ]
                    refine wpAnyH_take (i := 25) (oi := { dst := some 143, op := Go.Op.move (Go.Operand.tmp 7), type := 3, pos := "law.go:59", after := #[{ on := 22, ground := Go.Ground.guard }], guard := some (22, true) }) (v := undef) rfl (by kernel_rfl) (by kernel_rfl) (by kernel_rfl) (fun _ _ _ h => h) (Or.inr ⟨by rfl, rfl⟩) (by assumption) ?_
                    try simp only [Act.put, List.setIfInBounds_toArray, List.set_cons_zero, List.set_cons_succ]
                    refine wpAnyH_take (i := 26) (oi := { dst := some 144, op := Go.Op.indexAddr 26 (Go.Operand.tmp 142) (Go.Operand.tmp 143), type := 0, pos := "law.go:59", after := #[{ on := 24, ground := Go.Ground.data }, { on := 25, ground := Go.Ground.data }, { on := 22, ground := Go.Ground.guard }], guard := some (22, true) }) (v := undef) rfl (by kernel_rfl) (by kernel_rfl) (by kernel_rfl) (fun _ _ _ h => h) (Or.inr ⟨by rfl, rfl⟩) (by assumption) ?_
                    try simp only [Act.put, List.setIfInBounds_toArray, List.set_cons_zero, List.set_cons_succ]
                    refine wpAnyH_take (i := 27) (oi := { dst := some 145, op := Go.Op.load 3 (Go.Operand.tmp 144), type := 3, pos := "law.go:59", after := #[{ on := 26, ground := Go.Ground.data }, { on := 22, ground := Go.Ground.guard }], guard := some (22, true) }) (v := undef) rfl (by kernel_rfl) (by kernel_rfl) (by kernel_rfl) (fun _ _ _ h => h) (Or.inr ⟨by rfl, rfl⟩) (by assumption) ?_
                    try simp only [Act.put, List.setIfInBounds_toArray, List.set_cons_zero, List.set_cons_succ]
                    refine wpAnyH_take (i := 28) (oi := { dst := some 146, op := Go.Op.move (Go.Operand.tmp 6), type := 26, pos := "law.go:59", after := #[{ on := 22, ground := Go.Ground.guard }], guard := some (22, true) }) (v := undef) rfl (by kernel_rfl) (by kernel_rfl) (by kernel_rfl) (fun _ _ _ h => h) (Or.inr ⟨by rfl, rfl⟩) (by assumption) ?_
                    try simp only [Act.put, List.setIfInBounds_toArray, List.set_cons_zero, List.set_cons_succ]
                    refine wpAnyH_take (i := 29) (oi := { dst := some 147, op := Go.Op.move (Go.Operand.tmp 9), type := 3, pos := "law.go:59", after := #[{ on := 22, ground := Go.Ground.guard }], guard := some (22, true) }) (v := undef) rfl (by kernel_rfl) (by kernel_rfl) (by kernel_rfl) (fun _ _ _ h => h) (Or.inr ⟨by rfl, rfl⟩) (by assumption) ?_
                    try simp only [Act.put, List.setIfInBounds_toArray, List.set_cons_zero, List.set_cons_succ]
                    refine wpAnyH_take (i := 30) (oi := { dst := some 148, op := Go.Op.indexAddr 26 (Go.Operand.tmp 146) (Go.Operand.tmp 147), type := 0, pos := "law.go:59", after := #[{ on := 28, ground := Go.Ground.data }, { on := 29, ground := Go.Ground.data }, { on := 22, ground := Go.Ground.guard }], guard := some (22, true) }) (v := undef) rfl (by kernel_rfl) (by kernel_rfl) (by kernel_rfl) (fun _ _ _ h => h) (Or.inr ⟨by rfl, rfl⟩) (by assumption) ?_
                    try simp only [Act.put, List.setIfInBounds_toArray, List.set_cons_zero, List.set_cons_succ]
                    refine wpAnyH_take (i := 31) (oi := { dst := some 149, op := Go.Op.load 3 (Go.Operand.tmp 148), type := 3, pos := "law.go:59", after := #[{ on := 30, ground := Go.Ground.data }, { on := 22, ground := Go.Ground.guard }], guard := some (22, true) }) (v := undef) rfl (by kernel_rfl) (by kernel_rfl) (by kernel_rfl) (fun _ _ _ h => h) (Or.inr ⟨by rfl, rfl⟩) (by assumption) ?_
                    try simp only [Act.put, List.setIfInBounds_toArray, List.set_cons_zero, List.set_cons_succ]
                    refine wpAnyH_take (i := 32) (oi := { dst := some 150, op := Go.Op.call { callee := Go.Callee.value (Go.Operand.func 16), args := #[Go.Operand.tmp 141, Go.Operand.tmp 145, Go.Operand.tmp 149], argTypes := #[22, 3, 3] }, type := 4, pos := "law.go:59", after := #[{ on := 23, ground := Go.Ground.data }, { on := 27, ground := Go.Ground.data }, { on := 31, ground := Go.Ground.data }, { on := 22, ground := Go.Ground.chain }, { on := 22, ground := Go.Ground.guard }], guard := some (22, true) }) (v := undef) rfl (by kernel_rfl) (by kernel_rfl) (by kernel_rfl) (fun _ _ _ h => h) (Or.inr ⟨by rfl, rfl⟩) (by assumption) ?_
                    try simp only [Act.put, List.setIfInBounds_toArray, List.set_cons_zero, List.set_cons_succ]
                    refine wpAnyH_take (i := 33) (oi := { dst := some 151, op := Go.Op.unOp Go.UnOp.not 4 (Go.Operand.tmp 150), type := 4, pos := "law.go:59", after := #[{ on := 32, ground := Go.Ground.data }, { on := 22, ground := Go.Ground.guard }], guard := some (22, true) }) (v := undef) rfl (by kernel_rfl) (by kernel_rfl) (by kernel_rfl) (fun _ _ _ h => h) (Or.inr ⟨by rfl, rfl⟩) (by assumption) ?_
                    try simp only [Act.put, List.setIfInBounds_toArray, List.set_cons_zero, List.set_cons_succ]
                    refine wpAnyH_take (i := 34) (oi := { dst := some 152, op := Go.Op.pick (Go.Operand.tmp 140) (Go.Operand.tmp 151) (Go.Operand.const (Go.Value.bool false)), type := 4, pos := "law.go:59", after := #[{ on := 22, ground := Go.Ground.data }, { on := 33, ground := Go.Ground.data }], guard := none }) (v := ?_) rfl (by kernel_rfl) (by kernel_rfl) (by kernel_rfl) (fun _ _ _ h => h) (Or.inl ⟨by rfl, ?_⟩) (by assumption) ?_
                    rotate_left
                    · (intro w hSw; (try dsimp only at hSw); go_simp); try with_reducible rfl
                    try simp only [Act.put, List.setIfInBounds_toArray, List.set_cons_zero, List.set_cons_succ]
                    refine wpAnyH_done (by kernel_rfl) ?_ _
                    have hbK : Below w3.heap.size w3 wA := below_step (below_drew1 HNK.out) hbA
                    go_wp2_with fail
                    go_roundw
                    case rel => exact ⟨k + 1, by omega, by go_num, hbK⟩
                    case measure => simp [intOf]; omega
                  · have H1 := Lib.hid h1
                    clear h1
                    cases h2 : beforeB l0 b c
                    · have H2 := Lib.hid h2
                      clear h2
                      go_wp2_with fail
                      refine wp_region_held_drew (S := (fun w' => w'.cell? ⟨g3, i, none⟩ = some (.int .i64 (a : Int)) ∧ w'.cell? ⟨g3, j, none⟩ = some (.int .i64 (b : Int)) ∧ w'.cell? ⟨g3, k, none⟩ = some (.int .i64 (c : Int)))) (by kernel_rfl) ?_ (fun hHeld => ?_)
                      · (try dsimp only); (first | go_keep | (go_split_ands; exact ⟨(hbA.cell (World.block_lt_of_cell? _ _ (by assumption))).trans (by assumption), (hbA.cell (World.block_lt_of_cell? _ _ (by assumption))).trans (by assumption), (hbA.cell (World.block_lt_of_cell? _ _ (by assumption))).trans (by assumption)⟩) | (go_split_ands; exact ⟨(hbB.cell (World.block_lt_of_cell? _ _ (by assumption))).trans (by assumption), (hbB.cell (World.block_lt_of_cell? _ _ (by assumption))).trans (by assumption), (hbB.cell (World.block_lt_of_cell? _ _ (by assumption))).trans (by assumption)⟩))
                      refine wpAnyH_take (i := 0) (oi := { dst := some 118, op := Go.Op.move (Go.Operand.tmp 0), type := 22, pos := "law.go:59", after := #[], guard := none }) (v := ?_) rfl (by kernel_rfl) (by kernel_rfl) (by kernel_rfl) (fun _ _ _ h => h) (Or.inl ⟨by rfl, ?_⟩) (by assumption) ?_
                      rotate_left
                      · (intro w hSw; (try dsimp only at hSw); go_simp); try with_reducible rfl
                      try simp only [Act.put, List.setIfInBounds_toArray, List.set_cons_zero, List.set_cons_succ]
                      refine wpAnyH_take (i := 1) (oi := { dst := some 119, op := Go.Op.move (Go.Operand.tmp 6), type := 26, pos := "law.go:59", after := #[], guard := none }) (v := ?_) rfl (by kernel_rfl) (by kernel_rfl) (by kernel_rfl) (fun _ _ _ h => h) (Or.inl ⟨by rfl, ?_⟩) (by assumption) ?_
                      rotate_left
                      · (intro w hSw; (try dsimp only at hSw); go_simp); try with_reducible rfl
                      try simp only [Act.put, List.setIfInBounds_toArray, List.set_cons_zero, List.set_cons_succ]
                      refine wpAnyH_take (i := 2) (oi := { dst := some 120, op := Go.Op.move (Go.Operand.tmp 7), type := 3, pos := "law.go:59", after := #[], guard := none }) (v := ?_) rfl (by kernel_rfl) (by kernel_rfl) (by kernel_rfl) (fun _ _ _ h => h) (Or.inl ⟨by rfl, ?_⟩) (by assumption) ?_
                      rotate_left
                      · (intro w hSw; (try dsimp only at hSw); go_simp); try with_reducible rfl
                      try simp only [Act.put, List.setIfInBounds_toArray, List.set_cons_zero, List.set_cons_succ]
                      refine wpAnyH_take (i := 3) (oi := { dst := some 121, op := Go.Op.indexAddr 26 (Go.Operand.tmp 119) (Go.Operand.tmp 120), type := 0, pos := "law.go:59", after := #[{ on := 1, ground := Go.Ground.data }, { on := 2, ground := Go.Ground.data }], guard := none }) (v := ?_) rfl (by kernel_rfl) (by kernel_rfl) (by kernel_rfl) (fun _ _ _ h => h) (Or.inl ⟨by rfl, ?_⟩) (by assumption) ?_
                      rotate_left
                      · (intro w hSw; (try dsimp only at hSw); go_simp); try with_reducible rfl
                      try simp only [Act.put, List.setIfInBounds_toArray, List.set_cons_zero, List.set_cons_succ]
                      refine wpAnyH_take (i := 4) (oi := { dst := some 122, op := Go.Op.load 3 (Go.Operand.tmp 121), type := 3, pos := "law.go:59", after := #[{ on := 3, ground := Go.Ground.data }], guard := none }) (v := ?_) rfl (by kernel_rfl) (by kernel_rfl) (by kernel_rfl) (fun _ _ _ h => h) (Or.inl ⟨by rfl, ?_⟩) (by assumption) ?_
                      rotate_left
                      · (intro w hSw; (try dsimp only at hSw); go_simp); try with_reducible rfl
                      try simp only [Act.put, List.setIfInBounds_toArray, List.set_cons_zero, List.set_cons_succ]
                      refine wpAnyH_take (i := 5) (oi := { dst := some 123, op := Go.Op.move (Go.Operand.tmp 6), type := 26, pos := "law.go:59", after := #[], guard := none }) (v := ?_) rfl (by kernel_rfl) (by kernel_rfl) (by kernel_rfl) (fun _ _ _ h => h) (Or.inl ⟨by rfl, ?_⟩) (by assumption) ?_
                      rotate_left
                      · (intro w hSw; (try dsimp only at hSw); go_simp); try with_reducible rfl
                      try simp only [Act.put, List.setIfInBounds_toArray, List.set_cons_zero, List.set_cons_succ]
                      refine wpAnyH_take (i := 6) (oi := { dst := some 124, op := Go.Op.move (Go.Operand.tmp 8), type := 3, pos := "law.go:59", after := #[], guard := none }) (v := ?_) rfl (by kernel_rfl) (by kernel_rfl) (by kernel_rfl) (fun _ _ _ h => h) (Or.inl ⟨by rfl, ?_⟩) (by assumption) ?_
                      rotate_left
                      · (intro w hSw; (try dsimp only at hSw); go_simp); try with_reducible rfl
                      try simp only [Act.put, List.setIfInBounds_toArray, List.set_cons_zero, List.set_cons_succ]
                      refine wpAnyH_take (i := 7) (oi := { dst := some 125, op := Go.Op.indexAddr 26 (Go.Operand.tmp 123) (Go.Operand.tmp 124), type := 0, pos := "law.go:59", after := #[{ on := 5, ground := Go.Ground.data }, { on := 6, ground := Go.Ground.data }], guard := none }) (v := ?_) rfl (by kernel_rfl) (by kernel_rfl) (by kernel_rfl) (fun _ _ _ h => h) (Or.inl ⟨by rfl, ?_⟩) (by assumption) ?_
                      rotate_left
                      · (intro w hSw; (try dsimp only at hSw); go_simp); try with_reducible rfl
                      try simp only [Act.put, List.setIfInBounds_toArray, List.set_cons_zero, List.set_cons_succ]
                      refine wpAnyH_take (i := 8) (oi := { dst := some 126, op := Go.Op.load 3 (Go.Operand.tmp 125), type := 3, pos := "law.go:59", after := #[{ on := 7, ground := Go.Ground.data }], guard := none }) (v := ?_) rfl (by kernel_rfl) (by kernel_rfl) (by kernel_rfl) (fun _ _ _ h => h) (Or.inl ⟨by rfl, ?_⟩) (by assumption) ?_
                      rotate_left
                      · (intro w hSw; (try dsimp only at hSw); go_simp); try with_reducible rfl
                      try simp only [Act.put, List.setIfInBounds_toArray, List.set_cons_zero, List.set_cons_succ]
                      refine wpAnyH_ready (rs := [9]) (by kernel_rfl) (by simp) ?_
                      refine AllReadyH.cons (o := { dst := some 127, op := Go.Op.call { callee := Go.Callee.value (Go.Operand.func 16), args := #[Go.Operand.tmp 118, Go.Operand.tmp 122, Go.Operand.tmp 126], argTypes := #[22, 3, 3] }, type := 4, pos := "law.go:59", after := #[{ on := 0, ground := Go.Ground.data }, { on := 4, ground := Go.Ground.data }, { on := 8, ground := Go.Ground.data }], guard := none }) rfl (fun K hK => ?_) AllReadyH.nil
                      go_simp
                      (go_at_call 16; refine (Rows2.before_calls HF.out _ _ a b true _ (by repeat (first | exact HRK.out | (with_reducible refine Kd.C_drew ?_) | (with_reducible refine Kd.C_drewN ?_ _))) hc0 H1.out).mono ?_; rintro e wA ⟨rfl, hbA⟩; have hCA := Kd.C_below (by repeat (first | exact HRK.out | (with_reducible refine Kd.C_drew ?_) | (with_reducible refine Kd.C_drewN ?_ _))) hbA)
                      try go_wp2_with fail
                      refine hK.out _ _ ?_ (fun hHeld9 => ?_)
                      · (try dsimp only); (first | go_keep | (go_split_ands; exact ⟨(hbA.cell (World.block_lt_of_cell? _ _ (by assumption))).trans (by assumption), (hbA.cell (World.block_lt_of_cell? _ _ (by assumption))).trans (by assumption), (hbA.cell (World.block_lt_of_cell? _ _ (by assumption))).trans (by assumption)⟩) | (go_split_ands; exact ⟨(hbB.cell (World.block_lt_of_cell? _ _ (by assumption))).trans (by assumption), (hbB.cell (World.block_lt_of_cell? _ _ (by assumption))).trans (by assumption), (hbB.cell (World.block_lt_of_cell? _ _ (by assumption))).trans (by assumption)⟩))
                      clear hK K hHeld
                      have hHeld := hHeld9
                      clear hHeld9
                      try simp only [Act.put, List.setIfInBounds_toArray, List.set_cons_zero, List.set_cons_succ]
                      refine wpAnyH_take (i := 10) (oi := { dst := some 128, op := Go.Op.move (Go.Operand.tmp 127), type := 4, pos := "law.go:59", after := #[{ on := 9, ground := Go.Ground.data }, { on := 9, ground := Go.Ground.chain }], guard := none }) (v := ?_) rfl (by kernel_rfl) (by kernel_rfl) (by kernel_rfl) (fun _ _ _ h => h) (Or.inl ⟨by rfl, ?_⟩) (by assumption) ?_
                      rotate_left
                      · (intro w hSw; (try dsimp only at hSw); go_simp); try with_reducible rfl
                      try simp only [Act.put, List.setIfInBounds_toArray, List.set_cons_zero, List.set_cons_succ]
                      refine wpAnyH_take (i := 11) (oi := { dst := some 129, op := Go.Op.move (Go.Operand.tmp 0), type := 22, pos := "law.go:59", after := #[{ on := 10, ground := Go.Ground.guard }], guard := some (10, true) }) (v := ?_) rfl (by kernel_rfl) (by kernel_rfl) (by kernel_rfl) (fun _ _ _ h => h) (Or.inl ⟨by rfl, ?_⟩) (by assumption) ?_
                      rotate_left
                      · (intro w hSw; (try dsimp only at hSw); go_simp); try with_reducible rfl
                      try simp only [Act.put, List.setIfInBounds_toArray, List.set_cons_zero, List.set_cons_succ]
                      refine wpAnyH_take (i := 12) (oi := { dst := some 130, op := Go.Op.move (Go.Operand.tmp 6), type := 26, pos := "law.go:59", after := #[{ on := 10, ground := Go.Ground.guard }], guard := some (10, true) }) (v := ?_) rfl (by kernel_rfl) (by kernel_rfl) (by kernel_rfl) (fun _ _ _ h => h) (Or.inl ⟨by rfl, ?_⟩) (by assumption) ?_
                      rotate_left
                      · (intro w hSw; (try dsimp only at hSw); go_simp); try with_reducible rfl
                      try simp only [Act.put, List.setIfInBounds_toArray, List.set_cons_zero, List.set_cons_succ]
                      refine wpAnyH_take (i := 13) (oi := { dst := some 131, op := Go.Op.move (Go.Operand.tmp 8), type := 3, pos := "law.go:59", after := #[{ on := 10, ground := Go.Ground.guard }], guard := some (10, true) }) (v := ?_) rfl (by kernel_rfl) (by kernel_rfl) (by kernel_rfl) (fun _ _ _ h => h) (Or.inl ⟨by rfl, ?_⟩) (by assumption) ?_
                      rotate_left
                      · (intro w hSw; (try dsimp only at hSw); go_simp); try with_reducible rfl
                      try simp only [Act.put, List.setIfInBounds_toArray, List.set_cons_zero, List.set_cons_succ]
                      refine wpAnyH_take (i := 14) (oi := { dst := some 132, op := Go.Op.indexAddr 26 (Go.Operand.tmp 130) (Go.Operand.tmp 131), type := 0, pos := "law.go:59", after := #[{ on := 12, ground := Go.Ground.data }, { on := 13, ground := Go.Ground.data }, { on := 10, ground := Go.Ground.guard }], guard := some (10, true) }) (v := ?_) rfl (by kernel_rfl) (by kernel_rfl) (by kernel_rfl) (fun _ _ _ h => h) (Or.inl ⟨by rfl, ?_⟩) (by assumption) ?_
                      rotate_left
                      · (intro w hSw; (try dsimp only at hSw); go_simp); try with_reducible rfl
                      try simp only [Act.put, List.setIfInBounds_toArray, List.set_cons_zero, List.set_cons_succ]
                      refine wpAnyH_take (i := 15) (oi := { dst := some 133, op := Go.Op.load 3 (Go.Operand.tmp 132), type := 3, pos := "law.go:59", after := #[{ on := 14, ground := Go.Ground.data }, { on := 10, ground := Go.Ground.guard }], guard := some (10, true) }) (v := ?_) rfl (by kernel_rfl) (by kernel_rfl) (by kernel_rfl) (fun _ _ _ h => h) (Or.inl ⟨by rfl, ?_⟩) (by assumption) ?_
                      rotate_left
                      · (intro w hSw; (try dsimp only at hSw); go_simp); try with_reducible rfl
                      try simp only [Act.put, List.setIfInBounds_toArray, List.set_cons_zero, List.set_cons_succ]
                      refine wpAnyH_take (i := 16) (oi := { dst := some 134, op := Go.Op.move (Go.Operand.tmp 6), type := 26, pos := "law.go:59", after := #[{ on := 10, ground := Go.Ground.guard }], guard := some (10, true) }) (v := ?_) rfl (by kernel_rfl) (by kernel_rfl) (by kernel_rfl) (fun _ _ _ h => h) (Or.inl ⟨by rfl, ?_⟩) (by assumption) ?_
                      rotate_left
                      · (intro w hSw; (try dsimp only at hSw); go_simp); try with_reducible rfl
                      try simp only [Act.put, List.setIfInBounds_toArray, List.set_cons_zero, List.set_cons_succ]
                      refine wpAnyH_take (i := 17) (oi := { dst := some 135, op := Go.Op.move (Go.Operand.tmp 9), type := 3, pos := "law.go:59", after := #[{ on := 10, ground := Go.Ground.guard }], guard := some (10, true) }) (v := ?_) rfl (by kernel_rfl) (by kernel_rfl) (by kernel_rfl) (fun _ _ _ h => h) (Or.inl ⟨by rfl, ?_⟩) (by assumption) ?_
                      rotate_left
                      · (intro w hSw; (try dsimp only at hSw); go_simp); try with_reducible rfl
                      try simp only [Act.put, List.setIfInBounds_toArray, List.set_cons_zero, List.set_cons_succ]
                      refine wpAnyH_take (i := 18) (oi := { dst := some 136, op := Go.Op.indexAddr 26 (Go.Operand.tmp 134) (Go.Operand.tmp 135), type := 0, pos := "law.go:59", after := #[{ on := 16, ground := Go.Ground.data }, { on := 17, ground := Go.Ground.data }, { on := 10, ground := Go.Ground.guard }], guard := some (10, true) }) (v := ?_) rfl (by kernel_rfl) (by kernel_rfl) (by kernel_rfl) (fun _ _ _ h => h) (Or.inl ⟨by rfl, ?_⟩) (by assumption) ?_
                      rotate_left
                      · (intro w hSw; (try dsimp only at hSw); go_simp); try with_reducible rfl
                      try simp only [Act.put, List.setIfInBounds_toArray, List.set_cons_zero, List.set_cons_succ]
                      refine wpAnyH_take (i := 19) (oi := { dst := some 137, op := Go.Op.load 3 (Go.Operand.tmp 136), type := 3, pos := "law.go:59", after := #[{ on := 18, ground := Go.Ground.data }, { on := 10, ground := Go.Ground.guard }], guard := some (10, true) }) (v := ?_) rfl (by kernel_rfl) (by kernel_rfl) (by kernel_rfl) (fun _ _ _ h => h) (Or.inl ⟨by rfl, ?_⟩) (by assumption) ?_
                      rotate_left
                      · (intro w hSw; (try dsimp only at hSw); go_simp); try with_reducible rfl
                      try simp only [Act.put, List.setIfInBounds_toArray, List.set_cons_zero, List.set_cons_succ]
                      refine wpAnyH_ready (rs := [20]) (by kernel_rfl) (by simp) ?_
                      refine AllReadyH.cons (o := { dst := some 138, op := Go.Op.call { callee := Go.Callee.value (Go.Operand.func 16), args := #[Go.Operand.tmp 129, Go.Operand.tmp 133, Go.Operand.tmp 137], argTypes := #[22, 3, 3] }, type := 4, pos := "law.go:59", after := #[{ on := 11, ground := Go.Ground.data }, { on := 15, ground := Go.Ground.data }, { on := 19, ground := Go.Ground.data }, { on := 10, ground := Go.Ground.chain }, { on := 10, ground := Go.Ground.guard }], guard := some (10, true) }) rfl (fun K hK => ?_) AllReadyH.nil
                      go_simp
                      (go_at_call 16; refine (Rows2.before_calls HF.out _ _ b c false _ (by repeat (first | exact hCA | (with_reducible refine Kd.C_drew ?_) | (with_reducible refine Kd.C_drewN ?_ _))) hc0 H2.out).mono ?_; rintro e wB ⟨rfl, hbB⟩)
                      try go_wp2_with fail
                      refine hK.out _ _ ?_ (fun hHeld20 => ?_)
                      · (try dsimp only); (first | go_keep | (go_split_ands; exact ⟨(hbA.cell (World.block_lt_of_cell? _ _ (by assumption))).trans (by assumption), (hbA.cell (World.block_lt_of_cell? _ _ (by assumption))).trans (by assumption), (hbA.cell (World.block_lt_of_cell? _ _ (by assumption))).trans (by assumption)⟩) | (go_split_ands; exact ⟨(hbB.cell (World.block_lt_of_cell? _ _ (by assumption))).trans (by assumption), (hbB.cell (World.block_lt_of_cell? _ _ (by assumption))).trans (by assumption), (hbB.cell (World.block_lt_of_cell? _ _ (by assumption))).trans (by assumption)⟩))
                      clear hK K hHeld
                      have hHeld := hHeld20
                      clear hHeld20
                      try simp only [Act.put, List.setIfInBounds_toArray, List.set_cons_zero, List.set_cons_succ]
                      refine wpAnyH_take (i := 21) (oi := { dst := some 139, op := Go.Op.pick (Go.Operand.tmp 128) (Go.Operand.tmp 138) (Go.Operand.const (Go.Value.bool false)), type := 4, pos := "law.go:59", after := #[{ on := 10, ground := Go.Ground.data }, { on := 20, ground := Go.Ground.data }], guard := none }) (v := ?_) rfl (by kernel_rfl) (by kernel_rfl) (by kernel_rfl) (fun _ _ _ h => h) (Or.inl ⟨by rfl, ?_⟩) (by assumption) ?_
                      rotate_left
                      · (intro w hSw; (try dsimp only at hSw); go_simp); try with_reducible rfl
                      try simp only [Act.put, List.setIfInBounds_toArray, List.set_cons_zero, List.set_cons_succ]
                      refine wpAnyH_take (i := 22) (oi := { dst := some 140, op := Go.Op.move (Go.Operand.tmp 139), type := 4, pos := "law.go:59", after := #[{ on := 21, ground := Go.Ground.data }, { on := 20, ground := Go.Ground.chain }], guard := none }) (v := ?_) rfl (by kernel_rfl) (by kernel_rfl) (by kernel_rfl) (fun _ _ _ h => h) (Or.inl ⟨by rfl, ?_⟩) (by assumption) ?_
                      rotate_left
                      · (intro w hSw; (try dsimp only at hSw); go_simp); try with_reducible rfl
                      try simp only [Act.put, List.setIfInBounds_toArray, List.set_cons_zero, List.set_cons_succ]
                      refine wpAnyH_take (i := 23) (oi := { dst := some 141, op := Go.Op.move (Go.Operand.tmp 0), type := 22, pos := "law.go:59", after := #[{ on := 22, ground := Go.Ground.guard }], guard := some (22, true) }) (v := undef) rfl (by kernel_rfl) (by kernel_rfl) (by kernel_rfl) (fun _ _ _ h => h) (Or.inr ⟨by rfl, rfl⟩) (by assumption) ?_
                      try simp only [Act.put, List.setIfInBounds_toArray, List.set_cons_zero, List.set_cons_succ]
                      refine wpAnyH_take (i := 24) (oi := { dst := some 142, op := Go.Op.move (Go.Operand.tmp 6), type := 26, pos := "law.go:59", after := #[{ on := 22, ground := Go.Ground.guard }], guard := some (22, true) }) (v := undef) rfl (by kernel_rfl) (by kernel_rfl) (by kernel_rfl) (fun _ _ _ h => h) (Or.inr ⟨by rfl, rfl⟩) (by assumption) ?_
                      try simp only [Act.put, List.setIfInBounds_toArray, List.set_cons_zero, List.set_cons_succ]
                      refine wpAnyH_take (i := 25) (oi := { dst := some 143, op := Go.Op.move (Go.Operand.tmp 7), type := 3, pos := "law.go:59", after := #[{ on := 22, ground := Go.Ground.guard }], guard := some (22, true) }) (v := undef) rfl (by kernel_rfl) (by kernel_rfl) (by kernel_rfl) (fun _ _ _ h => h) (Or.inr ⟨by rfl, rfl⟩) (by assumption) ?_
                      try simp only [Act.put, List.setIfInBounds_toArray, List.set_cons_zero, List.set_cons_succ]
                      refine wpAnyH_take (i := 26) (oi := { dst := some 144, op := Go.Op.indexAddr 26 (Go.Operand.tmp 142) (Go.Operand.tmp 143), type := 0, pos := "law.go:59", after := #[{ on := 24, ground := Go.Ground.data }, { on := 25, ground := Go.Ground.data }, { on := 22, ground := Go.Ground.guard }], guard := some (22, true) }) (v := undef) rfl (by kernel_rfl) (by kernel_rfl) (by kernel_rfl) (fun _ _ _ h => h) (Or.inr ⟨by rfl, rfl⟩) (by assumption) ?_
                      try simp only [Act.put, List.setIfInBounds_toArray, List.set_cons_zero, List.set_cons_succ]
                      refine wpAnyH_take (i := 27) (oi := { dst := some 145, op := Go.Op.load 3 (Go.Operand.tmp 144), type := 3, pos := "law.go:59", after := #[{ on := 26, ground := Go.Ground.data }, { on := 22, ground := Go.Ground.guard }], guard := some (22, true) }) (v := undef) rfl (by kernel_rfl) (by kernel_rfl) (by kernel_rfl) (fun _ _ _ h => h) (Or.inr ⟨by rfl, rfl⟩) (by assumption) ?_
                      try simp only [Act.put, List.setIfInBounds_toArray, List.set_cons_zero, List.set_cons_succ]
                      refine wpAnyH_take (i := 28) (oi := { dst := some 146, op := Go.Op.move (Go.Operand.tmp 6), type := 26, pos := "law.go:59", after := #[{ on := 22, ground := Go.Ground.guard }], guard := some (22, true) }) (v := undef) rfl (by kernel_rfl) (by kernel_rfl) (by kernel_rfl) (fun _ _ _ h => h) (Or.inr ⟨by rfl, rfl⟩) (by assumption) ?_
                      try simp only [Act.put, List.setIfInBounds_toArray, List.set_cons_zero, List.set_cons_succ]
                      refine wpAnyH_take (i := 29) (oi := { dst := some 147, op := Go.Op.move (Go.Operand.tmp 9), type := 3, pos := "law.go:59", after := #[{ on := 22, ground := Go.Ground.guard }], guard := some (22, true) }) (v := undef) rfl (by kernel_rfl) (by kernel_rfl) (by kernel_rfl) (fun _ _ _ h => h) (Or.inr ⟨by rfl, rfl⟩) (by assumption) ?_
                      try simp only [Act.put, List.setIfInBounds_toArray, List.set_cons_zero, List.set_cons_succ]
                      refine wpAnyH_take (i := 30) (oi := { dst := some 148, op := Go.Op.indexAddr 26 (Go.Operand.tmp 146) (Go.Operand.tmp 147), type := 0, pos := "law.go:59", after := #[{ on := 28, ground := Go.Ground.data }, { on := 29, ground := Go.Ground.data }, { on := 22, ground := Go.Ground.guard }], guard := some (22, true) }) (v := undef) rfl (by kernel_rfl) (by kernel_rfl) (by kernel_rfl) (fun _ _ _ h => h) (Or.inr ⟨by rfl, rfl⟩) (by assumption) ?_
                      try simp only [Act.put, List.setIfInBounds_toArray, List.set_cons_zero, List.set_cons_succ]
                      refine wpAnyH_take (i := 31) (oi := { dst := some 149, op := Go.Op.load 3 (Go.Operand.tmp 148), type := 3, pos := "law.go:59", after := #[{ on := 30, ground := Go.Ground.data }, { on := 22, ground := Go.Ground.guard }], guard := some (22, true) }) (v := undef) rfl (by kernel_rfl) (by kernel_rfl) (by kernel_rfl) (fun _ _ _ h => h) (Or.inr ⟨by rfl, rfl⟩) (by assumption) ?_
                      try simp only [Act.put, List.setIfInBounds_toArray, List.set_cons_zero, List.set_cons_succ]
                      refine wpAnyH_take (i := 32) (oi := { dst := some 150, op := Go.Op.call { callee := Go.Callee.value (Go.Operand.func 16), args := #[Go.Operand.tmp 141, Go.Operand.tmp 145, Go.Operand.tmp 149], argTypes := #[22, 3, 3] }, type := 4, pos := "law.go:59", after := #[{ on := 23, ground := Go.Ground.data }, { on := 27, ground := Go.Ground.data }, { on := 31, ground := Go.Ground.data }, { on := 22, ground := Go.Ground.chain }, { on := 22, ground := Go.Ground.guard }], guard := some (22, true) }) (v := undef) rfl (by kernel_rfl) (by kernel_rfl) (by kernel_rfl) (fun _ _ _ h => h) (Or.inr ⟨by rfl, rfl⟩) (by assumption) ?_
                      try simp only [Act.put, List.setIfInBounds_toArray, List.set_cons_zero, List.set_cons_succ]
                      refine wpAnyH_take (i := 33) (oi := { dst := some 151, op := Go.Op.unOp Go.UnOp.not 4 (Go.Operand.tmp 150), type := 4, pos := "law.go:59", after := #[{ on := 32, ground := Go.Ground.data }, { on := 22, ground := Go.Ground.guard }], guard := some (22, true) }) (v := undef) rfl (by kernel_rfl) (by kernel_rfl) (by kernel_rfl) (fun _ _ _ h => h) (Or.inr ⟨by rfl, rfl⟩) (by assumption) ?_
                      try simp only [Act.put, List.setIfInBounds_toArray, List.set_cons_zero, List.set_cons_succ]
                      refine wpAnyH_take (i := 34) (oi := { dst := some 152, op := Go.Op.pick (Go.Operand.tmp 140) (Go.Operand.tmp 151) (Go.Operand.const (Go.Value.bool false)), type := 4, pos := "law.go:59", after := #[{ on := 22, ground := Go.Ground.data }, { on := 33, ground := Go.Ground.data }], guard := none }) (v := ?_) rfl (by kernel_rfl) (by kernel_rfl) (by kernel_rfl) (fun _ _ _ h => h) (Or.inl ⟨by rfl, ?_⟩) (by assumption) ?_
                      rotate_left
                      · (intro w hSw; (try dsimp only at hSw); go_simp); try with_reducible rfl
                      try simp only [Act.put, List.setIfInBounds_toArray, List.set_cons_zero, List.set_cons_succ]
                      refine wpAnyH_done (by kernel_rfl) ?_ _
                      have hbK : Below w3.heap.size w3 wB := below_step (below_step (below_drew1 HNK.out) hbA) hbB
                      go_wp2_with fail
                      go_roundw
                      case rel => exact ⟨k + 1, by omega, by go_num, hbK⟩
                      case measure => simp [intOf]; omega
                    · have H2 := Lib.hid h2
                      have H3 := Lib.hid (before_trans hb1 hc1 HA2.out HB2.out HC2.out H1.out h2)
                      clear h2
                      go_wp2_with fail
                      go_region_held3 (fun w' => w'.cell? ⟨g3, i, none⟩ = some (.int .i64 (a : Int)) ∧ w'.cell? ⟨g3, j, none⟩ = some (.int .i64 (b : Int)) ∧ w'.cell? ⟨g3, k, none⟩ = some (.int .i64 (c : Int)))
                        (first | go_keep | (go_split_ands; exact ⟨(hbA.cell (World.block_lt_of_cell? _ _ (by assumption))).trans (by assumption), (hbA.cell (World.block_lt_of_cell? _ _ (by assumption))).trans (by assumption), (hbA.cell (World.block_lt_of_cell? _ _ (by assumption))).trans (by assumption)⟩) | (go_split_ands; exact ⟨(hbB.cell (World.block_lt_of_cell? _ _ (by assumption))).trans (by assumption), (hbB.cell (World.block_lt_of_cell? _ _ (by assumption))).trans (by assumption), (hbB.cell (World.block_lt_of_cell? _ _ (by assumption))).trans (by assumption)⟩) | (go_split_ands; exact ⟨(hbC.cell (World.block_lt_of_cell? _ _ (by assumption))).trans (by assumption), (hbC.cell (World.block_lt_of_cell? _ _ (by assumption))).trans (by assumption), (hbC.cell (World.block_lt_of_cell? _ _ (by assumption))).trans (by assumption)⟩))
                        (first
                          | (go_at_call 16; have hCB_ := hCB; refine (Rows2.before_calls HF.out _ _ a c true _ (by repeat (first | exact hCB | (with_reducible refine Kd.C_drew ?_) | (with_reducible refine Kd.C_drewN ?_ _))) hc0 H3.out).mono ?_; rintro e wC ⟨rfl, hbC⟩)
                          | (go_at_call 16; have hCA_ := hCA; refine (Rows2.before_calls HF.out _ _ b c true _ (by repeat (first | exact hCA | (with_reducible refine Kd.C_drew ?_) | (with_reducible refine Kd.C_drewN ?_ _))) hc0 H2.out).mono ?_; rintro e wB ⟨rfl, hbB⟩; have hCB := Kd.C_below (by repeat (first | exact hCA | (with_reducible refine Kd.C_drew ?_) | (with_reducible refine Kd.C_drewN ?_ _))) hbB)
                          | (go_at_call 16; refine (Rows2.before_calls HF.out _ _ a b true _ (by repeat (first | exact HRK.out | (with_reducible refine Kd.C_drew ?_) | (with_reducible refine Kd.C_drewN ?_ _))) hc0 H1.out).mono ?_; rintro e wA ⟨rfl, hbA⟩; have hCA := Kd.C_below (by repeat (first | exact HRK.out | (with_reducible refine Kd.C_drew ?_) | (with_reducible refine Kd.C_drewN ?_ _))) hbA))
                      have hbK : Below w3.heap.size w3 wC := below_step (below_step (below_step (below_drew1 HNK.out) hbA) hbB) hbC
                      go_wp2_with fail
                      go_roundw
                      case rel => exact ⟨k + 1, by omega, by go_num, hbK⟩
                      case measure => simp [intOf]; omega
                · have hke : k = m := by omega
                  subst hke
                  clear hkl
                  go_wp2_with fail
                  go_roundw
                  case rel => exact ⟨j + 1, by omega, by go_num, hnk⟩
                  case measure => simp [intOf]; omega
            · have hgt : ((ev l0 a).f1 == (ev l0 b).f1) = false := by rw [beq_eq_false_iff_ne]; exact he
              clear he hb3
              go_wp2_with fail
              go_big_quiet (fail)
              have hbJ : Below w3.heap.size w3 (wr.drewN nq) := below_drewN_ HNJ.out nq
              clear hxi hxj y1 z1 hg1 hg2 hd1 hd2 hd3 hd4
              go_wp2_with fail
              go_loopw [9] (fun kv wk => ∃ k : Nat, k ≤ m ∧ kv = .int .i64 k ∧ Below w3.heap.size w3 wk) (fun kv _ => m - (intOf kv).toNat)
              case atStart => exact ⟨0, Nat.zero_le _, rfl, hbJ⟩
              case round =>
                obtain ⟨k, hk, rfl, hnk⟩ := hrel
                clear hbJ
                by_cases hkl : k < m
                · have hk0 : (0 : Int) ≤ (k : Int) := by omega
                  have hk1 : (k : Int) < (m : Int) := by omega
                  obtain ⟨c, hc1, hc2, hc3⟩ := HCA.out k hkl
                  obtain ⟨g3c, e3c, _, xk⟩ := X0.out k hkl
                  obtain rfl : g3 = g3c := by injection e3c with e; injection e
                  have hxk : wr.cell? ⟨g3, k, none⟩ = some (.int .i64 (c : Int)) := by rw [xk wr hnk, hc3]
                  have hxi := XI.out _ hnk
                  have hxj := XJ.out _ hnk
                  have HNK := Lib.hid hnk
                  have HRK := Lib.hid (Kd.C_below HR4.out hnk)
                  have HC2 := Lib.hid hc2
                  clear xk hc3 hc2 e3c
                  cases h1 : beforeB l0 a b
                  · have H1 := Lib.hid h1
                    clear h1
                    go_wp2_with fail
                    refine wp_region_held_drew (S := (fun w' => w'.cell? ⟨g3, i, none⟩ = some (.int .i64 (a : Int)) ∧ w'.cell? ⟨g3, j, none⟩ = some (.int .i64 (b : Int)) ∧ w'.cell? ⟨g3, k, none⟩ = some (.int .i64 (c : Int)))) (by kernel_rfl) ?_ (fun hHeld => ?_)
                    · (try dsimp only); (first | go_keep | (go_split_ands; exact ⟨(hbA.cell (World.block_lt_of_cell? _ _ (by assumption))).trans (by assumption), (hbA.cell (World.block_lt_of_cell? _ _ (by assumption))).trans (by assumption), (hbA.cell (World.block_lt_of_cell? _ _ (by assumption))).trans (by assumption)⟩))
                    refine wpAnyH_take (i := 0) (oi := { dst := some 118, op := Go.Op.move (Go.Operand.tmp 0), type := 22, pos := "law.go:59", after := #[], guard := none }) (v := ?_) rfl (by kernel_rfl) (by kernel_rfl) (by kernel_rfl) (fun _ _ _ h => h) (Or.inl ⟨by rfl, ?_⟩) (by assumption) ?_
                    rotate_left
                    · (intro w hSw; (try dsimp only at hSw); go_simp); try with_reducible rfl
                    try simp only [Act.put, List.setIfInBounds_toArray, List.set_cons_zero, List.set_cons_succ]
                    refine wpAnyH_take (i := 1) (oi := { dst := some 119, op := Go.Op.move (Go.Operand.tmp 6), type := 26, pos := "law.go:59", after := #[], guard := none }) (v := ?_) rfl (by kernel_rfl) (by kernel_rfl) (by kernel_rfl) (fun _ _ _ h => h) (Or.inl ⟨by rfl, ?_⟩) (by assumption) ?_
                    rotate_left
                    · (intro w hSw; (try dsimp only at hSw); go_simp); try with_reducible rfl
                    try simp only [Act.put, List.setIfInBounds_toArray, List.set_cons_zero, List.set_cons_succ]
                    refine wpAnyH_take (i := 2) (oi := { dst := some 120, op := Go.Op.move (Go.Operand.tmp 7), type := 3, pos := "law.go:59", after := #[], guard := none }) (v := ?_) rfl (by kernel_rfl) (by kernel_rfl) (by kernel_rfl) (fun _ _ _ h => h) (Or.inl ⟨by rfl, ?_⟩) (by assumption) ?_
                    rotate_left
                    · (intro w hSw; (try dsimp only at hSw); go_simp); try with_reducible rfl
                    try simp only [Act.put, List.setIfInBounds_toArray, List.set_cons_zero, List.set_cons_succ]
                    refine wpAnyH_take (i := 3) (oi := { dst := some 121, op := Go.Op.indexAddr 26 (Go.Operand.tmp 119) (Go.Operand.tmp 120), type := 0, pos := "law.go:59", after := #[{ on := 1, ground := Go.Ground.data }, { on := 2, ground := Go.Ground.data }], guard := none }) (v := ?_) rfl (by kernel_rfl) (by kernel_rfl) (by kernel_rfl) (fun _ _ _ h => h) (Or.inl ⟨by rfl, ?_⟩) (by assumption) ?_
                    rotate_left
                    · (intro w hSw; (try dsimp only at hSw); go_simp); try with_reducible rfl
                    try simp only [Act.put, List.setIfInBounds_toArray, List.set_cons_zero, List.set_cons_succ]
                    refine wpAnyH_take (i := 4) (oi := { dst := some 122, op := Go.Op.load 3 (Go.Operand.tmp 121), type := 3, pos := "law.go:59", after := #[{ on := 3, ground := Go.Ground.data }], guard := none }) (v := ?_) rfl (by kernel_rfl) (by kernel_rfl) (by kernel_rfl) (fun _ _ _ h => h) (Or.inl ⟨by rfl, ?_⟩) (by assumption) ?_
                    rotate_left
                    · (intro w hSw; (try dsimp only at hSw); go_simp); try with_reducible rfl
                    try simp only [Act.put, List.setIfInBounds_toArray, List.set_cons_zero, List.set_cons_succ]
                    refine wpAnyH_take (i := 5) (oi := { dst := some 123, op := Go.Op.move (Go.Operand.tmp 6), type := 26, pos := "law.go:59", after := #[], guard := none }) (v := ?_) rfl (by kernel_rfl) (by kernel_rfl) (by kernel_rfl) (fun _ _ _ h => h) (Or.inl ⟨by rfl, ?_⟩) (by assumption) ?_
                    rotate_left
                    · (intro w hSw; (try dsimp only at hSw); go_simp); try with_reducible rfl
                    try simp only [Act.put, List.setIfInBounds_toArray, List.set_cons_zero, List.set_cons_succ]
                    refine wpAnyH_take (i := 6) (oi := { dst := some 124, op := Go.Op.move (Go.Operand.tmp 8), type := 3, pos := "law.go:59", after := #[], guard := none }) (v := ?_) rfl (by kernel_rfl) (by kernel_rfl) (by kernel_rfl) (fun _ _ _ h => h) (Or.inl ⟨by rfl, ?_⟩) (by assumption) ?_
                    rotate_left
                    · (intro w hSw; (try dsimp only at hSw); go_simp); try with_reducible rfl
                    try simp only [Act.put, List.setIfInBounds_toArray, List.set_cons_zero, List.set_cons_succ]
                    refine wpAnyH_take (i := 7) (oi := { dst := some 125, op := Go.Op.indexAddr 26 (Go.Operand.tmp 123) (Go.Operand.tmp 124), type := 0, pos := "law.go:59", after := #[{ on := 5, ground := Go.Ground.data }, { on := 6, ground := Go.Ground.data }], guard := none }) (v := ?_) rfl (by kernel_rfl) (by kernel_rfl) (by kernel_rfl) (fun _ _ _ h => h) (Or.inl ⟨by rfl, ?_⟩) (by assumption) ?_
                    rotate_left
                    · (intro w hSw; (try dsimp only at hSw); go_simp); try with_reducible rfl
                    try simp only [Act.put, List.setIfInBounds_toArray, List.set_cons_zero, List.set_cons_succ]
                    refine wpAnyH_take (i := 8) (oi := { dst := some 126, op := Go.Op.load 3 (Go.Operand.tmp 125), type := 3, pos := "law.go:59", after := #[{ on := 7, ground := Go.Ground.data }], guard := none }) (v := ?_) rfl (by kernel_rfl) (by kernel_rfl) (by kernel_rfl) (fun _ _ _ h => h) (Or.inl ⟨by rfl, ?_⟩) (by assumption) ?_
                    rotate_left
                    · (intro w hSw; (try dsimp only at hSw); go_simp); try with_reducible rfl
                    try simp only [Act.put, List.setIfInBounds_toArray, List.set_cons_zero, List.set_cons_succ]
                    refine wpAnyH_ready (rs := [9]) (by kernel_rfl) (by simp) ?_
                    refine AllReadyH.cons (o := { dst := some 127, op := Go.Op.call { callee := Go.Callee.value (Go.Operand.func 16), args := #[Go.Operand.tmp 118, Go.Operand.tmp 122, Go.Operand.tmp 126], argTypes := #[22, 3, 3] }, type := 4, pos := "law.go:59", after := #[{ on := 0, ground := Go.Ground.data }, { on := 4, ground := Go.Ground.data }, { on := 8, ground := Go.Ground.data }], guard := none }) rfl (fun K hK => ?_) AllReadyH.nil
                    go_simp
                    (go_at_call 16; refine (Rows2.before_calls HF.out _ _ a b false _ (by repeat (first | exact HRK.out | (with_reducible refine Kd.C_drew ?_) | (with_reducible refine Kd.C_drewN ?_ _))) hc0 H1.out).mono ?_; rintro e wA ⟨rfl, hbA⟩)
                    try go_wp2_with fail
                    refine hK.out _ _ ?_ (fun hHeld9 => ?_)
                    · (try dsimp only); (first | go_keep | (go_split_ands; exact ⟨(hbA.cell (World.block_lt_of_cell? _ _ (by assumption))).trans (by assumption), (hbA.cell (World.block_lt_of_cell? _ _ (by assumption))).trans (by assumption), (hbA.cell (World.block_lt_of_cell? _ _ (by assumption))).trans (by assumption)⟩))
                    clear hK K hHeld
                    have hHeld := hHeld9
                    clear hHeld9
                    try simp only [Act.put, List.setIfInBounds_toArray, List.set_cons_zero, List.set_cons_succ]
                    refine wpAnyH_take (i := 10) (oi := { dst := some 128, op := Go.Op.move (Go.Operand.tmp 127), type := 4, pos := "law.go:59", after := #[{ on := 9, ground := Go.Ground.data }, { on := 9, ground := Go.Ground.chain }], guard := none }) (v := ?_) rfl (by kernel_rfl) (by kernel_rfl) (by kernel_rfl) (fun _ _ _ h => h) (Or.inl ⟨by rfl, ?_⟩) (by assumption) ?_
                    rotate_left
                    · (intro w hSw; (try dsimp only at hSw); go_simp); try with_reducible rfl
                    try simp only [Act.put, List.setIfInBounds_toArray, List.set_cons_zero, List.set_cons_succ]
                    refine wpAnyH_take (i := 11) (oi := { dst := some 129, op := Go.Op.move (Go.Operand.tmp 0), type := 22, pos := "law.go:59", after := #[{ on := 10, ground := Go.Ground.guard }], guard := some (10, true) }) (v := undef) rfl (by kernel_rfl) (by kernel_rfl) (by kernel_rfl) (fun _ _ _ h => h) (Or.inr ⟨by rfl, rfl⟩) (by assumption) ?_
                    try simp only [Act.put, List.setIfInBounds_toArray, List.set_cons_zero, List.set_cons_succ]
                    refine wpAnyH_take (i := 12) (oi := { dst := some 130, op := Go.Op.move (Go.Operand.tmp 6), type := 26, pos := "law.go:59", after := #[{ on := 10, ground := Go.Ground.guard }], guard := some (10, true) }) (v := undef) rfl (by kernel_rfl) (by kernel_rfl) (by kernel_rfl) (fun _ _ _ h => h) (Or.inr ⟨by rfl, rfl⟩) (by assumption) ?_
                    try simp only [Act.put, List.setIfInBounds_toArray, List.set_cons_zero, List.set_cons_succ]
                    refine wpAnyH_take (i := 13) (oi := { dst := some 131, op := Go.Op.move (Go.Operand.tmp 8), type := 3, pos := "law.go:59", after := #[{ on := 10, ground := Go.Ground.guard }], guard := some (10, true) }) (v := undef) rfl (by kernel_rfl) (by kernel_rfl) (by kernel_rfl) (fun _ _ _ h => h) (Or.inr ⟨by rfl, rfl⟩) (by assumption) ?_
                    try simp only [Act.put, List.setIfInBounds_toArray, List.set_cons_zero, List.set_cons_succ]
                    refine wpAnyH_take (i := 14) (oi := { dst := some 132, op := Go.Op.indexAddr 26 (Go.Operand.tmp 130) (Go.Operand.tmp 131), type := 0, pos := "law.go:59", after := #[{ on := 12, ground := Go.Ground.data }, { on := 13, ground := Go.Ground.data }, { on := 10, ground := Go.Ground.guard }], guard := some (10, true) }) (v := undef) rfl (by kernel_rfl) (by kernel_rfl) (by kernel_rfl) (fun _ _ _ h => h) (Or.inr ⟨by rfl, rfl⟩) (by assumption) ?_
                    try simp only [Act.put, List.setIfInBounds_toArray, List.set_cons_zero, List.set_cons_succ]
                    refine wpAnyH_take (i := 15) (oi := { dst := some 133, op := Go.Op.load 3 (Go.Operand.tmp 132), type := 3, pos := "law.go:59", after := #[{ on := 14, ground := Go.Ground.data }, { on := 10, ground := Go.Ground.guard }], guard := some (10, true) }) (v := undef) rfl (by kernel_rfl) (by kernel_rfl) (by kernel_rfl) (fun _ _ _ h => h) (Or.inr ⟨by rfl, rfl⟩) (by assumption) ?_
                    try simp only [Act.put, List.setIfInBounds_toArray, List.set_cons_zero, List.set_cons_succ]
                    refine wpAnyH_take (i := 16) (oi := { dst := some 134, op := Go.Op.move (Go.Operand.tmp 6), type := 26, pos := "law.go:59", after := #[{ on := 10, ground := Go.Ground.guard }], guard := some (10, true) }) (v := undef) rfl (by kernel_rfl) (by kernel_rfl) (by kernel_rfl) (fun _ _ _ h => h) (Or.inr ⟨by rfl, rfl⟩) (by assumption) ?_
                    try simp only [Act.put, List.setIfInBounds_toArray, List.set_cons_zero, List.set_cons_succ]
                    refine wpAnyH_take (i := 17) (oi := { dst := some 135, op := Go.Op.move (Go.Operand.tmp 9), type := 3, pos := "law.go:59", after := #[{ on := 10, ground := Go.Ground.guard }], guard := some (10, true) }) (v := undef) rfl (by kernel_rfl) (by kernel_rfl) (by kernel_rfl) (fun _ _ _ h => h) (Or.inr ⟨by rfl, rfl⟩) (by assumption) ?_
                    try simp only [Act.put, List.setIfInBounds_toArray, List.set_cons_zero, List.set_cons_succ]
                    refine wpAnyH_take (i := 18) (oi := { dst := some 136, op := Go.Op.indexAddr 26 (Go.Operand.tmp 134) (Go.Operand.tmp 135), type := 0, pos := "law.go:59", after := #[{ on := 16, ground := Go.Ground.data }, { on := 17, ground := Go.Ground.data }, { on := 10, ground := Go.Ground.guard }], guard := some (10, true) }) (v := undef) rfl (by kernel_rfl) (by kernel_rfl) (by kernel_rfl) (fun _ _ _ h => h) (Or.inr ⟨by rfl, rfl⟩) (by assumption) ?_
                    try simp only [Act.put, List.setIfInBounds_toArray, List.set_cons_zero, List.set_cons_succ]
                    refine wpAnyH_take (i := 19) (oi := { dst := some 137, op := Go.Op.load 3 (Go.Operand.tmp 136), type := 3, pos := "law.go:59", after := #[{ on := 18, ground := Go.Ground.data }, { on := 10, ground := Go.Ground.guard }], guard := some (10, true) }) (v := undef) rfl (by kernel_rfl) (by kernel_rfl) (by kernel_rfl) (fun _ _ _ h => h) (Or.inr ⟨by rfl, rfl⟩) (by assumption) ?_
                    try simp only [Act.put, List.setIfInBounds_toArray, List.set_cons_zero, List.set_cons_succ]
                    refine wpAnyH_take (i := 20) (oi := { dst := some 138, op := Go.Op.call { callee := Go.Callee.value (Go.Operand.func 16), args := #[Go.Operand.tmp 129, Go.Operand.tmp 133, Go.Operand.tmp 137], argTypes := #[22, 3, 3] }, type := 4, pos := "law.go:59", after := #[{ on := 11, ground := Go.Ground.data }, { on := 15, ground := Go.Ground.data }, { on := 19, ground := Go.Ground.data }, { on := 10, ground := Go.Ground.chain }, { on := 10, ground := Go.Ground.guard }], guard := some (10, true) }) (v := undef) rfl (by kernel_rfl) (by kernel_rfl) (by kernel_rfl) (fun _ _ _ h => h) (Or.inr ⟨by rfl, rfl⟩) (by assumption) ?_
                    try simp only [Act.put, List.setIfInBounds_toArray, List.set_cons_zero, List.set_cons_succ]
                    refine wpAnyH_take (i := 21) (oi := { dst := some 139, op := Go.Op.pick (Go.Operand.tmp 128) (Go.Operand.tmp 138) (Go.Operand.const (Go.Value.bool false)), type := 4, pos := "law.go:59", after := #[{ on := 10, ground := Go.Ground.data }, { on := 20, ground := Go.Ground.data }], guard := none }) (v := ?_) rfl (by kernel_rfl) (by kernel_rfl) (by kernel_rfl) (fun _ _ _ h => h) (Or.inl ⟨by rfl, ?_⟩) (by assumption) ?_
                    rotate_left
                    · (intro w hSw; (try dsimp only at hSw); go_simp); try with_reducible rfl
                    try simp only [Act.put, List.setIfInBounds_toArray, List.set_cons_zero, List.set_cons_succ]
                    refine wpAnyH_take (i := 22) (oi := { dst := some 140, op := Go.Op.move (Go.Operand.tmp 139), type := 4, pos := "law.go:59", after := #[{ on := 21, ground := Go.Ground.data }, { on := 20, ground := Go.Ground.chain }], guard := none }) (v := ?_) rfl (by kernel_rfl) (by kernel_rfl) (by kernel_rfl) (fun _ _ _ h => h) (Or.inl ⟨by rfl, ?_⟩) (by assumption) ?_
                    rotate_left
                    · (intro w hSw; (try dsimp only at hSw); go_simp); try with_reducible rfl
                    try simp only [Act.put, List.setIfInBounds_toArray, List.set_cons_zero, List.set_cons_succ]
                    refine wpAnyH_take (i := 23) (oi := { dst := some 141, op := Go.Op.move (Go.Operand.tmp 0), type := 22, pos := "law.go:59", after := #[{ on := 22, ground := Go.Ground.guard }], guard := some (22, true) }) (v := undef) rfl (by kernel_rfl) (by kernel_rfl) (by kernel_rfl) (fun _ _ _ h => h) (Or.inr ⟨by rfl, rfl⟩) (by assumption) ?_
                    try simp only [Act.put, List.setIfInBounds_toArray, List.set_cons_zero, List.set_cons_succ]
                    refine wpAnyH_take (i := 24) (oi := { dst := some 142, op := Go.Op.move (Go.Operand.tmp 6), type := 26, pos := "law.go:59", after := #[{ on := 22, ground := Go.Ground.guard }], guard := some (22, true) }) (v := undef) rfl (by kernel_rfl) (by kernel_rfl) (by kernel_rfl) (fun _ _ _ h => h) (Or.inr ⟨by rfl, rfl⟩) (by assumption) ?_
                    try simp only [Act.put, List.setIfInBounds_toArray, List.set_cons_zero, List.set_cons_succ]
                    refine wpAnyH_take (i := 25) (oi := { dst := some 143, op := Go.Op.move (Go.Operand.tmp 7), type := 3, pos := "law.go:59", after := #[{ on := 22, ground := Go.Ground.guard }], guard := some (22, true) }) (v := undef) rfl (by kernel_rfl) (by kernel_rfl) (by kernel_rfl) (fun _ _ _ h => h) (Or.inr ⟨by rfl, rfl⟩) (by assumption) ?_
                    try simp only [Act.put, List.setIfInBounds_toArray, List.set_cons_zero, List.set_cons_succ]
                    refine wpAnyH_take (i := 26) (oi := { dst := some 144, op := Go.Op.indexAddr 26 (Go.Operand.tmp 142) (Go.Operand.tmp 143), type := 0, pos := "law.go:59", after := #[{ on := 24, ground := Go.Ground.data }, { on := 25, ground := Go.Ground.data }, { on := 22, ground := Go.Ground.guard }], guard := some (22, true) }) (v := undef) rfl (by kernel_rfl) (by kernel_rfl) (by kernel_rfl) (fun _ _ _ h => h) (Or.inr ⟨by rfl, rfl⟩) (by assumption) ?_
                    try simp only [Act.put, List.setIfInBounds_toArray, List.set_cons_zero, List.set_cons_succ]
                    refine wpAnyH_take (i := 27) (oi := { dst := some 145, op := Go.Op.load 3 (Go.Operand.tmp 144), type := 3, pos := "law.go:59", after := #[{ on := 26, ground := Go.Ground.data }, { on := 22, ground := Go.Ground.guard }], guard := some (22, true) }) (v := undef) rfl (by kernel_rfl) (by kernel_rfl) (by kernel_rfl) (fun _ _ _ h => h) (Or.inr ⟨by rfl, rfl⟩) (by assumption) ?_
                    try simp only [Act.put, List.setIfInBounds_toArray, List.set_cons_zero, List.set_cons_succ]
                    refine wpAnyH_take (i := 28) (oi := { dst := some 146, op := Go.Op.move (Go.Operand.tmp 6), type := 26, pos := "law.go:59", after := #[{ on := 22, ground := Go.Ground.guard }], guard := some (22, true) }) (v := undef) rfl (by kernel_rfl) (by kernel_rfl) (by kernel_rfl) (fun _ _ _ h => h) (Or.inr ⟨by rfl, rfl⟩) (by assumption) ?_
                    try simp only [Act.put, List.setIfInBounds_toArray, List.set_cons_zero, List.set_cons_succ]
                    refine wpAnyH_take (i := 29) (oi := { dst := some 147, op := Go.Op.move (Go.Operand.tmp 9), type := 3, pos := "law.go:59", after := #[{ on := 22, ground := Go.Ground.guard }], guard := some (22, true) }) (v := undef) rfl (by kernel_rfl) (by kernel_rfl) (by kernel_rfl) (fun _ _ _ h => h) (Or.inr ⟨by rfl, rfl⟩) (by assumption) ?_
                    try simp only [Act.put, List.setIfInBounds_toArray, List.set_cons_zero, List.set_cons_succ]
                    refine wpAnyH_take (i := 30) (oi := { dst := some 148, op := Go.Op.indexAddr 26 (Go.Operand.tmp 146) (Go.Operand.tmp 147), type := 0, pos := "law.go:59", after := #[{ on := 28, ground := Go.Ground.data }, { on := 29, ground := Go.Ground.data }, { on := 22, ground := Go.Ground.guard }], guard := some (22, true) }) (v := undef) rfl (by kernel_rfl) (by kernel_rfl) (by kernel_rfl) (fun _ _ _ h => h) (Or.inr ⟨by rfl, rfl⟩) (by assumption) ?_
                    try simp only [Act.put, List.setIfInBounds_toArray, List.set_cons_zero, List.set_cons_succ]
                    refine wpAnyH_take (i := 31) (oi := { dst := some 149, op := Go.Op.load 3 (Go.Operand.tmp 148), type := 3, pos := "law.go:59", after := #[{ on := 30, ground := Go.Ground.data }, { on := 22, ground := Go.Ground.guard }], guard := some (22, true) }) (v := undef) rfl (by kernel_rfl) (by kernel_rfl) (by kernel_rfl) (fun _ _ _ h => h) (Or.inr ⟨by rfl, rfl⟩) (by assumption) ?_
                    try simp only [Act.put, List.setIfInBounds_toArray, List.set_cons_zero, List.set_cons_succ]
                    refine wpAnyH_take (i := 32) (oi := { dst := some 150, op := Go.Op.call { callee := Go.Callee.value (Go.Operand.func 16), args := #[Go.Operand.tmp 141, Go.Operand.tmp 145, Go.Operand.tmp 149], argTypes := #[22, 3, 3] }, type := 4, pos := "law.go:59", after := #[{ on := 23, ground := Go.Ground.data }, { on := 27, ground := Go.Ground.data }, { on := 31, ground := Go.Ground.data }, { on := 22, ground := Go.Ground.chain }, { on := 22, ground := Go.Ground.guard }], guard := some (22, true) }) (v := undef) rfl (by kernel_rfl) (by kernel_rfl) (by kernel_rfl) (fun _ _ _ h => h) (Or.inr ⟨by rfl, rfl⟩) (by assumption) ?_
                    try simp only [Act.put, List.setIfInBounds_toArray, List.set_cons_zero, List.set_cons_succ]
                    refine wpAnyH_take (i := 33) (oi := { dst := some 151, op := Go.Op.unOp Go.UnOp.not 4 (Go.Operand.tmp 150), type := 4, pos := "law.go:59", after := #[{ on := 32, ground := Go.Ground.data }, { on := 22, ground := Go.Ground.guard }], guard := some (22, true) }) (v := undef) rfl (by kernel_rfl) (by kernel_rfl) (by kernel_rfl) (fun _ _ _ h => h) (Or.inr ⟨by rfl, rfl⟩) (by assumption) ?_
                    try simp only [Act.put, List.setIfInBounds_toArray, List.set_cons_zero, List.set_cons_succ]
                    refine wpAnyH_take (i := 34) (oi := { dst := some 152, op := Go.Op.pick (Go.Operand.tmp 140) (Go.Operand.tmp 151) (Go.Operand.const (Go.Value.bool false)), type := 4, pos := "law.go:59", after := #[{ on := 22, ground := Go.Ground.data }, { on := 33, ground := Go.Ground.data }], guard := none }) (v := ?_) rfl (by kernel_rfl) (by kernel_rfl) (by kernel_rfl) (fun _ _ _ h => h) (Or.inl ⟨by rfl, ?_⟩) (by assumption) ?_
                    rotate_left
                    · (intro w hSw; (try dsimp only at hSw); go_simp); try with_reducible rfl
                    try simp only [Act.put, List.setIfInBounds_toArray, List.set_cons_zero, List.set_cons_succ]
                    refine wpAnyH_done (by kernel_rfl) ?_ _
                    have hbK : Below w3.heap.size w3 wA := below_step (below_drew1 HNK.out) hbA
                    go_wp2_with fail
                    go_roundw
                    case rel => exact ⟨k + 1, by omega, by go_num, hbK⟩
                    case measure => simp [intOf]; omega
                  · have H1 := Lib.hid h1
                    clear h1
                    cases h2 : beforeB l0 b c
                    · have H2 := Lib.hid h2
                      clear h2
                      go_wp2_with fail
                      refine wp_region_held_drew (S := (fun w' => w'.cell? ⟨g3, i, none⟩ = some (.int .i64 (a : Int)) ∧ w'.cell? ⟨g3, j, none⟩ = some (.int .i64 (b : Int)) ∧ w'.cell? ⟨g3, k, none⟩ = some (.int .i64 (c : Int)))) (by kernel_rfl) ?_ (fun hHeld => ?_)
                      · (try dsimp only); (first | go_keep | (go_split_ands; exact ⟨(hbA.cell (World.block_lt_of_cell? _ _ (by assumption))).trans (by assumption), (hbA.cell (World.block_lt_of_cell? _ _ (by assumption))).trans (by assumption), (hbA.cell (World.block_lt_of_cell? _ _ (by assumption))).trans (by assumption)⟩) | (go_split_ands; exact ⟨(hbB.cell (World.block_lt_of_cell? _ _ (by assumption))).trans (by assumption), (hbB.cell (World.block_lt_of_cell? _ _ (by assumption))).trans (by assumption), (hbB.cell (World.block_lt_of_cell? _ _ (by assumption))).trans (by assumption)⟩))
                      refine wpAnyH_take (i := 0) (oi := { dst := some 118, op := Go.Op.move (Go.Operand.tmp 0), type := 22, pos := "law.go:59", after := #[], guard := none }) (v := ?_) rfl (by kernel_rfl) (by kernel_rfl) (by kernel_rfl) (fun _ _ _ h => h) (Or.inl ⟨by rfl, ?_⟩) (by assumption) ?_
                      rotate_left
                      · (intro w hSw; (try dsimp only at hSw); go_simp); try with_reducible rfl
                      try simp only [Act.put, List.setIfInBounds_toArray, List.set_cons_zero, List.set_cons_succ]
                      refine wpAnyH_take (i := 1) (oi := { dst := some 119, op := Go.Op.move (Go.Operand.tmp 6), type := 26, pos := "law.go:59", after := #[], guard := none }) (v := ?_) rfl (by kernel_rfl) (by kernel_rfl) (by kernel_rfl) (fun _ _ _ h => h) (Or.inl ⟨by rfl, ?_⟩) (by assumption) ?_
                      rotate_left
                      · (intro w hSw; (try dsimp only at hSw); go_simp); try with_reducible rfl
                      try simp only [Act.put, List.setIfInBounds_toArray, List.set_cons_zero, List.set_cons_succ]
                      refine wpAnyH_take (i := 2) (oi := { dst := some 120, op := Go.Op.move (Go.Operand.tmp 7), type := 3, pos := "law.go:59", after := #[], guard := none }) (v := ?_) rfl (by kernel_rfl) (by kernel_rfl) (by kernel_rfl) (fun _ _ _ h => h) (Or.inl ⟨by rfl, ?_⟩) (by assumption) ?_
                      rotate_left
                      · (intro w hSw; (try dsimp only at hSw); go_simp); try with_reducible rfl
                      try simp only [Act.put, List.setIfInBounds_toArray, List.set_cons_zero, List.set_cons_succ]
                      refine wpAnyH_take (i := 3) (oi := { dst := some 121, op := Go.Op.indexAddr 26 (Go.Operand.tmp 119) (Go.Operand.tmp 120), type := 0, pos := "law.go:59", after := #[{ on := 1, ground := Go.Ground.data }, { on := 2, ground := Go.Ground.data }], guard := none }) (v := ?_) rfl (by kernel_rfl) (by kernel_rfl) (by kernel_rfl) (fun _ _ _ h => h) (Or.inl ⟨by rfl, ?_⟩) (by assumption) ?_
                      rotate_left
                      · (intro w hSw; (try dsimp only at hSw); go_simp); try with_reducible rfl
                      try simp only [Act.put, List.setIfInBounds_toArray, List.set_cons_zero, List.set_cons_succ]
                      refine wpAnyH_take (i := 4) (oi := { dst := some 122, op := Go.Op.load 3 (Go.Operand.tmp 121), type := 3, pos := "law.go:59", after := #[{ on := 3, ground := Go.Ground.data }], guard := none }) (v := ?_) rfl (by kernel_rfl) (by kernel_rfl) (by kernel_rfl) (fun _ _ _ h => h) (Or.inl ⟨by rfl, ?_⟩) (by assumption) ?_
                      rotate_left
                      · (intro w hSw; (try dsimp only at hSw); go_simp); try with_reducible rfl
                      try simp only [Act.put, List.setIfInBounds_toArray, List.set_cons_zero, List.set_cons_succ]
                      refine wpAnyH_take (i := 5) (oi := { dst := some 123, op := Go.Op.move (Go.Operand.tmp 6), type := 26, pos := "law.go:59", after := #[], guard := none }) (v := ?_) rfl (by kernel_rfl) (by kernel_rfl) (by kernel_rfl) (fun _ _ _ h => h) (Or.inl ⟨by rfl, ?_⟩) (by assumption) ?_
                      rotate_left
                      · (intro w hSw; (try dsimp only at hSw); go_simp); try with_reducible rfl
                      try simp only [Act.put, List.setIfInBounds_toArray, List.set_cons_zero, List.set_cons_succ]
                      refine wpAnyH_take (i := 6) (oi := { dst := some 124, op := Go.Op.move (Go.Operand.tmp 8), type := 3, pos := "law.go:59", after := #[], guard := none }) (v := ?_) rfl (by kernel_rfl) (by kernel_rfl) (by kernel_rfl) (fun _ _ _ h => h) (Or.inl ⟨by rfl, ?_⟩) (by assumption) ?_
                      rotate_left
                      · (intro w hSw; (try dsimp only at hSw); go_simp); try with_reducible rfl
                      try simp only [Act.put, List.setIfInBounds_toArray, List.set_cons_zero, List.set_cons_succ]
                      refine wpAnyH_take (i := 7) (oi := { dst := some 125, op := Go.Op.indexAddr 26 (Go.Operand.tmp 123) (Go.Operand.tmp 124), type := 0, pos := "law.go:59", after := #[{ on := 5, ground := Go.Ground.data }, { on := 6, ground := Go.Ground.data }], guard := none }) (v := ?_) rfl (by kernel_rfl) (by kernel_rfl) (by kernel_rfl) (fun _ _ _ h => h) (Or.inl ⟨by rfl, ?_⟩) (by assumption) ?_
                      rotate_left
                      · (intro w hSw; (try dsimp only at hSw); go_simp); try with_reducible rfl
                      try simp only [Act.put, List.setIfInBounds_toArray, List.set_cons_zero, List.set_cons_succ]
                      refine wpAnyH_take (i := 8) (oi := { dst := some 126, op := Go.Op.load 3 (Go.Operand.tmp 125), type := 3, pos := "law.go:59", after := #[{ on := 7, ground := Go.Ground.data }], guard := none }) (v := ?_) rfl (by kernel_rfl) (by kernel_rfl) (by kernel_rfl) (fun _ _ _ h => h) (Or.inl ⟨by rfl, ?_⟩) (by assumption) ?_
                      rotate_left
                      · (intro w hSw; (try dsimp only at hSw); go_simp); try with_reducible rfl
                      try simp only [Act.put, List.setIfInBounds_toArray, List.set_cons_zero, List.set_cons_succ]
                      refine wpAnyH_ready (rs := [9]) (by kernel_rfl) (by simp) ?_
                      refine AllReadyH.cons (o := { dst := some 127, op := Go.Op.call { callee := Go.Callee.value (Go.Operand.func 16), args := #[Go.Operand.tmp 118, Go.Operand.tmp 122, Go.Operand.tmp 126], argTypes := #[22, 3, 3] }, type := 4, pos := "law.go:59", after := #[{ on := 0, ground := Go.Ground.data }, { on := 4, ground := Go.Ground.data }, { on := 8, ground := Go.Ground.data }], guard := none }) rfl (fun K hK => ?_) AllReadyH.nil
                      go_simp
                      (go_at_call 16; refine (Rows2.before_calls HF.out _ _ a b true _ (by repeat (first | exact HRK.out | (with_reducible refine Kd.C_drew ?_) | (with_reducible refine Kd.C_drewN ?_ _))) hc0 H1.out).mono ?_; rintro e wA ⟨rfl, hbA⟩; have hCA := Kd.C_below (by repeat (first | exact HRK.out | (with_reducible refine Kd.C_drew ?_) | (with_reducible refine Kd.C_drewN ?_ _))) hbA)
                      try go_wp2_with fail
                      refine hK.out _ _ ?_ (fun hHeld9 => ?_)
                      · (try dsimp only); (first | go_keep | (go_split_ands; exact ⟨(hbA.cell (World.block_lt_of_cell? _ _ (by assumption))).trans (by assumption), (hbA.cell (World.block_lt_of_cell? _ _ (by assumption))).trans (by assumption), (hbA.cell (World.block_lt_of_cell? _ _ (by assumption))).trans (by assumption)⟩) | (go_split_ands; exact ⟨(hbB.cell (World.block_lt_of_cell? _ _ (by assumption))).trans (by assumption), (hbB.cell (World.block_lt_of_cell? _ _ (by assumption))).trans (by assumption), (hbB.cell (World.block_lt_of_cell? _ _ (by assumption))).trans (by assumption)⟩))
                      clear hK K hHeld
                      have hHeld := hHeld9
                      clear hHeld9
                      try simp only [Act.put, List.setIfInBounds_toArray, List.set_cons_zero, List.set_cons_succ]
                      refine wpAnyH_take (i := 10) (oi := { dst := some 128, op := Go.Op.move (Go.Operand.tmp 127), type := 4, pos := "law.go:59", after := #[{ on := 9, ground := Go.Ground.data }, { on := 9, ground := Go.Ground.chain }], guard := none }) (v := ?_) rfl (by kernel_rfl) (by kernel_rfl) (by kernel_rfl) (fun _ _ _ h => h) (Or.inl ⟨by rfl, ?_⟩) (by assumption) ?_
                      rotate_left
                      · (intro w hSw; (try dsimp only at hSw); go_simp); try with_reducible rfl
                      try simp only [Act.put, List.setIfInBounds_toArray, List.set_cons_zero, List.set_cons_succ]
                      refine wpAnyH_take (i := 11) (oi := { dst := some 129, op := Go.Op.move (Go.Operand.tmp 0), type := 22, pos := "law.go:59", after := #[{ on := 10, ground := Go.Ground.guard }], guard := some (10, true) }) (v := ?_) rfl (by kernel_rfl) (by kernel_rfl) (by kernel_rfl) (fun _ _ _ h => h) (Or.inl ⟨by rfl, ?_⟩) (by assumption) ?_
                      rotate_left
                      · (intro w hSw; (try dsimp only at hSw); go_simp); try with_reducible rfl
                      try simp only [Act.put, List.setIfInBounds_toArray, List.set_cons_zero, List.set_cons_succ]
                      refine wpAnyH_take (i := 12) (oi := { dst := some 130, op := Go.Op.move (Go.Operand.tmp 6), type := 26, pos := "law.go:59", after := #[{ on := 10, ground := Go.Ground.guard }], guard := some (10, true) }) (v := ?_) rfl (by kernel_rfl) (by kernel_rfl) (by kernel_rfl) (fun _ _ _ h => h) (Or.inl ⟨by rfl, ?_⟩) (by assumption) ?_
                      rotate_left
                      · (intro w hSw; (try dsimp only at hSw); go_simp); try with_reducible rfl
                      try simp only [Act.put, List.setIfInBounds_toArray, List.set_cons_zero, List.set_cons_succ]
                      refine wpAnyH_take (i := 13) (oi := { dst := some 131, op := Go.Op.move (Go.Operand.tmp 8), type := 3, pos := "law.go:59", after := #[{ on := 10, ground := Go.Ground.guard }], guard := some (10, true) }) (v := ?_) rfl (by kernel_rfl) (by kernel_rfl) (by kernel_rfl) (fun _ _ _ h => h) (Or.inl ⟨by rfl, ?_⟩) (by assumption) ?_
                      rotate_left
                      · (intro w hSw; (try dsimp only at hSw); go_simp); try with_reducible rfl
                      try simp only [Act.put, List.setIfInBounds_toArray, List.set_cons_zero, List.set_cons_succ]
                      refine wpAnyH_take (i := 14) (oi := { dst := some 132, op := Go.Op.indexAddr 26 (Go.Operand.tmp 130) (Go.Operand.tmp 131), type := 0, pos := "law.go:59", after := #[{ on := 12, ground := Go.Ground.data }, { on := 13, ground := Go.Ground.data }, { on := 10, ground := Go.Ground.guard }], guard := some (10, true) }) (v := ?_) rfl (by kernel_rfl) (by kernel_rfl) (by kernel_rfl) (fun _ _ _ h => h) (Or.inl ⟨by rfl, ?_⟩) (by assumption) ?_
                      rotate_left
                      · (intro w hSw; (try dsimp only at hSw); go_simp); try with_reducible rfl
                      try simp only [Act.put, List.setIfInBounds_toArray, List.set_cons_zero, List.set_cons_succ]
                      refine wpAnyH_take (i := 15) (oi := { dst := some 133, op := Go.Op.load 3 (Go.Operand.tmp 132), type := 3, pos := "law.go:59", after := #[{ on := 14, ground := Go.Ground.data }, { on := 10, ground := Go.Ground.guard }], guard := some (10, true) }) (v := ?_) rfl (by kernel_rfl) (by kernel_rfl) (by kernel_rfl) (fun _ _ _ h => h) (Or.inl ⟨by rfl, ?_⟩) (by assumption) ?_
                      rotate_left
                      · (intro w hSw; (try dsimp only at hSw); go_simp); try with_reducible rfl
                      try simp only [Act.put, List.setIfInBounds_toArray, List.set_cons_zero, List.set_cons_succ]
                      refine wpAnyH_take (i := 16) (oi := { dst := some 134, op := Go.Op.move (Go.Operand.tmp 6), type := 26, pos := "law.go:59", after := #[{ on := 10, ground := Go.Ground.guard }], guard := some (10, true) }) (v := ?_) rfl (by kernel_rfl) (by kernel_rfl) (by kernel_rfl) (fun _ _ _ h => h) (Or.inl ⟨by rfl, ?_⟩) (by assumption) ?_
                      rotate_left
                      · (intro w hSw; (try dsimp only at hSw); go_simp); try with_reducible rfl
                      try simp only [Act.put, List.setIfInBounds_toArray, List.set_cons_zero, List.set_cons_succ]
                      refine wpAnyH_take (i := 17) (oi := { dst := some 135, op := Go.Op.move (Go.Operand.tmp 9), type := 3, pos := "law.go:59", after := #[{ on := 10, ground := Go.Ground.guard }], guard := some (10, true) }) (v := ?_) rfl (by kernel_rfl) (by kernel_rfl) (by kernel_rfl) (fun _ _ _ h => h) (Or.inl ⟨by rfl, ?_⟩) (by assumption) ?_
                      rotate_left
                      · (intro w hSw; (try dsimp only at hSw); go_simp); try with_reducible rfl
                      try simp only [Act.put, List.setIfInBounds_toArray, List.set_cons_zero, List.set_cons_succ]
                      refine wpAnyH_take (i := 18) (oi := { dst := some 136, op := Go.Op.indexAddr 26 (Go.Operand.tmp 134) (Go.Operand.tmp 135), type := 0, pos := "law.go:59", after := #[{ on := 16, ground := Go.Ground.data }, { on := 17, ground := Go.Ground.data }, { on := 10, ground := Go.Ground.guard }], guard := some (10, true) }) (v := ?_) rfl (by kernel_rfl) (by kernel_rfl) (by kernel_rfl) (fun _ _ _ h => h) (Or.inl ⟨by rfl, ?_⟩) (by assumption) ?_
                      rotate_left
                      · (intro w hSw; (try dsimp only at hSw); go_simp); try with_reducible rfl
                      try simp only [Act.put, List.setIfInBounds_toArray, List.set_cons_zero, List.set_cons_succ]
                      refine wpAnyH_take (i := 19) (oi := { dst := some 137, op := Go.Op.load 3 (Go.Operand.tmp 136), type := 3, pos := "law.go:59", after := #[{ on := 18, ground := Go.Ground.data }, { on := 10, ground := Go.Ground.guard }], guard := some (10, true) }) (v := ?_) rfl (by kernel_rfl) (by kernel_rfl) (by kernel_rfl) (fun _ _ _ h => h) (Or.inl ⟨by rfl, ?_⟩) (by assumption) ?_
                      rotate_left
                      · (intro w hSw; (try dsimp only at hSw); go_simp); try with_reducible rfl
                      try simp only [Act.put, List.setIfInBounds_toArray, List.set_cons_zero, List.set_cons_succ]
                      refine wpAnyH_ready (rs := [20]) (by kernel_rfl) (by simp) ?_
                      refine AllReadyH.cons (o := { dst := some 138, op := Go.Op.call { callee := Go.Callee.value (Go.Operand.func 16), args := #[Go.Operand.tmp 129, Go.Operand.tmp 133, Go.Operand.tmp 137], argTypes := #[22, 3, 3] }, type := 4, pos := "law.go:59", after := #[{ on := 11, ground := Go.Ground.data }, { on := 15, ground := Go.Ground.data }, { on := 19, ground := Go.Ground.data }, { on := 10, ground := Go.Ground.chain }, { on := 10, ground := Go.Ground.guard }], guard := some (10, true) }) rfl (fun K hK => ?_) AllReadyH.nil
                      go_simp
                      (go_at_call 16; refine (Rows2.before_calls HF.out _ _ b c false _ (by repeat (first | exact hCA | (with_reducible refine Kd.C_drew ?_) | (with_reducible refine Kd.C_drewN ?_ _))) hc0 H2.out).mono ?_; rintro e wB ⟨rfl, hbB⟩)
                      try go_wp2_with fail
                      refine hK.out _ _ ?_ (fun hHeld20 => ?_)
                      · (try dsimp only); (first | go_keep | (go_split_ands; exact ⟨(hbA.cell (World.block_lt_of_cell? _ _ (by assumption))).trans (by assumption), (hbA.cell (World.block_lt_of_cell? _ _ (by assumption))).trans (by assumption), (hbA.cell (World.block_lt_of_cell? _ _ (by assumption))).trans (by assumption)⟩) | (go_split_ands; exact ⟨(hbB.cell (World.block_lt_of_cell? _ _ (by assumption))).trans (by assumption), (hbB.cell (World.block_lt_of_cell? _ _ (by assumption))).trans (by assumption), (hbB.cell (World.block_lt_of_cell? _ _ (by assumption))).trans (by assumption)⟩))
                      clear hK K hHeld
                      have hHeld := hHeld20
                      clear hHeld20
                      try simp only [Act.put, List.setIfInBounds_toArray, List.set_cons_zero, List.set_cons_succ]
                      refine wpAnyH_take (i := 21) (oi := { dst := some 139, op := Go.Op.pick (Go.Operand.tmp 128) (Go.Operand.tmp 138) (Go.Operand.const (Go.Value.bool false)), type := 4, pos := "law.go:59", after := #[{ on := 10, ground := Go.Ground.data }, { on := 20, ground := Go.Ground.data }], guard := none }) (v := ?_) rfl (by kernel_rfl) (by kernel_rfl) (by kernel_rfl) (fun _ _ _ h => h) (Or.inl ⟨by rfl, ?_⟩) (by assumption) ?_
                      rotate_left
                      · (intro w hSw; (try dsimp only at hSw); go_simp); try with_reducible rfl
                      try simp only [Act.put, List.setIfInBounds_toArray, List.set_cons_zero, List.set_cons_succ]
                      refine wpAnyH_take (i := 22) (oi := { dst := some 140, op := Go.Op.move (Go.Operand.tmp 139), type := 4, pos := "law.go:59", after := #[{ on := 21, ground := Go.Ground.data }, { on := 20, ground := Go.Ground.chain }], guard := none }) (v := ?_) rfl (by kernel_rfl) (by kernel_rfl) (by kernel_rfl) (fun _ _ _ h => h) (Or.inl ⟨by rfl, ?_⟩) (by assumption) ?_
                      rotate_left
                      · (intro w hSw; (try dsimp only at hSw); go_simp); try with_reducible rfl
                      try simp only [Act.put, List.setIfInBounds_toArray, List.set_cons_zero, List.set_cons_succ]
                      refine wpAnyH_take (i := 23) (oi := { dst := some 141, op := Go.Op.move (Go.Operand.tmp 0), type := 22, pos := "law.go:59", after := #[{ on := 22, ground := Go.Ground.guard }], guard := some (22, true) }) (v := undef) rfl (by kernel_rfl) (by kernel_rfl) (by kernel_rfl) (fun _ _ _ h => h) (Or.inr ⟨by rfl, rfl⟩) (by assumption) ?_
                      try simp only [Act.put, List.setIfInBounds_toArray, List.set_cons_zero, List.set_cons_succ]
                      refine wpAnyH_take (i := 24) (oi := { dst := some 142, op := Go.Op.move (Go.Operand.tmp 6), type := 26, pos := "law.go:59", after := #[{ on := 22, ground := Go.Ground.guard }], guard := some (22, true) }) (v := undef) rfl (by kernel_rfl) (by kernel_rfl) (by kernel_rfl) (fun _ _ _ h => h) (Or.inr ⟨by rfl, rfl⟩) (by assumption) ?_
                      try simp only [Act.put, List.setIfInBounds_toArray, List.set_cons_zero, List.set_cons_succ]
                      refine wpAnyH_take (i := 25) (oi := { dst := some 143, op := Go.Op.move (Go.Operand.tmp 7), type := 3, pos := "law.go:59", after := #[{ on := 22, ground := Go.Ground.guard }], guard := some (22, true) }) (v := undef) rfl (by kernel_rfl) (by kernel_rfl) (by kernel_rfl) (fun _ _ _ h => h) (Or.inr ⟨by rfl, rfl⟩) (by assumption) ?_
                      try simp only [Act.put, List.setIfInBounds_toArray, List.set_cons_zero, List.set_cons_succ]
                      refine wpAnyH_take (i := 26) (oi := { dst := some 144, op := Go.Op.indexAddr 26 (Go.Operand.tmp 142) (Go.Operand.tmp 143), type := 0, pos := "law.go:59", after := #[{ on := 24, ground := Go.Ground.data }, { on := 25, ground := Go.Ground.data }, { on := 22, ground := Go.Ground.guard }], guard := some (22, true) }) (v := undef) rfl (by kernel_rfl) (by kernel_rfl) (by kernel_rfl) (fun _ _ _ h => h) (Or.inr ⟨by rfl, rfl⟩) (by assumption) ?_
                      try simp only [Act.put, List.setIfInBounds_toArray, List.set_cons_zero, List.set_cons_succ]
                      refine wpAnyH_take (i := 27) (oi := { dst := some 145, op := Go.Op.load 3 (Go.Operand.tmp 144), type := 3, pos := "law.go:59", after := #[{ on := 26, ground := Go.Ground.data }, { on := 22, ground := Go.Ground.guard }], guard := some (22, true) }) (v := undef) rfl (by kernel_rfl) (by kernel_rfl) (by kernel_rfl) (fun _ _ _ h => h) (Or.inr ⟨by rfl, rfl⟩) (by assumption) ?_
                      try simp only [Act.put, List.setIfInBounds_toArray, List.set_cons_zero, List.set_cons_succ]
                      refine wpAnyH_take (i := 28) (oi := { dst := some 146, op := Go.Op.move (Go.Operand.tmp 6), type := 26, pos := "law.go:59", after := #[{ on := 22, ground := Go.Ground.guard }], guard := some (22, true) }) (v := undef) rfl (by kernel_rfl) (by kernel_rfl) (by kernel_rfl) (fun _ _ _ h => h) (Or.inr ⟨by rfl, rfl⟩) (by assumption) ?_
                      try simp only [Act.put, List.setIfInBounds_toArray, List.set_cons_zero, List.set_cons_succ]
                      refine wpAnyH_take (i := 29) (oi := { dst := some 147, op := Go.Op.move (Go.Operand.tmp 9), type := 3, pos := "law.go:59", after := #[{ on := 22, ground := Go.Ground.guard }], guard := some (22, true) }) (v := undef) rfl (by kernel_rfl) (by kernel_rfl) (by kernel_rfl) (fun _ _ _ h => h) (Or.inr ⟨by rfl, rfl⟩) (by assumption) ?_
                      try simp only [Act.put, List.setIfInBounds_toArray, List.set_cons_zero, List.set_cons_succ]
                      refine wpAnyH_take (i := 30) (oi := { dst := some 148, op := Go.Op.indexAddr 26 (Go.Operand.tmp 146) (Go.Operand.tmp 147), type := 0, pos := "law.go:59", after := #[{ on := 28, ground := Go.Ground.data }, { on := 29, ground := Go.Ground.data }, { on := 22, ground := Go.Ground.guard }], guard := some (22, true) }) (v := undef) rfl (by kernel_rfl) (by kernel_rfl) (by kernel_rfl) (fun _ _ _ h => h) (Or.inr ⟨by rfl, rfl⟩) (by assumption) ?_
                      try simp only [Act.put, List.setIfInBounds_toArray, List.set_cons_zero, List.set_cons_succ]
                      refine wpAnyH_take (i := 31) (oi := { dst := some 149, op := Go.Op.load 3 (Go.Operand.tmp 148), type := 3, pos := "law.go:59", after := #[{ on := 30, ground := Go.Ground.data }, { on := 22, ground := Go.Ground.guard }], guard := some (22, true) }) (v := undef) rfl (by kernel_rfl) (by kernel_rfl) (by kernel_rfl) (fun _ _ _ h => h) (Or.inr ⟨by rfl, rfl⟩) (by assumption) ?_
                      try simp only [Act.put, List.setIfInBounds_toArray, List.set_cons_zero, List.set_cons_succ]
                      refine wpAnyH_take (i := 32) (oi := { dst := some 150, op := Go.Op.call { callee := Go.Callee.value (Go.Operand.func 16), args := #[Go.Operand.tmp 141, Go.Operand.tmp 145, Go.Operand.tmp 149], argTypes := #[22, 3, 3] }, type := 4, pos := "law.go:59", after := #[{ on := 23, ground := Go.Ground.data }, { on := 27, ground := Go.Ground.data }, { on := 31, ground := Go.Ground.data }, { on := 22, ground := Go.Ground.chain }, { on := 22, ground := Go.Ground.guard }], guard := some (22, true) }) (v := undef) rfl (by kernel_rfl) (by kernel_rfl) (by kernel_rfl) (fun _ _ _ h => h) (Or.inr ⟨by rfl, rfl⟩) (by assumption) ?_
                      try simp only [Act.put, List.setIfInBounds_toArray, List.set_cons_zero, List.set_cons_succ]
                      refine wpAnyH_take (i := 33) (oi := { dst := some 151, op := Go.Op.unOp Go.UnOp.not 4 (Go.Operand.tmp 150), type := 4, pos := "law.go:59", after := #[{ on := 32, ground := Go.Ground.data }, { on := 22, ground := Go.Ground.guard }], guard := some (22, true) }) (v := undef) rfl (by kernel_rfl) (by kernel_rfl) (by kernel_rfl) (fun _ _ _ h => h) (Or.inr ⟨by rfl, rfl⟩) (by assumption) ?_
                      try simp only [Act.put, List.setIfInBounds_toArray, List.set_cons_zero, List.set_cons_succ]
                      refine wpAnyH_take (i := 34) (oi := { dst := some 152, op := Go.Op.pick (Go.Operand.tmp 140) (Go.Operand.tmp 151) (Go.Operand.const (Go.Value.bool false)), type := 4, pos := "law.go:59", after := #[{ on := 22, ground := Go.Ground.data }, { on := 33, ground := Go.Ground.data }], guard := none }) (v := ?_) rfl (by kernel_rfl) (by kernel_rfl) (by kernel_rfl) (fun _ _ _ h => h) (Or.inl ⟨by rfl, ?_⟩) (by assumption) ?_
                      rotate_left
                      · (intro w hSw; (try dsimp only at hSw); go_simp); try with_reducible rfl
                      try simp only [Act.put, List.setIfInBounds_toArray, List.set_cons_zero, List.set_cons_succ]
                      refine wpAnyH_done (by kernel_rfl) ?_ _
                      have hbK : Below w3.heap.size w3 wB := below_step (below_step (below_drew1 HNK.out) hbA) hbB
                      go_wp2_with fail
                      go_roundw
                      case rel => exact ⟨k + 1, by omega, by go_num, hbK⟩
                      case measure => simp [intOf]; omega
                    · have H2 := Lib.hid h2
                      have H3 := Lib.hid (before_trans hb1 hc1 HA2.out HB2.out HC2.out H1.out h2)
                      clear h2
                      go_wp2_with fail
                      go_region_held3 (fun w' => w'.cell? ⟨g3, i, none⟩ = some (.int .i64 (a : Int)) ∧ w'.cell? ⟨g3, j, none⟩ = some (.int .i64 (b : Int)) ∧ w'.cell? ⟨g3, k, none⟩ = some (.int .i64 (c : Int)))
                        (first | go_keep | (go_split_ands; exact ⟨(hbA.cell (World.block_lt_of_cell? _ _ (by assumption))).trans (by assumption), (hbA.cell (World.block_lt_of_cell? _ _ (by assumption))).trans (by assumption), (hbA.cell (World.block_lt_of_cell? _ _ (by assumption))).trans (by assumption)⟩) | (go_split_ands; exact ⟨(hbB.cell (World.block_lt_of_cell? _ _ (by assumption))).trans (by assumption), (hbB.cell (World.block_lt_of_cell? _ _ (by assumption))).trans (by assumption), (hbB.cell (World.block_lt_of_cell? _ _ (by assumption))).trans (by assumption)⟩) | (go_split_ands; exact ⟨(hbC.cell (World.block_lt_of_cell? _ _ (by assumption))).trans (by assumption), (hbC.cell (World.block_lt_of_cell? _ _ (by assumption))).trans (by assumption), (hbC.cell (World.block_lt_of_cell? _ _ (by assumption))).trans (by assumption)⟩))
                        (first
                          | (go_at_call 16; have hCB_ := hCB; refine (Rows2.before_calls HF.out _ _ a c true _ (by repeat (first | exact hCB | (with_reducible refine Kd.C_drew ?_) | (with_reducible refine Kd.C_drewN ?_ _))) hc0 H3.out).mono ?_; rintro e wC ⟨rfl, hbC⟩)
                          | (go_at_call 16; have hCA_ := hCA; refine (Rows2.before_calls HF.out _ _ b c true _ (by repeat (first | exact hCA | (with_reducible refine Kd.C_drew ?_) | (with_reducible refine Kd.C_drewN ?_ _))) hc0 H2.out).mono ?_; rintro e wB ⟨rfl, hbB⟩; have hCB := Kd.C_below (by repeat (first | exact hCA | (with_reducible refine Kd.C_drew ?_) | (with_reducible refine Kd.C_drewN ?_ _))) hbB)
                          | (go_at_call 16; refine (Rows2.before_calls HF.out _ _ a b true _ (by repeat (first | exact HRK.out | (with_reducible refine Kd.C_drew ?_) | (with_reducible refine Kd.C_drewN ?_ _))) hc0 H1.out).mono ?_; rintro e wA ⟨rfl, hbA⟩; have hCA := Kd.C_below (by repeat (first | exact HRK.out | (with_reducible refine Kd.C_drew ?_) | (with_reducible refine Kd.C_drewN ?_ _))) hbA))
                      have hbK : Below w3.heap.size w3 wC := below_step (below_step (below_step (below_drew1 HNK.out) hbA) hbB) hbC
                      go_wp2_with fail
                      go_roundw
                      case rel => exact ⟨k + 1, by omega, by go_num, hbK⟩
                      case measure => simp [intOf]; omega
                · have hke : k = m := by omega
                  subst hke
                  clear hkl
                  go_wp2_with fail
                  go_roundw
                  case rel => exact ⟨j + 1, by omega, by go_num, hnk⟩
                  case measure => simp [intOf]; omega
          · have hg1 : decide (i < j) = false := decide_eq_false hij
            have hg2 : decide ((i : Int) < (j : Int)) = false := decide_eq_false (by omega)
            clear hij hb3
            go_wp2_with fail
            go_big_quiet (fail)
            have hbJ : Below w3.heap.size w3 (wr.drewN nq) := below_drewN_ HNJ.out nq
            clear hxi hxj y1 z1 hg1 hg2 hd1 hd2 hd3 hd4
            go_wp2_with fail
            go_loopw [9] (fun kv wk => ∃ k : Nat, k ≤ m ∧ kv = .int .i64 k ∧ Below w3.heap.size w3 wk) (fun kv _ => m - (intOf kv).toNat)
            case atStart => exact ⟨0, Nat.zero_le _, rfl, hbJ⟩
            case round =>
              obtain ⟨k, hk, rfl, hnk⟩ := hrel
              clear hbJ
              by_cases hkl : k < m
              · have hk0 : (0 : Int) ≤ (k : Int) := by omega
                have hk1 : (k : Int) < (m : Int) := by omega
                obtain ⟨c, hc1, hc2, hc3⟩ := HCA.out k hkl
                obtain ⟨g3c, e3c, _, xk⟩ := X0.out k hkl
                obtain rfl : g3 = g3c := by injection e3c with e; injection e
                have hxk : wr.cell? ⟨g3, k, none⟩ = some (.int .i64 (c : Int)) := by rw [xk wr hnk, hc3]
                have hxi := XI.out _ hnk
                have hxj := XJ.out _ hnk
                have HNK := Lib.hid hnk
                have HRK := Lib.hid (Kd.C_below HR4.out hnk)
                have HC2 := Lib.hid hc2
                clear xk hc3 hc2 e3c
                cases h1 : beforeB l0 a b
                · have H1 := Lib.hid h1
                  clear h1
                  go_wp2_with fail
                  refine wp_region_held_drew (S := (fun w' => w'.cell? ⟨g3, i, none⟩ = some (.int .i64 (a : Int)) ∧ w'.cell? ⟨g3, j, none⟩ = some (.int .i64 (b : Int)) ∧ w'.cell? ⟨g3, k, none⟩ = some (.int .i64 (c : Int)))) (by kernel_rfl) ?_ (fun hHeld => ?_)
                  · (try dsimp only); (first | go_keep | (go_split_ands; exact ⟨(hbA.cell (World.block_lt_of_cell? _ _ (by assumption))).trans (by assumption), (hbA.cell (World.block_lt_of_cell? _ _ (by assumption))).trans (by assumption), (hbA.cell (World.block_lt_of_cell? _ _ (by assumption))).trans (by assumption)⟩))
                  refine wpAnyH_take (i := 0) (oi := { dst := some 118, op := Go.Op.move (Go.Operand.tmp 0), type := 22, pos := "law.go:59", after := #[], guard := none }) (v := ?_) rfl (by kernel_rfl) (by kernel_rfl) (by kernel_rfl) (fun _ _ _ h => h) (Or.inl ⟨by rfl, ?_⟩) (by assumption) ?_
                  rotate_left
                  · (intro w hSw; (try dsimp only at hSw); go_simp); try with_reducible rfl
                  try simp only [Act.put, List.setIfInBounds_toArray, List.set_cons_zero, List.set_cons_succ]
                  refine wpAnyH_take (i := 1) (oi := { dst := some 119, op := Go.Op.move (Go.Operand.tmp 6), type := 26, pos := "law.go:59", after := #[], guard := none }) (v := ?_) rfl (by kernel_rfl) (by kernel_rfl) (by kernel_rfl) (fun _ _ _ h => h) (Or.inl ⟨by rfl, ?_⟩) (by assumption) ?_
                  rotate_left
                  · (intro w hSw; (try dsimp only at hSw); go_simp); try with_reducible rfl
                  try simp only [Act.put, List.setIfInBounds_toArray, List.set_cons_zero, List.set_cons_succ]
                  refine wpAnyH_take (i := 2) (oi := { dst := some 120, op := Go.Op.move (Go.Operand.tmp 7), type := 3, pos := "law.go:59", after := #[], guard := none }) (v := ?_) rfl (by kernel_rfl) (by kernel_rfl) (by kernel_rfl) (fun _ _ _ h => h) (Or.inl ⟨by rfl, ?_⟩) (by assumption) ?_
                  rotate_left
                  · (intro w hSw; (try dsimp only at hSw); go_simp); try with_reducible rfl
                  try simp only [Act.put, List.setIfInBounds_toArray, List.set_cons_zero, List.set_cons_succ]
                  refine wpAnyH_take (i := 3) (oi := { dst := some 121, op := Go.Op.indexAddr 26 (Go.Operand.tmp 119) (Go.Operand.tmp 120), type := 0, pos := "law.go:59", after := #[{ on := 1, ground := Go.Ground.data }, { on := 2, ground := Go.Ground.data }], guard := none }) (v := ?_) rfl (by kernel_rfl) (by kernel_rfl) (by kernel_rfl) (fun _ _ _ h => h) (Or.inl ⟨by rfl, ?_⟩) (by assumption) ?_
                  rotate_left
                  · (intro w hSw; (try dsimp only at hSw); go_simp); try with_reducible rfl
                  try simp only [Act.put, List.setIfInBounds_toArray, List.set_cons_zero, List.set_cons_succ]
                  refine wpAnyH_take (i := 4) (oi := { dst := some 122, op := Go.Op.load 3 (Go.Operand.tmp 121), type := 3, pos := "law.go:59", after := #[{ on := 3, ground := Go.Ground.data }], guard := none }) (v := ?_) rfl (by kernel_rfl) (by kernel_rfl) (by kernel_rfl) (fun _ _ _ h => h) (Or.inl ⟨by rfl, ?_⟩) (by assumption) ?_
                  rotate_left
                  · (intro w hSw; (try dsimp only at hSw); go_simp); try with_reducible rfl
                  try simp only [Act.put, List.setIfInBounds_toArray, List.set_cons_zero, List.set_cons_succ]
                  refine wpAnyH_take (i := 5) (oi := { dst := some 123, op := Go.Op.move (Go.Operand.tmp 6), type := 26, pos := "law.go:59", after := #[], guard := none }) (v := ?_) rfl (by kernel_rfl) (by kernel_rfl) (by kernel_rfl) (fun _ _ _ h => h) (Or.inl ⟨by rfl, ?_⟩) (by assumption) ?_
                  rotate_left
                  · (intro w hSw; (try dsimp only at hSw); go_simp); try with_reducible rfl
                  try simp only [Act.put, List.setIfInBounds_toArray, List.set_cons_zero, List.set_cons_succ]
                  refine wpAnyH_take (i := 6) (oi := { dst := some 124, op := Go.Op.move (Go.Operand.tmp 8), type := 3, pos := "law.go:59", after := #[], guard := none }) (v := ?_) rfl (by kernel_rfl) (by kernel_rfl) (by kernel_rfl) (fun _ _ _ h => h) (Or.inl ⟨by rfl, ?_⟩) (by assumption) ?_
                  rotate_left
                  · (intro w hSw; (try dsimp only at hSw); go_simp); try with_reducible rfl
                  try simp only [Act.put, List.setIfInBounds_toArray, List.set_cons_zero, List.set_cons_succ]
                  refine wpAnyH_take (i := 7) (oi := { dst := some 125, op := Go.Op.indexAddr 26 (Go.Operand.tmp 123) (Go.Operand.tmp 124), type := 0, pos := "law.go:59", after := #[{ on := 5, ground := Go.Ground.data }, { on := 6, ground := Go.Ground.data }], guard := none }) (v := ?_) rfl (by kernel_rfl) (by kernel_rfl) (by kernel_rfl) (fun _ _ _ h => h) (Or.inl ⟨by rfl, ?_⟩) (by assumption) ?_
                  rotate_left
                  · (intro w hSw; (try dsimp only at hSw); go_simp); try with_reducible rfl
                  try simp only [Act.put, List.setIfInBounds_toArray, List.set_cons_zero, List.set_cons_succ]
                  refine wpAnyH_take (i := 8) (oi := { dst := some 126, op := Go.Op.load 3 (Go.Operand.tmp 125), type := 3, pos := "law.go:59", after := #[{ on := 7, ground := Go.Ground.data }], guard := none }) (v := ?_) rfl (by kernel_rfl) (by kernel_rfl) (by kernel_rfl) (fun _ _ _ h => h) (Or.inl ⟨by rfl, ?_⟩) (by assumption) ?_
                  rotate_left
                  · (intro w hSw; (try dsimp only at hSw); go_simp); try with_reducible rfl
                  try simp only [Act.put, List.setIfInBounds_toArray, List.set_cons_zero, List.set_cons_succ]
                  refine wpAnyH_ready (rs := [9]) (by kernel_rfl) (by simp) ?_
                  refine AllReadyH.cons (o := { dst := some 127, op := Go.Op.call { callee := Go.Callee.value (Go.Operand.func 16), args := #[Go.Operand.tmp 118, Go.Operand.tmp 122, Go.Operand.tmp 126], argTypes := #[22, 3, 3] }, type := 4, pos := "law.go:59", after := #[{ on := 0, ground := Go.Ground.data }, { on := 4, ground := Go.Ground.data }, { on := 8, ground := Go.Ground.data }], guard := none }) rfl (fun K hK => ?_) AllReadyH.nil
                  go_simp
                  (go_at_call 16; refine (Rows2.before_calls HF.out _ _ a b false _ (by repeat (first | exact HRK.out | (with_reducible refine Kd.C_drew ?_) | (with_reducible refine Kd.C_drewN ?_ _))) hc0 H1.out).mono ?_; rintro e wA ⟨rfl, hbA⟩)
                  try go_wp2_with fail
                  refine hK.out _ _ ?_ (fun hHeld9 => ?_)
                  · (try dsimp only); (first | go_keep | (go_split_ands; exact ⟨(hbA.cell (World.block_lt_of_cell? _ _ (by assumption))).trans (by assumption), (hbA.cell (World.block_lt_of_cell? _ _ (by assumption))).trans (by assumption), (hbA.cell (World.block_lt_of_cell? _ _ (by assumption))).trans (by assumption)⟩))
                  clear hK K hHeld
                  have hHeld := hHeld9
                  clear hHeld9
                  try simp only [Act.put, List.setIfInBounds_toArray, List.set_cons_zero, List.set_cons_succ]
                  refine wpAnyH_take (i := 10) (oi := { dst := some 128, op := Go.Op.move (Go.Operand.tmp 127), type := 4, pos := "law.go:59", after := #[{ on := 9, ground := Go.Ground.data }, { on := 9, ground := Go.Ground.chain }], guard := none }) (v := ?_) rfl (by kernel_rfl) (by kernel_rfl) (by kernel_rfl) (fun _ _ _ h => h) (Or.inl ⟨by rfl, ?_⟩) (by assumption) ?_
                  rotate_left
                  · (intro w hSw; (try dsimp only at hSw); go_simp); try with_reducible rfl
                  try simp only [Act.put, List.setIfInBounds_toArray, List.set_cons_zero, List.set_cons_succ]
                  refine wpAnyH_take (i := 11) (oi := { dst := some 129, op := Go.Op.move (Go.Operand.tmp 0), type := 22, pos := "law.go:59", after := #[{ on := 10, ground := Go.Ground.guard }], guard := some (10, true) }) (v := undef) rfl (by kernel_rfl) (by kernel_rfl) (by kernel_rfl) (fun _ _ _ h => h) (Or.inr ⟨by rfl, rfl⟩) (by assumption) ?_
                  try simp only [Act.put, List.setIfInBounds_toArray, List.set_cons_zero, List.set_cons_succ]
                  refine wpAnyH_take (i := 12) (oi := { dst := some 130, op := Go.Op.move (Go.Operand.tmp 6), type := 26, pos := "law.go:59", after := #[{ on := 10, ground := Go.Ground.guard }], guard := some (10, true) }) (v := undef) rfl (by kernel_rfl) (by kernel_rfl) (by kernel_rfl) (fun _ _ _ h => h) (Or.inr ⟨by rfl, rfl⟩) (by assumption) ?_
                  try simp only [Act.put, List.setIfInBounds_toArray, List.set_cons_zero, List.set_cons_succ]
                  refine wpAnyH_take (i := 13) (oi := { dst := some 131, op := Go.Op.move (Go.Operand.tmp 8), type := 3, pos := "law.go:59", after := #[{ on := 10, ground := Go.Ground.guard }], guard := some (10, true) }) (v := undef) rfl (by kernel_rfl) (by kernel_rfl) (by kernel_rfl) (fun _ _ _ h => h) (Or.inr ⟨by rfl, rfl⟩) (by assumption) ?_
                  try simp only [Act.put, List.setIfInBounds_toArray, List.set_cons_zero, List.set_cons_succ]
                  refine wpAnyH_take (i := 14) (oi := { dst := some 132, op := Go.Op.indexAddr 26 (Go.Operand.tmp 130) (Go.Operand.tmp 131), type := 0, pos := "law.go:59", after := #[{ on := 12, ground := Go.Ground.data }, { on := 13, ground := Go.Ground.data }, { on := 10, ground := Go.Ground.guard }], guard := some (10, true) }) (v := undef) rfl (by kernel_rfl) (by kernel_rfl) (by kernel_rfl) (fun _ _ _ h => h) (Or.inr ⟨by rfl, rfl⟩) (by assumption) ?_
                  try simp only [Act.put, List.setIfInBounds_toArray, List.set_cons_zero, List.set_cons_succ]
                  refine wpAnyH_take (i := 15) (oi := { dst := some 133, op := Go.Op.load 3 (Go.Operand.tmp 132), type := 3, pos := "law.go:59", after := #[{ on := 14, ground := Go.Ground.data }, { on := 10, ground := Go.Ground.guard }], guard := some (10, true) }) (v := undef) rfl (by kernel_rfl) (by kernel_rfl) (by kernel_rfl) (fun _ _ _ h => h) (Or.inr ⟨by rfl, rfl⟩) (by assumption) ?_
                  try simp only [Act.put, List.setIfInBounds_toArray, List.set_cons_zero, List.set_cons_succ]
                  refine wpAnyH_take (i := 16) (oi := { dst := some 134, op := Go.Op.move (Go.Operand.tmp 6), type := 26, pos := "law.go:59", after := #[{ on := 10, ground := Go.Ground.guard }], guard := some (10, true) }) (v := undef) rfl (by kernel_rfl) (by kernel_rfl) (by kernel_rfl) (fun _ _ _ h => h) (Or.inr ⟨by rfl, rfl⟩) (by assumption) ?_
                  try simp only [Act.put, List.setIfInBounds_toArray, List.set_cons_zero, List.set_cons_succ]
                  refine wpAnyH_take (i := 17) (oi := { dst := some 135, op := Go.Op.move (Go.Operand.tmp 9), type := 3, pos := "law.go:59", after := #[{ on := 10, ground := Go.Ground.guard }], guard := some (10, true) }) (v := undef) rfl (by kernel_rfl) (by kernel_rfl) (by kernel_rfl) (fun _ _ _ h => h) (Or.inr ⟨by rfl, rfl⟩) (by assumption) ?_
                  try simp only [Act.put, List.setIfInBounds_toArray, List.set_cons_zero, List.set_cons_succ]
                  refine wpAnyH_take (i := 18) (oi := { dst := some 136, op := Go.Op.indexAddr 26 (Go.Operand.tmp 134) (Go.Operand.tmp 135), type := 0, pos := "law.go:59", after := #[{ on := 16, ground := Go.Ground.data }, { on := 17, ground := Go.Ground.data }, { on := 10, ground := Go.Ground.guard }], guard := some (10, true) }) (v := undef) rfl (by kernel_rfl) (by kernel_rfl) (by kernel_rfl) (fun _ _ _ h => h) (Or.inr ⟨by rfl, rfl⟩) (by assumption) ?_
                  try simp only [Act.put, List.setIfInBounds_toArray, List.set_cons_zero, List.set_cons_succ]
                  refine wpAnyH_take (i := 19) (oi := { dst := some 137, op := Go.Op.load 3 (Go.Operand.tmp 136), type := 3, pos := "law.go:59", after := #[{ on := 18, ground := Go.Ground.data }, { on := 10, ground := Go.Ground.guard }], guard := some (10, true) }) (v := undef) rfl (by kernel_rfl) (by kernel_rfl) (by kernel_rfl) (fun _ _ _ h => h) (Or.inr ⟨by rfl, rfl⟩) (by assumption) ?_
                  try simp only [Act.put, List.setIfInBounds_toArray, List.set_cons_zero, List.set_cons_succ]
                  refine wpAnyH_take (i := 20) (oi := { dst := some 138, op := Go.Op.call { callee := Go.Callee.value (Go.Operand.func 16), args := #[Go.Operand.tmp 129, Go.Operand.tmp 133, Go.Operand.tmp 137], argTypes := #[22, 3, 3] }, type := 4, pos := "law.go:59", after := #[{ on := 11, ground := Go.Ground.data }, { on := 15, ground := Go.Ground.data }, { on := 19, ground := Go.Ground.data }, { on := 10, ground := Go.Ground.chain }, { on := 10, ground := Go.Ground.guard }], guard := some (10, true) }) (v := undef) rfl (by kernel_rfl) (by kernel_rfl) (by kernel_rfl) (fun _ _ _ h => h) (Or.inr ⟨by rfl, rfl⟩) (by assumption) ?_
                  try simp only [Act.put, List.setIfInBounds_toArray, List.set_cons_zero, List.set_cons_succ]
                  refine wpAnyH_take (i := 21) (oi := { dst := some 139, op := Go.Op.pick (Go.Operand.tmp 128) (Go.Operand.tmp 138) (Go.Operand.const (Go.Value.bool false)), type := 4, pos := "law.go:59", after := #[{ on := 10, ground := Go.Ground.data }, { on := 20, ground := Go.Ground.data }], guard := none }) (v := ?_) rfl (by kernel_rfl) (by kernel_rfl) (by kernel_rfl) (fun _ _ _ h => h) (Or.inl ⟨by rfl, ?_⟩) (by assumption) ?_
                  rotate_left
                  · (intro w hSw; (try dsimp only at hSw); go_simp); try with_reducible rfl
                  try simp only [Act.put, List.setIfInBounds_toArray, List.set_cons_zero, List.set_cons_succ]
                  refine wpAnyH_take (i := 22) (oi := { dst := some 140, op := Go.Op.move (Go.Operand.tmp 139), type := 4, pos := "law.go:59", after := #[{ on := 21, ground := Go.Ground.data }, { on := 20, ground := Go.Ground.chain }], guard := none }) (v := ?_) rfl (by kernel_rfl) (by kernel_rfl) (by kernel_rfl) (fun _ _ _ h => h) (Or.inl ⟨by rfl, ?_⟩) (by assumption) ?_
                  rotate_left
                  · (intro w hSw; (try dsimp only at hSw); go_simp); try with_reducible rfl
                  try simp only [Act.put, List.setIfInBounds_toArray, List.set_cons_zero, List.set_cons_succ]
                  refine wpAnyH_take (i := 23) (oi := { dst := some 141, op := Go.Op.move (Go.Operand.tmp 0), type := 22, pos := "law.go:59", after := #[{ on := 22, ground := Go.Ground.guard }], guard := some (22, true) }) (v := undef) rfl (by kernel_rfl) (by kernel_rfl) (by kernel_rfl) (fun _ _ _ h => h) (Or.inr ⟨by rfl, rfl⟩) (by assumption) ?_
                  try simp only [Act.put, List.setIfInBounds_toArray, List.set_cons_zero, List.set_cons_succ]
                  refine wpAnyH_take (i := 24) (oi := { dst := some 142, op := Go.Op.move (Go.Operand.tmp 6), type := 26, pos := "law.go:59", after := #[{ on := 22, ground := Go.Ground.guard }], guard := some (22, true) }) (v := undef) rfl (by kernel_rfl) (by kernel_rfl) (by kernel_rfl) (fun _ _ _ h => h) (Or.inr ⟨by rfl, rfl⟩) (by assumption) ?_
                  try simp only [Act.put, List.setIfInBounds_toArray, List.set_cons_zero, List.set_cons_succ]
                  refine wpAnyH_take (i := 25) (oi := { dst := some 143, op := Go.Op.move (Go.Operand.tmp 7), type := 3, pos := "law.go:59", after := #[{ on := 22, ground := Go.Ground.guard }], guard := some (22, true) }) (v := undef) rfl (by kernel_rfl) (by kernel_rfl) (by kernel_rfl) (fun _ _ _ h => h) (Or.inr ⟨by rfl, rfl⟩) (by assumption) ?_
                  try simp only [Act.put, List.setIfInBounds_toArray, List.set_cons_zero, List.set_cons_succ]
                  refine wpAnyH_take (i := 26) (oi := { dst := some 144, op := Go.Op.indexAddr 26 (Go.Operand.tmp 142) (Go.Operand.tmp 143), type := 0, pos := "law.go:59", after := #[{ on := 24, ground := Go.Ground.data }, { on := 25, ground := Go.Ground.data }, { on := 22, ground := Go.Ground.guard }], guard := some (22, true) }) (v := undef) rfl (by kernel_rfl) (by kernel_rfl) (by kernel_rfl) (fun _ _ _ h => h) (Or.inr ⟨by rfl, rfl⟩) (by assumption) ?_
                  try simp only [Act.put, List.setIfInBounds_toArray, List.set_cons_zero, List.set_cons_succ]
                  refine wpAnyH_take (i := 27) (oi := { dst := some 145, op := Go.Op.load 3 (Go.Operand.tmp 144), type := 3, pos := "law.go:59", after := #[{ on := 26, ground := Go.Ground.data }, { on := 22, ground := Go.Ground.guard }], guard := some (22, true) }) (v := undef) rfl (by kernel_rfl) (by kernel_rfl) (by kernel_rfl) (fun _ _ _ h => h) (Or.inr ⟨by rfl, rfl⟩) (by assumption) ?_
                  try simp only [Act.put, List.setIfInBounds_toArray, List.set_cons_zero, List.set_cons_succ]
                  refine wpAnyH_take (i := 28) (oi := { dst := some 146, op := Go.Op.move (Go.Operand.tmp 6), type := 26, pos := "law.go:59", after := #[{ on := 22, ground := Go.Ground.guard }], guard := some (22, true) }) (v := undef) rfl (by kernel_rfl) (by kernel_rfl) (by kernel_rfl) (fun _ _ _ h => h) (Or.inr ⟨by rfl, rfl⟩) (by assumption) ?_
                  try simp only [Act.put, List.setIfInBounds_toArray, List.set_cons_zero, List.set_cons_succ]
                  refine wpAnyH_take (i := 29) (oi := { dst := some 147, op := Go.Op.move (Go.Operand.tmp 9), type := 3, pos := "law.go:59", after := #[{ on := 22, ground := Go.Ground.guard }], guard := some (22, true) }) (v := undef) rfl (by kernel_rfl) (by kernel_rfl) (by kernel_rfl) (fun _ _ _ h => h) (Or.inr ⟨by rfl, rfl⟩) (by assumption) ?_
                  try simp only [Act.put, List.setIfInBounds_toArray, List.set_cons_zero, List.set_cons_succ]
                  refine wpAnyH_take (i := 30) (oi := { dst := some 148, op := Go.Op.indexAddr 26 (Go.Operand.tmp 146) (Go.Operand.tmp 147), type := 0, pos := "law.go:59", after := #[{ on := 28, ground := Go.Ground.data }, { on := 29, ground := Go.Ground.data }, { on := 22, ground := Go.Ground.guard }], guard := some (22, true) }) (v := undef) rfl (by kernel_rfl) (by kernel_rfl) (by kernel_rfl) (fun _ _ _ h => h) (Or.inr ⟨by rfl, rfl⟩) (by assumption) ?_
                  try simp only [Act.put, List.setIfInBounds_toArray, List.set_cons_zero, List.set_cons_succ]
                  refine wpAnyH_take (i := 31) (oi := { dst := some 149, op := Go.Op.load 3 (Go.Operand.tmp 148), type := 3, pos := "law.go:59", after := #[{ on := 30, ground := Go.Ground.data }, { on := 22, ground := Go.Ground.guard }], guard := some (22, true) }) (v := undef) rfl (by kernel_rfl) (by kernel_rfl) (by kernel_rfl) (fun _ _ _ h => h) (Or.inr ⟨by rfl, rfl⟩) (by assumption) ?_
                  try simp only [Act.put, List.setIfInBounds_toArray, List.set_cons_zero, List.set_cons_succ]
                  refine wpAnyH_take (i := 32) (oi := { dst := some 150, op := Go.Op.call { callee := Go.Callee.value (Go.Operand.func 16), args := #[Go.Operand.tmp 141, Go.Operand.tmp 145, Go.Operand.tmp 149], argTypes := #[22, 3, 3] }, type := 4, pos := "law.go:59", after := #[{ on := 23, ground := Go.Ground.data }, { on := 27, ground := Go.Ground.data }, { on := 31, ground := Go.Ground.data }, { on := 22, ground := Go.Ground.chain }, { on := 22, ground := Go.Ground.guard }], guard := some (22, true) }) (v := undef) rfl (by kernel_rfl) (by kernel_rfl) (by kernel_rfl) (fun _ _ _ h => h) (Or.inr ⟨by rfl, rfl⟩) (by assumption) ?_
                  try simp only [Act.put, List.setIfInBounds_toArray, List.set_cons_zero, List.set_cons_succ]
                  refine wpAnyH_take (i := 33) (oi := { dst := some 151, op := Go.Op.unOp Go.UnOp.not 4 (Go.Operand.tmp 150), type := 4, pos := "law.go:59", after := #[{ on := 32, ground := Go.Ground.data }, { on := 22, ground := Go.Ground.guard }], guard := some (22, true) }) (v := undef) rfl (by kernel_rfl) (by kernel_rfl) (by kernel_rfl) (fun _ _ _ h => h) (Or.inr ⟨by rfl, rfl⟩) (by assumption) ?_
                  try simp only [Act.put, List.setIfInBounds_toArray, List.set_cons_zero, List.set_cons_succ]
                  refine wpAnyH_take (i := 34) (oi := { dst := some 152, op := Go.Op.pick (Go.Operand.tmp 140) (Go.Operand.tmp 151) (Go.Operand.const (Go.Value.bool false)), type := 4, pos := "law.go:59", after := #[{ on := 22, ground := Go.Ground.data }, { on := 33, ground := Go.Ground.data }], guard := none }) (v := ?_) rfl (by kernel_rfl) (by kernel_rfl) (by kernel_rfl) (fun _ _ _ h => h) (Or.inl ⟨by rfl, ?_⟩) (by assumption) ?_
                  rotate_left
                  · (intro w hSw; (try dsimp only at hSw); go_simp); try with_reducible rfl
                  try simp only [Act.put, List.setIfInBounds_toArray, List.set_cons_zero, List.set_cons_succ]
                  refine wpAnyH_done (by kernel_rfl) ?_ _
                  have hbK : Below w3.heap.size w3 wA := below_step (below_drew1 HNK.out) hbA
                  go_wp2_with fail
                  go_roundw
                  case rel => exact ⟨k + 1, by omega, by go_num, hbK⟩
                  case measure => simp [intOf]; omega
                · have H1 := Lib.hid h1
                  clear h1
                  cases h2 : beforeB l0 b c
                  · have H2 := Lib.hid h2
                    clear h2
                    go_wp2_with fail
                    refine wp_region_held_drew (S := (fun w' => w'.cell? ⟨g3, i, none⟩ = some (.int .i64 (a : Int)) ∧ w'.cell? ⟨g3, j, none⟩ = some (.int .i64 (b : Int)) ∧ w'.cell? ⟨g3, k, none⟩ = some (.int .i64 (c : Int)))) (by kernel_rfl) ?_ (fun hHeld => ?_)
                    · (try dsimp only); (first | go_keep | (go_split_ands; exact ⟨(hbA.cell (World.block_lt_of_cell? _ _ (by assumption))).trans (by assumption), (hbA.cell (World.block_lt_of_cell? _ _ (by assumption))).trans (by assumption), (hbA.cell (World.block_lt_of_cell? _ _ (by assumption))).trans (by assumption)⟩) | (go_split_ands; exact ⟨(hbB.cell (World.block_lt_of_cell? _ _ (by assumption))).trans (by assumption), (hbB.cell (World.block_lt_of_cell? _ _ (by assumption))).trans (by assumption), (hbB.cell (World.block_lt_of_cell? _ _ (by assumption))).trans (by assumption)⟩))
                    refine wpAnyH_take (i := 0) (oi := { dst := some 118, op := Go.Op.move (Go.Operand.tmp 0), type := 22, pos := "law.go:59", after := #[], guard := none }) (v := ?_) rfl (by kernel_rfl) (by kernel_rfl) (by kernel_rfl) (fun _ _ _ h => h) (Or.inl ⟨by rfl, ?_⟩) (by assumption) ?_
                    rotate_left
                    · (intro w hSw; (try dsimp only at hSw); go_simp); try with_reducible rfl
                    try simp only [Act.put, List.setIfInBounds_toArray, List.set_cons_zero, List.set_cons_succ]
                    refine wpAnyH_take (i := 1) (oi := { dst := some 119, op := Go.Op.move (Go.Operand.tmp 6), type := 26, pos := "law.go:59", after := #[], guard := none }) (v := ?_) rfl (by kernel_rfl) (by kernel_rfl) (by kernel_rfl) (fun _ _ _ h => h) (Or.inl ⟨by rfl, ?_⟩) (by assumption) ?_
                    rotate_left
                    · (intro w hSw; (try dsimp only at hSw); go_simp); try with_reducible rfl
                    try simp only [Act.put, List.setIfInBounds_toArray, List.set_cons_zero, List.set_cons_succ]
                    refine wpAnyH_take (i := 2) (oi := { dst := some 120, op := Go.Op.move (Go.Operand.tmp 7), type := 3, pos := "law.go:59", after := #[], guard := none }) (v := ?_) rfl (by kernel_rfl) (by kernel_rfl) (by kernel_rfl) (fun _ _ _ h => h) (Or.inl ⟨by rfl, ?_⟩) (by assumption) ?_
                    rotate_left
                    · (intro w hSw; (try dsimp only at hSw); go_simp); try with_reducible rfl
                    try simp only [Act.put, List.setIfInBounds_toArray, List.set_cons_zero, List.set_cons_succ]
                    refine wpAnyH_take (i := 3) (oi := { dst := some 121, op := Go.Op.indexAddr 26 (Go.Operand.tmp 119) (Go.Operand.tmp 120), type := 0, pos := "law.go:59", after := #[{ on := 1, ground := Go.Ground.data }, { on := 2, ground := Go.Ground.data }], guard := none }) (v := ?_) rfl (by kernel_rfl) (by kernel_rfl) (by kernel_rfl) (fun _ _ _ h => h) (Or.inl ⟨by rfl, ?_⟩) (by assumption) ?_
                    rotate_left
                    · (intro w hSw; (try dsimp only at hSw); go_simp); try with_reducible rfl
                    try simp only [Act.put, List.setIfInBounds_toArray, List.set_cons_zero, List.set_cons_succ]
                    refine wpAnyH_take (i := 4) (oi := { dst := some 122, op := Go.Op.load 3 (Go.Operand.tmp 121), type := 3, pos := "law.go:59", after := #[{ on := 3, ground := Go.Ground.data }], guard := none }) (v := ?_) rfl (by kernel_rfl) (by kernel_rfl) (by kernel_rfl) (fun _ _ _ h => h) (Or.inl ⟨by rfl, ?_⟩) (by assumption) ?_
                    rotate_left
                    · (intro w hSw; (try dsimp only at hSw); go_simp); try with_reducible rfl
                    try simp only [Act.put, List.setIfInBounds_toArray, List.set_cons_zero, List.set_cons_succ]
                    refine wpAnyH_take (i := 5) (oi := { dst := some 123, op := Go.Op.move (Go.Operand.tmp 6), type := 26, pos := "law.go:59", after := #[], guard := none }) (v := ?_) rfl (by kernel_rfl) (by kernel_rfl) (by kernel_rfl) (fun _ _ _ h => h) (Or.inl ⟨by rfl, ?_⟩) (by assumption) ?_
                    rotate_left
                    · (intro w hSw; (try dsimp only at hSw); go_simp); try with_reducible rfl
                    try simp only [Act.put, List.setIfInBounds_toArray, List.set_cons_zero, List.set_cons_succ]
                    refine wpAnyH_take (i := 6) (oi := { dst := some 124, op := Go.Op.move (Go.Operand.tmp 8), type := 3, pos := "law.go:59", after := #[], guard := none }) (v := ?_) rfl (by kernel_rfl) (by kernel_rfl) (by kernel_rfl) (fun _ _ _ h => h) (Or.inl ⟨by rfl, ?_⟩) (by assumption) ?_
                    rotate_left
                    · (intro w hSw; (try dsimp only at hSw); go_simp); try with_reducible rfl
                    try simp only [Act.put, List.setIfInBounds_toArray, List.set_cons_zero, List.set_cons_succ]
                    refine wpAnyH_take (i := 7) (oi := { dst := some 125, op := Go.Op.indexAddr 26 (Go.Operand.tmp 123) (Go.Operand.tmp 124), type := 0, pos := "law.go:59", after := #[{ on := 5, ground := Go.Ground.data }, { on := 6, ground := Go.Ground.data }], guard := none }) (v := ?_) rfl (by kernel_rfl) (by kernel_rfl) (by kernel_rfl) (fun _ _ _ h => h) (Or.inl ⟨by rfl, ?_⟩) (by assumption) ?_
                    rotate_left
                    · (intro w hSw; (try dsimp only at hSw); go_simp); try with_reducible rfl
                    try simp only [Act.put, List.setIfInBounds_toArray, List.set_cons_zero, List.set_cons_succ]
                    refine wpAnyH_take (i := 8) (oi := { dst := some 126, op := Go.Op.load 3 (Go.Operand.tmp 125), type := 3, pos := "law.go:59", after := #[{ on := 7, ground := Go.Ground.data }], guard := none }) (v := ?_) rfl (by kernel_rfl) (by kernel_rfl) (by kernel_rfl) (fun _ _ _ h => h) (Or.inl ⟨by rfl, ?_⟩) (by assumption) ?_
                    rotate_left
                    · (intro w hSw; (try dsimp only at hSw); go_simp); try with_reducible rfl
                    try simp only [Act.put, List.setIfInBounds_toArray, List.set_cons_zero, List.set_cons_succ]
                    refine wpAnyH_ready (rs := [9]) (by kernel_rfl) (by simp) ?_
                    refine AllReadyH.cons (o := { dst := some 127, op := Go.Op.call { callee := Go.Callee.value (Go.Operand.func 16), args := #[Go.Operand.tmp 118, Go.Operand.tmp 122, Go.Operand.tmp 126], argTypes := #[22, 3, 3] }, type := 4, pos := "law.go:59", after := #[{ on := 0, ground := Go.Ground.data }, { on := 4, ground := Go.Ground.data }, { on := 8, ground := Go.Ground.data }], guard := none }) rfl (fun K hK => ?_) AllReadyH.nil
                    go_simp
                    (go_at_call 16; refine (Rows2.before_calls HF.out _ _ a b true _ (by repeat (first | exact HRK.out | (with_reducible refine Kd.C_drew ?_) | (with_reducible refine Kd.C_drewN ?_ _))) hc0 H1.out).mono ?_; rintro e wA ⟨rfl, hbA⟩; have hCA := Kd.C_below (by repeat (first | exact HRK.out | (with_reducible refine Kd.C_drew ?_) | (with_reducible refine Kd.C_drewN ?_ _))) hbA)
                    try go_wp2_with fail
                    refine hK.out _ _ ?_ (fun hHeld9 => ?_)
                    · (try dsimp only); (first | go_keep | (go_split_ands; exact ⟨(hbA.cell (World.block_lt_of_cell? _ _ (by assumption))).trans (by assumption), (hbA.cell (World.block_lt_of_cell? _ _ (by assumption))).trans (by assumption), (hbA.cell (World.block_lt_of_cell? _ _ (by assumption))).trans (by assumption)⟩) | (go_split_ands; exact ⟨(hbB.cell (World.block_lt_of_cell? _ _ (by assumption))).trans (by assumption), (hbB.cell (World.block_lt_of_cell? _ _ (by assumption))).trans (by assumption), (hbB.cell (World.block_lt_of_cell? _ _ (by assumption))).trans (by assumption)⟩))
                    clear hK K hHeld
                    have hHeld := hHeld9
                    clear hHeld9
                    try simp only [Act.put, List.setIfInBounds_toArray, List.set_cons_zero, List.set_cons_succ]
                    refine wpAnyH_take (i := 10) (oi := { dst := some 128, op := Go.Op.move (Go.Operand.tmp 127), type := 4, pos := "law.go:59", after := #[{ on := 9, ground := Go.Ground.data }, { on := 9, ground := Go.Ground.chain }], guard := none }) (v := ?_) rfl (by kernel_rfl) (by kernel_rfl) (by kernel_rfl) (fun _ _ _ h => h) (Or.inl ⟨by rfl, ?_⟩) (by assumption) ?_
                    rotate_left
                    · (intro w hSw; (try dsimp only at hSw); go_simp); try with_reducible rfl
                    try simp only [Act.put, List.setIfInBounds_toArray, List.set_cons_zero, List.set_cons_succ]
                    refine wpAnyH_take (i := 11) (oi := { dst := some 129, op := Go.Op.move (Go.Operand.tmp 0), type := 22, pos := "law.go:59", after := #[{ on := 10, ground := Go.Ground.guard }], guard := some (10, true) }) (v := ?_) rfl (by kernel_rfl) (by kernel_rfl) (by kernel_rfl) (fun _ _ _ h => h) (Or.inl ⟨by rfl, ?_⟩) (by assumption) ?_
                    rotate_left
                    · (intro w hSw; (try dsimp only at hSw); go_simp); try with_reducible rfl
                    try simp only [Act.put, List.setIfInBounds_toArray, List.set_cons_zero, List.set_cons_succ]
                    refine wpAnyH_take (i := 12) (oi := { dst := some 130, op := Go.Op.move (Go.Operand.tmp 6), type := 26, pos := "law.go:59", after := #[{ on := 10, ground := Go.Ground.guard }], guard := some (10, true) }) (v := ?_) rfl (by kernel_rfl) (by kernel_rfl) (by kernel_rfl) (fun _ _ _ h => h) (Or.inl ⟨by rfl, ?_⟩) (by assumption) ?_
                    rotate_left
                    · (intro w hSw; (try dsimp only at hSw); go_simp); try with_reducible rfl
                    try simp only [Act.put, List.setIfInBounds_toArray, List.set_cons_zero, List.set_cons_succ]
                    refine wpAnyH_take (i := 13) (oi := { dst := some 131, op := Go.Op.move (Go.Operand.tmp 8), type := 3, pos := "law.go:59", after := #[{ on := 10, ground := Go.Ground.guard }], guard := some (10, true) }) (v := ?_) rfl (by kernel_rfl) (by kernel_rfl) (by kernel_rfl) (fun _ _ _ h => h) (Or.inl ⟨by rfl, ?_⟩) (by assumption) ?_
                    rotate_left
                    · (intro w hSw; (try dsimp only at hSw); go_simp); try with_reducible rfl
                    try simp only [Act.put, List.setIfInBounds_toArray, List.set_cons_zero, List.set_cons_succ]
                    refine wpAnyH_take (i := 14) (oi := { dst := some 132, op := Go.Op.indexAddr 26 (Go.Operand.tmp 130) (Go.Operand.tmp 131), type := 0, pos := "law.go:59", after := #[{ on := 12, ground := Go.Ground.data }, { on := 13, ground := Go.Ground.data }, { on := 10, ground := Go.Ground.guard }], guard := some (10, true) }) (v := ?_) rfl (by kernel_rfl) (by kernel_rfl) (by kernel_rfl) (fun _ _ _ h => h) (Or.inl ⟨by rfl, ?_⟩) (by assumption) ?_
                    rotate_left
                    · (intro w hSw; (try dsimp only at hSw); go_simp); try with_reducible rfl
                    try simp only [Act.put, List.setIfInBounds_toArray, List.set_cons_zero, List.set_cons_succ]
                    refine wpAnyH_take (i := 15) (oi := { dst := some 133, op := Go.Op.load 3 (Go.Operand.tmp 132), type := 3, pos := "law.go:59", after := #[{ on := 14, ground := Go.Ground.data }, { on := 10, ground := Go.Ground.guard }], guard := some (10, true) }) (v := ?_) rfl (by kernel_rfl) (by kernel_rfl) (by kernel_rfl) (fun _ _ _ h => h) (Or.inl ⟨by rfl, ?_⟩) (by assumption) ?_
                    rotate_left
                    · (intro w hSw; (try dsimp only at hSw); go_simp); try with_reducible rfl
                    try simp only [Act.put, List.setIfInBounds_toArray, List.set_cons_zero, List.set_cons_succ]
                    refine wpAnyH_take (i := 16) (oi := { dst := some 134, op := Go.Op.move (Go.Operand.tmp 6), type := 26, pos := "law.go:59", after := #[{ on := 10, ground := Go.Ground.guard }], guard := some (10, true) }) (v := ?_) rfl (by kernel_rfl) (by kernel_rfl) (by kernel_rfl) (fun _ _ _ h => h) (Or.inl ⟨by rfl, ?_⟩) (by assumption) ?_
                    rotate_left
                    · (intro w hSw; (try dsimp only at hSw); go_simp); try with_reducible rfl
                    try simp only [Act.put, List.setIfInBounds_toArray, List.set_cons_zero, List.set_cons_succ]
                    refine wpAnyH_take (i := 17) (oi := { dst := some 135, op := Go.Op.move (Go.Operand.tmp 9), type := 3, pos := "law.go:59", after := #[{ on := 10, ground := Go.Ground.guard }], guard := some (10, true) }) (v := ?_) rfl (by kernel_rfl) (by kernel_rfl) (by kernel_rfl) (fun _ _ _ h => h) (Or.inl ⟨by rfl, ?_⟩) (by assumption) ?_
                    rotate_left
                    · (intro w hSw; (try dsimp only at hSw); go_simp); try with_reducible rfl
                    try simp only [Act.put, List.setIfInBounds_toArray, List.set_cons_zero, List.set_cons_succ]
                    refine wpAnyH_take (i := 18) (oi := { dst := some 136, op := Go.Op.indexAddr 26 (Go.Operand.tmp 134) (Go.Operand.tmp 135), type := 0, pos := "law.go:59", after := #[{ on := 16, ground := Go.Ground.data }, { on := 17, ground := Go.Ground.data }, { on := 10, ground := Go.Ground.guard }], guard := some (10, true) }) (v := ?_) rfl (by kernel_rfl) (by kernel_rfl) (by kernel_rfl) (fun _ _ _ h => h) (Or.inl ⟨by rfl, ?_⟩) (by assumption) ?_
                    rotate_left
                    · (intro w hSw; (try dsimp only at hSw); go_simp); try with_reducible rfl
                    try simp only [Act.put, List.setIfInBounds_toArray, List.set_cons_zero, List.set_cons_succ]
                    refine wpAnyH_take (i := 19) (oi := { dst := some 137, op := Go.Op.load 3 (Go.Operand.tmp 136), type := 3, pos := "law.go:59", after := #[{ on := 18, ground := Go.Ground.data }, { on := 10, ground := Go.Ground.guard }], guard := some (10, true) }) (v := ?_) rfl (by kernel_rfl) (by kernel_rfl) (by kernel_rfl) (fun _ _ _ h => h) (Or.inl ⟨by rfl, ?_⟩) (by assumption) ?_
                    rotate_left
                    · (intro w hSw; (try dsimp only at hSw); go_simp); try with_reducible rfl
                    try simp only [Act.put, List.setIfInBounds_toArray, List.set_cons_zero, List.set_cons_succ]
                    refine wpAnyH_ready (rs := [20]) (by kernel_rfl) (by simp) ?_
                    refine AllReadyH.cons (o := { dst := some 138, op := Go.Op.call { callee := Go.Callee.value (Go.Operand.func 16), args := #[Go.Operand.tmp 129, Go.Operand.tmp 133, Go.Operand.tmp 137], argTypes := #[22, 3, 3] }, type := 4, pos := "law.go:59", after := #[{ on := 11, ground := Go.Ground.data }, { on := 15, ground := Go.Ground.data }, { on := 19, ground := Go.Ground.data }, { on := 10, ground := Go.Ground.chain }, { on := 10, ground := Go.Ground.guard }], guard := some (10, true) }) rfl (fun K hK => ?_) AllReadyH.nil
                    go_simp
                    (go_at_call 16; refine (Rows2.before_calls HF.out _ _ b c false _ (by repeat (first | exact hCA | (with_reducible refine Kd.C_drew ?_) | (with_reducible refine Kd.C_drewN ?_ _))) hc0 H2.out).mono ?_; rintro e wB ⟨rfl, hbB⟩)
                    try go_wp2_with fail
                    refine hK.out _ _ ?_ (fun hHeld20 => ?_)
                    · (try dsimp only); (first | go_keep | (go_split_ands; exact ⟨(hbA.cell (World.block_lt_of_cell? _ _ (by assumption))).trans (by assumption), (hbA.cell (World.block_lt_of_cell? _ _ (by assumption))).trans (by assumption), (hbA.cell (World.block_lt_of_cell? _ _ (by assumption))).trans (by assumption)⟩) | (go_split_ands; exact ⟨(hbB.cell (World.block_lt_of_cell? _ _ (by assumption))).trans (by assumption), (hbB.cell (World.block_lt_of_cell? _ _ (by assumption))).trans (by assumption), (hbB.cell (World.block_lt_of_cell? _ _ (by assumption))).trans (by assumption)⟩))
                    clear hK K hHeld
                    have hHeld := hHeld20
                    clear hHeld20
                    try simp only [Act.put, List.setIfInBounds_toArray, List.set_cons_zero, List.set_cons_succ]
                    refine wpAnyH_take (i := 21) (oi := { dst := some 139, op := Go.Op.pick (Go.Operand.tmp 128) (Go.Operand.tmp 138) (Go.Operand.const (Go.Value.bool false)), type := 4, pos := "law.go:59", after := #[{ on := 10, ground := Go.Ground.data }, { on := 20, ground := Go.Ground.data }], guard := none }) (v := ?_) rfl (by kernel_rfl) (by kernel_rfl) (by kernel_rfl) (fun _ _ _ h => h) (Or.inl ⟨by rfl, ?_⟩) (by assumption) ?_
                    rotate_left
                    · (intro w hSw; (try dsimp only at hSw); go_simp); try with_reducible rfl
                    try simp only [Act.put, List.setIfInBounds_toArray, List.set_cons_zero, List.set_cons_succ]
                    refine wpAnyH_take (i := 22) (oi := { dst := some 140, op := Go.Op.move (Go.Operand.tmp 139), type := 4, pos := "law.go:59", after := #[{ on := 21, ground := Go.Ground.data }, { on := 20, ground := Go.Ground.chain }], guard := none }) (v := ?_) rfl (by kernel_rfl) (by kernel_rfl) (by kernel_rfl) (fun _ _ _ h => h) (Or.inl ⟨by rfl, ?_⟩) (by assumption) ?_
                    rotate_left
                    · (intro w hSw; (try dsimp only at hSw); go_simp); try with_reducible rfl
                    try simp only [Act.put, List.setIfInBounds_toArray, List.set_cons_zero, List.set_cons_succ]
                    refine wpAnyH_take (i := 23) (oi := { dst := some 141, op := Go.Op.move (Go.Operand.tmp 0), type := 22, pos := "law.go:59", after := #[{ on := 22, ground := Go.Ground.guard }], guard := some (22, true) }) (v := undef) rfl (by kernel_rfl) (by kernel_rfl) (by kernel_rfl) (fun _ _ _ h => h) (Or.inr ⟨by rfl, rfl⟩) (by assumption) ?_
                    try simp only [Act.put, List.setIfInBounds_toArray, List.set_cons_zero, List.set_cons_succ]
                    refine wpAnyH_take (i := 24) (oi := { dst := some 142, op := Go.Op.move (Go.Operand.tmp 6), type := 26, pos := "law.go:59", after := #[{ on := 22, ground := Go.Ground.guard }], guard := some (22, true) }) (v := undef) rfl (by kernel_rfl) (by kernel_rfl) (by kernel_rfl) (fun _ _ _ h => h) (Or.inr ⟨by rfl, rfl⟩) (by assumption) ?_
                    try simp only [Act.put, List.setIfInBounds_toArray, List.set_cons_zero, List.set_cons_succ]
                    refine wpAnyH_take (i := 25) (oi := { dst := some 143, op := Go.Op.move (Go.Operand.tmp 7), type := 3, pos := "law.go:59", after := #[{ on := 22, ground := Go.Ground.guard }], guard := some (22, true) }) (v := undef) rfl (by kernel_rfl) (by kernel_rfl) (by kernel_rfl) (fun _ _ _ h => h) (Or.inr ⟨by rfl, rfl⟩) (by assumption) ?_
                    try simp only [Act.put, List.setIfInBounds_toArray, List.set_cons_zero, List.set_cons_succ]
                    refine wpAnyH_take (i := 26) (oi := { dst := some 144, op := Go.Op.indexAddr 26 (Go.Operand.tmp 142) (Go.Operand.tmp 143), type := 0, pos := "law.go:59", after := #[{ on := 24, ground := Go.Ground.data }, { on := 25, ground := Go.Ground.data }, { on := 22, ground := Go.Ground.guard }], guard := some (22, true) }) (v := undef) rfl (by kernel_rfl) (by kernel_rfl) (by kernel_rfl) (fun _ _ _ h => h) (Or.inr ⟨by rfl, rfl⟩) (by assumption) ?_
                    try simp only [Act.put, List.setIfInBounds_toArray, List.set_cons_zero, List.set_cons_succ]
                    refine wpAnyH_take (i := 27) (oi := { dst := some 145, op := Go.Op.load 3 (Go.Operand.tmp 144), type := 3, pos := "law.go:59", after := #[{ on := 26, ground := Go.Ground.data }, { on := 22, ground := Go.Ground.guard }], guard := some (22, true) }) (v := undef) rfl (by kernel_rfl) (by kernel_rfl) (by kernel_rfl) (fun _ _ _ h => h) (Or.inr ⟨by rfl, rfl⟩) (by assumption) ?_
                    try simp only [Act.put, List.setIfInBounds_toArray, List.set_cons_zero, List.set_cons_succ]
                    refine wpAnyH_take (i := 28) (oi := { dst := some 146, op := Go.Op.move (Go.Operand.tmp 6), type := 26, pos := "law.go:59", after := #[{ on := 22, ground := Go.Ground.guard }], guard := some (22, true) }) (v := undef) rfl (by kernel_rfl) (by kernel_rfl) (by kernel_rfl) (fun _ _ _ h => h) (Or.inr ⟨by rfl, rfl⟩) (by assumption) ?_
                    try simp only [Act.put, List.setIfInBounds_toArray, List.set_cons_zero, List.set_cons_succ]
                    refine wpAnyH_take (i := 29) (oi := { dst := some 147, op := Go.Op.move (Go.Operand.tmp 9), type := 3, pos := "law.go:59", after := #[{ on := 22, ground := Go.Ground.guard }], guard := some (22, true) }) (v := undef) rfl (by kernel_rfl) (by kernel_rfl) (by kernel_rfl) (fun _ _ _ h => h) (Or.inr ⟨by rfl, rfl⟩) (by assumption) ?_
                    try simp only [Act.put, List.setIfInBounds_toArray, List.set_cons_zero, List.set_cons_succ]
                    refine wpAnyH_take (i := 30) (oi := { dst := some 148, op := Go.Op.indexAddr 26 (Go.Operand.tmp 146) (Go.Operand.tmp 147), type := 0, pos := "law.go:59", after := #[{ on := 28, ground := Go.Ground.data }, { on := 29, ground := Go.Ground.data }, { on := 22, ground := Go.Ground.guard }], guard := some (22, true) }) (v := undef) rfl (by kernel_rfl) (by kernel_rfl) (by kernel_rfl) (fun _ _ _ h => h) (Or.inr ⟨by rfl, rfl⟩) (by assumption) ?_
                    try simp only [Act.put, List.setIfInBounds_toArray, List.set_cons_zero, List.set_cons_succ]
                    refine wpAnyH_take (i := 31) (oi := { dst := some 149, op := Go.Op.load 3 (Go.Operand.tmp 148), type := 3, pos := "law.go:59", after := #[{ on := 30, ground := Go.Ground.data }, { on := 22, ground := Go.Ground.guard }], guard := some (22, true) }) (v := undef) rfl (by kernel_rfl) (by kernel_rfl) (by kernel_rfl) (fun _ _ _ h => h) (Or.inr ⟨by rfl, rfl⟩) (by assumption) ?_
                    try simp only [Act.put, List.setIfInBounds_toArray, List.set_cons_zero, List.set_cons_succ]
                    refine wpAnyH_take (i := 32) (oi := { dst := some 150, op := Go.Op.call { callee := Go.Callee.value (Go.Operand.func 16), args := #[Go.Operand.tmp 141, Go.Operand.tmp 145, Go.Operand.tmp 149], argTypes := #[22, 3, 3] }, type := 4, pos := "law.go:59", after := #[{ on := 23, ground := Go.Ground.data }, { on := 27, ground := Go.Ground.data }, { on := 31, ground := Go.Ground.data }, { on := 22, ground := Go.Ground.chain }, { on := 22, ground := Go.Ground.guard }], guard := some (22, true) }) (v := undef) rfl (by kernel_rfl) (by kernel_rfl) (by kernel_rfl) (fun _ _ _ h => h) (Or.inr ⟨by rfl, rfl⟩) (by assumption) ?_
                    try simp only [Act.put, List.setIfInBounds_toArray, List.set_cons_zero, List.set_cons_succ]
                    refine wpAnyH_take (i := 33) (oi := { dst := some 151, op := Go.Op.unOp Go.UnOp.not 4 (Go.Operand.tmp 150), type := 4, pos := "law.go:59", after := #[{ on := 32, ground := Go.Ground.data }, { on := 22, ground := Go.Ground.guard }], guard := some (22, true) }) (v := undef) rfl (by kernel_rfl) (by kernel_rfl) (by kernel_rfl) (fun _ _ _ h => h) (Or.inr ⟨by rfl, rfl⟩) (by assumption) ?_
                    try simp only [Act.put, List.setIfInBounds_toArray, List.set_cons_zero, List.set_cons_succ]
                    refine wpAnyH_take (i := 34) (oi := { dst := some 152, op := Go.Op.pick (Go.Operand.tmp 140) (Go.Operand.tmp 151) (Go.Operand.const (Go.Value.bool false)), type := 4, pos := "law.go:59", after := #[{ on := 22, ground := Go.Ground.data }, { on := 33, ground := Go.Ground.data }], guard := none }) (v := ?_) rfl (by kernel_rfl) (by kernel_rfl) (by kernel_rfl) (fun _ _ _ h => h) (Or.inl ⟨by rfl, ?_⟩) (by assumption) ?_
                    rotate_left
                    · (intro w hSw; (try dsimp only at hSw); go_simp); try with_reducible rfl
                    try simp only [Act.put, List.setIfInBounds_toArray, List.set_cons_zero, List.set_cons_succ]
                    refine wpAnyH_done (by kernel_rfl) ?_ _
                    have hbK : Below w3.heap.size w3 wB := below_step (below_step (below_drew1 HNK.out) hbA) hbB
                    go_wp2_with fail
                    go_roundw
                    case rel => exact ⟨k + 1, by omega, by go_num, hbK⟩
                    case measure => simp [intOf]; omega
                  · have H2 := Lib.hid h2
                    have H3 := Lib.hid (before_trans hb1 hc1 HA2.out HB2.out HC2.out H1.out h2)
                    clear h2
                    go_wp2_with fail
                    go_region_held3 (fun w' => w'.cell? ⟨g3, i, none⟩ = some (.int .i64 (a : Int)) ∧ w'.cell? ⟨g3, j, none⟩ = some (.int .i64 (b : Int)) ∧ w'.cell? ⟨g3, k, none⟩ = some (.int .i64 (c : Int)))
                      (first | go_keep | (go_split_ands; exact ⟨(hbA.cell (World.block_lt_of_cell? _ _ (by assumption))).trans (by assumption), (hbA.cell (World.block_lt_of_cell? _ _ (by assumption))).trans (by assumption), (hbA.cell (World.block_lt_of_cell? _ _ (by assumption))).trans (by assumption)⟩) | (go_split_ands; exact ⟨(hbB.cell (World.block_lt_of_cell? _ _ (by assumption))).trans (by assumption), (hbB.cell (World.block_lt_of_cell? _ _ (by assumption))).trans (by assumption), (hbB.cell (World.block_lt_of_cell? _ _ (by assumption))).trans (by assumption)⟩) | (go_split_ands; exact ⟨(hbC.cell (World.block_lt_of_cell? _ _ (by assumption))).trans (by assumption), (hbC.cell (World.block_lt_of_cell? _ _ (by assumption))).trans (by assumption), (hbC.cell (World.block_lt_of_cell? _ _ (by assumption))).trans (by assumption)⟩))
                      (first
                        | (go_at_call 16; have hCB_ := hCB; refine (Rows2.before_calls HF.out _ _ a c true _ (by repeat (first | exact hCB | (with_reducible refine Kd.C_drew ?_) | (with_reducible refine Kd.C_drewN ?_ _))) hc0 H3.out).mono ?_; rintro e wC ⟨rfl, hbC⟩)
                        | (go_at_call 16; have hCA_ := hCA; refine (Rows2.before_calls HF.out _ _ b c true _ (by repeat (first | exact hCA | (with_reducible refine Kd.C_drew ?_) | (with_reducible refine Kd.C_drewN ?_ _))) hc0 H2.out).mono ?_; rintro e wB ⟨rfl, hbB⟩; have hCB := Kd.C_below (by repeat (first | exact hCA | (with_reducible refine Kd.C_drew ?_) | (with_reducible refine Kd.C_drewN ?_ _))) hbB)
                        | (go_at_call 16; refine (Rows2.before_calls HF.out _ _ a b true _ (by repeat (first | exact HRK.out | (with_reducible refine Kd.C_drew ?_) | (with_reducible refine Kd.C_drewN ?_ _))) hc0 H1.out).mono ?_; rintro e wA ⟨rfl, hbA⟩; have hCA := Kd.C_below (by repeat (first | exact HRK.out | (with_reducible refine Kd.C_drew ?_) | (with_reducible refine Kd.C_drewN ?_ _))) hbA))
                    have hbK : Below w3.heap.size w3 wC := below_step (below_step (below_step (below_drew1 HNK.out) hbA) hbB) hbC
                    go_wp2_with fail
                    go_roundw
                    case rel => exact ⟨k + 1, by omega, by go_num, hbK⟩
                    case measure => simp [intOf]; omega
              · have hke : k = m := by omega
                subst hke
                clear hkl
                go_wp2_with fail
                go_roundw
                case rel => exact ⟨j + 1, by omega, by go_num, hnk⟩
                case measure => simp [intOf]; omega
        · have hje : j = m := by omega
          subst hje
          clear hjl
          go_wp2_with fail
          go_roundw
          case rel => exact ⟨i + 1, by omega, by go_num, hnj⟩
          case measure => simp [intOf]; omega
    · have hke : i = m := by omega
      subst hke
      clear hlt
      go_wp2_with fail
      go_ret
      exact ⟨rfl, below_step hb13 hnx⟩
theorem ord_any (A0 : Option Addr) (c0 : Nat) (l0 : List S37) (a1 : Int) (w : World) (hr0 : Kd.C k37 w A0 l0.length l0) (hc0 : l0.length ≤ c0) (hm0 : c0 ≤ maxLen) (hw : ∀ e ∈ l0, (Lit.int .i64 e.f1).wf = true) :
    Calls Try.prog 4 #[.slice A0 l0.length c0, .int .i64 a1] w fun e w' => e = .returned (.bool true) ∧ Below w.heap.size w w' := by
  unfold maxLen at hm0
  by_cases hl : (40 : Int) < l0.length
  · exact ord_long A0 c0 l0 a1 w (by omega) hl
  · have hf : fitB l0 = true := fit_of (by omega) hw
    cases hr : rightB l0 a1 with
    | false => exact ord_wrong A0 c0 l0 a1 w hr0 hc0 (by omega) (by rw [Rows2.ref_right_f hf, hr])
    | true => exact ord_main A0 c0 l0 a1 w hr0 hc0 (by omega) hf hr
end Go.Proofs.Ytkcpifmdjnfgaaa.PTrace
