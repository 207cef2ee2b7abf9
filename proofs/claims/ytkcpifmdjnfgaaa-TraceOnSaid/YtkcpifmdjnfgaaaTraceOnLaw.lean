/- The walk of the law 'TraceOn'. -/
import Derived.Test.YtkcpifmdjnfgaaaTraceOn0
import Derived.Test.YtkcpifmdjnfgaaaTraceRows
import Derived.Deep.RegionHeld3
namespace Go.Proofs.Ytkcpifmdjnfgaaa.PTrace
set_option linter.unusedVariables false
set_option linter.unusedSimpArgs false
open Go.BigFrame Go.RowKit Go.Maps Go.Proofs.YtkcpifmdjnfgaaaW.PrintWords Go.Proofs.YtkcpifmdjnfgaaaW.PrintLast Go.Proofs.YtkcpifmdjnfgaaaW.PrintMore

set_option maxHeartbeats 1000000 in
set_option maxRecDepth 100000 in
theorem on_long (A0 : Option Addr) (c0 : Nat) (l0 : List S37) (a1 : Int) (w : World) (hm : (l0.length : Int) ≤ 9223372036854775807) (hl : (60 : Int) < l0.length) :
    Calls Try.prog 5 #[.slice A0 l0.length c0, .int .i64 a1] w fun e w' => e = .returned (.bool true) ∧ Below w.heap.size w w' := by
  go_enter Try.func5, Try.ntmps5
  go_wp2_with (go_at_call 8; refine (breadlinelaw18_head.calls 20 true _ head_true).mono ?_; rintro e w1 ⟨rfl, hb1⟩)
  go_ret
  exact ⟨rfl, hb1⟩
set_option maxHeartbeats 1000000 in
set_option maxRecDepth 100000 in
theorem on_wrong (A0 : Option Addr) (c0 : Nat) (l0 : List S37) (a1 : Int) (w : World) (hr0 : Kd.C k37 w A0 l0.length l0) (hc0 : l0.length ≤ c0) (hl : (l0.length : Int) ≤ 60) (h : refRight.f l0 a1 = some false) :
    Calls Try.prog 5 #[.slice A0 l0.length c0, .int .i64 a1] w fun e w' => e = .returned (.bool true) ∧ Below w.heap.size w w' := by
  have HR0 := Lib.hid hr0
  have HH := Lib.hid h
  clear hr0 h
  go_enter Try.func5, Try.ntmps5
  go_wp2_with (first | (go_at_call 8; refine (breadlinelaw18_head.calls 20 true _ head_true).mono ?_; rintro e w1 ⟨rfl, hb1⟩) | (go_at_call 10; refine (refRight.calls _ _ l0 a1 false _ (Kd.C_below HR0.out hb1) hc0 HH.out).mono ?_; rintro e w2 ⟨rfl, hb2⟩))
  go_ret
  exact ⟨rfl, below_step hb1 hb2⟩
set_option maxHeartbeats 4000000 in
set_option maxRecDepth 100000 in
theorem on_main (A0 : Option Addr) (c0 : Nat) (l0 : List S37) (a1 : Int) (w : World) (hr0 : Kd.C k37 w A0 l0.length l0) (hc0 : l0.length ≤ c0) (hl : (l0.length : Int) ≤ 60) (hf : fitB l0 = true) (hr : rightB l0 a1 = true) :
    Calls Try.prog 5 #[.slice A0 l0.length c0, .int .i64 a1] w fun e w' => e = .returned (.bool true) ∧ Below w.heap.size w w' := by
  have HR0 := Lib.hid hr0
  have HT := Lib.hid (right_takes hr)
  have HH := Lib.hid (show refRight.f l0 a1 = some true by rw [Rows2.ref_right_f hf, hr])
  have HF := Lib.hid hf
  have HCL := Lib.hid (calls_len l0)
  have HEL := Lib.hid (ends_len l0)
  have hbl := beginsTo_len l0 l0.length
  obtain ⟨m, hm⟩ : ∃ m, (beginsTo l0 l0.length).length = m := ⟨_, rfl⟩
  have HM := Lib.hid hm
  rw [hm] at hbl
  have HCm : Hid ((callsTo l0 l0.length).length = m) := Lib.hid (by rw [HCL.out, HM.out])
  have HEm : Hid ((endsTo l0 l0.length).length = m) := Lib.hid (by rw [HEL.out, HM.out])
  clear hr0 hr hf hm
  go_enter Try.func5, Try.ntmps5
  go_wp2_with (first
    | (go_at_call 8; refine (breadlinelaw18_head.calls 20 true _ head_true).mono ?_; rintro e w1 ⟨rfl, hb1⟩)
    | (go_at_call 10; refine (refRight.calls _ _ l0 a1 true _ (Kd.C_below HR0.out hb1) hc0 HH.out).mono ?_; rintro e w2 ⟨rfl, hb2⟩; have hb12 := below_step hb1 hb2)
    | (go_at_call 14; refine (trace_Calls.calls 1000 _ _ l0 (callsTo l0 l0.length) _ (Kd.C_below HR0.out hb12) hc0 (calls_f l0 (by omega) _ (by omega))).mono ?_; rintro e w3 ⟨v3, rfl, hR3, hb3⟩; have hb13 := below_step hb12 hb3; obtain ⟨A3, c3, rfl, hc3⟩ := Rows2.ints_row hR3)
    | (go_at_call 12; refine (trace_Ends.calls _ _ l0 (endsTo l0 l0.length) _ (Kd.C_below HR0.out hb13) hc0 (Rows2.ends_f HF.out HT.out)).mono ?_; rintro e w4 ⟨v4, rfl, hR4, hb4⟩; have hb14 := below_step hb13 hb4; obtain ⟨A4, c4, rfl, hc4⟩ := Rows2.ints_row hR4; rw [HEm.out, HCm.out]))
  have h34 := hb4.size
  have hb14' : Hid (∀ a : Addr, a.block < w3.heap.size → w4.cell? a = w3.cell? a) := Lib.hid (fun a ha => hb4.cell ha)
  have HC3 := Lib.hid hc3
  have HC4 := Lib.hid hc4
  have HR4 := Lib.hid (Kd.C_below HR0.out hb14)
  clear hc3 hc4 hR3 hR4 hb1 hb2 hb12 hb13 hb3 hb4 HCL HEL HH
  go_loopw [8] (fun iv wr => ∃ i : Nat, i ≤ m ∧ iv = .int .i64 i ∧ Below w4.heap.size w4 wr) (fun iv _ => m - (intOf iv).toNat)
  case atStart => exact ⟨0, Nat.zero_le _, rfl, Below.refl _ _⟩
  case round =>
    obtain ⟨i, hi, rfl, hnx⟩ := hrel
    by_cases hlt : i < m
    · have hi0 : (0 : Int) ≤ (i : Int) := by omega
      have hi1 : (i : Int) < (m : Int) := by omega
      go_wp2_with fail
      go_loopw [9] (fun jv wj => ∃ j : Nat, j ≤ i ∧ jv = .int .i64 j ∧ Below w4.heap.size w4 wj) (fun jv _ => i - (intOf jv).toNat)
      case atStart => exact ⟨0, Nat.zero_le _, rfl, hnx⟩
      case round =>
        obtain ⟨j, hj, rfl, hnj⟩ := hrel
        by_cases hjl : j < i
        · obtain ⟨a, b, ab, bl, a2, b2, ca, cb, hq⟩ := on_pair HT.out hjl (by rw [HM.out]; exact hlt)
          obtain ⟨g3, e3, hg3, hg3', x3⟩ := HC3.out i (by rw [HCm.out]; exact hlt)
          obtain ⟨g3b, e3b, _, _, y3⟩ := HC3.out j (by rw [HCm.out]; omega)
          obtain ⟨g4, e4, hg4, hg4', x4⟩ := HC4.out i (by rw [HEm.out]; exact hlt)
          obtain ⟨g4b, e4b, _, _, y4⟩ := HC4.out j (by rw [HEm.out]; omega)
          subst e3 e4
          obtain rfl : g3 = g3b := by injection e3b with e; injection e
          obtain rfl : g4 = g4b := by injection e4b with e; injection e
          clear e3b e4b
          have hj0 : (0 : Int) ≤ (j : Int) := by omega
          have hj1 : (j : Int) < (m : Int) := by omega
          have X3 : Hid (∀ W, Below w4.heap.size w4 W → W.cell? ⟨g3, i, none⟩ = some (.int .i64 (b : Int)) ∧ W.cell? ⟨g3, j, none⟩ = some (.int .i64 (a : Int))) := Lib.hid (fun W h => by
            rw [h.cell (show g3 < w4.heap.size by omega), h.cell (show g3 < w4.heap.size by omega), hb14'.out ⟨g3, i, none⟩ hg3', hb14'.out ⟨g3, j, none⟩ hg3', x3, y3]
            exact ⟨congrArg (fun z => some (Value.int .i64 z)) cb, congrArg (fun z => some (Value.int .i64 z)) ca⟩)
          have X4 : Hid (∀ W, Below w4.heap.size w4 W → W.cell? ⟨g4, i, none⟩ = some (.int .i64 (eAt l0 i)) ∧ W.cell? ⟨g4, j, none⟩ = some (.int .i64 (eAt l0 j))) := Lib.hid (fun W h => by
            rw [h.cell (show g4 < w4.heap.size by omega), h.cell (show g4 < w4.heap.size by omega), x4, y4]
            exact ⟨rfl, rfl⟩)
          have HP := Lib.hid hq
          have HAB := Lib.hid (before_back l0 (Nat.le_of_lt ab))
          have hrj := Kd.C_below HR4.out hnj
          have HRJ := Lib.hid hrj
          have HNJ := Lib.hid hnj
          obtain ⟨z3, z3'⟩ := X3.out _ hnj
          clear x3 y3 x4 y4 hq ca cb hrj a2 b2
          cases hbb : beforeB l0 a b
          · have HBB := Lib.hid hbb
            clear hbb
            go_wp2_with fail
            go_region_held3 (fun w' => w'.cell? ⟨g3, i, none⟩ = some (.int .i64 (b : Int)) ∧ w'.cell? ⟨g3, j, none⟩ = some (.int .i64 (a : Int)))
              (first | go_keep | (go_split_ands; exact ⟨(hbA.cell (World.block_lt_of_cell? _ _ (by assumption))).trans (by assumption), (hbA.cell (World.block_lt_of_cell? _ _ (by assumption))).trans (by assumption)⟩) | (go_split_ands; exact ⟨(hbB.cell (World.block_lt_of_cell? _ _ (by assumption))).trans (by assumption), (hbB.cell (World.block_lt_of_cell? _ _ (by assumption))).trans (by assumption)⟩))
              (first
                | (go_at_call 16; have hCA_ := hCA; refine (Rows2.before_calls HF.out _ _ a b false _ (by repeat (first | exact hCA | (with_reducible refine Kd.C_drew ?_) | (with_reducible refine Kd.C_drewN ?_ _))) hc0 HBB.out).mono ?_; rintro e wB ⟨rfl, hbB⟩)
                | (go_at_call 16; refine (Rows2.before_calls HF.out _ _ b a false _ (by repeat (first | exact HRJ.out | (with_reducible refine Kd.C_drew ?_) | (with_reducible refine Kd.C_drewN ?_ _))) hc0 HAB.out).mono ?_; rintro e wA ⟨rfl, hbA⟩; have hCA := Kd.C_below (by repeat (first | exact HRJ.out | (with_reducible refine Kd.C_drew ?_) | (with_reducible refine Kd.C_drewN ?_ _))) hbA))
            have hbAll : Below w4.heap.size w4 wB := below_step (below_step (below_drew1 HNJ.out) hbA) hbB
            have HRB := Lib.hid (Kd.C_below HR4.out hbAll)
            obtain ⟨y3, y3'⟩ := X3.out _ hbAll
            obtain ⟨y4, y4'⟩ := X4.out _ hbAll
            obtain ⟨hml, hqj, hqi⟩ := HP.out HBB.out
            have HML := Lib.hid (Rows2.most_f HF.out)
            generalize mostTo l0 l0.length = ml at *
            have hml2 : decide (ml < 2) = false := decide_eq_false (by omega)
            clear z3 z3'
            go_wp2_with fail
            rcases hqj with hqj | ⟨q, hqj, hqb⟩
            · obtain ⟨zj, hzj⟩ : ∃ z, eAt l0 j = z := ⟨_, rfl⟩
              rw [hzj] at y4' hqj
              have hj2 : decide (0 ≤ zj) = false := decide_eq_false (by omega)
              clear hqj hzj
              rcases hqi with hqi | ⟨r, hqi, hra⟩
              · obtain ⟨zi, hzi⟩ : ∃ z, eAt l0 i = z := ⟨_, rfl⟩
                rw [hzi] at y4 hqi
                have hi2 : decide (0 ≤ zi) = false := decide_eq_false (by omega)
                clear hqi hzi
                refine wp_region_held_drew (S := (fun w' => (w'.cell? ⟨g3, i, none⟩ = some (.int .i64 (b : Int)) ∧ w'.cell? ⟨g3, j, none⟩ = some (.int .i64 (a : Int))) ∧ w'.cell? ⟨g4, i, none⟩ = some (.int .i64 zi) ∧ w'.cell? ⟨g4, j, none⟩ = some (.int .i64 zj))) (by kernel_rfl) ?_ (fun hHeld => ?_)
                · (try dsimp only); (first | go_keep | (go_split_ands; exact ⟨⟨(hbC.cell (World.block_lt_of_cell? _ _ (by assumption))).trans (by assumption), (hbC.cell (World.block_lt_of_cell? _ _ (by assumption))).trans (by assumption)⟩, (hbC.cell (World.block_lt_of_cell? _ _ (by assumption))).trans (by assumption), (hbC.cell (World.block_lt_of_cell? _ _ (by assumption))).trans (by assumption)⟩))
                refine wpAnyH_take (i := 0) (oi := { dst := some 63, op := Go.Op.move (Go.Operand.tmp 7), type := 26, pos := "law.go:84", after := #[], guard := none }) (v := ?_) rfl (by kernel_rfl) (by kernel_rfl) (by kernel_rfl) (fun _ _ _ h => h) (Or.inl ⟨by rfl, ?_⟩) (by assumption) ?_
                rotate_left
                · (intro w hSw; (try dsimp only at hSw); go_simp); try with_reducible rfl
                try simp only [Act.put, List.setIfInBounds_toArray, List.set_cons_zero, List.set_cons_succ]
                refine wpAnyH_take (i := 1) (oi := { dst := some 64, op := Go.Op.move (Go.Operand.tmp 9), type := 3, pos := "law.go:84", after := #[], guard := none }) (v := ?_) rfl (by kernel_rfl) (by kernel_rfl) (by kernel_rfl) (fun _ _ _ h => h) (Or.inl ⟨by rfl, ?_⟩) (by assumption) ?_
                rotate_left
                · (intro w hSw; (try dsimp only at hSw); go_simp); try with_reducible rfl
                try simp only [Act.put, List.setIfInBounds_toArray, List.set_cons_zero, List.set_cons_succ]
                refine wpAnyH_take (i := 2) (oi := { dst := some 65, op := Go.Op.indexAddr 26 (Go.Operand.tmp 63) (Go.Operand.tmp 64), type := 0, pos := "law.go:84", after := #[{ on := 0, ground := Go.Ground.data }, { on := 1, ground := Go.Ground.data }], guard := none }) (v := ?_) rfl (by kernel_rfl) (by kernel_rfl) (by kernel_rfl) (fun _ _ _ h => h) (Or.inl ⟨by rfl, ?_⟩) (by assumption) ?_
                rotate_left
                · (intro w hSw; (try dsimp only at hSw); go_simp); try with_reducible rfl
                try simp only [Act.put, List.setIfInBounds_toArray, List.set_cons_zero, List.set_cons_succ]
                refine wpAnyH_take (i := 3) (oi := { dst := some 66, op := Go.Op.load 3 (Go.Operand.tmp 65), type := 3, pos := "law.go:84", after := #[{ on := 2, ground := Go.Ground.data }], guard := none }) (v := ?_) rfl (by kernel_rfl) (by kernel_rfl) (by kernel_rfl) (fun _ _ _ h => h) (Or.inl ⟨by rfl, ?_⟩) (by assumption) ?_
                rotate_left
                · (intro w hSw; (try dsimp only at hSw); go_simp); try with_reducible rfl
                try simp only [Act.put, List.setIfInBounds_toArray, List.set_cons_zero, List.set_cons_succ]
                refine wpAnyH_take (i := 4) (oi := { dst := some 67, op := Go.Op.binOp Go.BinOp.geq 3 (Go.Operand.tmp 66) (Go.Operand.const (Go.Value.int Go.IntKind.i64 0)) 3, type := 4, pos := "law.go:84", after := #[{ on := 3, ground := Go.Ground.data }], guard := none }) (v := ?_) rfl (by kernel_rfl) (by kernel_rfl) (by kernel_rfl) (fun _ _ _ h => h) (Or.inl ⟨by rfl, ?_⟩) (by assumption) ?_
                rotate_left
                · (intro w hSw; (try dsimp only at hSw); go_simp); try with_reducible rfl
                try simp only [Act.put, List.setIfInBounds_toArray, List.set_cons_zero, List.set_cons_succ]
                refine wpAnyH_take (i := 5) (oi := { dst := some 68, op := Go.Op.move (Go.Operand.tmp 67), type := 4, pos := "law.go:84", after := #[{ on := 4, ground := Go.Ground.data }], guard := none }) (v := ?_) rfl (by kernel_rfl) (by kernel_rfl) (by kernel_rfl) (fun _ _ _ h => h) (Or.inl ⟨by rfl, ?_⟩) (by assumption) ?_
                rotate_left
                · (intro w hSw; (try dsimp only at hSw); go_simp); try with_reducible rfl
                try simp only [Act.put, List.setIfInBounds_toArray, List.set_cons_zero, List.set_cons_succ]
                refine wpAnyH_take (i := 6) (oi := { dst := some 69, op := Go.Op.move (Go.Operand.tmp 7), type := 26, pos := "law.go:84", after := #[{ on := 5, ground := Go.Ground.guard }], guard := some (5, true) }) (v := undef) rfl (by kernel_rfl) (by kernel_rfl) (by kernel_rfl) (fun _ _ _ h => h) (Or.inr ⟨by rfl, rfl⟩) (by assumption) ?_
                try simp only [Act.put, List.setIfInBounds_toArray, List.set_cons_zero, List.set_cons_succ]
                refine wpAnyH_take (i := 7) (oi := { dst := some 70, op := Go.Op.move (Go.Operand.tmp 9), type := 3, pos := "law.go:84", after := #[{ on := 5, ground := Go.Ground.guard }], guard := some (5, true) }) (v := undef) rfl (by kernel_rfl) (by kernel_rfl) (by kernel_rfl) (fun _ _ _ h => h) (Or.inr ⟨by rfl, rfl⟩) (by assumption) ?_
                try simp only [Act.put, List.setIfInBounds_toArray, List.set_cons_zero, List.set_cons_succ]
                refine wpAnyH_take (i := 8) (oi := { dst := some 71, op := Go.Op.indexAddr 26 (Go.Operand.tmp 69) (Go.Operand.tmp 70), type := 0, pos := "law.go:84", after := #[{ on := 6, ground := Go.Ground.data }, { on := 7, ground := Go.Ground.data }, { on := 5, ground := Go.Ground.guard }], guard := some (5, true) }) (v := undef) rfl (by kernel_rfl) (by kernel_rfl) (by kernel_rfl) (fun _ _ _ h => h) (Or.inr ⟨by rfl, rfl⟩) (by assumption) ?_
                try simp only [Act.put, List.setIfInBounds_toArray, List.set_cons_zero, List.set_cons_succ]
                refine wpAnyH_take (i := 9) (oi := { dst := some 72, op := Go.Op.load 3 (Go.Operand.tmp 71), type := 3, pos := "law.go:84", after := #[{ on := 8, ground := Go.Ground.data }, { on := 5, ground := Go.Ground.guard }], guard := some (5, true) }) (v := undef) rfl (by kernel_rfl) (by kernel_rfl) (by kernel_rfl) (fun _ _ _ h => h) (Or.inr ⟨by rfl, rfl⟩) (by assumption) ?_
                try simp only [Act.put, List.setIfInBounds_toArray, List.set_cons_zero, List.set_cons_succ]
                refine wpAnyH_take (i := 10) (oi := { dst := some 73, op := Go.Op.move (Go.Operand.tmp 6), type := 26, pos := "law.go:84", after := #[{ on := 5, ground := Go.Ground.guard }], guard := some (5, true) }) (v := undef) rfl (by kernel_rfl) (by kernel_rfl) (by kernel_rfl) (fun _ _ _ h => h) (Or.inr ⟨by rfl, rfl⟩) (by assumption) ?_
                try simp only [Act.put, List.setIfInBounds_toArray, List.set_cons_zero, List.set_cons_succ]
                refine wpAnyH_take (i := 11) (oi := { dst := some 74, op := Go.Op.move (Go.Operand.tmp 8), type := 3, pos := "law.go:84", after := #[{ on := 5, ground := Go.Ground.guard }], guard := some (5, true) }) (v := undef) rfl (by kernel_rfl) (by kernel_rfl) (by kernel_rfl) (fun _ _ _ h => h) (Or.inr ⟨by rfl, rfl⟩) (by assumption) ?_
                try simp only [Act.put, List.setIfInBounds_toArray, List.set_cons_zero, List.set_cons_succ]
                refine wpAnyH_take (i := 12) (oi := { dst := some 75, op := Go.Op.indexAddr 26 (Go.Operand.tmp 73) (Go.Operand.tmp 74), type := 0, pos := "law.go:84", after := #[{ on := 10, ground := Go.Ground.data }, { on := 11, ground := Go.Ground.data }, { on := 5, ground := Go.Ground.guard }], guard := some (5, true) }) (v := undef) rfl (by kernel_rfl) (by kernel_rfl) (by kernel_rfl) (fun _ _ _ h => h) (Or.inr ⟨by rfl, rfl⟩) (by assumption) ?_
                try simp only [Act.put, List.setIfInBounds_toArray, List.set_cons_zero, List.set_cons_succ]
                refine wpAnyH_take (i := 13) (oi := { dst := some 76, op := Go.Op.load 3 (Go.Operand.tmp 75), type := 3, pos := "law.go:84", after := #[{ on := 12, ground := Go.Ground.data }, { on := 5, ground := Go.Ground.guard }], guard := some (5, true) }) (v := undef) rfl (by kernel_rfl) (by kernel_rfl) (by kernel_rfl) (fun _ _ _ h => h) (Or.inr ⟨by rfl, rfl⟩) (by assumption) ?_
                try simp only [Act.put, List.setIfInBounds_toArray, List.set_cons_zero, List.set_cons_succ]
                refine wpAnyH_take (i := 14) (oi := { dst := some 77, op := Go.Op.binOp Go.BinOp.lss 3 (Go.Operand.tmp 72) (Go.Operand.tmp 76) 3, type := 4, pos := "law.go:84", after := #[{ on := 9, ground := Go.Ground.data }, { on := 13, ground := Go.Ground.data }, { on := 5, ground := Go.Ground.guard }], guard := some (5, true) }) (v := undef) rfl (by kernel_rfl) (by kernel_rfl) (by kernel_rfl) (fun _ _ _ h => h) (Or.inr ⟨by rfl, rfl⟩) (by assumption) ?_
                try simp only [Act.put, List.setIfInBounds_toArray, List.set_cons_zero, List.set_cons_succ]
                refine wpAnyH_take (i := 15) (oi := { dst := some 78, op := Go.Op.pick (Go.Operand.tmp 68) (Go.Operand.tmp 77) (Go.Operand.const (Go.Value.bool false)), type := 4, pos := "law.go:84", after := #[{ on := 5, ground := Go.Ground.data }, { on := 14, ground := Go.Ground.data }], guard := none }) (v := ?_) rfl (by kernel_rfl) (by kernel_rfl) (by kernel_rfl) (fun _ _ _ h => h) (Or.inl ⟨by rfl, ?_⟩) (by assumption) ?_
                rotate_left
                · (intro w hSw; (try dsimp only at hSw); go_simp); try with_reducible rfl
                try simp only [Act.put, List.setIfInBounds_toArray, List.set_cons_zero, List.set_cons_succ]
                refine wpAnyH_take (i := 16) (oi := { dst := some 79, op := Go.Op.move (Go.Operand.tmp 78), type := 4, pos := "law.go:84", after := #[{ on := 15, ground := Go.Ground.data }, { on := 5, ground := Go.Ground.chain }], guard := none }) (v := ?_) rfl (by kernel_rfl) (by kernel_rfl) (by kernel_rfl) (fun _ _ _ h => h) (Or.inl ⟨by rfl, ?_⟩) (by assumption) ?_
                rotate_left
                · (intro w hSw; (try dsimp only at hSw); go_simp); try with_reducible rfl
                try simp only [Act.put, List.setIfInBounds_toArray, List.set_cons_zero, List.set_cons_succ]
                refine wpAnyH_take (i := 17) (oi := { dst := some 80, op := Go.Op.move (Go.Operand.tmp 7), type := 26, pos := "law.go:84", after := #[{ on := 16, ground := Go.Ground.guard }], guard := some (16, false) }) (v := ?_) rfl (by kernel_rfl) (by kernel_rfl) (by kernel_rfl) (fun _ _ _ h => h) (Or.inl ⟨by rfl, ?_⟩) (by assumption) ?_
                rotate_left
                · (intro w hSw; (try dsimp only at hSw); go_simp); try with_reducible rfl
                try simp only [Act.put, List.setIfInBounds_toArray, List.set_cons_zero, List.set_cons_succ]
                refine wpAnyH_take (i := 18) (oi := { dst := some 81, op := Go.Op.move (Go.Operand.tmp 8), type := 3, pos := "law.go:84", after := #[{ on := 16, ground := Go.Ground.guard }], guard := some (16, false) }) (v := ?_) rfl (by kernel_rfl) (by kernel_rfl) (by kernel_rfl) (fun _ _ _ h => h) (Or.inl ⟨by rfl, ?_⟩) (by assumption) ?_
                rotate_left
                · (intro w hSw; (try dsimp only at hSw); go_simp); try with_reducible rfl
                try simp only [Act.put, List.setIfInBounds_toArray, List.set_cons_zero, List.set_cons_succ]
                refine wpAnyH_take (i := 19) (oi := { dst := some 82, op := Go.Op.indexAddr 26 (Go.Operand.tmp 80) (Go.Operand.tmp 81), type := 0, pos := "law.go:84", after := #[{ on := 17, ground := Go.Ground.data }, { on := 18, ground := Go.Ground.data }, { on := 16, ground := Go.Ground.guard }], guard := some (16, false) }) (v := ?_) rfl (by kernel_rfl) (by kernel_rfl) (by kernel_rfl) (fun _ _ _ h => h) (Or.inl ⟨by rfl, ?_⟩) (by assumption) ?_
                rotate_left
                · (intro w hSw; (try dsimp only at hSw); go_simp); try with_reducible rfl
                try simp only [Act.put, List.setIfInBounds_toArray, List.set_cons_zero, List.set_cons_succ]
                refine wpAnyH_take (i := 20) (oi := { dst := some 83, op := Go.Op.load 3 (Go.Operand.tmp 82), type := 3, pos := "law.go:84", after := #[{ on := 19, ground := Go.Ground.data }, { on := 16, ground := Go.Ground.guard }], guard := some (16, false) }) (v := ?_) rfl (by kernel_rfl) (by kernel_rfl) (by kernel_rfl) (fun _ _ _ h => h) (Or.inl ⟨by rfl, ?_⟩) (by assumption) ?_
                rotate_left
                · (intro w hSw; (try dsimp only at hSw); go_simp); try with_reducible rfl
                try simp only [Act.put, List.setIfInBounds_toArray, List.set_cons_zero, List.set_cons_succ]
                refine wpAnyH_take (i := 21) (oi := { dst := some 84, op := Go.Op.binOp Go.BinOp.geq 3 (Go.Operand.tmp 83) (Go.Operand.const (Go.Value.int Go.IntKind.i64 0)) 3, type := 4, pos := "law.go:84", after := #[{ on := 20, ground := Go.Ground.data }, { on := 16, ground := Go.Ground.guard }], guard := some (16, false) }) (v := ?_) rfl (by kernel_rfl) (by kernel_rfl) (by kernel_rfl) (fun _ _ _ h => h) (Or.inl ⟨by rfl, ?_⟩) (by assumption) ?_
                rotate_left
                · (intro w hSw; (try dsimp only at hSw); go_simp); try with_reducible rfl
                try simp only [Act.put, List.setIfInBounds_toArray, List.set_cons_zero, List.set_cons_succ]
                refine wpAnyH_take (i := 22) (oi := { dst := some 85, op := Go.Op.move (Go.Operand.tmp 84), type := 4, pos := "law.go:84", after := #[{ on := 21, ground := Go.Ground.data }, { on := 16, ground := Go.Ground.chain }, { on := 16, ground := Go.Ground.guard }], guard := some (16, false) }) (v := ?_) rfl (by kernel_rfl) (by kernel_rfl) (by kernel_rfl) (fun _ _ _ h => h) (Or.inl ⟨by rfl, ?_⟩) (by assumption) ?_
                rotate_left
                · (intro w hSw; (try dsimp only at hSw); go_simp); try with_reducible rfl
                try simp only [Act.put, List.setIfInBounds_toArray, List.set_cons_zero, List.set_cons_succ]
                refine wpAnyH_take (i := 23) (oi := { dst := some 86, op := Go.Op.move (Go.Operand.tmp 7), type := 26, pos := "law.go:84", after := #[{ on := 22, ground := Go.Ground.guard }], guard := some (22, true) }) (v := undef) rfl (by kernel_rfl) (by kernel_rfl) (by kernel_rfl) (fun _ _ _ h => h) (Or.inr ⟨by rfl, rfl⟩) (by assumption) ?_
                try simp only [Act.put, List.setIfInBounds_toArray, List.set_cons_zero, List.set_cons_succ]
                refine wpAnyH_take (i := 24) (oi := { dst := some 87, op := Go.Op.move (Go.Operand.tmp 8), type := 3, pos := "law.go:84", after := #[{ on := 22, ground := Go.Ground.guard }], guard := some (22, true) }) (v := undef) rfl (by kernel_rfl) (by kernel_rfl) (by kernel_rfl) (fun _ _ _ h => h) (Or.inr ⟨by rfl, rfl⟩) (by assumption) ?_
                try simp only [Act.put, List.setIfInBounds_toArray, List.set_cons_zero, List.set_cons_succ]
                refine wpAnyH_take (i := 25) (oi := { dst := some 88, op := Go.Op.indexAddr 26 (Go.Operand.tmp 86) (Go.Operand.tmp 87), type := 0, pos := "law.go:84", after := #[{ on := 23, ground := Go.Ground.data }, { on := 24, ground := Go.Ground.data }, { on := 22, ground := Go.Ground.guard }], guard := some (22, true) }) (v := undef) rfl (by kernel_rfl) (by kernel_rfl) (by kernel_rfl) (fun _ _ _ h => h) (Or.inr ⟨by rfl, rfl⟩) (by assumption) ?_
                try simp only [Act.put, List.setIfInBounds_toArray, List.set_cons_zero, List.set_cons_succ]
                refine wpAnyH_take (i := 26) (oi := { dst := some 89, op := Go.Op.load 3 (Go.Operand.tmp 88), type := 3, pos := "law.go:84", after := #[{ on := 25, ground := Go.Ground.data }, { on := 22, ground := Go.Ground.guard }], guard := some (22, true) }) (v := undef) rfl (by kernel_rfl) (by kernel_rfl) (by kernel_rfl) (fun _ _ _ h => h) (Or.inr ⟨by rfl, rfl⟩) (by assumption) ?_
                try simp only [Act.put, List.setIfInBounds_toArray, List.set_cons_zero, List.set_cons_succ]
                refine wpAnyH_take (i := 27) (oi := { dst := some 90, op := Go.Op.move (Go.Operand.tmp 6), type := 26, pos := "law.go:84", after := #[{ on := 22, ground := Go.Ground.guard }], guard := some (22, true) }) (v := undef) rfl (by kernel_rfl) (by kernel_rfl) (by kernel_rfl) (fun _ _ _ h => h) (Or.inr ⟨by rfl, rfl⟩) (by assumption) ?_
                try simp only [Act.put, List.setIfInBounds_toArray, List.set_cons_zero, List.set_cons_succ]
                refine wpAnyH_take (i := 28) (oi := { dst := some 91, op := Go.Op.move (Go.Operand.tmp 9), type := 3, pos := "law.go:84", after := #[{ on := 22, ground := Go.Ground.guard }], guard := some (22, true) }) (v := undef) rfl (by kernel_rfl) (by kernel_rfl) (by kernel_rfl) (fun _ _ _ h => h) (Or.inr ⟨by rfl, rfl⟩) (by assumption) ?_
                try simp only [Act.put, List.setIfInBounds_toArray, List.set_cons_zero, List.set_cons_succ]
                refine wpAnyH_take (i := 29) (oi := { dst := some 92, op := Go.Op.indexAddr 26 (Go.Operand.tmp 90) (Go.Operand.tmp 91), type := 0, pos := "law.go:84", after := #[{ on := 27, ground := Go.Ground.data }, { on := 28, ground := Go.Ground.data }, { on := 22, ground := Go.Ground.guard }], guard := some (22, true) }) (v := undef) rfl (by kernel_rfl) (by kernel_rfl) (by kernel_rfl) (fun _ _ _ h => h) (Or.inr ⟨by rfl, rfl⟩) (by assumption) ?_
                try simp only [Act.put, List.setIfInBounds_toArray, List.set_cons_zero, List.set_cons_succ]
                refine wpAnyH_take (i := 30) (oi := { dst := some 93, op := Go.Op.load 3 (Go.Operand.tmp 92), type := 3, pos := "law.go:84", after := #[{ on := 29, ground := Go.Ground.data }, { on := 22, ground := Go.Ground.guard }], guard := some (22, true) }) (v := undef) rfl (by kernel_rfl) (by kernel_rfl) (by kernel_rfl) (fun _ _ _ h => h) (Or.inr ⟨by rfl, rfl⟩) (by assumption) ?_
                try simp only [Act.put, List.setIfInBounds_toArray, List.set_cons_zero, List.set_cons_succ]
                refine wpAnyH_take (i := 31) (oi := { dst := some 94, op := Go.Op.binOp Go.BinOp.lss 3 (Go.Operand.tmp 89) (Go.Operand.tmp 93) 3, type := 4, pos := "law.go:84", after := #[{ on := 26, ground := Go.Ground.data }, { on := 30, ground := Go.Ground.data }, { on := 22, ground := Go.Ground.guard }], guard := some (22, true) }) (v := undef) rfl (by kernel_rfl) (by kernel_rfl) (by kernel_rfl) (fun _ _ _ h => h) (Or.inr ⟨by rfl, rfl⟩) (by assumption) ?_
                try simp only [Act.put, List.setIfInBounds_toArray, List.set_cons_zero, List.set_cons_succ]
                refine wpAnyH_take (i := 32) (oi := { dst := some 95, op := Go.Op.pick (Go.Operand.tmp 85) (Go.Operand.tmp 94) (Go.Operand.const (Go.Value.bool false)), type := 4, pos := "law.go:84", after := #[{ on := 22, ground := Go.Ground.data }, { on := 31, ground := Go.Ground.data }, { on := 16, ground := Go.Ground.guard }], guard := some (16, false) }) (v := ?_) rfl (by kernel_rfl) (by kernel_rfl) (by kernel_rfl) (fun _ _ _ h => h) (Or.inl ⟨by rfl, ?_⟩) (by assumption) ?_
                rotate_left
                · (intro w hSw; (try dsimp only at hSw); go_simp); try with_reducible rfl
                try simp only [Act.put, List.setIfInBounds_toArray, List.set_cons_zero, List.set_cons_succ]
                refine wpAnyH_take (i := 33) (oi := { dst := some 96, op := Go.Op.pick (Go.Operand.tmp 79) (Go.Operand.const (Go.Value.bool true)) (Go.Operand.tmp 95), type := 4, pos := "law.go:84", after := #[{ on := 16, ground := Go.Ground.data }, { on := 32, ground := Go.Ground.data }], guard := none }) (v := ?_) rfl (by kernel_rfl) (by kernel_rfl) (by kernel_rfl) (fun _ _ _ h => h) (Or.inl ⟨by rfl, ?_⟩) (by assumption) ?_
                rotate_left
                · (intro w hSw; (try dsimp only at hSw); go_simp); try with_reducible rfl
                try simp only [Act.put, List.setIfInBounds_toArray, List.set_cons_zero, List.set_cons_succ]
                refine wpAnyH_take (i := 34) (oi := { dst := some 97, op := Go.Op.move (Go.Operand.tmp 96), type := 4, pos := "law.go:84", after := #[{ on := 33, ground := Go.Ground.data }, { on := 22, ground := Go.Ground.chain }], guard := none }) (v := ?_) rfl (by kernel_rfl) (by kernel_rfl) (by kernel_rfl) (fun _ _ _ h => h) (Or.inl ⟨by rfl, ?_⟩) (by assumption) ?_
                rotate_left
                · (intro w hSw; (try dsimp only at hSw); go_simp); try with_reducible rfl
                try simp only [Act.put, List.setIfInBounds_toArray, List.set_cons_zero, List.set_cons_succ]
                refine wpAnyH_take (i := 35) (oi := { dst := some 98, op := Go.Op.move (Go.Operand.tmp 0), type := 22, pos := "law.go:84", after := #[{ on := 34, ground := Go.Ground.guard }], guard := some (34, false) }) (v := ?_) rfl (by kernel_rfl) (by kernel_rfl) (by kernel_rfl) (fun _ _ _ h => h) (Or.inl ⟨by rfl, ?_⟩) (by assumption) ?_
                rotate_left
                · (intro w hSw; (try dsimp only at hSw); go_simp); try with_reducible rfl
                try simp only [Act.put, List.setIfInBounds_toArray, List.set_cons_zero, List.set_cons_succ]
                refine wpAnyH_ready (rs := [36]) (by kernel_rfl) (by simp) ?_
                refine AllReadyH.cons (o := { dst := some 99, op := Go.Op.call { callee := Go.Callee.value (Go.Operand.func 18), args := #[Go.Operand.tmp 98], argTypes := #[22] }, type := 3, pos := "law.go:84", after := #[{ on := 35, ground := Go.Ground.data }, { on := 34, ground := Go.Ground.chain }, { on := 34, ground := Go.Ground.guard }], guard := some (34, false) }) rfl (fun K hK => ?_) AllReadyH.nil
                go_simp
                (go_at_call 18; refine (trace_Most.calls _ _ l0 ml _ (by repeat (first | exact HRB.out | (with_reducible refine Kd.C_drew ?_) | (with_reducible refine Kd.C_drewN ?_ _))) hc0 HML.out).mono ?_; rintro e wC ⟨rfl, hbC⟩)
                try go_wp2_with fail
                refine hK.out _ _ ?_ (fun hHeld36 => ?_)
                · (try dsimp only); (first | go_keep | (go_split_ands; exact ⟨⟨(hbC.cell (World.block_lt_of_cell? _ _ (by assumption))).trans (by assumption), (hbC.cell (World.block_lt_of_cell? _ _ (by assumption))).trans (by assumption)⟩, (hbC.cell (World.block_lt_of_cell? _ _ (by assumption))).trans (by assumption), (hbC.cell (World.block_lt_of_cell? _ _ (by assumption))).trans (by assumption)⟩))
                clear hK K hHeld
                have hHeld := hHeld36
                clear hHeld36
                try simp only [Act.put, List.setIfInBounds_toArray, List.set_cons_zero, List.set_cons_succ]
                refine wpAnyH_take (i := 37) (oi := { dst := some 100, op := Go.Op.binOp Go.BinOp.lss 3 (Go.Operand.tmp 99) (Go.Operand.const (Go.Value.int Go.IntKind.i64 2)) 3, type := 4, pos := "law.go:84", after := #[{ on := 36, ground := Go.Ground.data }, { on := 34, ground := Go.Ground.guard }], guard := some (34, false) }) (v := ?_) rfl (by kernel_rfl) (by kernel_rfl) (by kernel_rfl) (fun _ _ _ h => h) (Or.inl ⟨by rfl, ?_⟩) (by assumption) ?_
                rotate_left
                · (intro w hSw; (try dsimp only at hSw); go_simp); try with_reducible rfl
                try simp only [Act.put, List.setIfInBounds_toArray, List.set_cons_zero, List.set_cons_succ]
                refine wpAnyH_take (i := 38) (oi := { dst := some 101, op := Go.Op.pick (Go.Operand.tmp 97) (Go.Operand.const (Go.Value.bool true)) (Go.Operand.tmp 100), type := 4, pos := "law.go:84", after := #[{ on := 34, ground := Go.Ground.data }, { on := 37, ground := Go.Ground.data }], guard := none }) (v := ?_) rfl (by kernel_rfl) (by kernel_rfl) (by kernel_rfl) (fun _ _ _ h => h) (Or.inl ⟨by rfl, ?_⟩) (by assumption) ?_
                rotate_left
                · (intro w hSw; (try dsimp only at hSw); go_simp); try with_reducible rfl
                try simp only [Act.put, List.setIfInBounds_toArray, List.set_cons_zero, List.set_cons_succ]
                refine wpAnyH_done (by kernel_rfl) ?_ _
                have hbAll2 : Below w4.heap.size w4 wC := below_step (below_drew1 hbAll) hbC
                go_wp2_with fail
                go_roundw
                case rel => exact ⟨j + 1, by omega, by go_num, hbAll2⟩
                case measure => simp [intOf]; omega
              · rw [hqi] at y4
                have hi2 : decide ((r : Int) < (a : Int)) = false := decide_eq_false (by omega)
                have hi3 : decide (r < a) = false := decide_eq_false (by omega)
                have hi4 : (0 : Int) ≤ (r : Int) := by omega
                clear hqi
                refine wp_region_held_drew (S := (fun w' => (w'.cell? ⟨g3, i, none⟩ = some (.int .i64 (b : Int)) ∧ w'.cell? ⟨g3, j, none⟩ = some (.int .i64 (a : Int))) ∧ w'.cell? ⟨g4, i, none⟩ = some (.int .i64 (r : Int)) ∧ w'.cell? ⟨g4, j, none⟩ = some (.int .i64 zj))) (by kernel_rfl) ?_ (fun hHeld => ?_)
                · (try dsimp only); (first | go_keep | (go_split_ands; exact ⟨⟨(hbC.cell (World.block_lt_of_cell? _ _ (by assumption))).trans (by assumption), (hbC.cell (World.block_lt_of_cell? _ _ (by assumption))).trans (by assumption)⟩, (hbC.cell (World.block_lt_of_cell? _ _ (by assumption))).trans (by assumption), (hbC.cell (World.block_lt_of_cell? _ _ (by assumption))).trans (by assumption)⟩))
                refine wpAnyH_take (i := 0) (oi := { dst := some 63, op := Go.Op.move (Go.Operand.tmp 7), type := 26, pos := "law.go:84", after := #[], guard := none }) (v := ?_) rfl (by kernel_rfl) (by kernel_rfl) (by kernel_rfl) (fun _ _ _ h => h) (Or.inl ⟨by rfl, ?_⟩) (by assumption) ?_
                rotate_left
                · (intro w hSw; (try dsimp only at hSw); go_simp); try with_reducible rfl
                try simp only [Act.put, List.setIfInBounds_toArray, List.set_cons_zero, List.set_cons_succ]
                refine wpAnyH_take (i := 1) (oi := { dst := some 64, op := Go.Op.move (Go.Operand.tmp 9), type := 3, pos := "law.go:84", after := #[], guard := none }) (v := ?_) rfl (by kernel_rfl) (by kernel_rfl) (by kernel_rfl) (fun _ _ _ h => h) (Or.inl ⟨by rfl, ?_⟩) (by assumption) ?_
                rotate_left
                · (intro w hSw; (try dsimp only at hSw); go_simp); try with_reducible rfl
                try simp only [Act.put, List.setIfInBounds_toArray, List.set_cons_zero, List.set_cons_succ]
                refine wpAnyH_take (i := 2) (oi := { dst := some 65, op := Go.Op.indexAddr 26 (Go.Operand.tmp 63) (Go.Operand.tmp 64), type := 0, pos := "law.go:84", after := #[{ on := 0, ground := Go.Ground.data }, { on := 1, ground := Go.Ground.data }], guard := none }) (v := ?_) rfl (by kernel_rfl) (by kernel_rfl) (by kernel_rfl) (fun _ _ _ h => h) (Or.inl ⟨by rfl, ?_⟩) (by assumption) ?_
                rotate_left
                · (intro w hSw; (try dsimp only at hSw); go_simp); try with_reducible rfl
                try simp only [Act.put, List.setIfInBounds_toArray, List.set_cons_zero, List.set_cons_succ]
                refine wpAnyH_take (i := 3) (oi := { dst := some 66, op := Go.Op.load 3 (Go.Operand.tmp 65), type := 3, pos := "law.go:84", after := #[{ on := 2, ground := Go.Ground.data }], guard := none }) (v := ?_) rfl (by kernel_rfl) (by kernel_rfl) (by kernel_rfl) (fun _ _ _ h => h) (Or.inl ⟨by rfl, ?_⟩) (by assumption) ?_
                rotate_left
                · (intro w hSw; (try dsimp only at hSw); go_simp); try with_reducible rfl
                try simp only [Act.put, List.setIfInBounds_toArray, List.set_cons_zero, List.set_cons_succ]
                refine wpAnyH_take (i := 4) (oi := { dst := some 67, op := Go.Op.binOp Go.BinOp.geq 3 (Go.Operand.tmp 66) (Go.Operand.const (Go.Value.int Go.IntKind.i64 0)) 3, type := 4, pos := "law.go:84", after := #[{ on := 3, ground := Go.Ground.data }], guard := none }) (v := ?_) rfl (by kernel_rfl) (by kernel_rfl) (by kernel_rfl) (fun _ _ _ h => h) (Or.inl ⟨by rfl, ?_⟩) (by assumption) ?_
                rotate_left
                · (intro w hSw; (try dsimp only at hSw); go_simp); try with_reducible rfl
                try simp only [Act.put, List.setIfInBounds_toArray, List.set_cons_zero, List.set_cons_succ]
                refine wpAnyH_take (i := 5) (oi := { dst := some 68, op := Go.Op.move (Go.Operand.tmp 67), type := 4, pos := "law.go:84", after := #[{ on := 4, ground := Go.Ground.data }], guard := none }) (v := ?_) rfl (by kernel_rfl) (by kernel_rfl) (by kernel_rfl) (fun _ _ _ h => h) (Or.inl ⟨by rfl, ?_⟩) (by assumption) ?_
                rotate_left
                · (intro w hSw; (try dsimp only at hSw); go_simp); try with_reducible rfl
                try simp only [Act.put, List.setIfInBounds_toArray, List.set_cons_zero, List.set_cons_succ]
                refine wpAnyH_take (i := 6) (oi := { dst := some 69, op := Go.Op.move (Go.Operand.tmp 7), type := 26, pos := "law.go:84", after := #[{ on := 5, ground := Go.Ground.guard }], guard := some (5, true) }) (v := undef) rfl (by kernel_rfl) (by kernel_rfl) (by kernel_rfl) (fun _ _ _ h => h) (Or.inr ⟨by rfl, rfl⟩) (by assumption) ?_
                try simp only [Act.put, List.setIfInBounds_toArray, List.set_cons_zero, List.set_cons_succ]
                refine wpAnyH_take (i := 7) (oi := { dst := some 70, op := Go.Op.move (Go.Operand.tmp 9), type := 3, pos := "law.go:84", after := #[{ on := 5, ground := Go.Ground.guard }], guard := some (5, true) }) (v := undef) rfl (by kernel_rfl) (by kernel_rfl) (by kernel_rfl) (fun _ _ _ h => h) (Or.inr ⟨by rfl, rfl⟩) (by assumption) ?_
                try simp only [Act.put, List.setIfInBounds_toArray, List.set_cons_zero, List.set_cons_succ]
                refine wpAnyH_take (i := 8) (oi := { dst := some 71, op := Go.Op.indexAddr 26 (Go.Operand.tmp 69) (Go.Operand.tmp 70), type := 0, pos := "law.go:84", after := #[{ on := 6, ground := Go.Ground.data }, { on := 7, ground := Go.Ground.data }, { on := 5, ground := Go.Ground.guard }], guard := some (5, true) }) (v := undef) rfl (by kernel_rfl) (by kernel_rfl) (by kernel_rfl) (fun _ _ _ h => h) (Or.inr ⟨by rfl, rfl⟩) (by assumption) ?_
                try simp only [Act.put, List.setIfInBounds_toArray, List.set_cons_zero, List.set_cons_succ]
                refine wpAnyH_take (i := 9) (oi := { dst := some 72, op := Go.Op.load 3 (Go.Operand.tmp 71), type := 3, pos := "law.go:84", after := #[{ on := 8, ground := Go.Ground.data }, { on := 5, ground := Go.Ground.guard }], guard := some (5, true) }) (v := undef) rfl (by kernel_rfl) (by kernel_rfl) (by kernel_rfl) (fun _ _ _ h => h) (Or.inr ⟨by rfl, rfl⟩) (by assumption) ?_
                try simp only [Act.put, List.setIfInBounds_toArray, List.set_cons_zero, List.set_cons_succ]
                refine wpAnyH_take (i := 10) (oi := { dst := some 73, op := Go.Op.move (Go.Operand.tmp 6), type := 26, pos := "law.go:84", after := #[{ on := 5, ground := Go.Ground.guard }], guard := some (5, true) }) (v := undef) rfl (by kernel_rfl) (by kernel_rfl) (by kernel_rfl) (fun _ _ _ h => h) (Or.inr ⟨by rfl, rfl⟩) (by assumption) ?_
                try simp only [Act.put, List.setIfInBounds_toArray, List.set_cons_zero, List.set_cons_succ]
                refine wpAnyH_take (i := 11) (oi := { dst := some 74, op := Go.Op.move (Go.Operand.tmp 8), type := 3, pos := "law.go:84", after := #[{ on := 5, ground := Go.Ground.guard }], guard := some (5, true) }) (v := undef) rfl (by kernel_rfl) (by kernel_rfl) (by kernel_rfl) (fun _ _ _ h => h) (Or.inr ⟨by rfl, rfl⟩) (by assumption) ?_
                try simp only [Act.put, List.setIfInBounds_toArray, List.set_cons_zero, List.set_cons_succ]
                refine wpAnyH_take (i := 12) (oi := { dst := some 75, op := Go.Op.indexAddr 26 (Go.Operand.tmp 73) (Go.Operand.tmp 74), type := 0, pos := "law.go:84", after := #[{ on := 10, ground := Go.Ground.data }, { on := 11, ground := Go.Ground.data }, { on := 5, ground := Go.Ground.guard }], guard := some (5, true) }) (v := undef) rfl (by kernel_rfl) (by kernel_rfl) (by kernel_rfl) (fun _ _ _ h => h) (Or.inr ⟨by rfl, rfl⟩) (by assumption) ?_
                try simp only [Act.put, List.setIfInBounds_toArray, List.set_cons_zero, List.set_cons_succ]
                refine wpAnyH_take (i := 13) (oi := { dst := some 76, op := Go.Op.load 3 (Go.Operand.tmp 75), type := 3, pos := "law.go:84", after := #[{ on := 12, ground := Go.Ground.data }, { on := 5, ground := Go.Ground.guard }], guard := some (5, true) }) (v := undef) rfl (by kernel_rfl) (by kernel_rfl) (by kernel_rfl) (fun _ _ _ h => h) (Or.inr ⟨by rfl, rfl⟩) (by assumption) ?_
                try simp only [Act.put, List.setIfInBounds_toArray, List.set_cons_zero, List.set_cons_succ]
                refine wpAnyH_take (i := 14) (oi := { dst := some 77, op := Go.Op.binOp Go.BinOp.lss 3 (Go.Operand.tmp 72) (Go.Operand.tmp 76) 3, type := 4, pos := "law.go:84", after := #[{ on := 9, ground := Go.Ground.data }, { on := 13, ground := Go.Ground.data }, { on := 5, ground := Go.Ground.guard }], guard := some (5, true) }) (v := undef) rfl (by kernel_rfl) (by kernel_rfl) (by kernel_rfl) (fun _ _ _ h => h) (Or.inr ⟨by rfl, rfl⟩) (by assumption) ?_
                try simp only [Act.put, List.setIfInBounds_toArray, List.set_cons_zero, List.set_cons_succ]
                refine wpAnyH_take (i := 15) (oi := { dst := some 78, op := Go.Op.pick (Go.Operand.tmp 68) (Go.Operand.tmp 77) (Go.Operand.const (Go.Value.bool false)), type := 4, pos := "law.go:84", after := #[{ on := 5, ground := Go.Ground.data }, { on := 14, ground := Go.Ground.data }], guard := none }) (v := ?_) rfl (by kernel_rfl) (by kernel_rfl) (by kernel_rfl) (fun _ _ _ h => h) (Or.inl ⟨by rfl, ?_⟩) (by assumption) ?_
                rotate_left
                · (intro w hSw; (try dsimp only at hSw); go_simp); try with_reducible rfl
                try simp only [Act.put, List.setIfInBounds_toArray, List.set_cons_zero, List.set_cons_succ]
                refine wpAnyH_take (i := 16) (oi := { dst := some 79, op := Go.Op.move (Go.Operand.tmp 78), type := 4, pos := "law.go:84", after := #[{ on := 15, ground := Go.Ground.data }, { on := 5, ground := Go.Ground.chain }], guard := none }) (v := ?_) rfl (by kernel_rfl) (by kernel_rfl) (by kernel_rfl) (fun _ _ _ h => h) (Or.inl ⟨by rfl, ?_⟩) (by assumption) ?_
                rotate_left
                · (intro w hSw; (try dsimp only at hSw); go_simp); try with_reducible rfl
                try simp only [Act.put, List.setIfInBounds_toArray, List.set_cons_zero, List.set_cons_succ]
                refine wpAnyH_take (i := 17) (oi := { dst := some 80, op := Go.Op.move (Go.Operand.tmp 7), type := 26, pos := "law.go:84", after := #[{ on := 16, ground := Go.Ground.guard }], guard := some (16, false) }) (v := ?_) rfl (by kernel_rfl) (by kernel_rfl) (by kernel_rfl) (fun _ _ _ h => h) (Or.inl ⟨by rfl, ?_⟩) (by assumption) ?_
                rotate_left
                · (intro w hSw; (try dsimp only at hSw); go_simp); try with_reducible rfl
                try simp only [Act.put, List.setIfInBounds_toArray, List.set_cons_zero, List.set_cons_succ]
                refine wpAnyH_take (i := 18) (oi := { dst := some 81, op := Go.Op.move (Go.Operand.tmp 8), type := 3, pos := "law.go:84", after := #[{ on := 16, ground := Go.Ground.guard }], guard := some (16, false) }) (v := ?_) rfl (by kernel_rfl) (by kernel_rfl) (by kernel_rfl) (fun _ _ _ h => h) (Or.inl ⟨by rfl, ?_⟩) (by assumption) ?_
                rotate_left
                · (intro w hSw; (try dsimp only at hSw); go_simp); try with_reducible rfl
                try simp only [Act.put, List.setIfInBounds_toArray, List.set_cons_zero, List.set_cons_succ]
                refine wpAnyH_take (i := 19) (oi := { dst := some 82, op := Go.Op.indexAddr 26 (Go.Operand.tmp 80) (Go.Operand.tmp 81), type := 0, pos := "law.go:84", after := #[{ on := 17, ground := Go.Ground.data }, { on := 18, ground := Go.Ground.data }, { on := 16, ground := Go.Ground.guard }], guard := some (16, false) }) (v := ?_) rfl (by kernel_rfl) (by kernel_rfl) (by kernel_rfl) (fun _ _ _ h => h) (Or.inl ⟨by rfl, ?_⟩) (by assumption) ?_
                rotate_left
                · (intro w hSw; (try dsimp only at hSw); go_simp); try with_reducible rfl
                try simp only [Act.put, List.setIfInBounds_toArray, List.set_cons_zero, List.set_cons_succ]
                refine wpAnyH_take (i := 20) (oi := { dst := some 83, op := Go.Op.load 3 (Go.Operand.tmp 82), type := 3, pos := "law.go:84", after := #[{ on := 19, ground := Go.Ground.data }, { on := 16, ground := Go.Ground.guard }], guard := some (16, false) }) (v := ?_) rfl (by kernel_rfl) (by kernel_rfl) (by kernel_rfl) (fun _ _ _ h => h) (Or.inl ⟨by rfl, ?_⟩) (by assumption) ?_
                rotate_left
                · (intro w hSw; (try dsimp only at hSw); go_simp); try with_reducible rfl
                try simp only [Act.put, List.setIfInBounds_toArray, List.set_cons_zero, List.set_cons_succ]
                refine wpAnyH_take (i := 21) (oi := { dst := some 84, op := Go.Op.binOp Go.BinOp.geq 3 (Go.Operand.tmp 83) (Go.Operand.const (Go.Value.int Go.IntKind.i64 0)) 3, type := 4, pos := "law.go:84", after := #[{ on := 20, ground := Go.Ground.data }, { on := 16, ground := Go.Ground.guard }], guard := some (16, false) }) (v := ?_) rfl (by kernel_rfl) (by kernel_rfl) (by kernel_rfl) (fun _ _ _ h => h) (Or.inl ⟨by rfl, ?_⟩) (by assumption) ?_
                rotate_left
                · (intro w hSw; (try dsimp only at hSw); go_simp); try with_reducible rfl
                try simp only [Act.put, List.setIfInBounds_toArray, List.set_cons_zero, List.set_cons_succ]
                refine wpAnyH_take (i := 22) (oi := { dst := some 85, op := Go.Op.move (Go.Operand.tmp 84), type := 4, pos := "law.go:84", after := #[{ on := 21, ground := Go.Ground.data }, { on := 16, ground := Go.Ground.chain }, { on := 16, ground := Go.Ground.guard }], guard := some (16, false) }) (v := ?_) rfl (by kernel_rfl) (by kernel_rfl) (by kernel_rfl) (fun _ _ _ h => h) (Or.inl ⟨by rfl, ?_⟩) (by assumption) ?_
                rotate_left
                · (intro w hSw; (try dsimp only at hSw); go_simp); try with_reducible rfl
                try simp only [Act.put, List.setIfInBounds_toArray, List.set_cons_zero, List.set_cons_succ]
                refine wpAnyH_take (i := 23) (oi := { dst := some 86, op := Go.Op.move (Go.Operand.tmp 7), type := 26, pos := "law.go:84", after := #[{ on := 22, ground := Go.Ground.guard }], guard := some (22, true) }) (v := ?_) rfl (by kernel_rfl) (by kernel_rfl) (by kernel_rfl) (fun _ _ _ h => h) (Or.inl ⟨by rfl, ?_⟩) (by assumption) ?_
                rotate_left
                · (intro w hSw; (try dsimp only at hSw); go_simp); try with_reducible rfl
                try simp only [Act.put, List.setIfInBounds_toArray, List.set_cons_zero, List.set_cons_succ]
                refine wpAnyH_take (i := 24) (oi := { dst := some 87, op := Go.Op.move (Go.Operand.tmp 8), type := 3, pos := "law.go:84", after := #[{ on := 22, ground := Go.Ground.guard }], guard := some (22, true) }) (v := ?_) rfl (by kernel_rfl) (by kernel_rfl) (by kernel_rfl) (fun _ _ _ h => h) (Or.inl ⟨by rfl, ?_⟩) (by assumption) ?_
                rotate_left
                · (intro w hSw; (try dsimp only at hSw); go_simp); try with_reducible rfl
                try simp only [Act.put, List.setIfInBounds_toArray, List.set_cons_zero, List.set_cons_succ]
                refine wpAnyH_take (i := 25) (oi := { dst := some 88, op := Go.Op.indexAddr 26 (Go.Operand.tmp 86) (Go.Operand.tmp 87), type := 0, pos := "law.go:84", after := #[{ on := 23, ground := Go.Ground.data }, { on := 24, ground := Go.Ground.data }, { on := 22, ground := Go.Ground.guard }], guard := some (22, true) }) (v := ?_) rfl (by kernel_rfl) (by kernel_rfl) (by kernel_rfl) (fun _ _ _ h => h) (Or.inl ⟨by rfl, ?_⟩) (by assumption) ?_
                rotate_left
                · (intro w hSw; (try dsimp only at hSw); go_simp); try with_reducible rfl
                try simp only [Act.put, List.setIfInBounds_toArray, List.set_cons_zero, List.set_cons_succ]
                refine wpAnyH_take (i := 26) (oi := { dst := some 89, op := Go.Op.load 3 (Go.Operand.tmp 88), type := 3, pos := "law.go:84", after := #[{ on := 25, ground := Go.Ground.data }, { on := 22, ground := Go.Ground.guard }], guard := some (22, true) }) (v := ?_) rfl (by kernel_rfl) (by kernel_rfl) (by kernel_rfl) (fun _ _ _ h => h) (Or.inl ⟨by rfl, ?_⟩) (by assumption) ?_
                rotate_left
                · (intro w hSw; (try dsimp only at hSw); go_simp); try with_reducible rfl
                try simp only [Act.put, List.setIfInBounds_toArray, List.set_cons_zero, List.set_cons_succ]
                refine wpAnyH_take (i := 27) (oi := { dst := some 90, op := Go.Op.move (Go.Operand.tmp 6), type := 26, pos := "law.go:84", after := #[{ on := 22, ground := Go.Ground.guard }], guard := some (22, true) }) (v := ?_) rfl (by kernel_rfl) (by kernel_rfl) (by kernel_rfl) (fun _ _ _ h => h) (Or.inl ⟨by rfl, ?_⟩) (by assumption) ?_
                rotate_left
                · (intro w hSw; (try dsimp only at hSw); go_simp); try with_reducible rfl
                try simp only [Act.put, List.setIfInBounds_toArray, List.set_cons_zero, List.set_cons_succ]
                refine wpAnyH_take (i := 28) (oi := { dst := some 91, op := Go.Op.move (Go.Operand.tmp 9), type := 3, pos := "law.go:84", after := #[{ on := 22, ground := Go.Ground.guard }], guard := some (22, true) }) (v := ?_) rfl (by kernel_rfl) (by kernel_rfl) (by kernel_rfl) (fun _ _ _ h => h) (Or.inl ⟨by rfl, ?_⟩) (by assumption) ?_
                rotate_left
                · (intro w hSw; (try dsimp only at hSw); go_simp); try with_reducible rfl
                try simp only [Act.put, List.setIfInBounds_toArray, List.set_cons_zero, List.set_cons_succ]
                refine wpAnyH_take (i := 29) (oi := { dst := some 92, op := Go.Op.indexAddr 26 (Go.Operand.tmp 90) (Go.Operand.tmp 91), type := 0, pos := "law.go:84", after := #[{ on := 27, ground := Go.Ground.data }, { on := 28, ground := Go.Ground.data }, { on := 22, ground := Go.Ground.guard }], guard := some (22, true) }) (v := ?_) rfl (by kernel_rfl) (by kernel_rfl) (by kernel_rfl) (fun _ _ _ h => h) (Or.inl ⟨by rfl, ?_⟩) (by assumption) ?_
                rotate_left
                · (intro w hSw; (try dsimp only at hSw); go_simp); try with_reducible rfl
                try simp only [Act.put, List.setIfInBounds_toArray, List.set_cons_zero, List.set_cons_succ]
                refine wpAnyH_take (i := 30) (oi := { dst := some 93, op := Go.Op.load 3 (Go.Operand.tmp 92), type := 3, pos := "law.go:84", after := #[{ on := 29, ground := Go.Ground.data }, { on := 22, ground := Go.Ground.guard }], guard := some (22, true) }) (v := ?_) rfl (by kernel_rfl) (by kernel_rfl) (by kernel_rfl) (fun _ _ _ h => h) (Or.inl ⟨by rfl, ?_⟩) (by assumption) ?_
                rotate_left
                · (intro w hSw; (try dsimp only at hSw); go_simp); try with_reducible rfl
                try simp only [Act.put, List.setIfInBounds_toArray, List.set_cons_zero, List.set_cons_succ]
                refine wpAnyH_take (i := 31) (oi := { dst := some 94, op := Go.Op.binOp Go.BinOp.lss 3 (Go.Operand.tmp 89) (Go.Operand.tmp 93) 3, type := 4, pos := "law.go:84", after := #[{ on := 26, ground := Go.Ground.data }, { on := 30, ground := Go.Ground.data }, { on := 22, ground := Go.Ground.guard }], guard := some (22, true) }) (v := ?_) rfl (by kernel_rfl) (by kernel_rfl) (by kernel_rfl) (fun _ _ _ h => h) (Or.inl ⟨by rfl, ?_⟩) (by assumption) ?_
                rotate_left
                · (intro w hSw; (try dsimp only at hSw); go_simp); try with_reducible rfl
                try simp only [Act.put, List.setIfInBounds_toArray, List.set_cons_zero, List.set_cons_succ]
                refine wpAnyH_take (i := 32) (oi := { dst := some 95, op := Go.Op.pick (Go.Operand.tmp 85) (Go.Operand.tmp 94) (Go.Operand.const (Go.Value.bool false)), type := 4, pos := "law.go:84", after := #[{ on := 22, ground := Go.Ground.data }, { on := 31, ground := Go.Ground.data }, { on := 16, ground := Go.Ground.guard }], guard := some (16, false) }) (v := ?_) rfl (by kernel_rfl) (by kernel_rfl) (by kernel_rfl) (fun _ _ _ h => h) (Or.inl ⟨by rfl, ?_⟩) (by assumption) ?_
                rotate_left
                · (intro w hSw; (try dsimp only at hSw); go_simp); try with_reducible rfl
                try simp only [Act.put, List.setIfInBounds_toArray, List.set_cons_zero, List.set_cons_succ]
                refine wpAnyH_take (i := 33) (oi := { dst := some 96, op := Go.Op.pick (Go.Operand.tmp 79) (Go.Operand.const (Go.Value.bool true)) (Go.Operand.tmp 95), type := 4, pos := "law.go:84", after := #[{ on := 16, ground := Go.Ground.data }, { on := 32, ground := Go.Ground.data }], guard := none }) (v := ?_) rfl (by kernel_rfl) (by kernel_rfl) (by kernel_rfl) (fun _ _ _ h => h) (Or.inl ⟨by rfl, ?_⟩) (by assumption) ?_
                rotate_left
                · (intro w hSw; (try dsimp only at hSw); go_simp); try with_reducible rfl
                try simp only [Act.put, List.setIfInBounds_toArray, List.set_cons_zero, List.set_cons_succ]
                refine wpAnyH_take (i := 34) (oi := { dst := some 97, op := Go.Op.move (Go.Operand.tmp 96), type := 4, pos := "law.go:84", after := #[{ on := 33, ground := Go.Ground.data }, { on := 22, ground := Go.Ground.chain }], guard := none }) (v := ?_) rfl (by kernel_rfl) (by kernel_rfl) (by kernel_rfl) (fun _ _ _ h => h) (Or.inl ⟨by rfl, ?_⟩) (by assumption) ?_
                rotate_left
                · (intro w hSw; (try dsimp only at hSw); go_simp); try with_reducible rfl
                try simp only [Act.put, List.setIfInBounds_toArray, List.set_cons_zero, List.set_cons_succ]
                refine wpAnyH_take (i := 35) (oi := { dst := some 98, op := Go.Op.move (Go.Operand.tmp 0), type := 22, pos := "law.go:84", after := #[{ on := 34, ground := Go.Ground.guard }], guard := some (34, false) }) (v := ?_) rfl (by kernel_rfl) (by kernel_rfl) (by kernel_rfl) (fun _ _ _ h => h) (Or.inl ⟨by rfl, ?_⟩) (by assumption) ?_
                rotate_left
                · (intro w hSw; (try dsimp only at hSw); go_simp); try with_reducible rfl
                try simp only [Act.put, List.setIfInBounds_toArray, List.set_cons_zero, List.set_cons_succ]
                refine wpAnyH_ready (rs := [36]) (by kernel_rfl) (by simp) ?_
                refine AllReadyH.cons (o := { dst := some 99, op := Go.Op.call { callee := Go.Callee.value (Go.Operand.func 18), args := #[Go.Operand.tmp 98], argTypes := #[22] }, type := 3, pos := "law.go:84", after := #[{ on := 35, ground := Go.Ground.data }, { on := 34, ground := Go.Ground.chain }, { on := 34, ground := Go.Ground.guard }], guard := some (34, false) }) rfl (fun K hK => ?_) AllReadyH.nil
                go_simp
                (go_at_call 18; refine (trace_Most.calls _ _ l0 ml _ (by repeat (first | exact HRB.out | (with_reducible refine Kd.C_drew ?_) | (with_reducible refine Kd.C_drewN ?_ _))) hc0 HML.out).mono ?_; rintro e wC ⟨rfl, hbC⟩)
                try go_wp2_with fail
                refine hK.out _ _ ?_ (fun hHeld36 => ?_)
                · (try dsimp only); (first | go_keep | (go_split_ands; exact ⟨⟨(hbC.cell (World.block_lt_of_cell? _ _ (by assumption))).trans (by assumption), (hbC.cell (World.block_lt_of_cell? _ _ (by assumption))).trans (by assumption)⟩, (hbC.cell (World.block_lt_of_cell? _ _ (by assumption))).trans (by assumption), (hbC.cell (World.block_lt_of_cell? _ _ (by assumption))).trans (by assumption)⟩))
                clear hK K hHeld
                have hHeld := hHeld36
                clear hHeld36
                try simp only [Act.put, List.setIfInBounds_toArray, List.set_cons_zero, List.set_cons_succ]
                refine wpAnyH_take (i := 37) (oi := { dst := some 100, op := Go.Op.binOp Go.BinOp.lss 3 (Go.Operand.tmp 99) (Go.Operand.const (Go.Value.int Go.IntKind.i64 2)) 3, type := 4, pos := "law.go:84", after := #[{ on := 36, ground := Go.Ground.data }, { on := 34, ground := Go.Ground.guard }], guard := some (34, false) }) (v := ?_) rfl (by kernel_rfl) (by kernel_rfl) (by kernel_rfl) (fun _ _ _ h => h) (Or.inl ⟨by rfl, ?_⟩) (by assumption) ?_
                rotate_left
                · (intro w hSw; (try dsimp only at hSw); go_simp); try with_reducible rfl
                try simp only [Act.put, List.setIfInBounds_toArray, List.set_cons_zero, List.set_cons_succ]
                refine wpAnyH_take (i := 38) (oi := { dst := some 101, op := Go.Op.pick (Go.Operand.tmp 97) (Go.Operand.const (Go.Value.bool true)) (Go.Operand.tmp 100), type := 4, pos := "law.go:84", after := #[{ on := 34, ground := Go.Ground.data }, { on := 37, ground := Go.Ground.data }], guard := none }) (v := ?_) rfl (by kernel_rfl) (by kernel_rfl) (by kernel_rfl) (fun _ _ _ h => h) (Or.inl ⟨by rfl, ?_⟩) (by assumption) ?_
                rotate_left
                · (intro w hSw; (try dsimp only at hSw); go_simp); try with_reducible rfl
                try simp only [Act.put, List.setIfInBounds_toArray, List.set_cons_zero, List.set_cons_succ]
                refine wpAnyH_done (by kernel_rfl) ?_ _
                have hbAll2 : Below w4.heap.size w4 wC := below_step (below_drew1 hbAll) hbC
                go_wp2_with fail
                go_roundw
                case rel => exact ⟨j + 1, by omega, by go_num, hbAll2⟩
                case measure => simp [intOf]; omega
            · rw [hqj] at y4'
              have hj2 : decide ((q : Int) < (b : Int)) = false := decide_eq_false (by omega)
              have hj3 : decide (q < b) = false := decide_eq_false (by omega)
              have hj4 : (0 : Int) ≤ (q : Int) := by omega
              clear hqj
              rcases hqi with hqi | ⟨r, hqi, hra⟩
              · obtain ⟨zi, hzi⟩ : ∃ z, eAt l0 i = z := ⟨_, rfl⟩
                rw [hzi] at y4 hqi
                have hi2 : decide (0 ≤ zi) = false := decide_eq_false (by omega)
                clear hqi hzi
                refine wp_region_held_drew (S := (fun w' => (w'.cell? ⟨g3, i, none⟩ = some (.int .i64 (b : Int)) ∧ w'.cell? ⟨g3, j, none⟩ = some (.int .i64 (a : Int))) ∧ w'.cell? ⟨g4, i, none⟩ = some (.int .i64 zi) ∧ w'.cell? ⟨g4, j, none⟩ = some (.int .i64 (q : Int)))) (by kernel_rfl) ?_ (fun hHeld => ?_)
                · (try dsimp only); (first | go_keep | (go_split_ands; exact ⟨⟨(hbC.cell (World.block_lt_of_cell? _ _ (by assumption))).trans (by assumption), (hbC.cell (World.block_lt_of_cell? _ _ (by assumption))).trans (by assumption)⟩, (hbC.cell (World.block_lt_of_cell? _ _ (by assumption))).trans (by assumption), (hbC.cell (World.block_lt_of_cell? _ _ (by assumption))).trans (by assumption)⟩))
                refine wpAnyH_take (i := 0) (oi := { dst := some 63, op := Go.Op.move (Go.Operand.tmp 7), type := 26, pos := "law.go:84", after := #[], guard := none }) (v := ?_) rfl (by kernel_rfl) (by kernel_rfl) (by kernel_rfl) (fun _ _ _ h => h) (Or.inl ⟨by rfl, ?_⟩) (by assumption) ?_
                rotate_left
                · (intro w hSw; (try dsimp only at hSw); go_simp); try with_reducible rfl
                try simp only [Act.put, List.setIfInBounds_toArray, List.set_cons_zero, List.set_cons_succ]
                refine wpAnyH_take (i := 1) (oi := { dst := some 64, op := Go.Op.move (Go.Operand.tmp 9), type := 3, pos := "law.go:84", after := #[], guard := none }) (v := ?_) rfl (by kernel_rfl) (by kernel_rfl) (by kernel_rfl) (fun _ _ _ h => h) (Or.inl ⟨by rfl, ?_⟩) (by assumption) ?_
                rotate_left
                · (intro w hSw; (try dsimp only at hSw); go_simp); try with_reducible rfl
                try simp only [Act.put, List.setIfInBounds_toArray, List.set_cons_zero, List.set_cons_succ]
                refine wpAnyH_take (i := 2) (oi := { dst := some 65, op := Go.Op.indexAddr 26 (Go.Operand.tmp 63) (Go.Operand.tmp 64), type := 0, pos := "law.go:84", after := #[{ on := 0, ground := Go.Ground.data }, { on := 1, ground := Go.Ground.data }], guard := none }) (v := ?_) rfl (by kernel_rfl) (by kernel_rfl) (by kernel_rfl) (fun _ _ _ h => h) (Or.inl ⟨by rfl, ?_⟩) (by assumption) ?_
                rotate_left
                · (intro w hSw; (try dsimp only at hSw); go_simp); try with_reducible rfl
                try simp only [Act.put, List.setIfInBounds_toArray, List.set_cons_zero, List.set_cons_succ]
                refine wpAnyH_take (i := 3) (oi := { dst := some 66, op := Go.Op.load 3 (Go.Operand.tmp 65), type := 3, pos := "law.go:84", after := #[{ on := 2, ground := Go.Ground.data }], guard := none }) (v := ?_) rfl (by kernel_rfl) (by kernel_rfl) (by kernel_rfl) (fun _ _ _ h => h) (Or.inl ⟨by rfl, ?_⟩) (by assumption) ?_
                rotate_left
                · (intro w hSw; (try dsimp only at hSw); go_simp); try with_reducible rfl
                try simp only [Act.put, List.setIfInBounds_toArray, List.set_cons_zero, List.set_cons_succ]
                refine wpAnyH_take (i := 4) (oi := { dst := some 67, op := Go.Op.binOp Go.BinOp.geq 3 (Go.Operand.tmp 66) (Go.Operand.const (Go.Value.int Go.IntKind.i64 0)) 3, type := 4, pos := "law.go:84", after := #[{ on := 3, ground := Go.Ground.data }], guard := none }) (v := ?_) rfl (by kernel_rfl) (by kernel_rfl) (by kernel_rfl) (fun _ _ _ h => h) (Or.inl ⟨by rfl, ?_⟩) (by assumption) ?_
                rotate_left
                · (intro w hSw; (try dsimp only at hSw); go_simp); try with_reducible rfl
                try simp only [Act.put, List.setIfInBounds_toArray, List.set_cons_zero, List.set_cons_succ]
                refine wpAnyH_take (i := 5) (oi := { dst := some 68, op := Go.Op.move (Go.Operand.tmp 67), type := 4, pos := "law.go:84", after := #[{ on := 4, ground := Go.Ground.data }], guard := none }) (v := ?_) rfl (by kernel_rfl) (by kernel_rfl) (by kernel_rfl) (fun _ _ _ h => h) (Or.inl ⟨by rfl, ?_⟩) (by assumption) ?_
                rotate_left
                · (intro w hSw; (try dsimp only at hSw); go_simp); try with_reducible rfl
                try simp only [Act.put, List.setIfInBounds_toArray, List.set_cons_zero, List.set_cons_succ]
                refine wpAnyH_take (i := 6) (oi := { dst := some 69, op := Go.Op.move (Go.Operand.tmp 7), type := 26, pos := "law.go:84", after := #[{ on := 5, ground := Go.Ground.guard }], guard := some (5, true) }) (v := ?_) rfl (by kernel_rfl) (by kernel_rfl) (by kernel_rfl) (fun _ _ _ h => h) (Or.inl ⟨by rfl, ?_⟩) (by assumption) ?_
                rotate_left
                · (intro w hSw; (try dsimp only at hSw); go_simp); try with_reducible rfl
                try simp only [Act.put, List.setIfInBounds_toArray, List.set_cons_zero, List.set_cons_succ]
                refine wpAnyH_take (i := 7) (oi := { dst := some 70, op := Go.Op.move (Go.Operand.tmp 9), type := 3, pos := "law.go:84", after := #[{ on := 5, ground := Go.Ground.guard }], guard := some (5, true) }) (v := ?_) rfl (by kernel_rfl) (by kernel_rfl) (by kernel_rfl) (fun _ _ _ h => h) (Or.inl ⟨by rfl, ?_⟩) (by assumption) ?_
                rotate_left
                · (intro w hSw; (try dsimp only at hSw); go_simp); try with_reducible rfl
                try simp only [Act.put, List.setIfInBounds_toArray, List.set_cons_zero, List.set_cons_succ]
                refine wpAnyH_take (i := 8) (oi := { dst := some 71, op := Go.Op.indexAddr 26 (Go.Operand.tmp 69) (Go.Operand.tmp 70), type := 0, pos := "law.go:84", after := #[{ on := 6, ground := Go.Ground.data }, { on := 7, ground := Go.Ground.data }, { on := 5, ground := Go.Ground.guard }], guard := some (5, true) }) (v := ?_) rfl (by kernel_rfl) (by kernel_rfl) (by kernel_rfl) (fun _ _ _ h => h) (Or.inl ⟨by rfl, ?_⟩) (by assumption) ?_
                rotate_left
                · (intro w hSw; (try dsimp only at hSw); go_simp); try with_reducible rfl
                try simp only [Act.put, List.setIfInBounds_toArray, List.set_cons_zero, List.set_cons_succ]
                refine wpAnyH_take (i := 9) (oi := { dst := some 72, op := Go.Op.load 3 (Go.Operand.tmp 71), type := 3, pos := "law.go:84", after := #[{ on := 8, ground := Go.Ground.data }, { on := 5, ground := Go.Ground.guard }], guard := some (5, true) }) (v := ?_) rfl (by kernel_rfl) (by kernel_rfl) (by kernel_rfl) (fun _ _ _ h => h) (Or.inl ⟨by rfl, ?_⟩) (by assumption) ?_
                rotate_left
                · (intro w hSw; (try dsimp only at hSw); go_simp); try with_reducible rfl
                try simp only [Act.put, List.setIfInBounds_toArray, List.set_cons_zero, List.set_cons_succ]
                refine wpAnyH_take (i := 10) (oi := { dst := some 73, op := Go.Op.move (Go.Operand.tmp 6), type := 26, pos := "law.go:84", after := #[{ on := 5, ground := Go.Ground.guard }], guard := some (5, true) }) (v := ?_) rfl (by kernel_rfl) (by kernel_rfl) (by kernel_rfl) (fun _ _ _ h => h) (Or.inl ⟨by rfl, ?_⟩) (by assumption) ?_
                rotate_left
                · (intro w hSw; (try dsimp only at hSw); go_simp); try with_reducible rfl
                try simp only [Act.put, List.setIfInBounds_toArray, List.set_cons_zero, List.set_cons_succ]
                refine wpAnyH_take (i := 11) (oi := { dst := some 74, op := Go.Op.move (Go.Operand.tmp 8), type := 3, pos := "law.go:84", after := #[{ on := 5, ground := Go.Ground.guard }], guard := some (5, true) }) (v := ?_) rfl (by kernel_rfl) (by kernel_rfl) (by kernel_rfl) (fun _ _ _ h => h) (Or.inl ⟨by rfl, ?_⟩) (by assumption) ?_
                rotate_left
                · (intro w hSw; (try dsimp only at hSw); go_simp); try with_reducible rfl
                try simp only [Act.put, List.setIfInBounds_toArray, List.set_cons_zero, List.set_cons_succ]
                refine wpAnyH_take (i := 12) (oi := { dst := some 75, op := Go.Op.indexAddr 26 (Go.Operand.tmp 73) (Go.Operand.tmp 74), type := 0, pos := "law.go:84", after := #[{ on := 10, ground := Go.Ground.data }, { on := 11, ground := Go.Ground.data }, { on := 5, ground := Go.Ground.guard }], guard := some (5, true) }) (v := ?_) rfl (by kernel_rfl) (by kernel_rfl) (by kernel_rfl) (fun _ _ _ h => h) (Or.inl ⟨by rfl, ?_⟩) (by assumption) ?_
                rotate_left
                · (intro w hSw; (try dsimp only at hSw); go_simp); try with_reducible rfl
                try simp only [Act.put, List.setIfInBounds_toArray, List.set_cons_zero, List.set_cons_succ]
                refine wpAnyH_take (i := 13) (oi := { dst := some 76, op := Go.Op.load 3 (Go.Operand.tmp 75), type := 3, pos := "law.go:84", after := #[{ on := 12, ground := Go.Ground.data }, { on := 5, ground := Go.Ground.guard }], guard := some (5, true) }) (v := ?_) rfl (by kernel_rfl) (by kernel_rfl) (by kernel_rfl) (fun _ _ _ h => h) (Or.inl ⟨by rfl, ?_⟩) (by assumption) ?_
                rotate_left
                · (intro w hSw; (try dsimp only at hSw); go_simp); try with_reducible rfl
                try simp only [Act.put, List.setIfInBounds_toArray, List.set_cons_zero, List.set_cons_succ]
                refine wpAnyH_take (i := 14) (oi := { dst := some 77, op := Go.Op.binOp Go.BinOp.lss 3 (Go.Operand.tmp 72) (Go.Operand.tmp 76) 3, type := 4, pos := "law.go:84", after := #[{ on := 9, ground := Go.Ground.data }, { on := 13, ground := Go.Ground.data }, { on := 5, ground := Go.Ground.guard }], guard := some (5, true) }) (v := ?_) rfl (by kernel_rfl) (by kernel_rfl) (by kernel_rfl) (fun _ _ _ h => h) (Or.inl ⟨by rfl, ?_⟩) (by assumption) ?_
                rotate_left
                · (intro w hSw; (try dsimp only at hSw); go_simp); try with_reducible rfl
                try simp only [Act.put, List.setIfInBounds_toArray, List.set_cons_zero, List.set_cons_succ]
                refine wpAnyH_take (i := 15) (oi := { dst := some 78, op := Go.Op.pick (Go.Operand.tmp 68) (Go.Operand.tmp 77) (Go.Operand.const (Go.Value.bool false)), type := 4, pos := "law.go:84", after := #[{ on := 5, ground := Go.Ground.data }, { on := 14, ground := Go.Ground.data }], guard := none }) (v := ?_) rfl (by kernel_rfl) (by kernel_rfl) (by kernel_rfl) (fun _ _ _ h => h) (Or.inl ⟨by rfl, ?_⟩) (by assumption) ?_
                rotate_left
                · (intro w hSw; (try dsimp only at hSw); go_simp); try with_reducible rfl
                try simp only [Act.put, List.setIfInBounds_toArray, List.set_cons_zero, List.set_cons_succ]
                refine wpAnyH_take (i := 16) (oi := { dst := some 79, op := Go.Op.move (Go.Operand.tmp 78), type := 4, pos := "law.go:84", after := #[{ on := 15, ground := Go.Ground.data }, { on := 5, ground := Go.Ground.chain }], guard := none }) (v := ?_) rfl (by kernel_rfl) (by kernel_rfl) (by kernel_rfl) (fun _ _ _ h => h) (Or.inl ⟨by rfl, ?_⟩) (by assumption) ?_
                rotate_left
                · (intro w hSw; (try dsimp only at hSw); go_simp); try with_reducible rfl
                try simp only [Act.put, List.setIfInBounds_toArray, List.set_cons_zero, List.set_cons_succ]
                refine wpAnyH_take (i := 17) (oi := { dst := some 80, op := Go.Op.move (Go.Operand.tmp 7), type := 26, pos := "law.go:84", after := #[{ on := 16, ground := Go.Ground.guard }], guard := some (16, false) }) (v := ?_) rfl (by kernel_rfl) (by kernel_rfl) (by kernel_rfl) (fun _ _ _ h => h) (Or.inl ⟨by rfl, ?_⟩) (by assumption) ?_
                rotate_left
                · (intro w hSw; (try dsimp only at hSw); go_simp); try with_reducible rfl
                try simp only [Act.put, List.setIfInBounds_toArray, List.set_cons_zero, List.set_cons_succ]
                refine wpAnyH_take (i := 18) (oi := { dst := some 81, op := Go.Op.move (Go.Operand.tmp 8), type := 3, pos := "law.go:84", after := #[{ on := 16, ground := Go.Ground.guard }], guard := some (16, false) }) (v := ?_) rfl (by kernel_rfl) (by kernel_rfl) (by kernel_rfl) (fun _ _ _ h => h) (Or.inl ⟨by rfl, ?_⟩) (by assumption) ?_
                rotate_left
                · (intro w hSw; (try dsimp only at hSw); go_simp); try with_reducible rfl
                try simp only [Act.put, List.setIfInBounds_toArray, List.set_cons_zero, List.set_cons_succ]
                refine wpAnyH_take (i := 19) (oi := { dst := some 82, op := Go.Op.indexAddr 26 (Go.Operand.tmp 80) (Go.Operand.tmp 81), type := 0, pos := "law.go:84", after := #[{ on := 17, ground := Go.Ground.data }, { on := 18, ground := Go.Ground.data }, { on := 16, ground := Go.Ground.guard }], guard := some (16, false) }) (v := ?_) rfl (by kernel_rfl) (by kernel_rfl) (by kernel_rfl) (fun _ _ _ h => h) (Or.inl ⟨by rfl, ?_⟩) (by assumption) ?_
                rotate_left
                · (intro w hSw; (try dsimp only at hSw); go_simp); try with_reducible rfl
                try simp only [Act.put, List.setIfInBounds_toArray, List.set_cons_zero, List.set_cons_succ]
                refine wpAnyH_take (i := 20) (oi := { dst := some 83, op := Go.Op.load 3 (Go.Operand.tmp 82), type := 3, pos := "law.go:84", after := #[{ on := 19, ground := Go.Ground.data }, { on := 16, ground := Go.Ground.guard }], guard := some (16, false) }) (v := ?_) rfl (by kernel_rfl) (by kernel_rfl) (by kernel_rfl) (fun _ _ _ h => h) (Or.inl ⟨by rfl, ?_⟩) (by assumption) ?_
                rotate_left
                · (intro w hSw; (try dsimp only at hSw); go_simp); try with_reducible rfl
                try simp only [Act.put, List.setIfInBounds_toArray, List.set_cons_zero, List.set_cons_succ]
                refine wpAnyH_take (i := 21) (oi := { dst := some 84, op := Go.Op.binOp Go.BinOp.geq 3 (Go.Operand.tmp 83) (Go.Operand.const (Go.Value.int Go.IntKind.i64 0)) 3, type := 4, pos := "law.go:84", after := #[{ on := 20, ground := Go.Ground.data }, { on := 16, ground := Go.Ground.guard }], guard := some (16, false) }) (v := ?_) rfl (by kernel_rfl) (by kernel_rfl) (by kernel_rfl) (fun _ _ _ h => h) (Or.inl ⟨by rfl, ?_⟩) (by assumption) ?_
                rotate_left
                · (intro w hSw; (try dsimp only at hSw); go_simp); try with_reducible rfl
                try simp only [Act.put, List.setIfInBounds_toArray, List.set_cons_zero, List.set_cons_succ]
                refine wpAnyH_take (i := 22) (oi := { dst := some 85, op := Go.Op.move (Go.Operand.tmp 84), type := 4, pos := "law.go:84", after := #[{ on := 21, ground := Go.Ground.data }, { on := 16, ground := Go.Ground.chain }, { on := 16, ground := Go.Ground.guard }], guard := some (16, false) }) (v := ?_) rfl (by kernel_rfl) (by kernel_rfl) (by kernel_rfl) (fun _ _ _ h => h) (Or.inl ⟨by rfl, ?_⟩) (by assumption) ?_
                rotate_left
                · (intro w hSw; (try dsimp only at hSw); go_simp); try with_reducible rfl
                try simp only [Act.put, List.setIfInBounds_toArray, List.set_cons_zero, List.set_cons_succ]
                refine wpAnyH_take (i := 23) (oi := { dst := some 86, op := Go.Op.move (Go.Operand.tmp 7), type := 26, pos := "law.go:84", after := #[{ on := 22, ground := Go.Ground.guard }], guard := some (22, true) }) (v := undef) rfl (by kernel_rfl) (by kernel_rfl) (by kernel_rfl) (fun _ _ _ h => h) (Or.inr ⟨by rfl, rfl⟩) (by assumption) ?_
                try simp only [Act.put, List.setIfInBounds_toArray, List.set_cons_zero, List.set_cons_succ]
                refine wpAnyH_take (i := 24) (oi := { dst := some 87, op := Go.Op.move (Go.Operand.tmp 8), type := 3, pos := "law.go:84", after := #[{ on := 22, ground := Go.Ground.guard }], guard := some (22, true) }) (v := undef) rfl (by kernel_rfl) (by kernel_rfl) (by kernel_rfl) (fun _ _ _ h => h) (Or.inr ⟨by rfl, rfl⟩) (by assumption) ?_
                try simp only [Act.put, List.setIfInBounds_toArray, List.set_cons_zero, List.set_cons_succ]
                refine wpAnyH_take (i := 25) (oi := { dst := some 88, op := Go.Op.indexAddr 26 (Go.Operand.tmp 86) (Go.Operand.tmp 87), type := 0, pos := "law.go:84", after := #[{ on := 23, ground := Go.Ground.data }, { on := 24, ground := Go.Ground.data }, { on := 22, ground := Go.Ground.guard }], guard := some (22, true) }) (v := undef) rfl (by kernel_rfl) (by kernel_rfl) (by kernel_rfl) (fun _ _ _ h => h) (Or.inr ⟨by rfl, rfl⟩) (by assumption) ?_
                try simp only [Act.put, List.setIfInBounds_toArray, List.set_cons_zero, List.set_cons_succ]
                refine wpAnyH_take (i := 26) (oi := { dst := some 89, op := Go.Op.load 3 (Go.Operand.tmp 88), type := 3, pos := "law.go:84", after := #[{ on := 25, ground := Go.Ground.data }, { on := 22, ground := Go.Ground.guard }], guard := some (22, true) }) (v := undef) rfl (by kernel_rfl) (by kernel_rfl) (by kernel_rfl) (fun _ _ _ h => h) (Or.inr ⟨by rfl, rfl⟩) (by assumption) ?_
                try simp only [Act.put, List.setIfInBounds_toArray, List.set_cons_zero, List.set_cons_succ]
                refine wpAnyH_take (i := 27) (oi := { dst := some 90, op := Go.Op.move (Go.Operand.tmp 6), type := 26, pos := "law.go:84", after := #[{ on := 22, ground := Go.Ground.guard }], guard := some (22, true) }) (v := undef) rfl (by kernel_rfl) (by kernel_rfl) (by kernel_rfl) (fun _ _ _ h => h) (Or.inr ⟨by rfl, rfl⟩) (by assumption) ?_
                try simp only [Act.put, List.setIfInBounds_toArray, List.set_cons_zero, List.set_cons_succ]
                refine wpAnyH_take (i := 28) (oi := { dst := some 91, op := Go.Op.move (Go.Operand.tmp 9), type := 3, pos := "law.go:84", after := #[{ on := 22, ground := Go.Ground.guard }], guard := some (22, true) }) (v := undef) rfl (by kernel_rfl) (by kernel_rfl) (by kernel_rfl) (fun _ _ _ h => h) (Or.inr ⟨by rfl, rfl⟩) (by assumption) ?_
                try simp only [Act.put, List.setIfInBounds_toArray, List.set_cons_zero, List.set_cons_succ]
                refine wpAnyH_take (i := 29) (oi := { dst := some 92, op := Go.Op.indexAddr 26 (Go.Operand.tmp 90) (Go.Operand.tmp 91), type := 0, pos := "law.go:84", after := #[{ on := 27, ground := Go.Ground.data }, { on := 28, ground := Go.Ground.data }, { on := 22, ground := Go.Ground.guard }], guard := some (22, true) }) (v := undef) rfl (by kernel_rfl) (by kernel_rfl) (by kernel_rfl) (fun _ _ _ h => h) (Or.inr ⟨by rfl, rfl⟩) (by assumption) ?_
                try simp only [Act.put, List.setIfInBounds_toArray, List.set_cons_zero, List.set_cons_succ]
                refine wpAnyH_take (i := 30) (oi := { dst := some 93, op := Go.Op.load 3 (Go.Operand.tmp 92), type := 3, pos := "law.go:84", after := #[{ on := 29, ground := Go.Ground.data }, { on := 22, ground := Go.Ground.guard }], guard := some (22, true) }) (v := undef) rfl (by kernel_rfl) (by kernel_rfl) (by kernel_rfl) (fun _ _ _ h => h) (Or.inr ⟨by rfl, rfl⟩) (by assumption) ?_
                try simp only [Act.put, List.setIfInBounds_toArray, List.set_cons_zero, List.set_cons_succ]
                refine wpAnyH_take (i := 31) (oi := { dst := some 94, op := Go.Op.binOp Go.BinOp.lss 3 (Go.Operand.tmp 89) (Go.Operand.tmp 93) 3, type := 4, pos := "law.go:84", after := #[{ on := 26, ground := Go.Ground.data }, { on := 30, ground := Go.Ground.data }, { on := 22, ground := Go.Ground.guard }], guard := some (22, true) }) (v := undef) rfl (by kernel_rfl) (by kernel_rfl) (by kernel_rfl) (fun _ _ _ h => h) (Or.inr ⟨by rfl, rfl⟩) (by assumption) ?_
                try simp only [Act.put, List.setIfInBounds_toArray, List.set_cons_zero, List.set_cons_succ]
                refine wpAnyH_take (i := 32) (oi := { dst := some 95, op := Go.Op.pick (Go.Operand.tmp 85) (Go.Operand.tmp 94) (Go.Operand.const (Go.Value.bool false)), type := 4, pos := "law.go:84", after := #[{ on := 22, ground := Go.Ground.data }, { on := 31, ground := Go.Ground.data }, { on := 16, ground := Go.Ground.guard }], guard := some (16, false) }) (v := ?_) rfl (by kernel_rfl) (by kernel_rfl) (by kernel_rfl) (fun _ _ _ h => h) (Or.inl ⟨by rfl, ?_⟩) (by assumption) ?_
                rotate_left
                · (intro w hSw; (try dsimp only at hSw); go_simp); try with_reducible rfl
                try simp only [Act.put, List.setIfInBounds_toArray, List.set_cons_zero, List.set_cons_succ]
                refine wpAnyH_take (i := 33) (oi := { dst := some 96, op := Go.Op.pick (Go.Operand.tmp 79) (Go.Operand.const (Go.Value.bool true)) (Go.Operand.tmp 95), type := 4, pos := "law.go:84", after := #[{ on := 16, ground := Go.Ground.data }, { on := 32, ground := Go.Ground.data }], guard := none }) (v := ?_) rfl (by kernel_rfl) (by kernel_rfl) (by kernel_rfl) (fun _ _ _ h => h) (Or.inl ⟨by rfl, ?_⟩) (by assumption) ?_
                rotate_left
                · (intro w hSw; (try dsimp only at hSw); go_simp); try with_reducible rfl
                try simp only [Act.put, List.setIfInBounds_toArray, List.set_cons_zero, List.set_cons_succ]
                refine wpAnyH_take (i := 34) (oi := { dst := some 97, op := Go.Op.move (Go.Operand.tmp 96), type := 4, pos := "law.go:84", after := #[{ on := 33, ground := Go.Ground.data }, { on := 22, ground := Go.Ground.chain }], guard := none }) (v := ?_) rfl (by kernel_rfl) (by kernel_rfl) (by kernel_rfl) (fun _ _ _ h => h) (Or.inl ⟨by rfl, ?_⟩) (by assumption) ?_
                rotate_left
                · (intro w hSw; (try dsimp only at hSw); go_simp); try with_reducible rfl
                try simp only [Act.put, List.setIfInBounds_toArray, List.set_cons_zero, List.set_cons_succ]
                refine wpAnyH_take (i := 35) (oi := { dst := some 98, op := Go.Op.move (Go.Operand.tmp 0), type := 22, pos := "law.go:84", after := #[{ on := 34, ground := Go.Ground.guard }], guard := some (34, false) }) (v := ?_) rfl (by kernel_rfl) (by kernel_rfl) (by kernel_rfl) (fun _ _ _ h => h) (Or.inl ⟨by rfl, ?_⟩) (by assumption) ?_
                rotate_left
                · (intro w hSw; (try dsimp only at hSw); go_simp); try with_reducible rfl
                try simp only [Act.put, List.setIfInBounds_toArray, List.set_cons_zero, List.set_cons_succ]
                refine wpAnyH_ready (rs := [36]) (by kernel_rfl) (by simp) ?_
                refine AllReadyH.cons (o := { dst := some 99, op := Go.Op.call { callee := Go.Callee.value (Go.Operand.func 18), args := #[Go.Operand.tmp 98], argTypes := #[22] }, type := 3, pos := "law.go:84", after := #[{ on := 35, ground := Go.Ground.data }, { on := 34, ground := Go.Ground.chain }, { on := 34, ground := Go.Ground.guard }], guard := some (34, false) }) rfl (fun K hK => ?_) AllReadyH.nil
                go_simp
                (go_at_call 18; refine (trace_Most.calls _ _ l0 ml _ (by repeat (first | exact HRB.out | (with_reducible refine Kd.C_drew ?_) | (with_reducible refine Kd.C_drewN ?_ _))) hc0 HML.out).mono ?_; rintro e wC ⟨rfl, hbC⟩)
                try go_wp2_with fail
                refine hK.out _ _ ?_ (fun hHeld36 => ?_)
                · (try dsimp only); (first | go_keep | (go_split_ands; exact ⟨⟨(hbC.cell (World.block_lt_of_cell? _ _ (by assumption))).trans (by assumption), (hbC.cell (World.block_lt_of_cell? _ _ (by assumption))).trans (by assumption)⟩, (hbC.cell (World.block_lt_of_cell? _ _ (by assumption))).trans (by assumption), (hbC.cell (World.block_lt_of_cell? _ _ (by assumption))).trans (by assumption)⟩))
                clear hK K hHeld
                have hHeld := hHeld36
                clear hHeld36
                try simp only [Act.put, List.setIfInBounds_toArray, List.set_cons_zero, List.set_cons_succ]
                refine wpAnyH_take (i := 37) (oi := { dst := some 100, op := Go.Op.binOp Go.BinOp.lss 3 (Go.Operand.tmp 99) (Go.Operand.const (Go.Value.int Go.IntKind.i64 2)) 3, type := 4, pos := "law.go:84", after := #[{ on := 36, ground := Go.Ground.data }, { on := 34, ground := Go.Ground.guard }], guard := some (34, false) }) (v := ?_) rfl (by kernel_rfl) (by kernel_rfl) (by kernel_rfl) (fun _ _ _ h => h) (Or.inl ⟨by rfl, ?_⟩) (by assumption) ?_
                rotate_left
                · (intro w hSw; (try dsimp only at hSw); go_simp); try with_reducible rfl
                try simp only [Act.put, List.setIfInBounds_toArray, List.set_cons_zero, List.set_cons_succ]
                refine wpAnyH_take (i := 38) (oi := { dst := some 101, op := Go.Op.pick (Go.Operand.tmp 97) (Go.Operand.const (Go.Value.bool true)) (Go.Operand.tmp 100), type := 4, pos := "law.go:84", after := #[{ on := 34, ground := Go.Ground.data }, { on := 37, ground := Go.Ground.data }], guard := none }) (v := ?_) rfl (by kernel_rfl) (by kernel_rfl) (by kernel_rfl) (fun _ _ _ h => h) (Or.inl ⟨by rfl, ?_⟩) (by assumption) ?_
                rotate_left
                · (intro w hSw; (try dsimp only at hSw); go_simp); try with_reducible rfl
                try simp only [Act.put, List.setIfInBounds_toArray, List.set_cons_zero, List.set_cons_succ]
                refine wpAnyH_done (by kernel_rfl) ?_ _
                have hbAll2 : Below w4.heap.size w4 wC := below_step (below_drew1 hbAll) hbC
                go_wp2_with fail
                go_roundw
                case rel => exact ⟨j + 1, by omega, by go_num, hbAll2⟩
                case measure => simp [intOf]; omega
              · rw [hqi] at y4
                have hi2 : decide ((r : Int) < (a : Int)) = false := decide_eq_false (by omega)
                have hi3 : decide (r < a) = false := decide_eq_false (by omega)
                have hi4 : (0 : Int) ≤ (r : Int) := by omega
                clear hqi
                refine wp_region_held_drew (S := (fun w' => (w'.cell? ⟨g3, i, none⟩ = some (.int .i64 (b : Int)) ∧ w'.cell? ⟨g3, j, none⟩ = some (.int .i64 (a : Int))) ∧ w'.cell? ⟨g4, i, none⟩ = some (.int .i64 (r : Int)) ∧ w'.cell? ⟨g4, j, none⟩ = some (.int .i64 (q : Int)))) (by kernel_rfl) ?_ (fun hHeld => ?_)
                · (try dsimp only); (first | go_keep | (go_split_ands; exact ⟨⟨(hbC.cell (World.block_lt_of_cell? _ _ (by assumption))).trans (by assumption), (hbC.cell (World.block_lt_of_cell? _ _ (by assumption))).trans (by assumption)⟩, (hbC.cell (World.block_lt_of_cell? _ _ (by assumption))).trans (by assumption), (hbC.cell (World.block_lt_of_cell? _ _ (by assumption))).trans (by assumption)⟩))
                refine wpAnyH_take (i := 0) (oi := { dst := some 63, op := Go.Op.move (Go.Operand.tmp 7), type := 26, pos := "law.go:84", after := #[], guard := none }) (v := ?_) rfl (by kernel_rfl) (by kernel_rfl) (by kernel_rfl) (fun _ _ _ h => h) (Or.inl ⟨by rfl, ?_⟩) (by assumption) ?_
                rotate_left
                · (intro w hSw; (try dsimp only at hSw); go_simp); try with_reducible rfl
                try simp only [Act.put, List.setIfInBounds_toArray, List.set_cons_zero, List.set_cons_succ]
                refine wpAnyH_take (i := 1) (oi := { dst := some 64, op := Go.Op.move (Go.Operand.tmp 9), type := 3, pos := "law.go:84", after := #[], guard := none }) (v := ?_) rfl (by kernel_rfl) (by kernel_rfl) (by kernel_rfl) (fun _ _ _ h => h) (Or.inl ⟨by rfl, ?_⟩) (by assumption) ?_
                rotate_left
                · (intro w hSw; (try dsimp only at hSw); go_simp); try with_reducible rfl
                try simp only [Act.put, List.setIfInBounds_toArray, List.set_cons_zero, List.set_cons_succ]
                refine wpAnyH_take (i := 2) (oi := { dst := some 65, op := Go.Op.indexAddr 26 (Go.Operand.tmp 63) (Go.Operand.tmp 64), type := 0, pos := "law.go:84", after := #[{ on := 0, ground := Go.Ground.data }, { on := 1, ground := Go.Ground.data }], guard := none }) (v := ?_) rfl (by kernel_rfl) (by kernel_rfl) (by kernel_rfl) (fun _ _ _ h => h) (Or.inl ⟨by rfl, ?_⟩) (by assumption) ?_
                rotate_left
                · (intro w hSw; (try dsimp only at hSw); go_simp); try with_reducible rfl
                try simp only [Act.put, List.setIfInBounds_toArray, List.set_cons_zero, List.set_cons_succ]
                refine wpAnyH_take (i := 3) (oi := { dst := some 66, op := Go.Op.load 3 (Go.Operand.tmp 65), type := 3, pos := "law.go:84", after := #[{ on := 2, ground := Go.Ground.data }], guard := none }) (v := ?_) rfl (by kernel_rfl) (by kernel_rfl) (by kernel_rfl) (fun _ _ _ h => h) (Or.inl ⟨by rfl, ?_⟩) (by assumption) ?_
                rotate_left
                · (intro w hSw; (try dsimp only at hSw); go_simp); try with_reducible rfl
                try simp only [Act.put, List.setIfInBounds_toArray, List.set_cons_zero, List.set_cons_succ]
                refine wpAnyH_take (i := 4) (oi := { dst := some 67, op := Go.Op.binOp Go.BinOp.geq 3 (Go.Operand.tmp 66) (Go.Operand.const (Go.Value.int Go.IntKind.i64 0)) 3, type := 4, pos := "law.go:84", after := #[{ on := 3, ground := Go.Ground.data }], guard := none }) (v := ?_) rfl (by kernel_rfl) (by kernel_rfl) (by kernel_rfl) (fun _ _ _ h => h) (Or.inl ⟨by rfl, ?_⟩) (by assumption) ?_
                rotate_left
                · (intro w hSw; (try dsimp only at hSw); go_simp); try with_reducible rfl
                try simp only [Act.put, List.setIfInBounds_toArray, List.set_cons_zero, List.set_cons_succ]
                refine wpAnyH_take (i := 5) (oi := { dst := some 68, op := Go.Op.move (Go.Operand.tmp 67), type := 4, pos := "law.go:84", after := #[{ on := 4, ground := Go.Ground.data }], guard := none }) (v := ?_) rfl (by kernel_rfl) (by kernel_rfl) (by kernel_rfl) (fun _ _ _ h => h) (Or.inl ⟨by rfl, ?_⟩) (by assumption) ?_
                rotate_left
                · (intro w hSw; (try dsimp only at hSw); go_simp); try with_reducible rfl
                try simp only [Act.put, List.setIfInBounds_toArray, List.set_cons_zero, List.set_cons_succ]
                refine wpAnyH_take (i := 6) (oi := { dst := some 69, op := Go.Op.move (Go.Operand.tmp 7), type := 26, pos := "law.go:84", after := #[{ on := 5, ground := Go.Ground.guard }], guard := some (5, true) }) (v := ?_) rfl (by kernel_rfl) (by kernel_rfl) (by kernel_rfl) (fun _ _ _ h => h) (Or.inl ⟨by rfl, ?_⟩) (by assumption) ?_
                rotate_left
                · (intro w hSw; (try dsimp only at hSw); go_simp); try with_reducible rfl
                try simp only [Act.put, List.setIfInBounds_toArray, List.set_cons_zero, List.set_cons_succ]
                refine wpAnyH_take (i := 7) (oi := { dst := some 70, op := Go.Op.move (Go.Operand.tmp 9), type := 3, pos := "law.go:84", after := #[{ on := 5, ground := Go.Ground.guard }], guard := some (5, true) }) (v := ?_) rfl (by kernel_rfl) (by kernel_rfl) (by kernel_rfl) (fun _ _ _ h => h) (Or.inl ⟨by rfl, ?_⟩) (by assumption) ?_
                rotate_left
                · (intro w hSw; (try dsimp only at hSw); go_simp); try with_reducible rfl
                try simp only [Act.put, List.setIfInBounds_toArray, List.set_cons_zero, List.set_cons_succ]
                refine wpAnyH_take (i := 8) (oi := { dst := some 71, op := Go.Op.indexAddr 26 (Go.Operand.tmp 69) (Go.Operand.tmp 70), type := 0, pos := "law.go:84", after := #[{ on := 6, ground := Go.Ground.data }, { on := 7, ground := Go.Ground.data }, { on := 5, ground := Go.Ground.guard }], guard := some (5, true) }) (v := ?_) rfl (by kernel_rfl) (by kernel_rfl) (by kernel_rfl) (fun _ _ _ h => h) (Or.inl ⟨by rfl, ?_⟩) (by assumption) ?_
                rotate_left
                · (intro w hSw; (try dsimp only at hSw); go_simp); try with_reducible rfl
                try simp only [Act.put, List.setIfInBounds_toArray, List.set_cons_zero, List.set_cons_succ]
                refine wpAnyH_take (i := 9) (oi := { dst := some 72, op := Go.Op.load 3 (Go.Operand.tmp 71), type := 3, pos := "law.go:84", after := #[{ on := 8, ground := Go.Ground.data }, { on := 5, ground := Go.Ground.guard }], guard := some (5, true) }) (v := ?_) rfl (by kernel_rfl) (by kernel_rfl) (by kernel_rfl) (fun _ _ _ h => h) (Or.inl ⟨by rfl, ?_⟩) (by assumption) ?_
                rotate_left
                · (intro w hSw; (try dsimp only at hSw); go_simp); try with_reducible rfl
                try simp only [Act.put, List.setIfInBounds_toArray, List.set_cons_zero, List.set_cons_succ]
                refine wpAnyH_take (i := 10) (oi := { dst := some 73, op := Go.Op.move (Go.Operand.tmp 6), type := 26, pos := "law.go:84", after := #[{ on := 5, ground := Go.Ground.guard }], guard := some (5, true) }) (v := ?_) rfl (by kernel_rfl) (by kernel_rfl) (by kernel_rfl) (fun _ _ _ h => h) (Or.inl ⟨by rfl, ?_⟩) (by assumption) ?_
                rotate_left
                · (intro w hSw; (try dsimp only at hSw); go_simp); try with_reducible rfl
                try simp only [Act.put, List.setIfInBounds_toArray, List.set_cons_zero, List.set_cons_succ]
                refine wpAnyH_take (i := 11) (oi := { dst := some 74, op := Go.Op.move (Go.Operand.tmp 8), type := 3, pos := "law.go:84", after := #[{ on := 5, ground := Go.Ground.guard }], guard := some (5, true) }) (v := ?_) rfl (by kernel_rfl) (by kernel_rfl) (by kernel_rfl) (fun _ _ _ h => h) (Or.inl ⟨by rfl, ?_⟩) (by assumption) ?_
                rotate_left
                · (intro w hSw; (try dsimp only at hSw); go_simp); try with_reducible rfl
                try simp only [Act.put, List.setIfInBounds_toArray, List.set_cons_zero, List.set_cons_succ]
                refine wpAnyH_take (i := 12) (oi := { dst := some 75, op := Go.Op.indexAddr 26 (Go.Operand.tmp 73) (Go.Operand.tmp 74), type := 0, pos := "law.go:84", after := #[{ on := 10, ground := Go.Ground.data }, { on := 11, ground := Go.Ground.data }, { on := 5, ground := Go.Ground.guard }], guard := some (5, true) }) (v := ?_) rfl (by kernel_rfl) (by kernel_rfl) (by kernel_rfl) (fun _ _ _ h => h) (Or.inl ⟨by rfl, ?_⟩) (by assumption) ?_
                rotate_left
                · (intro w hSw; (try dsimp only at hSw); go_simp); try with_reducible rfl
                try simp only [Act.put, List.setIfInBounds_toArray, List.set_cons_zero, List.set_cons_succ]
                refine wpAnyH_take (i := 13) (oi := { dst := some 76, op := Go.Op.load 3 (Go.Operand.tmp 75), type := 3, pos := "law.go:84", after := #[{ on := 12, ground := Go.Ground.data }, { on := 5, ground := Go.Ground.guard }], guard := some (5, true) }) (v := ?_) rfl (by kernel_rfl) (by kernel_rfl) (by kernel_rfl) (fun _ _ _ h => h) (Or.inl ⟨by rfl, ?_⟩) (by assumption) ?_
                rotate_left
                · (intro w hSw; (try dsimp only at hSw); go_simp); try with_reducible rfl
                try simp only [Act.put, List.setIfInBounds_toArray, List.set_cons_zero, List.set_cons_succ]
                refine wpAnyH_take (i := 14) (oi := { dst := some 77, op := Go.Op.binOp Go.BinOp.lss 3 (Go.Operand.tmp 72) (Go.Operand.tmp 76) 3, type := 4, pos := "law.go:84", after := #[{ on := 9, ground := Go.Ground.data }, { on := 13, ground := Go.Ground.data }, { on := 5, ground := Go.Ground.guard }], guard := some (5, true) }) (v := ?_) rfl (by kernel_rfl) (by kernel_rfl) (by kernel_rfl) (fun _ _ _ h => h) (Or.inl ⟨by rfl, ?_⟩) (by assumption) ?_
                rotate_left
                · (intro w hSw; (try dsimp only at hSw); go_simp); try with_reducible rfl
                try simp only [Act.put, List.setIfInBounds_toArray, List.set_cons_zero, List.set_cons_succ]
                refine wpAnyH_take (i := 15) (oi := { dst := some 78, op := Go.Op.pick (Go.Operand.tmp 68) (Go.Operand.tmp 77) (Go.Operand.const (Go.Value.bool false)), type := 4, pos := "law.go:84", after := #[{ on := 5, ground := Go.Ground.data }, { on := 14, ground := Go.Ground.data }], guard := none }) (v := ?_) rfl (by kernel_rfl) (by kernel_rfl) (by kernel_rfl) (fun _ _ _ h => h) (Or.inl ⟨by rfl, ?_⟩) (by assumption) ?_
                rotate_left
                · (intro w hSw; (try dsimp only at hSw); go_simp); try with_reducible rfl
                try simp only [Act.put, List.setIfInBounds_toArray, List.set_cons_zero, List.set_cons_succ]
                refine wpAnyH_take (i := 16) (oi := { dst := some 79, op := Go.Op.move (Go.Operand.tmp 78), type := 4, pos := "law.go:84", after := #[{ on := 15, ground := Go.Ground.data }, { on := 5, ground := Go.Ground.chain }], guard := none }) (v := ?_) rfl (by kernel_rfl) (by kernel_rfl) (by kernel_rfl) (fun _ _ _ h => h) (Or.inl ⟨by rfl, ?_⟩) (by assumption) ?_
                rotate_left
                · (intro w hSw; (try dsimp only at hSw); go_simp); try with_reducible rfl
                try simp only [Act.put, List.setIfInBounds_toArray, List.set_cons_zero, List.set_cons_succ]
                refine wpAnyH_take (i := 17) (oi := { dst := some 80, op := Go.Op.move (Go.Operand.tmp 7), type := 26, pos := "law.go:84", after := #[{ on := 16, ground := Go.Ground.guard }], guard := some (16, false) }) (v := ?_) rfl (by kernel_rfl) (by kernel_rfl) (by kernel_rfl) (fun _ _ _ h => h) (Or.inl ⟨by rfl, ?_⟩) (by assumption) ?_
                rotate_left
                · (intro w hSw; (try dsimp only at hSw); go_simp); try with_reducible rfl
                try simp only [Act.put, List.setIfInBounds_toArray, List.set_cons_zero, List.set_cons_succ]
                refine wpAnyH_take (i := 18) (oi := { dst := some 81, op := Go.Op.move (Go.Operand.tmp 8), type := 3, pos := "law.go:84", after := #[{ on := 16, ground := Go.Ground.guard }], guard := some (16, false) }) (v := ?_) rfl (by kernel_rfl) (by kernel_rfl) (by kernel_rfl) (fun _ _ _ h => h) (Or.inl ⟨by rfl, ?_⟩) (by assumption) ?_
                rotate_left
                · (intro w hSw; (try dsimp only at hSw); go_simp); try with_reducible rfl
                try simp only [Act.put, List.setIfInBounds_toArray, List.set_cons_zero, List.set_cons_succ]
                refine wpAnyH_take (i := 19) (oi := { dst := some 82, op := Go.Op.indexAddr 26 (Go.Operand.tmp 80) (Go.Operand.tmp 81), type := 0, pos := "law.go:84", after := #[{ on := 17, ground := Go.Ground.data }, { on := 18, ground := Go.Ground.data }, { on := 16, ground := Go.Ground.guard }], guard := some (16, false) }) (v := ?_) rfl (by kernel_rfl) (by kernel_rfl) (by kernel_rfl) (fun _ _ _ h => h) (Or.inl ⟨by rfl, ?_⟩) (by assumption) ?_
                rotate_left
                · (intro w hSw; (try dsimp only at hSw); go_simp); try with_reducible rfl
                try simp only [Act.put, List.setIfInBounds_toArray, List.set_cons_zero, List.set_cons_succ]
                refine wpAnyH_take (i := 20) (oi := { dst := some 83, op := Go.Op.load 3 (Go.Operand.tmp 82), type := 3, pos := "law.go:84", after := #[{ on := 19, ground := Go.Ground.data }, { on := 16, ground := Go.Ground.guard }], guard := some (16, false) }) (v := ?_) rfl (by kernel_rfl) (by kernel_rfl) (by kernel_rfl) (fun _ _ _ h => h) (Or.inl ⟨by rfl, ?_⟩) (by assumption) ?_
                rotate_left
                · (intro w hSw; (try dsimp only at hSw); go_simp); try with_reducible rfl
                try simp only [Act.put, List.setIfInBounds_toArray, List.set_cons_zero, List.set_cons_succ]
                refine wpAnyH_take (i := 21) (oi := { dst := some 84, op := Go.Op.binOp Go.BinOp.geq 3 (Go.Operand.tmp 83) (Go.Operand.const (Go.Value.int Go.IntKind.i64 0)) 3, type := 4, pos := "law.go:84", after := #[{ on := 20, ground := Go.Ground.data }, { on := 16, ground := Go.Ground.guard }], guard := some (16, false) }) (v := ?_) rfl (by kernel_rfl) (by kernel_rfl) (by kernel_rfl) (fun _ _ _ h => h) (Or.inl ⟨by rfl, ?_⟩) (by assumption) ?_
                rotate_left
                · (intro w hSw; (try dsimp only at hSw); go_simp); try with_reducible rfl
                try simp only [Act.put, List.setIfInBounds_toArray, List.set_cons_zero, List.set_cons_succ]
                refine wpAnyH_take (i := 22) (oi := { dst := some 85, op := Go.Op.move (Go.Operand.tmp 84), type := 4, pos := "law.go:84", after := #[{ on := 21, ground := Go.Ground.data }, { on := 16, ground := Go.Ground.chain }, { on := 16, ground := Go.Ground.guard }], guard := some (16, false) }) (v := ?_) rfl (by kernel_rfl) (by kernel_rfl) (by kernel_rfl) (fun _ _ _ h => h) (Or.inl ⟨by rfl, ?_⟩) (by assumption) ?_
                rotate_left
                · (intro w hSw; (try dsimp only at hSw); go_simp); try with_reducible rfl
                try simp only [Act.put, List.setIfInBounds_toArray, List.set_cons_zero, List.set_cons_succ]
                refine wpAnyH_take (i := 23) (oi := { dst := some 86, op := Go.Op.move (Go.Operand.tmp 7), type := 26, pos := "law.go:84", after := #[{ on := 22, ground := Go.Ground.guard }], guard := some (22, true) }) (v := ?_) rfl (by kernel_rfl) (by kernel_rfl) (by kernel_rfl) (fun _ _ _ h => h) (Or.inl ⟨by rfl, ?_⟩) (by assumption) ?_
                rotate_left
                · (intro w hSw; (try dsimp only at hSw); go_simp); try with_reducible rfl
                try simp only [Act.put, List.setIfInBounds_toArray, List.set_cons_zero, List.set_cons_succ]
                refine wpAnyH_take (i := 24) (oi := { dst := some 87, op := Go.Op.move (Go.Operand.tmp 8), type := 3, pos := "law.go:84", after := #[{ on := 22, ground := Go.Ground.guard }], guard := some (22, true) }) (v := ?_) rfl (by kernel_rfl) (by kernel_rfl) (by kernel_rfl) (fun _ _ _ h => h) (Or.inl ⟨by rfl, ?_⟩) (by assumption) ?_
                rotate_left
                · (intro w hSw; (try dsimp only at hSw); go_simp); try with_reducible rfl
                try simp only [Act.put, List.setIfInBounds_toArray, List.set_cons_zero, List.set_cons_succ]
                refine wpAnyH_take (i := 25) (oi := { dst := some 88, op := Go.Op.indexAddr 26 (Go.Operand.tmp 86) (Go.Operand.tmp 87), type := 0, pos := "law.go:84", after := #[{ on := 23, ground := Go.Ground.data }, { on := 24, ground := Go.Ground.data }, { on := 22, ground := Go.Ground.guard }], guard := some (22, true) }) (v := ?_) rfl (by kernel_rfl) (by kernel_rfl) (by kernel_rfl) (fun _ _ _ h => h) (Or.inl ⟨by rfl, ?_⟩) (by assumption) ?_
                rotate_left
                · (intro w hSw; (try dsimp only at hSw); go_simp); try with_reducible rfl
                try simp only [Act.put, List.setIfInBounds_toArray, List.set_cons_zero, List.set_cons_succ]
                refine wpAnyH_take (i := 26) (oi := { dst := some 89, op := Go.Op.load 3 (Go.Operand.tmp 88), type := 3, pos := "law.go:84", after := #[{ on := 25, ground := Go.Ground.data }, { on := 22, ground := Go.Ground.guard }], guard := some (22, true) }) (v := ?_) rfl (by kernel_rfl) (by kernel_rfl) (by kernel_rfl) (fun _ _ _ h => h) (Or.inl ⟨by rfl, ?_⟩) (by assumption) ?_
                rotate_left
                · (intro w hSw; (try dsimp only at hSw); go_simp); try with_reducible rfl
                try simp only [Act.put, List.setIfInBounds_toArray, List.set_cons_zero, List.set_cons_succ]
                refine wpAnyH_take (i := 27) (oi := { dst := some 90, op := Go.Op.move (Go.Operand.tmp 6), type := 26, pos := "law.go:84", after := #[{ on := 22, ground := Go.Ground.guard }], guard := some (22, true) }) (v := ?_) rfl (by kernel_rfl) (by kernel_rfl) (by kernel_rfl) (fun _ _ _ h => h) (Or.inl ⟨by rfl, ?_⟩) (by assumption) ?_
                rotate_left
                · (intro w hSw; (try dsimp only at hSw); go_simp); try with_reducible rfl
                try simp only [Act.put, List.setIfInBounds_toArray, List.set_cons_zero, List.set_cons_succ]
                refine wpAnyH_take (i := 28) (oi := { dst := some 91, op := Go.Op.move (Go.Operand.tmp 9), type := 3, pos := "law.go:84", after := #[{ on := 22, ground := Go.Ground.guard }], guard := some (22, true) }) (v := ?_) rfl (by kernel_rfl) (by kernel_rfl) (by kernel_rfl) (fun _ _ _ h => h) (Or.inl ⟨by rfl, ?_⟩) (by assumption) ?_
                rotate_left
                · (intro w hSw; (try dsimp only at hSw); go_simp); try with_reducible rfl
                try simp only [Act.put, List.setIfInBounds_toArray, List.set_cons_zero, List.set_cons_succ]
                refine wpAnyH_take (i := 29) (oi := { dst := some 92, op := Go.Op.indexAddr 26 (Go.Operand.tmp 90) (Go.Operand.tmp 91), type := 0, pos := "law.go:84", after := #[{ on := 27, ground := Go.Ground.data }, { on := 28, ground := Go.Ground.data }, { on := 22, ground := Go.Ground.guard }], guard := some (22, true) }) (v := ?_) rfl (by kernel_rfl) (by kernel_rfl) (by kernel_rfl) (fun _ _ _ h => h) (Or.inl ⟨by rfl, ?_⟩) (by assumption) ?_
                rotate_left
                · (intro w hSw; (try dsimp only at hSw); go_simp); try with_reducible rfl
                try simp only [Act.put, List.setIfInBounds_toArray, List.set_cons_zero, List.set_cons_succ]
                refine wpAnyH_take (i := 30) (oi := { dst := some 93, op := Go.Op.load 3 (Go.Operand.tmp 92), type := 3, pos := "law.go:84", after := #[{ on := 29, ground := Go.Ground.data }, { on := 22, ground := Go.Ground.guard }], guard := some (22, true) }) (v := ?_) rfl (by kernel_rfl) (by kernel_rfl) (by kernel_rfl) (fun _ _ _ h => h) (Or.inl ⟨by rfl, ?_⟩) (by assumption) ?_
                rotate_left
                · (intro w hSw; (try dsimp only at hSw); go_simp); try with_reducible rfl
                try simp only [Act.put, List.setIfInBounds_toArray, List.set_cons_zero, List.set_cons_succ]
                refine wpAnyH_take (i := 31) (oi := { dst := some 94, op := Go.Op.binOp Go.BinOp.lss 3 (Go.Operand.tmp 89) (Go.Operand.tmp 93) 3, type := 4, pos := "law.go:84", after := #[{ on := 26, ground := Go.Ground.data }, { on := 30, ground := Go.Ground.data }, { on := 22, ground := Go.Ground.guard }], guard := some (22, true) }) (v := ?_) rfl (by kernel_rfl) (by kernel_rfl) (by kernel_rfl) (fun _ _ _ h => h) (Or.inl ⟨by rfl, ?_⟩) (by assumption) ?_
                rotate_left
                · (intro w hSw; (try dsimp only at hSw); go_simp); try with_reducible rfl
                try simp only [Act.put, List.setIfInBounds_toArray, List.set_cons_zero, List.set_cons_succ]
                refine wpAnyH_take (i := 32) (oi := { dst := some 95, op := Go.Op.pick (Go.Operand.tmp 85) (Go.Operand.tmp 94) (Go.Operand.const (Go.Value.bool false)), type := 4, pos := "law.go:84", after := #[{ on := 22, ground := Go.Ground.data }, { on := 31, ground := Go.Ground.data }, { on := 16, ground := Go.Ground.guard }], guard := some (16, false) }) (v := ?_) rfl (by kernel_rfl) (by kernel_rfl) (by kernel_rfl) (fun _ _ _ h => h) (Or.inl ⟨by rfl, ?_⟩) (by assumption) ?_
                rotate_left
                · (intro w hSw; (try dsimp only at hSw); go_simp); try with_reducible rfl
                try simp only [Act.put, List.setIfInBounds_toArray, List.set_cons_zero, List.set_cons_succ]
                refine wpAnyH_take (i := 33) (oi := { dst := some 96, op := Go.Op.pick (Go.Operand.tmp 79) (Go.Operand.const (Go.Value.bool true)) (Go.Operand.tmp 95), type := 4, pos := "law.go:84", after := #[{ on := 16, ground := Go.Ground.data }, { on := 32, ground := Go.Ground.data }], guard := none }) (v := ?_) rfl (by kernel_rfl) (by kernel_rfl) (by kernel_rfl) (fun _ _ _ h => h) (Or.inl ⟨by rfl, ?_⟩) (by assumption) ?_
                rotate_left
                · (intro w hSw; (try dsimp only at hSw); go_simp); try with_reducible rfl
                try simp only [Act.put, List.setIfInBounds_toArray, List.set_cons_zero, List.set_cons_succ]
                refine wpAnyH_take (i := 34) (oi := { dst := some 97, op := Go.Op.move (Go.Operand.tmp 96), type := 4, pos := "law.go:84", after := #[{ on := 33, ground := Go.Ground.data }, { on := 22, ground := Go.Ground.chain }], guard := none }) (v := ?_) rfl (by kernel_rfl) (by kernel_rfl) (by kernel_rfl) (fun _ _ _ h => h) (Or.inl ⟨by rfl, ?_⟩) (by assumption) ?_
                rotate_left
                · (intro w hSw; (try dsimp only at hSw); go_simp); try with_reducible rfl
                try simp only [Act.put, List.setIfInBounds_toArray, List.set_cons_zero, List.set_cons_succ]
                refine wpAnyH_take (i := 35) (oi := { dst := some 98, op := Go.Op.move (Go.Operand.tmp 0), type := 22, pos := "law.go:84", after := #[{ on := 34, ground := Go.Ground.guard }], guard := some (34, false) }) (v := ?_) rfl (by kernel_rfl) (by kernel_rfl) (by kernel_rfl) (fun _ _ _ h => h) (Or.inl ⟨by rfl, ?_⟩) (by assumption) ?_
                rotate_left
                · (intro w hSw; (try dsimp only at hSw); go_simp); try with_reducible rfl
                try simp only [Act.put, List.setIfInBounds_toArray, List.set_cons_zero, List.set_cons_succ]
                refine wpAnyH_ready (rs := [36]) (by kernel_rfl) (by simp) ?_
                refine AllReadyH.cons (o := { dst := some 99, op := Go.Op.call { callee := Go.Callee.value (Go.Operand.func 18), args := #[Go.Operand.tmp 98], argTypes := #[22] }, type := 3, pos := "law.go:84", after := #[{ on := 35, ground := Go.Ground.data }, { on := 34, ground := Go.Ground.chain }, { on := 34, ground := Go.Ground.guard }], guard := some (34, false) }) rfl (fun K hK => ?_) AllReadyH.nil
                go_simp
                (go_at_call 18; refine (trace_Most.calls _ _ l0 ml _ (by repeat (first | exact HRB.out | (with_reducible refine Kd.C_drew ?_) | (with_reducible refine Kd.C_drewN ?_ _))) hc0 HML.out).mono ?_; rintro e wC ⟨rfl, hbC⟩)
                try go_wp2_with fail
                refine hK.out _ _ ?_ (fun hHeld36 => ?_)
                · (try dsimp only); (first | go_keep | (go_split_ands; exact ⟨⟨(hbC.cell (World.block_lt_of_cell? _ _ (by assumption))).trans (by assumption), (hbC.cell (World.block_lt_of_cell? _ _ (by assumption))).trans (by assumption)⟩, (hbC.cell (World.block_lt_of_cell? _ _ (by assumption))).trans (by assumption), (hbC.cell (World.block_lt_of_cell? _ _ (by assumption))).trans (by assumption)⟩))
                clear hK K hHeld
                have hHeld := hHeld36
                clear hHeld36
                try simp only [Act.put, List.setIfInBounds_toArray, List.set_cons_zero, List.set_cons_succ]
                refine wpAnyH_take (i := 37) (oi := { dst := some 100, op := Go.Op.binOp Go.BinOp.lss 3 (Go.Operand.tmp 99) (Go.Operand.const (Go.Value.int Go.IntKind.i64 2)) 3, type := 4, pos := "law.go:84", after := #[{ on := 36, ground := Go.Ground.data }, { on := 34, ground := Go.Ground.guard }], guard := some (34, false) }) (v := ?_) rfl (by kernel_rfl) (by kernel_rfl) (by kernel_rfl) (fun _ _ _ h => h) (Or.inl ⟨by rfl, ?_⟩) (by assumption) ?_
                rotate_left
                · (intro w hSw; (try dsimp only at hSw); go_simp); try with_reducible rfl
                try simp only [Act.put, List.setIfInBounds_toArray, List.set_cons_zero, List.set_cons_succ]
                refine wpAnyH_take (i := 38) (oi := { dst := some 101, op := Go.Op.pick (Go.Operand.tmp 97) (Go.Operand.const (Go.Value.bool true)) (Go.Operand.tmp 100), type := 4, pos := "law.go:84", after := #[{ on := 34, ground := Go.Ground.data }, { on := 37, ground := Go.Ground.data }], guard := none }) (v := ?_) rfl (by kernel_rfl) (by kernel_rfl) (by kernel_rfl) (fun _ _ _ h => h) (Or.inl ⟨by rfl, ?_⟩) (by assumption) ?_
                rotate_left
                · (intro w hSw; (try dsimp only at hSw); go_simp); try with_reducible rfl
                try simp only [Act.put, List.setIfInBounds_toArray, List.set_cons_zero, List.set_cons_succ]
                refine wpAnyH_done (by kernel_rfl) ?_ _
                have hbAll2 : Below w4.heap.size w4 wC := below_step (below_drew1 hbAll) hbC
                go_wp2_with fail
                go_roundw
                case rel => exact ⟨j + 1, by omega, by go_num, hbAll2⟩
                case measure => simp [intOf]; omega
          · have HBB := Lib.hid hbb
            clear hbb
            go_wp2_with fail
            go_region_held3 (fun w' => w'.cell? ⟨g3, i, none⟩ = some (.int .i64 (b : Int)) ∧ w'.cell? ⟨g3, j, none⟩ = some (.int .i64 (a : Int)))
              (first | go_keep | (go_split_ands; exact ⟨(hbA.cell (World.block_lt_of_cell? _ _ (by assumption))).trans (by assumption), (hbA.cell (World.block_lt_of_cell? _ _ (by assumption))).trans (by assumption)⟩) | (go_split_ands; exact ⟨(hbB.cell (World.block_lt_of_cell? _ _ (by assumption))).trans (by assumption), (hbB.cell (World.block_lt_of_cell? _ _ (by assumption))).trans (by assumption)⟩))
              (first
                | (go_at_call 16; have hCA_ := hCA; refine (Rows2.before_calls HF.out _ _ a b true _ (by repeat (first | exact hCA | (with_reducible refine Kd.C_drew ?_) | (with_reducible refine Kd.C_drewN ?_ _))) hc0 HBB.out).mono ?_; rintro e wB ⟨rfl, hbB⟩)
                | (go_at_call 16; refine (Rows2.before_calls HF.out _ _ b a false _ (by repeat (first | exact HRJ.out | (with_reducible refine Kd.C_drew ?_) | (with_reducible refine Kd.C_drewN ?_ _))) hc0 HAB.out).mono ?_; rintro e wA ⟨rfl, hbA⟩; have hCA := Kd.C_below (by repeat (first | exact HRJ.out | (with_reducible refine Kd.C_drew ?_) | (with_reducible refine Kd.C_drewN ?_ _))) hbA))
            have hbAll : Below w4.heap.size w4 wB := below_step (below_step (below_drew1 HNJ.out) hbA) hbB
            go_wp2_with fail
            go_roundw
            case rel => exact ⟨j + 1, by omega, by go_num, hbAll⟩
            case measure => simp [intOf]; omega
        · have hje : j = i := by omega
          subst hje
          clear hjl
          go_wp2_with fail
          go_roundw
          case rel => exact ⟨j + 1, by omega, by go_num, hnj⟩
          case measure => simp [intOf]; omega
    · have hke : i = m := by omega
      subst hke
      clear hlt
      go_wp2_with fail
      go_ret
      exact ⟨rfl, below_step hb14 hnx⟩
theorem on_any (A0 : Option Addr) (c0 : Nat) (l0 : List S37) (a1 : Int) (w : World) (hr0 : Kd.C k37 w A0 l0.length l0) (hc0 : l0.length ≤ c0) (hm0 : c0 ≤ maxLen) (hw : ∀ e ∈ l0, (Lit.int .i64 e.f1).wf = true) :
    Calls Try.prog 5 #[.slice A0 l0.length c0, .int .i64 a1] w fun e w' => e = .returned (.bool true) ∧ Below w.heap.size w w' := by
  unfold maxLen at hm0
  by_cases hl : (60 : Int) < l0.length
  · exact on_long A0 c0 l0 a1 w (by omega) hl
  · have hf : fitB l0 = true := fit_of (by omega) hw
    cases hr : rightB l0 a1 with
    | false => exact on_wrong A0 c0 l0 a1 w hr0 hc0 (by omega) (by rw [Rows2.ref_right_f hf, hr])
    | true => exact on_main A0 c0 l0 a1 w hr0 hc0 (by omega) hf hr
end Go.Proofs.Ytkcpifmdjnfgaaa.PTrace
