/- For every w and values, so many next words have so many versions more, going round, and the last value, and none is one that was: the law returns true. Conditions: none.
   The frame was written by proof-skeleton.mjs; the walk is the seat's own. -/
import Derived.Test.YtpkjhddflhgeoaaPackWalks
import Derived.Test.YtpkjhddflhgeoaaPackRowPlain
import Derived.Deep.QuietTactic
import Derived.BigQuiet
import Derived.Lib.Hide
import Derived.Laws.OwnMore
import Derived.WalkKit
import Derived.ProofKit
import Derived.OpenShut
import Derived.ShutString
import Derived.ChangeOld
import Derived.Below
namespace Go.Proofs.Ytpkjhddflhgeoaa.packRow
open Go.ChangeShapes Go.WideShapes Go.ChangeAt Go.RowKit
open Go.ChangeMaps (open_string shut_string)
set_option linter.unusedVariables false

theorem own : ownKnob Try.prog.godebug = none := by kernel_rfl
theorem laidOut : laidOutB Try.prog = true := by kernel_rfl

/-- WHAT THE WALK IS TOLD OF A SLICE OF INTEGERS THAT CAME IN: it is nil; or it leads to a row of 'cap' cells, the numbers 'zs' (the first 'len' are its elements, the rest its spare room), each fitting its kind. -/
def IsRow (k : IntKind) (w : World) (a : Option Addr) (len cap : Nat) (zs : List Int) : Prop :=
  (a = none ∧ len = 0 ∧ cap = 0 ∧ zs = []) ∨
  ∃ x, a = some x ∧ len ≤ cap ∧ cap ≤ maxLen ∧ zs.length = cap ∧ (∀ i, i < zs.length → w.cell? (x.add i) = some (.int k (zs.getD i 0))) ∧ ∀ n ∈ zs, (Lit.int k n).wf = true

theorem Try.info3 : (Try.prog.info? 3).map (fun i => (i.zero, i.size, i.bytes)) = some (some (.int .i64 0), 1, 8) := by kernel_rfl
theorem val_q (x : Int) (n : Nat) (u : World) : Calls Try.prog 16 #[.int .i64 x] (u.drewN n) fun e u'' => e = .returned (.int .i64 (val x)) ∧ ∃ m, u'' = u.drewN m :=
  (val_any x (u.drewN n)).mono fun _ _ ⟨he, hu⟩ => ⟨he, n, hu.symm⟩
theorem own_slice {w : World} {B : Nat} {v : Value} {n : Nat} {xs : List Value} (h : w.ownsRow B 3 1 v n xs) (hn : 0 < n) : ∃ g cap, v = .slice (some ⟨g, 0, none⟩) n cap ∧ n ≤ cap ∧ cap ≤ maxLen := by
  obtain ⟨_, h⟩ := h
  rcases h with ⟨_, h0⟩ | ⟨g, cap, _, hv, _, _, h1, h2, _⟩
  · omega
  · exact ⟨g, cap, hv, h1, h2⟩
set_option maxRecDepth 100000 in
set_option maxHeartbeats 1000000 in
theorem row_early (a0 : Int) (a1 : Option Addr) (len1 cap1 : Nat) (w : World) (h : 300 < len1) (hm : len1 ≤ maxLen) :
    Calls Try.prog 8 #[.int .i64 a0, .slice a1 len1 cap1] w fun e w' => e = .returned (.bool true) ∧ Below w.heap.size w w' := by
  unfold maxLen at hm
  go_enter Try.func8, Try.ntmps8
  go_wp2_with (go_at_call 9; refine (head_any _).mono ?_; rintro e u1 ⟨rfl, rfl⟩)
  go_ret
  exact ⟨rfl, Below.refl _ _⟩
set_option maxRecDepth 100000 in
set_option maxHeartbeats 1000000 in
theorem row_empty (a0 : Int) (a1 : Option Addr) (cap1 : Nat) (w : World) :
    Calls Try.prog 8 #[.int .i64 a0, .slice a1 0 cap1] w fun e w' => e = .returned (.bool true) ∧ Below w.heap.size w w' := by
  obtain ⟨h1, h2⟩ := ver_bd a0
  have h3 : (ver a0 == ver a0 % 4294967296) = true := by rw [beq_iff_eq]; omega
  go_enter Try.func8, Try.ntmps8
  go_wp2_with (go_at_call 9; refine (head_any _).mono ?_; rintro e u1 ⟨rfl, rfl⟩)
  refine wp_loop_rounds 1 ?_
  rw [rounds_succ]
  go_wp2_with (go_at_call 14; refine (ver_any _ _).mono ?_; rintro e u1 ⟨rfl, rfl⟩)
  go_ret
  exact ⟨rfl, Below.refl _ _⟩
set_option maxRecDepth 100000 in
set_option maxHeartbeats 2000000 in
theorem row_main (a0 : Int) (b off len1 cap1 : Nat) (zs : List Int) (w : World) (h0 : 0 < len1) (h300 : len1 ≤ 300) (hbw : b < w.heap.size)
    (hc : ∀ j, j < len1 → w.cell? ⟨b, off + j, none⟩ = some (.int .i32 (zs[j]?.getD 0))) (hz : ∀ k, k < len1 → okB 0 (zs[k]?.getD 0) = true) :
    Calls Try.prog 8 #[.int .i64 a0, .slice (some ⟨b, off, none⟩) len1 cap1] w fun e w' => e = .returned (.bool true) ∧ Below w.heap.size w w' := by
  obtain ⟨i0, hi, hz0, hz1, hz2⟩ := info_parts Try.info3
  have HZ := Lib.hid hz
  have HC := Lib.hid hc
  clear hz hc
  go_enter Try.func8, Try.ntmps8
  go_wp2_with (go_at_call 9; refine (head_any _).mono ?_; rintro e u1 ⟨rfl, rfl⟩)
  go_loopw [6, 7, 8] (fun x v i wr => ∃ k : Nat, k ≤ len1 ∧ i = .int .i64 k ∧ x = .int .i64 (rowW a0 zs k) ∧ wr.ownsRow w.heap.size 3 1 v k ((metW a0 zs k).map (Value.int .i64)) ∧ Below w.heap.size w wr)
    (fun _ _ i _ => len1 - (intOf i).toNat)
  case atStart => exact ⟨0, Nat.zero_le _, rfl, rfl, World.ownsRow_nil _ _ _ _, Below.refl _ _⟩
  case round =>
    obtain ⟨k, hk, rfl, rfl, hown, hnx⟩ := hrel
    have hsz := hnx.size
    by_cases hlt : k < len1
    · have hcx : wr.cell? ⟨b, off + k, none⟩ = some (.int .i32 (zs[k]?.getD 0)) := (hnx.cell (by exact hbw)).trans (HC.out k hlt)
      have hzk := HZ.out k hlt
      have hvk := rowW_val a0 zs k hzk
      have hzb := okB_iff.1 hzk
      obtain ⟨z, hzz⟩ : ∃ z, zs[k]?.getD 0 = z := ⟨_, rfl⟩
      have HN : Hid (nextN (rowW a0 zs k) z = rowW a0 zs (k + 1)) := by rw [← hzz]; exact rfl
      rw [hzz] at hcx hzk hvk hzb
      obtain ⟨_, _, hzb1, hzb2⟩ := hzb
      obtain ⟨y, hy⟩ : ∃ y, rowW a0 zs (k + 1) = y := ⟨_, rfl⟩
      have HY := Lib.hid hy
      rw [hy] at hvk HN
      clear hzz hy
      go_wp2_with (at_builtin; refine wpList_append_own _ rfl _ _ 30 rfl w.heap.size 3 i0 (.int .i64 0) 1 8 Try.underlying30 hi hz0 hz1 hz2 rfl (by decide) _ _ _ rfl (hown.alloc _) ⟨wr.heap.size, 0, none⟩ 1 1 [.int .i64 (rowW a0 zs k)] rfl rfl ?c1 ?c2 ?c3 ?c4 ?c5 ?_)
      case c1 =>
        intro j u hj
        match j, hj with
        | 0, hj => simp at hj; subst hj; simp [Addr.add]
      case c2 => intro u hu; simp at hu; subst hu; rfl
      case c3 => unfold maxLen; omega
      case c4 => omega
      case c5 => simp; omega
      intro v' w1 hown' hgrow _
      have hb1 : Below w.heap.size w w1 := (hnx.alloc hsz _).grown hgrow (by simp; omega) (fun j hj => by have := (hown.lt j hj).1; omega)
      have hcx1 : w1.cell? ⟨b, off + k, none⟩ = some (.int .i32 z) := by
        rw [hb1.cell (by exact hbw), ← hnx.cell (by exact hbw)]; exact hcx
      obtain ⟨g, cap, hv, hc1, hc2⟩ := own_slice hown' (by omega)
      subst hv
      have hrd : ∀ j, j < k + 1 → w1.cell? ⟨g, j, none⟩ = some (.int .i64 (rowW a0 zs j)) := by
        intro j hj
        rw [hown'.cellAt j (by omega)]
        have e : (metW a0 zs k).map (Value.int .i64) ++ [Value.int .i64 (rowW a0 zs k)] = (metW a0 zs (k + 1)).map (Value.int .i64) := by rw [metW_succ]; simp
        rw [e, List.getElem?_map, metW_at _ _ _ _ hj]
        rfl
      have HR := Lib.hid hrd
      have hown2 : w1.ownsRow w.heap.size 3 1 (.slice (some ⟨g, 0, none⟩) (k + 1) cap) (k + 1) ((metW a0 zs (k + 1)).map (Value.int .i64)) := by
        rw [metW_succ]; simpa using hown'
      have HO := Lib.hid hown2
      clear hown' hown2 hgrow hown hcx hrd
      unfold maxLen at hc2
      go_wp2_with fail
      refine (next_any _ _ _).mono ?_
      rintro e u1 ⟨rfl, rfl⟩
      rw [HN.out]
      go_wp2_with fail
      go_quiet ((go_at_call 16; exact val_q _ _ _))
      go_wp2_with fail
      go_loop [11] (fun i => ∃ j : Nat, j ≤ k + 1 ∧ i = .int .i64 j) (fun i => k + 1 - (intOf i).toNat)
      case atStart => exact ⟨0, Nat.zero_le _, rfl⟩
      case round =>
        obtain ⟨j, hj, rfl⟩ := hrel
        by_cases hjlt : j < k + 1
        · have hcj := HR.out j hjlt
          have hne := rowW_ne a0 zs len1 HZ.out h300 j (k + 1) hjlt (by omega)
          rw [HY.out] at hne
          have hne' : (rowW a0 zs j == y) = false := beq_eq_false_iff_ne.2 hne
          clear hne
          go_wp2
          go_round
          case rel => exact ⟨j + 1, by omega, by go_num⟩
          case measure => simp [intOf]; omega
        · have hje : j = k + 1 := by omega
          subst hje
          go_wp2
          go_roundw
          case rel => exact ⟨k + 1, by omega, by go_num, by rw [HY.out], HO.out, ⟨hb1.os, hb1.tape, hb1.output, hb1.size, hb1.block⟩⟩
          case measure => simp [intOf]; omega
    · have hke : k = len1 := by omega
      subst hke
      have hver := Lib.hid (rowW_ver a0 zs k HZ.out k (Nat.le_refl _))
      obtain ⟨v1, v2⟩ := ver_bd a0
      clear hown hlt
      go_wp2_with fail
      refine (ver_any _ _).mono ?_
      rintro e u1 ⟨rfl, rfl⟩
      rw [hver.out]
      go_wp2_with fail
      refine (ver_any _ _).mono ?_
      rintro e u1 ⟨rfl, rfl⟩
      go_wp2_with fail
      go_ret
      exact ⟨rfl, hnx⟩

/-! ### STEP 1: THE WALK: the Go text returns true, AND WRITES NOTHING THAT WAS THERE: 'Below w.heap.size w w'' (Derived/Below.lean: '.refl', '.alloc', '.drew', '.setCell' at a new block, '.trans'). Open each 'IsRow' by 'rcases' AHEAD of 'go_enter'; part every test ahead of the walk. -/
theorem walk (a0 : Int) (a1 : Option Addr) (len1 cap1 : Nat) (z1 : List Int) (w : World) (w0 : (Lit.int .i64 a0).wf = true) (w1 : IsRow .i32 w a1 len1 cap1 z1) :
    Calls Try.prog 8 #[.int .i64 a0, .slice a1 len1 cap1] w fun e w' => e = .returned (.bool true) ∧ Below w.heap.size w w' := by
  rcases w1 with ⟨rfl, rfl, rfl, _⟩ | ⟨x, rfl, hl, hm, hz, hcell, hwf⟩
  · exact row_empty a0 none 0 w
  · by_cases h300 : 300 < len1
    · exact row_early a0 _ len1 cap1 w h300 (by omega)
    · by_cases h0 : len1 = 0
      · subst h0
        exact row_empty a0 _ cap1 w
      · obtain ⟨b, off, rfl, hc⟩ := ints_at hcell (by omega)
        refine row_main a0 b off len1 cap1 z1 w (by omega) (by omega) ?_ (fun j hj => ?_) (fun j hj => ?_)
        · exact World.block_lt_of_cell? w _ (hc 0 (by omega))
        · have := hc j (by omega)
          rw [List.getD_eq_getElem?_getD] at this
          exact this
        · have hmem := range_i32 hwf j
          rw [okB_iff]
          omega

/-! ### THE ROW's STEP:  -/
set_option maxRecDepth 100000 in
theorem lifted (os : Os) (started : os.Started) (H : Type) (enc : TypeId × Value → H) :
    ReturnsInHanded {} Try.checked os 8 .any (Rows.packRowSpec.pre6 enc Try.prog Try.f8 Rows.packRowRow.domain false) (Rows.packRowSpec.post enc Try.prog Try.f8 false true false false) := by
  refine returnsInHanded_of_change (C := Try.checked) own started (by kernel_rfl) Try.func8
    (ChangeSpec.witness6 (enc := enc) (C := Try.checked) false ⟨#[], #[.int .i64 0, .slice none 0 0], []⟩ 8 (by kernel_rfl) (by kernel_rfl) (by kernel_rfl) (by kernel_rfl)) ?_
  intro W base args ds gs before hval0 hW hcnd _
  have hval : ∀ (j : Nat) t v, Try.f8.params[j]? = some t → args[j]? = some v → Value.okWide Try.prog W .any base t v := hval0
  have hW' := hW
  obtain ⟨p, q, hA0, hV, rfl, hfz, hnd⟩ := hW
  have hA : DataW.TrodAll enc Try.prog W 0 (fun _ => true) true Try.f8.params.toList args.toList ds p := hA0
  rw [Try.params8] at hA hval
  obtain ⟨v0, vs0, d0, ds0, p0, q0, hargs, rfl, rfl, h0, r0⟩ := trodAll_cons hA
  obtain ⟨v1, vs1, d1, ds1, p1, q1, rfl, rfl, rfl, h1, r1⟩ := trodAll_cons r0
  obtain ⟨rfl, rfl, rfl⟩ := trodAll_nil r1
  obtain rfl : args = #[v0, v1] := by cases args; simp_all
  obtain ⟨rfl, rfl⟩ := trodVars_none hV
  obtain ⟨a0, rfl, rfl, rfl, w0⟩ := open_int Try.underlying3 (hval 0 3 v0 rfl rfl) h0
  obtain ⟨a1, len1, cap1, rfl⟩ := okWide_slice Try.underlying29 (hval 1 29 v1 rfl rfl)
  have k1 := h1
  have lt1 : ∀ x ∈ p1, x.block < W.heap.size := by obtain ⟨m, hm⟩ := k1; exact DataW.trod_lt m _ _ _ hm
  obtain ⟨z1, w1⟩ : ∃ zs, IsRow .i32 W a1 len1 cap1 zs := by
    obtain ⟨fuel, hf⟩ := h1
    rcases open_ints Try.underlying29 Try.underlying21 (by kernel_rfl) hf with ⟨hcs, _⟩ | ⟨x, l, c, zs, hcs, _, hl, hm, hz, _, hcell, hwz⟩
    · simp [Value.cells] at hcs
      obtain ⟨rfl, rfl, rfl⟩ := hcs
      exact ⟨[], .inl ⟨rfl, rfl, rfl, rfl⟩⟩
    · simp [Value.cells] at hcs
      obtain ⟨rfl, rfl, rfl⟩ := hcs
      exact ⟨zs, .inr ⟨_, rfl, hl, hm, by simpa using hz, hcell, hwz⟩⟩
  clear hA0 hval0
  refine (walk a0 a1 len1 cap1 z1 W w0 w1).mono fun e W' ⟨he, bel⟩ => ?_
  subst he
  exact ⟨_, rfl, _, _, _, [], _, [], hW', trodAll_mk1 (shut_bool Try.underlying4 _), (trodAll_cons_mk (shut_int Try.underlying3 w0) (trodAll_cons_mk (Below.trod laidOut (by kernel_rfl) (of_decide_eq_true (by kernel_rfl)) k1 bel lt1) trodAll_mk0)), rfl, bel.frame _, fun h => by cases h⟩

theorem over : Rows.packRowRow.holds Try.pinned (OpenSpec.ofChange Rows.packRowSpec) :=
  OpenClaim.holds_of_wide 8 Try.f8 rfl rfl rfl rfl rfl rfl rfl ⟨rfl, rfl, rfl, rfl, rfl⟩ rfl rfl rfl rfl rfl (by kernel_rfl) Try.func8 (by kernel_rfl)
    (of_decide_eq_true (by kernel_rfl)) (by unfold Func.isWrapper; first | (rw [if_pos (by decide +kernel)]; kernel_rfl) | (rw [if_neg (by decide +kernel)]; exact ⟨rfl, rfl⟩))
    (fun os started H enc _ => lifted os started H enc)

/-- ████ THE STATEMENT ████ -/
theorem proved : Rows.PackRowSaid := over
#print axioms proved
end Go.Proofs.Ytpkjhddflhgeoaa.packRow
