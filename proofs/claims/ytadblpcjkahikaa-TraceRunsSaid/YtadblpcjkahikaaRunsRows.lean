/- The scheduler's rows: calls, machines, events; what is read of them stays. -/
import Derived.Test.YtadblpcjkahikaaRunsCall
namespace Go.Proofs.YtadblpcjkahikaaW.PrintWords.Kd
open Go.RowKit
section
variable {α : Type} {d : Kd α} {e base g n cap : Nat} {ok okp : Nat → Prop} {W : World} {xs : List α}
theorem R_elem (h : d.R e W base ok (.slice (some ⟨g, 0, none⟩) n cap) xs) (z : α) (i : Int) (h0 : 0 ≤ i) (h1 : i < n) :
    ∃ c, c.length = d.sz ∧ d.M W base (fun k => ok k ∧ k ≠ g) (xs.getD i.toNat z) c ∧ (∀ j u, c[j]? = some u → W.cell? ⟨g, i.toNat * d.sz + j, none⟩ = some u) ∧ ∀ j, W.frozen? ⟨g, i.toNat * d.sz + j, none⟩ = false := by
  obtain ⟨hn, hnc, hC⟩ := R_reads' h
  obtain ⟨_, inner, ho, hr⟩ := h
  have hil : i.toNat < xs.length := by omega
  have hseg : i.toNat * d.sz + d.sz ≤ inner.length := by rw [hr.1, ← Nat.succ_mul]; exact Nat.mul_le_mul_right _ hil
  have hM := hr.2 i.toNat _ (List.getElem?_eq_getElem hil)
  refine ⟨(inner.drop (i.toNat * d.sz)).take d.sz, by rw [List.length_take, List.length_drop]; omega, ?_, fun j u hu => ?_, fun j => ?_⟩
  · rw [List.getD_eq_getElem?_getD, List.getElem?_eq_getElem hil]
    exact d.M_mono (fun k hk => ⟨hk.1, fun he => hk.2 (by rw [he]; simp [Value.ownBlock])⟩) hM
  · rw [List.getElem?_take] at hu
    split at hu
    · rw [List.getElem?_drop] at hu
      have := ho.cells (g := g) (by simp [Value.ownBlock]) _ u hu
      rwa [add_plain] at this
    · cases hu
  · obtain ⟨cells, hc⟩ := own_typed ho g (by simp [Value.ownBlock])
    exact blk_frozen hc _
end
end Go.Proofs.YtadblpcjkahikaaW.PrintWords.Kd
namespace Go.Proofs.YtadblpcjkahikaaW.PrintLast
open Go.RowKit Go.Proofs.YtadblpcjkahikaaW.PrintWords
section
variable {P : Program} {ops : Array Oper} {Q : Exit → Act → World → Prop} {md : Region.Mode} {S : World → Prop} {ds : List Nat}
theorem two_ {i j : Nat} {Ni Nj : Option Tmp} {oi oj : Oper} {fuel : Nat} {l : Array Bool} {a : Act} {w : World} (li lj : Array Bool) (hi : ops[i]? = some oi) (hj : ops[j]? = some oj) (hNi : oi.dst = Ni) (hNj : oj.dst = Nj)
    (hc : (Region.ready md ops l == [i, j] && l.setIfInBounds i true == li && l.setIfInBounds j true == lj) = true) (hdi : i ∉ ds) (hdj : j ∉ ds)
    (h1 : ∀ K : Act → World → Prop, Shut (∀ a' w', S w' → (S w' → wpAnyLast P md ops Q S ds fuel li a' w') → K a' w') → if Region.wanted oi (yielded ops a.tmps) = true then Oper.wp P oi a w K Q else K (a.put Ni undef) w)
    (h2 : ∀ K : Act → World → Prop, Shut (∀ a' w', S w' → (S w' → wpAnyLast P md ops Q S ds fuel lj a' w') → K a' w') → if Region.wanted oj (yielded ops a.tmps) = true then Oper.wp P oj a w K Q else K (a.put Nj undef) w) :
    wpAnyLast P md ops Q S ds (fuel + 1) l a w := by
  subst hNi
  subst hNj
  simp only [Bool.and_eq_true, beq_iff_eq] at hc
  obtain ⟨⟨h3, h4⟩, h5⟩ := hc
  subst h4
  subst h5
  exact wpAnyLast_ready h3 (by simp) (AllReadyL.cons hi hdi (fun K hK => h1 K hK) (AllReadyL.cons hj hdj (fun K hK => h2 K hK) AllReadyL.nil))
end
end Go.Proofs.YtadblpcjkahikaaW.PrintLast
namespace Go.Proofs.Ytadblpcjkahikaa.PTraceRuns
open Go.RowKit Go.Proofs.YtadblpcjkahikaaW.PrintWords Go.Proofs.YtadblpcjkahikaaW.PrintLast Go.Proofs.YtadblpcjkahikaaW.PrintMore
set_option linter.unusedVariables false

/-- A pointer, or none. -/
def kptr : Kd (Option Nat) := Kd.scalar (fun o => .pointer (bp o)) (fun _ => rfl)
theorem info62 : (Try.prog.info? 62).map (fun i => (i.zero, i.size, i.bytes)) = some (some (.pointer none), 1, 8) := by kernel_rfl
theorem info53 : (Try.prog.info? 53).map (fun i => (i.zero, i.size, i.bytes)) = some (some (.slice none 0 0), 1, 24) := by kernel_rfl
theorem info43 : (Try.prog.info? 43).map (fun i => (i.zero, i.size, i.bytes)) = some (some (.agg #[.int .i64 0, .int .i64 0, .int .i64 0]), 3, 24) := by kernel_rfl
theorem info48 : (Try.prog.info? 48).map (fun i => (i.zero, i.size, i.bytes)) = some (some (.agg #[.int .i64 0, .int .i64 0, .int .i64 0, .int .i64 0, .int .i64 0, .int .i64 0, .int .i64 0, .int .i64 0, .bool false, .int .i64 0]), 10, 80) := by kernel_rfl
theorem k43_openM {w : World} {base : Nat} {ok : Nat → Prop} {x : S43} {cs : List Value} (h : k43.M w base ok x cs) : cs = [.int .i64 x.f0, .int .i64 x.f1, .int .i64 x.f2] := by
  obtain ⟨_, _, rfl, rfl, ⟨_, _, rfl, rfl, rfl⟩⟩ := h
  exact rfl
def Ptrs (w : World) (v : Value) (xs : List (Option Nat)) : Prop := Kd.R kptr 62 w 0 (fun _ => True) v xs
def Rows43 (w : World) (v : Value) (xs : List (List S43)) : Prop := Kd.R (Kd.slice 43 k43) 53 w 0 (fun _ => True) v xs
def Evs (w : World) (v : Value) (xs : List S48) : Prop := Kd.R k48 48 w 0 (fun _ => True) v xs
section
variable {B : Nat} {M : Bool} {L : List Nat} {w w1 : World} {v : Value}
theorem Ptrs.fr {xs : List (Option Nat)} (h : Ptrs w v xs) (hf : Fr B M L w w1) : Ptrs w1 v xs := row_fr h hf (by decide)
theorem Rows43.fr {xs : List (List S43)} (h : Rows43 w v xs) (hf : Fr B M L w w1) : Rows43 w1 v xs := row_fr h hf (by decide)
theorem Evs.fr {xs : List S48} (h : Evs w v xs) (hf : Fr B M L w w1) : Evs w1 v xs := row_fr h hf (by decide)
end
theorem row_free {α : Type} {d : Kd α} {e b : Nat} {ok : Nat → Prop} {w : World} {v : Value} {xs : List α} (h : d.R e w b ok v xs) : d.R e w 0 (fun _ => True) v xs := Kd.R_mono (Kd.R_lower h (Nat.zero_le _)) (fun _ _ => trivial)
/-- Element i of a row that stays. -/
theorem elem_at {α : Type} {d : Kd α} {e b n c B : Nat} {L : List Nat} {ok : Nat → Prop} {w : World} {A : Option Addr} {xs : List α} (hr : d.R e w b ok (.slice A n c) xs) (he : e ∉ mtypes) (z : α) (i : Nat) (hi : i < n) :
    ∃ g cs, A = some ⟨g, 0, none⟩ ∧ (∀ k o t fr, w.heap[k]? = some (.cells o t fr) → t ≠ e → g ≠ k) ∧ (∃ ok', d.M w b ok' (xs.getD i z) cs) ∧ ∀ W, Fr B true L w W → ∀ j u, cs[j]? = some u → W.cell? ⟨g, i * d.sz + j, none⟩ = some u := by
  obtain ⟨g, rfl⟩ : ∃ g, A = some ⟨g, 0, none⟩ := by
    obtain ⟨_, inner, ho, _⟩ := hr
    rcases ho.2 with ⟨hv, h0⟩ | ⟨g, cap', cur, hv, _⟩
    · injection hv with _ e2 _; omega
    · injection hv with ha _ _
      exact ⟨g, ha⟩
  obtain ⟨cs, hl, hM, hc, _⟩ := Kd.R_elem hr z (i : Int) (by omega) (by omega)
  rw [Int.toNat_natCast] at hM
  simp only [Int.toNat_natCast] at hc
  obtain ⟨_, cells, hb⟩ := R_typed' hr g rfl
  refine ⟨g, cs, rfl, fun k o t fr hk ht e1 => ?_, ⟨_, hM⟩, fun W hW j u hu => ?_⟩
  · subst e1
    rw [hb] at hk; injection hk with hk; injection hk with _ hk; exact ht hk.symm
  · have h1 := hc j u hu
    have h2 : W.heap[g]? = some (.cells cells e (0, 0)) := hW.blk g _ hb (.inr fun cs' t' fr' e' ht => by injection e' with _ e2; subst e2; exact absurd ht he)
    have e3 : ∀ (p : Addr), p.block = g → W.cell? p = w.cell? p := fun p hp => by subst hp; simp only [World.cell?, hb, h2]
    rw [e3 _ rfl]; exact h1
/-- The machine of a thread. -/
theorem ptr_at {n c B : Nat} {L : List Nat} {w : World} {A : Option Addr} {xs : List (Option Nat)} (hr : Ptrs w (.slice A n c) xs) (i : Nat) (hi : i < n) :
    ∃ g, A = some ⟨g, 0, none⟩ ∧ (∀ k o t fr, w.heap[k]? = some (.cells o t fr) → t ≠ 62 → g ≠ k) ∧ Hid (∀ W, Fr B true L w W → W.cell? ⟨g, i, none⟩ = some (.pointer (bp (xs.getD i none)))) := by
  obtain ⟨g, cs, e, hne, ⟨_, hM⟩, h⟩ := elem_at (B := B) (L := L) hr (by decide) none i hi
  refine ⟨g, e, hne, Lib.hid (fun W hW => ?_)⟩
  have hM : cs = [.pointer (bp (xs.getD i none))] := hM
  subst hM
  simpa [show kptr.sz = 1 from rfl] using h W hW 0 _ rfl
/-- Call j of thread i. -/
theorem call_at {n c B : Nat} {L : List Nat} {w : World} {A : Option Addr} {xs : List (List S43)} (hr : Rows43 w (.slice A n c) xs) (i : Nat) (hi : i < n) :
    ∃ g AI cI, A = some ⟨g, 0, none⟩ ∧ (∀ k o t fr, w.heap[k]? = some (.cells o t fr) → t ≠ 53 → g ≠ k) ∧ (xs.getD i []).length ≤ cI ∧ Hid (∀ W, Fr B true L w W → W.cell? ⟨g, i, none⟩ = some (.slice AI (xs.getD i []).length cI)) ∧
      (∀ j : Nat, j < (xs.getD i []).length → ∃ gI, AI = some ⟨gI, 0, none⟩ ∧ (∀ k o t fr, w.heap[k]? = some (.cells o t fr) → t ≠ 43 → gI ≠ k) ∧ Hid (∀ W, Fr B true L w W → W.cell? ⟨gI, j * 3, none⟩ = some (.int .i64 (rd_T43 (xs.getD i []) j).f0) ∧ W.cell? ⟨gI, j * 3 + 1, none⟩ = some (.int .i64 (rd_T43 (xs.getD i []) j).f1) ∧ W.cell? ⟨gI, j * 3 + 2, none⟩ = some (.int .i64 (rd_T43 (xs.getD i []) j).f2))) := by
  obtain ⟨g, cs, e, hne, ⟨_, hM⟩, h⟩ := elem_at (B := B) (L := L) hr (by decide) [] i hi
  obtain ⟨v, e1, hR⟩ := hM
  subst e1
  obtain ⟨AI, cI, e2, hle, _⟩ := Kd.R_reads hR
  subst e2
  refine ⟨g, AI, cI, e, hne, hle, Lib.hid (fun W hW => by simpa [show (Kd.slice 43 k43).sz = 1 from rfl] using h W hW 0 _ rfl), fun j hj => ?_⟩
  obtain ⟨gI, cs2, e3, hne2, ⟨_, hM2⟩, h2⟩ := elem_at (B := B) (L := L) hR (by decide) z43 j hj
  have e4 := k43_openM hM2
  subst e4
  have e5 : rd_T43 (xs.getD i []) (j : Int) = (xs.getD i []).getD j z43 := by unfold rd_T43; rw [Int.toNat_natCast]
  rw [e5]
  exact ⟨gI, e3, hne2, Lib.hid (fun W hW => ⟨by simpa [show k43.sz = 3 from rfl] using h2 W hW 0 _ rfl, by simpa [show k43.sz = 3 from rfl] using h2 W hW 1 _ rfl, by simpa [show k43.sz = 3 from rfl] using h2 W hW 2 _ rfl⟩)⟩
section
variable {P : Program} {ops : List Oper} {Q : Exit → Act → World → Prop} {S : World → Prop} {ds : List Nat}
/-- Two events may come up. -/
theorem ch_two {i j x : Nat} {is : List Nat} {Ni Nj : Option Tmp} {oi oj : Oper} {l : Array Bool} {a : Act} {w : World} (hi : nth ops i = some oi) (hj : nth ops j = some oj) (hNi : oi.dst = Ni) (hNj : oj.dst = Nj)
    (hc : (Region.ready .any ops.toArray l == [i, j] && l.setIfInBounds i true == l.setIfInBounds i true && l.setIfInBounds j true == l.setIfInBounds j true) = true) (hdi : i ∉ ds) (hdj : j ∉ ds)
    (h1 : ∀ K : Act → World → Prop, Shut (∀ a' w', S w' → (S w' → Ch P ops Q S ds is (l.setIfInBounds i true) a' w') → K a' w') → if Region.wanted oi (yielded ops.toArray a.tmps) = true then Oper.wp P oi a w K Q else K (a.put Ni undef) w)
    (h2 : ∀ K : Act → World → Prop, Shut (∀ a' w', S w' → (S w' → Ch P ops Q S ds is (l.setIfInBounds j true) a' w') → K a' w') → if Region.wanted oj (yielded ops.toArray a.tmps) = true then Oper.wp P oj a w K Q else K (a.put Nj undef) w) :
    Ch P ops Q S ds (x :: is) l a w :=
  two_ _ _ (by simpa [nth_eq] using hi) (by simpa [nth_eq] using hj) hNi hNj hc hdi hdj h1 h2
end
end Go.Proofs.Ytadblpcjkahikaa.PTraceRuns
