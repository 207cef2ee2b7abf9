
import Derived.Test.YtadblpcjkahikaaPTraceRunsx0
import Derived.Test.YtadblpcjkahikaaPTraceRunsx6
namespace Go.Proofs.Ytadblpcjkahikaa.PTraceRuns
open Go.RowKit Go.Proofs.YtadblpcjkahikaaW.PrintWords Go.Proofs.YtadblpcjkahikaaW.PrintLast Go.Proofs.YtadblpcjkahikaaW.PrintMore
attribute [local go_sem] max2_int min2_int max_two min_two max_three min_three max_four min_four
set_option linter.unusedVariables false
set_option linter.unusedSimpArgs false
set_option maxHeartbeats 8000000
set_option maxRecDepth 100000
def IsS115 (w0 W:World) (g:Nat) (f0:Int) (f1:Int) (f2:Int) (f3:Int) (f4:Int) (f5:Int) (f6:List Int) (f7:List Int) (f8:Int) (f9:Int) (f10:Int) (f11:Int) (f12:Int) (f13:Int) (f14:Int) (f15:Int) (f16:Int) (f17:Bool) (f18:Int):Prop:=∃ A6 c6,∃ A7 c7,W.heap[g]? = some (.cells #[.int .i64 f0,.int .i64 f1,.int .i64 f2,.int .i64 f3,.int .i64 f4,.int .i64 f5,.slice A6 f6.length c6,.slice A7 f7.length c7,.int .i64 f8,.int .i64 f9,.int .i64 f10,.int .i64 f11,.int .i64 f12,.int .i64 f13,.int .i64 f14,.int .i64 f15,.int .i64 f16,.bool f17,.int .i64 f18] 115 (0,0))∧w0.heap.size ≤ g∧Kd.C (Kd.int .i64) w0 A6 f6.length f6∧Kd.C (Kd.int .i64) w0 A7 f7.length f7
theorem IsS115.grown {w0 W:World} {g:Nat} {f0:Int} {f1:Int} {f2:Int} {f3:Int} {f4:Int} {f5:Int} {f6:List Int} {f7:List Int} {f8:Int} {f9:Int} {f10:Int} {f11:Int} {f12:Int} {f13:Int} {f14:Int} {f15:Int} {f16:Int} {f17:Bool} {f18:Int} {W1:World} {row:Option Nat} (h:IsS115 w0 W g f0 f1 f2 f3 f4 f5 f6 f7 f8 f9 f10 f11 f12 f13 f14 f15 f16 f17 f18) (hw:W.grownBy W1 row) (hne:some g ≠ row):IsS115 w0 W1 g f0 f1 f2 f3 f4 f5 f6 f7 f8 f9 f10 f11 f12 f13 f14 f15 f16 f17 f18:=by
 obtain ⟨A6,c6,A7,c7,hb,hg,hr6,hr7⟩:=h
 exact ⟨A6,c6,A7,c7,blk_grown hb hw hne,hg,hr6,hr7⟩
theorem IsS115.kept {w0 W:World} {g:Nat} {f0:Int} {f1:Int} {f2:Int} {f3:Int} {f4:Int} {f5:Int} {f6:List Int} {f7:List Int} {f8:Int} {f9:Int} {f10:Int} {f11:Int} {f12:Int} {f13:Int} {f14:Int} {f15:Int} {f16:Int} {f17:Bool} {f18:Int} {W1:World} {S:Nat→Prop} (h:IsS115 w0 W g f0 f1 f2 f3 f4 f5 f6 f7 f8 f9 f10 f11 f12 f13 f14 f15 f16 f17 f18) (hk:Kept W W1 S) (hne:¬ S g):IsS115 w0 W1 g f0 f1 f2 f3 f4 f5 f6 f7 f8 f9 f10 f11 f12 f13 f14 f15 f16 f17 f18:=by
 obtain ⟨A6,c6,A7,c7,hb,hg,hr6,hr7⟩:=h
 exact ⟨A6,c6,A7,c7,blk_kept hb hk hne,hg,hr6,hr7⟩
theorem IsS115.below {w0 W:World} {g:Nat} {f0:Int} {f1:Int} {f2:Int} {f3:Int} {f4:Int} {f5:Int} {f6:List Int} {f7:List Int} {f8:Int} {f9:Int} {f10:Int} {f11:Int} {f12:Int} {f13:Int} {f14:Int} {f15:Int} {f16:Int} {f17:Bool} {f18:Int} {W1:World} (h:IsS115 w0 W g f0 f1 f2 f3 f4 f5 f6 f7 f8 f9 f10 f11 f12 f13 f14 f15 f16 f17 f18) (hw:Below W.heap.size W W1):IsS115 w0 W1 g f0 f1 f2 f3 f4 f5 f6 f7 f8 f9 f10 f11 f12 f13 f14 f15 f16 f17 f18:=h.grown (grown_of_below hw none) (by simp)
theorem IsS115.alloc {w0 W:World} {g:Nat} {f0:Int} {f1:Int} {f2:Int} {f3:Int} {f4:Int} {f5:Int} {f6:List Int} {f7:List Int} {f8:Int} {f9:Int} {f10:Int} {f11:Int} {f12:Int} {f13:Int} {f14:Int} {f15:Int} {f16:Int} {f17:Bool} {f18:Int} (h:IsS115 w0 W g f0 f1 f2 f3 f4 f5 f6 f7 f8 f9 f10 f11 f12 f13 f14 f15 f16 f17 f18) (o:Obj):IsS115 w0 (W.alloc o) g f0 f1 f2 f3 f4 f5 f6 f7 f8 f9 f10 f11 f12 f13 f14 f15 f16 f17 f18:=h.below (below_alloc (Below.refl _ _) o)
theorem IsS115.drewN {w0 W:World} {g:Nat} {f0:Int} {f1:Int} {f2:Int} {f3:Int} {f4:Int} {f5:Int} {f6:List Int} {f7:List Int} {f8:Int} {f9:Int} {f10:Int} {f11:Int} {f12:Int} {f13:Int} {f14:Int} {f15:Int} {f16:Int} {f17:Bool} {f18:Int} (h:IsS115 w0 W g f0 f1 f2 f3 f4 f5 f6 f7 f8 f9 f10 f11 f12 f13 f14 f15 f16 f17 f18) (m:Nat):IsS115 w0 (W.drewN m) g f0 f1 f2 f3 f4 f5 f6 f7 f8 f9 f10 f11 f12 f13 f14 f15 f16 f17 f18:=h
theorem IsS115.drew {w0 W:World} {g:Nat} {f0:Int} {f1:Int} {f2:Int} {f3:Int} {f4:Int} {f5:Int} {f6:List Int} {f7:List Int} {f8:Int} {f9:Int} {f10:Int} {f11:Int} {f12:Int} {f13:Int} {f14:Int} {f15:Int} {f16:Int} {f17:Bool} {f18:Int} (h:IsS115 w0 W g f0 f1 f2 f3 f4 f5 f6 f7 f8 f9 f10 f11 f12 f13 f14 f15 f16 f17 f18):IsS115 w0 W.drew g f0 f1 f2 f3 f4 f5 f6 f7 f8 f9 f10 f11 f12 f13 f14 f15 f16 f17 f18:=h
theorem IsS115.at_ {w0 W:World} {g:Nat} {f0:Int} {f1:Int} {f2:Int} {f3:Int} {f4:Int} {f5:Int} {f6:List Int} {f7:List Int} {f8:Int} {f9:Int} {f10:Int} {f11:Int} {f12:Int} {f13:Int} {f14:Int} {f15:Int} {f16:Int} {f17:Bool} {f18:Int} {w':World} {m:Nat} (hq:W.drewN m = w') (h:IsS115 w0 W g f0 f1 f2 f3 f4 f5 f6 f7 f8 f9 f10 f11 f12 f13 f14 f15 f16 f17 f18):IsS115 w0 w' g f0 f1 f2 f3 f4 f5 f6 f7 f8 f9 f10 f11 f12 f13 f14 f15 f16 f17 f18:=by subst hq;exact IsS115.drewN h m
theorem IsS115.apart {w0 W:World} {g:Nat} {f0:Int} {f1:Int} {f2:Int} {f3:Int} {f4:Int} {f5:Int} {f6:List Int} {f7:List Int} {f8:Int} {f9:Int} {f10:Int} {f11:Int} {f12:Int} {f13:Int} {f14:Int} {f15:Int} {f16:Int} {f17:Bool} {f18:Int} {α:Type} {d:Kd α} {e:Nat} {base:Nat} {ok:Nat→Prop} {v:Value} {xs:List α} (h:IsS115 w0 W g f0 f1 f2 f3 f4 f5 f6 f7 f8 f9 f10 f11 f12 f13 f14 f15 f16 f17 f18) (ho:d.R e W base ok v xs) (ht:∀ q,q ∈ e :: d.E→q ≠ 115):d.R e W base (fun k=>ok k∧k ≠ g) v xs:=by
 obtain ⟨A6,c6,A7,c7,hb,hg,hr6,hr7⟩:=h
 exact Kd.R_types ho hb ht
theorem IsS115.own_ne {w0 W:World} {g:Nat} {f0:Int} {f1:Int} {f2:Int} {f3:Int} {f4:Int} {f5:Int} {f6:List Int} {f7:List Int} {f8:Int} {f9:Int} {f10:Int} {f11:Int} {f12:Int} {f13:Int} {f14:Int} {f15:Int} {f16:Int} {f17:Bool} {f18:Int} {α:Type} {d:Kd α} {e:Nat} {base:Nat} {ok:Nat→Prop} {v:Value} {xs:List α} (h:IsS115 w0 W g f0 f1 f2 f3 f4 f5 f6 f7 f8 f9 f10 f11 f12 f13 f14 f15 f16 f17 f18) (ho:d.R e W base ok v xs) (ht:e ≠ 115):some g ≠ v.ownBlock:=by
 obtain ⟨A6,c6,A7,c7,hb,hg,hr6,hr7⟩:=h
 exact Kd.R_ne ho hb ht
theorem IsS115.lt {w0 W:World} {g:Nat} {f0:Int} {f1:Int} {f2:Int} {f3:Int} {f4:Int} {f5:Int} {f6:List Int} {f7:List Int} {f8:Int} {f9:Int} {f10:Int} {f11:Int} {f12:Int} {f13:Int} {f14:Int} {f15:Int} {f16:Int} {f17:Bool} {f18:Int} (h:IsS115 w0 W g f0 f1 f2 f3 f4 f5 f6 f7 f8 f9 f10 f11 f12 f13 f14 f15 f16 f17 f18):g < W.heap.size:=by
 obtain ⟨A6,c6,A7,c7,hb,hg,hr6,hr7⟩:=h
 exact blk_lt hb
theorem IsS115.ge {w0 W:World} {g:Nat} {f0:Int} {f1:Int} {f2:Int} {f3:Int} {f4:Int} {f5:Int} {f6:List Int} {f7:List Int} {f8:Int} {f9:Int} {f10:Int} {f11:Int} {f12:Int} {f13:Int} {f14:Int} {f15:Int} {f16:Int} {f17:Bool} {f18:Int} (h:IsS115 w0 W g f0 f1 f2 f3 f4 f5 f6 f7 f8 f9 f10 f11 f12 f13 f14 f15 f16 f17 f18):w0.heap.size ≤ g:=by
 obtain ⟨A6,c6,A7,c7,hb,hg,hr6,hr7⟩:=h
 exact hg
theorem IsS115.new (w0 W:World) (A6:Option Addr) (c6:Nat) (A7:Option Addr) (c7:Nat) (f0:Int) (f1:Int) (f2:Int) (f3:Int) (f4:Int) (f5:Int) (f6:List Int) (f7:List Int) (f8:Int) (f9:Int) (f10:Int) (f11:Int) (f12:Int) (f13:Int) (f14:Int) (f15:Int) (f16:Int) (f17:Bool) (f18:Int) (hB:Below w0.heap.size w0 W) (hr6:Kd.C (Kd.int .i64) w0 A6 f6.length f6) (hr7:Kd.C (Kd.int .i64) w0 A7 f7.length f7):IsS115 w0 (W.alloc (.cells #[.int .i64 f0,.int .i64 f1,.int .i64 f2,.int .i64 f3,.int .i64 f4,.int .i64 f5,.slice A6 f6.length c6,.slice A7 f7.length c7,.int .i64 f8,.int .i64 f9,.int .i64 f10,.int .i64 f11,.int .i64 f12,.int .i64 f13,.int .i64 f14,.int .i64 f15,.int .i64 f16,.bool f17,.int .i64 f18] 115)) W.heap.size f0 f1 f2 f3 f4 f5 f6 f7 f8 f9 f10 f11 f12 f13 f14 f15 f16 f17 f18:=⟨A6,c6,A7,c7,by simpa using heap_alloc_new W _,hB.size,hr6,hr7⟩
def breadlineref10_Body.f (a0:Int) (a1:Int):Option (Int × Bool):=if a0 < 0 then (some (0,false)) else (if a0 ≥ 12 then (some (0,false)) else (if a1 < 1 then (some (0,false)) else (if a1 > 1048576 then (some (0,false)) else (some (wrap64 ((wrap64 (a0 * 2097152)) + a1),true)))))
theorem breadlineref10_Body.calls (a0:Int) (a1:Int) (r1:Int) (r2:Bool) (w:World) (h:breadlineref10_Body.f a0 a1 = some (r1,r2)) :
  Calls Try.prog 64 #[.int .i64 a0,.int .i64 a1] w fun e w'=>e = .returned (.tuple #[.int .i64 r1,.bool r2])∧Drawn0 w w':=by
 have H:(if a0 < 0 then (some (0,false)) else (if a0 ≥ 12 then (some (0,false)) else (if a1 < 1 then (some (0,false)) else (if a1 > 1048576 then (some (0,false)) else (some (wrap64 ((wrap64 (a0 * 2097152)) + a1),true)))))) = some (r1,r2):=h
 clear h
 by_cases c3:a0 < 0
 ·rw [if_pos c3] at H
  have c3b0:decide (a0 < 0) = true:=decide_eq_true c3
  clear c3
  simp only [Option.some.injEq,Prod.mk.injEq] at H
  obtain ⟨rfl,rfl⟩:=H
  go_enter Try.func64,Try.ntmps64
  go_wp2
  go_ret2
  exact ⟨by first|rfl|(simp;done)|(simp [*];done),by repeat (first|exact Drawn0.refl _|apply Drawn0.step)⟩
 ·rw [if_neg c3] at H
  have c3b0:decide (a0 < 0) = false:=decide_eq_false c3
  clear c3
  by_cases c4:a0 ≥ 12
  ·rw [if_pos c4] at H
   have c4b0:decide (12 ≤ a0) = true:=decide_eq_true c4
   clear c4
   simp only [Option.some.injEq,Prod.mk.injEq] at H
   obtain ⟨rfl,rfl⟩:=H
   go_enter Try.func64,Try.ntmps64
   go_wp2
   go_ret2
   exact ⟨by first|rfl|(simp;done)|(simp [*];done),by repeat (first|exact Drawn0.refl _|apply Drawn0.step)⟩
  ·rw [if_neg c4] at H
   have c4b0:decide (12 ≤ a0) = false:=decide_eq_false c4
   clear c4
   by_cases c5:a1 < 1
   ·rw [if_pos c5] at H
    have c5b0:decide (a1 < 1) = true:=decide_eq_true c5
    clear c5
    simp only [Option.some.injEq,Prod.mk.injEq] at H
    obtain ⟨rfl,rfl⟩:=H
    go_enter Try.func64,Try.ntmps64
    go_wp2
    go_ret2
    exact ⟨by first|rfl|(simp;done)|(simp [*];done),by repeat (first|exact Drawn0.refl _|apply Drawn0.step)⟩
   ·rw [if_neg c5] at H
    have c5b0:decide (a1 < 1) = false:=decide_eq_false c5
    clear c5
    by_cases c6:a1 > 1048576
    ·rw [if_pos c6] at H
     have c6b0:decide (1048576 < a1) = true:=decide_eq_true c6
     clear c6
     simp only [Option.some.injEq,Prod.mk.injEq] at H
     obtain ⟨rfl,rfl⟩:=H
     go_enter Try.func64,Try.ntmps64
     go_wp2
     go_ret2
     exact ⟨by first|rfl|(simp;done)|(simp [*];done),by repeat (first|exact Drawn0.refl _|apply Drawn0.step)⟩
    ·rw [if_neg c6] at H
     have c6b0:decide (1048576 < a1) = false:=decide_eq_false c6
     clear c6
     simp only [Option.some.injEq,Prod.mk.injEq] at H
     obtain ⟨rfl,rfl⟩:=H
     go_enter Try.func64,Try.ntmps64
     go_wp2
     go_ret2
     exact ⟨by first|rfl|(simp;done)|(simp [*];done),by repeat (first|exact Drawn0.refl _|apply Drawn0.step)⟩
def breadlineref02_Begin.f (a0:Int):Option (Int):=some (Int.tmod (wrap64 ((wrap64 (a0 + 1)) * 2654435761)) 4294967296)
theorem breadlineref02_Begin.calls (a0:Int) (r:Int) (w:World) (h:breadlineref02_Begin.f a0 = some r) :
  Calls Try.prog 91 #[.int .i64 a0] w fun e w'=>e = .returned (.int .i64 r)∧Drawn0 w w':=by
 have H:(some (Int.tmod (wrap64 ((wrap64 (a0 + 1)) * 2654435761)) 4294967296)) = some r:=h
 clear h
 obtain rfl:=Option.some.inj H
 go_enter Try.func91,Try.ntmps91
 go_wp2
 go_ret
 exact ⟨by first|rfl|(simp;done)|(simp [*];done),by repeat (first|exact Drawn0.refl _|apply Drawn0.step)⟩
def breadlineref02_Pick.f (a0:Int) (a1:Int):Option (Int):=if a1 = 0 then (none) else (some (Int.tmod a0 a1))
theorem breadlineref02_Pick.calls (a0:Int) (a1:Int) (r:Int) (w:World) (h:breadlineref02_Pick.f a0 a1 = some r) :
  Calls Try.prog 84 #[.int .i64 a0,.int .i64 a1] w fun e w'=>e = .returned (.int .i64 r)∧Drawn0 w w':=by
 have H:(if a1 = 0 then (none) else (some (Int.tmod a0 a1))) = some r:=h
 clear h
 by_cases c3:a1 = 0
 ·rw [if_pos c3] at H
  exact absurd H (by simp)
 ·rw [if_neg c3] at H
  have c3b0:(a1 == 0) = false:=beq_eq_false_iff_ne.mpr c3
  have c3b1:(a1 != 0) = true:=bne_iff_ne.mpr c3
  obtain rfl:=Option.some.inj H
  go_enter Try.func84,Try.ntmps84
  go_wp2
  go_ret
  exact ⟨by first|rfl|(simp;done)|(simp [*];done),by repeat (first|exact Drawn0.refl _|apply Drawn0.step)⟩
def breadlineref02_Next.f (a0:Int):Option (Int):=if a0 < 1 then (some (wrap64 (Go.bits .xor .u32 (Go.bits .xor .u32 (Go.bits .xor .u32 1 (1 * 8192)) ((Go.bits .xor .u32 1 (1 * 8192)) / 131072)) (((Go.bits .xor .u32 (Go.bits .xor .u32 1 (1 * 8192)) ((Go.bits .xor .u32 1 (1 * 8192)) / 131072)) * 32) % 4294967296)))) else (if a0 ≥ 4294967296 then (some (wrap64 (Go.bits .xor .u32 (Go.bits .xor .u32 (Go.bits .xor .u32 1 (1 * 8192)) ((Go.bits .xor .u32 1 (1 * 8192)) / 131072)) (((Go.bits .xor .u32 (Go.bits .xor .u32 1 (1 * 8192)) ((Go.bits .xor .u32 1 (1 * 8192)) / 131072)) * 32) % 4294967296)))) else (some (wrap64 (Go.bits .xor .u32 (Go.bits .xor .u32 (Go.bits .xor .u32 ((a0) % 4294967296) ((((a0) % 4294967296) * 8192) % 4294967296)) ((Go.bits .xor .u32 ((a0) % 4294967296) ((((a0) % 4294967296) * 8192) % 4294967296)) / 131072)) (((Go.bits .xor .u32 (Go.bits .xor .u32 ((a0) % 4294967296) ((((a0) % 4294967296) * 8192) % 4294967296)) ((Go.bits .xor .u32 ((a0) % 4294967296) ((((a0) % 4294967296) * 8192) % 4294967296)) / 131072)) * 32) % 4294967296)))))
theorem breadlineref02_Next.calls (a0:Int) (r:Int) (w:World) (h:breadlineref02_Next.f a0 = some r) :
  Calls Try.prog 87 #[.int .i64 a0] w fun e w'=>e = .returned (.int .i64 r)∧Drawn0 w w':=by
 have H:(if a0 < 1 then (some (wrap64 (Go.bits .xor .u32 (Go.bits .xor .u32 (Go.bits .xor .u32 1 (1 * 8192)) ((Go.bits .xor .u32 1 (1 * 8192)) / 131072)) (((Go.bits .xor .u32 (Go.bits .xor .u32 1 (1 * 8192)) ((Go.bits .xor .u32 1 (1 * 8192)) / 131072)) * 32) % 4294967296)))) else (if a0 ≥ 4294967296 then (some (wrap64 (Go.bits .xor .u32 (Go.bits .xor .u32 (Go.bits .xor .u32 1 (1 * 8192)) ((Go.bits .xor .u32 1 (1 * 8192)) / 131072)) (((Go.bits .xor .u32 (Go.bits .xor .u32 1 (1 * 8192)) ((Go.bits .xor .u32 1 (1 * 8192)) / 131072)) * 32) % 4294967296)))) else (some (wrap64 (Go.bits .xor .u32 (Go.bits .xor .u32 (Go.bits .xor .u32 ((a0) % 4294967296) ((((a0) % 4294967296) * 8192) % 4294967296)) ((Go.bits .xor .u32 ((a0) % 4294967296) ((((a0) % 4294967296) * 8192) % 4294967296)) / 131072)) (((Go.bits .xor .u32 (Go.bits .xor .u32 ((a0) % 4294967296) ((((a0) % 4294967296) * 8192) % 4294967296)) ((Go.bits .xor .u32 ((a0) % 4294967296) ((((a0) % 4294967296) * 8192) % 4294967296)) / 131072)) * 32) % 4294967296)))))) = some r:=h
 clear h
 by_cases c2:a0 < 1
 ·rw [if_pos c2] at H
  have c2b0:decide (a0 < 1) = true:=decide_eq_true c2
  clear c2
  obtain rfl:=Option.some.inj H
  go_enter Try.func87,Try.ntmps87
  go_wp2
  go_ret
  exact ⟨by first|rfl|(simp;done)|(simp [*];done),by repeat (first|exact Drawn0.refl _|apply Drawn0.step)⟩
 ·rw [if_neg c2] at H
  have c2b0:decide (a0 < 1) = false:=decide_eq_false c2
  clear c2
  by_cases c3:a0 ≥ 4294967296
  ·rw [if_pos c3] at H
   have c3b0:decide (4294967296 ≤ a0) = true:=decide_eq_true c3
   clear c3
   obtain rfl:=Option.some.inj H
   go_enter Try.func87,Try.ntmps87
   go_wp2
   go_ret
   exact ⟨by first|rfl|(simp;done)|(simp [*];done),by repeat (first|exact Drawn0.refl _|apply Drawn0.step)⟩
  ·rw [if_neg c3] at H
   have c3b0:decide (4294967296 ≤ a0) = false:=decide_eq_false c3
   clear c3
   obtain rfl:=Option.some.inj H
   go_enter Try.func87,Try.ntmps87
   go_wp2
   go_ret
   exact ⟨by first|rfl|(simp;done)|(simp [*];done),by repeat (first|exact Drawn0.refl _|apply Drawn0.step)⟩
def IsS122 (w0 W:World) (g:Nat) (f0:Int) (f1:Int) (f2:Int) (f3:Int) (f4:Int) (f5:Int) (f6:Int) (f7:Int) (f8:Int) (f9:Int):Prop:=W.heap[g]? = some (.cells #[.int .i64 f0,.int .i64 f1,.int .i64 f2,.int .i64 f3,.int .i64 f4,.int .i64 f5,.int .i64 f6,.int .i64 f7,.int .i64 f8,.int .i64 f9] 122 (0,0))∧w0.heap.size ≤ g
theorem IsS122.grown {w0 W:World} {g:Nat} {f0:Int} {f1:Int} {f2:Int} {f3:Int} {f4:Int} {f5:Int} {f6:Int} {f7:Int} {f8:Int} {f9:Int} {W1:World} {row:Option Nat} (h:IsS122 w0 W g f0 f1 f2 f3 f4 f5 f6 f7 f8 f9) (hw:W.grownBy W1 row) (hne:some g ≠ row):IsS122 w0 W1 g f0 f1 f2 f3 f4 f5 f6 f7 f8 f9:=by
 obtain ⟨hb,hg⟩:=h
 exact ⟨blk_grown hb hw hne,hg⟩
theorem IsS122.kept {w0 W:World} {g:Nat} {f0:Int} {f1:Int} {f2:Int} {f3:Int} {f4:Int} {f5:Int} {f6:Int} {f7:Int} {f8:Int} {f9:Int} {W1:World} {S:Nat→Prop} (h:IsS122 w0 W g f0 f1 f2 f3 f4 f5 f6 f7 f8 f9) (hk:Kept W W1 S) (hne:¬ S g):IsS122 w0 W1 g f0 f1 f2 f3 f4 f5 f6 f7 f8 f9:=by
 obtain ⟨hb,hg⟩:=h
 exact ⟨blk_kept hb hk hne,hg⟩
theorem IsS122.below {w0 W:World} {g:Nat} {f0:Int} {f1:Int} {f2:Int} {f3:Int} {f4:Int} {f5:Int} {f6:Int} {f7:Int} {f8:Int} {f9:Int} {W1:World} (h:IsS122 w0 W g f0 f1 f2 f3 f4 f5 f6 f7 f8 f9) (hw:Below W.heap.size W W1):IsS122 w0 W1 g f0 f1 f2 f3 f4 f5 f6 f7 f8 f9:=h.grown (grown_of_below hw none) (by simp)
theorem IsS122.alloc {w0 W:World} {g:Nat} {f0:Int} {f1:Int} {f2:Int} {f3:Int} {f4:Int} {f5:Int} {f6:Int} {f7:Int} {f8:Int} {f9:Int} (h:IsS122 w0 W g f0 f1 f2 f3 f4 f5 f6 f7 f8 f9) (o:Obj):IsS122 w0 (W.alloc o) g f0 f1 f2 f3 f4 f5 f6 f7 f8 f9:=h.below (below_alloc (Below.refl _ _) o)
theorem IsS122.drewN {w0 W:World} {g:Nat} {f0:Int} {f1:Int} {f2:Int} {f3:Int} {f4:Int} {f5:Int} {f6:Int} {f7:Int} {f8:Int} {f9:Int} (h:IsS122 w0 W g f0 f1 f2 f3 f4 f5 f6 f7 f8 f9) (m:Nat):IsS122 w0 (W.drewN m) g f0 f1 f2 f3 f4 f5 f6 f7 f8 f9:=h
theorem IsS122.drew {w0 W:World} {g:Nat} {f0:Int} {f1:Int} {f2:Int} {f3:Int} {f4:Int} {f5:Int} {f6:Int} {f7:Int} {f8:Int} {f9:Int} (h:IsS122 w0 W g f0 f1 f2 f3 f4 f5 f6 f7 f8 f9):IsS122 w0 W.drew g f0 f1 f2 f3 f4 f5 f6 f7 f8 f9:=h
theorem IsS122.at_ {w0 W:World} {g:Nat} {f0:Int} {f1:Int} {f2:Int} {f3:Int} {f4:Int} {f5:Int} {f6:Int} {f7:Int} {f8:Int} {f9:Int} {w':World} {m:Nat} (hq:W.drewN m = w') (h:IsS122 w0 W g f0 f1 f2 f3 f4 f5 f6 f7 f8 f9):IsS122 w0 w' g f0 f1 f2 f3 f4 f5 f6 f7 f8 f9:=by subst hq;exact IsS122.drewN h m
theorem IsS122.apart {w0 W:World} {g:Nat} {f0:Int} {f1:Int} {f2:Int} {f3:Int} {f4:Int} {f5:Int} {f6:Int} {f7:Int} {f8:Int} {f9:Int} {α:Type} {d:Kd α} {e:Nat} {base:Nat} {ok:Nat→Prop} {v:Value} {xs:List α} (h:IsS122 w0 W g f0 f1 f2 f3 f4 f5 f6 f7 f8 f9) (ho:d.R e W base ok v xs) (ht:∀ q,q ∈ e :: d.E→q ≠ 122):d.R e W base (fun k=>ok k∧k ≠ g) v xs:=by
 obtain ⟨hb,hg⟩:=h
 exact Kd.R_types ho hb ht
theorem IsS122.own_ne {w0 W:World} {g:Nat} {f0:Int} {f1:Int} {f2:Int} {f3:Int} {f4:Int} {f5:Int} {f6:Int} {f7:Int} {f8:Int} {f9:Int} {α:Type} {d:Kd α} {e:Nat} {base:Nat} {ok:Nat→Prop} {v:Value} {xs:List α} (h:IsS122 w0 W g f0 f1 f2 f3 f4 f5 f6 f7 f8 f9) (ho:d.R e W base ok v xs) (ht:e ≠ 122):some g ≠ v.ownBlock:=by
 obtain ⟨hb,hg⟩:=h
 exact Kd.R_ne ho hb ht
theorem IsS122.lt {w0 W:World} {g:Nat} {f0:Int} {f1:Int} {f2:Int} {f3:Int} {f4:Int} {f5:Int} {f6:Int} {f7:Int} {f8:Int} {f9:Int} (h:IsS122 w0 W g f0 f1 f2 f3 f4 f5 f6 f7 f8 f9):g < W.heap.size:=by
 obtain ⟨hb,hg⟩:=h
 exact blk_lt hb
theorem IsS122.ge {w0 W:World} {g:Nat} {f0:Int} {f1:Int} {f2:Int} {f3:Int} {f4:Int} {f5:Int} {f6:Int} {f7:Int} {f8:Int} {f9:Int} (h:IsS122 w0 W g f0 f1 f2 f3 f4 f5 f6 f7 f8 f9):w0.heap.size ≤ g:=by
 obtain ⟨hb,hg⟩:=h
 exact hg
theorem IsS122.new (w0 W:World) (f0:Int) (f1:Int) (f2:Int) (f3:Int) (f4:Int) (f5:Int) (f6:Int) (f7:Int) (f8:Int) (f9:Int) (hB:Below w0.heap.size w0 W):IsS122 w0 (W.alloc (.cells #[.int .i64 f0,.int .i64 f1,.int .i64 f2,.int .i64 f3,.int .i64 f4,.int .i64 f5,.int .i64 f6,.int .i64 f7,.int .i64 f8,.int .i64 f9] 122)) W.heap.size f0 f1 f2 f3 f4 f5 f6 f7 f8 f9:=⟨by simpa using heap_alloc_new W _,hB.size⟩
def breadlineref10_Handle.f (a0:Int) (a1:Int):Option (Int × Bool):=if a0 < 0 then (some (0,false)) else (if a0 ≥ 16 then (some (0,false)) else ((breadlineref01_Version.f a1).bind fun t270=>(some (wrap64 ((wrap64 (t270 * 16)) + a0),true))))
theorem breadlineref10_Handle.calls (a0:Int) (a1:Int) (r1:Int) (r2:Bool) (w:World) (h:breadlineref10_Handle.f a0 a1 = some (r1,r2)) :
  Calls Try.prog 88 #[.int .i64 a0,.int .i64 a1] w fun e w'=>e = .returned (.tuple #[.int .i64 r1,.bool r2])∧Drawn0 w w':=by
 have H:(if a0 < 0 then (some (0,false)) else (if a0 ≥ 16 then (some (0,false)) else ((breadlineref01_Version.f a1).bind fun t270=>(some (wrap64 ((wrap64 (t270 * 16)) + a0),true))))) = some (r1,r2):=h
 clear h
 by_cases c3:a0 < 0
 ·rw [if_pos c3] at H
  have c3b0:decide (a0 < 0) = true:=decide_eq_true c3
  clear c3
  simp only [Option.some.injEq,Prod.mk.injEq] at H
  obtain ⟨rfl,rfl⟩:=H
  go_enter Try.func88,Try.ntmps88
  go_wp2
  go_ret2
  exact ⟨by first|rfl|(simp;done)|(simp [*];done),by repeat (first|exact Drawn0.refl _|apply Drawn0.step)⟩
 ·rw [if_neg c3] at H
  have c3b0:decide (a0 < 0) = false:=decide_eq_false c3
  clear c3
  by_cases c4:a0 ≥ 16
  ·rw [if_pos c4] at H
   have c4b0:decide (16 ≤ a0) = true:=decide_eq_true c4
   clear c4
   simp only [Option.some.injEq,Prod.mk.injEq] at H
   obtain ⟨rfl,rfl⟩:=H
   go_enter Try.func88,Try.ntmps88
   go_wp2
   go_ret2
   exact ⟨by first|rfl|(simp;done)|(simp [*];done),by repeat (first|exact Drawn0.refl _|apply Drawn0.step)⟩
  ·rw [if_neg c4] at H
   have c4b0:decide (16 ≤ a0) = false:=decide_eq_false c4
   clear c4
   replace H:=Option.bind_eq_some_iff.mp H
   obtain ⟨t270,A50,H⟩:=H
   replace H:(some (wrap64 ((wrap64 (t270 * 16)) + a0),true)) = some (r1,r2):=H
   have A5:=Aside0.mk A50
   clear A50
   simp only [Option.some.injEq,Prod.mk.injEq] at H
   obtain ⟨rfl,rfl⟩:=H
   go_enter Try.func88,Try.ntmps88
   go_wp2_with (first|((with_reducible refine gate_callee (f:=69) rfl ?_);refine goesL_ (some 13) rfl rfl Try.func69 (by kernel_rfl) rfl #[.int .i64 a1] rfl (by (try simp only [List.map_toArray,List.map_cons,List.map_nil]);first|done|rfl|(simp only [List.length_drop,List.length_take];rfl)) ?_;(with_reducible refine (breadlineref01_Version.calls a1 t270 _ A5.out).mono ?_);rintro e w' ⟨rfl,⟨nd,rfl⟩⟩;refine ⟨_,rfl,?_⟩))
   go_ret2
   exact ⟨by first|rfl|(simp;done)|(simp [*];done),by repeat (first|exact Drawn0.refl _|apply Drawn0.step)⟩
def breadlineref10_Of.f (a0:Int):Option (Int × Int × Bool):=if a0 < 0 then (some (0,0,false)) else ((breadlineref10_Body.f (a0 / 2097152) (Int.tmod a0 2097152)).bind fun bt271=>(if bt271.2 = true then (if bt271.1 = a0 then (some (a0 / 2097152,Int.tmod a0 2097152,true)) else (some (0,0,false))) else (some (0,0,false))))
theorem breadlineref10_Of.calls (a0:Int) (r1:Int) (r2:Int) (r3:Bool) (w:World) (h:breadlineref10_Of.f a0 = some (r1,r2,r3)) :
  Calls Try.prog 73 #[.int .i64 a0] w fun e w'=>e = .returned (.tuple #[.int .i64 r1,.int .i64 r2,.bool r3])∧Drawn0 w w':=by
 have H:(if a0 < 0 then (some (0,0,false)) else ((breadlineref10_Body.f (a0 / 2097152) (Int.tmod a0 2097152)).bind fun bt271=>(if bt271.2 = true then (if bt271.1 = a0 then (some (a0 / 2097152,Int.tmod a0 2097152,true)) else (some (0,0,false))) else (some (0,0,false))))) = some (r1,r2,r3):=h
 clear h
 by_cases c2:a0 < 0
 ·rw [if_pos c2] at H
  have c2b0:decide (a0 < 0) = true:=decide_eq_true c2
  clear c2
  simp only [Option.some.injEq,Prod.mk.injEq] at H
  obtain ⟨rfl,rfl,rfl⟩:=H
  go_enter Try.func73,Try.ntmps73
  go_wp2
  go_ret3
  exact ⟨by first|rfl|(simp;done)|(simp [*];done),by repeat (first|exact Drawn0.refl _|apply Drawn0.step)⟩
 ·rw [if_neg c2] at H
  have c2b0:decide (a0 < 0) = false:=decide_eq_false c2
  clear c2
  replace H:=Option.bind_eq_some_iff.mp H
  obtain ⟨⟨t271,t272⟩,A30,H⟩:=H
  replace H:(if t272 = true then (if t271 = a0 then (some (a0 / 2097152,Int.tmod a0 2097152,true)) else (some (0,0,false))) else (some (0,0,false))) = some (r1,r2,r3):=H
  have A3:=Aside0.mk A30
  clear A30
  by_cases c4:t272 = true
  ·subst c4
   rw [if_pos rfl] at H
   by_cases c5:t271 = a0
   ·rw [if_pos c5] at H
    have c5b0:(t271 == a0) = true:=beq_iff_eq.mpr c5
    have c5b1:(t271 != a0) = false:=bne_eq_false_iff_eq.mpr c5
    clear c5
    simp only [Option.some.injEq,Prod.mk.injEq] at H
    obtain ⟨rfl,rfl,rfl⟩:=H
    go_enter Try.func73,Try.ntmps73
    go_wp2_with (first|((with_reducible refine gate_callee (f:=64) rfl ?_);refine goesL_ (some 14) rfl rfl Try.func64 (by kernel_rfl) rfl #[.int .i64 (a0 / 2097152),.int .i64 (Int.tmod a0 2097152)] rfl (by (try simp only [List.map_toArray,List.map_cons,List.map_nil]);first|done|rfl|(simp only [List.length_drop,List.length_take];rfl)) ?_;(with_reducible refine (breadlineref10_Body.calls (a0 / 2097152) (Int.tmod a0 2097152) t271 true _ A3.out).mono ?_);rintro e w' ⟨rfl,⟨nd,rfl⟩⟩;refine ⟨_,rfl,?_⟩))
    go_ret3
    exact ⟨by first|rfl|(simp;done)|(simp [*];done),by repeat (first|exact Drawn0.refl _|apply Drawn0.step)⟩
   ·rw [if_neg c5] at H
    have c5b0:(t271 == a0) = false:=beq_eq_false_iff_ne.mpr c5
    have c5b1:(t271 != a0) = true:=bne_iff_ne.mpr c5
    simp only [Option.some.injEq,Prod.mk.injEq] at H
    obtain ⟨rfl,rfl,rfl⟩:=H
    go_enter Try.func73,Try.ntmps73
    go_wp2_with (first|((with_reducible refine gate_callee (f:=64) rfl ?_);refine goesL_ (some 14) rfl rfl Try.func64 (by kernel_rfl) rfl #[.int .i64 (a0 / 2097152),.int .i64 (Int.tmod a0 2097152)] rfl (by (try simp only [List.map_toArray,List.map_cons,List.map_nil]);first|done|rfl|(simp only [List.length_drop,List.length_take];rfl)) ?_;(with_reducible refine (breadlineref10_Body.calls (a0 / 2097152) (Int.tmod a0 2097152) t271 true _ A3.out).mono ?_);rintro e w' ⟨rfl,⟨nd,rfl⟩⟩;refine ⟨_,rfl,?_⟩))
    go_ret3
    exact ⟨by first|rfl|(simp;done)|(simp [*];done),by repeat (first|exact Drawn0.refl _|apply Drawn0.step)⟩
  ·replace c4:=Bool.eq_false_iff.mpr c4
   subst c4
   rw [if_neg (show ¬ (false = true) by decide)] at H
   simp only [Option.some.injEq,Prod.mk.injEq] at H
   obtain ⟨rfl,rfl,rfl⟩:=H
   go_enter Try.func73,Try.ntmps73
   go_wp2_with (first|((with_reducible refine gate_callee (f:=64) rfl ?_);refine goesL_ (some 14) rfl rfl Try.func64 (by kernel_rfl) rfl #[.int .i64 (a0 / 2097152),.int .i64 (Int.tmod a0 2097152)] rfl (by (try simp only [List.map_toArray,List.map_cons,List.map_nil]);first|done|rfl|(simp only [List.length_drop,List.length_take];rfl)) ?_;(with_reducible refine (breadlineref10_Body.calls (a0 / 2097152) (Int.tmod a0 2097152) t271 false _ A3.out).mono ?_);rintro e w' ⟨rfl,⟨nd,rfl⟩⟩;refine ⟨_,rfl,?_⟩))
   go_ret3
   exact ⟨by first|rfl|(simp;done)|(simp [*];done),by repeat (first|exact Drawn0.refl _|apply Drawn0.step)⟩
end Go.Proofs.Ytadblpcjkahikaa.PTraceRuns

