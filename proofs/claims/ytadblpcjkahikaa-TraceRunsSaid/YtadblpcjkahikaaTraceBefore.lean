
import Derived.Test.YtadblpcjkahikaaTraceRight
namespace Go.Proofs.Ytadblpcjkahikaa.PTraceRuns.Tr
set_option linter.unusedVariables false
open Go.RowKit Go.Maps Go.Proofs.YtadblpcjkahikaaW.PrintWords Go.Proofs.YtadblpcjkahikaaW.PrintLast Go.Proofs.YtadblpcjkahikaaW.PrintMore
def trace_Before.f (l:List S48) (a b:Int):Option Bool:=if fitB l = true then some (beforeB l a b) else none
theorem trace_Before.of {l:List S48} {a b:Int} {r:Bool} (h:trace_Before.f l a b = some r):fitB l = true∧r = beforeB l a b:=by
 unfold trace_Before.f at h
 split at h
 ·injection h with h;exact ⟨by assumption,h.symm⟩
 ·cases h
theorem before_no {l:List S48} {a b:Int} (h:a < 0 ∨ b ≤ a ∨ (l.length:Int) ≤ b ∨ (ev l a.toNat).f2 ≠ 1 ∨ (ev l b.toNat).f2 ≠ 1):beforeB l a b = false:=by
 unfold beforeB
 rcases h with h|h|h|h|h
 ·rw [decide_eq_false (by omega)];rfl
 ·rw [decide_eq_false (p:=a < b) (by omega)];simp
 ·rw [decide_eq_false (p:=b < (l.length:Int)) (by omega)];simp
 ·rw [beq_eq_false_iff_ne.2 h];simp
 ·rw [beq_eq_false_iff_ne.2 h];simp
set_option maxHeartbeats 2000000 in
set_option maxRecDepth 100000 in
theorem before_out (A0:Option Addr) (c0:Nat) (l0:List S48) (a1 a2:Int) (w:World) (hlen:(l0.length:Int) ≤ 4000) (h:a1 < 0 ∨ (0 ≤ a1∧a2 ≤ a1) ∨ (0 ≤ a1∧a1 < a2∧(l0.length:Int) ≤ a2)) :
  Calls Try.prog 14 #[.slice A0 l0.length c0,.int .i64 a1,.int .i64 a2] w fun e w'=>e = .returned (.bool false)∧Below w.heap.size w w':=by
 rcases h with h|⟨h0,h⟩|⟨h0,h1,h⟩
 ·go_enter Try.func14,Try.ntmps14
  go_wp2
  go_ret
  exact ⟨rfl,Below.refl _ _⟩
 ·go_enter Try.func14,Try.ntmps14
  go_wp2
  go_ret
  exact ⟨rfl,Below.refl _ _⟩
 ·go_enter Try.func14,Try.ntmps14
  go_wp2
  go_ret
  exact ⟨rfl,Below.refl _ _⟩
set_option maxHeartbeats 2000000 in
set_option maxRecDepth 100000 in
theorem before_kind (A0:Option Addr) (c0:Nat) (l0:List S48) (a b:Nat) (w:World) (hr0:Kd.C k48 w A0 l0.length l0) (hlen:(l0.length:Int) ≤ 4000) (hab:a < b) (hb:b < l0.length) (h:(ev l0 a).f2 ≠ 1 ∨ ((ev l0 a).f2 = 1∧(ev l0 b).f2 ≠ 1)) :
  Calls Try.prog 14 #[.slice A0 l0.length c0,.int .i64 a,.int .i64 b] w fun e w'=>e = .returned (.bool false)∧Below w.heap.size w w':=by
 obtain ⟨ad,e,x0,x1,x2,x3,x4,x5,x6,x7,x8,x9⟩:=at_ev hr0 a (by omega)
 obtain ⟨ad',e',q0,q1,q2,q3,q4,q5,q6,q7,q8,q9⟩:=at_ev hr0 b hb
 subst e
 obtain rfl:ad = ad':=by injection e'
 clear e' x0 x1 x3 x4 x5 x6 x7 x8 x9 q0 q1 q3 q4 q5 q6 q7 q8 q9 hr0
 have i0:(0:Int) ≤ (a:Int):=by omega
 have i1:(a:Int) < (b:Int):=by omega
 have i2:(b:Int) < (l0.length:Int):=by omega
 have i3:(0:Int) ≤ (b:Int):=by omega
 have i4:(a:Int) < (l0.length:Int):=by omega
 rcases h with h|⟨h1,h⟩
 ·have h':((ev l0 a).f2 != 1) = true:=by rw [bne_iff_ne];exact h
  clear h
  go_enter Try.func14,Try.ntmps14
  go_wp2
  go_ret
  exact ⟨rfl,Below.refl _ _⟩
 ·have h':((ev l0 b).f2 != 1) = true:=by rw [bne_iff_ne];exact h
  have h'':((ev l0 a).f2 != 1) = false:=by rw [h1];rfl
  clear h h1
  go_enter Try.func14,Try.ntmps14
  go_wp2
  go_ret
  exact ⟨rfl,Below.refl _ _⟩
set_option maxHeartbeats 2000000 in
set_option maxRecDepth 100000 in
theorem before_in (A0:Option Addr) (c0:Nat) (l0:List S48) (a b:Nat) (w:World) (hr0:Kd.C k48 w A0 l0.length l0) (hc0:l0.length ≤ c0) (hlen:(l0.length:Int) ≤ 4000) (hab:a < b) (hb:b < l0.length) (h1:(ev l0 a).f2 = 1) (h2:(ev l0 b).f2 = 1) :
  Calls Try.prog 14 #[.slice A0 l0.length c0,.int .i64 a,.int .i64 b] w fun e w'=>e = .returned (.bool ((List.range (b - a - 1)).any fun j=>(ev l0 (a + 1 + j)).f1 == (ev l0 a).f1))∧Below w.heap.size w w':=by
 obtain ⟨ad,e,x0,x1,x2,x3,x4,x5,x6,x7,x8,x9⟩:=at_ev hr0 a (by omega)
 obtain ⟨ad',e',q0,q1,q2,q3,q4,q5,q6,q7,q8,q9⟩:=at_ev hr0 b hb
 subst e
 obtain rfl:ad = ad':=by injection e'
 clear e' x0 x3 x4 x5 x6 x7 x8 x9 q0 q1 q3 q4 q5 q6 q7 q8 q9
 have i0:(0:Int) ≤ (a:Int):=by omega
 have i1:(a:Int) < (b:Int):=by omega
 have i2:(b:Int) < (l0.length:Int):=by omega
 have i3:(0:Int) ≤ (b:Int):=by omega
 have i4:(a:Int) < (l0.length:Int):=by omega
 have i5:(b:Int) ≤ (c0:Int):=by omega
 have i6:(a:Int) + 1 ≤ (b:Int):=by omega
 have k1:((ev l0 a).f2 != 1) = false:=by rw [h1];rfl
 have k2:((ev l0 b).f2 != 1) = false:=by rw [h2];rfl
 have HR:=Lib.hid hr0
 clear h1 h2 hr0
 go_enter Try.func14,Try.ntmps14
 go_wp2_with fail
 go_loopw [44] (fun i wr=>∃ j:Nat,j ≤ b - (a + 1)∧i = .int .i64 j∧Hid (∀ q,q < j→((ev l0 (a + 1 + q)).f1 == (ev l0 a).f1) = false)∧Below w.heap.size w wr) (fun i _=>b - (a + 1) - (intOf i).toNat)
 case atStart=>exact ⟨0,Nat.zero_le _,rfl,Lib.hid (fun q hq=>by omega),Below.refl _ _⟩
 case round =>
  obtain ⟨j,hj,rfl,HS,hnx⟩:=hrel
  clear x1 x2 q2
  have hrw:=Kd.C_below HR.out hnx
  obtain ⟨ad1,e1,y0,y1,y2,y3,y4,y5,y6,y7,y8,y9⟩:=at_ev hrw a (by omega)
  obtain rfl:ad = ad1:=by injection e1
  clear e1 y0 y2 y3 y4 y5 y6 y7 y8 y9
  have yo:∀ o,(wr.alloc o).cell? ⟨(ad.add (a * 10)).block,(ad.add (a * 10)).off + 1,none⟩ = some (.int .i64 (ev l0 a).f1):=fun o=>(World.cell?_of_block (Below.heap_alloc wr o _ (World.block_lt_of_cell? wr _ y1))).trans y1
  clear y1
  by_cases hlt:j < b - (a + 1)
  ·obtain ⟨ad2,e2,x0,x1,x2,x3,x4,x5,x6,x7,x8,x9⟩:=at_ev hrw (a + 1 + j) (by omega)
   obtain rfl:ad = ad2:=by injection e2
   have ea:ad.add ((a + 1 + j) * 10) = (ad.add ((a + 1) * 10)).add (j * 10):=by
    rw [show (a + 1 + j) * 10 = (a + 1) * 10 + j * 10 by omega]
    simp [Addr.add,Nat.add_assoc]
   rw [ea] at x0 x1 x2 x3 x4 x5 x6 x7 x8 x9
   clear ea e2 hrw
   have j0:(0:Int) ≤ (j:Int):=by omega
   have j1:(j:Int) < ((b - (a + 1):Nat):Int):=by omega
   cases hq:((ev l0 (a + 1 + j)).f1 == (ev l0 a).f1)
   ·have HQ:=Lib.hid hq
    go_wp2_with fail
    go_quiet (fail)
    go_wp2_with fail
    go_roundw
    case rel=>exact ⟨j + 1,by omega,by go_num,Lib.hid (fun q hq'=>by
      by_cases hqj:q = j
      ·rw [hqj];exact HQ.out
      ·exact HS.out q (by omega)),below_drewN_ (hnx.alloc hnx.size _) _⟩
    case measure=>simp [intOf];omega
   ·have HQ:=Lib.hid hq
    go_wp2_with fail
    go_quiet (fail)
    go_wp2_with fail
    go_ret
    exact ⟨congrArg (fun z=>Ending.returned (.bool z)) (by
     symm
     rw [List.any_eq_true]
     exact ⟨j,List.mem_range.2 (by omega),HQ.out⟩),below_drewN_ (hnx.alloc hnx.size _) _⟩
  ·have hje:j = b - (a + 1):=by omega
   subst hje
   clear hrw hlt
   go_wp2_with fail
   go_ret
   exact ⟨congrArg (fun z=>Ending.returned (.bool z)) (by
    symm
    rw [List.any_eq_false]
    intro q hq
    rw [HS.out q (by have:=List.mem_range.1 hq;omega)]
    simp),hnx⟩
theorem trace_Before.calls (A0:Option Addr) (c0:Nat) (l0:List S48) (a1 a2:Int) (r:Bool) (w:World) (hr0:Kd.C k48 w A0 l0.length l0) (hc0:l0.length ≤ c0) (h:trace_Before.f l0 a1 a2 = some r) :
  Calls Try.prog 14 #[.slice A0 l0.length c0,.int .i64 a1,.int .i64 a2] w fun e w'=>e = .returned (.bool r)∧Below w.heap.size w w':=by
 obtain ⟨hfit,rfl⟩:=trace_Before.of h
 have hlen:(l0.length:Int) ≤ 4000:=by have:=fit_len hfit;omega
 by_cases h1:0 ≤ a1∧a1 < a2∧a2 < l0.length
 ·obtain ⟨a,rfl⟩:=Int.eq_ofNat_of_zero_le h1.1
  obtain ⟨b,rfl⟩:=Int.eq_ofNat_of_zero_le (show 0 ≤ a2 by omega)
  by_cases h2:(ev l0 a).f2 = 1
  ·by_cases h3:(ev l0 b).f2 = 1
   ·have e:beforeB l0 a b = (List.range (b - a - 1)).any fun j=>(ev l0 (a + 1 + j)).f1 == (ev l0 a).f1:=by
     unfold beforeB
     rw [decide_eq_true h1.1,decide_eq_true h1.2.1,decide_eq_true h1.2.2,Int.toNat_natCast,Int.toNat_natCast,h2,h3]
     rfl
    rw [e]
    exact before_in A0 c0 l0 a b w hr0 hc0 hlen (by omega) (by omega) h2 h3
   ·rw [before_no (.inr (.inr (.inr (.inr (by rw [Int.toNat_natCast];exact h3)))))]
    exact before_kind A0 c0 l0 a b w hr0 hlen (by omega) (by omega) (.inr ⟨h2,h3⟩)
  ·rw [before_no (.inr (.inr (.inr (.inl (by rw [Int.toNat_natCast];exact h2)))))]
   exact before_kind A0 c0 l0 a b w hr0 hlen (by omega) (by omega) (.inl h2)
 ·rw [before_no (by omega)]
  exact before_out A0 c0 l0 a1 a2 w hlen (by omega)
end Go.Proofs.Ytadblpcjkahikaa.PTraceRuns.Tr

