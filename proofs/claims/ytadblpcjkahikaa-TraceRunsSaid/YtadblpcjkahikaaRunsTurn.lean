
import Derived.Test.YtadblpcjkahikaaRunsConf
namespace Go.Proofs.Ytadblpcjkahikaa.PTraceRuns
open Go Go.RowKit
set_option linter.unusedVariables false
theorem join_or (A x:Int) (hA:0 ≤ A∧A < 4294967296):bits .or .u64 (A * 4294967296) (x % 4294967296) = A * 4294967296 + x % 4294967296:=by
 refine bits_join .u64 64 (by decide) (fun n h0 h1=>?_) 32 _ _ (by omega) (by omega) (by omega) (by omega) (by omega) (by omega)
 rw [IntKind.wrap_u64];omega
theorem u64_w (n:Int):IntKind.u64.wrap n = n % 18446744073709551616:=IntKind.wrap_u64 n
theorem word_value {v s r:Int} {b:Bool} (hs0:0 ≤ s) (hs3:s ≤ 3) (h0:0 ≤ v) (h1:v < 4294967296) (h:breadlineref01_Word.f v s = some (r,b)):breadlineref01_Value.f r = some s:=by
 unfold breadlineref01_Word.f at h
 rw [if_neg (by omega),if_neg (by omega),if_neg (by omega),if_neg (by omega)] at h
 simp only [Option.some.injEq,Prod.mk.injEq] at h
 obtain ⟨h,_⟩:=h
 rw [show IntKind.u64.wrap (IntKind.u64.wrap v * 4294967296) = v * 4294967296 by rw [u64_w,u64_w];omega,join_or v s ⟨h0,h1⟩] at h
 have hr:r % 4294967296 = s:=by rw [← h];unfold wrap64;omega
 unfold breadlineref01_Value.f
 have e:Int.tmod (IntKind.u64.wrap r) 4294967296 = s:=by
  rw [u64_w,Int.tmod_eq_emod_of_nonneg (by omega)];omega
 rw [e,wrap_id (by omega) (by omega),if_neg (by omega)]
theorem version_in (x:Int):∃ v,breadlineref01_Version.f x = some v∧0 ≤ v∧v < 4294967296:=by
 unfold breadlineref01_Version.f
 refine ⟨_,rfl,?_,?_⟩
 ·rw [u64_w];unfold wrap64;omega
 ·rw [u64_w];unfold wrap64;omega
theorem next_value {x s r:Int} {b:Bool} (hs0:0 ≤ s) (hs3:s ≤ 3) (h:breadlineref01_Next.f x s = some (r,b)):breadlineref01_Value.f r = some s:=by
 obtain ⟨v,hv,h0,h1⟩:=version_in x
 unfold breadlineref01_Next.f at h
 rw [hv,Option.bind_some,show wrap64 (v + 1) = v + 1 by unfold wrap64;omega] at h
 split at h
 ·obtain ⟨r',b',hw⟩:=word_ok 0 s
  rw [hw,Option.bind_some] at h
  simp only [Option.some.injEq,Prod.mk.injEq] at h
  obtain ⟨rfl,_⟩:=h
  exact word_value hs0 hs3 (by omega) (by omega) hw
 ·obtain ⟨r',b',hw⟩:=word_ok (v + 1) s
  rw [hw,Option.bind_some] at h
  simp only [Option.some.injEq,Prod.mk.injEq] at h
  obtain ⟨rfl,_⟩:=h
  exact word_value hs0 hs3 (by omega) (by omega) hw
theorem turn_state {x s r:Int} {b:Bool} (hs0:0 ≤ s) (hs3:s ≤ 3) (h:breadlineref10_Turn.f x s = some (r,b)):breadlineref10_State.f r = some s:=by
 unfold breadlineref10_Turn.f at h
 rw [if_neg (by omega),if_neg (by omega)] at h
 obtain ⟨r',b',hw⟩:=next01_ok x s
 rw [hw,Option.bind_some] at h
 simp only [Option.some.injEq,Prod.mk.injEq] at h
 obtain ⟨rfl,_⟩:=h
 unfold breadlineref10_State.f
 rw [next_value hs0 hs3 hw,Option.bind_some,if_neg (by omega),if_neg (by omega)]
theorem turn_not {x s r:Int} {b:Bool} (h:breadlineref10_Turn.f x s = some (r,b)) (hs:(0 ≤ s∧s ≤ 3)∧s ≠ 2):¬ isLive r:=by
 unfold isLive
 rw [turn_state hs.1.1 hs.1.2 h]
 intro e
 exact hs.2 (Option.some.inj e)
theorem body_good {c:Cf} {v:Nat} {n:Int} (hv:v < c.N) (hN:c.N ≤ 12) (h1:1 ≤ n) (h2:n ≤ 1048576):∃ r,breadlineref10_Body.f v n = some (r,true)∧bodyOk c r:=by
 have hb:breadlineref10_Body.f v n = some ((v:Int) * 2097152 + n,true):=by
  unfold breadlineref10_Body.f
  rw [if_neg (by omega),if_neg (by omega),if_neg (by omega),if_neg (by omega)]
  rw [show wrap64 ((v:Int) * 2097152) = (v:Int) * 2097152 by unfold wrap64;omega,show wrap64 ((v:Int) * 2097152 + n) = (v:Int) * 2097152 + n by unfold wrap64;omega]
 refine ⟨_,hb,v,n,?_,by omega,by omega⟩
 unfold breadlineref10_Of.f
 rw [if_neg (by omega),show ((v:Int) * 2097152 + n) / 2097152 = v by omega,show Int.tmod ((v:Int) * 2097152 + n) 2097152 = n by rw [Int.tmod_eq_emod_of_nonneg (by omega)];omega,hb,Option.bind_some]
 simp
end Go.Proofs.Ytadblpcjkahikaa.PTraceRuns

