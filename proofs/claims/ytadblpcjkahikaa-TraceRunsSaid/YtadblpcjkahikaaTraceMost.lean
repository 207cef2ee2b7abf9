
import Derived.Test.YtadblpcjkahikaaTraceRight
namespace Go.Proofs.Ytadblpcjkahikaa.PTraceRuns.Tr
set_option linter.unusedVariables false
open Go.RowKit Go.Maps Go.Proofs.YtadblpcjkahikaaW.PrintWords Go.Proofs.YtadblpcjkahikaaW.PrintLast Go.Proofs.YtadblpcjkahikaaW.PrintMore
attribute [local go_sem] max2_int min2_int max_two min_two max_three min_three max_four min_four
def trace_Most.f (l:List S48):Option Int:=if fitB l = true then some (mostTo l l.length) else none
set_option maxHeartbeats 2000000 in
set_option maxRecDepth 100000 in
theorem trace_Most.calls (A0:Option Addr) (c0:Nat) (l0:List S48) (r:Int) (w:World) (hr0:Kd.C k48 w A0 l0.length l0) (hc0:l0.length ≤ c0) (h:trace_Most.f l0 = some r) :
  Calls Try.prog 9 #[.slice A0 l0.length c0] w fun e w'=>e = .returned (.int .i64 r)∧Below w.heap.size w w':=by
 have hfit:fitB l0 = true:=by
  unfold trace_Most.f at h
  split at h
  ·assumption
  ·cases h
 have hr:r = mostTo l0 l0.length:=by unfold trace_Most.f at h;rw [if_pos hfit] at h;injection h with h;exact h.symm
 have HR:=Lib.hid hr
 have hlen:=fit_len hfit
 clear h hr
 have hmm:=@run_makeMap Try.prog
 have hl9:(l0.length:Int) ≤ 4000:=by omega
 go_enter Try.func9,Try.ntmps9
 go_wp2_with fail
 go_loopw [4,9] (fun u i wr=>∃ k:Nat,k ≤ l0.length∧i = .int .i64 k∧u = .int .i64 (mostTo l0 k)∧(∃ n,n ≤ k∧wr.ownsMap Try.prog 3 (plainElem Try.prog 3) w.heap.size n (mapTo l0 k))∧Below w.heap.size w wr)
  (fun _ i _=>l0.length - (intOf i).toNat)
 case atStart=>exact ⟨0,Nat.zero_le _,rfl,rfl,⟨0,Nat.le_refl _,World.ownsMap_made _ _ _ _⟩,(Below.refl _ _).alloc (Nat.le_refl _) _⟩
 case round =>
  obtain ⟨k,hk,rfl,rfl,⟨n,hn,hown⟩,hnx⟩:=hrel
  by_cases hlt:k < l0.length
  ·have hrw:=Kd.C_below hr0 hnx
   have hk0:(0:Int) ≤ (k:Int):=by omega
   have hk1:(k:Int) < (l0.length:Int):=by omega
   have HO:=Lib.hid hown
   have HW:=Lib.hid hrw
   have hmb:=mostTo_bd l0 k
   have hmc:=size_mapTo l0 (k + 1)
   obtain ⟨sz,hsz⟩:∃ sz,Maps.size (mapTo l0 (k + 1)) = sz:=⟨_,rfl⟩
   have hms:mostTo l0 (k + 1) = max (mostTo l0 k) (sz:Int):=by rw [mostTo,hsz]
   have HM:=Lib.hid hms
   have HZ:=Lib.hid hsz
   rw [hsz] at hmc
   clear hrw hown hms hsz
   generalize mostTo l0 k = M at hmb HM ⊢
   obtain ⟨hm0,hm1⟩:=hmb
   go_wp2_with fail
   refine (take_any w.heap.size n k _ c0 l0 _ HW.out hlt (by omega) hfit HO.out).mono ?_
   rintro e w1 ⟨rfl,hown1,hgrow1⟩
   have hb1:Below w.heap.size w w1:=grown_below hnx hgrow1 (Nat.le_refl _) hnx.size
   have HO1:=Lib.hid hown1
   clear hown1 hgrow1
   go_wp2_with (at_len;refine wpList_len_own _ rfl _ 57 rfl 3 3 Try.underlying57 _ w.heap.size (n + 1) (mapTo l0 (k + 1)) rfl HO1.out ?_;rw [HZ.out])
   exact ⟨⟨k + 1,by omega,by go_num,congrArg (Value.int .i64) (by rw [HM.out];split <;> omega),⟨n + 1,by omega,HO1.out⟩,hb1⟩,by simp [intOf];omega⟩
  ·have hke:k = l0.length:=by omega
   subst hke
   clear hown
   go_wp2_with fail
   go_ret
   exact ⟨by rw [HR.out];rfl,hnx⟩
end Go.Proofs.Ytadblpcjkahikaa.PTraceRuns.Tr

