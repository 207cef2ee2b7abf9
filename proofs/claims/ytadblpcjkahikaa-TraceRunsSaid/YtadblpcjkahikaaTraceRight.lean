
import Derived.Test.YtadblpcjkahikaaTraceTake
import Derived.Test.YtadblpcjkahikaaPTraceRunsx1
import Derived.Deep.RegionHeld3
namespace Go.Proofs.Ytadblpcjkahikaa.PTraceRuns.Tr
set_option linter.unusedVariables false
open Go.RowKit Go.Maps Go.Proofs.YtadblpcjkahikaaW.PrintWords Go.Proofs.YtadblpcjkahikaaW.PrintLast Go.Proofs.YtadblpcjkahikaaW.PrintMore
theorem all_four (b0 b1 b2 b3:Bool) (g:Nat) (w:World) (h0:w.cell? ⟨g,0,none⟩ = some (.bool b0)) (h1:w.cell? ⟨g,1,none⟩ = some (.bool b1)) (h2:w.cell? ⟨g,2,none⟩ = some (.bool b2)) (h3:w.cell? ⟨g,3,none⟩ = some (.bool b3)) :
  Calls Try.prog 19 #[.slice (some ⟨g,0,none⟩) 4 4] w fun e w'=>e = .returned (.bool (b0 && (b1 && (b2 && b3))))∧Drawn0 w w':=by
 refine trace_all.calls 5 (some ⟨g,0,none⟩) 4 [b0,b1,b2,b3] _ w ?_ (Nat.le_refl _) ?_
 ·refine ⟨rfl,by simp,fun _=>⟨_,rfl,fun j p hp=>?_⟩⟩
  refine ⟨[.bool p],rfl,rfl,fun i u hu=>?_⟩
  match i,hu with
  | 0,hu =>
   simp at hu
   subst hu
   match j,hp with
   | 0,hp=>simp at hp;subst hp;exact h0
   | 1,hp=>simp at hp;subst hp;exact h1
   | 2,hp=>simp at hp;subst hp;exact h2
   | 3,hp=>simp at hp;subst hp;exact h3
 ·cases b0 <;> cases b1 <;> cases b2 <;> cases b3 <;> decide +kernel
theorem all_step (b0 b1 b2 b3 sb:Bool) (hsb:Hid ((b0 && (b1 && (b2 && b3))) = sb)) (g:Nat) (w:World) (h0:w.cell? ⟨g,0,none⟩ = some (.bool b0)) (h1:w.cell? ⟨g,1,none⟩ = some (.bool b1)) (h2:w.cell? ⟨g,2,none⟩ = some (.bool b2)) (h3:w.cell? ⟨g,3,none⟩ = some (.bool b3)) :
  Calls Try.prog 19 #[.slice (some ⟨g,0,none⟩) 4 4] w fun e w'=>e = .returned (.bool sb)∧∃ m,w' = w.drewN m:=by
 rw [← hsb.out]
 exact (all_four b0 b1 b2 b3 g w h0 h1 h2 h3).mono fun _ _ ⟨he,hd⟩=>⟨he,hd.out⟩
theorem below_drewN_ {B:Nat} {a w:World} (h:Below B a w) (n:Nat):Below B a (w.drewN n):=⟨h.os,h.tape,h.output,h.size,h.block⟩
theorem grown_below {a w:World} {B0 B:Nat} (h:Below B0 a w) {w1:World} (hg:w.grownBy w1 (some B)) (hB:B0 ≤ B) (hs:B0 ≤ w.heap.size):Below B0 a w1:=h.grown hg hs (fun k hk=>by injection hk with hk;omega)
def trace_Right.f (l:List S48) (threads:Int):Option Bool:=if fitB l = true then some (rightB l threads) else none
theorem right_no {l:List S48} {threads:Int} {k:Nat} (hk:k < l.length) (h:stepB l threads k = false):rightB l threads = false:=by
 cases hr:rightB l threads
 ·rfl
 ·simp only [rightB,List.all_eq_true,List.mem_range] at hr
  rw [hr k hk] at h
  cases h
theorem right_yes {l:List S48} {threads:Int} (h:∀ k,k < l.length→stepB l threads k = true):rightB l threads = true:=by
 simp only [rightB,List.all_eq_true,List.mem_range]
 exact h
set_option maxHeartbeats 2000000 in
set_option maxRecDepth 100000 in
theorem trace_Right.calls (A0:Option Addr) (c0:Nat) (l0:List S48) (a1:Int) (r:Bool) (w:World) (hr0:Kd.C k48 w A0 l0.length l0) (hc0:l0.length ≤ c0) (h:trace_Right.f l0 a1 = some r) :
  Calls Try.prog 8 #[.slice A0 l0.length c0,.int .i64 a1] w fun e w'=>e = .returned (.bool r)∧Below w.heap.size w w':=by
 have hfit:fitB l0 = true:=by
  unfold trace_Right.f at h
  split at h
  ·assumption
  ·cases h
 have hr:r = rightB l0 a1:=by unfold trace_Right.f at h;rw [if_pos hfit] at h;injection h with h;exact h.symm
 have HR:=Lib.hid hr
 have hlen:=fit_len hfit
 clear h hr
 have hmm:=@run_makeMap Try.prog
 have hl9:(l0.length:Int) ≤ 4000:=by omega
 go_enter Try.func8,Try.ntmps8
 go_wp2_with fail
 go_loopw [6,12] (fun u i wr=>∃ k:Nat,k ≤ l0.length∧i = .int .i64 k∧u = .int .i64 (wasAt l0 k)∧Hid (∀ j,j < k→stepB l0 a1 j = true)∧(∃ n,n ≤ k∧wr.ownsMap Try.prog 3 (plainElem Try.prog 3) w.heap.size n (mapTo l0 k))∧Below w.heap.size w wr)
  (fun _ i _=>l0.length - (intOf i).toNat)
 case atStart=>exact ⟨0,Nat.zero_le _,rfl,rfl,Lib.hid (fun j hj=>by omega),⟨0,Nat.le_refl _,World.ownsMap_made _ _ _ _⟩,(Below.refl _ _).alloc (Nat.le_refl _) _⟩
 case round =>
  obtain ⟨k,hk,rfl,rfl,HS,⟨n,hn,hown⟩,hnx⟩:=hrel
  by_cases hlt:k < l0.length
  ·have hrw:=Kd.C_below hr0 hnx
   obtain ⟨ad,e,x0,x1,x2,x3,x4,x5,x6,x7,x8,x9⟩:=at_ev hrw k hlt
   subst e
   have hk0:(0:Int) ≤ (k:Int):=by omega
   have hk1:(k:Int) < (l0.length:Int):=by omega
   have HW:=Lib.hid hrw
   have HB:=own_lt hown
   have HO:=Lib.hid hown
   clear hrw hown hr0
   have HX:=Lib.hid x2
   go_wp2_with fail
   obtain ⟨sb,hsb⟩:∃ sb,stepB l0 a1 k = sb:=⟨_,rfl⟩
   have HSB:=Lib.hid hsb
   clear hsb x0 x1 x2 x3 x4 x5 x6 x7 x8 x9 HX
   go_region_held3 (fun w'=>w'.cell? ⟨wr.heap.size,0,none⟩ = some (.int .i64 (ev l0 k).f0)∧w'.cell? ⟨wr.heap.size,1,none⟩ = some (.int .i64 (ev l0 k).f1))
    (first|go_keep|(go_split_ands;exact ⟨hgrow1.cell (by assumption) (by simp;omega),hgrow1.cell (by assumption) (by simp;omega)⟩))
    (first|(go_at_call 20;refine (take_any w.heap.size n k _ c0 l0 _ (Kd.C_drew (Kd.C_alloc HW.out _)) hlt (by omega) hfit ((HO.out.alloc _))).mono ?_;rintro e w1 ⟨rfl,hown1,hgrow1⟩)|(go_at_call 19;refine (all_step _ _ _ _ sb HSB _ _ (by go_simp) (by go_simp) (by go_simp) (by go_simp)).mono ?_;rintro e w2 ⟨rfl,mm,rfl⟩))
   obtain ⟨z0,z1⟩:_∧_:=by assumption
   have hb1:Below w.heap.size w w1:=by
    have h1:(wr.alloc _).grownBy w1 (some w.heap.size):=⟨hgrow1.os,hgrow1.tape,hgrow1.output,hgrow1.size,hgrow1.block⟩
    exact grown_below (hnx.alloc hnx.size _) h1 (Nat.le_refl _) (by simp;omega)
   have hs1:=hb1.size
   have hb2:=below_drewN_ (hb1.alloc hs1 (.cells #[.bool (decide (0 ≤ (ev l0 k).f1)),.bool (decide ((ev l0 k).f1 < a1)),.bool (decide (wasAt l0 k ≤ (ev l0 k).f0)),.bool (takeB l0 k)] 4)) mm
   have ho2:=Lib.hid (own_drewN (hown1.alloc (.cells #[.bool (decide (0 ≤ (ev l0 k).f1)),.bool (decide ((ev l0 k).f1 < a1)),.bool (decide (wasAt l0 k ≤ (ev l0 k).f0)),.bool (takeB l0 k)] 4)) mm)
   clear hown1 hgrow1
   cases sb
   ·go_wp2_with fail
    go_ret
    exact ⟨by rw [HR.out,right_no hlt HSB.out];rfl,hb2⟩
   ·go_wp2_with fail
    go_roundw
    case rel=>exact ⟨k + 1,by omega,by go_num,rfl,Lib.hid (fun j hj=>by
      by_cases hjk:j = k
      ·rw [hjk];exact HSB.out
      ·exact HS.out j (by omega)),⟨n + 1,by omega,ho2.out⟩,hb2⟩
    case measure=>simp [intOf];omega
  ·have hke:k = l0.length:=by omega
   subst hke
   have hfin:rightB l0 a1 = true:=right_yes HS.out
   have HF:=Lib.hid hfin
   clear hfin hown
   go_wp2_with fail
   go_ret
   exact ⟨by rw [HR.out,HF.out];rfl,hnx⟩
end Go.Proofs.Ytadblpcjkahikaa.PTraceRuns.Tr

