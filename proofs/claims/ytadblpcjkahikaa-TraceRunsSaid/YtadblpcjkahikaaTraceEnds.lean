
import Derived.Test.YtadblpcjkahikaaTraceRight
import Derived.Test.YtadblpcjkahikaaTraceEnds0
namespace Go.Proofs.Ytadblpcjkahikaa.PTraceRuns.Tr
set_option linter.unusedVariables false
open Go.RowKit Go.Maps Go.Proofs.YtadblpcjkahikaaW.PrintWords Go.Proofs.YtadblpcjkahikaaW.PrintLast Go.Proofs.YtadblpcjkahikaaW.PrintMore
def trace_Ends.f (l:List S48):Option (List Int):=if fitB l = true∧takesB l = true then some (endsTo l l.length) else none
theorem trace_Ends.of {l:List S48} {r:List Int} (h:trace_Ends.f l = some r):fitB l = true∧takesB l = true∧r = endsTo l l.length:=by
 unfold trace_Ends.f at h
 split at h
 ·rename_i hh;injection h with h;exact ⟨hh.1,hh.2,h.symm⟩
 ·cases h
theorem row_R {w:World} {base:Nat} {v:Value} {xs:List Int} (h:w.ownsRow base 3 1 v xs.length (nums .i64 xs)):Kd.R (Kd.int .i64) 3 w base (fun _=>True) v xs :=
 ⟨fun _ _=>trivial,nums .i64 xs,h,Kd.reps_scalar xs⟩
theorem row_slice {w:World} {B n:Nat} {v:Value} {xs:List Value} (h:w.ownsRow B 3 1 v n xs) (hn:0 < n):∃ g cap,v = .slice (some ⟨g,0,none⟩) n cap∧n ≤ cap∧cap ≤ maxLen∧B ≤ g∧g < w.heap.size:=by
 obtain ⟨_,h⟩:=h
 rcases h with ⟨_,h0⟩|⟨g,cap,cur,hv,hb,hg,h1,h2,_⟩
 ·omega
 ·exact ⟨g,cap,hv,h1,h2,hb,(Array.getElem?_eq_some_iff.1 hg).1⟩
theorem row_form {w:World} {B n:Nat} {v:Value} {xs:List Value} (h:w.ownsRow B 3 1 v n xs):∃ A c,v = .slice A n c:=by
 obtain ⟨_,h⟩:=h
 rcases h with ⟨hv,h0⟩|⟨g,cap,cur,hv,_⟩
 ·exact ⟨none,0,by rw [hv,h0]⟩
 ·exact ⟨_,_,hv⟩
set_option maxHeartbeats 4000000 in
set_option maxRecDepth 100000 in
theorem trace_Ends.calls (A0:Option Addr) (c0:Nat) (l0:List S48) (r:List Int) (w:World) (hr0:Kd.C k48 w A0 l0.length l0) (hc0:l0.length ≤ c0) (h:trace_Ends.f l0 = some r) :
  Calls Try.prog 11 #[.slice A0 l0.length c0] w fun e w'=>∃ v0_:Value,e = .returned (v0_)∧Kd.R (Kd.int .i64) 3 w' w.heap.size (fun _=>True) v0_ r∧Below w.heap.size w w':=by
 obtain ⟨hfit,htk,hr⟩:=trace_Ends.of h
 have HR:=Lib.hid hr
 have hlen:=fit_len hfit
 have HT:=Lib.hid htk
 have HKD:Hid (∀ k,k < l0.length→(ev l0 k).f2 = 1 ∨ (ev l0 k).f2 = 2):=Lib.hid (fun k hk=>by
  rcases take_kind (takes_at htk hk) with h|h
  ·exact .inl h.1
  ·exact .inr h.1)
 obtain ⟨i0,hi,hz0,hz1,hz2⟩:=info_parts info3
 clear h hr htk
 have hmm:=@run_makeMap Try.prog
 have hl9:(l0.length:Int) ≤ 4000:=by omega
 have HR0:=Lib.hid hr0
 clear hr0
 go_enter Try.func11,Try.ntmps11
 go_wp2_with fail
 go_loopw [3,10] (fun v i wr=>∃ k:Nat,k ≤ l0.length∧i = .int .i64 k∧wr.ownsRow (w.heap.size + 1) 3 1 v (endsTo l0 k).length (nums .i64 (endsTo l0 k))∧(∃ n,n ≤ k∧wr.ownsMap Try.prog 3 (plainElem Try.prog 3) w.heap.size n (onTo l0 k))∧Below w.heap.size w wr∧w.heap.size < wr.heap.size)
  (fun _ i _=>l0.length - (intOf i).toNat)
 case atStart=>exact ⟨0,Nat.zero_le _,rfl,World.ownsRow_nil _ _ _ _,⟨0,Nat.le_refl _,World.ownsMap_made _ _ _ _⟩,(Below.refl _ _).alloc (Nat.le_refl _) _,by simp⟩
 case round =>
  obtain ⟨k,hk,rfl,hown,⟨n,hn,hom⟩,hnx,hsw⟩:=hrel
  by_cases hlt:k < l0.length
  ·have hrw:=Kd.C_below HR0.out hnx
   obtain ⟨ad,e,x0,x1,x2,x3,x4,x5,x6,x7,x8,x9⟩:=at_ev hrw k hlt
   subst e
   have hk0:(0:Int) ≤ (k:Int):=by omega
   have hk1:(k:Int) < (l0.length:Int):=by omega
   have hkey:=keyOf_int_mk Try.underlying3 (fit_wf hfit k)
   have hel:=endsTo_len l0 k
   have helz:((endsTo l0 k).length:Int) ≤ 4000:=by omega
   rcases take_kind (takes_at HT.out hlt) with ⟨h1,ho,_⟩|⟨h2,p,ho,_⟩
   ·have h1':((ev l0 k).f2 == 1) = true:=by simpa using h1
    have HE:=Lib.hid (endsTo_begin h1 ho)
    have HO:Hid (onTo l0 (k + 1) = (onTo l0 k).put (.int .i64 (ev l0 k).f1) (.lit (.int .i64 (((beginsTo l0 k).length:Nat):Int)))):=by rw [onTo,if_pos h1];exact rfl
    have HLN:Hid ((beginsTo l0 k).length = (endsTo l0 k).length):=by unfold endsTo;rw [List.length_map];exact rfl
    obtain ⟨A3,c3,rfl⟩:=row_form hown
    have HNE:(Value.slice A3 (endsTo l0 k).length c3).ownBlock = none ∨ (Value.slice A3 (endsTo l0 k).length c3).ownBlock ≠ some w.heap.size:=by
     right;intro hb;have:=own_base hown _ hb;omega
    have HNS:=Lib.hid HNE
    have hbl:((beginsTo l0 k).length:Int) ≤ 4000:=by rw [HLN.out];exact helz
    clear h1 ho HNE
    go_wp2_with (first
     | (at_mapUpdate;refine wpList_mapUpdate_own _ rfl _ _ _ 56 rfl 3 3 law3 Try.underlying56 _ w.heap.size n _ rfl (hom.alloc _) (by unfold maxLen;omega) _ _ _ rfl rfl hkey _ [] (plainElem_int Try.underlying3 (WalkArith.wf_i64 (by omega))) ?_;intro w1 hom1 hgrow1)
     | (at_builtin;refine wpList_append_own _ rfl _ _ 22 rfl (w.heap.size + 1) 3 i0 (.int .i64 0) 1 8 Try.underlying22 hi hz0 hz1 hz2 rfl (by decide) _ _ _ rfl (((hown.alloc _).kept hgrow1 HNS.out).alloc _) ⟨w1.heap.size,0,none⟩ 1 1 [.int .i64 (-1)] rfl rfl (cell_one_new _ _ _) (ints_oneCell .i64 [-1]) (by unfold maxLen;omega) (by omega) (by have:=hgrow1.size;simp at this ⊢;omega) ?_;intro v' w2 hown' hgrow2 hnil2))
    have hr1:=(hown.alloc (.cells #[.int .i64 (ev l0 k).f0,.int .i64 (ev l0 k).f1,.int .i64 (ev l0 k).f2,.int .i64 (ev l0 k).f3.f0,.int .i64 (ev l0 k).f3.f1,.int .i64 (ev l0 k).f3.f2,.int .i64 (ev l0 k).f4.f0,.int .i64 (ev l0 k).f4.f1,.bool (ev l0 k).f4.f2,.int .i64 (ev l0 k).f4.f3] 48)).kept hgrow1 HNS.out
    have s1:=hgrow1.size
    have s2:=hgrow2.size
    simp at s1 s2
    go_roundw
    case rel =>
     refine ⟨k + 1,by omega,by go_num,?_,⟨n + 1,by omega,?_⟩,?_,by omega⟩
     ·rw [HE.out];simpa [nums] using hown'
     ·rw [HO.out,HLN.out]
      exact (hom1.alloc _).kept hgrow2 (fun e=>by have:=own_base hr1 _ e.symm;omega)
     ·exact ((((hnx.alloc hnx.size _).grown hgrow1 (by simp;omega) (fun j hj=>by cases hj;exact Nat.le_refl _)).alloc (by omega) _).grown hgrow2 (by simp;omega) (fun j hj=>Nat.le_trans (Nat.le_succ _) (own_base hr1 j hj)))
    case measure=>simp [intOf];omega
   ·have h1':((ev l0 k).f2 == 1) = false:=beq_eq_false_iff_ne.2 (by omega)
    have h2':((ev l0 k).f2 == 2) = true:=by simpa using h2
    obtain ⟨hE,hrk⟩:=endsTo_end (k:=k) (p:=p) (by omega) HKD.out hlt ho
    have HE:=Lib.hid hE
    have hO:onTo l0 (k + 1) = onTo l0 k:=by rw [onTo,if_neg (by omega)]
    have HO:=Lib.hid hO
    obtain ⟨_,_,_,hlb,_⟩:=openAt_some l0 _ HKD.out k p (by omega) ho
    have hat0:=at_onTo l0 (ev l0 k).f1 k
    rw [hlb] at hat0
    have HC:=Lib.hid (show ∀ c:Int,(onTo l0 k).atKey (.int .i64 (ev l0 k).f1) (.lit (.int .i64 0)) = .lit (.int .i64 c)→c = ((rankOf l0 p:Nat):Int) from fun c hc=>by
     rw [hat0] at hc
     injection hc with hc
     injection hc with _ hc
     exact hc.symm)
    obtain ⟨g,cap,rfl,hnc,hcm,hBg,hgl⟩:=row_slice hown (by omega)
    have rk0:(0:Int) ≤ ((rankOf l0 p:Nat):Int):=by omega
    have rk1:((rankOf l0 p:Nat):Int) < ((endsTo l0 k).length:Int):=by omega
    have hst:=fun o=>own_at (hown.alloc o) ((rankOf l0 p:Nat):Int) rk0 rk1
    simp only [Int.toNat_natCast] at hst
    clear h2 ho hE hO hlb hat0
    go_wp2_with (at_lookup;refine wpList_lookup_own_int _ rfl _ _ 56 rfl 3 3 .i64 law3 Try.underlying56 Try.underlying3 (zero3 _) w.heap.size n _ rfl (hom.alloc _) _ _ rfl hkey ?_;intro c hat hwc;obtain rfl:=HC.out c hat;clear hat)
    have hs:=own_store hown ((rankOf l0 p:Nat):Int) (k:Int)
    rw [Int.toNat_natCast] at hs
    obtain ⟨hs1,hs2⟩:=hs
    go_roundw
    case rel =>
     refine ⟨k + 1,by omega,by go_num,?_,⟨n,by omega,?_⟩,?_,by have:=hs2.size;simp at this ⊢;omega⟩
     ·rw [HE.out,List.length_set];exact hs1.alloc _
     ·rw [HO.out];exact (hom.kept hs2 (fun e=>by injection e with e;omega)).alloc _
     ·exact (hnx.grown hs2 hnx.size (fun j hj=>by cases hj;omega)).alloc (by have:=hs2.size;have:=hnx.size;omega) _
    case measure=>simp [intOf];omega
  ·have hke:k = l0.length:=by omega
   subst hke
   clear hom hlt
   go_wp2_with fail
   go_ret
   exact ⟨_,rfl,by rw [HR.out];exact row_R (own_weaken hown (Nat.le_succ _)),hnx⟩
end Go.Proofs.Ytadblpcjkahikaa.PTraceRuns.Tr

