
import Derived.Test.YtadblpcjkahikaaRunsRun
import Derived.Test.YtadblpcjkahikaaTraceMost
import Derived.Test.YtadblpcjkahikaaTraceBefore
import Derived.Test.YtadblpcjkahikaaTraceEnds
namespace Go.Proofs.Ytadblpcjkahikaa.PTraceRuns
open Go.RowKit Go.Proofs.YtadblpcjkahikaaW.PrintWords Go.Proofs.YtadblpcjkahikaaW.PrintLast Go.Proofs.YtadblpcjkahikaaW.PrintMore Go.Proofs.Ytadblpcjkahikaa.PTraceRuns.Tr
set_option linter.unusedVariables false
set_option linter.unusedSimpArgs false
set_option maxHeartbeats 4000000
set_option maxRecDepth 100000
def e5:List S48:=[⟨0,0,1,⟨0,0,0⟩,⟨0,0,false,0⟩⟩,⟨2,1,1,⟨0,0,0⟩,⟨0,0,false,0⟩⟩,⟨3,0,2,⟨0,0,0⟩,⟨0,0,false,0⟩⟩,⟨3,0,1,⟨0,0,0⟩,⟨0,0,false,0⟩⟩,⟨4,1,2,⟨0,0,0⟩,⟨0,0,false,0⟩⟩]
theorem ev12 (a0 a1 a2:Int) (w:World):Calls Try.prog 12 #[.int .i64 a0,.int .i64 a1,.int .i64 a2] w fun e w'=>e = .returned (.agg #[.int .i64 a0,.int .i64 a1,.int .i64 a2,.int .i64 0,.int .i64 0,.int .i64 0,.int .i64 0,.int .i64 0,.bool false,.int .i64 0])∧Below w.heap.size w w':=breadlinelaw18_event.calls a0 a1 a2 _ _ _ _ _ _ _ _ _ _ w rfl
section
variable {w w1:World} {A:Option Addr} {n c:Nat} {l:List S48}
theorem right_n (l:List S48) (h:Kd.C k48 w A n l) (hn:l.length = n) (hc:n ≤ c) (a:Int) (hf:fitB l = true):Calls Try.prog 8 #[.slice A n c,.int .i64 a] w fun e w'=>e = .returned (.bool (rightB l a))∧Below w.heap.size w w':=by
 subst hn;exact trace_Right.calls A c l a _ w h hc (by unfold trace_Right.f;rw [if_pos hf])
theorem e5_reads {b:Nat} {ok:Nat→Prop} (h:Kd.R k48 48 w b ok (.slice A 5 c) e5):5 ≤ c∧Kd.C k48 w A 5 e5:=⟨(Kd.R_reads' h).2.1,reads_n h⟩
theorem e5_at {b:Nat} {ok:Nat→Prop} (h:Kd.R k48 48 w b ok (.slice A 5 c) e5):∃ g,A = some ⟨g,0,none⟩:=by obtain ⟨g,_,e,_⟩:=elem_at (B:=0) (L:=[]) h (by decide) z48 0 (by decide);exact ⟨g,e⟩
theorem e5_drop {g:Nat} (h:Kd.C k48 w (some ⟨g,0,none⟩) 5 e5) (hc:5 ≤ c):Kd.C k48 w (some ⟨g,20,none⟩) 3 (e5.drop 2):=by
 have h2:=Kd.C_drop (m:=2) (c:=c) (xs:=e5) h (by decide) hc
 rw [if_neg (by omega)] at h2
 exact h2
theorem drewN_b {w0:World} (h:Below w0.heap.size w0 w) (m:Nat):Below w0.heap.size w0 (w.drewN m):=⟨h.os,h.tape,h.output,h.size,h.block⟩
theorem fit5:fitB e5 = true:=by decide +kernel
theorem fit3:fitB (e5.drop 2) = true:=by decide +kernel
theorem ends_n (h:Kd.C k48 w A 5 e5) (hc:5 ≤ c):Calls Try.prog 11 #[.slice A 5 c] w fun e w'=>∃ A1 c1,e = .returned (.slice A1 3 c1)∧Kd.R (Kd.int .i64) 3 w' w.heap.size (fun _=>True) (.slice A1 3 c1) [2,4,-1]∧Below w.heap.size w w':=by
 refine (trace_Ends.calls A c e5 [2,4,-1] w h hc (by decide +kernel)).mono ?_
 rintro e w' ⟨v,rfl,hr,hb⟩
 obtain ⟨A1,c1,e1⟩:=Kd.R_slice hr
 subst e1
 exact ⟨A1,c1,rfl,hr,hb⟩
theorem calls_n (h:Kd.C k48 w A 5 e5) (hc:5 ≤ c):Calls Try.prog 10 #[.slice A 5 c] w fun e w'=>∃ A1 c1,e = .returned (.slice A1 3 c1)∧Kd.R (Kd.int .i64) 3 w' w.heap.size (fun _=>True) (.slice A1 3 c1) [0,1,3]∧Below w.heap.size w w':=by
 refine (trace_Calls.calls 20 A c e5 [0,1,3] w h hc (by decide +kernel)).mono ?_
 rintro e w' ⟨v,rfl,hr,hb⟩
 obtain ⟨A1,c1,e1⟩:=Kd.R_slice hr
 subst e1
 exact ⟨A1,c1,rfl,hr,hb⟩
theorem same_l0 (x:List Int) (hl:x.length ≤ 1000):∀ (m i:Nat),x.length - i = m→i ≤ x.length→∀ K,m + 1 ≤ K→breadlineref03_SameInts.l0 K x x i = some true:=by
 intro m
 induction m with
 | zero =>
  intro i h hi K hK
  obtain ⟨K,rfl⟩:∃ m,K = m + 1:=⟨K - 1,by omega⟩
  rw [breadlineref03_SameInts.l0,if_neg (by omega)]
 | succ m ih =>
  intro i h hi K hK
  obtain ⟨K,rfl⟩:∃ m,K = m + 1:=⟨K - 1,by omega⟩
  rw [breadlineref03_SameInts.l0,if_pos (by omega),if_pos (by omega),if_pos (by omega),if_pos rfl,show wrap64 ((i:Int) + 1) = ((i + 1:Nat):Int) by unfold wrap64;omega]
  exact ih (i + 1) (by omega) (by omega) K (by omega)
theorem same_lit {b c1:Nat} {A1:Option Addr} {ok:Nat→Prop} {x y z:Int} (h1:Kd.R (Kd.int .i64) 3 w b ok (.slice A1 3 c1) [x,y,z]):Calls Try.prog 13 #[.slice A1 3 c1,.slice (some ⟨w.heap.size,0,none⟩) 3 3] (w.alloc (.cells #[.int .i64 x,.int .i64 y,.int .i64 z] 3)) fun e w'=>e = .returned (.bool true)∧Below w.heap.size w w':=by
 have hb:=below_alloc (Below.refl w.heap.size w) (.cells #[.int .i64 x,.int .i64 y,.int .i64 z] 3 (0,0))
 have hn:=blk_new w (.cells #[.int .i64 x,.int .i64 y,.int .i64 z] 3 (0,0))
 have hC:Kd.C (Kd.int .i64) (w.alloc (.cells #[.int .i64 x,.int .i64 y,.int .i64 z] 3)) (some ⟨w.heap.size,0,none⟩) 3 [x,y,z]:=by
  refine ⟨rfl,by decide,fun _=>⟨_,rfl,fun j p hp=>⟨[.int .i64 p],rfl,rfl,fun i u hu=>?_⟩⟩⟩
  have hi:i = 0:=by
   rcases i with _|i
   ·rfl
   ·simp at hu
  subst hi
  have hu:u = .int .i64 p:=by simpa using hu.symm
  subst hu
  rcases j with _|_|_|j
  ·have:p = x:=by simpa using hp.symm
   subst this;exact (blk_cell hn 0).trans rfl
  ·have:p = y:=by simpa using hp.symm
   subst this;exact (blk_cell hn 1).trans rfl
  ·have:p = z:=by simpa using hp.symm
   subst this;exact (blk_cell hn 2).trans rfl
  ·simp at hp
 obtain ⟨_,k1,r1⟩:=Kd.R_reads' (Kd.R_below h1 hb)
 refine (breadlineref03_SameInts.calls 4 A1 c1 [x,y,z] (some ⟨w.heap.size,0,none⟩) 3 [x,y,z] true _ r1 k1 hC (Nat.le_refl _) (by unfold breadlineref03_SameInts.f;rw [if_pos rfl];exact same_l0 [x,y,z] (by show (3:Nat) ≤ 1000;omega) 3 0 (by show 3 - 0 = 3;omega) (Nat.zero_le _) _ (Nat.le_refl _))).mono ?_
 rintro e w' ⟨rfl,⟨dr,rfl⟩⟩
 exact ⟨rfl,drewN_b hb dr⟩
theorem before_n (h:Kd.C k48 w A 5 e5) (hc:5 ≤ c) (a b:Int):Calls Try.prog 14 #[.slice A 5 c,.int .i64 a,.int .i64 b] w fun e w'=>e = .returned (.bool (beforeB e5 a b))∧Below w.heap.size w w':=trace_Before.calls A c e5 a b _ w h hc (by unfold trace_Before.f;rw [if_pos fit5])
theorem most_n (h:Kd.C k48 w A 5 e5) (hc:5 ≤ c):Calls Try.prog 9 #[.slice A 5 c] w fun e w'=>e = .returned (.int .i64 2)∧Below w.heap.size w w':=trace_Most.calls A c e5 2 w h hc (by decide +kernel)
end
theorem head_c (w:World):Calls Try.prog 4 #[] w fun e w'=>e = .returned (.bool true)∧Below w.heap.size w w':=by
 have T1:Hid (rightB e5 2 = true):=Lib.hid (by decide +kernel)
 have T2:Hid (rightB e5 1 = false):=Lib.hid (by decide +kernel)
 have T3:Hid (rightB (e5.drop 2) 2 = false):=Lib.hid (by decide +kernel)
 have T4:Hid (beforeB e5 0 3 = true):=Lib.hid (by decide +kernel)
 have T5:Hid (beforeB e5 0 1 = false):=Lib.hid (by decide +kernel)
 have T6:Hid (beforeB e5 2 3 = false):=Lib.hid (by decide +kernel)
 have T7:Hid (fitB e5 = true):=Lib.hid fit5
 have T0:Hid (fitB e5 = true):=Lib.hid fit5
 have T9:Hid (fitB (e5.drop 2) = true):=Lib.hid fit3
 have HB:Hid (Below w.heap.size w w):=Lib.hid (Below.refl _ _)
 go_enter Try.func4,Try.ntmps4
 go_wp2_with (first|(go_at_call 12;(with_reducible refine (ev12 _ _ _ _).mono ?_);rintro e w1 ⟨rfl,hb⟩;replace HB:=Lib.hid (below_step HB.out hb);clear hb)|((with_reducible refine gate_dst (N:=7) rfl ?_);refine Kd.R_lit k48 (w0:=w) w.heap.size 48 ?hg (N:=7) ?hd (xs:=e5) (inner:=[.int .i64 0,.int .i64 0,.int .i64 1,.int .i64 0,.int .i64 0,.int .i64 0,.int .i64 0,.int .i64 0,.bool false,.int .i64 0,.int .i64 2,.int .i64 1,.int .i64 1,.int .i64 0,.int .i64 0,.int .i64 0,.int .i64 0,.int .i64 0,.bool false,.int .i64 0,.int .i64 3,.int .i64 0,.int .i64 2,.int .i64 0,.int .i64 0,.int .i64 0,.int .i64 0,.int .i64 0,.bool false,.int .i64 0,.int .i64 3,.int .i64 0,.int .i64 1,.int .i64 0,.int .i64 0,.int .i64 0,.int .i64 0,.int .i64 0,.bool false,.int .i64 0,.int .i64 4,.int .i64 1,.int .i64 2,.int .i64 0,.int .i64 0,.int .i64 0,.int .i64 0,.int .i64 0,.bool false,.int .i64 0]) (ok:=fun _=>True) (okp:=fun _=>True) ?hr (Reps.snoc (Reps.snoc (Reps.snoc (Reps.snoc (Reps.snoc (Reps.none _ _) (k48_mkM _ _ _ ⟨0,0,1,⟨0,0,0⟩,⟨0,0,false,0⟩⟩) rfl) (k48_mkM _ _ _ ⟨2,1,1,⟨0,0,0⟩,⟨0,0,false,0⟩⟩) rfl) (k48_mkM _ _ _ ⟨3,0,2,⟨0,0,0⟩,⟨0,0,false,0⟩⟩) rfl) (k48_mkM _ _ _ ⟨3,0,1,⟨0,0,0⟩,⟨0,0,false,0⟩⟩) rfl) (k48_mkM _ _ _ ⟨4,1,2,⟨0,0,0⟩,⟨0,0,false,0⟩⟩) rfl) (fun _ h=>h) trivial HB.out HB.out.size (by decide) ?_;(case hd=>rfl);(case hg=>rfl);(case hr=>first|(go_simp;done)|(go_simp;rfl));intro v1 w1 ho hb' hg_ _;obtain ⟨AE,cE,e1⟩:=slice_of ho (n:=5) rfl;subst e1;obtain ⟨hcE,hCE⟩:=e5_reads ho;obtain ⟨gE,eA⟩:=e5_at ho;subst eA;have hc2:¬ cE = 2:=(by omega);have HCE:=Lib.hid hcE;have HE:=Lib.hid hCE;replace HB:=Lib.hid hb';clear ho hb' hg_ hcE hCE)|(go_at_call 8;(with_reducible refine (right_n e5 HE.out rfl HCE.out _ T0.out).mono ?_);rintro e w1 ⟨rfl,hb⟩;replace HE:=Lib.hid (Kd.C_below HE.out hb);(try rw [T1.out]);(try rw [T2.out]);(try rw [T3.out]);(try rw [T4.out]);(try rw [T5.out]);(try rw [T6.out]);(try rw [T7.out]);replace HB:=Lib.hid (below_step HB.out hb);clear hb)|(go_at_call 8;(with_reducible refine (right_n (c:=cE - 2) (e5.drop 2) (e5_drop HE.out HCE.out) rfl (by have:=HCE.out;omega) _ T9.out).mono ?_);rintro e w1 ⟨rfl,hb⟩;replace HE:=Lib.hid (Kd.C_below HE.out hb);(try rw [T1.out]);(try rw [T2.out]);(try rw [T3.out]);(try rw [T4.out]);(try rw [T5.out]);(try rw [T6.out]);(try rw [T7.out]);replace HB:=Lib.hid (below_step HB.out hb);clear hb)|(go_at_call 11;(with_reducible refine (ends_n HE.out HCE.out).mono ?_);rintro e w1 ⟨A1,c1,rfl,hr1,hb⟩;replace HE:=Lib.hid (Kd.C_below HE.out hb);have HR1:=Lib.hid hr1;clear hr1;replace HB:=Lib.hid (below_step HB.out hb);clear hb)|(go_at_call 13;(with_reducible refine (same_lit HR1.out).mono ?_);rintro e w1 ⟨rfl,hb⟩;replace HE:=Lib.hid (Kd.C_below HE.out hb);clear HR1;replace HB:=Lib.hid (below_step HB.out hb);clear hb)|(go_at_call 10;(with_reducible refine (calls_n HE.out HCE.out).mono ?_);rintro e w1 ⟨A1,c1,rfl,hr1,hb⟩;replace HE:=Lib.hid (Kd.C_below HE.out hb);have HR3:=Lib.hid hr1;clear hr1;replace HB:=Lib.hid (below_step HB.out hb);clear hb)|(go_at_call 13;(with_reducible refine (same_lit HR3.out).mono ?_);rintro e w1 ⟨rfl,hb⟩;replace HE:=Lib.hid (Kd.C_below HE.out hb);clear HR3;replace HB:=Lib.hid (below_step HB.out hb);clear hb)|(go_at_call 14;(with_reducible refine (before_n HE.out HCE.out _ _).mono ?_);rintro e w1 ⟨rfl,hb⟩;replace HE:=Lib.hid (Kd.C_below HE.out hb);(try rw [T1.out]);(try rw [T2.out]);(try rw [T3.out]);(try rw [T4.out]);(try rw [T5.out]);(try rw [T6.out]);(try rw [T7.out]);replace HB:=Lib.hid (below_step HB.out hb);clear hb)|(go_at_call 9;(with_reducible refine (most_n HE.out HCE.out).mono ?_);rintro e w1 ⟨rfl,hb⟩;replace HE:=Lib.hid (Kd.C_below HE.out hb);replace HB:=Lib.hid (below_step HB.out hb);clear hb))
 go_ret
 exact ⟨rfl,HB.out⟩
end Go.Proofs.Ytadblpcjkahikaa.PTraceRuns

