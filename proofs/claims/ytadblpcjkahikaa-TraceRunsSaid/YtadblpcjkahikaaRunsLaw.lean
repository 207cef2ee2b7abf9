
import Derived.Test.YtadblpcjkahikaaRunsHead
import Derived.Test.YtadblpcjkahikaaRunsGood
namespace Go.Proofs.Ytadblpcjkahikaa.PTraceRuns
open Go.RowKit Go.Proofs.YtadblpcjkahikaaW.PrintWords Go.Proofs.YtadblpcjkahikaaW.PrintLast Go.Proofs.YtadblpcjkahikaaW.PrintMore Go.Proofs.Ytadblpcjkahikaa.PTraceRuns.Tr
set_option linter.unusedVariables false
set_option linter.unusedSimpArgs false
set_option maxHeartbeats 2000000
set_option maxRecDepth 100000
theorem w64 {x:Int} (h:-9223372036854775808 ≤ x∧x ≤ 9223372036854775807):wrap64 x = x:=IntWalk.wrap64_in _ h
theorem callsTo_succ (l:List S48) (i:Nat):callsTo l (i + 1) = if (ev l i).f2 = 1 then callsTo l i ++ [(i:Int)] else callsTo l i:=by
 unfold callsTo
 rw [beginsTo]
 split
 ·simp
 ·rfl
theorem callsTo_len (l:List S48) (i:Nat):(callsTo l i).length ≤ i:=by unfold callsTo;rw [List.length_map];exact beginsTo_len l i
theorem calls_l0 (l:List S48) (hl:l.length ≤ 4000):∀ (m i:Nat),l.length - i = m→i ≤ l.length→∀ K,m + 1 ≤ K→trace_Calls.l0 K (callsTo l i) l l.length i = some (callsTo l l.length)
 | 0,i,hm,hil,K,hK=>by
  obtain ⟨K,rfl⟩:∃ k,K = k + 1:=⟨K - 1,by omega⟩
  simp only [trace_Calls.l0]
  rw [if_neg (by omega)]
  have:i = l.length:=by omega
  rw [this]
 | m + 1,i,hm,hil,K,hK=>by
  obtain ⟨K,rfl⟩:∃ k,K = k + 1:=⟨K - 1,by omega⟩
  have ih:=calls_l0 l hl m (i + 1) (by omega) (by omega) K (by omega)
  have hle:=callsTo_len l i
  simp only [trace_Calls.l0]
  rw [if_pos (by omega),if_pos (by omega),if_pos (by omega),rd_ev]
  by_cases h:(ev l i).f2 = 1
  ·have he:=callsTo_succ l i
   rw [if_pos h] at he
   rw [if_pos h,if_pos (by omega),← he,w64 (by omega)]
   exact ih
  ·have he:=callsTo_succ l i
   rw [if_neg h] at he
   rw [if_neg h,← he,w64 (by omega)]
   exact ih
theorem calls_f (l:List S48) (hl:l.length ≤ 4000) (K:Nat) (hK:l.length + 1 ≤ K):trace_Calls.f K l = some (callsTo l l.length) :=
 calls_l0 l hl l.length 0 (by omega) (by omega) K (by omega)
theorem law_no {z0 z1 z2 z3 z4 z5:Int} {l6 l7:List Int} {A6 A7 A8 A9:Option Addr} {c6 c7 c8 c9:Nat} {l8:List (List S43)} {l9:List Int} {w:World} (hr6:Kd.C (Kd.int .i64) w A6 (l6).length (l6)) (hc6:(l6).length ≤ c6) (hr7:Kd.C (Kd.int .i64) w A7 (l7).length (l7)) (hc7:(l7).length ≤ c7) (hr8:Kd.C (Kd.slice 43 k43) w A8 l8.length l8) (hc8:l8.length ≤ c8) (hr9:Kd.C (Kd.int .u8) w A9 l9.length l9) (hc9:l9.length ≤ c9) {kg:Nat} (hg:breadlinelaw16_Good.f kg z0 z1 z2 z3 z4 z5 l6 l7 l8 l9 = some false) :
  Calls Try.prog 3 #[.agg #[.int .i64 z0,.int .i64 z1,.int .i64 z2,.int .i64 z3,.int .i64 z4,.int .i64 z5,.slice A6 l6.length c6,.slice A7 l7.length c7,.slice A8 l8.length c8,.slice A9 l9.length c9]] w fun e w'=>e = .returned (.bool true)∧Below w.heap.size w w':=by
 have HR6:=Lib.hid (And.intro hr6 hc6)
 have HR7:=Lib.hid (And.intro hr7 hc7)
 have HR8:=Lib.hid (And.intro hr8 hc8)
 have HR9:=Lib.hid (And.intro hr9 hc9)
 have HS0:Hid (Mk w w):=Lib.hid (Mk.refl w)
 have HG:=Lib.hid hg
 clear hr6 hc6 hr7 hc7 hr8 hc8 hr9 hc9 hg
 go_enter Try.func3,Try.ntmps3
 go_wp2_with (first|((with_reducible refine gate_dst (N:=1) rfl ?_);refine box_event ?hg (N:=1) ?hd (cs:=#[.int .i64 z0,.int .i64 z1,.int .i64 z2,.int .i64 z3,.int .i64 z4,.int .i64 z5,.slice A6 l6.length c6,.slice A7 l7.length c7,.slice A8 l8.length c8,.slice A9 l9.length c9]) (t:=28) ?hr ?_;(case hd=>rfl);(case hg=>rfl);(case hr=>first|(go_simp;done)|(go_simp;rfl));intro g1 hg W1 hbox hb';have HG_g1:Hid (w.heap.size ≤ g1):=Lib.hid (by rw [hg];exact HS0.out.size);have HS1:=Lib.hid ((HS0.out.below hb'));have HB1_g1:Hid (W1.heap[g1]? = some (.cells (#[.int .i64 z0,.int .i64 z1,.int .i64 z2,.int .i64 z3,.int .i64 z4,.int .i64 z5,.slice A6 l6.length c6,.slice A7 l7.length c7,.slice A8 l8.length c8,.slice A9 l9.length c9]:Array Value) 28 (0,0))):=Lib.hid (hbox);have C_g1:=cells10 HB1_g1.out;clear hb' hbox hg)|(go_at_call 4;(with_reducible refine (head_c W1).mono ?_);rintro e W2 ⟨rfl,hb'⟩;have HS2:=Lib.hid (HS1.out.below hb');have HB2_g1:=Lib.hid (blk_below HB1_g1.out hb');replace C_g1:=cells10 HB2_g1.out;clear hb')|(go_at_call 5;(with_reducible refine (breadlinelaw16_Good.calls kg z0 z1 z2 z3 z4 z5 A6 c6 l6 A7 c7 l7 A8 c8 l8 A9 c9 l9 false W2 (Kd.C_below HR6.out.1 HS2.out.b) HR6.out.2 (Kd.C_below HR7.out.1 HS2.out.b) HR7.out.2 (Kd.C_below HR8.out.1 HS2.out.b) HR8.out.2 (Kd.C_below HR9.out.1 HS2.out.b) HR9.out.2 HG.out).mono ?_);rintro e W3 ⟨rfl,hb'⟩;have HS3:=Lib.hid (HS2.out.below hb');have HB3_g1:=Lib.hid (blk_below HB2_g1.out hb');replace C_g1:=cells10 HB3_g1.out;clear hb'))
 go_ret
 exact ⟨rfl,HS3.out⟩
theorem law_yes {c:Cf} (hc:c.Ok) {A6 A7 A8 A9:Option Addr} {c6 c7 c8 c9:Nat} {l8:List (List S43)} {l9:List Int} {w:World} (hr6:Kd.C (Kd.int .i64) w A6 (c.pa).length (c.pa)) (hc6:(c.pa).length ≤ c6) (hr7:Kd.C (Kd.int .i64) w A7 (c.li).length (c.li)) (hc7:(c.li).length ≤ c7) (hr8:Kd.C (Kd.slice 43 k43) w A8 l8.length l8) (hc8:l8.length ≤ c8) (hr9:Kd.C (Kd.int .u8) w A9 l9.length l9) (hc9:l9.length ≤ c9) {kg kp:Nat} {pk:List Int} (hg:breadlinelaw16_Good.f kg c.th c.S c.ga c.le c.re c.ti c.pa c.li l8 l9 = some true) (hT:l8.length ≤ 8) (hT8:∀ i,i < l8.length→(l8.getD i []).length ≤ 8) (hpk:breadlinelaw16_Picks.f kp c.th c.S c.ga c.le c.re c.ti c.pa c.li l8 l9 = some pk) (hp6:pk.length ≤ 600) :
  Calls Try.prog 3 #[.agg #[.int .i64 c.th,.int .i64 c.S,.int .i64 c.ga,.int .i64 c.le,.int .i64 c.re,.int .i64 c.ti,.slice A6 c.pa.length c6,.slice A7 c.li.length c7,.slice A8 l8.length c8,.slice A9 l9.length c9]] w fun e w'=>e = .returned (.bool true)∧Below w.heap.size w w':=by
 have HR6:=Lib.hid (And.intro hr6 hc6)
 have HR7:=Lib.hid (And.intro hr7 hc7)
 have HR8:=Lib.hid (And.intro hr8 hc8)
 have HR9:=Lib.hid (And.intro hr9 hc9)
 have HS0:Hid (Mk w w):=Lib.hid (Mk.refl w)
 have HG:=Lib.hid hg
 have HC:=Lib.hid hc
 have HPK:=Lib.hid hpk
 have HP6:=Lib.hid hp6
 have HT8:Hid (l8.length ≤ 8∧∀ i,i < l8.length→(l8.getD i []).length ≤ 8):=Lib.hid ⟨hT,hT8⟩
 have HRD6:Hid (Rd w (.slice A6 c.pa.length c6) c.pa):=Lib.hid ⟨_,_,rfl,hc6,hr6⟩
 have HRD7:Hid (Rd w (.slice A7 c.li.length c7) c.li):=Lib.hid ⟨_,_,rfl,hc7,hr7⟩
 clear hr6 hc6 hr7 hc7 hr8 hc8 hr9 hc9 hg hc hpk hp6 hT hT8
 go_enter Try.func3,Try.ntmps3
 go_wp2_with (first|((with_reducible refine gate_dst (N:=1) rfl ?_);refine box_event ?hg (N:=1) ?hd (cs:=#[.int .i64 c.th,.int .i64 c.S,.int .i64 c.ga,.int .i64 c.le,.int .i64 c.re,.int .i64 c.ti,.slice A6 c.pa.length c6,.slice A7 c.li.length c7,.slice A8 l8.length c8,.slice A9 l9.length c9]) (t:=28) ?hr ?_;(case hd=>rfl);(case hg=>rfl);(case hr=>first|(go_simp;done)|(go_simp;rfl));intro g1 hg W1 hbox hb';have HG_g1:Hid (w.heap.size ≤ g1):=Lib.hid (by rw [hg];exact HS0.out.size);have HS1:=Lib.hid ((HS0.out.below hb'));have HB1_g1:Hid (W1.heap[g1]? = some (.cells (#[.int .i64 c.th,.int .i64 c.S,.int .i64 c.ga,.int .i64 c.le,.int .i64 c.re,.int .i64 c.ti,.slice A6 c.pa.length c6,.slice A7 c.li.length c7,.slice A8 l8.length c8,.slice A9 l9.length c9]:Array Value) 28 (0,0))):=Lib.hid (hbox);have C_g1:=cells10 HB1_g1.out;clear hb' hbox hg)|(go_at_call 4;(with_reducible refine (head_c W1).mono ?_);rintro e W2 ⟨rfl,hb'⟩;have HS2:=Lib.hid (HS1.out.below hb');have HB2_g1:=Lib.hid (blk_below HB1_g1.out hb');replace C_g1:=cells10 HB2_g1.out;clear hb')|(go_at_call 5;(with_reducible refine (breadlinelaw16_Good.calls kg c.th c.S c.ga c.le c.re c.ti A6 c6 c.pa A7 c7 c.li A8 c8 l8 A9 c9 l9 true W2 (Kd.C_below HR6.out.1 HS2.out.b) HR6.out.2 (Kd.C_below HR7.out.1 HS2.out.b) HR7.out.2 (Kd.C_below HR8.out.1 HS2.out.b) HR8.out.2 (Kd.C_below HR9.out.1 HS2.out.b) HR9.out.2 HG.out).mono ?_);rintro e W3 ⟨rfl,hb'⟩;have HS3:=Lib.hid (HS2.out.below hb');have HB3_g1:=Lib.hid (blk_below HB2_g1.out hb');replace C_g1:=cells10 HB3_g1.out;clear hb'))
 refine ch_b C_g1 C_g1 [0,1,2,3,4,5,6,7] (fun W4 HWd hHeld=>?_)
 have HS4:Hid (Mk w W4):=Lib.hid (by rw [← HWd.out];exact HS3.out.drew)
 have HB4_g1:=dwH HWd HB3_g1
 replace C_g1:=cells10 HB4_g1.out
 clear HWd
 iterate 5 refine ch_s ?_
 refine ch_1 fun K hK=>?_
 refine goes_s Try.func7 #[.agg #[.int .i64 c.th,.int .i64 c.S,.int .i64 c.ga,.int .i64 c.le,.int .i64 c.re,.int .i64 c.ti,.slice A6 c.pa.length c6,.slice A7 c.li.length c7,.slice A8 l8.length c8,.slice A9 l9.length c9]] ?_
 refine (breadlinelaw16_Picks.calls kp c.th c.S c.ga c.le c.re c.ti A6 c6 c.pa A7 c7 c.li A8 c8 l8 A9 c9 l9 pk W4 (Kd.C_below HR6.out.1 HS4.out.b) HR6.out.2 (Kd.C_below HR7.out.1 HS4.out.b) HR7.out.2 (Kd.C_below HR8.out.1 HS4.out.b) HR8.out.2 (Kd.C_below HR9.out.1 HS4.out.b) HR9.out.2 HPK.out).mono ?_
 rintro e W5 ⟨vp,rfl,hrp,hb'⟩
 refine ⟨_,rfl,?_⟩
 have HS5:=Lib.hid (HS4.out.below hb')
 have HB5_g1:=Lib.hid (blk_below HB4_g1.out hb')
 replace C_g1:=cells10 HB5_g1.out
 clear hb'
 obtain ⟨AR,cR,eR⟩:=Kd.R_slice hrp
 subst eR
 have HRP:=Lib.hid (reads_n hrp)
 clear hrp
 refine hK.out _ _ C_g1 ?_;clear hK K hHeld;intro hHeld
 try simp only [Act.put,zq1,zq2,zq3]
 refine ch_1 fun K hK=>?_
 refine goes_s Try.func6 #[.agg #[.int .i64 c.th,.int .i64 c.S,.int .i64 c.ga,.int .i64 c.le,.int .i64 c.re,.int .i64 c.ti,.slice A6 c.pa.length c6,.slice A7 c.li.length c7],.slice A8 l8.length c8,.slice AR pk.length cR] ?_
 refine (run16 HC.out (HRD6.out.below HS5.out.b) (HRD7.out.below HS5.out.b) (Kd.C_below HR8.out.1 HS5.out.b) HT8.out.1 HT8.out.2 HRP.out HP6.out).mono ?_
 rintro e W6 ⟨g,gm,bg,now,l,n,rfl,hsb,hinv,hl12,hb'⟩
 refine ⟨_,rfl,?_⟩
 have HS6:=Lib.hid (HS5.out.below hb')
 have HB6_g1:=Lib.hid (blk_below HB5_g1.out hb')
 replace C_g1:=cells10 HB6_g1.out
 have HSB:=Lib.hid hsb
 have HINV:=Lib.hid hinv
 have HL12:=Lib.hid hl12
 clear hsb hinv hl12
 clear hb'
 obtain ⟨AP,cP,AL,cL,AC,cC,AB,cB,AN,cN,AE,cE,hgb,_,_,_,_,_,hev⟩:=HSB.out
 have HBg:=Lib.hid hgb
 have HEV:=Lib.hid hev
 clear hgb hev HSB
 have C_g:=cells_k16 HBg.out
 refine hK.out _ _ C_g1 ?_;clear hK K hHeld;intro hHeld
 try simp only [Act.put,zq1,zq2,zq3]
 refine ch_s ?_
 refine ch_z ?_
 clear hHeld
 obtain ⟨m,hm⟩:∃ m,mostTo l l.length = m:=⟨_,rfl⟩
 have HM:=Lib.hid hm
 have d1:decide (m ≤ (l8.length:Int)) = true:=decide_eq_true (by rw [← hm];exact most_le HINV.out.steps _ (Nat.le_refl _))
 have HFIT:Hid (fitB l = true):=Lib.hid (HINV.out.fit HT8.out.1 (by have:=HL12.out;omega))
 have HTK:Hid (takesB l = true):=Lib.hid HINV.out.takes
 have HRT:Hid (trace_Right.f l l8.length = some true):=Lib.hid (by unfold trace_Right.f;rw [if_pos HFIT.out,right_yes HINV.out.steps])
 have HMT:Hid (trace_Most.f l = some m):=Lib.hid (by unfold trace_Most.f;rw [if_pos HFIT.out,hm])
 have HCF:Hid (trace_Calls.f (l.length + 1) l = some (callsTo l l.length)):=Lib.hid (calls_f l (by have:=HL12.out;omega) _ (Nat.le_refl _))
 have HEF:Hid (trace_Ends.f l = some (endsTo l l.length)):=Lib.hid (by unfold trace_Ends.f;rw [if_pos ⟨HFIT.out,HTK.out⟩])
 obtain ⟨nb,hnb⟩:∃ k,(beginsTo l l.length).length = k:=⟨_,rfl⟩
 have HC1:Hid ((callsTo l l.length).length = nb):=Lib.hid (by unfold callsTo;rw [List.length_map];exact hnb)
 have HE1:Hid ((endsTo l l.length).length = nb):=Lib.hid (by unfold endsTo;rw [List.length_map];exact hnb)
 clear hm hnb
 go_wp2
 refine ch_b (at2 C_g C_g1) (at2 C_g C_g1) [0,1,2,3,4,5,6,7,8,9,10,11,12,13,14,15,17,18,19,16,20,21,22,23,24,25,26,29,30,31,32,27,28,33,34,35,36,37] (fun W7 HWd hHeld=>?_)
 have HR7_E:Hid (Evs W7 (.slice AE l.length cE) l):=Lib.hid (by rw [← HWd.out];exact (HEV.out).drew)
 have HS7:Hid (Mk w W7):=Lib.hid (by rw [← HWd.out];exact HS6.out.drew)
 have HB7_g1:=dwH HWd HB6_g1
 have HB7_g:Hid (W7.heap[g]? = some (.cells (k16 c AP cP AL cL ((some ⟨gm,0,none⟩)) AC l8.length cC AB l8.length cB AN l8.length cN AE l.length cE) 39 (0,0))):=Lib.hid (by rw [← HWd.out];exact HBg.out)
 clear C_g1 C_g
 have C_g1:=cells10 HB7_g1.out
 have C_g:=cells_k16 HB7_g.out
 clear HWd
 iterate 9 refine ch_s ?_
 refine ch_1 fun K hK=>?_
 refine goes_s Try.func8 #[.slice AE l.length cE,.int .i64 l8.length] ?_
 refine (trace_Right.calls AE cE l l8.length true W7 (reads_n HR7_E.out) (Kd.R_reads' HEV.out).2.1 HRT.out).mono ?_
 rintro e W8 ⟨rfl,hb'⟩
 refine ⟨_,rfl,?_⟩
 have HR8_E:Hid (Evs W8 (.slice AE l.length cE) l):=Lib.hid ((HR7_E.out).below hb')
 have HS8:=Lib.hid (HS7.out.below hb')
 have HB8_g1:=Lib.hid (blk_below HB7_g1.out hb')
 have HB8_g:=Lib.hid (blk_below HB7_g.out hb')
 clear C_g1 C_g
 have C_g1:=cells10 HB8_g1.out
 have C_g:=cells_k16 HB8_g.out
 clear hb'
 refine hK.out _ _ (at2 C_g C_g1) ?_;clear hK K hHeld;intro hHeld
 try simp only [Act.put,zq1,zq2,zq3]
 iterate 9 refine ch_s ?_
 refine ch_1 fun K hK=>?_
 refine goes_s Try.func9 #[.slice AE l.length cE] ?_
 refine (trace_Most.calls AE cE l m W8 (reads_n HR8_E.out) (Kd.R_reads' HEV.out).2.1 HMT.out).mono ?_
 rintro e W9 ⟨rfl,hb'⟩
 refine ⟨_,rfl,?_⟩
 have HR9_E:Hid (Evs W9 (.slice AE l.length cE) l):=Lib.hid ((HR8_E.out).below hb')
 have HS9:=Lib.hid (HS8.out.below hb')
 have HB9_g1:=Lib.hid (blk_below HB8_g1.out hb')
 have HB9_g:=Lib.hid (blk_below HB8_g.out hb')
 clear C_g1 C_g
 have C_g1:=cells10 HB9_g1.out
 have C_g:=cells_k16 HB9_g.out
 clear hb'
 refine hK.out _ _ (at2 C_g C_g1) ?_;clear hK K hHeld;intro hHeld
 try simp only [Act.put,zq1,zq2,zq3]
 iterate 11 refine ch_s ?_
 refine ch_1 fun K hK=>?_
 refine goes_s Try.func10 #[.slice AE l.length cE] ?_
 refine (trace_Calls.calls (l.length + 1) AE cE l (callsTo l l.length) W9 (reads_n HR9_E.out) (Kd.R_reads' HEV.out).2.1 HCF.out).mono ?_
 rintro e W10 ⟨v1,rfl,hv1,hb'⟩
 refine ⟨_,rfl,?_⟩
 have HR10_E:Hid (Evs W10 (.slice AE l.length cE) l):=Lib.hid ((HR9_E.out).below hb')
 have HS10:=Lib.hid (HS9.out.below hb')
 have HB10_g1:=Lib.hid (blk_below HB9_g1.out hb')
 have HB10_g:=Lib.hid (blk_below HB9_g.out hb')
 clear C_g1 C_g
 have C_g1:=cells10 HB10_g1.out
 have C_g:=cells_k16 HB10_g.out
 clear hb'
 obtain ⟨A1,q1,e1⟩:=slice_of hv1 HC1.out
 subst e1
 clear hv1
 refine hK.out _ _ (at2 C_g C_g1) ?_;clear hK K hHeld;intro hHeld
 try simp only [Act.put,zq1,zq2,zq3]
 refine ch_s ?_
 refine ch_1 fun K hK=>?_
 refine goes_s Try.func11 #[.slice AE l.length cE] ?_
 refine (trace_Ends.calls AE cE l (endsTo l l.length) W10 (reads_n HR10_E.out) (Kd.R_reads' HEV.out).2.1 HEF.out).mono ?_
 rintro e W11 ⟨v2,rfl,hv2,hb'⟩
 refine ⟨_,rfl,?_⟩
 have HR11_E:Hid (Evs W11 (.slice AE l.length cE) l):=Lib.hid ((HR10_E.out).below hb')
 have HS11:=Lib.hid (HS10.out.below hb')
 have HB11_g1:=Lib.hid (blk_below HB10_g1.out hb')
 have HB11_g:=Lib.hid (blk_below HB10_g.out hb')
 clear C_g1 C_g
 have C_g1:=cells10 HB11_g1.out
 have C_g:=cells_k16 HB11_g.out
 clear hb'
 obtain ⟨A2,q2,e2⟩:=slice_of hv2 HE1.out
 subst e2
 clear hv2
 refine hK.out _ _ (at2 C_g C_g1) ?_;clear hK K hHeld;intro hHeld
 try simp only [Act.put,zq1,zq2,zq3]
 iterate 4 refine ch_s ?_
 refine ch_z ?_
 clear hHeld
 go_wp2
 go_ret
 exact ⟨rfl,HS11.out⟩
theorem law_c {z0 z1 z2 z3 z4 z5:Int} {l6 l7:List Int} {A6 A7 A8 A9:Option Addr} {c6 c7 c8 c9:Nat} {l8:List (List S43)} {l9:List Int} {w:World} (hr6:Kd.C (Kd.int .i64) w A6 (l6).length (l6)) (hc6:(l6).length ≤ c6) (hr7:Kd.C (Kd.int .i64) w A7 (l7).length (l7)) (hc7:(l7).length ≤ c7) (hr8:Kd.C (Kd.slice 43 k43) w A8 l8.length l8) (hc8:l8.length ≤ c8) (hr9:Kd.C (Kd.int .u8) w A9 l9.length l9) (hc9:l9.length ≤ c9) :
  Calls Try.prog 3 #[.agg #[.int .i64 z0,.int .i64 z1,.int .i64 z2,.int .i64 z3,.int .i64 z4,.int .i64 z5,.slice A6 l6.length c6,.slice A7 l7.length c7,.slice A8 l8.length c8,.slice A9 l9.length c9]] w fun e w'=>e = .returned (.bool true)∧Below w.heap.size w w':=by
 obtain ⟨kg,rg,hg,hgood⟩:=good_ok z0 z1 z2 z3 z4 z5 l6 l7 l8 l9
 cases rg with
 | false=>exact law_no hr6 hc6 hr7 hc7 hr8 hc8 hr9 hc9 hg
 | true =>
  obtain ⟨h1,h2,h3,h4,h5⟩:=hgood rfl
  have hth:z0 ≤ 8:=h1.1.2
  obtain ⟨c,hc,rfl,rfl,rfl,rfl,rfl,rfl,rfl,rfl⟩:=conf_ok h1 h2
  obtain ⟨kp,pk,hpk,hpl⟩:=picks_ok c.th c.S c.ga c.le c.re c.ti c.pa c.li l8 l9 h4
  exact law_yes hc hr6 hc6 hr7 hc7 hr8 hc8 hr9 hc9 hg (by omega) h5 hpk (by omega)
end Go.Proofs.Ytadblpcjkahikaa.PTraceRuns

