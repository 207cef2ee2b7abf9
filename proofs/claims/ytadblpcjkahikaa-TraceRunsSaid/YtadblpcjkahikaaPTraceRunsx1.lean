
import Derived.Test.YtadblpcjkahikaaRunsCells
namespace Go.Proofs.Ytadblpcjkahikaa.PTraceRuns
open Go.RowKit Go.Proofs.YtadblpcjkahikaaW.PrintWords Go.Proofs.YtadblpcjkahikaaW.PrintLast Go.Proofs.YtadblpcjkahikaaW.PrintMore
attribute [local go_sem] max2_int min2_int max_two min_two max_three min_three max_four min_four
set_option linter.unusedVariables false
set_option linter.unusedSimpArgs false
set_option maxHeartbeats 8000000
set_option maxRecDepth 100000
def trace_all.l0:Nat→List Bool→Int→Int→Option (Bool)
 | 0,_,_,_=>none
 | k + 1,x5,x6,x7=>if x7 < x6 then (if 0 ≤ x7 then (if x7 < (x5.length:Int) then (if rdOf false x5 x7 = true then (trace_all.l0 k x5 x6 (wrap64 (x7 + 1))) else (some false)) else (none)) else (none)) else (some true)
def trace_all.f (k:Nat) (l0:List Bool):Option (Bool):=trace_all.l0 k l0 (l0.length:Int) 0
theorem trace_all.mono_l:∀ k,(∀ y0 y1 y2,LeO (trace_all.l0 k y0 y1 y2) (trace_all.l0 (k + 1) y0 y1 y2))
 | 0=>fun _ _ _ r h=>by simp [trace_all.l0] at h
 | k + 1=>by
  have ih0:=trace_all.mono_l k
  ·intro y0 y1 y2
   unfold trace_all.l0
   repeat' first
   | (with_reducible exact ih0 _ _ _)
   | (with_reducible exact LeO.refl _)
   | (with_reducible exact LeO.none _)
   | (with_reducible refine LeO.ite ?_ ?_)
   | (with_reducible refine LeO.bind ?_ (fun _=>?_))
   | exact ih0 _ _ _
   | exact LeO.none _
   | refine LeO.ite ?_ ?_
   | refine LeO.bind ?_ (fun _=>?_)
theorem trace_all.mono:∀ a0 k,LeO (trace_all.f k a0) (trace_all.f (k + 1) a0):=by
 intro a0 k
 have ih0:=trace_all.mono_l k
 unfold trace_all.f
 repeat' first
   | (with_reducible exact ih0 _ _ _)
   | (with_reducible exact LeO.refl _)
   | (with_reducible exact LeO.none _)
   | (with_reducible refine LeO.ite ?_ ?_)
   | (with_reducible refine LeO.bind ?_ (fun _=>?_))
   | exact ih0 _ _ _
   | exact LeO.none _
   | refine LeO.ite ?_ ?_
   | refine LeO.bind ?_ (fun _=>?_)
theorem trace_all.calls (k:Nat) (A0:Option Addr) (c0:Nat) (l0:List Bool) (r:Bool) (w:World) (hr0:Kd.C Kd.bool w A0 l0.length l0) (hc0:l0.length ≤ c0) (h:trace_all.f k l0 = some r) :
  Calls Try.prog 19 #[.slice A0 l0.length c0] w fun e w'=>e = .returned (.bool r)∧Drawn0 w w':=by
 have HR0:=Aside0.mk hr0
 have HC0:=Aside0.mk hc0
 clear hr0 hc0
 have H:(trace_all.l0 k l0 (l0.length:Int) 0) = some r:=h
 clear h
 have H':=Aside0.mk H
 clear H
 go_enter Try.func19,Try.ntmps19
 go_wp2
 go_loopg [7] k (fun kq v7 w'=>∃ (x7_1:Int),v7 = .int .i64 x7_1∧Aside0 (trace_all.l0 kq l0 (l0.length:Int) x7_1 = some r)∧Aside0 (kq ≤ k)∧Drawn0 w w')
 case atStart=>exact ⟨(0),(by first|rfl|(simp;done)|(simp [*];done)),H',⟨Nat.le_refl _⟩,by repeat (first|exact Drawn0.refl _|apply Drawn0.step)⟩
 case round =>
  clear H'
  try clear c1
  obtain ⟨x7_1,rfl,HA,HK1,⟨m1,rfl⟩⟩:=hrel
  cases gk with
  | zero=>exact absurd HA.out (by simp [trace_all.l0])
  | succ k1 =>
   have H:=HA.out
   clear HA
   simp only [trace_all.l0] at H
   by_cases c2:x7_1 < (l0.length:Int)
   ·rw [if_pos c2] at H
    have c2b0:decide (x7_1 < (l0.length:Int)) = true:=decide_eq_true c2
    clear c2
    by_cases c3:0 ≤ x7_1
    ·rw [if_pos c3] at H
     have c3b0:decide (0 ≤ x7_1) = true:=decide_eq_true c3
     clear c3
     by_cases c4:x7_1 < (l0.length:Int)
     ·rw [if_pos c4] at H
      have c4b0:decide (x7_1 < (l0.length:Int)) = true:=decide_eq_true c4
      clear c4
      obtain ⟨bq5,hbq5⟩:∃ b_:Bool,b_ = (rdOf false l0 x7_1):=⟨_,rfl⟩
      replace H:(if bq5 = true then (trace_all.l0 k1 l0 (l0.length:Int) (wrap64 (x7_1 + 1))) else (some false)) = some r:=by rw [← hbq5] at H;exact H
      have Nbq5:=Aside0.mk hbq5
      clear hbq5
      by_cases c6:bq5 = true
      ·subst c6
       rw [if_pos rfl] at H
       have H':=Aside0.mk H
       clear H
       have p101:0 ≤ (x7_1:Int):=of_decide_eq_true (by first|(with_reducible assumption)|assumption)
       have q101:x7_1 < (l0.length:Int):=of_decide_eq_true (by first|(with_reducible assumption)|assumption)
       obtain ⟨ad101,e101,hx101_0⟩:=Kd.at_bool HR0.out x7_1 p101 q101
       (try rw [← Nbq5.out] at hx101_0)
       cases e101
       replace p101:=eq_true p101
       replace q101:=eq_true q101
       go_wp2
       go_roundg k1
       case measure=>have:=HK1.out;omega
       case rel=>exact ⟨(wrap64 (x7_1 + 1)),(by first|rfl|(simp;done)|(simp [*];done)),H',⟨by have:=HK1.out;omega⟩,by repeat (first|exact Drawn0.refl _|apply Drawn0.step)⟩
      ·replace c6:=Bool.eq_false_iff.mpr c6
       subst c6
       rw [if_neg (show ¬ (false = true) by decide)] at H
       obtain rfl:=Option.some.inj H
       have p101:0 ≤ (x7_1:Int):=of_decide_eq_true (by first|(with_reducible assumption)|assumption)
       have q101:x7_1 < (l0.length:Int):=of_decide_eq_true (by first|(with_reducible assumption)|assumption)
       obtain ⟨ad101,e101,hx101_0⟩:=Kd.at_bool HR0.out x7_1 p101 q101
       (try rw [← Nbq5.out] at hx101_0)
       cases e101
       replace p101:=eq_true p101
       replace q101:=eq_true q101
       go_wp2
       go_ret
       exact ⟨by first|rfl|(simp;done)|(simp [*];done),by repeat (first|exact Drawn0.refl _|apply Drawn0.step)⟩
     ·rw [if_neg c4] at H
      exact absurd H (by simp)
    ·rw [if_neg c3] at H
     exact absurd H (by simp)
   ·rw [if_neg c2] at H
    have c2b0:decide (x7_1 < (l0.length:Int)) = false:=decide_eq_false c2
    clear c2
    obtain rfl:=Option.some.inj H
    go_wp2
    go_ret
    exact ⟨by first|rfl|(simp;done)|(simp [*];done),by repeat (first|exact Drawn0.refl _|apply Drawn0.step)⟩
def trace_Calls.l0:Nat→List Int→List (S48)→Int→Int→Option (List Int)
 | 0,_,_,_,_=>none
 | k + 1,x3,x6,x7,x8=>if x8 < x7 then (if 0 ≤ x8 then (if x8 < (x6.length:Int) then (if ((rd_T48 x6 x8).f2) = 1 then (if x3.length < 17592186044416 then (trace_Calls.l0 k (x3 ++ [x8]) x6 x7 (wrap64 (x8 + 1))) else (none)) else (trace_Calls.l0 k x3 x6 x7 (wrap64 (x8 + 1)))) else (none)) else (none)) else (some x3)
def trace_Calls.f (k:Nat) (l0:List (S48)):Option (List Int):=trace_Calls.l0 k ([]:List Int) l0 (l0.length:Int) 0
theorem trace_Calls.mono_l:∀ k,(∀ y0 y1 y2 y3,LeO (trace_Calls.l0 k y0 y1 y2 y3) (trace_Calls.l0 (k + 1) y0 y1 y2 y3))
 | 0=>fun _ _ _ _ r h=>by simp [trace_Calls.l0] at h
 | k + 1=>by
  have ih0:=trace_Calls.mono_l k
  ·intro y0 y1 y2 y3
   unfold trace_Calls.l0
   repeat' first
   | (with_reducible exact ih0 _ _ _ _)
   | (with_reducible exact LeO.refl _)
   | (with_reducible exact LeO.none _)
   | (with_reducible refine LeO.ite ?_ ?_)
   | (with_reducible refine LeO.bind ?_ (fun _=>?_))
   | exact ih0 _ _ _ _
   | exact LeO.none _
   | refine LeO.ite ?_ ?_
   | refine LeO.bind ?_ (fun _=>?_)
theorem trace_Calls.mono:∀ a0 k,LeO (trace_Calls.f k a0) (trace_Calls.f (k + 1) a0):=by
 intro a0 k
 have ih0:=trace_Calls.mono_l k
 unfold trace_Calls.f
 repeat' first
   | (with_reducible exact ih0 _ _ _ _)
   | (with_reducible exact LeO.refl _)
   | (with_reducible exact LeO.none _)
   | (with_reducible refine LeO.ite ?_ ?_)
   | (with_reducible refine LeO.bind ?_ (fun _=>?_))
   | exact ih0 _ _ _ _
   | exact LeO.none _
   | refine LeO.ite ?_ ?_
   | refine LeO.bind ?_ (fun _=>?_)
theorem trace_Calls.calls (k:Nat) (A0:Option Addr) (c0:Nat) (l0:List (S48)) (r:List Int) (w:World) (hr0:Kd.C k48 w A0 l0.length l0) (hc0:l0.length ≤ c0) (h:trace_Calls.f k l0 = some r) :
  Calls Try.prog 10 #[.slice A0 l0.length c0] w fun e w'=>∃ v0_:Value,e = .returned (v0_)∧Kd.R (Kd.int .i64) 3 w' w.heap.size (fun _=>True) v0_ r∧Below w.heap.size w w':=by
 have hu48:=Try.underlying48
 have HR0:=Aside0.mk hr0
 have HC0:=Aside0.mk hc0
 clear hr0 hc0
 have HB:=Aside0.mk (Below.refl w.heap.size w)
 have H:(trace_Calls.l0 k ([]:List Int) l0 (l0.length:Int) 0) = some r:=h
 clear h
 have H':=Aside0.mk H
 clear H
 go_enter Try.func10,Try.ntmps10
 go_wp2
 go_loopg [3,8] k (fun kq v3 v8 w'=>∃ (x3_1:List Int) (x8_1:Int),v8 = .int .i64 x8_1∧Aside0 (trace_Calls.l0 kq x3_1 l0 (l0.length:Int) x8_1 = some r)∧Aside0 (kq ≤ k)∧Aside0 (Kd.R (Kd.int .i64) 3 w' w.heap.size (fun _=>True) v3 x3_1)∧Aside0 (Below w.heap.size w w'))
 case atStart=>exact ⟨(([]:List Int)),(0),(by first|rfl|(simp;done)|(simp [*];done)),H',⟨Nat.le_refl _⟩,⟨by first|exact Kd.R_nil _ _ _ _ _|exact Kd.N_nil _ _ _ _ _|exact Kd.V_nil _ _ _ _ _|exact Kd.Q_nil _ _ _ _ _|exact Kd.S_nil _ _ _ _ _⟩,⟨by repeat (first|(with_reducible first|exact HB.out|apply below_alloc|apply pw_below_drewN|apply below_drew1)|exact HB.out)⟩⟩
 case round =>
  clear H'
  try clear c1
  obtain ⟨x3_1,x8_1,rfl,HA,HK1,HO_3,HB⟩:=hrel
  cases gk with
  | zero=>exact absurd HA.out (by simp [trace_Calls.l0])
  | succ k1 =>
   have H:=HA.out
   clear HA
   simp only [trace_Calls.l0] at H
   by_cases c2:x8_1 < (l0.length:Int)
   ·rw [if_pos c2] at H
    have c2b0:decide (x8_1 < (l0.length:Int)) = true:=decide_eq_true c2
    clear c2
    by_cases c3:0 ≤ x8_1
    ·rw [if_pos c3] at H
     have c3b0:decide (0 ≤ x8_1) = true:=decide_eq_true c3
     clear c3
     by_cases c4:x8_1 < (l0.length:Int)
     ·rw [if_pos c4] at H
      have c4b0:decide (x8_1 < (l0.length:Int)) = true:=decide_eq_true c4
      clear c4
      by_cases c5:((rd_T48 l0 x8_1).f2) = 1
      ·rw [if_pos c5] at H
       have c5b0:(((rd_T48 l0 x8_1).f2) == 1) = true:=beq_iff_eq.mpr c5
       have c5b1:(((rd_T48 l0 x8_1).f2) != 1) = false:=bne_eq_false_iff_eq.mpr c5
       clear c5
       by_cases c6:x3_1.length < 17592186044416
       ·rw [if_pos c6] at H
        have LMc6:=Aside0.mk c6
        clear c6
        obtain ⟨y104,hy104⟩:∃ y_:List Int,y_ = (x3_1 ++ [x8_1]):=⟨_,rfl⟩
        replace H:(trace_Calls.l0 k1 y104 l0 (l0.length:Int) (wrap64 (x8_1 + 1))) = some r:=by first|(rw [hy104];with_reducible exact H)|(have H2_:=(Option.bind_some _ _).symm.trans H;rw [hy104];with_reducible exact H2_)|(have H2_:=(Option.bind_some _ _).symm.trans H;with_reducible exact H2_)|with_reducible exact H|(rw [hy104];exact H)|exact H
        have Ny104:=Aside0.mk hy104
        clear hy104
        have H':=Aside0.mk H
        clear H
        have p102:0 ≤ (x8_1:Int):=of_decide_eq_true (by first|(with_reducible assumption)|assumption)
        have q102:x8_1 < (l0.length:Int):=of_decide_eq_true (by first|(with_reducible assumption)|assumption)
        obtain ⟨ad102,e102,hx102_0,hx102_1,hx102_2,hx102_3,hx102_4,hx102_5,hx102_6,hx102_7,hx102_8,hx102_9⟩:=at_T48 HR0.out x8_1 p102 q102
        cases e102
        replace hx102_0:=(HB.out.cell (World.block_lt_of_cell? w _ hx102_0)).trans hx102_0
        replace hx102_1:=(HB.out.cell (World.block_lt_of_cell? w _ hx102_1)).trans hx102_1
        replace hx102_2:=(HB.out.cell (World.block_lt_of_cell? w _ hx102_2)).trans hx102_2
        replace hx102_3:=(HB.out.cell (World.block_lt_of_cell? w _ hx102_3)).trans hx102_3
        replace hx102_4:=(HB.out.cell (World.block_lt_of_cell? w _ hx102_4)).trans hx102_4
        replace hx102_5:=(HB.out.cell (World.block_lt_of_cell? w _ hx102_5)).trans hx102_5
        replace hx102_6:=(HB.out.cell (World.block_lt_of_cell? w _ hx102_6)).trans hx102_6
        replace hx102_7:=(HB.out.cell (World.block_lt_of_cell? w _ hx102_7)).trans hx102_7
        replace hx102_8:=(HB.out.cell (World.block_lt_of_cell? w _ hx102_8)).trans hx102_8
        replace hx102_9:=(HB.out.cell (World.block_lt_of_cell? w _ hx102_9)).trans hx102_9
        replace p102:=eq_true p102
        replace q102:=eq_true q102
        go_wp2_with (first|((with_reducible refine gate_dst (N:=5) rfl ?_);refine box_event ?hg (N:=5) ?hd (cs:=#[.int .i64 0,.int .i64 0,.int .i64 0,.int .i64 0,.int .i64 0,.int .i64 0,.int .i64 0,.int .i64 0,.bool false,.int .i64 0]) (t:=48) ?hr ?_;(case hd=>rfl);(case hg=>rfl);(case hr=>first|(go_simp;done)|(go_simp;rfl));intro gb103 hg w7 hbox hb;have n0_:=Aside0.mk (Kd.R_below (by (with_reducible repeat (first|apply Kd.R_alloc|apply Kd.R_drewN|apply Kd.R_drew));exact HO_3.out) hb);have n1_:=Aside0.mk (below_step (by repeat (first|(with_reducible first|exact HB.out|apply below_alloc|apply pw_below_drewN|apply below_drew1)|exact HB.out)) hb);have n2_:=Aside0.mk (hbox);have n3_:=Aside0.mk ((by rw [hg];exact (below_size (by repeat (first|(with_reducible first|exact HB.out|apply below_alloc|apply pw_below_drewN|apply below_drew1)|exact HB.out))):w.heap.size ≤ gb103));have n4_:=Aside0.mk ((by rw [hg];exact (below_size (by repeat (first|(with_reducible first|exact HB.out|apply below_alloc|apply pw_below_drewN|apply below_drew1)|exact HB.out))):w.heap.size ≤ gb103));clear HO_3;clear HB;have HO_3:=n0_;have HB:=n1_;have BK103:=n2_;have GW103:=n3_;have GE103:=n4_;clear n0_ n1_ n2_ n3_ n4_;clear hb hbox hg;have hz8_gb103:=cells10 BK103.out)|((with_reducible refine gate_builtin (b:=.append) (xs:=#[.tmp 16,.tmp 18]) rfl ?_);at_builtin;refine Kd.R_append (Kd.int .i64) (w0:=w) w.heap.size rfl (.tmp 16) (.tmp 18) 22 3 (.int .i64 0) 8 rfl Try.underlying22 info3 rfl (by decide) (by omega) u3 x3_1 x8_1 [.int .i64 x8_1] (fun _=>True) (fun _=>False) rfl (by first|(go_simp;done)|(go_simp;rfl)) ?aP (fun _ hk=>hk.elim) ?aF ?aO ?aB ?aS ?aL ?_;(case aP=>exact rfl);(case aB=>exact (by repeat (first|(with_reducible first|exact HB.out|apply below_alloc|apply pw_below_drewN|apply below_drew1|refine below_set ?_ GE103.out)|exact HB.out)));(case aF=>exact (fun _ _=>trivial));(case aO=>exact (by (with_reducible repeat (first|apply Kd.R_alloc|apply Kd.R_drewN|apply Kd.R_drew));exact Kd.R_mono (Kd.R_far (p:=⟨gb103,9,none⟩) (Kd.R_far (p:=⟨gb103,8,none⟩) (Kd.R_far (p:=⟨gb103,7,none⟩) (Kd.R_far (p:=⟨gb103,6,none⟩) (Kd.R_far (p:=⟨gb103,5,none⟩) (Kd.R_far (p:=⟨gb103,4,none⟩) (Kd.R_far (p:=⟨gb103,3,none⟩) (Kd.R_far (p:=⟨gb103,2,none⟩) (Kd.R_far (p:=⟨gb103,1,none⟩) (Kd.R_far (p:=⟨gb103,0,none⟩) (Kd.R_types HO_3.out BK103.out (by decide)) (fun _ hk=>hk.2) (.int .i64 ((rd_T48 l0 x8_1).f0))) (fun _ hk=>hk.2) (.int .i64 ((rd_T48 l0 x8_1).f1))) (fun _ hk=>hk.2) (.int .i64 ((rd_T48 l0 x8_1).f2))) (fun _ hk=>hk.2) (.int .i64 ((rd_T48 l0 x8_1).f3.f0))) (fun _ hk=>hk.2) (.int .i64 ((rd_T48 l0 x8_1).f3.f1))) (fun _ hk=>hk.2) (.int .i64 ((rd_T48 l0 x8_1).f3.f2))) (fun _ hk=>hk.2) (.int .i64 ((rd_T48 l0 x8_1).f4.f0))) (fun _ hk=>hk.2) (.int .i64 ((rd_T48 l0 x8_1).f4.f1))) (fun _ hk=>hk.2) (.bool ((rd_T48 l0 x8_1).f4.f2))) (fun _ hk=>hk.2) (.int .i64 ((rd_T48 l0 x8_1).f4.f3))) (fun _ hk=>trivial)));(case aS=>exact (below_size (by repeat (first|(with_reducible first|exact HB.out|apply below_alloc|apply pw_below_drewN|apply below_drew1|refine below_set ?_ GE103.out)|exact HB.out))));(case aL=>have:=LMc6.out;omega);intro v105 w9 ho hb hg hat;rw [← Ny104.out] at ho;have n0_:=Aside0.mk (blk_grown (g:=gb103) (o:=.cells #[.int .i64 ((rd_T48 l0 x8_1).f0),.int .i64 ((rd_T48 l0 x8_1).f1),.int .i64 ((rd_T48 l0 x8_1).f2),.int .i64 ((rd_T48 l0 x8_1).f3.f0),.int .i64 ((rd_T48 l0 x8_1).f3.f1),.int .i64 ((rd_T48 l0 x8_1).f3.f2),.int .i64 ((rd_T48 l0 x8_1).f4.f0),.int .i64 ((rd_T48 l0 x8_1).f4.f1),.bool ((rd_T48 l0 x8_1).f4.f2),.int .i64 ((rd_T48 l0 x8_1).f4.f3)] 48 (0,0)) (by (with_reducible repeat (first|refine blk_drewN ?_ _|refine blk_drew ?_|refine blk_alloc ?_ _));refine blk_put (cs:=#[.int .i64 ((rd_T48 l0 x8_1).f0),.int .i64 ((rd_T48 l0 x8_1).f1),.int .i64 ((rd_T48 l0 x8_1).f2),.int .i64 ((rd_T48 l0 x8_1).f3.f0),.int .i64 ((rd_T48 l0 x8_1).f3.f1),.int .i64 ((rd_T48 l0 x8_1).f3.f2),.int .i64 ((rd_T48 l0 x8_1).f4.f0),.int .i64 ((rd_T48 l0 x8_1).f4.f1),.bool ((rd_T48 l0 x8_1).f4.f2),.int .i64 0]) ?_ 9 _ rfl;(with_reducible repeat (first|refine blk_drewN ?_ _|refine blk_drew ?_|refine blk_alloc ?_ _));refine blk_put (cs:=#[.int .i64 ((rd_T48 l0 x8_1).f0),.int .i64 ((rd_T48 l0 x8_1).f1),.int .i64 ((rd_T48 l0 x8_1).f2),.int .i64 ((rd_T48 l0 x8_1).f3.f0),.int .i64 ((rd_T48 l0 x8_1).f3.f1),.int .i64 ((rd_T48 l0 x8_1).f3.f2),.int .i64 ((rd_T48 l0 x8_1).f4.f0),.int .i64 ((rd_T48 l0 x8_1).f4.f1),.bool false,.int .i64 0]) ?_ 8 _ rfl;(with_reducible repeat (first|refine blk_drewN ?_ _|refine blk_drew ?_|refine blk_alloc ?_ _));refine blk_put (cs:=#[.int .i64 ((rd_T48 l0 x8_1).f0),.int .i64 ((rd_T48 l0 x8_1).f1),.int .i64 ((rd_T48 l0 x8_1).f2),.int .i64 ((rd_T48 l0 x8_1).f3.f0),.int .i64 ((rd_T48 l0 x8_1).f3.f1),.int .i64 ((rd_T48 l0 x8_1).f3.f2),.int .i64 ((rd_T48 l0 x8_1).f4.f0),.int .i64 0,.bool false,.int .i64 0]) ?_ 7 _ rfl;(with_reducible repeat (first|refine blk_drewN ?_ _|refine blk_drew ?_|refine blk_alloc ?_ _));refine blk_put (cs:=#[.int .i64 ((rd_T48 l0 x8_1).f0),.int .i64 ((rd_T48 l0 x8_1).f1),.int .i64 ((rd_T48 l0 x8_1).f2),.int .i64 ((rd_T48 l0 x8_1).f3.f0),.int .i64 ((rd_T48 l0 x8_1).f3.f1),.int .i64 ((rd_T48 l0 x8_1).f3.f2),.int .i64 0,.int .i64 0,.bool false,.int .i64 0]) ?_ 6 _ rfl;(with_reducible repeat (first|refine blk_drewN ?_ _|refine blk_drew ?_|refine blk_alloc ?_ _));refine blk_put (cs:=#[.int .i64 ((rd_T48 l0 x8_1).f0),.int .i64 ((rd_T48 l0 x8_1).f1),.int .i64 ((rd_T48 l0 x8_1).f2),.int .i64 ((rd_T48 l0 x8_1).f3.f0),.int .i64 ((rd_T48 l0 x8_1).f3.f1),.int .i64 0,.int .i64 0,.int .i64 0,.bool false,.int .i64 0]) ?_ 5 _ rfl;(with_reducible repeat (first|refine blk_drewN ?_ _|refine blk_drew ?_|refine blk_alloc ?_ _));refine blk_put (cs:=#[.int .i64 ((rd_T48 l0 x8_1).f0),.int .i64 ((rd_T48 l0 x8_1).f1),.int .i64 ((rd_T48 l0 x8_1).f2),.int .i64 ((rd_T48 l0 x8_1).f3.f0),.int .i64 0,.int .i64 0,.int .i64 0,.int .i64 0,.bool false,.int .i64 0]) ?_ 4 _ rfl;(with_reducible repeat (first|refine blk_drewN ?_ _|refine blk_drew ?_|refine blk_alloc ?_ _));refine blk_put (cs:=#[.int .i64 ((rd_T48 l0 x8_1).f0),.int .i64 ((rd_T48 l0 x8_1).f1),.int .i64 ((rd_T48 l0 x8_1).f2),.int .i64 0,.int .i64 0,.int .i64 0,.int .i64 0,.int .i64 0,.bool false,.int .i64 0]) ?_ 3 _ rfl;(with_reducible repeat (first|refine blk_drewN ?_ _|refine blk_drew ?_|refine blk_alloc ?_ _));refine blk_put (cs:=#[.int .i64 ((rd_T48 l0 x8_1).f0),.int .i64 ((rd_T48 l0 x8_1).f1),.int .i64 0,.int .i64 0,.int .i64 0,.int .i64 0,.int .i64 0,.int .i64 0,.bool false,.int .i64 0]) ?_ 2 _ rfl;(with_reducible repeat (first|refine blk_drewN ?_ _|refine blk_drew ?_|refine blk_alloc ?_ _));refine blk_put (cs:=#[.int .i64 ((rd_T48 l0 x8_1).f0),.int .i64 0,.int .i64 0,.int .i64 0,.int .i64 0,.int .i64 0,.int .i64 0,.int .i64 0,.bool false,.int .i64 0]) ?_ 1 _ rfl;(with_reducible repeat (first|refine blk_drewN ?_ _|refine blk_drew ?_|refine blk_alloc ?_ _));refine blk_put (cs:=#[.int .i64 0,.int .i64 0,.int .i64 0,.int .i64 0,.int .i64 0,.int .i64 0,.int .i64 0,.int .i64 0,.bool false,.int .i64 0]) ?_ 0 _ rfl;(with_reducible repeat (first|refine blk_drewN ?_ _|refine blk_drew ?_|refine blk_alloc ?_ _));exact BK103.out) hg (Kd.R_ne HO_3.out BK103.out (by decide)));have n1_:=Aside0.mk (hb);have n2_:=Aside0.mk (ho);clear BK103;clear HB;clear HO_3;have BK103:=n0_;have HB:=n1_;have HO106:=n2_;clear n0_ n1_ n2_;clear ho hb hg hat))
        go_roundg k1
        case measure=>have:=HK1.out;omega
        case rel=>exact ⟨(y104),(wrap64 (x8_1 + 1)),(by first|rfl|(simp;done)|(simp [*];done)),H',⟨by have:=HK1.out;omega⟩,⟨by (with_reducible repeat (first|apply Kd.R_alloc|apply Kd.R_drewN|apply Kd.R_drew));exact HO106.out⟩,⟨by repeat (first|(with_reducible first|exact HB.out|apply below_alloc|apply pw_below_drewN|apply below_drew1|refine below_set ?_ GE103.out)|exact HB.out)⟩⟩
       ·rw [if_neg c6] at H
        exact absurd H (by simp)
      ·rw [if_neg c5] at H
       have c5b0:(((rd_T48 l0 x8_1).f2) == 1) = false:=beq_eq_false_iff_ne.mpr c5
       have c5b1:(((rd_T48 l0 x8_1).f2) != 1) = true:=bne_iff_ne.mpr c5
       have H':=Aside0.mk H
       clear H
       have p102:0 ≤ (x8_1:Int):=of_decide_eq_true (by first|(with_reducible assumption)|assumption)
       have q102:x8_1 < (l0.length:Int):=of_decide_eq_true (by first|(with_reducible assumption)|assumption)
       obtain ⟨ad102,e102,hx102_0,hx102_1,hx102_2,hx102_3,hx102_4,hx102_5,hx102_6,hx102_7,hx102_8,hx102_9⟩:=at_T48 HR0.out x8_1 p102 q102
       cases e102
       replace hx102_0:=(HB.out.cell (World.block_lt_of_cell? w _ hx102_0)).trans hx102_0
       replace hx102_1:=(HB.out.cell (World.block_lt_of_cell? w _ hx102_1)).trans hx102_1
       replace hx102_2:=(HB.out.cell (World.block_lt_of_cell? w _ hx102_2)).trans hx102_2
       replace hx102_3:=(HB.out.cell (World.block_lt_of_cell? w _ hx102_3)).trans hx102_3
       replace hx102_4:=(HB.out.cell (World.block_lt_of_cell? w _ hx102_4)).trans hx102_4
       replace hx102_5:=(HB.out.cell (World.block_lt_of_cell? w _ hx102_5)).trans hx102_5
       replace hx102_6:=(HB.out.cell (World.block_lt_of_cell? w _ hx102_6)).trans hx102_6
       replace hx102_7:=(HB.out.cell (World.block_lt_of_cell? w _ hx102_7)).trans hx102_7
       replace hx102_8:=(HB.out.cell (World.block_lt_of_cell? w _ hx102_8)).trans hx102_8
       replace hx102_9:=(HB.out.cell (World.block_lt_of_cell? w _ hx102_9)).trans hx102_9
       replace p102:=eq_true p102
       replace q102:=eq_true q102
       go_wp2_with (first|((with_reducible refine gate_dst (N:=5) rfl ?_);refine box_event ?hg (N:=5) ?hd (cs:=#[.int .i64 0,.int .i64 0,.int .i64 0,.int .i64 0,.int .i64 0,.int .i64 0,.int .i64 0,.int .i64 0,.bool false,.int .i64 0]) (t:=48) ?hr ?_;(case hd=>rfl);(case hg=>rfl);(case hr=>first|(go_simp;done)|(go_simp;rfl));intro gb103 hg w10 hbox hb;have n0_:=Aside0.mk (Kd.R_below (by (with_reducible repeat (first|apply Kd.R_alloc|apply Kd.R_drewN|apply Kd.R_drew));exact HO_3.out) hb);have n1_:=Aside0.mk (below_step (by repeat (first|(with_reducible first|exact HB.out|apply below_alloc|apply pw_below_drewN|apply below_drew1)|exact HB.out)) hb);have n2_:=Aside0.mk (hbox);have n3_:=Aside0.mk ((by rw [hg];exact (below_size (by repeat (first|(with_reducible first|exact HB.out|apply below_alloc|apply pw_below_drewN|apply below_drew1)|exact HB.out))):w.heap.size ≤ gb103));have n4_:=Aside0.mk ((by rw [hg];exact (below_size (by repeat (first|(with_reducible first|exact HB.out|apply below_alloc|apply pw_below_drewN|apply below_drew1)|exact HB.out))):w.heap.size ≤ gb103));clear HO_3;clear HB;have HO_3:=n0_;have HB:=n1_;have BK103:=n2_;have GW103:=n3_;have GE103:=n4_;clear n0_ n1_ n2_ n3_ n4_;clear hb hbox hg;have hz11_gb103:=cells10 BK103.out))
       go_roundg k1
       case measure=>have:=HK1.out;omega
       case rel=>exact ⟨(x3_1),(wrap64 (x8_1 + 1)),(by first|rfl|(simp;done)|(simp [*];done)),H',⟨by have:=HK1.out;omega⟩,⟨by (with_reducible repeat (first|apply Kd.R_alloc|apply Kd.R_drewN|apply Kd.R_drew));exact Kd.R_mono (Kd.R_far (p:=⟨gb103,9,none⟩) (Kd.R_far (p:=⟨gb103,8,none⟩) (Kd.R_far (p:=⟨gb103,7,none⟩) (Kd.R_far (p:=⟨gb103,6,none⟩) (Kd.R_far (p:=⟨gb103,5,none⟩) (Kd.R_far (p:=⟨gb103,4,none⟩) (Kd.R_far (p:=⟨gb103,3,none⟩) (Kd.R_far (p:=⟨gb103,2,none⟩) (Kd.R_far (p:=⟨gb103,1,none⟩) (Kd.R_far (p:=⟨gb103,0,none⟩) (Kd.R_types HO_3.out BK103.out (by decide)) (fun _ hk=>hk.2) (.int .i64 ((rd_T48 l0 x8_1).f0))) (fun _ hk=>hk.2) (.int .i64 ((rd_T48 l0 x8_1).f1))) (fun _ hk=>hk.2) (.int .i64 ((rd_T48 l0 x8_1).f2))) (fun _ hk=>hk.2) (.int .i64 ((rd_T48 l0 x8_1).f3.f0))) (fun _ hk=>hk.2) (.int .i64 ((rd_T48 l0 x8_1).f3.f1))) (fun _ hk=>hk.2) (.int .i64 ((rd_T48 l0 x8_1).f3.f2))) (fun _ hk=>hk.2) (.int .i64 ((rd_T48 l0 x8_1).f4.f0))) (fun _ hk=>hk.2) (.int .i64 ((rd_T48 l0 x8_1).f4.f1))) (fun _ hk=>hk.2) (.bool ((rd_T48 l0 x8_1).f4.f2))) (fun _ hk=>hk.2) (.int .i64 ((rd_T48 l0 x8_1).f4.f3))) (fun _ hk=>trivial)⟩,⟨by repeat (first|(with_reducible first|exact HB.out|apply below_alloc|apply pw_below_drewN|apply below_drew1|refine below_set ?_ GE103.out)|exact HB.out)⟩⟩
     ·rw [if_neg c4] at H
      exact absurd H (by simp)
    ·rw [if_neg c3] at H
     exact absurd H (by simp)
   ·rw [if_neg c2] at H
    have c2b0:decide (x8_1 < (l0.length:Int)) = false:=decide_eq_false c2
    clear c2
    obtain rfl:=Option.some.inj H
    go_wp2
    go_ret
    exact ⟨_,by first|rfl|(simp [errW_none,errW_some] <;> rfl)|(simp [*,errW_none,errW_some] <;> rfl),by (with_reducible repeat (first|apply Kd.R_alloc|apply Kd.R_drewN|apply Kd.R_drew));exact HO_3.out,by repeat (first|(with_reducible first|exact HB.out|apply below_alloc|apply pw_below_drewN|apply below_drew1)|exact HB.out)⟩
def breadlinelaw18_event.f (a0:Int) (a1:Int) (a2:Int):Option (Int × Int × Int × Int × Int × Int × Int × Int × Bool × Int):=some (a0,a1,a2,0,0,0,0,0,false,0)
theorem breadlinelaw18_event.calls (a0:Int) (a1:Int) (a2:Int) (r1:Int) (r2:Int) (r3:Int) (r4:Int) (r5:Int) (r6:Int) (r7:Int) (r8:Int) (r9:Bool) (r10:Int) (w:World) (h:breadlinelaw18_event.f a0 a1 a2 = some (r1,r2,r3,r4,r5,r6,r7,r8,r9,r10)) :
  Calls Try.prog 12 #[.int .i64 a0,.int .i64 a1,.int .i64 a2] w fun e w'=>e = .returned (.agg #[.int .i64 r1,.int .i64 r2,.int .i64 r3,.int .i64 r4,.int .i64 r5,.int .i64 r6,.int .i64 r7,.int .i64 r8,.bool r9,.int .i64 r10])∧Below w.heap.size w w':=by
 have hu48:=Try.underlying48
 have HB:=Aside0.mk (Below.refl w.heap.size w)
 have H:(some (a0,a1,a2,0,0,0,0,0,false,0)) = some (r1,r2,r3,r4,r5,r6,r7,r8,r9,r10):=h
 clear h
 simp only [Option.some.injEq,Prod.mk.injEq] at H
 obtain ⟨rfl,rfl,rfl,rfl,rfl,rfl,rfl,rfl,rfl,rfl⟩:=H
 go_enter Try.func12,Try.ntmps12
 go_wp2_with (first|((with_reducible refine gate_dst (N:=6) rfl ?_);refine box_event ?hg (N:=6) ?hd (cs:=#[.int .i64 0,.int .i64 0,.int .i64 0,.int .i64 0,.int .i64 0,.int .i64 0,.int .i64 0,.int .i64 0,.bool false,.int .i64 0]) (t:=48) ?hr ?_;(case hd=>rfl);(case hg=>rfl);(case hr=>first|(go_simp;done)|(go_simp;rfl));intro gb107 hg w4 hbox hb;have n0_:=Aside0.mk (below_step (by repeat (first|(with_reducible first|exact HB.out|apply below_alloc|apply pw_below_drewN|apply below_drew1)|exact HB.out)) hb);have n1_:=Aside0.mk (hbox);have n2_:=Aside0.mk ((by rw [hg];exact (below_size (by repeat (first|(with_reducible first|exact HB.out|apply below_alloc|apply pw_below_drewN|apply below_drew1)|exact HB.out))):w.heap.size ≤ gb107));have n3_:=Aside0.mk ((by rw [hg];exact (below_size (by repeat (first|(with_reducible first|exact HB.out|apply below_alloc|apply pw_below_drewN|apply below_drew1)|exact HB.out))):w.heap.size ≤ gb107));clear HB;have HB:=n0_;have BK107:=n1_;have GW107:=n2_;have GE107:=n3_;clear n0_ n1_ n2_ n3_;clear hb hbox hg;have hz5_gb107:=cells10 BK107.out))
 refine bodyPost_ret (results_cell_row rfl _ _ gb107 48 #[.int .i64 a0,.int .i64 a1,.int .i64 a2,.int .i64 0,.int .i64 0,.int .i64 0,.int .i64 0,.int .i64 0,.bool false,.int .i64 0] (0,0) _ rfl (by (with_reducible repeat (first|refine blk_drewN ?_ _|refine blk_drew ?_|refine blk_alloc ?_ _));refine blk_put (cs:=#[.int .i64 a0,.int .i64 a1,.int .i64 a2,.int .i64 0,.int .i64 0,.int .i64 0,.int .i64 0,.int .i64 0,.bool false,.int .i64 0]) ?_ 9 _ rfl;(with_reducible repeat (first|refine blk_drewN ?_ _|refine blk_drew ?_|refine blk_alloc ?_ _));refine blk_put (cs:=#[.int .i64 a0,.int .i64 a1,.int .i64 a2,.int .i64 0,.int .i64 0,.int .i64 0,.int .i64 0,.int .i64 0,.bool false,.int .i64 0]) ?_ 8 _ rfl;(with_reducible repeat (first|refine blk_drewN ?_ _|refine blk_drew ?_|refine blk_alloc ?_ _));refine blk_put (cs:=#[.int .i64 a0,.int .i64 a1,.int .i64 a2,.int .i64 0,.int .i64 0,.int .i64 0,.int .i64 0,.int .i64 0,.bool false,.int .i64 0]) ?_ 7 _ rfl;(with_reducible repeat (first|refine blk_drewN ?_ _|refine blk_drew ?_|refine blk_alloc ?_ _));refine blk_put (cs:=#[.int .i64 a0,.int .i64 a1,.int .i64 a2,.int .i64 0,.int .i64 0,.int .i64 0,.int .i64 0,.int .i64 0,.bool false,.int .i64 0]) ?_ 6 _ rfl;(with_reducible repeat (first|refine blk_drewN ?_ _|refine blk_drew ?_|refine blk_alloc ?_ _));refine blk_put (cs:=#[.int .i64 a0,.int .i64 a1,.int .i64 a2,.int .i64 0,.int .i64 0,.int .i64 0,.int .i64 0,.int .i64 0,.bool false,.int .i64 0]) ?_ 5 _ rfl;(with_reducible repeat (first|refine blk_drewN ?_ _|refine blk_drew ?_|refine blk_alloc ?_ _));refine blk_put (cs:=#[.int .i64 a0,.int .i64 a1,.int .i64 a2,.int .i64 0,.int .i64 0,.int .i64 0,.int .i64 0,.int .i64 0,.bool false,.int .i64 0]) ?_ 4 _ rfl;(with_reducible repeat (first|refine blk_drewN ?_ _|refine blk_drew ?_|refine blk_alloc ?_ _));refine blk_put (cs:=#[.int .i64 a0,.int .i64 a1,.int .i64 a2,.int .i64 0,.int .i64 0,.int .i64 0,.int .i64 0,.int .i64 0,.bool false,.int .i64 0]) ?_ 3 _ rfl;(with_reducible repeat (first|refine blk_drewN ?_ _|refine blk_drew ?_|refine blk_alloc ?_ _));refine blk_put (cs:=#[.int .i64 a0,.int .i64 a1,.int .i64 0,.int .i64 0,.int .i64 0,.int .i64 0,.int .i64 0,.int .i64 0,.bool false,.int .i64 0]) ?_ 2 _ rfl;(with_reducible repeat (first|refine blk_drewN ?_ _|refine blk_drew ?_|refine blk_alloc ?_ _));refine blk_put (cs:=#[.int .i64 a0,.int .i64 0,.int .i64 0,.int .i64 0,.int .i64 0,.int .i64 0,.int .i64 0,.int .i64 0,.bool false,.int .i64 0]) ?_ 1 _ rfl;(with_reducible repeat (first|refine blk_drewN ?_ _|refine blk_drew ?_|refine blk_alloc ?_ _));refine blk_put (cs:=#[.int .i64 0,.int .i64 0,.int .i64 0,.int .i64 0,.int .i64 0,.int .i64 0,.int .i64 0,.int .i64 0,.bool false,.int .i64 0]) ?_ 0 _ rfl;(with_reducible repeat (first|refine blk_drewN ?_ _|refine blk_drew ?_|refine blk_alloc ?_ _));exact BK107.out) Try.underlying48 rfl (by kernel_rfl)) rfl ?_
 exact ⟨by first|rfl|(simp [errW_none,errW_some] <;> rfl)|(simp [*,errW_none,errW_some] <;> rfl),by repeat (first|(with_reducible first|exact HB.out|apply below_alloc|apply pw_below_drewN|apply below_drew1|refine below_set ?_ GE107.out)|exact HB.out)⟩
def breadlineref03_SameInts.l0:Nat→List Int→List Int→Int→Option (Bool)
 | 0,_,_,_=>none
 | k + 1,x0,x1,x5=>if x5 < (x0.length:Int) then (if 0 ≤ x5 then (if x5 < (x1.length:Int) then (if (rd x0 x5) = (rd x1 x5) then (breadlineref03_SameInts.l0 k x0 x1 (wrap64 (x5 + 1))) else (some false)) else (none)) else (none)) else (some true)
def breadlineref03_SameInts.f (k:Nat) (l0:List Int) (l1:List Int):Option (Bool):=if (l0.length:Int) = (l1.length:Int) then (breadlineref03_SameInts.l0 k l0 l1 0) else (some false)
theorem breadlineref03_SameInts.calls (k:Nat) (A0:Option Addr) (c0:Nat) (l0:List Int) (A1:Option Addr) (c1:Nat) (l1:List Int) (r:Bool) (w:World) (hr0:Kd.C (Kd.int .i64) w A0 l0.length l0) (hc0:l0.length ≤ c0) (hr1:Kd.C (Kd.int .i64) w A1 l1.length l1) (hc1:l1.length ≤ c1) (h:breadlineref03_SameInts.f k l0 l1 = some r) :
  Calls Try.prog 13 #[.slice A0 l0.length c0,.slice A1 l1.length c1] w fun e w'=>e = .returned (.bool r)∧Drawn0 w w':=by
 have HR0:=Aside0.mk hr0
 have HC0:=Aside0.mk hc0
 clear hr0 hc0
 have HR1:=Aside0.mk hr1
 have HC1:=Aside0.mk hc1
 clear hr1 hc1
 have H:(if (l0.length:Int) = (l1.length:Int) then (breadlineref03_SameInts.l0 k l0 l1 0) else (some false)) = some r:=h
 clear h
 by_cases c3:(l0.length:Int) = (l1.length:Int)
 ·rw [if_pos c3] at H
  have c3b0:((l0.length:Int) == (l1.length:Int)) = true:=beq_iff_eq.mpr c3
  have c3b1:((l0.length:Int) != (l1.length:Int)) = false:=bne_eq_false_iff_eq.mpr c3
  have c3b2:(l0.length == l1.length) = true:=by first|simpa using c3|(simp at c3 ⊢;omega)
  clear c3
  have H':=Aside0.mk H
  clear H
  go_enter Try.func13,Try.ntmps13
  go_wp2
  repeat (go_quiet (fail);try go_wp2)
  go_loopg [5] k (fun kq v5 w'=>∃ (x5_1:Int),v5 = .int .i64 x5_1∧Aside0 (breadlineref03_SameInts.l0 kq l0 l1 x5_1 = some r)∧Aside0 (kq ≤ k)∧Drawn0 w w')
  case atStart=>exact ⟨(0),(by first|rfl|(simp;done)|(simp [*];done)),H',⟨Nat.le_refl _⟩,by repeat (first|exact Drawn0.refl _|apply Drawn0.step)⟩
  case round =>
   clear H'
   try clear c1
   try clear p2
   try clear c3
   try clear c3b0
   try clear c3b1
   try clear c3b2
   obtain ⟨x5_1,rfl,HA,HK1,⟨m1,rfl⟩⟩:=hrel
   cases gk with
   | zero=>exact absurd HA.out (by simp [breadlineref03_SameInts.l0])
   | succ k1 =>
    have H:=HA.out
    clear HA
    simp only [breadlineref03_SameInts.l0] at H
    by_cases c4:x5_1 < (l0.length:Int)
    ·rw [if_pos c4] at H
     have c4b0:decide (x5_1 < (l0.length:Int)) = true:=decide_eq_true c4
     clear c4
     by_cases c5:0 ≤ x5_1
     ·rw [if_pos c5] at H
      have c5b0:decide (0 ≤ x5_1) = true:=decide_eq_true c5
      clear c5
      by_cases c6:x5_1 < (l1.length:Int)
      ·rw [if_pos c6] at H
       have c6b0:decide (x5_1 < (l1.length:Int)) = true:=decide_eq_true c6
       clear c6
       by_cases c7:(rd l0 x5_1) = (rd l1 x5_1)
       ·rw [if_pos c7] at H
        have c7b0:((rd l0 x5_1) == (rd l1 x5_1)) = true:=beq_iff_eq.mpr c7
        have c7b1:((rd l0 x5_1) != (rd l1 x5_1)) = false:=bne_eq_false_iff_eq.mpr c7
        clear c7
        have H':=Aside0.mk H
        clear H
        have p108:0 ≤ (x5_1:Int):=of_decide_eq_true (by first|(with_reducible assumption)|assumption)
        have q108:x5_1 < (l0.length:Int):=of_decide_eq_true (by first|(with_reducible assumption)|assumption)
        obtain ⟨ad108,e108,hx108_0⟩:=Kd.at_int HR0.out x5_1 p108 q108
        cases e108
        replace p108:=eq_true p108
        replace q108:=eq_true q108
        have p109:0 ≤ (x5_1:Int):=of_decide_eq_true (by first|(with_reducible assumption)|assumption)
        have q109:x5_1 < (l1.length:Int):=of_decide_eq_true (by first|(with_reducible assumption)|assumption)
        obtain ⟨ad109,e109,hx109_0⟩:=Kd.at_int HR1.out x5_1 p109 q109
        cases e109
        replace p109:=eq_true p109
        replace q109:=eq_true q109
        go_wp2
        repeat (go_quiet (fail);try go_wp2)
        go_roundg k1
        case measure=>have:=HK1.out;omega
        case rel=>exact ⟨(wrap64 (x5_1 + 1)),(by first|rfl|(simp;done)|(simp [*];done)),H',⟨by have:=HK1.out;omega⟩,by repeat (first|exact Drawn0.refl _|apply Drawn0.step)⟩
       ·rw [if_neg c7] at H
        have c7b0:((rd l0 x5_1) == (rd l1 x5_1)) = false:=beq_eq_false_iff_ne.mpr c7
        have c7b1:((rd l0 x5_1) != (rd l1 x5_1)) = true:=bne_iff_ne.mpr c7
        obtain rfl:=Option.some.inj H
        have p108:0 ≤ (x5_1:Int):=of_decide_eq_true (by first|(with_reducible assumption)|assumption)
        have q108:x5_1 < (l0.length:Int):=of_decide_eq_true (by first|(with_reducible assumption)|assumption)
        obtain ⟨ad108,e108,hx108_0⟩:=Kd.at_int HR0.out x5_1 p108 q108
        cases e108
        replace p108:=eq_true p108
        replace q108:=eq_true q108
        have p109:0 ≤ (x5_1:Int):=of_decide_eq_true (by first|(with_reducible assumption)|assumption)
        have q109:x5_1 < (l1.length:Int):=of_decide_eq_true (by first|(with_reducible assumption)|assumption)
        obtain ⟨ad109,e109,hx109_0⟩:=Kd.at_int HR1.out x5_1 p109 q109
        cases e109
        replace p109:=eq_true p109
        replace q109:=eq_true q109
        go_wp2
        repeat (go_quiet (fail);try go_wp2)
        go_ret
        exact ⟨by first|rfl|(simp;done)|(simp [*];done),by repeat (first|exact Drawn0.refl _|apply Drawn0.step)⟩
      ·rw [if_neg c6] at H
       exact absurd H (by simp)
     ·rw [if_neg c5] at H
      exact absurd H (by simp)
    ·rw [if_neg c4] at H
     have c4b0:decide (x5_1 < (l0.length:Int)) = false:=decide_eq_false c4
     clear c4
     obtain rfl:=Option.some.inj H
     go_wp2
     repeat (go_quiet (fail);try go_wp2)
     go_ret
     exact ⟨by first|rfl|(simp;done)|(simp [*];done),by repeat (first|exact Drawn0.refl _|apply Drawn0.step)⟩
 ·rw [if_neg c3] at H
  have c3b0:((l0.length:Int) == (l1.length:Int)) = false:=beq_eq_false_iff_ne.mpr c3
  have c3b1:((l0.length:Int) != (l1.length:Int)) = true:=bne_iff_ne.mpr c3
  have c3b2:(l0.length == l1.length) = false:=by first|simpa using c3|(simp at c3 ⊢;omega)
  obtain rfl:=Option.some.inj H
  go_enter Try.func13,Try.ntmps13
  go_wp2
  repeat (go_quiet (fail);try go_wp2)
  go_ret
  exact ⟨by first|rfl|(simp;done)|(simp [*];done),by repeat (first|exact Drawn0.refl _|apply Drawn0.step)⟩
def breadlinelaw04_Great.f (a0_0:Int) (a0_1:Int) (a0_2:Int) (a0_3:Int) (a0_4:Int) (a0_5:Int) (l0_6:List Int) (l0_7:List Int):Option (Bool):=if (l0_6.length:Int) > 100 then (some true) else (some (decide ((l0_7.length:Int) > 100)))
theorem breadlinelaw04_Great.calls (a0_0:Int) (a0_1:Int) (a0_2:Int) (a0_3:Int) (a0_4:Int) (a0_5:Int) (A0_6:Option Addr) (c0_6:Nat) (l0_6:List Int) (A0_7:Option Addr) (c0_7:Nat) (l0_7:List Int) (r:Bool) (w:World) (hr0_6:Kd.C (Kd.int .i64) w A0_6 l0_6.length l0_6) (hc0_6:l0_6.length ≤ c0_6) (hr0_7:Kd.C (Kd.int .i64) w A0_7 l0_7.length l0_7) (hc0_7:l0_7.length ≤ c0_7) (h:breadlinelaw04_Great.f a0_0 a0_1 a0_2 a0_3 a0_4 a0_5 l0_6 l0_7 = some r) :
  Calls Try.prog 15 #[.agg #[.int .i64 a0_0,.int .i64 a0_1,.int .i64 a0_2,.int .i64 a0_3,.int .i64 a0_4,.int .i64 a0_5,.slice A0_6 l0_6.length c0_6,.slice A0_7 l0_7.length c0_7]] w fun e w'=>e = .returned (.bool r)∧Below w.heap.size w w':=by
 have hu24:=Try.underlying24
 have HR0_6:=Aside0.mk hr0_6
 have HC0_6:=Aside0.mk hc0_6
 clear hr0_6 hc0_6
 have HR0_7:=Aside0.mk hr0_7
 have HC0_7:=Aside0.mk hc0_7
 clear hr0_7 hc0_7
 have HB:=Aside0.mk (Below.refl w.heap.size w)
 have H:(if (l0_6.length:Int) > 100 then (some true) else (some (decide ((l0_7.length:Int) > 100)))) = some r:=h
 clear h
 by_cases c2:(l0_6.length:Int) > 100
 ·rw [if_pos c2] at H
  have c2b0:decide (100 < (l0_6.length:Int)) = true:=decide_eq_true c2
  have c2b1:decide (100 < l0_6.length) = true:=decide_eq_true (by omega)
  clear c2
  obtain rfl:=Option.some.inj H
  go_enter Try.func15,Try.ntmps15
  go_wp2_with (first|((with_reducible refine gate_dst (N:=1) rfl ?_);(try (refine gate_guard (by rfl) ?_;dsimp only));refine box_event ?hg (N:=1) ?hd (cs:=#[.int .i64 a0_0,.int .i64 a0_1,.int .i64 a0_2,.int .i64 a0_3,.int .i64 a0_4,.int .i64 a0_5,.slice A0_6 l0_6.length c0_6,.slice A0_7 l0_7.length c0_7]) (t:=24) ?hr ?_;(case hd=>rfl);(case hg=>rfl);(case hr=>first|(go_simp;done)|(go_simp;rfl));intro gb110 hg w3 hbox hb;have n0_:=Aside0.mk (below_step (by repeat (first|(with_reducible first|exact HB.out|apply below_alloc|apply pw_below_drewN|apply below_drew1)|exact HB.out)) hb);have n1_:=Aside0.mk (hbox);have n2_:=Aside0.mk ((by rw [hg];exact (below_size (by repeat (first|(with_reducible first|exact HB.out|apply below_alloc|apply pw_below_drewN|apply below_drew1)|exact HB.out))):w.heap.size ≤ gb110));have n3_:=Aside0.mk ((by rw [hg];exact (below_size (by repeat (first|(with_reducible first|exact HB.out|apply below_alloc|apply pw_below_drewN|apply below_drew1)|exact HB.out))):w.heap.size ≤ gb110));clear HB;have HB:=n0_;have BK110:=n1_;have GW110:=n2_;have GE110:=n3_;clear n0_ n1_ n2_ n3_;clear hb hbox hg;have hz4_gb110:=cells8 BK110.out))
  go_ret
  exact ⟨by first|rfl|(simp [errW_none,errW_some] <;> rfl)|(simp [*,errW_none,errW_some] <;> rfl),by repeat (first|(with_reducible first|exact HB.out|apply below_alloc|apply pw_below_drewN|apply below_drew1|refine below_set ?_ GE110.out)|exact HB.out)⟩
 ·rw [if_neg c2] at H
  have c2b0:decide (100 < (l0_6.length:Int)) = false:=decide_eq_false c2
  have c2b1:decide (100 < l0_6.length) = false:=decide_eq_false (by omega)
  clear c2
  obtain rfl:=Option.some.inj H
  go_enter Try.func15,Try.ntmps15
  go_wp2_with (first|((with_reducible refine gate_dst (N:=1) rfl ?_);(try (refine gate_guard (by rfl) ?_;dsimp only));refine box_event ?hg (N:=1) ?hd (cs:=#[.int .i64 a0_0,.int .i64 a0_1,.int .i64 a0_2,.int .i64 a0_3,.int .i64 a0_4,.int .i64 a0_5,.slice A0_6 l0_6.length c0_6,.slice A0_7 l0_7.length c0_7]) (t:=24) ?hr ?_;(case hd=>rfl);(case hg=>rfl);(case hr=>first|(go_simp;done)|(go_simp;rfl));intro gb110 hg w5 hbox hb;have n0_:=Aside0.mk (below_step (by repeat (first|(with_reducible first|exact HB.out|apply below_alloc|apply pw_below_drewN|apply below_drew1)|exact HB.out)) hb);have n1_:=Aside0.mk (hbox);have n2_:=Aside0.mk ((by rw [hg];exact (below_size (by repeat (first|(with_reducible first|exact HB.out|apply below_alloc|apply pw_below_drewN|apply below_drew1)|exact HB.out))):w.heap.size ≤ gb110));have n3_:=Aside0.mk ((by rw [hg];exact (below_size (by repeat (first|(with_reducible first|exact HB.out|apply below_alloc|apply pw_below_drewN|apply below_drew1)|exact HB.out))):w.heap.size ≤ gb110));clear HB;have HB:=n0_;have BK110:=n1_;have GW110:=n2_;have GE110:=n3_;clear n0_ n1_ n2_ n3_;clear hb hbox hg;have hz6_gb110:=cells8 BK110.out))
  go_ret
  exact ⟨by first|rfl|(simp [errW_none,errW_some] <;> rfl)|(simp [*,errW_none,errW_some] <;> rfl),by repeat (first|(with_reducible first|exact HB.out|apply below_alloc|apply pw_below_drewN|apply below_drew1|refine below_set ?_ GE110.out)|exact HB.out)⟩
def breadlineref04_in.f (a0:Int) (a1:Int) (a2:Int):Option (Bool):=if a0 ≥ a1 then (some (decide (a0 ≤ a2))) else (some false)
theorem breadlineref04_in.calls (a0:Int) (a1:Int) (a2:Int) (r:Bool) (w:World) (h:breadlineref04_in.f a0 a1 a2 = some r) :
  Calls Try.prog 21 #[.int .i64 a0,.int .i64 a1,.int .i64 a2] w fun e w'=>e = .returned (.bool r)∧Drawn0 w w':=by
 have H:(if a0 ≥ a1 then (some (decide (a0 ≤ a2))) else (some false)) = some r:=h
 clear h
 by_cases c4:a0 ≥ a1
 ·rw [if_pos c4] at H
  have c4b0:decide (a1 ≤ a0) = true:=decide_eq_true c4
  clear c4
  obtain rfl:=Option.some.inj H
  go_enter Try.func21,Try.ntmps21
  go_wp2
  go_ret
  exact ⟨by first|rfl|(simp;done)|(simp [*];done),by repeat (first|exact Drawn0.refl _|apply Drawn0.step)⟩
 ·rw [if_neg c4] at H
  have c4b0:decide (a1 ≤ a0) = false:=decide_eq_false c4
  clear c4
  obtain rfl:=Option.some.inj H
  go_enter Try.func21,Try.ntmps21
  go_wp2
  go_ret
  exact ⟨by first|rfl|(simp;done)|(simp [*];done),by repeat (first|exact Drawn0.refl _|apply Drawn0.step)⟩
end Go.Proofs.Ytadblpcjkahikaa.PTraceRuns

