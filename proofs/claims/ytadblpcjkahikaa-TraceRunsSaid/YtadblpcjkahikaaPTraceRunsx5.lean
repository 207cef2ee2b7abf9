
import Derived.Test.YtadblpcjkahikaaPTraceRunsx0
import Derived.Test.YtadblpcjkahikaaPTraceRunsx4
namespace Go.Proofs.Ytadblpcjkahikaa.PTraceRuns
open Go.RowKit Go.Proofs.YtadblpcjkahikaaW.PrintWords Go.Proofs.YtadblpcjkahikaaW.PrintLast Go.Proofs.YtadblpcjkahikaaW.PrintMore
attribute [local go_sem] max2_int min2_int max_two min_two max_three min_three max_four min_four
set_option linter.unusedVariables false
set_option linter.unusedSimpArgs false
set_option maxHeartbeats 8000000
set_option maxRecDepth 100000
mutual
def breadlineref15_Check.j0:Nat→Bool→Int→Int→Int→Int→Int→Int→List Int→List Int→Int→Int→Int→Option (Int)
 | 0,_,_,_,_,_,_,_,_,_,_,_,_=>none
 | k + 1,x5,x181000,x181001,x181002,x181003,x181004,x181005,x181006,x181007,x182000,x182001,x182002=>if x182002 ≥ 1 then (breadlineref15_Check.j1 k x5 (decide (x182002 ≤ 1048576)) x181000 x181001 x181002 x181003 x181004 x181005 x181006 x181007 x182000 x182001 x182002) else (breadlineref15_Check.j1 k x5 false x181000 x181001 x181002 x181003 x181004 x181005 x181006 x181007 x182000 x182001 x182002)
def breadlineref15_Check.j1:Nat→Bool→Bool→Int→Int→Int→Int→Int→Int→List Int→List Int→Int→Int→Int→Option (Int)
 | 0,_,_,_,_,_,_,_,_,_,_,_,_,_=>none
 | k + 1,x5,x6,x181000,x181001,x181002,x181003,x181004,x181005,x181006,x181007,x182000,x182001,x182002=>if x182000 = 1 then ((breadlineref04_Leaf.f k x181000 x181001 x181002 x181003 x181004 x181005 x181006 x181007 x182001).bind fun t182=>(if t182 = true then (if x6 = true then (some 0) else (some 1)) else (some 2))) else (if x182000 = 2 then ((breadlineref10_Named.f x182002 x181005).bind fun bt183=>(if bt183.2.2 = true then (some 0) else (some 5))) else (if x182000 = 3 then (breadlineref15_Check.j2 k x5 x6 x182000 (x182000 == 3)) else (breadlineref15_Check.j2 k x5 x6 x182000 (x182000 == 4))))
def breadlineref15_Check.j2:Nat→Bool→Bool→Int→Bool→Option (Int)
 | 0,_,_,_,_=>none
 | k + 1,x5,x6,x30,x53=>if x53 = true then (if x5 = true then (if x6 = true then (some 0) else (some 1)) else (some 2)) else (if x30 = 5 then (breadlineref15_Check.j3 k x5 (x30 == 5)) else (breadlineref15_Check.j3 k x5 (x30 == 6)))
def breadlineref15_Check.j3:Nat→Bool→Bool→Option (Int)
 | 0,_,_=>none
 | k + 1,x5,x60=>if x60 = true then (if x5 = true then (some 0) else (some 2)) else (some 1)
end
def breadlineref15_Check.f (k:Nat) (a0_0:Int) (a0_1:Int) (a0_2:Int) (a0_3:Int) (a0_4:Int) (a0_5:Int) (l0_6:List Int) (l0_7:List Int) (a1_0:Int) (a1_1:Int) (a1_2:Int):Option (Int):=if a1_1 ≥ 0 then (breadlineref15_Check.j0 k (decide (a1_1 < (l0_6.length:Int))) a0_0 a0_1 a0_2 a0_3 a0_4 a0_5 l0_6 l0_7 a1_0 a1_1 a1_2) else (breadlineref15_Check.j0 k false a0_0 a0_1 a0_2 a0_3 a0_4 a0_5 l0_6 l0_7 a1_0 a1_1 a1_2)
theorem breadlineref15_Check.calls (k:Nat) (a0_0:Int) (a0_1:Int) (a0_2:Int) (a0_3:Int) (a0_4:Int) (a0_5:Int) (A0_6:Option Addr) (c0_6:Nat) (l0_6:List Int) (A0_7:Option Addr) (c0_7:Nat) (l0_7:List Int) (a1_0:Int) (a1_1:Int) (a1_2:Int) (r:Int) (w:World) (hr0_6:Kd.C (Kd.int .i64) w A0_6 l0_6.length l0_6) (hc0_6:l0_6.length ≤ c0_6) (hr0_7:Kd.C (Kd.int .i64) w A0_7 l0_7.length l0_7) (hc0_7:l0_7.length ≤ c0_7) (h:breadlineref15_Check.f k a0_0 a0_1 a0_2 a0_3 a0_4 a0_5 l0_6 l0_7 a1_0 a1_1 a1_2 = some r) :
  Calls Try.prog 25 #[.agg #[.int .i64 a0_0,.int .i64 a0_1,.int .i64 a0_2,.int .i64 a0_3,.int .i64 a0_4,.int .i64 a0_5,.slice A0_6 l0_6.length c0_6,.slice A0_7 l0_7.length c0_7],.agg #[.int .i64 a1_0,.int .i64 a1_1,.int .i64 a1_2]] w fun e w'=>e = .returned (.int .i64 r)∧Below w.heap.size w w':=by
 have hu24:=Try.underlying24
 have hu43:=Try.underlying43
 have HR0_6:=Aside0.mk hr0_6
 have HC0_6:=Aside0.mk hc0_6
 clear hr0_6 hc0_6
 have HR0_7:=Aside0.mk hr0_7
 have HC0_7:=Aside0.mk hc0_7
 clear hr0_7 hc0_7
 have HB:=Aside0.mk (Below.refl w.heap.size w)
 have H:(if a1_1 ≥ 0 then (breadlineref15_Check.j0 k (decide (a1_1 < (l0_6.length:Int))) a0_0 a0_1 a0_2 a0_3 a0_4 a0_5 l0_6 l0_7 a1_0 a1_1 a1_2) else (breadlineref15_Check.j0 k false a0_0 a0_1 a0_2 a0_3 a0_4 a0_5 l0_6 l0_7 a1_0 a1_1 a1_2)) = some r:=h
 clear h
 have HC3:=Aside0.mk H
 clear H
 go_enter Try.func25,Try.ntmps25
 go_upto_region 1 with (first|((with_reducible refine gate_dst (N:=2) rfl ?_);(try (refine gate_guard (by rfl) ?_;dsimp only));refine box_event ?hg (N:=2) ?hd (cs:=#[.int .i64 a0_0,.int .i64 a0_1,.int .i64 a0_2,.int .i64 a0_3,.int .i64 a0_4,.int .i64 a0_5,.slice A0_6 l0_6.length c0_6,.slice A0_7 l0_7.length c0_7]) (t:=24) ?hr ?_;(case hd=>rfl);(case hg=>rfl);(case hr=>first|(go_simp;done)|(go_simp;rfl));intro gb180 hg w4 hbox hb;have n0_:=Aside0.mk (below_step (by repeat (first|(with_reducible first|exact HB.out|apply below_alloc|apply pw_below_drewN|apply below_drew1)|exact HB.out)) hb);have n1_:=Aside0.mk (hbox);have n2_:=Aside0.mk ((by rw [hg];exact (below_size (by repeat (first|(with_reducible first|exact HB.out|apply below_alloc|apply pw_below_drewN|apply below_drew1)|exact HB.out))):w.heap.size ≤ gb180));have n3_:=Aside0.mk ((by rw [hg];exact (below_size (by repeat (first|(with_reducible first|exact HB.out|apply below_alloc|apply pw_below_drewN|apply below_drew1)|exact HB.out))):w.heap.size ≤ gb180));clear HB;have HB:=n0_;have BK180:=n1_;have GW180:=n2_;have GE180:=n3_;clear n0_ n1_ n2_ n3_;clear hb hbox hg)|((with_reducible refine gate_dst (N:=3) rfl ?_);(try (refine gate_guard (by rfl) ?_;dsimp only));refine box_event ?hg (N:=3) ?hd (cs:=#[.int .i64 a1_0,.int .i64 a1_1,.int .i64 a1_2]) (t:=43) ?hr ?_;(case hd=>rfl);(case hg=>rfl);(case hr=>first|(go_simp;done)|(go_simp;rfl));intro gb181 hg w5 hbox hb;have n0_:=Aside0.mk (blk_below (g:=gb180) (o:=.cells #[.int .i64 a0_0,.int .i64 a0_1,.int .i64 a0_2,.int .i64 a0_3,.int .i64 a0_4,.int .i64 a0_5,.slice A0_6 l0_6.length c0_6,.slice A0_7 l0_7.length c0_7] 24 (0,0)) (by (with_reducible repeat (first|refine blk_drewN ?_ _|refine blk_drew ?_|refine blk_alloc ?_ _));exact BK180.out) hb);have n1_:=Aside0.mk (below_step (by repeat (first|(with_reducible first|exact HB.out|apply below_alloc|apply pw_below_drewN|apply below_drew1|refine below_set ?_ GE180.out)|exact HB.out)) hb);have n2_:=Aside0.mk (hbox);have n3_:=Aside0.mk ((by rw [hg];exact (below_size (by repeat (first|(with_reducible first|exact HB.out|apply below_alloc|apply pw_below_drewN|apply below_drew1|refine below_set ?_ GE180.out)|exact HB.out))):w.heap.size ≤ gb181));have n4_:=Aside0.mk ((by rw [hg];exact (below_size (by repeat (first|(with_reducible first|exact HB.out|apply below_alloc|apply pw_below_drewN|apply below_drew1|refine below_set ?_ GE180.out)|exact HB.out))):w.heap.size ≤ gb181));have n5_:=Aside0.mk ((by rw [hg];exact Nat.ne_of_lt (blk_lt (g:=gb180) (o:=.cells #[.int .i64 a0_0,.int .i64 a0_1,.int .i64 a0_2,.int .i64 a0_3,.int .i64 a0_4,.int .i64 a0_5,.slice A0_6 l0_6.length c0_6,.slice A0_7 l0_7.length c0_7] 24 (0,0)) (by (with_reducible repeat (first|refine blk_drewN ?_ _|refine blk_drew ?_|refine blk_alloc ?_ _));exact BK180.out)):gb180 ≠ gb181));have n6_:=Aside0.mk ((by rw [hg];exact Nat.ne_of_gt (blk_lt (g:=gb180) (o:=.cells #[.int .i64 a0_0,.int .i64 a0_1,.int .i64 a0_2,.int .i64 a0_3,.int .i64 a0_4,.int .i64 a0_5,.slice A0_6 l0_6.length c0_6,.slice A0_7 l0_7.length c0_7] 24 (0,0)) (by (with_reducible repeat (first|refine blk_drewN ?_ _|refine blk_drew ?_|refine blk_alloc ?_ _));exact BK180.out)):gb181 ≠ gb180));clear BK180;clear HB;have BK180:=n0_;have HB:=n1_;have BK181:=n2_;have GW181:=n3_;have GE181:=n4_;have NB180_181:=n5_;have NB181_180:=n6_;clear n0_ n1_ n2_ n3_ n4_ n5_ n6_;clear hb hbox hg))
 (try simp only [Act.put,List.setIfInBounds_toArray,List.set_cons_zero,List.set_cons_succ])
 go_cut [5] (fun v5 wc=>∃ (kq:Nat) (x5_2:Bool),v5 = .bool x5_2∧Aside0 (breadlineref15_Check.j0 kq x5_2 a0_0 a0_1 a0_2 a0_3 a0_4 a0_5 l0_6 l0_7 a1_0 a1_1 a1_2 = some r)∧Aside0 (kq ≤ k)∧Aside0 (wc.heap[gb180]? = some (.cells #[.int .i64 a0_0,.int .i64 a0_1,.int .i64 a0_2,.int .i64 a0_3,.int .i64 a0_4,.int .i64 a0_5,(.slice A0_6 l0_6.length c0_6),(.slice A0_7 l0_7.length c0_7)] 24 (0,0)))∧Aside0 (wc.heap[gb181]? = some (.cells #[.int .i64 a1_0,.int .i64 a1_1,.int .i64 a1_2] 43 (0,0)))∧Aside0 (Below w.heap.size w wc))
 case first =>
  have H:=HC3.out
  clear HC3
  by_cases c6:a1_1 ≥ 0
  ·rw [if_pos c6] at H
   have c6b0:decide (0 ≤ a1_1) = true:=decide_eq_true c6
   clear c6
   (first|rw [c6b0]|(simp only [i64_w,i32_w];rw [c6b0])|skip)
   have H':=Aside0.mk H
   clear H
   have hnb7:=NB181_180.out
   have hnc7:=NB180_181.out
   have hz8_gb181:=cells3 BK181.out
   have hz9_gb180:=cells8 BK180.out
   go_wp2
   go_meet
   case rel=>exact ⟨_,(decide (a1_1 < (l0_6.length:Int))),(by first|rfl|(simp;done)|(simp [*];done)),H',⟨by first|omega|exact Nat.le_refl _⟩,⟨by (with_reducible repeat (first|refine blk_drewN ?_ _|refine blk_drew ?_|refine blk_alloc ?_ _));exact BK180.out⟩,⟨by (with_reducible repeat (first|refine blk_drewN ?_ _|refine blk_drew ?_|refine blk_alloc ?_ _));exact BK181.out⟩,⟨by repeat (first|(with_reducible first|exact HB.out|apply below_alloc|apply pw_below_drewN|apply below_drew1|refine below_set ?_ GE180.out|refine below_set ?_ GE181.out)|exact HB.out)⟩⟩
  ·rw [if_neg c6] at H
   have c6b0:decide (0 ≤ a1_1) = false:=decide_eq_false c6
   clear c6
   (first|rw [c6b0]|(simp only [i64_w,i32_w];rw [c6b0])|skip)
   have H':=Aside0.mk H
   clear H
   have hnb10:=NB181_180.out
   have hnc10:=NB180_181.out
   have hz11_gb181:=cells3 BK181.out
   go_wp2
   go_meet
   case rel=>exact ⟨_,(false),(by first|rfl|(simp;done)|(simp [*];done)),H',⟨by first|omega|exact Nat.le_refl _⟩,⟨by (with_reducible repeat (first|refine blk_drewN ?_ _|refine blk_drew ?_|refine blk_alloc ?_ _));exact BK180.out⟩,⟨by (with_reducible repeat (first|refine blk_drewN ?_ _|refine blk_drew ?_|refine blk_alloc ?_ _));exact BK181.out⟩,⟨by repeat (first|(with_reducible first|exact HB.out|apply below_alloc|apply pw_below_drewN|apply below_drew1|refine below_set ?_ GE180.out|refine below_set ?_ GE181.out)|exact HB.out)⟩⟩
 case rest =>
  clear HC3
  try clear c1
  try clear c2
  try clear p2
  try clear c6
  try clear c6b0
  try clear c7
  try clear c10
  try clear hz11_gb181
  try clear hz8_gb181
  try clear hz9_gb180
  obtain ⟨kq,x5_2,rfl,HA,HJ2,BK180,BK181,HB⟩:=hcut
  cases kq with
  | zero=>exact absurd HA.out (by simp [breadlineref15_Check.j0])
  | succ kj2 =>
   have H:=HA.out
   clear HA
   simp only [breadlineref15_Check.j0] at H
   have HC12:=Aside0.mk H
   clear H
   go_upto_region 2 with (fail)
   go_cut [6] (fun v6 wc=>∃ (kq:Nat) (x6_11:Bool),v6 = .bool x6_11∧Aside0 (breadlineref15_Check.j1 kq x5_2 x6_11 a0_0 a0_1 a0_2 a0_3 a0_4 a0_5 l0_6 l0_7 a1_0 a1_1 a1_2 = some r)∧Aside0 (kq ≤ kj2)∧Aside0 (wc.heap[gb180]? = some (.cells #[.int .i64 a0_0,.int .i64 a0_1,.int .i64 a0_2,.int .i64 a0_3,.int .i64 a0_4,.int .i64 a0_5,(.slice A0_6 l0_6.length c0_6),(.slice A0_7 l0_7.length c0_7)] 24 (0,0)))∧Aside0 (wc.heap[gb181]? = some (.cells #[.int .i64 a1_0,.int .i64 a1_1,.int .i64 a1_2] 43 (0,0)))∧Aside0 (Below w.heap.size w wc))
   case first =>
    have H:=HC12.out
    clear HC12
    by_cases c13:a1_2 ≥ 1
    ·rw [if_pos c13] at H
     have c13b0:decide (1 ≤ a1_2) = true:=decide_eq_true c13
     clear c13
     (first|rw [c13b0]|(simp only [i64_w,i32_w];rw [c13b0])|skip)
     have H':=Aside0.mk H
     clear H
     have hnb14:=NB181_180.out
     have hnc14:=NB180_181.out
     have hz15_gb181:=cells3 BK181.out
     go_wp2
     go_meet
     case rel=>exact ⟨_,(decide (a1_2 ≤ 1048576)),(by first|rfl|(simp;done)|(simp [*];done)),H',⟨by have:=HJ2.out;first|omega|exact Nat.le_refl _⟩,⟨by (with_reducible repeat (first|refine blk_drewN ?_ _|refine blk_drew ?_|refine blk_alloc ?_ _));exact BK180.out⟩,⟨by (with_reducible repeat (first|refine blk_drewN ?_ _|refine blk_drew ?_|refine blk_alloc ?_ _));exact BK181.out⟩,⟨by repeat (first|(with_reducible first|exact HB.out|apply below_alloc|apply pw_below_drewN|apply below_drew1|refine below_set ?_ GE180.out|refine below_set ?_ GE181.out)|exact HB.out)⟩⟩
    ·rw [if_neg c13] at H
     have c13b0:decide (1 ≤ a1_2) = false:=decide_eq_false c13
     clear c13
     (first|rw [c13b0]|(simp only [i64_w,i32_w];rw [c13b0])|skip)
     have H':=Aside0.mk H
     clear H
     have hnb16:=NB181_180.out
     have hnc16:=NB180_181.out
     have hz17_gb181:=cells3 BK181.out
     go_wp2
     go_meet
     case rel=>exact ⟨_,(false),(by first|rfl|(simp;done)|(simp [*];done)),H',⟨by have:=HJ2.out;first|omega|exact Nat.le_refl _⟩,⟨by (with_reducible repeat (first|refine blk_drewN ?_ _|refine blk_drew ?_|refine blk_alloc ?_ _));exact BK180.out⟩,⟨by (with_reducible repeat (first|refine blk_drewN ?_ _|refine blk_drew ?_|refine blk_alloc ?_ _));exact BK181.out⟩,⟨by repeat (first|(with_reducible first|exact HB.out|apply below_alloc|apply pw_below_drewN|apply below_drew1|refine below_set ?_ GE180.out|refine below_set ?_ GE181.out)|exact HB.out)⟩⟩
   case rest =>
    clear HC12
    try clear c1
    try clear c2
    try clear p2
    try clear c6
    try clear c6b0
    try clear c7
    try clear c10
    try clear c13
    try clear c13b0
    try clear c14
    try clear c16
    try clear hz11_gb181
    try clear hz15_gb181
    try clear hz17_gb181
    try clear hz8_gb181
    try clear hz9_gb180
    try clear p2
    obtain ⟨kq,x6_11,rfl,HA,HJ11,BK180,BK181,HB⟩:=hcut
    cases kq with
    | zero=>exact absurd HA.out (by simp [breadlineref15_Check.j1])
    | succ kj11 =>
     have H:=HA.out
     clear HA
     simp only [breadlineref15_Check.j1] at H
     by_cases c18:a1_0 = 1
     ·rw [if_pos c18] at H
      have c18b0:(a1_0 == 1) = true:=beq_iff_eq.mpr c18
      have c18b1:(a1_0 != 1) = false:=bne_eq_false_iff_eq.mpr c18
      clear c18
      replace H:=Option.bind_eq_some_iff.mp H
      obtain ⟨t182,A190,H⟩:=H
      replace H:(if t182 = true then (if x6_11 = true then (some 0) else (some 1)) else (some 2)) = some r:=H
      have A19:=Aside0.mk A190
      clear A190
      by_cases c20:t182 = true
      ·subst c20
       rw [if_pos rfl] at H
       by_cases c21:x6_11 = true
       ·subst c21
        rw [if_pos rfl] at H
        obtain rfl:=Option.some.inj H
        have hnb22:=NB181_180.out
        have hnc22:=NB180_181.out
        have hz23_gb181:=cells3 BK181.out
        have hz24_gb180:=cells8 BK180.out
        go_wp2_with (first|((with_reducible refine gate_callee (f:=36) rfl ?_);refine goesL_ (some 36) rfl rfl Try.func36 (by kernel_rfl) rfl #[.agg #[.int .i64 a0_0,.int .i64 a0_1,.int .i64 a0_2,.int .i64 a0_3,.int .i64 a0_4,.int .i64 a0_5,.slice A0_6 l0_6.length c0_6,.slice A0_7 l0_7.length c0_7],.int .i64 a1_1] rfl (by (try simp only [List.map_toArray,List.map_cons,List.map_nil]);first|done|rfl|(simp only [List.length_drop,List.length_take];rfl)) ?_;(with_reducible refine (breadlineref04_Leaf.calls kj11 a0_0 a0_1 a0_2 a0_3 a0_4 a0_5 _ _ l0_6 _ _ l0_7 a1_1 true _ ?side1 ?side2 ?side3 ?side4 A19.out).mono ?_);(case side1=>repeat (first|exact (Kd.C_below HR0_6.out HB.out)|(with_reducible refine Kd.C_alloc ?_ _)|(with_reducible refine Kd.C_drewN ?_ _)|(with_reducible refine Kd.C_drew ?_)));(case side2=>exact HC0_6.out);(case side3=>repeat (first|exact (Kd.C_below HR0_7.out HB.out)|(with_reducible refine Kd.C_alloc ?_ _)|(with_reducible refine Kd.C_drewN ?_ _)|(with_reducible refine Kd.C_drew ?_)));(case side4=>exact HC0_7.out);rintro e w25 ⟨rfl,hb⟩;refine ⟨_,rfl,?_⟩;have n0_:=Aside0.mk (blk_below (g:=gb180) (o:=.cells #[.int .i64 a0_0,.int .i64 a0_1,.int .i64 a0_2,.int .i64 a0_3,.int .i64 a0_4,.int .i64 a0_5,.slice A0_6 l0_6.length c0_6,.slice A0_7 l0_7.length c0_7] 24 (0,0)) (by (with_reducible repeat (first|refine blk_drewN ?_ _|refine blk_drew ?_|refine blk_alloc ?_ _));exact BK180.out) hb);have n1_:=Aside0.mk (blk_below (g:=gb181) (o:=.cells #[.int .i64 a1_0,.int .i64 a1_1,.int .i64 a1_2] 43 (0,0)) (by (with_reducible repeat (first|refine blk_drewN ?_ _|refine blk_drew ?_|refine blk_alloc ?_ _));exact BK181.out) hb);have n2_:=Aside0.mk (below_step (by repeat (first|(with_reducible first|exact HB.out|apply below_alloc|apply pw_below_drewN|apply below_drew1|refine below_set ?_ GE180.out|refine below_set ?_ GE181.out)|exact HB.out)) hb);clear BK180;clear BK181;clear HB;have BK180:=n0_;have BK181:=n1_;have HB:=n2_;clear n0_ n1_ n2_;(try clear hb);(try clear hb2);(try clear hk);(try clear hi)))
        go_ret
        exact ⟨by first|rfl|(simp [errW_none,errW_some] <;> rfl)|(simp [*,errW_none,errW_some] <;> rfl),by repeat (first|(with_reducible first|exact HB.out|apply below_alloc|apply pw_below_drewN|apply below_drew1|refine below_set ?_ GE180.out|refine below_set ?_ GE181.out)|exact HB.out)⟩
       ·replace c21:=Bool.eq_false_iff.mpr c21
        subst c21
        rw [if_neg (show ¬ (false = true) by decide)] at H
        obtain rfl:=Option.some.inj H
        have hnb26:=NB181_180.out
        have hnc26:=NB180_181.out
        have hz27_gb181:=cells3 BK181.out
        have hz28_gb180:=cells8 BK180.out
        go_wp2_with (first|((with_reducible refine gate_callee (f:=36) rfl ?_);refine goesL_ (some 36) rfl rfl Try.func36 (by kernel_rfl) rfl #[.agg #[.int .i64 a0_0,.int .i64 a0_1,.int .i64 a0_2,.int .i64 a0_3,.int .i64 a0_4,.int .i64 a0_5,.slice A0_6 l0_6.length c0_6,.slice A0_7 l0_7.length c0_7],.int .i64 a1_1] rfl (by (try simp only [List.map_toArray,List.map_cons,List.map_nil]);first|done|rfl|(simp only [List.length_drop,List.length_take];rfl)) ?_;(with_reducible refine (breadlineref04_Leaf.calls kj11 a0_0 a0_1 a0_2 a0_3 a0_4 a0_5 _ _ l0_6 _ _ l0_7 a1_1 true _ ?side1 ?side2 ?side3 ?side4 A19.out).mono ?_);(case side1=>repeat (first|exact (Kd.C_below HR0_6.out HB.out)|(with_reducible refine Kd.C_alloc ?_ _)|(with_reducible refine Kd.C_drewN ?_ _)|(with_reducible refine Kd.C_drew ?_)));(case side2=>exact HC0_6.out);(case side3=>repeat (first|exact (Kd.C_below HR0_7.out HB.out)|(with_reducible refine Kd.C_alloc ?_ _)|(with_reducible refine Kd.C_drewN ?_ _)|(with_reducible refine Kd.C_drew ?_)));(case side4=>exact HC0_7.out);rintro e w29 ⟨rfl,hb⟩;refine ⟨_,rfl,?_⟩;have n0_:=Aside0.mk (blk_below (g:=gb180) (o:=.cells #[.int .i64 a0_0,.int .i64 a0_1,.int .i64 a0_2,.int .i64 a0_3,.int .i64 a0_4,.int .i64 a0_5,.slice A0_6 l0_6.length c0_6,.slice A0_7 l0_7.length c0_7] 24 (0,0)) (by (with_reducible repeat (first|refine blk_drewN ?_ _|refine blk_drew ?_|refine blk_alloc ?_ _));exact BK180.out) hb);have n1_:=Aside0.mk (blk_below (g:=gb181) (o:=.cells #[.int .i64 a1_0,.int .i64 a1_1,.int .i64 a1_2] 43 (0,0)) (by (with_reducible repeat (first|refine blk_drewN ?_ _|refine blk_drew ?_|refine blk_alloc ?_ _));exact BK181.out) hb);have n2_:=Aside0.mk (below_step (by repeat (first|(with_reducible first|exact HB.out|apply below_alloc|apply pw_below_drewN|apply below_drew1|refine below_set ?_ GE180.out|refine below_set ?_ GE181.out)|exact HB.out)) hb);clear BK180;clear BK181;clear HB;have BK180:=n0_;have BK181:=n1_;have HB:=n2_;clear n0_ n1_ n2_;(try clear hb);(try clear hb2);(try clear hk);(try clear hi)))
        go_ret
        exact ⟨by first|rfl|(simp [errW_none,errW_some] <;> rfl)|(simp [*,errW_none,errW_some] <;> rfl),by repeat (first|(with_reducible first|exact HB.out|apply below_alloc|apply pw_below_drewN|apply below_drew1|refine below_set ?_ GE180.out|refine below_set ?_ GE181.out)|exact HB.out)⟩
      ·replace c20:=Bool.eq_false_iff.mpr c20
       subst c20
       rw [if_neg (show ¬ (false = true) by decide)] at H
       obtain rfl:=Option.some.inj H
       have hnb30:=NB181_180.out
       have hnc30:=NB180_181.out
       have hz31_gb181:=cells3 BK181.out
       have hz32_gb180:=cells8 BK180.out
       go_wp2_with (first|((with_reducible refine gate_callee (f:=36) rfl ?_);refine goesL_ (some 36) rfl rfl Try.func36 (by kernel_rfl) rfl #[.agg #[.int .i64 a0_0,.int .i64 a0_1,.int .i64 a0_2,.int .i64 a0_3,.int .i64 a0_4,.int .i64 a0_5,.slice A0_6 l0_6.length c0_6,.slice A0_7 l0_7.length c0_7],.int .i64 a1_1] rfl (by (try simp only [List.map_toArray,List.map_cons,List.map_nil]);first|done|rfl|(simp only [List.length_drop,List.length_take];rfl)) ?_;(with_reducible refine (breadlineref04_Leaf.calls kj11 a0_0 a0_1 a0_2 a0_3 a0_4 a0_5 _ _ l0_6 _ _ l0_7 a1_1 false _ ?side1 ?side2 ?side3 ?side4 A19.out).mono ?_);(case side1=>repeat (first|exact (Kd.C_below HR0_6.out HB.out)|(with_reducible refine Kd.C_alloc ?_ _)|(with_reducible refine Kd.C_drewN ?_ _)|(with_reducible refine Kd.C_drew ?_)));(case side2=>exact HC0_6.out);(case side3=>repeat (first|exact (Kd.C_below HR0_7.out HB.out)|(with_reducible refine Kd.C_alloc ?_ _)|(with_reducible refine Kd.C_drewN ?_ _)|(with_reducible refine Kd.C_drew ?_)));(case side4=>exact HC0_7.out);rintro e w33 ⟨rfl,hb⟩;refine ⟨_,rfl,?_⟩;have n0_:=Aside0.mk (blk_below (g:=gb180) (o:=.cells #[.int .i64 a0_0,.int .i64 a0_1,.int .i64 a0_2,.int .i64 a0_3,.int .i64 a0_4,.int .i64 a0_5,.slice A0_6 l0_6.length c0_6,.slice A0_7 l0_7.length c0_7] 24 (0,0)) (by (with_reducible repeat (first|refine blk_drewN ?_ _|refine blk_drew ?_|refine blk_alloc ?_ _));exact BK180.out) hb);have n1_:=Aside0.mk (blk_below (g:=gb181) (o:=.cells #[.int .i64 a1_0,.int .i64 a1_1,.int .i64 a1_2] 43 (0,0)) (by (with_reducible repeat (first|refine blk_drewN ?_ _|refine blk_drew ?_|refine blk_alloc ?_ _));exact BK181.out) hb);have n2_:=Aside0.mk (below_step (by repeat (first|(with_reducible first|exact HB.out|apply below_alloc|apply pw_below_drewN|apply below_drew1|refine below_set ?_ GE180.out|refine below_set ?_ GE181.out)|exact HB.out)) hb);clear BK180;clear BK181;clear HB;have BK180:=n0_;have BK181:=n1_;have HB:=n2_;clear n0_ n1_ n2_;(try clear hb);(try clear hb2);(try clear hk);(try clear hi)))
       go_ret
       exact ⟨by first|rfl|(simp [errW_none,errW_some] <;> rfl)|(simp [*,errW_none,errW_some] <;> rfl),by repeat (first|(with_reducible first|exact HB.out|apply below_alloc|apply pw_below_drewN|apply below_drew1|refine below_set ?_ GE180.out|refine below_set ?_ GE181.out)|exact HB.out)⟩
     ·rw [if_neg c18] at H
      have c18b0:(a1_0 == 1) = false:=beq_eq_false_iff_ne.mpr c18
      have c18b1:(a1_0 != 1) = true:=bne_iff_ne.mpr c18
      by_cases c34:a1_0 = 2
      ·rw [if_pos c34] at H
       have c34b0:(a1_0 == 2) = true:=beq_iff_eq.mpr c34
       have c34b1:(a1_0 != 2) = false:=bne_eq_false_iff_eq.mpr c34
       clear c34
       replace H:=Option.bind_eq_some_iff.mp H
       obtain ⟨⟨t183,t184,t185⟩,A350,H⟩:=H
       replace H:(if t185 = true then (some 0) else (some 5)) = some r:=H
       have A35:=Aside0.mk A350
       clear A350
       by_cases c36:t185 = true
       ·subst c36
        rw [if_pos rfl] at H
        obtain rfl:=Option.some.inj H
        have hnb37:=NB181_180.out
        have hnc37:=NB180_181.out
        have hz38_gb181:=cells3 BK181.out
        have hz39_gb180:=cells8 BK180.out
        go_wp2_with (first|((with_reducible refine gate_callee (f:=37) rfl ?_);refine goesL_ (some 47) rfl rfl Try.func37 (by kernel_rfl) rfl #[.int .i64 a1_2,.int .i64 a0_5] rfl (by (try simp only [List.map_toArray,List.map_cons,List.map_nil]);first|done|rfl|(simp only [List.length_drop,List.length_take];rfl)) ?_;(with_reducible refine (breadlineref10_Named.calls a1_2 a0_5 t183 t184 true _ A35.out).mono ?_);rintro e w' ⟨rfl,⟨nd,rfl⟩⟩;refine ⟨_,rfl,?_⟩))
        go_ret
        exact ⟨by first|rfl|(simp [errW_none,errW_some] <;> rfl)|(simp [*,errW_none,errW_some] <;> rfl),by repeat (first|(with_reducible first|exact HB.out|apply below_alloc|apply pw_below_drewN|apply below_drew1|refine below_set ?_ GE180.out|refine below_set ?_ GE181.out)|exact HB.out)⟩
       ·replace c36:=Bool.eq_false_iff.mpr c36
        subst c36
        rw [if_neg (show ¬ (false = true) by decide)] at H
        obtain rfl:=Option.some.inj H
        have hnb40:=NB181_180.out
        have hnc40:=NB180_181.out
        have hz41_gb181:=cells3 BK181.out
        have hz42_gb180:=cells8 BK180.out
        go_wp2_with (first|((with_reducible refine gate_callee (f:=37) rfl ?_);refine goesL_ (some 47) rfl rfl Try.func37 (by kernel_rfl) rfl #[.int .i64 a1_2,.int .i64 a0_5] rfl (by (try simp only [List.map_toArray,List.map_cons,List.map_nil]);first|done|rfl|(simp only [List.length_drop,List.length_take];rfl)) ?_;(with_reducible refine (breadlineref10_Named.calls a1_2 a0_5 t183 t184 false _ A35.out).mono ?_);rintro e w' ⟨rfl,⟨nd,rfl⟩⟩;refine ⟨_,rfl,?_⟩))
        go_ret
        exact ⟨by first|rfl|(simp [errW_none,errW_some] <;> rfl)|(simp [*,errW_none,errW_some] <;> rfl),by repeat (first|(with_reducible first|exact HB.out|apply below_alloc|apply pw_below_drewN|apply below_drew1|refine below_set ?_ GE180.out|refine below_set ?_ GE181.out)|exact HB.out)⟩
      ·rw [if_neg c34] at H
       have c34b0:(a1_0 == 2) = false:=beq_eq_false_iff_ne.mpr c34
       have c34b1:(a1_0 != 2) = true:=bne_iff_ne.mpr c34
       have HC43:=Aside0.mk H
       clear H
       have hnb44:=NB181_180.out
       have hnc44:=NB180_181.out
       have hz45_gb181:=cells3 BK181.out
       go_upto_if 53 with (fail)
       go_cut [53] (fun v53 wc=>∃ (kq:Nat) (x53_42:Bool),v53 = .bool x53_42∧Aside0 (breadlineref15_Check.j2 kq x5_2 x6_11 a1_0 x53_42 = some r)∧Aside0 (kq ≤ kj11)∧Aside0 (wc.heap[gb180]? = some (.cells #[.int .i64 a0_0,.int .i64 a0_1,.int .i64 a0_2,.int .i64 a0_3,.int .i64 a0_4,.int .i64 a0_5,(.slice A0_6 l0_6.length c0_6),(.slice A0_7 l0_7.length c0_7)] 24 (0,0)))∧Aside0 (wc.heap[gb181]? = some (.cells #[.int .i64 a1_0,.int .i64 a1_1,.int .i64 a1_2] 43 (0,0)))∧Aside0 (Below w.heap.size w wc))
       case first =>
        have H:=HC43.out
        clear HC43
        by_cases c46:a1_0 = 3
        ·rw [if_pos c46] at H
         have c46b0:(a1_0 == 3) = true:=beq_iff_eq.mpr c46
         have c46b1:(a1_0 != 3) = false:=bne_eq_false_iff_eq.mpr c46
         clear c46
         (first|rw [c46b0]|(simp only [i64_w,i32_w];rw [c46b0])|skip)
         have H':=Aside0.mk H
         clear H
         go_wp2
         go_meet
         case rel=>exact ⟨_,((a1_0 == 3)),(by first|rfl|(simp;done)|(simp [*];done)),H',⟨by have:=HJ2.out;have:=HJ11.out;first|omega|exact Nat.le_refl _⟩,⟨by (with_reducible repeat (first|refine blk_drewN ?_ _|refine blk_drew ?_|refine blk_alloc ?_ _));exact BK180.out⟩,⟨by (with_reducible repeat (first|refine blk_drewN ?_ _|refine blk_drew ?_|refine blk_alloc ?_ _));exact BK181.out⟩,⟨by repeat (first|(with_reducible first|exact HB.out|apply below_alloc|apply pw_below_drewN|apply below_drew1|refine below_set ?_ GE180.out|refine below_set ?_ GE181.out)|exact HB.out)⟩⟩
        ·rw [if_neg c46] at H
         have c46b0:(a1_0 == 3) = false:=beq_eq_false_iff_ne.mpr c46
         have c46b1:(a1_0 != 3) = true:=bne_iff_ne.mpr c46
         (first|rw [c46b0]|(simp only [i64_w,i32_w];rw [c46b0])|skip)
         have H':=Aside0.mk H
         clear H
         go_wp2
         go_meet
         case rel=>exact ⟨_,((a1_0 == 4)),(by first|rfl|(simp;done)|(simp [*];done)),H',⟨by have:=HJ2.out;have:=HJ11.out;first|omega|exact Nat.le_refl _⟩,⟨by (with_reducible repeat (first|refine blk_drewN ?_ _|refine blk_drew ?_|refine blk_alloc ?_ _));exact BK180.out⟩,⟨by (with_reducible repeat (first|refine blk_drewN ?_ _|refine blk_drew ?_|refine blk_alloc ?_ _));exact BK181.out⟩,⟨by repeat (first|(with_reducible first|exact HB.out|apply below_alloc|apply pw_below_drewN|apply below_drew1|refine below_set ?_ GE180.out|refine below_set ?_ GE181.out)|exact HB.out)⟩⟩
       case rest =>
        clear HC43
        try clear c1
        try clear c2
        try clear p2
        try clear c3
        try clear c4
        try clear c6
        try clear c6b0
        try clear c7
        try clear c10
        try clear c13
        try clear c13b0
        try clear c14
        try clear c16
        try clear c18
        try clear c18b0
        try clear c18b1
        try clear c20
        try clear c21
        try clear c22
        try clear c25
        try clear c26
        try clear c30
        try clear c34
        try clear c34b0
        try clear c34b1
        try clear c36
        try clear c37
        try clear c40
        try clear c44
        try clear c46
        try clear c46b0
        try clear c46b1
        try clear hz11_gb181
        try clear hz15_gb181
        try clear hz17_gb181
        try clear hz23_gb181
        try clear hz24_gb180
        try clear hz27_gb181
        try clear hz28_gb180
        try clear hz31_gb181
        try clear hz32_gb180
        try clear hz38_gb181
        try clear hz39_gb180
        try clear hz41_gb181
        try clear hz42_gb180
        try clear hz45_gb181
        try clear hz8_gb181
        try clear hz9_gb180
        try clear p2
        obtain ⟨kq,x53_42,rfl,HA,HJ42,BK180,BK181,HB⟩:=hcut
        cases kq with
        | zero=>exact absurd HA.out (by simp [breadlineref15_Check.j2])
        | succ kj42 =>
         have H:=HA.out
         clear HA
         simp only [breadlineref15_Check.j2] at H
         by_cases c47:x53_42 = true
         ·subst c47
          rw [if_pos rfl] at H
          by_cases c48:x5_2 = true
          ·subst c48
           rw [if_pos rfl] at H
           by_cases c49:x6_11 = true
           ·subst c49
            rw [if_pos rfl] at H
            obtain rfl:=Option.some.inj H
            go_wp2
            go_ret
            exact ⟨by first|rfl|(simp [errW_none,errW_some] <;> rfl)|(simp [*,errW_none,errW_some] <;> rfl),by repeat (first|(with_reducible first|exact HB.out|apply below_alloc|apply pw_below_drewN|apply below_drew1|refine below_set ?_ GE180.out|refine below_set ?_ GE181.out)|exact HB.out)⟩
           ·replace c49:=Bool.eq_false_iff.mpr c49
            subst c49
            rw [if_neg (show ¬ (false = true) by decide)] at H
            obtain rfl:=Option.some.inj H
            go_wp2
            go_ret
            exact ⟨by first|rfl|(simp [errW_none,errW_some] <;> rfl)|(simp [*,errW_none,errW_some] <;> rfl),by repeat (first|(with_reducible first|exact HB.out|apply below_alloc|apply pw_below_drewN|apply below_drew1|refine below_set ?_ GE180.out|refine below_set ?_ GE181.out)|exact HB.out)⟩
          ·replace c48:=Bool.eq_false_iff.mpr c48
           subst c48
           rw [if_neg (show ¬ (false = true) by decide)] at H
           obtain rfl:=Option.some.inj H
           go_wp2
           go_ret
           exact ⟨by first|rfl|(simp [errW_none,errW_some] <;> rfl)|(simp [*,errW_none,errW_some] <;> rfl),by repeat (first|(with_reducible first|exact HB.out|apply below_alloc|apply pw_below_drewN|apply below_drew1|refine below_set ?_ GE180.out|refine below_set ?_ GE181.out)|exact HB.out)⟩
         ·replace c47:=Bool.eq_false_iff.mpr c47
          subst c47
          rw [if_neg (show ¬ (false = true) by decide)] at H
          have HC50:=Aside0.mk H
          clear H
          go_upto_if 60 with (fail)
          go_cut [60] (fun v60 wc=>∃ (kq:Nat) (x60_49:Bool),v60 = .bool x60_49∧Aside0 (breadlineref15_Check.j3 kq x5_2 x60_49 = some r)∧Aside0 (kq ≤ kj42)∧Aside0 (wc.heap[gb180]? = some (.cells #[.int .i64 a0_0,.int .i64 a0_1,.int .i64 a0_2,.int .i64 a0_3,.int .i64 a0_4,.int .i64 a0_5,(.slice A0_6 l0_6.length c0_6),(.slice A0_7 l0_7.length c0_7)] 24 (0,0)))∧Aside0 (wc.heap[gb181]? = some (.cells #[.int .i64 a1_0,.int .i64 a1_1,.int .i64 a1_2] 43 (0,0)))∧Aside0 (Below w.heap.size w wc))
          case first =>
           have H:=HC50.out
           clear HC50
           by_cases c51:a1_0 = 5
           ·rw [if_pos c51] at H
            have c51b0:(a1_0 == 5) = true:=beq_iff_eq.mpr c51
            have c51b1:(a1_0 != 5) = false:=bne_eq_false_iff_eq.mpr c51
            clear c51
            (first|rw [c51b0]|(simp only [i64_w,i32_w];rw [c51b0])|skip)
            have H':=Aside0.mk H
            clear H
            go_wp2
            go_meet
            case rel=>exact ⟨_,((a1_0 == 5)),(by first|rfl|(simp;done)|(simp [*];done)),H',⟨by have:=HJ2.out;have:=HJ11.out;have:=HJ42.out;first|omega|exact Nat.le_refl _⟩,⟨by (with_reducible repeat (first|refine blk_drewN ?_ _|refine blk_drew ?_|refine blk_alloc ?_ _));exact BK180.out⟩,⟨by (with_reducible repeat (first|refine blk_drewN ?_ _|refine blk_drew ?_|refine blk_alloc ?_ _));exact BK181.out⟩,⟨by repeat (first|(with_reducible first|exact HB.out|apply below_alloc|apply pw_below_drewN|apply below_drew1|refine below_set ?_ GE180.out|refine below_set ?_ GE181.out)|exact HB.out)⟩⟩
           ·rw [if_neg c51] at H
            have c51b0:(a1_0 == 5) = false:=beq_eq_false_iff_ne.mpr c51
            have c51b1:(a1_0 != 5) = true:=bne_iff_ne.mpr c51
            (first|rw [c51b0]|(simp only [i64_w,i32_w];rw [c51b0])|skip)
            have H':=Aside0.mk H
            clear H
            go_wp2
            go_meet
            case rel=>exact ⟨_,((a1_0 == 6)),(by first|rfl|(simp;done)|(simp [*];done)),H',⟨by have:=HJ2.out;have:=HJ11.out;have:=HJ42.out;first|omega|exact Nat.le_refl _⟩,⟨by (with_reducible repeat (first|refine blk_drewN ?_ _|refine blk_drew ?_|refine blk_alloc ?_ _));exact BK180.out⟩,⟨by (with_reducible repeat (first|refine blk_drewN ?_ _|refine blk_drew ?_|refine blk_alloc ?_ _));exact BK181.out⟩,⟨by repeat (first|(with_reducible first|exact HB.out|apply below_alloc|apply pw_below_drewN|apply below_drew1|refine below_set ?_ GE180.out|refine below_set ?_ GE181.out)|exact HB.out)⟩⟩
          case rest =>
           clear HC50
           try clear c1
           try clear c2
           try clear p2
           try clear c3
           try clear c4
           try clear c5
           try clear c6
           try clear c6b0
           try clear c7
           try clear c10
           try clear c13
           try clear c13b0
           try clear c14
           try clear c16
           try clear c18
           try clear c18b0
           try clear c18b1
           try clear c20
           try clear c21
           try clear c22
           try clear c25
           try clear c26
           try clear c30
           try clear c34
           try clear c34b0
           try clear c34b1
           try clear c36
           try clear c37
           try clear c40
           try clear c44
           try clear c46
           try clear c46b0
           try clear c46b1
           try clear c47
           try clear c48
           try clear c49
           try clear c51
           try clear c51b0
           try clear c51b1
           try clear hz11_gb181
           try clear hz15_gb181
           try clear hz17_gb181
           try clear hz23_gb181
           try clear hz24_gb180
           try clear hz27_gb181
           try clear hz28_gb180
           try clear hz31_gb181
           try clear hz32_gb180
           try clear hz38_gb181
           try clear hz39_gb180
           try clear hz41_gb181
           try clear hz42_gb180
           try clear hz45_gb181
           try clear hz8_gb181
           try clear hz9_gb180
           try clear p2
           obtain ⟨kq,x60_49,rfl,HA,HJ49,BK180,BK181,HB⟩:=hcut
           cases kq with
           | zero=>exact absurd HA.out (by simp [breadlineref15_Check.j3])
           | succ kj49 =>
            have H:=HA.out
            clear HA
            simp only [breadlineref15_Check.j3] at H
            by_cases c52:x60_49 = true
            ·subst c52
             rw [if_pos rfl] at H
             by_cases c53:x5_2 = true
             ·subst c53
              rw [if_pos rfl] at H
              obtain rfl:=Option.some.inj H
              go_wp2
              go_ret
              exact ⟨by first|rfl|(simp [errW_none,errW_some] <;> rfl)|(simp [*,errW_none,errW_some] <;> rfl),by repeat (first|(with_reducible first|exact HB.out|apply below_alloc|apply pw_below_drewN|apply below_drew1|refine below_set ?_ GE180.out|refine below_set ?_ GE181.out)|exact HB.out)⟩
             ·replace c53:=Bool.eq_false_iff.mpr c53
              subst c53
              rw [if_neg (show ¬ (false = true) by decide)] at H
              obtain rfl:=Option.some.inj H
              go_wp2
              go_ret
              exact ⟨by first|rfl|(simp [errW_none,errW_some] <;> rfl)|(simp [*,errW_none,errW_some] <;> rfl),by repeat (first|(with_reducible first|exact HB.out|apply below_alloc|apply pw_below_drewN|apply below_drew1|refine below_set ?_ GE180.out|refine below_set ?_ GE181.out)|exact HB.out)⟩
            ·replace c52:=Bool.eq_false_iff.mpr c52
             subst c52
             rw [if_neg (show ¬ (false = true) by decide)] at H
             obtain rfl:=Option.some.inj H
             go_wp2
             go_ret
             exact ⟨by first|rfl|(simp [errW_none,errW_some] <;> rfl)|(simp [*,errW_none,errW_some] <;> rfl),by repeat (first|(with_reducible first|exact HB.out|apply below_alloc|apply pw_below_drewN|apply below_drew1|refine below_set ?_ GE180.out|refine below_set ?_ GE181.out)|exact HB.out)⟩
end Go.Proofs.Ytadblpcjkahikaa.PTraceRuns

