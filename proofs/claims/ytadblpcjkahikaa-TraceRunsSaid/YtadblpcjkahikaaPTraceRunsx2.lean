
import Derived.Test.YtadblpcjkahikaaPTraceRunsx0
import Derived.Test.YtadblpcjkahikaaPTraceRunsx1
namespace Go.Proofs.Ytadblpcjkahikaa.PTraceRuns
open Go.RowKit Go.Proofs.YtadblpcjkahikaaW.PrintWords Go.Proofs.YtadblpcjkahikaaW.PrintLast Go.Proofs.YtadblpcjkahikaaW.PrintMore
attribute [local go_sem] max2_int min2_int max_two min_two max_three min_three max_four min_four
set_option linter.unusedVariables false
set_option linter.unusedSimpArgs false
set_option maxHeartbeats 8000000
set_option maxRecDepth 100000
mutual
def breadlineref04_Right.j0:Nat→Bool→Int→Int→Int→Int→Int→Int→List Int→List Int→Option (Bool)
 | 0,_,_,_,_,_,_,_,_,_=>none
 | k + 1,x51,x112000,x112001,x112002,x112003,x112004,x112005,x112006,x112007=>if x51 = true then (some false) else ((breadlineref04_in.f (x112006.length:Int) 1 12).bind fun t129=>(if t129 = true then (breadlineref04_Right.j1 k ((x112007.length:Int) != (x112006.length:Int)) x112000 x112001 x112002 x112003 x112004 x112005 x112006 x112007) else (breadlineref04_Right.j1 k true x112000 x112001 x112002 x112003 x112004 x112005 x112006 x112007)))
def breadlineref04_Right.j1:Nat→Bool→Int→Int→Int→Int→Int→Int→List Int→List Int→Option (Bool)
 | 0,_,_,_,_,_,_,_,_,_=>none
 | k + 1,x65,x112000,x112001,x112002,x112003,x112004,x112005,x112006,x112007=>if x65 = true then (some false) else (breadlineref04_Right.l0 k 0 x112000 x112001 x112002 x112003 x112004 x112005 x112006 x112007)
def breadlineref04_Right.l0:Nat→Int→Int→Int→Int→Int→Int→Int→List Int→List Int→Option (Bool)
 | 0,_,_,_,_,_,_,_,_,_=>none
 | k + 1,x3,x112000,x112001,x112002,x112003,x112004,x112005,x112006,x112007=>if x3 < (x112006.length:Int) then (if 0 ≤ x3 then (if x3 < (x112007.length:Int) then ((breadlineref04_in.f (rd x112007 x3) 0 1099511627776).bind fun t131=>(if t131 = true then (if x3 = 0 then (if (rd x112006 x3) = (-1) then (if x3 > 0 then ((breadlineref04_in.f (rd x112006 x3) 0 (wrap64 (x3 - 1))).bind fun t134=>(if t134 = true then (breadlineref04_Right.l0 k (wrap64 (x3 + 1)) x112000 x112001 x112002 x112003 x112004 x112005 x112006 x112007) else (some false))) else (breadlineref04_Right.l0 k (wrap64 (x3 + 1)) x112000 x112001 x112002 x112003 x112004 x112005 x112006 x112007)) else (some false)) else (if x3 > 0 then ((breadlineref04_in.f (rd x112006 x3) 0 (wrap64 (x3 - 1))).bind fun t136=>(if t136 = true then (breadlineref04_Right.l0 k (wrap64 (x3 + 1)) x112000 x112001 x112002 x112003 x112004 x112005 x112006 x112007) else (some false))) else (breadlineref04_Right.l0 k (wrap64 (x3 + 1)) x112000 x112001 x112002 x112003 x112004 x112005 x112006 x112007))) else (some false))) else (none)) else (none)) else (some true)
end
def breadlineref04_Right.f (k:Nat) (a0_0:Int) (a0_1:Int) (a0_2:Int) (a0_3:Int) (a0_4:Int) (a0_5:Int) (l0_6:List Int) (l0_7:List Int):Option (Bool):=(breadlineref04_in.f a0_0 1 8).bind fun t112=>(if t112 = true then (if a0_1 = 1 then ((breadlineref04_in.f a0_2 1 1048576).bind fun t113=>(if t113 = true then ((breadlineref04_in.f a0_3 0 1048576).bind fun t114=>(if t114 = true then ((breadlineref04_in.f a0_4 1 8).bind fun t115=>(if t115 = true then ((breadlineref04_in.f a0_5 1 16).bind fun t116=>(breadlineref04_Right.j0 k (!t116) a0_0 a0_1 a0_2 a0_3 a0_4 a0_5 l0_6 l0_7)) else (breadlineref04_Right.j0 k true a0_0 a0_1 a0_2 a0_3 a0_4 a0_5 l0_6 l0_7))) else (breadlineref04_Right.j0 k true a0_0 a0_1 a0_2 a0_3 a0_4 a0_5 l0_6 l0_7))) else (breadlineref04_Right.j0 k true a0_0 a0_1 a0_2 a0_3 a0_4 a0_5 l0_6 l0_7))) else (if a0_1 = 2 then ((breadlineref04_in.f a0_2 1 1048576).bind fun t117=>(if t117 = true then ((breadlineref04_in.f a0_3 0 1048576).bind fun t118=>(if t118 = true then ((breadlineref04_in.f a0_4 1 8).bind fun t119=>(if t119 = true then ((breadlineref04_in.f a0_5 1 16).bind fun t120=>(breadlineref04_Right.j0 k (!t120) a0_0 a0_1 a0_2 a0_3 a0_4 a0_5 l0_6 l0_7)) else (breadlineref04_Right.j0 k true a0_0 a0_1 a0_2 a0_3 a0_4 a0_5 l0_6 l0_7))) else (breadlineref04_Right.j0 k true a0_0 a0_1 a0_2 a0_3 a0_4 a0_5 l0_6 l0_7))) else (breadlineref04_Right.j0 k true a0_0 a0_1 a0_2 a0_3 a0_4 a0_5 l0_6 l0_7))) else (if a0_1 = 4 then ((breadlineref04_in.f a0_2 1 1048576).bind fun t121=>(if t121 = true then ((breadlineref04_in.f a0_3 0 1048576).bind fun t122=>(if t122 = true then ((breadlineref04_in.f a0_4 1 8).bind fun t123=>(if t123 = true then ((breadlineref04_in.f a0_5 1 16).bind fun t124=>(breadlineref04_Right.j0 k (!t124) a0_0 a0_1 a0_2 a0_3 a0_4 a0_5 l0_6 l0_7)) else (breadlineref04_Right.j0 k true a0_0 a0_1 a0_2 a0_3 a0_4 a0_5 l0_6 l0_7))) else (breadlineref04_Right.j0 k true a0_0 a0_1 a0_2 a0_3 a0_4 a0_5 l0_6 l0_7))) else (breadlineref04_Right.j0 k true a0_0 a0_1 a0_2 a0_3 a0_4 a0_5 l0_6 l0_7))) else (if a0_1 = 8 then ((breadlineref04_in.f a0_2 1 1048576).bind fun t125=>(if t125 = true then ((breadlineref04_in.f a0_3 0 1048576).bind fun t126=>(if t126 = true then ((breadlineref04_in.f a0_4 1 8).bind fun t127=>(if t127 = true then ((breadlineref04_in.f a0_5 1 16).bind fun t128=>(breadlineref04_Right.j0 k (!t128) a0_0 a0_1 a0_2 a0_3 a0_4 a0_5 l0_6 l0_7)) else (breadlineref04_Right.j0 k true a0_0 a0_1 a0_2 a0_3 a0_4 a0_5 l0_6 l0_7))) else (breadlineref04_Right.j0 k true a0_0 a0_1 a0_2 a0_3 a0_4 a0_5 l0_6 l0_7))) else (breadlineref04_Right.j0 k true a0_0 a0_1 a0_2 a0_3 a0_4 a0_5 l0_6 l0_7))) else (breadlineref04_Right.j0 k true a0_0 a0_1 a0_2 a0_3 a0_4 a0_5 l0_6 l0_7))))) else (breadlineref04_Right.j0 k true a0_0 a0_1 a0_2 a0_3 a0_4 a0_5 l0_6 l0_7))
theorem breadlineref04_Right.calls (k:Nat) (a0_0:Int) (a0_1:Int) (a0_2:Int) (a0_3:Int) (a0_4:Int) (a0_5:Int) (A0_6:Option Addr) (c0_6:Nat) (l0_6:List Int) (A0_7:Option Addr) (c0_7:Nat) (l0_7:List Int) (r:Bool) (w:World) (hr0_6:Kd.C (Kd.int .i64) w A0_6 l0_6.length l0_6) (hc0_6:l0_6.length ≤ c0_6) (hr0_7:Kd.C (Kd.int .i64) w A0_7 l0_7.length l0_7) (hc0_7:l0_7.length ≤ c0_7) (h:breadlineref04_Right.f k a0_0 a0_1 a0_2 a0_3 a0_4 a0_5 l0_6 l0_7 = some r) :
  Calls Try.prog 16 #[.agg #[.int .i64 a0_0,.int .i64 a0_1,.int .i64 a0_2,.int .i64 a0_3,.int .i64 a0_4,.int .i64 a0_5,.slice A0_6 l0_6.length c0_6,.slice A0_7 l0_7.length c0_7]] w fun e w'=>e = .returned (.bool r)∧Below w.heap.size w w':=by
 have hu24:=Try.underlying24
 have HR0_6:=Aside0.mk hr0_6
 have HC0_6:=Aside0.mk hc0_6
 clear hr0_6 hc0_6
 have HR0_7:=Aside0.mk hr0_7
 have HC0_7:=Aside0.mk hc0_7
 clear hr0_7 hc0_7
 have HB:=Aside0.mk (Below.refl w.heap.size w)
 have H:((breadlineref04_in.f a0_0 1 8).bind fun t112=>(if t112 = true then (if a0_1 = 1 then ((breadlineref04_in.f a0_2 1 1048576).bind fun t113=>(if t113 = true then ((breadlineref04_in.f a0_3 0 1048576).bind fun t114=>(if t114 = true then ((breadlineref04_in.f a0_4 1 8).bind fun t115=>(if t115 = true then ((breadlineref04_in.f a0_5 1 16).bind fun t116=>(breadlineref04_Right.j0 k (!t116) a0_0 a0_1 a0_2 a0_3 a0_4 a0_5 l0_6 l0_7)) else (breadlineref04_Right.j0 k true a0_0 a0_1 a0_2 a0_3 a0_4 a0_5 l0_6 l0_7))) else (breadlineref04_Right.j0 k true a0_0 a0_1 a0_2 a0_3 a0_4 a0_5 l0_6 l0_7))) else (breadlineref04_Right.j0 k true a0_0 a0_1 a0_2 a0_3 a0_4 a0_5 l0_6 l0_7))) else (if a0_1 = 2 then ((breadlineref04_in.f a0_2 1 1048576).bind fun t117=>(if t117 = true then ((breadlineref04_in.f a0_3 0 1048576).bind fun t118=>(if t118 = true then ((breadlineref04_in.f a0_4 1 8).bind fun t119=>(if t119 = true then ((breadlineref04_in.f a0_5 1 16).bind fun t120=>(breadlineref04_Right.j0 k (!t120) a0_0 a0_1 a0_2 a0_3 a0_4 a0_5 l0_6 l0_7)) else (breadlineref04_Right.j0 k true a0_0 a0_1 a0_2 a0_3 a0_4 a0_5 l0_6 l0_7))) else (breadlineref04_Right.j0 k true a0_0 a0_1 a0_2 a0_3 a0_4 a0_5 l0_6 l0_7))) else (breadlineref04_Right.j0 k true a0_0 a0_1 a0_2 a0_3 a0_4 a0_5 l0_6 l0_7))) else (if a0_1 = 4 then ((breadlineref04_in.f a0_2 1 1048576).bind fun t121=>(if t121 = true then ((breadlineref04_in.f a0_3 0 1048576).bind fun t122=>(if t122 = true then ((breadlineref04_in.f a0_4 1 8).bind fun t123=>(if t123 = true then ((breadlineref04_in.f a0_5 1 16).bind fun t124=>(breadlineref04_Right.j0 k (!t124) a0_0 a0_1 a0_2 a0_3 a0_4 a0_5 l0_6 l0_7)) else (breadlineref04_Right.j0 k true a0_0 a0_1 a0_2 a0_3 a0_4 a0_5 l0_6 l0_7))) else (breadlineref04_Right.j0 k true a0_0 a0_1 a0_2 a0_3 a0_4 a0_5 l0_6 l0_7))) else (breadlineref04_Right.j0 k true a0_0 a0_1 a0_2 a0_3 a0_4 a0_5 l0_6 l0_7))) else (if a0_1 = 8 then ((breadlineref04_in.f a0_2 1 1048576).bind fun t125=>(if t125 = true then ((breadlineref04_in.f a0_3 0 1048576).bind fun t126=>(if t126 = true then ((breadlineref04_in.f a0_4 1 8).bind fun t127=>(if t127 = true then ((breadlineref04_in.f a0_5 1 16).bind fun t128=>(breadlineref04_Right.j0 k (!t128) a0_0 a0_1 a0_2 a0_3 a0_4 a0_5 l0_6 l0_7)) else (breadlineref04_Right.j0 k true a0_0 a0_1 a0_2 a0_3 a0_4 a0_5 l0_6 l0_7))) else (breadlineref04_Right.j0 k true a0_0 a0_1 a0_2 a0_3 a0_4 a0_5 l0_6 l0_7))) else (breadlineref04_Right.j0 k true a0_0 a0_1 a0_2 a0_3 a0_4 a0_5 l0_6 l0_7))) else (breadlineref04_Right.j0 k true a0_0 a0_1 a0_2 a0_3 a0_4 a0_5 l0_6 l0_7))))) else (breadlineref04_Right.j0 k true a0_0 a0_1 a0_2 a0_3 a0_4 a0_5 l0_6 l0_7))) = some r:=h
 clear h
 have HC2:=Aside0.mk H
 clear H
 go_enter Try.func16,Try.ntmps16
 go_upto_region 1 with (first|((with_reducible refine gate_dst (N:=1) rfl ?_);(try (refine gate_guard (by rfl) ?_;dsimp only));refine box_event ?hg (N:=1) ?hd (cs:=#[.int .i64 a0_0,.int .i64 a0_1,.int .i64 a0_2,.int .i64 a0_3,.int .i64 a0_4,.int .i64 a0_5,.slice A0_6 l0_6.length c0_6,.slice A0_7 l0_7.length c0_7]) (t:=24) ?hr ?_;(case hd=>rfl);(case hg=>rfl);(case hr=>first|(go_simp;done)|(go_simp;rfl));intro gb111 hg w3 hbox hb;have n0_:=Aside0.mk (below_step (by repeat (first|(with_reducible first|exact HB.out|apply below_alloc|apply pw_below_drewN|apply below_drew1)|exact HB.out)) hb);have n1_:=Aside0.mk (hbox);have n2_:=Aside0.mk ((by rw [hg];exact (below_size (by repeat (first|(with_reducible first|exact HB.out|apply below_alloc|apply pw_below_drewN|apply below_drew1)|exact HB.out))):w.heap.size ≤ gb111));have n3_:=Aside0.mk ((by rw [hg];exact (below_size (by repeat (first|(with_reducible first|exact HB.out|apply below_alloc|apply pw_below_drewN|apply below_drew1)|exact HB.out))):w.heap.size ≤ gb111));clear HB;have HB:=n0_;have BK111:=n1_;have GW111:=n2_;have GE111:=n3_;clear n0_ n1_ n2_ n3_;clear hb hbox hg))
 (try simp only [Act.put,List.setIfInBounds_toArray,List.set_cons_zero,List.set_cons_succ])
 go_cut [51] (fun v51 wc=>∃ (kq:Nat) (x51_1:Bool),v51 = .bool x51_1∧Aside0 (breadlineref04_Right.j0 kq x51_1 a0_0 a0_1 a0_2 a0_3 a0_4 a0_5 l0_6 l0_7 = some r)∧Aside0 (kq ≤ k)∧Aside0 (wc.heap[gb111]? = some (.cells #[.int .i64 a0_0,.int .i64 a0_1,.int .i64 a0_2,.int .i64 a0_3,.int .i64 a0_4,.int .i64 a0_5,(.slice A0_6 l0_6.length c0_6),(.slice A0_7 l0_7.length c0_7)] 24 (0,0)))∧Aside0 (Below w.heap.size w wc))
 case first =>
  have H:=HC2.out
  clear HC2
  replace H:=Option.bind_eq_some_iff.mp H
  obtain ⟨t112,A40,H⟩:=H
  replace H:(if t112 = true then (if a0_1 = 1 then ((breadlineref04_in.f a0_2 1 1048576).bind fun t113=>(if t113 = true then ((breadlineref04_in.f a0_3 0 1048576).bind fun t114=>(if t114 = true then ((breadlineref04_in.f a0_4 1 8).bind fun t115=>(if t115 = true then ((breadlineref04_in.f a0_5 1 16).bind fun t116=>(breadlineref04_Right.j0 k (!t116) a0_0 a0_1 a0_2 a0_3 a0_4 a0_5 l0_6 l0_7)) else (breadlineref04_Right.j0 k true a0_0 a0_1 a0_2 a0_3 a0_4 a0_5 l0_6 l0_7))) else (breadlineref04_Right.j0 k true a0_0 a0_1 a0_2 a0_3 a0_4 a0_5 l0_6 l0_7))) else (breadlineref04_Right.j0 k true a0_0 a0_1 a0_2 a0_3 a0_4 a0_5 l0_6 l0_7))) else (if a0_1 = 2 then ((breadlineref04_in.f a0_2 1 1048576).bind fun t117=>(if t117 = true then ((breadlineref04_in.f a0_3 0 1048576).bind fun t118=>(if t118 = true then ((breadlineref04_in.f a0_4 1 8).bind fun t119=>(if t119 = true then ((breadlineref04_in.f a0_5 1 16).bind fun t120=>(breadlineref04_Right.j0 k (!t120) a0_0 a0_1 a0_2 a0_3 a0_4 a0_5 l0_6 l0_7)) else (breadlineref04_Right.j0 k true a0_0 a0_1 a0_2 a0_3 a0_4 a0_5 l0_6 l0_7))) else (breadlineref04_Right.j0 k true a0_0 a0_1 a0_2 a0_3 a0_4 a0_5 l0_6 l0_7))) else (breadlineref04_Right.j0 k true a0_0 a0_1 a0_2 a0_3 a0_4 a0_5 l0_6 l0_7))) else (if a0_1 = 4 then ((breadlineref04_in.f a0_2 1 1048576).bind fun t121=>(if t121 = true then ((breadlineref04_in.f a0_3 0 1048576).bind fun t122=>(if t122 = true then ((breadlineref04_in.f a0_4 1 8).bind fun t123=>(if t123 = true then ((breadlineref04_in.f a0_5 1 16).bind fun t124=>(breadlineref04_Right.j0 k (!t124) a0_0 a0_1 a0_2 a0_3 a0_4 a0_5 l0_6 l0_7)) else (breadlineref04_Right.j0 k true a0_0 a0_1 a0_2 a0_3 a0_4 a0_5 l0_6 l0_7))) else (breadlineref04_Right.j0 k true a0_0 a0_1 a0_2 a0_3 a0_4 a0_5 l0_6 l0_7))) else (breadlineref04_Right.j0 k true a0_0 a0_1 a0_2 a0_3 a0_4 a0_5 l0_6 l0_7))) else (if a0_1 = 8 then ((breadlineref04_in.f a0_2 1 1048576).bind fun t125=>(if t125 = true then ((breadlineref04_in.f a0_3 0 1048576).bind fun t126=>(if t126 = true then ((breadlineref04_in.f a0_4 1 8).bind fun t127=>(if t127 = true then ((breadlineref04_in.f a0_5 1 16).bind fun t128=>(breadlineref04_Right.j0 k (!t128) a0_0 a0_1 a0_2 a0_3 a0_4 a0_5 l0_6 l0_7)) else (breadlineref04_Right.j0 k true a0_0 a0_1 a0_2 a0_3 a0_4 a0_5 l0_6 l0_7))) else (breadlineref04_Right.j0 k true a0_0 a0_1 a0_2 a0_3 a0_4 a0_5 l0_6 l0_7))) else (breadlineref04_Right.j0 k true a0_0 a0_1 a0_2 a0_3 a0_4 a0_5 l0_6 l0_7))) else (breadlineref04_Right.j0 k true a0_0 a0_1 a0_2 a0_3 a0_4 a0_5 l0_6 l0_7))))) else (breadlineref04_Right.j0 k true a0_0 a0_1 a0_2 a0_3 a0_4 a0_5 l0_6 l0_7)) = some r:=H
  have A4:=Aside0.mk A40
  clear A40
  by_cases c5:t112 = true
  ·subst c5
   rw [if_pos rfl] at H
   by_cases c6:a0_1 = 1
   ·rw [if_pos c6] at H
    have c6b0:(a0_1 == 1) = true:=beq_iff_eq.mpr c6
    have c6b1:(a0_1 != 1) = false:=bne_eq_false_iff_eq.mpr c6
    clear c6
    (first|rw [c6b0]|(simp only [i64_w,i32_w];rw [c6b0])|skip)
    replace H:=Option.bind_eq_some_iff.mp H
    obtain ⟨t113,A70,H⟩:=H
    replace H:(if t113 = true then ((breadlineref04_in.f a0_3 0 1048576).bind fun t114=>(if t114 = true then ((breadlineref04_in.f a0_4 1 8).bind fun t115=>(if t115 = true then ((breadlineref04_in.f a0_5 1 16).bind fun t116=>(breadlineref04_Right.j0 k (!t116) a0_0 a0_1 a0_2 a0_3 a0_4 a0_5 l0_6 l0_7)) else (breadlineref04_Right.j0 k true a0_0 a0_1 a0_2 a0_3 a0_4 a0_5 l0_6 l0_7))) else (breadlineref04_Right.j0 k true a0_0 a0_1 a0_2 a0_3 a0_4 a0_5 l0_6 l0_7))) else (breadlineref04_Right.j0 k true a0_0 a0_1 a0_2 a0_3 a0_4 a0_5 l0_6 l0_7)) = some r:=H
    have A7:=Aside0.mk A70
    clear A70
    by_cases c8:t113 = true
    ·subst c8
     rw [if_pos rfl] at H
     replace H:=Option.bind_eq_some_iff.mp H
     obtain ⟨t114,A90,H⟩:=H
     replace H:(if t114 = true then ((breadlineref04_in.f a0_4 1 8).bind fun t115=>(if t115 = true then ((breadlineref04_in.f a0_5 1 16).bind fun t116=>(breadlineref04_Right.j0 k (!t116) a0_0 a0_1 a0_2 a0_3 a0_4 a0_5 l0_6 l0_7)) else (breadlineref04_Right.j0 k true a0_0 a0_1 a0_2 a0_3 a0_4 a0_5 l0_6 l0_7))) else (breadlineref04_Right.j0 k true a0_0 a0_1 a0_2 a0_3 a0_4 a0_5 l0_6 l0_7)) = some r:=H
     have A9:=Aside0.mk A90
     clear A90
     by_cases c10:t114 = true
     ·subst c10
      rw [if_pos rfl] at H
      replace H:=Option.bind_eq_some_iff.mp H
      obtain ⟨t115,A110,H⟩:=H
      replace H:(if t115 = true then ((breadlineref04_in.f a0_5 1 16).bind fun t116=>(breadlineref04_Right.j0 k (!t116) a0_0 a0_1 a0_2 a0_3 a0_4 a0_5 l0_6 l0_7)) else (breadlineref04_Right.j0 k true a0_0 a0_1 a0_2 a0_3 a0_4 a0_5 l0_6 l0_7)) = some r:=H
      have A11:=Aside0.mk A110
      clear A110
      by_cases c12:t115 = true
      ·subst c12
       rw [if_pos rfl] at H
       replace H:=Option.bind_eq_some_iff.mp H
       obtain ⟨t116,A130,H⟩:=H
       replace H:(breadlineref04_Right.j0 k (!t116) a0_0 a0_1 a0_2 a0_3 a0_4 a0_5 l0_6 l0_7) = some r:=H
       have A13:=Aside0.mk A130
       clear A130
       have H':=Aside0.mk H
       clear H
       have hz14_gb111:=cells8 BK111.out
       go_wp2_with (first|((with_reducible refine gate_callee (f:=21) rfl ?_);refine goesL_ (some 6) rfl rfl Try.func21 (by kernel_rfl) rfl #[.int .i64 a0_0,.int .i64 1,.int .i64 8] rfl (by (try simp only [List.map_toArray,List.map_cons,List.map_nil]);first|done|rfl|(simp only [List.length_drop,List.length_take];rfl)) ?_;(with_reducible refine (breadlineref04_in.calls a0_0 1 8 true _ A4.out).mono ?_);rintro e w' ⟨rfl,⟨nd,rfl⟩⟩;refine ⟨_,rfl,?_⟩)|(go_at_call 21;(with_reducible refine (breadlineref04_in.calls a0_2 1 1048576 true _ A7.out).mono ?_);rintro e w' ⟨rfl,⟨nd,rfl⟩⟩)|(go_at_call 21;(with_reducible refine (breadlineref04_in.calls a0_3 0 1048576 true _ A9.out).mono ?_);rintro e w' ⟨rfl,⟨nd,rfl⟩⟩)|(go_at_call 21;(with_reducible refine (breadlineref04_in.calls a0_4 1 8 true _ A11.out).mono ?_);rintro e w' ⟨rfl,⟨nd,rfl⟩⟩)|(go_at_call 21;(with_reducible refine (breadlineref04_in.calls a0_5 1 16 t116 _ A13.out).mono ?_);rintro e w' ⟨rfl,⟨nd,rfl⟩⟩))
       go_meet
       case rel=>exact ⟨_,(!t116),(by first|rfl|(simp;done)|(simp [*];done)),H',⟨by first|omega|exact Nat.le_refl _⟩,⟨by (with_reducible repeat (first|refine blk_drewN ?_ _|refine blk_drew ?_|refine blk_alloc ?_ _));exact BK111.out⟩,⟨by repeat (first|(with_reducible first|exact HB.out|apply below_alloc|apply pw_below_drewN|apply below_drew1|refine below_set ?_ GE111.out)|exact HB.out)⟩⟩
      ·replace c12:=Bool.eq_false_iff.mpr c12
       subst c12
       rw [if_neg (show ¬ (false = true) by decide)] at H
       have H':=Aside0.mk H
       clear H
       have hz15_gb111:=cells8 BK111.out
       go_wp2_with (first|((with_reducible refine gate_callee (f:=21) rfl ?_);refine goesL_ (some 6) rfl rfl Try.func21 (by kernel_rfl) rfl #[.int .i64 a0_0,.int .i64 1,.int .i64 8] rfl (by (try simp only [List.map_toArray,List.map_cons,List.map_nil]);first|done|rfl|(simp only [List.length_drop,List.length_take];rfl)) ?_;(with_reducible refine (breadlineref04_in.calls a0_0 1 8 true _ A4.out).mono ?_);rintro e w' ⟨rfl,⟨nd,rfl⟩⟩;refine ⟨_,rfl,?_⟩)|(go_at_call 21;(with_reducible refine (breadlineref04_in.calls a0_2 1 1048576 true _ A7.out).mono ?_);rintro e w' ⟨rfl,⟨nd,rfl⟩⟩)|(go_at_call 21;(with_reducible refine (breadlineref04_in.calls a0_3 0 1048576 true _ A9.out).mono ?_);rintro e w' ⟨rfl,⟨nd,rfl⟩⟩)|(go_at_call 21;(with_reducible refine (breadlineref04_in.calls a0_4 1 8 false _ A11.out).mono ?_);rintro e w' ⟨rfl,⟨nd,rfl⟩⟩))
       go_meet
       case rel=>exact ⟨_,(true),(by first|rfl|(simp;done)|(simp [*];done)),H',⟨by first|omega|exact Nat.le_refl _⟩,⟨by (with_reducible repeat (first|refine blk_drewN ?_ _|refine blk_drew ?_|refine blk_alloc ?_ _));exact BK111.out⟩,⟨by repeat (first|(with_reducible first|exact HB.out|apply below_alloc|apply pw_below_drewN|apply below_drew1|refine below_set ?_ GE111.out)|exact HB.out)⟩⟩
     ·replace c10:=Bool.eq_false_iff.mpr c10
      subst c10
      rw [if_neg (show ¬ (false = true) by decide)] at H
      have H':=Aside0.mk H
      clear H
      have hz16_gb111:=cells8 BK111.out
      go_wp2_with (first|((with_reducible refine gate_callee (f:=21) rfl ?_);refine goesL_ (some 6) rfl rfl Try.func21 (by kernel_rfl) rfl #[.int .i64 a0_0,.int .i64 1,.int .i64 8] rfl (by (try simp only [List.map_toArray,List.map_cons,List.map_nil]);first|done|rfl|(simp only [List.length_drop,List.length_take];rfl)) ?_;(with_reducible refine (breadlineref04_in.calls a0_0 1 8 true _ A4.out).mono ?_);rintro e w' ⟨rfl,⟨nd,rfl⟩⟩;refine ⟨_,rfl,?_⟩)|(go_at_call 21;(with_reducible refine (breadlineref04_in.calls a0_2 1 1048576 true _ A7.out).mono ?_);rintro e w' ⟨rfl,⟨nd,rfl⟩⟩)|(go_at_call 21;(with_reducible refine (breadlineref04_in.calls a0_3 0 1048576 false _ A9.out).mono ?_);rintro e w' ⟨rfl,⟨nd,rfl⟩⟩))
      go_meet
      case rel=>exact ⟨_,(true),(by first|rfl|(simp;done)|(simp [*];done)),H',⟨by first|omega|exact Nat.le_refl _⟩,⟨by (with_reducible repeat (first|refine blk_drewN ?_ _|refine blk_drew ?_|refine blk_alloc ?_ _));exact BK111.out⟩,⟨by repeat (first|(with_reducible first|exact HB.out|apply below_alloc|apply pw_below_drewN|apply below_drew1|refine below_set ?_ GE111.out)|exact HB.out)⟩⟩
    ·replace c8:=Bool.eq_false_iff.mpr c8
     subst c8
     rw [if_neg (show ¬ (false = true) by decide)] at H
     have H':=Aside0.mk H
     clear H
     have hz17_gb111:=cells8 BK111.out
     go_wp2_with (first|((with_reducible refine gate_callee (f:=21) rfl ?_);refine goesL_ (some 6) rfl rfl Try.func21 (by kernel_rfl) rfl #[.int .i64 a0_0,.int .i64 1,.int .i64 8] rfl (by (try simp only [List.map_toArray,List.map_cons,List.map_nil]);first|done|rfl|(simp only [List.length_drop,List.length_take];rfl)) ?_;(with_reducible refine (breadlineref04_in.calls a0_0 1 8 true _ A4.out).mono ?_);rintro e w' ⟨rfl,⟨nd,rfl⟩⟩;refine ⟨_,rfl,?_⟩)|(go_at_call 21;(with_reducible refine (breadlineref04_in.calls a0_2 1 1048576 false _ A7.out).mono ?_);rintro e w' ⟨rfl,⟨nd,rfl⟩⟩))
     go_meet
     case rel=>exact ⟨_,(true),(by first|rfl|(simp;done)|(simp [*];done)),H',⟨by first|omega|exact Nat.le_refl _⟩,⟨by (with_reducible repeat (first|refine blk_drewN ?_ _|refine blk_drew ?_|refine blk_alloc ?_ _));exact BK111.out⟩,⟨by repeat (first|(with_reducible first|exact HB.out|apply below_alloc|apply pw_below_drewN|apply below_drew1|refine below_set ?_ GE111.out)|exact HB.out)⟩⟩
   ·rw [if_neg c6] at H
    have c6b0:(a0_1 == 1) = false:=beq_eq_false_iff_ne.mpr c6
    have c6b1:(a0_1 != 1) = true:=bne_iff_ne.mpr c6
    (first|rw [c6b0]|(simp only [i64_w,i32_w];rw [c6b0])|skip)
    by_cases c18:a0_1 = 2
    ·rw [if_pos c18] at H
     have c18b0:(a0_1 == 2) = true:=beq_iff_eq.mpr c18
     have c18b1:(a0_1 != 2) = false:=bne_eq_false_iff_eq.mpr c18
     clear c18
     replace H:=Option.bind_eq_some_iff.mp H
     obtain ⟨t117,A190,H⟩:=H
     replace H:(if t117 = true then ((breadlineref04_in.f a0_3 0 1048576).bind fun t118=>(if t118 = true then ((breadlineref04_in.f a0_4 1 8).bind fun t119=>(if t119 = true then ((breadlineref04_in.f a0_5 1 16).bind fun t120=>(breadlineref04_Right.j0 k (!t120) a0_0 a0_1 a0_2 a0_3 a0_4 a0_5 l0_6 l0_7)) else (breadlineref04_Right.j0 k true a0_0 a0_1 a0_2 a0_3 a0_4 a0_5 l0_6 l0_7))) else (breadlineref04_Right.j0 k true a0_0 a0_1 a0_2 a0_3 a0_4 a0_5 l0_6 l0_7))) else (breadlineref04_Right.j0 k true a0_0 a0_1 a0_2 a0_3 a0_4 a0_5 l0_6 l0_7)) = some r:=H
     have A19:=Aside0.mk A190
     clear A190
     by_cases c20:t117 = true
     ·subst c20
      rw [if_pos rfl] at H
      replace H:=Option.bind_eq_some_iff.mp H
      obtain ⟨t118,A210,H⟩:=H
      replace H:(if t118 = true then ((breadlineref04_in.f a0_4 1 8).bind fun t119=>(if t119 = true then ((breadlineref04_in.f a0_5 1 16).bind fun t120=>(breadlineref04_Right.j0 k (!t120) a0_0 a0_1 a0_2 a0_3 a0_4 a0_5 l0_6 l0_7)) else (breadlineref04_Right.j0 k true a0_0 a0_1 a0_2 a0_3 a0_4 a0_5 l0_6 l0_7))) else (breadlineref04_Right.j0 k true a0_0 a0_1 a0_2 a0_3 a0_4 a0_5 l0_6 l0_7)) = some r:=H
      have A21:=Aside0.mk A210
      clear A210
      by_cases c22:t118 = true
      ·subst c22
       rw [if_pos rfl] at H
       replace H:=Option.bind_eq_some_iff.mp H
       obtain ⟨t119,A230,H⟩:=H
       replace H:(if t119 = true then ((breadlineref04_in.f a0_5 1 16).bind fun t120=>(breadlineref04_Right.j0 k (!t120) a0_0 a0_1 a0_2 a0_3 a0_4 a0_5 l0_6 l0_7)) else (breadlineref04_Right.j0 k true a0_0 a0_1 a0_2 a0_3 a0_4 a0_5 l0_6 l0_7)) = some r:=H
       have A23:=Aside0.mk A230
       clear A230
       by_cases c24:t119 = true
       ·subst c24
        rw [if_pos rfl] at H
        replace H:=Option.bind_eq_some_iff.mp H
        obtain ⟨t120,A250,H⟩:=H
        replace H:(breadlineref04_Right.j0 k (!t120) a0_0 a0_1 a0_2 a0_3 a0_4 a0_5 l0_6 l0_7) = some r:=H
        have A25:=Aside0.mk A250
        clear A250
        have H':=Aside0.mk H
        clear H
        have hz26_gb111:=cells8 BK111.out
        go_wp2_with (first|((with_reducible refine gate_callee (f:=21) rfl ?_);refine goesL_ (some 6) rfl rfl Try.func21 (by kernel_rfl) rfl #[.int .i64 a0_0,.int .i64 1,.int .i64 8] rfl (by (try simp only [List.map_toArray,List.map_cons,List.map_nil]);first|done|rfl|(simp only [List.length_drop,List.length_take];rfl)) ?_;(with_reducible refine (breadlineref04_in.calls a0_0 1 8 true _ A4.out).mono ?_);rintro e w' ⟨rfl,⟨nd,rfl⟩⟩;refine ⟨_,rfl,?_⟩)|(go_at_call 21;(with_reducible refine (breadlineref04_in.calls a0_2 1 1048576 true _ A19.out).mono ?_);rintro e w' ⟨rfl,⟨nd,rfl⟩⟩)|(go_at_call 21;(with_reducible refine (breadlineref04_in.calls a0_3 0 1048576 true _ A21.out).mono ?_);rintro e w' ⟨rfl,⟨nd,rfl⟩⟩)|(go_at_call 21;(with_reducible refine (breadlineref04_in.calls a0_4 1 8 true _ A23.out).mono ?_);rintro e w' ⟨rfl,⟨nd,rfl⟩⟩)|(go_at_call 21;(with_reducible refine (breadlineref04_in.calls a0_5 1 16 t120 _ A25.out).mono ?_);rintro e w' ⟨rfl,⟨nd,rfl⟩⟩))
        go_meet
        case rel=>exact ⟨_,(!t120),(by first|rfl|(simp;done)|(simp [*];done)),H',⟨by first|omega|exact Nat.le_refl _⟩,⟨by (with_reducible repeat (first|refine blk_drewN ?_ _|refine blk_drew ?_|refine blk_alloc ?_ _));exact BK111.out⟩,⟨by repeat (first|(with_reducible first|exact HB.out|apply below_alloc|apply pw_below_drewN|apply below_drew1|refine below_set ?_ GE111.out)|exact HB.out)⟩⟩
       ·replace c24:=Bool.eq_false_iff.mpr c24
        subst c24
        rw [if_neg (show ¬ (false = true) by decide)] at H
        have H':=Aside0.mk H
        clear H
        have hz27_gb111:=cells8 BK111.out
        go_wp2_with (first|((with_reducible refine gate_callee (f:=21) rfl ?_);refine goesL_ (some 6) rfl rfl Try.func21 (by kernel_rfl) rfl #[.int .i64 a0_0,.int .i64 1,.int .i64 8] rfl (by (try simp only [List.map_toArray,List.map_cons,List.map_nil]);first|done|rfl|(simp only [List.length_drop,List.length_take];rfl)) ?_;(with_reducible refine (breadlineref04_in.calls a0_0 1 8 true _ A4.out).mono ?_);rintro e w' ⟨rfl,⟨nd,rfl⟩⟩;refine ⟨_,rfl,?_⟩)|(go_at_call 21;(with_reducible refine (breadlineref04_in.calls a0_2 1 1048576 true _ A19.out).mono ?_);rintro e w' ⟨rfl,⟨nd,rfl⟩⟩)|(go_at_call 21;(with_reducible refine (breadlineref04_in.calls a0_3 0 1048576 true _ A21.out).mono ?_);rintro e w' ⟨rfl,⟨nd,rfl⟩⟩)|(go_at_call 21;(with_reducible refine (breadlineref04_in.calls a0_4 1 8 false _ A23.out).mono ?_);rintro e w' ⟨rfl,⟨nd,rfl⟩⟩))
        go_meet
        case rel=>exact ⟨_,(true),(by first|rfl|(simp;done)|(simp [*];done)),H',⟨by first|omega|exact Nat.le_refl _⟩,⟨by (with_reducible repeat (first|refine blk_drewN ?_ _|refine blk_drew ?_|refine blk_alloc ?_ _));exact BK111.out⟩,⟨by repeat (first|(with_reducible first|exact HB.out|apply below_alloc|apply pw_below_drewN|apply below_drew1|refine below_set ?_ GE111.out)|exact HB.out)⟩⟩
      ·replace c22:=Bool.eq_false_iff.mpr c22
       subst c22
       rw [if_neg (show ¬ (false = true) by decide)] at H
       have H':=Aside0.mk H
       clear H
       have hz28_gb111:=cells8 BK111.out
       go_wp2_with (first|((with_reducible refine gate_callee (f:=21) rfl ?_);refine goesL_ (some 6) rfl rfl Try.func21 (by kernel_rfl) rfl #[.int .i64 a0_0,.int .i64 1,.int .i64 8] rfl (by (try simp only [List.map_toArray,List.map_cons,List.map_nil]);first|done|rfl|(simp only [List.length_drop,List.length_take];rfl)) ?_;(with_reducible refine (breadlineref04_in.calls a0_0 1 8 true _ A4.out).mono ?_);rintro e w' ⟨rfl,⟨nd,rfl⟩⟩;refine ⟨_,rfl,?_⟩)|(go_at_call 21;(with_reducible refine (breadlineref04_in.calls a0_2 1 1048576 true _ A19.out).mono ?_);rintro e w' ⟨rfl,⟨nd,rfl⟩⟩)|(go_at_call 21;(with_reducible refine (breadlineref04_in.calls a0_3 0 1048576 false _ A21.out).mono ?_);rintro e w' ⟨rfl,⟨nd,rfl⟩⟩))
       go_meet
       case rel=>exact ⟨_,(true),(by first|rfl|(simp;done)|(simp [*];done)),H',⟨by first|omega|exact Nat.le_refl _⟩,⟨by (with_reducible repeat (first|refine blk_drewN ?_ _|refine blk_drew ?_|refine blk_alloc ?_ _));exact BK111.out⟩,⟨by repeat (first|(with_reducible first|exact HB.out|apply below_alloc|apply pw_below_drewN|apply below_drew1|refine below_set ?_ GE111.out)|exact HB.out)⟩⟩
     ·replace c20:=Bool.eq_false_iff.mpr c20
      subst c20
      rw [if_neg (show ¬ (false = true) by decide)] at H
      have H':=Aside0.mk H
      clear H
      have hz29_gb111:=cells8 BK111.out
      go_wp2_with (first|((with_reducible refine gate_callee (f:=21) rfl ?_);refine goesL_ (some 6) rfl rfl Try.func21 (by kernel_rfl) rfl #[.int .i64 a0_0,.int .i64 1,.int .i64 8] rfl (by (try simp only [List.map_toArray,List.map_cons,List.map_nil]);first|done|rfl|(simp only [List.length_drop,List.length_take];rfl)) ?_;(with_reducible refine (breadlineref04_in.calls a0_0 1 8 true _ A4.out).mono ?_);rintro e w' ⟨rfl,⟨nd,rfl⟩⟩;refine ⟨_,rfl,?_⟩)|(go_at_call 21;(with_reducible refine (breadlineref04_in.calls a0_2 1 1048576 false _ A19.out).mono ?_);rintro e w' ⟨rfl,⟨nd,rfl⟩⟩))
      go_meet
      case rel=>exact ⟨_,(true),(by first|rfl|(simp;done)|(simp [*];done)),H',⟨by first|omega|exact Nat.le_refl _⟩,⟨by (with_reducible repeat (first|refine blk_drewN ?_ _|refine blk_drew ?_|refine blk_alloc ?_ _));exact BK111.out⟩,⟨by repeat (first|(with_reducible first|exact HB.out|apply below_alloc|apply pw_below_drewN|apply below_drew1|refine below_set ?_ GE111.out)|exact HB.out)⟩⟩
    ·rw [if_neg c18] at H
     have c18b0:(a0_1 == 2) = false:=beq_eq_false_iff_ne.mpr c18
     have c18b1:(a0_1 != 2) = true:=bne_iff_ne.mpr c18
     by_cases c30:a0_1 = 4
     ·rw [if_pos c30] at H
      have c30b0:(a0_1 == 4) = true:=beq_iff_eq.mpr c30
      have c30b1:(a0_1 != 4) = false:=bne_eq_false_iff_eq.mpr c30
      clear c30
      replace H:=Option.bind_eq_some_iff.mp H
      obtain ⟨t121,A310,H⟩:=H
      replace H:(if t121 = true then ((breadlineref04_in.f a0_3 0 1048576).bind fun t122=>(if t122 = true then ((breadlineref04_in.f a0_4 1 8).bind fun t123=>(if t123 = true then ((breadlineref04_in.f a0_5 1 16).bind fun t124=>(breadlineref04_Right.j0 k (!t124) a0_0 a0_1 a0_2 a0_3 a0_4 a0_5 l0_6 l0_7)) else (breadlineref04_Right.j0 k true a0_0 a0_1 a0_2 a0_3 a0_4 a0_5 l0_6 l0_7))) else (breadlineref04_Right.j0 k true a0_0 a0_1 a0_2 a0_3 a0_4 a0_5 l0_6 l0_7))) else (breadlineref04_Right.j0 k true a0_0 a0_1 a0_2 a0_3 a0_4 a0_5 l0_6 l0_7)) = some r:=H
      have A31:=Aside0.mk A310
      clear A310
      by_cases c32:t121 = true
      ·subst c32
       rw [if_pos rfl] at H
       replace H:=Option.bind_eq_some_iff.mp H
       obtain ⟨t122,A330,H⟩:=H
       replace H:(if t122 = true then ((breadlineref04_in.f a0_4 1 8).bind fun t123=>(if t123 = true then ((breadlineref04_in.f a0_5 1 16).bind fun t124=>(breadlineref04_Right.j0 k (!t124) a0_0 a0_1 a0_2 a0_3 a0_4 a0_5 l0_6 l0_7)) else (breadlineref04_Right.j0 k true a0_0 a0_1 a0_2 a0_3 a0_4 a0_5 l0_6 l0_7))) else (breadlineref04_Right.j0 k true a0_0 a0_1 a0_2 a0_3 a0_4 a0_5 l0_6 l0_7)) = some r:=H
       have A33:=Aside0.mk A330
       clear A330
       by_cases c34:t122 = true
       ·subst c34
        rw [if_pos rfl] at H
        replace H:=Option.bind_eq_some_iff.mp H
        obtain ⟨t123,A350,H⟩:=H
        replace H:(if t123 = true then ((breadlineref04_in.f a0_5 1 16).bind fun t124=>(breadlineref04_Right.j0 k (!t124) a0_0 a0_1 a0_2 a0_3 a0_4 a0_5 l0_6 l0_7)) else (breadlineref04_Right.j0 k true a0_0 a0_1 a0_2 a0_3 a0_4 a0_5 l0_6 l0_7)) = some r:=H
        have A35:=Aside0.mk A350
        clear A350
        by_cases c36:t123 = true
        ·subst c36
         rw [if_pos rfl] at H
         replace H:=Option.bind_eq_some_iff.mp H
         obtain ⟨t124,A370,H⟩:=H
         replace H:(breadlineref04_Right.j0 k (!t124) a0_0 a0_1 a0_2 a0_3 a0_4 a0_5 l0_6 l0_7) = some r:=H
         have A37:=Aside0.mk A370
         clear A370
         have H':=Aside0.mk H
         clear H
         have hz38_gb111:=cells8 BK111.out
         go_wp2_with (first|((with_reducible refine gate_callee (f:=21) rfl ?_);refine goesL_ (some 6) rfl rfl Try.func21 (by kernel_rfl) rfl #[.int .i64 a0_0,.int .i64 1,.int .i64 8] rfl (by (try simp only [List.map_toArray,List.map_cons,List.map_nil]);first|done|rfl|(simp only [List.length_drop,List.length_take];rfl)) ?_;(with_reducible refine (breadlineref04_in.calls a0_0 1 8 true _ A4.out).mono ?_);rintro e w' ⟨rfl,⟨nd,rfl⟩⟩;refine ⟨_,rfl,?_⟩)|(go_at_call 21;(with_reducible refine (breadlineref04_in.calls a0_2 1 1048576 true _ A31.out).mono ?_);rintro e w' ⟨rfl,⟨nd,rfl⟩⟩)|(go_at_call 21;(with_reducible refine (breadlineref04_in.calls a0_3 0 1048576 true _ A33.out).mono ?_);rintro e w' ⟨rfl,⟨nd,rfl⟩⟩)|(go_at_call 21;(with_reducible refine (breadlineref04_in.calls a0_4 1 8 true _ A35.out).mono ?_);rintro e w' ⟨rfl,⟨nd,rfl⟩⟩)|(go_at_call 21;(with_reducible refine (breadlineref04_in.calls a0_5 1 16 t124 _ A37.out).mono ?_);rintro e w' ⟨rfl,⟨nd,rfl⟩⟩))
         go_meet
         case rel=>exact ⟨_,(!t124),(by first|rfl|(simp;done)|(simp [*];done)),H',⟨by first|omega|exact Nat.le_refl _⟩,⟨by (with_reducible repeat (first|refine blk_drewN ?_ _|refine blk_drew ?_|refine blk_alloc ?_ _));exact BK111.out⟩,⟨by repeat (first|(with_reducible first|exact HB.out|apply below_alloc|apply pw_below_drewN|apply below_drew1|refine below_set ?_ GE111.out)|exact HB.out)⟩⟩
        ·replace c36:=Bool.eq_false_iff.mpr c36
         subst c36
         rw [if_neg (show ¬ (false = true) by decide)] at H
         have H':=Aside0.mk H
         clear H
         have hz39_gb111:=cells8 BK111.out
         go_wp2_with (first|((with_reducible refine gate_callee (f:=21) rfl ?_);refine goesL_ (some 6) rfl rfl Try.func21 (by kernel_rfl) rfl #[.int .i64 a0_0,.int .i64 1,.int .i64 8] rfl (by (try simp only [List.map_toArray,List.map_cons,List.map_nil]);first|done|rfl|(simp only [List.length_drop,List.length_take];rfl)) ?_;(with_reducible refine (breadlineref04_in.calls a0_0 1 8 true _ A4.out).mono ?_);rintro e w' ⟨rfl,⟨nd,rfl⟩⟩;refine ⟨_,rfl,?_⟩)|(go_at_call 21;(with_reducible refine (breadlineref04_in.calls a0_2 1 1048576 true _ A31.out).mono ?_);rintro e w' ⟨rfl,⟨nd,rfl⟩⟩)|(go_at_call 21;(with_reducible refine (breadlineref04_in.calls a0_3 0 1048576 true _ A33.out).mono ?_);rintro e w' ⟨rfl,⟨nd,rfl⟩⟩)|(go_at_call 21;(with_reducible refine (breadlineref04_in.calls a0_4 1 8 false _ A35.out).mono ?_);rintro e w' ⟨rfl,⟨nd,rfl⟩⟩))
         go_meet
         case rel=>exact ⟨_,(true),(by first|rfl|(simp;done)|(simp [*];done)),H',⟨by first|omega|exact Nat.le_refl _⟩,⟨by (with_reducible repeat (first|refine blk_drewN ?_ _|refine blk_drew ?_|refine blk_alloc ?_ _));exact BK111.out⟩,⟨by repeat (first|(with_reducible first|exact HB.out|apply below_alloc|apply pw_below_drewN|apply below_drew1|refine below_set ?_ GE111.out)|exact HB.out)⟩⟩
       ·replace c34:=Bool.eq_false_iff.mpr c34
        subst c34
        rw [if_neg (show ¬ (false = true) by decide)] at H
        have H':=Aside0.mk H
        clear H
        have hz40_gb111:=cells8 BK111.out
        go_wp2_with (first|((with_reducible refine gate_callee (f:=21) rfl ?_);refine goesL_ (some 6) rfl rfl Try.func21 (by kernel_rfl) rfl #[.int .i64 a0_0,.int .i64 1,.int .i64 8] rfl (by (try simp only [List.map_toArray,List.map_cons,List.map_nil]);first|done|rfl|(simp only [List.length_drop,List.length_take];rfl)) ?_;(with_reducible refine (breadlineref04_in.calls a0_0 1 8 true _ A4.out).mono ?_);rintro e w' ⟨rfl,⟨nd,rfl⟩⟩;refine ⟨_,rfl,?_⟩)|(go_at_call 21;(with_reducible refine (breadlineref04_in.calls a0_2 1 1048576 true _ A31.out).mono ?_);rintro e w' ⟨rfl,⟨nd,rfl⟩⟩)|(go_at_call 21;(with_reducible refine (breadlineref04_in.calls a0_3 0 1048576 false _ A33.out).mono ?_);rintro e w' ⟨rfl,⟨nd,rfl⟩⟩))
        go_meet
        case rel=>exact ⟨_,(true),(by first|rfl|(simp;done)|(simp [*];done)),H',⟨by first|omega|exact Nat.le_refl _⟩,⟨by (with_reducible repeat (first|refine blk_drewN ?_ _|refine blk_drew ?_|refine blk_alloc ?_ _));exact BK111.out⟩,⟨by repeat (first|(with_reducible first|exact HB.out|apply below_alloc|apply pw_below_drewN|apply below_drew1|refine below_set ?_ GE111.out)|exact HB.out)⟩⟩
      ·replace c32:=Bool.eq_false_iff.mpr c32
       subst c32
       rw [if_neg (show ¬ (false = true) by decide)] at H
       have H':=Aside0.mk H
       clear H
       have hz41_gb111:=cells8 BK111.out
       go_wp2_with (first|((with_reducible refine gate_callee (f:=21) rfl ?_);refine goesL_ (some 6) rfl rfl Try.func21 (by kernel_rfl) rfl #[.int .i64 a0_0,.int .i64 1,.int .i64 8] rfl (by (try simp only [List.map_toArray,List.map_cons,List.map_nil]);first|done|rfl|(simp only [List.length_drop,List.length_take];rfl)) ?_;(with_reducible refine (breadlineref04_in.calls a0_0 1 8 true _ A4.out).mono ?_);rintro e w' ⟨rfl,⟨nd,rfl⟩⟩;refine ⟨_,rfl,?_⟩)|(go_at_call 21;(with_reducible refine (breadlineref04_in.calls a0_2 1 1048576 false _ A31.out).mono ?_);rintro e w' ⟨rfl,⟨nd,rfl⟩⟩))
       go_meet
       case rel=>exact ⟨_,(true),(by first|rfl|(simp;done)|(simp [*];done)),H',⟨by first|omega|exact Nat.le_refl _⟩,⟨by (with_reducible repeat (first|refine blk_drewN ?_ _|refine blk_drew ?_|refine blk_alloc ?_ _));exact BK111.out⟩,⟨by repeat (first|(with_reducible first|exact HB.out|apply below_alloc|apply pw_below_drewN|apply below_drew1|refine below_set ?_ GE111.out)|exact HB.out)⟩⟩
     ·rw [if_neg c30] at H
      have c30b0:(a0_1 == 4) = false:=beq_eq_false_iff_ne.mpr c30
      have c30b1:(a0_1 != 4) = true:=bne_iff_ne.mpr c30
      by_cases c42:a0_1 = 8
      ·rw [if_pos c42] at H
       have c42b0:(a0_1 == 8) = true:=beq_iff_eq.mpr c42
       have c42b1:(a0_1 != 8) = false:=bne_eq_false_iff_eq.mpr c42
       clear c42
       replace H:=Option.bind_eq_some_iff.mp H
       obtain ⟨t125,A430,H⟩:=H
       replace H:(if t125 = true then ((breadlineref04_in.f a0_3 0 1048576).bind fun t126=>(if t126 = true then ((breadlineref04_in.f a0_4 1 8).bind fun t127=>(if t127 = true then ((breadlineref04_in.f a0_5 1 16).bind fun t128=>(breadlineref04_Right.j0 k (!t128) a0_0 a0_1 a0_2 a0_3 a0_4 a0_5 l0_6 l0_7)) else (breadlineref04_Right.j0 k true a0_0 a0_1 a0_2 a0_3 a0_4 a0_5 l0_6 l0_7))) else (breadlineref04_Right.j0 k true a0_0 a0_1 a0_2 a0_3 a0_4 a0_5 l0_6 l0_7))) else (breadlineref04_Right.j0 k true a0_0 a0_1 a0_2 a0_3 a0_4 a0_5 l0_6 l0_7)) = some r:=H
       have A43:=Aside0.mk A430
       clear A430
       by_cases c44:t125 = true
       ·subst c44
        rw [if_pos rfl] at H
        replace H:=Option.bind_eq_some_iff.mp H
        obtain ⟨t126,A450,H⟩:=H
        replace H:(if t126 = true then ((breadlineref04_in.f a0_4 1 8).bind fun t127=>(if t127 = true then ((breadlineref04_in.f a0_5 1 16).bind fun t128=>(breadlineref04_Right.j0 k (!t128) a0_0 a0_1 a0_2 a0_3 a0_4 a0_5 l0_6 l0_7)) else (breadlineref04_Right.j0 k true a0_0 a0_1 a0_2 a0_3 a0_4 a0_5 l0_6 l0_7))) else (breadlineref04_Right.j0 k true a0_0 a0_1 a0_2 a0_3 a0_4 a0_5 l0_6 l0_7)) = some r:=H
        have A45:=Aside0.mk A450
        clear A450
        by_cases c46:t126 = true
        ·subst c46
         rw [if_pos rfl] at H
         replace H:=Option.bind_eq_some_iff.mp H
         obtain ⟨t127,A470,H⟩:=H
         replace H:(if t127 = true then ((breadlineref04_in.f a0_5 1 16).bind fun t128=>(breadlineref04_Right.j0 k (!t128) a0_0 a0_1 a0_2 a0_3 a0_4 a0_5 l0_6 l0_7)) else (breadlineref04_Right.j0 k true a0_0 a0_1 a0_2 a0_3 a0_4 a0_5 l0_6 l0_7)) = some r:=H
         have A47:=Aside0.mk A470
         clear A470
         by_cases c48:t127 = true
         ·subst c48
          rw [if_pos rfl] at H
          replace H:=Option.bind_eq_some_iff.mp H
          obtain ⟨t128,A490,H⟩:=H
          replace H:(breadlineref04_Right.j0 k (!t128) a0_0 a0_1 a0_2 a0_3 a0_4 a0_5 l0_6 l0_7) = some r:=H
          have A49:=Aside0.mk A490
          clear A490
          have H':=Aside0.mk H
          clear H
          have hz50_gb111:=cells8 BK111.out
          go_wp2_with (first|((with_reducible refine gate_callee (f:=21) rfl ?_);refine goesL_ (some 6) rfl rfl Try.func21 (by kernel_rfl) rfl #[.int .i64 a0_0,.int .i64 1,.int .i64 8] rfl (by (try simp only [List.map_toArray,List.map_cons,List.map_nil]);first|done|rfl|(simp only [List.length_drop,List.length_take];rfl)) ?_;(with_reducible refine (breadlineref04_in.calls a0_0 1 8 true _ A4.out).mono ?_);rintro e w' ⟨rfl,⟨nd,rfl⟩⟩;refine ⟨_,rfl,?_⟩)|(go_at_call 21;(with_reducible refine (breadlineref04_in.calls a0_2 1 1048576 true _ A43.out).mono ?_);rintro e w' ⟨rfl,⟨nd,rfl⟩⟩)|(go_at_call 21;(with_reducible refine (breadlineref04_in.calls a0_3 0 1048576 true _ A45.out).mono ?_);rintro e w' ⟨rfl,⟨nd,rfl⟩⟩)|(go_at_call 21;(with_reducible refine (breadlineref04_in.calls a0_4 1 8 true _ A47.out).mono ?_);rintro e w' ⟨rfl,⟨nd,rfl⟩⟩)|(go_at_call 21;(with_reducible refine (breadlineref04_in.calls a0_5 1 16 t128 _ A49.out).mono ?_);rintro e w' ⟨rfl,⟨nd,rfl⟩⟩))
          go_meet
          case rel=>exact ⟨_,(!t128),(by first|rfl|(simp;done)|(simp [*];done)),H',⟨by first|omega|exact Nat.le_refl _⟩,⟨by (with_reducible repeat (first|refine blk_drewN ?_ _|refine blk_drew ?_|refine blk_alloc ?_ _));exact BK111.out⟩,⟨by repeat (first|(with_reducible first|exact HB.out|apply below_alloc|apply pw_below_drewN|apply below_drew1|refine below_set ?_ GE111.out)|exact HB.out)⟩⟩
         ·replace c48:=Bool.eq_false_iff.mpr c48
          subst c48
          rw [if_neg (show ¬ (false = true) by decide)] at H
          have H':=Aside0.mk H
          clear H
          have hz51_gb111:=cells8 BK111.out
          go_wp2_with (first|((with_reducible refine gate_callee (f:=21) rfl ?_);refine goesL_ (some 6) rfl rfl Try.func21 (by kernel_rfl) rfl #[.int .i64 a0_0,.int .i64 1,.int .i64 8] rfl (by (try simp only [List.map_toArray,List.map_cons,List.map_nil]);first|done|rfl|(simp only [List.length_drop,List.length_take];rfl)) ?_;(with_reducible refine (breadlineref04_in.calls a0_0 1 8 true _ A4.out).mono ?_);rintro e w' ⟨rfl,⟨nd,rfl⟩⟩;refine ⟨_,rfl,?_⟩)|(go_at_call 21;(with_reducible refine (breadlineref04_in.calls a0_2 1 1048576 true _ A43.out).mono ?_);rintro e w' ⟨rfl,⟨nd,rfl⟩⟩)|(go_at_call 21;(with_reducible refine (breadlineref04_in.calls a0_3 0 1048576 true _ A45.out).mono ?_);rintro e w' ⟨rfl,⟨nd,rfl⟩⟩)|(go_at_call 21;(with_reducible refine (breadlineref04_in.calls a0_4 1 8 false _ A47.out).mono ?_);rintro e w' ⟨rfl,⟨nd,rfl⟩⟩))
          go_meet
          case rel=>exact ⟨_,(true),(by first|rfl|(simp;done)|(simp [*];done)),H',⟨by first|omega|exact Nat.le_refl _⟩,⟨by (with_reducible repeat (first|refine blk_drewN ?_ _|refine blk_drew ?_|refine blk_alloc ?_ _));exact BK111.out⟩,⟨by repeat (first|(with_reducible first|exact HB.out|apply below_alloc|apply pw_below_drewN|apply below_drew1|refine below_set ?_ GE111.out)|exact HB.out)⟩⟩
        ·replace c46:=Bool.eq_false_iff.mpr c46
         subst c46
         rw [if_neg (show ¬ (false = true) by decide)] at H
         have H':=Aside0.mk H
         clear H
         have hz52_gb111:=cells8 BK111.out
         go_wp2_with (first|((with_reducible refine gate_callee (f:=21) rfl ?_);refine goesL_ (some 6) rfl rfl Try.func21 (by kernel_rfl) rfl #[.int .i64 a0_0,.int .i64 1,.int .i64 8] rfl (by (try simp only [List.map_toArray,List.map_cons,List.map_nil]);first|done|rfl|(simp only [List.length_drop,List.length_take];rfl)) ?_;(with_reducible refine (breadlineref04_in.calls a0_0 1 8 true _ A4.out).mono ?_);rintro e w' ⟨rfl,⟨nd,rfl⟩⟩;refine ⟨_,rfl,?_⟩)|(go_at_call 21;(with_reducible refine (breadlineref04_in.calls a0_2 1 1048576 true _ A43.out).mono ?_);rintro e w' ⟨rfl,⟨nd,rfl⟩⟩)|(go_at_call 21;(with_reducible refine (breadlineref04_in.calls a0_3 0 1048576 false _ A45.out).mono ?_);rintro e w' ⟨rfl,⟨nd,rfl⟩⟩))
         go_meet
         case rel=>exact ⟨_,(true),(by first|rfl|(simp;done)|(simp [*];done)),H',⟨by first|omega|exact Nat.le_refl _⟩,⟨by (with_reducible repeat (first|refine blk_drewN ?_ _|refine blk_drew ?_|refine blk_alloc ?_ _));exact BK111.out⟩,⟨by repeat (first|(with_reducible first|exact HB.out|apply below_alloc|apply pw_below_drewN|apply below_drew1|refine below_set ?_ GE111.out)|exact HB.out)⟩⟩
       ·replace c44:=Bool.eq_false_iff.mpr c44
        subst c44
        rw [if_neg (show ¬ (false = true) by decide)] at H
        have H':=Aside0.mk H
        clear H
        have hz53_gb111:=cells8 BK111.out
        go_wp2_with (first|((with_reducible refine gate_callee (f:=21) rfl ?_);refine goesL_ (some 6) rfl rfl Try.func21 (by kernel_rfl) rfl #[.int .i64 a0_0,.int .i64 1,.int .i64 8] rfl (by (try simp only [List.map_toArray,List.map_cons,List.map_nil]);first|done|rfl|(simp only [List.length_drop,List.length_take];rfl)) ?_;(with_reducible refine (breadlineref04_in.calls a0_0 1 8 true _ A4.out).mono ?_);rintro e w' ⟨rfl,⟨nd,rfl⟩⟩;refine ⟨_,rfl,?_⟩)|(go_at_call 21;(with_reducible refine (breadlineref04_in.calls a0_2 1 1048576 false _ A43.out).mono ?_);rintro e w' ⟨rfl,⟨nd,rfl⟩⟩))
        go_meet
        case rel=>exact ⟨_,(true),(by first|rfl|(simp;done)|(simp [*];done)),H',⟨by first|omega|exact Nat.le_refl _⟩,⟨by (with_reducible repeat (first|refine blk_drewN ?_ _|refine blk_drew ?_|refine blk_alloc ?_ _));exact BK111.out⟩,⟨by repeat (first|(with_reducible first|exact HB.out|apply below_alloc|apply pw_below_drewN|apply below_drew1|refine below_set ?_ GE111.out)|exact HB.out)⟩⟩
      ·rw [if_neg c42] at H
       have c42b0:(a0_1 == 8) = false:=beq_eq_false_iff_ne.mpr c42
       have c42b1:(a0_1 != 8) = true:=bne_iff_ne.mpr c42
       have H':=Aside0.mk H
       clear H
       have hz54_gb111:=cells8 BK111.out
       go_wp2_with (first|((with_reducible refine gate_callee (f:=21) rfl ?_);refine goesL_ (some 6) rfl rfl Try.func21 (by kernel_rfl) rfl #[.int .i64 a0_0,.int .i64 1,.int .i64 8] rfl (by (try simp only [List.map_toArray,List.map_cons,List.map_nil]);first|done|rfl|(simp only [List.length_drop,List.length_take];rfl)) ?_;(with_reducible refine (breadlineref04_in.calls a0_0 1 8 true _ A4.out).mono ?_);rintro e w' ⟨rfl,⟨nd,rfl⟩⟩;refine ⟨_,rfl,?_⟩))
       go_meet
       case rel=>exact ⟨_,(true),(by first|rfl|(simp;done)|(simp [*];done)),H',⟨by first|omega|exact Nat.le_refl _⟩,⟨by (with_reducible repeat (first|refine blk_drewN ?_ _|refine blk_drew ?_|refine blk_alloc ?_ _));exact BK111.out⟩,⟨by repeat (first|(with_reducible first|exact HB.out|apply below_alloc|apply pw_below_drewN|apply below_drew1|refine below_set ?_ GE111.out)|exact HB.out)⟩⟩
  ·replace c5:=Bool.eq_false_iff.mpr c5
   subst c5
   rw [if_neg (show ¬ (false = true) by decide)] at H
   have H':=Aside0.mk H
   clear H
   have hz55_gb111:=cells8 BK111.out
   go_wp2_with (first|((with_reducible refine gate_callee (f:=21) rfl ?_);refine goesL_ (some 6) rfl rfl Try.func21 (by kernel_rfl) rfl #[.int .i64 a0_0,.int .i64 1,.int .i64 8] rfl (by (try simp only [List.map_toArray,List.map_cons,List.map_nil]);first|done|rfl|(simp only [List.length_drop,List.length_take];rfl)) ?_;(with_reducible refine (breadlineref04_in.calls a0_0 1 8 false _ A4.out).mono ?_);rintro e w' ⟨rfl,⟨nd,rfl⟩⟩;refine ⟨_,rfl,?_⟩))
   go_meet
   case rel=>exact ⟨_,(true),(by first|rfl|(simp;done)|(simp [*];done)),H',⟨by first|omega|exact Nat.le_refl _⟩,⟨by (with_reducible repeat (first|refine blk_drewN ?_ _|refine blk_drew ?_|refine blk_alloc ?_ _));exact BK111.out⟩,⟨by repeat (first|(with_reducible first|exact HB.out|apply below_alloc|apply pw_below_drewN|apply below_drew1|refine below_set ?_ GE111.out)|exact HB.out)⟩⟩
 case rest =>
  clear HC2
  try clear c1
  try clear c2
  try clear p2
  try clear c3
  try clear c4
  try clear c5
  try clear c6
  try clear c6b0
  try clear c6b1
  try clear c8
  try clear c10
  try clear c12
  try clear c18
  try clear c18b0
  try clear c18b1
  try clear c20
  try clear c21
  try clear c22
  try clear c24
  try clear c30
  try clear c30b0
  try clear c30b1
  try clear c32
  try clear c34
  try clear c36
  try clear c42
  try clear c42b0
  try clear c42b1
  try clear c44
  try clear c46
  try clear c48
  try clear hz14_gb111
  try clear hz15_gb111
  try clear hz16_gb111
  try clear hz17_gb111
  try clear hz26_gb111
  try clear hz27_gb111
  try clear hz28_gb111
  try clear hz29_gb111
  try clear hz38_gb111
  try clear hz39_gb111
  try clear hz40_gb111
  try clear hz41_gb111
  try clear hz50_gb111
  try clear hz51_gb111
  try clear hz52_gb111
  try clear hz53_gb111
  try clear hz54_gb111
  try clear hz55_gb111
  obtain ⟨kq,x51_1,rfl,HA,HJ1,BK111,HB⟩:=hcut
  cases kq with
  | zero=>exact absurd HA.out (by simp [breadlineref04_Right.j0])
  | succ kj1 =>
   have H:=HA.out
   clear HA
   simp only [breadlineref04_Right.j0] at H
   by_cases c56:x51_1 = true
   ·subst c56
    rw [if_pos rfl] at H
    obtain rfl:=Option.some.inj H
    go_wp2
    go_ret
    exact ⟨by first|rfl|(simp [errW_none,errW_some] <;> rfl)|(simp [*,errW_none,errW_some] <;> rfl),by repeat (first|(with_reducible first|exact HB.out|apply below_alloc|apply pw_below_drewN|apply below_drew1|refine below_set ?_ GE111.out)|exact HB.out)⟩
   ·replace c56:=Bool.eq_false_iff.mpr c56
    subst c56
    rw [if_neg (show ¬ (false = true) by decide)] at H
    have HC57:=Aside0.mk H
    clear H
    go_upto_region 3 with (fail)
    go_cut [65] (fun v65 wc=>∃ (kq:Nat) (x65_56:Bool),v65 = .bool x65_56∧Aside0 (breadlineref04_Right.j1 kq x65_56 a0_0 a0_1 a0_2 a0_3 a0_4 a0_5 l0_6 l0_7 = some r)∧Aside0 (kq ≤ kj1)∧Aside0 (wc.heap[gb111]? = some (.cells #[.int .i64 a0_0,.int .i64 a0_1,.int .i64 a0_2,.int .i64 a0_3,.int .i64 a0_4,.int .i64 a0_5,(.slice A0_6 l0_6.length c0_6),(.slice A0_7 l0_7.length c0_7)] 24 (0,0)))∧Aside0 (Below w.heap.size w wc))
    case first =>
     have H:=HC57.out
     clear HC57
     replace H:=Option.bind_eq_some_iff.mp H
     obtain ⟨t129,A580,H⟩:=H
     replace H:(if t129 = true then (breadlineref04_Right.j1 kj1 ((l0_7.length:Int) != (l0_6.length:Int)) a0_0 a0_1 a0_2 a0_3 a0_4 a0_5 l0_6 l0_7) else (breadlineref04_Right.j1 kj1 true a0_0 a0_1 a0_2 a0_3 a0_4 a0_5 l0_6 l0_7)) = some r:=H
     have A58:=Aside0.mk A580
     clear A580
     by_cases c59:t129 = true
     ·subst c59
      rw [if_pos rfl] at H
      have H':=Aside0.mk H
      clear H
      have hz60_gb111:=cells8 BK111.out
      go_wp2_with (first|((with_reducible refine gate_callee (f:=21) rfl ?_);refine goesL_ (some 55) rfl rfl Try.func21 (by kernel_rfl) rfl #[.int .i64 (l0_6.length:Int),.int .i64 1,.int .i64 12] rfl (by (try simp only [List.map_toArray,List.map_cons,List.map_nil]);first|done|rfl|(simp only [List.length_drop,List.length_take];rfl)) ?_;(with_reducible refine (breadlineref04_in.calls (l0_6.length:Int) 1 12 true _ A58.out).mono ?_);rintro e w' ⟨rfl,⟨nd,rfl⟩⟩;refine ⟨_,rfl,?_⟩))
      go_meet
      case rel=>exact ⟨_,(((l0_7.length:Int) != (l0_6.length:Int))),(by first|rfl|(simp;done)|(simp [*];done)),H',⟨by have:=HJ1.out;first|omega|exact Nat.le_refl _⟩,⟨by (with_reducible repeat (first|refine blk_drewN ?_ _|refine blk_drew ?_|refine blk_alloc ?_ _));exact BK111.out⟩,⟨by repeat (first|(with_reducible first|exact HB.out|apply below_alloc|apply pw_below_drewN|apply below_drew1|refine below_set ?_ GE111.out)|exact HB.out)⟩⟩
     ·replace c59:=Bool.eq_false_iff.mpr c59
      subst c59
      rw [if_neg (show ¬ (false = true) by decide)] at H
      have H':=Aside0.mk H
      clear H
      have hz61_gb111:=cells8 BK111.out
      go_wp2_with (first|((with_reducible refine gate_callee (f:=21) rfl ?_);refine goesL_ (some 55) rfl rfl Try.func21 (by kernel_rfl) rfl #[.int .i64 (l0_6.length:Int),.int .i64 1,.int .i64 12] rfl (by (try simp only [List.map_toArray,List.map_cons,List.map_nil]);first|done|rfl|(simp only [List.length_drop,List.length_take];rfl)) ?_;(with_reducible refine (breadlineref04_in.calls (l0_6.length:Int) 1 12 false _ A58.out).mono ?_);rintro e w' ⟨rfl,⟨nd,rfl⟩⟩;refine ⟨_,rfl,?_⟩))
      go_meet
      case rel=>exact ⟨_,(true),(by first|rfl|(simp;done)|(simp [*];done)),H',⟨by have:=HJ1.out;first|omega|exact Nat.le_refl _⟩,⟨by (with_reducible repeat (first|refine blk_drewN ?_ _|refine blk_drew ?_|refine blk_alloc ?_ _));exact BK111.out⟩,⟨by repeat (first|(with_reducible first|exact HB.out|apply below_alloc|apply pw_below_drewN|apply below_drew1|refine below_set ?_ GE111.out)|exact HB.out)⟩⟩
    case rest =>
     clear HC57
     try clear c1
     try clear c2
     try clear p2
     try clear c3
     try clear c4
     try clear c5
     try clear c6
     try clear c6b0
     try clear c6b1
     try clear c8
     try clear c10
     try clear c12
     try clear c18
     try clear c18b0
     try clear c18b1
     try clear c20
     try clear c21
     try clear c22
     try clear c24
     try clear c30
     try clear c30b0
     try clear c30b1
     try clear c32
     try clear c34
     try clear c36
     try clear c42
     try clear c42b0
     try clear c42b1
     try clear c44
     try clear c46
     try clear c48
     try clear c56
     try clear c59
     try clear hz14_gb111
     try clear hz15_gb111
     try clear hz16_gb111
     try clear hz17_gb111
     try clear hz26_gb111
     try clear hz27_gb111
     try clear hz28_gb111
     try clear hz29_gb111
     try clear hz38_gb111
     try clear hz39_gb111
     try clear hz40_gb111
     try clear hz41_gb111
     try clear hz50_gb111
     try clear hz51_gb111
     try clear hz52_gb111
     try clear hz53_gb111
     try clear hz54_gb111
     try clear hz55_gb111
     try clear hz60_gb111
     try clear hz61_gb111
     try clear p2
     obtain ⟨kq,x65_56,rfl,HA,HJ56,BK111,HB⟩:=hcut
     cases kq with
     | zero=>exact absurd HA.out (by simp [breadlineref04_Right.j1])
     | succ kj56 =>
      have H:=HA.out
      clear HA
      simp only [breadlineref04_Right.j1] at H
      by_cases c62:x65_56 = true
      ·subst c62
       rw [if_pos rfl] at H
       obtain rfl:=Option.some.inj H
       go_wp2
       go_ret
       exact ⟨by first|rfl|(simp [errW_none,errW_some] <;> rfl)|(simp [*,errW_none,errW_some] <;> rfl),by repeat (first|(with_reducible first|exact HB.out|apply below_alloc|apply pw_below_drewN|apply below_drew1|refine below_set ?_ GE111.out)|exact HB.out)⟩
      ·replace c62:=Bool.eq_false_iff.mpr c62
       subst c62
       rw [if_neg (show ¬ (false = true) by decide)] at H
       have H':=Aside0.mk H
       clear H
       go_wp2
       go_loopg [3] kj56 (fun kq v3 w'=>∃ (x3_3:Int),v3 = .int .i64 x3_3∧Aside0 (breadlineref04_Right.l0 kq x3_3 a0_0 a0_1 a0_2 a0_3 a0_4 a0_5 l0_6 l0_7 = some r)∧Aside0 (kq ≤ kj56)∧Aside0 (w'.heap[gb111]? = some (.cells #[.int .i64 a0_0,.int .i64 a0_1,.int .i64 a0_2,.int .i64 a0_3,.int .i64 a0_4,.int .i64 a0_5,(.slice A0_6 l0_6.length c0_6),(.slice A0_7 l0_7.length c0_7)] 24 (0,0)))∧Aside0 (Below w.heap.size w w'))
       case atStart=>exact ⟨(0),(by first|rfl|(simp;done)|(simp [*];done)),H',⟨Nat.le_refl _⟩,⟨by (with_reducible repeat (first|refine blk_drewN ?_ _|refine blk_drew ?_|refine blk_alloc ?_ _));exact BK111.out⟩,⟨by repeat (first|(with_reducible first|exact HB.out|apply below_alloc|apply pw_below_drewN|apply below_drew1|refine below_set ?_ GE111.out)|exact HB.out)⟩⟩
       case round =>
        clear H'
        try clear c1
        try clear c2
        try clear p2
        try clear c3
        try clear c4
        try clear c5
        try clear c6
        try clear c6b0
        try clear c6b1
        try clear c8
        try clear c10
        try clear c12
        try clear c18
        try clear c18b0
        try clear c18b1
        try clear c20
        try clear c21
        try clear c22
        try clear c24
        try clear c30
        try clear c30b0
        try clear c30b1
        try clear c32
        try clear c34
        try clear c36
        try clear c42
        try clear c42b0
        try clear c42b1
        try clear c44
        try clear c46
        try clear c48
        try clear c56
        try clear c59
        try clear c62
        try clear hz14_gb111
        try clear hz15_gb111
        try clear hz16_gb111
        try clear hz17_gb111
        try clear hz26_gb111
        try clear hz27_gb111
        try clear hz28_gb111
        try clear hz29_gb111
        try clear hz38_gb111
        try clear hz39_gb111
        try clear hz40_gb111
        try clear hz41_gb111
        try clear hz50_gb111
        try clear hz51_gb111
        try clear hz52_gb111
        try clear hz53_gb111
        try clear hz54_gb111
        try clear hz55_gb111
        try clear hz60_gb111
        try clear hz61_gb111
        try clear p2
        obtain ⟨x3_3,rfl,HA,HK3,BK111,HB⟩:=hrel
        cases gk with
        | zero=>exact absurd HA.out (by simp [breadlineref04_Right.l0])
        | succ k3 =>
         have H:=HA.out
         clear HA
         simp only [breadlineref04_Right.l0] at H
         by_cases c63:x3_3 < (l0_6.length:Int)
         ·rw [if_pos c63] at H
          have c63b0:decide (x3_3 < (l0_6.length:Int)) = true:=decide_eq_true c63
          clear c63
          by_cases c64:0 ≤ x3_3
          ·rw [if_pos c64] at H
           have c64b0:decide (0 ≤ x3_3) = true:=decide_eq_true c64
           clear c64
           by_cases c65:x3_3 < (l0_7.length:Int)
           ·rw [if_pos c65] at H
            have c65b0:decide (x3_3 < (l0_7.length:Int)) = true:=decide_eq_true c65
            clear c65
            replace H:=Option.bind_eq_some_iff.mp H
            obtain ⟨t131,A660,H⟩:=H
            replace H:(if t131 = true then (if x3_3 = 0 then (if (rd l0_6 x3_3) = (-1) then (if x3_3 > 0 then ((breadlineref04_in.f (rd l0_6 x3_3) 0 (wrap64 (x3_3 - 1))).bind fun t134=>(if t134 = true then (breadlineref04_Right.l0 k3 (wrap64 (x3_3 + 1)) a0_0 a0_1 a0_2 a0_3 a0_4 a0_5 l0_6 l0_7) else (some false))) else (breadlineref04_Right.l0 k3 (wrap64 (x3_3 + 1)) a0_0 a0_1 a0_2 a0_3 a0_4 a0_5 l0_6 l0_7)) else (some false)) else (if x3_3 > 0 then ((breadlineref04_in.f (rd l0_6 x3_3) 0 (wrap64 (x3_3 - 1))).bind fun t136=>(if t136 = true then (breadlineref04_Right.l0 k3 (wrap64 (x3_3 + 1)) a0_0 a0_1 a0_2 a0_3 a0_4 a0_5 l0_6 l0_7) else (some false))) else (breadlineref04_Right.l0 k3 (wrap64 (x3_3 + 1)) a0_0 a0_1 a0_2 a0_3 a0_4 a0_5 l0_6 l0_7))) else (some false)) = some r:=H
            have A66:=Aside0.mk A660
            clear A660
            by_cases c67:t131 = true
            ·subst c67
             rw [if_pos rfl] at H
             by_cases c68:x3_3 = 0
             ·rw [if_pos c68] at H
              have c68b0:(x3_3 == 0) = true:=beq_iff_eq.mpr c68
              have c68b1:(x3_3 != 0) = false:=bne_eq_false_iff_eq.mpr c68
              clear c68
              by_cases c69:(rd l0_6 x3_3) = (-1)
              ·rw [if_pos c69] at H
               have c69b0:((rd l0_6 x3_3) == (-1)) = true:=beq_iff_eq.mpr c69
               have c69b1:((rd l0_6 x3_3) != (-1)) = false:=bne_eq_false_iff_eq.mpr c69
               clear c69
               by_cases c70:x3_3 > 0
               ·rw [if_pos c70] at H
                have c70b0:decide (0 < x3_3) = true:=decide_eq_true c70
                clear c70
                replace H:=Option.bind_eq_some_iff.mp H
                obtain ⟨t134,A710,H⟩:=H
                replace H:(if t134 = true then (breadlineref04_Right.l0 k3 (wrap64 (x3_3 + 1)) a0_0 a0_1 a0_2 a0_3 a0_4 a0_5 l0_6 l0_7) else (some false)) = some r:=H
                have A71:=Aside0.mk A710
                clear A710
                by_cases c72:t134 = true
                ·subst c72
                 rw [if_pos rfl] at H
                 have H':=Aside0.mk H
                 clear H
                 have hz73_gb111:=cells8 BK111.out
                 have p130:0 ≤ (x3_3:Int):=of_decide_eq_true (by first|(with_reducible assumption)|assumption)
                 have q130:x3_3 < (l0_7.length:Int):=of_decide_eq_true (by first|(with_reducible assumption)|assumption)
                 obtain ⟨ad130,e130,hx130_0⟩:=Kd.at_int HR0_7.out x3_3 p130 q130
                 cases e130
                 replace hx130_0:=(HB.out.cell (World.block_lt_of_cell? w _ hx130_0)).trans hx130_0
                 replace p130:=eq_true p130
                 replace q130:=eq_true q130
                 go_wp2_with (first|((with_reducible refine gate_callee (f:=21) rfl ?_);refine goesL_ (some 78) rfl rfl Try.func21 (by kernel_rfl) rfl #[.int .i64 (rd l0_7 x3_3),.int .i64 0,.int .i64 1099511627776] rfl (by (try simp only [List.map_toArray,List.map_cons,List.map_nil]);first|done|rfl|(simp only [List.length_drop,List.length_take];rfl)) ?_;(with_reducible refine (breadlineref04_in.calls (rd l0_7 x3_3) 0 1099511627776 true _ A66.out).mono ?_);rintro e w' ⟨rfl,⟨nd,rfl⟩⟩;refine ⟨_,rfl,?_⟩;have p132:0 ≤ (x3_3:Int):=of_decide_eq_true (by first|(with_reducible assumption)|assumption);have q132:x3_3 < (l0_6.length:Int):=of_decide_eq_true (by first|(with_reducible assumption)|assumption);obtain ⟨ad132,e132,hx132_0⟩:=Kd.at_int HR0_6.out x3_3 p132 q132;cases e132;replace hx132_0:=(HB.out.cell (World.block_lt_of_cell? w _ hx132_0)).trans hx132_0;replace p132:=eq_true p132;replace q132:=eq_true q132;have p133:0 ≤ (x3_3:Int):=of_decide_eq_true (by first|(with_reducible assumption)|assumption);have q133:x3_3 < (l0_6.length:Int):=of_decide_eq_true (by first|(with_reducible assumption)|assumption);obtain ⟨ad133,e133,hx133_0⟩:=Kd.at_int HR0_6.out x3_3 p133 q133;obtain rfl:ad132 = ad133:=(by injection e133);replace hx133_0:=(HB.out.cell (World.block_lt_of_cell? w _ hx133_0)).trans hx133_0;replace p133:=eq_true p133;replace q133:=eq_true q133)|(go_at_call 21;(with_reducible refine (breadlineref04_in.calls (rd l0_6 x3_3) 0 (wrap64 (x3_3 - 1)) true _ A71.out).mono ?_);rintro e w' ⟨rfl,⟨nd,rfl⟩⟩))
                 go_roundg k3
                 case measure=>have:=HJ1.out;have:=HJ56.out;have:=HK3.out;omega
                 case rel=>exact ⟨(wrap64 (x3_3 + 1)),(by first|rfl|(simp;done)|(simp [*];done)),H',⟨by have:=HJ1.out;have:=HJ56.out;have:=HK3.out;omega⟩,⟨by (with_reducible repeat (first|refine blk_drewN ?_ _|refine blk_drew ?_|refine blk_alloc ?_ _));exact BK111.out⟩,⟨by repeat (first|(with_reducible first|exact HB.out|apply below_alloc|apply pw_below_drewN|apply below_drew1|refine below_set ?_ GE111.out)|exact HB.out)⟩⟩
                ·replace c72:=Bool.eq_false_iff.mpr c72
                 subst c72
                 rw [if_neg (show ¬ (false = true) by decide)] at H
                 obtain rfl:=Option.some.inj H
                 have hz74_gb111:=cells8 BK111.out
                 have p130:0 ≤ (x3_3:Int):=of_decide_eq_true (by first|(with_reducible assumption)|assumption)
                 have q130:x3_3 < (l0_7.length:Int):=of_decide_eq_true (by first|(with_reducible assumption)|assumption)
                 obtain ⟨ad130,e130,hx130_0⟩:=Kd.at_int HR0_7.out x3_3 p130 q130
                 cases e130
                 replace hx130_0:=(HB.out.cell (World.block_lt_of_cell? w _ hx130_0)).trans hx130_0
                 replace p130:=eq_true p130
                 replace q130:=eq_true q130
                 go_wp2_with (first|((with_reducible refine gate_callee (f:=21) rfl ?_);refine goesL_ (some 78) rfl rfl Try.func21 (by kernel_rfl) rfl #[.int .i64 (rd l0_7 x3_3),.int .i64 0,.int .i64 1099511627776] rfl (by (try simp only [List.map_toArray,List.map_cons,List.map_nil]);first|done|rfl|(simp only [List.length_drop,List.length_take];rfl)) ?_;(with_reducible refine (breadlineref04_in.calls (rd l0_7 x3_3) 0 1099511627776 true _ A66.out).mono ?_);rintro e w' ⟨rfl,⟨nd,rfl⟩⟩;refine ⟨_,rfl,?_⟩;have p132:0 ≤ (x3_3:Int):=of_decide_eq_true (by first|(with_reducible assumption)|assumption);have q132:x3_3 < (l0_6.length:Int):=of_decide_eq_true (by first|(with_reducible assumption)|assumption);obtain ⟨ad132,e132,hx132_0⟩:=Kd.at_int HR0_6.out x3_3 p132 q132;cases e132;replace hx132_0:=(HB.out.cell (World.block_lt_of_cell? w _ hx132_0)).trans hx132_0;replace p132:=eq_true p132;replace q132:=eq_true q132;have p133:0 ≤ (x3_3:Int):=of_decide_eq_true (by first|(with_reducible assumption)|assumption);have q133:x3_3 < (l0_6.length:Int):=of_decide_eq_true (by first|(with_reducible assumption)|assumption);obtain ⟨ad133,e133,hx133_0⟩:=Kd.at_int HR0_6.out x3_3 p133 q133;obtain rfl:ad132 = ad133:=(by injection e133);replace hx133_0:=(HB.out.cell (World.block_lt_of_cell? w _ hx133_0)).trans hx133_0;replace p133:=eq_true p133;replace q133:=eq_true q133)|(go_at_call 21;(with_reducible refine (breadlineref04_in.calls (rd l0_6 x3_3) 0 (wrap64 (x3_3 - 1)) false _ A71.out).mono ?_);rintro e w' ⟨rfl,⟨nd,rfl⟩⟩))
                 go_ret
                 exact ⟨by first|rfl|(simp [errW_none,errW_some] <;> rfl)|(simp [*,errW_none,errW_some] <;> rfl),by repeat (first|(with_reducible first|exact HB.out|apply below_alloc|apply pw_below_drewN|apply below_drew1|refine below_set ?_ GE111.out)|exact HB.out)⟩
               ·rw [if_neg c70] at H
                have c70b0:decide (0 < x3_3) = false:=decide_eq_false c70
                clear c70
                have H':=Aside0.mk H
                clear H
                have hz75_gb111:=cells8 BK111.out
                have p130:0 ≤ (x3_3:Int):=of_decide_eq_true (by first|(with_reducible assumption)|assumption)
                have q130:x3_3 < (l0_7.length:Int):=of_decide_eq_true (by first|(with_reducible assumption)|assumption)
                obtain ⟨ad130,e130,hx130_0⟩:=Kd.at_int HR0_7.out x3_3 p130 q130
                cases e130
                replace hx130_0:=(HB.out.cell (World.block_lt_of_cell? w _ hx130_0)).trans hx130_0
                replace p130:=eq_true p130
                replace q130:=eq_true q130
                go_wp2_with (first|((with_reducible refine gate_callee (f:=21) rfl ?_);refine goesL_ (some 78) rfl rfl Try.func21 (by kernel_rfl) rfl #[.int .i64 (rd l0_7 x3_3),.int .i64 0,.int .i64 1099511627776] rfl (by (try simp only [List.map_toArray,List.map_cons,List.map_nil]);first|done|rfl|(simp only [List.length_drop,List.length_take];rfl)) ?_;(with_reducible refine (breadlineref04_in.calls (rd l0_7 x3_3) 0 1099511627776 true _ A66.out).mono ?_);rintro e w' ⟨rfl,⟨nd,rfl⟩⟩;refine ⟨_,rfl,?_⟩;have p132:0 ≤ (x3_3:Int):=of_decide_eq_true (by first|(with_reducible assumption)|assumption);have q132:x3_3 < (l0_6.length:Int):=of_decide_eq_true (by first|(with_reducible assumption)|assumption);obtain ⟨ad132,e132,hx132_0⟩:=Kd.at_int HR0_6.out x3_3 p132 q132;cases e132;replace hx132_0:=(HB.out.cell (World.block_lt_of_cell? w _ hx132_0)).trans hx132_0;replace p132:=eq_true p132;replace q132:=eq_true q132))
                go_roundg k3
                case measure=>have:=HJ1.out;have:=HJ56.out;have:=HK3.out;omega
                case rel=>exact ⟨(wrap64 (x3_3 + 1)),(by first|rfl|(simp;done)|(simp [*];done)),H',⟨by have:=HJ1.out;have:=HJ56.out;have:=HK3.out;omega⟩,⟨by (with_reducible repeat (first|refine blk_drewN ?_ _|refine blk_drew ?_|refine blk_alloc ?_ _));exact BK111.out⟩,⟨by repeat (first|(with_reducible first|exact HB.out|apply below_alloc|apply pw_below_drewN|apply below_drew1|refine below_set ?_ GE111.out)|exact HB.out)⟩⟩
              ·rw [if_neg c69] at H
               have c69b0:((rd l0_6 x3_3) == (-1)) = false:=beq_eq_false_iff_ne.mpr c69
               have c69b1:((rd l0_6 x3_3) != (-1)) = true:=bne_iff_ne.mpr c69
               obtain rfl:=Option.some.inj H
               have hz76_gb111:=cells8 BK111.out
               have p130:0 ≤ (x3_3:Int):=of_decide_eq_true (by first|(with_reducible assumption)|assumption)
               have q130:x3_3 < (l0_7.length:Int):=of_decide_eq_true (by first|(with_reducible assumption)|assumption)
               obtain ⟨ad130,e130,hx130_0⟩:=Kd.at_int HR0_7.out x3_3 p130 q130
               cases e130
               replace hx130_0:=(HB.out.cell (World.block_lt_of_cell? w _ hx130_0)).trans hx130_0
               replace p130:=eq_true p130
               replace q130:=eq_true q130
               go_wp2_with (first|((with_reducible refine gate_callee (f:=21) rfl ?_);refine goesL_ (some 78) rfl rfl Try.func21 (by kernel_rfl) rfl #[.int .i64 (rd l0_7 x3_3),.int .i64 0,.int .i64 1099511627776] rfl (by (try simp only [List.map_toArray,List.map_cons,List.map_nil]);first|done|rfl|(simp only [List.length_drop,List.length_take];rfl)) ?_;(with_reducible refine (breadlineref04_in.calls (rd l0_7 x3_3) 0 1099511627776 true _ A66.out).mono ?_);rintro e w' ⟨rfl,⟨nd,rfl⟩⟩;refine ⟨_,rfl,?_⟩;have p132:0 ≤ (x3_3:Int):=of_decide_eq_true (by first|(with_reducible assumption)|assumption);have q132:x3_3 < (l0_6.length:Int):=of_decide_eq_true (by first|(with_reducible assumption)|assumption);obtain ⟨ad132,e132,hx132_0⟩:=Kd.at_int HR0_6.out x3_3 p132 q132;cases e132;replace hx132_0:=(HB.out.cell (World.block_lt_of_cell? w _ hx132_0)).trans hx132_0;replace p132:=eq_true p132;replace q132:=eq_true q132))
               go_ret
               exact ⟨by first|rfl|(simp [errW_none,errW_some] <;> rfl)|(simp [*,errW_none,errW_some] <;> rfl),by repeat (first|(with_reducible first|exact HB.out|apply below_alloc|apply pw_below_drewN|apply below_drew1|refine below_set ?_ GE111.out)|exact HB.out)⟩
             ·rw [if_neg c68] at H
              have c68b0:(x3_3 == 0) = false:=beq_eq_false_iff_ne.mpr c68
              have c68b1:(x3_3 != 0) = true:=bne_iff_ne.mpr c68
              by_cases c77:x3_3 > 0
              ·rw [if_pos c77] at H
               have c77b0:decide (0 < x3_3) = true:=decide_eq_true c77
               clear c77
               replace H:=Option.bind_eq_some_iff.mp H
               obtain ⟨t136,A780,H⟩:=H
               replace H:(if t136 = true then (breadlineref04_Right.l0 k3 (wrap64 (x3_3 + 1)) a0_0 a0_1 a0_2 a0_3 a0_4 a0_5 l0_6 l0_7) else (some false)) = some r:=H
               have A78:=Aside0.mk A780
               clear A780
               by_cases c79:t136 = true
               ·subst c79
                rw [if_pos rfl] at H
                have H':=Aside0.mk H
                clear H
                have hz80_gb111:=cells8 BK111.out
                have p130:0 ≤ (x3_3:Int):=of_decide_eq_true (by first|(with_reducible assumption)|assumption)
                have q130:x3_3 < (l0_7.length:Int):=of_decide_eq_true (by first|(with_reducible assumption)|assumption)
                obtain ⟨ad130,e130,hx130_0⟩:=Kd.at_int HR0_7.out x3_3 p130 q130
                cases e130
                replace hx130_0:=(HB.out.cell (World.block_lt_of_cell? w _ hx130_0)).trans hx130_0
                replace p130:=eq_true p130
                replace q130:=eq_true q130
                go_wp2_with (first|((with_reducible refine gate_callee (f:=21) rfl ?_);refine goesL_ (some 78) rfl rfl Try.func21 (by kernel_rfl) rfl #[.int .i64 (rd l0_7 x3_3),.int .i64 0,.int .i64 1099511627776] rfl (by (try simp only [List.map_toArray,List.map_cons,List.map_nil]);first|done|rfl|(simp only [List.length_drop,List.length_take];rfl)) ?_;(with_reducible refine (breadlineref04_in.calls (rd l0_7 x3_3) 0 1099511627776 true _ A66.out).mono ?_);rintro e w' ⟨rfl,⟨nd,rfl⟩⟩;refine ⟨_,rfl,?_⟩;have p135:0 ≤ (x3_3:Int):=of_decide_eq_true (by first|(with_reducible assumption)|assumption);have q135:x3_3 < (l0_6.length:Int):=of_decide_eq_true (by first|(with_reducible assumption)|assumption);obtain ⟨ad135,e135,hx135_0⟩:=Kd.at_int HR0_6.out x3_3 p135 q135;cases e135;replace hx135_0:=(HB.out.cell (World.block_lt_of_cell? w _ hx135_0)).trans hx135_0;replace p135:=eq_true p135;replace q135:=eq_true q135)|(go_at_call 21;(with_reducible refine (breadlineref04_in.calls (rd l0_6 x3_3) 0 (wrap64 (x3_3 - 1)) true _ A78.out).mono ?_);rintro e w' ⟨rfl,⟨nd,rfl⟩⟩))
                go_roundg k3
                case measure=>have:=HJ1.out;have:=HJ56.out;have:=HK3.out;omega
                case rel=>exact ⟨(wrap64 (x3_3 + 1)),(by first|rfl|(simp;done)|(simp [*];done)),H',⟨by have:=HJ1.out;have:=HJ56.out;have:=HK3.out;omega⟩,⟨by (with_reducible repeat (first|refine blk_drewN ?_ _|refine blk_drew ?_|refine blk_alloc ?_ _));exact BK111.out⟩,⟨by repeat (first|(with_reducible first|exact HB.out|apply below_alloc|apply pw_below_drewN|apply below_drew1|refine below_set ?_ GE111.out)|exact HB.out)⟩⟩
               ·replace c79:=Bool.eq_false_iff.mpr c79
                subst c79
                rw [if_neg (show ¬ (false = true) by decide)] at H
                obtain rfl:=Option.some.inj H
                have hz81_gb111:=cells8 BK111.out
                have p130:0 ≤ (x3_3:Int):=of_decide_eq_true (by first|(with_reducible assumption)|assumption)
                have q130:x3_3 < (l0_7.length:Int):=of_decide_eq_true (by first|(with_reducible assumption)|assumption)
                obtain ⟨ad130,e130,hx130_0⟩:=Kd.at_int HR0_7.out x3_3 p130 q130
                cases e130
                replace hx130_0:=(HB.out.cell (World.block_lt_of_cell? w _ hx130_0)).trans hx130_0
                replace p130:=eq_true p130
                replace q130:=eq_true q130
                go_wp2_with (first|((with_reducible refine gate_callee (f:=21) rfl ?_);refine goesL_ (some 78) rfl rfl Try.func21 (by kernel_rfl) rfl #[.int .i64 (rd l0_7 x3_3),.int .i64 0,.int .i64 1099511627776] rfl (by (try simp only [List.map_toArray,List.map_cons,List.map_nil]);first|done|rfl|(simp only [List.length_drop,List.length_take];rfl)) ?_;(with_reducible refine (breadlineref04_in.calls (rd l0_7 x3_3) 0 1099511627776 true _ A66.out).mono ?_);rintro e w' ⟨rfl,⟨nd,rfl⟩⟩;refine ⟨_,rfl,?_⟩;have p135:0 ≤ (x3_3:Int):=of_decide_eq_true (by first|(with_reducible assumption)|assumption);have q135:x3_3 < (l0_6.length:Int):=of_decide_eq_true (by first|(with_reducible assumption)|assumption);obtain ⟨ad135,e135,hx135_0⟩:=Kd.at_int HR0_6.out x3_3 p135 q135;cases e135;replace hx135_0:=(HB.out.cell (World.block_lt_of_cell? w _ hx135_0)).trans hx135_0;replace p135:=eq_true p135;replace q135:=eq_true q135)|(go_at_call 21;(with_reducible refine (breadlineref04_in.calls (rd l0_6 x3_3) 0 (wrap64 (x3_3 - 1)) false _ A78.out).mono ?_);rintro e w' ⟨rfl,⟨nd,rfl⟩⟩))
                go_ret
                exact ⟨by first|rfl|(simp [errW_none,errW_some] <;> rfl)|(simp [*,errW_none,errW_some] <;> rfl),by repeat (first|(with_reducible first|exact HB.out|apply below_alloc|apply pw_below_drewN|apply below_drew1|refine below_set ?_ GE111.out)|exact HB.out)⟩
              ·rw [if_neg c77] at H
               have c77b0:decide (0 < x3_3) = false:=decide_eq_false c77
               clear c77
               have H':=Aside0.mk H
               clear H
               have hz82_gb111:=cells8 BK111.out
               have p130:0 ≤ (x3_3:Int):=of_decide_eq_true (by first|(with_reducible assumption)|assumption)
               have q130:x3_3 < (l0_7.length:Int):=of_decide_eq_true (by first|(with_reducible assumption)|assumption)
               obtain ⟨ad130,e130,hx130_0⟩:=Kd.at_int HR0_7.out x3_3 p130 q130
               cases e130
               replace hx130_0:=(HB.out.cell (World.block_lt_of_cell? w _ hx130_0)).trans hx130_0
               replace p130:=eq_true p130
               replace q130:=eq_true q130
               go_wp2_with (first|((with_reducible refine gate_callee (f:=21) rfl ?_);refine goesL_ (some 78) rfl rfl Try.func21 (by kernel_rfl) rfl #[.int .i64 (rd l0_7 x3_3),.int .i64 0,.int .i64 1099511627776] rfl (by (try simp only [List.map_toArray,List.map_cons,List.map_nil]);first|done|rfl|(simp only [List.length_drop,List.length_take];rfl)) ?_;(with_reducible refine (breadlineref04_in.calls (rd l0_7 x3_3) 0 1099511627776 true _ A66.out).mono ?_);rintro e w' ⟨rfl,⟨nd,rfl⟩⟩;refine ⟨_,rfl,?_⟩))
               go_roundg k3
               case measure=>have:=HJ1.out;have:=HJ56.out;have:=HK3.out;omega
               case rel=>exact ⟨(wrap64 (x3_3 + 1)),(by first|rfl|(simp;done)|(simp [*];done)),H',⟨by have:=HJ1.out;have:=HJ56.out;have:=HK3.out;omega⟩,⟨by (with_reducible repeat (first|refine blk_drewN ?_ _|refine blk_drew ?_|refine blk_alloc ?_ _));exact BK111.out⟩,⟨by repeat (first|(with_reducible first|exact HB.out|apply below_alloc|apply pw_below_drewN|apply below_drew1|refine below_set ?_ GE111.out)|exact HB.out)⟩⟩
            ·replace c67:=Bool.eq_false_iff.mpr c67
             subst c67
             rw [if_neg (show ¬ (false = true) by decide)] at H
             obtain rfl:=Option.some.inj H
             have hz83_gb111:=cells8 BK111.out
             have p130:0 ≤ (x3_3:Int):=of_decide_eq_true (by first|(with_reducible assumption)|assumption)
             have q130:x3_3 < (l0_7.length:Int):=of_decide_eq_true (by first|(with_reducible assumption)|assumption)
             obtain ⟨ad130,e130,hx130_0⟩:=Kd.at_int HR0_7.out x3_3 p130 q130
             cases e130
             replace hx130_0:=(HB.out.cell (World.block_lt_of_cell? w _ hx130_0)).trans hx130_0
             replace p130:=eq_true p130
             replace q130:=eq_true q130
             go_wp2_with (first|((with_reducible refine gate_callee (f:=21) rfl ?_);refine goesL_ (some 78) rfl rfl Try.func21 (by kernel_rfl) rfl #[.int .i64 (rd l0_7 x3_3),.int .i64 0,.int .i64 1099511627776] rfl (by (try simp only [List.map_toArray,List.map_cons,List.map_nil]);first|done|rfl|(simp only [List.length_drop,List.length_take];rfl)) ?_;(with_reducible refine (breadlineref04_in.calls (rd l0_7 x3_3) 0 1099511627776 false _ A66.out).mono ?_);rintro e w' ⟨rfl,⟨nd,rfl⟩⟩;refine ⟨_,rfl,?_⟩))
             go_ret
             exact ⟨by first|rfl|(simp [errW_none,errW_some] <;> rfl)|(simp [*,errW_none,errW_some] <;> rfl),by repeat (first|(with_reducible first|exact HB.out|apply below_alloc|apply pw_below_drewN|apply below_drew1|refine below_set ?_ GE111.out)|exact HB.out)⟩
           ·rw [if_neg c65] at H
            exact absurd H (by simp)
          ·rw [if_neg c64] at H
           exact absurd H (by simp)
         ·rw [if_neg c63] at H
          have c63b0:decide (x3_3 < (l0_6.length:Int)) = false:=decide_eq_false c63
          clear c63
          obtain rfl:=Option.some.inj H
          have hz84_gb111:=cells8 BK111.out
          go_wp2
          go_ret
          exact ⟨by first|rfl|(simp [errW_none,errW_some] <;> rfl)|(simp [*,errW_none,errW_some] <;> rfl),by repeat (first|(with_reducible first|exact HB.out|apply below_alloc|apply pw_below_drewN|apply below_drew1|refine below_set ?_ GE111.out)|exact HB.out)⟩
end Go.Proofs.Ytadblpcjkahikaa.PTraceRuns

