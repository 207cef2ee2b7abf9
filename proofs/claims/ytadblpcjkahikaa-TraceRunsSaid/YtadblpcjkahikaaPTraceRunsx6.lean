
import Derived.Test.YtadblpcjkahikaaPTraceRunsx0
import Derived.Test.YtadblpcjkahikaaPTraceRunsx3
namespace Go.Proofs.Ytadblpcjkahikaa.PTraceRuns
open Go.RowKit Go.Proofs.YtadblpcjkahikaaW.PrintWords Go.Proofs.YtadblpcjkahikaaW.PrintLast Go.Proofs.YtadblpcjkahikaaW.PrintMore
attribute [local go_sem] max2_int min2_int max_two min_two max_three min_three max_four min_four
set_option linter.unusedVariables false
set_option linter.unusedSimpArgs false
set_option maxHeartbeats 8000000
set_option maxRecDepth 100000
mutual
def breadlineref04_Path.j0:Nat→Int→List Int→Bool→Int→Int→Int→Int→Int→Int→List Int→List Int→Option (List Int)
 | 0,_,_,_,_,_,_,_,_,_,_,_=>none
 | k + 1,x1,x5,x15,x187000,x187001,x187002,x187003,x187004,x187005,x187006,x187007=>if x15 = true then (some ([]:List Int)) else (breadlineref04_Path.l0 k x5 x1 x187000 x187001 x187002 x187003 x187004 x187005 x187006 x187007)
def breadlineref04_Path.l0:Nat→List Int→Int→Int→Int→Int→Int→Int→Int→List Int→List Int→Option (List Int)
 | 0,_,_,_,_,_,_,_,_,_,_=>none
 | k + 1,x5,x6,x187000,x187001,x187002,x187003,x187004,x187005,x187006,x187007=>if x6 ≥ 0 then (if x5.length < 17592186044416 then (if 0 ≤ x6 then (if x6 < (x187006.length:Int) then (breadlineref04_Path.l0 k (x5 ++ [x6]) (rd x187006 x6) x187000 x187001 x187002 x187003 x187004 x187005 x187006 x187007) else (none)) else (none)) else (none)) else (some x5)
end
def breadlineref04_Path.f (k:Nat) (a0_0:Int) (a0_1:Int) (a0_2:Int) (a0_3:Int) (a0_4:Int) (a0_5:Int) (l0_6:List Int) (l0_7:List Int) (a1:Int):Option (List Int):=if a1 < 0 then (breadlineref04_Path.j0 k a1 ([]:List Int) true a0_0 a0_1 a0_2 a0_3 a0_4 a0_5 l0_6 l0_7) else (breadlineref04_Path.j0 k a1 ([]:List Int) (decide (a1 ≥ (l0_6.length:Int))) a0_0 a0_1 a0_2 a0_3 a0_4 a0_5 l0_6 l0_7)
theorem breadlineref04_Path.calls (k:Nat) (a0_0:Int) (a0_1:Int) (a0_2:Int) (a0_3:Int) (a0_4:Int) (a0_5:Int) (A0_6:Option Addr) (c0_6:Nat) (l0_6:List Int) (A0_7:Option Addr) (c0_7:Nat) (l0_7:List Int) (a1:Int) (r:List Int) (w:World) (hr0_6:Kd.C (Kd.int .i64) w A0_6 l0_6.length l0_6) (hc0_6:l0_6.length ≤ c0_6) (hr0_7:Kd.C (Kd.int .i64) w A0_7 l0_7.length l0_7) (hc0_7:l0_7.length ≤ c0_7) (h:breadlineref04_Path.f k a0_0 a0_1 a0_2 a0_3 a0_4 a0_5 l0_6 l0_7 a1 = some r) :
  Calls Try.prog 53 #[.agg #[.int .i64 a0_0,.int .i64 a0_1,.int .i64 a0_2,.int .i64 a0_3,.int .i64 a0_4,.int .i64 a0_5,.slice A0_6 l0_6.length c0_6,.slice A0_7 l0_7.length c0_7],.int .i64 a1] w fun e w'=>∃ v0_:Value,e = .returned (v0_)∧Kd.R (Kd.int .i64) 3 w' w.heap.size (fun _=>True) v0_ r∧Below w.heap.size w w':=by
 have hu24:=Try.underlying24
 have HR0_6:=Aside0.mk hr0_6
 have HC0_6:=Aside0.mk hc0_6
 clear hr0_6 hc0_6
 have HR0_7:=Aside0.mk hr0_7
 have HC0_7:=Aside0.mk hc0_7
 clear hr0_7 hc0_7
 have HB:=Aside0.mk (Below.refl w.heap.size w)
 have H:(if a1 < 0 then (breadlineref04_Path.j0 k a1 ([]:List Int) true a0_0 a0_1 a0_2 a0_3 a0_4 a0_5 l0_6 l0_7) else (breadlineref04_Path.j0 k a1 ([]:List Int) (decide (a1 ≥ (l0_6.length:Int))) a0_0 a0_1 a0_2 a0_3 a0_4 a0_5 l0_6 l0_7)) = some r:=h
 clear h
 have HC3:=Aside0.mk H
 clear H
 go_enter Try.func53,Try.ntmps53
 go_upto_region 2 with (first|((with_reducible refine gate_dst (N:=2) rfl ?_);(try (refine gate_guard (by rfl) ?_;dsimp only));refine box_event ?hg (N:=2) ?hd (cs:=#[.int .i64 a0_0,.int .i64 a0_1,.int .i64 a0_2,.int .i64 a0_3,.int .i64 a0_4,.int .i64 a0_5,.slice A0_6 l0_6.length c0_6,.slice A0_7 l0_7.length c0_7]) (t:=24) ?hr ?_;(case hd=>rfl);(case hg=>rfl);(case hr=>first|(go_simp;done)|(go_simp;rfl));intro gb186 hg w4 hbox hb;have n0_:=Aside0.mk (below_step (by repeat (first|(with_reducible first|exact HB.out|apply below_alloc|apply pw_below_drewN|apply below_drew1)|exact HB.out)) hb);have n1_:=Aside0.mk (hbox);have n2_:=Aside0.mk ((by rw [hg];exact (below_size (by repeat (first|(with_reducible first|exact HB.out|apply below_alloc|apply pw_below_drewN|apply below_drew1)|exact HB.out))):w.heap.size ≤ gb186));have n3_:=Aside0.mk ((by rw [hg];exact (below_size (by repeat (first|(with_reducible first|exact HB.out|apply below_alloc|apply pw_below_drewN|apply below_drew1)|exact HB.out))):w.heap.size ≤ gb186));clear HB;have HB:=n0_;have BK186:=n1_;have GW186:=n2_;have GE186:=n3_;clear n0_ n1_ n2_ n3_;clear hb hbox hg))
 (try simp only [Act.put,List.setIfInBounds_toArray,List.set_cons_zero,List.set_cons_succ])
 go_cut [15] (fun v15 wc=>∃ (kq:Nat) (x15_2:Bool),v15 = .bool x15_2∧Aside0 (breadlineref04_Path.j0 kq a1 ([]:List Int) x15_2 a0_0 a0_1 a0_2 a0_3 a0_4 a0_5 l0_6 l0_7 = some r)∧Aside0 (kq ≤ k)∧Aside0 (Kd.R (Kd.int .i64) 3 wc w.heap.size (fun _=>True) (.slice none 0 0) ([]:List Int))∧Aside0 (wc.heap[gb186]? = some (.cells #[.int .i64 a0_0,.int .i64 a0_1,.int .i64 a0_2,.int .i64 a0_3,.int .i64 a0_4,.int .i64 a0_5,(.slice A0_6 l0_6.length c0_6),(.slice A0_7 l0_7.length c0_7)] 24 (0,0)))∧Aside0 (Below w.heap.size w wc))
 case first =>
  have H:=HC3.out
  clear HC3
  by_cases c5:a1 < 0
  ·rw [if_pos c5] at H
   have c5b0:decide (a1 < 0) = true:=decide_eq_true c5
   clear c5
   (first|rw [c5b0]|(simp only [i64_w,i32_w];rw [c5b0])|skip)
   have H':=Aside0.mk H
   clear H
   go_wp2
   go_meet
   case rel=>exact ⟨_,(true),(by first|rfl|(simp;done)|(simp [*];done)),H',⟨by first|omega|exact Nat.le_refl _⟩,⟨by first|exact Kd.R_nil _ _ _ _ _|exact Kd.N_nil _ _ _ _ _|exact Kd.V_nil _ _ _ _ _|exact Kd.Q_nil _ _ _ _ _|exact Kd.S_nil _ _ _ _ _⟩,⟨by (with_reducible repeat (first|refine blk_drewN ?_ _|refine blk_drew ?_|refine blk_alloc ?_ _));exact BK186.out⟩,⟨by repeat (first|(with_reducible first|exact HB.out|apply below_alloc|apply pw_below_drewN|apply below_drew1|refine below_set ?_ GE186.out)|exact HB.out)⟩⟩
  ·rw [if_neg c5] at H
   have c5b0:decide (a1 < 0) = false:=decide_eq_false c5
   clear c5
   (first|rw [c5b0]|(simp only [i64_w,i32_w];rw [c5b0])|skip)
   have H':=Aside0.mk H
   clear H
   have hz6_gb186:=cells8 BK186.out
   go_wp2
   go_meet
   case rel=>exact ⟨_,(decide (a1 ≥ (l0_6.length:Int))),(by first|rfl|(simp;done)|(simp [*];done)),H',⟨by first|omega|exact Nat.le_refl _⟩,⟨by first|exact Kd.R_nil _ _ _ _ _|exact Kd.N_nil _ _ _ _ _|exact Kd.V_nil _ _ _ _ _|exact Kd.Q_nil _ _ _ _ _|exact Kd.S_nil _ _ _ _ _⟩,⟨by (with_reducible repeat (first|refine blk_drewN ?_ _|refine blk_drew ?_|refine blk_alloc ?_ _));exact BK186.out⟩,⟨by repeat (first|(with_reducible first|exact HB.out|apply below_alloc|apply pw_below_drewN|apply below_drew1|refine below_set ?_ GE186.out)|exact HB.out)⟩⟩
 case rest =>
  clear HC3
  try clear p2
  try clear c5
  try clear c5b0
  try clear hz6_gb262
  try clear hz6_gb186
  obtain ⟨kq,x15_2,rfl,HA,HJ2,HO_5,BK186,HB⟩:=hcut
  cases kq with
  | zero=>exact absurd HA.out (by simp [breadlineref04_Path.j0])
  | succ kj2 =>
   have H:=HA.out
   clear HA
   simp only [breadlineref04_Path.j0] at H
   by_cases c7:x15_2 = true
   ·subst c7
    rw [if_pos rfl] at H
    obtain rfl:=Option.some.inj H
    go_wp2
    go_ret
    exact ⟨_,by first|rfl|(simp [errW_none,errW_some] <;> rfl)|(simp [*,errW_none,errW_some] <;> rfl),by first|exact Kd.R_nil _ _ _ _ _|exact Kd.N_nil _ _ _ _ _|exact Kd.V_nil _ _ _ _ _|exact Kd.Q_nil _ _ _ _ _|exact Kd.S_nil _ _ _ _ _,by repeat (first|(with_reducible first|exact HB.out|apply below_alloc|apply pw_below_drewN|apply below_drew1|refine below_set ?_ GE186.out)|exact HB.out)⟩
   ·replace c7:=Bool.eq_false_iff.mpr c7
    subst c7
    rw [if_neg (show ¬ (false = true) by decide)] at H
    have H':=Aside0.mk H
    clear H
    go_wp2
    go_loopg [5,6] kj2 (fun kq v5 v6 w'=>∃ (x5_2:List Int) (x6_2:Int),v6 = .int .i64 x6_2∧Aside0 (breadlineref04_Path.l0 kq x5_2 x6_2 a0_0 a0_1 a0_2 a0_3 a0_4 a0_5 l0_6 l0_7 = some r)∧Aside0 (kq ≤ kj2)∧Aside0 (Kd.R (Kd.int .i64) 3 w' w.heap.size (fun _=>True) v5 x5_2)∧Aside0 (w'.heap[gb186]? = some (.cells #[.int .i64 a0_0,.int .i64 a0_1,.int .i64 a0_2,.int .i64 a0_3,.int .i64 a0_4,.int .i64 a0_5,(.slice A0_6 l0_6.length c0_6),(.slice A0_7 l0_7.length c0_7)] 24 (0,0)))∧Aside0 (Below w.heap.size w w'))
    case atStart=>exact ⟨(([]:List Int)),(a1),(by first|rfl|(simp;done)|(simp [*];done)),H',⟨Nat.le_refl _⟩,⟨by (with_reducible repeat (first|apply Kd.R_alloc|apply Kd.R_drewN|apply Kd.R_drew));exact HO_5.out⟩,⟨by (with_reducible repeat (first|refine blk_drewN ?_ _|refine blk_drew ?_|refine blk_alloc ?_ _));exact BK186.out⟩,⟨by repeat (first|(with_reducible first|exact HB.out|apply below_alloc|apply pw_below_drewN|apply below_drew1|refine below_set ?_ GE186.out)|exact HB.out)⟩⟩
    case round =>
     clear H'
     try clear p2
     try clear c5
     try clear c5b0
     try clear c7
     try clear hz6_gb262
     try clear hz6_gb186
     try clear p2
     obtain ⟨x5_2,x6_2,rfl,HA,HK2,HO_5,BK186,HB⟩:=hrel
     cases gk with
     | zero=>exact absurd HA.out (by simp [breadlineref04_Path.l0])
     | succ k2 =>
      have H:=HA.out
      clear HA
      simp only [breadlineref04_Path.l0] at H
      by_cases c8:x6_2 ≥ 0
      ·rw [if_pos c8] at H
       have c8b0:decide (0 ≤ x6_2) = true:=decide_eq_true c8
       clear c8
       by_cases c9:x5_2.length < 17592186044416
       ·rw [if_pos c9] at H
        have LMc9:=Aside0.mk c9
        clear c9
        obtain ⟨y187,hy187⟩:∃ y_:List Int,y_ = (x5_2 ++ [x6_2]):=⟨_,rfl⟩
        replace H:(if 0 ≤ x6_2 then (if x6_2 < (l0_6.length:Int) then (breadlineref04_Path.l0 k2 y187 (rd l0_6 x6_2) a0_0 a0_1 a0_2 a0_3 a0_4 a0_5 l0_6 l0_7) else (none)) else (none)) = some r:=by first|(rw [hy187];with_reducible exact H)|(have H2_:=(Option.bind_some _ _).symm.trans H;rw [hy187];with_reducible exact H2_)|(have H2_:=(Option.bind_some _ _).symm.trans H;with_reducible exact H2_)|with_reducible exact H|(rw [hy187];exact H)|exact H
        have Ny187:=Aside0.mk hy187
        clear hy187
        by_cases c10:0 ≤ x6_2
        ·rw [if_pos c10] at H
         have c10b0:decide (0 ≤ x6_2) = true:=decide_eq_true c10
         clear c10
         by_cases c11:x6_2 < (l0_6.length:Int)
         ·rw [if_pos c11] at H
          have c11b0:decide (x6_2 < (l0_6.length:Int)) = true:=decide_eq_true c11
          clear c11
          have H':=Aside0.mk H
          clear H
          go_wp2_with (first|((with_reducible refine gate_builtin (b:=.append) (xs:=#[.tmp 24,.tmp 26]) rfl ?_);(try (refine gate_guard (by rfl) ?_;dsimp only));at_builtin;refine Kd.R_append (Kd.int .i64) (w0:=w) w.heap.size rfl (.tmp 24) (.tmp 26) 22 3 (.int .i64 0) 8 rfl Try.underlying22 info3 rfl (by decide) (by omega) u5 x5_2 x6_2 [.int .i64 x6_2] (fun _=>True) (fun _=>False) rfl rfl ?aP (fun _ hk=>hk.elim) ?aF ?aO ?aB ?aS ?aL ?_;(case aP=>exact rfl);(case aB=>exact (by repeat (first|(with_reducible first|exact HB.out|apply below_alloc|apply pw_below_drewN|apply below_drew1|refine below_set ?_ GE186.out)|exact HB.out)));(case aF=>exact (fun _ _=>trivial));(case aO=>exact (by (with_reducible repeat (first|apply Kd.R_alloc|apply Kd.R_drewN|apply Kd.R_drew));exact HO_5.out));(case aS=>exact (below_size (by repeat (first|(with_reducible first|exact HB.out|apply below_alloc|apply pw_below_drewN|apply below_drew1|refine below_set ?_ GE186.out)|exact HB.out))));(case aL=>have:=LMc9.out;omega);intro v188 w12 ho hb hg hat;rw [← Ny187.out] at ho;have n0_:=Aside0.mk (blk_grown (g:=gb186) (o:=.cells #[.int .i64 a0_0,.int .i64 a0_1,.int .i64 a0_2,.int .i64 a0_3,.int .i64 a0_4,.int .i64 a0_5,.slice A0_6 l0_6.length c0_6,.slice A0_7 l0_7.length c0_7] 24 (0,0)) (by (with_reducible repeat (first|refine blk_drewN ?_ _|refine blk_drew ?_|refine blk_alloc ?_ _));exact BK186.out) hg (Kd.R_ne HO_5.out BK186.out (by decide)));have n1_:=Aside0.mk (hb);have n2_:=Aside0.mk (ho);clear BK186;clear HB;clear HO_5;have BK186:=n0_;have HB:=n1_;have HO189:=n2_;clear n0_ n1_ n2_;clear ho hb hg hat;have hz13_gb186:=cells8 BK186.out;have p190:0 ≤ (x6_2:Int):=of_decide_eq_true (by first|(with_reducible assumption)|assumption);have q190:x6_2 < (l0_6.length:Int):=of_decide_eq_true (by first|(with_reducible assumption)|assumption);obtain ⟨ad190,e190,hx190_0⟩:=Kd.at_int HR0_6.out x6_2 p190 q190;cases e190;replace hx190_0:=(HB.out.cell (World.block_lt_of_cell? w _ hx190_0)).trans hx190_0;replace p190:=eq_true p190;replace q190:=eq_true q190))
          go_roundg k2
          case measure=>have:=HJ2.out;have:=HK2.out;omega
          case rel=>exact ⟨(y187),(rd l0_6 x6_2),(by first|rfl|(simp;done)|(simp [*];done)),H',⟨by have:=HJ2.out;have:=HK2.out;omega⟩,⟨by (with_reducible repeat (first|apply Kd.R_alloc|apply Kd.R_drewN|apply Kd.R_drew));exact HO189.out⟩,⟨by (with_reducible repeat (first|refine blk_drewN ?_ _|refine blk_drew ?_|refine blk_alloc ?_ _));exact BK186.out⟩,⟨by repeat (first|(with_reducible first|exact HB.out|apply below_alloc|apply pw_below_drewN|apply below_drew1|refine below_set ?_ GE186.out)|exact HB.out)⟩⟩
         ·rw [if_neg c11] at H
          exact absurd H (by simp)
        ·rw [if_neg c10] at H
         exact absurd H (by simp)
       ·rw [if_neg c9] at H
        exact absurd H (by simp)
      ·rw [if_neg c8] at H
       have c8b0:decide (0 ≤ x6_2) = false:=decide_eq_false c8
       clear c8
       obtain rfl:=Option.some.inj H
       go_wp2
       go_ret
       exact ⟨_,by first|rfl|(simp [errW_none,errW_some] <;> rfl)|(simp [*,errW_none,errW_some] <;> rfl),by (with_reducible repeat (first|apply Kd.R_alloc|apply Kd.R_drewN|apply Kd.R_drew));exact HO_5.out,by repeat (first|(with_reducible first|exact HB.out|apply below_alloc|apply pw_below_drewN|apply below_drew1|refine below_set ?_ GE186.out)|exact HB.out)⟩
def IsS104 (w0 W:World) (g:Nat) (f0:Int) (f1:Int) (f2:Int) (f3:Bool) (f4:List Int) (f5:Int) (f6:Int) (f7:Bool) (f8:Int) (f9:Bool):Prop:=∃ A4 c4,W.heap[g]? = some (.cells #[.int .i64 f0,.int .i64 f1,.int .i64 f2,.bool f3,.slice A4 f4.length c4,.int .i64 f5,.int .i64 f6,.bool f7,.int .i64 f8,.bool f9] 104 (0,0))∧w0.heap.size ≤ g∧Kd.C (Kd.int .i64) w0 A4 f4.length f4
theorem IsS104.grown {w0 W:World} {g:Nat} {f0:Int} {f1:Int} {f2:Int} {f3:Bool} {f4:List Int} {f5:Int} {f6:Int} {f7:Bool} {f8:Int} {f9:Bool} {W1:World} {row:Option Nat} (h:IsS104 w0 W g f0 f1 f2 f3 f4 f5 f6 f7 f8 f9) (hw:W.grownBy W1 row) (hne:some g ≠ row):IsS104 w0 W1 g f0 f1 f2 f3 f4 f5 f6 f7 f8 f9:=by
 obtain ⟨A4,c4,hb,hg,hr4⟩:=h
 exact ⟨A4,c4,blk_grown hb hw hne,hg,hr4⟩
theorem IsS104.kept {w0 W:World} {g:Nat} {f0:Int} {f1:Int} {f2:Int} {f3:Bool} {f4:List Int} {f5:Int} {f6:Int} {f7:Bool} {f8:Int} {f9:Bool} {W1:World} {S:Nat→Prop} (h:IsS104 w0 W g f0 f1 f2 f3 f4 f5 f6 f7 f8 f9) (hk:Kept W W1 S) (hne:¬ S g):IsS104 w0 W1 g f0 f1 f2 f3 f4 f5 f6 f7 f8 f9:=by
 obtain ⟨A4,c4,hb,hg,hr4⟩:=h
 exact ⟨A4,c4,blk_kept hb hk hne,hg,hr4⟩
theorem IsS104.below {w0 W:World} {g:Nat} {f0:Int} {f1:Int} {f2:Int} {f3:Bool} {f4:List Int} {f5:Int} {f6:Int} {f7:Bool} {f8:Int} {f9:Bool} {W1:World} (h:IsS104 w0 W g f0 f1 f2 f3 f4 f5 f6 f7 f8 f9) (hw:Below W.heap.size W W1):IsS104 w0 W1 g f0 f1 f2 f3 f4 f5 f6 f7 f8 f9:=h.grown (grown_of_below hw none) (by simp)
theorem IsS104.alloc {w0 W:World} {g:Nat} {f0:Int} {f1:Int} {f2:Int} {f3:Bool} {f4:List Int} {f5:Int} {f6:Int} {f7:Bool} {f8:Int} {f9:Bool} (h:IsS104 w0 W g f0 f1 f2 f3 f4 f5 f6 f7 f8 f9) (o:Obj):IsS104 w0 (W.alloc o) g f0 f1 f2 f3 f4 f5 f6 f7 f8 f9:=h.below (below_alloc (Below.refl _ _) o)
theorem IsS104.drewN {w0 W:World} {g:Nat} {f0:Int} {f1:Int} {f2:Int} {f3:Bool} {f4:List Int} {f5:Int} {f6:Int} {f7:Bool} {f8:Int} {f9:Bool} (h:IsS104 w0 W g f0 f1 f2 f3 f4 f5 f6 f7 f8 f9) (m:Nat):IsS104 w0 (W.drewN m) g f0 f1 f2 f3 f4 f5 f6 f7 f8 f9:=h
theorem IsS104.drew {w0 W:World} {g:Nat} {f0:Int} {f1:Int} {f2:Int} {f3:Bool} {f4:List Int} {f5:Int} {f6:Int} {f7:Bool} {f8:Int} {f9:Bool} (h:IsS104 w0 W g f0 f1 f2 f3 f4 f5 f6 f7 f8 f9):IsS104 w0 W.drew g f0 f1 f2 f3 f4 f5 f6 f7 f8 f9:=h
theorem IsS104.at_ {w0 W:World} {g:Nat} {f0:Int} {f1:Int} {f2:Int} {f3:Bool} {f4:List Int} {f5:Int} {f6:Int} {f7:Bool} {f8:Int} {f9:Bool} {w':World} {m:Nat} (hq:W.drewN m = w') (h:IsS104 w0 W g f0 f1 f2 f3 f4 f5 f6 f7 f8 f9):IsS104 w0 w' g f0 f1 f2 f3 f4 f5 f6 f7 f8 f9:=by subst hq;exact IsS104.drewN h m
theorem IsS104.apart {w0 W:World} {g:Nat} {f0:Int} {f1:Int} {f2:Int} {f3:Bool} {f4:List Int} {f5:Int} {f6:Int} {f7:Bool} {f8:Int} {f9:Bool} {α:Type} {d:Kd α} {e:Nat} {base:Nat} {ok:Nat→Prop} {v:Value} {xs:List α} (h:IsS104 w0 W g f0 f1 f2 f3 f4 f5 f6 f7 f8 f9) (ho:d.R e W base ok v xs) (ht:∀ q,q ∈ e :: d.E→q ≠ 104):d.R e W base (fun k=>ok k∧k ≠ g) v xs:=by
 obtain ⟨A4,c4,hb,hg,hr4⟩:=h
 exact Kd.R_types ho hb ht
theorem IsS104.own_ne {w0 W:World} {g:Nat} {f0:Int} {f1:Int} {f2:Int} {f3:Bool} {f4:List Int} {f5:Int} {f6:Int} {f7:Bool} {f8:Int} {f9:Bool} {α:Type} {d:Kd α} {e:Nat} {base:Nat} {ok:Nat→Prop} {v:Value} {xs:List α} (h:IsS104 w0 W g f0 f1 f2 f3 f4 f5 f6 f7 f8 f9) (ho:d.R e W base ok v xs) (ht:e ≠ 104):some g ≠ v.ownBlock:=by
 obtain ⟨A4,c4,hb,hg,hr4⟩:=h
 exact Kd.R_ne ho hb ht
theorem IsS104.lt {w0 W:World} {g:Nat} {f0:Int} {f1:Int} {f2:Int} {f3:Bool} {f4:List Int} {f5:Int} {f6:Int} {f7:Bool} {f8:Int} {f9:Bool} (h:IsS104 w0 W g f0 f1 f2 f3 f4 f5 f6 f7 f8 f9):g < W.heap.size:=by
 obtain ⟨A4,c4,hb,hg,hr4⟩:=h
 exact blk_lt hb
theorem IsS104.ge {w0 W:World} {g:Nat} {f0:Int} {f1:Int} {f2:Int} {f3:Bool} {f4:List Int} {f5:Int} {f6:Int} {f7:Bool} {f8:Int} {f9:Bool} (h:IsS104 w0 W g f0 f1 f2 f3 f4 f5 f6 f7 f8 f9):w0.heap.size ≤ g:=by
 obtain ⟨A4,c4,hb,hg,hr4⟩:=h
 exact hg
theorem IsS104.new (w0 W:World) (A4:Option Addr) (c4:Nat) (f0:Int) (f1:Int) (f2:Int) (f3:Bool) (f4:List Int) (f5:Int) (f6:Int) (f7:Bool) (f8:Int) (f9:Bool) (hB:Below w0.heap.size w0 W) (hr4:Kd.C (Kd.int .i64) w0 A4 f4.length f4):IsS104 w0 (W.alloc (.cells #[.int .i64 f0,.int .i64 f1,.int .i64 f2,.bool f3,.slice A4 f4.length c4,.int .i64 f5,.int .i64 f6,.bool f7,.int .i64 f8,.bool f9] 104)) W.heap.size f0 f1 f2 f3 f4 f5 f6 f7 f8 f9:=⟨A4,c4,by simpa using heap_alloc_new W _,hB.size,hr4⟩
def IsS112 (w0 W:World) (g:Nat) (f0:Int) (f1:Int) (f2:Int) (f3:Int) (f4:Int) (f5:Int) (f6:List Int) (f7:List Int) (f8:Int) (f9:Int) (f10:Bool) (f11:Int) (f12:Int) (f13:Bool) (f14:Int) (f15:Int) (f16:Bool) (f17:Int):Prop:=∃ A6 c6,∃ A7 c7,W.heap[g]? = some (.cells #[.int .i64 f0,.int .i64 f1,.int .i64 f2,.int .i64 f3,.int .i64 f4,.int .i64 f5,.slice A6 f6.length c6,.slice A7 f7.length c7,.int .i64 f8,.int .i64 f9,.bool f10,.int .i64 f11,.int .i64 f12,.bool f13,.int .i64 f14,.int .i64 f15,.bool f16,.int .i64 f17] 112 (0,0))∧w0.heap.size ≤ g∧Kd.C (Kd.int .i64) w0 A6 f6.length f6∧Kd.C (Kd.int .i64) w0 A7 f7.length f7
theorem IsS112.grown {w0 W:World} {g:Nat} {f0:Int} {f1:Int} {f2:Int} {f3:Int} {f4:Int} {f5:Int} {f6:List Int} {f7:List Int} {f8:Int} {f9:Int} {f10:Bool} {f11:Int} {f12:Int} {f13:Bool} {f14:Int} {f15:Int} {f16:Bool} {f17:Int} {W1:World} {row:Option Nat} (h:IsS112 w0 W g f0 f1 f2 f3 f4 f5 f6 f7 f8 f9 f10 f11 f12 f13 f14 f15 f16 f17) (hw:W.grownBy W1 row) (hne:some g ≠ row):IsS112 w0 W1 g f0 f1 f2 f3 f4 f5 f6 f7 f8 f9 f10 f11 f12 f13 f14 f15 f16 f17:=by
 obtain ⟨A6,c6,A7,c7,hb,hg,hr6,hr7⟩:=h
 exact ⟨A6,c6,A7,c7,blk_grown hb hw hne,hg,hr6,hr7⟩
theorem IsS112.kept {w0 W:World} {g:Nat} {f0:Int} {f1:Int} {f2:Int} {f3:Int} {f4:Int} {f5:Int} {f6:List Int} {f7:List Int} {f8:Int} {f9:Int} {f10:Bool} {f11:Int} {f12:Int} {f13:Bool} {f14:Int} {f15:Int} {f16:Bool} {f17:Int} {W1:World} {S:Nat→Prop} (h:IsS112 w0 W g f0 f1 f2 f3 f4 f5 f6 f7 f8 f9 f10 f11 f12 f13 f14 f15 f16 f17) (hk:Kept W W1 S) (hne:¬ S g):IsS112 w0 W1 g f0 f1 f2 f3 f4 f5 f6 f7 f8 f9 f10 f11 f12 f13 f14 f15 f16 f17:=by
 obtain ⟨A6,c6,A7,c7,hb,hg,hr6,hr7⟩:=h
 exact ⟨A6,c6,A7,c7,blk_kept hb hk hne,hg,hr6,hr7⟩
theorem IsS112.below {w0 W:World} {g:Nat} {f0:Int} {f1:Int} {f2:Int} {f3:Int} {f4:Int} {f5:Int} {f6:List Int} {f7:List Int} {f8:Int} {f9:Int} {f10:Bool} {f11:Int} {f12:Int} {f13:Bool} {f14:Int} {f15:Int} {f16:Bool} {f17:Int} {W1:World} (h:IsS112 w0 W g f0 f1 f2 f3 f4 f5 f6 f7 f8 f9 f10 f11 f12 f13 f14 f15 f16 f17) (hw:Below W.heap.size W W1):IsS112 w0 W1 g f0 f1 f2 f3 f4 f5 f6 f7 f8 f9 f10 f11 f12 f13 f14 f15 f16 f17:=h.grown (grown_of_below hw none) (by simp)
theorem IsS112.alloc {w0 W:World} {g:Nat} {f0:Int} {f1:Int} {f2:Int} {f3:Int} {f4:Int} {f5:Int} {f6:List Int} {f7:List Int} {f8:Int} {f9:Int} {f10:Bool} {f11:Int} {f12:Int} {f13:Bool} {f14:Int} {f15:Int} {f16:Bool} {f17:Int} (h:IsS112 w0 W g f0 f1 f2 f3 f4 f5 f6 f7 f8 f9 f10 f11 f12 f13 f14 f15 f16 f17) (o:Obj):IsS112 w0 (W.alloc o) g f0 f1 f2 f3 f4 f5 f6 f7 f8 f9 f10 f11 f12 f13 f14 f15 f16 f17:=h.below (below_alloc (Below.refl _ _) o)
theorem IsS112.drewN {w0 W:World} {g:Nat} {f0:Int} {f1:Int} {f2:Int} {f3:Int} {f4:Int} {f5:Int} {f6:List Int} {f7:List Int} {f8:Int} {f9:Int} {f10:Bool} {f11:Int} {f12:Int} {f13:Bool} {f14:Int} {f15:Int} {f16:Bool} {f17:Int} (h:IsS112 w0 W g f0 f1 f2 f3 f4 f5 f6 f7 f8 f9 f10 f11 f12 f13 f14 f15 f16 f17) (m:Nat):IsS112 w0 (W.drewN m) g f0 f1 f2 f3 f4 f5 f6 f7 f8 f9 f10 f11 f12 f13 f14 f15 f16 f17:=h
theorem IsS112.drew {w0 W:World} {g:Nat} {f0:Int} {f1:Int} {f2:Int} {f3:Int} {f4:Int} {f5:Int} {f6:List Int} {f7:List Int} {f8:Int} {f9:Int} {f10:Bool} {f11:Int} {f12:Int} {f13:Bool} {f14:Int} {f15:Int} {f16:Bool} {f17:Int} (h:IsS112 w0 W g f0 f1 f2 f3 f4 f5 f6 f7 f8 f9 f10 f11 f12 f13 f14 f15 f16 f17):IsS112 w0 W.drew g f0 f1 f2 f3 f4 f5 f6 f7 f8 f9 f10 f11 f12 f13 f14 f15 f16 f17:=h
theorem IsS112.at_ {w0 W:World} {g:Nat} {f0:Int} {f1:Int} {f2:Int} {f3:Int} {f4:Int} {f5:Int} {f6:List Int} {f7:List Int} {f8:Int} {f9:Int} {f10:Bool} {f11:Int} {f12:Int} {f13:Bool} {f14:Int} {f15:Int} {f16:Bool} {f17:Int} {w':World} {m:Nat} (hq:W.drewN m = w') (h:IsS112 w0 W g f0 f1 f2 f3 f4 f5 f6 f7 f8 f9 f10 f11 f12 f13 f14 f15 f16 f17):IsS112 w0 w' g f0 f1 f2 f3 f4 f5 f6 f7 f8 f9 f10 f11 f12 f13 f14 f15 f16 f17:=by subst hq;exact IsS112.drewN h m
theorem IsS112.apart {w0 W:World} {g:Nat} {f0:Int} {f1:Int} {f2:Int} {f3:Int} {f4:Int} {f5:Int} {f6:List Int} {f7:List Int} {f8:Int} {f9:Int} {f10:Bool} {f11:Int} {f12:Int} {f13:Bool} {f14:Int} {f15:Int} {f16:Bool} {f17:Int} {α:Type} {d:Kd α} {e:Nat} {base:Nat} {ok:Nat→Prop} {v:Value} {xs:List α} (h:IsS112 w0 W g f0 f1 f2 f3 f4 f5 f6 f7 f8 f9 f10 f11 f12 f13 f14 f15 f16 f17) (ho:d.R e W base ok v xs) (ht:∀ q,q ∈ e :: d.E→q ≠ 112):d.R e W base (fun k=>ok k∧k ≠ g) v xs:=by
 obtain ⟨A6,c6,A7,c7,hb,hg,hr6,hr7⟩:=h
 exact Kd.R_types ho hb ht
theorem IsS112.own_ne {w0 W:World} {g:Nat} {f0:Int} {f1:Int} {f2:Int} {f3:Int} {f4:Int} {f5:Int} {f6:List Int} {f7:List Int} {f8:Int} {f9:Int} {f10:Bool} {f11:Int} {f12:Int} {f13:Bool} {f14:Int} {f15:Int} {f16:Bool} {f17:Int} {α:Type} {d:Kd α} {e:Nat} {base:Nat} {ok:Nat→Prop} {v:Value} {xs:List α} (h:IsS112 w0 W g f0 f1 f2 f3 f4 f5 f6 f7 f8 f9 f10 f11 f12 f13 f14 f15 f16 f17) (ho:d.R e W base ok v xs) (ht:e ≠ 112):some g ≠ v.ownBlock:=by
 obtain ⟨A6,c6,A7,c7,hb,hg,hr6,hr7⟩:=h
 exact Kd.R_ne ho hb ht
theorem IsS112.lt {w0 W:World} {g:Nat} {f0:Int} {f1:Int} {f2:Int} {f3:Int} {f4:Int} {f5:Int} {f6:List Int} {f7:List Int} {f8:Int} {f9:Int} {f10:Bool} {f11:Int} {f12:Int} {f13:Bool} {f14:Int} {f15:Int} {f16:Bool} {f17:Int} (h:IsS112 w0 W g f0 f1 f2 f3 f4 f5 f6 f7 f8 f9 f10 f11 f12 f13 f14 f15 f16 f17):g < W.heap.size:=by
 obtain ⟨A6,c6,A7,c7,hb,hg,hr6,hr7⟩:=h
 exact blk_lt hb
theorem IsS112.ge {w0 W:World} {g:Nat} {f0:Int} {f1:Int} {f2:Int} {f3:Int} {f4:Int} {f5:Int} {f6:List Int} {f7:List Int} {f8:Int} {f9:Int} {f10:Bool} {f11:Int} {f12:Int} {f13:Bool} {f14:Int} {f15:Int} {f16:Bool} {f17:Int} (h:IsS112 w0 W g f0 f1 f2 f3 f4 f5 f6 f7 f8 f9 f10 f11 f12 f13 f14 f15 f16 f17):w0.heap.size ≤ g:=by
 obtain ⟨A6,c6,A7,c7,hb,hg,hr6,hr7⟩:=h
 exact hg
theorem IsS112.new (w0 W:World) (A6:Option Addr) (c6:Nat) (A7:Option Addr) (c7:Nat) (f0:Int) (f1:Int) (f2:Int) (f3:Int) (f4:Int) (f5:Int) (f6:List Int) (f7:List Int) (f8:Int) (f9:Int) (f10:Bool) (f11:Int) (f12:Int) (f13:Bool) (f14:Int) (f15:Int) (f16:Bool) (f17:Int) (hB:Below w0.heap.size w0 W) (hr6:Kd.C (Kd.int .i64) w0 A6 f6.length f6) (hr7:Kd.C (Kd.int .i64) w0 A7 f7.length f7):IsS112 w0 (W.alloc (.cells #[.int .i64 f0,.int .i64 f1,.int .i64 f2,.int .i64 f3,.int .i64 f4,.int .i64 f5,.slice A6 f6.length c6,.slice A7 f7.length c7,.int .i64 f8,.int .i64 f9,.bool f10,.int .i64 f11,.int .i64 f12,.bool f13,.int .i64 f14,.int .i64 f15,.bool f16,.int .i64 f17] 112)) W.heap.size f0 f1 f2 f3 f4 f5 f6 f7 f8 f9 f10 f11 f12 f13 f14 f15 f16 f17:=⟨A6,c6,A7,c7,by simpa using heap_alloc_new W _,hB.size,hr6,hr7⟩
def breadlineref01_Version.f (a0:Int):Option (Int):=some (wrap64 ((IntKind.u64.wrap (a0)) / 4294967296))
theorem breadlineref01_Version.calls (a0:Int) (r:Int) (w:World) (h:breadlineref01_Version.f a0 = some r) :
  Calls Try.prog 69 #[.int .i64 a0] w fun e w'=>e = .returned (.int .i64 r)∧Drawn0 w w':=by
 have H:(some (wrap64 ((IntKind.u64.wrap (a0)) / 4294967296))) = some r:=h
 clear h
 obtain rfl:=Option.some.inj H
 go_enter Try.func69,Try.ntmps69
 go_wp2
 go_ret
 exact ⟨by first|rfl|(simp;done)|(simp [*];done),by repeat (first|exact Drawn0.refl _|apply Drawn0.step)⟩
def breadlineref01_Word.f (a0:Int) (a1:Int):Option (Int × Bool):=if a0 < 0 then (some (0,false)) else (if a0 ≥ 4294967296 then (some (0,false)) else (if a1 < (-2147483648) then (some (0,false)) else (if a1 ≥ 2147483648 then (some (0,false)) else (some (wrap64 (Go.bits .or .u64 (IntKind.u64.wrap ((IntKind.u64.wrap (a0)) * 4294967296)) ((a1) % 4294967296)),true)))))
theorem breadlineref01_Word.calls (a0:Int) (a1:Int) (r1:Int) (r2:Bool) (w:World) (h:breadlineref01_Word.f a0 a1 = some (r1,r2)) :
  Calls Try.prog 90 #[.int .i64 a0,.int .i64 a1] w fun e w'=>e = .returned (.tuple #[.int .i64 r1,.bool r2])∧Drawn0 w w':=by
 have H:(if a0 < 0 then (some (0,false)) else (if a0 ≥ 4294967296 then (some (0,false)) else (if a1 < (-2147483648) then (some (0,false)) else (if a1 ≥ 2147483648 then (some (0,false)) else (some (wrap64 (Go.bits .or .u64 (IntKind.u64.wrap ((IntKind.u64.wrap (a0)) * 4294967296)) ((a1) % 4294967296)),true)))))) = some (r1,r2):=h
 clear h
 by_cases c3:a0 < 0
 ·rw [if_pos c3] at H
  have c3b0:decide (a0 < 0) = true:=decide_eq_true c3
  clear c3
  simp only [Option.some.injEq,Prod.mk.injEq] at H
  obtain ⟨rfl,rfl⟩:=H
  go_enter Try.func90,Try.ntmps90
  go_wp2
  go_ret2
  exact ⟨by first|rfl|(simp;done)|(simp [*];done),by repeat (first|exact Drawn0.refl _|apply Drawn0.step)⟩
 ·rw [if_neg c3] at H
  have c3b0:decide (a0 < 0) = false:=decide_eq_false c3
  clear c3
  by_cases c4:a0 ≥ 4294967296
  ·rw [if_pos c4] at H
   have c4b0:decide (4294967296 ≤ a0) = true:=decide_eq_true c4
   clear c4
   simp only [Option.some.injEq,Prod.mk.injEq] at H
   obtain ⟨rfl,rfl⟩:=H
   go_enter Try.func90,Try.ntmps90
   go_wp2
   go_ret2
   exact ⟨by first|rfl|(simp;done)|(simp [*];done),by repeat (first|exact Drawn0.refl _|apply Drawn0.step)⟩
  ·rw [if_neg c4] at H
   have c4b0:decide (4294967296 ≤ a0) = false:=decide_eq_false c4
   clear c4
   by_cases c5:a1 < (-2147483648)
   ·rw [if_pos c5] at H
    have c5b0:decide (a1 < (-2147483648)) = true:=decide_eq_true c5
    clear c5
    simp only [Option.some.injEq,Prod.mk.injEq] at H
    obtain ⟨rfl,rfl⟩:=H
    go_enter Try.func90,Try.ntmps90
    go_wp2
    go_ret2
    exact ⟨by first|rfl|(simp;done)|(simp [*];done),by repeat (first|exact Drawn0.refl _|apply Drawn0.step)⟩
   ·rw [if_neg c5] at H
    have c5b0:decide (a1 < (-2147483648)) = false:=decide_eq_false c5
    clear c5
    by_cases c6:a1 ≥ 2147483648
    ·rw [if_pos c6] at H
     have c6b0:decide (2147483648 ≤ a1) = true:=decide_eq_true c6
     clear c6
     simp only [Option.some.injEq,Prod.mk.injEq] at H
     obtain ⟨rfl,rfl⟩:=H
     go_enter Try.func90,Try.ntmps90
     go_wp2
     go_ret2
     exact ⟨by first|rfl|(simp;done)|(simp [*];done),by repeat (first|exact Drawn0.refl _|apply Drawn0.step)⟩
    ·rw [if_neg c6] at H
     have c6b0:decide (2147483648 ≤ a1) = false:=decide_eq_false c6
     clear c6
     simp only [Option.some.injEq,Prod.mk.injEq] at H
     obtain ⟨rfl,rfl⟩:=H
     go_enter Try.func90,Try.ntmps90
     go_wp2
     go_ret2
     exact ⟨by first|rfl|(simp;done)|(simp [*];done),by repeat (first|exact Drawn0.refl _|apply Drawn0.step)⟩
def breadlineref01_Next.f (a0:Int) (a1:Int):Option (Int × Bool):=(breadlineref01_Version.f a0).bind fun t236=>(if (wrap64 (t236 + 1)) = 4294967296 then ((breadlineref01_Word.f 0 a1).bind fun bt237=>(some (bt237.1,bt237.2))) else ((breadlineref01_Word.f (wrap64 (t236 + 1)) a1).bind fun bt239=>(some (bt239.1,bt239.2))))
theorem breadlineref01_Next.calls (a0:Int) (a1:Int) (r1:Int) (r2:Bool) (w:World) (h:breadlineref01_Next.f a0 a1 = some (r1,r2)) :
  Calls Try.prog 82 #[.int .i64 a0,.int .i64 a1] w fun e w'=>e = .returned (.tuple #[.int .i64 r1,.bool r2])∧Drawn0 w w':=by
 have H:((breadlineref01_Version.f a0).bind fun t236=>(if (wrap64 (t236 + 1)) = 4294967296 then ((breadlineref01_Word.f 0 a1).bind fun bt237=>(some (bt237.1,bt237.2))) else ((breadlineref01_Word.f (wrap64 (t236 + 1)) a1).bind fun bt239=>(some (bt239.1,bt239.2))))) = some (r1,r2):=h
 clear h
 replace H:=Option.bind_eq_some_iff.mp H
 obtain ⟨t236,A30,H⟩:=H
 replace H:(if (wrap64 (t236 + 1)) = 4294967296 then ((breadlineref01_Word.f 0 a1).bind fun bt237=>(some (bt237.1,bt237.2))) else ((breadlineref01_Word.f (wrap64 (t236 + 1)) a1).bind fun bt239=>(some (bt239.1,bt239.2)))) = some (r1,r2):=H
 have A3:=Aside0.mk A30
 clear A30
 by_cases c4:(wrap64 (t236 + 1)) = 4294967296
 ·rw [if_pos c4] at H
  have c4b0:((wrap64 (t236 + 1)) == 4294967296) = true:=beq_iff_eq.mpr c4
  have c4b1:((wrap64 (t236 + 1)) != 4294967296) = false:=bne_eq_false_iff_eq.mpr c4
  clear c4
  replace H:=Option.bind_eq_some_iff.mp H
  obtain ⟨⟨t237,t238⟩,A50,H⟩:=H
  replace H:(some (t237,t238)) = some (r1,r2):=H
  have A5:=Aside0.mk A50
  clear A50
  simp only [Option.some.injEq,Prod.mk.injEq] at H
  obtain ⟨rfl,rfl⟩:=H
  go_enter Try.func82,Try.ntmps82
  go_wp2_with (first|((with_reducible refine gate_callee (f:=69) rfl ?_);refine goesL_ (some 10) rfl rfl Try.func69 (by kernel_rfl) rfl #[.int .i64 a0] rfl (by (try simp only [List.map_toArray,List.map_cons,List.map_nil]);first|done|rfl|(simp only [List.length_drop,List.length_take];rfl)) ?_;(with_reducible refine (breadlineref01_Version.calls a0 t236 _ A3.out).mono ?_);rintro e w' ⟨rfl,⟨nd,rfl⟩⟩;refine ⟨_,rfl,?_⟩)|((with_reducible refine gate_callee (f:=90) rfl ?_);refine goesL_ (some 17) rfl rfl Try.func90 (by kernel_rfl) rfl #[.int .i64 0,.int .i64 a1] rfl (by (try simp only [List.map_toArray,List.map_cons,List.map_nil]);first|done|rfl|(simp only [List.length_drop,List.length_take];rfl)) ?_;(with_reducible refine (breadlineref01_Word.calls 0 a1 t237 t238 _ A5.out).mono ?_);rintro e w' ⟨rfl,⟨nd,rfl⟩⟩;refine ⟨_,rfl,?_⟩))
  go_ret2
  exact ⟨by first|rfl|(simp;done)|(simp [*];done),by repeat (first|exact Drawn0.refl _|apply Drawn0.step)⟩
 ·rw [if_neg c4] at H
  have c4b0:((wrap64 (t236 + 1)) == 4294967296) = false:=beq_eq_false_iff_ne.mpr c4
  have c4b1:((wrap64 (t236 + 1)) != 4294967296) = true:=bne_iff_ne.mpr c4
  replace H:=Option.bind_eq_some_iff.mp H
  obtain ⟨⟨t239,t240⟩,A60,H⟩:=H
  replace H:(some (t239,t240)) = some (r1,r2):=H
  have A6:=Aside0.mk A60
  clear A60
  simp only [Option.some.injEq,Prod.mk.injEq] at H
  obtain ⟨rfl,rfl⟩:=H
  go_enter Try.func82,Try.ntmps82
  go_wp2_with (first|((with_reducible refine gate_callee (f:=69) rfl ?_);refine goesL_ (some 10) rfl rfl Try.func69 (by kernel_rfl) rfl #[.int .i64 a0] rfl (by (try simp only [List.map_toArray,List.map_cons,List.map_nil]);first|done|rfl|(simp only [List.length_drop,List.length_take];rfl)) ?_;(with_reducible refine (breadlineref01_Version.calls a0 t236 _ A3.out).mono ?_);rintro e w' ⟨rfl,⟨nd,rfl⟩⟩;refine ⟨_,rfl,?_⟩)|((with_reducible refine gate_callee (f:=90) rfl ?_);refine goesL_ (some 17) rfl rfl Try.func90 (by kernel_rfl) rfl #[.int .i64 (wrap64 (t236 + 1)),.int .i64 a1] rfl (by (try simp only [List.map_toArray,List.map_cons,List.map_nil]);first|done|rfl|(simp only [List.length_drop,List.length_take];rfl)) ?_;(with_reducible refine (breadlineref01_Word.calls (wrap64 (t236 + 1)) a1 t239 t240 _ A6.out).mono ?_);rintro e w' ⟨rfl,⟨nd,rfl⟩⟩;refine ⟨_,rfl,?_⟩))
  go_ret2
  exact ⟨by first|rfl|(simp;done)|(simp [*];done),by repeat (first|exact Drawn0.refl _|apply Drawn0.step)⟩
def breadlineref10_Turn.f (a0:Int) (a1:Int):Option (Int × Bool):=if a1 < 0 then (some (0,false)) else (if a1 > 3 then (some (0,false)) else ((breadlineref01_Next.f a0 a1).bind fun bt241=>(some (bt241.1,bt241.2))))
theorem breadlineref10_Turn.calls (a0:Int) (a1:Int) (r1:Int) (r2:Bool) (w:World) (h:breadlineref10_Turn.f a0 a1 = some (r1,r2)) :
  Calls Try.prog 61 #[.int .i64 a0,.int .i64 a1] w fun e w'=>e = .returned (.tuple #[.int .i64 r1,.bool r2])∧Drawn0 w w':=by
 have H:(if a1 < 0 then (some (0,false)) else (if a1 > 3 then (some (0,false)) else ((breadlineref01_Next.f a0 a1).bind fun bt241=>(some (bt241.1,bt241.2))))) = some (r1,r2):=h
 clear h
 by_cases c3:a1 < 0
 ·rw [if_pos c3] at H
  have c3b0:decide (a1 < 0) = true:=decide_eq_true c3
  clear c3
  simp only [Option.some.injEq,Prod.mk.injEq] at H
  obtain ⟨rfl,rfl⟩:=H
  go_enter Try.func61,Try.ntmps61
  go_wp2
  go_ret2
  exact ⟨by first|rfl|(simp;done)|(simp [*];done),by repeat (first|exact Drawn0.refl _|apply Drawn0.step)⟩
 ·rw [if_neg c3] at H
  have c3b0:decide (a1 < 0) = false:=decide_eq_false c3
  clear c3
  by_cases c4:a1 > 3
  ·rw [if_pos c4] at H
   have c4b0:decide (3 < a1) = true:=decide_eq_true c4
   clear c4
   simp only [Option.some.injEq,Prod.mk.injEq] at H
   obtain ⟨rfl,rfl⟩:=H
   go_enter Try.func61,Try.ntmps61
   go_wp2
   go_ret2
   exact ⟨by first|rfl|(simp;done)|(simp [*];done),by repeat (first|exact Drawn0.refl _|apply Drawn0.step)⟩
  ·rw [if_neg c4] at H
   have c4b0:decide (3 < a1) = false:=decide_eq_false c4
   clear c4
   replace H:=Option.bind_eq_some_iff.mp H
   obtain ⟨⟨t241,t242⟩,A50,H⟩:=H
   replace H:(some (t241,t242)) = some (r1,r2):=H
   have A5:=Aside0.mk A50
   clear A50
   simp only [Option.some.injEq,Prod.mk.injEq] at H
   obtain ⟨rfl,rfl⟩:=H
   go_enter Try.func61,Try.ntmps61
   go_wp2_with (first|((with_reducible refine gate_callee (f:=82) rfl ?_);refine goesL_ (some 17) rfl rfl Try.func82 (by kernel_rfl) rfl #[.int .i64 a0,.int .i64 a1] rfl (by (try simp only [List.map_toArray,List.map_cons,List.map_nil]);first|done|rfl|(simp only [List.length_drop,List.length_take];rfl)) ?_;(with_reducible refine (breadlineref01_Next.calls a0 a1 t241 t242 _ A5.out).mono ?_);rintro e w' ⟨rfl,⟨nd,rfl⟩⟩;refine ⟨_,rfl,?_⟩))
   go_ret2
   exact ⟨by first|rfl|(simp;done)|(simp [*];done),by repeat (first|exact Drawn0.refl _|apply Drawn0.step)⟩
def breadlineref01_Value.f (a0:Int):Option (Int):=if (wrap64 (Int.tmod (IntKind.u64.wrap (a0)) 4294967296)) ≥ 2147483648 then (some (wrap64 ((wrap64 (Int.tmod (IntKind.u64.wrap (a0)) 4294967296)) - 4294967296))) else (some (wrap64 (Int.tmod (IntKind.u64.wrap (a0)) 4294967296)))
theorem breadlineref01_Value.calls (a0:Int) (r:Int) (w:World) (h:breadlineref01_Value.f a0 = some r) :
  Calls Try.prog 85 #[.int .i64 a0] w fun e w'=>e = .returned (.int .i64 r)∧Drawn0 w w':=by
 have H:(if (wrap64 (Int.tmod (IntKind.u64.wrap (a0)) 4294967296)) ≥ 2147483648 then (some (wrap64 ((wrap64 (Int.tmod (IntKind.u64.wrap (a0)) 4294967296)) - 4294967296))) else (some (wrap64 (Int.tmod (IntKind.u64.wrap (a0)) 4294967296)))) = some r:=h
 clear h
 by_cases c2:(wrap64 (Int.tmod (IntKind.u64.wrap (a0)) 4294967296)) ≥ 2147483648
 ·rw [if_pos c2] at H
  have c2b0:decide (2147483648 ≤ (wrap64 (Int.tmod (IntKind.u64.wrap (a0)) 4294967296))) = true:=decide_eq_true c2
  clear c2
  obtain rfl:=Option.some.inj H
  go_enter Try.func85,Try.ntmps85
  go_wp2
  go_ret
  exact ⟨by first|rfl|(simp;done)|(simp [*];done),by repeat (first|exact Drawn0.refl _|apply Drawn0.step)⟩
 ·rw [if_neg c2] at H
  have c2b0:decide (2147483648 ≤ (wrap64 (Int.tmod (IntKind.u64.wrap (a0)) 4294967296))) = false:=decide_eq_false c2
  clear c2
  obtain rfl:=Option.some.inj H
  go_enter Try.func85,Try.ntmps85
  go_wp2
  go_ret
  exact ⟨by first|rfl|(simp;done)|(simp [*];done),by repeat (first|exact Drawn0.refl _|apply Drawn0.step)⟩
def breadlineref10_State.f (a0:Int):Option (Int):=(breadlineref01_Value.f a0).bind fun t245=>(if t245 < 0 then (some (-1)) else (if t245 > 3 then (some (-1)) else (some t245)))
theorem breadlineref10_State.calls (a0:Int) (r:Int) (w:World) (h:breadlineref10_State.f a0 = some r) :
  Calls Try.prog 70 #[.int .i64 a0] w fun e w'=>e = .returned (.int .i64 r)∧Drawn0 w w':=by
 have H:((breadlineref01_Value.f a0).bind fun t245=>(if t245 < 0 then (some (-1)) else (if t245 > 3 then (some (-1)) else (some t245)))) = some r:=h
 clear h
 replace H:=Option.bind_eq_some_iff.mp H
 obtain ⟨t245,A20,H⟩:=H
 replace H:(if t245 < 0 then (some (-1)) else (if t245 > 3 then (some (-1)) else (some t245))) = some r:=H
 have A2:=Aside0.mk A20
 clear A20
 by_cases c3:t245 < 0
 ·rw [if_pos c3] at H
  have c3b0:decide (t245 < 0) = true:=decide_eq_true c3
  clear c3
  obtain rfl:=Option.some.inj H
  go_enter Try.func70,Try.ntmps70
  go_wp2_with (first|((with_reducible refine gate_callee (f:=85) rfl ?_);refine goesL_ (some 5) rfl rfl Try.func85 (by kernel_rfl) rfl #[.int .i64 a0] rfl (by (try simp only [List.map_toArray,List.map_cons,List.map_nil]);first|done|rfl|(simp only [List.length_drop,List.length_take];rfl)) ?_;(with_reducible refine (breadlineref01_Value.calls a0 t245 _ A2.out).mono ?_);rintro e w' ⟨rfl,⟨nd,rfl⟩⟩;refine ⟨_,rfl,?_⟩))
  go_ret
  exact ⟨by first|rfl|(simp;done)|(simp [*];done),by repeat (first|exact Drawn0.refl _|apply Drawn0.step)⟩
 ·rw [if_neg c3] at H
  have c3b0:decide (t245 < 0) = false:=decide_eq_false c3
  clear c3
  by_cases c4:t245 > 3
  ·rw [if_pos c4] at H
   have c4b0:decide (3 < t245) = true:=decide_eq_true c4
   clear c4
   obtain rfl:=Option.some.inj H
   go_enter Try.func70,Try.ntmps70
   go_wp2_with (first|((with_reducible refine gate_callee (f:=85) rfl ?_);refine goesL_ (some 5) rfl rfl Try.func85 (by kernel_rfl) rfl #[.int .i64 a0] rfl (by (try simp only [List.map_toArray,List.map_cons,List.map_nil]);first|done|rfl|(simp only [List.length_drop,List.length_take];rfl)) ?_;(with_reducible refine (breadlineref01_Value.calls a0 t245 _ A2.out).mono ?_);rintro e w' ⟨rfl,⟨nd,rfl⟩⟩;refine ⟨_,rfl,?_⟩))
   go_ret
   exact ⟨by first|rfl|(simp;done)|(simp [*];done),by repeat (first|exact Drawn0.refl _|apply Drawn0.step)⟩
  ·rw [if_neg c4] at H
   have c4b0:decide (3 < t245) = false:=decide_eq_false c4
   clear c4
   obtain rfl:=Option.some.inj H
   go_enter Try.func70,Try.ntmps70
   go_wp2_with (first|((with_reducible refine gate_callee (f:=85) rfl ?_);refine goesL_ (some 5) rfl rfl Try.func85 (by kernel_rfl) rfl #[.int .i64 a0] rfl (by (try simp only [List.map_toArray,List.map_cons,List.map_nil]);first|done|rfl|(simp only [List.length_drop,List.length_take];rfl)) ?_;(with_reducible refine (breadlineref01_Value.calls a0 t245 _ A2.out).mono ?_);rintro e w' ⟨rfl,⟨nd,rfl⟩⟩;refine ⟨_,rfl,?_⟩))
   go_ret
   exact ⟨by first|rfl|(simp;done)|(simp [*];done),by repeat (first|exact Drawn0.refl _|apply Drawn0.step)⟩
def breadlineref05_Lease.f (a0_0:Int) (a0_1:Int) (a0_2:Int) (a0_3:Int) (a0_4:Int) (a0_5:Int) (l0_6:List Int) (l0_7:List Int) (a1:Int) (a2:Int):Option (Int):=(breadlineref05_Limit.f a0_0 a0_1 a0_2 a0_3 a0_4 a0_5 l0_6 l0_7 a1).bind fun t263=>(some (wrap64 ((wrap64 (t263 + 2)) + a2)))
theorem breadlineref05_Lease.calls (a0_0:Int) (a0_1:Int) (a0_2:Int) (a0_3:Int) (a0_4:Int) (a0_5:Int) (A0_6:Option Addr) (c0_6:Nat) (l0_6:List Int) (A0_7:Option Addr) (c0_7:Nat) (l0_7:List Int) (a1:Int) (a2:Int) (r:Int) (w:World) (hr0_6:Kd.C (Kd.int .i64) w A0_6 l0_6.length l0_6) (hc0_6:l0_6.length ≤ c0_6) (hr0_7:Kd.C (Kd.int .i64) w A0_7 l0_7.length l0_7) (hc0_7:l0_7.length ≤ c0_7) (h:breadlineref05_Lease.f a0_0 a0_1 a0_2 a0_3 a0_4 a0_5 l0_6 l0_7 a1 a2 = some r) :
  Calls Try.prog 79 #[.agg #[.int .i64 a0_0,.int .i64 a0_1,.int .i64 a0_2,.int .i64 a0_3,.int .i64 a0_4,.int .i64 a0_5,.slice A0_6 l0_6.length c0_6,.slice A0_7 l0_7.length c0_7],.int .i64 a1,.int .i64 a2] w fun e w'=>e = .returned (.int .i64 r)∧Below w.heap.size w w':=by
 have hu24:=Try.underlying24
 have HR0_6:=Aside0.mk hr0_6
 have HC0_6:=Aside0.mk hc0_6
 clear hr0_6 hc0_6
 have HR0_7:=Aside0.mk hr0_7
 have HC0_7:=Aside0.mk hc0_7
 clear hr0_7 hc0_7
 have HB:=Aside0.mk (Below.refl w.heap.size w)
 have H:((breadlineref05_Limit.f a0_0 a0_1 a0_2 a0_3 a0_4 a0_5 l0_6 l0_7 a1).bind fun t263=>(some (wrap64 ((wrap64 (t263 + 2)) + a2)))) = some r:=h
 clear h
 replace H:=Option.bind_eq_some_iff.mp H
 obtain ⟨t263,A40,H⟩:=H
 replace H:(some (wrap64 ((wrap64 (t263 + 2)) + a2))) = some r:=H
 have A4:=Aside0.mk A40
 clear A40
 obtain rfl:=Option.some.inj H
 go_enter Try.func79,Try.ntmps79
 go_wp2_with (first|((with_reducible refine gate_dst (N:=3) rfl ?_);refine box_event ?hg (N:=3) ?hd (cs:=#[.int .i64 a0_0,.int .i64 a0_1,.int .i64 a0_2,.int .i64 a0_3,.int .i64 a0_4,.int .i64 a0_5,.slice A0_6 l0_6.length c0_6,.slice A0_7 l0_7.length c0_7]) (t:=24) ?hr ?_;(case hd=>rfl);(case hg=>rfl);(case hr=>first|(go_simp;done)|(go_simp;rfl));intro gb262 hg w5 hbox hb;have n0_:=Aside0.mk (below_step (by repeat (first|(with_reducible first|exact HB.out|apply below_alloc|apply pw_below_drewN|apply below_drew1)|exact HB.out)) hb);have n1_:=Aside0.mk (hbox);have n2_:=Aside0.mk ((by rw [hg];exact (below_size (by repeat (first|(with_reducible first|exact HB.out|apply below_alloc|apply pw_below_drewN|apply below_drew1)|exact HB.out))):w.heap.size ≤ gb262));have n3_:=Aside0.mk ((by rw [hg];exact (below_size (by repeat (first|(with_reducible first|exact HB.out|apply below_alloc|apply pw_below_drewN|apply below_drew1)|exact HB.out))):w.heap.size ≤ gb262));clear HB;have HB:=n0_;have BK262:=n1_;have GW262:=n2_;have GE262:=n3_;clear n0_ n1_ n2_ n3_;clear hb hbox hg;have hz6_gb262:=cells8 BK262.out)|((with_reducible refine gate_callee (f:=33) rfl ?_);refine goesL_ (some 9) rfl rfl Try.func33 (by kernel_rfl) rfl #[.agg #[.int .i64 a0_0,.int .i64 a0_1,.int .i64 a0_2,.int .i64 a0_3,.int .i64 a0_4,.int .i64 a0_5,.slice A0_6 l0_6.length c0_6,.slice A0_7 l0_7.length c0_7],.int .i64 a1] rfl (by (try simp only [List.map_toArray,List.map_cons,List.map_nil]);first|done|rfl|(simp only [List.length_drop,List.length_take];rfl)) ?_;(with_reducible refine (breadlineref05_Limit.calls a0_0 a0_1 a0_2 a0_3 a0_4 a0_5 _ _ l0_6 _ _ l0_7 a1 t263 _ ?side1 ?side2 ?side3 ?side4 A4.out).mono ?_);(case side1=>repeat (first|exact (Kd.C_below HR0_6.out HB.out)|(with_reducible refine Kd.C_alloc ?_ _)|(with_reducible refine Kd.C_drewN ?_ _)|(with_reducible refine Kd.C_drew ?_)));(case side2=>exact HC0_6.out);(case side3=>repeat (first|exact (Kd.C_below HR0_7.out HB.out)|(with_reducible refine Kd.C_alloc ?_ _)|(with_reducible refine Kd.C_drewN ?_ _)|(with_reducible refine Kd.C_drew ?_)));(case side4=>exact HC0_7.out);rintro e w7 ⟨rfl,hb⟩;refine ⟨_,rfl,?_⟩;have n0_:=Aside0.mk (blk_below (g:=gb262) (o:=.cells #[.int .i64 a0_0,.int .i64 a0_1,.int .i64 a0_2,.int .i64 a0_3,.int .i64 a0_4,.int .i64 a0_5,.slice A0_6 l0_6.length c0_6,.slice A0_7 l0_7.length c0_7] 24 (0,0)) (by (with_reducible repeat (first|refine blk_drewN ?_ _|refine blk_drew ?_|refine blk_alloc ?_ _));exact BK262.out) hb);have n1_:=Aside0.mk (below_step (by repeat (first|(with_reducible first|exact HB.out|apply below_alloc|apply pw_below_drewN|apply below_drew1|refine below_set ?_ GE262.out)|exact HB.out)) hb);clear BK262;clear HB;have BK262:=n0_;have HB:=n1_;clear n0_ n1_;(try clear hb);(try clear hb2);(try clear hk);(try clear hi)))
 go_ret
 exact ⟨by first|rfl|(simp [errW_none,errW_some] <;> rfl)|(simp [*,errW_none,errW_some] <;> rfl),by repeat (first|(with_reducible first|exact HB.out|apply below_alloc|apply pw_below_drewN|apply below_drew1|refine below_set ?_ GE262.out)|exact HB.out)⟩
end Go.Proofs.Ytadblpcjkahikaa.PTraceRuns

