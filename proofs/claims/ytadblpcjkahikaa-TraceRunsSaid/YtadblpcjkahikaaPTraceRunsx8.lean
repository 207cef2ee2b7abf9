
import Derived.Test.YtadblpcjkahikaaPTraceRunsx0
import Derived.Test.YtadblpcjkahikaaPTraceRunsx6
namespace Go.Proofs.Ytadblpcjkahikaa.PTraceRuns
open Go.RowKit Go.Proofs.YtadblpcjkahikaaW.PrintWords Go.Proofs.YtadblpcjkahikaaW.PrintLast Go.Proofs.YtadblpcjkahikaaW.PrintMore
attribute [local go_sem] max2_int min2_int max_two min_two max_three min_three max_four min_four
set_option linter.unusedVariables false
set_option linter.unusedSimpArgs false
set_option maxHeartbeats 8000000
set_option maxRecDepth 100000
def IsS102 (w0 W:World) (g:Nat) (f0:Int) (f1:Int) (f2:Int) (f3:Int) (f4:Int) (f5:Int) (f6:Int) (f7:List Int) (f8:List Int) (f9:Int) (f10:Int) (f11:Int) (f12:Int) (f13:Int) (f14:Int) (f15:Bool) (f16:Int):Prop:=∃ A7 c7,∃ A8 c8,W.heap[g]? = some (.cells #[.int .i64 f0,.int .i64 f1,.int .i64 f2,.int .i64 f3,.int .i64 f4,.int .i64 f5,.int .i64 f6,.slice A7 f7.length c7,.slice A8 f8.length c8,.int .i64 f9,.int .i64 f10,.int .i64 f11,.int .i64 f12,.int .i64 f13,.int .i64 f14,.bool f15,.int .i64 f16] 102 (0,0))∧w0.heap.size ≤ g∧Kd.C (Kd.int .i64) w0 A7 f7.length f7∧Kd.C (Kd.int .i64) w0 A8 f8.length f8
theorem IsS102.grown {w0 W:World} {g:Nat} {f0:Int} {f1:Int} {f2:Int} {f3:Int} {f4:Int} {f5:Int} {f6:Int} {f7:List Int} {f8:List Int} {f9:Int} {f10:Int} {f11:Int} {f12:Int} {f13:Int} {f14:Int} {f15:Bool} {f16:Int} {W1:World} {row:Option Nat} (h:IsS102 w0 W g f0 f1 f2 f3 f4 f5 f6 f7 f8 f9 f10 f11 f12 f13 f14 f15 f16) (hw:W.grownBy W1 row) (hne:some g ≠ row):IsS102 w0 W1 g f0 f1 f2 f3 f4 f5 f6 f7 f8 f9 f10 f11 f12 f13 f14 f15 f16:=by
 obtain ⟨A7,c7,A8,c8,hb,hg,hr7,hr8⟩:=h
 exact ⟨A7,c7,A8,c8,blk_grown hb hw hne,hg,hr7,hr8⟩
theorem IsS102.kept {w0 W:World} {g:Nat} {f0:Int} {f1:Int} {f2:Int} {f3:Int} {f4:Int} {f5:Int} {f6:Int} {f7:List Int} {f8:List Int} {f9:Int} {f10:Int} {f11:Int} {f12:Int} {f13:Int} {f14:Int} {f15:Bool} {f16:Int} {W1:World} {S:Nat→Prop} (h:IsS102 w0 W g f0 f1 f2 f3 f4 f5 f6 f7 f8 f9 f10 f11 f12 f13 f14 f15 f16) (hk:Kept W W1 S) (hne:¬ S g):IsS102 w0 W1 g f0 f1 f2 f3 f4 f5 f6 f7 f8 f9 f10 f11 f12 f13 f14 f15 f16:=by
 obtain ⟨A7,c7,A8,c8,hb,hg,hr7,hr8⟩:=h
 exact ⟨A7,c7,A8,c8,blk_kept hb hk hne,hg,hr7,hr8⟩
theorem IsS102.below {w0 W:World} {g:Nat} {f0:Int} {f1:Int} {f2:Int} {f3:Int} {f4:Int} {f5:Int} {f6:Int} {f7:List Int} {f8:List Int} {f9:Int} {f10:Int} {f11:Int} {f12:Int} {f13:Int} {f14:Int} {f15:Bool} {f16:Int} {W1:World} (h:IsS102 w0 W g f0 f1 f2 f3 f4 f5 f6 f7 f8 f9 f10 f11 f12 f13 f14 f15 f16) (hw:Below W.heap.size W W1):IsS102 w0 W1 g f0 f1 f2 f3 f4 f5 f6 f7 f8 f9 f10 f11 f12 f13 f14 f15 f16:=h.grown (grown_of_below hw none) (by simp)
theorem IsS102.alloc {w0 W:World} {g:Nat} {f0:Int} {f1:Int} {f2:Int} {f3:Int} {f4:Int} {f5:Int} {f6:Int} {f7:List Int} {f8:List Int} {f9:Int} {f10:Int} {f11:Int} {f12:Int} {f13:Int} {f14:Int} {f15:Bool} {f16:Int} (h:IsS102 w0 W g f0 f1 f2 f3 f4 f5 f6 f7 f8 f9 f10 f11 f12 f13 f14 f15 f16) (o:Obj):IsS102 w0 (W.alloc o) g f0 f1 f2 f3 f4 f5 f6 f7 f8 f9 f10 f11 f12 f13 f14 f15 f16:=h.below (below_alloc (Below.refl _ _) o)
theorem IsS102.drewN {w0 W:World} {g:Nat} {f0:Int} {f1:Int} {f2:Int} {f3:Int} {f4:Int} {f5:Int} {f6:Int} {f7:List Int} {f8:List Int} {f9:Int} {f10:Int} {f11:Int} {f12:Int} {f13:Int} {f14:Int} {f15:Bool} {f16:Int} (h:IsS102 w0 W g f0 f1 f2 f3 f4 f5 f6 f7 f8 f9 f10 f11 f12 f13 f14 f15 f16) (m:Nat):IsS102 w0 (W.drewN m) g f0 f1 f2 f3 f4 f5 f6 f7 f8 f9 f10 f11 f12 f13 f14 f15 f16:=h
theorem IsS102.drew {w0 W:World} {g:Nat} {f0:Int} {f1:Int} {f2:Int} {f3:Int} {f4:Int} {f5:Int} {f6:Int} {f7:List Int} {f8:List Int} {f9:Int} {f10:Int} {f11:Int} {f12:Int} {f13:Int} {f14:Int} {f15:Bool} {f16:Int} (h:IsS102 w0 W g f0 f1 f2 f3 f4 f5 f6 f7 f8 f9 f10 f11 f12 f13 f14 f15 f16):IsS102 w0 W.drew g f0 f1 f2 f3 f4 f5 f6 f7 f8 f9 f10 f11 f12 f13 f14 f15 f16:=h
theorem IsS102.at_ {w0 W:World} {g:Nat} {f0:Int} {f1:Int} {f2:Int} {f3:Int} {f4:Int} {f5:Int} {f6:Int} {f7:List Int} {f8:List Int} {f9:Int} {f10:Int} {f11:Int} {f12:Int} {f13:Int} {f14:Int} {f15:Bool} {f16:Int} {w':World} {m:Nat} (hq:W.drewN m = w') (h:IsS102 w0 W g f0 f1 f2 f3 f4 f5 f6 f7 f8 f9 f10 f11 f12 f13 f14 f15 f16):IsS102 w0 w' g f0 f1 f2 f3 f4 f5 f6 f7 f8 f9 f10 f11 f12 f13 f14 f15 f16:=by subst hq;exact IsS102.drewN h m
theorem IsS102.apart {w0 W:World} {g:Nat} {f0:Int} {f1:Int} {f2:Int} {f3:Int} {f4:Int} {f5:Int} {f6:Int} {f7:List Int} {f8:List Int} {f9:Int} {f10:Int} {f11:Int} {f12:Int} {f13:Int} {f14:Int} {f15:Bool} {f16:Int} {α:Type} {d:Kd α} {e:Nat} {base:Nat} {ok:Nat→Prop} {v:Value} {xs:List α} (h:IsS102 w0 W g f0 f1 f2 f3 f4 f5 f6 f7 f8 f9 f10 f11 f12 f13 f14 f15 f16) (ho:d.R e W base ok v xs) (ht:∀ q,q ∈ e :: d.E→q ≠ 102):d.R e W base (fun k=>ok k∧k ≠ g) v xs:=by
 obtain ⟨A7,c7,A8,c8,hb,hg,hr7,hr8⟩:=h
 exact Kd.R_types ho hb ht
theorem IsS102.own_ne {w0 W:World} {g:Nat} {f0:Int} {f1:Int} {f2:Int} {f3:Int} {f4:Int} {f5:Int} {f6:Int} {f7:List Int} {f8:List Int} {f9:Int} {f10:Int} {f11:Int} {f12:Int} {f13:Int} {f14:Int} {f15:Bool} {f16:Int} {α:Type} {d:Kd α} {e:Nat} {base:Nat} {ok:Nat→Prop} {v:Value} {xs:List α} (h:IsS102 w0 W g f0 f1 f2 f3 f4 f5 f6 f7 f8 f9 f10 f11 f12 f13 f14 f15 f16) (ho:d.R e W base ok v xs) (ht:e ≠ 102):some g ≠ v.ownBlock:=by
 obtain ⟨A7,c7,A8,c8,hb,hg,hr7,hr8⟩:=h
 exact Kd.R_ne ho hb ht
theorem IsS102.lt {w0 W:World} {g:Nat} {f0:Int} {f1:Int} {f2:Int} {f3:Int} {f4:Int} {f5:Int} {f6:Int} {f7:List Int} {f8:List Int} {f9:Int} {f10:Int} {f11:Int} {f12:Int} {f13:Int} {f14:Int} {f15:Bool} {f16:Int} (h:IsS102 w0 W g f0 f1 f2 f3 f4 f5 f6 f7 f8 f9 f10 f11 f12 f13 f14 f15 f16):g < W.heap.size:=by
 obtain ⟨A7,c7,A8,c8,hb,hg,hr7,hr8⟩:=h
 exact blk_lt hb
theorem IsS102.ge {w0 W:World} {g:Nat} {f0:Int} {f1:Int} {f2:Int} {f3:Int} {f4:Int} {f5:Int} {f6:Int} {f7:List Int} {f8:List Int} {f9:Int} {f10:Int} {f11:Int} {f12:Int} {f13:Int} {f14:Int} {f15:Bool} {f16:Int} (h:IsS102 w0 W g f0 f1 f2 f3 f4 f5 f6 f7 f8 f9 f10 f11 f12 f13 f14 f15 f16):w0.heap.size ≤ g:=by
 obtain ⟨A7,c7,A8,c8,hb,hg,hr7,hr8⟩:=h
 exact hg
theorem IsS102.new (w0 W:World) (A7:Option Addr) (c7:Nat) (A8:Option Addr) (c8:Nat) (f0:Int) (f1:Int) (f2:Int) (f3:Int) (f4:Int) (f5:Int) (f6:Int) (f7:List Int) (f8:List Int) (f9:Int) (f10:Int) (f11:Int) (f12:Int) (f13:Int) (f14:Int) (f15:Bool) (f16:Int) (hB:Below w0.heap.size w0 W) (hr7:Kd.C (Kd.int .i64) w0 A7 f7.length f7) (hr8:Kd.C (Kd.int .i64) w0 A8 f8.length f8):IsS102 w0 (W.alloc (.cells #[.int .i64 f0,.int .i64 f1,.int .i64 f2,.int .i64 f3,.int .i64 f4,.int .i64 f5,.int .i64 f6,.slice A7 f7.length c7,.slice A8 f8.length c8,.int .i64 f9,.int .i64 f10,.int .i64 f11,.int .i64 f12,.int .i64 f13,.int .i64 f14,.bool f15,.int .i64 f16] 102)) W.heap.size f0 f1 f2 f3 f4 f5 f6 f7 f8 f9 f10 f11 f12 f13 f14 f15 f16:=⟨A7,c7,A8,c8,by simpa using heap_alloc_new W _,hB.size,hr7,hr8⟩
def breadlinelaw16_Picks.l0:Nat→List Int→Int→Int→Int→Int→Int→Int→Int→List Int→List Int→List (List (S43))→List Int→Option (List Int)
 | 0,_,_,_,_,_,_,_,_,_,_,_,_=>none
 | k + 1,x3,x4,x287000,x287001,x287002,x287003,x287004,x287005,x287006,x287007,x287008,x287009=>if x4 < (x287009.length:Int) then (if 0 ≤ x4 then (if x3.length < 17592186044416 then (breadlinelaw16_Picks.l0 k (x3 ++ [wrap64 ((Int.tmod (wrap64 (rd x287009 x4)) 10) - 1)]) (wrap64 (x4 + 1)) x287000 x287001 x287002 x287003 x287004 x287005 x287006 x287007 x287008 x287009) else (none)) else (none)) else (some x3)
def breadlinelaw16_Picks.f (k:Nat) (a0_0:Int) (a0_1:Int) (a0_2:Int) (a0_3:Int) (a0_4:Int) (a0_5:Int) (l0_6:List Int) (l0_7:List Int) (l0_8:List (List (S43))) (l0_9:List Int):Option (List Int):=breadlinelaw16_Picks.l0 k ([]:List Int) 0 a0_0 a0_1 a0_2 a0_3 a0_4 a0_5 l0_6 l0_7 l0_8 l0_9
theorem breadlinelaw16_Picks.calls (k:Nat) (a0_0:Int) (a0_1:Int) (a0_2:Int) (a0_3:Int) (a0_4:Int) (a0_5:Int) (A0_6:Option Addr) (c0_6:Nat) (l0_6:List Int) (A0_7:Option Addr) (c0_7:Nat) (l0_7:List Int) (A0_8:Option Addr) (c0_8:Nat) (l0_8:List (List (S43))) (A0_9:Option Addr) (c0_9:Nat) (l0_9:List Int) (r:List Int) (w:World) (hr0_6:Kd.C (Kd.int .i64) w A0_6 l0_6.length l0_6) (hc0_6:l0_6.length ≤ c0_6) (hr0_7:Kd.C (Kd.int .i64) w A0_7 l0_7.length l0_7) (hc0_7:l0_7.length ≤ c0_7) (hr0_8:Kd.C (Kd.slice 43 k43) w A0_8 l0_8.length l0_8) (hc0_8:l0_8.length ≤ c0_8) (hr0_9:Kd.C (Kd.int .u8) w A0_9 l0_9.length l0_9) (hc0_9:l0_9.length ≤ c0_9) (h:breadlinelaw16_Picks.f k a0_0 a0_1 a0_2 a0_3 a0_4 a0_5 l0_6 l0_7 l0_8 l0_9 = some r) :
  Calls Try.prog 7 #[.agg #[.int .i64 a0_0,.int .i64 a0_1,.int .i64 a0_2,.int .i64 a0_3,.int .i64 a0_4,.int .i64 a0_5,.slice A0_6 l0_6.length c0_6,.slice A0_7 l0_7.length c0_7,.slice A0_8 l0_8.length c0_8,.slice A0_9 l0_9.length c0_9]] w fun e w'=>∃ v0_:Value,e = .returned (v0_)∧Kd.R (Kd.int .i64) 3 w' w.heap.size (fun _=>True) v0_ r∧Below w.heap.size w w':=by
 have hu28:=Try.underlying28
 have HR0_6:=Aside0.mk hr0_6
 have HC0_6:=Aside0.mk hc0_6
 clear hr0_6 hc0_6
 have HR0_7:=Aside0.mk hr0_7
 have HC0_7:=Aside0.mk hc0_7
 clear hr0_7 hc0_7
 have HR0_8:=Aside0.mk hr0_8
 have HC0_8:=Aside0.mk hc0_8
 clear hr0_8 hc0_8
 have HR0_9:=Aside0.mk hr0_9
 have HC0_9:=Aside0.mk hc0_9
 clear hr0_9 hc0_9
 have HB:=Aside0.mk (Below.refl w.heap.size w)
 have H:(breadlinelaw16_Picks.l0 k ([]:List Int) 0 a0_0 a0_1 a0_2 a0_3 a0_4 a0_5 l0_6 l0_7 l0_8 l0_9) = some r:=h
 clear h
 have H':=Aside0.mk H
 clear H
 go_enter Try.func7,Try.ntmps7
 go_wp2_with (first|((with_reducible refine gate_dst (N:=1) rfl ?_);refine box_event ?hg (N:=1) ?hd (cs:=#[.int .i64 a0_0,.int .i64 a0_1,.int .i64 a0_2,.int .i64 a0_3,.int .i64 a0_4,.int .i64 a0_5,.slice A0_6 l0_6.length c0_6,.slice A0_7 l0_7.length c0_7,.slice A0_8 l0_8.length c0_8,.slice A0_9 l0_9.length c0_9]) (t:=28) ?hr ?_;(case hd=>rfl);(case hg=>rfl);(case hr=>first|(go_simp;done)|(go_simp;rfl));intro gb286 hg w2 hbox hb;have n0_:=Aside0.mk (below_step (by repeat (first|(with_reducible first|exact HB.out|apply below_alloc|apply pw_below_drewN|apply below_drew1)|exact HB.out)) hb);have n1_:=Aside0.mk (hbox);have n2_:=Aside0.mk ((by rw [hg];exact (below_size (by repeat (first|(with_reducible first|exact HB.out|apply below_alloc|apply pw_below_drewN|apply below_drew1)|exact HB.out))):w.heap.size ≤ gb286));have n3_:=Aside0.mk ((by rw [hg];exact (below_size (by repeat (first|(with_reducible first|exact HB.out|apply below_alloc|apply pw_below_drewN|apply below_drew1)|exact HB.out))):w.heap.size ≤ gb286));clear HB;have HB:=n0_;have BK286:=n1_;have GW286:=n2_;have GE286:=n3_;clear n0_ n1_ n2_ n3_;clear hb hbox hg))
 go_loopg [3,4] k (fun kq v3 v4 w'=>∃ (x3_1:List Int) (x4_1:Int),v4 = .int .i64 x4_1∧Aside0 (breadlinelaw16_Picks.l0 kq x3_1 x4_1 a0_0 a0_1 a0_2 a0_3 a0_4 a0_5 l0_6 l0_7 l0_8 l0_9 = some r)∧Aside0 (kq ≤ k)∧Aside0 (Kd.R (Kd.int .i64) 3 w' w.heap.size (fun _=>True) v3 x3_1)∧Aside0 (w'.heap[gb286]? = some (.cells #[.int .i64 a0_0,.int .i64 a0_1,.int .i64 a0_2,.int .i64 a0_3,.int .i64 a0_4,.int .i64 a0_5,(.slice A0_6 l0_6.length c0_6),(.slice A0_7 l0_7.length c0_7),(.slice A0_8 l0_8.length c0_8),(.slice A0_9 l0_9.length c0_9)] 28 (0,0)))∧Aside0 (Below w.heap.size w w'))
 case atStart=>exact ⟨(([]:List Int)),(0),(by first|rfl|(simp;done)|(simp [*];done)),H',⟨Nat.le_refl _⟩,⟨by first|exact Kd.R_nil _ _ _ _ _|exact Kd.N_nil _ _ _ _ _|exact Kd.V_nil _ _ _ _ _|exact Kd.Q_nil _ _ _ _ _|exact Kd.S_nil _ _ _ _ _⟩,⟨by (with_reducible repeat (first|refine blk_drewN ?_ _|refine blk_drew ?_|refine blk_alloc ?_ _));exact BK286.out⟩,⟨by repeat (first|(with_reducible first|exact HB.out|apply below_alloc|apply pw_below_drewN|apply below_drew1|refine below_set ?_ GE286.out)|exact HB.out)⟩⟩
 case round =>
  clear H'
  try clear p2
  obtain ⟨x3_1,x4_1,rfl,HA,HK1,HO_3,BK286,HB⟩:=hrel
  cases gk with
  | zero=>exact absurd HA.out (by simp [breadlinelaw16_Picks.l0])
  | succ k1 =>
   have H:=HA.out
   clear HA
   simp only [breadlinelaw16_Picks.l0] at H
   by_cases c3:x4_1 < (l0_9.length:Int)
   ·rw [if_pos c3] at H
    have c3b0:decide (x4_1 < (l0_9.length:Int)) = true:=decide_eq_true c3
    clear c3
    by_cases c4:0 ≤ x4_1
    ·rw [if_pos c4] at H
     have c4b0:decide (0 ≤ x4_1) = true:=decide_eq_true c4
     clear c4
     by_cases c5:x3_1.length < 17592186044416
     ·rw [if_pos c5] at H
      have LMc5:=Aside0.mk c5
      clear c5
      obtain ⟨y288,hy288⟩:∃ y_:List Int,y_ = (x3_1 ++ [wrap64 ((Int.tmod (wrap64 (rd l0_9 x4_1)) 10) - 1)]):=⟨_,rfl⟩
      replace H:(breadlinelaw16_Picks.l0 k1 y288 (wrap64 (x4_1 + 1)) a0_0 a0_1 a0_2 a0_3 a0_4 a0_5 l0_6 l0_7 l0_8 l0_9) = some r:=by first|(rw [hy288];with_reducible exact H)|(have H2_:=(Option.bind_some _ _).symm.trans H;rw [hy288];with_reducible exact H2_)|(have H2_:=(Option.bind_some _ _).symm.trans H;with_reducible exact H2_)|with_reducible exact H|(rw [hy288];exact H)|exact H
      have Ny288:=Aside0.mk hy288
      clear hy288
      have H':=Aside0.mk H
      clear H
      have hz6_gb286:=cells10 BK286.out
      have p287:0 ≤ (x4_1:Int):=of_decide_eq_true (by first|(with_reducible assumption)|assumption)
      have q287:x4_1 < (l0_9.length:Int):=of_decide_eq_true (by first|(with_reducible assumption)|assumption)
      obtain ⟨ad287,e287,hx287_0⟩:=Kd.at_int HR0_9.out x4_1 p287 q287
      cases e287
      replace hx287_0:=(HB.out.cell (World.block_lt_of_cell? w _ hx287_0)).trans hx287_0
      replace p287:=eq_true p287
      replace q287:=eq_true q287
      go_wp2_with (first|((with_reducible refine gate_builtin (b:=.append) (xs:=#[.tmp 12,.tmp 21]) rfl ?_);at_builtin;refine Kd.R_append (Kd.int .i64) (w0:=w) w.heap.size rfl (.tmp 12) (.tmp 21) 22 3 (.int .i64 0) 8 rfl Try.underlying22 info3 rfl (by decide) (by omega) u3 x3_1 (wrap64 ((Int.tmod (wrap64 (rd l0_9 x4_1)) 10) - 1)) [.int .i64 (wrap64 ((Int.tmod (wrap64 (rd l0_9 x4_1)) 10) - 1))] (fun _=>True) (fun _=>False) rfl rfl ?aP (fun _ hk=>hk.elim) ?aF ?aO ?aB ?aS ?aL ?_;(case aP=>exact rfl);(case aB=>exact (by repeat (first|(with_reducible first|exact HB.out|apply below_alloc|apply pw_below_drewN|apply below_drew1|refine below_set ?_ GE286.out)|exact HB.out)));(case aF=>exact (fun _ _=>trivial));(case aO=>exact (by (with_reducible repeat (first|apply Kd.R_alloc|apply Kd.R_drewN|apply Kd.R_drew));exact HO_3.out));(case aS=>exact (below_size (by repeat (first|(with_reducible first|exact HB.out|apply below_alloc|apply pw_below_drewN|apply below_drew1|refine below_set ?_ GE286.out)|exact HB.out))));(case aL=>have:=LMc5.out;omega);intro v289 w7 ho hb hg hat;rw [← Ny288.out] at ho;have n0_:=Aside0.mk (blk_grown (g:=gb286) (o:=.cells #[.int .i64 a0_0,.int .i64 a0_1,.int .i64 a0_2,.int .i64 a0_3,.int .i64 a0_4,.int .i64 a0_5,.slice A0_6 l0_6.length c0_6,.slice A0_7 l0_7.length c0_7,.slice A0_8 l0_8.length c0_8,.slice (some ad287) l0_9.length c0_9] 28 (0,0)) (by (with_reducible repeat (first|refine blk_drewN ?_ _|refine blk_drew ?_|refine blk_alloc ?_ _));exact BK286.out) hg (Kd.R_ne HO_3.out BK286.out (by decide)));have n1_:=Aside0.mk (hb);have n2_:=Aside0.mk (ho);clear BK286;clear HB;clear HO_3;have BK286:=n0_;have HB:=n1_;have HO290:=n2_;clear n0_ n1_ n2_;clear ho hb hg hat))
      go_roundg k1
      case measure=>have:=HK1.out;omega
      case rel=>exact ⟨(y288),(wrap64 (x4_1 + 1)),(by first|rfl|(simp;done)|(simp [*];done)),H',⟨by have:=HK1.out;omega⟩,⟨by (with_reducible repeat (first|apply Kd.R_alloc|apply Kd.R_drewN|apply Kd.R_drew));exact HO290.out⟩,⟨by (with_reducible repeat (first|refine blk_drewN ?_ _|refine blk_drew ?_|refine blk_alloc ?_ _));exact BK286.out⟩,⟨by repeat (first|(with_reducible first|exact HB.out|apply below_alloc|apply pw_below_drewN|apply below_drew1|refine below_set ?_ GE286.out)|exact HB.out)⟩⟩
     ·rw [if_neg c5] at H
      exact absurd H (by simp)
    ·rw [if_neg c4] at H
     exact absurd H (by simp)
   ·rw [if_neg c3] at H
    have c3b0:decide (x4_1 < (l0_9.length:Int)) = false:=decide_eq_false c3
    clear c3
    obtain rfl:=Option.some.inj H
    have hz8_gb286:=cells10 BK286.out
    go_wp2
    go_ret
    exact ⟨_,by first|rfl|(simp [errW_none,errW_some] <;> rfl)|(simp [*,errW_none,errW_some] <;> rfl),by (with_reducible repeat (first|apply Kd.R_alloc|apply Kd.R_drewN|apply Kd.R_drew));exact HO_3.out,by repeat (first|(with_reducible first|exact HB.out|apply below_alloc|apply pw_below_drewN|apply below_drew1|refine below_set ?_ GE286.out)|exact HB.out)⟩
end Go.Proofs.Ytadblpcjkahikaa.PTraceRuns

