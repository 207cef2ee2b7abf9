
import Derived.Test.YtadblpcjkahikaaPTraceRunsx0
import Derived.Test.YtadblpcjkahikaaPTraceRunsx3
namespace Go.Proofs.Ytadblpcjkahikaa.PTraceRuns
open Go.RowKit Go.Proofs.YtadblpcjkahikaaW.PrintWords Go.Proofs.YtadblpcjkahikaaW.PrintLast Go.Proofs.YtadblpcjkahikaaW.PrintMore
attribute [local go_sem] max2_int min2_int max_two min_two max_three min_three max_four min_four
set_option linter.unusedVariables false
set_option linter.unusedSimpArgs false
set_option maxHeartbeats 8000000
set_option maxRecDepth 100000
def breadlineref05_Avail.f (a0_0:Int) (a0_1:Int) (a0_2:Int) (a0_3:Int) (a0_4:Int) (a0_5:Int) (l0_6:List Int) (l0_7:List Int) (a1:Int):Option (Int):=(breadlineref05_Limit.f a0_0 a0_1 a0_2 a0_3 a0_4 a0_5 l0_6 l0_7 a1).bind fun t173=>(some (wrap64 (t173 + 1)))
theorem breadlineref05_Avail.calls (a0_0:Int) (a0_1:Int) (a0_2:Int) (a0_3:Int) (a0_4:Int) (a0_5:Int) (A0_6:Option Addr) (c0_6:Nat) (l0_6:List Int) (A0_7:Option Addr) (c0_7:Nat) (l0_7:List Int) (a1:Int) (r:Int) (w:World) (hr0_6:Kd.C (Kd.int .i64) w A0_6 l0_6.length l0_6) (hc0_6:l0_6.length ≤ c0_6) (hr0_7:Kd.C (Kd.int .i64) w A0_7 l0_7.length l0_7) (hc0_7:l0_7.length ≤ c0_7) (h:breadlineref05_Avail.f a0_0 a0_1 a0_2 a0_3 a0_4 a0_5 l0_6 l0_7 a1 = some r) :
  Calls Try.prog 34 #[.agg #[.int .i64 a0_0,.int .i64 a0_1,.int .i64 a0_2,.int .i64 a0_3,.int .i64 a0_4,.int .i64 a0_5,.slice A0_6 l0_6.length c0_6,.slice A0_7 l0_7.length c0_7],.int .i64 a1] w fun e w'=>e = .returned (.int .i64 r)∧Below w.heap.size w w':=by
 have hu24:=Try.underlying24
 have HR0_6:=Aside0.mk hr0_6
 have HC0_6:=Aside0.mk hc0_6
 clear hr0_6 hc0_6
 have HR0_7:=Aside0.mk hr0_7
 have HC0_7:=Aside0.mk hc0_7
 clear hr0_7 hc0_7
 have HB:=Aside0.mk (Below.refl w.heap.size w)
 have H:((breadlineref05_Limit.f a0_0 a0_1 a0_2 a0_3 a0_4 a0_5 l0_6 l0_7 a1).bind fun t173=>(some (wrap64 (t173 + 1)))) = some r:=h
 clear h
 replace H:=Option.bind_eq_some_iff.mp H
 obtain ⟨t173,A30,H⟩:=H
 replace H:(some (wrap64 (t173 + 1))) = some r:=H
 have A3:=Aside0.mk A30
 clear A30
 obtain rfl:=Option.some.inj H
 go_enter Try.func34,Try.ntmps34
 go_wp2_with (first|((with_reducible refine gate_dst (N:=2) rfl ?_);refine box_event ?hg (N:=2) ?hd (cs:=#[.int .i64 a0_0,.int .i64 a0_1,.int .i64 a0_2,.int .i64 a0_3,.int .i64 a0_4,.int .i64 a0_5,.slice A0_6 l0_6.length c0_6,.slice A0_7 l0_7.length c0_7]) (t:=24) ?hr ?_;(case hd=>rfl);(case hg=>rfl);(case hr=>first|(go_simp;done)|(go_simp;rfl));intro gb172 hg w4 hbox hb;have n0_:=Aside0.mk (below_step (by repeat (first|(with_reducible first|exact HB.out|apply below_alloc|apply pw_below_drewN|apply below_drew1)|exact HB.out)) hb);have n1_:=Aside0.mk (hbox);have n2_:=Aside0.mk ((by rw [hg];exact (below_size (by repeat (first|(with_reducible first|exact HB.out|apply below_alloc|apply pw_below_drewN|apply below_drew1)|exact HB.out))):w.heap.size ≤ gb172));have n3_:=Aside0.mk ((by rw [hg];exact (below_size (by repeat (first|(with_reducible first|exact HB.out|apply below_alloc|apply pw_below_drewN|apply below_drew1)|exact HB.out))):w.heap.size ≤ gb172));clear HB;have HB:=n0_;have BK172:=n1_;have GW172:=n2_;have GE172:=n3_;clear n0_ n1_ n2_ n3_;clear hb hbox hg;have hz5_gb172:=cells8 BK172.out)|((with_reducible refine gate_callee (f:=33) rfl ?_);refine goesL_ (some 7) rfl rfl Try.func33 (by kernel_rfl) rfl #[.agg #[.int .i64 a0_0,.int .i64 a0_1,.int .i64 a0_2,.int .i64 a0_3,.int .i64 a0_4,.int .i64 a0_5,.slice A0_6 l0_6.length c0_6,.slice A0_7 l0_7.length c0_7],.int .i64 a1] rfl (by (try simp only [List.map_toArray,List.map_cons,List.map_nil]);first|done|rfl|(simp only [List.length_drop,List.length_take];rfl)) ?_;(with_reducible refine (breadlineref05_Limit.calls a0_0 a0_1 a0_2 a0_3 a0_4 a0_5 _ _ l0_6 _ _ l0_7 a1 t173 _ ?side1 ?side2 ?side3 ?side4 A3.out).mono ?_);(case side1=>repeat (first|exact (Kd.C_below HR0_6.out HB.out)|(with_reducible refine Kd.C_alloc ?_ _)|(with_reducible refine Kd.C_drewN ?_ _)|(with_reducible refine Kd.C_drew ?_)));(case side2=>exact HC0_6.out);(case side3=>repeat (first|exact (Kd.C_below HR0_7.out HB.out)|(with_reducible refine Kd.C_alloc ?_ _)|(with_reducible refine Kd.C_drewN ?_ _)|(with_reducible refine Kd.C_drew ?_)));(case side4=>exact HC0_7.out);rintro e w6 ⟨rfl,hb⟩;refine ⟨_,rfl,?_⟩;have n0_:=Aside0.mk (blk_below (g:=gb172) (o:=.cells #[.int .i64 a0_0,.int .i64 a0_1,.int .i64 a0_2,.int .i64 a0_3,.int .i64 a0_4,.int .i64 a0_5,.slice A0_6 l0_6.length c0_6,.slice A0_7 l0_7.length c0_7] 24 (0,0)) (by (with_reducible repeat (first|refine blk_drewN ?_ _|refine blk_drew ?_|refine blk_alloc ?_ _));exact BK172.out) hb);have n1_:=Aside0.mk (below_step (by repeat (first|(with_reducible first|exact HB.out|apply below_alloc|apply pw_below_drewN|apply below_drew1|refine below_set ?_ GE172.out)|exact HB.out)) hb);clear BK172;clear HB;have BK172:=n0_;have HB:=n1_;clear n0_ n1_;(try clear hb);(try clear hb2);(try clear hk);(try clear hi)))
 go_ret
 exact ⟨by first|rfl|(simp [errW_none,errW_some] <;> rfl)|(simp [*,errW_none,errW_some] <;> rfl),by repeat (first|(with_reducible first|exact HB.out|apply below_alloc|apply pw_below_drewN|apply below_drew1|refine below_set ?_ GE172.out)|exact HB.out)⟩
def breadlineref05_Counter.f (a0_0:Int) (a0_1:Int) (a0_2:Int) (a0_3:Int) (a0_4:Int) (a0_5:Int) (l0_6:List Int) (l0_7:List Int) (a1:Int):Option (Int):=(breadlineref05_Limit.f a0_0 a0_1 a0_2 a0_3 a0_4 a0_5 l0_6 l0_7 a1).bind fun t175=>(some (wrap64 ((wrap64 (t175 + 2)) + a0_1)))
def breadlineref05_Counter.T1:Bool × List (List Nat × List Nat):=(true,[([],[]),([],[]),([0,1],[0,1]),([2],[2]),([],[]),([4],[4]),([3,5],[3,5]),([6,2,0,1,2,3,4,5,6],[6])])
def breadlineref05_Counter.B1:List Nat:=[0,0,3,7,0,16,63,127]
theorem breadlineref05_Counter.tab1:rtab .any (opsOf Try.f35 1) = breadlineref05_Counter.T1:=by kernel_rfl
theorem breadlineref05_Counter.bits1:waitsOk breadlineref05_Counter.T1.2 breadlineref05_Counter.B1 = true:=by kernel_rfl
theorem breadlineref05_Counter.calls (a0_0:Int) (a0_1:Int) (a0_2:Int) (a0_3:Int) (a0_4:Int) (a0_5:Int) (A0_6:Option Addr) (c0_6:Nat) (l0_6:List Int) (A0_7:Option Addr) (c0_7:Nat) (l0_7:List Int) (a1:Int) (r:Int) (w:World) (hr0_6:Kd.C (Kd.int .i64) w A0_6 l0_6.length l0_6) (hc0_6:l0_6.length ≤ c0_6) (hr0_7:Kd.C (Kd.int .i64) w A0_7 l0_7.length l0_7) (hc0_7:l0_7.length ≤ c0_7) (h:breadlineref05_Counter.f a0_0 a0_1 a0_2 a0_3 a0_4 a0_5 l0_6 l0_7 a1 = some r) :
  Calls Try.prog 35 #[.agg #[.int .i64 a0_0,.int .i64 a0_1,.int .i64 a0_2,.int .i64 a0_3,.int .i64 a0_4,.int .i64 a0_5,.slice A0_6 l0_6.length c0_6,.slice A0_7 l0_7.length c0_7],.int .i64 a1] w fun e w'=>e = .returned (.int .i64 r)∧Below w.heap.size w w':=by
 have hu24:=Try.underlying24
 have HR0_6:=Aside0.mk hr0_6
 have HC0_6:=Aside0.mk hc0_6
 clear hr0_6 hc0_6
 have HR0_7:=Aside0.mk hr0_7
 have HC0_7:=Aside0.mk hc0_7
 clear hr0_7 hc0_7
 have HB:=Aside0.mk (Below.refl w.heap.size w)
 have H:((breadlineref05_Limit.f a0_0 a0_1 a0_2 a0_3 a0_4 a0_5 l0_6 l0_7 a1).bind fun t175=>(some (wrap64 ((wrap64 (t175 + 2)) + a0_1)))) = some r:=h
 clear h
 replace H:=Option.bind_eq_some_iff.mp H
 obtain ⟨t175,A30,H⟩:=H
 replace H:(some (wrap64 ((wrap64 (t175 + 2)) + a0_1))) = some r:=H
 have A3:=Aside0.mk A30
 clear A30
 obtain rfl:=Option.some.inj H
 go_enter Try.func35,Try.ntmps35
 try go_wp2_with (first|((with_reducible refine gate_dst (N:=2) rfl ?_);refine box_event ?hg (N:=2) ?hd (cs:=#[.int .i64 a0_0,.int .i64 a0_1,.int .i64 a0_2,.int .i64 a0_3,.int .i64 a0_4,.int .i64 a0_5,.slice A0_6 l0_6.length c0_6,.slice A0_7 l0_7.length c0_7]) (t:=24) ?hr ?_;(case hd=>rfl);(case hg=>rfl);(case hr=>first|(go_simp;done)|(go_simp;rfl));intro gb174 hg w4 hbox hb;have n0_:=Aside0.mk (below_step (by repeat (first|(with_reducible first|exact HB.out|apply below_alloc|apply pw_below_drewN|apply below_drew1)|exact HB.out)) hb);have n1_:=Aside0.mk (hbox);have n2_:=Aside0.mk ((by rw [hg];exact (below_size (by repeat (first|(with_reducible first|exact HB.out|apply below_alloc|apply pw_below_drewN|apply below_drew1)|exact HB.out))):w.heap.size ≤ gb174));have n3_:=Aside0.mk ((by rw [hg];exact (below_size (by repeat (first|(with_reducible first|exact HB.out|apply below_alloc|apply pw_below_drewN|apply below_drew1)|exact HB.out))):w.heap.size ≤ gb174));clear HB;have HB:=n0_;have BK174:=n1_;have GW174:=n2_;have GE174:=n3_;clear n0_ n1_ n2_ n3_;clear hb hbox hg))
 have n0_:=Aside0.mk (blk_drew BK174.out)
 have n1_:=Aside0.mk (below_drew1 HB.out)
 clear BK174
 clear HB
 have BK174:=n0_
 have HB:=n1_
 clear n0_ n1_
 refine start_ (n:=8) (S:=fun w'=>w'.cell? ⟨gb174,0,none⟩ = some (.int .i64 a0_0)∧w'.cell? ⟨gb174,1,none⟩ = some (.int .i64 a0_1)∧w'.cell? ⟨gb174,2,none⟩ = some (.int .i64 a0_2)∧w'.cell? ⟨gb174,3,none⟩ = some (.int .i64 a0_3)∧w'.cell? ⟨gb174,4,none⟩ = some (.int .i64 a0_4)∧w'.cell? ⟨gb174,5,none⟩ = some (.int .i64 a0_5)∧w'.cell? ⟨gb174,6,none⟩ = some (.slice A0_6 l0_6.length c0_6)∧w'.cell? ⟨gb174,7,none⟩ = some (.slice A0_7 l0_7.length c0_7)) (ds:=[]) #[false,false,false,false,false,false,false,false] (by kernel_rfl) rfl rfl ⟨(blk_cell BK174.out 0).trans rfl,(blk_cell BK174.out 1).trans rfl,(blk_cell BK174.out 2).trans rfl,(blk_cell BK174.out 3).trans rfl,(blk_cell BK174.out 4).trans rfl,(blk_cell BK174.out 5).trans rfl,(blk_cell BK174.out 6).trans rfl,(blk_cell BK174.out 7).trans rfl⟩ (fun hHeld=>?_);refine with_tabW breadlineref05_Counter.tab1 breadlineref05_Counter.bits1 (fun HT_ HW_=>?_)
 generalize w4.drew = w5 at BK174 HB hHeld ⊢
 refine pure_ (i:=1) (N:=some 6) (v:=?_) (a':=?_) #[false,true,false,false,false,false,false,false] rfl rfl (any_of HT_.out (by kernel_rfl)) (fun _ _ _ h=>h) (Or.inl ⟨by rfl,?_⟩) ?_ ?_
 rotate_left
 ·intro w'
  go_simp
  with_reducible rfl
 rotate_left
 ·simp only [Act.put,List.setIfInBounds_toArray,List.set_cons_zero,List.set_cons_succ,i64_w,i32_w]
  rfl
 refine pure_ (i:=4) (N:=some 9) (v:=?_) (a':=?_) #[false,true,false,false,true,false,false,false] rfl rfl (any_of HT_.out (by kernel_rfl)) (fun _ _ _ h=>h) (Or.inl ⟨by rfl,?_⟩) ?_ ?_
 rotate_left
 ·intro w'
  go_simp
  with_reducible rfl
 rotate_left
 ·simp only [Act.put,List.setIfInBounds_toArray,List.set_cons_zero,List.set_cons_succ,i64_w,i32_w]
  rfl
 refine take_ (i:=0) (N:=some 5) (v:=?_) (a':=?_) #[true,true,false,false,true,false,false,false] rfl rfl (take_ofW HT_.out HW_.out (by kernel_rfl)) (fun _ _ _ h=>h) (Or.inl ⟨by rfl,?_⟩) hHeld ?_ ?_
 rotate_left
 ·rintro w' ⟨s0,s1,s2,s3,s4,s5,s6,s7⟩
  go_simp
  with_reducible rfl
 rotate_left
 ·simp only [Act.put,List.setIfInBounds_toArray,List.set_cons_zero,List.set_cons_succ,i64_w,i32_w]
  rfl
 refine take_ (i:=5) (N:=some 10) (v:=?_) (a':=?_) #[true,true,false,false,true,true,false,false] rfl rfl (take_ofW HT_.out HW_.out (by kernel_rfl)) (fun _ _ _ h=>h) (Or.inl ⟨by rfl,?_⟩) hHeld ?_ ?_
 rotate_left
 ·rintro w' ⟨s0,s1,s2,s3,s4,s5,s6,s7⟩
  go_simp
  with_reducible rfl
 rotate_left
 ·simp only [Act.put,List.setIfInBounds_toArray,List.set_cons_zero,List.set_cons_succ,i64_w,i32_w]
  rfl
 refine one_ (i:=2) (N:=some 7) #[true,true,true,false,true,true,false,false] rfl rfl (one_of HT_.out (by kernel_rfl)) (by decide) (fun K hK=>?_)
 refine goes_ Try.func33 (by kernel_rfl) rfl #[.agg #[.int .i64 a0_0,.int .i64 a0_1,.int .i64 a0_2,.int .i64 a0_3,.int .i64 a0_4,.int .i64 a0_5,.slice A0_6 l0_6.length c0_6,.slice A0_7 l0_7.length c0_7],.int .i64 a1] (by rfl) rfl rfl (by (try simp only [List.map_toArray,List.map_cons,List.map_nil]);first|done|rfl|(simp only [List.length_drop,List.length_take];rfl)) ?_
 with_reducible refine (breadlineref05_Limit.calls a0_0 a0_1 a0_2 a0_3 a0_4 a0_5 _ _ l0_6 _ _ l0_7 a1 t175 _ ?side1 ?side2 ?side3 ?side4 A3.out).mono ?_
 (case side1=>repeat (first|exact (Kd.C_below HR0_6.out HB.out)|(with_reducible refine Kd.C_alloc ?_ _)|(with_reducible refine Kd.C_drewN ?_ _)|(with_reducible refine Kd.C_drew ?_)))
 (case side2=>exact HC0_6.out)
 (case side3=>repeat (first|exact (Kd.C_below HR0_7.out HB.out)|(with_reducible refine Kd.C_alloc ?_ _)|(with_reducible refine Kd.C_drewN ?_ _)|(with_reducible refine Kd.C_drew ?_)))
 (case side4=>exact HC0_7.out)
 rintro e w6 ⟨rfl,hb⟩
 refine ⟨_,rfl,?_⟩
 have n0_:=Aside0.mk (blk_below (g:=gb174) (o:=.cells #[.int .i64 a0_0,.int .i64 a0_1,.int .i64 a0_2,.int .i64 a0_3,.int .i64 a0_4,.int .i64 a0_5,.slice A0_6 l0_6.length c0_6,.slice A0_7 l0_7.length c0_7] 24 (0,0)) (by (with_reducible repeat (first|refine blk_drewN ?_ _|refine blk_drew ?_|refine blk_alloc ?_ _));exact BK174.out) hb)
 have n1_:=Aside0.mk (below_step (by repeat (first|(with_reducible first|exact HB.out|apply below_alloc|apply pw_below_drewN|apply below_drew1|refine below_set ?_ GE174.out)|exact HB.out)) hb)
 clear BK174
 clear HB
 have BK174:=n0_
 have HB:=n1_
 clear n0_ n1_
 (try clear hb)
 (try clear hb2)
 (try clear hk)
 (try clear hi)
 refine hK.out _ _ ⟨(blk_cell BK174.out 0).trans rfl,(blk_cell BK174.out 1).trans rfl,(blk_cell BK174.out 2).trans rfl,(blk_cell BK174.out 3).trans rfl,(blk_cell BK174.out 4).trans rfl,(blk_cell BK174.out 5).trans rfl,(blk_cell BK174.out 6).trans rfl,(blk_cell BK174.out 7).trans rfl⟩ (fun hHeld=>?_)
 clear hK K
 refine norm_ (a':=?_) ?_ ?_
 rotate_left
 ·show Act.put _ (some 7) _ = _
  simp only [Act.put,List.setIfInBounds_toArray,List.set_cons_zero,List.set_cons_succ,i64_w,i32_w]
  rfl
 refine pure_ (i:=3) (N:=some 8) (v:=?_) (a':=?_) #[true,true,true,true,true,true,false,false] rfl rfl (any_of HT_.out (by kernel_rfl)) (fun _ _ _ h=>h) (Or.inl ⟨by rfl,?_⟩) ?_ ?_
 rotate_left
 ·intro w'
  go_simp
  with_reducible rfl
 rotate_left
 ·simp only [Act.put,List.setIfInBounds_toArray,List.set_cons_zero,List.set_cons_succ,i64_w,i32_w]
  rfl
 refine pure_ (i:=6) (N:=some 11) (v:=?_) (a':=?_) #[true,true,true,true,true,true,true,false] rfl rfl (any_of HT_.out (by kernel_rfl)) (fun _ _ _ h=>h) (Or.inl ⟨by rfl,?_⟩) ?_ ?_
 rotate_left
 ·intro w'
  go_simp
  with_reducible rfl
 rotate_left
 ·simp only [Act.put,List.setIfInBounds_toArray,List.set_cons_zero,List.set_cons_succ,i64_w,i32_w]
  rfl
 refine pure_ (i:=7) (N:=some 4) (v:=?_) (a':=?_) #[true,true,true,true,true,true,true,true] rfl rfl (any_of HT_.out (by kernel_rfl)) (fun _ _ _ h=>h) (Or.inl ⟨by rfl,?_⟩) ?_ ?_
 rotate_left
 ·intro w'
  go_simp
  with_reducible rfl
 rotate_left
 ·simp only [Act.put,List.setIfInBounds_toArray,List.set_cons_zero,List.set_cons_succ,i64_w,i32_w]
  rfl
 refine done_ (done_of HT_.out (by kernel_rfl)) ?_
 try go_wp2
 go_ret
 exact ⟨by first|rfl|(simp [errW_none,errW_some] <;> rfl)|(simp [*,errW_none,errW_some] <;> rfl),by repeat (first|(with_reducible first|exact HB.out|apply below_alloc|apply pw_below_drewN|apply below_drew1|refine below_set ?_ GE174.out)|exact HB.out)⟩
def breadlineref04_Leaf.l0:Nat→Int→Int→Int→Int→Int→Int→Int→Int→List Int→List Int→Option (Bool)
 | 0,_,_,_,_,_,_,_,_,_,_=>none
 | k + 1,x1,x5,x179000,x179001,x179002,x179003,x179004,x179005,x179006,x179007=>if x5 < (x179006.length:Int) then (if 0 ≤ x5 then (if (rd x179006 x5) = x1 then (some false) else (breadlineref04_Leaf.l0 k x1 (wrap64 (x5 + 1)) x179000 x179001 x179002 x179003 x179004 x179005 x179006 x179007)) else (none)) else (if x1 ≥ 0 then (some (decide (x1 < (x179006.length:Int)))) else (some false))
def breadlineref04_Leaf.f (k:Nat) (a0_0:Int) (a0_1:Int) (a0_2:Int) (a0_3:Int) (a0_4:Int) (a0_5:Int) (l0_6:List Int) (l0_7:List Int) (a1:Int):Option (Bool):=breadlineref04_Leaf.l0 k a1 0 a0_0 a0_1 a0_2 a0_3 a0_4 a0_5 l0_6 l0_7
theorem breadlineref04_Leaf.calls (k:Nat) (a0_0:Int) (a0_1:Int) (a0_2:Int) (a0_3:Int) (a0_4:Int) (a0_5:Int) (A0_6:Option Addr) (c0_6:Nat) (l0_6:List Int) (A0_7:Option Addr) (c0_7:Nat) (l0_7:List Int) (a1:Int) (r:Bool) (w:World) (hr0_6:Kd.C (Kd.int .i64) w A0_6 l0_6.length l0_6) (hc0_6:l0_6.length ≤ c0_6) (hr0_7:Kd.C (Kd.int .i64) w A0_7 l0_7.length l0_7) (hc0_7:l0_7.length ≤ c0_7) (h:breadlineref04_Leaf.f k a0_0 a0_1 a0_2 a0_3 a0_4 a0_5 l0_6 l0_7 a1 = some r) :
  Calls Try.prog 36 #[.agg #[.int .i64 a0_0,.int .i64 a0_1,.int .i64 a0_2,.int .i64 a0_3,.int .i64 a0_4,.int .i64 a0_5,.slice A0_6 l0_6.length c0_6,.slice A0_7 l0_7.length c0_7],.int .i64 a1] w fun e w'=>e = .returned (.bool r)∧Below w.heap.size w w':=by
 have hu24:=Try.underlying24
 have HR0_6:=Aside0.mk hr0_6
 have HC0_6:=Aside0.mk hc0_6
 clear hr0_6 hc0_6
 have HR0_7:=Aside0.mk hr0_7
 have HC0_7:=Aside0.mk hc0_7
 clear hr0_7 hc0_7
 have HB:=Aside0.mk (Below.refl w.heap.size w)
 have H:(breadlineref04_Leaf.l0 k a1 0 a0_0 a0_1 a0_2 a0_3 a0_4 a0_5 l0_6 l0_7) = some r:=h
 clear h
 have H':=Aside0.mk H
 clear H
 go_enter Try.func36,Try.ntmps36
 go_wp2_with (first|((with_reducible refine gate_dst (N:=2) rfl ?_);(try (refine gate_guard (by rfl) ?_;dsimp only));refine box_event ?hg (N:=2) ?hd (cs:=#[.int .i64 a0_0,.int .i64 a0_1,.int .i64 a0_2,.int .i64 a0_3,.int .i64 a0_4,.int .i64 a0_5,.slice A0_6 l0_6.length c0_6,.slice A0_7 l0_7.length c0_7]) (t:=24) ?hr ?_;(case hd=>rfl);(case hg=>rfl);(case hr=>first|(go_simp;done)|(go_simp;rfl));intro gb178 hg w3 hbox hb;have n0_:=Aside0.mk (below_step (by repeat (first|(with_reducible first|exact HB.out|apply below_alloc|apply pw_below_drewN|apply below_drew1)|exact HB.out)) hb);have n1_:=Aside0.mk (hbox);have n2_:=Aside0.mk ((by rw [hg];exact (below_size (by repeat (first|(with_reducible first|exact HB.out|apply below_alloc|apply pw_below_drewN|apply below_drew1)|exact HB.out))):w.heap.size ≤ gb178));have n3_:=Aside0.mk ((by rw [hg];exact (below_size (by repeat (first|(with_reducible first|exact HB.out|apply below_alloc|apply pw_below_drewN|apply below_drew1)|exact HB.out))):w.heap.size ≤ gb178));clear HB;have HB:=n0_;have BK178:=n1_;have GW178:=n2_;have GE178:=n3_;clear n0_ n1_ n2_ n3_;clear hb hbox hg))
 go_loopg [5] k (fun kq v5 w'=>∃ (x5_1:Int),v5 = .int .i64 x5_1∧Aside0 (breadlineref04_Leaf.l0 kq a1 x5_1 a0_0 a0_1 a0_2 a0_3 a0_4 a0_5 l0_6 l0_7 = some r)∧Aside0 (kq ≤ k)∧Aside0 (w'.heap[gb178]? = some (.cells #[.int .i64 a0_0,.int .i64 a0_1,.int .i64 a0_2,.int .i64 a0_3,.int .i64 a0_4,.int .i64 a0_5,(.slice A0_6 l0_6.length c0_6),(.slice A0_7 l0_7.length c0_7)] 24 (0,0)))∧Aside0 (Below w.heap.size w w'))
 case atStart=>exact ⟨(0),(by first|rfl|(simp;done)|(simp [*];done)),H',⟨Nat.le_refl _⟩,⟨by (with_reducible repeat (first|refine blk_drewN ?_ _|refine blk_drew ?_|refine blk_alloc ?_ _));exact BK178.out⟩,⟨by repeat (first|(with_reducible first|exact HB.out|apply below_alloc|apply pw_below_drewN|apply below_drew1|refine below_set ?_ GE178.out)|exact HB.out)⟩⟩
 case round =>
  clear H'
  try clear p2
  try clear c3
  obtain ⟨x5_1,rfl,HA,HK1,BK178,HB⟩:=hrel
  cases gk with
  | zero=>exact absurd HA.out (by simp [breadlineref04_Leaf.l0])
  | succ k1 =>
   have H:=HA.out
   clear HA
   simp only [breadlineref04_Leaf.l0] at H
   by_cases c4:x5_1 < (l0_6.length:Int)
   ·rw [if_pos c4] at H
    have c4b0:decide (x5_1 < (l0_6.length:Int)) = true:=decide_eq_true c4
    clear c4
    by_cases c5:0 ≤ x5_1
    ·rw [if_pos c5] at H
     have c5b0:decide (0 ≤ x5_1) = true:=decide_eq_true c5
     clear c5
     by_cases c6:(rd l0_6 x5_1) = a1
     ·rw [if_pos c6] at H
      have c6b0:((rd l0_6 x5_1) == a1) = true:=beq_iff_eq.mpr c6
      have c6b1:((rd l0_6 x5_1) != a1) = false:=bne_eq_false_iff_eq.mpr c6
      clear c6
      obtain rfl:=Option.some.inj H
      have hz7_gb178:=cells8 BK178.out
      have p179:0 ≤ (x5_1:Int):=of_decide_eq_true (by first|(with_reducible assumption)|assumption)
      have q179:x5_1 < (l0_6.length:Int):=of_decide_eq_true (by first|(with_reducible assumption)|assumption)
      obtain ⟨ad179,e179,hx179_0⟩:=Kd.at_int HR0_6.out x5_1 p179 q179
      cases e179
      replace hx179_0:=(HB.out.cell (World.block_lt_of_cell? w _ hx179_0)).trans hx179_0
      replace p179:=eq_true p179
      replace q179:=eq_true q179
      go_wp2
      go_ret
      exact ⟨by first|rfl|(simp [errW_none,errW_some] <;> rfl)|(simp [*,errW_none,errW_some] <;> rfl),by repeat (first|(with_reducible first|exact HB.out|apply below_alloc|apply pw_below_drewN|apply below_drew1|refine below_set ?_ GE178.out)|exact HB.out)⟩
     ·rw [if_neg c6] at H
      have c6b0:((rd l0_6 x5_1) == a1) = false:=beq_eq_false_iff_ne.mpr c6
      have c6b1:((rd l0_6 x5_1) != a1) = true:=bne_iff_ne.mpr c6
      have H':=Aside0.mk H
      clear H
      have hz8_gb178:=cells8 BK178.out
      have p179:0 ≤ (x5_1:Int):=of_decide_eq_true (by first|(with_reducible assumption)|assumption)
      have q179:x5_1 < (l0_6.length:Int):=of_decide_eq_true (by first|(with_reducible assumption)|assumption)
      obtain ⟨ad179,e179,hx179_0⟩:=Kd.at_int HR0_6.out x5_1 p179 q179
      cases e179
      replace hx179_0:=(HB.out.cell (World.block_lt_of_cell? w _ hx179_0)).trans hx179_0
      replace p179:=eq_true p179
      replace q179:=eq_true q179
      go_wp2
      go_roundg k1
      case measure=>have:=HK1.out;omega
      case rel=>exact ⟨(wrap64 (x5_1 + 1)),(by first|rfl|(simp;done)|(simp [*];done)),H',⟨by have:=HK1.out;omega⟩,⟨by (with_reducible repeat (first|refine blk_drewN ?_ _|refine blk_drew ?_|refine blk_alloc ?_ _));exact BK178.out⟩,⟨by repeat (first|(with_reducible first|exact HB.out|apply below_alloc|apply pw_below_drewN|apply below_drew1|refine below_set ?_ GE178.out)|exact HB.out)⟩⟩
    ·rw [if_neg c5] at H
     exact absurd H (by simp)
   ·rw [if_neg c4] at H
    have c4b0:decide (x5_1 < (l0_6.length:Int)) = false:=decide_eq_false c4
    clear c4
    by_cases c9:a1 ≥ 0
    ·rw [if_pos c9] at H
     have c9b0:decide (0 ≤ a1) = true:=decide_eq_true c9
     clear c9
     obtain rfl:=Option.some.inj H
     have hz10_gb178:=cells8 BK178.out
     go_wp2
     go_ret
     exact ⟨by first|rfl|(simp [errW_none,errW_some] <;> rfl)|(simp [*,errW_none,errW_some] <;> rfl),by repeat (first|(with_reducible first|exact HB.out|apply below_alloc|apply pw_below_drewN|apply below_drew1|refine below_set ?_ GE178.out)|exact HB.out)⟩
    ·rw [if_neg c9] at H
     have c9b0:decide (0 ≤ a1) = false:=decide_eq_false c9
     clear c9
     obtain rfl:=Option.some.inj H
     have hz11_gb178:=cells8 BK178.out
     go_wp2
     go_ret
     exact ⟨by first|rfl|(simp [errW_none,errW_some] <;> rfl)|(simp [*,errW_none,errW_some] <;> rfl),by repeat (first|(with_reducible first|exact HB.out|apply below_alloc|apply pw_below_drewN|apply below_drew1|refine below_set ?_ GE178.out)|exact HB.out)⟩
def breadlineref10_Named.f (a0:Int) (a1:Int):Option (Int × Int × Bool):=if a0 < 0 then (some (0,0,false)) else (if (Int.tmod a0 16) ≥ a1 then (some (0,0,false)) else (if (wrap64 (Int.tdiv a0 16)) ≥ 4294967296 then (some (0,0,false)) else (some (Int.tmod a0 16,wrap64 (Int.tdiv a0 16),true))))
theorem breadlineref10_Named.calls (a0:Int) (a1:Int) (r1:Int) (r2:Int) (r3:Bool) (w:World) (h:breadlineref10_Named.f a0 a1 = some (r1,r2,r3)) :
  Calls Try.prog 37 #[.int .i64 a0,.int .i64 a1] w fun e w'=>e = .returned (.tuple #[.int .i64 r1,.int .i64 r2,.bool r3])∧Drawn0 w w':=by
 have H:(if a0 < 0 then (some (0,0,false)) else (if (Int.tmod a0 16) ≥ a1 then (some (0,0,false)) else (if (wrap64 (Int.tdiv a0 16)) ≥ 4294967296 then (some (0,0,false)) else (some (Int.tmod a0 16,wrap64 (Int.tdiv a0 16),true))))) = some (r1,r2,r3):=h
 clear h
 by_cases c3:a0 < 0
 ·rw [if_pos c3] at H
  have c3b0:decide (a0 < 0) = true:=decide_eq_true c3
  clear c3
  simp only [Option.some.injEq,Prod.mk.injEq] at H
  obtain ⟨rfl,rfl,rfl⟩:=H
  go_enter Try.func37,Try.ntmps37
  go_wp2
  go_ret3
  exact ⟨by first|rfl|(simp;done)|(simp [*];done),by repeat (first|exact Drawn0.refl _|apply Drawn0.step)⟩
 ·rw [if_neg c3] at H
  have c3b0:decide (a0 < 0) = false:=decide_eq_false c3
  clear c3
  by_cases c4:(Int.tmod a0 16) ≥ a1
  ·rw [if_pos c4] at H
   have c4b0:decide (a1 ≤ (Int.tmod a0 16)) = true:=decide_eq_true c4
   clear c4
   simp only [Option.some.injEq,Prod.mk.injEq] at H
   obtain ⟨rfl,rfl,rfl⟩:=H
   go_enter Try.func37,Try.ntmps37
   go_wp2
   go_ret3
   exact ⟨by first|rfl|(simp;done)|(simp [*];done),by repeat (first|exact Drawn0.refl _|apply Drawn0.step)⟩
  ·rw [if_neg c4] at H
   have c4b0:decide (a1 ≤ (Int.tmod a0 16)) = false:=decide_eq_false c4
   clear c4
   by_cases c5:(wrap64 (Int.tdiv a0 16)) ≥ 4294967296
   ·rw [if_pos c5] at H
    have c5b0:decide (4294967296 ≤ (wrap64 (Int.tdiv a0 16))) = true:=decide_eq_true c5
    clear c5
    simp only [Option.some.injEq,Prod.mk.injEq] at H
    obtain ⟨rfl,rfl,rfl⟩:=H
    go_enter Try.func37,Try.ntmps37
    go_wp2
    go_ret3
    exact ⟨by first|rfl|(simp;done)|(simp [*];done),by repeat (first|exact Drawn0.refl _|apply Drawn0.step)⟩
   ·rw [if_neg c5] at H
    have c5b0:decide (4294967296 ≤ (wrap64 (Int.tdiv a0 16))) = false:=decide_eq_false c5
    clear c5
    simp only [Option.some.injEq,Prod.mk.injEq] at H
    obtain ⟨rfl,rfl,rfl⟩:=H
    go_enter Try.func37,Try.ntmps37
    go_wp2
    go_ret3
    exact ⟨by first|rfl|(simp;done)|(simp [*];done),by repeat (first|exact Drawn0.refl _|apply Drawn0.step)⟩
end Go.Proofs.Ytadblpcjkahikaa.PTraceRuns

