
import Derived.Test.YtadblpcjkahikaaRunsConf
namespace Go.Proofs.Ytadblpcjkahikaa.PTraceRuns
open Go.RowKit Go.Proofs.YtadblpcjkahikaaW.PrintWords Go.Proofs.YtadblpcjkahikaaW.PrintLast Go.Proofs.YtadblpcjkahikaaW.PrintMore
set_option linter.unusedVariables false
set_option linter.unusedSimpArgs false
set_option maxHeartbeats 2000000
set_option maxRecDepth 100000
structure S09 where
 kd:Int
 n0:Int
 At:Int
 sw:Int
 o0:Int
 o1:Int
 o2:Bool
 o3:Int
def k09 (kd:Int) (c:Cf) (AP:Option Addr) (cP:Nat) (AL:Option Addr) (cL:Nat) (v:Nat) (n0 At sw o0 o1:Int) (o2:Bool) (o3:Int):Array Value:=#[.int .i64 kd,.int .i64 c.th,.int .i64 c.S,.int .i64 c.ga,.int .i64 c.le,.int .i64 c.re,.int .i64 c.ti,.slice AP c.pa.length cP,.slice AL c.li.length cL,.int .i64 v,.int .i64 n0,.int .i64 At,.int .i64 sw,.int .i64 o0,.int .i64 o1,.bool o2,.int .i64 o3]
theorem cells_k09 {kd:Int} {c:Cf} {AP:Option Addr} {cP:Nat} {AL:Option Addr} {cL:Nat} {v:Nat} {n0 At sw o0 o1:Int} {o2:Bool} {o3:Int} {w:World} {g:Nat} (h:w.heap[g]? = some (.cells (k09 kd c AP cP AL cL v n0 At sw o0 o1 o2 o3) 102 (0,0))):Sat (fun w=>(∀ i,w.frozen? ⟨g,i,none⟩ = false)∧w.cell? ⟨g,0,none⟩ = some (.int .i64 kd)∧w.cell? ⟨g,1,none⟩ = some (.int .i64 c.th)∧w.cell? ⟨g,2,none⟩ = some (.int .i64 c.S)∧w.cell? ⟨g,3,none⟩ = some (.int .i64 c.ga)∧w.cell? ⟨g,4,none⟩ = some (.int .i64 c.le)∧w.cell? ⟨g,5,none⟩ = some (.int .i64 c.re)∧w.cell? ⟨g,6,none⟩ = some (.int .i64 c.ti)∧w.cell? ⟨g,7,none⟩ = some (.slice AP c.pa.length cP)∧w.cell? ⟨g,8,none⟩ = some (.slice AL c.li.length cL)∧w.cell? ⟨g,9,none⟩ = some (.int .i64 v)∧w.cell? ⟨g,10,none⟩ = some (.int .i64 n0)∧w.cell? ⟨g,11,none⟩ = some (.int .i64 At)∧w.cell? ⟨g,12,none⟩ = some (.int .i64 sw)∧w.cell? ⟨g,13,none⟩ = some (.int .i64 o0)∧w.cell? ⟨g,14,none⟩ = some (.int .i64 o1)∧w.cell? ⟨g,15,none⟩ = some (.bool o2)∧w.cell? ⟨g,16,none⟩ = some (.int .i64 o3)) w:=by unfold k09 at h;exact cells17 h
def Is09 (c:Cf) (v:Nat) (w:World) (g:Nat) (x:S09):Prop :=
 ∃ AP cP AL cL,w.heap[g]? = some (.cells (k09 x.kd c AP cP AL cL v x.n0 x.At x.sw x.o0 x.o1 x.o2 x.o3) 102 (0,0))∧Ints w (.slice AP c.pa.length cP) c.pa∧Ints w (.slice AL c.li.length cL) c.li
def A09 (x:S09):Prop:=(x.kd = 2 ∨ x.kd = 3)∧(x.At = 0 ∨ x.At = 1 ∨ x.At = 2 ∨ x.At = 9)
def P09 (c:Cf) (v B gm g:Nat) (ws:List Int) (n:Nat) (w:World) (e:Ending) (w':World):Prop :=
 ∃ b x ws' n',e = .returned (.bool b)∧Is09 c v w' g x∧A09 x∧MemIs B w' gm ws' n'∧WTo c ws ws'∧n ≤ n'∧n' ≤ n + 1∧Fr B true [g] w w'
theorem step09_2_0_yes {c:Cf} (hc:c.Ok) {v B gm g n:Nat} {w:World} {ws:List Int} (hv:v < c.N) (hm:MemIs B w gm ws n) (hw:WOk c ws) (hn:n ≤ 1000000) (hB:B ≤ g) {n0 sw o0 o1 o3:Int} {o2:Bool} (hg:Is09 c v w g ⟨2,n0,0,sw,o0,o1,o2,o3⟩) (hq:1099511627776 < IntKind.i64.wrap (wd ws (c.na v 0) + n0)) :
  Calls Try.prog 46 #[.pointer (some ⟨g,0,none⟩),.pointer (some ⟨gm,0,none⟩)] w (P09 c v B gm g ws n w):=by
 obtain ⟨AP,cP,AL,cL,hg,hP,hL⟩:=hg
 have HC:=Lib.hid hc
 have HW:=Lib.hid hw
 have HP:=Lib.hid hP
 have HLi:=Lib.hid hL
 have HLe:=Lib.hid (hw.le hc)
 have hK:c.K = 6 + 2 * c.S:=rfl
 obtain ⟨p5,hp5⟩:∃ p,c.na v 0 = p:=⟨_,rfl⟩
 obtain ⟨p6,hp6⟩:∃ p,c.na v 1 = p:=⟨_,rfl⟩
 have H5:=Lib.hid hp5
 have H6:=Lib.hid hp6
 have H5l:Hid (p5 < ws.length):=Lib.hid (by rw [← hp5];exact hw.lt hv (by omega))
 have H6l:Hid (p6 < ws.length):=Lib.hid (by rw [← hp6];exact hw.lt hv (by omega))
 have HT5:Hid (∀ x,WTo c ws (ws.set p5 x)):=Lib.hid (fun x=>by rw [← hp5];exact hw.set_node hv (by omega) (by omega) x)
 have HT6:Hid (∀ x,WTo c ws (ws.set p6 x)):=Lib.hid (fun x=>by rw [← hp6];exact hw.set_node hv (by omega) (by omega) x)
 have HB0_g:=Lib.hid hg
 obtain ⟨L,T,HLL,HTe,HT,HSG_g,HS0⟩:=st1 hm hB hg (by decide) (by decide)
 clear hc hw hg hm hP hL hK hp5 hp6
 obtain ⟨x1,hx1⟩:∃ z,wd ws p5 = z:=⟨_,rfl⟩
 have HX1:=Lib.hid hx1
 rw [H5.out,hx1] at hq
 obtain ⟨z1,hz1⟩:∃ z,IntKind.i64.wrap (x1 + n0) = z:=⟨_,rfl⟩
 have hz1':wrap64 (x1 + n0) = z1:=by rw [← hz1,i64_w]
 rw [hz1] at hq
 have d1:decide (1099511627776 < z1) = true:=decide_eq_true (by omega)
 clear hx1 hq
 have C_g:=cells_k09 HB0_g.out
 go_enter Try.func46,Try.ntmps46
 go_wp2
 refine ch_b C_g C_g [0,1,2,3,4,5,6,7,8,9] (fun W1 HWd hHeld=>?_)
 have HS1:=dwS HWd HS0
 have HB1_g:Hid (W1.heap[g]? = some (.cells (k09 2 c AP cP AL cL v n0 0 sw o0 o1 o2 o3) 102 (0,0))):=Lib.hid (by rw [← HWd.out];exact HB0_g.out)
 replace C_g:=cells_k09 HB1_g.out
 clear HWd
 iterate 8 refine ch_s ?_
 refine ch_1 fun K hK=>?_
 refine goes_s Try.func33 #[(cA c AP cP AL cL),.int .i64 v] ?_
 refine (limit_c HC.out (HP.out.fr HS1.out.fr) (HLi.out.fr HS1.out.fr) (v:=v) (by omega)).mono ?_
 rintro e W2 ⟨rfl,hb'⟩
 refine ⟨_,rfl,?_⟩
 have HS2:=Lib.hid (HS1.out.below hb')
 have HB2_g:=Lib.hid (blk_below HB1_g.out hb')
 replace C_g:=cells_k09 HB2_g.out
 rw [H5.out]
 clear hb'
 refine hK.out _ _ C_g ?_;clear hK K hHeld;intro hHeld
 try simp only [Act.put,zq1,zq2,zq3]
 refine ch_s ?_
 refine ch_z ?_
 clear hHeld
 go_wp2
 refine ch_b C_g C_g [0,1,2,3,4,5,6,7,8,9] (fun W3 HWd hHeld=>?_)
 have HS3:=dwS HWd HS2
 have HB3_g:=dwH HWd HB2_g
 replace C_g:=cells_k09 HB3_g.out
 clear HWd
 iterate 8 refine ch_s ?_
 refine ch_1 fun K hK=>?_
 refine goes_s Try.func34 #[(cA c AP cP AL cL),.int .i64 v] ?_
 refine (avail_c HC.out (HP.out.fr HS3.out.fr) (HLi.out.fr HS3.out.fr) (v:=v) (by omega)).mono ?_
 rintro e W4 ⟨rfl,hb'⟩
 refine ⟨_,rfl,?_⟩
 have HS4:=Lib.hid (HS3.out.below hb')
 have HB4_g:=Lib.hid (blk_below HB3_g.out hb')
 replace C_g:=cells_k09 HB4_g.out
 rw [H6.out]
 clear hb'
 refine hK.out _ _ C_g ?_;clear hK K hHeld;intro hHeld
 try simp only [Act.put,zq1,zq2,zq3]
 refine ch_s ?_
 refine ch_z ?_
 clear hHeld
 go_wp2_with (first|(go_at_call 68;(with_reducible refine ((load_z HS4.out.mem hn HLe.out p5 H5l.out _ rfl)).mono ?_);rintro e W5 ⟨rfl,hm',hf'⟩;have HS5:=Lib.hid (HS4.out.acc hm' hf' HT.out);have HB5_g:=Lib.hid (blk_fr HB4_g.out hf' (by simp) (by decide));replace C_g:=cells_k09 HB5_g.out;clear hm' hf';rw [HX1.out]))
 generalize hWd:(World.setCell (World.setCell W5 ⟨g,12,none⟩ (.int .i64 x1)) ⟨g,11,none⟩ (.int .i64 1)) = W6 at ⊢
 have HWd:=Lib.hid hWd
 clear hWd
 have HS6:Hid (St B L T w gm ws (n + 1) W6):=Lib.hid (by rw [← HWd.out];exact (HSG_g.out _ _ _ (HSG_g.out _ _ _ HS5.out 12 (.int .i64 x1)) 11 (.int .i64 1)))
 have HB6_g:Hid (W6.heap[g]? = some (.cells (k09 2 c AP cP AL cL v n0 1 x1 o0 o1 o2 o3) 102 (0,0))):=Lib.hid (by rw [← HWd.out];exact (blk_set' (blk_set' HB5_g.out 12 (.int .i64 x1) rfl) 11 (.int .i64 1) rfl))
 replace C_g:=cells_k09 HB6_g.out
 clear HWd
 refine ch_b C_g C_g [0,1,2,3,4,5,6,7,8,9,10,11,12,13,14,15,16] (fun W7 HWd hHeld=>?_)
 have HS7:=dwS HWd HS6
 have HB7_g:=dwH HWd HB6_g
 replace C_g:=cells_k09 HB7_g.out
 clear HWd
 iterate 17 refine ch_s ?_
 refine ch_z ?_
 clear hHeld
 go_wp2
 generalize hWd:(World.setCell (World.setCell (World.setCell (World.setCell (World.setCell W7 ⟨g,13,none⟩ (.int .i64 6)) ⟨g,14,none⟩ (.int .i64 0)) ⟨g,15,none⟩ (.bool false)) ⟨g,16,none⟩ (.int .i64 0)) ⟨g,11,none⟩ (.int .i64 9)) = W8 at ⊢
 have HWd:=Lib.hid hWd
 clear hWd
 have HS8:Hid (St B L T w gm ws (n + 1) W8):=Lib.hid (by rw [← HWd.out];exact (HSG_g.out _ _ _ (HSG_g.out _ _ _ (HSG_g.out _ _ _ (HSG_g.out _ _ _ (HSG_g.out _ _ _ HS7.out 13 (.int .i64 6)) 14 (.int .i64 0)) 15 (.bool false)) 16 (.int .i64 0)) 11 (.int .i64 9)))
 have HB8_g:Hid (W8.heap[g]? = some (.cells (k09 2 c AP cP AL cL v n0 9 x1 6 0 false 0) 102 (0,0))):=Lib.hid (by rw [← HWd.out];exact (blk_set' (blk_set' (blk_set' (blk_set' (blk_set' HB7_g.out 13 (.int .i64 6) rfl) 14 (.int .i64 0) rfl) 15 (.bool false) rfl) 16 (.int .i64 0) rfl) 11 (.int .i64 9) rfl))
 replace C_g:=cells_k09 HB8_g.out
 clear HWd
 refine ch_b C_g C_g [0,1,2,3,4,5,6,7,8,9,10,11,12,13,14,15] (fun W9 HWd hHeld=>?_)
 have HS9:=dwS HWd HS8
 have HB9_g:=dwH HWd HB8_g
 replace C_g:=cells_k09 HB9_g.out
 clear HWd
 iterate 6 refine ch_s ?_
 iterate 9
  refine ch_skip rfl rfl (by kernel_rfl) (fun _ _ _ h=>h) (by rfl) rfl ?_
  try simp only [Act.put,zq1,zq2,zq3]
 refine ch_s ?_
 refine ch_z ?_
 clear hHeld
 go_wp2
 go_ret
 exact ⟨true,⟨2,n0,9,x1,6,0,false,0⟩,ws,_,rfl,⟨AP,cP,AL,cL,HB9_g.out,HP.out.fr HS9.out.fr,HLi.out.fr HS9.out.fr⟩,by unfold A09;simp,HS9.out.mem,WTo.refl HW.out,by omega,Nat.le_refl _,HLL.out ▸ HS9.out.fr⟩
theorem step09_2_0_no {c:Cf} (hc:c.Ok) {v B gm g n:Nat} {w:World} {ws:List Int} (hv:v < c.N) (hm:MemIs B w gm ws n) (hw:WOk c ws) (hn:n ≤ 1000000) (hB:B ≤ g) {n0 sw o0 o1 o3:Int} {o2:Bool} (hg:Is09 c v w g ⟨2,n0,0,sw,o0,o1,o2,o3⟩) (hq:IntKind.i64.wrap (wd ws (c.na v 0) + n0) ≤ 1099511627776) :
  Calls Try.prog 46 #[.pointer (some ⟨g,0,none⟩),.pointer (some ⟨gm,0,none⟩)] w (P09 c v B gm g ws n w):=by
 obtain ⟨AP,cP,AL,cL,hg,hP,hL⟩:=hg
 have HC:=Lib.hid hc
 have HW:=Lib.hid hw
 have HP:=Lib.hid hP
 have HLi:=Lib.hid hL
 have HLe:=Lib.hid (hw.le hc)
 have hK:c.K = 6 + 2 * c.S:=rfl
 obtain ⟨p5,hp5⟩:∃ p,c.na v 0 = p:=⟨_,rfl⟩
 obtain ⟨p6,hp6⟩:∃ p,c.na v 1 = p:=⟨_,rfl⟩
 have H5:=Lib.hid hp5
 have H6:=Lib.hid hp6
 have H5l:Hid (p5 < ws.length):=Lib.hid (by rw [← hp5];exact hw.lt hv (by omega))
 have H6l:Hid (p6 < ws.length):=Lib.hid (by rw [← hp6];exact hw.lt hv (by omega))
 have HT5:Hid (∀ x,WTo c ws (ws.set p5 x)):=Lib.hid (fun x=>by rw [← hp5];exact hw.set_node hv (by omega) (by omega) x)
 have HT6:Hid (∀ x,WTo c ws (ws.set p6 x)):=Lib.hid (fun x=>by rw [← hp6];exact hw.set_node hv (by omega) (by omega) x)
 have HB0_g:=Lib.hid hg
 obtain ⟨L,T,HLL,HTe,HT,HSG_g,HS0⟩:=st1 hm hB hg (by decide) (by decide)
 clear hc hw hg hm hP hL hK hp5 hp6
 obtain ⟨x1,hx1⟩:∃ z,wd ws p5 = z:=⟨_,rfl⟩
 have HX1:=Lib.hid hx1
 rw [H5.out,hx1] at hq
 obtain ⟨z1,hz1⟩:∃ z,IntKind.i64.wrap (x1 + n0) = z:=⟨_,rfl⟩
 have hz1':wrap64 (x1 + n0) = z1:=by rw [← hz1,i64_w]
 rw [hz1] at hq
 have d1:decide (1099511627776 < z1) = false:=decide_eq_false (by omega)
 clear hx1 hq
 have C_g:=cells_k09 HB0_g.out
 go_enter Try.func46,Try.ntmps46
 go_wp2
 refine ch_b C_g C_g [0,1,2,3,4,5,6,7,8,9] (fun W1 HWd hHeld=>?_)
 have HS1:=dwS HWd HS0
 have HB1_g:Hid (W1.heap[g]? = some (.cells (k09 2 c AP cP AL cL v n0 0 sw o0 o1 o2 o3) 102 (0,0))):=Lib.hid (by rw [← HWd.out];exact HB0_g.out)
 replace C_g:=cells_k09 HB1_g.out
 clear HWd
 iterate 8 refine ch_s ?_
 refine ch_1 fun K hK=>?_
 refine goes_s Try.func33 #[(cA c AP cP AL cL),.int .i64 v] ?_
 refine (limit_c HC.out (HP.out.fr HS1.out.fr) (HLi.out.fr HS1.out.fr) (v:=v) (by omega)).mono ?_
 rintro e W2 ⟨rfl,hb'⟩
 refine ⟨_,rfl,?_⟩
 have HS2:=Lib.hid (HS1.out.below hb')
 have HB2_g:=Lib.hid (blk_below HB1_g.out hb')
 replace C_g:=cells_k09 HB2_g.out
 rw [H5.out]
 clear hb'
 refine hK.out _ _ C_g ?_;clear hK K hHeld;intro hHeld
 try simp only [Act.put,zq1,zq2,zq3]
 refine ch_s ?_
 refine ch_z ?_
 clear hHeld
 go_wp2
 refine ch_b C_g C_g [0,1,2,3,4,5,6,7,8,9] (fun W3 HWd hHeld=>?_)
 have HS3:=dwS HWd HS2
 have HB3_g:=dwH HWd HB2_g
 replace C_g:=cells_k09 HB3_g.out
 clear HWd
 iterate 8 refine ch_s ?_
 refine ch_1 fun K hK=>?_
 refine goes_s Try.func34 #[(cA c AP cP AL cL),.int .i64 v] ?_
 refine (avail_c HC.out (HP.out.fr HS3.out.fr) (HLi.out.fr HS3.out.fr) (v:=v) (by omega)).mono ?_
 rintro e W4 ⟨rfl,hb'⟩
 refine ⟨_,rfl,?_⟩
 have HS4:=Lib.hid (HS3.out.below hb')
 have HB4_g:=Lib.hid (blk_below HB3_g.out hb')
 replace C_g:=cells_k09 HB4_g.out
 rw [H6.out]
 clear hb'
 refine hK.out _ _ C_g ?_;clear hK K hHeld;intro hHeld
 try simp only [Act.put,zq1,zq2,zq3]
 refine ch_s ?_
 refine ch_z ?_
 clear hHeld
 go_wp2_with (first|(go_at_call 68;(with_reducible refine ((load_z HS4.out.mem hn HLe.out p5 H5l.out _ rfl)).mono ?_);rintro e W5 ⟨rfl,hm',hf'⟩;have HS5:=Lib.hid (HS4.out.acc hm' hf' HT.out);have HB5_g:=Lib.hid (blk_fr HB4_g.out hf' (by simp) (by decide));replace C_g:=cells_k09 HB5_g.out;clear hm' hf';rw [HX1.out]))
 generalize hWd:(World.setCell (World.setCell W5 ⟨g,12,none⟩ (.int .i64 x1)) ⟨g,11,none⟩ (.int .i64 1)) = W6 at ⊢
 have HWd:=Lib.hid hWd
 clear hWd
 have HS6:Hid (St B L T w gm ws (n + 1) W6):=Lib.hid (by rw [← HWd.out];exact (HSG_g.out _ _ _ (HSG_g.out _ _ _ HS5.out 12 (.int .i64 x1)) 11 (.int .i64 1)))
 have HB6_g:Hid (W6.heap[g]? = some (.cells (k09 2 c AP cP AL cL v n0 1 x1 o0 o1 o2 o3) 102 (0,0))):=Lib.hid (by rw [← HWd.out];exact (blk_set' (blk_set' HB5_g.out 12 (.int .i64 x1) rfl) 11 (.int .i64 1) rfl))
 replace C_g:=cells_k09 HB6_g.out
 clear HWd
 refine ch_b C_g C_g [0,1,2,3,4,5,6,7,8,9,10,11,12,13,14,15,16] (fun W7 HWd hHeld=>?_)
 have HS7:=dwS HWd HS6
 have HB7_g:=dwH HWd HB6_g
 replace C_g:=cells_k09 HB7_g.out
 clear HWd
 iterate 17 refine ch_s ?_
 refine ch_z ?_
 clear hHeld
 go_wp2
 refine ch_b C_g C_g [0,1,2,3,4,5,6,7,8,9,10,11,12,13,14,15] (fun W8 HWd hHeld=>?_)
 have HS8:=dwS HWd HS7
 have HB8_g:=dwH HWd HB7_g
 replace C_g:=cells_k09 HB8_g.out
 clear HWd
 iterate 6 refine ch_s ?_
 iterate 9
  refine ch_skip rfl rfl (by kernel_rfl) (fun _ _ _ h=>h) (by rfl) rfl ?_
  try simp only [Act.put,zq1,zq2,zq3]
 refine ch_s ?_
 refine ch_z ?_
 clear hHeld
 go_wp2
 go_ret
 exact ⟨false,⟨2,n0,1,x1,o0,o1,o2,o3⟩,ws,_,rfl,⟨AP,cP,AL,cL,HB8_g.out,HP.out.fr HS8.out.fr,HLi.out.fr HS8.out.fr⟩,by unfold A09;simp,HS8.out.mem,WTo.refl HW.out,by omega,Nat.le_refl _,HLL.out ▸ HS8.out.fr⟩
theorem step09_2_1_yes {c:Cf} (hc:c.Ok) {v B gm g n:Nat} {w:World} {ws:List Int} (hv:v < c.N) (hm:MemIs B w gm ws n) (hw:WOk c ws) (hn:n ≤ 1000000) (hB:B ≤ g) {n0 sw o0 o1 o3:Int} {o2:Bool} (hg:Is09 c v w g ⟨2,n0,1,sw,o0,o1,o2,o3⟩) (hq:wd ws (c.na v 0) = sw) :
  Calls Try.prog 46 #[.pointer (some ⟨g,0,none⟩),.pointer (some ⟨gm,0,none⟩)] w (P09 c v B gm g ws n w):=by
 obtain ⟨AP,cP,AL,cL,hg,hP,hL⟩:=hg
 have HC:=Lib.hid hc
 have HW:=Lib.hid hw
 have HP:=Lib.hid hP
 have HLi:=Lib.hid hL
 have HLe:=Lib.hid (hw.le hc)
 have hK:c.K = 6 + 2 * c.S:=rfl
 obtain ⟨p5,hp5⟩:∃ p,c.na v 0 = p:=⟨_,rfl⟩
 obtain ⟨p6,hp6⟩:∃ p,c.na v 1 = p:=⟨_,rfl⟩
 have H5:=Lib.hid hp5
 have H6:=Lib.hid hp6
 have H5l:Hid (p5 < ws.length):=Lib.hid (by rw [← hp5];exact hw.lt hv (by omega))
 have H6l:Hid (p6 < ws.length):=Lib.hid (by rw [← hp6];exact hw.lt hv (by omega))
 have HT5:Hid (∀ x,WTo c ws (ws.set p5 x)):=Lib.hid (fun x=>by rw [← hp5];exact hw.set_node hv (by omega) (by omega) x)
 have HT6:Hid (∀ x,WTo c ws (ws.set p6 x)):=Lib.hid (fun x=>by rw [← hp6];exact hw.set_node hv (by omega) (by omega) x)
 have HB0_g:=Lib.hid hg
 obtain ⟨L,T,HLL,HTe,HT,HSG_g,HS0⟩:=st1 hm hB hg (by decide) (by decide)
 clear hc hw hg hm hP hL hK hp5 hp6
 rw [H5.out] at hq
 have HQ:=Lib.hid hq
 clear hq
 obtain ⟨z1,hz1⟩:∃ z,IntKind.i64.wrap (sw + n0) = z:=⟨_,rfl⟩
 have hz1':wrap64 (sw + n0) = z1:=by rw [← hz1,i64_w]
 have C_g:=cells_k09 HB0_g.out
 go_enter Try.func46,Try.ntmps46
 go_wp2
 refine ch_b C_g C_g [0,1,2,3,4,5,6,7,8,9] (fun W1 HWd hHeld=>?_)
 have HS1:=dwS HWd HS0
 have HB1_g:Hid (W1.heap[g]? = some (.cells (k09 2 c AP cP AL cL v n0 1 sw o0 o1 o2 o3) 102 (0,0))):=Lib.hid (by rw [← HWd.out];exact HB0_g.out)
 replace C_g:=cells_k09 HB1_g.out
 clear HWd
 iterate 8 refine ch_s ?_
 refine ch_1 fun K hK=>?_
 refine goes_s Try.func33 #[(cA c AP cP AL cL),.int .i64 v] ?_
 refine (limit_c HC.out (HP.out.fr HS1.out.fr) (HLi.out.fr HS1.out.fr) (v:=v) (by omega)).mono ?_
 rintro e W2 ⟨rfl,hb'⟩
 refine ⟨_,rfl,?_⟩
 have HS2:=Lib.hid (HS1.out.below hb')
 have HB2_g:=Lib.hid (blk_below HB1_g.out hb')
 replace C_g:=cells_k09 HB2_g.out
 rw [H5.out]
 clear hb'
 refine hK.out _ _ C_g ?_;clear hK K hHeld;intro hHeld
 try simp only [Act.put,zq1,zq2,zq3]
 refine ch_s ?_
 refine ch_z ?_
 clear hHeld
 go_wp2
 refine ch_b C_g C_g [0,1,2,3,4,5,6,7,8,9] (fun W3 HWd hHeld=>?_)
 have HS3:=dwS HWd HS2
 have HB3_g:=dwH HWd HB2_g
 replace C_g:=cells_k09 HB3_g.out
 clear HWd
 iterate 8 refine ch_s ?_
 refine ch_1 fun K hK=>?_
 refine goes_s Try.func34 #[(cA c AP cP AL cL),.int .i64 v] ?_
 refine (avail_c HC.out (HP.out.fr HS3.out.fr) (HLi.out.fr HS3.out.fr) (v:=v) (by omega)).mono ?_
 rintro e W4 ⟨rfl,hb'⟩
 refine ⟨_,rfl,?_⟩
 have HS4:=Lib.hid (HS3.out.below hb')
 have HB4_g:=Lib.hid (blk_below HB3_g.out hb')
 replace C_g:=cells_k09 HB4_g.out
 rw [H6.out]
 clear hb'
 refine hK.out _ _ C_g ?_;clear hK K hHeld;intro hHeld
 try simp only [Act.put,zq1,zq2,zq3]
 refine ch_s ?_
 refine ch_z ?_
 clear hHeld
 go_wp2
 generalize hWd:(World.setCell W4 ⟨g,11,none⟩ (.int .i64 0)) = W5 at ⊢
 have HWd:=Lib.hid hWd
 clear hWd
 have HS5:Hid (St B L T w gm ws n W5):=Lib.hid (by rw [← HWd.out];exact (HSG_g.out _ _ _ HS4.out 11 (.int .i64 0)))
 have HB5_g:Hid (W5.heap[g]? = some (.cells (k09 2 c AP cP AL cL v n0 0 sw o0 o1 o2 o3) 102 (0,0))):=Lib.hid (by rw [← HWd.out];exact (blk_set' HB4_g.out 11 (.int .i64 0) rfl))
 replace C_g:=cells_k09 HB5_g.out
 clear HWd
 refine ch_d C_g C_g [12] [0,1,2,3,4,5,6,7,8,9,10,11,12] (fun W6 HWd hHeld=>?_)
 have HS6:=dwS HWd HS5
 have HB6_g:=dwH HWd HB5_g
 replace C_g:=cells_k09 HB6_g.out
 clear HWd
 iterate 12 refine ch_s ?_
 refine ch_last rfl rfl (by kernel_rfl) (by decide) (fun K hK=>?_)
 refine goes_s Try.func72 #[.pointer (some ⟨gm,0,none⟩),.int .i64 p5,.int .i64 sw,.int .i64 z1] ?_
 refine (cas_yes_z HS6.out.mem hn HLe.out p5 H5l.out sw z1 _ rfl HQ.out).mono ?_
 rintro e W7 ⟨rfl,hm',hf'⟩
 refine ⟨_,rfl,?_⟩
 have HS7:=Lib.hid (HS6.out.acc hm' hf' HT.out)
 have HB7_g:=Lib.hid (blk_fr HB6_g.out hf' (by simp) (by decide))
 replace C_g:=cells_k09 HB7_g.out
 clear hm' hf'
 refine hK.out _ _ ?_
 clear hK K
 try simp only [Act.put,zq1,zq2,zq3]
 refine ch_z ?_
 clear hHeld
 go_wp2
 go_ret
 exact ⟨false,⟨2,n0,2,sw,o0,o1,o2,o3⟩,(ws.set p5 z1),_,rfl,⟨AP,cP,AL,cL,(blk_set' HB7_g.out 11 (.int .i64 2) rfl),HP.out.fr (HSG_g.out _ _ _ HS7.out 11 (.int .i64 2)).fr,HLi.out.fr (HSG_g.out _ _ _ HS7.out 11 (.int .i64 2)).fr⟩,by unfold A09;simp,(HSG_g.out _ _ _ HS7.out 11 (.int .i64 2)).mem,HT5.out z1,by omega,Nat.le_refl _,HLL.out ▸ (HSG_g.out _ _ _ HS7.out 11 (.int .i64 2)).fr⟩
theorem step09_2_1_no {c:Cf} (hc:c.Ok) {v B gm g n:Nat} {w:World} {ws:List Int} (hv:v < c.N) (hm:MemIs B w gm ws n) (hw:WOk c ws) (hn:n ≤ 1000000) (hB:B ≤ g) {n0 sw o0 o1 o3:Int} {o2:Bool} (hg:Is09 c v w g ⟨2,n0,1,sw,o0,o1,o2,o3⟩) (hq:wd ws (c.na v 0) ≠ sw) :
  Calls Try.prog 46 #[.pointer (some ⟨g,0,none⟩),.pointer (some ⟨gm,0,none⟩)] w (P09 c v B gm g ws n w):=by
 obtain ⟨AP,cP,AL,cL,hg,hP,hL⟩:=hg
 have HC:=Lib.hid hc
 have HW:=Lib.hid hw
 have HP:=Lib.hid hP
 have HLi:=Lib.hid hL
 have HLe:=Lib.hid (hw.le hc)
 have hK:c.K = 6 + 2 * c.S:=rfl
 obtain ⟨p5,hp5⟩:∃ p,c.na v 0 = p:=⟨_,rfl⟩
 obtain ⟨p6,hp6⟩:∃ p,c.na v 1 = p:=⟨_,rfl⟩
 have H5:=Lib.hid hp5
 have H6:=Lib.hid hp6
 have H5l:Hid (p5 < ws.length):=Lib.hid (by rw [← hp5];exact hw.lt hv (by omega))
 have H6l:Hid (p6 < ws.length):=Lib.hid (by rw [← hp6];exact hw.lt hv (by omega))
 have HT5:Hid (∀ x,WTo c ws (ws.set p5 x)):=Lib.hid (fun x=>by rw [← hp5];exact hw.set_node hv (by omega) (by omega) x)
 have HT6:Hid (∀ x,WTo c ws (ws.set p6 x)):=Lib.hid (fun x=>by rw [← hp6];exact hw.set_node hv (by omega) (by omega) x)
 have HB0_g:=Lib.hid hg
 obtain ⟨L,T,HLL,HTe,HT,HSG_g,HS0⟩:=st1 hm hB hg (by decide) (by decide)
 clear hc hw hg hm hP hL hK hp5 hp6
 rw [H5.out] at hq
 have HQ:=Lib.hid hq
 clear hq
 obtain ⟨z1,hz1⟩:∃ z,IntKind.i64.wrap (sw + n0) = z:=⟨_,rfl⟩
 have hz1':wrap64 (sw + n0) = z1:=by rw [← hz1,i64_w]
 have C_g:=cells_k09 HB0_g.out
 go_enter Try.func46,Try.ntmps46
 go_wp2
 refine ch_b C_g C_g [0,1,2,3,4,5,6,7,8,9] (fun W1 HWd hHeld=>?_)
 have HS1:=dwS HWd HS0
 have HB1_g:Hid (W1.heap[g]? = some (.cells (k09 2 c AP cP AL cL v n0 1 sw o0 o1 o2 o3) 102 (0,0))):=Lib.hid (by rw [← HWd.out];exact HB0_g.out)
 replace C_g:=cells_k09 HB1_g.out
 clear HWd
 iterate 8 refine ch_s ?_
 refine ch_1 fun K hK=>?_
 refine goes_s Try.func33 #[(cA c AP cP AL cL),.int .i64 v] ?_
 refine (limit_c HC.out (HP.out.fr HS1.out.fr) (HLi.out.fr HS1.out.fr) (v:=v) (by omega)).mono ?_
 rintro e W2 ⟨rfl,hb'⟩
 refine ⟨_,rfl,?_⟩
 have HS2:=Lib.hid (HS1.out.below hb')
 have HB2_g:=Lib.hid (blk_below HB1_g.out hb')
 replace C_g:=cells_k09 HB2_g.out
 rw [H5.out]
 clear hb'
 refine hK.out _ _ C_g ?_;clear hK K hHeld;intro hHeld
 try simp only [Act.put,zq1,zq2,zq3]
 refine ch_s ?_
 refine ch_z ?_
 clear hHeld
 go_wp2
 refine ch_b C_g C_g [0,1,2,3,4,5,6,7,8,9] (fun W3 HWd hHeld=>?_)
 have HS3:=dwS HWd HS2
 have HB3_g:=dwH HWd HB2_g
 replace C_g:=cells_k09 HB3_g.out
 clear HWd
 iterate 8 refine ch_s ?_
 refine ch_1 fun K hK=>?_
 refine goes_s Try.func34 #[(cA c AP cP AL cL),.int .i64 v] ?_
 refine (avail_c HC.out (HP.out.fr HS3.out.fr) (HLi.out.fr HS3.out.fr) (v:=v) (by omega)).mono ?_
 rintro e W4 ⟨rfl,hb'⟩
 refine ⟨_,rfl,?_⟩
 have HS4:=Lib.hid (HS3.out.below hb')
 have HB4_g:=Lib.hid (blk_below HB3_g.out hb')
 replace C_g:=cells_k09 HB4_g.out
 rw [H6.out]
 clear hb'
 refine hK.out _ _ C_g ?_;clear hK K hHeld;intro hHeld
 try simp only [Act.put,zq1,zq2,zq3]
 refine ch_s ?_
 refine ch_z ?_
 clear hHeld
 go_wp2
 generalize hWd:(World.setCell W4 ⟨g,11,none⟩ (.int .i64 0)) = W5 at ⊢
 have HWd:=Lib.hid hWd
 clear hWd
 have HS5:Hid (St B L T w gm ws n W5):=Lib.hid (by rw [← HWd.out];exact (HSG_g.out _ _ _ HS4.out 11 (.int .i64 0)))
 have HB5_g:Hid (W5.heap[g]? = some (.cells (k09 2 c AP cP AL cL v n0 0 sw o0 o1 o2 o3) 102 (0,0))):=Lib.hid (by rw [← HWd.out];exact (blk_set' HB4_g.out 11 (.int .i64 0) rfl))
 replace C_g:=cells_k09 HB5_g.out
 clear HWd
 refine ch_d C_g C_g [12] [0,1,2,3,4,5,6,7,8,9,10,11,12] (fun W6 HWd hHeld=>?_)
 have HS6:=dwS HWd HS5
 have HB6_g:=dwH HWd HB5_g
 replace C_g:=cells_k09 HB6_g.out
 clear HWd
 iterate 12 refine ch_s ?_
 refine ch_last rfl rfl (by kernel_rfl) (by decide) (fun K hK=>?_)
 refine goes_s Try.func72 #[.pointer (some ⟨gm,0,none⟩),.int .i64 p5,.int .i64 sw,.int .i64 z1] ?_
 refine (cas_no_z HS6.out.mem hn HLe.out p5 H5l.out sw z1 _ rfl HQ.out).mono ?_
 rintro e W7 ⟨rfl,hm',hf'⟩
 refine ⟨_,rfl,?_⟩
 have HS7:=Lib.hid (HS6.out.acc hm' hf' HT.out)
 have HB7_g:=Lib.hid (blk_fr HB6_g.out hf' (by simp) (by decide))
 replace C_g:=cells_k09 HB7_g.out
 clear hm' hf'
 refine hK.out _ _ ?_
 clear hK K
 try simp only [Act.put,zq1,zq2,zq3]
 refine ch_z ?_
 clear hHeld
 go_wp2
 go_ret
 exact ⟨false,⟨2,n0,0,sw,o0,o1,o2,o3⟩,ws,_,rfl,⟨AP,cP,AL,cL,HB7_g.out,HP.out.fr HS7.out.fr,HLi.out.fr HS7.out.fr⟩,by unfold A09;simp,HS7.out.mem,WTo.refl HW.out,by omega,Nat.le_refl _,HLL.out ▸ HS7.out.fr⟩
theorem step09_2_2 {c:Cf} (hc:c.Ok) {v B gm g n:Nat} {w:World} {ws:List Int} (hv:v < c.N) (hm:MemIs B w gm ws n) (hw:WOk c ws) (hn:n ≤ 1000000) (hB:B ≤ g) {n0 sw o0 o1 o3:Int} {o2:Bool} (hg:Is09 c v w g ⟨2,n0,2,sw,o0,o1,o2,o3⟩) :
  Calls Try.prog 46 #[.pointer (some ⟨g,0,none⟩),.pointer (some ⟨gm,0,none⟩)] w (P09 c v B gm g ws n w):=by
 obtain ⟨AP,cP,AL,cL,hg,hP,hL⟩:=hg
 have HC:=Lib.hid hc
 have HW:=Lib.hid hw
 have HP:=Lib.hid hP
 have HLi:=Lib.hid hL
 have HLe:=Lib.hid (hw.le hc)
 have hK:c.K = 6 + 2 * c.S:=rfl
 obtain ⟨p5,hp5⟩:∃ p,c.na v 0 = p:=⟨_,rfl⟩
 obtain ⟨p6,hp6⟩:∃ p,c.na v 1 = p:=⟨_,rfl⟩
 have H5:=Lib.hid hp5
 have H6:=Lib.hid hp6
 have H5l:Hid (p5 < ws.length):=Lib.hid (by rw [← hp5];exact hw.lt hv (by omega))
 have H6l:Hid (p6 < ws.length):=Lib.hid (by rw [← hp6];exact hw.lt hv (by omega))
 have HT5:Hid (∀ x,WTo c ws (ws.set p5 x)):=Lib.hid (fun x=>by rw [← hp5];exact hw.set_node hv (by omega) (by omega) x)
 have HT6:Hid (∀ x,WTo c ws (ws.set p6 x)):=Lib.hid (fun x=>by rw [← hp6];exact hw.set_node hv (by omega) (by omega) x)
 have HB0_g:=Lib.hid hg
 obtain ⟨L,T,HLL,HTe,HT,HSG_g,HS0⟩:=st1 hm hB hg (by decide) (by decide)
 clear hc hw hg hm hP hL hK hp5 hp6
 have C_g:=cells_k09 HB0_g.out
 go_enter Try.func46,Try.ntmps46
 go_wp2
 refine ch_b C_g C_g [0,1,2,3,4,5,6,7,8,9] (fun W1 HWd hHeld=>?_)
 have HS1:=dwS HWd HS0
 have HB1_g:Hid (W1.heap[g]? = some (.cells (k09 2 c AP cP AL cL v n0 2 sw o0 o1 o2 o3) 102 (0,0))):=Lib.hid (by rw [← HWd.out];exact HB0_g.out)
 replace C_g:=cells_k09 HB1_g.out
 clear HWd
 iterate 8 refine ch_s ?_
 refine ch_1 fun K hK=>?_
 refine goes_s Try.func33 #[(cA c AP cP AL cL),.int .i64 v] ?_
 refine (limit_c HC.out (HP.out.fr HS1.out.fr) (HLi.out.fr HS1.out.fr) (v:=v) (by omega)).mono ?_
 rintro e W2 ⟨rfl,hb'⟩
 refine ⟨_,rfl,?_⟩
 have HS2:=Lib.hid (HS1.out.below hb')
 have HB2_g:=Lib.hid (blk_below HB1_g.out hb')
 replace C_g:=cells_k09 HB2_g.out
 rw [H5.out]
 clear hb'
 refine hK.out _ _ C_g ?_;clear hK K hHeld;intro hHeld
 try simp only [Act.put,zq1,zq2,zq3]
 refine ch_s ?_
 refine ch_z ?_
 clear hHeld
 go_wp2
 refine ch_b C_g C_g [0,1,2,3,4,5,6,7,8,9] (fun W3 HWd hHeld=>?_)
 have HS3:=dwS HWd HS2
 have HB3_g:=dwH HWd HB2_g
 replace C_g:=cells_k09 HB3_g.out
 clear HWd
 iterate 8 refine ch_s ?_
 refine ch_1 fun K hK=>?_
 refine goes_s Try.func34 #[(cA c AP cP AL cL),.int .i64 v] ?_
 refine (avail_c HC.out (HP.out.fr HS3.out.fr) (HLi.out.fr HS3.out.fr) (v:=v) (by omega)).mono ?_
 rintro e W4 ⟨rfl,hb'⟩
 refine ⟨_,rfl,?_⟩
 have HS4:=Lib.hid (HS3.out.below hb')
 have HB4_g:=Lib.hid (blk_below HB3_g.out hb')
 replace C_g:=cells_k09 HB4_g.out
 rw [H6.out]
 clear hb'
 refine hK.out _ _ C_g ?_;clear hK K hHeld;intro hHeld
 try simp only [Act.put,zq1,zq2,zq3]
 refine ch_s ?_
 refine ch_z ?_
 clear hHeld
 go_wp2_with (first|(go_at_call 60;(with_reducible refine ((add_z HS4.out.mem hn HLe.out p6 H6l.out _ _ rfl)).mono ?_);rintro e W5 ⟨x,rfl,hm',hf'⟩;have HS5:=Lib.hid (HS4.out.acc hm' hf' HT.out);have HB5_g:=Lib.hid (blk_fr HB4_g.out hf' (by simp) (by decide));replace C_g:=cells_k09 HB5_g.out;clear hm' hf'))
 go_ret
 exact ⟨true,⟨2,n0,9,sw,o0,o1,o2,o3⟩,(ws.set p6 x),_,rfl,⟨AP,cP,AL,cL,(blk_set' HB5_g.out 11 (.int .i64 9) rfl),HP.out.fr (HSG_g.out _ _ _ HS5.out 11 (.int .i64 9)).fr,HLi.out.fr (HSG_g.out _ _ _ HS5.out 11 (.int .i64 9)).fr⟩,by unfold A09;simp,(HSG_g.out _ _ _ HS5.out 11 (.int .i64 9)).mem,HT6.out x,by omega,Nat.le_refl _,HLL.out ▸ (HSG_g.out _ _ _ HS5.out 11 (.int .i64 9)).fr⟩
theorem step09_2_9 {c:Cf} (hc:c.Ok) {v B gm g n:Nat} {w:World} {ws:List Int} (hv:v < c.N) (hm:MemIs B w gm ws n) (hw:WOk c ws) (hn:n ≤ 1000000) (hB:B ≤ g) {n0 sw o0 o1 o3:Int} {o2:Bool} (hg:Is09 c v w g ⟨2,n0,9,sw,o0,o1,o2,o3⟩) :
  Calls Try.prog 46 #[.pointer (some ⟨g,0,none⟩),.pointer (some ⟨gm,0,none⟩)] w (P09 c v B gm g ws n w):=by
 obtain ⟨AP,cP,AL,cL,hg,hP,hL⟩:=hg
 have HC:=Lib.hid hc
 have HW:=Lib.hid hw
 have HP:=Lib.hid hP
 have HLi:=Lib.hid hL
 have HLe:=Lib.hid (hw.le hc)
 have hK:c.K = 6 + 2 * c.S:=rfl
 obtain ⟨p5,hp5⟩:∃ p,c.na v 0 = p:=⟨_,rfl⟩
 obtain ⟨p6,hp6⟩:∃ p,c.na v 1 = p:=⟨_,rfl⟩
 have H5:=Lib.hid hp5
 have H6:=Lib.hid hp6
 have H5l:Hid (p5 < ws.length):=Lib.hid (by rw [← hp5];exact hw.lt hv (by omega))
 have H6l:Hid (p6 < ws.length):=Lib.hid (by rw [← hp6];exact hw.lt hv (by omega))
 have HT5:Hid (∀ x,WTo c ws (ws.set p5 x)):=Lib.hid (fun x=>by rw [← hp5];exact hw.set_node hv (by omega) (by omega) x)
 have HT6:Hid (∀ x,WTo c ws (ws.set p6 x)):=Lib.hid (fun x=>by rw [← hp6];exact hw.set_node hv (by omega) (by omega) x)
 have HB0_g:=Lib.hid hg
 obtain ⟨L,T,HLL,HTe,HT,HSG_g,HS0⟩:=st1 hm hB hg (by decide) (by decide)
 clear hc hw hg hm hP hL hK hp5 hp6
 have C_g:=cells_k09 HB0_g.out
 go_enter Try.func46,Try.ntmps46
 go_wp2
 refine ch_b C_g C_g [0,1,2,3,4,5,6,7,8,9] (fun W1 HWd hHeld=>?_)
 have HS1:=dwS HWd HS0
 have HB1_g:Hid (W1.heap[g]? = some (.cells (k09 2 c AP cP AL cL v n0 9 sw o0 o1 o2 o3) 102 (0,0))):=Lib.hid (by rw [← HWd.out];exact HB0_g.out)
 replace C_g:=cells_k09 HB1_g.out
 clear HWd
 iterate 8 refine ch_s ?_
 refine ch_1 fun K hK=>?_
 refine goes_s Try.func33 #[(cA c AP cP AL cL),.int .i64 v] ?_
 refine (limit_c HC.out (HP.out.fr HS1.out.fr) (HLi.out.fr HS1.out.fr) (v:=v) (by omega)).mono ?_
 rintro e W2 ⟨rfl,hb'⟩
 refine ⟨_,rfl,?_⟩
 have HS2:=Lib.hid (HS1.out.below hb')
 have HB2_g:=Lib.hid (blk_below HB1_g.out hb')
 replace C_g:=cells_k09 HB2_g.out
 rw [H5.out]
 clear hb'
 refine hK.out _ _ C_g ?_;clear hK K hHeld;intro hHeld
 try simp only [Act.put,zq1,zq2,zq3]
 refine ch_s ?_
 refine ch_z ?_
 clear hHeld
 go_wp2
 refine ch_b C_g C_g [0,1,2,3,4,5,6,7,8,9] (fun W3 HWd hHeld=>?_)
 have HS3:=dwS HWd HS2
 have HB3_g:=dwH HWd HB2_g
 replace C_g:=cells_k09 HB3_g.out
 clear HWd
 iterate 8 refine ch_s ?_
 refine ch_1 fun K hK=>?_
 refine goes_s Try.func34 #[(cA c AP cP AL cL),.int .i64 v] ?_
 refine (avail_c HC.out (HP.out.fr HS3.out.fr) (HLi.out.fr HS3.out.fr) (v:=v) (by omega)).mono ?_
 rintro e W4 ⟨rfl,hb'⟩
 refine ⟨_,rfl,?_⟩
 have HS4:=Lib.hid (HS3.out.below hb')
 have HB4_g:=Lib.hid (blk_below HB3_g.out hb')
 replace C_g:=cells_k09 HB4_g.out
 rw [H6.out]
 clear hb'
 refine hK.out _ _ C_g ?_;clear hK K hHeld;intro hHeld
 try simp only [Act.put,zq1,zq2,zq3]
 refine ch_s ?_
 refine ch_z ?_
 clear hHeld
 go_wp2
 go_ret
 exact ⟨true,⟨2,n0,9,sw,o0,o1,o2,o3⟩,ws,_,rfl,⟨AP,cP,AL,cL,HB4_g.out,HP.out.fr HS4.out.fr,HLi.out.fr HS4.out.fr⟩,by unfold A09;simp,HS4.out.mem,WTo.refl HW.out,Nat.le_refl _,by omega,HLL.out ▸ HS4.out.fr⟩
theorem step09_3_0_yes {c:Cf} (hc:c.Ok) {v B gm g n:Nat} {w:World} {ws:List Int} (hv:v < c.N) (hm:MemIs B w gm ws n) (hw:WOk c ws) (hn:n ≤ 1000000) (hB:B ≤ g) {n0 sw o0 o1 o3:Int} {o2:Bool} (hg:Is09 c v w g ⟨3,n0,0,sw,o0,o1,o2,o3⟩) (hq:wd ws (c.na v 1) < n0) :
  Calls Try.prog 46 #[.pointer (some ⟨g,0,none⟩),.pointer (some ⟨gm,0,none⟩)] w (P09 c v B gm g ws n w):=by
 obtain ⟨AP,cP,AL,cL,hg,hP,hL⟩:=hg
 have HC:=Lib.hid hc
 have HW:=Lib.hid hw
 have HP:=Lib.hid hP
 have HLi:=Lib.hid hL
 have HLe:=Lib.hid (hw.le hc)
 have hK:c.K = 6 + 2 * c.S:=rfl
 obtain ⟨p5,hp5⟩:∃ p,c.na v 0 = p:=⟨_,rfl⟩
 obtain ⟨p6,hp6⟩:∃ p,c.na v 1 = p:=⟨_,rfl⟩
 have H5:=Lib.hid hp5
 have H6:=Lib.hid hp6
 have H5l:Hid (p5 < ws.length):=Lib.hid (by rw [← hp5];exact hw.lt hv (by omega))
 have H6l:Hid (p6 < ws.length):=Lib.hid (by rw [← hp6];exact hw.lt hv (by omega))
 have HT5:Hid (∀ x,WTo c ws (ws.set p5 x)):=Lib.hid (fun x=>by rw [← hp5];exact hw.set_node hv (by omega) (by omega) x)
 have HT6:Hid (∀ x,WTo c ws (ws.set p6 x)):=Lib.hid (fun x=>by rw [← hp6];exact hw.set_node hv (by omega) (by omega) x)
 have HB0_g:=Lib.hid hg
 obtain ⟨L,T,HLL,HTe,HT,HSG_g,HS0⟩:=st1 hm hB hg (by decide) (by decide)
 clear hc hw hg hm hP hL hK hp5 hp6
 obtain ⟨x1,hx1⟩:∃ z,wd ws p6 = z:=⟨_,rfl⟩
 have HX1:=Lib.hid hx1
 rw [H6.out,hx1] at hq
 have d1:decide (x1 < n0) = true:=decide_eq_true (by omega)
 clear hx1 hq
 obtain ⟨mn0,hmn0⟩:∃ z,IntKind.i64.wrap (-n0) = z:=⟨_,rfl⟩
 have hmn0':wrap64 (-n0) = mn0:=by rw [← hmn0,i64_w]
 have C_g:=cells_k09 HB0_g.out
 go_enter Try.func46,Try.ntmps46
 go_wp2
 refine ch_b C_g C_g [0,1,2,3,4,5,6,7,8,9] (fun W1 HWd hHeld=>?_)
 have HS1:=dwS HWd HS0
 have HB1_g:Hid (W1.heap[g]? = some (.cells (k09 3 c AP cP AL cL v n0 0 sw o0 o1 o2 o3) 102 (0,0))):=Lib.hid (by rw [← HWd.out];exact HB0_g.out)
 replace C_g:=cells_k09 HB1_g.out
 clear HWd
 iterate 8 refine ch_s ?_
 refine ch_1 fun K hK=>?_
 refine goes_s Try.func33 #[(cA c AP cP AL cL),.int .i64 v] ?_
 refine (limit_c HC.out (HP.out.fr HS1.out.fr) (HLi.out.fr HS1.out.fr) (v:=v) (by omega)).mono ?_
 rintro e W2 ⟨rfl,hb'⟩
 refine ⟨_,rfl,?_⟩
 have HS2:=Lib.hid (HS1.out.below hb')
 have HB2_g:=Lib.hid (blk_below HB1_g.out hb')
 replace C_g:=cells_k09 HB2_g.out
 rw [H5.out]
 clear hb'
 refine hK.out _ _ C_g ?_;clear hK K hHeld;intro hHeld
 try simp only [Act.put,zq1,zq2,zq3]
 refine ch_s ?_
 refine ch_z ?_
 clear hHeld
 go_wp2
 refine ch_b C_g C_g [0,1,2,3,4,5,6,7,8,9] (fun W3 HWd hHeld=>?_)
 have HS3:=dwS HWd HS2
 have HB3_g:=dwH HWd HB2_g
 replace C_g:=cells_k09 HB3_g.out
 clear HWd
 iterate 8 refine ch_s ?_
 refine ch_1 fun K hK=>?_
 refine goes_s Try.func34 #[(cA c AP cP AL cL),.int .i64 v] ?_
 refine (avail_c HC.out (HP.out.fr HS3.out.fr) (HLi.out.fr HS3.out.fr) (v:=v) (by omega)).mono ?_
 rintro e W4 ⟨rfl,hb'⟩
 refine ⟨_,rfl,?_⟩
 have HS4:=Lib.hid (HS3.out.below hb')
 have HB4_g:=Lib.hid (blk_below HB3_g.out hb')
 replace C_g:=cells_k09 HB4_g.out
 rw [H6.out]
 clear hb'
 refine hK.out _ _ C_g ?_;clear hK K hHeld;intro hHeld
 try simp only [Act.put,zq1,zq2,zq3]
 refine ch_s ?_
 refine ch_z ?_
 clear hHeld
 go_wp2
 refine ch_b C_g C_g [0,1,2,3,4,5,6,7,8,9] (fun W5 HWd hHeld=>?_)
 have HS5:=dwS HWd HS4
 have HB5_g:=dwH HWd HB4_g
 replace C_g:=cells_k09 HB5_g.out
 clear HWd
 iterate 8 refine ch_s ?_
 refine ch_1 fun K hK=>?_
 refine goes_s Try.func34 #[(cA c AP cP AL cL),.int .i64 v] ?_
 refine (avail_c HC.out (HP.out.fr HS5.out.fr) (HLi.out.fr HS5.out.fr) (v:=v) (by omega)).mono ?_
 rintro e W6 ⟨rfl,hb'⟩
 refine ⟨_,rfl,?_⟩
 have HS6:=Lib.hid (HS5.out.below hb')
 have HB6_g:=Lib.hid (blk_below HB5_g.out hb')
 replace C_g:=cells_k09 HB6_g.out
 rw [H6.out]
 clear hb'
 refine hK.out _ _ C_g ?_;clear hK K hHeld;intro hHeld
 try simp only [Act.put,zq1,zq2,zq3]
 refine ch_s ?_
 refine ch_z ?_
 clear hHeld
 go_wp2
 refine ch_b C_g C_g [0,1,2,3,4,5,6,7,8,9] (fun W7 HWd hHeld=>?_)
 have HS7:=dwS HWd HS6
 have HB7_g:=dwH HWd HB6_g
 replace C_g:=cells_k09 HB7_g.out
 clear HWd
 iterate 8 refine ch_s ?_
 refine ch_1 fun K hK=>?_
 refine goes_s Try.func33 #[(cA c AP cP AL cL),.int .i64 v] ?_
 refine (limit_c HC.out (HP.out.fr HS7.out.fr) (HLi.out.fr HS7.out.fr) (v:=v) (by omega)).mono ?_
 rintro e W8 ⟨rfl,hb'⟩
 refine ⟨_,rfl,?_⟩
 have HS8:=Lib.hid (HS7.out.below hb')
 have HB8_g:=Lib.hid (blk_below HB7_g.out hb')
 replace C_g:=cells_k09 HB8_g.out
 rw [H5.out]
 clear hb'
 refine hK.out _ _ C_g ?_;clear hK K hHeld;intro hHeld
 try simp only [Act.put,zq1,zq2,zq3]
 refine ch_s ?_
 refine ch_z ?_
 clear hHeld
 go_wp2_with (first|(go_at_call 68;(with_reducible refine ((load_z HS8.out.mem hn HLe.out p6 H6l.out _ rfl)).mono ?_);rintro e W9 ⟨rfl,hm',hf'⟩;have HS9:=Lib.hid (HS8.out.acc hm' hf' HT.out);have HB9_g:=Lib.hid (blk_fr HB8_g.out hf' (by simp) (by decide));replace C_g:=cells_k09 HB9_g.out;clear hm' hf';rw [HX1.out]))
 generalize hWd:(World.setCell (World.setCell W9 ⟨g,12,none⟩ (.int .i64 x1)) ⟨g,11,none⟩ (.int .i64 1)) = W10 at ⊢
 have HWd:=Lib.hid hWd
 clear hWd
 have HS10:Hid (St B L T w gm ws (n + 1) W10):=Lib.hid (by rw [← HWd.out];exact (HSG_g.out _ _ _ (HSG_g.out _ _ _ HS9.out 12 (.int .i64 x1)) 11 (.int .i64 1)))
 have HB10_g:Hid (W10.heap[g]? = some (.cells (k09 3 c AP cP AL cL v n0 1 x1 o0 o1 o2 o3) 102 (0,0))):=Lib.hid (by rw [← HWd.out];exact (blk_set' (blk_set' HB9_g.out 12 (.int .i64 x1) rfl) 11 (.int .i64 1) rfl))
 replace C_g:=cells_k09 HB10_g.out
 clear HWd
 refine ch_b C_g C_g [0,1,2,3,4,5,6,7,8,9,10,11,12,13,14,15,16] (fun W11 HWd hHeld=>?_)
 have HS11:=dwS HWd HS10
 have HB11_g:=dwH HWd HB10_g
 replace C_g:=cells_k09 HB11_g.out
 clear HWd
 iterate 6 refine ch_s ?_
 iterate 10
  refine ch_skip rfl rfl (by kernel_rfl) (fun _ _ _ h=>h) (by rfl) rfl ?_
  try simp only [Act.put,zq1,zq2,zq3]
 refine ch_s ?_
 refine ch_z ?_
 clear hHeld
 go_wp2
 refine ch_b C_g C_g [0,1,2,3,4,5,6,7,8,9,10,11,12,13,14,15] (fun W12 HWd hHeld=>?_)
 have HS12:=dwS HWd HS11
 have HB12_g:=dwH HWd HB11_g
 replace C_g:=cells_k09 HB12_g.out
 clear HWd
 iterate 16 refine ch_s ?_
 refine ch_z ?_
 clear hHeld
 go_wp2
 go_ret
 exact ⟨true,⟨3,n0,9,x1,4,0,false,v⟩,ws,_,rfl,⟨AP,cP,AL,cL,(blk_set' (blk_set' (blk_set' (blk_set' (blk_set' HB12_g.out 13 (.int .i64 4) rfl) 14 (.int .i64 0) rfl) 15 (.bool false) rfl) 16 (.int .i64 v) rfl) 11 (.int .i64 9) rfl),HP.out.fr (HSG_g.out _ _ _ (HSG_g.out _ _ _ (HSG_g.out _ _ _ (HSG_g.out _ _ _ (HSG_g.out _ _ _ HS12.out 13 (.int .i64 4)) 14 (.int .i64 0)) 15 (.bool false)) 16 (.int .i64 v)) 11 (.int .i64 9)).fr,HLi.out.fr (HSG_g.out _ _ _ (HSG_g.out _ _ _ (HSG_g.out _ _ _ (HSG_g.out _ _ _ (HSG_g.out _ _ _ HS12.out 13 (.int .i64 4)) 14 (.int .i64 0)) 15 (.bool false)) 16 (.int .i64 v)) 11 (.int .i64 9)).fr⟩,by unfold A09;simp,(HSG_g.out _ _ _ (HSG_g.out _ _ _ (HSG_g.out _ _ _ (HSG_g.out _ _ _ (HSG_g.out _ _ _ HS12.out 13 (.int .i64 4)) 14 (.int .i64 0)) 15 (.bool false)) 16 (.int .i64 v)) 11 (.int .i64 9)).mem,WTo.refl HW.out,by omega,Nat.le_refl _,HLL.out ▸ (HSG_g.out _ _ _ (HSG_g.out _ _ _ (HSG_g.out _ _ _ (HSG_g.out _ _ _ (HSG_g.out _ _ _ HS12.out 13 (.int .i64 4)) 14 (.int .i64 0)) 15 (.bool false)) 16 (.int .i64 v)) 11 (.int .i64 9)).fr⟩
theorem step09_3_0_no {c:Cf} (hc:c.Ok) {v B gm g n:Nat} {w:World} {ws:List Int} (hv:v < c.N) (hm:MemIs B w gm ws n) (hw:WOk c ws) (hn:n ≤ 1000000) (hB:B ≤ g) {n0 sw o0 o1 o3:Int} {o2:Bool} (hg:Is09 c v w g ⟨3,n0,0,sw,o0,o1,o2,o3⟩) (hq:n0 ≤ wd ws (c.na v 1)) :
  Calls Try.prog 46 #[.pointer (some ⟨g,0,none⟩),.pointer (some ⟨gm,0,none⟩)] w (P09 c v B gm g ws n w):=by
 obtain ⟨AP,cP,AL,cL,hg,hP,hL⟩:=hg
 have HC:=Lib.hid hc
 have HW:=Lib.hid hw
 have HP:=Lib.hid hP
 have HLi:=Lib.hid hL
 have HLe:=Lib.hid (hw.le hc)
 have hK:c.K = 6 + 2 * c.S:=rfl
 obtain ⟨p5,hp5⟩:∃ p,c.na v 0 = p:=⟨_,rfl⟩
 obtain ⟨p6,hp6⟩:∃ p,c.na v 1 = p:=⟨_,rfl⟩
 have H5:=Lib.hid hp5
 have H6:=Lib.hid hp6
 have H5l:Hid (p5 < ws.length):=Lib.hid (by rw [← hp5];exact hw.lt hv (by omega))
 have H6l:Hid (p6 < ws.length):=Lib.hid (by rw [← hp6];exact hw.lt hv (by omega))
 have HT5:Hid (∀ x,WTo c ws (ws.set p5 x)):=Lib.hid (fun x=>by rw [← hp5];exact hw.set_node hv (by omega) (by omega) x)
 have HT6:Hid (∀ x,WTo c ws (ws.set p6 x)):=Lib.hid (fun x=>by rw [← hp6];exact hw.set_node hv (by omega) (by omega) x)
 have HB0_g:=Lib.hid hg
 obtain ⟨L,T,HLL,HTe,HT,HSG_g,HS0⟩:=st1 hm hB hg (by decide) (by decide)
 clear hc hw hg hm hP hL hK hp5 hp6
 obtain ⟨x1,hx1⟩:∃ z,wd ws p6 = z:=⟨_,rfl⟩
 have HX1:=Lib.hid hx1
 rw [H6.out,hx1] at hq
 have d1:decide (x1 < n0) = false:=decide_eq_false (by omega)
 clear hx1 hq
 obtain ⟨mn0,hmn0⟩:∃ z,IntKind.i64.wrap (-n0) = z:=⟨_,rfl⟩
 have hmn0':wrap64 (-n0) = mn0:=by rw [← hmn0,i64_w]
 have C_g:=cells_k09 HB0_g.out
 go_enter Try.func46,Try.ntmps46
 go_wp2
 refine ch_b C_g C_g [0,1,2,3,4,5,6,7,8,9] (fun W1 HWd hHeld=>?_)
 have HS1:=dwS HWd HS0
 have HB1_g:Hid (W1.heap[g]? = some (.cells (k09 3 c AP cP AL cL v n0 0 sw o0 o1 o2 o3) 102 (0,0))):=Lib.hid (by rw [← HWd.out];exact HB0_g.out)
 replace C_g:=cells_k09 HB1_g.out
 clear HWd
 iterate 8 refine ch_s ?_
 refine ch_1 fun K hK=>?_
 refine goes_s Try.func33 #[(cA c AP cP AL cL),.int .i64 v] ?_
 refine (limit_c HC.out (HP.out.fr HS1.out.fr) (HLi.out.fr HS1.out.fr) (v:=v) (by omega)).mono ?_
 rintro e W2 ⟨rfl,hb'⟩
 refine ⟨_,rfl,?_⟩
 have HS2:=Lib.hid (HS1.out.below hb')
 have HB2_g:=Lib.hid (blk_below HB1_g.out hb')
 replace C_g:=cells_k09 HB2_g.out
 rw [H5.out]
 clear hb'
 refine hK.out _ _ C_g ?_;clear hK K hHeld;intro hHeld
 try simp only [Act.put,zq1,zq2,zq3]
 refine ch_s ?_
 refine ch_z ?_
 clear hHeld
 go_wp2
 refine ch_b C_g C_g [0,1,2,3,4,5,6,7,8,9] (fun W3 HWd hHeld=>?_)
 have HS3:=dwS HWd HS2
 have HB3_g:=dwH HWd HB2_g
 replace C_g:=cells_k09 HB3_g.out
 clear HWd
 iterate 8 refine ch_s ?_
 refine ch_1 fun K hK=>?_
 refine goes_s Try.func34 #[(cA c AP cP AL cL),.int .i64 v] ?_
 refine (avail_c HC.out (HP.out.fr HS3.out.fr) (HLi.out.fr HS3.out.fr) (v:=v) (by omega)).mono ?_
 rintro e W4 ⟨rfl,hb'⟩
 refine ⟨_,rfl,?_⟩
 have HS4:=Lib.hid (HS3.out.below hb')
 have HB4_g:=Lib.hid (blk_below HB3_g.out hb')
 replace C_g:=cells_k09 HB4_g.out
 rw [H6.out]
 clear hb'
 refine hK.out _ _ C_g ?_;clear hK K hHeld;intro hHeld
 try simp only [Act.put,zq1,zq2,zq3]
 refine ch_s ?_
 refine ch_z ?_
 clear hHeld
 go_wp2
 refine ch_b C_g C_g [0,1,2,3,4,5,6,7,8,9] (fun W5 HWd hHeld=>?_)
 have HS5:=dwS HWd HS4
 have HB5_g:=dwH HWd HB4_g
 replace C_g:=cells_k09 HB5_g.out
 clear HWd
 iterate 8 refine ch_s ?_
 refine ch_1 fun K hK=>?_
 refine goes_s Try.func34 #[(cA c AP cP AL cL),.int .i64 v] ?_
 refine (avail_c HC.out (HP.out.fr HS5.out.fr) (HLi.out.fr HS5.out.fr) (v:=v) (by omega)).mono ?_
 rintro e W6 ⟨rfl,hb'⟩
 refine ⟨_,rfl,?_⟩
 have HS6:=Lib.hid (HS5.out.below hb')
 have HB6_g:=Lib.hid (blk_below HB5_g.out hb')
 replace C_g:=cells_k09 HB6_g.out
 rw [H6.out]
 clear hb'
 refine hK.out _ _ C_g ?_;clear hK K hHeld;intro hHeld
 try simp only [Act.put,zq1,zq2,zq3]
 refine ch_s ?_
 refine ch_z ?_
 clear hHeld
 go_wp2
 refine ch_b C_g C_g [0,1,2,3,4,5,6,7,8,9] (fun W7 HWd hHeld=>?_)
 have HS7:=dwS HWd HS6
 have HB7_g:=dwH HWd HB6_g
 replace C_g:=cells_k09 HB7_g.out
 clear HWd
 iterate 8 refine ch_s ?_
 refine ch_1 fun K hK=>?_
 refine goes_s Try.func33 #[(cA c AP cP AL cL),.int .i64 v] ?_
 refine (limit_c HC.out (HP.out.fr HS7.out.fr) (HLi.out.fr HS7.out.fr) (v:=v) (by omega)).mono ?_
 rintro e W8 ⟨rfl,hb'⟩
 refine ⟨_,rfl,?_⟩
 have HS8:=Lib.hid (HS7.out.below hb')
 have HB8_g:=Lib.hid (blk_below HB7_g.out hb')
 replace C_g:=cells_k09 HB8_g.out
 rw [H5.out]
 clear hb'
 refine hK.out _ _ C_g ?_;clear hK K hHeld;intro hHeld
 try simp only [Act.put,zq1,zq2,zq3]
 refine ch_s ?_
 refine ch_z ?_
 clear hHeld
 go_wp2_with (first|(go_at_call 68;(with_reducible refine ((load_z HS8.out.mem hn HLe.out p6 H6l.out _ rfl)).mono ?_);rintro e W9 ⟨rfl,hm',hf'⟩;have HS9:=Lib.hid (HS8.out.acc hm' hf' HT.out);have HB9_g:=Lib.hid (blk_fr HB8_g.out hf' (by simp) (by decide));replace C_g:=cells_k09 HB9_g.out;clear hm' hf';rw [HX1.out]))
 generalize hWd:(World.setCell (World.setCell W9 ⟨g,12,none⟩ (.int .i64 x1)) ⟨g,11,none⟩ (.int .i64 1)) = W10 at ⊢
 have HWd:=Lib.hid hWd
 clear hWd
 have HS10:Hid (St B L T w gm ws (n + 1) W10):=Lib.hid (by rw [← HWd.out];exact (HSG_g.out _ _ _ (HSG_g.out _ _ _ HS9.out 12 (.int .i64 x1)) 11 (.int .i64 1)))
 have HB10_g:Hid (W10.heap[g]? = some (.cells (k09 3 c AP cP AL cL v n0 1 x1 o0 o1 o2 o3) 102 (0,0))):=Lib.hid (by rw [← HWd.out];exact (blk_set' (blk_set' HB9_g.out 12 (.int .i64 x1) rfl) 11 (.int .i64 1) rfl))
 replace C_g:=cells_k09 HB10_g.out
 clear HWd
 refine ch_b C_g C_g [0,1,2,3,4,5,6,7,8,9,10,11,12,13,14,15,16] (fun W11 HWd hHeld=>?_)
 have HS11:=dwS HWd HS10
 have HB11_g:=dwH HWd HB10_g
 replace C_g:=cells_k09 HB11_g.out
 clear HWd
 iterate 6 refine ch_s ?_
 iterate 10
  refine ch_skip rfl rfl (by kernel_rfl) (fun _ _ _ h=>h) (by rfl) rfl ?_
  try simp only [Act.put,zq1,zq2,zq3]
 refine ch_s ?_
 refine ch_z ?_
 clear hHeld
 go_wp2
 refine ch_b C_g C_g [0,1,2,3,4,5,6,7,8,9,10,11,12,13,14,15] (fun W12 HWd hHeld=>?_)
 have HS12:=dwS HWd HS11
 have HB12_g:=dwH HWd HB11_g
 replace C_g:=cells_k09 HB12_g.out
 clear HWd
 iterate 16 refine ch_s ?_
 refine ch_z ?_
 clear hHeld
 go_wp2
 go_ret
 exact ⟨false,⟨3,n0,1,x1,o0,o1,o2,o3⟩,ws,_,rfl,⟨AP,cP,AL,cL,HB12_g.out,HP.out.fr HS12.out.fr,HLi.out.fr HS12.out.fr⟩,by unfold A09;simp,HS12.out.mem,WTo.refl HW.out,by omega,Nat.le_refl _,HLL.out ▸ HS12.out.fr⟩
theorem step09_3_1_yes {c:Cf} (hc:c.Ok) {v B gm g n:Nat} {w:World} {ws:List Int} (hv:v < c.N) (hm:MemIs B w gm ws n) (hw:WOk c ws) (hn:n ≤ 1000000) (hB:B ≤ g) {n0 sw o0 o1 o3:Int} {o2:Bool} (hg:Is09 c v w g ⟨3,n0,1,sw,o0,o1,o2,o3⟩) (hq:wd ws (c.na v 1) = sw) :
  Calls Try.prog 46 #[.pointer (some ⟨g,0,none⟩),.pointer (some ⟨gm,0,none⟩)] w (P09 c v B gm g ws n w):=by
 obtain ⟨AP,cP,AL,cL,hg,hP,hL⟩:=hg
 have HC:=Lib.hid hc
 have HW:=Lib.hid hw
 have HP:=Lib.hid hP
 have HLi:=Lib.hid hL
 have HLe:=Lib.hid (hw.le hc)
 have hK:c.K = 6 + 2 * c.S:=rfl
 obtain ⟨p5,hp5⟩:∃ p,c.na v 0 = p:=⟨_,rfl⟩
 obtain ⟨p6,hp6⟩:∃ p,c.na v 1 = p:=⟨_,rfl⟩
 have H5:=Lib.hid hp5
 have H6:=Lib.hid hp6
 have H5l:Hid (p5 < ws.length):=Lib.hid (by rw [← hp5];exact hw.lt hv (by omega))
 have H6l:Hid (p6 < ws.length):=Lib.hid (by rw [← hp6];exact hw.lt hv (by omega))
 have HT5:Hid (∀ x,WTo c ws (ws.set p5 x)):=Lib.hid (fun x=>by rw [← hp5];exact hw.set_node hv (by omega) (by omega) x)
 have HT6:Hid (∀ x,WTo c ws (ws.set p6 x)):=Lib.hid (fun x=>by rw [← hp6];exact hw.set_node hv (by omega) (by omega) x)
 have HB0_g:=Lib.hid hg
 obtain ⟨L,T,HLL,HTe,HT,HSG_g,HS0⟩:=st1 hm hB hg (by decide) (by decide)
 clear hc hw hg hm hP hL hK hp5 hp6
 rw [H6.out] at hq
 have HQ:=Lib.hid hq
 clear hq
 obtain ⟨mn0,hmn0⟩:∃ z,IntKind.i64.wrap (-n0) = z:=⟨_,rfl⟩
 have hmn0':wrap64 (-n0) = mn0:=by rw [← hmn0,i64_w]
 obtain ⟨z1,hz1⟩:∃ z,IntKind.i64.wrap (sw + mn0) = z:=⟨_,rfl⟩
 have hz1':wrap64 (sw + mn0) = z1:=by rw [← hz1,i64_w]
 have C_g:=cells_k09 HB0_g.out
 go_enter Try.func46,Try.ntmps46
 go_wp2
 refine ch_b C_g C_g [0,1,2,3,4,5,6,7,8,9] (fun W1 HWd hHeld=>?_)
 have HS1:=dwS HWd HS0
 have HB1_g:Hid (W1.heap[g]? = some (.cells (k09 3 c AP cP AL cL v n0 1 sw o0 o1 o2 o3) 102 (0,0))):=Lib.hid (by rw [← HWd.out];exact HB0_g.out)
 replace C_g:=cells_k09 HB1_g.out
 clear HWd
 iterate 8 refine ch_s ?_
 refine ch_1 fun K hK=>?_
 refine goes_s Try.func33 #[(cA c AP cP AL cL),.int .i64 v] ?_
 refine (limit_c HC.out (HP.out.fr HS1.out.fr) (HLi.out.fr HS1.out.fr) (v:=v) (by omega)).mono ?_
 rintro e W2 ⟨rfl,hb'⟩
 refine ⟨_,rfl,?_⟩
 have HS2:=Lib.hid (HS1.out.below hb')
 have HB2_g:=Lib.hid (blk_below HB1_g.out hb')
 replace C_g:=cells_k09 HB2_g.out
 rw [H5.out]
 clear hb'
 refine hK.out _ _ C_g ?_;clear hK K hHeld;intro hHeld
 try simp only [Act.put,zq1,zq2,zq3]
 refine ch_s ?_
 refine ch_z ?_
 clear hHeld
 go_wp2
 refine ch_b C_g C_g [0,1,2,3,4,5,6,7,8,9] (fun W3 HWd hHeld=>?_)
 have HS3:=dwS HWd HS2
 have HB3_g:=dwH HWd HB2_g
 replace C_g:=cells_k09 HB3_g.out
 clear HWd
 iterate 8 refine ch_s ?_
 refine ch_1 fun K hK=>?_
 refine goes_s Try.func34 #[(cA c AP cP AL cL),.int .i64 v] ?_
 refine (avail_c HC.out (HP.out.fr HS3.out.fr) (HLi.out.fr HS3.out.fr) (v:=v) (by omega)).mono ?_
 rintro e W4 ⟨rfl,hb'⟩
 refine ⟨_,rfl,?_⟩
 have HS4:=Lib.hid (HS3.out.below hb')
 have HB4_g:=Lib.hid (blk_below HB3_g.out hb')
 replace C_g:=cells_k09 HB4_g.out
 rw [H6.out]
 clear hb'
 refine hK.out _ _ C_g ?_;clear hK K hHeld;intro hHeld
 try simp only [Act.put,zq1,zq2,zq3]
 refine ch_s ?_
 refine ch_z ?_
 clear hHeld
 go_wp2
 refine ch_b C_g C_g [0,1,2,3,4,5,6,7,8,9] (fun W5 HWd hHeld=>?_)
 have HS5:=dwS HWd HS4
 have HB5_g:=dwH HWd HB4_g
 replace C_g:=cells_k09 HB5_g.out
 clear HWd
 iterate 8 refine ch_s ?_
 refine ch_1 fun K hK=>?_
 refine goes_s Try.func34 #[(cA c AP cP AL cL),.int .i64 v] ?_
 refine (avail_c HC.out (HP.out.fr HS5.out.fr) (HLi.out.fr HS5.out.fr) (v:=v) (by omega)).mono ?_
 rintro e W6 ⟨rfl,hb'⟩
 refine ⟨_,rfl,?_⟩
 have HS6:=Lib.hid (HS5.out.below hb')
 have HB6_g:=Lib.hid (blk_below HB5_g.out hb')
 replace C_g:=cells_k09 HB6_g.out
 rw [H6.out]
 clear hb'
 refine hK.out _ _ C_g ?_;clear hK K hHeld;intro hHeld
 try simp only [Act.put,zq1,zq2,zq3]
 refine ch_s ?_
 refine ch_z ?_
 clear hHeld
 go_wp2
 refine ch_b C_g C_g [0,1,2,3,4,5,6,7,8,9] (fun W7 HWd hHeld=>?_)
 have HS7:=dwS HWd HS6
 have HB7_g:=dwH HWd HB6_g
 replace C_g:=cells_k09 HB7_g.out
 clear HWd
 iterate 8 refine ch_s ?_
 refine ch_1 fun K hK=>?_
 refine goes_s Try.func33 #[(cA c AP cP AL cL),.int .i64 v] ?_
 refine (limit_c HC.out (HP.out.fr HS7.out.fr) (HLi.out.fr HS7.out.fr) (v:=v) (by omega)).mono ?_
 rintro e W8 ⟨rfl,hb'⟩
 refine ⟨_,rfl,?_⟩
 have HS8:=Lib.hid (HS7.out.below hb')
 have HB8_g:=Lib.hid (blk_below HB7_g.out hb')
 replace C_g:=cells_k09 HB8_g.out
 rw [H5.out]
 clear hb'
 refine hK.out _ _ C_g ?_;clear hK K hHeld;intro hHeld
 try simp only [Act.put,zq1,zq2,zq3]
 refine ch_s ?_
 refine ch_z ?_
 clear hHeld
 go_wp2
 generalize hWd:(World.setCell W8 ⟨g,11,none⟩ (.int .i64 0)) = W9 at ⊢
 have HWd:=Lib.hid hWd
 clear hWd
 have HS9:Hid (St B L T w gm ws n W9):=Lib.hid (by rw [← HWd.out];exact (HSG_g.out _ _ _ HS8.out 11 (.int .i64 0)))
 have HB9_g:Hid (W9.heap[g]? = some (.cells (k09 3 c AP cP AL cL v n0 0 sw o0 o1 o2 o3) 102 (0,0))):=Lib.hid (by rw [← HWd.out];exact (blk_set' HB8_g.out 11 (.int .i64 0) rfl))
 replace C_g:=cells_k09 HB9_g.out
 clear HWd
 refine ch_d C_g C_g [12] [0,1,2,3,4,5,6,7,8,9,10,11,12] (fun W10 HWd hHeld=>?_)
 have HS10:=dwS HWd HS9
 have HB10_g:=dwH HWd HB9_g
 replace C_g:=cells_k09 HB10_g.out
 clear HWd
 iterate 12 refine ch_s ?_
 refine ch_last rfl rfl (by kernel_rfl) (by decide) (fun K hK=>?_)
 refine goes_s Try.func72 #[.pointer (some ⟨gm,0,none⟩),.int .i64 p6,.int .i64 sw,.int .i64 z1] ?_
 refine (cas_yes_z HS10.out.mem hn HLe.out p6 H6l.out sw z1 _ rfl HQ.out).mono ?_
 rintro e W11 ⟨rfl,hm',hf'⟩
 refine ⟨_,rfl,?_⟩
 have HS11:=Lib.hid (HS10.out.acc hm' hf' HT.out)
 have HB11_g:=Lib.hid (blk_fr HB10_g.out hf' (by simp) (by decide))
 replace C_g:=cells_k09 HB11_g.out
 clear hm' hf'
 refine hK.out _ _ ?_
 clear hK K
 try simp only [Act.put,zq1,zq2,zq3]
 refine ch_z ?_
 clear hHeld
 go_wp2
 go_ret
 exact ⟨false,⟨3,n0,2,sw,o0,o1,o2,o3⟩,(ws.set p6 z1),_,rfl,⟨AP,cP,AL,cL,(blk_set' HB11_g.out 11 (.int .i64 2) rfl),HP.out.fr (HSG_g.out _ _ _ HS11.out 11 (.int .i64 2)).fr,HLi.out.fr (HSG_g.out _ _ _ HS11.out 11 (.int .i64 2)).fr⟩,by unfold A09;simp,(HSG_g.out _ _ _ HS11.out 11 (.int .i64 2)).mem,HT6.out z1,by omega,Nat.le_refl _,HLL.out ▸ (HSG_g.out _ _ _ HS11.out 11 (.int .i64 2)).fr⟩
theorem step09_3_1_no {c:Cf} (hc:c.Ok) {v B gm g n:Nat} {w:World} {ws:List Int} (hv:v < c.N) (hm:MemIs B w gm ws n) (hw:WOk c ws) (hn:n ≤ 1000000) (hB:B ≤ g) {n0 sw o0 o1 o3:Int} {o2:Bool} (hg:Is09 c v w g ⟨3,n0,1,sw,o0,o1,o2,o3⟩) (hq:wd ws (c.na v 1) ≠ sw) :
  Calls Try.prog 46 #[.pointer (some ⟨g,0,none⟩),.pointer (some ⟨gm,0,none⟩)] w (P09 c v B gm g ws n w):=by
 obtain ⟨AP,cP,AL,cL,hg,hP,hL⟩:=hg
 have HC:=Lib.hid hc
 have HW:=Lib.hid hw
 have HP:=Lib.hid hP
 have HLi:=Lib.hid hL
 have HLe:=Lib.hid (hw.le hc)
 have hK:c.K = 6 + 2 * c.S:=rfl
 obtain ⟨p5,hp5⟩:∃ p,c.na v 0 = p:=⟨_,rfl⟩
 obtain ⟨p6,hp6⟩:∃ p,c.na v 1 = p:=⟨_,rfl⟩
 have H5:=Lib.hid hp5
 have H6:=Lib.hid hp6
 have H5l:Hid (p5 < ws.length):=Lib.hid (by rw [← hp5];exact hw.lt hv (by omega))
 have H6l:Hid (p6 < ws.length):=Lib.hid (by rw [← hp6];exact hw.lt hv (by omega))
 have HT5:Hid (∀ x,WTo c ws (ws.set p5 x)):=Lib.hid (fun x=>by rw [← hp5];exact hw.set_node hv (by omega) (by omega) x)
 have HT6:Hid (∀ x,WTo c ws (ws.set p6 x)):=Lib.hid (fun x=>by rw [← hp6];exact hw.set_node hv (by omega) (by omega) x)
 have HB0_g:=Lib.hid hg
 obtain ⟨L,T,HLL,HTe,HT,HSG_g,HS0⟩:=st1 hm hB hg (by decide) (by decide)
 clear hc hw hg hm hP hL hK hp5 hp6
 rw [H6.out] at hq
 have HQ:=Lib.hid hq
 clear hq
 obtain ⟨mn0,hmn0⟩:∃ z,IntKind.i64.wrap (-n0) = z:=⟨_,rfl⟩
 have hmn0':wrap64 (-n0) = mn0:=by rw [← hmn0,i64_w]
 obtain ⟨z1,hz1⟩:∃ z,IntKind.i64.wrap (sw + mn0) = z:=⟨_,rfl⟩
 have hz1':wrap64 (sw + mn0) = z1:=by rw [← hz1,i64_w]
 have C_g:=cells_k09 HB0_g.out
 go_enter Try.func46,Try.ntmps46
 go_wp2
 refine ch_b C_g C_g [0,1,2,3,4,5,6,7,8,9] (fun W1 HWd hHeld=>?_)
 have HS1:=dwS HWd HS0
 have HB1_g:Hid (W1.heap[g]? = some (.cells (k09 3 c AP cP AL cL v n0 1 sw o0 o1 o2 o3) 102 (0,0))):=Lib.hid (by rw [← HWd.out];exact HB0_g.out)
 replace C_g:=cells_k09 HB1_g.out
 clear HWd
 iterate 8 refine ch_s ?_
 refine ch_1 fun K hK=>?_
 refine goes_s Try.func33 #[(cA c AP cP AL cL),.int .i64 v] ?_
 refine (limit_c HC.out (HP.out.fr HS1.out.fr) (HLi.out.fr HS1.out.fr) (v:=v) (by omega)).mono ?_
 rintro e W2 ⟨rfl,hb'⟩
 refine ⟨_,rfl,?_⟩
 have HS2:=Lib.hid (HS1.out.below hb')
 have HB2_g:=Lib.hid (blk_below HB1_g.out hb')
 replace C_g:=cells_k09 HB2_g.out
 rw [H5.out]
 clear hb'
 refine hK.out _ _ C_g ?_;clear hK K hHeld;intro hHeld
 try simp only [Act.put,zq1,zq2,zq3]
 refine ch_s ?_
 refine ch_z ?_
 clear hHeld
 go_wp2
 refine ch_b C_g C_g [0,1,2,3,4,5,6,7,8,9] (fun W3 HWd hHeld=>?_)
 have HS3:=dwS HWd HS2
 have HB3_g:=dwH HWd HB2_g
 replace C_g:=cells_k09 HB3_g.out
 clear HWd
 iterate 8 refine ch_s ?_
 refine ch_1 fun K hK=>?_
 refine goes_s Try.func34 #[(cA c AP cP AL cL),.int .i64 v] ?_
 refine (avail_c HC.out (HP.out.fr HS3.out.fr) (HLi.out.fr HS3.out.fr) (v:=v) (by omega)).mono ?_
 rintro e W4 ⟨rfl,hb'⟩
 refine ⟨_,rfl,?_⟩
 have HS4:=Lib.hid (HS3.out.below hb')
 have HB4_g:=Lib.hid (blk_below HB3_g.out hb')
 replace C_g:=cells_k09 HB4_g.out
 rw [H6.out]
 clear hb'
 refine hK.out _ _ C_g ?_;clear hK K hHeld;intro hHeld
 try simp only [Act.put,zq1,zq2,zq3]
 refine ch_s ?_
 refine ch_z ?_
 clear hHeld
 go_wp2
 refine ch_b C_g C_g [0,1,2,3,4,5,6,7,8,9] (fun W5 HWd hHeld=>?_)
 have HS5:=dwS HWd HS4
 have HB5_g:=dwH HWd HB4_g
 replace C_g:=cells_k09 HB5_g.out
 clear HWd
 iterate 8 refine ch_s ?_
 refine ch_1 fun K hK=>?_
 refine goes_s Try.func34 #[(cA c AP cP AL cL),.int .i64 v] ?_
 refine (avail_c HC.out (HP.out.fr HS5.out.fr) (HLi.out.fr HS5.out.fr) (v:=v) (by omega)).mono ?_
 rintro e W6 ⟨rfl,hb'⟩
 refine ⟨_,rfl,?_⟩
 have HS6:=Lib.hid (HS5.out.below hb')
 have HB6_g:=Lib.hid (blk_below HB5_g.out hb')
 replace C_g:=cells_k09 HB6_g.out
 rw [H6.out]
 clear hb'
 refine hK.out _ _ C_g ?_;clear hK K hHeld;intro hHeld
 try simp only [Act.put,zq1,zq2,zq3]
 refine ch_s ?_
 refine ch_z ?_
 clear hHeld
 go_wp2
 refine ch_b C_g C_g [0,1,2,3,4,5,6,7,8,9] (fun W7 HWd hHeld=>?_)
 have HS7:=dwS HWd HS6
 have HB7_g:=dwH HWd HB6_g
 replace C_g:=cells_k09 HB7_g.out
 clear HWd
 iterate 8 refine ch_s ?_
 refine ch_1 fun K hK=>?_
 refine goes_s Try.func33 #[(cA c AP cP AL cL),.int .i64 v] ?_
 refine (limit_c HC.out (HP.out.fr HS7.out.fr) (HLi.out.fr HS7.out.fr) (v:=v) (by omega)).mono ?_
 rintro e W8 ⟨rfl,hb'⟩
 refine ⟨_,rfl,?_⟩
 have HS8:=Lib.hid (HS7.out.below hb')
 have HB8_g:=Lib.hid (blk_below HB7_g.out hb')
 replace C_g:=cells_k09 HB8_g.out
 rw [H5.out]
 clear hb'
 refine hK.out _ _ C_g ?_;clear hK K hHeld;intro hHeld
 try simp only [Act.put,zq1,zq2,zq3]
 refine ch_s ?_
 refine ch_z ?_
 clear hHeld
 go_wp2
 generalize hWd:(World.setCell W8 ⟨g,11,none⟩ (.int .i64 0)) = W9 at ⊢
 have HWd:=Lib.hid hWd
 clear hWd
 have HS9:Hid (St B L T w gm ws n W9):=Lib.hid (by rw [← HWd.out];exact (HSG_g.out _ _ _ HS8.out 11 (.int .i64 0)))
 have HB9_g:Hid (W9.heap[g]? = some (.cells (k09 3 c AP cP AL cL v n0 0 sw o0 o1 o2 o3) 102 (0,0))):=Lib.hid (by rw [← HWd.out];exact (blk_set' HB8_g.out 11 (.int .i64 0) rfl))
 replace C_g:=cells_k09 HB9_g.out
 clear HWd
 refine ch_d C_g C_g [12] [0,1,2,3,4,5,6,7,8,9,10,11,12] (fun W10 HWd hHeld=>?_)
 have HS10:=dwS HWd HS9
 have HB10_g:=dwH HWd HB9_g
 replace C_g:=cells_k09 HB10_g.out
 clear HWd
 iterate 12 refine ch_s ?_
 refine ch_last rfl rfl (by kernel_rfl) (by decide) (fun K hK=>?_)
 refine goes_s Try.func72 #[.pointer (some ⟨gm,0,none⟩),.int .i64 p6,.int .i64 sw,.int .i64 z1] ?_
 refine (cas_no_z HS10.out.mem hn HLe.out p6 H6l.out sw z1 _ rfl HQ.out).mono ?_
 rintro e W11 ⟨rfl,hm',hf'⟩
 refine ⟨_,rfl,?_⟩
 have HS11:=Lib.hid (HS10.out.acc hm' hf' HT.out)
 have HB11_g:=Lib.hid (blk_fr HB10_g.out hf' (by simp) (by decide))
 replace C_g:=cells_k09 HB11_g.out
 clear hm' hf'
 refine hK.out _ _ ?_
 clear hK K
 try simp only [Act.put,zq1,zq2,zq3]
 refine ch_z ?_
 clear hHeld
 go_wp2
 go_ret
 exact ⟨false,⟨3,n0,0,sw,o0,o1,o2,o3⟩,ws,_,rfl,⟨AP,cP,AL,cL,HB11_g.out,HP.out.fr HS11.out.fr,HLi.out.fr HS11.out.fr⟩,by unfold A09;simp,HS11.out.mem,WTo.refl HW.out,by omega,Nat.le_refl _,HLL.out ▸ HS11.out.fr⟩
theorem step09_3_2 {c:Cf} (hc:c.Ok) {v B gm g n:Nat} {w:World} {ws:List Int} (hv:v < c.N) (hm:MemIs B w gm ws n) (hw:WOk c ws) (hn:n ≤ 1000000) (hB:B ≤ g) {n0 sw o0 o1 o3:Int} {o2:Bool} (hg:Is09 c v w g ⟨3,n0,2,sw,o0,o1,o2,o3⟩) :
  Calls Try.prog 46 #[.pointer (some ⟨g,0,none⟩),.pointer (some ⟨gm,0,none⟩)] w (P09 c v B gm g ws n w):=by
 obtain ⟨AP,cP,AL,cL,hg,hP,hL⟩:=hg
 have HC:=Lib.hid hc
 have HW:=Lib.hid hw
 have HP:=Lib.hid hP
 have HLi:=Lib.hid hL
 have HLe:=Lib.hid (hw.le hc)
 have hK:c.K = 6 + 2 * c.S:=rfl
 obtain ⟨p5,hp5⟩:∃ p,c.na v 0 = p:=⟨_,rfl⟩
 obtain ⟨p6,hp6⟩:∃ p,c.na v 1 = p:=⟨_,rfl⟩
 have H5:=Lib.hid hp5
 have H6:=Lib.hid hp6
 have H5l:Hid (p5 < ws.length):=Lib.hid (by rw [← hp5];exact hw.lt hv (by omega))
 have H6l:Hid (p6 < ws.length):=Lib.hid (by rw [← hp6];exact hw.lt hv (by omega))
 have HT5:Hid (∀ x,WTo c ws (ws.set p5 x)):=Lib.hid (fun x=>by rw [← hp5];exact hw.set_node hv (by omega) (by omega) x)
 have HT6:Hid (∀ x,WTo c ws (ws.set p6 x)):=Lib.hid (fun x=>by rw [← hp6];exact hw.set_node hv (by omega) (by omega) x)
 have HB0_g:=Lib.hid hg
 obtain ⟨L,T,HLL,HTe,HT,HSG_g,HS0⟩:=st1 hm hB hg (by decide) (by decide)
 clear hc hw hg hm hP hL hK hp5 hp6
 obtain ⟨mn0,hmn0⟩:∃ z,IntKind.i64.wrap (-n0) = z:=⟨_,rfl⟩
 have hmn0':wrap64 (-n0) = mn0:=by rw [← hmn0,i64_w]
 have C_g:=cells_k09 HB0_g.out
 go_enter Try.func46,Try.ntmps46
 go_wp2
 refine ch_b C_g C_g [0,1,2,3,4,5,6,7,8,9] (fun W1 HWd hHeld=>?_)
 have HS1:=dwS HWd HS0
 have HB1_g:Hid (W1.heap[g]? = some (.cells (k09 3 c AP cP AL cL v n0 2 sw o0 o1 o2 o3) 102 (0,0))):=Lib.hid (by rw [← HWd.out];exact HB0_g.out)
 replace C_g:=cells_k09 HB1_g.out
 clear HWd
 iterate 8 refine ch_s ?_
 refine ch_1 fun K hK=>?_
 refine goes_s Try.func33 #[(cA c AP cP AL cL),.int .i64 v] ?_
 refine (limit_c HC.out (HP.out.fr HS1.out.fr) (HLi.out.fr HS1.out.fr) (v:=v) (by omega)).mono ?_
 rintro e W2 ⟨rfl,hb'⟩
 refine ⟨_,rfl,?_⟩
 have HS2:=Lib.hid (HS1.out.below hb')
 have HB2_g:=Lib.hid (blk_below HB1_g.out hb')
 replace C_g:=cells_k09 HB2_g.out
 rw [H5.out]
 clear hb'
 refine hK.out _ _ C_g ?_;clear hK K hHeld;intro hHeld
 try simp only [Act.put,zq1,zq2,zq3]
 refine ch_s ?_
 refine ch_z ?_
 clear hHeld
 go_wp2
 refine ch_b C_g C_g [0,1,2,3,4,5,6,7,8,9] (fun W3 HWd hHeld=>?_)
 have HS3:=dwS HWd HS2
 have HB3_g:=dwH HWd HB2_g
 replace C_g:=cells_k09 HB3_g.out
 clear HWd
 iterate 8 refine ch_s ?_
 refine ch_1 fun K hK=>?_
 refine goes_s Try.func34 #[(cA c AP cP AL cL),.int .i64 v] ?_
 refine (avail_c HC.out (HP.out.fr HS3.out.fr) (HLi.out.fr HS3.out.fr) (v:=v) (by omega)).mono ?_
 rintro e W4 ⟨rfl,hb'⟩
 refine ⟨_,rfl,?_⟩
 have HS4:=Lib.hid (HS3.out.below hb')
 have HB4_g:=Lib.hid (blk_below HB3_g.out hb')
 replace C_g:=cells_k09 HB4_g.out
 rw [H6.out]
 clear hb'
 refine hK.out _ _ C_g ?_;clear hK K hHeld;intro hHeld
 try simp only [Act.put,zq1,zq2,zq3]
 refine ch_s ?_
 refine ch_z ?_
 clear hHeld
 go_wp2
 refine ch_b C_g C_g [0,1,2,3,4,5,6,7,8,9] (fun W5 HWd hHeld=>?_)
 have HS5:=dwS HWd HS4
 have HB5_g:=dwH HWd HB4_g
 replace C_g:=cells_k09 HB5_g.out
 clear HWd
 iterate 8 refine ch_s ?_
 refine ch_1 fun K hK=>?_
 refine goes_s Try.func34 #[(cA c AP cP AL cL),.int .i64 v] ?_
 refine (avail_c HC.out (HP.out.fr HS5.out.fr) (HLi.out.fr HS5.out.fr) (v:=v) (by omega)).mono ?_
 rintro e W6 ⟨rfl,hb'⟩
 refine ⟨_,rfl,?_⟩
 have HS6:=Lib.hid (HS5.out.below hb')
 have HB6_g:=Lib.hid (blk_below HB5_g.out hb')
 replace C_g:=cells_k09 HB6_g.out
 rw [H6.out]
 clear hb'
 refine hK.out _ _ C_g ?_;clear hK K hHeld;intro hHeld
 try simp only [Act.put,zq1,zq2,zq3]
 refine ch_s ?_
 refine ch_z ?_
 clear hHeld
 go_wp2
 refine ch_b C_g C_g [0,1,2,3,4,5,6,7,8,9] (fun W7 HWd hHeld=>?_)
 have HS7:=dwS HWd HS6
 have HB7_g:=dwH HWd HB6_g
 replace C_g:=cells_k09 HB7_g.out
 clear HWd
 iterate 8 refine ch_s ?_
 refine ch_1 fun K hK=>?_
 refine goes_s Try.func33 #[(cA c AP cP AL cL),.int .i64 v] ?_
 refine (limit_c HC.out (HP.out.fr HS7.out.fr) (HLi.out.fr HS7.out.fr) (v:=v) (by omega)).mono ?_
 rintro e W8 ⟨rfl,hb'⟩
 refine ⟨_,rfl,?_⟩
 have HS8:=Lib.hid (HS7.out.below hb')
 have HB8_g:=Lib.hid (blk_below HB7_g.out hb')
 replace C_g:=cells_k09 HB8_g.out
 rw [H5.out]
 clear hb'
 refine hK.out _ _ C_g ?_;clear hK K hHeld;intro hHeld
 try simp only [Act.put,zq1,zq2,zq3]
 refine ch_s ?_
 refine ch_z ?_
 clear hHeld
 go_wp2_with (first|(go_at_call 60;(with_reducible refine ((add_z HS8.out.mem hn HLe.out p5 H5l.out _ _ rfl)).mono ?_);rintro e W9 ⟨x,rfl,hm',hf'⟩;have HS9:=Lib.hid (HS8.out.acc hm' hf' HT.out);have HB9_g:=Lib.hid (blk_fr HB8_g.out hf' (by simp) (by decide));replace C_g:=cells_k09 HB9_g.out;clear hm' hf'))
 go_ret
 exact ⟨true,⟨3,n0,9,sw,o0,o1,o2,o3⟩,(ws.set p5 x),_,rfl,⟨AP,cP,AL,cL,(blk_set' HB9_g.out 11 (.int .i64 9) rfl),HP.out.fr (HSG_g.out _ _ _ HS9.out 11 (.int .i64 9)).fr,HLi.out.fr (HSG_g.out _ _ _ HS9.out 11 (.int .i64 9)).fr⟩,by unfold A09;simp,(HSG_g.out _ _ _ HS9.out 11 (.int .i64 9)).mem,HT5.out x,by omega,Nat.le_refl _,HLL.out ▸ (HSG_g.out _ _ _ HS9.out 11 (.int .i64 9)).fr⟩
theorem step09_3_9 {c:Cf} (hc:c.Ok) {v B gm g n:Nat} {w:World} {ws:List Int} (hv:v < c.N) (hm:MemIs B w gm ws n) (hw:WOk c ws) (hn:n ≤ 1000000) (hB:B ≤ g) {n0 sw o0 o1 o3:Int} {o2:Bool} (hg:Is09 c v w g ⟨3,n0,9,sw,o0,o1,o2,o3⟩) :
  Calls Try.prog 46 #[.pointer (some ⟨g,0,none⟩),.pointer (some ⟨gm,0,none⟩)] w (P09 c v B gm g ws n w):=by
 obtain ⟨AP,cP,AL,cL,hg,hP,hL⟩:=hg
 have HC:=Lib.hid hc
 have HW:=Lib.hid hw
 have HP:=Lib.hid hP
 have HLi:=Lib.hid hL
 have HLe:=Lib.hid (hw.le hc)
 have hK:c.K = 6 + 2 * c.S:=rfl
 obtain ⟨p5,hp5⟩:∃ p,c.na v 0 = p:=⟨_,rfl⟩
 obtain ⟨p6,hp6⟩:∃ p,c.na v 1 = p:=⟨_,rfl⟩
 have H5:=Lib.hid hp5
 have H6:=Lib.hid hp6
 have H5l:Hid (p5 < ws.length):=Lib.hid (by rw [← hp5];exact hw.lt hv (by omega))
 have H6l:Hid (p6 < ws.length):=Lib.hid (by rw [← hp6];exact hw.lt hv (by omega))
 have HT5:Hid (∀ x,WTo c ws (ws.set p5 x)):=Lib.hid (fun x=>by rw [← hp5];exact hw.set_node hv (by omega) (by omega) x)
 have HT6:Hid (∀ x,WTo c ws (ws.set p6 x)):=Lib.hid (fun x=>by rw [← hp6];exact hw.set_node hv (by omega) (by omega) x)
 have HB0_g:=Lib.hid hg
 obtain ⟨L,T,HLL,HTe,HT,HSG_g,HS0⟩:=st1 hm hB hg (by decide) (by decide)
 clear hc hw hg hm hP hL hK hp5 hp6
 obtain ⟨mn0,hmn0⟩:∃ z,IntKind.i64.wrap (-n0) = z:=⟨_,rfl⟩
 have hmn0':wrap64 (-n0) = mn0:=by rw [← hmn0,i64_w]
 have C_g:=cells_k09 HB0_g.out
 go_enter Try.func46,Try.ntmps46
 go_wp2
 refine ch_b C_g C_g [0,1,2,3,4,5,6,7,8,9] (fun W1 HWd hHeld=>?_)
 have HS1:=dwS HWd HS0
 have HB1_g:Hid (W1.heap[g]? = some (.cells (k09 3 c AP cP AL cL v n0 9 sw o0 o1 o2 o3) 102 (0,0))):=Lib.hid (by rw [← HWd.out];exact HB0_g.out)
 replace C_g:=cells_k09 HB1_g.out
 clear HWd
 iterate 8 refine ch_s ?_
 refine ch_1 fun K hK=>?_
 refine goes_s Try.func33 #[(cA c AP cP AL cL),.int .i64 v] ?_
 refine (limit_c HC.out (HP.out.fr HS1.out.fr) (HLi.out.fr HS1.out.fr) (v:=v) (by omega)).mono ?_
 rintro e W2 ⟨rfl,hb'⟩
 refine ⟨_,rfl,?_⟩
 have HS2:=Lib.hid (HS1.out.below hb')
 have HB2_g:=Lib.hid (blk_below HB1_g.out hb')
 replace C_g:=cells_k09 HB2_g.out
 rw [H5.out]
 clear hb'
 refine hK.out _ _ C_g ?_;clear hK K hHeld;intro hHeld
 try simp only [Act.put,zq1,zq2,zq3]
 refine ch_s ?_
 refine ch_z ?_
 clear hHeld
 go_wp2
 refine ch_b C_g C_g [0,1,2,3,4,5,6,7,8,9] (fun W3 HWd hHeld=>?_)
 have HS3:=dwS HWd HS2
 have HB3_g:=dwH HWd HB2_g
 replace C_g:=cells_k09 HB3_g.out
 clear HWd
 iterate 8 refine ch_s ?_
 refine ch_1 fun K hK=>?_
 refine goes_s Try.func34 #[(cA c AP cP AL cL),.int .i64 v] ?_
 refine (avail_c HC.out (HP.out.fr HS3.out.fr) (HLi.out.fr HS3.out.fr) (v:=v) (by omega)).mono ?_
 rintro e W4 ⟨rfl,hb'⟩
 refine ⟨_,rfl,?_⟩
 have HS4:=Lib.hid (HS3.out.below hb')
 have HB4_g:=Lib.hid (blk_below HB3_g.out hb')
 replace C_g:=cells_k09 HB4_g.out
 rw [H6.out]
 clear hb'
 refine hK.out _ _ C_g ?_;clear hK K hHeld;intro hHeld
 try simp only [Act.put,zq1,zq2,zq3]
 refine ch_s ?_
 refine ch_z ?_
 clear hHeld
 go_wp2
 refine ch_b C_g C_g [0,1,2,3,4,5,6,7,8,9] (fun W5 HWd hHeld=>?_)
 have HS5:=dwS HWd HS4
 have HB5_g:=dwH HWd HB4_g
 replace C_g:=cells_k09 HB5_g.out
 clear HWd
 iterate 8 refine ch_s ?_
 refine ch_1 fun K hK=>?_
 refine goes_s Try.func34 #[(cA c AP cP AL cL),.int .i64 v] ?_
 refine (avail_c HC.out (HP.out.fr HS5.out.fr) (HLi.out.fr HS5.out.fr) (v:=v) (by omega)).mono ?_
 rintro e W6 ⟨rfl,hb'⟩
 refine ⟨_,rfl,?_⟩
 have HS6:=Lib.hid (HS5.out.below hb')
 have HB6_g:=Lib.hid (blk_below HB5_g.out hb')
 replace C_g:=cells_k09 HB6_g.out
 rw [H6.out]
 clear hb'
 refine hK.out _ _ C_g ?_;clear hK K hHeld;intro hHeld
 try simp only [Act.put,zq1,zq2,zq3]
 refine ch_s ?_
 refine ch_z ?_
 clear hHeld
 go_wp2
 refine ch_b C_g C_g [0,1,2,3,4,5,6,7,8,9] (fun W7 HWd hHeld=>?_)
 have HS7:=dwS HWd HS6
 have HB7_g:=dwH HWd HB6_g
 replace C_g:=cells_k09 HB7_g.out
 clear HWd
 iterate 8 refine ch_s ?_
 refine ch_1 fun K hK=>?_
 refine goes_s Try.func33 #[(cA c AP cP AL cL),.int .i64 v] ?_
 refine (limit_c HC.out (HP.out.fr HS7.out.fr) (HLi.out.fr HS7.out.fr) (v:=v) (by omega)).mono ?_
 rintro e W8 ⟨rfl,hb'⟩
 refine ⟨_,rfl,?_⟩
 have HS8:=Lib.hid (HS7.out.below hb')
 have HB8_g:=Lib.hid (blk_below HB7_g.out hb')
 replace C_g:=cells_k09 HB8_g.out
 rw [H5.out]
 clear hb'
 refine hK.out _ _ C_g ?_;clear hK K hHeld;intro hHeld
 try simp only [Act.put,zq1,zq2,zq3]
 refine ch_s ?_
 refine ch_z ?_
 clear hHeld
 go_wp2
 go_ret
 exact ⟨true,⟨3,n0,9,sw,o0,o1,o2,o3⟩,ws,_,rfl,⟨AP,cP,AL,cL,HB8_g.out,HP.out.fr HS8.out.fr,HLi.out.fr HS8.out.fr⟩,by unfold A09;simp,HS8.out.mem,WTo.refl HW.out,Nat.le_refl _,by omega,HLL.out ▸ HS8.out.fr⟩
theorem step09 {c:Cf} (hc:c.Ok) {v B gm g n:Nat} {w:World} {ws:List Int} (hv:v < c.N) (hm:MemIs B w gm ws n) (hw:WOk c ws) (hn:n ≤ 1000000) (hB:B ≤ g) {x:S09} (hg:Is09 c v w g x) (hi:A09 x) :
  Calls Try.prog 46 #[.pointer (some ⟨g,0,none⟩),.pointer (some ⟨gm,0,none⟩)] w (P09 c v B gm g ws n w):=by
 obtain ⟨kd,n0,At,sw,o0,o1,o2,o3⟩:=x
 obtain ⟨hk,hi⟩:=hi
 simp only at hk hi
 rcases hk with hk|hk <;> subst hk
 all_goals (rcases hi with h|h|h|h <;> subst h)
 ·by_cases h1:1099511627776 < IntKind.i64.wrap (wd ws (c.na v 0) + n0)
  ·exact step09_2_0_yes hc hv hm hw hn hB hg h1
  ·exact step09_2_0_no hc hv hm hw hn hB hg (by omega)
 ·by_cases h1:wd ws (c.na v 0) = sw
  ·exact step09_2_1_yes hc hv hm hw hn hB hg h1
  ·exact step09_2_1_no hc hv hm hw hn hB hg h1
 ·exact step09_2_2 hc hv hm hw hn hB hg
 ·exact step09_2_9 hc hv hm hw hn hB hg
 ·by_cases h1:wd ws (c.na v 1) < n0
  ·exact step09_3_0_yes hc hv hm hw hn hB hg h1
  ·exact step09_3_0_no hc hv hm hw hn hB hg (by omega)
 ·by_cases h1:wd ws (c.na v 1) = sw
  ·exact step09_3_1_yes hc hv hm hw hn hB hg h1
  ·exact step09_3_1_no hc hv hm hw hn hB hg h1
 ·exact step09_3_2 hc hv hm hw hn hB hg
 ·exact step09_3_9 hc hv hm hw hn hB hg
end Go.Proofs.Ytadblpcjkahikaa.PTraceRuns

