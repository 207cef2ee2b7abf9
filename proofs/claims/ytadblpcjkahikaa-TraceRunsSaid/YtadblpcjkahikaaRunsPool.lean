
import Derived.Test.YtadblpcjkahikaaRunsConf
namespace Go.Proofs.Ytadblpcjkahikaa.PTraceRuns
open Go.RowKit Go.Proofs.YtadblpcjkahikaaW.PrintWords Go.Proofs.YtadblpcjkahikaaW.PrintLast Go.Proofs.YtadblpcjkahikaaW.PrintMore
attribute [local go_sem] max2_int min2_int max_two min_two max_three min_three max_four min_four
set_option linter.unusedVariables false
set_option linter.unusedSimpArgs false
set_option maxHeartbeats 2000000
set_option maxRecDepth 100000
structure S08 where
 n0:Int
 At:Int
 l:Int
 a:Int
 e:Int
 o0:Int
 o1:Int
 o2:Bool
 o3:Int
def k08 (c:Cf) (AP:Option Addr) (cP:Nat) (AL:Option Addr) (cL:Nat) (v:Nat) (n0:Int) (s:Nat) (At l a e o0 o1:Int) (o2:Bool) (o3:Int):Array Value:=#[.int .i64 c.th,.int .i64 c.S,.int .i64 c.ga,.int .i64 c.le,.int .i64 c.re,.int .i64 c.ti,.slice AP c.pa.length cP,.slice AL c.li.length cL,.int .i64 v,.int .i64 n0,.int .i64 s,.int .i64 At,.int .i64 l,.int .i64 a,.int .i64 e,.int .i64 o0,.int .i64 o1,.bool o2,.int .i64 o3]
theorem cells_k08 {c:Cf} {AP:Option Addr} {cP:Nat} {AL:Option Addr} {cL:Nat} {v:Nat} {n0:Int} {s:Nat} {At l a e o0 o1:Int} {o2:Bool} {o3:Int} {w:World} {g:Nat} (h:w.heap[g]? = some (.cells (k08 c AP cP AL cL v n0 s At l a e o0 o1 o2 o3) 115 (0,0))):Sat (fun w=>(∀ i,w.frozen? ⟨g,i,none⟩ = false)∧w.cell? ⟨g,0,none⟩ = some (.int .i64 c.th)∧w.cell? ⟨g,1,none⟩ = some (.int .i64 c.S)∧w.cell? ⟨g,2,none⟩ = some (.int .i64 c.ga)∧w.cell? ⟨g,3,none⟩ = some (.int .i64 c.le)∧w.cell? ⟨g,4,none⟩ = some (.int .i64 c.re)∧w.cell? ⟨g,5,none⟩ = some (.int .i64 c.ti)∧w.cell? ⟨g,6,none⟩ = some (.slice AP c.pa.length cP)∧w.cell? ⟨g,7,none⟩ = some (.slice AL c.li.length cL)∧w.cell? ⟨g,8,none⟩ = some (.int .i64 v)∧w.cell? ⟨g,9,none⟩ = some (.int .i64 n0)∧w.cell? ⟨g,10,none⟩ = some (.int .i64 s)∧w.cell? ⟨g,11,none⟩ = some (.int .i64 At)∧w.cell? ⟨g,12,none⟩ = some (.int .i64 l)∧w.cell? ⟨g,13,none⟩ = some (.int .i64 a)∧w.cell? ⟨g,14,none⟩ = some (.int .i64 e)∧w.cell? ⟨g,15,none⟩ = some (.int .i64 o0)∧w.cell? ⟨g,16,none⟩ = some (.int .i64 o1)∧w.cell? ⟨g,17,none⟩ = some (.bool o2)∧w.cell? ⟨g,18,none⟩ = some (.int .i64 o3)) w:=by unfold k08 at h;exact cells19 h
def Is08 (c:Cf) (v s:Nat) (w:World) (g:Nat) (x:S08):Prop :=
 ∃ AP cP AL cL,w.heap[g]? = some (.cells (k08 c AP cP AL cL v x.n0 s x.At x.l x.a x.e x.o0 x.o1 x.o2 x.o3) 115 (0,0))∧Ints w (.slice AP c.pa.length cP) c.pa∧Ints w (.slice AL c.li.length cL) c.li
def A08 (x:S08):Prop:=x.At = 0 ∨ x.At = 1 ∨ x.At = 2 ∨ x.At = 3 ∨ x.At = 4 ∨ x.At = 5 ∨ x.At = 6 ∨ x.At = 9
def P08 (c:Cf) (v s B gm g:Nat) (ws:List Int) (n:Nat) (w:World) (e:Ending) (w':World):Prop :=
 ∃ b x ws' n',e = .returned (.bool b)∧Is08 c v s w' g x∧A08 x∧MemIs B w' gm ws' n'∧WTo c ws ws'∧n ≤ n'∧n' ≤ n + 1∧Fr B true [g] w w'
theorem step08_0_yes {c:Cf} (hc:c.Ok) {v s B gm g n:Nat} {w:World} {ws:List Int} (hv:v < c.N) (hs:s < c.S) (hm:MemIs B w gm ws n) (hw:WOk c ws) (hn:n ≤ 1000000) (hB:B ≤ g) {n0 l a e o0 o1 o3:Int} {o2:Bool} (hg:Is08 c v s w g ⟨n0,0,l,a,e,o0,o1,o2,o3⟩) (hq:n0 ≤ wd ws (c.na v (2 + s))) :
  Calls Try.prog 58 #[.pointer (some ⟨g,0,none⟩),.pointer (some ⟨gm,0,none⟩)] w (P08 c v s B gm g ws n w):=by
 obtain ⟨AP,cP,AL,cL,hg,hP,hL⟩:=hg
 have HC:=Lib.hid hc
 have HW:=Lib.hid hw
 have HP:=Lib.hid hP
 have HLi:=Lib.hid hL
 have HLe:=Lib.hid (hw.le hc)
 have hS:=hc.Sle
 have hK:c.K = 6 + 2 * c.S:=rfl
 obtain ⟨p5,hp5⟩:∃ p,c.na v (2 + s) = p:=⟨_,rfl⟩
 obtain ⟨p6,hp6⟩:∃ p,c.na v 1 = p:=⟨_,rfl⟩
 have H5:=Lib.hid hp5
 have H6:=Lib.hid hp6
 have H5l:Hid (p5 < ws.length):=Lib.hid (by rw [← hp5];exact hw.lt hv (by omega))
 have H6l:Hid (p6 < ws.length):=Lib.hid (by rw [← hp6];exact hw.lt hv (by omega))
 have HT5:Hid (∀ x,WTo c ws (ws.set p5 x)):=Lib.hid (fun x=>by rw [← hp5];exact hw.set_node hv (by omega) (by omega) x)
 have HT6:Hid (∀ x,WTo c ws (ws.set p6 x)):=Lib.hid (fun x=>by rw [← hp6];exact hw.set_node hv (by omega) (by omega) x)
 have HB0_g:=Lib.hid hg
 obtain ⟨L,T,HLL,HTe,HT,HSG_g,HS0⟩:=st1 hm hB hg (by decide) (by decide)
 clear hc hw hg hm hP hL hS hK hp5 hp6
 obtain ⟨l1,hl1⟩:∃ z,wd ws p5 = z:=⟨_,rfl⟩
 have HL1:=Lib.hid hl1
 rw [H5.out,hl1] at hq
 have d1:decide (n0 ≤ l1) = true:=decide_eq_true (by omega)
 clear hl1 hq
 have C_g:=cells_k08 HB0_g.out
 go_enter Try.func58,Try.ntmps58
 go_wp2
 refine ch_b C_g C_g [0,1,2,3,4,5,6,7,8,9,10,11,12,13] (fun W1 HWd hHeld=>?_)
 have HS1:=dwS HWd HS0
 have HB1_g:Hid (W1.heap[g]? = some (.cells (k08 c AP cP AL cL v n0 s 0 l a e o0 o1 o2 o3) 115 (0,0))):=Lib.hid (by rw [← HWd.out];exact HB0_g.out)
 replace C_g:=cells_k08 HB1_g.out
 clear HWd
 iterate 12 refine ch_s ?_
 refine ch_1 fun K hK=>?_
 refine goes_s Try.func79 #[(cA c AP cP AL cL),.int .i64 v,.int .i64 s] ?_
 refine (lease_c HC.out (HP.out.fr HS1.out.fr) (HLi.out.fr HS1.out.fr) (v:=v) (s:=s) (by omega) (by have:=HC.out.Sle;omega)).mono ?_
 rintro e W2 ⟨rfl,hb'⟩
 refine ⟨_,rfl,?_⟩
 have HS2:=Lib.hid (HS1.out.below hb')
 have HB2_g:=Lib.hid (blk_below HB1_g.out hb')
 replace C_g:=cells_k08 HB2_g.out
 rw [H5.out]
 clear hb'
 refine hK.out _ _ C_g ?_;clear hK K hHeld;intro hHeld
 try simp only [Act.put,zq1,zq2,zq3]
 refine ch_s ?_
 refine ch_z ?_
 clear hHeld
 go_wp2
 refine ch_b C_g C_g [0,1,2,3,4,5,6,7,8,9] (fun W3 HWd hHeld=>?_)
 have HS3:=dwS HWd HS2
 have HB3_g:=dwH HWd HB2_g
 replace C_g:=cells_k08 HB3_g.out
 clear HWd
 iterate 8 refine ch_s ?_
 refine ch_1 fun K hK=>?_
 refine goes_s Try.func34 #[(cA c AP cP AL cL),.int .i64 v] ?_
 refine (avail_c HC.out (HP.out.fr HS3.out.fr) (HLi.out.fr HS3.out.fr) (v:=v) (by omega)).mono ?_
 rintro e W4 ⟨rfl,hb'⟩
 refine ⟨_,rfl,?_⟩
 have HS4:=Lib.hid (HS3.out.below hb')
 have HB4_g:=Lib.hid (blk_below HB3_g.out hb')
 replace C_g:=cells_k08 HB4_g.out
 rw [H6.out]
 clear hb'
 refine hK.out _ _ C_g ?_;clear hK K hHeld;intro hHeld
 try simp only [Act.put,zq1,zq2,zq3]
 refine ch_s ?_
 refine ch_z ?_
 clear hHeld
 go_wp2_with (first|(go_at_call 68;(with_reducible refine ((load_z HS4.out.mem hn HLe.out p5 H5l.out _ rfl)).mono ?_);rintro e W5 ⟨rfl,hm',hf'⟩;have HS5:=Lib.hid (HS4.out.acc hm' hf' HT.out);have HB5_g:=Lib.hid (blk_fr HB4_g.out hf' (by simp) (by decide));replace C_g:=cells_k08 HB5_g.out;clear hm' hf';rw [HL1.out]))
 generalize hWd:(World.setCell (World.setCell W5 ⟨g,12,none⟩ (.int .i64 l1)) ⟨g,11,none⟩ (.int .i64 2)) = W6 at ⊢
 have HWd:=Lib.hid hWd
 clear hWd
 have HS6:Hid (St B L T w gm ws (n + 1) W6):=Lib.hid (by rw [← HWd.out];exact (HSG_g.out _ _ _ (HSG_g.out _ _ _ HS5.out 12 (.int .i64 l1)) 11 (.int .i64 2)))
 have HB6_g:Hid (W6.heap[g]? = some (.cells (k08 c AP cP AL cL v n0 s 2 l1 a e o0 o1 o2 o3) 115 (0,0))):=Lib.hid (by rw [← HWd.out];exact (blk_set' (blk_set' HB5_g.out 12 (.int .i64 l1) rfl) 11 (.int .i64 2) rfl))
 replace C_g:=cells_k08 HB6_g.out
 clear HWd
 refine ch_b C_g C_g [0,1,2,3,4,5,6,7,8] (fun W7 HWd hHeld=>?_)
 have HS7:=dwS HWd HS6
 have HB7_g:=dwH HWd HB6_g
 replace C_g:=cells_k08 HB7_g.out
 clear HWd
 iterate 9 refine ch_s ?_
 refine ch_z ?_
 clear hHeld
 go_wp2
 go_ret
 exact ⟨false,⟨n0,1,l1,a,e,o0,o1,o2,o3⟩,ws,_,rfl,⟨AP,cP,AL,cL,(blk_set' HB7_g.out 11 (.int .i64 1) rfl),HP.out.fr (HSG_g.out _ _ _ HS7.out 11 (.int .i64 1)).fr,HLi.out.fr (HSG_g.out _ _ _ HS7.out 11 (.int .i64 1)).fr⟩,by unfold A08;simp,(HSG_g.out _ _ _ HS7.out 11 (.int .i64 1)).mem,WTo.refl HW.out,by omega,Nat.le_refl _,HLL.out ▸ (HSG_g.out _ _ _ HS7.out 11 (.int .i64 1)).fr⟩
theorem step08_0_no {c:Cf} (hc:c.Ok) {v s B gm g n:Nat} {w:World} {ws:List Int} (hv:v < c.N) (hs:s < c.S) (hm:MemIs B w gm ws n) (hw:WOk c ws) (hn:n ≤ 1000000) (hB:B ≤ g) {n0 l a e o0 o1 o3:Int} {o2:Bool} (hg:Is08 c v s w g ⟨n0,0,l,a,e,o0,o1,o2,o3⟩) (hq:wd ws (c.na v (2 + s)) < n0) :
  Calls Try.prog 58 #[.pointer (some ⟨g,0,none⟩),.pointer (some ⟨gm,0,none⟩)] w (P08 c v s B gm g ws n w):=by
 obtain ⟨AP,cP,AL,cL,hg,hP,hL⟩:=hg
 have HC:=Lib.hid hc
 have HW:=Lib.hid hw
 have HP:=Lib.hid hP
 have HLi:=Lib.hid hL
 have HLe:=Lib.hid (hw.le hc)
 have hS:=hc.Sle
 have hK:c.K = 6 + 2 * c.S:=rfl
 obtain ⟨p5,hp5⟩:∃ p,c.na v (2 + s) = p:=⟨_,rfl⟩
 obtain ⟨p6,hp6⟩:∃ p,c.na v 1 = p:=⟨_,rfl⟩
 have H5:=Lib.hid hp5
 have H6:=Lib.hid hp6
 have H5l:Hid (p5 < ws.length):=Lib.hid (by rw [← hp5];exact hw.lt hv (by omega))
 have H6l:Hid (p6 < ws.length):=Lib.hid (by rw [← hp6];exact hw.lt hv (by omega))
 have HT5:Hid (∀ x,WTo c ws (ws.set p5 x)):=Lib.hid (fun x=>by rw [← hp5];exact hw.set_node hv (by omega) (by omega) x)
 have HT6:Hid (∀ x,WTo c ws (ws.set p6 x)):=Lib.hid (fun x=>by rw [← hp6];exact hw.set_node hv (by omega) (by omega) x)
 have HB0_g:=Lib.hid hg
 obtain ⟨L,T,HLL,HTe,HT,HSG_g,HS0⟩:=st1 hm hB hg (by decide) (by decide)
 clear hc hw hg hm hP hL hS hK hp5 hp6
 obtain ⟨l1,hl1⟩:∃ z,wd ws p5 = z:=⟨_,rfl⟩
 have HL1:=Lib.hid hl1
 rw [H5.out,hl1] at hq
 have d1:decide (n0 ≤ l1) = false:=decide_eq_false (by omega)
 clear hl1 hq
 have C_g:=cells_k08 HB0_g.out
 go_enter Try.func58,Try.ntmps58
 go_wp2
 refine ch_b C_g C_g [0,1,2,3,4,5,6,7,8,9,10,11,12,13] (fun W1 HWd hHeld=>?_)
 have HS1:=dwS HWd HS0
 have HB1_g:Hid (W1.heap[g]? = some (.cells (k08 c AP cP AL cL v n0 s 0 l a e o0 o1 o2 o3) 115 (0,0))):=Lib.hid (by rw [← HWd.out];exact HB0_g.out)
 replace C_g:=cells_k08 HB1_g.out
 clear HWd
 iterate 12 refine ch_s ?_
 refine ch_1 fun K hK=>?_
 refine goes_s Try.func79 #[(cA c AP cP AL cL),.int .i64 v,.int .i64 s] ?_
 refine (lease_c HC.out (HP.out.fr HS1.out.fr) (HLi.out.fr HS1.out.fr) (v:=v) (s:=s) (by omega) (by have:=HC.out.Sle;omega)).mono ?_
 rintro e W2 ⟨rfl,hb'⟩
 refine ⟨_,rfl,?_⟩
 have HS2:=Lib.hid (HS1.out.below hb')
 have HB2_g:=Lib.hid (blk_below HB1_g.out hb')
 replace C_g:=cells_k08 HB2_g.out
 rw [H5.out]
 clear hb'
 refine hK.out _ _ C_g ?_;clear hK K hHeld;intro hHeld
 try simp only [Act.put,zq1,zq2,zq3]
 refine ch_s ?_
 refine ch_z ?_
 clear hHeld
 go_wp2
 refine ch_b C_g C_g [0,1,2,3,4,5,6,7,8,9] (fun W3 HWd hHeld=>?_)
 have HS3:=dwS HWd HS2
 have HB3_g:=dwH HWd HB2_g
 replace C_g:=cells_k08 HB3_g.out
 clear HWd
 iterate 8 refine ch_s ?_
 refine ch_1 fun K hK=>?_
 refine goes_s Try.func34 #[(cA c AP cP AL cL),.int .i64 v] ?_
 refine (avail_c HC.out (HP.out.fr HS3.out.fr) (HLi.out.fr HS3.out.fr) (v:=v) (by omega)).mono ?_
 rintro e W4 ⟨rfl,hb'⟩
 refine ⟨_,rfl,?_⟩
 have HS4:=Lib.hid (HS3.out.below hb')
 have HB4_g:=Lib.hid (blk_below HB3_g.out hb')
 replace C_g:=cells_k08 HB4_g.out
 rw [H6.out]
 clear hb'
 refine hK.out _ _ C_g ?_;clear hK K hHeld;intro hHeld
 try simp only [Act.put,zq1,zq2,zq3]
 refine ch_s ?_
 refine ch_z ?_
 clear hHeld
 go_wp2_with (first|(go_at_call 68;(with_reducible refine ((load_z HS4.out.mem hn HLe.out p5 H5l.out _ rfl)).mono ?_);rintro e W5 ⟨rfl,hm',hf'⟩;have HS5:=Lib.hid (HS4.out.acc hm' hf' HT.out);have HB5_g:=Lib.hid (blk_fr HB4_g.out hf' (by simp) (by decide));replace C_g:=cells_k08 HB5_g.out;clear hm' hf';rw [HL1.out]))
 generalize hWd:(World.setCell (World.setCell W5 ⟨g,12,none⟩ (.int .i64 l1)) ⟨g,11,none⟩ (.int .i64 2)) = W6 at ⊢
 have HWd:=Lib.hid hWd
 clear hWd
 have HS6:Hid (St B L T w gm ws (n + 1) W6):=Lib.hid (by rw [← HWd.out];exact (HSG_g.out _ _ _ (HSG_g.out _ _ _ HS5.out 12 (.int .i64 l1)) 11 (.int .i64 2)))
 have HB6_g:Hid (W6.heap[g]? = some (.cells (k08 c AP cP AL cL v n0 s 2 l1 a e o0 o1 o2 o3) 115 (0,0))):=Lib.hid (by rw [← HWd.out];exact (blk_set' (blk_set' HB5_g.out 12 (.int .i64 l1) rfl) 11 (.int .i64 2) rfl))
 replace C_g:=cells_k08 HB6_g.out
 clear HWd
 refine ch_b C_g C_g [0,1,2,3,4,5,6,7,8] (fun W7 HWd hHeld=>?_)
 have HS7:=dwS HWd HS6
 have HB7_g:=dwH HWd HB6_g
 replace C_g:=cells_k08 HB7_g.out
 clear HWd
 iterate 9 refine ch_s ?_
 refine ch_z ?_
 clear hHeld
 go_wp2
 go_ret
 exact ⟨false,⟨n0,2,l1,a,e,o0,o1,o2,o3⟩,ws,_,rfl,⟨AP,cP,AL,cL,HB7_g.out,HP.out.fr HS7.out.fr,HLi.out.fr HS7.out.fr⟩,by unfold A08;simp,HS7.out.mem,WTo.refl HW.out,by omega,Nat.le_refl _,HLL.out ▸ HS7.out.fr⟩
theorem step08_4_yes {c:Cf} (hc:c.Ok) {v s B gm g n:Nat} {w:World} {ws:List Int} (hv:v < c.N) (hs:s < c.S) (hm:MemIs B w gm ws n) (hw:WOk c ws) (hn:n ≤ 1000000) (hB:B ≤ g) {n0 l a e o0 o1 o3:Int} {o2:Bool} (hg:Is08 c v s w g ⟨n0,4,l,a,e,o0,o1,o2,o3⟩) (hq:IntKind.i64.wrap (wd ws (c.na v (2 + s)) + e) ≤ c.le) :
  Calls Try.prog 58 #[.pointer (some ⟨g,0,none⟩),.pointer (some ⟨gm,0,none⟩)] w (P08 c v s B gm g ws n w):=by
 obtain ⟨AP,cP,AL,cL,hg,hP,hL⟩:=hg
 have HC:=Lib.hid hc
 have HW:=Lib.hid hw
 have HP:=Lib.hid hP
 have HLi:=Lib.hid hL
 have HLe:=Lib.hid (hw.le hc)
 have hS:=hc.Sle
 have hK:c.K = 6 + 2 * c.S:=rfl
 obtain ⟨p5,hp5⟩:∃ p,c.na v (2 + s) = p:=⟨_,rfl⟩
 obtain ⟨p6,hp6⟩:∃ p,c.na v 1 = p:=⟨_,rfl⟩
 have H5:=Lib.hid hp5
 have H6:=Lib.hid hp6
 have H5l:Hid (p5 < ws.length):=Lib.hid (by rw [← hp5];exact hw.lt hv (by omega))
 have H6l:Hid (p6 < ws.length):=Lib.hid (by rw [← hp6];exact hw.lt hv (by omega))
 have HT5:Hid (∀ x,WTo c ws (ws.set p5 x)):=Lib.hid (fun x=>by rw [← hp5];exact hw.set_node hv (by omega) (by omega) x)
 have HT6:Hid (∀ x,WTo c ws (ws.set p6 x)):=Lib.hid (fun x=>by rw [← hp6];exact hw.set_node hv (by omega) (by omega) x)
 have HB0_g:=Lib.hid hg
 obtain ⟨L,T,HLL,HTe,HT,HSG_g,HS0⟩:=st1 hm hB hg (by decide) (by decide)
 clear hc hw hg hm hP hL hS hK hp5 hp6
 obtain ⟨l1,hl1⟩:∃ z,wd ws p5 = z:=⟨_,rfl⟩
 have HL1:=Lib.hid hl1
 rw [H5.out,hl1] at hq
 obtain ⟨z1,hz1⟩:∃ z,IntKind.i64.wrap (l1 + e) = z:=⟨_,rfl⟩
 have hz1':wrap64 (l1 + e) = z1:=by rw [← hz1,i64_w]
 simp only [hz1] at hq
 have d1:decide (z1 ≤ c.le) = true:=decide_eq_true (by omega)
 clear hl1 hq
 have C_g:=cells_k08 HB0_g.out
 go_enter Try.func58,Try.ntmps58
 go_wp2
 refine ch_b C_g C_g [0,1,2,3,4,5,6,7,8,9,10,11,12,13] (fun W1 HWd hHeld=>?_)
 have HS1:=dwS HWd HS0
 have HB1_g:Hid (W1.heap[g]? = some (.cells (k08 c AP cP AL cL v n0 s 4 l a e o0 o1 o2 o3) 115 (0,0))):=Lib.hid (by rw [← HWd.out];exact HB0_g.out)
 replace C_g:=cells_k08 HB1_g.out
 clear HWd
 iterate 12 refine ch_s ?_
 refine ch_1 fun K hK=>?_
 refine goes_s Try.func79 #[(cA c AP cP AL cL),.int .i64 v,.int .i64 s] ?_
 refine (lease_c HC.out (HP.out.fr HS1.out.fr) (HLi.out.fr HS1.out.fr) (v:=v) (s:=s) (by omega) (by have:=HC.out.Sle;omega)).mono ?_
 rintro e W2 ⟨rfl,hb'⟩
 refine ⟨_,rfl,?_⟩
 have HS2:=Lib.hid (HS1.out.below hb')
 have HB2_g:=Lib.hid (blk_below HB1_g.out hb')
 replace C_g:=cells_k08 HB2_g.out
 rw [H5.out]
 clear hb'
 refine hK.out _ _ C_g ?_;clear hK K hHeld;intro hHeld
 try simp only [Act.put,zq1,zq2,zq3]
 refine ch_s ?_
 refine ch_z ?_
 clear hHeld
 go_wp2
 refine ch_b C_g C_g [0,1,2,3,4,5,6,7,8,9] (fun W3 HWd hHeld=>?_)
 have HS3:=dwS HWd HS2
 have HB3_g:=dwH HWd HB2_g
 replace C_g:=cells_k08 HB3_g.out
 clear HWd
 iterate 8 refine ch_s ?_
 refine ch_1 fun K hK=>?_
 refine goes_s Try.func34 #[(cA c AP cP AL cL),.int .i64 v] ?_
 refine (avail_c HC.out (HP.out.fr HS3.out.fr) (HLi.out.fr HS3.out.fr) (v:=v) (by omega)).mono ?_
 rintro e W4 ⟨rfl,hb'⟩
 refine ⟨_,rfl,?_⟩
 have HS4:=Lib.hid (HS3.out.below hb')
 have HB4_g:=Lib.hid (blk_below HB3_g.out hb')
 replace C_g:=cells_k08 HB4_g.out
 rw [H6.out]
 clear hb'
 refine hK.out _ _ C_g ?_;clear hK K hHeld;intro hHeld
 try simp only [Act.put,zq1,zq2,zq3]
 refine ch_s ?_
 refine ch_z ?_
 clear hHeld
 go_wp2_with (first|(go_at_call 68;(with_reducible refine ((load_z HS4.out.mem hn HLe.out p5 H5l.out _ rfl)).mono ?_);rintro e W5 ⟨rfl,hm',hf'⟩;have HS5:=Lib.hid (HS4.out.acc hm' hf' HT.out);have HB5_g:=Lib.hid (blk_fr HB4_g.out hf' (by simp) (by decide));replace C_g:=cells_k08 HB5_g.out;clear hm' hf';rw [HL1.out]))
 generalize hWd:(World.setCell (World.setCell W5 ⟨g,12,none⟩ (.int .i64 l1)) ⟨g,11,none⟩ (.int .i64 6)) = W6 at ⊢
 have HWd:=Lib.hid hWd
 clear hWd
 have HS6:Hid (St B L T w gm ws (n + 1) W6):=Lib.hid (by rw [← HWd.out];exact (HSG_g.out _ _ _ (HSG_g.out _ _ _ HS5.out 12 (.int .i64 l1)) 11 (.int .i64 6)))
 have HB6_g:Hid (W6.heap[g]? = some (.cells (k08 c AP cP AL cL v n0 s 6 l1 a e o0 o1 o2 o3) 115 (0,0))):=Lib.hid (by rw [← HWd.out];exact (blk_set' (blk_set' HB5_g.out 12 (.int .i64 l1) rfl) 11 (.int .i64 6) rfl))
 replace C_g:=cells_k08 HB6_g.out
 clear HWd
 refine ch_b C_g C_g [0,1,2,3,4,5,6,7,8,9,10,11,12,13,14] (fun W7 HWd hHeld=>?_)
 have HS7:=dwS HWd HS6
 have HB7_g:=dwH HWd HB6_g
 replace C_g:=cells_k08 HB7_g.out
 clear HWd
 iterate 15 refine ch_s ?_
 refine ch_z ?_
 clear hHeld
 go_wp2
 go_ret
 exact ⟨false,⟨n0,5,l1,a,e,o0,o1,o2,o3⟩,ws,_,rfl,⟨AP,cP,AL,cL,(blk_set' HB7_g.out 11 (.int .i64 5) rfl),HP.out.fr (HSG_g.out _ _ _ HS7.out 11 (.int .i64 5)).fr,HLi.out.fr (HSG_g.out _ _ _ HS7.out 11 (.int .i64 5)).fr⟩,by unfold A08;simp,(HSG_g.out _ _ _ HS7.out 11 (.int .i64 5)).mem,WTo.refl HW.out,by omega,Nat.le_refl _,HLL.out ▸ (HSG_g.out _ _ _ HS7.out 11 (.int .i64 5)).fr⟩
theorem step08_4_no {c:Cf} (hc:c.Ok) {v s B gm g n:Nat} {w:World} {ws:List Int} (hv:v < c.N) (hs:s < c.S) (hm:MemIs B w gm ws n) (hw:WOk c ws) (hn:n ≤ 1000000) (hB:B ≤ g) {n0 l a e o0 o1 o3:Int} {o2:Bool} (hg:Is08 c v s w g ⟨n0,4,l,a,e,o0,o1,o2,o3⟩) (hq:c.le < IntKind.i64.wrap (wd ws (c.na v (2 + s)) + e)) :
  Calls Try.prog 58 #[.pointer (some ⟨g,0,none⟩),.pointer (some ⟨gm,0,none⟩)] w (P08 c v s B gm g ws n w):=by
 obtain ⟨AP,cP,AL,cL,hg,hP,hL⟩:=hg
 have HC:=Lib.hid hc
 have HW:=Lib.hid hw
 have HP:=Lib.hid hP
 have HLi:=Lib.hid hL
 have HLe:=Lib.hid (hw.le hc)
 have hS:=hc.Sle
 have hK:c.K = 6 + 2 * c.S:=rfl
 obtain ⟨p5,hp5⟩:∃ p,c.na v (2 + s) = p:=⟨_,rfl⟩
 obtain ⟨p6,hp6⟩:∃ p,c.na v 1 = p:=⟨_,rfl⟩
 have H5:=Lib.hid hp5
 have H6:=Lib.hid hp6
 have H5l:Hid (p5 < ws.length):=Lib.hid (by rw [← hp5];exact hw.lt hv (by omega))
 have H6l:Hid (p6 < ws.length):=Lib.hid (by rw [← hp6];exact hw.lt hv (by omega))
 have HT5:Hid (∀ x,WTo c ws (ws.set p5 x)):=Lib.hid (fun x=>by rw [← hp5];exact hw.set_node hv (by omega) (by omega) x)
 have HT6:Hid (∀ x,WTo c ws (ws.set p6 x)):=Lib.hid (fun x=>by rw [← hp6];exact hw.set_node hv (by omega) (by omega) x)
 have HB0_g:=Lib.hid hg
 obtain ⟨L,T,HLL,HTe,HT,HSG_g,HS0⟩:=st1 hm hB hg (by decide) (by decide)
 clear hc hw hg hm hP hL hS hK hp5 hp6
 obtain ⟨l1,hl1⟩:∃ z,wd ws p5 = z:=⟨_,rfl⟩
 have HL1:=Lib.hid hl1
 rw [H5.out,hl1] at hq
 obtain ⟨z1,hz1⟩:∃ z,IntKind.i64.wrap (l1 + e) = z:=⟨_,rfl⟩
 have hz1':wrap64 (l1 + e) = z1:=by rw [← hz1,i64_w]
 simp only [hz1] at hq
 have d1:decide (z1 ≤ c.le) = false:=decide_eq_false (by omega)
 clear hl1 hq
 have C_g:=cells_k08 HB0_g.out
 go_enter Try.func58,Try.ntmps58
 go_wp2
 refine ch_b C_g C_g [0,1,2,3,4,5,6,7,8,9,10,11,12,13] (fun W1 HWd hHeld=>?_)
 have HS1:=dwS HWd HS0
 have HB1_g:Hid (W1.heap[g]? = some (.cells (k08 c AP cP AL cL v n0 s 4 l a e o0 o1 o2 o3) 115 (0,0))):=Lib.hid (by rw [← HWd.out];exact HB0_g.out)
 replace C_g:=cells_k08 HB1_g.out
 clear HWd
 iterate 12 refine ch_s ?_
 refine ch_1 fun K hK=>?_
 refine goes_s Try.func79 #[(cA c AP cP AL cL),.int .i64 v,.int .i64 s] ?_
 refine (lease_c HC.out (HP.out.fr HS1.out.fr) (HLi.out.fr HS1.out.fr) (v:=v) (s:=s) (by omega) (by have:=HC.out.Sle;omega)).mono ?_
 rintro e W2 ⟨rfl,hb'⟩
 refine ⟨_,rfl,?_⟩
 have HS2:=Lib.hid (HS1.out.below hb')
 have HB2_g:=Lib.hid (blk_below HB1_g.out hb')
 replace C_g:=cells_k08 HB2_g.out
 rw [H5.out]
 clear hb'
 refine hK.out _ _ C_g ?_;clear hK K hHeld;intro hHeld
 try simp only [Act.put,zq1,zq2,zq3]
 refine ch_s ?_
 refine ch_z ?_
 clear hHeld
 go_wp2
 refine ch_b C_g C_g [0,1,2,3,4,5,6,7,8,9] (fun W3 HWd hHeld=>?_)
 have HS3:=dwS HWd HS2
 have HB3_g:=dwH HWd HB2_g
 replace C_g:=cells_k08 HB3_g.out
 clear HWd
 iterate 8 refine ch_s ?_
 refine ch_1 fun K hK=>?_
 refine goes_s Try.func34 #[(cA c AP cP AL cL),.int .i64 v] ?_
 refine (avail_c HC.out (HP.out.fr HS3.out.fr) (HLi.out.fr HS3.out.fr) (v:=v) (by omega)).mono ?_
 rintro e W4 ⟨rfl,hb'⟩
 refine ⟨_,rfl,?_⟩
 have HS4:=Lib.hid (HS3.out.below hb')
 have HB4_g:=Lib.hid (blk_below HB3_g.out hb')
 replace C_g:=cells_k08 HB4_g.out
 rw [H6.out]
 clear hb'
 refine hK.out _ _ C_g ?_;clear hK K hHeld;intro hHeld
 try simp only [Act.put,zq1,zq2,zq3]
 refine ch_s ?_
 refine ch_z ?_
 clear hHeld
 go_wp2_with (first|(go_at_call 68;(with_reducible refine ((load_z HS4.out.mem hn HLe.out p5 H5l.out _ rfl)).mono ?_);rintro e W5 ⟨rfl,hm',hf'⟩;have HS5:=Lib.hid (HS4.out.acc hm' hf' HT.out);have HB5_g:=Lib.hid (blk_fr HB4_g.out hf' (by simp) (by decide));replace C_g:=cells_k08 HB5_g.out;clear hm' hf';rw [HL1.out]))
 generalize hWd:(World.setCell (World.setCell W5 ⟨g,12,none⟩ (.int .i64 l1)) ⟨g,11,none⟩ (.int .i64 6)) = W6 at ⊢
 have HWd:=Lib.hid hWd
 clear hWd
 have HS6:Hid (St B L T w gm ws (n + 1) W6):=Lib.hid (by rw [← HWd.out];exact (HSG_g.out _ _ _ (HSG_g.out _ _ _ HS5.out 12 (.int .i64 l1)) 11 (.int .i64 6)))
 have HB6_g:Hid (W6.heap[g]? = some (.cells (k08 c AP cP AL cL v n0 s 6 l1 a e o0 o1 o2 o3) 115 (0,0))):=Lib.hid (by rw [← HWd.out];exact (blk_set' (blk_set' HB5_g.out 12 (.int .i64 l1) rfl) 11 (.int .i64 6) rfl))
 replace C_g:=cells_k08 HB6_g.out
 clear HWd
 refine ch_b C_g C_g [0,1,2,3,4,5,6,7,8,9,10,11,12,13,14] (fun W7 HWd hHeld=>?_)
 have HS7:=dwS HWd HS6
 have HB7_g:=dwH HWd HB6_g
 replace C_g:=cells_k08 HB7_g.out
 clear HWd
 iterate 15 refine ch_s ?_
 refine ch_z ?_
 clear hHeld
 go_wp2
 go_ret
 exact ⟨false,⟨n0,6,l1,a,e,o0,o1,o2,o3⟩,ws,_,rfl,⟨AP,cP,AL,cL,HB7_g.out,HP.out.fr HS7.out.fr,HLi.out.fr HS7.out.fr⟩,by unfold A08;simp,HS7.out.mem,WTo.refl HW.out,by omega,Nat.le_refl _,HLL.out ▸ HS7.out.fr⟩
theorem step08_1_yes {c:Cf} (hc:c.Ok) {v s B gm g n:Nat} {w:World} {ws:List Int} (hv:v < c.N) (hs:s < c.S) (hm:MemIs B w gm ws n) (hw:WOk c ws) (hn:n ≤ 1000000) (hB:B ≤ g) {n0 l a e o0 o1 o3:Int} {o2:Bool} (hg:Is08 c v s w g ⟨n0,1,l,a,e,o0,o1,o2,o3⟩) (hq:wd ws (c.na v (2 + s)) = l) :
  Calls Try.prog 58 #[.pointer (some ⟨g,0,none⟩),.pointer (some ⟨gm,0,none⟩)] w (P08 c v s B gm g ws n w):=by
 obtain ⟨AP,cP,AL,cL,hg,hP,hL⟩:=hg
 have HC:=Lib.hid hc
 have HW:=Lib.hid hw
 have HP:=Lib.hid hP
 have HLi:=Lib.hid hL
 have HLe:=Lib.hid (hw.le hc)
 have hS:=hc.Sle
 have hK:c.K = 6 + 2 * c.S:=rfl
 obtain ⟨p5,hp5⟩:∃ p,c.na v (2 + s) = p:=⟨_,rfl⟩
 obtain ⟨p6,hp6⟩:∃ p,c.na v 1 = p:=⟨_,rfl⟩
 have H5:=Lib.hid hp5
 have H6:=Lib.hid hp6
 have H5l:Hid (p5 < ws.length):=Lib.hid (by rw [← hp5];exact hw.lt hv (by omega))
 have H6l:Hid (p6 < ws.length):=Lib.hid (by rw [← hp6];exact hw.lt hv (by omega))
 have HT5:Hid (∀ x,WTo c ws (ws.set p5 x)):=Lib.hid (fun x=>by rw [← hp5];exact hw.set_node hv (by omega) (by omega) x)
 have HT6:Hid (∀ x,WTo c ws (ws.set p6 x)):=Lib.hid (fun x=>by rw [← hp6];exact hw.set_node hv (by omega) (by omega) x)
 have HB0_g:=Lib.hid hg
 obtain ⟨L,T,HLL,HTe,HT,HSG_g,HS0⟩:=st1 hm hB hg (by decide) (by decide)
 clear hc hw hg hm hP hL hS hK hp5 hp6
 rw [H5.out] at hq
 have HQ:=Lib.hid hq
 clear hq
 obtain ⟨z1,hz1⟩:∃ z,IntKind.i64.wrap (l - n0) = z:=⟨_,rfl⟩
 have hz1':wrap64 (l - n0) = z1:=by rw [← hz1,i64_w]
 have C_g:=cells_k08 HB0_g.out
 go_enter Try.func58,Try.ntmps58
 go_wp2
 refine ch_b C_g C_g [0,1,2,3,4,5,6,7,8,9,10,11,12,13] (fun W1 HWd hHeld=>?_)
 have HS1:=dwS HWd HS0
 have HB1_g:Hid (W1.heap[g]? = some (.cells (k08 c AP cP AL cL v n0 s 1 l a e o0 o1 o2 o3) 115 (0,0))):=Lib.hid (by rw [← HWd.out];exact HB0_g.out)
 replace C_g:=cells_k08 HB1_g.out
 clear HWd
 iterate 12 refine ch_s ?_
 refine ch_1 fun K hK=>?_
 refine goes_s Try.func79 #[(cA c AP cP AL cL),.int .i64 v,.int .i64 s] ?_
 refine (lease_c HC.out (HP.out.fr HS1.out.fr) (HLi.out.fr HS1.out.fr) (v:=v) (s:=s) (by omega) (by have:=HC.out.Sle;omega)).mono ?_
 rintro e W2 ⟨rfl,hb'⟩
 refine ⟨_,rfl,?_⟩
 have HS2:=Lib.hid (HS1.out.below hb')
 have HB2_g:=Lib.hid (blk_below HB1_g.out hb')
 replace C_g:=cells_k08 HB2_g.out
 rw [H5.out]
 clear hb'
 refine hK.out _ _ C_g ?_;clear hK K hHeld;intro hHeld
 try simp only [Act.put,zq1,zq2,zq3]
 refine ch_s ?_
 refine ch_z ?_
 clear hHeld
 go_wp2
 refine ch_b C_g C_g [0,1,2,3,4,5,6,7,8,9] (fun W3 HWd hHeld=>?_)
 have HS3:=dwS HWd HS2
 have HB3_g:=dwH HWd HB2_g
 replace C_g:=cells_k08 HB3_g.out
 clear HWd
 iterate 8 refine ch_s ?_
 refine ch_1 fun K hK=>?_
 refine goes_s Try.func34 #[(cA c AP cP AL cL),.int .i64 v] ?_
 refine (avail_c HC.out (HP.out.fr HS3.out.fr) (HLi.out.fr HS3.out.fr) (v:=v) (by omega)).mono ?_
 rintro e W4 ⟨rfl,hb'⟩
 refine ⟨_,rfl,?_⟩
 have HS4:=Lib.hid (HS3.out.below hb')
 have HB4_g:=Lib.hid (blk_below HB3_g.out hb')
 replace C_g:=cells_k08 HB4_g.out
 rw [H6.out]
 clear hb'
 refine hK.out _ _ C_g ?_;clear hK K hHeld;intro hHeld
 try simp only [Act.put,zq1,zq2,zq3]
 refine ch_s ?_
 refine ch_z ?_
 clear hHeld
 go_wp2
 generalize hWd:(World.setCell W4 ⟨g,11,none⟩ (.int .i64 0)) = W5 at ⊢
 have HWd:=Lib.hid hWd
 clear hWd
 have HS5:Hid (St B L T w gm ws n W5):=Lib.hid (by rw [← HWd.out];exact (HSG_g.out _ _ _ HS4.out 11 (.int .i64 0)))
 have HB5_g:Hid (W5.heap[g]? = some (.cells (k08 c AP cP AL cL v n0 s 0 l a e o0 o1 o2 o3) 115 (0,0))):=Lib.hid (by rw [← HWd.out];exact (blk_set' HB4_g.out 11 (.int .i64 0) rfl))
 replace C_g:=cells_k08 HB5_g.out
 clear HWd
 refine ch_d C_g C_g [15] [0,1,2,3,4,5,6,7,8,9,10,11,12,13,14,15] (fun W6 HWd hHeld=>?_)
 have HS6:=dwS HWd HS5
 have HB6_g:=dwH HWd HB5_g
 replace C_g:=cells_k08 HB6_g.out
 clear HWd
 iterate 15 refine ch_s ?_
 refine ch_last rfl rfl (by kernel_rfl) (by decide) (fun K hK=>?_)
 refine goes_s Try.func72 #[.pointer (some ⟨gm,0,none⟩),.int .i64 p5,.int .i64 l,.int .i64 z1] ?_
 refine (cas_yes_z HS6.out.mem hn HLe.out p5 H5l.out l z1 _ rfl HQ.out).mono ?_
 rintro e W7 ⟨rfl,hm',hf'⟩
 refine ⟨_,rfl,?_⟩
 have HS7:=Lib.hid (HS6.out.acc hm' hf' HT.out)
 have HB7_g:=Lib.hid (blk_fr HB6_g.out hf' (by simp) (by decide))
 replace C_g:=cells_k08 HB7_g.out
 clear hm' hf'
 refine hK.out _ _ ?_
 clear hK K
 try simp only [Act.put,zq1,zq2,zq3]
 refine ch_z ?_
 clear hHeld
 go_wp2
 go_ret
 exact ⟨true,⟨n0,9,l,a,e,o0,o1,o2,o3⟩,(ws.set p5 z1),_,rfl,⟨AP,cP,AL,cL,(blk_set' HB7_g.out 11 (.int .i64 9) rfl),HP.out.fr (HSG_g.out _ _ _ HS7.out 11 (.int .i64 9)).fr,HLi.out.fr (HSG_g.out _ _ _ HS7.out 11 (.int .i64 9)).fr⟩,by unfold A08;simp,(HSG_g.out _ _ _ HS7.out 11 (.int .i64 9)).mem,HT5.out z1,by omega,Nat.le_refl _,HLL.out ▸ (HSG_g.out _ _ _ HS7.out 11 (.int .i64 9)).fr⟩
theorem step08_1_no {c:Cf} (hc:c.Ok) {v s B gm g n:Nat} {w:World} {ws:List Int} (hv:v < c.N) (hs:s < c.S) (hm:MemIs B w gm ws n) (hw:WOk c ws) (hn:n ≤ 1000000) (hB:B ≤ g) {n0 l a e o0 o1 o3:Int} {o2:Bool} (hg:Is08 c v s w g ⟨n0,1,l,a,e,o0,o1,o2,o3⟩) (hq:wd ws (c.na v (2 + s)) ≠ l) :
  Calls Try.prog 58 #[.pointer (some ⟨g,0,none⟩),.pointer (some ⟨gm,0,none⟩)] w (P08 c v s B gm g ws n w):=by
 obtain ⟨AP,cP,AL,cL,hg,hP,hL⟩:=hg
 have HC:=Lib.hid hc
 have HW:=Lib.hid hw
 have HP:=Lib.hid hP
 have HLi:=Lib.hid hL
 have HLe:=Lib.hid (hw.le hc)
 have hS:=hc.Sle
 have hK:c.K = 6 + 2 * c.S:=rfl
 obtain ⟨p5,hp5⟩:∃ p,c.na v (2 + s) = p:=⟨_,rfl⟩
 obtain ⟨p6,hp6⟩:∃ p,c.na v 1 = p:=⟨_,rfl⟩
 have H5:=Lib.hid hp5
 have H6:=Lib.hid hp6
 have H5l:Hid (p5 < ws.length):=Lib.hid (by rw [← hp5];exact hw.lt hv (by omega))
 have H6l:Hid (p6 < ws.length):=Lib.hid (by rw [← hp6];exact hw.lt hv (by omega))
 have HT5:Hid (∀ x,WTo c ws (ws.set p5 x)):=Lib.hid (fun x=>by rw [← hp5];exact hw.set_node hv (by omega) (by omega) x)
 have HT6:Hid (∀ x,WTo c ws (ws.set p6 x)):=Lib.hid (fun x=>by rw [← hp6];exact hw.set_node hv (by omega) (by omega) x)
 have HB0_g:=Lib.hid hg
 obtain ⟨L,T,HLL,HTe,HT,HSG_g,HS0⟩:=st1 hm hB hg (by decide) (by decide)
 clear hc hw hg hm hP hL hS hK hp5 hp6
 rw [H5.out] at hq
 have HQ:=Lib.hid hq
 clear hq
 obtain ⟨z1,hz1⟩:∃ z,IntKind.i64.wrap (l - n0) = z:=⟨_,rfl⟩
 have hz1':wrap64 (l - n0) = z1:=by rw [← hz1,i64_w]
 have C_g:=cells_k08 HB0_g.out
 go_enter Try.func58,Try.ntmps58
 go_wp2
 refine ch_b C_g C_g [0,1,2,3,4,5,6,7,8,9,10,11,12,13] (fun W1 HWd hHeld=>?_)
 have HS1:=dwS HWd HS0
 have HB1_g:Hid (W1.heap[g]? = some (.cells (k08 c AP cP AL cL v n0 s 1 l a e o0 o1 o2 o3) 115 (0,0))):=Lib.hid (by rw [← HWd.out];exact HB0_g.out)
 replace C_g:=cells_k08 HB1_g.out
 clear HWd
 iterate 12 refine ch_s ?_
 refine ch_1 fun K hK=>?_
 refine goes_s Try.func79 #[(cA c AP cP AL cL),.int .i64 v,.int .i64 s] ?_
 refine (lease_c HC.out (HP.out.fr HS1.out.fr) (HLi.out.fr HS1.out.fr) (v:=v) (s:=s) (by omega) (by have:=HC.out.Sle;omega)).mono ?_
 rintro e W2 ⟨rfl,hb'⟩
 refine ⟨_,rfl,?_⟩
 have HS2:=Lib.hid (HS1.out.below hb')
 have HB2_g:=Lib.hid (blk_below HB1_g.out hb')
 replace C_g:=cells_k08 HB2_g.out
 rw [H5.out]
 clear hb'
 refine hK.out _ _ C_g ?_;clear hK K hHeld;intro hHeld
 try simp only [Act.put,zq1,zq2,zq3]
 refine ch_s ?_
 refine ch_z ?_
 clear hHeld
 go_wp2
 refine ch_b C_g C_g [0,1,2,3,4,5,6,7,8,9] (fun W3 HWd hHeld=>?_)
 have HS3:=dwS HWd HS2
 have HB3_g:=dwH HWd HB2_g
 replace C_g:=cells_k08 HB3_g.out
 clear HWd
 iterate 8 refine ch_s ?_
 refine ch_1 fun K hK=>?_
 refine goes_s Try.func34 #[(cA c AP cP AL cL),.int .i64 v] ?_
 refine (avail_c HC.out (HP.out.fr HS3.out.fr) (HLi.out.fr HS3.out.fr) (v:=v) (by omega)).mono ?_
 rintro e W4 ⟨rfl,hb'⟩
 refine ⟨_,rfl,?_⟩
 have HS4:=Lib.hid (HS3.out.below hb')
 have HB4_g:=Lib.hid (blk_below HB3_g.out hb')
 replace C_g:=cells_k08 HB4_g.out
 rw [H6.out]
 clear hb'
 refine hK.out _ _ C_g ?_;clear hK K hHeld;intro hHeld
 try simp only [Act.put,zq1,zq2,zq3]
 refine ch_s ?_
 refine ch_z ?_
 clear hHeld
 go_wp2
 generalize hWd:(World.setCell W4 ⟨g,11,none⟩ (.int .i64 0)) = W5 at ⊢
 have HWd:=Lib.hid hWd
 clear hWd
 have HS5:Hid (St B L T w gm ws n W5):=Lib.hid (by rw [← HWd.out];exact (HSG_g.out _ _ _ HS4.out 11 (.int .i64 0)))
 have HB5_g:Hid (W5.heap[g]? = some (.cells (k08 c AP cP AL cL v n0 s 0 l a e o0 o1 o2 o3) 115 (0,0))):=Lib.hid (by rw [← HWd.out];exact (blk_set' HB4_g.out 11 (.int .i64 0) rfl))
 replace C_g:=cells_k08 HB5_g.out
 clear HWd
 refine ch_d C_g C_g [15] [0,1,2,3,4,5,6,7,8,9,10,11,12,13,14,15] (fun W6 HWd hHeld=>?_)
 have HS6:=dwS HWd HS5
 have HB6_g:=dwH HWd HB5_g
 replace C_g:=cells_k08 HB6_g.out
 clear HWd
 iterate 15 refine ch_s ?_
 refine ch_last rfl rfl (by kernel_rfl) (by decide) (fun K hK=>?_)
 refine goes_s Try.func72 #[.pointer (some ⟨gm,0,none⟩),.int .i64 p5,.int .i64 l,.int .i64 z1] ?_
 refine (cas_no_z HS6.out.mem hn HLe.out p5 H5l.out l z1 _ rfl HQ.out).mono ?_
 rintro e W7 ⟨rfl,hm',hf'⟩
 refine ⟨_,rfl,?_⟩
 have HS7:=Lib.hid (HS6.out.acc hm' hf' HT.out)
 have HB7_g:=Lib.hid (blk_fr HB6_g.out hf' (by simp) (by decide))
 replace C_g:=cells_k08 HB7_g.out
 clear hm' hf'
 refine hK.out _ _ ?_
 clear hK K
 try simp only [Act.put,zq1,zq2,zq3]
 refine ch_z ?_
 clear hHeld
 go_wp2
 go_ret
 exact ⟨false,⟨n0,0,l,a,e,o0,o1,o2,o3⟩,ws,_,rfl,⟨AP,cP,AL,cL,HB7_g.out,HP.out.fr HS7.out.fr,HLi.out.fr HS7.out.fr⟩,by unfold A08;simp,HS7.out.mem,WTo.refl HW.out,by omega,Nat.le_refl _,HLL.out ▸ HS7.out.fr⟩
theorem step08_5_yes {c:Cf} (hc:c.Ok) {v s B gm g n:Nat} {w:World} {ws:List Int} (hv:v < c.N) (hs:s < c.S) (hm:MemIs B w gm ws n) (hw:WOk c ws) (hn:n ≤ 1000000) (hB:B ≤ g) {n0 l a e o0 o1 o3:Int} {o2:Bool} (hg:Is08 c v s w g ⟨n0,5,l,a,e,o0,o1,o2,o3⟩) (hq:wd ws (c.na v (2 + s)) = l) :
  Calls Try.prog 58 #[.pointer (some ⟨g,0,none⟩),.pointer (some ⟨gm,0,none⟩)] w (P08 c v s B gm g ws n w):=by
 obtain ⟨AP,cP,AL,cL,hg,hP,hL⟩:=hg
 have HC:=Lib.hid hc
 have HW:=Lib.hid hw
 have HP:=Lib.hid hP
 have HLi:=Lib.hid hL
 have HLe:=Lib.hid (hw.le hc)
 have hS:=hc.Sle
 have hK:c.K = 6 + 2 * c.S:=rfl
 obtain ⟨p5,hp5⟩:∃ p,c.na v (2 + s) = p:=⟨_,rfl⟩
 obtain ⟨p6,hp6⟩:∃ p,c.na v 1 = p:=⟨_,rfl⟩
 have H5:=Lib.hid hp5
 have H6:=Lib.hid hp6
 have H5l:Hid (p5 < ws.length):=Lib.hid (by rw [← hp5];exact hw.lt hv (by omega))
 have H6l:Hid (p6 < ws.length):=Lib.hid (by rw [← hp6];exact hw.lt hv (by omega))
 have HT5:Hid (∀ x,WTo c ws (ws.set p5 x)):=Lib.hid (fun x=>by rw [← hp5];exact hw.set_node hv (by omega) (by omega) x)
 have HT6:Hid (∀ x,WTo c ws (ws.set p6 x)):=Lib.hid (fun x=>by rw [← hp6];exact hw.set_node hv (by omega) (by omega) x)
 have HB0_g:=Lib.hid hg
 obtain ⟨L,T,HLL,HTe,HT,HSG_g,HS0⟩:=st1 hm hB hg (by decide) (by decide)
 clear hc hw hg hm hP hL hS hK hp5 hp6
 rw [H5.out] at hq
 have HQ:=Lib.hid hq
 clear hq
 obtain ⟨z1,hz1⟩:∃ z,IntKind.i64.wrap (l + e) = z:=⟨_,rfl⟩
 have hz1':wrap64 (l + e) = z1:=by rw [← hz1,i64_w]
 have C_g:=cells_k08 HB0_g.out
 go_enter Try.func58,Try.ntmps58
 go_wp2
 refine ch_b C_g C_g [0,1,2,3,4,5,6,7,8,9,10,11,12,13] (fun W1 HWd hHeld=>?_)
 have HS1:=dwS HWd HS0
 have HB1_g:Hid (W1.heap[g]? = some (.cells (k08 c AP cP AL cL v n0 s 5 l a e o0 o1 o2 o3) 115 (0,0))):=Lib.hid (by rw [← HWd.out];exact HB0_g.out)
 replace C_g:=cells_k08 HB1_g.out
 clear HWd
 iterate 12 refine ch_s ?_
 refine ch_1 fun K hK=>?_
 refine goes_s Try.func79 #[(cA c AP cP AL cL),.int .i64 v,.int .i64 s] ?_
 refine (lease_c HC.out (HP.out.fr HS1.out.fr) (HLi.out.fr HS1.out.fr) (v:=v) (s:=s) (by omega) (by have:=HC.out.Sle;omega)).mono ?_
 rintro e W2 ⟨rfl,hb'⟩
 refine ⟨_,rfl,?_⟩
 have HS2:=Lib.hid (HS1.out.below hb')
 have HB2_g:=Lib.hid (blk_below HB1_g.out hb')
 replace C_g:=cells_k08 HB2_g.out
 rw [H5.out]
 clear hb'
 refine hK.out _ _ C_g ?_;clear hK K hHeld;intro hHeld
 try simp only [Act.put,zq1,zq2,zq3]
 refine ch_s ?_
 refine ch_z ?_
 clear hHeld
 go_wp2
 refine ch_b C_g C_g [0,1,2,3,4,5,6,7,8,9] (fun W3 HWd hHeld=>?_)
 have HS3:=dwS HWd HS2
 have HB3_g:=dwH HWd HB2_g
 replace C_g:=cells_k08 HB3_g.out
 clear HWd
 iterate 8 refine ch_s ?_
 refine ch_1 fun K hK=>?_
 refine goes_s Try.func34 #[(cA c AP cP AL cL),.int .i64 v] ?_
 refine (avail_c HC.out (HP.out.fr HS3.out.fr) (HLi.out.fr HS3.out.fr) (v:=v) (by omega)).mono ?_
 rintro e W4 ⟨rfl,hb'⟩
 refine ⟨_,rfl,?_⟩
 have HS4:=Lib.hid (HS3.out.below hb')
 have HB4_g:=Lib.hid (blk_below HB3_g.out hb')
 replace C_g:=cells_k08 HB4_g.out
 rw [H6.out]
 clear hb'
 refine hK.out _ _ C_g ?_;clear hK K hHeld;intro hHeld
 try simp only [Act.put,zq1,zq2,zq3]
 refine ch_s ?_
 refine ch_z ?_
 clear hHeld
 go_wp2
 generalize hWd:(World.setCell W4 ⟨g,11,none⟩ (.int .i64 4)) = W5 at ⊢
 have HWd:=Lib.hid hWd
 clear hWd
 have HS5:Hid (St B L T w gm ws n W5):=Lib.hid (by rw [← HWd.out];exact (HSG_g.out _ _ _ HS4.out 11 (.int .i64 4)))
 have HB5_g:Hid (W5.heap[g]? = some (.cells (k08 c AP cP AL cL v n0 s 4 l a e o0 o1 o2 o3) 115 (0,0))):=Lib.hid (by rw [← HWd.out];exact (blk_set' HB4_g.out 11 (.int .i64 4) rfl))
 replace C_g:=cells_k08 HB5_g.out
 clear HWd
 refine ch_d C_g C_g [15] [0,1,2,3,4,5,6,7,8,9,10,11,12,13,14,15] (fun W6 HWd hHeld=>?_)
 have HS6:=dwS HWd HS5
 have HB6_g:=dwH HWd HB5_g
 replace C_g:=cells_k08 HB6_g.out
 clear HWd
 iterate 15 refine ch_s ?_
 refine ch_last rfl rfl (by kernel_rfl) (by decide) (fun K hK=>?_)
 refine goes_s Try.func72 #[.pointer (some ⟨gm,0,none⟩),.int .i64 p5,.int .i64 l,.int .i64 z1] ?_
 refine (cas_yes_z HS6.out.mem hn HLe.out p5 H5l.out l z1 _ rfl HQ.out).mono ?_
 rintro e W7 ⟨rfl,hm',hf'⟩
 refine ⟨_,rfl,?_⟩
 have HS7:=Lib.hid (HS6.out.acc hm' hf' HT.out)
 have HB7_g:=Lib.hid (blk_fr HB6_g.out hf' (by simp) (by decide))
 replace C_g:=cells_k08 HB7_g.out
 clear hm' hf'
 refine hK.out _ _ ?_
 clear hK K
 try simp only [Act.put,zq1,zq2,zq3]
 refine ch_z ?_
 clear hHeld
 go_wp2
 go_ret
 exact ⟨true,⟨n0,9,l,a,e,o0,o1,o2,o3⟩,(ws.set p5 z1),_,rfl,⟨AP,cP,AL,cL,(blk_set' HB7_g.out 11 (.int .i64 9) rfl),HP.out.fr (HSG_g.out _ _ _ HS7.out 11 (.int .i64 9)).fr,HLi.out.fr (HSG_g.out _ _ _ HS7.out 11 (.int .i64 9)).fr⟩,by unfold A08;simp,(HSG_g.out _ _ _ HS7.out 11 (.int .i64 9)).mem,HT5.out z1,by omega,Nat.le_refl _,HLL.out ▸ (HSG_g.out _ _ _ HS7.out 11 (.int .i64 9)).fr⟩
theorem step08_5_no {c:Cf} (hc:c.Ok) {v s B gm g n:Nat} {w:World} {ws:List Int} (hv:v < c.N) (hs:s < c.S) (hm:MemIs B w gm ws n) (hw:WOk c ws) (hn:n ≤ 1000000) (hB:B ≤ g) {n0 l a e o0 o1 o3:Int} {o2:Bool} (hg:Is08 c v s w g ⟨n0,5,l,a,e,o0,o1,o2,o3⟩) (hq:wd ws (c.na v (2 + s)) ≠ l) :
  Calls Try.prog 58 #[.pointer (some ⟨g,0,none⟩),.pointer (some ⟨gm,0,none⟩)] w (P08 c v s B gm g ws n w):=by
 obtain ⟨AP,cP,AL,cL,hg,hP,hL⟩:=hg
 have HC:=Lib.hid hc
 have HW:=Lib.hid hw
 have HP:=Lib.hid hP
 have HLi:=Lib.hid hL
 have HLe:=Lib.hid (hw.le hc)
 have hS:=hc.Sle
 have hK:c.K = 6 + 2 * c.S:=rfl
 obtain ⟨p5,hp5⟩:∃ p,c.na v (2 + s) = p:=⟨_,rfl⟩
 obtain ⟨p6,hp6⟩:∃ p,c.na v 1 = p:=⟨_,rfl⟩
 have H5:=Lib.hid hp5
 have H6:=Lib.hid hp6
 have H5l:Hid (p5 < ws.length):=Lib.hid (by rw [← hp5];exact hw.lt hv (by omega))
 have H6l:Hid (p6 < ws.length):=Lib.hid (by rw [← hp6];exact hw.lt hv (by omega))
 have HT5:Hid (∀ x,WTo c ws (ws.set p5 x)):=Lib.hid (fun x=>by rw [← hp5];exact hw.set_node hv (by omega) (by omega) x)
 have HT6:Hid (∀ x,WTo c ws (ws.set p6 x)):=Lib.hid (fun x=>by rw [← hp6];exact hw.set_node hv (by omega) (by omega) x)
 have HB0_g:=Lib.hid hg
 obtain ⟨L,T,HLL,HTe,HT,HSG_g,HS0⟩:=st1 hm hB hg (by decide) (by decide)
 clear hc hw hg hm hP hL hS hK hp5 hp6
 rw [H5.out] at hq
 have HQ:=Lib.hid hq
 clear hq
 obtain ⟨z1,hz1⟩:∃ z,IntKind.i64.wrap (l + e) = z:=⟨_,rfl⟩
 have hz1':wrap64 (l + e) = z1:=by rw [← hz1,i64_w]
 have C_g:=cells_k08 HB0_g.out
 go_enter Try.func58,Try.ntmps58
 go_wp2
 refine ch_b C_g C_g [0,1,2,3,4,5,6,7,8,9,10,11,12,13] (fun W1 HWd hHeld=>?_)
 have HS1:=dwS HWd HS0
 have HB1_g:Hid (W1.heap[g]? = some (.cells (k08 c AP cP AL cL v n0 s 5 l a e o0 o1 o2 o3) 115 (0,0))):=Lib.hid (by rw [← HWd.out];exact HB0_g.out)
 replace C_g:=cells_k08 HB1_g.out
 clear HWd
 iterate 12 refine ch_s ?_
 refine ch_1 fun K hK=>?_
 refine goes_s Try.func79 #[(cA c AP cP AL cL),.int .i64 v,.int .i64 s] ?_
 refine (lease_c HC.out (HP.out.fr HS1.out.fr) (HLi.out.fr HS1.out.fr) (v:=v) (s:=s) (by omega) (by have:=HC.out.Sle;omega)).mono ?_
 rintro e W2 ⟨rfl,hb'⟩
 refine ⟨_,rfl,?_⟩
 have HS2:=Lib.hid (HS1.out.below hb')
 have HB2_g:=Lib.hid (blk_below HB1_g.out hb')
 replace C_g:=cells_k08 HB2_g.out
 rw [H5.out]
 clear hb'
 refine hK.out _ _ C_g ?_;clear hK K hHeld;intro hHeld
 try simp only [Act.put,zq1,zq2,zq3]
 refine ch_s ?_
 refine ch_z ?_
 clear hHeld
 go_wp2
 refine ch_b C_g C_g [0,1,2,3,4,5,6,7,8,9] (fun W3 HWd hHeld=>?_)
 have HS3:=dwS HWd HS2
 have HB3_g:=dwH HWd HB2_g
 replace C_g:=cells_k08 HB3_g.out
 clear HWd
 iterate 8 refine ch_s ?_
 refine ch_1 fun K hK=>?_
 refine goes_s Try.func34 #[(cA c AP cP AL cL),.int .i64 v] ?_
 refine (avail_c HC.out (HP.out.fr HS3.out.fr) (HLi.out.fr HS3.out.fr) (v:=v) (by omega)).mono ?_
 rintro e W4 ⟨rfl,hb'⟩
 refine ⟨_,rfl,?_⟩
 have HS4:=Lib.hid (HS3.out.below hb')
 have HB4_g:=Lib.hid (blk_below HB3_g.out hb')
 replace C_g:=cells_k08 HB4_g.out
 rw [H6.out]
 clear hb'
 refine hK.out _ _ C_g ?_;clear hK K hHeld;intro hHeld
 try simp only [Act.put,zq1,zq2,zq3]
 refine ch_s ?_
 refine ch_z ?_
 clear hHeld
 go_wp2
 generalize hWd:(World.setCell W4 ⟨g,11,none⟩ (.int .i64 4)) = W5 at ⊢
 have HWd:=Lib.hid hWd
 clear hWd
 have HS5:Hid (St B L T w gm ws n W5):=Lib.hid (by rw [← HWd.out];exact (HSG_g.out _ _ _ HS4.out 11 (.int .i64 4)))
 have HB5_g:Hid (W5.heap[g]? = some (.cells (k08 c AP cP AL cL v n0 s 4 l a e o0 o1 o2 o3) 115 (0,0))):=Lib.hid (by rw [← HWd.out];exact (blk_set' HB4_g.out 11 (.int .i64 4) rfl))
 replace C_g:=cells_k08 HB5_g.out
 clear HWd
 refine ch_d C_g C_g [15] [0,1,2,3,4,5,6,7,8,9,10,11,12,13,14,15] (fun W6 HWd hHeld=>?_)
 have HS6:=dwS HWd HS5
 have HB6_g:=dwH HWd HB5_g
 replace C_g:=cells_k08 HB6_g.out
 clear HWd
 iterate 15 refine ch_s ?_
 refine ch_last rfl rfl (by kernel_rfl) (by decide) (fun K hK=>?_)
 refine goes_s Try.func72 #[.pointer (some ⟨gm,0,none⟩),.int .i64 p5,.int .i64 l,.int .i64 z1] ?_
 refine (cas_no_z HS6.out.mem hn HLe.out p5 H5l.out l z1 _ rfl HQ.out).mono ?_
 rintro e W7 ⟨rfl,hm',hf'⟩
 refine ⟨_,rfl,?_⟩
 have HS7:=Lib.hid (HS6.out.acc hm' hf' HT.out)
 have HB7_g:=Lib.hid (blk_fr HB6_g.out hf' (by simp) (by decide))
 replace C_g:=cells_k08 HB7_g.out
 clear hm' hf'
 refine hK.out _ _ ?_
 clear hK K
 try simp only [Act.put,zq1,zq2,zq3]
 refine ch_z ?_
 clear hHeld
 go_wp2
 go_ret
 exact ⟨false,⟨n0,4,l,a,e,o0,o1,o2,o3⟩,ws,_,rfl,⟨AP,cP,AL,cL,HB7_g.out,HP.out.fr HS7.out.fr,HLi.out.fr HS7.out.fr⟩,by unfold A08;simp,HS7.out.mem,WTo.refl HW.out,by omega,Nat.le_refl _,HLL.out ▸ HS7.out.fr⟩
theorem step08_2_yes_lt {c:Cf} (hc:c.Ok) {v s B gm g n:Nat} {w:World} {ws:List Int} (hv:v < c.N) (hs:s < c.S) (hm:MemIs B w gm ws n) (hw:WOk c ws) (hn:n ≤ 1000000) (hB:B ≤ g) {n0 l a e o0 o1 o3:Int} {o2:Bool} (hg:Is08 c v s w g ⟨n0,2,l,a,e,o0,o1,o2,o3⟩) (hq:wd ws (c.na v 1) < n0) (he:IntKind.i64.wrap (c.le.tdiv 2) < IntKind.i64.wrap (wd ws (c.na v 1) - n0)) :
  Calls Try.prog 58 #[.pointer (some ⟨g,0,none⟩),.pointer (some ⟨gm,0,none⟩)] w (P08 c v s B gm g ws n w):=by
 obtain ⟨AP,cP,AL,cL,hg,hP,hL⟩:=hg
 have HC:=Lib.hid hc
 have HW:=Lib.hid hw
 have HP:=Lib.hid hP
 have HLi:=Lib.hid hL
 have HLe:=Lib.hid (hw.le hc)
 have hS:=hc.Sle
 have hK:c.K = 6 + 2 * c.S:=rfl
 obtain ⟨p5,hp5⟩:∃ p,c.na v (2 + s) = p:=⟨_,rfl⟩
 obtain ⟨p6,hp6⟩:∃ p,c.na v 1 = p:=⟨_,rfl⟩
 have H5:=Lib.hid hp5
 have H6:=Lib.hid hp6
 have H5l:Hid (p5 < ws.length):=Lib.hid (by rw [← hp5];exact hw.lt hv (by omega))
 have H6l:Hid (p6 < ws.length):=Lib.hid (by rw [← hp6];exact hw.lt hv (by omega))
 have HT5:Hid (∀ x,WTo c ws (ws.set p5 x)):=Lib.hid (fun x=>by rw [← hp5];exact hw.set_node hv (by omega) (by omega) x)
 have HT6:Hid (∀ x,WTo c ws (ws.set p6 x)):=Lib.hid (fun x=>by rw [← hp6];exact hw.set_node hv (by omega) (by omega) x)
 have HB0_g:=Lib.hid hg
 obtain ⟨L,T,HLL,HTe,HT,HSG_g,HS0⟩:=st1 hm hB hg (by decide) (by decide)
 clear hc hw hg hm hP hL hS hK hp5 hp6
 obtain ⟨a1,ha1⟩:∃ z,wd ws p6 = z:=⟨_,rfl⟩
 have HA1:=Lib.hid ha1
 rw [H6.out,ha1] at hq he
 have d1:decide (a1 < n0) = true:=decide_eq_true (by omega)
 clear ha1 hq
 obtain ⟨z1,hz1⟩:∃ z,IntKind.i64.wrap (a1 - n0) = z:=⟨_,rfl⟩
 have hz1':wrap64 (a1 - n0) = z1:=by rw [← hz1,i64_w]
 obtain ⟨z2,hz2⟩:∃ z,IntKind.i64.wrap (c.le.tdiv 2) = z:=⟨_,rfl⟩
 have hz2':wrap64 (c.le.tdiv 2) = z2:=by rw [← hz2,i64_w]
 rw [hz1,hz2] at he
 have C_g:=cells_k08 HB0_g.out
 go_enter Try.func58,Try.ntmps58
 go_wp2
 refine ch_b C_g C_g [0,1,2,3,4,5,6,7,8,9,10,11,12,13] (fun W1 HWd hHeld=>?_)
 have HS1:=dwS HWd HS0
 have HB1_g:Hid (W1.heap[g]? = some (.cells (k08 c AP cP AL cL v n0 s 2 l a e o0 o1 o2 o3) 115 (0,0))):=Lib.hid (by rw [← HWd.out];exact HB0_g.out)
 replace C_g:=cells_k08 HB1_g.out
 clear HWd
 iterate 12 refine ch_s ?_
 refine ch_1 fun K hK=>?_
 refine goes_s Try.func79 #[(cA c AP cP AL cL),.int .i64 v,.int .i64 s] ?_
 refine (lease_c HC.out (HP.out.fr HS1.out.fr) (HLi.out.fr HS1.out.fr) (v:=v) (s:=s) (by omega) (by have:=HC.out.Sle;omega)).mono ?_
 rintro e W2 ⟨rfl,hb'⟩
 refine ⟨_,rfl,?_⟩
 have HS2:=Lib.hid (HS1.out.below hb')
 have HB2_g:=Lib.hid (blk_below HB1_g.out hb')
 replace C_g:=cells_k08 HB2_g.out
 rw [H5.out]
 clear hb'
 refine hK.out _ _ C_g ?_;clear hK K hHeld;intro hHeld
 try simp only [Act.put,zq1,zq2,zq3]
 refine ch_s ?_
 refine ch_z ?_
 clear hHeld
 go_wp2
 refine ch_b C_g C_g [0,1,2,3,4,5,6,7,8,9] (fun W3 HWd hHeld=>?_)
 have HS3:=dwS HWd HS2
 have HB3_g:=dwH HWd HB2_g
 replace C_g:=cells_k08 HB3_g.out
 clear HWd
 iterate 8 refine ch_s ?_
 refine ch_1 fun K hK=>?_
 refine goes_s Try.func34 #[(cA c AP cP AL cL),.int .i64 v] ?_
 refine (avail_c HC.out (HP.out.fr HS3.out.fr) (HLi.out.fr HS3.out.fr) (v:=v) (by omega)).mono ?_
 rintro e W4 ⟨rfl,hb'⟩
 refine ⟨_,rfl,?_⟩
 have HS4:=Lib.hid (HS3.out.below hb')
 have HB4_g:=Lib.hid (blk_below HB3_g.out hb')
 replace C_g:=cells_k08 HB4_g.out
 rw [H6.out]
 clear hb'
 refine hK.out _ _ C_g ?_;clear hK K hHeld;intro hHeld
 try simp only [Act.put,zq1,zq2,zq3]
 refine ch_s ?_
 refine ch_z ?_
 clear hHeld
 go_wp2_with (first|(go_at_call 68;(with_reducible refine ((load_z HS4.out.mem hn HLe.out p6 H6l.out _ rfl)).mono ?_);rintro e W5 ⟨rfl,hm',hf'⟩;have HS5:=Lib.hid (HS4.out.acc hm' hf' HT.out);have HB5_g:=Lib.hid (blk_fr HB4_g.out hf' (by simp) (by decide));replace C_g:=cells_k08 HB5_g.out;clear hm' hf';rw [HA1.out]))
 generalize hWd:(World.setCell (World.setCell W5 ⟨g,13,none⟩ (.int .i64 a1)) ⟨g,11,none⟩ (.int .i64 3)) = W6 at ⊢
 have HWd:=Lib.hid hWd
 clear hWd
 have HS6:Hid (St B L T w gm ws (n + 1) W6):=Lib.hid (by rw [← HWd.out];exact (HSG_g.out _ _ _ (HSG_g.out _ _ _ HS5.out 13 (.int .i64 a1)) 11 (.int .i64 3)))
 have HB6_g:Hid (W6.heap[g]? = some (.cells (k08 c AP cP AL cL v n0 s 3 l a1 e o0 o1 o2 o3) 115 (0,0))):=Lib.hid (by rw [← HWd.out];exact (blk_set' (blk_set' HB5_g.out 13 (.int .i64 a1) rfl) 11 (.int .i64 3) rfl))
 replace C_g:=cells_k08 HB6_g.out
 clear HWd
 refine ch_d C_g C_g [19] [0,1,2,3,4,5,6,7,8,9,10,11,12,13,14,15,16,17,18,19] (fun W7 HWd hHeld=>?_)
 have HS7:=dwS HWd HS6
 have HB7_g:=dwH HWd HB6_g
 replace C_g:=cells_k08 HB7_g.out
 clear HWd
 iterate 19 refine ch_s ?_
 refine ch_last rfl rfl (by kernel_rfl) (by decide) (fun K hK=>?_)
 refine skip_ (by rfl) rfl (by go_simp;first|rfl|exact ⟨rfl,rfl⟩) ?_
 refine hK.out _ _ ?_
 clear hK K
 try simp only [Act.put,zq1,zq2,zq3]
 refine ch_z ?_
 clear hHeld
 go_wp2
 generalize hWd:(World.setCell W7 ⟨g,14,none⟩ (.int .i64 z2)) = W8 at ⊢
 have HWd:=Lib.hid hWd
 clear hWd
 have HS8:Hid (St B L T w gm ws (n + 1) W8):=Lib.hid (by rw [← HWd.out];exact (HSG_g.out _ _ _ HS7.out 14 (.int .i64 z2)))
 have HB8_g:Hid (W8.heap[g]? = some (.cells (k08 c AP cP AL cL v n0 s 3 l a1 z2 o0 o1 o2 o3) 115 (0,0))):=Lib.hid (by rw [← HWd.out];exact (blk_set' HB7_g.out 14 (.int .i64 z2) rfl))
 replace C_g:=cells_k08 HB8_g.out
 clear HWd
 refine ch_b C_g C_g [0,1,2,3,4,5,6,7,8] (fun W9 HWd hHeld=>?_)
 have HS9:=dwS HWd HS8
 have HB9_g:=dwH HWd HB8_g
 replace C_g:=cells_k08 HB9_g.out
 clear HWd
 iterate 9 refine ch_s ?_
 refine ch_z ?_
 clear hHeld
 go_wp2
 go_ret
 exact ⟨true,⟨n0,9,l,a1,z2,4,0,false,v⟩,ws,_,rfl,⟨AP,cP,AL,cL,(blk_set' (blk_set' (blk_set' (blk_set' (blk_set' HB9_g.out 15 (.int .i64 4) rfl) 16 (.int .i64 0) rfl) 17 (.bool false) rfl) 18 (.int .i64 v) rfl) 11 (.int .i64 9) rfl),HP.out.fr (HSG_g.out _ _ _ (HSG_g.out _ _ _ (HSG_g.out _ _ _ (HSG_g.out _ _ _ (HSG_g.out _ _ _ HS9.out 15 (.int .i64 4)) 16 (.int .i64 0)) 17 (.bool false)) 18 (.int .i64 v)) 11 (.int .i64 9)).fr,HLi.out.fr (HSG_g.out _ _ _ (HSG_g.out _ _ _ (HSG_g.out _ _ _ (HSG_g.out _ _ _ (HSG_g.out _ _ _ HS9.out 15 (.int .i64 4)) 16 (.int .i64 0)) 17 (.bool false)) 18 (.int .i64 v)) 11 (.int .i64 9)).fr⟩,by unfold A08;simp,(HSG_g.out _ _ _ (HSG_g.out _ _ _ (HSG_g.out _ _ _ (HSG_g.out _ _ _ (HSG_g.out _ _ _ HS9.out 15 (.int .i64 4)) 16 (.int .i64 0)) 17 (.bool false)) 18 (.int .i64 v)) 11 (.int .i64 9)).mem,WTo.refl HW.out,by omega,Nat.le_refl _,HLL.out ▸ (HSG_g.out _ _ _ (HSG_g.out _ _ _ (HSG_g.out _ _ _ (HSG_g.out _ _ _ (HSG_g.out _ _ _ HS9.out 15 (.int .i64 4)) 16 (.int .i64 0)) 17 (.bool false)) 18 (.int .i64 v)) 11 (.int .i64 9)).fr⟩
theorem step08_2_yes_ge {c:Cf} (hc:c.Ok) {v s B gm g n:Nat} {w:World} {ws:List Int} (hv:v < c.N) (hs:s < c.S) (hm:MemIs B w gm ws n) (hw:WOk c ws) (hn:n ≤ 1000000) (hB:B ≤ g) {n0 l a e o0 o1 o3:Int} {o2:Bool} (hg:Is08 c v s w g ⟨n0,2,l,a,e,o0,o1,o2,o3⟩) (hq:wd ws (c.na v 1) < n0) (he:¬ IntKind.i64.wrap (c.le.tdiv 2) < IntKind.i64.wrap (wd ws (c.na v 1) - n0)) :
  Calls Try.prog 58 #[.pointer (some ⟨g,0,none⟩),.pointer (some ⟨gm,0,none⟩)] w (P08 c v s B gm g ws n w):=by
 obtain ⟨AP,cP,AL,cL,hg,hP,hL⟩:=hg
 have HC:=Lib.hid hc
 have HW:=Lib.hid hw
 have HP:=Lib.hid hP
 have HLi:=Lib.hid hL
 have HLe:=Lib.hid (hw.le hc)
 have hS:=hc.Sle
 have hK:c.K = 6 + 2 * c.S:=rfl
 obtain ⟨p5,hp5⟩:∃ p,c.na v (2 + s) = p:=⟨_,rfl⟩
 obtain ⟨p6,hp6⟩:∃ p,c.na v 1 = p:=⟨_,rfl⟩
 have H5:=Lib.hid hp5
 have H6:=Lib.hid hp6
 have H5l:Hid (p5 < ws.length):=Lib.hid (by rw [← hp5];exact hw.lt hv (by omega))
 have H6l:Hid (p6 < ws.length):=Lib.hid (by rw [← hp6];exact hw.lt hv (by omega))
 have HT5:Hid (∀ x,WTo c ws (ws.set p5 x)):=Lib.hid (fun x=>by rw [← hp5];exact hw.set_node hv (by omega) (by omega) x)
 have HT6:Hid (∀ x,WTo c ws (ws.set p6 x)):=Lib.hid (fun x=>by rw [← hp6];exact hw.set_node hv (by omega) (by omega) x)
 have HB0_g:=Lib.hid hg
 obtain ⟨L,T,HLL,HTe,HT,HSG_g,HS0⟩:=st1 hm hB hg (by decide) (by decide)
 clear hc hw hg hm hP hL hS hK hp5 hp6
 obtain ⟨a1,ha1⟩:∃ z,wd ws p6 = z:=⟨_,rfl⟩
 have HA1:=Lib.hid ha1
 rw [H6.out,ha1] at hq he
 have d1:decide (a1 < n0) = true:=decide_eq_true (by omega)
 clear ha1 hq
 obtain ⟨z1,hz1⟩:∃ z,IntKind.i64.wrap (a1 - n0) = z:=⟨_,rfl⟩
 have hz1':wrap64 (a1 - n0) = z1:=by rw [← hz1,i64_w]
 obtain ⟨z2,hz2⟩:∃ z,IntKind.i64.wrap (c.le.tdiv 2) = z:=⟨_,rfl⟩
 have hz2':wrap64 (c.le.tdiv 2) = z2:=by rw [← hz2,i64_w]
 rw [hz1,hz2] at he
 have C_g:=cells_k08 HB0_g.out
 go_enter Try.func58,Try.ntmps58
 go_wp2
 refine ch_b C_g C_g [0,1,2,3,4,5,6,7,8,9,10,11,12,13] (fun W1 HWd hHeld=>?_)
 have HS1:=dwS HWd HS0
 have HB1_g:Hid (W1.heap[g]? = some (.cells (k08 c AP cP AL cL v n0 s 2 l a e o0 o1 o2 o3) 115 (0,0))):=Lib.hid (by rw [← HWd.out];exact HB0_g.out)
 replace C_g:=cells_k08 HB1_g.out
 clear HWd
 iterate 12 refine ch_s ?_
 refine ch_1 fun K hK=>?_
 refine goes_s Try.func79 #[(cA c AP cP AL cL),.int .i64 v,.int .i64 s] ?_
 refine (lease_c HC.out (HP.out.fr HS1.out.fr) (HLi.out.fr HS1.out.fr) (v:=v) (s:=s) (by omega) (by have:=HC.out.Sle;omega)).mono ?_
 rintro e W2 ⟨rfl,hb'⟩
 refine ⟨_,rfl,?_⟩
 have HS2:=Lib.hid (HS1.out.below hb')
 have HB2_g:=Lib.hid (blk_below HB1_g.out hb')
 replace C_g:=cells_k08 HB2_g.out
 rw [H5.out]
 clear hb'
 refine hK.out _ _ C_g ?_;clear hK K hHeld;intro hHeld
 try simp only [Act.put,zq1,zq2,zq3]
 refine ch_s ?_
 refine ch_z ?_
 clear hHeld
 go_wp2
 refine ch_b C_g C_g [0,1,2,3,4,5,6,7,8,9] (fun W3 HWd hHeld=>?_)
 have HS3:=dwS HWd HS2
 have HB3_g:=dwH HWd HB2_g
 replace C_g:=cells_k08 HB3_g.out
 clear HWd
 iterate 8 refine ch_s ?_
 refine ch_1 fun K hK=>?_
 refine goes_s Try.func34 #[(cA c AP cP AL cL),.int .i64 v] ?_
 refine (avail_c HC.out (HP.out.fr HS3.out.fr) (HLi.out.fr HS3.out.fr) (v:=v) (by omega)).mono ?_
 rintro e W4 ⟨rfl,hb'⟩
 refine ⟨_,rfl,?_⟩
 have HS4:=Lib.hid (HS3.out.below hb')
 have HB4_g:=Lib.hid (blk_below HB3_g.out hb')
 replace C_g:=cells_k08 HB4_g.out
 rw [H6.out]
 clear hb'
 refine hK.out _ _ C_g ?_;clear hK K hHeld;intro hHeld
 try simp only [Act.put,zq1,zq2,zq3]
 refine ch_s ?_
 refine ch_z ?_
 clear hHeld
 go_wp2_with (first|(go_at_call 68;(with_reducible refine ((load_z HS4.out.mem hn HLe.out p6 H6l.out _ rfl)).mono ?_);rintro e W5 ⟨rfl,hm',hf'⟩;have HS5:=Lib.hid (HS4.out.acc hm' hf' HT.out);have HB5_g:=Lib.hid (blk_fr HB4_g.out hf' (by simp) (by decide));replace C_g:=cells_k08 HB5_g.out;clear hm' hf';rw [HA1.out]))
 generalize hWd:(World.setCell (World.setCell W5 ⟨g,13,none⟩ (.int .i64 a1)) ⟨g,11,none⟩ (.int .i64 3)) = W6 at ⊢
 have HWd:=Lib.hid hWd
 clear hWd
 have HS6:Hid (St B L T w gm ws (n + 1) W6):=Lib.hid (by rw [← HWd.out];exact (HSG_g.out _ _ _ (HSG_g.out _ _ _ HS5.out 13 (.int .i64 a1)) 11 (.int .i64 3)))
 have HB6_g:Hid (W6.heap[g]? = some (.cells (k08 c AP cP AL cL v n0 s 3 l a1 e o0 o1 o2 o3) 115 (0,0))):=Lib.hid (by rw [← HWd.out];exact (blk_set' (blk_set' HB5_g.out 13 (.int .i64 a1) rfl) 11 (.int .i64 3) rfl))
 replace C_g:=cells_k08 HB6_g.out
 clear HWd
 refine ch_d C_g C_g [19] [0,1,2,3,4,5,6,7,8,9,10,11,12,13,14,15,16,17,18,19] (fun W7 HWd hHeld=>?_)
 have HS7:=dwS HWd HS6
 have HB7_g:=dwH HWd HB6_g
 replace C_g:=cells_k08 HB7_g.out
 clear HWd
 iterate 19 refine ch_s ?_
 refine ch_last rfl rfl (by kernel_rfl) (by decide) (fun K hK=>?_)
 refine skip_ (by rfl) rfl (by go_simp;first|rfl|exact ⟨rfl,rfl⟩) ?_
 refine hK.out _ _ ?_
 clear hK K
 try simp only [Act.put,zq1,zq2,zq3]
 refine ch_z ?_
 clear hHeld
 go_wp2
 generalize hWd:(World.setCell W7 ⟨g,14,none⟩ (.int .i64 z1)) = W8 at ⊢
 have HWd:=Lib.hid hWd
 clear hWd
 have HS8:Hid (St B L T w gm ws (n + 1) W8):=Lib.hid (by rw [← HWd.out];exact (HSG_g.out _ _ _ HS7.out 14 (.int .i64 z1)))
 have HB8_g:Hid (W8.heap[g]? = some (.cells (k08 c AP cP AL cL v n0 s 3 l a1 z1 o0 o1 o2 o3) 115 (0,0))):=Lib.hid (by rw [← HWd.out];exact (blk_set' HB7_g.out 14 (.int .i64 z1) rfl))
 replace C_g:=cells_k08 HB8_g.out
 clear HWd
 refine ch_b C_g C_g [0,1,2,3,4,5,6,7,8] (fun W9 HWd hHeld=>?_)
 have HS9:=dwS HWd HS8
 have HB9_g:=dwH HWd HB8_g
 replace C_g:=cells_k08 HB9_g.out
 clear HWd
 iterate 9 refine ch_s ?_
 refine ch_z ?_
 clear hHeld
 go_wp2
 go_ret
 exact ⟨true,⟨n0,9,l,a1,z1,4,0,false,v⟩,ws,_,rfl,⟨AP,cP,AL,cL,(blk_set' (blk_set' (blk_set' (blk_set' (blk_set' HB9_g.out 15 (.int .i64 4) rfl) 16 (.int .i64 0) rfl) 17 (.bool false) rfl) 18 (.int .i64 v) rfl) 11 (.int .i64 9) rfl),HP.out.fr (HSG_g.out _ _ _ (HSG_g.out _ _ _ (HSG_g.out _ _ _ (HSG_g.out _ _ _ (HSG_g.out _ _ _ HS9.out 15 (.int .i64 4)) 16 (.int .i64 0)) 17 (.bool false)) 18 (.int .i64 v)) 11 (.int .i64 9)).fr,HLi.out.fr (HSG_g.out _ _ _ (HSG_g.out _ _ _ (HSG_g.out _ _ _ (HSG_g.out _ _ _ (HSG_g.out _ _ _ HS9.out 15 (.int .i64 4)) 16 (.int .i64 0)) 17 (.bool false)) 18 (.int .i64 v)) 11 (.int .i64 9)).fr⟩,by unfold A08;simp,(HSG_g.out _ _ _ (HSG_g.out _ _ _ (HSG_g.out _ _ _ (HSG_g.out _ _ _ (HSG_g.out _ _ _ HS9.out 15 (.int .i64 4)) 16 (.int .i64 0)) 17 (.bool false)) 18 (.int .i64 v)) 11 (.int .i64 9)).mem,WTo.refl HW.out,by omega,Nat.le_refl _,HLL.out ▸ (HSG_g.out _ _ _ (HSG_g.out _ _ _ (HSG_g.out _ _ _ (HSG_g.out _ _ _ (HSG_g.out _ _ _ HS9.out 15 (.int .i64 4)) 16 (.int .i64 0)) 17 (.bool false)) 18 (.int .i64 v)) 11 (.int .i64 9)).fr⟩
theorem step08_2_no_lt {c:Cf} (hc:c.Ok) {v s B gm g n:Nat} {w:World} {ws:List Int} (hv:v < c.N) (hs:s < c.S) (hm:MemIs B w gm ws n) (hw:WOk c ws) (hn:n ≤ 1000000) (hB:B ≤ g) {n0 l a e o0 o1 o3:Int} {o2:Bool} (hg:Is08 c v s w g ⟨n0,2,l,a,e,o0,o1,o2,o3⟩) (hq:n0 ≤ wd ws (c.na v 1)) (he:IntKind.i64.wrap (c.le.tdiv 2) < IntKind.i64.wrap (wd ws (c.na v 1) - n0)) :
  Calls Try.prog 58 #[.pointer (some ⟨g,0,none⟩),.pointer (some ⟨gm,0,none⟩)] w (P08 c v s B gm g ws n w):=by
 obtain ⟨AP,cP,AL,cL,hg,hP,hL⟩:=hg
 have HC:=Lib.hid hc
 have HW:=Lib.hid hw
 have HP:=Lib.hid hP
 have HLi:=Lib.hid hL
 have HLe:=Lib.hid (hw.le hc)
 have hS:=hc.Sle
 have hK:c.K = 6 + 2 * c.S:=rfl
 obtain ⟨p5,hp5⟩:∃ p,c.na v (2 + s) = p:=⟨_,rfl⟩
 obtain ⟨p6,hp6⟩:∃ p,c.na v 1 = p:=⟨_,rfl⟩
 have H5:=Lib.hid hp5
 have H6:=Lib.hid hp6
 have H5l:Hid (p5 < ws.length):=Lib.hid (by rw [← hp5];exact hw.lt hv (by omega))
 have H6l:Hid (p6 < ws.length):=Lib.hid (by rw [← hp6];exact hw.lt hv (by omega))
 have HT5:Hid (∀ x,WTo c ws (ws.set p5 x)):=Lib.hid (fun x=>by rw [← hp5];exact hw.set_node hv (by omega) (by omega) x)
 have HT6:Hid (∀ x,WTo c ws (ws.set p6 x)):=Lib.hid (fun x=>by rw [← hp6];exact hw.set_node hv (by omega) (by omega) x)
 have HB0_g:=Lib.hid hg
 obtain ⟨L,T,HLL,HTe,HT,HSG_g,HS0⟩:=st1 hm hB hg (by decide) (by decide)
 clear hc hw hg hm hP hL hS hK hp5 hp6
 obtain ⟨a1,ha1⟩:∃ z,wd ws p6 = z:=⟨_,rfl⟩
 have HA1:=Lib.hid ha1
 rw [H6.out,ha1] at hq he
 have d1:decide (a1 < n0) = false:=decide_eq_false (by omega)
 clear ha1 hq
 obtain ⟨z1,hz1⟩:∃ z,IntKind.i64.wrap (a1 - n0) = z:=⟨_,rfl⟩
 have hz1':wrap64 (a1 - n0) = z1:=by rw [← hz1,i64_w]
 obtain ⟨z2,hz2⟩:∃ z,IntKind.i64.wrap (c.le.tdiv 2) = z:=⟨_,rfl⟩
 have hz2':wrap64 (c.le.tdiv 2) = z2:=by rw [← hz2,i64_w]
 rw [hz1,hz2] at he
 have C_g:=cells_k08 HB0_g.out
 go_enter Try.func58,Try.ntmps58
 go_wp2
 refine ch_b C_g C_g [0,1,2,3,4,5,6,7,8,9,10,11,12,13] (fun W1 HWd hHeld=>?_)
 have HS1:=dwS HWd HS0
 have HB1_g:Hid (W1.heap[g]? = some (.cells (k08 c AP cP AL cL v n0 s 2 l a e o0 o1 o2 o3) 115 (0,0))):=Lib.hid (by rw [← HWd.out];exact HB0_g.out)
 replace C_g:=cells_k08 HB1_g.out
 clear HWd
 iterate 12 refine ch_s ?_
 refine ch_1 fun K hK=>?_
 refine goes_s Try.func79 #[(cA c AP cP AL cL),.int .i64 v,.int .i64 s] ?_
 refine (lease_c HC.out (HP.out.fr HS1.out.fr) (HLi.out.fr HS1.out.fr) (v:=v) (s:=s) (by omega) (by have:=HC.out.Sle;omega)).mono ?_
 rintro e W2 ⟨rfl,hb'⟩
 refine ⟨_,rfl,?_⟩
 have HS2:=Lib.hid (HS1.out.below hb')
 have HB2_g:=Lib.hid (blk_below HB1_g.out hb')
 replace C_g:=cells_k08 HB2_g.out
 rw [H5.out]
 clear hb'
 refine hK.out _ _ C_g ?_;clear hK K hHeld;intro hHeld
 try simp only [Act.put,zq1,zq2,zq3]
 refine ch_s ?_
 refine ch_z ?_
 clear hHeld
 go_wp2
 refine ch_b C_g C_g [0,1,2,3,4,5,6,7,8,9] (fun W3 HWd hHeld=>?_)
 have HS3:=dwS HWd HS2
 have HB3_g:=dwH HWd HB2_g
 replace C_g:=cells_k08 HB3_g.out
 clear HWd
 iterate 8 refine ch_s ?_
 refine ch_1 fun K hK=>?_
 refine goes_s Try.func34 #[(cA c AP cP AL cL),.int .i64 v] ?_
 refine (avail_c HC.out (HP.out.fr HS3.out.fr) (HLi.out.fr HS3.out.fr) (v:=v) (by omega)).mono ?_
 rintro e W4 ⟨rfl,hb'⟩
 refine ⟨_,rfl,?_⟩
 have HS4:=Lib.hid (HS3.out.below hb')
 have HB4_g:=Lib.hid (blk_below HB3_g.out hb')
 replace C_g:=cells_k08 HB4_g.out
 rw [H6.out]
 clear hb'
 refine hK.out _ _ C_g ?_;clear hK K hHeld;intro hHeld
 try simp only [Act.put,zq1,zq2,zq3]
 refine ch_s ?_
 refine ch_z ?_
 clear hHeld
 go_wp2_with (first|(go_at_call 68;(with_reducible refine ((load_z HS4.out.mem hn HLe.out p6 H6l.out _ rfl)).mono ?_);rintro e W5 ⟨rfl,hm',hf'⟩;have HS5:=Lib.hid (HS4.out.acc hm' hf' HT.out);have HB5_g:=Lib.hid (blk_fr HB4_g.out hf' (by simp) (by decide));replace C_g:=cells_k08 HB5_g.out;clear hm' hf';rw [HA1.out]))
 generalize hWd:(World.setCell (World.setCell W5 ⟨g,13,none⟩ (.int .i64 a1)) ⟨g,11,none⟩ (.int .i64 3)) = W6 at ⊢
 have HWd:=Lib.hid hWd
 clear hWd
 have HS6:Hid (St B L T w gm ws (n + 1) W6):=Lib.hid (by rw [← HWd.out];exact (HSG_g.out _ _ _ (HSG_g.out _ _ _ HS5.out 13 (.int .i64 a1)) 11 (.int .i64 3)))
 have HB6_g:Hid (W6.heap[g]? = some (.cells (k08 c AP cP AL cL v n0 s 3 l a1 e o0 o1 o2 o3) 115 (0,0))):=Lib.hid (by rw [← HWd.out];exact (blk_set' (blk_set' HB5_g.out 13 (.int .i64 a1) rfl) 11 (.int .i64 3) rfl))
 replace C_g:=cells_k08 HB6_g.out
 clear HWd
 refine ch_d C_g C_g [19] [0,1,2,3,4,5,6,7,8,9,10,11,12,13,14,15,16,17,18,19] (fun W7 HWd hHeld=>?_)
 have HS7:=dwS HWd HS6
 have HB7_g:=dwH HWd HB6_g
 replace C_g:=cells_k08 HB7_g.out
 clear HWd
 iterate 19 refine ch_s ?_
 refine ch_last rfl rfl (by kernel_rfl) (by decide) (fun K hK=>?_)
 refine skip_ (by rfl) rfl (by go_simp;first|rfl|exact ⟨rfl,rfl⟩) ?_
 refine hK.out _ _ ?_
 clear hK K
 try simp only [Act.put,zq1,zq2,zq3]
 refine ch_z ?_
 clear hHeld
 go_wp2
 generalize hWd:(World.setCell W7 ⟨g,14,none⟩ (.int .i64 z2)) = W8 at ⊢
 have HWd:=Lib.hid hWd
 clear hWd
 have HS8:Hid (St B L T w gm ws (n + 1) W8):=Lib.hid (by rw [← HWd.out];exact (HSG_g.out _ _ _ HS7.out 14 (.int .i64 z2)))
 have HB8_g:Hid (W8.heap[g]? = some (.cells (k08 c AP cP AL cL v n0 s 3 l a1 z2 o0 o1 o2 o3) 115 (0,0))):=Lib.hid (by rw [← HWd.out];exact (blk_set' HB7_g.out 14 (.int .i64 z2) rfl))
 replace C_g:=cells_k08 HB8_g.out
 clear HWd
 refine ch_b C_g C_g [0,1,2,3,4,5,6,7,8] (fun W9 HWd hHeld=>?_)
 have HS9:=dwS HWd HS8
 have HB9_g:=dwH HWd HB8_g
 replace C_g:=cells_k08 HB9_g.out
 clear HWd
 iterate 9 refine ch_s ?_
 refine ch_z ?_
 clear hHeld
 go_wp2
 go_ret
 exact ⟨false,⟨n0,3,l,a1,z2,o0,o1,o2,o3⟩,ws,_,rfl,⟨AP,cP,AL,cL,HB9_g.out,HP.out.fr HS9.out.fr,HLi.out.fr HS9.out.fr⟩,by unfold A08;simp,HS9.out.mem,WTo.refl HW.out,by omega,Nat.le_refl _,HLL.out ▸ HS9.out.fr⟩
theorem step08_2_no_ge {c:Cf} (hc:c.Ok) {v s B gm g n:Nat} {w:World} {ws:List Int} (hv:v < c.N) (hs:s < c.S) (hm:MemIs B w gm ws n) (hw:WOk c ws) (hn:n ≤ 1000000) (hB:B ≤ g) {n0 l a e o0 o1 o3:Int} {o2:Bool} (hg:Is08 c v s w g ⟨n0,2,l,a,e,o0,o1,o2,o3⟩) (hq:n0 ≤ wd ws (c.na v 1)) (he:¬ IntKind.i64.wrap (c.le.tdiv 2) < IntKind.i64.wrap (wd ws (c.na v 1) - n0)) :
  Calls Try.prog 58 #[.pointer (some ⟨g,0,none⟩),.pointer (some ⟨gm,0,none⟩)] w (P08 c v s B gm g ws n w):=by
 obtain ⟨AP,cP,AL,cL,hg,hP,hL⟩:=hg
 have HC:=Lib.hid hc
 have HW:=Lib.hid hw
 have HP:=Lib.hid hP
 have HLi:=Lib.hid hL
 have HLe:=Lib.hid (hw.le hc)
 have hS:=hc.Sle
 have hK:c.K = 6 + 2 * c.S:=rfl
 obtain ⟨p5,hp5⟩:∃ p,c.na v (2 + s) = p:=⟨_,rfl⟩
 obtain ⟨p6,hp6⟩:∃ p,c.na v 1 = p:=⟨_,rfl⟩
 have H5:=Lib.hid hp5
 have H6:=Lib.hid hp6
 have H5l:Hid (p5 < ws.length):=Lib.hid (by rw [← hp5];exact hw.lt hv (by omega))
 have H6l:Hid (p6 < ws.length):=Lib.hid (by rw [← hp6];exact hw.lt hv (by omega))
 have HT5:Hid (∀ x,WTo c ws (ws.set p5 x)):=Lib.hid (fun x=>by rw [← hp5];exact hw.set_node hv (by omega) (by omega) x)
 have HT6:Hid (∀ x,WTo c ws (ws.set p6 x)):=Lib.hid (fun x=>by rw [← hp6];exact hw.set_node hv (by omega) (by omega) x)
 have HB0_g:=Lib.hid hg
 obtain ⟨L,T,HLL,HTe,HT,HSG_g,HS0⟩:=st1 hm hB hg (by decide) (by decide)
 clear hc hw hg hm hP hL hS hK hp5 hp6
 obtain ⟨a1,ha1⟩:∃ z,wd ws p6 = z:=⟨_,rfl⟩
 have HA1:=Lib.hid ha1
 rw [H6.out,ha1] at hq he
 have d1:decide (a1 < n0) = false:=decide_eq_false (by omega)
 clear ha1 hq
 obtain ⟨z1,hz1⟩:∃ z,IntKind.i64.wrap (a1 - n0) = z:=⟨_,rfl⟩
 have hz1':wrap64 (a1 - n0) = z1:=by rw [← hz1,i64_w]
 obtain ⟨z2,hz2⟩:∃ z,IntKind.i64.wrap (c.le.tdiv 2) = z:=⟨_,rfl⟩
 have hz2':wrap64 (c.le.tdiv 2) = z2:=by rw [← hz2,i64_w]
 rw [hz1,hz2] at he
 have C_g:=cells_k08 HB0_g.out
 go_enter Try.func58,Try.ntmps58
 go_wp2
 refine ch_b C_g C_g [0,1,2,3,4,5,6,7,8,9,10,11,12,13] (fun W1 HWd hHeld=>?_)
 have HS1:=dwS HWd HS0
 have HB1_g:Hid (W1.heap[g]? = some (.cells (k08 c AP cP AL cL v n0 s 2 l a e o0 o1 o2 o3) 115 (0,0))):=Lib.hid (by rw [← HWd.out];exact HB0_g.out)
 replace C_g:=cells_k08 HB1_g.out
 clear HWd
 iterate 12 refine ch_s ?_
 refine ch_1 fun K hK=>?_
 refine goes_s Try.func79 #[(cA c AP cP AL cL),.int .i64 v,.int .i64 s] ?_
 refine (lease_c HC.out (HP.out.fr HS1.out.fr) (HLi.out.fr HS1.out.fr) (v:=v) (s:=s) (by omega) (by have:=HC.out.Sle;omega)).mono ?_
 rintro e W2 ⟨rfl,hb'⟩
 refine ⟨_,rfl,?_⟩
 have HS2:=Lib.hid (HS1.out.below hb')
 have HB2_g:=Lib.hid (blk_below HB1_g.out hb')
 replace C_g:=cells_k08 HB2_g.out
 rw [H5.out]
 clear hb'
 refine hK.out _ _ C_g ?_;clear hK K hHeld;intro hHeld
 try simp only [Act.put,zq1,zq2,zq3]
 refine ch_s ?_
 refine ch_z ?_
 clear hHeld
 go_wp2
 refine ch_b C_g C_g [0,1,2,3,4,5,6,7,8,9] (fun W3 HWd hHeld=>?_)
 have HS3:=dwS HWd HS2
 have HB3_g:=dwH HWd HB2_g
 replace C_g:=cells_k08 HB3_g.out
 clear HWd
 iterate 8 refine ch_s ?_
 refine ch_1 fun K hK=>?_
 refine goes_s Try.func34 #[(cA c AP cP AL cL),.int .i64 v] ?_
 refine (avail_c HC.out (HP.out.fr HS3.out.fr) (HLi.out.fr HS3.out.fr) (v:=v) (by omega)).mono ?_
 rintro e W4 ⟨rfl,hb'⟩
 refine ⟨_,rfl,?_⟩
 have HS4:=Lib.hid (HS3.out.below hb')
 have HB4_g:=Lib.hid (blk_below HB3_g.out hb')
 replace C_g:=cells_k08 HB4_g.out
 rw [H6.out]
 clear hb'
 refine hK.out _ _ C_g ?_;clear hK K hHeld;intro hHeld
 try simp only [Act.put,zq1,zq2,zq3]
 refine ch_s ?_
 refine ch_z ?_
 clear hHeld
 go_wp2_with (first|(go_at_call 68;(with_reducible refine ((load_z HS4.out.mem hn HLe.out p6 H6l.out _ rfl)).mono ?_);rintro e W5 ⟨rfl,hm',hf'⟩;have HS5:=Lib.hid (HS4.out.acc hm' hf' HT.out);have HB5_g:=Lib.hid (blk_fr HB4_g.out hf' (by simp) (by decide));replace C_g:=cells_k08 HB5_g.out;clear hm' hf';rw [HA1.out]))
 generalize hWd:(World.setCell (World.setCell W5 ⟨g,13,none⟩ (.int .i64 a1)) ⟨g,11,none⟩ (.int .i64 3)) = W6 at ⊢
 have HWd:=Lib.hid hWd
 clear hWd
 have HS6:Hid (St B L T w gm ws (n + 1) W6):=Lib.hid (by rw [← HWd.out];exact (HSG_g.out _ _ _ (HSG_g.out _ _ _ HS5.out 13 (.int .i64 a1)) 11 (.int .i64 3)))
 have HB6_g:Hid (W6.heap[g]? = some (.cells (k08 c AP cP AL cL v n0 s 3 l a1 e o0 o1 o2 o3) 115 (0,0))):=Lib.hid (by rw [← HWd.out];exact (blk_set' (blk_set' HB5_g.out 13 (.int .i64 a1) rfl) 11 (.int .i64 3) rfl))
 replace C_g:=cells_k08 HB6_g.out
 clear HWd
 refine ch_d C_g C_g [19] [0,1,2,3,4,5,6,7,8,9,10,11,12,13,14,15,16,17,18,19] (fun W7 HWd hHeld=>?_)
 have HS7:=dwS HWd HS6
 have HB7_g:=dwH HWd HB6_g
 replace C_g:=cells_k08 HB7_g.out
 clear HWd
 iterate 19 refine ch_s ?_
 refine ch_last rfl rfl (by kernel_rfl) (by decide) (fun K hK=>?_)
 refine skip_ (by rfl) rfl (by go_simp;first|rfl|exact ⟨rfl,rfl⟩) ?_
 refine hK.out _ _ ?_
 clear hK K
 try simp only [Act.put,zq1,zq2,zq3]
 refine ch_z ?_
 clear hHeld
 go_wp2
 generalize hWd:(World.setCell W7 ⟨g,14,none⟩ (.int .i64 z1)) = W8 at ⊢
 have HWd:=Lib.hid hWd
 clear hWd
 have HS8:Hid (St B L T w gm ws (n + 1) W8):=Lib.hid (by rw [← HWd.out];exact (HSG_g.out _ _ _ HS7.out 14 (.int .i64 z1)))
 have HB8_g:Hid (W8.heap[g]? = some (.cells (k08 c AP cP AL cL v n0 s 3 l a1 z1 o0 o1 o2 o3) 115 (0,0))):=Lib.hid (by rw [← HWd.out];exact (blk_set' HB7_g.out 14 (.int .i64 z1) rfl))
 replace C_g:=cells_k08 HB8_g.out
 clear HWd
 refine ch_b C_g C_g [0,1,2,3,4,5,6,7,8] (fun W9 HWd hHeld=>?_)
 have HS9:=dwS HWd HS8
 have HB9_g:=dwH HWd HB8_g
 replace C_g:=cells_k08 HB9_g.out
 clear HWd
 iterate 9 refine ch_s ?_
 refine ch_z ?_
 clear hHeld
 go_wp2
 go_ret
 exact ⟨false,⟨n0,3,l,a1,z1,o0,o1,o2,o3⟩,ws,_,rfl,⟨AP,cP,AL,cL,HB9_g.out,HP.out.fr HS9.out.fr,HLi.out.fr HS9.out.fr⟩,by unfold A08;simp,HS9.out.mem,WTo.refl HW.out,by omega,Nat.le_refl _,HLL.out ▸ HS9.out.fr⟩
theorem step08_3_yes {c:Cf} (hc:c.Ok) {v s B gm g n:Nat} {w:World} {ws:List Int} (hv:v < c.N) (hs:s < c.S) (hm:MemIs B w gm ws n) (hw:WOk c ws) (hn:n ≤ 1000000) (hB:B ≤ g) {n0 l a e o0 o1 o3:Int} {o2:Bool} (hg:Is08 c v s w g ⟨n0,3,l,a,e,o0,o1,o2,o3⟩) (hq:wd ws (c.na v 1) = a) (he:e ≠ 0) :
  Calls Try.prog 58 #[.pointer (some ⟨g,0,none⟩),.pointer (some ⟨gm,0,none⟩)] w (P08 c v s B gm g ws n w):=by
 obtain ⟨AP,cP,AL,cL,hg,hP,hL⟩:=hg
 have HC:=Lib.hid hc
 have HW:=Lib.hid hw
 have HP:=Lib.hid hP
 have HLi:=Lib.hid hL
 have HLe:=Lib.hid (hw.le hc)
 have hS:=hc.Sle
 have hK:c.K = 6 + 2 * c.S:=rfl
 obtain ⟨p5,hp5⟩:∃ p,c.na v (2 + s) = p:=⟨_,rfl⟩
 obtain ⟨p6,hp6⟩:∃ p,c.na v 1 = p:=⟨_,rfl⟩
 have H5:=Lib.hid hp5
 have H6:=Lib.hid hp6
 have H5l:Hid (p5 < ws.length):=Lib.hid (by rw [← hp5];exact hw.lt hv (by omega))
 have H6l:Hid (p6 < ws.length):=Lib.hid (by rw [← hp6];exact hw.lt hv (by omega))
 have HT5:Hid (∀ x,WTo c ws (ws.set p5 x)):=Lib.hid (fun x=>by rw [← hp5];exact hw.set_node hv (by omega) (by omega) x)
 have HT6:Hid (∀ x,WTo c ws (ws.set p6 x)):=Lib.hid (fun x=>by rw [← hp6];exact hw.set_node hv (by omega) (by omega) x)
 have HB0_g:=Lib.hid hg
 obtain ⟨L,T,HLL,HTe,HT,HSG_g,HS0⟩:=st1 hm hB hg (by decide) (by decide)
 clear hc hw hg hm hP hL hS hK hp5 hp6
 rw [H6.out] at hq
 have HQ:=Lib.hid hq
 clear hq
 obtain ⟨z1,hz1⟩:∃ z,IntKind.i64.wrap (a - n0) = z:=⟨_,rfl⟩
 have hz1':wrap64 (a - n0) = z1:=by rw [← hz1,i64_w]
 obtain ⟨z2,hz2⟩:∃ z,IntKind.i64.wrap (z1 - e) = z:=⟨_,rfl⟩
 have hz2':wrap64 (z1 - e) = z2:=by rw [← hz2,i64_w]
 have d1:(e == 0) = false:=beq_eq_false_iff_ne.2 he
 clear he
 have C_g:=cells_k08 HB0_g.out
 go_enter Try.func58,Try.ntmps58
 go_wp2
 refine ch_b C_g C_g [0,1,2,3,4,5,6,7,8,9,10,11,12,13] (fun W1 HWd hHeld=>?_)
 have HS1:=dwS HWd HS0
 have HB1_g:Hid (W1.heap[g]? = some (.cells (k08 c AP cP AL cL v n0 s 3 l a e o0 o1 o2 o3) 115 (0,0))):=Lib.hid (by rw [← HWd.out];exact HB0_g.out)
 replace C_g:=cells_k08 HB1_g.out
 clear HWd
 iterate 12 refine ch_s ?_
 refine ch_1 fun K hK=>?_
 refine goes_s Try.func79 #[(cA c AP cP AL cL),.int .i64 v,.int .i64 s] ?_
 refine (lease_c HC.out (HP.out.fr HS1.out.fr) (HLi.out.fr HS1.out.fr) (v:=v) (s:=s) (by omega) (by have:=HC.out.Sle;omega)).mono ?_
 rintro e W2 ⟨rfl,hb'⟩
 refine ⟨_,rfl,?_⟩
 have HS2:=Lib.hid (HS1.out.below hb')
 have HB2_g:=Lib.hid (blk_below HB1_g.out hb')
 replace C_g:=cells_k08 HB2_g.out
 rw [H5.out]
 clear hb'
 refine hK.out _ _ C_g ?_;clear hK K hHeld;intro hHeld
 try simp only [Act.put,zq1,zq2,zq3]
 refine ch_s ?_
 refine ch_z ?_
 clear hHeld
 go_wp2
 refine ch_b C_g C_g [0,1,2,3,4,5,6,7,8,9] (fun W3 HWd hHeld=>?_)
 have HS3:=dwS HWd HS2
 have HB3_g:=dwH HWd HB2_g
 replace C_g:=cells_k08 HB3_g.out
 clear HWd
 iterate 8 refine ch_s ?_
 refine ch_1 fun K hK=>?_
 refine goes_s Try.func34 #[(cA c AP cP AL cL),.int .i64 v] ?_
 refine (avail_c HC.out (HP.out.fr HS3.out.fr) (HLi.out.fr HS3.out.fr) (v:=v) (by omega)).mono ?_
 rintro e W4 ⟨rfl,hb'⟩
 refine ⟨_,rfl,?_⟩
 have HS4:=Lib.hid (HS3.out.below hb')
 have HB4_g:=Lib.hid (blk_below HB3_g.out hb')
 replace C_g:=cells_k08 HB4_g.out
 rw [H6.out]
 clear hb'
 refine hK.out _ _ C_g ?_;clear hK K hHeld;intro hHeld
 try simp only [Act.put,zq1,zq2,zq3]
 refine ch_s ?_
 refine ch_z ?_
 clear hHeld
 go_wp2
 refine ch_d C_g C_g [20] [0,1,2,3,4,5,6,7,8,9,10,11,12,13,14,15,16,17,18,19,20,21] (fun W5 HWd hHeld=>?_)
 have HS5:=dwS HWd HS4
 have HB5_g:=dwH HWd HB4_g
 replace C_g:=cells_k08 HB5_g.out
 clear HWd
 iterate 20 refine ch_s ?_
 refine ch_last rfl rfl (by kernel_rfl) (by decide) (fun K hK=>?_)
 refine goes_s Try.func72 #[.pointer (some ⟨gm,0,none⟩),.int .i64 p6,.int .i64 a,.int .i64 z2] ?_
 refine (cas_yes_z HS5.out.mem hn HLe.out p6 H6l.out a z2 _ rfl HQ.out).mono ?_
 rintro e W6 ⟨rfl,hm',hf'⟩
 refine ⟨_,rfl,?_⟩
 have HS6:=Lib.hid (HS5.out.acc hm' hf' HT.out)
 have HB6_g:=Lib.hid (blk_fr HB5_g.out hf' (by simp) (by decide))
 replace C_g:=cells_k08 HB6_g.out
 clear hm' hf'
 refine hK.out _ _ ?_
 clear hK K
 try simp only [Act.put,zq1,zq2,zq3]
 refine ch_s ?_
 refine ch_z ?_
 clear hHeld
 go_wp2
 go_ret
 exact ⟨false,⟨n0,4,l,a,e,o0,o1,o2,o3⟩,(ws.set p6 z2),_,rfl,⟨AP,cP,AL,cL,(blk_set' HB6_g.out 11 (.int .i64 4) rfl),HP.out.fr (HSG_g.out _ _ _ HS6.out 11 (.int .i64 4)).fr,HLi.out.fr (HSG_g.out _ _ _ HS6.out 11 (.int .i64 4)).fr⟩,by unfold A08;simp,(HSG_g.out _ _ _ HS6.out 11 (.int .i64 4)).mem,HT6.out z2,by omega,Nat.le_refl _,HLL.out ▸ (HSG_g.out _ _ _ HS6.out 11 (.int .i64 4)).fr⟩
theorem step08_3_zero {c:Cf} (hc:c.Ok) {v s B gm g n:Nat} {w:World} {ws:List Int} (hv:v < c.N) (hs:s < c.S) (hm:MemIs B w gm ws n) (hw:WOk c ws) (hn:n ≤ 1000000) (hB:B ≤ g) {n0 l a e o0 o1 o3:Int} {o2:Bool} (hg:Is08 c v s w g ⟨n0,3,l,a,e,o0,o1,o2,o3⟩) (hq:wd ws (c.na v 1) = a) (he:e = 0) :
  Calls Try.prog 58 #[.pointer (some ⟨g,0,none⟩),.pointer (some ⟨gm,0,none⟩)] w (P08 c v s B gm g ws n w):=by
 obtain ⟨AP,cP,AL,cL,hg,hP,hL⟩:=hg
 have HC:=Lib.hid hc
 have HW:=Lib.hid hw
 have HP:=Lib.hid hP
 have HLi:=Lib.hid hL
 have HLe:=Lib.hid (hw.le hc)
 have hS:=hc.Sle
 have hK:c.K = 6 + 2 * c.S:=rfl
 obtain ⟨p5,hp5⟩:∃ p,c.na v (2 + s) = p:=⟨_,rfl⟩
 obtain ⟨p6,hp6⟩:∃ p,c.na v 1 = p:=⟨_,rfl⟩
 have H5:=Lib.hid hp5
 have H6:=Lib.hid hp6
 have H5l:Hid (p5 < ws.length):=Lib.hid (by rw [← hp5];exact hw.lt hv (by omega))
 have H6l:Hid (p6 < ws.length):=Lib.hid (by rw [← hp6];exact hw.lt hv (by omega))
 have HT5:Hid (∀ x,WTo c ws (ws.set p5 x)):=Lib.hid (fun x=>by rw [← hp5];exact hw.set_node hv (by omega) (by omega) x)
 have HT6:Hid (∀ x,WTo c ws (ws.set p6 x)):=Lib.hid (fun x=>by rw [← hp6];exact hw.set_node hv (by omega) (by omega) x)
 have HB0_g:=Lib.hid hg
 obtain ⟨L,T,HLL,HTe,HT,HSG_g,HS0⟩:=st1 hm hB hg (by decide) (by decide)
 clear hc hw hg hm hP hL hS hK hp5 hp6
 rw [H6.out] at hq
 have HQ:=Lib.hid hq
 clear hq
 obtain ⟨z1,hz1⟩:∃ z,IntKind.i64.wrap (a - n0) = z:=⟨_,rfl⟩
 have hz1':wrap64 (a - n0) = z1:=by rw [← hz1,i64_w]
 obtain ⟨z2,hz2⟩:∃ z,IntKind.i64.wrap (z1 - e) = z:=⟨_,rfl⟩
 have hz2':wrap64 (z1 - e) = z2:=by rw [← hz2,i64_w]
 have d1:(e == 0) = true:=beq_iff_eq.2 he
 clear he
 have C_g:=cells_k08 HB0_g.out
 go_enter Try.func58,Try.ntmps58
 go_wp2
 refine ch_b C_g C_g [0,1,2,3,4,5,6,7,8,9,10,11,12,13] (fun W1 HWd hHeld=>?_)
 have HS1:=dwS HWd HS0
 have HB1_g:Hid (W1.heap[g]? = some (.cells (k08 c AP cP AL cL v n0 s 3 l a e o0 o1 o2 o3) 115 (0,0))):=Lib.hid (by rw [← HWd.out];exact HB0_g.out)
 replace C_g:=cells_k08 HB1_g.out
 clear HWd
 iterate 12 refine ch_s ?_
 refine ch_1 fun K hK=>?_
 refine goes_s Try.func79 #[(cA c AP cP AL cL),.int .i64 v,.int .i64 s] ?_
 refine (lease_c HC.out (HP.out.fr HS1.out.fr) (HLi.out.fr HS1.out.fr) (v:=v) (s:=s) (by omega) (by have:=HC.out.Sle;omega)).mono ?_
 rintro e W2 ⟨rfl,hb'⟩
 refine ⟨_,rfl,?_⟩
 have HS2:=Lib.hid (HS1.out.below hb')
 have HB2_g:=Lib.hid (blk_below HB1_g.out hb')
 replace C_g:=cells_k08 HB2_g.out
 rw [H5.out]
 clear hb'
 refine hK.out _ _ C_g ?_;clear hK K hHeld;intro hHeld
 try simp only [Act.put,zq1,zq2,zq3]
 refine ch_s ?_
 refine ch_z ?_
 clear hHeld
 go_wp2
 refine ch_b C_g C_g [0,1,2,3,4,5,6,7,8,9] (fun W3 HWd hHeld=>?_)
 have HS3:=dwS HWd HS2
 have HB3_g:=dwH HWd HB2_g
 replace C_g:=cells_k08 HB3_g.out
 clear HWd
 iterate 8 refine ch_s ?_
 refine ch_1 fun K hK=>?_
 refine goes_s Try.func34 #[(cA c AP cP AL cL),.int .i64 v] ?_
 refine (avail_c HC.out (HP.out.fr HS3.out.fr) (HLi.out.fr HS3.out.fr) (v:=v) (by omega)).mono ?_
 rintro e W4 ⟨rfl,hb'⟩
 refine ⟨_,rfl,?_⟩
 have HS4:=Lib.hid (HS3.out.below hb')
 have HB4_g:=Lib.hid (blk_below HB3_g.out hb')
 replace C_g:=cells_k08 HB4_g.out
 rw [H6.out]
 clear hb'
 refine hK.out _ _ C_g ?_;clear hK K hHeld;intro hHeld
 try simp only [Act.put,zq1,zq2,zq3]
 refine ch_s ?_
 refine ch_z ?_
 clear hHeld
 go_wp2
 refine ch_d C_g C_g [20] [0,1,2,3,4,5,6,7,8,9,10,11,12,13,14,15,16,17,18,19,20,21] (fun W5 HWd hHeld=>?_)
 have HS5:=dwS HWd HS4
 have HB5_g:=dwH HWd HB4_g
 replace C_g:=cells_k08 HB5_g.out
 clear HWd
 iterate 20 refine ch_s ?_
 refine ch_last rfl rfl (by kernel_rfl) (by decide) (fun K hK=>?_)
 refine goes_s Try.func72 #[.pointer (some ⟨gm,0,none⟩),.int .i64 p6,.int .i64 a,.int .i64 z2] ?_
 refine (cas_yes_z HS5.out.mem hn HLe.out p6 H6l.out a z2 _ rfl HQ.out).mono ?_
 rintro e W6 ⟨rfl,hm',hf'⟩
 refine ⟨_,rfl,?_⟩
 have HS6:=Lib.hid (HS5.out.acc hm' hf' HT.out)
 have HB6_g:=Lib.hid (blk_fr HB5_g.out hf' (by simp) (by decide))
 replace C_g:=cells_k08 HB6_g.out
 clear hm' hf'
 refine hK.out _ _ ?_
 clear hK K
 try simp only [Act.put,zq1,zq2,zq3]
 refine ch_s ?_
 refine ch_z ?_
 clear hHeld
 go_wp2
 go_ret
 exact ⟨true,⟨n0,9,l,a,e,o0,o1,o2,o3⟩,(ws.set p6 z2),_,rfl,⟨AP,cP,AL,cL,(blk_set' HB6_g.out 11 (.int .i64 9) rfl),HP.out.fr (HSG_g.out _ _ _ HS6.out 11 (.int .i64 9)).fr,HLi.out.fr (HSG_g.out _ _ _ HS6.out 11 (.int .i64 9)).fr⟩,by unfold A08;simp,(HSG_g.out _ _ _ HS6.out 11 (.int .i64 9)).mem,HT6.out z2,by omega,Nat.le_refl _,HLL.out ▸ (HSG_g.out _ _ _ HS6.out 11 (.int .i64 9)).fr⟩
theorem step08_3_no {c:Cf} (hc:c.Ok) {v s B gm g n:Nat} {w:World} {ws:List Int} (hv:v < c.N) (hs:s < c.S) (hm:MemIs B w gm ws n) (hw:WOk c ws) (hn:n ≤ 1000000) (hB:B ≤ g) {n0 l a e o0 o1 o3:Int} {o2:Bool} (hg:Is08 c v s w g ⟨n0,3,l,a,e,o0,o1,o2,o3⟩) (hq:wd ws (c.na v 1) ≠ a) :
  Calls Try.prog 58 #[.pointer (some ⟨g,0,none⟩),.pointer (some ⟨gm,0,none⟩)] w (P08 c v s B gm g ws n w):=by
 obtain ⟨AP,cP,AL,cL,hg,hP,hL⟩:=hg
 have HC:=Lib.hid hc
 have HW:=Lib.hid hw
 have HP:=Lib.hid hP
 have HLi:=Lib.hid hL
 have HLe:=Lib.hid (hw.le hc)
 have hS:=hc.Sle
 have hK:c.K = 6 + 2 * c.S:=rfl
 obtain ⟨p5,hp5⟩:∃ p,c.na v (2 + s) = p:=⟨_,rfl⟩
 obtain ⟨p6,hp6⟩:∃ p,c.na v 1 = p:=⟨_,rfl⟩
 have H5:=Lib.hid hp5
 have H6:=Lib.hid hp6
 have H5l:Hid (p5 < ws.length):=Lib.hid (by rw [← hp5];exact hw.lt hv (by omega))
 have H6l:Hid (p6 < ws.length):=Lib.hid (by rw [← hp6];exact hw.lt hv (by omega))
 have HT5:Hid (∀ x,WTo c ws (ws.set p5 x)):=Lib.hid (fun x=>by rw [← hp5];exact hw.set_node hv (by omega) (by omega) x)
 have HT6:Hid (∀ x,WTo c ws (ws.set p6 x)):=Lib.hid (fun x=>by rw [← hp6];exact hw.set_node hv (by omega) (by omega) x)
 have HB0_g:=Lib.hid hg
 obtain ⟨L,T,HLL,HTe,HT,HSG_g,HS0⟩:=st1 hm hB hg (by decide) (by decide)
 clear hc hw hg hm hP hL hS hK hp5 hp6
 rw [H6.out] at hq
 have HQ:=Lib.hid hq
 clear hq
 obtain ⟨z1,hz1⟩:∃ z,IntKind.i64.wrap (a - n0) = z:=⟨_,rfl⟩
 have hz1':wrap64 (a - n0) = z1:=by rw [← hz1,i64_w]
 obtain ⟨z2,hz2⟩:∃ z,IntKind.i64.wrap (z1 - e) = z:=⟨_,rfl⟩
 have hz2':wrap64 (z1 - e) = z2:=by rw [← hz2,i64_w]
 have C_g:=cells_k08 HB0_g.out
 go_enter Try.func58,Try.ntmps58
 go_wp2
 refine ch_b C_g C_g [0,1,2,3,4,5,6,7,8,9,10,11,12,13] (fun W1 HWd hHeld=>?_)
 have HS1:=dwS HWd HS0
 have HB1_g:Hid (W1.heap[g]? = some (.cells (k08 c AP cP AL cL v n0 s 3 l a e o0 o1 o2 o3) 115 (0,0))):=Lib.hid (by rw [← HWd.out];exact HB0_g.out)
 replace C_g:=cells_k08 HB1_g.out
 clear HWd
 iterate 12 refine ch_s ?_
 refine ch_1 fun K hK=>?_
 refine goes_s Try.func79 #[(cA c AP cP AL cL),.int .i64 v,.int .i64 s] ?_
 refine (lease_c HC.out (HP.out.fr HS1.out.fr) (HLi.out.fr HS1.out.fr) (v:=v) (s:=s) (by omega) (by have:=HC.out.Sle;omega)).mono ?_
 rintro e W2 ⟨rfl,hb'⟩
 refine ⟨_,rfl,?_⟩
 have HS2:=Lib.hid (HS1.out.below hb')
 have HB2_g:=Lib.hid (blk_below HB1_g.out hb')
 replace C_g:=cells_k08 HB2_g.out
 rw [H5.out]
 clear hb'
 refine hK.out _ _ C_g ?_;clear hK K hHeld;intro hHeld
 try simp only [Act.put,zq1,zq2,zq3]
 refine ch_s ?_
 refine ch_z ?_
 clear hHeld
 go_wp2
 refine ch_b C_g C_g [0,1,2,3,4,5,6,7,8,9] (fun W3 HWd hHeld=>?_)
 have HS3:=dwS HWd HS2
 have HB3_g:=dwH HWd HB2_g
 replace C_g:=cells_k08 HB3_g.out
 clear HWd
 iterate 8 refine ch_s ?_
 refine ch_1 fun K hK=>?_
 refine goes_s Try.func34 #[(cA c AP cP AL cL),.int .i64 v] ?_
 refine (avail_c HC.out (HP.out.fr HS3.out.fr) (HLi.out.fr HS3.out.fr) (v:=v) (by omega)).mono ?_
 rintro e W4 ⟨rfl,hb'⟩
 refine ⟨_,rfl,?_⟩
 have HS4:=Lib.hid (HS3.out.below hb')
 have HB4_g:=Lib.hid (blk_below HB3_g.out hb')
 replace C_g:=cells_k08 HB4_g.out
 rw [H6.out]
 clear hb'
 refine hK.out _ _ C_g ?_;clear hK K hHeld;intro hHeld
 try simp only [Act.put,zq1,zq2,zq3]
 refine ch_s ?_
 refine ch_z ?_
 clear hHeld
 go_wp2
 refine ch_d C_g C_g [20] [0,1,2,3,4,5,6,7,8,9,10,11,12,13,14,15,16,17,18,19,20,21] (fun W5 HWd hHeld=>?_)
 have HS5:=dwS HWd HS4
 have HB5_g:=dwH HWd HB4_g
 replace C_g:=cells_k08 HB5_g.out
 clear HWd
 iterate 20 refine ch_s ?_
 refine ch_last rfl rfl (by kernel_rfl) (by decide) (fun K hK=>?_)
 refine goes_s Try.func72 #[.pointer (some ⟨gm,0,none⟩),.int .i64 p6,.int .i64 a,.int .i64 z2] ?_
 refine (cas_no_z HS5.out.mem hn HLe.out p6 H6l.out a z2 _ rfl HQ.out).mono ?_
 rintro e W6 ⟨rfl,hm',hf'⟩
 refine ⟨_,rfl,?_⟩
 have HS6:=Lib.hid (HS5.out.acc hm' hf' HT.out)
 have HB6_g:=Lib.hid (blk_fr HB5_g.out hf' (by simp) (by decide))
 replace C_g:=cells_k08 HB6_g.out
 clear hm' hf'
 refine hK.out _ _ ?_
 clear hK K
 try simp only [Act.put,zq1,zq2,zq3]
 refine ch_s ?_
 refine ch_z ?_
 clear hHeld
 go_wp2
 go_ret
 exact ⟨false,⟨n0,2,l,a,e,o0,o1,o2,o3⟩,ws,_,rfl,⟨AP,cP,AL,cL,(blk_set' HB6_g.out 11 (.int .i64 2) rfl),HP.out.fr (HSG_g.out _ _ _ HS6.out 11 (.int .i64 2)).fr,HLi.out.fr (HSG_g.out _ _ _ HS6.out 11 (.int .i64 2)).fr⟩,by unfold A08;simp,(HSG_g.out _ _ _ HS6.out 11 (.int .i64 2)).mem,WTo.refl HW.out,by omega,Nat.le_refl _,HLL.out ▸ (HSG_g.out _ _ _ HS6.out 11 (.int .i64 2)).fr⟩
theorem step08_6 {c:Cf} (hc:c.Ok) {v s B gm g n:Nat} {w:World} {ws:List Int} (hv:v < c.N) (hs:s < c.S) (hm:MemIs B w gm ws n) (hw:WOk c ws) (hn:n ≤ 1000000) (hB:B ≤ g) {n0 l a e o0 o1 o3:Int} {o2:Bool} (hg:Is08 c v s w g ⟨n0,6,l,a,e,o0,o1,o2,o3⟩) :
  Calls Try.prog 58 #[.pointer (some ⟨g,0,none⟩),.pointer (some ⟨gm,0,none⟩)] w (P08 c v s B gm g ws n w):=by
 obtain ⟨AP,cP,AL,cL,hg,hP,hL⟩:=hg
 have HC:=Lib.hid hc
 have HW:=Lib.hid hw
 have HP:=Lib.hid hP
 have HLi:=Lib.hid hL
 have HLe:=Lib.hid (hw.le hc)
 have hS:=hc.Sle
 have hK:c.K = 6 + 2 * c.S:=rfl
 obtain ⟨p5,hp5⟩:∃ p,c.na v (2 + s) = p:=⟨_,rfl⟩
 obtain ⟨p6,hp6⟩:∃ p,c.na v 1 = p:=⟨_,rfl⟩
 have H5:=Lib.hid hp5
 have H6:=Lib.hid hp6
 have H5l:Hid (p5 < ws.length):=Lib.hid (by rw [← hp5];exact hw.lt hv (by omega))
 have H6l:Hid (p6 < ws.length):=Lib.hid (by rw [← hp6];exact hw.lt hv (by omega))
 have HT5:Hid (∀ x,WTo c ws (ws.set p5 x)):=Lib.hid (fun x=>by rw [← hp5];exact hw.set_node hv (by omega) (by omega) x)
 have HT6:Hid (∀ x,WTo c ws (ws.set p6 x)):=Lib.hid (fun x=>by rw [← hp6];exact hw.set_node hv (by omega) (by omega) x)
 have HB0_g:=Lib.hid hg
 obtain ⟨L,T,HLL,HTe,HT,HSG_g,HS0⟩:=st1 hm hB hg (by decide) (by decide)
 clear hc hw hg hm hP hL hS hK hp5 hp6
 have C_g:=cells_k08 HB0_g.out
 go_enter Try.func58,Try.ntmps58
 go_wp2
 refine ch_b C_g C_g [0,1,2,3,4,5,6,7,8,9,10,11,12,13] (fun W1 HWd hHeld=>?_)
 have HS1:=dwS HWd HS0
 have HB1_g:Hid (W1.heap[g]? = some (.cells (k08 c AP cP AL cL v n0 s 6 l a e o0 o1 o2 o3) 115 (0,0))):=Lib.hid (by rw [← HWd.out];exact HB0_g.out)
 replace C_g:=cells_k08 HB1_g.out
 clear HWd
 iterate 12 refine ch_s ?_
 refine ch_1 fun K hK=>?_
 refine goes_s Try.func79 #[(cA c AP cP AL cL),.int .i64 v,.int .i64 s] ?_
 refine (lease_c HC.out (HP.out.fr HS1.out.fr) (HLi.out.fr HS1.out.fr) (v:=v) (s:=s) (by omega) (by have:=HC.out.Sle;omega)).mono ?_
 rintro e W2 ⟨rfl,hb'⟩
 refine ⟨_,rfl,?_⟩
 have HS2:=Lib.hid (HS1.out.below hb')
 have HB2_g:=Lib.hid (blk_below HB1_g.out hb')
 replace C_g:=cells_k08 HB2_g.out
 rw [H5.out]
 clear hb'
 refine hK.out _ _ C_g ?_;clear hK K hHeld;intro hHeld
 try simp only [Act.put,zq1,zq2,zq3]
 refine ch_s ?_
 refine ch_z ?_
 clear hHeld
 go_wp2
 refine ch_b C_g C_g [0,1,2,3,4,5,6,7,8,9] (fun W3 HWd hHeld=>?_)
 have HS3:=dwS HWd HS2
 have HB3_g:=dwH HWd HB2_g
 replace C_g:=cells_k08 HB3_g.out
 clear HWd
 iterate 8 refine ch_s ?_
 refine ch_1 fun K hK=>?_
 refine goes_s Try.func34 #[(cA c AP cP AL cL),.int .i64 v] ?_
 refine (avail_c HC.out (HP.out.fr HS3.out.fr) (HLi.out.fr HS3.out.fr) (v:=v) (by omega)).mono ?_
 rintro e W4 ⟨rfl,hb'⟩
 refine ⟨_,rfl,?_⟩
 have HS4:=Lib.hid (HS3.out.below hb')
 have HB4_g:=Lib.hid (blk_below HB3_g.out hb')
 replace C_g:=cells_k08 HB4_g.out
 rw [H6.out]
 clear hb'
 refine hK.out _ _ C_g ?_;clear hK K hHeld;intro hHeld
 try simp only [Act.put,zq1,zq2,zq3]
 refine ch_s ?_
 refine ch_z ?_
 clear hHeld
 go_wp2_with (first|(go_at_call 60;(with_reducible refine ((add_z HS4.out.mem hn HLe.out p6 H6l.out _ _ rfl)).mono ?_);rintro e W5 ⟨x,rfl,hm',hf'⟩;have HS5:=Lib.hid (HS4.out.acc hm' hf' HT.out);have HB5_g:=Lib.hid (blk_fr HB4_g.out hf' (by simp) (by decide));replace C_g:=cells_k08 HB5_g.out;clear hm' hf'))
 go_ret
 exact ⟨true,⟨n0,9,l,a,e,o0,o1,o2,o3⟩,(ws.set p6 x),_,rfl,⟨AP,cP,AL,cL,(blk_set' HB5_g.out 11 (.int .i64 9) rfl),HP.out.fr (HSG_g.out _ _ _ HS5.out 11 (.int .i64 9)).fr,HLi.out.fr (HSG_g.out _ _ _ HS5.out 11 (.int .i64 9)).fr⟩,by unfold A08;simp,(HSG_g.out _ _ _ HS5.out 11 (.int .i64 9)).mem,HT6.out x,by omega,Nat.le_refl _,HLL.out ▸ (HSG_g.out _ _ _ HS5.out 11 (.int .i64 9)).fr⟩
theorem step08_9 {c:Cf} (hc:c.Ok) {v s B gm g n:Nat} {w:World} {ws:List Int} (hv:v < c.N) (hs:s < c.S) (hm:MemIs B w gm ws n) (hw:WOk c ws) (hn:n ≤ 1000000) (hB:B ≤ g) {n0 l a e o0 o1 o3:Int} {o2:Bool} (hg:Is08 c v s w g ⟨n0,9,l,a,e,o0,o1,o2,o3⟩) :
  Calls Try.prog 58 #[.pointer (some ⟨g,0,none⟩),.pointer (some ⟨gm,0,none⟩)] w (P08 c v s B gm g ws n w):=by
 obtain ⟨AP,cP,AL,cL,hg,hP,hL⟩:=hg
 have HC:=Lib.hid hc
 have HW:=Lib.hid hw
 have HP:=Lib.hid hP
 have HLi:=Lib.hid hL
 have HLe:=Lib.hid (hw.le hc)
 have hS:=hc.Sle
 have hK:c.K = 6 + 2 * c.S:=rfl
 obtain ⟨p5,hp5⟩:∃ p,c.na v (2 + s) = p:=⟨_,rfl⟩
 obtain ⟨p6,hp6⟩:∃ p,c.na v 1 = p:=⟨_,rfl⟩
 have H5:=Lib.hid hp5
 have H6:=Lib.hid hp6
 have H5l:Hid (p5 < ws.length):=Lib.hid (by rw [← hp5];exact hw.lt hv (by omega))
 have H6l:Hid (p6 < ws.length):=Lib.hid (by rw [← hp6];exact hw.lt hv (by omega))
 have HT5:Hid (∀ x,WTo c ws (ws.set p5 x)):=Lib.hid (fun x=>by rw [← hp5];exact hw.set_node hv (by omega) (by omega) x)
 have HT6:Hid (∀ x,WTo c ws (ws.set p6 x)):=Lib.hid (fun x=>by rw [← hp6];exact hw.set_node hv (by omega) (by omega) x)
 have HB0_g:=Lib.hid hg
 obtain ⟨L,T,HLL,HTe,HT,HSG_g,HS0⟩:=st1 hm hB hg (by decide) (by decide)
 clear hc hw hg hm hP hL hS hK hp5 hp6
 have C_g:=cells_k08 HB0_g.out
 go_enter Try.func58,Try.ntmps58
 go_wp2
 refine ch_b C_g C_g [0,1,2,3,4,5,6,7,8,9,10,11,12,13] (fun W1 HWd hHeld=>?_)
 have HS1:=dwS HWd HS0
 have HB1_g:Hid (W1.heap[g]? = some (.cells (k08 c AP cP AL cL v n0 s 9 l a e o0 o1 o2 o3) 115 (0,0))):=Lib.hid (by rw [← HWd.out];exact HB0_g.out)
 replace C_g:=cells_k08 HB1_g.out
 clear HWd
 iterate 12 refine ch_s ?_
 refine ch_1 fun K hK=>?_
 refine goes_s Try.func79 #[(cA c AP cP AL cL),.int .i64 v,.int .i64 s] ?_
 refine (lease_c HC.out (HP.out.fr HS1.out.fr) (HLi.out.fr HS1.out.fr) (v:=v) (s:=s) (by omega) (by have:=HC.out.Sle;omega)).mono ?_
 rintro e W2 ⟨rfl,hb'⟩
 refine ⟨_,rfl,?_⟩
 have HS2:=Lib.hid (HS1.out.below hb')
 have HB2_g:=Lib.hid (blk_below HB1_g.out hb')
 replace C_g:=cells_k08 HB2_g.out
 rw [H5.out]
 clear hb'
 refine hK.out _ _ C_g ?_;clear hK K hHeld;intro hHeld
 try simp only [Act.put,zq1,zq2,zq3]
 refine ch_s ?_
 refine ch_z ?_
 clear hHeld
 go_wp2
 refine ch_b C_g C_g [0,1,2,3,4,5,6,7,8,9] (fun W3 HWd hHeld=>?_)
 have HS3:=dwS HWd HS2
 have HB3_g:=dwH HWd HB2_g
 replace C_g:=cells_k08 HB3_g.out
 clear HWd
 iterate 8 refine ch_s ?_
 refine ch_1 fun K hK=>?_
 refine goes_s Try.func34 #[(cA c AP cP AL cL),.int .i64 v] ?_
 refine (avail_c HC.out (HP.out.fr HS3.out.fr) (HLi.out.fr HS3.out.fr) (v:=v) (by omega)).mono ?_
 rintro e W4 ⟨rfl,hb'⟩
 refine ⟨_,rfl,?_⟩
 have HS4:=Lib.hid (HS3.out.below hb')
 have HB4_g:=Lib.hid (blk_below HB3_g.out hb')
 replace C_g:=cells_k08 HB4_g.out
 rw [H6.out]
 clear hb'
 refine hK.out _ _ C_g ?_;clear hK K hHeld;intro hHeld
 try simp only [Act.put,zq1,zq2,zq3]
 refine ch_s ?_
 refine ch_z ?_
 clear hHeld
 go_wp2
 go_ret
 exact ⟨true,⟨n0,9,l,a,e,o0,o1,o2,o3⟩,ws,_,rfl,⟨AP,cP,AL,cL,HB4_g.out,HP.out.fr HS4.out.fr,HLi.out.fr HS4.out.fr⟩,by unfold A08;simp,HS4.out.mem,WTo.refl HW.out,Nat.le_refl _,by omega,HLL.out ▸ HS4.out.fr⟩
theorem step08 {c:Cf} (hc:c.Ok) {v s B gm g n:Nat} {w:World} {ws:List Int} (hv:v < c.N) (hs:s < c.S) (hm:MemIs B w gm ws n) (hw:WOk c ws) (hn:n ≤ 1000000) (hB:B ≤ g) {x:S08} (hg:Is08 c v s w g x) (hi:A08 x) :
  Calls Try.prog 58 #[.pointer (some ⟨g,0,none⟩),.pointer (some ⟨gm,0,none⟩)] w (P08 c v s B gm g ws n w):=by
 obtain ⟨n0,At,l,a,e,o0,o1,o2,o3⟩:=x
 rcases hi with h|h|h|h|h|h|h|h
 all_goals (simp only at h;subst h)
 ·by_cases h1:n0 ≤ wd ws (c.na v (2 + s))
  ·exact step08_0_yes hc hv hs hm hw hn hB hg h1
  ·exact step08_0_no hc hv hs hm hw hn hB hg (by omega)
 ·by_cases h1:wd ws (c.na v (2 + s)) = l
  ·exact step08_1_yes hc hv hs hm hw hn hB hg h1
  ·exact step08_1_no hc hv hs hm hw hn hB hg h1
 ·by_cases h1:wd ws (c.na v 1) < n0
  ·by_cases h2:IntKind.i64.wrap (c.le.tdiv 2) < IntKind.i64.wrap (wd ws (c.na v 1) - n0)
   ·exact step08_2_yes_lt hc hv hs hm hw hn hB hg h1 h2
   ·exact step08_2_yes_ge hc hv hs hm hw hn hB hg h1 h2
  ·by_cases h2:IntKind.i64.wrap (c.le.tdiv 2) < IntKind.i64.wrap (wd ws (c.na v 1) - n0)
   ·exact step08_2_no_lt hc hv hs hm hw hn hB hg (by omega) h2
   ·exact step08_2_no_ge hc hv hs hm hw hn hB hg (by omega) h2
 ·by_cases h1:wd ws (c.na v 1) = a
  ·by_cases h2:e = 0
   ·exact step08_3_zero hc hv hs hm hw hn hB hg h1 h2
   ·exact step08_3_yes hc hv hs hm hw hn hB hg h1 h2
  ·exact step08_3_no hc hv hs hm hw hn hB hg h1
 ·by_cases h1:IntKind.i64.wrap (wd ws (c.na v (2 + s)) + e) ≤ c.le
  ·exact step08_4_yes hc hv hs hm hw hn hB hg h1
  ·exact step08_4_no hc hv hs hm hw hn hB hg (by omega)
 ·by_cases h1:wd ws (c.na v (2 + s)) = l
  ·exact step08_5_yes hc hv hs hm hw hn hB hg h1
  ·exact step08_5_no hc hv hs hm hw hn hB hg h1
 ·exact step08_6 hc hv hs hm hw hn hB hg
 ·exact step08_9 hc hv hs hm hw hn hB hg
end Go.Proofs.Ytadblpcjkahikaa.PTraceRuns

