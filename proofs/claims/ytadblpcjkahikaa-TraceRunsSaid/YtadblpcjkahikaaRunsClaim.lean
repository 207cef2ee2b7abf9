
import Derived.Test.YtadblpcjkahikaaRunsTurn
namespace Go.Proofs.Ytadblpcjkahikaa.PTraceRuns
open Go.RowKit Go.Proofs.YtadblpcjkahikaaW.PrintWords Go.Proofs.YtadblpcjkahikaaW.PrintLast Go.Proofs.YtadblpcjkahikaaW.PrintMore
set_option linter.unusedVariables false
set_option linter.unusedSimpArgs false
set_option maxHeartbeats 2000000
set_option maxRecDepth 100000
structure S11 where
 st:Nat
 j:Int
 sn:Bool
 wv:Int
 sv:Int
 en:Bool
 o0:Int
 o1:Int
 o2:Bool
 o3:Int
def k11 (c:Cf) (AP:Option Addr) (cP:Nat) (AL:Option Addr) (cL:Nat) (st:Nat) (j:Int) (sn:Bool) (wv sv:Int) (en:Bool) (o0 o1:Int) (o2:Bool) (o3:Int):Array Value:=#[.int .i64 c.th,.int .i64 c.S,.int .i64 c.ga,.int .i64 c.le,.int .i64 c.re,.int .i64 c.ti,.slice AP c.pa.length cP,.slice AL c.li.length cL,.int .i64 st,.int .i64 j,.bool sn,.int .i64 wv,.int .i64 sv,.bool en,.int .i64 o0,.int .i64 o1,.bool o2,.int .i64 o3]
theorem cells_k11 {c:Cf} {AP:Option Addr} {cP:Nat} {AL:Option Addr} {cL:Nat} {st:Nat} {j:Int} {sn:Bool} {wv sv:Int} {en:Bool} {o0 o1:Int} {o2:Bool} {o3:Int} {w:World} {g:Nat} (h:w.heap[g]? = some (.cells (k11 c AP cP AL cL st j sn wv sv en o0 o1 o2 o3) 112 (0,0))):Sat (fun w=>(∀ i,w.frozen? ⟨g,i,none⟩ = false)∧w.cell? ⟨g,0,none⟩ = some (.int .i64 c.th)∧w.cell? ⟨g,1,none⟩ = some (.int .i64 c.S)∧w.cell? ⟨g,2,none⟩ = some (.int .i64 c.ga)∧w.cell? ⟨g,3,none⟩ = some (.int .i64 c.le)∧w.cell? ⟨g,4,none⟩ = some (.int .i64 c.re)∧w.cell? ⟨g,5,none⟩ = some (.int .i64 c.ti)∧w.cell? ⟨g,6,none⟩ = some (.slice AP c.pa.length cP)∧w.cell? ⟨g,7,none⟩ = some (.slice AL c.li.length cL)∧w.cell? ⟨g,8,none⟩ = some (.int .i64 st)∧w.cell? ⟨g,9,none⟩ = some (.int .i64 j)∧w.cell? ⟨g,10,none⟩ = some (.bool sn)∧w.cell? ⟨g,11,none⟩ = some (.int .i64 wv)∧w.cell? ⟨g,12,none⟩ = some (.int .i64 sv)∧w.cell? ⟨g,13,none⟩ = some (.bool en)∧w.cell? ⟨g,14,none⟩ = some (.int .i64 o0)∧w.cell? ⟨g,15,none⟩ = some (.int .i64 o1)∧w.cell? ⟨g,16,none⟩ = some (.bool o2)∧w.cell? ⟨g,17,none⟩ = some (.int .i64 o3)) w:=by unfold k11 at h;exact cells18 h
def Is11 (c:Cf) (w:World) (g:Nat) (x:S11):Prop :=
 ∃ AP cP AL cL,w.heap[g]? = some (.cells (k11 c AP cP AL cL x.st x.j x.sn x.wv x.sv x.en x.o0 x.o1 x.o2 x.o3) 112 (0,0))∧Ints w (.slice AP c.pa.length cP) c.pa∧Ints w (.slice AL c.li.length cL) c.li
structure A11 (c:Cf) (x:S11):Prop where
 st:x.st ≤ 1000
 j:x.en = true ∨ 0 ≤ x.j∧x.j < c.ti
 o:∃ k:Nat,k < c.ti∧x.o1 = k
theorem A11.mk' {c:Cf} {st:Nat} {j wv sv o0 o1 o3:Int} {sn en o2:Bool} (h1:st ≤ 1000) (h2:en = true ∨ 0 ≤ j∧j < c.ti) (h3:∃ k:Nat,k < c.ti∧o1 = k):A11 c ⟨st,j,sn,wv,sv,en,o0,o1,o2,o3⟩:=⟨h1,h2,h3⟩
def P11 (c:Cf) (B gm g:Nat) (ws:List Int) (n:Nat) (w:World) (e:Ending) (w':World):Prop :=
 ∃ b x ws' n',e = .returned (.bool b)∧Is11 c w' g x∧A11 c x∧MemIs B w' gm ws' n'∧WTo c ws ws'∧n ≤ n'∧n' ≤ n + 1∧Fr B true [g] w w'
theorem state_ok (x:Int):∃ r,breadlineref10_State.f x = some r:=by
 obtain ⟨r,h⟩:=value_ok x
 unfold breadlineref10_State.f;rw [h,Option.bind_some];split
 ·exact ⟨_,rfl⟩
 ·split <;> exact ⟨_,rfl⟩
theorem turn_ok (x y:Int):∃ r b,breadlineref10_Turn.f x y = some (r,b):=by
 unfold breadlineref10_Turn.f;split
 ·exact ⟨_,_,rfl⟩
 ·split
  ·exact ⟨_,_,rfl⟩
  ·obtain ⟨r,b,h⟩:=next01_ok x y;rw [h];exact ⟨_,_,rfl⟩
theorem claim_k {c:Cf} (hc:c.Ok) {st:Nat} {j:Int} (h0:0 ≤ j):∃ k:Nat,k < c.ti∧Int.tmod ((st:Int) + j) (c.ti:Int) = (k:Int)∧((st:Int) + j) % (c.ti:Int) = (k:Int):=by
 have h1:=hc.ti1
 have e:Int.tmod ((st:Int) + j) (c.ti:Int) = ((st:Int) + j) % (c.ti:Int):=Int.tmod_eq_emod_of_nonneg (by omega)
 have h2:=Int.emod_nonneg ((st:Int) + j) (b:=(c.ti:Int)) (by omega)
 have h3:=Int.emod_lt_of_pos ((st:Int) + j) (b:=(c.ti:Int)) (by omega)
 exact ⟨(((st:Int) + j) % (c.ti:Int)).toNat,by omega,by rw [e];omega,by omega⟩
theorem next_end {c:Cf} (hc:c.Ok) {B gm g n:Nat} {w:World} {ws:List Int} (hm:MemIs B w gm ws n) (hB:B ≤ g) {AP AL:Option Addr} {cP cL:Nat} {j wv sv o0 o1 o3:Int} {sn en o2:Bool} {st:Nat} (hg:w.heap[g]? = some (.cells (k11 c AP cP AL cL st j sn wv sv en o0 o1 o2 o3) 112 (0,0))) (h0:0 ≤ j) (h1:j < c.ti) (hq:j + 1 = c.ti) :
  Calls Try.prog 77 #[.pointer (some ⟨g,0,none⟩)] w fun e w'=>e = .returned (.tuple #[])∧w'.heap[g]? = some (.cells (k11 c AP cP AL cL st (j + 1) false wv sv true 3 0 false 0) 112 (0,0))∧MemIs B w' gm ws n∧Fr B true [g] w w':=by
 have HB0_g:=Lib.hid hg
 obtain ⟨L,T,HLL,HTe,HT,HSG_g,HS0⟩:=st1 hm hB hg (by decide) (by decide)
 clear hm hg
 have q0:IntKind.i64.wrap (j + 1) = j + 1:=IntWalk.i64_in _ (by have:=hc.ti2;omega)
 have q1:(j + 1 == (c.ti:Int)) = true:=beq_iff_eq.2 hq
 have j1:j ≤ 100:=by have:=hc.ti2;omega
 clear hq hc h1
 have C_g:=cells_k11 HB0_g.out
 go_enter Try.func77,Try.ntmps77
 go_wp2
 generalize hWd:(World.setCell (World.setCell w ⟨g,9,none⟩ (.int .i64 (j + 1))) ⟨g,10,none⟩ (.bool false)) = W1 at ⊢
 have HWd:=Lib.hid hWd
 clear hWd
 have HS1:Hid (St B L T w gm ws n W1):=Lib.hid (by rw [← HWd.out];exact (HSG_g.out _ _ _ (HSG_g.out _ _ _ HS0.out 9 (.int .i64 (j + 1))) 10 (.bool false)))
 have HB1_g:Hid (W1.heap[g]? = some (.cells (k11 c AP cP AL cL st ((j + 1)) false wv sv en o0 o1 o2 o3) 112 (0,0))):=Lib.hid (by rw [← HWd.out];exact (blk_set' (blk_set' HB0_g.out 9 (.int .i64 (j + 1)) rfl) 10 (.bool false) rfl))
 replace C_g:=cells_k11 HB1_g.out
 clear HWd
 refine ch_b C_g C_g [0,1,2,3,4,5,6,7,8,9] (fun W2 HWd hHeld=>?_)
 have HS2:=dwS HWd HS1
 have HB2_g:=dwH HWd HB1_g
 replace C_g:=cells_k11 HB2_g.out
 clear HWd
 iterate 10 refine ch_s ?_
 refine ch_z ?_
 clear hHeld
 go_wp2
 go_end0
 exact ⟨rfl,(blk_set' (blk_set' (blk_set' (blk_set' (blk_set' HB2_g.out 14 (.int .i64 3) rfl) 15 (.int .i64 0) rfl) 16 (.bool false) rfl) 17 (.int .i64 0) rfl) 13 (.bool true) rfl),(HSG_g.out _ _ _ (HSG_g.out _ _ _ (HSG_g.out _ _ _ (HSG_g.out _ _ _ (HSG_g.out _ _ _ HS2.out 14 (.int .i64 3)) 15 (.int .i64 0)) 16 (.bool false)) 17 (.int .i64 0)) 13 (.bool true)).mem,HLL.out ▸ (HSG_g.out _ _ _ (HSG_g.out _ _ _ (HSG_g.out _ _ _ (HSG_g.out _ _ _ (HSG_g.out _ _ _ HS2.out 14 (.int .i64 3)) 15 (.int .i64 0)) 16 (.bool false)) 17 (.int .i64 0)) 13 (.bool true)).fr⟩
theorem next_on {c:Cf} (hc:c.Ok) {B gm g n:Nat} {w:World} {ws:List Int} (hm:MemIs B w gm ws n) (hB:B ≤ g) {AP AL:Option Addr} {cP cL:Nat} {j wv sv o0 o1 o3:Int} {sn en o2:Bool} {st:Nat} (hg:w.heap[g]? = some (.cells (k11 c AP cP AL cL st j sn wv sv en o0 o1 o2 o3) 112 (0,0))) (h0:0 ≤ j) (h1:j < c.ti) (hq:j + 1 ≠ c.ti) :
  Calls Try.prog 77 #[.pointer (some ⟨g,0,none⟩)] w fun e w'=>e = .returned (.tuple #[])∧w'.heap[g]? = some (.cells (k11 c AP cP AL cL st (j + 1) false wv sv en o0 o1 o2 o3) 112 (0,0))∧MemIs B w' gm ws n∧Fr B true [g] w w':=by
 have HB0_g:=Lib.hid hg
 obtain ⟨L,T,HLL,HTe,HT,HSG_g,HS0⟩:=st1 hm hB hg (by decide) (by decide)
 clear hm hg
 have q0:IntKind.i64.wrap (j + 1) = j + 1:=IntWalk.i64_in _ (by have:=hc.ti2;omega)
 have q1:(j + 1 == (c.ti:Int)) = false:=beq_eq_false_iff_ne.2 hq
 have j1:j ≤ 100:=by have:=hc.ti2;omega
 clear hq hc h1
 have C_g:=cells_k11 HB0_g.out
 go_enter Try.func77,Try.ntmps77
 go_wp2
 generalize hWd:(World.setCell (World.setCell w ⟨g,9,none⟩ (.int .i64 (j + 1))) ⟨g,10,none⟩ (.bool false)) = W1 at ⊢
 have HWd:=Lib.hid hWd
 clear hWd
 have HS1:Hid (St B L T w gm ws n W1):=Lib.hid (by rw [← HWd.out];exact (HSG_g.out _ _ _ (HSG_g.out _ _ _ HS0.out 9 (.int .i64 (j + 1))) 10 (.bool false)))
 have HB1_g:Hid (W1.heap[g]? = some (.cells (k11 c AP cP AL cL st ((j + 1)) false wv sv en o0 o1 o2 o3) 112 (0,0))):=Lib.hid (by rw [← HWd.out];exact (blk_set' (blk_set' HB0_g.out 9 (.int .i64 (j + 1)) rfl) 10 (.bool false) rfl))
 replace C_g:=cells_k11 HB1_g.out
 clear HWd
 refine ch_b C_g C_g [0,1,2,3,4,5,6,7,8,9] (fun W2 HWd hHeld=>?_)
 have HS2:=dwS HWd HS1
 have HB2_g:=dwH HWd HB1_g
 replace C_g:=cells_k11 HB2_g.out
 clear HWd
 iterate 10 refine ch_s ?_
 refine ch_z ?_
 clear hHeld
 go_wp2
 go_end0
 exact ⟨rfl,HB2_g.out,HS2.out.mem,HLL.out ▸ HS2.out.fr⟩
theorem step11_end {c:Cf} (hc:c.Ok) {B gm g n:Nat} {w:World} {ws:List Int} (hm:MemIs B w gm ws n) (hw:WOk c ws) (hn:n ≤ 1000000) (hB:B ≤ g) {j wv sv o0 o1 o3:Int} {sn o2:Bool} {st:Nat} (hg:Is11 c w g ⟨st,j,sn,wv,sv,true,o0,o1,o2,o3⟩) (hi:A11 c ⟨st,j,sn,wv,sv,true,o0,o1,o2,o3⟩) :
  Calls Try.prog 56 #[.pointer (some ⟨g,0,none⟩),.pointer (some ⟨gm,0,none⟩)] w (P11 c B gm g ws n w):=by
 obtain ⟨AP,cP,AL,cL,hg,hP,hL⟩:=hg
 have HC:=Lib.hid hc
 have HW:=Lib.hid hw
 have HP:=Lib.hid hP
 have HLi:=Lib.hid hL
 have HLe:=Lib.hid (hw.le hc)
 have HI:=Lib.hid hi
 have HO:=Lib.hid hi.o
 have hst:st ≤ 1000:=hi.st
 have HB0_g:=Lib.hid hg
 obtain ⟨L,T,HLL,HTe,HT,HSG_g,HS0⟩:=st1 hm hB hg (by decide) (by decide)
 clear hc hw hg hm hP hL hi
 have C_g:=cells_k11 HB0_g.out
 go_enter Try.func56,Try.ntmps56
 go_wp2
 go_ret
 exact ⟨true,⟨st,j,sn,wv,sv,true,o0,o1,o2,o3⟩,ws,_,rfl,⟨AP,cP,AL,cL,HB0_g.out,HP.out.fr HS0.out.fr,HLi.out.fr HS0.out.fr⟩,HI.out,HS0.out.mem,WTo.refl HW.out,Nat.le_refl _,by omega,HLL.out ▸ HS0.out.fr⟩
theorem step11_look_free {c:Cf} (hc:c.Ok) {B gm g n:Nat} {w:World} {ws:List Int} (hm:MemIs B w gm ws n) (hw:WOk c ws) (hn:n ≤ 1000000) (hB:B ≤ g) {j wv sv o0 o1 o3:Int} {o2:Bool} {st:Nat} (hg:Is11 c w g ⟨st,j,false,wv,sv,false,o0,o1,o2,o3⟩) (hi:A11 c ⟨st,j,false,wv,sv,false,o0,o1,o2,o3⟩) (hq:∀ k:Nat,k < c.ti→Int.tmod ((st:Int) + j) (c.ti:Int) = (k:Int)→breadlineref10_State.f (wd ws (c.tk k)) = some 0) :
  Calls Try.prog 56 #[.pointer (some ⟨g,0,none⟩),.pointer (some ⟨gm,0,none⟩)] w (P11 c B gm g ws n w):=by
 obtain ⟨AP,cP,AL,cL,hg,hP,hL⟩:=hg
 have HC:=Lib.hid hc
 have HW:=Lib.hid hw
 have HP:=Lib.hid hP
 have HLi:=Lib.hid hL
 have HLe:=Lib.hid (hw.le hc)
 have HI:=Lib.hid hi
 have HO:=Lib.hid hi.o
 have hst:st ≤ 1000:=hi.st
 have HB0_g:=Lib.hid hg
 obtain ⟨L,T,HLL,HTe,HT,HSG_g,HS0⟩:=st1 hm hB hg (by decide) (by decide)
 clear hc hw hg hm hP hL hi
 obtain ⟨h0,h1⟩:0 ≤ j∧j < c.ti:=by rcases HI.out.j with h|h;cases h;exact h
 obtain ⟨k,hk,k1,k2⟩:=claim_k HC.out (st:=st) h0
 have HK:=Lib.hid hk
 have hti:¬ ((c.ti:Int) = 0):=by have:=HC.out.ti1;omega
 have hti0:¬ (c.ti = 0):=by have:=HC.out.ti1;omega
 have hti1:=HC.out.ti1
 have hti2:=HC.out.ti2
 have q0:IntKind.i64.wrap ((st:Int) + j) = (st:Int) + j:=IntWalk.i64_in _ (by omega)
 have q1:IntKind.i64.wrap (k:Int) = (k:Int):=IntWalk.i64_in _ (by omega)
 obtain ⟨p5,hp5⟩:∃ p,c.tk k = p:=⟨_,rfl⟩
 have H5:=Lib.hid hp5
 have H5l:Hid (p5 < ws.length):=Lib.hid (by rw [← hp5];have:=HW.out.tlt hk;omega)
 have HQ:=Lib.hid hq
 clear hp5 hk hq
 obtain ⟨x1,hx1⟩:∃ z,wd ws p5 = z:=⟨_,rfl⟩
 have HX1:=Lib.hid hx1
 obtain ⟨s1,hs1⟩:=state_ok x1
 have HS1':=Lib.hid hs1
 have q2:(s1 != 0) = false:=by have h:=HQ.out k HK.out k1;rw [H5.out,hx1,hs1] at h;simpa using h
 clear hx1 hs1
 have C_g:=cells_k11 HB0_g.out
 go_enter Try.func56,Try.ntmps56
 go_wp2
 refine ch_b C_g C_g [0,1,2,3,4,5,6,7,8,9,10,11,12,13,14,15] (fun W1 HWd hHeld=>?_)
 have HS1:=dwS HWd HS0
 have HB1_g:Hid (W1.heap[g]? = some (.cells (k11 c AP cP AL cL st j false wv sv false o0 o1 o2 o3) 112 (0,0))):=Lib.hid (by rw [← HWd.out];exact HB0_g.out)
 replace C_g:=cells_k11 HB1_g.out
 clear HWd
 iterate 16 refine ch_s ?_
 refine ch_z ?_
 clear hHeld
 go_wp2_with (first|(go_at_call 52;(with_reducible refine ((ticket_c HC.out (HP.out.fr HS1.out.fr) (HLi.out.fr HS1.out.fr) (k:=k) (by have:=HK.out;omega))).mono ?_);rintro e W2 ⟨rfl,hb'⟩;have HS2:=Lib.hid (HS1.out.below hb');have HB2_g:=Lib.hid (blk_below HB1_g.out hb');replace C_g:=cells_k11 HB2_g.out;rw [H5.out];clear hb')|(go_at_call 68;(with_reducible refine ((load_z HS2.out.mem hn HLe.out p5 H5l.out _ rfl)).mono ?_);rintro e W3 ⟨rfl,hm',hf'⟩;have HS3:=Lib.hid (HS2.out.acc hm' hf' HT.out);have HB3_g:=Lib.hid (blk_fr HB2_g.out hf' (by simp) (by decide));replace C_g:=cells_k11 HB3_g.out;clear hm' hf';rw [HX1.out])|(go_at_call 70;(with_reducible refine (breadlineref10_State.calls x1 s1 _ HS1'.out).mono ?_);rintro e w' ⟨rfl,⟨nd,rfl⟩⟩;generalize hWd:World.drewN (World.setCell (World.setCell W3 ⟨g,11,none⟩ (.int .i64 x1)) ⟨g,10,none⟩ (.bool true)) nd = W4 at ⊢;have HWd:=Lib.hid hWd;clear hWd;have HS4:Hid (St B L T w gm ws (n + 1) W4):=Lib.hid (by rw [← HWd.out];exact (HSG_g.out _ _ _ (HSG_g.out _ _ _ HS3.out 11 (.int .i64 x1)) 10 (.bool true)).drewN nd);have HB4_g:Hid (W4.heap[g]? = some (.cells (k11 c AP cP AL cL st j true x1 sv false o0 o1 o2 o3) 112 (0,0))):=Lib.hid (by rw [← HWd.out];exact (blk_set' (blk_set' HB3_g.out 11 (.int .i64 x1) rfl) 10 (.bool true) rfl));replace C_g:=cells_k11 HB4_g.out;clear HWd))
 go_ret
 exact ⟨false,⟨st,j,true,x1,sv,false,o0,o1,o2,o3⟩,ws,_,rfl,⟨AP,cP,AL,cL,HB4_g.out,HP.out.fr HS4.out.fr,HLi.out.fr HS4.out.fr⟩,A11.mk' hst (.inr ⟨h0,h1⟩) HO.out,HS4.out.mem,WTo.refl HW.out,by omega,Nat.le_refl _,HLL.out ▸ HS4.out.fr⟩
theorem step11_look_end {c:Cf} (hc:c.Ok) {B gm g n:Nat} {w:World} {ws:List Int} (hm:MemIs B w gm ws n) (hw:WOk c ws) (hn:n ≤ 1000000) (hB:B ≤ g) {j wv sv o0 o1 o3:Int} {o2:Bool} {st:Nat} (hg:Is11 c w g ⟨st,j,false,wv,sv,false,o0,o1,o2,o3⟩) (hi:A11 c ⟨st,j,false,wv,sv,false,o0,o1,o2,o3⟩) (hq:∀ k:Nat,k < c.ti→Int.tmod ((st:Int) + j) (c.ti:Int) = (k:Int)→breadlineref10_State.f (wd ws (c.tk k)) ≠ some 0) (hq2:j + 1 = c.ti) :
  Calls Try.prog 56 #[.pointer (some ⟨g,0,none⟩),.pointer (some ⟨gm,0,none⟩)] w (P11 c B gm g ws n w):=by
 obtain ⟨AP,cP,AL,cL,hg,hP,hL⟩:=hg
 have HC:=Lib.hid hc
 have HW:=Lib.hid hw
 have HP:=Lib.hid hP
 have HLi:=Lib.hid hL
 have HLe:=Lib.hid (hw.le hc)
 have HI:=Lib.hid hi
 have HO:=Lib.hid hi.o
 have hst:st ≤ 1000:=hi.st
 have HB0_g:=Lib.hid hg
 obtain ⟨L,T,HLL,HTe,HT,HSG_g,HS0⟩:=st1 hm hB hg (by decide) (by decide)
 clear hc hw hg hm hP hL hi
 obtain ⟨h0,h1⟩:0 ≤ j∧j < c.ti:=by rcases HI.out.j with h|h;cases h;exact h
 obtain ⟨k,hk,k1,k2⟩:=claim_k HC.out (st:=st) h0
 have HK:=Lib.hid hk
 have hti:¬ ((c.ti:Int) = 0):=by have:=HC.out.ti1;omega
 have hti0:¬ (c.ti = 0):=by have:=HC.out.ti1;omega
 have hti1:=HC.out.ti1
 have hti2:=HC.out.ti2
 have q0:IntKind.i64.wrap ((st:Int) + j) = (st:Int) + j:=IntWalk.i64_in _ (by omega)
 have q1:IntKind.i64.wrap (k:Int) = (k:Int):=IntWalk.i64_in _ (by omega)
 obtain ⟨p5,hp5⟩:∃ p,c.tk k = p:=⟨_,rfl⟩
 have H5:=Lib.hid hp5
 have H5l:Hid (p5 < ws.length):=Lib.hid (by rw [← hp5];have:=HW.out.tlt hk;omega)
 have HQ:=Lib.hid hq
 clear hp5 hk hq
 obtain ⟨x1,hx1⟩:∃ z,wd ws p5 = z:=⟨_,rfl⟩
 have HX1:=Lib.hid hx1
 obtain ⟨s1,hs1⟩:=state_ok x1
 have HS1':=Lib.hid hs1
 have q2:(s1 != 0) = true:=by have h:=HQ.out k HK.out k1;rw [H5.out,hx1,hs1] at h;simpa using h
 clear hx1 hs1
 have HQ2:=Lib.hid hq2
 clear hq2
 have C_g:=cells_k11 HB0_g.out
 go_enter Try.func56,Try.ntmps56
 go_wp2
 refine ch_b C_g C_g [0,1,2,3,4,5,6,7,8,9,10,11,12,13,14,15] (fun W1 HWd hHeld=>?_)
 have HS1:=dwS HWd HS0
 have HB1_g:Hid (W1.heap[g]? = some (.cells (k11 c AP cP AL cL st j false wv sv false o0 o1 o2 o3) 112 (0,0))):=Lib.hid (by rw [← HWd.out];exact HB0_g.out)
 replace C_g:=cells_k11 HB1_g.out
 clear HWd
 iterate 16 refine ch_s ?_
 refine ch_z ?_
 clear hHeld
 go_wp2_with (first|(go_at_call 52;(with_reducible refine ((ticket_c HC.out (HP.out.fr HS1.out.fr) (HLi.out.fr HS1.out.fr) (k:=k) (by have:=HK.out;omega))).mono ?_);rintro e W2 ⟨rfl,hb'⟩;have HS2:=Lib.hid (HS1.out.below hb');have HB2_g:=Lib.hid (blk_below HB1_g.out hb');replace C_g:=cells_k11 HB2_g.out;rw [H5.out];clear hb')|(go_at_call 68;(with_reducible refine ((load_z HS2.out.mem hn HLe.out p5 H5l.out _ rfl)).mono ?_);rintro e W3 ⟨rfl,hm',hf'⟩;have HS3:=Lib.hid (HS2.out.acc hm' hf' HT.out);have HB3_g:=Lib.hid (blk_fr HB2_g.out hf' (by simp) (by decide));replace C_g:=cells_k11 HB3_g.out;clear hm' hf';rw [HX1.out])|(go_at_call 70;(with_reducible refine (breadlineref10_State.calls x1 s1 _ HS1'.out).mono ?_);rintro e w' ⟨rfl,⟨nd,rfl⟩⟩;generalize hWd:World.drewN (World.setCell (World.setCell W3 ⟨g,11,none⟩ (.int .i64 x1)) ⟨g,10,none⟩ (.bool true)) nd = W4 at ⊢;have HWd:=Lib.hid hWd;clear hWd;have HS4:Hid (St B L T w gm ws (n + 1) W4):=Lib.hid (by rw [← HWd.out];exact (HSG_g.out _ _ _ (HSG_g.out _ _ _ HS3.out 11 (.int .i64 x1)) 10 (.bool true)).drewN nd);have HB4_g:Hid (W4.heap[g]? = some (.cells (k11 c AP cP AL cL st j true x1 sv false o0 o1 o2 o3) 112 (0,0))):=Lib.hid (by rw [← HWd.out];exact (blk_set' (blk_set' HB3_g.out 11 (.int .i64 x1) rfl) 10 (.bool true) rfl));replace C_g:=cells_k11 HB4_g.out;clear HWd)|(go_at_call 77;(with_reducible refine (next_end HC.out HS4.out.mem hB HB4_g.out h0 h1 HQ2.out).mono ?_);rintro e W5 ⟨rfl,hg',hm',hf'⟩;have HS5:=Lib.hid (HS4.out.turn hm' hf' (fun p hp hk=>by rw [HTe.out] at hp;rw [List.mem_singleton.1 hp];exact ⟨_,hg'⟩) (fun k hk=>.inl (by rw [HLL.out];exact hk)) HT.out);have HB5_g:Hid (W5.heap[g]? = some (.cells (k11 c AP cP AL cL st ((j + 1)) false x1 sv true 3 0 false 0) 112 (0,0))):=Lib.hid (hg');replace C_g:=cells_k11 HB5_g.out;clear hg' hm' hf'))
 go_ret
 exact ⟨true,⟨st,j + 1,false,x1,sv,true,3,0,false,0⟩,ws,_,rfl,⟨AP,cP,AL,cL,HB5_g.out,HP.out.fr HS5.out.fr,HLi.out.fr HS5.out.fr⟩,A11.mk' hst (.inl rfl) ⟨0,by have:=HC.out.ti1;omega,rfl⟩,HS5.out.mem,WTo.refl HW.out,by omega,Nat.le_refl _,HLL.out ▸ HS5.out.fr⟩
theorem step11_look_on {c:Cf} (hc:c.Ok) {B gm g n:Nat} {w:World} {ws:List Int} (hm:MemIs B w gm ws n) (hw:WOk c ws) (hn:n ≤ 1000000) (hB:B ≤ g) {j wv sv o0 o1 o3:Int} {o2:Bool} {st:Nat} (hg:Is11 c w g ⟨st,j,false,wv,sv,false,o0,o1,o2,o3⟩) (hi:A11 c ⟨st,j,false,wv,sv,false,o0,o1,o2,o3⟩) (hq:∀ k:Nat,k < c.ti→Int.tmod ((st:Int) + j) (c.ti:Int) = (k:Int)→breadlineref10_State.f (wd ws (c.tk k)) ≠ some 0) (hq2:j + 1 ≠ c.ti) :
  Calls Try.prog 56 #[.pointer (some ⟨g,0,none⟩),.pointer (some ⟨gm,0,none⟩)] w (P11 c B gm g ws n w):=by
 obtain ⟨AP,cP,AL,cL,hg,hP,hL⟩:=hg
 have HC:=Lib.hid hc
 have HW:=Lib.hid hw
 have HP:=Lib.hid hP
 have HLi:=Lib.hid hL
 have HLe:=Lib.hid (hw.le hc)
 have HI:=Lib.hid hi
 have HO:=Lib.hid hi.o
 have hst:st ≤ 1000:=hi.st
 have HB0_g:=Lib.hid hg
 obtain ⟨L,T,HLL,HTe,HT,HSG_g,HS0⟩:=st1 hm hB hg (by decide) (by decide)
 clear hc hw hg hm hP hL hi
 obtain ⟨h0,h1⟩:0 ≤ j∧j < c.ti:=by rcases HI.out.j with h|h;cases h;exact h
 obtain ⟨k,hk,k1,k2⟩:=claim_k HC.out (st:=st) h0
 have HK:=Lib.hid hk
 have hti:¬ ((c.ti:Int) = 0):=by have:=HC.out.ti1;omega
 have hti0:¬ (c.ti = 0):=by have:=HC.out.ti1;omega
 have hti1:=HC.out.ti1
 have hti2:=HC.out.ti2
 have q0:IntKind.i64.wrap ((st:Int) + j) = (st:Int) + j:=IntWalk.i64_in _ (by omega)
 have q1:IntKind.i64.wrap (k:Int) = (k:Int):=IntWalk.i64_in _ (by omega)
 obtain ⟨p5,hp5⟩:∃ p,c.tk k = p:=⟨_,rfl⟩
 have H5:=Lib.hid hp5
 have H5l:Hid (p5 < ws.length):=Lib.hid (by rw [← hp5];have:=HW.out.tlt hk;omega)
 have HQ:=Lib.hid hq
 clear hp5 hk hq
 obtain ⟨x1,hx1⟩:∃ z,wd ws p5 = z:=⟨_,rfl⟩
 have HX1:=Lib.hid hx1
 obtain ⟨s1,hs1⟩:=state_ok x1
 have HS1':=Lib.hid hs1
 have q2:(s1 != 0) = true:=by have h:=HQ.out k HK.out k1;rw [H5.out,hx1,hs1] at h;simpa using h
 clear hx1 hs1
 have HQ2:=Lib.hid hq2
 clear hq2
 have C_g:=cells_k11 HB0_g.out
 go_enter Try.func56,Try.ntmps56
 go_wp2
 refine ch_b C_g C_g [0,1,2,3,4,5,6,7,8,9,10,11,12,13,14,15] (fun W1 HWd hHeld=>?_)
 have HS1:=dwS HWd HS0
 have HB1_g:Hid (W1.heap[g]? = some (.cells (k11 c AP cP AL cL st j false wv sv false o0 o1 o2 o3) 112 (0,0))):=Lib.hid (by rw [← HWd.out];exact HB0_g.out)
 replace C_g:=cells_k11 HB1_g.out
 clear HWd
 iterate 16 refine ch_s ?_
 refine ch_z ?_
 clear hHeld
 go_wp2_with (first|(go_at_call 52;(with_reducible refine ((ticket_c HC.out (HP.out.fr HS1.out.fr) (HLi.out.fr HS1.out.fr) (k:=k) (by have:=HK.out;omega))).mono ?_);rintro e W2 ⟨rfl,hb'⟩;have HS2:=Lib.hid (HS1.out.below hb');have HB2_g:=Lib.hid (blk_below HB1_g.out hb');replace C_g:=cells_k11 HB2_g.out;rw [H5.out];clear hb')|(go_at_call 68;(with_reducible refine ((load_z HS2.out.mem hn HLe.out p5 H5l.out _ rfl)).mono ?_);rintro e W3 ⟨rfl,hm',hf'⟩;have HS3:=Lib.hid (HS2.out.acc hm' hf' HT.out);have HB3_g:=Lib.hid (blk_fr HB2_g.out hf' (by simp) (by decide));replace C_g:=cells_k11 HB3_g.out;clear hm' hf';rw [HX1.out])|(go_at_call 70;(with_reducible refine (breadlineref10_State.calls x1 s1 _ HS1'.out).mono ?_);rintro e w' ⟨rfl,⟨nd,rfl⟩⟩;generalize hWd:World.drewN (World.setCell (World.setCell W3 ⟨g,11,none⟩ (.int .i64 x1)) ⟨g,10,none⟩ (.bool true)) nd = W4 at ⊢;have HWd:=Lib.hid hWd;clear hWd;have HS4:Hid (St B L T w gm ws (n + 1) W4):=Lib.hid (by rw [← HWd.out];exact (HSG_g.out _ _ _ (HSG_g.out _ _ _ HS3.out 11 (.int .i64 x1)) 10 (.bool true)).drewN nd);have HB4_g:Hid (W4.heap[g]? = some (.cells (k11 c AP cP AL cL st j true x1 sv false o0 o1 o2 o3) 112 (0,0))):=Lib.hid (by rw [← HWd.out];exact (blk_set' (blk_set' HB3_g.out 11 (.int .i64 x1) rfl) 10 (.bool true) rfl));replace C_g:=cells_k11 HB4_g.out;clear HWd)|(go_at_call 77;(with_reducible refine (next_on HC.out HS4.out.mem hB HB4_g.out h0 h1 HQ2.out).mono ?_);rintro e W5 ⟨rfl,hg',hm',hf'⟩;have HS5:=Lib.hid (HS4.out.turn hm' hf' (fun p hp hk=>by rw [HTe.out] at hp;rw [List.mem_singleton.1 hp];exact ⟨_,hg'⟩) (fun k hk=>.inl (by rw [HLL.out];exact hk)) HT.out);have HB5_g:Hid (W5.heap[g]? = some (.cells (k11 c AP cP AL cL st ((j + 1)) false x1 sv false o0 o1 o2 o3) 112 (0,0))):=Lib.hid (hg');replace C_g:=cells_k11 HB5_g.out;clear hg' hm' hf'))
 go_ret
 exact ⟨false,⟨st,j + 1,false,x1,sv,false,o0,o1,o2,o3⟩,ws,_,rfl,⟨AP,cP,AL,cL,HB5_g.out,HP.out.fr HS5.out.fr,HLi.out.fr HS5.out.fr⟩,A11.mk' hst (.inr ⟨by omega,by have:=HQ2.out;omega⟩) HO.out,HS5.out.mem,WTo.refl HW.out,by omega,Nat.le_refl _,HLL.out ▸ HS5.out.fr⟩
theorem step11_take_yes {c:Cf} (hc:c.Ok) {B gm g n:Nat} {w:World} {ws:List Int} (hm:MemIs B w gm ws n) (hw:WOk c ws) (hn:n ≤ 1000000) (hB:B ≤ g) {j wv sv o0 o1 o3:Int} {o2:Bool} {st:Nat} (hg:Is11 c w g ⟨st,j,true,wv,sv,false,o0,o1,o2,o3⟩) (hi:A11 c ⟨st,j,true,wv,sv,false,o0,o1,o2,o3⟩) (hq:∀ k:Nat,k < c.ti→Int.tmod ((st:Int) + j) (c.ti:Int) = (k:Int)→wd ws (c.tk k) = wv) :
  Calls Try.prog 56 #[.pointer (some ⟨g,0,none⟩),.pointer (some ⟨gm,0,none⟩)] w (P11 c B gm g ws n w):=by
 obtain ⟨AP,cP,AL,cL,hg,hP,hL⟩:=hg
 have HC:=Lib.hid hc
 have HW:=Lib.hid hw
 have HP:=Lib.hid hP
 have HLi:=Lib.hid hL
 have HLe:=Lib.hid (hw.le hc)
 have HI:=Lib.hid hi
 have HO:=Lib.hid hi.o
 have hst:st ≤ 1000:=hi.st
 have HB0_g:=Lib.hid hg
 obtain ⟨L,T,HLL,HTe,HT,HSG_g,HS0⟩:=st1 hm hB hg (by decide) (by decide)
 clear hc hw hg hm hP hL hi
 obtain ⟨h0,h1⟩:0 ≤ j∧j < c.ti:=by rcases HI.out.j with h|h;cases h;exact h
 obtain ⟨k,hk,k1,k2⟩:=claim_k HC.out (st:=st) h0
 have HK:=Lib.hid hk
 have hti:¬ ((c.ti:Int) = 0):=by have:=HC.out.ti1;omega
 have hti0:¬ (c.ti = 0):=by have:=HC.out.ti1;omega
 have hti1:=HC.out.ti1
 have hti2:=HC.out.ti2
 have q0:IntKind.i64.wrap ((st:Int) + j) = (st:Int) + j:=IntWalk.i64_in _ (by omega)
 have q1:IntKind.i64.wrap (k:Int) = (k:Int):=IntWalk.i64_in _ (by omega)
 obtain ⟨p5,hp5⟩:∃ p,c.tk k = p:=⟨_,rfl⟩
 have H5:=Lib.hid hp5
 have H5l:Hid (p5 < ws.length):=Lib.hid (by rw [← hp5];have:=HW.out.tlt hk;omega)
 have HQ:=Lib.hid hq
 clear hp5 hk hq
 obtain ⟨t1,tb,ht1⟩:=turn_ok wv 1
 have HT1:=Lib.hid ht1
 have HQ1:Hid (wd ws p5 = wv):=Lib.hid (by have h:=HQ.out k HK.out k1;rwa [H5.out] at h)
 clear ht1
 have C_g:=cells_k11 HB0_g.out
 go_enter Try.func56,Try.ntmps56
 go_wp2
 refine ch_b C_g C_g [0,1,2,3,4,5,6,7,8,9,10,11,12,13,14,15] (fun W1 HWd hHeld=>?_)
 have HS1:=dwS HWd HS0
 have HB1_g:Hid (W1.heap[g]? = some (.cells (k11 c AP cP AL cL st j true wv sv false o0 o1 o2 o3) 112 (0,0))):=Lib.hid (by rw [← HWd.out];exact HB0_g.out)
 replace C_g:=cells_k11 HB1_g.out
 clear HWd
 iterate 16 refine ch_s ?_
 refine ch_z ?_
 clear hHeld
 go_wp2_with (first|(go_at_call 61;(with_reducible refine (breadlineref10_Turn.calls wv 1 t1 tb _ HT1.out).mono ?_);rintro e w' ⟨rfl,⟨nd,rfl⟩⟩;generalize hWd:World.drewN W1 nd = W2 at ⊢;have HWd:=Lib.hid hWd;clear hWd;have HS2:Hid (St B L T w gm ws n W2):=Lib.hid (by rw [← HWd.out];exact HS1.out.drewN nd);have HB2_g:=dwH HWd HB1_g;replace C_g:=cells_k11 HB2_g.out;clear HWd))
 refine ch_d C_g C_g [12] [0,1,2,3,4,5,7,8,9,10,11,6,12] (fun W3 HWd hHeld=>?_)
 have HS3:=dwS HWd HS2
 have HB3_g:=dwH HWd HB2_g
 replace C_g:=cells_k11 HB3_g.out
 clear HWd
 iterate 11 refine ch_s ?_
 refine ch_1 fun K hK=>?_
 refine goes_s Try.func52 #[(cA c AP cP AL cL),.int .i64 k] ?_
 refine ((ticket_c HC.out (HP.out.fr HS3.out.fr) (HLi.out.fr HS3.out.fr) (k:=k) (by have:=HK.out;omega))).mono ?_
 rintro e W4 ⟨rfl,hb'⟩
 refine ⟨_,rfl,?_⟩
 have HS4:=Lib.hid (HS3.out.below hb')
 have HB4_g:=Lib.hid (blk_below HB3_g.out hb')
 replace C_g:=cells_k11 HB4_g.out
 rw [H5.out]
 clear hb'
 refine hK.out _ _ C_g ?_;clear hK K hHeld;intro hHeld
 try simp only [Act.put,zq1,zq2,zq3]
 refine ch_last rfl rfl (by kernel_rfl) (by decide) (fun K hK=>?_)
 refine goes_s Try.func72 #[.pointer (some ⟨gm,0,none⟩),.int .i64 p5,.int .i64 wv,.int .i64 t1] ?_
 refine (cas_yes_z HS4.out.mem hn HLe.out p5 H5l.out wv t1 _ rfl HQ1.out).mono ?_
 rintro e W5 ⟨rfl,hm',hf'⟩
 refine ⟨_,rfl,?_⟩
 have HS5:=Lib.hid (HS4.out.acc hm' hf' HT.out)
 have HB5_g:=Lib.hid (blk_fr HB4_g.out hf' (by simp) (by decide))
 replace C_g:=cells_k11 HB5_g.out
 clear hm' hf'
 refine hK.out _ _ ?_
 clear hK K
 try simp only [Act.put,zq1,zq2,zq3]
 refine ch_z ?_
 clear hHeld
 go_wp2
 go_ret
 exact ⟨true,⟨st,j,true,wv,t1,true,0,k,false,0⟩,(ws.set p5 t1),_,rfl,⟨AP,cP,AL,cL,(blk_set' (blk_set' (blk_set' (blk_set' (blk_set' (blk_set' HB5_g.out 14 (.int .i64 0) rfl) 15 (.int .i64 k) rfl) 16 (.bool false) rfl) 17 (.int .i64 0) rfl) 12 (.int .i64 t1) rfl) 13 (.bool true) rfl),HP.out.fr (HSG_g.out _ _ _ (HSG_g.out _ _ _ (HSG_g.out _ _ _ (HSG_g.out _ _ _ (HSG_g.out _ _ _ (HSG_g.out _ _ _ HS5.out 14 (.int .i64 0)) 15 (.int .i64 k)) 16 (.bool false)) 17 (.int .i64 0)) 12 (.int .i64 t1)) 13 (.bool true)).fr,HLi.out.fr (HSG_g.out _ _ _ (HSG_g.out _ _ _ (HSG_g.out _ _ _ (HSG_g.out _ _ _ (HSG_g.out _ _ _ (HSG_g.out _ _ _ HS5.out 14 (.int .i64 0)) 15 (.int .i64 k)) 16 (.bool false)) 17 (.int .i64 0)) 12 (.int .i64 t1)) 13 (.bool true)).fr⟩,A11.mk' hst (.inl rfl) ⟨k,HK.out,rfl⟩,(HSG_g.out _ _ _ (HSG_g.out _ _ _ (HSG_g.out _ _ _ (HSG_g.out _ _ _ (HSG_g.out _ _ _ (HSG_g.out _ _ _ HS5.out 14 (.int .i64 0)) 15 (.int .i64 k)) 16 (.bool false)) 17 (.int .i64 0)) 12 (.int .i64 t1)) 13 (.bool true)).mem,(by rw [← H5.out];exact HW.out.set_state HK.out (fun h=>absurd h (turn_not HT1.out (by omega)))),by omega,Nat.le_refl _,HLL.out ▸ (HSG_g.out _ _ _ (HSG_g.out _ _ _ (HSG_g.out _ _ _ (HSG_g.out _ _ _ (HSG_g.out _ _ _ (HSG_g.out _ _ _ HS5.out 14 (.int .i64 0)) 15 (.int .i64 k)) 16 (.bool false)) 17 (.int .i64 0)) 12 (.int .i64 t1)) 13 (.bool true)).fr⟩
theorem step11_take_end {c:Cf} (hc:c.Ok) {B gm g n:Nat} {w:World} {ws:List Int} (hm:MemIs B w gm ws n) (hw:WOk c ws) (hn:n ≤ 1000000) (hB:B ≤ g) {j wv sv o0 o1 o3:Int} {o2:Bool} {st:Nat} (hg:Is11 c w g ⟨st,j,true,wv,sv,false,o0,o1,o2,o3⟩) (hi:A11 c ⟨st,j,true,wv,sv,false,o0,o1,o2,o3⟩) (hq:∀ k:Nat,k < c.ti→Int.tmod ((st:Int) + j) (c.ti:Int) = (k:Int)→wd ws (c.tk k) ≠ wv) (hq2:j + 1 = c.ti) :
  Calls Try.prog 56 #[.pointer (some ⟨g,0,none⟩),.pointer (some ⟨gm,0,none⟩)] w (P11 c B gm g ws n w):=by
 obtain ⟨AP,cP,AL,cL,hg,hP,hL⟩:=hg
 have HC:=Lib.hid hc
 have HW:=Lib.hid hw
 have HP:=Lib.hid hP
 have HLi:=Lib.hid hL
 have HLe:=Lib.hid (hw.le hc)
 have HI:=Lib.hid hi
 have HO:=Lib.hid hi.o
 have hst:st ≤ 1000:=hi.st
 have HB0_g:=Lib.hid hg
 obtain ⟨L,T,HLL,HTe,HT,HSG_g,HS0⟩:=st1 hm hB hg (by decide) (by decide)
 clear hc hw hg hm hP hL hi
 obtain ⟨h0,h1⟩:0 ≤ j∧j < c.ti:=by rcases HI.out.j with h|h;cases h;exact h
 obtain ⟨k,hk,k1,k2⟩:=claim_k HC.out (st:=st) h0
 have HK:=Lib.hid hk
 have hti:¬ ((c.ti:Int) = 0):=by have:=HC.out.ti1;omega
 have hti0:¬ (c.ti = 0):=by have:=HC.out.ti1;omega
 have hti1:=HC.out.ti1
 have hti2:=HC.out.ti2
 have q0:IntKind.i64.wrap ((st:Int) + j) = (st:Int) + j:=IntWalk.i64_in _ (by omega)
 have q1:IntKind.i64.wrap (k:Int) = (k:Int):=IntWalk.i64_in _ (by omega)
 obtain ⟨p5,hp5⟩:∃ p,c.tk k = p:=⟨_,rfl⟩
 have H5:=Lib.hid hp5
 have H5l:Hid (p5 < ws.length):=Lib.hid (by rw [← hp5];have:=HW.out.tlt hk;omega)
 have HQ:=Lib.hid hq
 clear hp5 hk hq
 obtain ⟨t1,tb,ht1⟩:=turn_ok wv 1
 have HT1:=Lib.hid ht1
 have HQ1:Hid (wd ws p5 ≠ wv):=Lib.hid (by have h:=HQ.out k HK.out k1;rwa [H5.out] at h)
 clear ht1
 have HQ2:=Lib.hid hq2
 clear hq2
 have C_g:=cells_k11 HB0_g.out
 go_enter Try.func56,Try.ntmps56
 go_wp2
 refine ch_b C_g C_g [0,1,2,3,4,5,6,7,8,9,10,11,12,13,14,15] (fun W1 HWd hHeld=>?_)
 have HS1:=dwS HWd HS0
 have HB1_g:Hid (W1.heap[g]? = some (.cells (k11 c AP cP AL cL st j true wv sv false o0 o1 o2 o3) 112 (0,0))):=Lib.hid (by rw [← HWd.out];exact HB0_g.out)
 replace C_g:=cells_k11 HB1_g.out
 clear HWd
 iterate 16 refine ch_s ?_
 refine ch_z ?_
 clear hHeld
 go_wp2_with (first|(go_at_call 61;(with_reducible refine (breadlineref10_Turn.calls wv 1 t1 tb _ HT1.out).mono ?_);rintro e w' ⟨rfl,⟨nd,rfl⟩⟩;generalize hWd:World.drewN W1 nd = W2 at ⊢;have HWd:=Lib.hid hWd;clear hWd;have HS2:Hid (St B L T w gm ws n W2):=Lib.hid (by rw [← HWd.out];exact HS1.out.drewN nd);have HB2_g:=dwH HWd HB1_g;replace C_g:=cells_k11 HB2_g.out;clear HWd))
 refine ch_d C_g C_g [12] [0,1,2,3,4,5,7,8,9,10,11,6,12] (fun W3 HWd hHeld=>?_)
 have HS3:=dwS HWd HS2
 have HB3_g:=dwH HWd HB2_g
 replace C_g:=cells_k11 HB3_g.out
 clear HWd
 iterate 11 refine ch_s ?_
 refine ch_1 fun K hK=>?_
 refine goes_s Try.func52 #[(cA c AP cP AL cL),.int .i64 k] ?_
 refine ((ticket_c HC.out (HP.out.fr HS3.out.fr) (HLi.out.fr HS3.out.fr) (k:=k) (by have:=HK.out;omega))).mono ?_
 rintro e W4 ⟨rfl,hb'⟩
 refine ⟨_,rfl,?_⟩
 have HS4:=Lib.hid (HS3.out.below hb')
 have HB4_g:=Lib.hid (blk_below HB3_g.out hb')
 replace C_g:=cells_k11 HB4_g.out
 rw [H5.out]
 clear hb'
 refine hK.out _ _ C_g ?_;clear hK K hHeld;intro hHeld
 try simp only [Act.put,zq1,zq2,zq3]
 refine ch_last rfl rfl (by kernel_rfl) (by decide) (fun K hK=>?_)
 refine goes_s Try.func72 #[.pointer (some ⟨gm,0,none⟩),.int .i64 p5,.int .i64 wv,.int .i64 t1] ?_
 refine (cas_no_z HS4.out.mem hn HLe.out p5 H5l.out wv t1 _ rfl HQ1.out).mono ?_
 rintro e W5 ⟨rfl,hm',hf'⟩
 refine ⟨_,rfl,?_⟩
 have HS5:=Lib.hid (HS4.out.acc hm' hf' HT.out)
 have HB5_g:=Lib.hid (blk_fr HB4_g.out hf' (by simp) (by decide))
 replace C_g:=cells_k11 HB5_g.out
 clear hm' hf'
 refine hK.out _ _ ?_
 clear hK K
 try simp only [Act.put,zq1,zq2,zq3]
 refine ch_z ?_
 clear hHeld
 go_wp2_with (first|(go_at_call 77;(with_reducible refine (next_end HC.out HS5.out.mem hB HB5_g.out h0 h1 HQ2.out).mono ?_);rintro e W6 ⟨rfl,hg',hm',hf'⟩;have HS6:=Lib.hid (HS5.out.turn hm' hf' (fun p hp hk=>by rw [HTe.out] at hp;rw [List.mem_singleton.1 hp];exact ⟨_,hg'⟩) (fun k hk=>.inl (by rw [HLL.out];exact hk)) HT.out);have HB6_g:Hid (W6.heap[g]? = some (.cells (k11 c AP cP AL cL st ((j + 1)) false wv sv true 3 0 false 0) 112 (0,0))):=Lib.hid (hg');replace C_g:=cells_k11 HB6_g.out;clear hg' hm' hf'))
 go_ret
 exact ⟨true,⟨st,j + 1,false,wv,sv,true,3,0,false,0⟩,ws,_,rfl,⟨AP,cP,AL,cL,HB6_g.out,HP.out.fr HS6.out.fr,HLi.out.fr HS6.out.fr⟩,A11.mk' hst (.inl rfl) ⟨0,by have:=HC.out.ti1;omega,rfl⟩,HS6.out.mem,WTo.refl HW.out,by omega,Nat.le_refl _,HLL.out ▸ HS6.out.fr⟩
theorem step11_take_on {c:Cf} (hc:c.Ok) {B gm g n:Nat} {w:World} {ws:List Int} (hm:MemIs B w gm ws n) (hw:WOk c ws) (hn:n ≤ 1000000) (hB:B ≤ g) {j wv sv o0 o1 o3:Int} {o2:Bool} {st:Nat} (hg:Is11 c w g ⟨st,j,true,wv,sv,false,o0,o1,o2,o3⟩) (hi:A11 c ⟨st,j,true,wv,sv,false,o0,o1,o2,o3⟩) (hq:∀ k:Nat,k < c.ti→Int.tmod ((st:Int) + j) (c.ti:Int) = (k:Int)→wd ws (c.tk k) ≠ wv) (hq2:j + 1 ≠ c.ti) :
  Calls Try.prog 56 #[.pointer (some ⟨g,0,none⟩),.pointer (some ⟨gm,0,none⟩)] w (P11 c B gm g ws n w):=by
 obtain ⟨AP,cP,AL,cL,hg,hP,hL⟩:=hg
 have HC:=Lib.hid hc
 have HW:=Lib.hid hw
 have HP:=Lib.hid hP
 have HLi:=Lib.hid hL
 have HLe:=Lib.hid (hw.le hc)
 have HI:=Lib.hid hi
 have HO:=Lib.hid hi.o
 have hst:st ≤ 1000:=hi.st
 have HB0_g:=Lib.hid hg
 obtain ⟨L,T,HLL,HTe,HT,HSG_g,HS0⟩:=st1 hm hB hg (by decide) (by decide)
 clear hc hw hg hm hP hL hi
 obtain ⟨h0,h1⟩:0 ≤ j∧j < c.ti:=by rcases HI.out.j with h|h;cases h;exact h
 obtain ⟨k,hk,k1,k2⟩:=claim_k HC.out (st:=st) h0
 have HK:=Lib.hid hk
 have hti:¬ ((c.ti:Int) = 0):=by have:=HC.out.ti1;omega
 have hti0:¬ (c.ti = 0):=by have:=HC.out.ti1;omega
 have hti1:=HC.out.ti1
 have hti2:=HC.out.ti2
 have q0:IntKind.i64.wrap ((st:Int) + j) = (st:Int) + j:=IntWalk.i64_in _ (by omega)
 have q1:IntKind.i64.wrap (k:Int) = (k:Int):=IntWalk.i64_in _ (by omega)
 obtain ⟨p5,hp5⟩:∃ p,c.tk k = p:=⟨_,rfl⟩
 have H5:=Lib.hid hp5
 have H5l:Hid (p5 < ws.length):=Lib.hid (by rw [← hp5];have:=HW.out.tlt hk;omega)
 have HQ:=Lib.hid hq
 clear hp5 hk hq
 obtain ⟨t1,tb,ht1⟩:=turn_ok wv 1
 have HT1:=Lib.hid ht1
 have HQ1:Hid (wd ws p5 ≠ wv):=Lib.hid (by have h:=HQ.out k HK.out k1;rwa [H5.out] at h)
 clear ht1
 have HQ2:=Lib.hid hq2
 clear hq2
 have C_g:=cells_k11 HB0_g.out
 go_enter Try.func56,Try.ntmps56
 go_wp2
 refine ch_b C_g C_g [0,1,2,3,4,5,6,7,8,9,10,11,12,13,14,15] (fun W1 HWd hHeld=>?_)
 have HS1:=dwS HWd HS0
 have HB1_g:Hid (W1.heap[g]? = some (.cells (k11 c AP cP AL cL st j true wv sv false o0 o1 o2 o3) 112 (0,0))):=Lib.hid (by rw [← HWd.out];exact HB0_g.out)
 replace C_g:=cells_k11 HB1_g.out
 clear HWd
 iterate 16 refine ch_s ?_
 refine ch_z ?_
 clear hHeld
 go_wp2_with (first|(go_at_call 61;(with_reducible refine (breadlineref10_Turn.calls wv 1 t1 tb _ HT1.out).mono ?_);rintro e w' ⟨rfl,⟨nd,rfl⟩⟩;generalize hWd:World.drewN W1 nd = W2 at ⊢;have HWd:=Lib.hid hWd;clear hWd;have HS2:Hid (St B L T w gm ws n W2):=Lib.hid (by rw [← HWd.out];exact HS1.out.drewN nd);have HB2_g:=dwH HWd HB1_g;replace C_g:=cells_k11 HB2_g.out;clear HWd))
 refine ch_d C_g C_g [12] [0,1,2,3,4,5,7,8,9,10,11,6,12] (fun W3 HWd hHeld=>?_)
 have HS3:=dwS HWd HS2
 have HB3_g:=dwH HWd HB2_g
 replace C_g:=cells_k11 HB3_g.out
 clear HWd
 iterate 11 refine ch_s ?_
 refine ch_1 fun K hK=>?_
 refine goes_s Try.func52 #[(cA c AP cP AL cL),.int .i64 k] ?_
 refine ((ticket_c HC.out (HP.out.fr HS3.out.fr) (HLi.out.fr HS3.out.fr) (k:=k) (by have:=HK.out;omega))).mono ?_
 rintro e W4 ⟨rfl,hb'⟩
 refine ⟨_,rfl,?_⟩
 have HS4:=Lib.hid (HS3.out.below hb')
 have HB4_g:=Lib.hid (blk_below HB3_g.out hb')
 replace C_g:=cells_k11 HB4_g.out
 rw [H5.out]
 clear hb'
 refine hK.out _ _ C_g ?_;clear hK K hHeld;intro hHeld
 try simp only [Act.put,zq1,zq2,zq3]
 refine ch_last rfl rfl (by kernel_rfl) (by decide) (fun K hK=>?_)
 refine goes_s Try.func72 #[.pointer (some ⟨gm,0,none⟩),.int .i64 p5,.int .i64 wv,.int .i64 t1] ?_
 refine (cas_no_z HS4.out.mem hn HLe.out p5 H5l.out wv t1 _ rfl HQ1.out).mono ?_
 rintro e W5 ⟨rfl,hm',hf'⟩
 refine ⟨_,rfl,?_⟩
 have HS5:=Lib.hid (HS4.out.acc hm' hf' HT.out)
 have HB5_g:=Lib.hid (blk_fr HB4_g.out hf' (by simp) (by decide))
 replace C_g:=cells_k11 HB5_g.out
 clear hm' hf'
 refine hK.out _ _ ?_
 clear hK K
 try simp only [Act.put,zq1,zq2,zq3]
 refine ch_z ?_
 clear hHeld
 go_wp2_with (first|(go_at_call 77;(with_reducible refine (next_on HC.out HS5.out.mem hB HB5_g.out h0 h1 HQ2.out).mono ?_);rintro e W6 ⟨rfl,hg',hm',hf'⟩;have HS6:=Lib.hid (HS5.out.turn hm' hf' (fun p hp hk=>by rw [HTe.out] at hp;rw [List.mem_singleton.1 hp];exact ⟨_,hg'⟩) (fun k hk=>.inl (by rw [HLL.out];exact hk)) HT.out);have HB6_g:Hid (W6.heap[g]? = some (.cells (k11 c AP cP AL cL st ((j + 1)) false wv sv false o0 o1 o2 o3) 112 (0,0))):=Lib.hid (hg');replace C_g:=cells_k11 HB6_g.out;clear hg' hm' hf'))
 go_ret
 exact ⟨false,⟨st,j + 1,false,wv,sv,false,o0,o1,o2,o3⟩,ws,_,rfl,⟨AP,cP,AL,cL,HB6_g.out,HP.out.fr HS6.out.fr,HLi.out.fr HS6.out.fr⟩,A11.mk' hst (.inr ⟨by omega,by have:=HQ2.out;omega⟩) HO.out,HS6.out.mem,WTo.refl HW.out,by omega,Nat.le_refl _,HLL.out ▸ HS6.out.fr⟩
theorem step11 {c:Cf} (hc:c.Ok) {B gm g n:Nat} {w:World} {ws:List Int} (hm:MemIs B w gm ws n) (hw:WOk c ws) (hn:n ≤ 1000000) (hB:B ≤ g) {x:S11} (hg:Is11 c w g x) (hi:A11 c x) :
  Calls Try.prog 56 #[.pointer (some ⟨g,0,none⟩),.pointer (some ⟨gm,0,none⟩)] w (P11 c B gm g ws n w):=by
 obtain ⟨st,j,sn,wv,sv,en,o0,o1,o2,o3⟩:=x
 cases en with
 | true=>exact step11_end hc hm hw hn hB hg hi
 | false =>
  have hj:0 ≤ j:=by rcases hi.j with h|h;cases h;exact h.1
  obtain ⟨k,hk,k1,_⟩:=claim_k hc (st:=st) hj
  have hu:∀ k':Nat,Int.tmod ((st:Int) + j) (c.ti:Int) = (k':Int)→k' = k:=fun k' h=>by omega
  cases sn with
  | false =>
   by_cases h1:breadlineref10_State.f (wd ws (c.tk k)) = some 0
   ·exact step11_look_free hc hm hw hn hB hg hi (fun k' _ h=>by rw [hu k' h];exact h1)
   ·by_cases h2:j + 1 = c.ti
    ·exact step11_look_end hc hm hw hn hB hg hi (fun k' _ h=>by rw [hu k' h];exact h1) h2
    ·exact step11_look_on hc hm hw hn hB hg hi (fun k' _ h=>by rw [hu k' h];exact h1) h2
  | true =>
   by_cases h1:wd ws (c.tk k) = wv
   ·exact step11_take_yes hc hm hw hn hB hg hi (fun k' _ h=>by rw [hu k' h];exact h1)
   ·by_cases h2:j + 1 = c.ti
    ·exact step11_take_end hc hm hw hn hB hg hi (fun k' _ h=>by rw [hu k' h];exact h1) h2
    ·exact step11_take_on hc hm hw hn hB hg hi (fun k' _ h=>by rw [hu k' h];exact h1) h2
end Go.Proofs.Ytadblpcjkahikaa.PTraceRuns

