
import Derived.Test.YtadblpcjkahikaaRunsSt
namespace Go.Proofs.Ytadblpcjkahikaa.PTraceRuns
open Go.RowKit Go.Proofs.YtadblpcjkahikaaW.PrintWords Go.Proofs.YtadblpcjkahikaaW.PrintLast Go.Proofs.YtadblpcjkahikaaW.PrintMore
set_option linter.unusedVariables false
set_option linter.unusedSimpArgs false
set_option maxHeartbeats 2000000
set_option maxRecDepth 100000
structure S06 where
 D:Int
 X:Int
 At:Int
 l:Int
 i:Nat
 W:Int
 V:Int
def Is06 (c:Cf) (v:Nat) (w:World) (g:Nat) (s:S06):Prop :=
 w.heap[g]? = some (.cells #[.int .i64 (c.na v (2 + c.S):Nat),.int .i64 c.S,.int .i64 c.ga,.int .i64 s.D,.int .i64 s.X,.int .i64 s.At,.int .i64 s.l,.int .i64 s.i,.int .i64 s.W,.int .i64 s.V] 122 (0,0))
structure A06 (c:Cf) (s:S06):Prop where
 X:0 ≤ s.X
 i:s.i < c.S
 l:s.At = 0 ∨ s.At = 9 ∨ lv c s.l
 at8:s.At = 8→s.l < c.S
 at0:0 ≤ s.At
 at9:s.At ≤ 9
def P06 (c:Cf) (v B gm g:Nat) (ws:List Int) (n:Nat) (w:World) (e:Ending) (w':World):Prop :=
 ∃ b s ws' n',e = .returned (.bool b)∧Is06 c v w' g s∧A06 c s∧MemIs B w' gm ws' n'∧WTo c ws ws'∧n ≤ n'∧n' ≤ n + 1∧Fr B true [g] w w'
theorem pick_ok {x l:Int} {S:Nat} (hx:0 ≤ x) (h1:1 ≤ l) (h2:l ≤ S):∃ r:Nat,breadlineref02_Pick.f x l = some (r:Int)∧r < S:=by
 unfold breadlineref02_Pick.f
 rw [if_neg (by omega)]
 have h3:=Int.tmod_nonneg l hx
 have h4:=Int.tmod_lt_of_pos x (show 0 < l by omega)
 exact ⟨(Int.tmod x l).toNat,by rw [Int.toNat_of_nonneg h3],by omega⟩
theorem A06.mk' {c:Cf} {D X At l W V:Int} {i:Nat} (hX:0 ≤ X) (hi:i < c.S) (hl:At = 0 ∨ At = 9 ∨ lv c l) (h8:At = 8→l < c.S) (h0:0 ≤ At) (h9:At ≤ 9):A06 c ⟨D,X,At,l,i,W,V⟩:=⟨hX,hi,hl,h8,h0,h9⟩
theorem lv.one {c:Cf} {x:Int} (h:lv c x):1 ≤ x∧x ≤ c.S∧x ≤ 8:=by obtain ⟨h1,h2⟩:=h;omega
theorem pre06 {c:Cf} (hc:c.Ok) {v:Nat} {ws:List Int} (hv:v < c.N) (hw:WOk c ws) {D X At l W V:Int} {i:Nat} (hi:A06 c ⟨D,X,At,l,i,W,V⟩):∃ b:Nat,Hid (c.na v (2 + c.S) = b)∧Hid (∀ o,b + o = c.na v (2 + c.S + o))∧Hid (∀ o,2 + c.S + o < c.K→b + o < ws.length)∧Hid (ws.length ≤ 10000) ∧
  (0:Int) ≤ (b:Int)∧(b:Int) ≤ 264∧(0:Int) ≤ (i:Int)∧(i:Int) ≤ 8∧IntKind.i64.wrap ((b:Int) + 4) = (b:Int) + 4∧IntKind.i64.wrap ((b:Int) + 4 + (i:Int)) = (b:Int) + 4 + (i:Int)∧0 ≤ X∧i < c.S∧1 ≤ c.S∧c.S ≤ 8:=by
 have hadd:∀ o,c.na v (2 + c.S) + o = c.na v (2 + c.S + o):=fun o=>by unfold Cf.na;omega
 have h1:=hc.Sle
 have h2:i < c.S:=hi.i
 have hK:c.K = 6 + 2 * c.S:=rfl
 have h3:=Cf.na_lt (c:=c) hv (o:=2 + c.S) (by omega)
 have h4:=Cf.NK_le hc
 exact ⟨_,Lib.hid rfl,Lib.hid hadd,Lib.hid (fun o ho=>by rw [hadd];exact hw.lt hv ho),Lib.hid (hw.le hc),by omega,by omega,by omega,by omega,IntWalk.i64_in _ (by omega),IntWalk.i64_in _ (by omega),hi.X,h2,h1.1,h1.2⟩
theorem st06 {c:Cf} {v B gm g n b:Nat} {w:World} {ws:List Int} {D X At l W V:Int} {i:Nat} (hm:MemIs B w gm ws n) (hB:B ≤ g) (hb:c.na v (2 + c.S) = b) (hg:Is06 c v w g ⟨D,X,At,l,i,W,V⟩) :
  Hid (w.heap[g]? = some (.cells #[.int .i64 b,.int .i64 c.S,.int .i64 c.ga,.int .i64 D,.int .i64 X,.int .i64 At,.int .i64 l,.int .i64 i,.int .i64 W,.int .i64 V] 122 (0,0)))∧∃ L T,Hid (L = [g])∧Hid (T = [(g,122)])∧Hid (∀ p ∈ T,p.2 ≠ 77∧p.2 ≠ 118) ∧
   Hid (∀ (ws:List Int) (n:Nat) (W:World),St B L T w gm ws n W→∀ (i:Nat) (u:Value),St B L T w gm ws n (W.setCell ⟨g,i,none⟩ u))∧Hid (St B L T w gm ws n w):=by
 subst hb;exact ⟨Lib.hid hg,st1 hm hB hg (by decide) (by decide)⟩
theorem miss_lt {c:Cf} {B gm g n b:Nat} {w:World} {ws:List Int} (hm:MemIs B w gm ws n) (hB:B ≤ g) {D X At l W V:Int} {i:Nat} (hg:w.heap[g]? = some (.cells #[.int .i64 b,.int .i64 c.S,.int .i64 c.ga,.int .i64 D,.int .i64 X,.int .i64 At,.int .i64 l,.int .i64 i,.int .i64 W,.int .i64 V] 122 (0,0))) (hq:l < (c.S:Int)) :
  Calls Try.prog 86 #[.pointer (some ⟨g,0,none⟩)] w fun e w'=>e = .returned (.tuple #[])∧w'.heap[g]? = some (.cells #[.int .i64 b,.int .i64 c.S,.int .i64 c.ga,.int .i64 D,.int .i64 X,.int .i64 8,.int .i64 l,.int .i64 i,.int .i64 W,.int .i64 V] 122 (0,0))∧MemIs B w' gm ws n∧Fr B true [g] w w':=by
 have HB0_g:=Lib.hid hg
 obtain ⟨L,T,HLL,HTe,HT,HSG_g,HS0⟩:=st1 hm hB hg (by decide) (by decide)
 clear hm hg
 have d1:decide (l < (c.S:Int)) = true:=decide_eq_true hq
 clear hq
 have C_g:=cells10 HB0_g.out
 go_enter Try.func86,Try.ntmps86
 go_wp2
 refine ch_b C_g C_g [0,1,2,3,4,5,6,7,8] (fun W1 HWd hHeld=>?_)
 have HS1:=dwS HWd HS0
 have HB1_g:Hid (W1.heap[g]? = some (.cells (#[.int .i64 b,.int .i64 c.S,.int .i64 c.ga,.int .i64 D,.int .i64 X,.int .i64 At,.int .i64 l,.int .i64 i,.int .i64 W,.int .i64 V]:Array Value) 122 (0,0))):=Lib.hid (by rw [← HWd.out];exact HB0_g.out)
 replace C_g:=cells10 HB1_g.out
 clear HWd
 iterate 9 refine ch_s ?_
 refine ch_z ?_
 clear hHeld
 go_wp2
 go_end0
 exact ⟨rfl,(blk_set' HB1_g.out 5 (.int .i64 8) rfl),(HSG_g.out _ _ _ HS1.out 5 (.int .i64 8)).mem,HLL.out ▸ (HSG_g.out _ _ _ HS1.out 5 (.int .i64 8)).fr⟩
theorem miss_ge {c:Cf} {B gm g n b:Nat} {w:World} {ws:List Int} (hm:MemIs B w gm ws n) (hB:B ≤ g) {D X At l W V:Int} {i:Nat} (hg:w.heap[g]? = some (.cells #[.int .i64 b,.int .i64 c.S,.int .i64 c.ga,.int .i64 D,.int .i64 X,.int .i64 At,.int .i64 l,.int .i64 i,.int .i64 W,.int .i64 V] 122 (0,0))) {X':Int} (hq:¬ l < (c.S:Int)) (hr:breadlineref02_Next.f X = some X') :
  Calls Try.prog 86 #[.pointer (some ⟨g,0,none⟩)] w fun e w'=>e = .returned (.tuple #[])∧w'.heap[g]? = some (.cells #[.int .i64 b,.int .i64 c.S,.int .i64 c.ga,.int .i64 D,.int .i64 X',.int .i64 0,.int .i64 l,.int .i64 i,.int .i64 W,.int .i64 V] 122 (0,0))∧MemIs B w' gm ws n∧Fr B true [g] w w':=by
 have HB0_g:=Lib.hid hg
 obtain ⟨L,T,HLL,HTe,HT,HSG_g,HS0⟩:=st1 hm hB hg (by decide) (by decide)
 clear hm hg
 have d1:decide (l < (c.S:Int)) = false:=decide_eq_false hq
 have HR:=Lib.hid hr
 clear hq hr
 have C_g:=cells10 HB0_g.out
 go_enter Try.func86,Try.ntmps86
 go_wp2
 refine ch_b C_g C_g [0,1,2,3,4,5,6,7,8] (fun W1 HWd hHeld=>?_)
 have HS1:=dwS HWd HS0
 have HB1_g:Hid (W1.heap[g]? = some (.cells (#[.int .i64 b,.int .i64 c.S,.int .i64 c.ga,.int .i64 D,.int .i64 X,.int .i64 At,.int .i64 l,.int .i64 i,.int .i64 W,.int .i64 V]:Array Value) 122 (0,0))):=Lib.hid (by rw [← HWd.out];exact HB0_g.out)
 replace C_g:=cells10 HB1_g.out
 clear HWd
 iterate 9 refine ch_s ?_
 refine ch_z ?_
 clear hHeld
 go_wp2_with (first|(go_at_call 87;(with_reducible refine (breadlineref02_Next.calls X X' _ HR.out).mono ?_);rintro e w' ⟨rfl,⟨nd,rfl⟩⟩;generalize hWd:World.drewN W1 nd = W2 at ⊢;have HWd:=Lib.hid hWd;clear hWd;have HS2:Hid (St B L T w gm ws n W2):=Lib.hid (by rw [← HWd.out];exact HS1.out.drewN nd);have HB2_g:=dwH HWd HB1_g;replace C_g:=cells10 HB2_g.out;clear HWd))
 go_end0
 exact ⟨rfl,(blk_set' (blk_set' HB2_g.out 4 (.int .i64 X') rfl) 5 (.int .i64 0) rfl),(HSG_g.out _ _ _ (HSG_g.out _ _ _ HS2.out 4 (.int .i64 X')) 5 (.int .i64 0)).mem,HLL.out ▸ (HSG_g.out _ _ _ (HSG_g.out _ _ _ HS2.out 4 (.int .i64 X')) 5 (.int .i64 0)).fr⟩
theorem step06_0 {c:Cf} (hc:c.Ok) {v B gm g n:Nat} {w:World} {ws:List Int} (hv:v < c.N) (hm:MemIs B w gm ws n) (hw:WOk c ws) (hn:n ≤ 1000000) (hB:B ≤ g) {D X l W V:Int} {i:Nat} (hg:Is06 c v w g ⟨D,X,0,l,i,W,V⟩) (hi:A06 c ⟨D,X,0,l,i,W,V⟩) :
  Calls Try.prog 66 #[.pointer (some ⟨g,0,none⟩),.pointer (some ⟨gm,0,none⟩)] w (P06 c v B gm g ws n w):=by
 have HC:=Lib.hid hc
 have HW:=Lib.hid hw
 have HI:=Lib.hid hi
 obtain ⟨b,HBv,HA,HL,HLe,b0,b1,i0,i1,q1,q2,hX0,hiS,hS1,hS8⟩:=pre06 hc hv hw hi
 obtain ⟨HB0_g,L,T,HLL,HTe,HT,HSG_g,HS0⟩:=st06 hm hB HBv.out hg
 clear hc hw hi hg hm
 have hlv:=HW.out.live v hv
 rw [show 5 + c.S = 2 + c.S + 3 by omega,← HA.out] at hlv
 obtain ⟨l1,hl1⟩:∃ l1,wd ws (b + 3) = l1:=⟨_,rfl⟩
 rw [hl1] at hlv
 obtain ⟨g1,g2,g3⟩:=hlv.one
 obtain ⟨r,hr,hr1⟩:=pick_ok hX0 g1 g2
 have HR:=Lib.hid hr
 have HLV:=Lib.hid hlv
 have HL1:=Lib.hid hl1
 clear hr hlv hl1
 have C_g:=cells10 HB0_g.out
 go_enter Try.func66,Try.ntmps66
 go_wp2
 refine ch_b C_g C_g [0,1,2,3,4,5,6,7,8,9,10] (fun W1 HWd hHeld=>?_)
 have HS1:=dwS HWd HS0
 have HB1_g:Hid (W1.heap[g]? = some (.cells (#[.int .i64 b,.int .i64 c.S,.int .i64 c.ga,.int .i64 D,.int .i64 X,.int .i64 0,.int .i64 l,.int .i64 i,.int .i64 W,.int .i64 V]:Array Value) 122 (0,0))):=Lib.hid (by rw [← HWd.out];exact HB0_g.out)
 replace C_g:=cells10 HB1_g.out
 clear HWd
 iterate 11 refine ch_s ?_
 refine ch_z ?_
 clear hHeld
 go_wp2_with (first|(go_at_call 68;(with_reducible refine ((load_z HS1.out.mem hn HLe.out (b + 3) (HL.out 3 (by have:c.K = 6 + 2 * c.S:=rfl;omega)) _ (by omega))).mono ?_);rintro e W2 ⟨rfl,hm',hf'⟩;have HS2:=Lib.hid (HS1.out.acc hm' hf' HT.out);have HB2_g:=Lib.hid (blk_fr HB1_g.out hf' (by simp) (by decide));replace C_g:=cells10 HB2_g.out;clear hm' hf';rw [HL1.out]))
 generalize hWd:(World.setCell W2 ⟨g,6,none⟩ (.int .i64 l1)) = W3 at ⊢
 have HWd:=Lib.hid hWd
 clear hWd
 have HS3:Hid (St B L T w gm ws (n + 1) W3):=Lib.hid (by rw [← HWd.out];exact (HSG_g.out _ _ _ HS2.out 6 (.int .i64 l1)))
 have HB3_g:Hid (W3.heap[g]? = some (.cells (#[.int .i64 b,.int .i64 c.S,.int .i64 c.ga,.int .i64 D,.int .i64 X,.int .i64 0,.int .i64 l1,.int .i64 i,.int .i64 W,.int .i64 V]:Array Value) 122 (0,0))):=Lib.hid (by rw [← HWd.out];exact (blk_set' HB2_g.out 6 (.int .i64 l1) rfl))
 replace C_g:=cells10 HB3_g.out
 clear HWd
 refine ch_d C_g C_g [12] [0,1,2,3,4,5,6,7,8,9,10,11,12] (fun W4 HWd hHeld=>?_)
 have HS4:=dwS HWd HS3
 have HB4_g:=dwH HWd HB3_g
 replace C_g:=cells10 HB4_g.out
 clear HWd
 iterate 9 refine ch_s ?_
 refine ch_1 fun K hK=>?_
 refine goes_s Try.func84 #[.int .i64 X,.int .i64 l1] ?_
 refine (breadlineref02_Pick.calls X l1 r _ HR.out).mono ?_
 rintro e w' ⟨rfl,⟨nd,rfl⟩⟩
 refine ⟨_,rfl,?_⟩
 generalize hWd:World.drewN W4 nd = W5 at ⊢
 have HWd:=Lib.hid hWd
 clear hWd
 have HS5:Hid (St B L T w gm ws (n + 1) W5):=Lib.hid (by rw [← HWd.out];exact HS4.out.drewN nd)
 have HB5_g:=dwH HWd HB4_g
 replace C_g:=cells10 HB5_g.out
 clear HWd
 refine hK.out _ _ C_g ?_;clear hK K hHeld;intro hHeld
 try simp only [Act.put,zq1,zq2,zq3]
 iterate 2 refine ch_s ?_
 refine ch_last rfl rfl (by kernel_rfl) (by decide) (fun K hK=>?_)
 refine skip_ (by rfl) rfl (by go_simp;first|rfl|exact ⟨rfl,rfl⟩) ?_
 refine hK.out _ _ ?_
 clear hK K
 try simp only [Act.put,zq1,zq2,zq3]
 refine ch_z ?_
 clear hHeld
 go_wp2
 go_ret
 refine ⟨false,⟨D,X,1,l1,r,W,V⟩,ws,_,rfl,?_,A06.mk' hX0 hr1 (.inr (.inr HLV.out)) (fun h=>by omega) (by decide) (by decide),(HSG_g.out _ _ _ (HSG_g.out _ _ _ HS5.out 7 (.int .i64 r)) 5 (.int .i64 1)).mem,WTo.refl HW.out,by omega,Nat.le_refl _,HLL.out ▸ (HSG_g.out _ _ _ (HSG_g.out _ _ _ HS5.out 7 (.int .i64 r)) 5 (.int .i64 1)).fr⟩
 unfold Is06;rw [HBv.out];exact (blk_set' (blk_set' HB5_g.out 7 (.int .i64 r) rfl) 5 (.int .i64 1) rfl)
theorem step06_1_0 {c:Cf} (hc:c.Ok) {v B gm g n:Nat} {w:World} {ws:List Int} (hv:v < c.N) (hm:MemIs B w gm ws n) (hw:WOk c ws) (hn:n ≤ 1000000) (hB:B ≤ g) {D X l W V:Int} {i:Nat} (hg:Is06 c v w g ⟨D,X,1,l,i,W,V⟩) (hi:A06 c ⟨D,X,1,l,i,W,V⟩) (hq:IntKind.i64.wrap ((breadlineref01_Value.f (wd ws (c.na v (2 + c.S) + (4 + i)))).getD 0 + D) ≤ -c.ga) :
  Calls Try.prog 66 #[.pointer (some ⟨g,0,none⟩),.pointer (some ⟨gm,0,none⟩)] w (P06 c v B gm g ws n w):=by
 have HC:=Lib.hid hc
 have HW:=Lib.hid hw
 have HI:=Lib.hid hi
 obtain ⟨b,HBv,HA,HL,HLe,b0,b1,i0,i1,q1,q2,hX0,hiS,hS1,hS8⟩:=pre06 hc hv hw hi
 obtain ⟨HB0_g,L,T,HLL,HTe,HT,HSG_g,HS0⟩:=st06 hm hB HBv.out hg
 clear hc hw hi hg hm
 rw [HBv.out] at hq
 have HLv:Hid (lv c l):=Lib.hid (by rcases HI.out.l with h|h|h;exact absurd (show (1:Int) = 0 from h) (by decide);exact absurd (show (1:Int) = 9 from h) (by decide);exact h)
 obtain ⟨w1,hw1⟩:∃ w1,wd ws (b + (4 + i)) = w1:=⟨_,rfl⟩
 have HW1:=Lib.hid hw1
 obtain ⟨vl,hvl⟩:=value_ok w1
 have HVL:=Lib.hid hvl
 rw [hw1,hvl] at hq
 clear hw1 hvl
 obtain ⟨V1,hV1⟩:∃ V1,IntKind.i64.wrap (vl + D) = V1:=⟨_,rfl⟩
 have hV2:wrap64 (vl + D) = V1:=by rw [← hV1,i64_w]
 simp only [Option.getD_some,hV1] at hq
 have hga1:=HC.out.ga1
 have hga2:=HC.out.ga2
 have q3:IntKind.i64.wrap (-c.ga) = -c.ga:=IntWalk.i64_in _ (by omega)
 have q4:wrap64 (-c.ga) = -c.ga:=by unfold wrap64;omega
 have d1:decide (-c.ga < V1) = false:=decide_eq_false (by omega)
 clear hq hga1 hga2
 have C_g:=cells10 HB0_g.out
 go_enter Try.func66,Try.ntmps66
 go_wp2
 refine ch_b C_g C_g [0,1,2,3,4,5,6,7,8,9,10] (fun W1 HWd hHeld=>?_)
 have HS1:=dwS HWd HS0
 have HB1_g:Hid (W1.heap[g]? = some (.cells (#[.int .i64 b,.int .i64 c.S,.int .i64 c.ga,.int .i64 D,.int .i64 X,.int .i64 1,.int .i64 l,.int .i64 i,.int .i64 W,.int .i64 V]:Array Value) 122 (0,0))):=Lib.hid (by rw [← HWd.out];exact HB0_g.out)
 replace C_g:=cells10 HB1_g.out
 clear HWd
 iterate 11 refine ch_s ?_
 refine ch_z ?_
 clear hHeld
 go_wp2_with (first|(go_at_call 68;(with_reducible refine ((load_z HS1.out.mem hn HLe.out (b + (4 + i)) (HL.out (4 + i) (by have:c.K = 6 + 2 * c.S:=rfl;omega)) _ (by omega))).mono ?_);rintro e W2 ⟨rfl,hm',hf'⟩;have HS2:=Lib.hid (HS1.out.acc hm' hf' HT.out);have HB2_g:=Lib.hid (blk_fr HB1_g.out hf' (by simp) (by decide));replace C_g:=cells10 HB2_g.out;clear hm' hf';rw [HW1.out]))
 generalize hWd:(World.setCell W2 ⟨g,8,none⟩ (.int .i64 w1)) = W3 at ⊢
 have HWd:=Lib.hid hWd
 clear hWd
 have HS3:Hid (St B L T w gm ws (n + 1) W3):=Lib.hid (by rw [← HWd.out];exact (HSG_g.out _ _ _ HS2.out 8 (.int .i64 w1)))
 have HB3_g:Hid (W3.heap[g]? = some (.cells (#[.int .i64 b,.int .i64 c.S,.int .i64 c.ga,.int .i64 D,.int .i64 X,.int .i64 1,.int .i64 l,.int .i64 i,.int .i64 w1,.int .i64 V]:Array Value) 122 (0,0))):=Lib.hid (by rw [← HWd.out];exact (blk_set' HB2_g.out 8 (.int .i64 w1) rfl))
 replace C_g:=cells10 HB3_g.out
 clear HWd
 refine ch_d C_g C_g [13] [0,1,2,3,4,6,7,8,9,5,10,11,12,13] (fun W4 HWd hHeld=>?_)
 have HS4:=dwS HWd HS3
 have HB4_g:=dwH HWd HB3_g
 replace C_g:=cells10 HB4_g.out
 clear HWd
 iterate 9 refine ch_s ?_
 refine ch_1 fun K hK=>?_
 refine goes_s Try.func85 #[.int .i64 w1] ?_
 refine (breadlineref01_Value.calls w1 vl _ HVL.out).mono ?_
 rintro e w' ⟨rfl,⟨nd,rfl⟩⟩
 refine ⟨_,rfl,?_⟩
 generalize hWd:World.drewN W4 nd = W5 at ⊢
 have HWd:=Lib.hid hWd
 clear hWd
 have HS5:Hid (St B L T w gm ws (n + 1) W5):=Lib.hid (by rw [← HWd.out];exact HS4.out.drewN nd)
 have HB5_g:=dwH HWd HB4_g
 replace C_g:=cells10 HB5_g.out
 clear HWd
 refine hK.out _ _ C_g ?_;clear hK K hHeld;intro hHeld
 try simp only [Act.put,zq1,zq2,zq3]
 iterate 3 refine ch_s ?_
 refine ch_last rfl rfl (by kernel_rfl) (by decide) (fun K hK=>?_)
 refine skip_ (by rfl) rfl (by go_simp;first|rfl|exact ⟨rfl,rfl⟩) ?_
 refine hK.out _ _ ?_
 clear hK K
 try simp only [Act.put,zq1,zq2,zq3]
 refine ch_z ?_
 clear hHeld
 go_wp2
 generalize hWd:(World.setCell (World.setCell W5 ⟨g,9,none⟩ (.int .i64 V1)) ⟨g,5,none⟩ (.int .i64 3)) = W6 at ⊢
 have HWd:=Lib.hid hWd
 clear hWd
 have HS6:Hid (St B L T w gm ws (n + 1) W6):=Lib.hid (by rw [← HWd.out];exact (HSG_g.out _ _ _ (HSG_g.out _ _ _ HS5.out 9 (.int .i64 V1)) 5 (.int .i64 3)))
 have HB6_g:Hid (W6.heap[g]? = some (.cells (#[.int .i64 b,.int .i64 c.S,.int .i64 c.ga,.int .i64 D,.int .i64 X,.int .i64 3,.int .i64 l,.int .i64 i,.int .i64 w1,.int .i64 V1]:Array Value) 122 (0,0))):=Lib.hid (by rw [← HWd.out];exact (blk_set' (blk_set' HB5_g.out 9 (.int .i64 V1) rfl) 5 (.int .i64 3) rfl))
 replace C_g:=cells10 HB6_g.out
 clear HWd
 refine ch_b C_g C_g [0,1,2,3,4,5,6,7,8,9,10,11,12,13,14,15,16,17,18,19,20] (fun W7 HWd hHeld=>?_)
 have HS7:=dwS HWd HS6
 have HB7_g:=dwH HWd HB6_g
 replace C_g:=cells10 HB7_g.out
 clear HWd
 iterate 11 refine ch_s ?_
 iterate 9
  refine ch_skip rfl rfl (by kernel_rfl) (fun _ _ _ h=>h) (by rfl) rfl ?_
  try simp only [Act.put,zq1,zq2,zq3]
 refine ch_s ?_
 refine ch_z ?_
 clear hHeld
 go_wp2
 go_ret
 refine ⟨false,⟨D,X,3,l,i,w1,V1⟩,ws,_,rfl,?_,A06.mk' hX0 hiS (.inr (.inr HLv.out)) (fun h=>by omega) (by decide) (by decide),HS7.out.mem,WTo.refl HW.out,by omega,Nat.le_refl _,HLL.out ▸ HS7.out.fr⟩
 unfold Is06;rw [HBv.out];exact HB7_g.out
theorem step06_1_1 {c:Cf} (hc:c.Ok) {v B gm g n:Nat} {w:World} {ws:List Int} (hv:v < c.N) (hm:MemIs B w gm ws n) (hw:WOk c ws) (hn:n ≤ 1000000) (hB:B ≤ g) {D X l W V:Int} {i:Nat} (hg:Is06 c v w g ⟨D,X,1,l,i,W,V⟩) (hi:A06 c ⟨D,X,1,l,i,W,V⟩) (hq:-c.ga < IntKind.i64.wrap ((breadlineref01_Value.f (wd ws (c.na v (2 + c.S) + (4 + i)))).getD 0 + D)∧c.ga ≤ IntKind.i64.wrap ((breadlineref01_Value.f (wd ws (c.na v (2 + c.S) + (4 + i)))).getD 0 + D)) :
  Calls Try.prog 66 #[.pointer (some ⟨g,0,none⟩),.pointer (some ⟨gm,0,none⟩)] w (P06 c v B gm g ws n w):=by
 have HC:=Lib.hid hc
 have HW:=Lib.hid hw
 have HI:=Lib.hid hi
 obtain ⟨b,HBv,HA,HL,HLe,b0,b1,i0,i1,q1,q2,hX0,hiS,hS1,hS8⟩:=pre06 hc hv hw hi
 obtain ⟨HB0_g,L,T,HLL,HTe,HT,HSG_g,HS0⟩:=st06 hm hB HBv.out hg
 clear hc hw hi hg hm
 rw [HBv.out] at hq
 have HLv:Hid (lv c l):=Lib.hid (by rcases HI.out.l with h|h|h;exact absurd (show (1:Int) = 0 from h) (by decide);exact absurd (show (1:Int) = 9 from h) (by decide);exact h)
 obtain ⟨w1,hw1⟩:∃ w1,wd ws (b + (4 + i)) = w1:=⟨_,rfl⟩
 have HW1:=Lib.hid hw1
 obtain ⟨vl,hvl⟩:=value_ok w1
 have HVL:=Lib.hid hvl
 rw [hw1,hvl] at hq
 clear hw1 hvl
 obtain ⟨V1,hV1⟩:∃ V1,IntKind.i64.wrap (vl + D) = V1:=⟨_,rfl⟩
 have hV2:wrap64 (vl + D) = V1:=by rw [← hV1,i64_w]
 simp only [Option.getD_some,hV1] at hq
 have hga1:=HC.out.ga1
 have hga2:=HC.out.ga2
 have q3:IntKind.i64.wrap (-c.ga) = -c.ga:=IntWalk.i64_in _ (by omega)
 have q4:wrap64 (-c.ga) = -c.ga:=by unfold wrap64;omega
 have d1:decide (-c.ga < V1) = true:=decide_eq_true (by omega)
 have d2:decide (V1 < c.ga) = false:=decide_eq_false (by omega)
 clear hq hga1 hga2
 have C_g:=cells10 HB0_g.out
 go_enter Try.func66,Try.ntmps66
 go_wp2
 refine ch_b C_g C_g [0,1,2,3,4,5,6,7,8,9,10] (fun W1 HWd hHeld=>?_)
 have HS1:=dwS HWd HS0
 have HB1_g:Hid (W1.heap[g]? = some (.cells (#[.int .i64 b,.int .i64 c.S,.int .i64 c.ga,.int .i64 D,.int .i64 X,.int .i64 1,.int .i64 l,.int .i64 i,.int .i64 W,.int .i64 V]:Array Value) 122 (0,0))):=Lib.hid (by rw [← HWd.out];exact HB0_g.out)
 replace C_g:=cells10 HB1_g.out
 clear HWd
 iterate 11 refine ch_s ?_
 refine ch_z ?_
 clear hHeld
 go_wp2_with (first|(go_at_call 68;(with_reducible refine ((load_z HS1.out.mem hn HLe.out (b + (4 + i)) (HL.out (4 + i) (by have:c.K = 6 + 2 * c.S:=rfl;omega)) _ (by omega))).mono ?_);rintro e W2 ⟨rfl,hm',hf'⟩;have HS2:=Lib.hid (HS1.out.acc hm' hf' HT.out);have HB2_g:=Lib.hid (blk_fr HB1_g.out hf' (by simp) (by decide));replace C_g:=cells10 HB2_g.out;clear hm' hf';rw [HW1.out]))
 generalize hWd:(World.setCell W2 ⟨g,8,none⟩ (.int .i64 w1)) = W3 at ⊢
 have HWd:=Lib.hid hWd
 clear hWd
 have HS3:Hid (St B L T w gm ws (n + 1) W3):=Lib.hid (by rw [← HWd.out];exact (HSG_g.out _ _ _ HS2.out 8 (.int .i64 w1)))
 have HB3_g:Hid (W3.heap[g]? = some (.cells (#[.int .i64 b,.int .i64 c.S,.int .i64 c.ga,.int .i64 D,.int .i64 X,.int .i64 1,.int .i64 l,.int .i64 i,.int .i64 w1,.int .i64 V]:Array Value) 122 (0,0))):=Lib.hid (by rw [← HWd.out];exact (blk_set' HB2_g.out 8 (.int .i64 w1) rfl))
 replace C_g:=cells10 HB3_g.out
 clear HWd
 refine ch_d C_g C_g [13] [0,1,2,3,4,6,7,8,9,5,10,11,12,13] (fun W4 HWd hHeld=>?_)
 have HS4:=dwS HWd HS3
 have HB4_g:=dwH HWd HB3_g
 replace C_g:=cells10 HB4_g.out
 clear HWd
 iterate 9 refine ch_s ?_
 refine ch_1 fun K hK=>?_
 refine goes_s Try.func85 #[.int .i64 w1] ?_
 refine (breadlineref01_Value.calls w1 vl _ HVL.out).mono ?_
 rintro e w' ⟨rfl,⟨nd,rfl⟩⟩
 refine ⟨_,rfl,?_⟩
 generalize hWd:World.drewN W4 nd = W5 at ⊢
 have HWd:=Lib.hid hWd
 clear hWd
 have HS5:Hid (St B L T w gm ws (n + 1) W5):=Lib.hid (by rw [← HWd.out];exact HS4.out.drewN nd)
 have HB5_g:=dwH HWd HB4_g
 replace C_g:=cells10 HB5_g.out
 clear HWd
 refine hK.out _ _ C_g ?_;clear hK K hHeld;intro hHeld
 try simp only [Act.put,zq1,zq2,zq3]
 iterate 3 refine ch_s ?_
 refine ch_last rfl rfl (by kernel_rfl) (by decide) (fun K hK=>?_)
 refine skip_ (by rfl) rfl (by go_simp;first|rfl|exact ⟨rfl,rfl⟩) ?_
 refine hK.out _ _ ?_
 clear hK K
 try simp only [Act.put,zq1,zq2,zq3]
 refine ch_z ?_
 clear hHeld
 go_wp2
 generalize hWd:(World.setCell (World.setCell W5 ⟨g,9,none⟩ (.int .i64 V1)) ⟨g,5,none⟩ (.int .i64 3)) = W6 at ⊢
 have HWd:=Lib.hid hWd
 clear hWd
 have HS6:Hid (St B L T w gm ws (n + 1) W6):=Lib.hid (by rw [← HWd.out];exact (HSG_g.out _ _ _ (HSG_g.out _ _ _ HS5.out 9 (.int .i64 V1)) 5 (.int .i64 3)))
 have HB6_g:Hid (W6.heap[g]? = some (.cells (#[.int .i64 b,.int .i64 c.S,.int .i64 c.ga,.int .i64 D,.int .i64 X,.int .i64 3,.int .i64 l,.int .i64 i,.int .i64 w1,.int .i64 V1]:Array Value) 122 (0,0))):=Lib.hid (by rw [← HWd.out];exact (blk_set' (blk_set' HB5_g.out 9 (.int .i64 V1) rfl) 5 (.int .i64 3) rfl))
 replace C_g:=cells10 HB6_g.out
 clear HWd
 refine ch_b C_g C_g [0,1,2,3,4,5,6,7,8,9,10,11,12,13,14,15,16,17,18,19,20] (fun W7 HWd hHeld=>?_)
 have HS7:=dwS HWd HS6
 have HB7_g:=dwH HWd HB6_g
 replace C_g:=cells10 HB7_g.out
 clear HWd
 iterate 21 refine ch_s ?_
 refine ch_z ?_
 clear hHeld
 go_wp2
 go_ret
 refine ⟨false,⟨D,X,3,l,i,w1,V1⟩,ws,_,rfl,?_,A06.mk' hX0 hiS (.inr (.inr HLv.out)) (fun h=>by omega) (by decide) (by decide),HS7.out.mem,WTo.refl HW.out,by omega,Nat.le_refl _,HLL.out ▸ HS7.out.fr⟩
 unfold Is06;rw [HBv.out];exact HB7_g.out
theorem step06_1_2 {c:Cf} (hc:c.Ok) {v B gm g n:Nat} {w:World} {ws:List Int} (hv:v < c.N) (hm:MemIs B w gm ws n) (hw:WOk c ws) (hn:n ≤ 1000000) (hB:B ≤ g) {D X l W V:Int} {i:Nat} (hg:Is06 c v w g ⟨D,X,1,l,i,W,V⟩) (hi:A06 c ⟨D,X,1,l,i,W,V⟩) (hq:-c.ga < IntKind.i64.wrap ((breadlineref01_Value.f (wd ws (c.na v (2 + c.S) + (4 + i)))).getD 0 + D)∧IntKind.i64.wrap ((breadlineref01_Value.f (wd ws (c.na v (2 + c.S) + (4 + i)))).getD 0 + D) < c.ga) :
  Calls Try.prog 66 #[.pointer (some ⟨g,0,none⟩),.pointer (some ⟨gm,0,none⟩)] w (P06 c v B gm g ws n w):=by
 have HC:=Lib.hid hc
 have HW:=Lib.hid hw
 have HI:=Lib.hid hi
 obtain ⟨b,HBv,HA,HL,HLe,b0,b1,i0,i1,q1,q2,hX0,hiS,hS1,hS8⟩:=pre06 hc hv hw hi
 obtain ⟨HB0_g,L,T,HLL,HTe,HT,HSG_g,HS0⟩:=st06 hm hB HBv.out hg
 clear hc hw hi hg hm
 rw [HBv.out] at hq
 have HLv:Hid (lv c l):=Lib.hid (by rcases HI.out.l with h|h|h;exact absurd (show (1:Int) = 0 from h) (by decide);exact absurd (show (1:Int) = 9 from h) (by decide);exact h)
 obtain ⟨w1,hw1⟩:∃ w1,wd ws (b + (4 + i)) = w1:=⟨_,rfl⟩
 have HW1:=Lib.hid hw1
 obtain ⟨vl,hvl⟩:=value_ok w1
 have HVL:=Lib.hid hvl
 rw [hw1,hvl] at hq
 clear hw1 hvl
 obtain ⟨V1,hV1⟩:∃ V1,IntKind.i64.wrap (vl + D) = V1:=⟨_,rfl⟩
 have hV2:wrap64 (vl + D) = V1:=by rw [← hV1,i64_w]
 simp only [Option.getD_some,hV1] at hq
 have hga1:=HC.out.ga1
 have hga2:=HC.out.ga2
 have q3:IntKind.i64.wrap (-c.ga) = -c.ga:=IntWalk.i64_in _ (by omega)
 have q4:wrap64 (-c.ga) = -c.ga:=by unfold wrap64;omega
 have d1:decide (-c.ga < V1) = true:=decide_eq_true (by omega)
 have d2:decide (V1 < c.ga) = true:=decide_eq_true (by omega)
 clear hq hga1 hga2
 have C_g:=cells10 HB0_g.out
 go_enter Try.func66,Try.ntmps66
 go_wp2
 refine ch_b C_g C_g [0,1,2,3,4,5,6,7,8,9,10] (fun W1 HWd hHeld=>?_)
 have HS1:=dwS HWd HS0
 have HB1_g:Hid (W1.heap[g]? = some (.cells (#[.int .i64 b,.int .i64 c.S,.int .i64 c.ga,.int .i64 D,.int .i64 X,.int .i64 1,.int .i64 l,.int .i64 i,.int .i64 W,.int .i64 V]:Array Value) 122 (0,0))):=Lib.hid (by rw [← HWd.out];exact HB0_g.out)
 replace C_g:=cells10 HB1_g.out
 clear HWd
 iterate 11 refine ch_s ?_
 refine ch_z ?_
 clear hHeld
 go_wp2_with (first|(go_at_call 68;(with_reducible refine ((load_z HS1.out.mem hn HLe.out (b + (4 + i)) (HL.out (4 + i) (by have:c.K = 6 + 2 * c.S:=rfl;omega)) _ (by omega))).mono ?_);rintro e W2 ⟨rfl,hm',hf'⟩;have HS2:=Lib.hid (HS1.out.acc hm' hf' HT.out);have HB2_g:=Lib.hid (blk_fr HB1_g.out hf' (by simp) (by decide));replace C_g:=cells10 HB2_g.out;clear hm' hf';rw [HW1.out]))
 generalize hWd:(World.setCell W2 ⟨g,8,none⟩ (.int .i64 w1)) = W3 at ⊢
 have HWd:=Lib.hid hWd
 clear hWd
 have HS3:Hid (St B L T w gm ws (n + 1) W3):=Lib.hid (by rw [← HWd.out];exact (HSG_g.out _ _ _ HS2.out 8 (.int .i64 w1)))
 have HB3_g:Hid (W3.heap[g]? = some (.cells (#[.int .i64 b,.int .i64 c.S,.int .i64 c.ga,.int .i64 D,.int .i64 X,.int .i64 1,.int .i64 l,.int .i64 i,.int .i64 w1,.int .i64 V]:Array Value) 122 (0,0))):=Lib.hid (by rw [← HWd.out];exact (blk_set' HB2_g.out 8 (.int .i64 w1) rfl))
 replace C_g:=cells10 HB3_g.out
 clear HWd
 refine ch_d C_g C_g [13] [0,1,2,3,4,6,7,8,9,5,10,11,12,13] (fun W4 HWd hHeld=>?_)
 have HS4:=dwS HWd HS3
 have HB4_g:=dwH HWd HB3_g
 replace C_g:=cells10 HB4_g.out
 clear HWd
 iterate 9 refine ch_s ?_
 refine ch_1 fun K hK=>?_
 refine goes_s Try.func85 #[.int .i64 w1] ?_
 refine (breadlineref01_Value.calls w1 vl _ HVL.out).mono ?_
 rintro e w' ⟨rfl,⟨nd,rfl⟩⟩
 refine ⟨_,rfl,?_⟩
 generalize hWd:World.drewN W4 nd = W5 at ⊢
 have HWd:=Lib.hid hWd
 clear hWd
 have HS5:Hid (St B L T w gm ws (n + 1) W5):=Lib.hid (by rw [← HWd.out];exact HS4.out.drewN nd)
 have HB5_g:=dwH HWd HB4_g
 replace C_g:=cells10 HB5_g.out
 clear HWd
 refine hK.out _ _ C_g ?_;clear hK K hHeld;intro hHeld
 try simp only [Act.put,zq1,zq2,zq3]
 iterate 3 refine ch_s ?_
 refine ch_last rfl rfl (by kernel_rfl) (by decide) (fun K hK=>?_)
 refine skip_ (by rfl) rfl (by go_simp;first|rfl|exact ⟨rfl,rfl⟩) ?_
 refine hK.out _ _ ?_
 clear hK K
 try simp only [Act.put,zq1,zq2,zq3]
 refine ch_z ?_
 clear hHeld
 go_wp2
 generalize hWd:(World.setCell (World.setCell W5 ⟨g,9,none⟩ (.int .i64 V1)) ⟨g,5,none⟩ (.int .i64 3)) = W6 at ⊢
 have HWd:=Lib.hid hWd
 clear hWd
 have HS6:Hid (St B L T w gm ws (n + 1) W6):=Lib.hid (by rw [← HWd.out];exact (HSG_g.out _ _ _ (HSG_g.out _ _ _ HS5.out 9 (.int .i64 V1)) 5 (.int .i64 3)))
 have HB6_g:Hid (W6.heap[g]? = some (.cells (#[.int .i64 b,.int .i64 c.S,.int .i64 c.ga,.int .i64 D,.int .i64 X,.int .i64 3,.int .i64 l,.int .i64 i,.int .i64 w1,.int .i64 V1]:Array Value) 122 (0,0))):=Lib.hid (by rw [← HWd.out];exact (blk_set' (blk_set' HB5_g.out 9 (.int .i64 V1) rfl) 5 (.int .i64 3) rfl))
 replace C_g:=cells10 HB6_g.out
 clear HWd
 refine ch_b C_g C_g [0,1,2,3,4,5,6,7,8,9,10,11,12,13,14,15,16,17,18,19,20] (fun W7 HWd hHeld=>?_)
 have HS7:=dwS HWd HS6
 have HB7_g:=dwH HWd HB6_g
 replace C_g:=cells10 HB7_g.out
 clear HWd
 iterate 21 refine ch_s ?_
 refine ch_z ?_
 clear hHeld
 go_wp2
 go_ret
 refine ⟨false,⟨D,X,2,l,i,w1,V1⟩,ws,_,rfl,?_,A06.mk' hX0 hiS (.inr (.inr HLv.out)) (fun h=>by omega) (by decide) (by decide),(HSG_g.out _ _ _ HS7.out 5 (.int .i64 2)).mem,WTo.refl HW.out,by omega,Nat.le_refl _,HLL.out ▸ (HSG_g.out _ _ _ HS7.out 5 (.int .i64 2)).fr⟩
 unfold Is06;rw [HBv.out];exact (blk_set' HB7_g.out 5 (.int .i64 2) rfl)
theorem step06_2_yes {c:Cf} (hc:c.Ok) {v B gm g n:Nat} {w:World} {ws:List Int} (hv:v < c.N) (hm:MemIs B w gm ws n) (hw:WOk c ws) (hn:n ≤ 1000000) (hB:B ≤ g) {D X l W V:Int} {i:Nat} (hg:Is06 c v w g ⟨D,X,2,l,i,W,V⟩) (hi:A06 c ⟨D,X,2,l,i,W,V⟩) (hq:wd ws (c.na v (2 + c.S) + (4 + i)) = W) :
  Calls Try.prog 66 #[.pointer (some ⟨g,0,none⟩),.pointer (some ⟨gm,0,none⟩)] w (P06 c v B gm g ws n w):=by
 have HC:=Lib.hid hc
 have HW:=Lib.hid hw
 have HI:=Lib.hid hi
 obtain ⟨b,HBv,HA,HL,HLe,b0,b1,i0,i1,q1,q2,hX0,hiS,hS1,hS8⟩:=pre06 hc hv hw hi
 obtain ⟨HB0_g,L,T,HLL,HTe,HT,HSG_g,HS0⟩:=st06 hm hB HBv.out hg
 clear hc hw hi hg hm
 rw [HBv.out] at hq
 have HLv:Hid (lv c l):=Lib.hid (by rcases HI.out.l with h|h|h;exact absurd (show (2:Int) = 0 from h) (by decide);exact absurd (show (2:Int) = 9 from h) (by decide);exact h)
 obtain ⟨nw,nb,hnw⟩:=next01_ok W V
 have HNW:=Lib.hid hnw
 have HQ:=Lib.hid hq
 clear hq hnw
 have C_g:=cells10 HB0_g.out
 go_enter Try.func66,Try.ntmps66
 go_wp2
 refine ch_b C_g C_g [0,1,2,3,4,5,6,7,8,9,10] (fun W1 HWd hHeld=>?_)
 have HS1:=dwS HWd HS0
 have HB1_g:Hid (W1.heap[g]? = some (.cells (#[.int .i64 b,.int .i64 c.S,.int .i64 c.ga,.int .i64 D,.int .i64 X,.int .i64 2,.int .i64 l,.int .i64 i,.int .i64 W,.int .i64 V]:Array Value) 122 (0,0))):=Lib.hid (by rw [← HWd.out];exact HB0_g.out)
 replace C_g:=cells10 HB1_g.out
 clear HWd
 iterate 11 refine ch_s ?_
 refine ch_z ?_
 clear hHeld
 go_wp2
 refine ch_b C_g C_g [0,1,2,3,4,5,6,7,8,9,10,11,12,13] (fun W2 HWd hHeld=>?_)
 have HS2:=dwS HWd HS1
 have HB2_g:=dwH HWd HB1_g
 replace C_g:=cells10 HB2_g.out
 clear HWd
 iterate 8 refine ch_s ?_
 refine ch_1 fun K hK=>?_
 refine goes_s Try.func82 #[.int .i64 W,.int .i64 V] ?_
 refine (breadlineref01_Next.calls W V nw nb _ HNW.out).mono ?_
 rintro e w' ⟨rfl,⟨nd,rfl⟩⟩
 refine ⟨_,rfl,?_⟩
 generalize hWd:World.drewN W2 nd = W3 at ⊢
 have HWd:=Lib.hid hWd
 clear hWd
 have HS3:Hid (St B L T w gm ws n W3):=Lib.hid (by rw [← HWd.out];exact HS2.out.drewN nd)
 have HB3_g:=dwH HWd HB2_g
 replace C_g:=cells10 HB3_g.out
 clear HWd
 refine hK.out _ _ C_g ?_;clear hK K hHeld;intro hHeld
 try simp only [Act.put,zq1,zq2,zq3]
 iterate 5 refine ch_s ?_
 refine ch_z ?_
 clear hHeld
 go_wp2_with (first|(go_at_call 72;(with_reducible refine ((cas_yes_z HS3.out.mem hn HLe.out (b + (4 + i)) (HL.out (4 + i) (by have:c.K = 6 + 2 * c.S:=rfl;omega)) W nw _ (by omega) HQ.out)).mono ?_);rintro e W4 ⟨rfl,hm',hf'⟩;have HS4:=Lib.hid (HS3.out.acc hm' hf' HT.out);have HB4_g:=Lib.hid (blk_fr HB3_g.out hf' (by simp) (by decide));replace C_g:=cells10 HB4_g.out;clear hm' hf'))
 go_ret
 refine ⟨true,⟨D,X,9,l,i,W,V⟩,(ws.set (b + (4 + i)) nw),_,rfl,?_,A06.mk' hX0 hiS (.inr (.inl rfl)) (fun h=>by omega) (by decide) (by decide),(HSG_g.out _ _ _ HS4.out 5 (.int .i64 9)).mem,(by rw [HA.out,show 2 + c.S + (4 + i) = 6 + c.S + i by omega];exact HW.out.set_node hv (by have:c.K = 6 + 2 * c.S:=rfl;omega) (by omega) nw),by omega,Nat.le_refl _,HLL.out ▸ (HSG_g.out _ _ _ HS4.out 5 (.int .i64 9)).fr⟩
 unfold Is06;rw [HBv.out];exact (blk_set' HB4_g.out 5 (.int .i64 9) rfl)
theorem step06_2_lt {c:Cf} (hc:c.Ok) {v B gm g n:Nat} {w:World} {ws:List Int} (hv:v < c.N) (hm:MemIs B w gm ws n) (hw:WOk c ws) (hn:n ≤ 1000000) (hB:B ≤ g) {D X l W V:Int} {i:Nat} (hg:Is06 c v w g ⟨D,X,2,l,i,W,V⟩) (hi:A06 c ⟨D,X,2,l,i,W,V⟩) (hq:wd ws (c.na v (2 + c.S) + (4 + i)) ≠ W) (hq2:l < (c.S:Int)) :
  Calls Try.prog 66 #[.pointer (some ⟨g,0,none⟩),.pointer (some ⟨gm,0,none⟩)] w (P06 c v B gm g ws n w):=by
 have HC:=Lib.hid hc
 have HW:=Lib.hid hw
 have HI:=Lib.hid hi
 obtain ⟨b,HBv,HA,HL,HLe,b0,b1,i0,i1,q1,q2,hX0,hiS,hS1,hS8⟩:=pre06 hc hv hw hi
 obtain ⟨HB0_g,L,T,HLL,HTe,HT,HSG_g,HS0⟩:=st06 hm hB HBv.out hg
 clear hc hw hi hg hm
 rw [HBv.out] at hq
 have HLv:Hid (lv c l):=Lib.hid (by rcases HI.out.l with h|h|h;exact absurd (show (2:Int) = 0 from h) (by decide);exact absurd (show (2:Int) = 9 from h) (by decide);exact h)
 obtain ⟨nw,nb,hnw⟩:=next01_ok W V
 have HNW:=Lib.hid hnw
 have HQ:=Lib.hid hq
 clear hq hnw
 have HQ2:=Lib.hid hq2
 clear hq2
 have C_g:=cells10 HB0_g.out
 go_enter Try.func66,Try.ntmps66
 go_wp2
 refine ch_b C_g C_g [0,1,2,3,4,5,6,7,8,9,10] (fun W1 HWd hHeld=>?_)
 have HS1:=dwS HWd HS0
 have HB1_g:Hid (W1.heap[g]? = some (.cells (#[.int .i64 b,.int .i64 c.S,.int .i64 c.ga,.int .i64 D,.int .i64 X,.int .i64 2,.int .i64 l,.int .i64 i,.int .i64 W,.int .i64 V]:Array Value) 122 (0,0))):=Lib.hid (by rw [← HWd.out];exact HB0_g.out)
 replace C_g:=cells10 HB1_g.out
 clear HWd
 iterate 11 refine ch_s ?_
 refine ch_z ?_
 clear hHeld
 go_wp2
 refine ch_b C_g C_g [0,1,2,3,4,5,6,7,8,9,10,11,12,13] (fun W2 HWd hHeld=>?_)
 have HS2:=dwS HWd HS1
 have HB2_g:=dwH HWd HB1_g
 replace C_g:=cells10 HB2_g.out
 clear HWd
 iterate 8 refine ch_s ?_
 refine ch_1 fun K hK=>?_
 refine goes_s Try.func82 #[.int .i64 W,.int .i64 V] ?_
 refine (breadlineref01_Next.calls W V nw nb _ HNW.out).mono ?_
 rintro e w' ⟨rfl,⟨nd,rfl⟩⟩
 refine ⟨_,rfl,?_⟩
 generalize hWd:World.drewN W2 nd = W3 at ⊢
 have HWd:=Lib.hid hWd
 clear hWd
 have HS3:Hid (St B L T w gm ws n W3):=Lib.hid (by rw [← HWd.out];exact HS2.out.drewN nd)
 have HB3_g:=dwH HWd HB2_g
 replace C_g:=cells10 HB3_g.out
 clear HWd
 refine hK.out _ _ C_g ?_;clear hK K hHeld;intro hHeld
 try simp only [Act.put,zq1,zq2,zq3]
 iterate 5 refine ch_s ?_
 refine ch_z ?_
 clear hHeld
 go_wp2_with (first|(go_at_call 72;(with_reducible refine ((cas_no_z HS3.out.mem hn HLe.out (b + (4 + i)) (HL.out (4 + i) (by have:c.K = 6 + 2 * c.S:=rfl;omega)) W nw _ (by omega) HQ.out)).mono ?_);rintro e W4 ⟨rfl,hm',hf'⟩;have HS4:=Lib.hid (HS3.out.acc hm' hf' HT.out);have HB4_g:=Lib.hid (blk_fr HB3_g.out hf' (by simp) (by decide));replace C_g:=cells10 HB4_g.out;clear hm' hf')|(go_at_call 86;(with_reducible refine (miss_lt HS4.out.mem hB HB4_g.out (by have:=HQ2.out;omega)).mono ?_);rintro e W5 ⟨rfl,hg',hm',hf'⟩;have HS5:=Lib.hid (HS4.out.turn hm' hf' (fun p hp hk=>by rw [HTe.out] at hp;rw [List.mem_singleton.1 hp];exact ⟨_,hg'⟩) (fun k hk=>.inl (by rw [HLL.out];exact hk)) HT.out);have HB5_g:Hid (W5.heap[g]? = some (.cells (#[.int .i64 b,.int .i64 c.S,.int .i64 c.ga,.int .i64 D,.int .i64 X,.int .i64 8,.int .i64 l,.int .i64 i,.int .i64 W,.int .i64 V]:Array Value) 122 (0,0))):=Lib.hid (hg');replace C_g:=cells10 HB5_g.out;clear hg' hm' hf'))
 go_ret
 refine ⟨false,⟨D,X,8,l,i,W,V⟩,ws,_,rfl,?_,A06.mk' hX0 hiS (.inr (.inr HLv.out)) (fun _=>by have:=HQ2.out;omega) (by decide) (by decide),HS5.out.mem,WTo.refl HW.out,by omega,Nat.le_refl _,HLL.out ▸ HS5.out.fr⟩
 unfold Is06;rw [HBv.out];exact HB5_g.out
theorem step06_2_ge {c:Cf} (hc:c.Ok) {v B gm g n:Nat} {w:World} {ws:List Int} (hv:v < c.N) (hm:MemIs B w gm ws n) (hw:WOk c ws) (hn:n ≤ 1000000) (hB:B ≤ g) {D X l W V:Int} {i:Nat} (hg:Is06 c v w g ⟨D,X,2,l,i,W,V⟩) (hi:A06 c ⟨D,X,2,l,i,W,V⟩) (hq:wd ws (c.na v (2 + c.S) + (4 + i)) ≠ W) (hq2:¬ l < (c.S:Int)) :
  Calls Try.prog 66 #[.pointer (some ⟨g,0,none⟩),.pointer (some ⟨gm,0,none⟩)] w (P06 c v B gm g ws n w):=by
 have HC:=Lib.hid hc
 have HW:=Lib.hid hw
 have HI:=Lib.hid hi
 obtain ⟨b,HBv,HA,HL,HLe,b0,b1,i0,i1,q1,q2,hX0,hiS,hS1,hS8⟩:=pre06 hc hv hw hi
 obtain ⟨HB0_g,L,T,HLL,HTe,HT,HSG_g,HS0⟩:=st06 hm hB HBv.out hg
 clear hc hw hi hg hm
 rw [HBv.out] at hq
 have HLv:Hid (lv c l):=Lib.hid (by rcases HI.out.l with h|h|h;exact absurd (show (2:Int) = 0 from h) (by decide);exact absurd (show (2:Int) = 9 from h) (by decide);exact h)
 obtain ⟨nw,nb,hnw⟩:=next01_ok W V
 have HNW:=Lib.hid hnw
 have HQ:=Lib.hid hq
 clear hq hnw
 obtain ⟨X',hr,hX'⟩:=next_ok X
 have HR:=Lib.hid hr
 clear hr
 have HQ2:=Lib.hid hq2
 clear hq2
 have C_g:=cells10 HB0_g.out
 go_enter Try.func66,Try.ntmps66
 go_wp2
 refine ch_b C_g C_g [0,1,2,3,4,5,6,7,8,9,10] (fun W1 HWd hHeld=>?_)
 have HS1:=dwS HWd HS0
 have HB1_g:Hid (W1.heap[g]? = some (.cells (#[.int .i64 b,.int .i64 c.S,.int .i64 c.ga,.int .i64 D,.int .i64 X,.int .i64 2,.int .i64 l,.int .i64 i,.int .i64 W,.int .i64 V]:Array Value) 122 (0,0))):=Lib.hid (by rw [← HWd.out];exact HB0_g.out)
 replace C_g:=cells10 HB1_g.out
 clear HWd
 iterate 11 refine ch_s ?_
 refine ch_z ?_
 clear hHeld
 go_wp2
 refine ch_b C_g C_g [0,1,2,3,4,5,6,7,8,9,10,11,12,13] (fun W2 HWd hHeld=>?_)
 have HS2:=dwS HWd HS1
 have HB2_g:=dwH HWd HB1_g
 replace C_g:=cells10 HB2_g.out
 clear HWd
 iterate 8 refine ch_s ?_
 refine ch_1 fun K hK=>?_
 refine goes_s Try.func82 #[.int .i64 W,.int .i64 V] ?_
 refine (breadlineref01_Next.calls W V nw nb _ HNW.out).mono ?_
 rintro e w' ⟨rfl,⟨nd,rfl⟩⟩
 refine ⟨_,rfl,?_⟩
 generalize hWd:World.drewN W2 nd = W3 at ⊢
 have HWd:=Lib.hid hWd
 clear hWd
 have HS3:Hid (St B L T w gm ws n W3):=Lib.hid (by rw [← HWd.out];exact HS2.out.drewN nd)
 have HB3_g:=dwH HWd HB2_g
 replace C_g:=cells10 HB3_g.out
 clear HWd
 refine hK.out _ _ C_g ?_;clear hK K hHeld;intro hHeld
 try simp only [Act.put,zq1,zq2,zq3]
 iterate 5 refine ch_s ?_
 refine ch_z ?_
 clear hHeld
 go_wp2_with (first|(go_at_call 72;(with_reducible refine ((cas_no_z HS3.out.mem hn HLe.out (b + (4 + i)) (HL.out (4 + i) (by have:c.K = 6 + 2 * c.S:=rfl;omega)) W nw _ (by omega) HQ.out)).mono ?_);rintro e W4 ⟨rfl,hm',hf'⟩;have HS4:=Lib.hid (HS3.out.acc hm' hf' HT.out);have HB4_g:=Lib.hid (blk_fr HB3_g.out hf' (by simp) (by decide));replace C_g:=cells10 HB4_g.out;clear hm' hf')|(go_at_call 86;(with_reducible refine (miss_ge HS4.out.mem hB HB4_g.out (by have:=HQ2.out;omega) HR.out).mono ?_);rintro e W5 ⟨rfl,hg',hm',hf'⟩;have HS5:=Lib.hid (HS4.out.turn hm' hf' (fun p hp hk=>by rw [HTe.out] at hp;rw [List.mem_singleton.1 hp];exact ⟨_,hg'⟩) (fun k hk=>.inl (by rw [HLL.out];exact hk)) HT.out);have HB5_g:Hid (W5.heap[g]? = some (.cells (#[.int .i64 b,.int .i64 c.S,.int .i64 c.ga,.int .i64 D,.int .i64 X',.int .i64 0,.int .i64 l,.int .i64 i,.int .i64 W,.int .i64 V]:Array Value) 122 (0,0))):=Lib.hid (hg');replace C_g:=cells10 HB5_g.out;clear hg' hm' hf'))
 go_ret
 refine ⟨false,⟨D,X',0,l,i,W,V⟩,ws,_,rfl,?_,A06.mk' hX' hiS (.inl rfl) (fun h=>by omega) (by decide) (by decide),HS5.out.mem,WTo.refl HW.out,by omega,Nat.le_refl _,HLL.out ▸ HS5.out.fr⟩
 unfold Is06;rw [HBv.out];exact HB5_g.out
theorem step06_4_yes {c:Cf} (hc:c.Ok) {v B gm g n:Nat} {w:World} {ws:List Int} (hv:v < c.N) (hm:MemIs B w gm ws n) (hw:WOk c ws) (hn:n ≤ 1000000) (hB:B ≤ g) {D X l W V:Int} {i:Nat} (hg:Is06 c v w g ⟨D,X,4,l,i,W,V⟩) (hi:A06 c ⟨D,X,4,l,i,W,V⟩) (hq:wd ws (c.na v (2 + c.S) + (4 + i)) = W) :
  Calls Try.prog 66 #[.pointer (some ⟨g,0,none⟩),.pointer (some ⟨gm,0,none⟩)] w (P06 c v B gm g ws n w):=by
 have HC:=Lib.hid hc
 have HW:=Lib.hid hw
 have HI:=Lib.hid hi
 obtain ⟨b,HBv,HA,HL,HLe,b0,b1,i0,i1,q1,q2,hX0,hiS,hS1,hS8⟩:=pre06 hc hv hw hi
 obtain ⟨HB0_g,L,T,HLL,HTe,HT,HSG_g,HS0⟩:=st06 hm hB HBv.out hg
 clear hc hw hi hg hm
 rw [HBv.out] at hq
 have HLv:Hid (lv c l):=Lib.hid (by rcases HI.out.l with h|h|h;exact absurd (show (4:Int) = 0 from h) (by decide);exact absurd (show (4:Int) = 9 from h) (by decide);exact h)
 obtain ⟨nw,nb,hnw⟩:=next01_ok W 0
 have HNW:=Lib.hid hnw
 have HQ:=Lib.hid hq
 clear hq hnw
 have C_g:=cells10 HB0_g.out
 go_enter Try.func66,Try.ntmps66
 go_wp2
 refine ch_b C_g C_g [0,1,2,3,4,5,6,7,8,9,10] (fun W1 HWd hHeld=>?_)
 have HS1:=dwS HWd HS0
 have HB1_g:Hid (W1.heap[g]? = some (.cells (#[.int .i64 b,.int .i64 c.S,.int .i64 c.ga,.int .i64 D,.int .i64 X,.int .i64 4,.int .i64 l,.int .i64 i,.int .i64 W,.int .i64 V]:Array Value) 122 (0,0))):=Lib.hid (by rw [← HWd.out];exact HB0_g.out)
 replace C_g:=cells10 HB1_g.out
 clear HWd
 iterate 11 refine ch_s ?_
 refine ch_z ?_
 clear hHeld
 go_wp2_with (first|(go_at_call 82;(with_reducible refine (breadlineref01_Next.calls W 0 nw nb _ HNW.out).mono ?_);rintro e w' ⟨rfl,⟨nd,rfl⟩⟩;generalize hWd:World.drewN W1 nd = W2 at ⊢;have HWd:=Lib.hid hWd;clear hWd;have HS2:Hid (St B L T w gm ws n W2):=Lib.hid (by rw [← HWd.out];exact HS1.out.drewN nd);have HB2_g:=dwH HWd HB1_g;replace C_g:=cells10 HB2_g.out;clear HWd)|(go_at_call 72;(with_reducible refine ((cas_yes_z (HSG_g.out _ _ _ HS2.out 5 (.int .i64 7)).mem hn HLe.out (b + (4 + i)) (HL.out (4 + i) (by have:c.K = 6 + 2 * c.S:=rfl;omega)) W nw _ (by omega) HQ.out)).mono ?_);rintro e W3 ⟨rfl,hm',hf'⟩;have HS3:=Lib.hid ((HSG_g.out _ _ _ HS2.out 5 (.int .i64 7)).acc hm' hf' HT.out);have HB3_g:Hid (W3.heap[g]? = some (.cells (#[.int .i64 b,.int .i64 c.S,.int .i64 c.ga,.int .i64 D,.int .i64 X,.int .i64 7,.int .i64 l,.int .i64 i,.int .i64 W,.int .i64 V]:Array Value) 122 (0,0))):=Lib.hid (blk_fr (blk_set' HB2_g.out 5 (.int .i64 7) rfl) hf' (by simp) (by decide));replace C_g:=cells10 HB3_g.out;clear hm' hf'))
 go_ret
 refine ⟨false,⟨D,X,5,l,i,W,V⟩,(ws.set (b + (4 + i)) nw),_,rfl,?_,A06.mk' hX0 hiS (.inr (.inr HLv.out)) (fun h=>by omega) (by decide) (by decide),(HSG_g.out _ _ _ HS3.out 5 (.int .i64 5)).mem,(by rw [HA.out,show 2 + c.S + (4 + i) = 6 + c.S + i by omega];exact HW.out.set_node hv (by have:c.K = 6 + 2 * c.S:=rfl;omega) (by omega) nw),by omega,Nat.le_refl _,HLL.out ▸ (HSG_g.out _ _ _ HS3.out 5 (.int .i64 5)).fr⟩
 unfold Is06;rw [HBv.out];exact (blk_set' HB3_g.out 5 (.int .i64 5) rfl)
theorem step06_4_no {c:Cf} (hc:c.Ok) {v B gm g n:Nat} {w:World} {ws:List Int} (hv:v < c.N) (hm:MemIs B w gm ws n) (hw:WOk c ws) (hn:n ≤ 1000000) (hB:B ≤ g) {D X l W V:Int} {i:Nat} (hg:Is06 c v w g ⟨D,X,4,l,i,W,V⟩) (hi:A06 c ⟨D,X,4,l,i,W,V⟩) (hq:wd ws (c.na v (2 + c.S) + (4 + i)) ≠ W) :
  Calls Try.prog 66 #[.pointer (some ⟨g,0,none⟩),.pointer (some ⟨gm,0,none⟩)] w (P06 c v B gm g ws n w):=by
 have HC:=Lib.hid hc
 have HW:=Lib.hid hw
 have HI:=Lib.hid hi
 obtain ⟨b,HBv,HA,HL,HLe,b0,b1,i0,i1,q1,q2,hX0,hiS,hS1,hS8⟩:=pre06 hc hv hw hi
 obtain ⟨HB0_g,L,T,HLL,HTe,HT,HSG_g,HS0⟩:=st06 hm hB HBv.out hg
 clear hc hw hi hg hm
 rw [HBv.out] at hq
 have HLv:Hid (lv c l):=Lib.hid (by rcases HI.out.l with h|h|h;exact absurd (show (4:Int) = 0 from h) (by decide);exact absurd (show (4:Int) = 9 from h) (by decide);exact h)
 obtain ⟨nw,nb,hnw⟩:=next01_ok W 0
 have HNW:=Lib.hid hnw
 have HQ:=Lib.hid hq
 clear hq hnw
 have C_g:=cells10 HB0_g.out
 go_enter Try.func66,Try.ntmps66
 go_wp2
 refine ch_b C_g C_g [0,1,2,3,4,5,6,7,8,9,10] (fun W1 HWd hHeld=>?_)
 have HS1:=dwS HWd HS0
 have HB1_g:Hid (W1.heap[g]? = some (.cells (#[.int .i64 b,.int .i64 c.S,.int .i64 c.ga,.int .i64 D,.int .i64 X,.int .i64 4,.int .i64 l,.int .i64 i,.int .i64 W,.int .i64 V]:Array Value) 122 (0,0))):=Lib.hid (by rw [← HWd.out];exact HB0_g.out)
 replace C_g:=cells10 HB1_g.out
 clear HWd
 iterate 11 refine ch_s ?_
 refine ch_z ?_
 clear hHeld
 go_wp2_with (first|(go_at_call 82;(with_reducible refine (breadlineref01_Next.calls W 0 nw nb _ HNW.out).mono ?_);rintro e w' ⟨rfl,⟨nd,rfl⟩⟩;generalize hWd:World.drewN W1 nd = W2 at ⊢;have HWd:=Lib.hid hWd;clear hWd;have HS2:Hid (St B L T w gm ws n W2):=Lib.hid (by rw [← HWd.out];exact HS1.out.drewN nd);have HB2_g:=dwH HWd HB1_g;replace C_g:=cells10 HB2_g.out;clear HWd)|(go_at_call 72;(with_reducible refine ((cas_no_z (HSG_g.out _ _ _ HS2.out 5 (.int .i64 7)).mem hn HLe.out (b + (4 + i)) (HL.out (4 + i) (by have:c.K = 6 + 2 * c.S:=rfl;omega)) W nw _ (by omega) HQ.out)).mono ?_);rintro e W3 ⟨rfl,hm',hf'⟩;have HS3:=Lib.hid ((HSG_g.out _ _ _ HS2.out 5 (.int .i64 7)).acc hm' hf' HT.out);have HB3_g:Hid (W3.heap[g]? = some (.cells (#[.int .i64 b,.int .i64 c.S,.int .i64 c.ga,.int .i64 D,.int .i64 X,.int .i64 7,.int .i64 l,.int .i64 i,.int .i64 W,.int .i64 V]:Array Value) 122 (0,0))):=Lib.hid (blk_fr (blk_set' HB2_g.out 5 (.int .i64 7) rfl) hf' (by simp) (by decide));replace C_g:=cells10 HB3_g.out;clear hm' hf'))
 go_ret
 refine ⟨false,⟨D,X,7,l,i,W,V⟩,ws,_,rfl,?_,A06.mk' hX0 hiS (.inr (.inr HLv.out)) (fun h=>by omega) (by decide) (by decide),HS3.out.mem,WTo.refl HW.out,by omega,Nat.le_refl _,HLL.out ▸ HS3.out.fr⟩
 unfold Is06;rw [HBv.out];exact HB3_g.out
theorem step06_3 {c:Cf} (hc:c.Ok) {v B gm g n:Nat} {w:World} {ws:List Int} (hv:v < c.N) (hm:MemIs B w gm ws n) (hw:WOk c ws) (hn:n ≤ 1000000) (hB:B ≤ g) {D X l W V:Int} {i:Nat} (hg:Is06 c v w g ⟨D,X,3,l,i,W,V⟩) (hi:A06 c ⟨D,X,3,l,i,W,V⟩) :
  Calls Try.prog 66 #[.pointer (some ⟨g,0,none⟩),.pointer (some ⟨gm,0,none⟩)] w (P06 c v B gm g ws n w):=by
 have HC:=Lib.hid hc
 have HW:=Lib.hid hw
 have HI:=Lib.hid hi
 obtain ⟨b,HBv,HA,HL,HLe,b0,b1,i0,i1,q1,q2,hX0,hiS,hS1,hS8⟩:=pre06 hc hv hw hi
 obtain ⟨HB0_g,L,T,HLL,HTe,HT,HSG_g,HS0⟩:=st06 hm hB HBv.out hg
 clear hc hw hi hg hm
 have HLv:Hid (lv c l):=Lib.hid (by rcases HI.out.l with h|h|h;exact absurd (show (3:Int) = 0 from h) (by decide);exact absurd (show (3:Int) = 9 from h) (by decide);exact h)
 have C_g:=cells10 HB0_g.out
 go_enter Try.func66,Try.ntmps66
 go_wp2
 refine ch_b C_g C_g [0,1,2,3,4,5,6,7,8,9,10] (fun W1 HWd hHeld=>?_)
 have HS1:=dwS HWd HS0
 have HB1_g:Hid (W1.heap[g]? = some (.cells (#[.int .i64 b,.int .i64 c.S,.int .i64 c.ga,.int .i64 D,.int .i64 X,.int .i64 3,.int .i64 l,.int .i64 i,.int .i64 W,.int .i64 V]:Array Value) 122 (0,0))):=Lib.hid (by rw [← HWd.out];exact HB0_g.out)
 replace C_g:=cells10 HB1_g.out
 clear HWd
 iterate 11 refine ch_s ?_
 refine ch_z ?_
 clear hHeld
 go_wp2_with (first|(go_at_call 60;(with_reducible refine ((add_z HS1.out.mem hn HLe.out (b + 1) (HL.out 1 (by have:c.K = 6 + 2 * c.S:=rfl;omega)) _ _ (by omega))).mono ?_);rintro e W2 ⟨x,rfl,hm',hf'⟩;have HS2:=Lib.hid (HS1.out.acc hm' hf' HT.out);have HB2_g:=Lib.hid (blk_fr HB1_g.out hf' (by simp) (by decide));replace C_g:=cells10 HB2_g.out;clear hm' hf'))
 go_ret
 refine ⟨false,⟨D,X,4,l,i,W,V⟩,(ws.set (b + 1) x),_,rfl,?_,A06.mk' hX0 hiS (.inr (.inr HLv.out)) (fun h=>by omega) (by decide) (by decide),(HSG_g.out _ _ _ HS2.out 5 (.int .i64 4)).mem,(by rw [HA.out];exact HW.out.set_node hv (by have:c.K = 6 + 2 * c.S:=rfl;omega) (by omega) x),by omega,Nat.le_refl _,HLL.out ▸ (HSG_g.out _ _ _ HS2.out 5 (.int .i64 4)).fr⟩
 unfold Is06;rw [HBv.out];exact (blk_set' HB2_g.out 5 (.int .i64 4) rfl)
theorem step06_6 {c:Cf} (hc:c.Ok) {v B gm g n:Nat} {w:World} {ws:List Int} (hv:v < c.N) (hm:MemIs B w gm ws n) (hw:WOk c ws) (hn:n ≤ 1000000) (hB:B ≤ g) {D X l W V:Int} {i:Nat} (hg:Is06 c v w g ⟨D,X,6,l,i,W,V⟩) (hi:A06 c ⟨D,X,6,l,i,W,V⟩) :
  Calls Try.prog 66 #[.pointer (some ⟨g,0,none⟩),.pointer (some ⟨gm,0,none⟩)] w (P06 c v B gm g ws n w):=by
 have HC:=Lib.hid hc
 have HW:=Lib.hid hw
 have HI:=Lib.hid hi
 obtain ⟨b,HBv,HA,HL,HLe,b0,b1,i0,i1,q1,q2,hX0,hiS,hS1,hS8⟩:=pre06 hc hv hw hi
 obtain ⟨HB0_g,L,T,HLL,HTe,HT,HSG_g,HS0⟩:=st06 hm hB HBv.out hg
 clear hc hw hi hg hm
 have HLv:Hid (lv c l):=Lib.hid (by rcases HI.out.l with h|h|h;exact absurd (show (6:Int) = 0 from h) (by decide);exact absurd (show (6:Int) = 9 from h) (by decide);exact h)
 have C_g:=cells10 HB0_g.out
 go_enter Try.func66,Try.ntmps66
 go_wp2
 refine ch_b C_g C_g [0,1,2,3,4,5,6,7,8,9,10] (fun W1 HWd hHeld=>?_)
 have HS1:=dwS HWd HS0
 have HB1_g:Hid (W1.heap[g]? = some (.cells (#[.int .i64 b,.int .i64 c.S,.int .i64 c.ga,.int .i64 D,.int .i64 X,.int .i64 6,.int .i64 l,.int .i64 i,.int .i64 W,.int .i64 V]:Array Value) 122 (0,0))):=Lib.hid (by rw [← HWd.out];exact HB0_g.out)
 replace C_g:=cells10 HB1_g.out
 clear HWd
 iterate 11 refine ch_s ?_
 refine ch_z ?_
 clear hHeld
 go_wp2_with (first|(go_at_call 60;(with_reducible refine ((add_z HS1.out.mem hn HLe.out (b + 2) (HL.out 2 (by have:c.K = 6 + 2 * c.S:=rfl;omega)) _ _ (by omega))).mono ?_);rintro e W2 ⟨x,rfl,hm',hf'⟩;have HS2:=Lib.hid (HS1.out.acc hm' hf' HT.out);have HB2_g:=Lib.hid (blk_fr HB1_g.out hf' (by simp) (by decide));replace C_g:=cells10 HB2_g.out;clear hm' hf'))
 go_ret
 refine ⟨true,⟨D,X,9,l,i,W,V⟩,(ws.set (b + 2) x),_,rfl,?_,A06.mk' hX0 hiS (.inr (.inl rfl)) (fun h=>by omega) (by decide) (by decide),(HSG_g.out _ _ _ HS2.out 5 (.int .i64 9)).mem,(by rw [HA.out];exact HW.out.set_node hv (by have:c.K = 6 + 2 * c.S:=rfl;omega) (by omega) x),by omega,Nat.le_refl _,HLL.out ▸ (HSG_g.out _ _ _ HS2.out 5 (.int .i64 9)).fr⟩
 unfold Is06;rw [HBv.out];exact (blk_set' HB2_g.out 5 (.int .i64 9) rfl)
theorem step06_7_lt {c:Cf} (hc:c.Ok) {v B gm g n:Nat} {w:World} {ws:List Int} (hv:v < c.N) (hm:MemIs B w gm ws n) (hw:WOk c ws) (hn:n ≤ 1000000) (hB:B ≤ g) {D X l W V:Int} {i:Nat} (hg:Is06 c v w g ⟨D,X,7,l,i,W,V⟩) (hi:A06 c ⟨D,X,7,l,i,W,V⟩) (hq2:l < (c.S:Int)) :
  Calls Try.prog 66 #[.pointer (some ⟨g,0,none⟩),.pointer (some ⟨gm,0,none⟩)] w (P06 c v B gm g ws n w):=by
 have HC:=Lib.hid hc
 have HW:=Lib.hid hw
 have HI:=Lib.hid hi
 obtain ⟨b,HBv,HA,HL,HLe,b0,b1,i0,i1,q1,q2,hX0,hiS,hS1,hS8⟩:=pre06 hc hv hw hi
 obtain ⟨HB0_g,L,T,HLL,HTe,HT,HSG_g,HS0⟩:=st06 hm hB HBv.out hg
 clear hc hw hi hg hm
 have HLv:Hid (lv c l):=Lib.hid (by rcases HI.out.l with h|h|h;exact absurd (show (7:Int) = 0 from h) (by decide);exact absurd (show (7:Int) = 9 from h) (by decide);exact h)
 have HQ2:=Lib.hid hq2
 clear hq2
 have C_g:=cells10 HB0_g.out
 go_enter Try.func66,Try.ntmps66
 go_wp2
 refine ch_b C_g C_g [0,1,2,3,4,5,6,7,8,9,10] (fun W1 HWd hHeld=>?_)
 have HS1:=dwS HWd HS0
 have HB1_g:Hid (W1.heap[g]? = some (.cells (#[.int .i64 b,.int .i64 c.S,.int .i64 c.ga,.int .i64 D,.int .i64 X,.int .i64 7,.int .i64 l,.int .i64 i,.int .i64 W,.int .i64 V]:Array Value) 122 (0,0))):=Lib.hid (by rw [← HWd.out];exact HB0_g.out)
 replace C_g:=cells10 HB1_g.out
 clear HWd
 iterate 11 refine ch_s ?_
 refine ch_z ?_
 clear hHeld
 go_wp2_with (first|(go_at_call 60;(with_reducible refine ((add_z HS1.out.mem hn HLe.out (b + 2) (HL.out 2 (by have:c.K = 6 + 2 * c.S:=rfl;omega)) _ _ (by omega))).mono ?_);rintro e W2 ⟨x,rfl,hm',hf'⟩;have HS2:=Lib.hid (HS1.out.acc hm' hf' HT.out);have HB2_g:=Lib.hid (blk_fr HB1_g.out hf' (by simp) (by decide));replace C_g:=cells10 HB2_g.out;clear hm' hf')|(go_at_call 86;(with_reducible refine (miss_lt HS2.out.mem hB HB2_g.out (by have:=HQ2.out;omega)).mono ?_);rintro e W3 ⟨rfl,hg',hm',hf'⟩;have HS3:=Lib.hid (HS2.out.turn hm' hf' (fun p hp hk=>by rw [HTe.out] at hp;rw [List.mem_singleton.1 hp];exact ⟨_,hg'⟩) (fun k hk=>.inl (by rw [HLL.out];exact hk)) HT.out);have HB3_g:Hid (W3.heap[g]? = some (.cells (#[.int .i64 b,.int .i64 c.S,.int .i64 c.ga,.int .i64 D,.int .i64 X,.int .i64 8,.int .i64 l,.int .i64 i,.int .i64 W,.int .i64 V]:Array Value) 122 (0,0))):=Lib.hid (hg');replace C_g:=cells10 HB3_g.out;clear hg' hm' hf'))
 go_ret
 refine ⟨false,⟨D,X,8,l,i,W,V⟩,(ws.set (b + 2) x),_,rfl,?_,A06.mk' hX0 hiS (.inr (.inr HLv.out)) (fun _=>by have:=HQ2.out;omega) (by decide) (by decide),HS3.out.mem,(by rw [HA.out];exact HW.out.set_node hv (by have:c.K = 6 + 2 * c.S:=rfl;omega) (by omega) x),by omega,Nat.le_refl _,HLL.out ▸ HS3.out.fr⟩
 unfold Is06;rw [HBv.out];exact HB3_g.out
theorem step06_7_ge {c:Cf} (hc:c.Ok) {v B gm g n:Nat} {w:World} {ws:List Int} (hv:v < c.N) (hm:MemIs B w gm ws n) (hw:WOk c ws) (hn:n ≤ 1000000) (hB:B ≤ g) {D X l W V:Int} {i:Nat} (hg:Is06 c v w g ⟨D,X,7,l,i,W,V⟩) (hi:A06 c ⟨D,X,7,l,i,W,V⟩) (hq2:¬ l < (c.S:Int)) :
  Calls Try.prog 66 #[.pointer (some ⟨g,0,none⟩),.pointer (some ⟨gm,0,none⟩)] w (P06 c v B gm g ws n w):=by
 have HC:=Lib.hid hc
 have HW:=Lib.hid hw
 have HI:=Lib.hid hi
 obtain ⟨b,HBv,HA,HL,HLe,b0,b1,i0,i1,q1,q2,hX0,hiS,hS1,hS8⟩:=pre06 hc hv hw hi
 obtain ⟨HB0_g,L,T,HLL,HTe,HT,HSG_g,HS0⟩:=st06 hm hB HBv.out hg
 clear hc hw hi hg hm
 have HLv:Hid (lv c l):=Lib.hid (by rcases HI.out.l with h|h|h;exact absurd (show (7:Int) = 0 from h) (by decide);exact absurd (show (7:Int) = 9 from h) (by decide);exact h)
 have HQ2:=Lib.hid hq2
 clear hq2
 obtain ⟨X',hr,hX'⟩:=next_ok X
 have HR:=Lib.hid hr
 clear hr
 have C_g:=cells10 HB0_g.out
 go_enter Try.func66,Try.ntmps66
 go_wp2
 refine ch_b C_g C_g [0,1,2,3,4,5,6,7,8,9,10] (fun W1 HWd hHeld=>?_)
 have HS1:=dwS HWd HS0
 have HB1_g:Hid (W1.heap[g]? = some (.cells (#[.int .i64 b,.int .i64 c.S,.int .i64 c.ga,.int .i64 D,.int .i64 X,.int .i64 7,.int .i64 l,.int .i64 i,.int .i64 W,.int .i64 V]:Array Value) 122 (0,0))):=Lib.hid (by rw [← HWd.out];exact HB0_g.out)
 replace C_g:=cells10 HB1_g.out
 clear HWd
 iterate 11 refine ch_s ?_
 refine ch_z ?_
 clear hHeld
 go_wp2_with (first|(go_at_call 60;(with_reducible refine ((add_z HS1.out.mem hn HLe.out (b + 2) (HL.out 2 (by have:c.K = 6 + 2 * c.S:=rfl;omega)) _ _ (by omega))).mono ?_);rintro e W2 ⟨x,rfl,hm',hf'⟩;have HS2:=Lib.hid (HS1.out.acc hm' hf' HT.out);have HB2_g:=Lib.hid (blk_fr HB1_g.out hf' (by simp) (by decide));replace C_g:=cells10 HB2_g.out;clear hm' hf')|(go_at_call 86;(with_reducible refine (miss_ge HS2.out.mem hB HB2_g.out (by have:=HQ2.out;omega) HR.out).mono ?_);rintro e W3 ⟨rfl,hg',hm',hf'⟩;have HS3:=Lib.hid (HS2.out.turn hm' hf' (fun p hp hk=>by rw [HTe.out] at hp;rw [List.mem_singleton.1 hp];exact ⟨_,hg'⟩) (fun k hk=>.inl (by rw [HLL.out];exact hk)) HT.out);have HB3_g:Hid (W3.heap[g]? = some (.cells (#[.int .i64 b,.int .i64 c.S,.int .i64 c.ga,.int .i64 D,.int .i64 X',.int .i64 0,.int .i64 l,.int .i64 i,.int .i64 W,.int .i64 V]:Array Value) 122 (0,0))):=Lib.hid (hg');replace C_g:=cells10 HB3_g.out;clear hg' hm' hf'))
 go_ret
 refine ⟨false,⟨D,X',0,l,i,W,V⟩,(ws.set (b + 2) x),_,rfl,?_,A06.mk' hX' hiS (.inl rfl) (fun h=>by omega) (by decide) (by decide),HS3.out.mem,(by rw [HA.out];exact HW.out.set_node hv (by have:c.K = 6 + 2 * c.S:=rfl;omega) (by omega) x),by omega,Nat.le_refl _,HLL.out ▸ HS3.out.fr⟩
 unfold Is06;rw [HBv.out];exact HB3_g.out
theorem step06_5 {c:Cf} (hc:c.Ok) {v B gm g n:Nat} {w:World} {ws:List Int} (hv:v < c.N) (hm:MemIs B w gm ws n) (hw:WOk c ws) (hn:n ≤ 1000000) (hB:B ≤ g) {D X l W V:Int} {i:Nat} (hg:Is06 c v w g ⟨D,X,5,l,i,W,V⟩) (hi:A06 c ⟨D,X,5,l,i,W,V⟩) :
  Calls Try.prog 66 #[.pointer (some ⟨g,0,none⟩),.pointer (some ⟨gm,0,none⟩)] w (P06 c v B gm g ws n w):=by
 have HC:=Lib.hid hc
 have HW:=Lib.hid hw
 have HI:=Lib.hid hi
 obtain ⟨b,HBv,HA,HL,HLe,b0,b1,i0,i1,q1,q2,hX0,hiS,hS1,hS8⟩:=pre06 hc hv hw hi
 obtain ⟨HB0_g,L,T,HLL,HTe,HT,HSG_g,HS0⟩:=st06 hm hB HBv.out hg
 clear hc hw hi hg hm
 have HLv:Hid (lv c l):=Lib.hid (by rcases HI.out.l with h|h|h;exact absurd (show (5:Int) = 0 from h) (by decide);exact absurd (show (5:Int) = 9 from h) (by decide);exact h)
 have C_g:=cells10 HB0_g.out
 go_enter Try.func66,Try.ntmps66
 go_wp2
 refine ch_b C_g C_g [0,1,2,3,4,5,6,7,8,9,10] (fun W1 HWd hHeld=>?_)
 have HS1:=dwS HWd HS0
 have HB1_g:Hid (W1.heap[g]? = some (.cells (#[.int .i64 b,.int .i64 c.S,.int .i64 c.ga,.int .i64 D,.int .i64 X,.int .i64 5,.int .i64 l,.int .i64 i,.int .i64 W,.int .i64 V]:Array Value) 122 (0,0))):=Lib.hid (by rw [← HWd.out];exact HB0_g.out)
 replace C_g:=cells10 HB1_g.out
 clear HWd
 iterate 11 refine ch_s ?_
 refine ch_z ?_
 clear hHeld
 go_wp2
 refine ch_d C_g C_g [9] [0,1,2,3,4,5,6,7,8,9] (fun W2 HWd hHeld=>?_)
 have HS2:=dwS HWd HS1
 have HB2_g:=dwH HWd HB1_g
 replace C_g:=cells10 HB2_g.out
 clear HWd
 iterate 9 refine ch_s ?_
 refine ch_last rfl rfl (by kernel_rfl) (by decide) (fun K hK=>?_)
 refine goes_s Try.func60 #[.pointer (some ⟨gm,0,none⟩),.int .i64 b,.int .i64 V] ?_
 refine (add_z HS2.out.mem hn HLe.out (b + 0) (HL.out 0 (by have:c.K = 6 + 2 * c.S:=rfl;omega)) V _ (by omega)).mono ?_
 rintro e W3 ⟨x,rfl,hm',hf'⟩
 refine ⟨_,rfl,?_⟩
 have HS3:=Lib.hid (HS2.out.acc hm' hf' HT.out)
 have HB3_g:=Lib.hid (blk_fr HB2_g.out hf' (by simp) (by decide))
 replace C_g:=cells10 HB3_g.out
 clear hm' hf'
 refine hK.out _ _ ?_
 clear hK K
 try simp only [Act.put,zq1,zq2,zq3]
 refine ch_z ?_
 clear hHeld
 go_wp2
 go_ret
 refine ⟨false,⟨D,X,6,l,i,W,V⟩,(ws.set (b + 0) x),_,rfl,?_,A06.mk' hX0 hiS (.inr (.inr HLv.out)) (fun h=>by omega) (by decide) (by decide),(HSG_g.out _ _ _ HS3.out 5 (.int .i64 6)).mem,(by rw [HA.out];exact HW.out.set_node hv (by have:c.K = 6 + 2 * c.S:=rfl;omega) (by omega) x),by omega,Nat.le_refl _,HLL.out ▸ (HSG_g.out _ _ _ HS3.out 5 (.int .i64 6)).fr⟩
 unfold Is06;rw [HBv.out];exact (blk_set' HB3_g.out 5 (.int .i64 6) rfl)
theorem step06_8_yes {c:Cf} (hc:c.Ok) {v B gm g n:Nat} {w:World} {ws:List Int} (hv:v < c.N) (hm:MemIs B w gm ws n) (hw:WOk c ws) (hn:n ≤ 1000000) (hB:B ≤ g) {D X l W V:Int} {i:Nat} (hg:Is06 c v w g ⟨D,X,8,l,i,W,V⟩) (hi:A06 c ⟨D,X,8,l,i,W,V⟩) (hq:wd ws (c.na v (2 + c.S) + 3) = l) :
  Calls Try.prog 66 #[.pointer (some ⟨g,0,none⟩),.pointer (some ⟨gm,0,none⟩)] w (P06 c v B gm g ws n w):=by
 have HC:=Lib.hid hc
 have HW:=Lib.hid hw
 have HI:=Lib.hid hi
 obtain ⟨b,HBv,HA,HL,HLe,b0,b1,i0,i1,q1,q2,hX0,hiS,hS1,hS8⟩:=pre06 hc hv hw hi
 obtain ⟨HB0_g,L,T,HLL,HTe,HT,HSG_g,HS0⟩:=st06 hm hB HBv.out hg
 clear hc hw hi hg hm
 rw [HBv.out] at hq
 have HLv:Hid (lv c l):=Lib.hid (by rcases HI.out.l with h|h|h;exact absurd (show (8:Int) = 0 from h) (by decide);exact absurd (show (8:Int) = 9 from h) (by decide);exact h)
 obtain ⟨X',hr,hX'⟩:=next_ok X
 have HR:=Lib.hid hr
 have HQ:=Lib.hid hq
 have hl8:=HI.out.at8 rfl
 simp only at hl8
 obtain ⟨g1,g2,g3⟩:=HLv.out.one
 have q3:IntKind.i64.wrap (2 * l) = 2 * l:=IntWalk.i64_in _ (by omega)
 have q4:IntKind.i64.wrap ((b:Int) + 3) = (b:Int) + 3:=IntWalk.i64_in _ (by omega)
 have HL2:Hid (lv c (2 * l)):=Lib.hid ⟨by have:=HLv.out.1;have:=HC.out.S;omega,by have:=HLv.out.1;have:=HC.out.S;omega⟩
 clear hr hq g2
 have C_g:=cells10 HB0_g.out
 go_enter Try.func66,Try.ntmps66
 go_wp2
 refine ch_b C_g C_g [0,1,2,3,4,5,6,7,8,9,10] (fun W1 HWd hHeld=>?_)
 have HS1:=dwS HWd HS0
 have HB1_g:Hid (W1.heap[g]? = some (.cells (#[.int .i64 b,.int .i64 c.S,.int .i64 c.ga,.int .i64 D,.int .i64 X,.int .i64 8,.int .i64 l,.int .i64 i,.int .i64 W,.int .i64 V]:Array Value) 122 (0,0))):=Lib.hid (by rw [← HWd.out];exact HB0_g.out)
 replace C_g:=cells10 HB1_g.out
 clear HWd
 iterate 11 refine ch_s ?_
 refine ch_z ?_
 clear hHeld
 go_wp2
 refine ch_d C_g C_g [15] [0,1,2,3,4,5,6,7,8,9,10,11,12,13,14,15] (fun W2 HWd hHeld=>?_)
 have HS2:=dwS HWd HS1
 have HB2_g:=dwH HWd HB1_g
 replace C_g:=cells10 HB2_g.out
 clear HWd
 iterate 15 refine ch_s ?_
 refine ch_last rfl rfl (by kernel_rfl) (by decide) (fun K hK=>?_)
 refine goes_s Try.func72 #[.pointer (some ⟨gm,0,none⟩),.int .i64 ((b:Int) + 3),.int .i64 l,.int .i64 (2 * l)] ?_
 refine (cas_yes_z HS2.out.mem hn HLe.out (b + 3) (HL.out 3 (by have:c.K = 6 + 2 * c.S:=rfl;omega)) l (2 * l) _ (by omega) HQ.out).mono ?_
 rintro e W3 ⟨rfl,hm',hf'⟩
 refine ⟨_,rfl,?_⟩
 have HS3:=Lib.hid (HS2.out.acc hm' hf' HT.out)
 have HB3_g:=Lib.hid (blk_fr HB2_g.out hf' (by simp) (by decide))
 replace C_g:=cells10 HB3_g.out
 clear hm' hf'
 refine hK.out _ _ ?_
 clear hK K
 try simp only [Act.put,zq1,zq2,zq3]
 refine ch_z ?_
 clear hHeld
 go_wp2_with (first|(go_at_call 87;(with_reducible refine (breadlineref02_Next.calls X X' _ HR.out).mono ?_);rintro e w' ⟨rfl,⟨nd,rfl⟩⟩;generalize hWd:World.drewN W3 nd = W4 at ⊢;have HWd:=Lib.hid hWd;clear hWd;have HS4:Hid (St B L T w gm (ws.set (b + 3) (2 * l)) (n + 1) W4):=Lib.hid (by rw [← HWd.out];exact HS3.out.drewN nd);have HB4_g:=dwH HWd HB3_g;replace C_g:=cells10 HB4_g.out;clear HWd))
 go_ret
 refine ⟨false,⟨D,X',0,l,i,W,V⟩,(ws.set (b + 3) (2 * l)),_,rfl,?_,A06.mk' hX' hiS (.inl rfl) (fun h=>by omega) (by decide) (by decide),(HSG_g.out _ _ _ (HSG_g.out _ _ _ HS4.out 4 (.int .i64 X')) 5 (.int .i64 0)).mem,(by rw [HA.out,show 2 + c.S + 3 = 5 + c.S by omega];exact HW.out.set_live hv HL2.out),by omega,Nat.le_refl _,HLL.out ▸ (HSG_g.out _ _ _ (HSG_g.out _ _ _ HS4.out 4 (.int .i64 X')) 5 (.int .i64 0)).fr⟩
 unfold Is06;rw [HBv.out];exact (blk_set' (blk_set' HB4_g.out 4 (.int .i64 X') rfl) 5 (.int .i64 0) rfl)
theorem step06_8_no {c:Cf} (hc:c.Ok) {v B gm g n:Nat} {w:World} {ws:List Int} (hv:v < c.N) (hm:MemIs B w gm ws n) (hw:WOk c ws) (hn:n ≤ 1000000) (hB:B ≤ g) {D X l W V:Int} {i:Nat} (hg:Is06 c v w g ⟨D,X,8,l,i,W,V⟩) (hi:A06 c ⟨D,X,8,l,i,W,V⟩) (hq:wd ws (c.na v (2 + c.S) + 3) ≠ l) :
  Calls Try.prog 66 #[.pointer (some ⟨g,0,none⟩),.pointer (some ⟨gm,0,none⟩)] w (P06 c v B gm g ws n w):=by
 have HC:=Lib.hid hc
 have HW:=Lib.hid hw
 have HI:=Lib.hid hi
 obtain ⟨b,HBv,HA,HL,HLe,b0,b1,i0,i1,q1,q2,hX0,hiS,hS1,hS8⟩:=pre06 hc hv hw hi
 obtain ⟨HB0_g,L,T,HLL,HTe,HT,HSG_g,HS0⟩:=st06 hm hB HBv.out hg
 clear hc hw hi hg hm
 rw [HBv.out] at hq
 have HLv:Hid (lv c l):=Lib.hid (by rcases HI.out.l with h|h|h;exact absurd (show (8:Int) = 0 from h) (by decide);exact absurd (show (8:Int) = 9 from h) (by decide);exact h)
 obtain ⟨X',hr,hX'⟩:=next_ok X
 have HR:=Lib.hid hr
 have HQ:=Lib.hid hq
 have hl8:=HI.out.at8 rfl
 simp only at hl8
 obtain ⟨g1,g2,g3⟩:=HLv.out.one
 have q3:IntKind.i64.wrap (2 * l) = 2 * l:=IntWalk.i64_in _ (by omega)
 have q4:IntKind.i64.wrap ((b:Int) + 3) = (b:Int) + 3:=IntWalk.i64_in _ (by omega)
 have HL2:Hid (lv c (2 * l)):=Lib.hid ⟨by have:=HLv.out.1;have:=HC.out.S;omega,by have:=HLv.out.1;have:=HC.out.S;omega⟩
 clear hr hq g2
 have C_g:=cells10 HB0_g.out
 go_enter Try.func66,Try.ntmps66
 go_wp2
 refine ch_b C_g C_g [0,1,2,3,4,5,6,7,8,9,10] (fun W1 HWd hHeld=>?_)
 have HS1:=dwS HWd HS0
 have HB1_g:Hid (W1.heap[g]? = some (.cells (#[.int .i64 b,.int .i64 c.S,.int .i64 c.ga,.int .i64 D,.int .i64 X,.int .i64 8,.int .i64 l,.int .i64 i,.int .i64 W,.int .i64 V]:Array Value) 122 (0,0))):=Lib.hid (by rw [← HWd.out];exact HB0_g.out)
 replace C_g:=cells10 HB1_g.out
 clear HWd
 iterate 11 refine ch_s ?_
 refine ch_z ?_
 clear hHeld
 go_wp2
 refine ch_d C_g C_g [15] [0,1,2,3,4,5,6,7,8,9,10,11,12,13,14,15] (fun W2 HWd hHeld=>?_)
 have HS2:=dwS HWd HS1
 have HB2_g:=dwH HWd HB1_g
 replace C_g:=cells10 HB2_g.out
 clear HWd
 iterate 15 refine ch_s ?_
 refine ch_last rfl rfl (by kernel_rfl) (by decide) (fun K hK=>?_)
 refine goes_s Try.func72 #[.pointer (some ⟨gm,0,none⟩),.int .i64 ((b:Int) + 3),.int .i64 l,.int .i64 (2 * l)] ?_
 refine (cas_no_z HS2.out.mem hn HLe.out (b + 3) (HL.out 3 (by have:c.K = 6 + 2 * c.S:=rfl;omega)) l (2 * l) _ (by omega) HQ.out).mono ?_
 rintro e W3 ⟨rfl,hm',hf'⟩
 refine ⟨_,rfl,?_⟩
 have HS3:=Lib.hid (HS2.out.acc hm' hf' HT.out)
 have HB3_g:=Lib.hid (blk_fr HB2_g.out hf' (by simp) (by decide))
 replace C_g:=cells10 HB3_g.out
 clear hm' hf'
 refine hK.out _ _ ?_
 clear hK K
 try simp only [Act.put,zq1,zq2,zq3]
 refine ch_z ?_
 clear hHeld
 go_wp2_with (first|(go_at_call 87;(with_reducible refine (breadlineref02_Next.calls X X' _ HR.out).mono ?_);rintro e w' ⟨rfl,⟨nd,rfl⟩⟩;generalize hWd:World.drewN W3 nd = W4 at ⊢;have HWd:=Lib.hid hWd;clear hWd;have HS4:Hid (St B L T w gm ws (n + 1) W4):=Lib.hid (by rw [← HWd.out];exact HS3.out.drewN nd);have HB4_g:=dwH HWd HB3_g;replace C_g:=cells10 HB4_g.out;clear HWd))
 go_ret
 refine ⟨false,⟨D,X',0,l,i,W,V⟩,ws,_,rfl,?_,A06.mk' hX' hiS (.inl rfl) (fun h=>by omega) (by decide) (by decide),(HSG_g.out _ _ _ (HSG_g.out _ _ _ HS4.out 4 (.int .i64 X')) 5 (.int .i64 0)).mem,WTo.refl HW.out,by omega,Nat.le_refl _,HLL.out ▸ (HSG_g.out _ _ _ (HSG_g.out _ _ _ HS4.out 4 (.int .i64 X')) 5 (.int .i64 0)).fr⟩
 unfold Is06;rw [HBv.out];exact (blk_set' (blk_set' HB4_g.out 4 (.int .i64 X') rfl) 5 (.int .i64 0) rfl)
theorem step06_9 {c:Cf} (hc:c.Ok) {v B gm g n:Nat} {w:World} {ws:List Int} (hv:v < c.N) (hm:MemIs B w gm ws n) (hw:WOk c ws) (hn:n ≤ 1000000) (hB:B ≤ g) {D X l W V:Int} {i:Nat} (hg:Is06 c v w g ⟨D,X,9,l,i,W,V⟩) (hi:A06 c ⟨D,X,9,l,i,W,V⟩) :
  Calls Try.prog 66 #[.pointer (some ⟨g,0,none⟩),.pointer (some ⟨gm,0,none⟩)] w (P06 c v B gm g ws n w):=by
 have HC:=Lib.hid hc
 have HW:=Lib.hid hw
 have HI:=Lib.hid hi
 obtain ⟨b,HBv,HA,HL,HLe,b0,b1,i0,i1,q1,q2,hX0,hiS,hS1,hS8⟩:=pre06 hc hv hw hi
 obtain ⟨HB0_g,L,T,HLL,HTe,HT,HSG_g,HS0⟩:=st06 hm hB HBv.out hg
 clear hc hw hi hg hm
 have C_g:=cells10 HB0_g.out
 go_enter Try.func66,Try.ntmps66
 go_wp2
 refine ch_b C_g C_g [0,1,2,3,4,5,6,7,8,9,10] (fun W1 HWd hHeld=>?_)
 have HS1:=dwS HWd HS0
 have HB1_g:Hid (W1.heap[g]? = some (.cells (#[.int .i64 b,.int .i64 c.S,.int .i64 c.ga,.int .i64 D,.int .i64 X,.int .i64 9,.int .i64 l,.int .i64 i,.int .i64 W,.int .i64 V]:Array Value) 122 (0,0))):=Lib.hid (by rw [← HWd.out];exact HB0_g.out)
 replace C_g:=cells10 HB1_g.out
 clear HWd
 iterate 11 refine ch_s ?_
 refine ch_z ?_
 clear hHeld
 go_wp2
 go_ret
 refine ⟨true,⟨D,X,9,l,i,W,V⟩,ws,_,rfl,?_,A06.mk' hX0 hiS (.inr (.inl rfl)) (fun h=>by omega) (by decide) (by decide),HS1.out.mem,WTo.refl HW.out,Nat.le_refl _,by omega,HLL.out ▸ HS1.out.fr⟩
 unfold Is06;rw [HBv.out];exact HB1_g.out
theorem step06 {c:Cf} (hc:c.Ok) {v B gm g n:Nat} {w:World} {ws:List Int} (hv:v < c.N) (hm:MemIs B w gm ws n) (hw:WOk c ws) (hn:n ≤ 1000000) (hB:B ≤ g) {s:S06} (hg:Is06 c v w g s) (hi:A06 c s) :
  Calls Try.prog 66 #[.pointer (some ⟨g,0,none⟩),.pointer (some ⟨gm,0,none⟩)] w (P06 c v B gm g ws n w):=by
 obtain ⟨D,X,At,l,i,W,V⟩:=s
 have h0:=hi.at0
 have h9:=hi.at9
 simp only at h0 h9
 obtain h|h|h|h|h|h|h|h|h|h:At = 0 ∨ At = 1 ∨ At = 2 ∨ At = 3 ∨ At = 4 ∨ At = 5 ∨ At = 6 ∨ At = 7 ∨ At = 8 ∨ At = 9:=by omega
 all_goals subst h
 ·exact step06_0 hc hv hm hw hn hB hg hi
 ·by_cases h1:IntKind.i64.wrap ((breadlineref01_Value.f (wd ws (c.na v (2 + c.S) + (4 + i)))).getD 0 + D) ≤ -c.ga
  ·exact step06_1_0 hc hv hm hw hn hB hg hi h1
  ·by_cases h2:c.ga ≤ IntKind.i64.wrap ((breadlineref01_Value.f (wd ws (c.na v (2 + c.S) + (4 + i)))).getD 0 + D)
   ·exact step06_1_1 hc hv hm hw hn hB hg hi ⟨by omega,h2⟩
   ·exact step06_1_2 hc hv hm hw hn hB hg hi ⟨by omega,by omega⟩
 ·by_cases h1:wd ws (c.na v (2 + c.S) + (4 + i)) = W
  ·exact step06_2_yes hc hv hm hw hn hB hg hi h1
  ·by_cases h2:l < (c.S:Int)
   ·exact step06_2_lt hc hv hm hw hn hB hg hi h1 h2
   ·exact step06_2_ge hc hv hm hw hn hB hg hi h1 h2
 ·exact step06_3 hc hv hm hw hn hB hg hi
 ·by_cases h1:wd ws (c.na v (2 + c.S) + (4 + i)) = W
  ·exact step06_4_yes hc hv hm hw hn hB hg hi h1
  ·exact step06_4_no hc hv hm hw hn hB hg hi h1
 ·exact step06_5 hc hv hm hw hn hB hg hi
 ·exact step06_6 hc hv hm hw hn hB hg hi
 ·by_cases h2:l < (c.S:Int)
  ·exact step06_7_lt hc hv hm hw hn hB hg hi h2
  ·exact step06_7_ge hc hv hm hw hn hB hg hi h2
 ·by_cases h1:wd ws (c.na v (2 + c.S) + 3) = l
  ·exact step06_8_yes hc hv hm hw hn hB hg hi h1
  ·exact step06_8_no hc hv hm hw hn hB hg hi h1
 ·exact step06_9 hc hv hm hw hn hB hg hi
end Go.Proofs.Ytadblpcjkahikaa.PTraceRuns

