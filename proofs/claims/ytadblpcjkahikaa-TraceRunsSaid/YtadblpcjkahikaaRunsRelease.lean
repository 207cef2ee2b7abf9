
import Derived.Test.YtadblpcjkahikaaRunsAdmit2
namespace Go.Proofs.Ytadblpcjkahikaa.PTraceRuns
open Go.RowKit Go.Proofs.YtadblpcjkahikaaW.PrintWords Go.Proofs.YtadblpcjkahikaaW.PrintLast Go.Proofs.YtadblpcjkahikaaW.PrintMore
set_option linter.unusedVariables false
set_option linter.unusedSimpArgs false
attribute [local go_sem] ans_f0 ans_f1
set_option maxHeartbeats 2000000
set_option maxRecDepth 100000
def k13 (c:Cf) (AP:Option Addr) (cP:Nat) (AL:Option Addr) (cL:Nat) (k:Nat) (ver:Int) (th:Nat) (ph at_ sw st:Int) (A2:Option Addr) (m c2:Nat) (nd n0:Int) (ga:Option Addr) (o0 o1:Int) (o2:Bool) (o3:Int):Array Value:=#[.int .i64 c.th,.int .i64 c.S,.int .i64 c.ga,.int .i64 c.le,.int .i64 c.re,.int .i64 c.ti,.slice AP c.pa.length cP,.slice AL c.li.length cL,.int .i64 k,.int .i64 ver,.int .i64 th,.int .i64 ph,.int .i64 at_,.int .i64 sw,.int .i64 st,.slice A2 m c2,.int .i64 nd,.int .i64 n0,.pointer ga,.int .i64 o0,.int .i64 o1,.bool o2,.int .i64 o3]
theorem cells_k13 {c:Cf} {AP:Option Addr} {cP:Nat} {AL:Option Addr} {cL:Nat} {k:Nat} {ver:Int} {th:Nat} {ph at_ sw st:Int} {A2:Option Addr} {m c2:Nat} {nd n0:Int} {ga:Option Addr} {o0 o1:Int} {o2:Bool} {o3:Int} {w:World} {g:Nat} (h:w.heap[g]? = some (.cells (k13 c AP cP AL cL k ver th ph at_ sw st A2 m c2 nd n0 ga o0 o1 o2 o3) 100 (0,0))):Sat (fun w=>(∀ i,w.frozen? ⟨g,i,none⟩ = false)∧w.cell? ⟨g,0,none⟩ = some (.int .i64 c.th)∧w.cell? ⟨g,1,none⟩ = some (.int .i64 c.S)∧w.cell? ⟨g,2,none⟩ = some (.int .i64 c.ga)∧w.cell? ⟨g,3,none⟩ = some (.int .i64 c.le)∧w.cell? ⟨g,4,none⟩ = some (.int .i64 c.re)∧w.cell? ⟨g,5,none⟩ = some (.int .i64 c.ti)∧w.cell? ⟨g,6,none⟩ = some (.slice AP c.pa.length cP)∧w.cell? ⟨g,7,none⟩ = some (.slice AL c.li.length cL)∧w.cell? ⟨g,8,none⟩ = some (.int .i64 k)∧w.cell? ⟨g,9,none⟩ = some (.int .i64 ver)∧w.cell? ⟨g,10,none⟩ = some (.int .i64 th)∧w.cell? ⟨g,11,none⟩ = some (.int .i64 ph)∧w.cell? ⟨g,12,none⟩ = some (.int .i64 at_)∧w.cell? ⟨g,13,none⟩ = some (.int .i64 sw)∧w.cell? ⟨g,14,none⟩ = some (.int .i64 st)∧w.cell? ⟨g,15,none⟩ = some (.slice A2 m c2)∧w.cell? ⟨g,16,none⟩ = some (.int .i64 nd)∧w.cell? ⟨g,17,none⟩ = some (.int .i64 n0)∧w.cell? ⟨g,18,none⟩ = some (.pointer ga)∧w.cell? ⟨g,19,none⟩ = some (.int .i64 o0)∧w.cell? ⟨g,20,none⟩ = some (.int .i64 o1)∧w.cell? ⟨g,21,none⟩ = some (.bool o2)∧w.cell? ⟨g,22,none⟩ = some (.int .i64 o3)) w:=by unfold k13 at h;exact cells23 h
structure S13 where
 k:Nat
 ver:Int
 th:Nat
 ph:Int
 at_:Int
 sw:Int
 st:Int
 pth:List Int
 nd:Int
 n0:Int
 ga:Option Nat
 o0:Int
 o1:Int
 o2:Bool
 o3:Int
def own13 (g:Nat) (x:S13):List Nat:=g :: x.ga.toList
structure Is13 (c:Cf) (w:World) (g:Nat) (x:S13):Prop where
 b:∃ AP cP AL cL A2 m c2,w.heap[g]? = some (.cells (k13 c AP cP AL cL x.k x.ver x.th x.ph x.at_ x.sw x.st A2 m c2 x.nd x.n0 (bp x.ga) x.o0 x.o1 x.o2 x.o3) 100 (0,0))∧Ints w (.slice AP c.pa.length cP) c.pa∧Ints w (.slice AL c.li.length cL) c.li∧(x.ph = 3 ∨ x.ph = 4→x.pth.length = m∧Ints w (.slice A2 m c2) x.pth)
 add:x.ph = 4→∃ ga v xa,x.ga = some ga∧v < c.N∧Is06 c v w ga xa∧A06 c xa
structure A13 (c:Cf) (ws:List Int) (x:S13):Prop where
 k:x.k < c.ti
 th:x.th ≤ 1000
 ph:x.ph = 0 ∨ x.ph = 1 ∨ x.ph = 2 ∨ x.ph = 3 ∨ x.ph = 4 ∨ x.ph = 5 ∨ x.ph = 6
 p:x.ph = 3 ∨ x.ph = 4→0 < x.pth.length∧x.pth.length ≤ 100∧nodesOk c x.pth∧0 ≤ x.at_∧x.at_ < x.pth.length
 at0:x.ph = 0 ∨ x.ph = 1 ∨ x.ph = 2→x.at_ = 0
 saw:x.ph = 1→isLive x.sw
 body:x.ph = 2→bodyOk c (wd ws (c.tk x.k + 1))
theorem A13.to {c:Cf} {ws ws':List Int} {x:S13} (h:A13 c ws x) (hw:WTo c ws ws'):A13 c ws' x :=
 ⟨h.k,h.th,h.ph,h.p,h.at0,h.saw,fun hp=>hw.later x.k h.k (h.body hp)⟩
theorem Is13.fr {c:Cf} {B g:Nat} {L:List Nat} {w w':World} {x:S13} (h:Is13 c w g x) (hf:Fr B true L w w') (hL:∀ k ∈ own13 g x,k ∉ L):Is13 c w' g x:=by
 obtain ⟨⟨AP,cP,AL,cL,A2,m,c2,hb,hP,hLi,h2⟩,ha⟩:=h
 refine ⟨⟨AP,cP,AL,cL,A2,m,c2,blk_fr hb hf (hL g (by simp [own13])) (fun _=>by decide),hP.fr hf,hLi.fr hf,fun e=>⟨(h2 e).1,(h2 e).2.fr hf⟩⟩,fun e=>?_⟩
 obtain ⟨ga,v,xa,e1,hv,hi,ha⟩:=ha e
 exact ⟨ga,v,xa,e1,hv,hi.fr hf (hL ga (by simp [own13,e1])),ha⟩
def P13 (c:Cf) (B gm g:Nat) (x:S13) (ws:List Int) (n:Nat) (w:World) (e:Ending) (w':World):Prop :=
 ∃ b x' ws' n',e = .returned (.bool b)∧Is13 c w' g x'∧A13 c ws' x'∧MemIs B w' gm ws' n'∧WTo c ws ws'∧n ≤ n'∧n' ≤ n + 1∧Fr B true (own13 g x) w w'∧∀ k ∈ own13 g x',k ∈ own13 g x ∨ w.heap.size ≤ k∧k < w'.heap.size
theorem named_ok {h r1 r2:Int} {ti:Nat} (e:breadlineref10_Named.f h ti = some (r1,r2,true)):∃ k:Nat,k < ti∧r1 = k:=by
 unfold breadlineref10_Named.f at e
 split at e
 ·simp at e
 ·rename_i h0
  split at e
  ·simp at e
  ·rename_i h1
   split at e
   ·simp at e
   ·simp only [Option.some.injEq,Prod.mk.injEq] at e
    have h2:=Int.tmod_nonneg 16 (show 0 ≤ h by omega)
    exact ⟨(Int.tmod h 16).toNat,by omega,by omega⟩
theorem refused13 {c:Cf} {B gm g n:Nat} {w:World} {ws:List Int} (hm:MemIs B w gm ws n) (hB:B ≤ g) {AP AL A2:Option Addr} {cP cL k th m c2:Nat} {ver ph at_ sw st nd n0 o0 o1 o3:Int} {o2:Bool} {ga:Option Addr} (hg:w.heap[g]? = some (.cells (k13 c AP cP AL cL k ver th ph at_ sw st A2 m c2 nd n0 ga o0 o1 o2 o3) 100 (0,0))) :
  Calls Try.prog 71 #[.pointer (some ⟨g,0,none⟩)] w fun e w'=>e = .returned (.tuple #[])∧w'.heap[g]? = some (.cells (k13 c AP cP AL cL k ver th 6 at_ sw st A2 m c2 nd n0 ga 5 0 false 0) 100 (0,0))∧MemIs B w' gm ws n∧Fr B true [g] w w':=by
 obtain ⟨L,T,HLL,HTe,HT,HSG_g,HS0⟩:=st1 hm hB hg (by decide) (by decide)
 have HB0_g:=Lib.hid hg
 clear hm hg
 have C_g:=cells_k13 HB0_g.out
 go_enter Try.func71,Try.ntmps71
 go_wp2
 go_end0
 exact ⟨rfl,(blk_set' (blk_set' (blk_set' (blk_set' (blk_set' HB0_g.out 19 (.int .i64 5) rfl) 20 (.int .i64 0) rfl) 21 (.bool false) rfl) 22 (.int .i64 0) rfl) 11 (.int .i64 6) rfl),(HSG_g.out _ _ _ (HSG_g.out _ _ _ (HSG_g.out _ _ _ (HSG_g.out _ _ _ (HSG_g.out _ _ _ HS0.out 19 (.int .i64 5)) 20 (.int .i64 0)) 21 (.bool false)) 22 (.int .i64 0)) 11 (.int .i64 6)).mem,HLL.out ▸ (HSG_g.out _ _ _ (HSG_g.out _ _ _ (HSG_g.out _ _ _ (HSG_g.out _ _ _ (HSG_g.out _ _ _ HS0.out 19 (.int .i64 5)) 20 (.int .i64 0)) 21 (.bool false)) 22 (.int .i64 0)) 11 (.int .i64 6)).fr⟩
theorem added13_end {c:Cf} {B gm g n:Nat} {w:World} {ws:List Int} (hm:MemIs B w gm ws n) (hB:B ≤ g) {AP AL A2:Option Addr} {cP cL k th m c2:Nat} {ver ph at_ sw st nd n0 o0 o1 o3:Int} {o2:Bool} {ga:Option Addr} (hg:w.heap[g]? = some (.cells (k13 c AP cP AL cL k ver th ph at_ sw st A2 m c2 nd n0 ga o0 o1 o2 o3) 100 (0,0))) (h0:0 ≤ at_) (h1:(m:Int) ≤ at_ + 1) (h2:at_ ≤ 1000) :
  Calls Try.prog 74 #[.pointer (some ⟨g,0,none⟩)] w fun e w'=>e = .returned (.tuple #[])∧w'.heap[g]? = some (.cells (k13 c AP cP AL cL k ver th 5 (at_ + 1) sw st A2 m c2 nd n0 ga o0 o1 o2 o3) 100 (0,0))∧MemIs B w' gm ws n∧Fr B true [g] w w':=by
 obtain ⟨L,T,HLL,HTe,HT,HSG_g,HS0⟩:=st1 hm hB hg (by decide) (by decide)
 have HB0_g:=Lib.hid hg
 clear hm hg
 obtain ⟨a,ha⟩:=Int.eq_ofNat_of_zero_le h0
 subst ha
 obtain ⟨b,hb⟩:∃ b:Nat,b = a + 1:=⟨_,rfl⟩
 have q9:IntKind.i64.wrap ((a:Int) + 1) = (b:Int):=by rw [hb];exact IntWalk.i64_in _ (by omega)
 have d1:decide ((b:Int) < (m:Int)) = false:=decide_eq_false (by omega)
 have d2:decide (b < m) = false:=decide_eq_false (by omega)
 have HBA:Hid ((b:Int) = a + 1):=Lib.hid (by omega)
 clear hb h0 h1
 have C_g:=cells_k13 HB0_g.out
 go_enter Try.func74,Try.ntmps74
 go_wp2
 generalize hWd:(World.setCell w ⟨g,12,none⟩ (.int .i64 b)) = W1 at ⊢
 have HWd:=Lib.hid hWd
 clear hWd
 have HS1:Hid (St B L T w gm ws n W1):=Lib.hid (by rw [← HWd.out];exact (HSG_g.out _ _ _ HS0.out 12 (.int .i64 b)))
 have HB1_g:Hid (W1.heap[g]? = some (.cells (k13 c AP cP AL cL k ver th ph b sw st A2 m c2 nd n0 ga o0 o1 o2 o3) 100 (0,0))):=Lib.hid (by rw [← HWd.out];exact (blk_set' HB0_g.out 12 (.int .i64 b) rfl))
 replace C_g:=cells_k13 HB1_g.out
 clear HWd
 refine ch_b C_g C_g [0,1,2,3,4,5,6,7,8,9] (fun W2 HWd hHeld=>?_)
 have HS2:=dwS HWd HS1
 have HB2_g:=dwH HWd HB1_g
 replace C_g:=cells_k13 HB2_g.out
 clear HWd
 iterate 10 refine ch_s ?_
 refine ch_z ?_
 clear hHeld
 go_wp2
 go_end0
 rw [← HBA.out]
 exact ⟨rfl,(blk_set' HB2_g.out 11 (.int .i64 5) rfl),(HSG_g.out _ _ _ HS2.out 11 (.int .i64 5)).mem,HLL.out ▸ (HSG_g.out _ _ _ HS2.out 11 (.int .i64 5)).fr⟩
theorem added13_on {c:Cf} {B gm g n:Nat} {w:World} {ws:List Int} (hm:MemIs B w gm ws n) (hB:B ≤ g) {AP AL A2:Option Addr} {cP cL k th m c2:Nat} {ver ph at_ sw st nd n0 o0 o1 o3:Int} {o2:Bool} {ga:Option Addr} (hg:w.heap[g]? = some (.cells (k13 c AP cP AL cL k ver th ph at_ sw st A2 m c2 nd n0 ga o0 o1 o2 o3) 100 (0,0))) (hc:c.Ok) (hP:Ints w (.slice AP c.pa.length cP) c.pa) (hL:Ints w (.slice AL c.li.length cL) c.li) {r:List Int} (hN:Ints w (.slice A2 m c2) r) (hr:r.length = m∧nodesOk c r) (h0:0 ≤ at_) (h1:at_ + 1 < m) (hm0:m ≤ 100) (hth:th ≤ 1000) :
  Calls Try.prog 74 #[.pointer (some ⟨g,0,none⟩)] w fun e w'=>e = .returned (.tuple #[])∧∃ ga' d,w'.heap[g]? = some (.cells (k13 c AP cP AL cL k ver th ph (at_ + 1) sw st A2 m c2 nd n0 (some ⟨ga',0,none⟩) o0 o1 o2 o3) 100 (0,0))∧To5 c w w' d ga'∧MemIs B w' gm ws n∧Fr B true [g] w w':=by
 obtain ⟨L,T,HLL,HTe,HT,HSG_g,HS0⟩:=st1 hm hB hg (by decide) (by decide)
 have HB0_g:=Lib.hid hg
 have HC:=Lib.hid hc
 have HP:=Lib.hid hP
 have HLi:=Lib.hid hL
 have HN:=Lib.hid hN
 have HR:=Lib.hid hr
 clear hc hP hL hN hr
 clear hm hg
 obtain ⟨a,ha⟩:=Int.eq_ofNat_of_zero_le h0
 subst ha
 obtain ⟨b,hb⟩:∃ b:Nat,b = a + 1:=⟨_,rfl⟩
 have q9:IntKind.i64.wrap ((a:Int) + 1) = (b:Int):=by rw [hb];exact IntWalk.i64_in _ (by omega)
 have d1:decide ((b:Int) < (m:Int)) = true:=decide_eq_true (by omega)
 have d2:decide (b < m) = true:=decide_eq_true (by omega)
 have HBA:Hid ((b:Int) = a + 1):=Lib.hid (by omega)
 obtain ⟨gA,xf,rfl,hx,hne0,HAT⟩:=ints_at (B:=B) (L:=L) HN.out (by omega)
 have ne1:=hne0 _ _ _ _ HB0_g.out (by decide)
 have ne2:=Ne.symm ne1
 clear hne0
 obtain ⟨u,hu,hu2⟩:=node_at HR.out hx (i:=b) (by omega)
 have HU:=Lib.hid hu2
 have HUX:=Lib.hid hu
 have HBM:Hid (b < m):=Lib.hid (by omega)
 have HTH:=Lib.hid hth
 have i1:(0:Int) ≤ (b:Int):=by omega
 have i2:(b:Int) < (m:Int):=by omega
 clear hb h0 h1 hx hu hu2 hth
 obtain ⟨dn,hdn⟩:∃ d,IntKind.i64.wrap (-n0) = d:=⟨_,rfl⟩
 have hdn':wrap64 (-n0) = dn:=by rw [← hdn,i64_w]
 have C_g:=cells_k13 HB0_g.out
 go_enter Try.func74,Try.ntmps74
 go_wp2
 generalize hWd:(World.setCell w ⟨g,12,none⟩ (.int .i64 b)) = W1 at ⊢
 have HWd:=Lib.hid hWd
 clear hWd
 have HS1:Hid (St B L T w gm ws n W1):=Lib.hid (by rw [← HWd.out];exact (HSG_g.out _ _ _ HS0.out 12 (.int .i64 b)))
 have HB1_g:Hid (W1.heap[g]? = some (.cells (k13 c AP cP AL cL k ver th ph b sw st (some ⟨gA,0,none⟩) m c2 nd n0 ga o0 o1 o2 o3) 100 (0,0))):=Lib.hid (by rw [← HWd.out];exact (blk_set' HB0_g.out 12 (.int .i64 b) rfl))
 replace C_g:=cells_k13 HB1_g.out
 clear HWd
 refine ch_b C_g C_g [0,1,2,3,4,5,6,7,8,9] (fun W2 HWd hHeld=>?_)
 have HS2:=dwS HWd HS1
 have HB2_g:=dwH HWd HB1_g
 replace C_g:=cells_k13 HB2_g.out
 clear HWd
 iterate 10 refine ch_s ?_
 refine ch_z ?_
 clear hHeld
 go_wp2
 refine ch_st (fun wS=>wS.cell? ⟨g,0,none⟩ = some (.int .i64 c.th)∧wS.cell? ⟨g,1,none⟩ = some (.int .i64 c.S)∧wS.cell? ⟨g,2,none⟩ = some (.int .i64 c.ga)∧wS.cell? ⟨g,3,none⟩ = some (.int .i64 c.le)∧wS.cell? ⟨g,4,none⟩ = some (.int .i64 c.re)∧wS.cell? ⟨g,5,none⟩ = some (.int .i64 c.ti)∧wS.cell? ⟨g,6,none⟩ = some (.slice AP c.pa.length cP)∧wS.cell? ⟨g,7,none⟩ = some (.slice AL c.li.length cL)∧wS.cell? ⟨g,10,none⟩ = some (.int .i64 th)∧wS.cell? ⟨g,12,none⟩ = some (.int .i64 b)∧wS.cell? ⟨g,15,none⟩ = some (.slice (some ⟨gA,0,none⟩) m c2)∧wS.cell? ⟨g,17,none⟩ = some (.int .i64 n0)∧wS.cell? ⟨gA,b,none⟩ = some (.int .i64 u)) [27] [0,1,2,3,4,5,6,7,8,9,10,11,12,13,14,15,16,17,18,19,20,21,22,23,24,25,26,27] (by kernel_rfl) rfl (⟨C_g.2.1,C_g.2.2.1,C_g.2.2.2.1,C_g.2.2.2.2.1,C_g.2.2.2.2.2.1,C_g.2.2.2.2.2.2.1,C_g.2.2.2.2.2.2.2.1,C_g.2.2.2.2.2.2.2.2.1,C_g.2.2.2.2.2.2.2.2.2.2.2.1,C_g.2.2.2.2.2.2.2.2.2.2.2.2.2.1,C_g.2.2.2.2.2.2.2.2.2.2.2.2.2.2.2.2.1,C_g.2.2.2.2.2.2.2.2.2.2.2.2.2.2.2.2.2.2.1,(by rw [← HUX.out];exact HAT.out _ HS2.out.fr b HBM.out)⟩) (fun W3 HWd hHeld=>?_)
 have HS3:=dwS HWd HS2
 have HB3_g:=dwH HWd HB2_g
 replace C_g:=cells_k13 HB3_g.out
 clear HWd
 iterate 24 refine ch_s ?_
 refine ch_1 fun K hK=>?_
 refine goes_s Try.func65 #[(cA c AP cP AL cL),.int .i64 u,.int .i64 dn,.int .i64 th] ?_
 refine (put12 HC.out (HP.out.fr HS3.out.fr) (HLi.out.fr HS3.out.fr) HU.out HTH.out).mono ?_
 rintro e W4 ⟨g2,x0,rfl,hx0,hge,his,hb'⟩
 refine ⟨_,rfl,?_⟩
 have HX0:=Lib.hid hx0
 have HG_g2:Hid (w.heap.size ≤ g2):=Lib.hid (Nat.le_trans HS3.out.fr.size hge)
 have HIS:=Lib.hid his
 clear hx0 hge his
 have HS4:=Lib.hid (HS3.out.below hb')
 have HB4_g:=Lib.hid (blk_below HB3_g.out hb')
 replace C_g:=cells_k13 HB4_g.out
 clear hb'
 refine hK.out _ _ (⟨C_g.2.1,C_g.2.2.1,C_g.2.2.2.1,C_g.2.2.2.2.1,C_g.2.2.2.2.2.1,C_g.2.2.2.2.2.2.1,C_g.2.2.2.2.2.2.2.1,C_g.2.2.2.2.2.2.2.2.1,C_g.2.2.2.2.2.2.2.2.2.2.2.1,C_g.2.2.2.2.2.2.2.2.2.2.2.2.2.1,C_g.2.2.2.2.2.2.2.2.2.2.2.2.2.2.2.2.1,C_g.2.2.2.2.2.2.2.2.2.2.2.2.2.2.2.2.2.2.1,(by rw [← HUX.out];exact HAT.out _ HS4.out.fr b HBM.out)⟩) ?_;clear hK K hHeld;intro hHeld
 try simp only [Act.put,zq1,zq2,zq3]
 iterate 2 refine ch_s ?_
 refine ch_last rfl rfl (by kernel_rfl) (by decide) (fun K hK=>?_)
 refine skip_ (by rfl) rfl (by go_simp;first|rfl|exact ⟨rfl,rfl⟩) ?_
 refine hK.out _ _ ?_
 clear hK K
 try simp only [Act.put,zq1,zq2,zq3]
 refine ch_z ?_
 clear hHeld
 go_wp2
 go_end0
 rw [← HBA.out]
 exact ⟨rfl,g2,dn,(blk_set' HB4_g.out 18 (.pointer (some ⟨g2,0,none⟩)) rfl),⟨u,x0,HG_g2.out,HU.out,HX0.out,HIS.out.fr (Fr.refl B true [g] _ |>.setCell hB (.inl (by simp)) HB4_g.out (by decide) _) (by simp;have:=blk_lt HB0_g.out;have:=HG_g2.out;omega)⟩,(HSG_g.out _ _ _ HS4.out 18 (.pointer (some ⟨g2,0,none⟩))).mem,HLL.out ▸ (HSG_g.out _ _ _ HS4.out 18 (.pointer (some ⟨g2,0,none⟩))).fr⟩
theorem added13_any {c:Cf} {B gm g n:Nat} {w:World} {ws:List Int} (hm:MemIs B w gm ws n) (hB:B ≤ g) {AP AL A2:Option Addr} {cP cL k th m c2:Nat} {ver at_ sw st nd n0 o0 o1 o3:Int} {o2:Bool} {ga:Option Nat} (hg:w.heap[g]? = some (.cells (k13 c AP cP AL cL k ver th 4 at_ sw st A2 m c2 nd n0 (bp ga) o0 o1 o2 o3) 100 (0,0))) (hc:c.Ok) (hP:Ints w (.slice AP c.pa.length cP) c.pa) (hL:Ints w (.slice AL c.li.length cL) c.li) {r:List Int} (hN:Ints w (.slice A2 m c2) r) (hr:r.length = m∧nodesOk c r) (h0:0 ≤ at_) (h1:at_ < m) (hm0:m ≤ 100) (hth:th ≤ 1000) :
  Calls Try.prog 74 #[.pointer (some ⟨g,0,none⟩)] w fun e w'=>e = .returned (.tuple #[])∧∃ ph' ga' d,w'.heap[g]? = some (.cells (k13 c AP cP AL cL k ver th ph' (at_ + 1) sw st A2 m c2 nd n0 (bp ga') o0 o1 o2 o3) 100 (0,0))∧(ph' = 5∧ga' = ga ∨ ph' = 4∧at_ + 1 < m∧∃ k,ga' = some k∧To5 c w w' d k)∧MemIs B w' gm ws n∧Fr B true [g] w w':=by
 by_cases he:at_ + 1 < m
 ·refine (added13_on hm hB hg hc hP hL hN hr h0 he hm0 hth).mono ?_
  rintro e w' ⟨rfl,ga',d,hg',ht,hm',hf'⟩
  exact ⟨rfl,4,some ga',d,hg',.inr ⟨rfl,he,ga',rfl,ht⟩,hm',hf'⟩
 ·refine (added13_end hm hB hg h0 (by omega) (by omega)).mono ?_
  rintro e w' ⟨rfl,hg',hm',hf'⟩
  exact ⟨rfl,5,ga,0,hg',.inl ⟨rfl,rfl⟩,hm',hf'⟩
theorem step13_6 {c:Cf} (hc:c.Ok) {B gm g n:Nat} {w:World} {ws:List Int} (hm:MemIs B w gm ws n) (hw:WOk c ws) (hn:n ≤ 1000000) {k th:Nat} {ver sw st nd n0 o0 o1 o3 at_:Int} {o2:Bool} {pth:List Int} {ga:Option Nat} (hB:∀ k ∈ own13 g ⟨k,ver,th,6,at_,sw,st,pth,nd,n0,ga,o0,o1,o2,o3⟩,B ≤ k) (hg:Is13 c w g ⟨k,ver,th,6,at_,sw,st,pth,nd,n0,ga,o0,o1,o2,o3⟩) (hi:A13 c ws ⟨k,ver,th,6,at_,sw,st,pth,nd,n0,ga,o0,o1,o2,o3⟩) :
  Calls Try.prog 45 #[.pointer (some ⟨g,0,none⟩),.pointer (some ⟨gm,0,none⟩)] w (P13 c B gm g ⟨k,ver,th,6,at_,sw,st,pth,nd,n0,ga,o0,o1,o2,o3⟩ ws n w):=by
 obtain ⟨⟨AP,cP,AL,cL,A2,m,c2,hg,hP,hL,hN⟩,hadd⟩:=hg
 have hown:=hB
 have hk:=hi.k
 dsimp only at hg hN hadd hk
 have hB:B ≤ g:=hown g List.mem_cons_self
 have HC:=Lib.hid hc
 have HW:=Lib.hid hw
 have HP:=Lib.hid hP
 have HLi:=Lib.hid hL
 have HLe:=Lib.hid (hw.le hc)
 have HI:=Lib.hid hi
 have HK:=Lib.hid hk
 have HB0_g:=Lib.hid hg
 obtain ⟨p5,hp5⟩:∃ p,c.tk k = p:=⟨_,rfl⟩
 have H5:=Lib.hid hp5
 have H5l:Hid (p5 + 1 < ws.length):=Lib.hid (by rw [← hp5];exact hw.tlt hk)
 obtain ⟨LL,hLL⟩:∃ LL,own13 g ⟨k,ver,th,6,at_,sw,st,pth,nd,n0,ga,o0,o1,o2,o3⟩ = LL:=⟨_,rfl⟩
 have HGL:Hid (g ∈ LL):=Lib.hid (by rw [← hLL];exact List.mem_cons_self)
 obtain ⟨L,T,HLL,HTe,HT,HSG_g,HS0⟩:=st1 hm hB hg (by decide) (by decide)
 have HLW:Hid (∀ k ∈ L,k ∈ LL):=Lib.hid (fun k h=>by rw [HLL.out] at h;rw [List.mem_singleton.1 h];exact HGL.out)
 have HLO:=Lib.hid hLL
 clear hc hw hg hm hP hL hN hi hk hp5 hLL hadd hown
 have C_g:=cells_k13 HB0_g.out
 go_enter Try.func45,Try.ntmps45
 go_wp2
 refine ch_b C_g C_g [0,1,2,3,4,5,6,7,8,9] (fun W1 HWd hHeld=>?_)
 have HS1:=dwS HWd HS0
 have HB1_g:Hid (W1.heap[g]? = some (.cells (k13 c AP cP AL cL k ver th 6 at_ sw st A2 m c2 nd n0 ((bp ga)) o0 o1 o2 o3) 100 (0,0))):=Lib.hid (by rw [← HWd.out];exact HB0_g.out)
 replace C_g:=cells_k13 HB1_g.out
 clear HWd
 iterate 8 refine ch_s ?_
 refine ch_1 fun K hK=>?_
 refine goes_s Try.func52 #[(cA c AP cP AL cL),.int .i64 k] ?_
 refine (ticket_c HC.out (HP.out.fr HS1.out.fr) (HLi.out.fr HS1.out.fr) (k:=k) (by have:=HK.out;omega)).mono ?_
 rintro e W2 ⟨rfl,hb'⟩
 refine ⟨_,rfl,?_⟩
 have HS2:=Lib.hid (HS1.out.below hb')
 have HB2_g:=Lib.hid (blk_below HB1_g.out hb')
 replace C_g:=cells_k13 HB2_g.out
 rw [H5.out]
 clear hb'
 refine hK.out _ _ C_g ?_;clear hK K hHeld;intro hHeld
 try simp only [Act.put,zq1,zq2,zq3]
 refine ch_s ?_
 refine ch_z ?_
 clear hHeld
 go_wp2
 go_ret
 refine ⟨true,⟨k,ver,th,6,at_,sw,st,pth,nd,n0,ga,o0,o1,o2,o3⟩,ws,_,rfl,⟨⟨AP,cP,AL,cL,_,_,_,HB2_g.out,HP.out.fr HS2.out.fr,HLi.out.fr HS2.out.fr,fun h=>absurd (show (6:Int) = 3 ∨ (6:Int) = 4 from h) (by decide)⟩,fun h=>absurd (show (6:Int) = 4 from h) (by decide)⟩,?_,HS2.out.mem,WTo.refl HW.out,Nat.le_refl _,by omega,by rw [HLO.out];exact (HS2.out.fr.mono id HLW.out),?_⟩
 ·exact HI.out
 ·exact fun k' hk'=>.inl hk'
theorem step13_0_ver {c:Cf} (hc:c.Ok) {B gm g n:Nat} {w:World} {ws:List Int} (hm:MemIs B w gm ws n) (hw:WOk c ws) (hn:n ≤ 1000000) {k th:Nat} {ver sw st nd n0 o0 o1 o3:Int} {o2:Bool} {pth:List Int} {ga:Option Nat} (hB:∀ k ∈ own13 g ⟨k,ver,th,0,0,sw,st,pth,nd,n0,ga,o0,o1,o2,o3⟩,B ≤ k) (hg:Is13 c w g ⟨k,ver,th,0,0,sw,st,pth,nd,n0,ga,o0,o1,o2,o3⟩) (hi:A13 c ws ⟨k,ver,th,0,0,sw,st,pth,nd,n0,ga,o0,o1,o2,o3⟩) (hq:¬ breadlineref01_Version.f (wd ws (c.tk k)) = some ver) :
  Calls Try.prog 45 #[.pointer (some ⟨g,0,none⟩),.pointer (some ⟨gm,0,none⟩)] w (P13 c B gm g ⟨k,ver,th,0,0,sw,st,pth,nd,n0,ga,o0,o1,o2,o3⟩ ws n w):=by
 obtain ⟨⟨AP,cP,AL,cL,A2,m,c2,hg,hP,hL,hN⟩,hadd⟩:=hg
 have hown:=hB
 have hk:=hi.k
 dsimp only at hg hN hadd hk
 have hB:B ≤ g:=hown g List.mem_cons_self
 have HC:=Lib.hid hc
 have HW:=Lib.hid hw
 have HP:=Lib.hid hP
 have HLi:=Lib.hid hL
 have HLe:=Lib.hid (hw.le hc)
 have HI:=Lib.hid hi
 have HK:=Lib.hid hk
 have HB0_g:=Lib.hid hg
 obtain ⟨p5,hp5⟩:∃ p,c.tk k = p:=⟨_,rfl⟩
 have H5:=Lib.hid hp5
 have H5l:Hid (p5 + 1 < ws.length):=Lib.hid (by rw [← hp5];exact hw.tlt hk)
 obtain ⟨LL,hLL⟩:∃ LL,own13 g ⟨k,ver,th,0,0,sw,st,pth,nd,n0,ga,o0,o1,o2,o3⟩ = LL:=⟨_,rfl⟩
 have HGL:Hid (g ∈ LL):=Lib.hid (by rw [← hLL];exact List.mem_cons_self)
 obtain ⟨L,T,HLL,HTe,HT,HSG_g,HS0⟩:=st1 hm hB hg (by decide) (by decide)
 have HLW:Hid (∀ k ∈ L,k ∈ LL):=Lib.hid (fun k h=>by rw [HLL.out] at h;rw [List.mem_singleton.1 h];exact HGL.out)
 have HLO:=Lib.hid hLL
 obtain ⟨x1,hx1⟩:∃ z,wd ws p5 = z:=⟨_,rfl⟩
 have HX1:=Lib.hid hx1
 obtain ⟨v1,hv1,_,_⟩:=version_in x1
 have HV1:=Lib.hid hv1
 obtain ⟨s1,hs1⟩:=state_ok x1
 have HST:=Lib.hid hs1
 have d1:(v1 != ver) = true:=by rw [bne_iff_ne];intro e;exact hq (by rw [H5.out,hx1,hv1,e])
 clear hx1 hv1 hs1 hq
 clear hc hw hg hm hP hL hN hi hk hp5 hLL hadd hown
 have C_g:=cells_k13 HB0_g.out
 go_enter Try.func45,Try.ntmps45
 go_wp2
 refine ch_b C_g C_g [0,1,2,3,4,5,6,7,8,9] (fun W1 HWd hHeld=>?_)
 have HS1:=dwS HWd HS0
 have HB1_g:Hid (W1.heap[g]? = some (.cells (k13 c AP cP AL cL k ver th 0 0 sw st A2 m c2 nd n0 ((bp ga)) o0 o1 o2 o3) 100 (0,0))):=Lib.hid (by rw [← HWd.out];exact HB0_g.out)
 replace C_g:=cells_k13 HB1_g.out
 clear HWd
 iterate 8 refine ch_s ?_
 refine ch_1 fun K hK=>?_
 refine goes_s Try.func52 #[(cA c AP cP AL cL),.int .i64 k] ?_
 refine (ticket_c HC.out (HP.out.fr HS1.out.fr) (HLi.out.fr HS1.out.fr) (k:=k) (by have:=HK.out;omega)).mono ?_
 rintro e W2 ⟨rfl,hb'⟩
 refine ⟨_,rfl,?_⟩
 have HS2:=Lib.hid (HS1.out.below hb')
 have HB2_g:=Lib.hid (blk_below HB1_g.out hb')
 replace C_g:=cells_k13 HB2_g.out
 rw [H5.out]
 clear hb'
 refine hK.out _ _ C_g ?_;clear hK K hHeld;intro hHeld
 try simp only [Act.put,zq1,zq2,zq3]
 refine ch_s ?_
 refine ch_z ?_
 clear hHeld
 go_wp2_with (first|(go_at_call 68;(with_reducible refine ((load_z HS2.out.mem hn HLe.out p5 (by have:=H5l.out;omega) _ rfl)).mono ?_);rintro e W3 ⟨rfl,hm',hf'⟩;have HS3:=Lib.hid (HS2.out.acc hm' hf' HT.out);have HB3_g:=Lib.hid (blk_fr HB2_g.out hf' (by simp) (by decide));replace C_g:=cells_k13 HB3_g.out;clear hm' hf';rw [HX1.out]))
 generalize hWd:(World.setCell (World.setCell W3 ⟨g,13,none⟩ (.int .i64 x1)) ⟨g,11,none⟩ (.int .i64 1)) = W4 at ⊢
 have HWd:=Lib.hid hWd
 clear hWd
 have HS4:Hid (St B L T w gm ws (n + 1) W4):=Lib.hid (by rw [← HWd.out];exact (HSG_g.out _ _ _ (HSG_g.out _ _ _ HS3.out 13 (.int .i64 x1)) 11 (.int .i64 1)))
 have HB4_g:Hid (W4.heap[g]? = some (.cells (k13 c AP cP AL cL k ver th 1 0 x1 st A2 m c2 nd n0 ((bp ga)) o0 o1 o2 o3) 100 (0,0))):=Lib.hid (by rw [← HWd.out];exact (blk_set' (blk_set' HB3_g.out 13 (.int .i64 x1) rfl) 11 (.int .i64 1) rfl))
 replace C_g:=cells_k13 HB4_g.out
 clear HWd
 refine ch_b C_g C_g [0,1,2,3,5,6,7,8,4,9,10,11,12,13,14,15,16,17] (fun W5 HWd hHeld=>?_)
 have HS5:=dwS HWd HS4
 have HB5_g:=dwH HWd HB4_g
 replace C_g:=cells_k13 HB5_g.out
 clear HWd
 iterate 8 refine ch_s ?_
 refine ch_1 fun K hK=>?_
 refine goes_s Try.func69 #[.int .i64 x1] ?_
 refine (breadlineref01_Version.calls x1 v1 _ HV1.out).mono ?_
 rintro e w' ⟨rfl,⟨dr,rfl⟩⟩
 refine ⟨_,rfl,?_⟩
 generalize hWd:World.drewN W5 dr = W6 at ⊢
 have HWd:=Lib.hid hWd
 clear hWd
 have HS6:Hid (St B L T w gm ws (n + 1) W6):=Lib.hid (by rw [← HWd.out];exact HS5.out.drewN dr)
 have HB6_g:=dwH HWd HB5_g
 replace C_g:=cells_k13 HB6_g.out
 clear HWd
 refine hK.out _ _ C_g ?_;clear hK K hHeld;intro hHeld
 try simp only [Act.put,zq1,zq2,zq3]
 iterate 2 refine ch_s ?_
 iterate 6
  refine ch_skip rfl rfl (by kernel_rfl) (fun _ _ _ h=>h) (by rfl) rfl ?_
  try simp only [Act.put,zq1,zq2,zq3]
 refine ch_s ?_
 refine ch_z ?_
 clear hHeld
 go_wp2_with (first|(go_at_call 71;(with_reducible refine (refused13 HS6.out.mem hB HB6_g.out).mono ?_);rintro e W7 ⟨rfl,hg',hm',hf'⟩;have HS7:=Lib.hid (HS6.out.turn hm' hf' (fun p hp hk=>by rw [HTe.out] at hp;rw [List.mem_singleton.1 hp];exact ⟨_,hg'⟩) (fun k hk=>.inl (by rw [List.mem_singleton.1 hk];first|exact HGL.out|(rw [HLL.out];exact List.mem_cons_self))) HT.out);have HB7_g:Hid (W7.heap[g]? = some (.cells (k13 c AP cP AL cL k ver th 6 0 x1 st A2 m c2 nd n0 ((bp ga)) 5 0 false 0) 100 (0,0))):=Lib.hid (hg');replace C_g:=cells_k13 HB7_g.out;clear hg' hm' hf'))
 go_ret
 refine ⟨true,⟨k,ver,th,6,0,x1,st,pth,nd,n0,ga,5,0,false,0⟩,ws,_,rfl,⟨⟨AP,cP,AL,cL,_,_,_,HB7_g.out,HP.out.fr HS7.out.fr,HLi.out.fr HS7.out.fr,fun h=>absurd (show (6:Int) = 3 ∨ (6:Int) = 4 from h) (by decide)⟩,fun h=>absurd (show (6:Int) = 4 from h) (by decide)⟩,?_,HS7.out.mem,WTo.refl HW.out,by omega,Nat.le_refl _,by rw [HLO.out];exact (HS7.out.fr.mono id HLW.out),?_⟩
 ·exact ⟨HI.out.k,HI.out.th,(by simp),fun h=>absurd (show (6:Int) = 3 ∨ (6:Int) = 4 from h) (by decide),fun h=>absurd (show (6:Int) = 0 ∨ (6:Int) = 1 ∨ (6:Int) = 2 from h) (by decide),fun h=>absurd (show (6:Int) = 1 from h) (by decide),fun h=>absurd (show (6:Int) = 2 from h) (by decide)⟩
 ·exact fun k' hk'=>.inl hk'
theorem step13_0_state {c:Cf} (hc:c.Ok) {B gm g n:Nat} {w:World} {ws:List Int} (hm:MemIs B w gm ws n) (hw:WOk c ws) (hn:n ≤ 1000000) {k th:Nat} {ver sw st nd n0 o0 o1 o3:Int} {o2:Bool} {pth:List Int} {ga:Option Nat} (hB:∀ k ∈ own13 g ⟨k,ver,th,0,0,sw,st,pth,nd,n0,ga,o0,o1,o2,o3⟩,B ≤ k) (hg:Is13 c w g ⟨k,ver,th,0,0,sw,st,pth,nd,n0,ga,o0,o1,o2,o3⟩) (hi:A13 c ws ⟨k,ver,th,0,0,sw,st,pth,nd,n0,ga,o0,o1,o2,o3⟩) (hq:breadlineref01_Version.f (wd ws (c.tk k)) = some ver) (hq2:¬ isLive (wd ws (c.tk k))) :
  Calls Try.prog 45 #[.pointer (some ⟨g,0,none⟩),.pointer (some ⟨gm,0,none⟩)] w (P13 c B gm g ⟨k,ver,th,0,0,sw,st,pth,nd,n0,ga,o0,o1,o2,o3⟩ ws n w):=by
 obtain ⟨⟨AP,cP,AL,cL,A2,m,c2,hg,hP,hL,hN⟩,hadd⟩:=hg
 have hown:=hB
 have hk:=hi.k
 dsimp only at hg hN hadd hk
 have hB:B ≤ g:=hown g List.mem_cons_self
 have HC:=Lib.hid hc
 have HW:=Lib.hid hw
 have HP:=Lib.hid hP
 have HLi:=Lib.hid hL
 have HLe:=Lib.hid (hw.le hc)
 have HI:=Lib.hid hi
 have HK:=Lib.hid hk
 have HB0_g:=Lib.hid hg
 obtain ⟨p5,hp5⟩:∃ p,c.tk k = p:=⟨_,rfl⟩
 have H5:=Lib.hid hp5
 have H5l:Hid (p5 + 1 < ws.length):=Lib.hid (by rw [← hp5];exact hw.tlt hk)
 obtain ⟨LL,hLL⟩:∃ LL,own13 g ⟨k,ver,th,0,0,sw,st,pth,nd,n0,ga,o0,o1,o2,o3⟩ = LL:=⟨_,rfl⟩
 have HGL:Hid (g ∈ LL):=Lib.hid (by rw [← hLL];exact List.mem_cons_self)
 obtain ⟨L,T,HLL,HTe,HT,HSG_g,HS0⟩:=st1 hm hB hg (by decide) (by decide)
 have HLW:Hid (∀ k ∈ L,k ∈ LL):=Lib.hid (fun k h=>by rw [HLL.out] at h;rw [List.mem_singleton.1 h];exact HGL.out)
 have HLO:=Lib.hid hLL
 obtain ⟨x1,hx1⟩:∃ z,wd ws p5 = z:=⟨_,rfl⟩
 have HX1:=Lib.hid hx1
 obtain ⟨v1,hv1,_,_⟩:=version_in x1
 have HV1:=Lib.hid hv1
 obtain ⟨s1,hs1⟩:=state_ok x1
 have HST:=Lib.hid hs1
 have d1:(v1 != ver) = false:=by have e:=hq;rw [H5.out,hx1,hv1] at e;simpa using e
 have d2:(s1 != 2) = true:=by rw [bne_iff_ne];intro e;exact hq2 (by unfold isLive;rw [H5.out,hx1,hs1,e])
 clear hx1 hv1 hs1 hq hq2
 clear hc hw hg hm hP hL hN hi hk hp5 hLL hadd hown
 have C_g:=cells_k13 HB0_g.out
 go_enter Try.func45,Try.ntmps45
 go_wp2
 refine ch_b C_g C_g [0,1,2,3,4,5,6,7,8,9] (fun W1 HWd hHeld=>?_)
 have HS1:=dwS HWd HS0
 have HB1_g:Hid (W1.heap[g]? = some (.cells (k13 c AP cP AL cL k ver th 0 0 sw st A2 m c2 nd n0 ((bp ga)) o0 o1 o2 o3) 100 (0,0))):=Lib.hid (by rw [← HWd.out];exact HB0_g.out)
 replace C_g:=cells_k13 HB1_g.out
 clear HWd
 iterate 8 refine ch_s ?_
 refine ch_1 fun K hK=>?_
 refine goes_s Try.func52 #[(cA c AP cP AL cL),.int .i64 k] ?_
 refine (ticket_c HC.out (HP.out.fr HS1.out.fr) (HLi.out.fr HS1.out.fr) (k:=k) (by have:=HK.out;omega)).mono ?_
 rintro e W2 ⟨rfl,hb'⟩
 refine ⟨_,rfl,?_⟩
 have HS2:=Lib.hid (HS1.out.below hb')
 have HB2_g:=Lib.hid (blk_below HB1_g.out hb')
 replace C_g:=cells_k13 HB2_g.out
 rw [H5.out]
 clear hb'
 refine hK.out _ _ C_g ?_;clear hK K hHeld;intro hHeld
 try simp only [Act.put,zq1,zq2,zq3]
 refine ch_s ?_
 refine ch_z ?_
 clear hHeld
 go_wp2_with (first|(go_at_call 68;(with_reducible refine ((load_z HS2.out.mem hn HLe.out p5 (by have:=H5l.out;omega) _ rfl)).mono ?_);rintro e W3 ⟨rfl,hm',hf'⟩;have HS3:=Lib.hid (HS2.out.acc hm' hf' HT.out);have HB3_g:=Lib.hid (blk_fr HB2_g.out hf' (by simp) (by decide));replace C_g:=cells_k13 HB3_g.out;clear hm' hf';rw [HX1.out]))
 generalize hWd:(World.setCell (World.setCell W3 ⟨g,13,none⟩ (.int .i64 x1)) ⟨g,11,none⟩ (.int .i64 1)) = W4 at ⊢
 have HWd:=Lib.hid hWd
 clear hWd
 have HS4:Hid (St B L T w gm ws (n + 1) W4):=Lib.hid (by rw [← HWd.out];exact (HSG_g.out _ _ _ (HSG_g.out _ _ _ HS3.out 13 (.int .i64 x1)) 11 (.int .i64 1)))
 have HB4_g:Hid (W4.heap[g]? = some (.cells (k13 c AP cP AL cL k ver th 1 0 x1 st A2 m c2 nd n0 ((bp ga)) o0 o1 o2 o3) 100 (0,0))):=Lib.hid (by rw [← HWd.out];exact (blk_set' (blk_set' HB3_g.out 13 (.int .i64 x1) rfl) 11 (.int .i64 1) rfl))
 replace C_g:=cells_k13 HB4_g.out
 clear HWd
 refine ch_b C_g C_g [0,1,2,3,5,6,7,8,4,9,10,11,12,13,14,15,16,17] (fun W5 HWd hHeld=>?_)
 have HS5:=dwS HWd HS4
 have HB5_g:=dwH HWd HB4_g
 replace C_g:=cells_k13 HB5_g.out
 clear HWd
 iterate 8 refine ch_s ?_
 refine ch_1 fun K hK=>?_
 refine goes_s Try.func69 #[.int .i64 x1] ?_
 refine (breadlineref01_Version.calls x1 v1 _ HV1.out).mono ?_
 rintro e w' ⟨rfl,⟨dr,rfl⟩⟩
 refine ⟨_,rfl,?_⟩
 generalize hWd:World.drewN W5 dr = W6 at ⊢
 have HWd:=Lib.hid hWd
 clear hWd
 have HS6:Hid (St B L T w gm ws (n + 1) W6):=Lib.hid (by rw [← HWd.out];exact HS5.out.drewN dr)
 have HB6_g:=dwH HWd HB5_g
 replace C_g:=cells_k13 HB6_g.out
 clear HWd
 refine hK.out _ _ C_g ?_;clear hK K hHeld;intro hHeld
 try simp only [Act.put,zq1,zq2,zq3]
 iterate 6 refine ch_s ?_
 refine ch_1 fun K hK=>?_
 refine goes_s Try.func70 #[.int .i64 x1] ?_
 refine (breadlineref10_State.calls x1 s1 _ HST.out).mono ?_
 rintro e w' ⟨rfl,⟨dr,rfl⟩⟩
 refine ⟨_,rfl,?_⟩
 generalize hWd:World.drewN W6 dr = W7 at ⊢
 have HWd:=Lib.hid hWd
 clear hWd
 have HS7:Hid (St B L T w gm ws (n + 1) W7):=Lib.hid (by rw [← HWd.out];exact HS6.out.drewN dr)
 have HB7_g:=dwH HWd HB6_g
 replace C_g:=cells_k13 HB7_g.out
 clear HWd
 refine hK.out _ _ C_g ?_;clear hK K hHeld;intro hHeld
 try simp only [Act.put,zq1,zq2,zq3]
 iterate 2 refine ch_s ?_
 refine ch_z ?_
 clear hHeld
 go_wp2_with (first|(go_at_call 71;(with_reducible refine (refused13 HS7.out.mem hB HB7_g.out).mono ?_);rintro e W8 ⟨rfl,hg',hm',hf'⟩;have HS8:=Lib.hid (HS7.out.turn hm' hf' (fun p hp hk=>by rw [HTe.out] at hp;rw [List.mem_singleton.1 hp];exact ⟨_,hg'⟩) (fun k hk=>.inl (by rw [List.mem_singleton.1 hk];first|exact HGL.out|(rw [HLL.out];exact List.mem_cons_self))) HT.out);have HB8_g:Hid (W8.heap[g]? = some (.cells (k13 c AP cP AL cL k ver th 6 0 x1 st A2 m c2 nd n0 ((bp ga)) 5 0 false 0) 100 (0,0))):=Lib.hid (hg');replace C_g:=cells_k13 HB8_g.out;clear hg' hm' hf'))
 go_ret
 refine ⟨true,⟨k,ver,th,6,0,x1,st,pth,nd,n0,ga,5,0,false,0⟩,ws,_,rfl,⟨⟨AP,cP,AL,cL,_,_,_,HB8_g.out,HP.out.fr HS8.out.fr,HLi.out.fr HS8.out.fr,fun h=>absurd (show (6:Int) = 3 ∨ (6:Int) = 4 from h) (by decide)⟩,fun h=>absurd (show (6:Int) = 4 from h) (by decide)⟩,?_,HS8.out.mem,WTo.refl HW.out,by omega,Nat.le_refl _,by rw [HLO.out];exact (HS8.out.fr.mono id HLW.out),?_⟩
 ·exact ⟨HI.out.k,HI.out.th,(by simp),fun h=>absurd (show (6:Int) = 3 ∨ (6:Int) = 4 from h) (by decide),fun h=>absurd (show (6:Int) = 0 ∨ (6:Int) = 1 ∨ (6:Int) = 2 from h) (by decide),fun h=>absurd (show (6:Int) = 1 from h) (by decide),fun h=>absurd (show (6:Int) = 2 from h) (by decide)⟩
 ·exact fun k' hk'=>.inl hk'
theorem step13_0_ok {c:Cf} (hc:c.Ok) {B gm g n:Nat} {w:World} {ws:List Int} (hm:MemIs B w gm ws n) (hw:WOk c ws) (hn:n ≤ 1000000) {k th:Nat} {ver sw st nd n0 o0 o1 o3:Int} {o2:Bool} {pth:List Int} {ga:Option Nat} (hB:∀ k ∈ own13 g ⟨k,ver,th,0,0,sw,st,pth,nd,n0,ga,o0,o1,o2,o3⟩,B ≤ k) (hg:Is13 c w g ⟨k,ver,th,0,0,sw,st,pth,nd,n0,ga,o0,o1,o2,o3⟩) (hi:A13 c ws ⟨k,ver,th,0,0,sw,st,pth,nd,n0,ga,o0,o1,o2,o3⟩) (hq:breadlineref01_Version.f (wd ws (c.tk k)) = some ver) (hq2:isLive (wd ws (c.tk k))) :
  Calls Try.prog 45 #[.pointer (some ⟨g,0,none⟩),.pointer (some ⟨gm,0,none⟩)] w (P13 c B gm g ⟨k,ver,th,0,0,sw,st,pth,nd,n0,ga,o0,o1,o2,o3⟩ ws n w):=by
 obtain ⟨⟨AP,cP,AL,cL,A2,m,c2,hg,hP,hL,hN⟩,hadd⟩:=hg
 have hown:=hB
 have hk:=hi.k
 dsimp only at hg hN hadd hk
 have hB:B ≤ g:=hown g List.mem_cons_self
 have HC:=Lib.hid hc
 have HW:=Lib.hid hw
 have HP:=Lib.hid hP
 have HLi:=Lib.hid hL
 have HLe:=Lib.hid (hw.le hc)
 have HI:=Lib.hid hi
 have HK:=Lib.hid hk
 have HB0_g:=Lib.hid hg
 obtain ⟨p5,hp5⟩:∃ p,c.tk k = p:=⟨_,rfl⟩
 have H5:=Lib.hid hp5
 have H5l:Hid (p5 + 1 < ws.length):=Lib.hid (by rw [← hp5];exact hw.tlt hk)
 obtain ⟨LL,hLL⟩:∃ LL,own13 g ⟨k,ver,th,0,0,sw,st,pth,nd,n0,ga,o0,o1,o2,o3⟩ = LL:=⟨_,rfl⟩
 have HGL:Hid (g ∈ LL):=Lib.hid (by rw [← hLL];exact List.mem_cons_self)
 obtain ⟨L,T,HLL,HTe,HT,HSG_g,HS0⟩:=st1 hm hB hg (by decide) (by decide)
 have HLW:Hid (∀ k ∈ L,k ∈ LL):=Lib.hid (fun k h=>by rw [HLL.out] at h;rw [List.mem_singleton.1 h];exact HGL.out)
 have HLO:=Lib.hid hLL
 obtain ⟨x1,hx1⟩:∃ z,wd ws p5 = z:=⟨_,rfl⟩
 have HX1:=Lib.hid hx1
 obtain ⟨v1,hv1,_,_⟩:=version_in x1
 have HV1:=Lib.hid hv1
 obtain ⟨s1,hs1⟩:=state_ok x1
 have HST:=Lib.hid hs1
 have d1:(v1 != ver) = false:=by have e:=hq;rw [H5.out,hx1,hv1] at e;simpa using e
 have d2:(s1 != 2) = false:=by have e:=hq2;unfold isLive at e;rw [H5.out,hx1,hs1] at e;simpa using e
 have HQ2:Hid (isLive x1):=Lib.hid (by rw [← hx1,← H5.out];exact hq2)
 clear hx1 hv1 hs1 hq hq2
 clear hc hw hg hm hP hL hN hi hk hp5 hLL hadd hown
 have C_g:=cells_k13 HB0_g.out
 go_enter Try.func45,Try.ntmps45
 go_wp2
 refine ch_b C_g C_g [0,1,2,3,4,5,6,7,8,9] (fun W1 HWd hHeld=>?_)
 have HS1:=dwS HWd HS0
 have HB1_g:Hid (W1.heap[g]? = some (.cells (k13 c AP cP AL cL k ver th 0 0 sw st A2 m c2 nd n0 ((bp ga)) o0 o1 o2 o3) 100 (0,0))):=Lib.hid (by rw [← HWd.out];exact HB0_g.out)
 replace C_g:=cells_k13 HB1_g.out
 clear HWd
 iterate 8 refine ch_s ?_
 refine ch_1 fun K hK=>?_
 refine goes_s Try.func52 #[(cA c AP cP AL cL),.int .i64 k] ?_
 refine (ticket_c HC.out (HP.out.fr HS1.out.fr) (HLi.out.fr HS1.out.fr) (k:=k) (by have:=HK.out;omega)).mono ?_
 rintro e W2 ⟨rfl,hb'⟩
 refine ⟨_,rfl,?_⟩
 have HS2:=Lib.hid (HS1.out.below hb')
 have HB2_g:=Lib.hid (blk_below HB1_g.out hb')
 replace C_g:=cells_k13 HB2_g.out
 rw [H5.out]
 clear hb'
 refine hK.out _ _ C_g ?_;clear hK K hHeld;intro hHeld
 try simp only [Act.put,zq1,zq2,zq3]
 refine ch_s ?_
 refine ch_z ?_
 clear hHeld
 go_wp2_with (first|(go_at_call 68;(with_reducible refine ((load_z HS2.out.mem hn HLe.out p5 (by have:=H5l.out;omega) _ rfl)).mono ?_);rintro e W3 ⟨rfl,hm',hf'⟩;have HS3:=Lib.hid (HS2.out.acc hm' hf' HT.out);have HB3_g:=Lib.hid (blk_fr HB2_g.out hf' (by simp) (by decide));replace C_g:=cells_k13 HB3_g.out;clear hm' hf';rw [HX1.out]))
 generalize hWd:(World.setCell (World.setCell W3 ⟨g,13,none⟩ (.int .i64 x1)) ⟨g,11,none⟩ (.int .i64 1)) = W4 at ⊢
 have HWd:=Lib.hid hWd
 clear hWd
 have HS4:Hid (St B L T w gm ws (n + 1) W4):=Lib.hid (by rw [← HWd.out];exact (HSG_g.out _ _ _ (HSG_g.out _ _ _ HS3.out 13 (.int .i64 x1)) 11 (.int .i64 1)))
 have HB4_g:Hid (W4.heap[g]? = some (.cells (k13 c AP cP AL cL k ver th 1 0 x1 st A2 m c2 nd n0 ((bp ga)) o0 o1 o2 o3) 100 (0,0))):=Lib.hid (by rw [← HWd.out];exact (blk_set' (blk_set' HB3_g.out 13 (.int .i64 x1) rfl) 11 (.int .i64 1) rfl))
 replace C_g:=cells_k13 HB4_g.out
 clear HWd
 refine ch_b C_g C_g [0,1,2,3,5,6,7,8,4,9,10,11,12,13,14,15,16,17] (fun W5 HWd hHeld=>?_)
 have HS5:=dwS HWd HS4
 have HB5_g:=dwH HWd HB4_g
 replace C_g:=cells_k13 HB5_g.out
 clear HWd
 iterate 8 refine ch_s ?_
 refine ch_1 fun K hK=>?_
 refine goes_s Try.func69 #[.int .i64 x1] ?_
 refine (breadlineref01_Version.calls x1 v1 _ HV1.out).mono ?_
 rintro e w' ⟨rfl,⟨dr,rfl⟩⟩
 refine ⟨_,rfl,?_⟩
 generalize hWd:World.drewN W5 dr = W6 at ⊢
 have HWd:=Lib.hid hWd
 clear hWd
 have HS6:Hid (St B L T w gm ws (n + 1) W6):=Lib.hid (by rw [← HWd.out];exact HS5.out.drewN dr)
 have HB6_g:=dwH HWd HB5_g
 replace C_g:=cells_k13 HB6_g.out
 clear HWd
 refine hK.out _ _ C_g ?_;clear hK K hHeld;intro hHeld
 try simp only [Act.put,zq1,zq2,zq3]
 iterate 6 refine ch_s ?_
 refine ch_1 fun K hK=>?_
 refine goes_s Try.func70 #[.int .i64 x1] ?_
 refine (breadlineref10_State.calls x1 s1 _ HST.out).mono ?_
 rintro e w' ⟨rfl,⟨dr,rfl⟩⟩
 refine ⟨_,rfl,?_⟩
 generalize hWd:World.drewN W6 dr = W7 at ⊢
 have HWd:=Lib.hid hWd
 clear hWd
 have HS7:Hid (St B L T w gm ws (n + 1) W7):=Lib.hid (by rw [← HWd.out];exact HS6.out.drewN dr)
 have HB7_g:=dwH HWd HB6_g
 replace C_g:=cells_k13 HB7_g.out
 clear HWd
 refine hK.out _ _ C_g ?_;clear hK K hHeld;intro hHeld
 try simp only [Act.put,zq1,zq2,zq3]
 iterate 2 refine ch_s ?_
 refine ch_z ?_
 clear hHeld
 go_wp2
 go_ret
 refine ⟨false,⟨k,ver,th,1,0,x1,st,pth,nd,n0,ga,o0,o1,o2,o3⟩,ws,_,rfl,⟨⟨AP,cP,AL,cL,_,_,_,HB7_g.out,HP.out.fr HS7.out.fr,HLi.out.fr HS7.out.fr,fun h=>absurd (show (1:Int) = 3 ∨ (1:Int) = 4 from h) (by decide)⟩,fun h=>absurd (show (1:Int) = 4 from h) (by decide)⟩,?_,HS7.out.mem,WTo.refl HW.out,by omega,Nat.le_refl _,by rw [HLO.out];exact (HS7.out.fr.mono id HLW.out),?_⟩
 ·exact ⟨HI.out.k,HI.out.th,(by simp),fun h=>absurd (show (1:Int) = 3 ∨ (1:Int) = 4 from h) (by decide),fun _=>rfl,fun _=>HQ2.out,fun h=>absurd (show (1:Int) = 2 from h) (by decide)⟩
 ·exact fun k' hk'=>.inl hk'
theorem step13_1_yes {c:Cf} (hc:c.Ok) {B gm g n:Nat} {w:World} {ws:List Int} (hm:MemIs B w gm ws n) (hw:WOk c ws) (hn:n ≤ 1000000) {k th:Nat} {ver sw st nd n0 o0 o1 o3:Int} {o2:Bool} {pth:List Int} {ga:Option Nat} (hB:∀ k ∈ own13 g ⟨k,ver,th,1,0,sw,st,pth,nd,n0,ga,o0,o1,o2,o3⟩,B ≤ k) (hg:Is13 c w g ⟨k,ver,th,1,0,sw,st,pth,nd,n0,ga,o0,o1,o2,o3⟩) (hi:A13 c ws ⟨k,ver,th,1,0,sw,st,pth,nd,n0,ga,o0,o1,o2,o3⟩) (hq:wd ws (c.tk k) = sw) :
  Calls Try.prog 45 #[.pointer (some ⟨g,0,none⟩),.pointer (some ⟨gm,0,none⟩)] w (P13 c B gm g ⟨k,ver,th,1,0,sw,st,pth,nd,n0,ga,o0,o1,o2,o3⟩ ws n w):=by
 obtain ⟨⟨AP,cP,AL,cL,A2,m,c2,hg,hP,hL,hN⟩,hadd⟩:=hg
 have hown:=hB
 have hk:=hi.k
 dsimp only at hg hN hadd hk
 have hB:B ≤ g:=hown g List.mem_cons_self
 have HC:=Lib.hid hc
 have HW:=Lib.hid hw
 have HP:=Lib.hid hP
 have HLi:=Lib.hid hL
 have HLe:=Lib.hid (hw.le hc)
 have HI:=Lib.hid hi
 have HK:=Lib.hid hk
 have HB0_g:=Lib.hid hg
 obtain ⟨p5,hp5⟩:∃ p,c.tk k = p:=⟨_,rfl⟩
 have H5:=Lib.hid hp5
 have H5l:Hid (p5 + 1 < ws.length):=Lib.hid (by rw [← hp5];exact hw.tlt hk)
 obtain ⟨LL,hLL⟩:∃ LL,own13 g ⟨k,ver,th,1,0,sw,st,pth,nd,n0,ga,o0,o1,o2,o3⟩ = LL:=⟨_,rfl⟩
 have HGL:Hid (g ∈ LL):=Lib.hid (by rw [← hLL];exact List.mem_cons_self)
 obtain ⟨L,T,HLL,HTe,HT,HSG_g,HS0⟩:=st1 hm hB hg (by decide) (by decide)
 have HLW:Hid (∀ k ∈ L,k ∈ LL):=Lib.hid (fun k h=>by rw [HLL.out] at h;rw [List.mem_singleton.1 h];exact HGL.out)
 have HLO:=Lib.hid hLL
 obtain ⟨t1,tb,ht1⟩:=turn_ok sw 3
 have HT1:=Lib.hid ht1
 have HQ1:Hid (wd ws p5 = sw):=Lib.hid (by rw [← H5.out];exact hq)
 clear ht1 hq
 clear hc hw hg hm hP hL hN hi hk hp5 hLL hadd hown
 have C_g:=cells_k13 HB0_g.out
 go_enter Try.func45,Try.ntmps45
 go_wp2
 refine ch_b C_g C_g [0,1,2,3,4,5,6,7,8,9] (fun W1 HWd hHeld=>?_)
 have HS1:=dwS HWd HS0
 have HB1_g:Hid (W1.heap[g]? = some (.cells (k13 c AP cP AL cL k ver th 1 0 sw st A2 m c2 nd n0 ((bp ga)) o0 o1 o2 o3) 100 (0,0))):=Lib.hid (by rw [← HWd.out];exact HB0_g.out)
 replace C_g:=cells_k13 HB1_g.out
 clear HWd
 iterate 8 refine ch_s ?_
 refine ch_1 fun K hK=>?_
 refine goes_s Try.func52 #[(cA c AP cP AL cL),.int .i64 k] ?_
 refine (ticket_c HC.out (HP.out.fr HS1.out.fr) (HLi.out.fr HS1.out.fr) (k:=k) (by have:=HK.out;omega)).mono ?_
 rintro e W2 ⟨rfl,hb'⟩
 refine ⟨_,rfl,?_⟩
 have HS2:=Lib.hid (HS1.out.below hb')
 have HB2_g:=Lib.hid (blk_below HB1_g.out hb')
 replace C_g:=cells_k13 HB2_g.out
 rw [H5.out]
 clear hb'
 refine hK.out _ _ C_g ?_;clear hK K hHeld;intro hHeld
 try simp only [Act.put,zq1,zq2,zq3]
 refine ch_s ?_
 refine ch_z ?_
 clear hHeld
 go_wp2_with (first|(go_at_call 61;(with_reducible refine (breadlineref10_Turn.calls sw 3 t1 tb _ HT1.out).mono ?_);rintro e w' ⟨rfl,⟨dr,rfl⟩⟩;generalize hWd:World.drewN W2 dr = W3 at ⊢;have HWd:=Lib.hid hWd;clear hWd;have HS3:Hid (St B L T w gm ws n W3):=Lib.hid (by rw [← HWd.out];exact HS2.out.drewN dr);have HB3_g:=dwH HWd HB2_g;replace C_g:=cells_k13 HB3_g.out;clear HWd)|(go_at_call 72;(with_reducible refine ((cas_yes_z (HSG_g.out _ _ _ (HSG_g.out _ _ _ HS3.out 14 (.int .i64 t1)) 11 (.int .i64 2)).mem hn HLe.out p5 (by have:=H5l.out;omega) sw t1 _ rfl HQ1.out)).mono ?_);rintro e W4 ⟨rfl,hm',hf'⟩;have HS4:=Lib.hid ((HSG_g.out _ _ _ (HSG_g.out _ _ _ HS3.out 14 (.int .i64 t1)) 11 (.int .i64 2)).acc hm' hf' HT.out);have HB4_g:Hid (W4.heap[g]? = some (.cells (k13 c AP cP AL cL k ver th 2 0 sw t1 A2 m c2 nd n0 ((bp ga)) o0 o1 o2 o3) 100 (0,0))):=Lib.hid (blk_fr (blk_set' (blk_set' HB3_g.out 14 (.int .i64 t1) rfl) 11 (.int .i64 2) rfl) hf' (by simp) (by decide));replace C_g:=cells_k13 HB4_g.out;clear hm' hf'))
 go_ret
 refine ⟨false,⟨k,ver,th,2,0,sw,t1,pth,nd,n0,ga,o0,o1,o2,o3⟩,(ws.set p5 t1),_,rfl,⟨⟨AP,cP,AL,cL,_,_,_,HB4_g.out,HP.out.fr HS4.out.fr,HLi.out.fr HS4.out.fr,fun h=>absurd (show (2:Int) = 3 ∨ (2:Int) = 4 from h) (by decide)⟩,fun h=>absurd (show (2:Int) = 4 from h) (by decide)⟩,?_,HS4.out.mem,(by rw [← H5.out];exact HW.out.set_state HK.out (fun h=>absurd h (turn_not HT1.out (by omega)))),by omega,Nat.le_refl _,by rw [HLO.out];exact (HS4.out.fr.mono id HLW.out),?_⟩
 ·exact ⟨HI.out.k,HI.out.th,(by simp),fun h=>absurd (show (2:Int) = 3 ∨ (2:Int) = 4 from h) (by decide),fun _=>rfl,fun h=>absurd (show (2:Int) = 1 from h) (by decide),fun _=>((by rw [← H5.out];exact HW.out.set_state HK.out (fun h=>absurd h (turn_not HT1.out (by omega)))):WTo c ws (ws.set p5 t1)).later k HK.out (HW.out.tick k HK.out (by rw [H5.out,HQ1.out];exact HI.out.saw rfl))⟩
 ·exact fun k' hk'=>.inl hk'
theorem step13_1_no {c:Cf} (hc:c.Ok) {B gm g n:Nat} {w:World} {ws:List Int} (hm:MemIs B w gm ws n) (hw:WOk c ws) (hn:n ≤ 1000000) {k th:Nat} {ver sw st nd n0 o0 o1 o3:Int} {o2:Bool} {pth:List Int} {ga:Option Nat} (hB:∀ k ∈ own13 g ⟨k,ver,th,1,0,sw,st,pth,nd,n0,ga,o0,o1,o2,o3⟩,B ≤ k) (hg:Is13 c w g ⟨k,ver,th,1,0,sw,st,pth,nd,n0,ga,o0,o1,o2,o3⟩) (hi:A13 c ws ⟨k,ver,th,1,0,sw,st,pth,nd,n0,ga,o0,o1,o2,o3⟩) (hq:wd ws (c.tk k) ≠ sw) :
  Calls Try.prog 45 #[.pointer (some ⟨g,0,none⟩),.pointer (some ⟨gm,0,none⟩)] w (P13 c B gm g ⟨k,ver,th,1,0,sw,st,pth,nd,n0,ga,o0,o1,o2,o3⟩ ws n w):=by
 obtain ⟨⟨AP,cP,AL,cL,A2,m,c2,hg,hP,hL,hN⟩,hadd⟩:=hg
 have hown:=hB
 have hk:=hi.k
 dsimp only at hg hN hadd hk
 have hB:B ≤ g:=hown g List.mem_cons_self
 have HC:=Lib.hid hc
 have HW:=Lib.hid hw
 have HP:=Lib.hid hP
 have HLi:=Lib.hid hL
 have HLe:=Lib.hid (hw.le hc)
 have HI:=Lib.hid hi
 have HK:=Lib.hid hk
 have HB0_g:=Lib.hid hg
 obtain ⟨p5,hp5⟩:∃ p,c.tk k = p:=⟨_,rfl⟩
 have H5:=Lib.hid hp5
 have H5l:Hid (p5 + 1 < ws.length):=Lib.hid (by rw [← hp5];exact hw.tlt hk)
 obtain ⟨LL,hLL⟩:∃ LL,own13 g ⟨k,ver,th,1,0,sw,st,pth,nd,n0,ga,o0,o1,o2,o3⟩ = LL:=⟨_,rfl⟩
 have HGL:Hid (g ∈ LL):=Lib.hid (by rw [← hLL];exact List.mem_cons_self)
 obtain ⟨L,T,HLL,HTe,HT,HSG_g,HS0⟩:=st1 hm hB hg (by decide) (by decide)
 have HLW:Hid (∀ k ∈ L,k ∈ LL):=Lib.hid (fun k h=>by rw [HLL.out] at h;rw [List.mem_singleton.1 h];exact HGL.out)
 have HLO:=Lib.hid hLL
 obtain ⟨t1,tb,ht1⟩:=turn_ok sw 3
 have HT1:=Lib.hid ht1
 have HQ1:Hid (wd ws p5 ≠ sw):=Lib.hid (by rw [← H5.out];exact hq)
 clear ht1 hq
 clear hc hw hg hm hP hL hN hi hk hp5 hLL hadd hown
 have C_g:=cells_k13 HB0_g.out
 go_enter Try.func45,Try.ntmps45
 go_wp2
 refine ch_b C_g C_g [0,1,2,3,4,5,6,7,8,9] (fun W1 HWd hHeld=>?_)
 have HS1:=dwS HWd HS0
 have HB1_g:Hid (W1.heap[g]? = some (.cells (k13 c AP cP AL cL k ver th 1 0 sw st A2 m c2 nd n0 ((bp ga)) o0 o1 o2 o3) 100 (0,0))):=Lib.hid (by rw [← HWd.out];exact HB0_g.out)
 replace C_g:=cells_k13 HB1_g.out
 clear HWd
 iterate 8 refine ch_s ?_
 refine ch_1 fun K hK=>?_
 refine goes_s Try.func52 #[(cA c AP cP AL cL),.int .i64 k] ?_
 refine (ticket_c HC.out (HP.out.fr HS1.out.fr) (HLi.out.fr HS1.out.fr) (k:=k) (by have:=HK.out;omega)).mono ?_
 rintro e W2 ⟨rfl,hb'⟩
 refine ⟨_,rfl,?_⟩
 have HS2:=Lib.hid (HS1.out.below hb')
 have HB2_g:=Lib.hid (blk_below HB1_g.out hb')
 replace C_g:=cells_k13 HB2_g.out
 rw [H5.out]
 clear hb'
 refine hK.out _ _ C_g ?_;clear hK K hHeld;intro hHeld
 try simp only [Act.put,zq1,zq2,zq3]
 refine ch_s ?_
 refine ch_z ?_
 clear hHeld
 go_wp2_with (first|(go_at_call 61;(with_reducible refine (breadlineref10_Turn.calls sw 3 t1 tb _ HT1.out).mono ?_);rintro e w' ⟨rfl,⟨dr,rfl⟩⟩;generalize hWd:World.drewN W2 dr = W3 at ⊢;have HWd:=Lib.hid hWd;clear hWd;have HS3:Hid (St B L T w gm ws n W3):=Lib.hid (by rw [← HWd.out];exact HS2.out.drewN dr);have HB3_g:=dwH HWd HB2_g;replace C_g:=cells_k13 HB3_g.out;clear HWd)|(go_at_call 72;(with_reducible refine ((cas_no_z (HSG_g.out _ _ _ (HSG_g.out _ _ _ HS3.out 14 (.int .i64 t1)) 11 (.int .i64 2)).mem hn HLe.out p5 (by have:=H5l.out;omega) sw t1 _ rfl HQ1.out)).mono ?_);rintro e W4 ⟨rfl,hm',hf'⟩;have HS4:=Lib.hid ((HSG_g.out _ _ _ (HSG_g.out _ _ _ HS3.out 14 (.int .i64 t1)) 11 (.int .i64 2)).acc hm' hf' HT.out);have HB4_g:Hid (W4.heap[g]? = some (.cells (k13 c AP cP AL cL k ver th 2 0 sw t1 A2 m c2 nd n0 ((bp ga)) o0 o1 o2 o3) 100 (0,0))):=Lib.hid (blk_fr (blk_set' (blk_set' HB3_g.out 14 (.int .i64 t1) rfl) 11 (.int .i64 2) rfl) hf' (by simp) (by decide));replace C_g:=cells_k13 HB4_g.out;clear hm' hf')|(go_at_call 71;(with_reducible refine (refused13 HS4.out.mem hB HB4_g.out).mono ?_);rintro e W5 ⟨rfl,hg',hm',hf'⟩;have HS5:=Lib.hid (HS4.out.turn hm' hf' (fun p hp hk=>by rw [HTe.out] at hp;rw [List.mem_singleton.1 hp];exact ⟨_,hg'⟩) (fun k hk=>.inl (by rw [List.mem_singleton.1 hk];first|exact HGL.out|(rw [HLL.out];exact List.mem_cons_self))) HT.out);have HB5_g:Hid (W5.heap[g]? = some (.cells (k13 c AP cP AL cL k ver th 6 0 sw t1 A2 m c2 nd n0 ((bp ga)) 5 0 false 0) 100 (0,0))):=Lib.hid (hg');replace C_g:=cells_k13 HB5_g.out;clear hg' hm' hf'))
 go_ret
 refine ⟨true,⟨k,ver,th,6,0,sw,t1,pth,nd,n0,ga,5,0,false,0⟩,ws,_,rfl,⟨⟨AP,cP,AL,cL,_,_,_,HB5_g.out,HP.out.fr HS5.out.fr,HLi.out.fr HS5.out.fr,fun h=>absurd (show (6:Int) = 3 ∨ (6:Int) = 4 from h) (by decide)⟩,fun h=>absurd (show (6:Int) = 4 from h) (by decide)⟩,?_,HS5.out.mem,WTo.refl HW.out,by omega,Nat.le_refl _,by rw [HLO.out];exact (HS5.out.fr.mono id HLW.out),?_⟩
 ·exact ⟨HI.out.k,HI.out.th,(by simp),fun h=>absurd (show (6:Int) = 3 ∨ (6:Int) = 4 from h) (by decide),fun h=>absurd (show (6:Int) = 0 ∨ (6:Int) = 1 ∨ (6:Int) = 2 from h) (by decide),fun h=>absurd (show (6:Int) = 1 from h) (by decide),fun h=>absurd (show (6:Int) = 2 from h) (by decide)⟩
 ·exact fun k' hk'=>.inl hk'
theorem step13_2 {c:Cf} (hc:c.Ok) {B gm g n:Nat} {w:World} {ws:List Int} (hm:MemIs B w gm ws n) (hw:WOk c ws) (hn:n ≤ 1000000) {k th:Nat} {ver sw st nd n0 o0 o1 o3:Int} {o2:Bool} {pth:List Int} {ga:Option Nat} (hB:∀ k ∈ own13 g ⟨k,ver,th,2,0,sw,st,pth,nd,n0,ga,o0,o1,o2,o3⟩,B ≤ k) (hg:Is13 c w g ⟨k,ver,th,2,0,sw,st,pth,nd,n0,ga,o0,o1,o2,o3⟩) (hi:A13 c ws ⟨k,ver,th,2,0,sw,st,pth,nd,n0,ga,o0,o1,o2,o3⟩) :
  Calls Try.prog 45 #[.pointer (some ⟨g,0,none⟩),.pointer (some ⟨gm,0,none⟩)] w (P13 c B gm g ⟨k,ver,th,2,0,sw,st,pth,nd,n0,ga,o0,o1,o2,o3⟩ ws n w):=by
 obtain ⟨⟨AP,cP,AL,cL,A2,m,c2,hg,hP,hL,hN⟩,hadd⟩:=hg
 have hown:=hB
 have hk:=hi.k
 dsimp only at hg hN hadd hk
 have hB:B ≤ g:=hown g List.mem_cons_self
 have HC:=Lib.hid hc
 have HW:=Lib.hid hw
 have HP:=Lib.hid hP
 have HLi:=Lib.hid hL
 have HLe:=Lib.hid (hw.le hc)
 have HI:=Lib.hid hi
 have HK:=Lib.hid hk
 have HB0_g:=Lib.hid hg
 obtain ⟨p5,hp5⟩:∃ p,c.tk k = p:=⟨_,rfl⟩
 have H5:=Lib.hid hp5
 have H5l:Hid (p5 + 1 < ws.length):=Lib.hid (by rw [← hp5];exact hw.tlt hk)
 obtain ⟨LL,hLL⟩:∃ LL,own13 g ⟨k,ver,th,2,0,sw,st,pth,nd,n0,ga,o0,o1,o2,o3⟩ = LL:=⟨_,rfl⟩
 have HGL:Hid (g ∈ LL):=Lib.hid (by rw [← hLL];exact List.mem_cons_self)
 obtain ⟨L,T,HLL,HTe,HT,HSG_g,HS0⟩:=st1 hm hB hg (by decide) (by decide)
 have HLW:Hid (∀ k ∈ L,k ∈ LL):=Lib.hid (fun k h=>by rw [HLL.out] at h;rw [List.mem_singleton.1 h];exact HGL.out)
 have HLO:=Lib.hid hLL
 obtain ⟨v1,n1,ho,hv0,hv1⟩:=hi.body rfl
 obtain ⟨u,rfl⟩:=Int.eq_ofNat_of_zero_le hv0
 have hle:=hw.le hc
 have h5l:=H5l.out
 have q8:IntKind.i64.wrap ((p5:Int) + 1) = (p5:Int) + 1:=IntWalk.i64_in _ (by omega)
 obtain ⟨x1,hx1⟩:∃ z,wd ws (p5 + 1) = z:=⟨_,rfl⟩
 have HX1:=Lib.hid hx1
 have HOF:Hid (breadlineref10_Of.f x1 = some ((u:Int),n1,true)):=Lib.hid (by rw [← hx1,← H5.out];exact ho)
 have HU:Hid (u < c.N):=Lib.hid (by omega)
 clear ho hv0 hv1 hle h5l hx1
 clear hc hw hg hm hP hL hN hi hk hp5 hLL hadd hown
 have C_g:=cells_k13 HB0_g.out
 go_enter Try.func45,Try.ntmps45
 go_wp2
 refine ch_b C_g C_g [0,1,2,3,4,5,6,7,8,9] (fun W1 HWd hHeld=>?_)
 have HS1:=dwS HWd HS0
 have HB1_g:Hid (W1.heap[g]? = some (.cells (k13 c AP cP AL cL k ver th 2 0 sw st A2 m c2 nd n0 ((bp ga)) o0 o1 o2 o3) 100 (0,0))):=Lib.hid (by rw [← HWd.out];exact HB0_g.out)
 replace C_g:=cells_k13 HB1_g.out
 clear HWd
 iterate 8 refine ch_s ?_
 refine ch_1 fun K hK=>?_
 refine goes_s Try.func52 #[(cA c AP cP AL cL),.int .i64 k] ?_
 refine (ticket_c HC.out (HP.out.fr HS1.out.fr) (HLi.out.fr HS1.out.fr) (k:=k) (by have:=HK.out;omega)).mono ?_
 rintro e W2 ⟨rfl,hb'⟩
 refine ⟨_,rfl,?_⟩
 have HS2:=Lib.hid (HS1.out.below hb')
 have HB2_g:=Lib.hid (blk_below HB1_g.out hb')
 replace C_g:=cells_k13 HB2_g.out
 rw [H5.out]
 clear hb'
 refine hK.out _ _ C_g ?_;clear hK K hHeld;intro hHeld
 try simp only [Act.put,zq1,zq2,zq3]
 refine ch_s ?_
 refine ch_z ?_
 clear hHeld
 go_wp2_with (first|(go_at_call 68;(with_reducible refine ((load_z HS2.out.mem hn HLe.out (p5 + 1) H5l.out _ (by omega))).mono ?_);rintro e W3 ⟨rfl,hm',hf'⟩;have HS3:=Lib.hid (HS2.out.acc hm' hf' HT.out);have HB3_g:=Lib.hid (blk_fr HB2_g.out hf' (by simp) (by decide));replace C_g:=cells_k13 HB3_g.out;clear hm' hf';rw [HX1.out])|(go_at_call 73;(with_reducible refine (breadlineref10_Of.calls x1 u n1 true _ HOF.out).mono ?_);rintro e w' ⟨rfl,⟨dr,rfl⟩⟩;generalize hWd:World.drewN W3 dr = W4 at ⊢;have HWd:=Lib.hid hWd;clear hWd;have HS4:Hid (St B L T w gm ws (n + 1) W4):=Lib.hid (by rw [← HWd.out];exact HS3.out.drewN dr);have HB4_g:=dwH HWd HB3_g;replace C_g:=cells_k13 HB4_g.out;clear HWd)|(go_at_call 53;(with_reducible refine (path_c HC.out (HP.out.fr (HSG_g.out _ _ _ (HSG_g.out _ _ _ HS4.out 16 (.int .i64 u)) 17 (.int .i64 n1)).fr) (HLi.out.fr (HSG_g.out _ _ _ (HSG_g.out _ _ _ HS4.out 16 (.int .i64 u)) 17 (.int .i64 n1)).fr) (v:=u) HU.out).mono ?_);rintro e W5 ⟨A3,c3,r,rfl,hr0,hr1,hr2,hr3,hb'⟩;have HS5:=Lib.hid ((HSG_g.out _ _ _ (HSG_g.out _ _ _ HS4.out 16 (.int .i64 u)) 17 (.int .i64 n1)).below hb');have HB5_g:Hid (W5.heap[g]? = some (.cells (k13 c AP cP AL cL k ver th 2 0 sw st A2 m c2 u n1 ((bp ga)) o0 o1 o2 o3) 100 (0,0))):=Lib.hid (blk_below (blk_set' (blk_set' HB4_g.out 16 (.int .i64 u) rfl) 17 (.int .i64 n1) rfl) hb');replace C_g:=cells_k13 HB5_g.out;have HR0:=Lib.hid hr0;have HR1:=Lib.hid hr1;have HR2:=Lib.hid hr2;have HR3:=Lib.hid hr3;obtain ⟨m3,hm3⟩:∃ m3,r.length = m3:=⟨_,rfl⟩;rw [hm3] at HR0 ⊢;have HM3:=Lib.hid hm3;clear hr0 hr1 hr2 hr3 hm3;clear hb'))
 go_ret
 refine ⟨false,⟨k,ver,th,3,0,sw,st,r,u,n1,ga,o0,o1,o2,o3⟩,ws,_,rfl,⟨⟨AP,cP,AL,cL,_,_,_,(blk_set' (blk_set' HB5_g.out 15 (.slice A3 m3 c3) rfl) 11 (.int .i64 3) rfl),HP.out.fr (HSG_g.out _ _ _ (HSG_g.out _ _ _ HS5.out 15 (.slice A3 m3 c3)) 11 (.int .i64 3)).fr,HLi.out.fr (HSG_g.out _ _ _ (HSG_g.out _ _ _ HS5.out 15 (.slice A3 m3 c3)) 11 (.int .i64 3)).fr,fun _=>⟨HM3.out,(Ints.set (Ints.set HR0.out HB5_g.out (by decide) 15 (.slice A3 m3 c3)) (blk_set' HB5_g.out 15 (.slice A3 m3 c3) rfl) (by decide) 11 (.int .i64 3))⟩⟩,fun h=>absurd (show (3:Int) = 4 from h) (by decide)⟩,?_,(HSG_g.out _ _ _ (HSG_g.out _ _ _ HS5.out 15 (.slice A3 m3 c3)) 11 (.int .i64 3)).mem,WTo.refl HW.out,by omega,Nat.le_refl _,by rw [HLO.out];exact ((HSG_g.out _ _ _ (HSG_g.out _ _ _ HS5.out 15 (.slice A3 m3 c3)) 11 (.int .i64 3)).fr.mono id HLW.out),?_⟩
 ·exact ⟨HI.out.k,HI.out.th,(by simp),fun _=>⟨HR1.out,HR2.out,HR3.out,Int.le_refl 0,by have:=HR1.out;dsimp only;omega⟩,fun h=>absurd (show (3:Int) = 0 ∨ (3:Int) = 1 ∨ (3:Int) = 2 from h) (by decide),fun h=>absurd (show (3:Int) = 1 from h) (by decide),fun h=>absurd (show (3:Int) = 2 from h) (by decide)⟩
 ·exact fun k' hk'=>.inl hk'
theorem step13_3_on {c:Cf} (hc:c.Ok) {B gm g n:Nat} {w:World} {ws:List Int} (hm:MemIs B w gm ws n) (hw:WOk c ws) (hn:n ≤ 1000000) {k th:Nat} {ver sw st nd n0 o0 o1 o3:Int} {o2:Bool} {pth:List Int} {a:Nat} {ga:Option Nat} (hB:∀ k ∈ own13 g ⟨k,ver,th,3,a,sw,st,pth,nd,n0,ga,o0,o1,o2,o3⟩,B ≤ k) (hg:Is13 c w g ⟨k,ver,th,3,a,sw,st,pth,nd,n0,ga,o0,o1,o2,o3⟩) (hi:A13 c ws ⟨k,ver,th,3,a,sw,st,pth,nd,n0,ga,o0,o1,o2,o3⟩) (hq:a + 1 < pth.length) :
  Calls Try.prog 45 #[.pointer (some ⟨g,0,none⟩),.pointer (some ⟨gm,0,none⟩)] w (P13 c B gm g ⟨k,ver,th,3,a,sw,st,pth,nd,n0,ga,o0,o1,o2,o3⟩ ws n w):=by
 obtain ⟨⟨AP,cP,AL,cL,A2,m,c2,hg,hP,hL,hN⟩,hadd⟩:=hg
 have hown:=hB
 have hk:=hi.k
 dsimp only at hg hN hadd hk
 have hB:B ≤ g:=hown g List.mem_cons_self
 have HC:=Lib.hid hc
 have HW:=Lib.hid hw
 have HP:=Lib.hid hP
 have HLi:=Lib.hid hL
 have HLe:=Lib.hid (hw.le hc)
 have HI:=Lib.hid hi
 have HK:=Lib.hid hk
 obtain ⟨hm0,hN⟩:=hN (by first|exact .inl rfl|exact .inr rfl)
 have hip:=hi.p (by first|exact .inl rfl|exact .inr rfl)
 dsimp only at hip
 have HN:=Lib.hid hN
 have HM0:=Lib.hid hm0
 have HR:Hid (pth.length = m∧nodesOk c pth):=Lib.hid ⟨hm0,hip.2.2.1⟩
 have HM1:Hid (0 < m∧m ≤ 100):=Lib.hid (by omega)
 have HAT0:Hid (0 ≤ (a:Int)∧(a:Int) < m):=Lib.hid (by omega)
 rw [hm0] at hq
 clear hip hm0
 have HB0_g:=Lib.hid hg
 obtain ⟨p5,hp5⟩:∃ p,c.tk k = p:=⟨_,rfl⟩
 have H5:=Lib.hid hp5
 have H5l:Hid (p5 + 1 < ws.length):=Lib.hid (by rw [← hp5];exact hw.tlt hk)
 obtain ⟨LL,hLL⟩:∃ LL,own13 g ⟨k,ver,th,3,a,sw,st,pth,nd,n0,ga,o0,o1,o2,o3⟩ = LL:=⟨_,rfl⟩
 have HGL:Hid (g ∈ LL):=Lib.hid (by rw [← hLL];exact List.mem_cons_self)
 obtain ⟨L,T,HLL,HTe,HT,HSG_g,HS0⟩:=st1 hm hB hg (by decide) (by decide)
 have HLW:Hid (∀ k ∈ L,k ∈ LL):=Lib.hid (fun k h=>by rw [HLL.out] at h;rw [List.mem_singleton.1 h];exact HGL.out)
 have HLO:=Lib.hid hLL
 obtain ⟨b,hb⟩:∃ b:Nat,b = a + 1:=⟨_,rfl⟩
 have ham:a < m:=by have:=HAT0.out;omega
 have hmm:=HM1.out
 have q9:IntKind.i64.wrap ((a:Int) + 1) = (b:Int):=by rw [hb];exact IntWalk.i64_in _ (by omega)
 obtain ⟨gA,xf,rfl,hx,hne0,HAT⟩:=ints_at (B:=B) (L:=L) HN.out HM1.out.1
 have ne1:=hne0 _ _ _ _ HB0_g.out (by decide)
 have ne2:=Ne.symm ne1
 clear hne0
 obtain ⟨u,hu,hu2⟩:=node_at HR.out hx ham
 have HU:=Lib.hid hu2
 have HUX:=Lib.hid hu
 have HAM:=Lib.hid ham
 have i1:(0:Int) ≤ (a:Int):=by omega
 have i2:(a:Int) < (m:Int):=by omega
 have HBA:Hid ((b:Int) = a + 1):=Lib.hid (by omega)
 have HBM:Hid (b < m):=Lib.hid (by omega)
 have d1:((b:Int) == (m:Int)) = false:=beq_eq_false_iff_ne.2 (by omega)
 have d2:(b == m) = false:=beq_eq_false_iff_ne.2 (by omega)
 obtain ⟨p6,hp6⟩:∃ p,c.na u 1 = p:=⟨_,rfl⟩
 have H6:=Lib.hid hp6
 have hK:c.K = 6 + 2 * c.S:=rfl
 have H6l:Hid (p6 < ws.length):=Lib.hid (by rw [← hp6];exact hw.lt hu2 (by omega))
 have HT6:Hid (∀ x,WTo c ws (ws.set p6 x)):=Lib.hid (fun x=>by rw [← hp6];exact hw.set_node hu2 (by omega) (by omega) x)
 clear hp6 hK hb ham hmm hu hu2 hx hq
 clear hc hw hg hm hP hL hN hi hk hp5 hLL hadd hown
 have C_g:=cells_k13 HB0_g.out
 go_enter Try.func45,Try.ntmps45
 go_wp2
 refine ch_b C_g C_g [0,1,2,3,4,5,6,7,8,9] (fun W1 HWd hHeld=>?_)
 have HS1:=dwS HWd HS0
 have HB1_g:Hid (W1.heap[g]? = some (.cells (k13 c AP cP AL cL k ver th 3 a sw st (some ⟨gA,0,none⟩) m c2 nd n0 ((bp ga)) o0 o1 o2 o3) 100 (0,0))):=Lib.hid (by rw [← HWd.out];exact HB0_g.out)
 replace C_g:=cells_k13 HB1_g.out
 clear HWd
 iterate 8 refine ch_s ?_
 refine ch_1 fun K hK=>?_
 refine goes_s Try.func52 #[(cA c AP cP AL cL),.int .i64 k] ?_
 refine (ticket_c HC.out (HP.out.fr HS1.out.fr) (HLi.out.fr HS1.out.fr) (k:=k) (by have:=HK.out;omega)).mono ?_
 rintro e W2 ⟨rfl,hb'⟩
 refine ⟨_,rfl,?_⟩
 have HS2:=Lib.hid (HS1.out.below hb')
 have HB2_g:=Lib.hid (blk_below HB1_g.out hb')
 replace C_g:=cells_k13 HB2_g.out
 rw [H5.out]
 clear hb'
 refine hK.out _ _ C_g ?_;clear hK K hHeld;intro hHeld
 try simp only [Act.put,zq1,zq2,zq3]
 refine ch_s ?_
 refine ch_z ?_
 clear hHeld
 go_wp2
 refine ch_st (fun wS=>wS.cell? ⟨g,0,none⟩ = some (.int .i64 c.th)∧wS.cell? ⟨g,1,none⟩ = some (.int .i64 c.S)∧wS.cell? ⟨g,2,none⟩ = some (.int .i64 c.ga)∧wS.cell? ⟨g,3,none⟩ = some (.int .i64 c.le)∧wS.cell? ⟨g,4,none⟩ = some (.int .i64 c.re)∧wS.cell? ⟨g,5,none⟩ = some (.int .i64 c.ti)∧wS.cell? ⟨g,6,none⟩ = some (.slice AP c.pa.length cP)∧wS.cell? ⟨g,7,none⟩ = some (.slice AL c.li.length cL)∧wS.cell? ⟨g,12,none⟩ = some (.int .i64 a)∧wS.cell? ⟨g,15,none⟩ = some (.slice (some ⟨gA,0,none⟩) m c2)∧wS.cell? ⟨g,17,none⟩ = some (.int .i64 n0)∧wS.cell? ⟨gA,a,none⟩ = some (.int .i64 u)) [20] [0,1,2,3,4,5,6,7,8,9,10,11,12,13,14,16,17,18,19,15,20] (by kernel_rfl) rfl (⟨C_g.2.1,C_g.2.2.1,C_g.2.2.2.1,C_g.2.2.2.2.1,C_g.2.2.2.2.2.1,C_g.2.2.2.2.2.2.1,C_g.2.2.2.2.2.2.2.1,C_g.2.2.2.2.2.2.2.2.1,C_g.2.2.2.2.2.2.2.2.2.2.2.2.2.1,C_g.2.2.2.2.2.2.2.2.2.2.2.2.2.2.2.2.1,C_g.2.2.2.2.2.2.2.2.2.2.2.2.2.2.2.2.2.2.1,(by rw [← HUX.out];exact HAT.out _ HS2.out.fr a HAM.out)⟩) (fun W3 HWd hHeld=>?_)
 have HS3:=dwS HWd HS2
 have HB3_g:=dwH HWd HB2_g
 replace C_g:=cells_k13 HB3_g.out
 clear HWd
 iterate 19 refine ch_s ?_
 refine ch_1 fun K hK=>?_
 refine goes_s Try.func34 #[(cA c AP cP AL cL),.int .i64 u] ?_
 refine (avail_c HC.out (HP.out.fr HS3.out.fr) (HLi.out.fr HS3.out.fr) (v:=u) (by have:=HU.out;omega)).mono ?_
 rintro e W4 ⟨rfl,hb'⟩
 refine ⟨_,rfl,?_⟩
 have HS4:=Lib.hid (HS3.out.below hb')
 have HB4_g:=Lib.hid (blk_below HB3_g.out hb')
 replace C_g:=cells_k13 HB4_g.out
 rw [H6.out]
 clear hb'
 refine hK.out _ _ (⟨C_g.2.1,C_g.2.2.1,C_g.2.2.2.1,C_g.2.2.2.2.1,C_g.2.2.2.2.2.1,C_g.2.2.2.2.2.2.1,C_g.2.2.2.2.2.2.2.1,C_g.2.2.2.2.2.2.2.2.1,C_g.2.2.2.2.2.2.2.2.2.2.2.2.2.1,C_g.2.2.2.2.2.2.2.2.2.2.2.2.2.2.2.2.1,C_g.2.2.2.2.2.2.2.2.2.2.2.2.2.2.2.2.2.2.1,(by rw [← HUX.out];exact HAT.out _ HS4.out.fr a HAM.out)⟩) ?_;clear hK K hHeld;intro hHeld
 try simp only [Act.put,zq1,zq2,zq3]
 refine ch_last rfl rfl (by kernel_rfl) (by decide) (fun K hK=>?_)
 refine goes_s Try.func60 #[.pointer (some ⟨gm,0,none⟩),.int .i64 p6,.int .i64 n0] ?_
 refine (add_z HS4.out.mem hn HLe.out p6 H6l.out n0 _ rfl).mono ?_
 rintro e W5 ⟨x,rfl,hm',hf'⟩
 refine ⟨_,rfl,?_⟩
 have HS5:=Lib.hid (HS4.out.acc hm' hf' HT.out)
 have HB5_g:=Lib.hid (blk_fr HB4_g.out hf' (by simp) (by decide))
 replace C_g:=cells_k13 HB5_g.out
 clear hm' hf'
 refine hK.out _ _ ?_
 clear hK K
 try simp only [Act.put,zq1,zq2,zq3]
 refine ch_z ?_
 clear hHeld
 go_wp2
 generalize hWd:(World.setCell W5 ⟨g,12,none⟩ (.int .i64 b)) = W6 at ⊢
 have HWd:=Lib.hid hWd
 clear hWd
 have HS6:Hid (St B L T w gm (ws.set p6 x) (n + 1) W6):=Lib.hid (by rw [← HWd.out];exact (HSG_g.out _ _ _ HS5.out 12 (.int .i64 b)))
 have HB6_g:Hid (W6.heap[g]? = some (.cells (k13 c AP cP AL cL k ver th 3 b sw st (some ⟨gA,0,none⟩) m c2 nd n0 ((bp ga)) o0 o1 o2 o3) 100 (0,0))):=Lib.hid (by rw [← HWd.out];exact (blk_set' HB5_g.out 12 (.int .i64 b) rfl))
 replace C_g:=cells_k13 HB6_g.out
 clear HWd
 refine ch_b C_g C_g [0,1,2,3,4,5,6,7,8,9] (fun W7 HWd hHeld=>?_)
 have HS7:=dwS HWd HS6
 have HB7_g:=dwH HWd HB6_g
 replace C_g:=cells_k13 HB7_g.out
 clear HWd
 iterate 10 refine ch_s ?_
 refine ch_z ?_
 clear hHeld
 go_wp2
 go_ret
 refine ⟨false,⟨k,ver,th,3,b,sw,st,pth,nd,n0,ga,o0,o1,o2,o3⟩,(ws.set p6 x),_,rfl,⟨⟨AP,cP,AL,cL,_,_,_,HB7_g.out,HP.out.fr HS7.out.fr,HLi.out.fr HS7.out.fr,fun _=>⟨HM0.out,HN.out.fr HS7.out.fr⟩⟩,fun h=>absurd (show (3:Int) = 4 from h) (by decide)⟩,?_,HS7.out.mem,HT6.out x,by omega,Nat.le_refl _,by rw [HLO.out];exact (HS7.out.fr.mono id HLW.out),?_⟩
 ·exact ⟨HI.out.k,HI.out.th,(by simp),fun _=>⟨(HI.out.p (.inl rfl)).1,(HI.out.p (.inl rfl)).2.1,HR.out.2,by have:=HBA.out;dsimp only;omega,by have:=HBM.out;have:=HM0.out;dsimp only;omega⟩,fun h=>absurd (show (3:Int) = 0 ∨ (3:Int) = 1 ∨ (3:Int) = 2 from h) (by decide),fun h=>absurd (show (3:Int) = 1 from h) (by decide),fun h=>absurd (show (3:Int) = 2 from h) (by decide)⟩
 ·exact fun k' hk'=>.inl hk'
theorem step13_3_end {c:Cf} (hc:c.Ok) {B gm g n:Nat} {w:World} {ws:List Int} (hm:MemIs B w gm ws n) (hw:WOk c ws) (hn:n ≤ 1000000) {k th:Nat} {ver sw st nd n0 o0 o1 o3:Int} {o2:Bool} {pth:List Int} {a:Nat} {ga:Option Nat} (hB:∀ k ∈ own13 g ⟨k,ver,th,3,a,sw,st,pth,nd,n0,ga,o0,o1,o2,o3⟩,B ≤ k) (hg:Is13 c w g ⟨k,ver,th,3,a,sw,st,pth,nd,n0,ga,o0,o1,o2,o3⟩) (hi:A13 c ws ⟨k,ver,th,3,a,sw,st,pth,nd,n0,ga,o0,o1,o2,o3⟩) (hq:a + 1 = pth.length) :
  Calls Try.prog 45 #[.pointer (some ⟨g,0,none⟩),.pointer (some ⟨gm,0,none⟩)] w (P13 c B gm g ⟨k,ver,th,3,a,sw,st,pth,nd,n0,ga,o0,o1,o2,o3⟩ ws n w):=by
 obtain ⟨⟨AP,cP,AL,cL,A2,m,c2,hg,hP,hL,hN⟩,hadd⟩:=hg
 have hown:=hB
 have hk:=hi.k
 dsimp only at hg hN hadd hk
 have hB:B ≤ g:=hown g List.mem_cons_self
 have HC:=Lib.hid hc
 have HW:=Lib.hid hw
 have HP:=Lib.hid hP
 have HLi:=Lib.hid hL
 have HLe:=Lib.hid (hw.le hc)
 have HI:=Lib.hid hi
 have HK:=Lib.hid hk
 obtain ⟨hm0,hN⟩:=hN (by first|exact .inl rfl|exact .inr rfl)
 have hip:=hi.p (by first|exact .inl rfl|exact .inr rfl)
 dsimp only at hip
 have HN:=Lib.hid hN
 have HM0:=Lib.hid hm0
 have HR:Hid (pth.length = m∧nodesOk c pth):=Lib.hid ⟨hm0,hip.2.2.1⟩
 have HM1:Hid (0 < m∧m ≤ 100):=Lib.hid (by omega)
 have HAT0:Hid (0 ≤ (a:Int)∧(a:Int) < m):=Lib.hid (by omega)
 rw [hm0] at hq
 clear hip hm0
 have HB0_g:=Lib.hid hg
 obtain ⟨p5,hp5⟩:∃ p,c.tk k = p:=⟨_,rfl⟩
 have H5:=Lib.hid hp5
 have H5l:Hid (p5 + 1 < ws.length):=Lib.hid (by rw [← hp5];exact hw.tlt hk)
 obtain ⟨LL,hLL⟩:∃ LL,own13 g ⟨k,ver,th,3,a,sw,st,pth,nd,n0,ga,o0,o1,o2,o3⟩ = LL:=⟨_,rfl⟩
 have HGL:Hid (g ∈ LL):=Lib.hid (by rw [← hLL];exact List.mem_cons_self)
 obtain ⟨L,T,HLL,HTe,HT,HSG_g,HS0⟩:=st1 hm hB hg (by decide) (by decide)
 have HLW:Hid (∀ k ∈ L,k ∈ LL):=Lib.hid (fun k h=>by rw [HLL.out] at h;rw [List.mem_singleton.1 h];exact HGL.out)
 have HLO:=Lib.hid hLL
 obtain ⟨b,hb⟩:∃ b:Nat,b = a + 1:=⟨_,rfl⟩
 have ham:a < m:=by have:=HAT0.out;omega
 have hmm:=HM1.out
 have q9:IntKind.i64.wrap ((a:Int) + 1) = (b:Int):=by rw [hb];exact IntWalk.i64_in _ (by omega)
 obtain ⟨gA,xf,rfl,hx,hne0,HAT⟩:=ints_at (B:=B) (L:=L) HN.out HM1.out.1
 have ne1:=hne0 _ _ _ _ HB0_g.out (by decide)
 have ne2:=Ne.symm ne1
 clear hne0
 obtain ⟨u,hu,hu2⟩:=node_at HR.out hx ham
 have HU:=Lib.hid hu2
 have HUX:=Lib.hid hu
 have HAM:=Lib.hid ham
 have i1:(0:Int) ≤ (a:Int):=by omega
 have i2:(a:Int) < (m:Int):=by omega
 have HBA:Hid ((b:Int) = a + 1):=Lib.hid (by omega)
 have HBM:Hid (b = m):=Lib.hid (by omega)
 have d1:((b:Int) == (m:Int)) = true:=beq_iff_eq.2 (by omega)
 have d2:(b == m) = true:=beq_iff_eq.2 (by omega)
 obtain ⟨p6,hp6⟩:∃ p,c.na u 1 = p:=⟨_,rfl⟩
 have H6:=Lib.hid hp6
 have hK:c.K = 6 + 2 * c.S:=rfl
 have H6l:Hid (p6 < ws.length):=Lib.hid (by rw [← hp6];exact hw.lt hu2 (by omega))
 have HT6:Hid (∀ x,WTo c ws (ws.set p6 x)):=Lib.hid (fun x=>by rw [← hp6];exact hw.set_node hu2 (by omega) (by omega) x)
 obtain ⟨u',hu',hu3⟩:=node_at HR.out hx HM1.out.1
 have HU':=Lib.hid hu3
 have HUX':=Lib.hid hu'
 have HTH:Hid (th ≤ 1000):=Lib.hid hi.th
 have i3:(0:Int) < (m:Int):=by omega
 have i4:0 < m:=HM1.out.1
 clear hu' hu3
 obtain ⟨dn,hdn⟩:∃ d,IntKind.i64.wrap (-n0) = d:=⟨_,rfl⟩
 have hdn':wrap64 (-n0) = dn:=by rw [← hdn,i64_w]
 clear hp6 hK hb ham hmm hu hu2 hx hq
 clear hc hw hg hm hP hL hN hi hk hp5 hLL hadd hown
 have C_g:=cells_k13 HB0_g.out
 go_enter Try.func45,Try.ntmps45
 go_wp2
 refine ch_b C_g C_g [0,1,2,3,4,5,6,7,8,9] (fun W1 HWd hHeld=>?_)
 have HS1:=dwS HWd HS0
 have HB1_g:Hid (W1.heap[g]? = some (.cells (k13 c AP cP AL cL k ver th 3 a sw st (some ⟨gA,0,none⟩) m c2 nd n0 ((bp ga)) o0 o1 o2 o3) 100 (0,0))):=Lib.hid (by rw [← HWd.out];exact HB0_g.out)
 replace C_g:=cells_k13 HB1_g.out
 clear HWd
 iterate 8 refine ch_s ?_
 refine ch_1 fun K hK=>?_
 refine goes_s Try.func52 #[(cA c AP cP AL cL),.int .i64 k] ?_
 refine (ticket_c HC.out (HP.out.fr HS1.out.fr) (HLi.out.fr HS1.out.fr) (k:=k) (by have:=HK.out;omega)).mono ?_
 rintro e W2 ⟨rfl,hb'⟩
 refine ⟨_,rfl,?_⟩
 have HS2:=Lib.hid (HS1.out.below hb')
 have HB2_g:=Lib.hid (blk_below HB1_g.out hb')
 replace C_g:=cells_k13 HB2_g.out
 rw [H5.out]
 clear hb'
 refine hK.out _ _ C_g ?_;clear hK K hHeld;intro hHeld
 try simp only [Act.put,zq1,zq2,zq3]
 refine ch_s ?_
 refine ch_z ?_
 clear hHeld
 go_wp2
 refine ch_st (fun wS=>wS.cell? ⟨g,0,none⟩ = some (.int .i64 c.th)∧wS.cell? ⟨g,1,none⟩ = some (.int .i64 c.S)∧wS.cell? ⟨g,2,none⟩ = some (.int .i64 c.ga)∧wS.cell? ⟨g,3,none⟩ = some (.int .i64 c.le)∧wS.cell? ⟨g,4,none⟩ = some (.int .i64 c.re)∧wS.cell? ⟨g,5,none⟩ = some (.int .i64 c.ti)∧wS.cell? ⟨g,6,none⟩ = some (.slice AP c.pa.length cP)∧wS.cell? ⟨g,7,none⟩ = some (.slice AL c.li.length cL)∧wS.cell? ⟨g,12,none⟩ = some (.int .i64 a)∧wS.cell? ⟨g,15,none⟩ = some (.slice (some ⟨gA,0,none⟩) m c2)∧wS.cell? ⟨g,17,none⟩ = some (.int .i64 n0)∧wS.cell? ⟨gA,a,none⟩ = some (.int .i64 u)) [20] [0,1,2,3,4,5,6,7,8,9,10,11,12,13,14,16,17,18,19,15,20] (by kernel_rfl) rfl (⟨C_g.2.1,C_g.2.2.1,C_g.2.2.2.1,C_g.2.2.2.2.1,C_g.2.2.2.2.2.1,C_g.2.2.2.2.2.2.1,C_g.2.2.2.2.2.2.2.1,C_g.2.2.2.2.2.2.2.2.1,C_g.2.2.2.2.2.2.2.2.2.2.2.2.2.1,C_g.2.2.2.2.2.2.2.2.2.2.2.2.2.2.2.2.1,C_g.2.2.2.2.2.2.2.2.2.2.2.2.2.2.2.2.2.2.1,(by rw [← HUX.out];exact HAT.out _ HS2.out.fr a HAM.out)⟩) (fun W3 HWd hHeld=>?_)
 have HS3:=dwS HWd HS2
 have HB3_g:=dwH HWd HB2_g
 replace C_g:=cells_k13 HB3_g.out
 clear HWd
 iterate 19 refine ch_s ?_
 refine ch_1 fun K hK=>?_
 refine goes_s Try.func34 #[(cA c AP cP AL cL),.int .i64 u] ?_
 refine (avail_c HC.out (HP.out.fr HS3.out.fr) (HLi.out.fr HS3.out.fr) (v:=u) (by have:=HU.out;omega)).mono ?_
 rintro e W4 ⟨rfl,hb'⟩
 refine ⟨_,rfl,?_⟩
 have HS4:=Lib.hid (HS3.out.below hb')
 have HB4_g:=Lib.hid (blk_below HB3_g.out hb')
 replace C_g:=cells_k13 HB4_g.out
 rw [H6.out]
 clear hb'
 refine hK.out _ _ (⟨C_g.2.1,C_g.2.2.1,C_g.2.2.2.1,C_g.2.2.2.2.1,C_g.2.2.2.2.2.1,C_g.2.2.2.2.2.2.1,C_g.2.2.2.2.2.2.2.1,C_g.2.2.2.2.2.2.2.2.1,C_g.2.2.2.2.2.2.2.2.2.2.2.2.2.1,C_g.2.2.2.2.2.2.2.2.2.2.2.2.2.2.2.2.1,C_g.2.2.2.2.2.2.2.2.2.2.2.2.2.2.2.2.2.2.1,(by rw [← HUX.out];exact HAT.out _ HS4.out.fr a HAM.out)⟩) ?_;clear hK K hHeld;intro hHeld
 try simp only [Act.put,zq1,zq2,zq3]
 refine ch_last rfl rfl (by kernel_rfl) (by decide) (fun K hK=>?_)
 refine goes_s Try.func60 #[.pointer (some ⟨gm,0,none⟩),.int .i64 p6,.int .i64 n0] ?_
 refine (add_z HS4.out.mem hn HLe.out p6 H6l.out n0 _ rfl).mono ?_
 rintro e W5 ⟨x,rfl,hm',hf'⟩
 refine ⟨_,rfl,?_⟩
 have HS5:=Lib.hid (HS4.out.acc hm' hf' HT.out)
 have HB5_g:=Lib.hid (blk_fr HB4_g.out hf' (by simp) (by decide))
 replace C_g:=cells_k13 HB5_g.out
 clear hm' hf'
 refine hK.out _ _ ?_
 clear hK K
 try simp only [Act.put,zq1,zq2,zq3]
 refine ch_z ?_
 clear hHeld
 go_wp2
 generalize hWd:(World.setCell W5 ⟨g,12,none⟩ (.int .i64 b)) = W6 at ⊢
 have HWd:=Lib.hid hWd
 clear hWd
 have HS6:Hid (St B L T w gm (ws.set p6 x) (n + 1) W6):=Lib.hid (by rw [← HWd.out];exact (HSG_g.out _ _ _ HS5.out 12 (.int .i64 b)))
 have HB6_g:Hid (W6.heap[g]? = some (.cells (k13 c AP cP AL cL k ver th 3 b sw st (some ⟨gA,0,none⟩) m c2 nd n0 ((bp ga)) o0 o1 o2 o3) 100 (0,0))):=Lib.hid (by rw [← HWd.out];exact (blk_set' HB5_g.out 12 (.int .i64 b) rfl))
 replace C_g:=cells_k13 HB6_g.out
 clear HWd
 refine ch_b C_g C_g [0,1,2,3,4,5,6,7,8,9] (fun W7 HWd hHeld=>?_)
 have HS7:=dwS HWd HS6
 have HB7_g:=dwH HWd HB6_g
 replace C_g:=cells_k13 HB7_g.out
 clear HWd
 iterate 10 refine ch_s ?_
 refine ch_z ?_
 clear hHeld
 go_wp2
 generalize hWd:(World.setCell (World.setCell W7 ⟨g,12,none⟩ (.int .i64 0)) ⟨g,11,none⟩ (.int .i64 4)) = W8 at ⊢
 have HWd:=Lib.hid hWd
 clear hWd
 have HS8:Hid (St B L T w gm (ws.set p6 x) (n + 1) W8):=Lib.hid (by rw [← HWd.out];exact (HSG_g.out _ _ _ (HSG_g.out _ _ _ HS7.out 12 (.int .i64 0)) 11 (.int .i64 4)))
 have HB8_g:Hid (W8.heap[g]? = some (.cells (k13 c AP cP AL cL k ver th 4 0 sw st (some ⟨gA,0,none⟩) m c2 nd n0 ((bp ga)) o0 o1 o2 o3) 100 (0,0))):=Lib.hid (by rw [← HWd.out];exact (blk_set' (blk_set' HB7_g.out 12 (.int .i64 0) rfl) 11 (.int .i64 4) rfl))
 replace C_g:=cells_k13 HB8_g.out
 clear HWd
 refine ch_st (fun wS=>wS.cell? ⟨g,0,none⟩ = some (.int .i64 c.th)∧wS.cell? ⟨g,1,none⟩ = some (.int .i64 c.S)∧wS.cell? ⟨g,2,none⟩ = some (.int .i64 c.ga)∧wS.cell? ⟨g,3,none⟩ = some (.int .i64 c.le)∧wS.cell? ⟨g,4,none⟩ = some (.int .i64 c.re)∧wS.cell? ⟨g,5,none⟩ = some (.int .i64 c.ti)∧wS.cell? ⟨g,6,none⟩ = some (.slice AP c.pa.length cP)∧wS.cell? ⟨g,7,none⟩ = some (.slice AL c.li.length cL)∧wS.cell? ⟨g,10,none⟩ = some (.int .i64 th)∧wS.cell? ⟨g,15,none⟩ = some (.slice (some ⟨gA,0,none⟩) m c2)∧wS.cell? ⟨g,17,none⟩ = some (.int .i64 n0)∧wS.cell? ⟨gA,0,none⟩ = some (.int .i64 u')) [23] [0,1,2,3,4,5,6,7,8,9,10,11,12,13,14,15,16,17,18,19,20,21,22,23] (by kernel_rfl) rfl (⟨C_g.2.1,C_g.2.2.1,C_g.2.2.2.1,C_g.2.2.2.2.1,C_g.2.2.2.2.2.1,C_g.2.2.2.2.2.2.1,C_g.2.2.2.2.2.2.2.1,C_g.2.2.2.2.2.2.2.2.1,C_g.2.2.2.2.2.2.2.2.2.2.2.1,C_g.2.2.2.2.2.2.2.2.2.2.2.2.2.2.2.2.1,C_g.2.2.2.2.2.2.2.2.2.2.2.2.2.2.2.2.2.2.1,(by rw [← HUX'.out];exact HAT.out _ HS8.out.fr 0 HM1.out.1)⟩) (fun W9 HWd hHeld=>?_)
 have HS9:=dwS HWd HS8
 have HB9_g:=dwH HWd HB8_g
 replace C_g:=cells_k13 HB9_g.out
 clear HWd
 iterate 20 refine ch_s ?_
 refine ch_1 fun K hK=>?_
 refine goes_s Try.func65 #[(cA c AP cP AL cL),.int .i64 u',.int .i64 dn,.int .i64 th] ?_
 refine (put12 HC.out (HP.out.fr HS9.out.fr) (HLi.out.fr HS9.out.fr) HU'.out HTH.out).mono ?_
 rintro e W10 ⟨g2,x0,rfl,hx0,hge,his,hb'⟩
 refine ⟨_,rfl,?_⟩
 have HX0:=Lib.hid hx0
 have HG_g2:Hid (w.heap.size ≤ g2):=Lib.hid (Nat.le_trans HS9.out.fr.size hge)
 have HIS:=Lib.hid his
 clear hx0 hge his
 have HS10:=Lib.hid (HS9.out.below hb')
 have HB10_g:=Lib.hid (blk_below HB9_g.out hb')
 replace C_g:=cells_k13 HB10_g.out
 clear hb'
 refine hK.out _ _ (⟨C_g.2.1,C_g.2.2.1,C_g.2.2.2.1,C_g.2.2.2.2.1,C_g.2.2.2.2.2.1,C_g.2.2.2.2.2.2.1,C_g.2.2.2.2.2.2.2.1,C_g.2.2.2.2.2.2.2.2.1,C_g.2.2.2.2.2.2.2.2.2.2.2.1,C_g.2.2.2.2.2.2.2.2.2.2.2.2.2.2.2.2.1,C_g.2.2.2.2.2.2.2.2.2.2.2.2.2.2.2.2.2.2.1,(by rw [← HUX'.out];exact HAT.out _ HS10.out.fr 0 HM1.out.1)⟩) ?_;clear hK K hHeld;intro hHeld
 try simp only [Act.put,zq1,zq2,zq3]
 iterate 2 refine ch_s ?_
 refine ch_last rfl rfl (by kernel_rfl) (by decide) (fun K hK=>?_)
 refine skip_ (by rfl) rfl (by go_simp;first|rfl|exact ⟨rfl,rfl⟩) ?_
 refine hK.out _ _ ?_
 clear hK K
 try simp only [Act.put,zq1,zq2,zq3]
 refine ch_z ?_
 clear hHeld
 go_wp2
 go_ret
 refine ⟨false,⟨k,ver,th,4,0,sw,st,pth,nd,n0,(some g2),o0,o1,o2,o3⟩,(ws.set p6 x),_,rfl,⟨⟨AP,cP,AL,cL,_,_,_,(blk_set' HB10_g.out 18 (.pointer (some ⟨g2,0,none⟩)) rfl),HP.out.fr (HSG_g.out _ _ _ HS10.out 18 (.pointer (some ⟨g2,0,none⟩))).fr,HLi.out.fr (HSG_g.out _ _ _ HS10.out 18 (.pointer (some ⟨g2,0,none⟩))).fr,fun _=>⟨HM0.out,HN.out.fr (HSG_g.out _ _ _ HS10.out 18 (.pointer (some ⟨g2,0,none⟩))).fr⟩⟩,fun _=>⟨g2,u',_,rfl,HU'.out,HIS.out.fr (Fr.refl B true [g] _ |>.setCell hB (.inl (by simp)) HB10_g.out (by decide) _) (by simp;have:=blk_lt HB0_g.out;have:=HG_g2.out;omega),A06.zero HC.out HX0.out⟩⟩,?_,(HSG_g.out _ _ _ HS10.out 18 (.pointer (some ⟨g2,0,none⟩))).mem,HT6.out x,by omega,Nat.le_refl _,by rw [HLO.out];exact ((HSG_g.out _ _ _ HS10.out 18 (.pointer (some ⟨g2,0,none⟩))).fr.mono id HLW.out),?_⟩
 ·exact ⟨HI.out.k,HI.out.th,(by simp),fun _=>⟨(HI.out.p (.inl rfl)).1,(HI.out.p (.inl rfl)).2.1,HR.out.2,Int.le_refl 0,by have:=HM1.out;have:=HM0.out;dsimp only;omega⟩,fun h=>absurd (show (4:Int) = 0 ∨ (4:Int) = 1 ∨ (4:Int) = 2 from h) (by decide),fun h=>absurd (show (4:Int) = 1 from h) (by decide),fun h=>absurd (show (4:Int) = 2 from h) (by decide)⟩
 ·intro k' hk';simp only [own13,List.mem_cons,Option.mem_toList,Option.some.injEq] at hk' ⊢;rcases hk' with h|h;exact .inl (.inl h);exact .inr ⟨h ▸ HG_g2.out,h ▸ (HIS.out.fr (Fr.refl B true [g] _ |>.setCell hB (.inl (by simp)) HB10_g.out (by decide) _) (by simp;have:=blk_lt HB0_g.out;have:=HG_g2.out;omega)).lt⟩
theorem step13_4 {c:Cf} (hc:c.Ok) {B gm g n:Nat} {w:World} {ws:List Int} (hm:MemIs B w gm ws n) (hw:WOk c ws) (hn:n ≤ 1000000) {k th:Nat} {ver sw st nd n0 o0 o1 o3 at_:Int} {o2:Bool} {pth:List Int} {gk:Nat} (hB:∀ k ∈ own13 g ⟨k,ver,th,4,at_,sw,st,pth,nd,n0,(some gk),o0,o1,o2,o3⟩,B ≤ k) (hg:Is13 c w g ⟨k,ver,th,4,at_,sw,st,pth,nd,n0,(some gk),o0,o1,o2,o3⟩) (hi:A13 c ws ⟨k,ver,th,4,at_,sw,st,pth,nd,n0,(some gk),o0,o1,o2,o3⟩) {v:Nat} {xa:S06} (hv:v < c.N) (hi6:Is06 c v w gk xa) (ha6:A06 c xa) :
  Calls Try.prog 45 #[.pointer (some ⟨g,0,none⟩),.pointer (some ⟨gm,0,none⟩)] w (P13 c B gm g ⟨k,ver,th,4,at_,sw,st,pth,nd,n0,(some gk),o0,o1,o2,o3⟩ ws n w):=by
 obtain ⟨⟨AP,cP,AL,cL,A2,m,c2,hg,hP,hL,hN⟩,hadd⟩:=hg
 have hown:=hB
 have hk:=hi.k
 dsimp only at hg hN hadd hk
 have hB:B ≤ g:=hown g List.mem_cons_self
 have HC:=Lib.hid hc
 have HW:=Lib.hid hw
 have HP:=Lib.hid hP
 have HLi:=Lib.hid hL
 have HLe:=Lib.hid (hw.le hc)
 have HI:=Lib.hid hi
 have HK:=Lib.hid hk
 obtain ⟨hm0,hN⟩:=hN (by first|exact .inl rfl|exact .inr rfl)
 have hip:=hi.p (by first|exact .inl rfl|exact .inr rfl)
 dsimp only at hip
 have HN:=Lib.hid hN
 have HM0:=Lib.hid hm0
 have HR:Hid (pth.length = m∧nodesOk c pth):=Lib.hid ⟨hm0,hip.2.2.1⟩
 have HM1:Hid (0 < m∧m ≤ 100):=Lib.hid (by omega)
 have HAT0:Hid (0 ≤ at_∧at_ < m):=Lib.hid (by omega)
 clear hip hm0
 have HB0_g:=Lib.hid hg
 obtain ⟨p5,hp5⟩:∃ p,c.tk k = p:=⟨_,rfl⟩
 have H5:=Lib.hid hp5
 have H5l:Hid (p5 + 1 < ws.length):=Lib.hid (by rw [← hp5];exact hw.tlt hk)
 obtain ⟨LL,hLL⟩:∃ LL,own13 g ⟨k,ver,th,4,at_,sw,st,pth,nd,n0,(some gk),o0,o1,o2,o3⟩ = LL:=⟨_,rfl⟩
 have HGL:Hid (g ∈ LL):=Lib.hid (by rw [← hLL];exact List.mem_cons_self)
 obtain ⟨L,T,HLL,HTe,HT,HSG_g,HS0⟩:=st1 hm hB hg (by decide) (by decide)
 have HLW:Hid (∀ k ∈ L,k ∈ LL):=Lib.hid (fun k h=>by rw [HLL.out] at h;rw [List.mem_singleton.1 h];exact HGL.out)
 have HLO:=Lib.hid hLL
 replace HB0_g:Hid (w.heap[g]? = some (.cells (k13 c AP cP AL cL k ver th 4 at_ sw st A2 m c2 nd n0 ((some ⟨gk,0,none⟩)) o0 o1 o2 o3) 100 (0,0))):=HB0_g
 have HBC:Hid (B ≤ gk):=Lib.hid (hown gk (by simp [own13]))
 have HI8:=Lib.hid hi6
 have HA8:=Lib.hid ha6
 have HV:=Lib.hid hv
 have hgk:=hi6
 have HNK:Hid (g ≠ gk):=Lib.hid (ne_type hg hgk (by decide))
 have HNKL:Hid (gk ∉ L):=Lib.hid (by rw [HLL.out,List.mem_singleton];exact fun e=>HNK.out e.symm)
 have HLk:Hid (∀ k' ∈ [gk],k' ∉ T.map (·.1)∧(k' ∈ LL ∨ w.heap.size ≤ k')):=Lib.hid (fun k' h=>by rw [List.mem_singleton.1 h];exact ⟨by rw [HTe.out];simpa using fun e=>HNK.out e.symm,.inl (by rw [← hLL];simp [own13])⟩)
 have HGN:Hid (g ∉ [gk]):=Lib.hid (by simpa using HNK.out)
 have HTH:Hid (th ≤ 1000):=Lib.hid hi.th
 clear hv hgk hi6 ha6
 clear hc hw hg hm hP hL hN hi hk hp5 hLL hadd hown
 have C_g:=cells_k13 HB0_g.out
 go_enter Try.func45,Try.ntmps45
 go_wp2
 refine ch_b C_g C_g [0,1,2,3,4,5,6,7,8,9] (fun W1 HWd hHeld=>?_)
 have HS1:=dwS HWd HS0
 have HB1_g:Hid (W1.heap[g]? = some (.cells (k13 c AP cP AL cL k ver th 4 at_ sw st A2 m c2 nd n0 ((some ⟨gk,0,none⟩)) o0 o1 o2 o3) 100 (0,0))):=Lib.hid (by rw [← HWd.out];exact HB0_g.out)
 replace C_g:=cells_k13 HB1_g.out
 clear HWd
 iterate 8 refine ch_s ?_
 refine ch_1 fun K hK=>?_
 refine goes_s Try.func52 #[(cA c AP cP AL cL),.int .i64 k] ?_
 refine (ticket_c HC.out (HP.out.fr HS1.out.fr) (HLi.out.fr HS1.out.fr) (k:=k) (by have:=HK.out;omega)).mono ?_
 rintro e W2 ⟨rfl,hb'⟩
 refine ⟨_,rfl,?_⟩
 have HS2:=Lib.hid (HS1.out.below hb')
 have HB2_g:=Lib.hid (blk_below HB1_g.out hb')
 replace C_g:=cells_k13 HB2_g.out
 rw [H5.out]
 clear hb'
 refine hK.out _ _ C_g ?_;clear hK K hHeld;intro hHeld
 try simp only [Act.put,zq1,zq2,zq3]
 refine ch_s ?_
 refine ch_z ?_
 clear hHeld
 go_wp2_with (first|(go_at_call 66;(with_reducible refine (step06 HC.out HV.out HS2.out.mem HW.out hn HBC.out (HI8.out.fr HS2.out.fr HNKL.out) HA8.out).mono ?_);rintro e W3 ⟨b1,x1,ws1,n1,rfl,his,hai,hm',hwt,hn1,hn2,hf'⟩;have HS3:=Lib.hid ((HS2.out.wide HLW.out).call hm' hf' HLk.out HT.out);have HB3_g:Hid (W3.heap[g]? = some (.cells (k13 c AP cP AL cL k ver th 4 at_ sw st A2 m c2 nd n0 ((some ⟨gk,0,none⟩)) o0 o1 o2 o3) 100 (0,0))):=Lib.hid (blk_fr HB2_g.out hf' HGN.out (by decide));replace C_g:=cells_k13 HB3_g.out;obtain ⟨D1,X1,At1,l1,i1,W1',V1⟩:=x1;have HAI1:=Lib.hid hai;have HWT:=Lib.hid hwt;have HN1:=Lib.hid hn1;have HN2:=Lib.hid hn2;have HIS1:=Lib.hid his;clear hai hwt hn1 hn2;clear hm' hf')|(go_at_call 74;(with_reducible refine (added13_any (ga:=some gk) HS3.out.mem hB HB3_g.out HC.out (HP.out.fr HS3.out.fr) (HLi.out.fr HS3.out.fr) (HN.out.fr HS3.out.fr) HR.out HAT0.out.1 HAT0.out.2 HM1.out.2 HTH.out).mono ?_);rintro e W4 ⟨rfl,ph',ga',dd,hg',hor,hm',hf'⟩;have HS4:=Lib.hid (HS3.out.turn hm' hf' (fun p hp hk=>by rw [HTe.out] at hp;rw [List.mem_singleton.1 hp];exact ⟨_,hg'⟩) (fun k hk=>.inl (by rw [List.mem_singleton.1 hk];first|exact HGL.out|(rw [HLL.out];exact List.mem_cons_self))) HT.out);have HB4_g:Hid (W4.heap[g]? = some (.cells (k13 c AP cP AL cL k ver th ph' ((at_ + 1)) sw st A2 m c2 nd n0 ((bp ga')) o0 o1 o2 o3) 100 (0,0))):=Lib.hid (hg');replace C_g:=cells_k13 HB4_g.out;have HOR:=Lib.hid hor;have HSZ:=Lib.hid HS3.out.fr.size;clear hor;clear hg' hm' hf'))
 ·go_ret
  refine ⟨_,⟨k,ver,th,ph',(at_ + 1),sw,st,pth,nd,n0,ga',o0,o1,o2,o3⟩,ws1,_,rfl,⟨⟨AP,cP,AL,cL,_,_,_,HB4_g.out,HP.out.fr HS4.out.fr,HLi.out.fr HS4.out.fr,fun _=>⟨HM0.out,HN.out.fr HS4.out.fr⟩⟩,fun e=>by rcases HOR.out with ⟨h,hb⟩|⟨h,hb,kk,e1,v',x',hge,hv,hx,hi6⟩;exact absurd (h.symm.trans e) (by decide);exact ⟨kk,v',_,e1,hv,hi6,A06.zero HC.out hx⟩⟩,?_,HS4.out.mem,HWT.out,HN1.out,HN2.out,by rw [HLO.out];exact HS4.out.fr,?_⟩
  ·exact ⟨HI.out.k,HI.out.th,by rcases HOR.out with ⟨h,hb⟩|⟨h,hb,kk,e1,v',x',hge,hv,hx,hi6⟩ <;> (dsimp only;omega),fun e=>by rcases HOR.out with ⟨h,hb⟩|⟨h,hb,kk,e1,v',x',hge,hv,hx,hi6⟩;exact absurd (show ph' = 3 ∨ ph' = 4 from e) (by omega);exact ⟨(HI.out.p (.inr rfl)).1,(HI.out.p (.inr rfl)).2.1,HR.out.2,by have:=HAT0.out;dsimp only;omega,by have:=HM0.out;dsimp only;omega⟩,fun e=>absurd (show ph' = 0 ∨ ph' = 1 ∨ ph' = 2 from e) (by rcases HOR.out with ⟨h,hb⟩|⟨h,hb,kk,e1,v',x',hge,hv,hx,hi6⟩ <;> omega),fun e=>absurd (show ph' = 1 from e) (by rcases HOR.out with ⟨h,hb⟩|⟨h,hb,kk,e1,v',x',hge,hv,hx,hi6⟩ <;> omega),fun e=>absurd (show ph' = 2 from e) (by rcases HOR.out with ⟨h,hb⟩|⟨h,hb,kk,e1,v',x',hge,hv,hx,hi6⟩ <;> omega)⟩
  ·intro k' hk';rcases HOR.out with ⟨_,h⟩|⟨_,_,kk,h,v',x',hge,_,_,hi8⟩ <;> subst h;exact .inl hk';simp only [own13,List.mem_cons,Option.mem_toList,Option.some.injEq] at hk' ⊢;rcases hk' with h|h;exact .inl (.inl h);exact .inr ⟨h ▸ Nat.le_trans HSZ.out hge,h ▸ hi8.lt⟩
 ·go_ret
  refine ⟨_,⟨k,ver,th,4,at_,sw,st,pth,nd,n0,(some gk),o0,o1,o2,o3⟩,ws1,_,rfl,⟨⟨AP,cP,AL,cL,_,_,_,HB3_g.out,HP.out.fr HS3.out.fr,HLi.out.fr HS3.out.fr,fun _=>⟨HM0.out,HN.out.fr HS3.out.fr⟩⟩,fun _=>⟨gk,v,_,rfl,HV.out,HIS1.out,HAI1.out⟩⟩,?_,HS3.out.mem,HWT.out,HN1.out,HN2.out,by rw [HLO.out];exact HS3.out.fr,?_⟩
  ·exact ⟨HI.out.k,HI.out.th,(by simp),fun _=>(HI.out.p (.inr rfl)),fun h=>absurd (show (4:Int) = 0 ∨ (4:Int) = 1 ∨ (4:Int) = 2 from h) (by decide),fun h=>absurd (show (4:Int) = 1 from h) (by decide),fun h=>absurd (show (4:Int) = 2 from h) (by decide)⟩
  ·exact fun k' hk'=>.inl hk'
theorem step13_5 {c:Cf} (hc:c.Ok) {B gm g n:Nat} {w:World} {ws:List Int} (hm:MemIs B w gm ws n) (hw:WOk c ws) (hn:n ≤ 1000000) {k th:Nat} {ver sw st nd n0 o0 o1 o3 at_:Int} {o2:Bool} {pth:List Int} {ga:Option Nat} (hB:∀ k ∈ own13 g ⟨k,ver,th,5,at_,sw,st,pth,nd,n0,ga,o0,o1,o2,o3⟩,B ≤ k) (hg:Is13 c w g ⟨k,ver,th,5,at_,sw,st,pth,nd,n0,ga,o0,o1,o2,o3⟩) (hi:A13 c ws ⟨k,ver,th,5,at_,sw,st,pth,nd,n0,ga,o0,o1,o2,o3⟩) :
  Calls Try.prog 45 #[.pointer (some ⟨g,0,none⟩),.pointer (some ⟨gm,0,none⟩)] w (P13 c B gm g ⟨k,ver,th,5,at_,sw,st,pth,nd,n0,ga,o0,o1,o2,o3⟩ ws n w):=by
 obtain ⟨⟨AP,cP,AL,cL,A2,m,c2,hg,hP,hL,hN⟩,hadd⟩:=hg
 have hown:=hB
 have hk:=hi.k
 dsimp only at hg hN hadd hk
 have hB:B ≤ g:=hown g List.mem_cons_self
 have HC:=Lib.hid hc
 have HW:=Lib.hid hw
 have HP:=Lib.hid hP
 have HLi:=Lib.hid hL
 have HLe:=Lib.hid (hw.le hc)
 have HI:=Lib.hid hi
 have HK:=Lib.hid hk
 have HB0_g:=Lib.hid hg
 obtain ⟨p5,hp5⟩:∃ p,c.tk k = p:=⟨_,rfl⟩
 have H5:=Lib.hid hp5
 have H5l:Hid (p5 + 1 < ws.length):=Lib.hid (by rw [← hp5];exact hw.tlt hk)
 obtain ⟨LL,hLL⟩:∃ LL,own13 g ⟨k,ver,th,5,at_,sw,st,pth,nd,n0,ga,o0,o1,o2,o3⟩ = LL:=⟨_,rfl⟩
 have HGL:Hid (g ∈ LL):=Lib.hid (by rw [← hLL];exact List.mem_cons_self)
 obtain ⟨L,T,HLL,HTe,HT,HSG_g,HS0⟩:=st1 hm hB hg (by decide) (by decide)
 have HLW:Hid (∀ k ∈ L,k ∈ LL):=Lib.hid (fun k h=>by rw [HLL.out] at h;rw [List.mem_singleton.1 h];exact HGL.out)
 have HLO:=Lib.hid hLL
 obtain ⟨t1,tb,ht1⟩:=turn_ok st 0
 have HT1:=Lib.hid ht1
 clear ht1
 clear hc hw hg hm hP hL hN hi hk hp5 hLL hadd hown
 have C_g:=cells_k13 HB0_g.out
 go_enter Try.func45,Try.ntmps45
 go_wp2
 refine ch_b C_g C_g [0,1,2,3,4,5,6,7,8,9] (fun W1 HWd hHeld=>?_)
 have HS1:=dwS HWd HS0
 have HB1_g:Hid (W1.heap[g]? = some (.cells (k13 c AP cP AL cL k ver th 5 at_ sw st A2 m c2 nd n0 ((bp ga)) o0 o1 o2 o3) 100 (0,0))):=Lib.hid (by rw [← HWd.out];exact HB0_g.out)
 replace C_g:=cells_k13 HB1_g.out
 clear HWd
 iterate 8 refine ch_s ?_
 refine ch_1 fun K hK=>?_
 refine goes_s Try.func52 #[(cA c AP cP AL cL),.int .i64 k] ?_
 refine (ticket_c HC.out (HP.out.fr HS1.out.fr) (HLi.out.fr HS1.out.fr) (k:=k) (by have:=HK.out;omega)).mono ?_
 rintro e W2 ⟨rfl,hb'⟩
 refine ⟨_,rfl,?_⟩
 have HS2:=Lib.hid (HS1.out.below hb')
 have HB2_g:=Lib.hid (blk_below HB1_g.out hb')
 replace C_g:=cells_k13 HB2_g.out
 rw [H5.out]
 clear hb'
 refine hK.out _ _ C_g ?_;clear hK K hHeld;intro hHeld
 try simp only [Act.put,zq1,zq2,zq3]
 refine ch_s ?_
 refine ch_z ?_
 clear hHeld
 go_wp2_with (first|(go_at_call 61;(with_reducible refine (breadlineref10_Turn.calls st 0 t1 tb _ HT1.out).mono ?_);rintro e w' ⟨rfl,⟨dr,rfl⟩⟩;generalize hWd:World.drewN W2 dr = W3 at ⊢;have HWd:=Lib.hid hWd;clear hWd;have HS3:Hid (St B L T w gm ws n W3):=Lib.hid (by rw [← HWd.out];exact HS2.out.drewN dr);have HB3_g:=dwH HWd HB2_g;replace C_g:=cells_k13 HB3_g.out;clear HWd)|(go_at_call 63;(with_reducible refine ((store_z HS3.out.mem hn HLe.out p5 (by have:=H5l.out;omega) t1 _ rfl)).mono ?_);rintro e W4 ⟨rfl,hm',hf'⟩;have HS4:=Lib.hid (HS3.out.acc hm' hf' HT.out);have HB4_g:=Lib.hid (blk_fr HB3_g.out hf' (by simp) (by decide));replace C_g:=cells_k13 HB4_g.out;clear hm' hf'))
 refine ch_d C_g C_g [12] [0,1,2,3,4,5,6,7,8,9,10,11,12] (fun W5 HWd hHeld=>?_)
 have HS5:=dwS HWd HS4
 have HB5_g:=dwH HWd HB4_g
 replace C_g:=cells_k13 HB5_g.out
 clear HWd
 iterate 12 refine ch_s ?_
 refine ch_last rfl rfl (by kernel_rfl) (by decide) (fun K hK=>?_)
 refine skip_ (by rfl) rfl (by go_simp;first|rfl|exact ⟨rfl,rfl⟩) ?_
 refine hK.out _ _ ?_
 clear hK K
 try simp only [Act.put,zq1,zq2,zq3]
 refine ch_z ?_
 clear hHeld
 go_wp2
 go_ret
 refine ⟨true,⟨k,ver,th,6,at_,sw,st,pth,nd,n0,ga,0,n0,false,nd⟩,(ws.set p5 t1),_,rfl,⟨⟨AP,cP,AL,cL,_,_,_,(blk_set' (blk_set' (blk_set' (blk_set' (blk_set' HB5_g.out 19 (.int .i64 0) rfl) 20 (.int .i64 n0) rfl) 21 (.bool false) rfl) 22 (.int .i64 nd) rfl) 11 (.int .i64 6) rfl),HP.out.fr (HSG_g.out _ _ _ (HSG_g.out _ _ _ (HSG_g.out _ _ _ (HSG_g.out _ _ _ (HSG_g.out _ _ _ HS5.out 19 (.int .i64 0)) 20 (.int .i64 n0)) 21 (.bool false)) 22 (.int .i64 nd)) 11 (.int .i64 6)).fr,HLi.out.fr (HSG_g.out _ _ _ (HSG_g.out _ _ _ (HSG_g.out _ _ _ (HSG_g.out _ _ _ (HSG_g.out _ _ _ HS5.out 19 (.int .i64 0)) 20 (.int .i64 n0)) 21 (.bool false)) 22 (.int .i64 nd)) 11 (.int .i64 6)).fr,fun h=>absurd (show (6:Int) = 3 ∨ (6:Int) = 4 from h) (by decide)⟩,fun h=>absurd (show (6:Int) = 4 from h) (by decide)⟩,?_,(HSG_g.out _ _ _ (HSG_g.out _ _ _ (HSG_g.out _ _ _ (HSG_g.out _ _ _ (HSG_g.out _ _ _ HS5.out 19 (.int .i64 0)) 20 (.int .i64 n0)) 21 (.bool false)) 22 (.int .i64 nd)) 11 (.int .i64 6)).mem,(by rw [← H5.out];exact HW.out.set_state HK.out (fun h=>absurd h (turn_not HT1.out (by omega)))),by omega,Nat.le_refl _,by rw [HLO.out];exact ((HSG_g.out _ _ _ (HSG_g.out _ _ _ (HSG_g.out _ _ _ (HSG_g.out _ _ _ (HSG_g.out _ _ _ HS5.out 19 (.int .i64 0)) 20 (.int .i64 n0)) 21 (.bool false)) 22 (.int .i64 nd)) 11 (.int .i64 6)).fr.mono id HLW.out),?_⟩
 ·exact ⟨HI.out.k,HI.out.th,(by simp),fun h=>absurd (show (6:Int) = 3 ∨ (6:Int) = 4 from h) (by decide),fun h=>absurd (show (6:Int) = 0 ∨ (6:Int) = 1 ∨ (6:Int) = 2 from h) (by decide),fun h=>absurd (show (6:Int) = 1 from h) (by decide),fun h=>absurd (show (6:Int) = 2 from h) (by decide)⟩
 ·exact fun k' hk'=>.inl hk'
theorem step13 {c:Cf} (hc:c.Ok) {B gm g n:Nat} {w:World} {ws:List Int} (hm:MemIs B w gm ws n) (hw:WOk c ws) (hn:n ≤ 1000000) {x:S13} (hB:∀ k ∈ own13 g x,B ≤ k) (hg:Is13 c w g x) (hi:A13 c ws x) :
  Calls Try.prog 45 #[.pointer (some ⟨g,0,none⟩),.pointer (some ⟨gm,0,none⟩)] w (P13 c B gm g x ws n w):=by
 obtain ⟨k,ver,th,ph,at_,sw,st,pth,nd,n0,ga,o0,o1,o2,o3⟩:=x
 rcases hi.ph with h|h|h|h|h|h|h
 all_goals (dsimp only at h;subst h)
 ·have h1:=hi.at0 (.inl rfl)
  dsimp only at h1;subst h1
  by_cases h2:breadlineref01_Version.f (wd ws (c.tk k)) = some ver
  ·by_cases h3:isLive (wd ws (c.tk k))
   ·exact step13_0_ok hc hm hw hn hB hg hi h2 h3
   ·exact step13_0_state hc hm hw hn hB hg hi h2 h3
  ·exact step13_0_ver hc hm hw hn hB hg hi h2
 ·have h1:=hi.at0 (.inr (.inl rfl))
  dsimp only at h1;subst h1
  by_cases h2:wd ws (c.tk k) = sw
  ·exact step13_1_yes hc hm hw hn hB hg hi h2
  ·exact step13_1_no hc hm hw hn hB hg hi h2
 ·have h1:=hi.at0 (.inr (.inr rfl))
  dsimp only at h1;subst h1
  exact step13_2 hc hm hw hn hB hg hi
 ·obtain ⟨_,_,_,h3,h4⟩:=hi.p (.inl rfl)
  dsimp only at h3 h4
  obtain ⟨a,ha⟩:=Int.eq_ofNat_of_zero_le h3
  subst ha
  by_cases h1:a + 1 = pth.length
  ·exact step13_3_end hc hm hw hn hB hg hi h1
  ·exact step13_3_on hc hm hw hn hB hg hi (by omega)
 ·obtain ⟨gk,v,xa,e1,hv,h6,a6⟩:=hg.add rfl
  dsimp only at e1;subst e1
  exact step13_4 hc hm hw hn hB hg hi hv h6 a6
 ·exact step13_5 hc hm hw hn hB hg hi
 ·exact step13_6 hc hm hw hn hB hg hi
theorem ans13 {w:World} {g:Nat} {c:Cf} {AP AL A2:Option Addr} {cP cL k th m c2:Nat} {ver ph at_ sw st nd n0 o0 o1 o3:Int} {o2:Bool} {ga:Option Addr} (hg:w.heap[g]? = some (.cells (k13 c AP cP AL cL k ver th ph at_ sw st A2 m c2 nd n0 ga o0 o1 o2 o3) 100 (0,0))) :
  Calls Try.prog 49 #[.pointer (some ⟨g,0,none⟩)] w fun e w'=>∃ a0 a1 a2 a3,e = .returned (.agg #[.int .i64 a0,.int .i64 a1,.bool a2,.int .i64 a3])∧Below w.heap.size w w':=by
 have HB0_g:=Lib.hid hg
 have HS0:Hid (Mk w w):=Lib.hid (Mk.refl w)
 clear hg
 have C_g:=cells_k13 HB0_g.out
 go_enter Try.func49,Try.ntmps49
 go_wp2_with (first|((with_reducible refine gate_dst (N:=2) rfl ?_);refine box_event ?hg (N:=2) ?hd (cs:=#[.int .i64 0,.int .i64 0,.bool false,.int .i64 0]) (t:=46) ?hr ?_;(case hd=>rfl);(case hg=>rfl);(case hr=>first|(go_simp;done)|(go_simp;rfl));intro gr hg W1 hbox hb';have HG_gr:Hid (w.heap.size ≤ gr):=Lib.hid (by rw [hg];exact HS0.out.size);have HS1:=Lib.hid ((HS0.out.below hb'));have HB1_g:Hid (W1.heap[g]? = some (.cells (k13 c AP cP AL cL k ver th ph at_ sw st A2 m c2 nd n0 ga o0 o1 o2 o3) 100 (0,0))):=Lib.hid (blk_below HB0_g.out hb');have HB1_gr:Hid (W1.heap[gr]? = some (.cells (#[.int .i64 0,.int .i64 0,.bool false,.int .i64 0]:Array Value) 46 (0,0))):=Lib.hid (hbox);replace C_g:=cells_k13 HB1_g.out;have C_gr:=cells4 HB1_gr.out;clear hb' hbox hg;have ne1:g ≠ gr:=(by have:=blk_lt HB0_g.out;have:=HG_gr.out;omega);have ne2:=Ne.symm ne1))
 refine bodyPost_ret (results_cell_row rfl _ _ gr 46 (#[.int .i64 o0,.int .i64 o1,.bool o2,.int .i64 o3]:Array Value) (0,0) _ rfl ((blk_set' (blk_set' (blk_set' (blk_set' HB1_gr.out 0 (.int .i64 o0) rfl) 1 (.int .i64 o1) rfl) 2 (.bool o2) rfl) 3 (.int .i64 o3) rfl)) Try.underlying46 rfl (by kernel_rfl)) rfl ?_
 exact ⟨_,_,_,_,rfl,(Mk.set (Mk.set (Mk.set (Mk.set HS1.out HG_gr.out 0 (.int .i64 o0)) HG_gr.out 1 (.int .i64 o1)) HG_gr.out 2 (.bool o2)) HG_gr.out 3 (.int .i64 o3))⟩
theorem ans09 {w:World} {g:Nat} {c:Cf} {AP AL:Option Addr} {cP cL v:Nat} {kd n0 At sw o0 o1 o3:Int} {o2:Bool} (hg:w.heap[g]? = some (.cells (k09 kd c AP cP AL cL v n0 At sw o0 o1 o2 o3) 102 (0,0))) :
  Calls Try.prog 50 #[.pointer (some ⟨g,0,none⟩)] w fun e w'=>∃ a0 a1 a2 a3,e = .returned (.agg #[.int .i64 a0,.int .i64 a1,.bool a2,.int .i64 a3])∧Below w.heap.size w w':=by
 have HB0_g:=Lib.hid hg
 have HS0:Hid (Mk w w):=Lib.hid (Mk.refl w)
 clear hg
 have C_g:=cells_k09 HB0_g.out
 go_enter Try.func50,Try.ntmps50
 go_wp2_with (first|((with_reducible refine gate_dst (N:=2) rfl ?_);refine box_event ?hg (N:=2) ?hd (cs:=#[.int .i64 0,.int .i64 0,.bool false,.int .i64 0]) (t:=46) ?hr ?_;(case hd=>rfl);(case hg=>rfl);(case hr=>first|(go_simp;done)|(go_simp;rfl));intro gr hg W1 hbox hb';have HG_gr:Hid (w.heap.size ≤ gr):=Lib.hid (by rw [hg];exact HS0.out.size);have HS1:=Lib.hid ((HS0.out.below hb'));have HB1_g:Hid (W1.heap[g]? = some (.cells (k09 kd c AP cP AL cL v n0 At sw o0 o1 o2 o3) 102 (0,0))):=Lib.hid (blk_below HB0_g.out hb');have HB1_gr:Hid (W1.heap[gr]? = some (.cells (#[.int .i64 0,.int .i64 0,.bool false,.int .i64 0]:Array Value) 46 (0,0))):=Lib.hid (hbox);replace C_g:=cells_k09 HB1_g.out;have C_gr:=cells4 HB1_gr.out;clear hb' hbox hg;have ne1:g ≠ gr:=(by have:=blk_lt HB0_g.out;have:=HG_gr.out;omega);have ne2:=Ne.symm ne1))
 refine bodyPost_ret (results_cell_row rfl _ _ gr 46 (#[.int .i64 o0,.int .i64 o1,.bool o2,.int .i64 o3]:Array Value) (0,0) _ rfl ((blk_set' (blk_set' (blk_set' (blk_set' HB1_gr.out 0 (.int .i64 o0) rfl) 1 (.int .i64 o1) rfl) 2 (.bool o2) rfl) 3 (.int .i64 o3) rfl)) Try.underlying46 rfl (by kernel_rfl)) rfl ?_
 exact ⟨_,_,_,_,rfl,(Mk.set (Mk.set (Mk.set (Mk.set HS1.out HG_gr.out 0 (.int .i64 o0)) HG_gr.out 1 (.int .i64 o1)) HG_gr.out 2 (.bool o2)) HG_gr.out 3 (.int .i64 o3))⟩
theorem ans07 {w:World} {g:Nat} {bs sp m cG:Nat} {l o0 o1 o3:Int} {gl o2 en:Bool} {AG:Option Addr} (hg:w.heap[g]? = some (.cells (k07 bs sp l gl AG m cG o0 o1 o2 o3 en) 104 (0,0))) :
  Calls Try.prog 51 #[.pointer (some ⟨g,0,none⟩)] w fun e w'=>∃ a0 a1 a2 a3,e = .returned (.agg #[.int .i64 a0,.int .i64 a1,.bool a2,.int .i64 a3])∧Below w.heap.size w w':=by
 have HB0_g:=Lib.hid hg
 have HS0:Hid (Mk w w):=Lib.hid (Mk.refl w)
 clear hg
 have C_g:=cells_k07 HB0_g.out
 go_enter Try.func51,Try.ntmps51
 go_wp2_with (first|((with_reducible refine gate_dst (N:=2) rfl ?_);refine box_event ?hg (N:=2) ?hd (cs:=#[.int .i64 0,.int .i64 0,.bool false,.int .i64 0]) (t:=46) ?hr ?_;(case hd=>rfl);(case hg=>rfl);(case hr=>first|(go_simp;done)|(go_simp;rfl));intro gr hg W1 hbox hb';have HG_gr:Hid (w.heap.size ≤ gr):=Lib.hid (by rw [hg];exact HS0.out.size);have HS1:=Lib.hid ((HS0.out.below hb'));have HB1_g:Hid (W1.heap[g]? = some (.cells (k07 bs sp l gl AG m cG o0 o1 o2 o3 en) 104 (0,0))):=Lib.hid (blk_below HB0_g.out hb');have HB1_gr:Hid (W1.heap[gr]? = some (.cells (#[.int .i64 0,.int .i64 0,.bool false,.int .i64 0]:Array Value) 46 (0,0))):=Lib.hid (hbox);replace C_g:=cells_k07 HB1_g.out;have C_gr:=cells4 HB1_gr.out;clear hb' hbox hg;have ne1:g ≠ gr:=(by have:=blk_lt HB0_g.out;have:=HG_gr.out;omega);have ne2:=Ne.symm ne1))
 refine bodyPost_ret (results_cell_row rfl _ _ gr 46 (#[.int .i64 o0,.int .i64 o1,.bool o2,.int .i64 o3]:Array Value) (0,0) _ rfl ((blk_set' (blk_set' (blk_set' (blk_set' HB1_gr.out 0 (.int .i64 o0) rfl) 1 (.int .i64 o1) rfl) 2 (.bool o2) rfl) 3 (.int .i64 o3) rfl)) Try.underlying46 rfl (by kernel_rfl)) rfl ?_
 exact ⟨_,_,_,_,rfl,(Mk.set (Mk.set (Mk.set (Mk.set HS1.out HG_gr.out 0 (.int .i64 o0)) HG_gr.out 1 (.int .i64 o1)) HG_gr.out 2 (.bool o2)) HG_gr.out 3 (.int .i64 o3))⟩
theorem new13 {c:Cf} (hc:c.Ok) {w:World} {AP AL:Option Addr} {cP cL:Nat} (hP:Ints w (.slice AP c.pa.length cP) c.pa) (hL:Ints w (.slice AL c.li.length cL) c.li) {hd ver:Int} {k th:Nat} (hnm:breadlineref10_Named.f hd c.ti = some ((k:Int),ver,true)) :
  Calls Try.prog 39 #[(cA c AP cP AL cL),.int .i64 hd,.int .i64 th] w fun e w'=>∃ g,e = .returned (.pointer (some ⟨g,0,none⟩))∧w.heap.size ≤ g∧Is13 c w' g ⟨k,ver,th,0,0,0,0,[],0,0,none,0,0,false,0⟩∧Below w.heap.size w w':=by
 have HC:=Lib.hid hc
 have HP:=Lib.hid hP
 have HLi:=Lib.hid hL
 have HNM:=Lib.hid hnm
 have HS0:Hid (Mk w w):=Lib.hid (Mk.refl w)
 clear hc hP hL hnm
 go_enter Try.func39,Try.ntmps39
 go_wp2_with (first|((with_reducible refine gate_dst (N:=3) rfl ?_);refine box_event ?hg (N:=3) ?hd (cs:=#[.int .i64 c.th,.int .i64 c.S,.int .i64 c.ga,.int .i64 c.le,.int .i64 c.re,.int .i64 c.ti,.slice AP c.pa.length cP,.slice AL c.li.length cL]) (t:=24) ?hr ?_;(case hd=>rfl);(case hg=>rfl);(case hr=>first|(go_simp;done)|(go_simp;rfl));intro g1 hg W1 hbox hb';have HG_g1:Hid (w.heap.size ≤ g1):=Lib.hid (by rw [hg];exact HS0.out.size);have HS1:=Lib.hid ((HS0.out.below hb'));have HB1_g1:Hid (W1.heap[g1]? = some (.cells (#[.int .i64 c.th,.int .i64 c.S,.int .i64 c.ga,.int .i64 c.le,.int .i64 c.re,.int .i64 c.ti,.slice AP c.pa.length cP,.slice AL c.li.length cL]:Array Value) 24 (0,0))):=Lib.hid (hbox);have C_g1:=cells8 HB1_g1.out;clear hb' hbox hg)|(go_at_call 37;(with_reducible refine (breadlineref10_Named.calls hd c.ti k ver true _ HNM.out).mono ?_);rintro e w' ⟨rfl,⟨dr,rfl⟩⟩;generalize hWd:World.drewN W1 dr = W2 at ⊢;have HWd:=Lib.hid hWd;clear hWd;have HS2:Hid (Mk w W2):=Lib.hid (by rw [← HWd.out];exact HS1.out.drewN dr);have HB2_g1:=dwH HWd HB1_g1;replace C_g1:=cells8 HB2_g1.out;clear HWd)|(go_at_call 22;(with_reducible refine (own_c HC.out (HP.out.below HS2.out.b) (HLi.out.below HS2.out.b)).mono ?_);rintro e W3 ⟨AP2,AL2,cP2,cL2,rfl,hp2,hl2,hb'⟩;have HS3:=Lib.hid (HS2.out.below hb');have HB3_g1:=Lib.hid (blk_below HB2_g1.out hb');replace C_g1:=cells8 HB3_g1.out;have HP2:=Lib.hid hp2;have HL2:=Lib.hid hl2;clear hp2 hl2;clear hb')|((with_reducible refine gate_dst (N:=24) rfl ?_);refine box_event ?hg (N:=24) ?hd (cs:=#[.int .i64 c.th,.int .i64 c.S,.int .i64 c.ga,.int .i64 c.le,.int .i64 c.re,.int .i64 c.ti,.slice AP2 c.pa.length cP2,.slice AL2 c.li.length cL2,.int .i64 k,.int .i64 ver,.int .i64 th,.int .i64 0,.int .i64 0,.int .i64 0,.int .i64 0,.slice none 0 0,.int .i64 0,.int .i64 0,.pointer none,.int .i64 0,.int .i64 0,.bool false,.int .i64 0]) (t:=100) ?hr ?_;(case hd=>rfl);(case hg=>rfl);(case hr=>first|(go_simp;done)|(go_simp;rfl));intro g2 hg W4 hbox hb';have HG_g2:Hid (w.heap.size ≤ g2):=Lib.hid (by rw [hg];exact HS3.out.size);have HR4_P:Hid (Ints W4 (.slice AP2 c.pa.length cP2) (c.pa)):=Lib.hid ((HP2.out).below hb');have HR4_L:Hid (Ints W4 (.slice AL2 c.li.length cL2) (c.li)):=Lib.hid ((HL2.out).below hb');have HS4:=Lib.hid ((HS3.out.below hb'));have HB4_g1:=Lib.hid (blk_below HB3_g1.out hb');have HB4_g2:Hid (W4.heap[g2]? = some (.cells (#[.int .i64 c.th,.int .i64 c.S,.int .i64 c.ga,.int .i64 c.le,.int .i64 c.re,.int .i64 c.ti,.slice AP2 c.pa.length cP2,.slice AL2 c.li.length cL2,.int .i64 k,.int .i64 ver,.int .i64 th,.int .i64 0,.int .i64 0,.int .i64 0,.int .i64 0,.slice none 0 0,.int .i64 0,.int .i64 0,.pointer none,.int .i64 0,.int .i64 0,.bool false,.int .i64 0]:Array Value) 100 (0,0))):=Lib.hid (hbox);replace C_g1:=cells8 HB4_g1.out;have C_g2:=cells23 HB4_g2.out;clear hb' hbox hg))
 go_ret
 exact ⟨g2,rfl,HG_g2.out,⟨⟨_,_,_,_,_,_,_,HB4_g2.out,HR4_P.out,HR4_L.out,fun h=>absurd (show (0:Int) = 3 ∨ (0:Int) = 4 from h) (by decide)⟩,fun h=>absurd (show (0:Int) = 4 from h) (by decide)⟩,HS4.out⟩
end Go.Proofs.Ytadblpcjkahikaa.PTraceRuns

