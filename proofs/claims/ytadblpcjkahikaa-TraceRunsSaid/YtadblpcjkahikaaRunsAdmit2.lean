
import Derived.Test.YtadblpcjkahikaaRunsAdmit
namespace Go.Proofs.Ytadblpcjkahikaa.PTraceRuns
open Go.RowKit Go.Proofs.YtadblpcjkahikaaW.PrintWords Go.Proofs.YtadblpcjkahikaaW.PrintLast Go.Proofs.YtadblpcjkahikaaW.PrintMore
set_option linter.unusedVariables false
set_option linter.unusedSimpArgs false
attribute [local go_sem] ans_f0 ans_f1
set_option maxHeartbeats 2000000
set_option maxRecDepth 100000
def P12 (c:Cf) (B gm g:Nat) (x:S12) (ws:List Int) (n:Nat) (w:World) (e:Ending) (w':World):Prop :=
 ∃ b x' ws' n',e = .returned (.bool b)∧Is12 c w' g x'∧A12 c ws' x'∧MemIs B w' gm ws' n'∧WTo c ws ws'∧n ≤ n'∧n' ≤ n + 1∧Fr B true (own12 g x) w w'∧∀ k ∈ own12 g x',k ∈ own12 g x ∨ w.heap.size ≤ k∧k < w'.heap.size
theorem Is06.lt {c:Cf} {v g:Nat} {w:World} {x:S06} (h:Is06 c v w g x):g < w.heap.size:=blk_lt h
theorem Is08.lt {c:Cf} {v s g:Nat} {w:World} {x:S08} (h:Is08 c v s w g x):g < w.heap.size:=by obtain ⟨_,_,_,_,h,_⟩:=h;exact blk_lt h
theorem St.wide {B:Nat} {L L':List Nat} {T:List (Nat × Nat)} {w:World} {gm:Nat} {ws:List Int} {n:Nat} {W:World} (h:St B L T w gm ws n W) (hL:∀ k ∈ L,k ∈ L'):St B L' T w gm ws n W:=⟨h.mem,h.ty,h.fr.mono id hL⟩
theorem word11 {c:Cf} {w:World} {g:Nat} {AP AL:Option Addr} {cP cL:Nat} {st:Nat} {j wv sv o0 o1 o3:Int} {sn en o2:Bool} (hg:w.heap[g]? = some (.cells (k11 c AP cP AL cL st j sn wv sv en o0 o1 o2 o3) 112 (0,0))) :
  Calls Try.prog 62 #[.pointer (some ⟨g,0,none⟩)] w fun e w'=>e = .returned (.int .i64 sv)∧Below w.heap.size w w':=by
 have C_g:=cells_k11 hg
 clear hg
 go_enter Try.func62,Try.ntmps62
 go_wp2
 go_ret
 exact ⟨rfl,Below.refl _ _⟩
theorem ne_type {w:World} {a b s t:Nat} {x y:Array Value} (ha:w.heap[a]? = some (.cells x s (0,0))) (hb:w.heap[b]? = some (.cells y t (0,0))) (h:s ≠ t):a ≠ b:=by
 intro e;subst e;rw [ha] at hb;injection hb with e;injection e with _ e;exact h e
theorem A12.mk2 {c:Cf} {ws ws':List Int} {x:S12} (h:A12 c ws x) {m:Nat} (hm:x.pth.length = m) {xc':S11} {ph' at':Int} {gp' ga':Option Nat} {lv' o0' o1':Int} {o2':Bool} {o3':Int} (hph:ph' = 0 ∨ ph' = 1 ∨ ph' = 2 ∨ ph' = 3 ∨ ph' = 4 ∨ ph' = 5 ∨ ph' = 6) (cl:A11 c xc') (cl0:ph' ≠ 0→ph' ≠ 6→xc'.o0 = 0)
  (hat:0 ≤ at'∧at' ≤ m∧(ph' = 1 ∨ ph' = 5→at' < m)∧(ph' = 0→at' = 0)) (body:ph' = 4→∀ k:Nat,k < c.ti→xc'.o1 = k→bodyOk c (wd ws' (c.tk k + 1))):A12 c ws' ⟨x.nd,x.n0,x.th,x.pth,ph',at',x.gc,xc',gp',ga',lv',o0',o1',o2',o3'⟩:=by
 subst hm
 exact ⟨h.nd,h.n1,h.n2,h.th,h.p1,h.p2,h.p3,hph,cl,cl0,hat.1,hat.2.2.1,hat.2.1,hat.2.2.2,body⟩
theorem A06.zero {c:Cf} (hc:c.Ok) {d x:Int} (hx:0 ≤ x):A06 c ⟨d,x,0,0,0,0,0⟩:=A06.mk' hx (by have:=hc.Sle;omega) (.inl rfl) (fun h=>absurd h (by decide)) (by decide) (by decide)
theorem step12_6 {c:Cf} (hc:c.Ok) {B gm g n:Nat} {w:World} {ws:List Int} (hm:MemIs B w gm ws n) (hw:WOk c ws) (hn:n ≤ 1000000) {nd th gc st:Nat} {n0 lv_ o0 o1 o3 j wv sv q0 q1 q3 at_:Int} {o2 sn en q2:Bool} {pth:List Int} {gp ga:Option Nat} (hB:∀ k ∈ own12 g ⟨nd,n0,th,pth,6,at_,gc,⟨st,j,sn,wv,sv,en,q0,q1,q2,q3⟩,gp,ga,lv_,o0,o1,o2,o3⟩,B ≤ k) (hg:Is12 c w g ⟨nd,n0,th,pth,6,at_,gc,⟨st,j,sn,wv,sv,en,q0,q1,q2,q3⟩,gp,ga,lv_,o0,o1,o2,o3⟩) (hi:A12 c ws ⟨nd,n0,th,pth,6,at_,gc,⟨st,j,sn,wv,sv,en,q0,q1,q2,q3⟩,gp,ga,lv_,o0,o1,o2,o3⟩) :
  Calls Try.prog 44 #[.pointer (some ⟨g,0,none⟩),.pointer (some ⟨gm,0,none⟩)] w (P12 c B gm g ⟨nd,n0,th,pth,6,at_,gc,⟨st,j,sn,wv,sv,en,q0,q1,q2,q3⟩,gp,ga,lv_,o0,o1,o2,o3⟩ ws n w):=by
 obtain ⟨⟨AP,cP,AL,cL,A2,m,c2,hm0,hg,hP,hL,hN⟩,hgc,hpool,hadd⟩:=hg
 obtain ⟨AP3,cP3,AL3,cL3,hgc,hP3,hL3⟩:=hgc
 have hown:=hB
 obtain ⟨k,hk,hok⟩:=hi.cl.o
 dsimp only at hm0 hg hgc hN hpool hadd hok
 subst hok
 have hB:B ≤ g:=hown g List.mem_cons_self
 have HC:=Lib.hid hc
 have HW:=Lib.hid hw
 have HP:=Lib.hid hP
 have HLi:=Lib.hid hL
 have HN:=Lib.hid hN
 have HP3:=Lib.hid hP3
 have HL3:=Lib.hid hL3
 have HLe:=Lib.hid (hw.le hc)
 have HI:=Lib.hid hi
 have HK:=Lib.hid hk
 have HM0:=Lib.hid hm0
 have HR:Hid (pth.length = m∧nodesOk c pth):=Lib.hid ⟨hm0,hi.p3⟩
 have HM1:Hid (0 < m∧m ≤ 100):=Lib.hid (by have:=hi.p1;have:=hi.p2;dsimp only at *;omega)
 have HB0_g:=Lib.hid hg
 have HGC:=Lib.hid hgc
 obtain ⟨p5,hp5⟩:∃ p,c.tk k = p:=⟨_,rfl⟩
 have H5:=Lib.hid hp5
 have H5l:Hid (p5 + 1 < ws.length):=Lib.hid (by rw [← hp5];exact hw.tlt hk)
 obtain ⟨LL,hLL⟩:∃ LL,own12 g ⟨nd,n0,th,pth,6,at_,gc,⟨st,j,sn,wv,sv,en,q0,k,q2,q3⟩,gp,ga,lv_,o0,o1,o2,o3⟩ = LL:=⟨_,rfl⟩
 have HGL:Hid (g ∈ LL):=Lib.hid (by rw [← hLL];exact List.mem_cons_self)
 have HCL:Hid (gc ∈ LL):=Lib.hid (by rw [← hLL];exact List.mem_cons_of_mem _ List.mem_cons_self)
 obtain ⟨L,T,HLL,HTe,HT,HSG_g,HS0⟩:=st1 hm hB hg (by decide) (by decide)
 have HLW:Hid (∀ k ∈ L,k ∈ LL):=Lib.hid (fun k h=>by rw [HLL.out] at h;rw [List.mem_singleton.1 h];exact HGL.out)
 have HLO:=Lib.hid hLL
 have HNE:Hid (g ≠ gc):=Lib.hid (ne_type hg hgc (by decide))
 have HNL:Hid (gc ∉ L):=Lib.hid (by rw [HLL.out,List.mem_singleton];exact fun e=>HNE.out e.symm)
 have HNG:Hid (gc ∉ [g]):=Lib.hid (by rw [List.mem_singleton];exact fun e=>HNE.out e.symm)
 have HX:Hid (Is11 c w gc ⟨st,j,sn,wv,sv,en,q0,k,q2,q3⟩):=Lib.hid ⟨_,_,_,_,hgc,hP3,hL3⟩
 clear hc hw hg hgc hm hP hL hN hP3 hL3 hi hk hm0 hp5 hLL hpool hadd hown
 have C_g:=cells_k12 HB0_g.out
 go_enter Try.func44,Try.ntmps44
 go_wp2
 refine ch_b C_g C_g [0,1,2,3,4,5,6,7,8,9,10,11] (fun W1 HWd hHeld=>?_)
 have HS1:=dwS HWd HS0
 have HB1_g:Hid (W1.heap[g]? = some (.cells (k12 c AP cP AL cL nd n0 th A2 m c2 6 at_ ((some ⟨gc,0,none⟩)) ((bp gp)) ((bp ga)) lv_ o0 o1 o2 o3) 98 (0,0))):=Lib.hid (by rw [← HWd.out];exact HB0_g.out)
 replace C_g:=cells_k12 HB1_g.out
 clear HWd
 iterate 8 refine ch_s ?_
 refine ch_1 fun K hK=>?_
 refine goes_s Try.func55 #[.pointer (some ⟨gc,0,none⟩)] ?_
 refine (ans11 (blk_fr HGC.out HS1.out.fr HNL.out (fun _=>by decide))).mono ?_
 rintro e W2 ⟨rfl,hb'⟩
 refine ⟨_,rfl,?_⟩
 have HS2:=Lib.hid (HS1.out.below hb')
 have HB2_g:=Lib.hid (blk_below HB1_g.out hb')
 replace C_g:=cells_k12 HB2_g.out
 clear hb'
 refine hK.out _ _ C_g ?_;clear hK K hHeld;intro hHeld
 try simp only [Act.put,zq1,zq2,zq3]
 refine ch_s ?_
 refine ch_1 fun K hK=>?_
 refine goes_s Try.func52 #[(cA c AP cP AL cL),.int .i64 k] ?_
 refine (ticket_c HC.out (HP.out.fr HS2.out.fr) (HLi.out.fr HS2.out.fr) (k:=k) (by have:=HK.out;omega)).mono ?_
 rintro e W3 ⟨rfl,hb'⟩
 refine ⟨_,rfl,?_⟩
 have HS3:=Lib.hid (HS2.out.below hb')
 have HB3_g:=Lib.hid (blk_below HB2_g.out hb')
 replace C_g:=cells_k12 HB3_g.out
 rw [H5.out]
 clear hb'
 refine hK.out _ _ C_g ?_;clear hK K hHeld;intro hHeld
 try simp only [Act.put,zq1,zq2,zq3]
 refine ch_s ?_
 refine ch_z ?_
 clear hHeld
 go_wp2
 go_ret
 refine ⟨true,⟨nd,n0,th,pth,6,at_,gc,⟨st,j,sn,wv,sv,en,q0,k,q2,q3⟩,gp,ga,lv_,o0,o1,o2,o3⟩,ws,_,rfl,⟨⟨AP,cP,AL,cL,_,m,c2,HM0.out,HB3_g.out,HP.out.fr HS3.out.fr,HLi.out.fr HS3.out.fr,HN.out.fr HS3.out.fr⟩,HX.out.fr HS3.out.fr HNL.out,fun h=>absurd (show (6:Int) = 1 from h) (by decide),fun h=>absurd (show (6:Int) = 5 from h) (by decide)⟩,?_,HS3.out.mem,WTo.refl HW.out,Nat.le_refl _,by omega,by rw [HLO.out];exact (HS3.out.fr.mono id HLW.out),?_⟩
 ·exact HI.out
 ·exact fun k' hk'=>.inl hk'
theorem step12_2_on {c:Cf} (hc:c.Ok) {B gm g n:Nat} {w:World} {ws:List Int} (hm:MemIs B w gm ws n) (hw:WOk c ws) (hn:n ≤ 1000000) {nd th gc st:Nat} {n0 lv_ o0 o1 o3 j wv sv q0 q1 q3:Int} {o2 sn en q2:Bool} {pth:List Int} {a:Nat} {gp ga:Option Nat} (hB:∀ k ∈ own12 g ⟨nd,n0,th,pth,2,a,gc,⟨st,j,sn,wv,sv,en,q0,q1,q2,q3⟩,gp,ga,lv_,o0,o1,o2,o3⟩,B ≤ k) (hg:Is12 c w g ⟨nd,n0,th,pth,2,a,gc,⟨st,j,sn,wv,sv,en,q0,q1,q2,q3⟩,gp,ga,lv_,o0,o1,o2,o3⟩) (hi:A12 c ws ⟨nd,n0,th,pth,2,a,gc,⟨st,j,sn,wv,sv,en,q0,q1,q2,q3⟩,gp,ga,lv_,o0,o1,o2,o3⟩) (hq:0 < a) :
  Calls Try.prog 44 #[.pointer (some ⟨g,0,none⟩),.pointer (some ⟨gm,0,none⟩)] w (P12 c B gm g ⟨nd,n0,th,pth,2,a,gc,⟨st,j,sn,wv,sv,en,q0,q1,q2,q3⟩,gp,ga,lv_,o0,o1,o2,o3⟩ ws n w):=by
 obtain ⟨⟨AP,cP,AL,cL,A2,m,c2,hm0,hg,hP,hL,hN⟩,hgc,hpool,hadd⟩:=hg
 obtain ⟨AP3,cP3,AL3,cL3,hgc,hP3,hL3⟩:=hgc
 have hown:=hB
 obtain ⟨k,hk,hok⟩:=hi.cl.o
 dsimp only at hm0 hg hgc hN hpool hadd hok
 subst hok
 have hB:B ≤ g:=hown g List.mem_cons_self
 have HC:=Lib.hid hc
 have HW:=Lib.hid hw
 have HP:=Lib.hid hP
 have HLi:=Lib.hid hL
 have HN:=Lib.hid hN
 have HP3:=Lib.hid hP3
 have HL3:=Lib.hid hL3
 have HLe:=Lib.hid (hw.le hc)
 have HI:=Lib.hid hi
 have HK:=Lib.hid hk
 have HM0:=Lib.hid hm0
 have HR:Hid (pth.length = m∧nodesOk c pth):=Lib.hid ⟨hm0,hi.p3⟩
 have HM1:Hid (0 < m∧m ≤ 100):=Lib.hid (by have:=hi.p1;have:=hi.p2;dsimp only at *;omega)
 have HB0_g:=Lib.hid hg
 have HGC:=Lib.hid hgc
 obtain ⟨p5,hp5⟩:∃ p,c.tk k = p:=⟨_,rfl⟩
 have H5:=Lib.hid hp5
 have H5l:Hid (p5 + 1 < ws.length):=Lib.hid (by rw [← hp5];exact hw.tlt hk)
 obtain ⟨LL,hLL⟩:∃ LL,own12 g ⟨nd,n0,th,pth,2,a,gc,⟨st,j,sn,wv,sv,en,q0,k,q2,q3⟩,gp,ga,lv_,o0,o1,o2,o3⟩ = LL:=⟨_,rfl⟩
 have HGL:Hid (g ∈ LL):=Lib.hid (by rw [← hLL];exact List.mem_cons_self)
 have HCL:Hid (gc ∈ LL):=Lib.hid (by rw [← hLL];exact List.mem_cons_of_mem _ List.mem_cons_self)
 obtain ⟨L,T,HLL,HTe,HT,HSG_g,HS0⟩:=st1 hm hB hg (by decide) (by decide)
 have HLW:Hid (∀ k ∈ L,k ∈ LL):=Lib.hid (fun k h=>by rw [HLL.out] at h;rw [List.mem_singleton.1 h];exact HGL.out)
 have HLO:=Lib.hid hLL
 have HNE:Hid (g ≠ gc):=Lib.hid (ne_type hg hgc (by decide))
 have HNL:Hid (gc ∉ L):=Lib.hid (by rw [HLL.out,List.mem_singleton];exact fun e=>HNE.out e.symm)
 have HNG:Hid (gc ∉ [g]):=Lib.hid (by rw [List.mem_singleton];exact fun e=>HNE.out e.symm)
 have HX:Hid (Is11 c w gc ⟨st,j,sn,wv,sv,en,q0,k,q2,q3⟩):=Lib.hid ⟨_,_,_,_,hgc,hP3,hL3⟩
 obtain ⟨b,hb⟩:∃ b:Nat,b + 1 = a:=⟨a - 1,by omega⟩
 have hbm:b < m:=by have:=hi.at2;dsimp only at this;omega
 obtain ⟨gA,xf,rfl,hx,hne0,HAT⟩:=ints_at (B:=B) (L:=L) HN.out HM1.out.1
 have ne1:=hne0 _ _ _ _ HB0_g.out (by decide)
 have ne2:=Ne.symm ne1
 clear hne0
 obtain ⟨u,hu,hu2⟩:=node_at HR.out hx hbm
 have HU:=Lib.hid hu2
 have HUX:=Lib.hid hu
 have HBM:=Lib.hid hbm
 have i1:(0:Int) ≤ (b:Int):=by omega
 have i2:(b:Int) < (m:Int):=by omega
 have HBA:Hid ((b:Int) + 1 = a):=Lib.hid (by omega)
 have q9:IntKind.i64.wrap ((a:Int) - 1) = (b:Int):=by rw [show (a:Int) - 1 = (b:Int) by omega];exact IntWalk.i64_in _ (by have:=HM1.out.2;omega)
 have d1:decide (0 < (a:Int)) = true:=decide_eq_true (by omega)
 have d2:decide (0 < a) = true:=decide_eq_true (by omega)
 obtain ⟨p6,hp6⟩:∃ p,c.na u 1 = p:=⟨_,rfl⟩
 have H6:=Lib.hid hp6
 have hK:c.K = 6 + 2 * c.S:=rfl
 have H6l:Hid (p6 < ws.length):=Lib.hid (by rw [← hp6];exact hw.lt hu2 (by omega))
 have HT6:Hid (∀ x,WTo c ws (ws.set p6 x)):=Lib.hid (fun x=>by rw [← hp6];exact hw.set_node hu2 (by omega) (by omega) x)
 clear hp6 hK hb hbm hu hu2 hx hq
 clear hc hw hg hgc hm hP hL hN hP3 hL3 hi hk hm0 hp5 hLL hpool hadd hown
 have C_g:=cells_k12 HB0_g.out
 go_enter Try.func44,Try.ntmps44
 go_wp2
 refine ch_b C_g C_g [0,1,2,3,4,5,6,7,8,9,10,11] (fun W1 HWd hHeld=>?_)
 have HS1:=dwS HWd HS0
 have HB1_g:Hid (W1.heap[g]? = some (.cells (k12 c AP cP AL cL nd n0 th (some ⟨gA,0,none⟩) m c2 2 a ((some ⟨gc,0,none⟩)) ((bp gp)) ((bp ga)) lv_ o0 o1 o2 o3) 98 (0,0))):=Lib.hid (by rw [← HWd.out];exact HB0_g.out)
 replace C_g:=cells_k12 HB1_g.out
 clear HWd
 iterate 8 refine ch_s ?_
 refine ch_1 fun K hK=>?_
 refine goes_s Try.func55 #[.pointer (some ⟨gc,0,none⟩)] ?_
 refine (ans11 (blk_fr HGC.out HS1.out.fr HNL.out (fun _=>by decide))).mono ?_
 rintro e W2 ⟨rfl,hb'⟩
 refine ⟨_,rfl,?_⟩
 have HS2:=Lib.hid (HS1.out.below hb')
 have HB2_g:=Lib.hid (blk_below HB1_g.out hb')
 replace C_g:=cells_k12 HB2_g.out
 clear hb'
 refine hK.out _ _ C_g ?_;clear hK K hHeld;intro hHeld
 try simp only [Act.put,zq1,zq2,zq3]
 refine ch_s ?_
 refine ch_1 fun K hK=>?_
 refine goes_s Try.func52 #[(cA c AP cP AL cL),.int .i64 k] ?_
 refine (ticket_c HC.out (HP.out.fr HS2.out.fr) (HLi.out.fr HS2.out.fr) (k:=k) (by have:=HK.out;omega)).mono ?_
 rintro e W3 ⟨rfl,hb'⟩
 refine ⟨_,rfl,?_⟩
 have HS3:=Lib.hid (HS2.out.below hb')
 have HB3_g:=Lib.hid (blk_below HB2_g.out hb')
 replace C_g:=cells_k12 HB3_g.out
 rw [H5.out]
 clear hb'
 refine hK.out _ _ C_g ?_;clear hK K hHeld;intro hHeld
 try simp only [Act.put,zq1,zq2,zq3]
 refine ch_s ?_
 refine ch_z ?_
 clear hHeld
 go_wp2
 generalize hWd:(World.setCell W3 ⟨g,13,none⟩ (.int .i64 b)) = W4 at ⊢
 have HWd:=Lib.hid hWd
 clear hWd
 have HS4:Hid (St B L T w gm ws n W4):=Lib.hid (by rw [← HWd.out];exact (HSG_g.out _ _ _ HS3.out 13 (.int .i64 b)))
 have HB4_g:Hid (W4.heap[g]? = some (.cells (k12 c AP cP AL cL nd n0 th (some ⟨gA,0,none⟩) m c2 2 b ((some ⟨gc,0,none⟩)) ((bp gp)) ((bp ga)) lv_ o0 o1 o2 o3) 98 (0,0))):=Lib.hid (by rw [← HWd.out];exact (blk_set' HB3_g.out 13 (.int .i64 b) rfl))
 replace C_g:=cells_k12 HB4_g.out
 clear HWd
 refine ch_st (fun wS=>wS.cell? ⟨g,0,none⟩ = some (.int .i64 c.th)∧wS.cell? ⟨g,1,none⟩ = some (.int .i64 c.S)∧wS.cell? ⟨g,2,none⟩ = some (.int .i64 c.ga)∧wS.cell? ⟨g,3,none⟩ = some (.int .i64 c.le)∧wS.cell? ⟨g,4,none⟩ = some (.int .i64 c.re)∧wS.cell? ⟨g,5,none⟩ = some (.int .i64 c.ti)∧wS.cell? ⟨g,6,none⟩ = some (.slice AP c.pa.length cP)∧wS.cell? ⟨g,7,none⟩ = some (.slice AL c.li.length cL)∧wS.cell? ⟨g,9,none⟩ = some (.int .i64 n0)∧wS.cell? ⟨g,11,none⟩ = some (.slice (some ⟨gA,0,none⟩) m c2)∧wS.cell? ⟨g,13,none⟩ = some (.int .i64 b)∧wS.cell? ⟨gA,b,none⟩ = some (.int .i64 u)) [20] [0,1,2,3,4,5,6,7,8,9,10,11,12,13,14,16,17,18,19,15,20] (by kernel_rfl) rfl (⟨C_g.2.1,C_g.2.2.1,C_g.2.2.2.1,C_g.2.2.2.2.1,C_g.2.2.2.2.2.1,C_g.2.2.2.2.2.2.1,C_g.2.2.2.2.2.2.2.1,C_g.2.2.2.2.2.2.2.2.1,C_g.2.2.2.2.2.2.2.2.2.2.1,C_g.2.2.2.2.2.2.2.2.2.2.2.2.1,C_g.2.2.2.2.2.2.2.2.2.2.2.2.2.2.1,(by rw [← HUX.out];exact HAT.out _ HS4.out.fr b HBM.out)⟩) (fun W5 HWd hHeld=>?_)
 have HS5:=dwS HWd HS4
 have HB5_g:=dwH HWd HB4_g
 replace C_g:=cells_k12 HB5_g.out
 clear HWd
 iterate 19 refine ch_s ?_
 refine ch_1 fun K hK=>?_
 refine goes_s Try.func34 #[(cA c AP cP AL cL),.int .i64 u] ?_
 refine (avail_c HC.out (HP.out.fr HS5.out.fr) (HLi.out.fr HS5.out.fr) (v:=u) (by have:=HU.out;omega)).mono ?_
 rintro e W6 ⟨rfl,hb'⟩
 refine ⟨_,rfl,?_⟩
 have HS6:=Lib.hid (HS5.out.below hb')
 have HB6_g:=Lib.hid (blk_below HB5_g.out hb')
 replace C_g:=cells_k12 HB6_g.out
 rw [H6.out]
 clear hb'
 refine hK.out _ _ (⟨C_g.2.1,C_g.2.2.1,C_g.2.2.2.1,C_g.2.2.2.2.1,C_g.2.2.2.2.2.1,C_g.2.2.2.2.2.2.1,C_g.2.2.2.2.2.2.2.1,C_g.2.2.2.2.2.2.2.2.1,C_g.2.2.2.2.2.2.2.2.2.2.1,C_g.2.2.2.2.2.2.2.2.2.2.2.2.1,C_g.2.2.2.2.2.2.2.2.2.2.2.2.2.2.1,(by rw [← HUX.out];exact HAT.out _ HS6.out.fr b HBM.out)⟩) ?_;clear hK K hHeld;intro hHeld
 try simp only [Act.put,zq1,zq2,zq3]
 refine ch_last rfl rfl (by kernel_rfl) (by decide) (fun K hK=>?_)
 refine goes_s Try.func60 #[.pointer (some ⟨gm,0,none⟩),.int .i64 p6,.int .i64 n0] ?_
 refine (add_z HS6.out.mem hn HLe.out p6 H6l.out n0 _ rfl).mono ?_
 rintro e W7 ⟨x,rfl,hm',hf'⟩
 refine ⟨_,rfl,?_⟩
 have HS7:=Lib.hid (HS6.out.acc hm' hf' HT.out)
 have HB7_g:=Lib.hid (blk_fr HB6_g.out hf' (by simp) (by decide))
 replace C_g:=cells_k12 HB7_g.out
 clear hm' hf'
 refine hK.out _ _ ?_
 clear hK K
 try simp only [Act.put,zq1,zq2,zq3]
 refine ch_z ?_
 clear hHeld
 go_wp2
 go_ret
 refine ⟨false,⟨nd,n0,th,pth,2,b,gc,⟨st,j,sn,wv,sv,en,q0,k,q2,q3⟩,gp,ga,lv_,o0,o1,o2,o3⟩,(ws.set p6 x),_,rfl,⟨⟨AP,cP,AL,cL,_,m,c2,HM0.out,HB7_g.out,HP.out.fr HS7.out.fr,HLi.out.fr HS7.out.fr,HN.out.fr HS7.out.fr⟩,HX.out.fr HS7.out.fr HNL.out,fun h=>absurd (show (2:Int) = 1 from h) (by decide),fun h=>absurd (show (2:Int) = 5 from h) (by decide)⟩,?_,HS7.out.mem,HT6.out x,by omega,Nat.le_refl _,by rw [HLO.out];exact (HS7.out.fr.mono id HLW.out),?_⟩
 ·exact A12.mk2 HI.out HM0.out (by simp) HI.out.cl (fun _ _=>HI.out.cl0 (show ¬ (2:Int) = 0 by decide) (show ¬ (2:Int) = 6 by decide)) ⟨by omega,by have:=HBM.out;omega,fun h=>by omega,fun h=>by omega⟩ (fun h=>by omega)
 ·exact fun k' hk'=>.inl hk'
theorem step12_2_end {c:Cf} (hc:c.Ok) {B gm g n:Nat} {w:World} {ws:List Int} (hm:MemIs B w gm ws n) (hw:WOk c ws) (hn:n ≤ 1000000) {nd th gc st:Nat} {n0 lv_ o0 o1 o3 j wv sv q0 q1 q3:Int} {o2 sn en q2:Bool} {pth:List Int} {gp ga:Option Nat} (hB:∀ k ∈ own12 g ⟨nd,n0,th,pth,2,0,gc,⟨st,j,sn,wv,sv,en,q0,q1,q2,q3⟩,gp,ga,lv_,o0,o1,o2,o3⟩,B ≤ k) (hg:Is12 c w g ⟨nd,n0,th,pth,2,0,gc,⟨st,j,sn,wv,sv,en,q0,q1,q2,q3⟩,gp,ga,lv_,o0,o1,o2,o3⟩) (hi:A12 c ws ⟨nd,n0,th,pth,2,0,gc,⟨st,j,sn,wv,sv,en,q0,q1,q2,q3⟩,gp,ga,lv_,o0,o1,o2,o3⟩) :
  Calls Try.prog 44 #[.pointer (some ⟨g,0,none⟩),.pointer (some ⟨gm,0,none⟩)] w (P12 c B gm g ⟨nd,n0,th,pth,2,0,gc,⟨st,j,sn,wv,sv,en,q0,q1,q2,q3⟩,gp,ga,lv_,o0,o1,o2,o3⟩ ws n w):=by
 obtain ⟨⟨AP,cP,AL,cL,A2,m,c2,hm0,hg,hP,hL,hN⟩,hgc,hpool,hadd⟩:=hg
 obtain ⟨AP3,cP3,AL3,cL3,hgc,hP3,hL3⟩:=hgc
 have hown:=hB
 obtain ⟨k,hk,hok⟩:=hi.cl.o
 dsimp only at hm0 hg hgc hN hpool hadd hok
 subst hok
 have hB:B ≤ g:=hown g List.mem_cons_self
 have HC:=Lib.hid hc
 have HW:=Lib.hid hw
 have HP:=Lib.hid hP
 have HLi:=Lib.hid hL
 have HN:=Lib.hid hN
 have HP3:=Lib.hid hP3
 have HL3:=Lib.hid hL3
 have HLe:=Lib.hid (hw.le hc)
 have HI:=Lib.hid hi
 have HK:=Lib.hid hk
 have HM0:=Lib.hid hm0
 have HR:Hid (pth.length = m∧nodesOk c pth):=Lib.hid ⟨hm0,hi.p3⟩
 have HM1:Hid (0 < m∧m ≤ 100):=Lib.hid (by have:=hi.p1;have:=hi.p2;dsimp only at *;omega)
 have HB0_g:=Lib.hid hg
 have HGC:=Lib.hid hgc
 obtain ⟨p5,hp5⟩:∃ p,c.tk k = p:=⟨_,rfl⟩
 have H5:=Lib.hid hp5
 have H5l:Hid (p5 + 1 < ws.length):=Lib.hid (by rw [← hp5];exact hw.tlt hk)
 obtain ⟨LL,hLL⟩:∃ LL,own12 g ⟨nd,n0,th,pth,2,0,gc,⟨st,j,sn,wv,sv,en,q0,k,q2,q3⟩,gp,ga,lv_,o0,o1,o2,o3⟩ = LL:=⟨_,rfl⟩
 have HGL:Hid (g ∈ LL):=Lib.hid (by rw [← hLL];exact List.mem_cons_self)
 have HCL:Hid (gc ∈ LL):=Lib.hid (by rw [← hLL];exact List.mem_cons_of_mem _ List.mem_cons_self)
 obtain ⟨L,T,HLL,HTe,HT,HSG_g,HS0⟩:=st1 hm hB hg (by decide) (by decide)
 have HLW:Hid (∀ k ∈ L,k ∈ LL):=Lib.hid (fun k h=>by rw [HLL.out] at h;rw [List.mem_singleton.1 h];exact HGL.out)
 have HLO:=Lib.hid hLL
 have HNE:Hid (g ≠ gc):=Lib.hid (ne_type hg hgc (by decide))
 have HNL:Hid (gc ∉ L):=Lib.hid (by rw [HLL.out,List.mem_singleton];exact fun e=>HNE.out e.symm)
 have HNG:Hid (gc ∉ [g]):=Lib.hid (by rw [List.mem_singleton];exact fun e=>HNE.out e.symm)
 have HX:Hid (Is11 c w gc ⟨st,j,sn,wv,sv,en,q0,k,q2,q3⟩):=Lib.hid ⟨_,_,_,_,hgc,hP3,hL3⟩
 obtain ⟨t1,tb,ht1⟩:=turn_ok sv 0
 have HT1:=Lib.hid ht1
 clear ht1
 clear hc hw hg hgc hm hP hL hN hP3 hL3 hi hk hm0 hp5 hLL hpool hadd hown
 have C_g:=cells_k12 HB0_g.out
 go_enter Try.func44,Try.ntmps44
 go_wp2
 refine ch_b C_g C_g [0,1,2,3,4,5,6,7,8,9,10,11] (fun W1 HWd hHeld=>?_)
 have HS1:=dwS HWd HS0
 have HB1_g:Hid (W1.heap[g]? = some (.cells (k12 c AP cP AL cL nd n0 th A2 m c2 2 0 ((some ⟨gc,0,none⟩)) ((bp gp)) ((bp ga)) lv_ o0 o1 o2 o3) 98 (0,0))):=Lib.hid (by rw [← HWd.out];exact HB0_g.out)
 replace C_g:=cells_k12 HB1_g.out
 clear HWd
 iterate 8 refine ch_s ?_
 refine ch_1 fun K hK=>?_
 refine goes_s Try.func55 #[.pointer (some ⟨gc,0,none⟩)] ?_
 refine (ans11 (blk_fr HGC.out HS1.out.fr HNL.out (fun _=>by decide))).mono ?_
 rintro e W2 ⟨rfl,hb'⟩
 refine ⟨_,rfl,?_⟩
 have HS2:=Lib.hid (HS1.out.below hb')
 have HB2_g:=Lib.hid (blk_below HB1_g.out hb')
 replace C_g:=cells_k12 HB2_g.out
 clear hb'
 refine hK.out _ _ C_g ?_;clear hK K hHeld;intro hHeld
 try simp only [Act.put,zq1,zq2,zq3]
 refine ch_s ?_
 refine ch_1 fun K hK=>?_
 refine goes_s Try.func52 #[(cA c AP cP AL cL),.int .i64 k] ?_
 refine (ticket_c HC.out (HP.out.fr HS2.out.fr) (HLi.out.fr HS2.out.fr) (k:=k) (by have:=HK.out;omega)).mono ?_
 rintro e W3 ⟨rfl,hb'⟩
 refine ⟨_,rfl,?_⟩
 have HS3:=Lib.hid (HS2.out.below hb')
 have HB3_g:=Lib.hid (blk_below HB2_g.out hb')
 replace C_g:=cells_k12 HB3_g.out
 rw [H5.out]
 clear hb'
 refine hK.out _ _ C_g ?_;clear hK K hHeld;intro hHeld
 try simp only [Act.put,zq1,zq2,zq3]
 refine ch_s ?_
 refine ch_z ?_
 clear hHeld
 go_wp2_with (first|(go_at_call 62;(with_reducible refine (word11 (blk_fr HGC.out HS3.out.fr HNL.out (fun _=>by decide))).mono ?_);rintro e W4 ⟨rfl,hb'⟩;have HS4:=Lib.hid (HS3.out.below hb');have HB4_g:=Lib.hid (blk_below HB3_g.out hb');replace C_g:=cells_k12 HB4_g.out;clear hb')|(go_at_call 61;(with_reducible refine (breadlineref10_Turn.calls sv 0 t1 tb _ HT1.out).mono ?_);rintro e w' ⟨rfl,⟨dr,rfl⟩⟩;generalize hWd:World.drewN W4 dr = W5 at ⊢;have HWd:=Lib.hid hWd;clear hWd;have HS5:Hid (St B L T w gm ws n W5):=Lib.hid (by rw [← HWd.out];exact HS4.out.drewN dr);have HB5_g:=dwH HWd HB4_g;replace C_g:=cells_k12 HB5_g.out;clear HWd)|(go_at_call 63;(with_reducible refine ((store_z HS5.out.mem hn HLe.out p5 (by have:=H5l.out;omega) t1 _ rfl)).mono ?_);rintro e W6 ⟨rfl,hm',hf'⟩;have HS6:=Lib.hid (HS5.out.acc hm' hf' HT.out);have HB6_g:=Lib.hid (blk_fr HB5_g.out hf' (by simp) (by decide));replace C_g:=cells_k12 HB6_g.out;clear hm' hf'))
 go_ret
 refine ⟨true,⟨nd,n0,th,pth,6,0,gc,⟨st,j,sn,wv,sv,en,q0,k,q2,q3⟩,gp,ga,lv_,o0,o1,o2,o3⟩,(ws.set p5 t1),_,rfl,⟨⟨AP,cP,AL,cL,_,m,c2,HM0.out,(blk_set' HB6_g.out 12 (.int .i64 6) rfl),HP.out.fr (HSG_g.out _ _ _ HS6.out 12 (.int .i64 6)).fr,HLi.out.fr (HSG_g.out _ _ _ HS6.out 12 (.int .i64 6)).fr,HN.out.fr (HSG_g.out _ _ _ HS6.out 12 (.int .i64 6)).fr⟩,HX.out.fr (HSG_g.out _ _ _ HS6.out 12 (.int .i64 6)).fr HNL.out,fun h=>absurd (show (6:Int) = 1 from h) (by decide),fun h=>absurd (show (6:Int) = 5 from h) (by decide)⟩,?_,(HSG_g.out _ _ _ HS6.out 12 (.int .i64 6)).mem,(by rw [← H5.out];exact HW.out.set_state HK.out (fun h=>absurd h (turn_not HT1.out (by omega)))),by omega,Nat.le_refl _,by rw [HLO.out];exact ((HSG_g.out _ _ _ HS6.out 12 (.int .i64 6)).fr.mono id HLW.out),?_⟩
 ·exact A12.mk2 HI.out HM0.out (by simp) HI.out.cl (fun _ h=>absurd rfl h) ⟨by omega,by omega,fun h=>by omega,fun h=>by omega⟩ (fun h=>by omega)
 ·exact fun k' hk'=>.inl hk'
theorem step12_3 {c:Cf} (hc:c.Ok) {B gm g n:Nat} {w:World} {ws:List Int} (hm:MemIs B w gm ws n) (hw:WOk c ws) (hn:n ≤ 1000000) {nd th gc st:Nat} {n0 lv_ o0 o1 o3 j wv sv q0 q1 q3 at_:Int} {o2 sn en q2:Bool} {pth:List Int} {gp ga:Option Nat} (hB:∀ k ∈ own12 g ⟨nd,n0,th,pth,3,at_,gc,⟨st,j,sn,wv,sv,en,q0,q1,q2,q3⟩,gp,ga,lv_,o0,o1,o2,o3⟩,B ≤ k) (hg:Is12 c w g ⟨nd,n0,th,pth,3,at_,gc,⟨st,j,sn,wv,sv,en,q0,q1,q2,q3⟩,gp,ga,lv_,o0,o1,o2,o3⟩) (hi:A12 c ws ⟨nd,n0,th,pth,3,at_,gc,⟨st,j,sn,wv,sv,en,q0,q1,q2,q3⟩,gp,ga,lv_,o0,o1,o2,o3⟩) :
  Calls Try.prog 44 #[.pointer (some ⟨g,0,none⟩),.pointer (some ⟨gm,0,none⟩)] w (P12 c B gm g ⟨nd,n0,th,pth,3,at_,gc,⟨st,j,sn,wv,sv,en,q0,q1,q2,q3⟩,gp,ga,lv_,o0,o1,o2,o3⟩ ws n w):=by
 obtain ⟨⟨AP,cP,AL,cL,A2,m,c2,hm0,hg,hP,hL,hN⟩,hgc,hpool,hadd⟩:=hg
 obtain ⟨AP3,cP3,AL3,cL3,hgc,hP3,hL3⟩:=hgc
 have hown:=hB
 obtain ⟨k,hk,hok⟩:=hi.cl.o
 dsimp only at hm0 hg hgc hN hpool hadd hok
 subst hok
 have hB:B ≤ g:=hown g List.mem_cons_self
 have HC:=Lib.hid hc
 have HW:=Lib.hid hw
 have HP:=Lib.hid hP
 have HLi:=Lib.hid hL
 have HN:=Lib.hid hN
 have HP3:=Lib.hid hP3
 have HL3:=Lib.hid hL3
 have HLe:=Lib.hid (hw.le hc)
 have HI:=Lib.hid hi
 have HK:=Lib.hid hk
 have HM0:=Lib.hid hm0
 have HR:Hid (pth.length = m∧nodesOk c pth):=Lib.hid ⟨hm0,hi.p3⟩
 have HM1:Hid (0 < m∧m ≤ 100):=Lib.hid (by have:=hi.p1;have:=hi.p2;dsimp only at *;omega)
 have HB0_g:=Lib.hid hg
 have HGC:=Lib.hid hgc
 obtain ⟨p5,hp5⟩:∃ p,c.tk k = p:=⟨_,rfl⟩
 have H5:=Lib.hid hp5
 have H5l:Hid (p5 + 1 < ws.length):=Lib.hid (by rw [← hp5];exact hw.tlt hk)
 obtain ⟨LL,hLL⟩:∃ LL,own12 g ⟨nd,n0,th,pth,3,at_,gc,⟨st,j,sn,wv,sv,en,q0,k,q2,q3⟩,gp,ga,lv_,o0,o1,o2,o3⟩ = LL:=⟨_,rfl⟩
 have HGL:Hid (g ∈ LL):=Lib.hid (by rw [← hLL];exact List.mem_cons_self)
 have HCL:Hid (gc ∈ LL):=Lib.hid (by rw [← hLL];exact List.mem_cons_of_mem _ List.mem_cons_self)
 obtain ⟨L,T,HLL,HTe,HT,HSG_g,HS0⟩:=st1 hm hB hg (by decide) (by decide)
 have HLW:Hid (∀ k ∈ L,k ∈ LL):=Lib.hid (fun k h=>by rw [HLL.out] at h;rw [List.mem_singleton.1 h];exact HGL.out)
 have HLO:=Lib.hid hLL
 have HNE:Hid (g ≠ gc):=Lib.hid (ne_type hg hgc (by decide))
 have HNL:Hid (gc ∉ L):=Lib.hid (by rw [HLL.out,List.mem_singleton];exact fun e=>HNE.out e.symm)
 have HNG:Hid (gc ∉ [g]):=Lib.hid (by rw [List.mem_singleton];exact fun e=>HNE.out e.symm)
 have HX:Hid (Is11 c w gc ⟨st,j,sn,wv,sv,en,q0,k,q2,q3⟩):=Lib.hid ⟨_,_,_,_,hgc,hP3,hL3⟩
 obtain ⟨r,hr,hbo⟩:=body_good hi.nd hc.N2 hi.n1 hi.n2
 have HR3:=Lib.hid hr
 have HBO:=Lib.hid hbo
 have hle:=hw.le hc
 have h5l:=H5l.out
 have q8:IntKind.i64.wrap ((p5:Int) + 1) = (p5:Int) + 1:=IntWalk.i64_in _ (by omega)
 have HAT:Hid (0 ≤ at_∧at_ ≤ m):=Lib.hid (by have h1:=hi.at0;have h2:=hi.at2;dsimp only at h1 h2;omega)
 clear hr hbo hle h5l
 clear hc hw hg hgc hm hP hL hN hP3 hL3 hi hk hm0 hp5 hLL hpool hadd hown
 have C_g:=cells_k12 HB0_g.out
 go_enter Try.func44,Try.ntmps44
 go_wp2
 refine ch_b C_g C_g [0,1,2,3,4,5,6,7,8,9,10,11] (fun W1 HWd hHeld=>?_)
 have HS1:=dwS HWd HS0
 have HB1_g:Hid (W1.heap[g]? = some (.cells (k12 c AP cP AL cL nd n0 th A2 m c2 3 at_ ((some ⟨gc,0,none⟩)) ((bp gp)) ((bp ga)) lv_ o0 o1 o2 o3) 98 (0,0))):=Lib.hid (by rw [← HWd.out];exact HB0_g.out)
 replace C_g:=cells_k12 HB1_g.out
 clear HWd
 iterate 8 refine ch_s ?_
 refine ch_1 fun K hK=>?_
 refine goes_s Try.func55 #[.pointer (some ⟨gc,0,none⟩)] ?_
 refine (ans11 (blk_fr HGC.out HS1.out.fr HNL.out (fun _=>by decide))).mono ?_
 rintro e W2 ⟨rfl,hb'⟩
 refine ⟨_,rfl,?_⟩
 have HS2:=Lib.hid (HS1.out.below hb')
 have HB2_g:=Lib.hid (blk_below HB1_g.out hb')
 replace C_g:=cells_k12 HB2_g.out
 clear hb'
 refine hK.out _ _ C_g ?_;clear hK K hHeld;intro hHeld
 try simp only [Act.put,zq1,zq2,zq3]
 refine ch_s ?_
 refine ch_1 fun K hK=>?_
 refine goes_s Try.func52 #[(cA c AP cP AL cL),.int .i64 k] ?_
 refine (ticket_c HC.out (HP.out.fr HS2.out.fr) (HLi.out.fr HS2.out.fr) (k:=k) (by have:=HK.out;omega)).mono ?_
 rintro e W3 ⟨rfl,hb'⟩
 refine ⟨_,rfl,?_⟩
 have HS3:=Lib.hid (HS2.out.below hb')
 have HB3_g:=Lib.hid (blk_below HB2_g.out hb')
 replace C_g:=cells_k12 HB3_g.out
 rw [H5.out]
 clear hb'
 refine hK.out _ _ C_g ?_;clear hK K hHeld;intro hHeld
 try simp only [Act.put,zq1,zq2,zq3]
 refine ch_s ?_
 refine ch_z ?_
 clear hHeld
 go_wp2
 refine ch_b C_g C_g [0,1,2,3,4,5,6,7,8,9,10,11,12,13] (fun W4 HWd hHeld=>?_)
 have HS4:=dwS HWd HS3
 have HB4_g:=dwH HWd HB3_g
 replace C_g:=cells_k12 HB4_g.out
 clear HWd
 iterate 8 refine ch_s ?_
 refine ch_1 fun K hK=>?_
 refine goes_s Try.func64 #[.int .i64 nd,.int .i64 n0] ?_
 refine (breadlineref10_Body.calls nd n0 r true _ HR3.out).mono ?_
 rintro e w' ⟨rfl,⟨dr,rfl⟩⟩
 refine ⟨_,rfl,?_⟩
 generalize hWd:World.drewN W4 dr = W5 at ⊢
 have HWd:=Lib.hid hWd
 clear hWd
 have HS5:Hid (St B L T w gm ws n W5):=Lib.hid (by rw [← HWd.out];exact HS4.out.drewN dr)
 have HB5_g:=dwH HWd HB4_g
 replace C_g:=cells_k12 HB5_g.out
 clear HWd
 refine hK.out _ _ C_g ?_;clear hK K hHeld;intro hHeld
 try simp only [Act.put,zq1,zq2,zq3]
 iterate 5 refine ch_s ?_
 refine ch_z ?_
 clear hHeld
 go_wp2_with (first|(go_at_call 63;(with_reducible refine ((store_z HS5.out.mem hn HLe.out (p5 + 1) H5l.out r _ (by omega))).mono ?_);rintro e W6 ⟨rfl,hm',hf'⟩;have HS6:=Lib.hid (HS5.out.acc hm' hf' HT.out);have HB6_g:=Lib.hid (blk_fr HB5_g.out hf' (by simp) (by decide));replace C_g:=cells_k12 HB6_g.out;clear hm' hf'))
 go_ret
 refine ⟨false,⟨nd,n0,th,pth,4,at_,gc,⟨st,j,sn,wv,sv,en,q0,k,q2,q3⟩,gp,ga,lv_,o0,o1,o2,o3⟩,(ws.set (p5 + 1) r),_,rfl,⟨⟨AP,cP,AL,cL,_,m,c2,HM0.out,(blk_set' HB6_g.out 12 (.int .i64 4) rfl),HP.out.fr (HSG_g.out _ _ _ HS6.out 12 (.int .i64 4)).fr,HLi.out.fr (HSG_g.out _ _ _ HS6.out 12 (.int .i64 4)).fr,HN.out.fr (HSG_g.out _ _ _ HS6.out 12 (.int .i64 4)).fr⟩,HX.out.fr (HSG_g.out _ _ _ HS6.out 12 (.int .i64 4)).fr HNL.out,fun h=>absurd (show (4:Int) = 1 from h) (by decide),fun h=>absurd (show (4:Int) = 5 from h) (by decide)⟩,?_,(HSG_g.out _ _ _ HS6.out 12 (.int .i64 4)).mem,(by rw [← H5.out];exact (HW.out.set_body HK.out HBO.out).1),by omega,Nat.le_refl _,by rw [HLO.out];exact ((HSG_g.out _ _ _ HS6.out 12 (.int .i64 4)).fr.mono id HLW.out),?_⟩
 ·exact A12.mk2 HI.out HM0.out (by simp) HI.out.cl (fun _ _=>HI.out.cl0 (show ¬ (3:Int) = 0 by decide) (show ¬ (3:Int) = 6 by decide)) ⟨HAT.out.1,HAT.out.2,fun h=>by omega,fun h=>by omega⟩ (fun _ k' hk' ho=>by have e:k = k':=Int.ofNat.inj ho;subst e;rw [← H5.out];exact (HW.out.set_body HK.out HBO.out).2)
 ·exact fun k' hk'=>.inl hk'
theorem step12_4 {c:Cf} (hc:c.Ok) {B gm g n:Nat} {w:World} {ws:List Int} (hm:MemIs B w gm ws n) (hw:WOk c ws) (hn:n ≤ 1000000) {nd th gc st:Nat} {n0 lv_ o0 o1 o3 j wv sv q0 q1 q3 at_:Int} {o2 sn en q2:Bool} {pth:List Int} {gp ga:Option Nat} (hB:∀ k ∈ own12 g ⟨nd,n0,th,pth,4,at_,gc,⟨st,j,sn,wv,sv,en,q0,q1,q2,q3⟩,gp,ga,lv_,o0,o1,o2,o3⟩,B ≤ k) (hg:Is12 c w g ⟨nd,n0,th,pth,4,at_,gc,⟨st,j,sn,wv,sv,en,q0,q1,q2,q3⟩,gp,ga,lv_,o0,o1,o2,o3⟩) (hi:A12 c ws ⟨nd,n0,th,pth,4,at_,gc,⟨st,j,sn,wv,sv,en,q0,q1,q2,q3⟩,gp,ga,lv_,o0,o1,o2,o3⟩) :
  Calls Try.prog 44 #[.pointer (some ⟨g,0,none⟩),.pointer (some ⟨gm,0,none⟩)] w (P12 c B gm g ⟨nd,n0,th,pth,4,at_,gc,⟨st,j,sn,wv,sv,en,q0,q1,q2,q3⟩,gp,ga,lv_,o0,o1,o2,o3⟩ ws n w):=by
 obtain ⟨⟨AP,cP,AL,cL,A2,m,c2,hm0,hg,hP,hL,hN⟩,hgc,hpool,hadd⟩:=hg
 obtain ⟨AP3,cP3,AL3,cL3,hgc,hP3,hL3⟩:=hgc
 have hown:=hB
 obtain ⟨k,hk,hok⟩:=hi.cl.o
 dsimp only at hm0 hg hgc hN hpool hadd hok
 subst hok
 have hB:B ≤ g:=hown g List.mem_cons_self
 have HC:=Lib.hid hc
 have HW:=Lib.hid hw
 have HP:=Lib.hid hP
 have HLi:=Lib.hid hL
 have HN:=Lib.hid hN
 have HP3:=Lib.hid hP3
 have HL3:=Lib.hid hL3
 have HLe:=Lib.hid (hw.le hc)
 have HI:=Lib.hid hi
 have HK:=Lib.hid hk
 have HM0:=Lib.hid hm0
 have HR:Hid (pth.length = m∧nodesOk c pth):=Lib.hid ⟨hm0,hi.p3⟩
 have HM1:Hid (0 < m∧m ≤ 100):=Lib.hid (by have:=hi.p1;have:=hi.p2;dsimp only at *;omega)
 have HB0_g:=Lib.hid hg
 have HGC:=Lib.hid hgc
 obtain ⟨p5,hp5⟩:∃ p,c.tk k = p:=⟨_,rfl⟩
 have H5:=Lib.hid hp5
 have H5l:Hid (p5 + 1 < ws.length):=Lib.hid (by rw [← hp5];exact hw.tlt hk)
 obtain ⟨LL,hLL⟩:∃ LL,own12 g ⟨nd,n0,th,pth,4,at_,gc,⟨st,j,sn,wv,sv,en,q0,k,q2,q3⟩,gp,ga,lv_,o0,o1,o2,o3⟩ = LL:=⟨_,rfl⟩
 have HGL:Hid (g ∈ LL):=Lib.hid (by rw [← hLL];exact List.mem_cons_self)
 have HCL:Hid (gc ∈ LL):=Lib.hid (by rw [← hLL];exact List.mem_cons_of_mem _ List.mem_cons_self)
 obtain ⟨L,T,HLL,HTe,HT,HSG_g,HS0⟩:=st1 hm hB hg (by decide) (by decide)
 have HLW:Hid (∀ k ∈ L,k ∈ LL):=Lib.hid (fun k h=>by rw [HLL.out] at h;rw [List.mem_singleton.1 h];exact HGL.out)
 have HLO:=Lib.hid hLL
 have HNE:Hid (g ≠ gc):=Lib.hid (ne_type hg hgc (by decide))
 have HNL:Hid (gc ∉ L):=Lib.hid (by rw [HLL.out,List.mem_singleton];exact fun e=>HNE.out e.symm)
 have HNG:Hid (gc ∉ [g]):=Lib.hid (by rw [List.mem_singleton];exact fun e=>HNE.out e.symm)
 have HX:Hid (Is11 c w gc ⟨st,j,sn,wv,sv,en,q0,k,q2,q3⟩):=Lib.hid ⟨_,_,_,_,hgc,hP3,hL3⟩
 obtain ⟨t1,tb,ht1⟩:=turn_ok sv 2
 have HT1:=Lib.hid ht1
 obtain ⟨gA,xf,rfl,hx,hne0,HAT⟩:=ints_at (B:=B) (L:=L) HN.out HM1.out.1
 have ne1:=hne0 _ _ _ _ HB0_g.out (by decide)
 have ne2:=Ne.symm ne1
 clear hne0
 obtain ⟨u,hu,hu2⟩:=node_at HR.out hx HM1.out.1
 have HU:=Lib.hid hu2
 have HUX:=Lib.hid hu
 have HTH:Hid (th ≤ 1000):=Lib.hid hi.th
 have HBK:Hid (bodyOk c (wd ws (c.tk k + 1))):=Lib.hid (hi.body rfl k hk rfl)
 have i2:(0:Int) < (m:Int):=by have:=HM1.out.1;omega
 have i3:0 < m:=HM1.out.1
 clear ht1 hu hu2 hx
 clear hc hw hg hgc hm hP hL hN hP3 hL3 hi hk hm0 hp5 hLL hpool hadd hown
 have C_g:=cells_k12 HB0_g.out
 go_enter Try.func44,Try.ntmps44
 go_wp2
 refine ch_b C_g C_g [0,1,2,3,4,5,6,7,8,9,10,11] (fun W1 HWd hHeld=>?_)
 have HS1:=dwS HWd HS0
 have HB1_g:Hid (W1.heap[g]? = some (.cells (k12 c AP cP AL cL nd n0 th (some ⟨gA,0,none⟩) m c2 4 at_ ((some ⟨gc,0,none⟩)) ((bp gp)) ((bp ga)) lv_ o0 o1 o2 o3) 98 (0,0))):=Lib.hid (by rw [← HWd.out];exact HB0_g.out)
 replace C_g:=cells_k12 HB1_g.out
 clear HWd
 iterate 8 refine ch_s ?_
 refine ch_1 fun K hK=>?_
 refine goes_s Try.func55 #[.pointer (some ⟨gc,0,none⟩)] ?_
 refine (ans11 (blk_fr HGC.out HS1.out.fr HNL.out (fun _=>by decide))).mono ?_
 rintro e W2 ⟨rfl,hb'⟩
 refine ⟨_,rfl,?_⟩
 have HS2:=Lib.hid (HS1.out.below hb')
 have HB2_g:=Lib.hid (blk_below HB1_g.out hb')
 replace C_g:=cells_k12 HB2_g.out
 clear hb'
 refine hK.out _ _ C_g ?_;clear hK K hHeld;intro hHeld
 try simp only [Act.put,zq1,zq2,zq3]
 refine ch_s ?_
 refine ch_1 fun K hK=>?_
 refine goes_s Try.func52 #[(cA c AP cP AL cL),.int .i64 k] ?_
 refine (ticket_c HC.out (HP.out.fr HS2.out.fr) (HLi.out.fr HS2.out.fr) (k:=k) (by have:=HK.out;omega)).mono ?_
 rintro e W3 ⟨rfl,hb'⟩
 refine ⟨_,rfl,?_⟩
 have HS3:=Lib.hid (HS2.out.below hb')
 have HB3_g:=Lib.hid (blk_below HB2_g.out hb')
 replace C_g:=cells_k12 HB3_g.out
 rw [H5.out]
 clear hb'
 refine hK.out _ _ C_g ?_;clear hK K hHeld;intro hHeld
 try simp only [Act.put,zq1,zq2,zq3]
 refine ch_s ?_
 refine ch_z ?_
 clear hHeld
 go_wp2_with (first|(go_at_call 62;(with_reducible refine (word11 (blk_fr HGC.out HS3.out.fr HNL.out (fun _=>by decide))).mono ?_);rintro e W4 ⟨rfl,hb'⟩;have HS4:=Lib.hid (HS3.out.below hb');have HB4_g:=Lib.hid (blk_below HB3_g.out hb');replace C_g:=cells_k12 HB4_g.out;clear hb')|(go_at_call 61;(with_reducible refine (breadlineref10_Turn.calls sv 2 t1 tb _ HT1.out).mono ?_);rintro e w' ⟨rfl,⟨dr,rfl⟩⟩;generalize hWd:World.drewN W4 dr = W5 at ⊢;have HWd:=Lib.hid hWd;clear hWd;have HS5:Hid (St B L T w gm ws n W5):=Lib.hid (by rw [← HWd.out];exact HS4.out.drewN dr);have HB5_g:=dwH HWd HB4_g;replace C_g:=cells_k12 HB5_g.out;clear HWd)|(go_at_call 63;(with_reducible refine ((store_z HS5.out.mem hn HLe.out p5 (by have:=H5l.out;omega) t1 _ rfl)).mono ?_);rintro e W6 ⟨rfl,hm',hf'⟩;have HS6:=Lib.hid (HS5.out.acc hm' hf' HT.out);have HB6_g:=Lib.hid (blk_fr HB5_g.out hf' (by simp) (by decide));replace C_g:=cells_k12 HB6_g.out;clear hm' hf'))
 generalize hWd:(World.setCell (World.setCell (World.setCell W6 ⟨g,17,none⟩ (.int .i64 t1)) ⟨g,12,none⟩ (.int .i64 5)) ⟨g,13,none⟩ (.int .i64 0)) = W7 at ⊢
 have HWd:=Lib.hid hWd
 clear hWd
 have HS7:Hid (St B L T w gm (ws.set p5 t1) (n + 1) W7):=Lib.hid (by rw [← HWd.out];exact (HSG_g.out _ _ _ (HSG_g.out _ _ _ (HSG_g.out _ _ _ HS6.out 17 (.int .i64 t1)) 12 (.int .i64 5)) 13 (.int .i64 0)))
 have HB7_g:Hid (W7.heap[g]? = some (.cells (k12 c AP cP AL cL nd n0 th (some ⟨gA,0,none⟩) m c2 5 0 ((some ⟨gc,0,none⟩)) ((bp gp)) ((bp ga)) t1 o0 o1 o2 o3) 98 (0,0))):=Lib.hid (by rw [← HWd.out];exact (blk_set' (blk_set' (blk_set' HB6_g.out 17 (.int .i64 t1) rfl) 12 (.int .i64 5) rfl) 13 (.int .i64 0) rfl))
 replace C_g:=cells_k12 HB7_g.out
 clear HWd
 refine ch_st (fun wS=>wS.cell? ⟨g,0,none⟩ = some (.int .i64 c.th)∧wS.cell? ⟨g,1,none⟩ = some (.int .i64 c.S)∧wS.cell? ⟨g,2,none⟩ = some (.int .i64 c.ga)∧wS.cell? ⟨g,3,none⟩ = some (.int .i64 c.le)∧wS.cell? ⟨g,4,none⟩ = some (.int .i64 c.re)∧wS.cell? ⟨g,5,none⟩ = some (.int .i64 c.ti)∧wS.cell? ⟨g,6,none⟩ = some (.slice AP c.pa.length cP)∧wS.cell? ⟨g,7,none⟩ = some (.slice AL c.li.length cL)∧wS.cell? ⟨g,9,none⟩ = some (.int .i64 n0)∧wS.cell? ⟨g,10,none⟩ = some (.int .i64 th)∧wS.cell? ⟨g,11,none⟩ = some (.slice (some ⟨gA,0,none⟩) m c2)∧wS.cell? ⟨gA,0,none⟩ = some (.int .i64 u)) [22] [0,1,2,3,4,5,6,7,8,9,10,11,12,13,14,15,16,17,18,19,20,21,22] (by kernel_rfl) rfl (⟨C_g.2.1,C_g.2.2.1,C_g.2.2.2.1,C_g.2.2.2.2.1,C_g.2.2.2.2.2.1,C_g.2.2.2.2.2.2.1,C_g.2.2.2.2.2.2.2.1,C_g.2.2.2.2.2.2.2.2.1,C_g.2.2.2.2.2.2.2.2.2.2.1,C_g.2.2.2.2.2.2.2.2.2.2.2.1,C_g.2.2.2.2.2.2.2.2.2.2.2.2.1,(by rw [← HUX.out];exact HAT.out _ HS7.out.fr 0 HM1.out.1)⟩) (fun W8 HWd hHeld=>?_)
 have HS8:=dwS HWd HS7
 have HB8_g:=dwH HWd HB7_g
 replace C_g:=cells_k12 HB8_g.out
 clear HWd
 iterate 19 refine ch_s ?_
 refine ch_1 fun K hK=>?_
 refine goes_s Try.func65 #[(cA c AP cP AL cL),.int .i64 u,.int .i64 n0,.int .i64 th] ?_
 refine (put12 HC.out (HP.out.fr HS8.out.fr) (HLi.out.fr HS8.out.fr) HU.out HTH.out).mono ?_
 rintro e W9 ⟨g2,x0,rfl,hx0,hge,his,hb'⟩
 refine ⟨_,rfl,?_⟩
 have HX0:=Lib.hid hx0
 have HG_g2:Hid (w.heap.size ≤ g2):=Lib.hid (Nat.le_trans HS8.out.fr.size hge)
 have HIS:=Lib.hid his
 clear hx0 hge his
 have HS9:=Lib.hid (HS8.out.below hb')
 have HB9_g:=Lib.hid (blk_below HB8_g.out hb')
 replace C_g:=cells_k12 HB9_g.out
 clear hb'
 refine hK.out _ _ (⟨C_g.2.1,C_g.2.2.1,C_g.2.2.2.1,C_g.2.2.2.2.1,C_g.2.2.2.2.2.1,C_g.2.2.2.2.2.2.1,C_g.2.2.2.2.2.2.2.1,C_g.2.2.2.2.2.2.2.2.1,C_g.2.2.2.2.2.2.2.2.2.2.1,C_g.2.2.2.2.2.2.2.2.2.2.2.1,C_g.2.2.2.2.2.2.2.2.2.2.2.2.1,(by rw [← HUX.out];exact HAT.out _ HS9.out.fr 0 HM1.out.1)⟩) ?_;clear hK K hHeld;intro hHeld
 try simp only [Act.put,zq1,zq2,zq3]
 iterate 2 refine ch_s ?_
 refine ch_last rfl rfl (by kernel_rfl) (by decide) (fun K hK=>?_)
 refine skip_ (by rfl) rfl (by go_simp;first|rfl|exact ⟨rfl,rfl⟩) ?_
 refine hK.out _ _ ?_
 clear hK K
 try simp only [Act.put,zq1,zq2,zq3]
 refine ch_z ?_
 clear hHeld
 go_wp2
 go_ret
 refine ⟨false,⟨nd,n0,th,pth,5,0,gc,⟨st,j,sn,wv,sv,en,q0,k,q2,q3⟩,gp,(some g2),t1,o0,o1,o2,o3⟩,(ws.set p5 t1),_,rfl,⟨⟨AP,cP,AL,cL,_,m,c2,HM0.out,(blk_set' HB9_g.out 16 (.pointer (some ⟨g2,0,none⟩)) rfl),HP.out.fr (HSG_g.out _ _ _ HS9.out 16 (.pointer (some ⟨g2,0,none⟩))).fr,HLi.out.fr (HSG_g.out _ _ _ HS9.out 16 (.pointer (some ⟨g2,0,none⟩))).fr,HN.out.fr (HSG_g.out _ _ _ HS9.out 16 (.pointer (some ⟨g2,0,none⟩))).fr⟩,HX.out.fr (HSG_g.out _ _ _ HS9.out 16 (.pointer (some ⟨g2,0,none⟩))).fr HNL.out,fun h=>absurd (show (5:Int) = 1 from h) (by decide),fun _=>⟨g2,u,_,rfl,HU.out,HIS.out.fr (Fr.refl B true [g] _ |>.setCell hB (.inl (by simp)) HB9_g.out (by decide) _) (by simp;have:=blk_lt HB0_g.out;have:=HG_g2.out;omega),A06.zero HC.out HX0.out⟩⟩,?_,(HSG_g.out _ _ _ HS9.out 16 (.pointer (some ⟨g2,0,none⟩))).mem,(by rw [← H5.out];exact HW.out.set_state HK.out (fun _=>HBK.out)),by omega,Nat.le_refl _,by rw [HLO.out];exact ((HSG_g.out _ _ _ HS9.out 16 (.pointer (some ⟨g2,0,none⟩))).fr.mono id HLW.out),?_⟩
 ·exact A12.mk2 HI.out HM0.out (by simp) HI.out.cl (fun _ _=>HI.out.cl0 (show ¬ (4:Int) = 0 by decide) (show ¬ (4:Int) = 6 by decide)) ⟨by omega,by omega,fun h=>by have:=HM1.out.1;omega,fun h=>by omega⟩ (fun h=>by omega)
 ·intro k' hk';simp only [own12,List.mem_cons,List.mem_append,Option.mem_toList,Option.some.injEq] at hk' ⊢;rcases hk' with h|h|h|h;exact .inl (.inl h);exact .inl (.inr (.inl h));exact .inl (.inr (.inr (.inl h)));exact .inr ⟨h ▸ HG_g2.out,h ▸ (HIS.out.fr (Fr.refl B true [g] _ |>.setCell hB (.inl (by simp)) HB9_g.out (by decide) _) (by simp;have:=blk_lt HB0_g.out;have:=HG_g2.out;omega)).lt⟩
theorem step12_0 {c:Cf} (hc:c.Ok) {B gm g n:Nat} {w:World} {ws:List Int} (hm:MemIs B w gm ws n) (hw:WOk c ws) (hn:n ≤ 1000000) {nd th gc st:Nat} {n0 lv_ o0 o1 o3 j wv sv q0 q1 q3:Int} {o2 sn en q2:Bool} {pth:List Int} {gp ga:Option Nat} (hB:∀ k ∈ own12 g ⟨nd,n0,th,pth,0,0,gc,⟨st,j,sn,wv,sv,en,q0,q1,q2,q3⟩,gp,ga,lv_,o0,o1,o2,o3⟩,B ≤ k) (hg:Is12 c w g ⟨nd,n0,th,pth,0,0,gc,⟨st,j,sn,wv,sv,en,q0,q1,q2,q3⟩,gp,ga,lv_,o0,o1,o2,o3⟩) (hi:A12 c ws ⟨nd,n0,th,pth,0,0,gc,⟨st,j,sn,wv,sv,en,q0,q1,q2,q3⟩,gp,ga,lv_,o0,o1,o2,o3⟩) :
  Calls Try.prog 44 #[.pointer (some ⟨g,0,none⟩),.pointer (some ⟨gm,0,none⟩)] w (P12 c B gm g ⟨nd,n0,th,pth,0,0,gc,⟨st,j,sn,wv,sv,en,q0,q1,q2,q3⟩,gp,ga,lv_,o0,o1,o2,o3⟩ ws n w):=by
 obtain ⟨⟨AP,cP,AL,cL,A2,m,c2,hm0,hg,hP,hL,hN⟩,hgc,hpool,hadd⟩:=hg
 obtain ⟨AP3,cP3,AL3,cL3,hgc,hP3,hL3⟩:=hgc
 have hown:=hB
 obtain ⟨k,hk,hok⟩:=hi.cl.o
 dsimp only at hm0 hg hgc hN hpool hadd hok
 subst hok
 have hB:B ≤ g:=hown g List.mem_cons_self
 have HC:=Lib.hid hc
 have HW:=Lib.hid hw
 have HP:=Lib.hid hP
 have HLi:=Lib.hid hL
 have HN:=Lib.hid hN
 have HP3:=Lib.hid hP3
 have HL3:=Lib.hid hL3
 have HLe:=Lib.hid (hw.le hc)
 have HI:=Lib.hid hi
 have HK:=Lib.hid hk
 have HM0:=Lib.hid hm0
 have HR:Hid (pth.length = m∧nodesOk c pth):=Lib.hid ⟨hm0,hi.p3⟩
 have HM1:Hid (0 < m∧m ≤ 100):=Lib.hid (by have:=hi.p1;have:=hi.p2;dsimp only at *;omega)
 have HB0_g:=Lib.hid hg
 have HGC:=Lib.hid hgc
 obtain ⟨p5,hp5⟩:∃ p,c.tk k = p:=⟨_,rfl⟩
 have H5:=Lib.hid hp5
 have H5l:Hid (p5 + 1 < ws.length):=Lib.hid (by rw [← hp5];exact hw.tlt hk)
 obtain ⟨LL,hLL⟩:∃ LL,own12 g ⟨nd,n0,th,pth,0,0,gc,⟨st,j,sn,wv,sv,en,q0,k,q2,q3⟩,gp,ga,lv_,o0,o1,o2,o3⟩ = LL:=⟨_,rfl⟩
 have HGL:Hid (g ∈ LL):=Lib.hid (by rw [← hLL];exact List.mem_cons_self)
 have HCL:Hid (gc ∈ LL):=Lib.hid (by rw [← hLL];exact List.mem_cons_of_mem _ List.mem_cons_self)
 obtain ⟨L,T,HLL,HTe,HT,HSG_g,HS0⟩:=st1 hm hB hg (by decide) (by decide)
 have HLW:Hid (∀ k ∈ L,k ∈ LL):=Lib.hid (fun k h=>by rw [HLL.out] at h;rw [List.mem_singleton.1 h];exact HGL.out)
 have HLO:=Lib.hid hLL
 have HNE:Hid (g ≠ gc):=Lib.hid (ne_type hg hgc (by decide))
 have HNL:Hid (gc ∉ L):=Lib.hid (by rw [HLL.out,List.mem_singleton];exact fun e=>HNE.out e.symm)
 have HNG:Hid (gc ∉ [g]):=Lib.hid (by rw [List.mem_singleton];exact fun e=>HNE.out e.symm)
 have HX:Hid (Is11 c w gc ⟨st,j,sn,wv,sv,en,q0,k,q2,q3⟩):=Lib.hid ⟨_,_,_,_,hgc,hP3,hL3⟩
 have HBC:Hid (B ≤ gc):=Lib.hid (hown gc (by simp [own12]))
 have HLk:Hid (∀ k' ∈ [gc],k' ∉ T.map (·.1)∧(k' ∈ LL ∨ w.heap.size ≤ k')):=Lib.hid (fun k' h=>by rw [List.mem_singleton.1 h];exact ⟨by rw [HTe.out];simpa using fun e=>HNE.out e.symm,.inl HCL.out⟩)
 have HGN:Hid (g ∉ [gc]):=Lib.hid (by simpa using HNE.out)
 clear hc hw hg hgc hm hP hL hN hP3 hL3 hi hk hm0 hp5 hLL hpool hadd hown
 have C_g:=cells_k12 HB0_g.out
 go_enter Try.func44,Try.ntmps44
 go_wp2
 refine ch_b C_g C_g [0,1,2,3,4,5,6,7,8,9,10,11] (fun W1 HWd hHeld=>?_)
 have HS1:=dwS HWd HS0
 have HB1_g:Hid (W1.heap[g]? = some (.cells (k12 c AP cP AL cL nd n0 th A2 m c2 0 0 ((some ⟨gc,0,none⟩)) ((bp gp)) ((bp ga)) lv_ o0 o1 o2 o3) 98 (0,0))):=Lib.hid (by rw [← HWd.out];exact HB0_g.out)
 replace C_g:=cells_k12 HB1_g.out
 clear HWd
 iterate 8 refine ch_s ?_
 refine ch_1 fun K hK=>?_
 refine goes_s Try.func55 #[.pointer (some ⟨gc,0,none⟩)] ?_
 refine (ans11 (blk_fr HGC.out HS1.out.fr HNL.out (fun _=>by decide))).mono ?_
 rintro e W2 ⟨rfl,hb'⟩
 refine ⟨_,rfl,?_⟩
 have HS2:=Lib.hid (HS1.out.below hb')
 have HB2_g:=Lib.hid (blk_below HB1_g.out hb')
 replace C_g:=cells_k12 HB2_g.out
 clear hb'
 refine hK.out _ _ C_g ?_;clear hK K hHeld;intro hHeld
 try simp only [Act.put,zq1,zq2,zq3]
 refine ch_s ?_
 refine ch_1 fun K hK=>?_
 refine goes_s Try.func52 #[(cA c AP cP AL cL),.int .i64 k] ?_
 refine (ticket_c HC.out (HP.out.fr HS2.out.fr) (HLi.out.fr HS2.out.fr) (k:=k) (by have:=HK.out;omega)).mono ?_
 rintro e W3 ⟨rfl,hb'⟩
 refine ⟨_,rfl,?_⟩
 have HS3:=Lib.hid (HS2.out.below hb')
 have HB3_g:=Lib.hid (blk_below HB2_g.out hb')
 replace C_g:=cells_k12 HB3_g.out
 rw [H5.out]
 clear hb'
 refine hK.out _ _ C_g ?_;clear hK K hHeld;intro hHeld
 try simp only [Act.put,zq1,zq2,zq3]
 refine ch_s ?_
 refine ch_z ?_
 clear hHeld
 go_wp2_with (first|(go_at_call 56;(with_reducible refine (step11 HC.out HS3.out.mem HW.out hn HBC.out (HX.out.fr HS3.out.fr HNL.out) HI.out.cl).mono ?_);rintro e W4 ⟨b1,x1,ws1,n1,rfl,his,hai,hm',hwt,hn1,hn2,hf'⟩;have HS4:=Lib.hid ((HS3.out.wide HLW.out).call hm' hf' HLk.out HT.out);have HB4_g:Hid (W4.heap[g]? = some (.cells (k12 c AP cP AL cL nd n0 th A2 m c2 0 0 ((some ⟨gc,0,none⟩)) ((bp gp)) ((bp ga)) lv_ o0 o1 o2 o3) 98 (0,0))):=Lib.hid (blk_fr HB3_g.out hf' HGN.out (by decide));replace C_g:=cells_k12 HB4_g.out;obtain ⟨st1,j1,sn1,wv1,sv1,en1,u0,u1,u2,u3⟩:=x1;have HAI1:=Lib.hid hai;have HWT:=Lib.hid hwt;have HN1:=Lib.hid hn1;have HN2:=Lib.hid hn2;have HIS1:=Lib.hid his;obtain ⟨AP4,cP4,AL4,cL4,hgc1,hP4,hL4⟩:=his;have HGC1:=Lib.hid hgc1;clear hgc1 hP4 hL4;clear hai hwt hn1 hn2;clear hm' hf')|(go_at_call 57;(with_reducible refine (claimed_any HS4.out.mem hB HB4_g.out HGC1.out HC.out (HP.out.fr HS4.out.fr) (HLi.out.fr HS4.out.fr) (HN.out.fr HS4.out.fr) HR.out (by decide) (by have:=HM1.out;omega)).mono ?_);rintro e W5 ⟨rfl,ph',gp',p0,p1,p2,p3,hg',hor,hm',hf'⟩;have HS5:=Lib.hid (HS4.out.turn hm' hf' (fun p hp hk=>by rw [HTe.out] at hp;rw [List.mem_singleton.1 hp];exact ⟨_,hg'⟩) (fun k hk=>.inl (by rw [List.mem_singleton.1 hk];exact HGL.out)) HT.out);have HB5_g:Hid (W5.heap[g]? = some (.cells (k12 c AP cP AL cL nd n0 th A2 m c2 ph' 0 ((some ⟨gc,0,none⟩)) ((bp gp')) ((bp ga)) lv_ p0 p1 p2 p3) 98 (0,0))):=Lib.hid (hg');replace C_g:=cells_k12 HB5_g.out;have HOR:=Lib.hid hor;have HX2:=Lib.hid (HIS1.out.fr hf' HNG.out);have HSZ:=Lib.hid HS4.out.fr.size;clear hor;clear hg' hm' hf'))
 ·go_ret
  refine ⟨_,⟨nd,n0,th,pth,ph',0,gc,⟨st1,j1,sn1,wv1,sv1,en1,u0,u1,u2,u3⟩,gp',ga,lv_,p0,p1,p2,p3⟩,ws1,_,rfl,⟨⟨AP,cP,AL,cL,_,m,c2,HM0.out,HB5_g.out,HP.out.fr HS5.out.fr,HLi.out.fr HS5.out.fr,HN.out.fr HS5.out.fr⟩,HX2.out,fun e=>by rcases HOR.out with ⟨h,_⟩|⟨_,hq,kk,e1,v,s,hge,hv,hs,hi8⟩;exact absurd (h.symm.trans e) (by decide);exact ⟨kk,v,s,_,e1,hv,hs,hi8,.inl rfl⟩,fun e=>by rcases HOR.out with ⟨h,_⟩|⟨h,_⟩;exact absurd (h.symm.trans e) (by decide);exact absurd (h.symm.trans e) (by decide)⟩,?_,HS5.out.mem,HWT.out,HN1.out,HN2.out,by rw [HLO.out];exact HS5.out.fr,?_⟩
  ·exact A12.mk2 HI.out HM0.out (by rcases HOR.out with ⟨h,_⟩|⟨h,_⟩ <;> omega) HAI1.out (fun _ h6=>by rcases HOR.out with ⟨h,_⟩|⟨_,hq,_⟩;exact absurd h h6;exact hq) ⟨by omega,by omega,fun _=>by have:=HM1.out.1;omega,fun _=>rfl⟩ (fun h4=>by rcases HOR.out with ⟨h,_⟩|⟨h,_⟩ <;> omega)
  ·intro k' hk';rcases HOR.out with ⟨_,h⟩|⟨_,_,kk,h,v,s,hge,_,_,hi8⟩ <;> subst h;exact .inl hk';simp only [own12,List.mem_cons,List.mem_append,Option.mem_toList,Option.some.injEq] at hk' ⊢;rcases hk' with h|h|h|h;exact .inl (.inl h);exact .inl (.inr (.inl h));exact .inr ⟨h ▸ Nat.le_trans HSZ.out hge,h ▸ hi8.lt⟩;exact .inl (.inr (.inr (.inr h)))
 ·go_ret
  refine ⟨_,⟨nd,n0,th,pth,0,0,gc,⟨st1,j1,sn1,wv1,sv1,en1,u0,u1,u2,u3⟩,gp,ga,lv_,o0,o1,o2,o3⟩,ws1,_,rfl,⟨⟨AP,cP,AL,cL,_,m,c2,HM0.out,HB4_g.out,HP.out.fr HS4.out.fr,HLi.out.fr HS4.out.fr,HN.out.fr HS4.out.fr⟩,HIS1.out,fun h=>absurd (show (0:Int) = 1 from h) (by decide),fun h=>absurd (show (0:Int) = 5 from h) (by decide)⟩,?_,HS4.out.mem,HWT.out,HN1.out,HN2.out,by rw [HLO.out];exact HS4.out.fr,?_⟩
  ·exact A12.mk2 HI.out HM0.out (by simp) HAI1.out (fun h=>absurd rfl h) ⟨by omega,by omega,fun h=>by omega,fun _=>rfl⟩ (fun h=>by omega)
  ·exact fun k' hk'=>.inl hk'
theorem step12_1 {c:Cf} (hc:c.Ok) {B gm g n:Nat} {w:World} {ws:List Int} (hm:MemIs B w gm ws n) (hw:WOk c ws) (hn:n ≤ 1000000) {nd th gc st:Nat} {n0 lv_ o0 o1 o3 j wv sv q0 q1 q3 at_:Int} {o2 sn en q2:Bool} {pth:List Int} {ga:Option Nat} {gk:Nat} (hB:∀ k ∈ own12 g ⟨nd,n0,th,pth,1,at_,gc,⟨st,j,sn,wv,sv,en,q0,q1,q2,q3⟩,(some gk),ga,lv_,o0,o1,o2,o3⟩,B ≤ k) (hg:Is12 c w g ⟨nd,n0,th,pth,1,at_,gc,⟨st,j,sn,wv,sv,en,q0,q1,q2,q3⟩,(some gk),ga,lv_,o0,o1,o2,o3⟩) (hi:A12 c ws ⟨nd,n0,th,pth,1,at_,gc,⟨st,j,sn,wv,sv,en,q0,q1,q2,q3⟩,(some gk),ga,lv_,o0,o1,o2,o3⟩) {v s:Nat} {xp:S08} (hv:v < c.N) (hs:s < c.S) (hi8:Is08 c v s w gk xp) (ha8:A08 xp) :
  Calls Try.prog 44 #[.pointer (some ⟨g,0,none⟩),.pointer (some ⟨gm,0,none⟩)] w (P12 c B gm g ⟨nd,n0,th,pth,1,at_,gc,⟨st,j,sn,wv,sv,en,q0,q1,q2,q3⟩,(some gk),ga,lv_,o0,o1,o2,o3⟩ ws n w):=by
 obtain ⟨⟨AP,cP,AL,cL,A2,m,c2,hm0,hg,hP,hL,hN⟩,hgc,hpool,hadd⟩:=hg
 obtain ⟨AP3,cP3,AL3,cL3,hgc,hP3,hL3⟩:=hgc
 have hown:=hB
 obtain ⟨k,hk,hok⟩:=hi.cl.o
 dsimp only at hm0 hg hgc hN hpool hadd hok
 subst hok
 have hB:B ≤ g:=hown g List.mem_cons_self
 have HC:=Lib.hid hc
 have HW:=Lib.hid hw
 have HP:=Lib.hid hP
 have HLi:=Lib.hid hL
 have HN:=Lib.hid hN
 have HP3:=Lib.hid hP3
 have HL3:=Lib.hid hL3
 have HLe:=Lib.hid (hw.le hc)
 have HI:=Lib.hid hi
 have HK:=Lib.hid hk
 have HM0:=Lib.hid hm0
 have HR:Hid (pth.length = m∧nodesOk c pth):=Lib.hid ⟨hm0,hi.p3⟩
 have HM1:Hid (0 < m∧m ≤ 100):=Lib.hid (by have:=hi.p1;have:=hi.p2;dsimp only at *;omega)
 have HB0_g:=Lib.hid hg
 have HGC:=Lib.hid hgc
 obtain ⟨p5,hp5⟩:∃ p,c.tk k = p:=⟨_,rfl⟩
 have H5:=Lib.hid hp5
 have H5l:Hid (p5 + 1 < ws.length):=Lib.hid (by rw [← hp5];exact hw.tlt hk)
 obtain ⟨LL,hLL⟩:∃ LL,own12 g ⟨nd,n0,th,pth,1,at_,gc,⟨st,j,sn,wv,sv,en,q0,k,q2,q3⟩,(some gk),ga,lv_,o0,o1,o2,o3⟩ = LL:=⟨_,rfl⟩
 have HGL:Hid (g ∈ LL):=Lib.hid (by rw [← hLL];exact List.mem_cons_self)
 have HCL:Hid (gc ∈ LL):=Lib.hid (by rw [← hLL];exact List.mem_cons_of_mem _ List.mem_cons_self)
 obtain ⟨L,T,HLL,HTe,HT,HSG_g,HS0⟩:=st1 hm hB hg (by decide) (by decide)
 have HLW:Hid (∀ k ∈ L,k ∈ LL):=Lib.hid (fun k h=>by rw [HLL.out] at h;rw [List.mem_singleton.1 h];exact HGL.out)
 have HLO:=Lib.hid hLL
 have HNE:Hid (g ≠ gc):=Lib.hid (ne_type hg hgc (by decide))
 have HNL:Hid (gc ∉ L):=Lib.hid (by rw [HLL.out,List.mem_singleton];exact fun e=>HNE.out e.symm)
 have HNG:Hid (gc ∉ [g]):=Lib.hid (by rw [List.mem_singleton];exact fun e=>HNE.out e.symm)
 have HX:Hid (Is11 c w gc ⟨st,j,sn,wv,sv,en,q0,k,q2,q3⟩):=Lib.hid ⟨_,_,_,_,hgc,hP3,hL3⟩
 replace HB0_g:Hid (w.heap[g]? = some (.cells (k12 c AP cP AL cL nd n0 th A2 m c2 1 at_ ((some ⟨gc,0,none⟩)) ((some ⟨gk,0,none⟩)) ((bp ga)) lv_ o0 o1 o2 o3) 98 (0,0))):=HB0_g
 have HBC:Hid (B ≤ gk):=Lib.hid (hown gk (by simp [own12]))
 have HI8:=Lib.hid hi8
 have HA8:=Lib.hid ha8
 have HV:=Lib.hid hv
 have HSS:=Lib.hid hs
 obtain ⟨AP5,cP5,AL5,cL5,hgk,hP5,hL5⟩:=hi8
 have HNK:Hid (g ≠ gk):=Lib.hid (ne_type hg hgk (by decide))
 have HNCK:Hid (gc ∉ [gk]):=Lib.hid (by rw [List.mem_singleton];exact ne_type hgc hgk (by decide))
 have HNKL:Hid (gk ∉ L):=Lib.hid (by rw [HLL.out,List.mem_singleton];exact fun e=>HNK.out e.symm)
 have HNKG:Hid (gk ∉ [g]):=Lib.hid (by rw [List.mem_singleton];exact fun e=>HNK.out e.symm)
 have HLk:Hid (∀ k' ∈ [gk],k' ∉ T.map (·.1)∧(k' ∈ LL ∨ w.heap.size ≤ k')):=Lib.hid (fun k' h=>by rw [List.mem_singleton.1 h];exact ⟨by rw [HTe.out];simpa using fun e=>HNK.out e.symm,.inl (by rw [← hLL];simp [own12])⟩)
 have HGN:Hid (g ∉ [gk]):=Lib.hid (by simpa using HNK.out)
 have HAT:Hid (0 ≤ at_∧at_ < m):=Lib.hid (by have h1:=hi.at0;have h2:=hi.at1 (.inl rfl);dsimp only at h1 h2;omega)
 clear hv hs hgk hP5 hL5 ha8
 clear hc hw hg hgc hm hP hL hN hP3 hL3 hi hk hm0 hp5 hLL hpool hadd hown
 have C_g:=cells_k12 HB0_g.out
 go_enter Try.func44,Try.ntmps44
 go_wp2
 refine ch_b C_g C_g [0,1,2,3,4,5,6,7,8,9,10,11] (fun W1 HWd hHeld=>?_)
 have HS1:=dwS HWd HS0
 have HB1_g:Hid (W1.heap[g]? = some (.cells (k12 c AP cP AL cL nd n0 th A2 m c2 1 at_ ((some ⟨gc,0,none⟩)) ((some ⟨gk,0,none⟩)) ((bp ga)) lv_ o0 o1 o2 o3) 98 (0,0))):=Lib.hid (by rw [← HWd.out];exact HB0_g.out)
 replace C_g:=cells_k12 HB1_g.out
 clear HWd
 iterate 8 refine ch_s ?_
 refine ch_1 fun K hK=>?_
 refine goes_s Try.func55 #[.pointer (some ⟨gc,0,none⟩)] ?_
 refine (ans11 (blk_fr HGC.out HS1.out.fr HNL.out (fun _=>by decide))).mono ?_
 rintro e W2 ⟨rfl,hb'⟩
 refine ⟨_,rfl,?_⟩
 have HS2:=Lib.hid (HS1.out.below hb')
 have HB2_g:=Lib.hid (blk_below HB1_g.out hb')
 replace C_g:=cells_k12 HB2_g.out
 clear hb'
 refine hK.out _ _ C_g ?_;clear hK K hHeld;intro hHeld
 try simp only [Act.put,zq1,zq2,zq3]
 refine ch_s ?_
 refine ch_1 fun K hK=>?_
 refine goes_s Try.func52 #[(cA c AP cP AL cL),.int .i64 k] ?_
 refine (ticket_c HC.out (HP.out.fr HS2.out.fr) (HLi.out.fr HS2.out.fr) (k:=k) (by have:=HK.out;omega)).mono ?_
 rintro e W3 ⟨rfl,hb'⟩
 refine ⟨_,rfl,?_⟩
 have HS3:=Lib.hid (HS2.out.below hb')
 have HB3_g:=Lib.hid (blk_below HB2_g.out hb')
 replace C_g:=cells_k12 HB3_g.out
 rw [H5.out]
 clear hb'
 refine hK.out _ _ C_g ?_;clear hK K hHeld;intro hHeld
 try simp only [Act.put,zq1,zq2,zq3]
 refine ch_s ?_
 refine ch_z ?_
 clear hHeld
 go_wp2_with (first|(go_at_call 58;(with_reducible refine (step08 HC.out HV.out HSS.out HS3.out.mem HW.out hn HBC.out (HI8.out.fr HS3.out.fr HNKL.out) HA8.out).mono ?_);rintro e W4 ⟨b1,x1,ws1,n1,rfl,his,hai,hm',hwt,hn1,hn2,hf'⟩;have HS4:=Lib.hid ((HS3.out.wide HLW.out).call hm' hf' HLk.out HT.out);have HB4_g:Hid (W4.heap[g]? = some (.cells (k12 c AP cP AL cL nd n0 th A2 m c2 1 at_ ((some ⟨gc,0,none⟩)) ((some ⟨gk,0,none⟩)) ((bp ga)) lv_ o0 o1 o2 o3) 98 (0,0))):=Lib.hid (blk_fr HB3_g.out hf' HGN.out (by decide));replace C_g:=cells_k12 HB4_g.out;have HX1:=Lib.hid ((HX.out.fr HS3.out.fr HNL.out).fr hf' HNCK.out);obtain ⟨n1',At1,l1,a1,e1,u0,u1,u2,u3⟩:=x1;have HAI1:=Lib.hid hai;have HWT:=Lib.hid hwt;have HN1:=Lib.hid hn1;have HN2:=Lib.hid hn2;have HIS1:=Lib.hid his;obtain ⟨AP4,cP4,AL4,cL4,hgk1,hP4,hL4⟩:=his;have HGK1:=Lib.hid hgk1;clear hgk1 hP4 hL4;clear hai hwt hn1 hn2;clear hm' hf')|(go_at_call 59;(with_reducible refine (pooled_any HS4.out.mem hB HB4_g.out HGK1.out HC.out (HP.out.fr HS4.out.fr) (HLi.out.fr HS4.out.fr) (HN.out.fr HS4.out.fr) HR.out HAT.out.1 HAT.out.2 HM1.out.2).mono ?_);rintro e W5 ⟨rfl,ph',at',gp',p0,p1,p2,p3,hg',hor,hm',hf'⟩;have HS5:=Lib.hid (HS4.out.turn hm' hf' (fun p hp hk=>by rw [HTe.out] at hp;rw [List.mem_singleton.1 hp];exact ⟨_,hg'⟩) (fun k hk=>.inl (by rw [List.mem_singleton.1 hk];exact HGL.out)) HT.out);have HB5_g:Hid (W5.heap[g]? = some (.cells (k12 c AP cP AL cL nd n0 th A2 m c2 ph' at' ((some ⟨gc,0,none⟩)) ((bp gp')) ((bp ga)) lv_ p0 p1 p2 p3) 98 (0,0))):=Lib.hid (hg');replace C_g:=cells_k12 HB5_g.out;have HOR:=Lib.hid hor;have HX2:=Lib.hid (HX1.out.fr hf' HNG.out);have HSZ:=Lib.hid HS4.out.fr.size;clear hor;clear hg' hm' hf'))
 ·go_ret
  refine ⟨_,⟨nd,n0,th,pth,ph',at',gc,⟨st,j,sn,wv,sv,en,q0,k,q2,q3⟩,gp',ga,lv_,p0,p1,p2,p3⟩,ws1,_,rfl,⟨⟨AP,cP,AL,cL,_,m,c2,HM0.out,HB5_g.out,HP.out.fr HS5.out.fr,HLi.out.fr HS5.out.fr,HN.out.fr HS5.out.fr⟩,HX2.out,fun e=>by rcases HOR.out with ⟨h,ha,hb⟩|⟨h,ha,hb⟩|⟨h,ha,hb,kk,e1,v',s',hge,hv,hs,hi8⟩;exact absurd (h.symm.trans e) (by decide);exact absurd (h.symm.trans e) (by decide);exact ⟨kk,v',s',_,e1,hv,hs,hi8,.inl rfl⟩,fun e=>by rcases HOR.out with ⟨h,ha,hb⟩|⟨h,ha,hb⟩|⟨h,ha,hb,kk,e1,v',s',hge,hv,hs,hi8⟩ <;> exact absurd (h.symm.trans e) (by decide)⟩,?_,HS5.out.mem,HWT.out,HN1.out,HN2.out,by rw [HLO.out];exact HS5.out.fr,?_⟩
  ·exact A12.mk2 HI.out HM0.out (by rcases HOR.out with ⟨h,ha,hb⟩|⟨h,ha,hb⟩|⟨h,ha,hb,kk,e1,v',s',hge,hv,hs,hi8⟩ <;> omega) HI.out.cl (fun _ _=>HI.out.cl0 (show ¬ (1:Int) = 0 by decide) (show ¬ (1:Int) = 6 by decide)) (by have h0:=HAT.out;rcases HOR.out with ⟨h,ha,hb⟩|⟨h,ha,hb⟩|⟨h,ha,hb,kk,e1,v',s',hge,hv,hs,hi8⟩ <;> refine ⟨by omega,by omega,fun _=>by omega,fun _=>by omega⟩) (fun h4=>by rcases HOR.out with ⟨h,ha,hb⟩|⟨h,ha,hb⟩|⟨h,ha,hb,kk,e1,v',s',hge,hv,hs,hi8⟩ <;> omega)
  ·intro k' hk';rcases HOR.out with ⟨_,_,h⟩|⟨_,_,h⟩|⟨_,_,_,kk,h,v',s',hge,_,_,hi8⟩ <;> subst h;exact .inl hk';exact .inl hk';simp only [own12,List.mem_cons,List.mem_append,Option.mem_toList,Option.some.injEq] at hk' ⊢;rcases hk' with h|h|h|h;exact .inl (.inl h);exact .inl (.inr (.inl h));exact .inr ⟨h ▸ Nat.le_trans HSZ.out hge,h ▸ hi8.lt⟩;exact .inl (.inr (.inr (.inr h)))
 ·go_ret
  refine ⟨_,⟨nd,n0,th,pth,1,at_,gc,⟨st,j,sn,wv,sv,en,q0,k,q2,q3⟩,(some gk),ga,lv_,o0,o1,o2,o3⟩,ws1,_,rfl,⟨⟨AP,cP,AL,cL,_,m,c2,HM0.out,HB4_g.out,HP.out.fr HS4.out.fr,HLi.out.fr HS4.out.fr,HN.out.fr HS4.out.fr⟩,HX1.out,fun _=>⟨gk,v,s,_,rfl,HV.out,HSS.out,HIS1.out,HAI1.out⟩,fun h=>absurd (show (1:Int) = 5 from h) (by decide)⟩,?_,HS4.out.mem,HWT.out,HN1.out,HN2.out,by rw [HLO.out];exact HS4.out.fr,?_⟩
  ·exact A12.mk2 HI.out HM0.out (by simp) HI.out.cl (fun _ _=>HI.out.cl0 (show ¬ (1:Int) = 0 by decide) (show ¬ (1:Int) = 6 by decide)) ⟨HAT.out.1,by have:=HAT.out;omega,fun _=>HAT.out.2,fun h=>by omega⟩ (fun h=>by omega)
  ·exact fun k' hk'=>.inl hk'
theorem step12_5 {c:Cf} (hc:c.Ok) {B gm g n:Nat} {w:World} {ws:List Int} (hm:MemIs B w gm ws n) (hw:WOk c ws) (hn:n ≤ 1000000) {nd th gc st:Nat} {n0 lv_ o0 o1 o3 j wv sv q0 q1 q3 at_:Int} {o2 sn en q2:Bool} {pth:List Int} {gp:Option Nat} {gk:Nat} (hB:∀ k ∈ own12 g ⟨nd,n0,th,pth,5,at_,gc,⟨st,j,sn,wv,sv,en,q0,q1,q2,q3⟩,gp,(some gk),lv_,o0,o1,o2,o3⟩,B ≤ k) (hg:Is12 c w g ⟨nd,n0,th,pth,5,at_,gc,⟨st,j,sn,wv,sv,en,q0,q1,q2,q3⟩,gp,(some gk),lv_,o0,o1,o2,o3⟩) (hi:A12 c ws ⟨nd,n0,th,pth,5,at_,gc,⟨st,j,sn,wv,sv,en,q0,q1,q2,q3⟩,gp,(some gk),lv_,o0,o1,o2,o3⟩) {v:Nat} {xa:S06} (hv:v < c.N) (hi6:Is06 c v w gk xa) (ha6:A06 c xa) :
  Calls Try.prog 44 #[.pointer (some ⟨g,0,none⟩),.pointer (some ⟨gm,0,none⟩)] w (P12 c B gm g ⟨nd,n0,th,pth,5,at_,gc,⟨st,j,sn,wv,sv,en,q0,q1,q2,q3⟩,gp,(some gk),lv_,o0,o1,o2,o3⟩ ws n w):=by
 obtain ⟨⟨AP,cP,AL,cL,A2,m,c2,hm0,hg,hP,hL,hN⟩,hgc,hpool,hadd⟩:=hg
 obtain ⟨AP3,cP3,AL3,cL3,hgc,hP3,hL3⟩:=hgc
 have hown:=hB
 obtain ⟨k,hk,hok⟩:=hi.cl.o
 dsimp only at hm0 hg hgc hN hpool hadd hok
 subst hok
 have hB:B ≤ g:=hown g List.mem_cons_self
 have HC:=Lib.hid hc
 have HW:=Lib.hid hw
 have HP:=Lib.hid hP
 have HLi:=Lib.hid hL
 have HN:=Lib.hid hN
 have HP3:=Lib.hid hP3
 have HL3:=Lib.hid hL3
 have HLe:=Lib.hid (hw.le hc)
 have HI:=Lib.hid hi
 have HK:=Lib.hid hk
 have HM0:=Lib.hid hm0
 have HR:Hid (pth.length = m∧nodesOk c pth):=Lib.hid ⟨hm0,hi.p3⟩
 have HM1:Hid (0 < m∧m ≤ 100):=Lib.hid (by have:=hi.p1;have:=hi.p2;dsimp only at *;omega)
 have HB0_g:=Lib.hid hg
 have HGC:=Lib.hid hgc
 obtain ⟨p5,hp5⟩:∃ p,c.tk k = p:=⟨_,rfl⟩
 have H5:=Lib.hid hp5
 have H5l:Hid (p5 + 1 < ws.length):=Lib.hid (by rw [← hp5];exact hw.tlt hk)
 obtain ⟨LL,hLL⟩:∃ LL,own12 g ⟨nd,n0,th,pth,5,at_,gc,⟨st,j,sn,wv,sv,en,q0,k,q2,q3⟩,gp,(some gk),lv_,o0,o1,o2,o3⟩ = LL:=⟨_,rfl⟩
 have HGL:Hid (g ∈ LL):=Lib.hid (by rw [← hLL];exact List.mem_cons_self)
 have HCL:Hid (gc ∈ LL):=Lib.hid (by rw [← hLL];exact List.mem_cons_of_mem _ List.mem_cons_self)
 obtain ⟨L,T,HLL,HTe,HT,HSG_g,HS0⟩:=st1 hm hB hg (by decide) (by decide)
 have HLW:Hid (∀ k ∈ L,k ∈ LL):=Lib.hid (fun k h=>by rw [HLL.out] at h;rw [List.mem_singleton.1 h];exact HGL.out)
 have HLO:=Lib.hid hLL
 have HNE:Hid (g ≠ gc):=Lib.hid (ne_type hg hgc (by decide))
 have HNL:Hid (gc ∉ L):=Lib.hid (by rw [HLL.out,List.mem_singleton];exact fun e=>HNE.out e.symm)
 have HNG:Hid (gc ∉ [g]):=Lib.hid (by rw [List.mem_singleton];exact fun e=>HNE.out e.symm)
 have HX:Hid (Is11 c w gc ⟨st,j,sn,wv,sv,en,q0,k,q2,q3⟩):=Lib.hid ⟨_,_,_,_,hgc,hP3,hL3⟩
 replace HB0_g:Hid (w.heap[g]? = some (.cells (k12 c AP cP AL cL nd n0 th A2 m c2 5 at_ ((some ⟨gc,0,none⟩)) ((bp gp)) ((some ⟨gk,0,none⟩)) lv_ o0 o1 o2 o3) 98 (0,0))):=HB0_g
 have HBC:Hid (B ≤ gk):=Lib.hid (hown gk (by simp [own12]))
 have HI8:=Lib.hid hi6
 have HA8:=Lib.hid ha6
 have HV:=Lib.hid hv
 have hgk:=hi6
 have HNK:Hid (g ≠ gk):=Lib.hid (ne_type hg hgk (by decide))
 have HNCK:Hid (gc ∉ [gk]):=Lib.hid (by rw [List.mem_singleton];exact ne_type hgc hgk (by decide))
 have HNKL:Hid (gk ∉ L):=Lib.hid (by rw [HLL.out,List.mem_singleton];exact fun e=>HNK.out e.symm)
 have HLk:Hid (∀ k' ∈ [gk],k' ∉ T.map (·.1)∧(k' ∈ LL ∨ w.heap.size ≤ k')):=Lib.hid (fun k' h=>by rw [List.mem_singleton.1 h];exact ⟨by rw [HTe.out];simpa using fun e=>HNK.out e.symm,.inl (by rw [← hLL];simp [own12])⟩)
 have HGN:Hid (g ∉ [gk]):=Lib.hid (by simpa using HNK.out)
 have HAT:Hid (0 ≤ at_∧at_ < m):=Lib.hid (by have h1:=hi.at0;have h2:=hi.at1 (.inr rfl);dsimp only at h1 h2;omega)
 have HTH:Hid (th ≤ 1000):=Lib.hid hi.th
 clear hv hgk hi6 ha6
 clear hc hw hg hgc hm hP hL hN hP3 hL3 hi hk hm0 hp5 hLL hpool hadd hown
 have C_g:=cells_k12 HB0_g.out
 go_enter Try.func44,Try.ntmps44
 go_wp2
 refine ch_b C_g C_g [0,1,2,3,4,5,6,7,8,9,10,11] (fun W1 HWd hHeld=>?_)
 have HS1:=dwS HWd HS0
 have HB1_g:Hid (W1.heap[g]? = some (.cells (k12 c AP cP AL cL nd n0 th A2 m c2 5 at_ ((some ⟨gc,0,none⟩)) ((bp gp)) ((some ⟨gk,0,none⟩)) lv_ o0 o1 o2 o3) 98 (0,0))):=Lib.hid (by rw [← HWd.out];exact HB0_g.out)
 replace C_g:=cells_k12 HB1_g.out
 clear HWd
 iterate 8 refine ch_s ?_
 refine ch_1 fun K hK=>?_
 refine goes_s Try.func55 #[.pointer (some ⟨gc,0,none⟩)] ?_
 refine (ans11 (blk_fr HGC.out HS1.out.fr HNL.out (fun _=>by decide))).mono ?_
 rintro e W2 ⟨rfl,hb'⟩
 refine ⟨_,rfl,?_⟩
 have HS2:=Lib.hid (HS1.out.below hb')
 have HB2_g:=Lib.hid (blk_below HB1_g.out hb')
 replace C_g:=cells_k12 HB2_g.out
 clear hb'
 refine hK.out _ _ C_g ?_;clear hK K hHeld;intro hHeld
 try simp only [Act.put,zq1,zq2,zq3]
 refine ch_s ?_
 refine ch_1 fun K hK=>?_
 refine goes_s Try.func52 #[(cA c AP cP AL cL),.int .i64 k] ?_
 refine (ticket_c HC.out (HP.out.fr HS2.out.fr) (HLi.out.fr HS2.out.fr) (k:=k) (by have:=HK.out;omega)).mono ?_
 rintro e W3 ⟨rfl,hb'⟩
 refine ⟨_,rfl,?_⟩
 have HS3:=Lib.hid (HS2.out.below hb')
 have HB3_g:=Lib.hid (blk_below HB2_g.out hb')
 replace C_g:=cells_k12 HB3_g.out
 rw [H5.out]
 clear hb'
 refine hK.out _ _ C_g ?_;clear hK K hHeld;intro hHeld
 try simp only [Act.put,zq1,zq2,zq3]
 refine ch_s ?_
 refine ch_z ?_
 clear hHeld
 go_wp2_with (first|(go_at_call 66;(with_reducible refine (step06 HC.out HV.out HS3.out.mem HW.out hn HBC.out (HI8.out.fr HS3.out.fr HNKL.out) HA8.out).mono ?_);rintro e W4 ⟨b1,x1,ws1,n1,rfl,his,hai,hm',hwt,hn1,hn2,hf'⟩;have HS4:=Lib.hid ((HS3.out.wide HLW.out).call hm' hf' HLk.out HT.out);have HB4_g:Hid (W4.heap[g]? = some (.cells (k12 c AP cP AL cL nd n0 th A2 m c2 5 at_ ((some ⟨gc,0,none⟩)) ((bp gp)) ((some ⟨gk,0,none⟩)) lv_ o0 o1 o2 o3) 98 (0,0))):=Lib.hid (blk_fr HB3_g.out hf' HGN.out (by decide));replace C_g:=cells_k12 HB4_g.out;have HX1:=Lib.hid ((HX.out.fr HS3.out.fr HNL.out).fr hf' HNCK.out);have HGC1:=Lib.hid (blk_fr (blk_fr HGC.out HS3.out.fr HNL.out (fun _=>by decide)) hf' HNCK.out (fun _=>by decide));obtain ⟨D1,X1,At1,l1,i1,W1',V1⟩:=x1;have HAI1:=Lib.hid hai;have HWT:=Lib.hid hwt;have HN1:=Lib.hid hn1;have HN2:=Lib.hid hn2;have HIS1:=Lib.hid his;clear hai hwt hn1 hn2;clear hm' hf')|(go_at_call 67;(with_reducible refine (added_any (ga:=some gk) HS4.out.mem hB HB4_g.out HGC1.out HC.out (HP.out.fr HS4.out.fr) (HLi.out.fr HS4.out.fr) (HN.out.fr HS4.out.fr) HR.out HAT.out.1 HAT.out.2 HM1.out.2 HTH.out).mono ?_);rintro e W5 ⟨rfl,ph',ga',p0,p1,p2,p3,hg',hor,hm',hf'⟩;have HS5:=Lib.hid (HS4.out.turn hm' hf' (fun p hp hk=>by rw [HTe.out] at hp;rw [List.mem_singleton.1 hp];exact ⟨_,hg'⟩) (fun k hk=>.inl (by rw [List.mem_singleton.1 hk];exact HGL.out)) HT.out);have HB5_g:Hid (W5.heap[g]? = some (.cells (k12 c AP cP AL cL nd n0 th A2 m c2 ph' ((at_ + 1)) ((some ⟨gc,0,none⟩)) ((bp gp)) ((bp ga')) lv_ p0 p1 p2 p3) 98 (0,0))):=Lib.hid (hg');replace C_g:=cells_k12 HB5_g.out;have HOR:=Lib.hid hor;have HX2:=Lib.hid (HX1.out.fr hf' HNG.out);have HSZ:=Lib.hid HS4.out.fr.size;clear hor;clear hg' hm' hf'))
 ·go_ret
  refine ⟨_,⟨nd,n0,th,pth,ph',(at_ + 1),gc,⟨st,j,sn,wv,sv,en,q0,k,q2,q3⟩,gp,ga',lv_,p0,p1,p2,p3⟩,ws1,_,rfl,⟨⟨AP,cP,AL,cL,_,m,c2,HM0.out,HB5_g.out,HP.out.fr HS5.out.fr,HLi.out.fr HS5.out.fr,HN.out.fr HS5.out.fr⟩,HX2.out,fun e=>by rcases HOR.out with ⟨h,hb⟩|⟨h,hb,kk,e1,v',x',hge,hv,hx,hi6⟩ <;> exact absurd (h.symm.trans e) (by decide),fun e=>by rcases HOR.out with ⟨h,hb⟩|⟨h,hb,kk,e1,v',x',hge,hv,hx,hi6⟩;exact absurd (h.symm.trans e) (by decide);exact ⟨kk,v',_,e1,hv,hi6,A06.zero HC.out hx⟩⟩,?_,HS5.out.mem,HWT.out,HN1.out,HN2.out,by rw [HLO.out];exact HS5.out.fr,?_⟩
  ·exact A12.mk2 HI.out HM0.out (by rcases HOR.out with ⟨h,hb⟩|⟨h,hb,kk,e1,v',x',hge,hv,hx,hi6⟩ <;> omega) HI.out.cl (fun _ _=>HI.out.cl0 (show ¬ (5:Int) = 0 by decide) (show ¬ (5:Int) = 6 by decide)) (by have h0:=HAT.out;rcases HOR.out with ⟨h,hb⟩|⟨h,hb,kk,e1,v',x',hge,hv,hx,hi6⟩ <;> refine ⟨by omega,by omega,fun _=>by omega,fun _=>by omega⟩) (fun h4=>by rcases HOR.out with ⟨h,hb⟩|⟨h,hb,kk,e1,v',x',hge,hv,hx,hi6⟩ <;> omega)
  ·intro k' hk';rcases HOR.out with ⟨_,h⟩|⟨_,_,kk,h,v',x',hge,_,_,hi8⟩ <;> subst h;exact .inl hk';simp only [own12,List.mem_cons,List.mem_append,Option.mem_toList,Option.some.injEq] at hk' ⊢;rcases hk' with h|h|h|h;exact .inl (.inl h);exact .inl (.inr (.inl h));exact .inl (.inr (.inr (.inl h)));exact .inr ⟨h ▸ Nat.le_trans HSZ.out hge,h ▸ hi8.lt⟩
 ·go_ret
  refine ⟨_,⟨nd,n0,th,pth,5,at_,gc,⟨st,j,sn,wv,sv,en,q0,k,q2,q3⟩,gp,(some gk),lv_,o0,o1,o2,o3⟩,ws1,_,rfl,⟨⟨AP,cP,AL,cL,_,m,c2,HM0.out,HB4_g.out,HP.out.fr HS4.out.fr,HLi.out.fr HS4.out.fr,HN.out.fr HS4.out.fr⟩,HX1.out,fun h=>absurd (show (5:Int) = 1 from h) (by decide),fun _=>⟨gk,v,_,rfl,HV.out,HIS1.out,HAI1.out⟩⟩,?_,HS4.out.mem,HWT.out,HN1.out,HN2.out,by rw [HLO.out];exact HS4.out.fr,?_⟩
  ·exact A12.mk2 HI.out HM0.out (by simp) HI.out.cl (fun _ _=>HI.out.cl0 (show ¬ (5:Int) = 0 by decide) (show ¬ (5:Int) = 6 by decide)) ⟨HAT.out.1,by have:=HAT.out;omega,fun _=>HAT.out.2,fun h=>by omega⟩ (fun h=>by omega)
  ·exact fun k' hk'=>.inl hk'
theorem step12 {c:Cf} (hc:c.Ok) {B gm g n:Nat} {w:World} {ws:List Int} (hm:MemIs B w gm ws n) (hw:WOk c ws) (hn:n ≤ 1000000) {x:S12} (hB:∀ k ∈ own12 g x,B ≤ k) (hg:Is12 c w g x) (hi:A12 c ws x) :
  Calls Try.prog 44 #[.pointer (some ⟨g,0,none⟩),.pointer (some ⟨gm,0,none⟩)] w (P12 c B gm g x ws n w):=by
 obtain ⟨nd,n0,th,pth,ph,at_,gc,⟨st,j,sn,wv,sv,en,q0,q1,q2,q3⟩,gp,ga,lv_,o0,o1,o2,o3⟩:=x
 have h0:=hi.at0
 rcases hi.ph with h|h|h|h|h|h|h
 all_goals (dsimp only at h h0;subst h)
 ·have h1:=hi.at3 rfl
  dsimp only at h1;subst h1
  exact step12_0 hc hm hw hn hB hg hi
 ·obtain ⟨gk,v,s,xp,e1,hv,hs,h8,a8⟩:=hg.pool rfl
  dsimp only at e1;subst e1
  exact step12_1 hc hm hw hn hB hg hi hv hs h8 a8
 ·obtain ⟨a,ha⟩:=Int.eq_ofNat_of_zero_le h0
  subst ha
  by_cases h1:a = 0
  ·subst h1;exact step12_2_end hc hm hw hn hB hg hi
  ·exact step12_2_on hc hm hw hn hB hg hi (by omega)
 ·exact step12_3 hc hm hw hn hB hg hi
 ·exact step12_4 hc hm hw hn hB hg hi
 ·obtain ⟨gk,v,xa,e1,hv,h6,a6⟩:=hg.add rfl
  dsimp only at e1;subst e1
  exact step12_5 hc hm hw hn hB hg hi hv h6 a6
 ·exact step12_6 hc hm hw hn hB hg hi
theorem ans12_no {c:Cf} {w:World} {g:Nat} {AP AL A2:Option Addr} {cP cL nd th m c2:Nat} {n0 ph at_ lv_ o0 o1 o3:Int} {o2:Bool} {gq gp ga:Option Addr} (hg:w.heap[g]? = some (.cells (k12 c AP cP AL cL nd n0 th A2 m c2 ph at_ gq gp ga lv_ o0 o1 o2 o3) 98 (0,0))) (hq:ph ≠ 6) :
  Calls Try.prog 48 #[.pointer (some ⟨g,0,none⟩)] w fun e w'=>∃ a0 a1 a2 a3,e = .returned (.agg #[.int .i64 a0,.int .i64 a1,.bool a2,.int .i64 a3])∧Below w.heap.size w w':=by
 have HB0_g:=Lib.hid hg
 have HS0:Hid (Mk w w):=Lib.hid (Mk.refl w)
 clear hg
 have d0:(ph != 6) = true:=bne_iff_ne.2 hq
 clear hq
 have C_g:=cells_k12 HB0_g.out
 go_enter Try.func48,Try.ntmps48
 go_wp2_with (first|((with_reducible refine gate_dst (N:=2) rfl ?_);refine box_event ?hg (N:=2) ?hd (cs:=#[.int .i64 0,.int .i64 0,.bool false,.int .i64 0]) (t:=46) ?hr ?_;(case hd=>rfl);(case hg=>rfl);(case hr=>first|(go_simp;done)|(go_simp;rfl));intro gr hg W1 hbox hb';have HG_gr:Hid (w.heap.size ≤ gr):=Lib.hid (by rw [hg];exact HS0.out.size);have HS1:=Lib.hid ((HS0.out.below hb'));have HB1_g:Hid (W1.heap[g]? = some (.cells (k12 c AP cP AL cL nd n0 th A2 m c2 ph at_ gq gp ga lv_ o0 o1 o2 o3) 98 (0,0))):=Lib.hid (blk_below HB0_g.out hb');have HB1_gr:Hid (W1.heap[gr]? = some (.cells (#[.int .i64 0,.int .i64 0,.bool false,.int .i64 0]:Array Value) 46 (0,0))):=Lib.hid (hbox);replace C_g:=cells_k12 HB1_g.out;have C_gr:=cells4 HB1_gr.out;clear hb' hbox hg;have ne1:g ≠ gr:=(by have:=blk_lt HB0_g.out;have:=HG_gr.out;omega);have ne2:=Ne.symm ne1))
 refine bodyPost_ret (results_cell_row rfl _ _ gr 46 (#[.int .i64 0,.int .i64 0,.bool false,.int .i64 0]:Array Value) (0,0) _ rfl ((blk_set' (blk_set' (blk_set' (blk_set' HB1_gr.out 0 (.int .i64 0) rfl) 1 (.int .i64 0) rfl) 2 (.bool false) rfl) 3 (.int .i64 0) rfl)) Try.underlying46 rfl (by kernel_rfl)) rfl ?_
 exact ⟨_,_,_,_,rfl,(Mk.set (Mk.set (Mk.set (Mk.set HS1.out HG_gr.out 0 (.int .i64 0)) HG_gr.out 1 (.int .i64 0)) HG_gr.out 2 (.bool false)) HG_gr.out 3 (.int .i64 0))⟩
theorem ans12_yes {c:Cf} {w:World} {g:Nat} {AP AL A2:Option Addr} {cP cL nd th m c2:Nat} {n0 ph at_ lv_ o0 o1 o3:Int} {o2:Bool} {gq gp ga:Option Addr} (hg:w.heap[g]? = some (.cells (k12 c AP cP AL cL nd n0 th A2 m c2 ph at_ gq gp ga lv_ o0 o1 o2 o3) 98 (0,0))) (hq:ph = 6) :
  Calls Try.prog 48 #[.pointer (some ⟨g,0,none⟩)] w fun e w'=>∃ a0 a1 a2 a3,e = .returned (.agg #[.int .i64 a0,.int .i64 a1,.bool a2,.int .i64 a3])∧Below w.heap.size w w':=by
 have HB0_g:=Lib.hid hg
 have HS0:Hid (Mk w w):=Lib.hid (Mk.refl w)
 clear hg
 have d0:(ph != 6) = false:=by rw [hq];rfl
 clear hq
 have C_g:=cells_k12 HB0_g.out
 go_enter Try.func48,Try.ntmps48
 go_wp2_with (first|((with_reducible refine gate_dst (N:=2) rfl ?_);refine box_event ?hg (N:=2) ?hd (cs:=#[.int .i64 0,.int .i64 0,.bool false,.int .i64 0]) (t:=46) ?hr ?_;(case hd=>rfl);(case hg=>rfl);(case hr=>first|(go_simp;done)|(go_simp;rfl));intro gr hg W1 hbox hb';have HG_gr:Hid (w.heap.size ≤ gr):=Lib.hid (by rw [hg];exact HS0.out.size);have HS1:=Lib.hid ((HS0.out.below hb'));have HB1_g:Hid (W1.heap[g]? = some (.cells (k12 c AP cP AL cL nd n0 th A2 m c2 ph at_ gq gp ga lv_ o0 o1 o2 o3) 98 (0,0))):=Lib.hid (blk_below HB0_g.out hb');have HB1_gr:Hid (W1.heap[gr]? = some (.cells (#[.int .i64 0,.int .i64 0,.bool false,.int .i64 0]:Array Value) 46 (0,0))):=Lib.hid (hbox);replace C_g:=cells_k12 HB1_g.out;have C_gr:=cells4 HB1_gr.out;clear hb' hbox hg;have ne1:g ≠ gr:=(by have:=blk_lt HB0_g.out;have:=HG_gr.out;omega);have ne2:=Ne.symm ne1))
 refine bodyPost_ret (results_cell_row rfl _ _ gr 46 (#[.int .i64 o0,.int .i64 o1,.bool o2,.int .i64 o3]:Array Value) (0,0) _ rfl ((blk_set' (blk_set' (blk_set' (blk_set' HB1_gr.out 0 (.int .i64 o0) rfl) 1 (.int .i64 o1) rfl) 2 (.bool o2) rfl) 3 (.int .i64 o3) rfl)) Try.underlying46 rfl (by kernel_rfl)) rfl ?_
 exact ⟨_,_,_,_,rfl,(Mk.set (Mk.set (Mk.set (Mk.set HS1.out HG_gr.out 0 (.int .i64 o0)) HG_gr.out 1 (.int .i64 o1)) HG_gr.out 2 (.bool o2)) HG_gr.out 3 (.int .i64 o3))⟩
theorem ans12 {c:Cf} {w:World} {g:Nat} {x:S12} (hg:Is12 c w g x) :
  Calls Try.prog 48 #[.pointer (some ⟨g,0,none⟩)] w fun e w'=>∃ a0 a1 a2 a3,e = .returned (.agg #[.int .i64 a0,.int .i64 a1,.bool a2,.int .i64 a3])∧Below w.heap.size w w':=by
 obtain ⟨AP,cP,AL,cL,A2,m,c2,hm0,hg,_⟩:=hg.b
 by_cases h:x.ph = 6
 ·exact ans12_yes hg h
 ·exact ans12_no hg h
end Go.Proofs.Ytadblpcjkahikaa.PTraceRuns

