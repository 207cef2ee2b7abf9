
import Derived.Test.YtadblpcjkahikaaRunsMake
namespace Go.Proofs.Ytadblpcjkahikaa.PTraceRuns
open Go.RowKit Go.Proofs.YtadblpcjkahikaaW.PrintWords Go.Proofs.YtadblpcjkahikaaW.PrintLast Go.Proofs.YtadblpcjkahikaaW.PrintMore
set_option linter.unusedVariables false
set_option linter.unusedSimpArgs false
set_option maxHeartbeats 2000000
set_option maxRecDepth 100000
theorem ans_f0 (a b d:Int) (x:Bool) (w:World):(Instr.field 46 (.agg #[.int .i64 a,.int .i64 b,.bool x,.int .i64 d]) 0).run Try.prog w = .ok (.int .i64 a) w:=by kernel_rfl
theorem ans_f1 (a b d:Int) (x:Bool) (w:World):(Instr.field 46 (.agg #[.int .i64 a,.int .i64 b,.bool x,.int .i64 d]) 1).run Try.prog w = .ok (.int .i64 b) w:=by kernel_rfl
attribute [local go_sem] ans_f0 ans_f1
theorem box_r {P:Program} {ops:Array Oper} {Q:Exit→Act→World→Prop} {oi:Oper} {N:Option Tmp} {a:Act} {w:World} {K:Act→World→Prop} {cs:Array Value} {t:TypeId} (hw:Region.wanted oi (yielded ops a.tmps) = true) (hN:oi.dst = N) (hrun:(execOp a.eval oi).run P w = .ok (.value (.pointer (some ⟨w.heap.size,0,none⟩))) (w.alloc (.cells cs t (0,0))))
  (h:∀ g,g = w.heap.size→∀ w1,w1.heap[g]? = some (.cells cs t (0,0))→Below w.heap.size w w1→K (a.put N (.pointer (some ⟨g,0,none⟩))) w1):if Region.wanted oi (yielded ops a.tmps) = true then Oper.wp P oi a w K Q else K (a.put N undef) w :=
 value_ hw hN hrun (h _ rfl _ (blk_new w _) (below_alloc (Below.refl _ _) _))
def k12 (c:Cf) (AP:Option Addr) (cP:Nat) (AL:Option Addr) (cL:Nat) (nd:Nat) (n0:Int) (th:Nat) (A2:Option Addr) (m c2:Nat) (ph at_:Int) (gq gp ga:Option Addr) (lv_ o0 o1:Int) (o2:Bool) (o3:Int):Array Value:=#[.int .i64 c.th,.int .i64 c.S,.int .i64 c.ga,.int .i64 c.le,.int .i64 c.re,.int .i64 c.ti,.slice AP c.pa.length cP,.slice AL c.li.length cL,.int .i64 nd,.int .i64 n0,.int .i64 th,.slice A2 m c2,.int .i64 ph,.int .i64 at_,.pointer gq,.pointer gp,.pointer ga,.int .i64 lv_,.int .i64 o0,.int .i64 o1,.bool o2,.int .i64 o3]
theorem cells_k12 {c:Cf} {AP:Option Addr} {cP:Nat} {AL:Option Addr} {cL:Nat} {nd:Nat} {n0:Int} {th:Nat} {A2:Option Addr} {m c2:Nat} {ph at_:Int} {gq gp ga:Option Addr} {lv_ o0 o1:Int} {o2:Bool} {o3:Int} {w:World} {g:Nat} (h:w.heap[g]? = some (.cells (k12 c AP cP AL cL nd n0 th A2 m c2 ph at_ gq gp ga lv_ o0 o1 o2 o3) 98 (0,0))):Sat (fun w=>(∀ i,w.frozen? ⟨g,i,none⟩ = false)∧w.cell? ⟨g,0,none⟩ = some (.int .i64 c.th)∧w.cell? ⟨g,1,none⟩ = some (.int .i64 c.S)∧w.cell? ⟨g,2,none⟩ = some (.int .i64 c.ga)∧w.cell? ⟨g,3,none⟩ = some (.int .i64 c.le)∧w.cell? ⟨g,4,none⟩ = some (.int .i64 c.re)∧w.cell? ⟨g,5,none⟩ = some (.int .i64 c.ti)∧w.cell? ⟨g,6,none⟩ = some (.slice AP c.pa.length cP)∧w.cell? ⟨g,7,none⟩ = some (.slice AL c.li.length cL)∧w.cell? ⟨g,8,none⟩ = some (.int .i64 nd)∧w.cell? ⟨g,9,none⟩ = some (.int .i64 n0)∧w.cell? ⟨g,10,none⟩ = some (.int .i64 th)∧w.cell? ⟨g,11,none⟩ = some (.slice A2 m c2)∧w.cell? ⟨g,12,none⟩ = some (.int .i64 ph)∧w.cell? ⟨g,13,none⟩ = some (.int .i64 at_)∧w.cell? ⟨g,14,none⟩ = some (.pointer gq)∧w.cell? ⟨g,15,none⟩ = some (.pointer gp)∧w.cell? ⟨g,16,none⟩ = some (.pointer ga)∧w.cell? ⟨g,17,none⟩ = some (.int .i64 lv_)∧w.cell? ⟨g,18,none⟩ = some (.int .i64 o0)∧w.cell? ⟨g,19,none⟩ = some (.int .i64 o1)∧w.cell? ⟨g,20,none⟩ = some (.bool o2)∧w.cell? ⟨g,21,none⟩ = some (.int .i64 o3)) w:=by unfold k12 at h;exact cells22 h
def bp (g:Option Nat):Option Addr:=g.map fun k=>⟨k,0,none⟩
structure S12 where
 nd:Nat
 n0:Int
 th:Nat
 pth:List Int
 ph:Int
 at_:Int
 gc:Nat
 xc:S11
 gp:Option Nat
 ga:Option Nat
 lv_:Int
 o0:Int
 o1:Int
 o2:Bool
 o3:Int
def own12 (g:Nat) (x:S12):List Nat:=g :: x.gc :: (x.gp.toList ++ x.ga.toList)
structure Is12 (c:Cf) (w:World) (g:Nat) (x:S12):Prop where
 b:∃ AP cP AL cL A2 m c2,x.pth.length = m∧w.heap[g]? = some (.cells (k12 c AP cP AL cL x.nd x.n0 x.th A2 m c2 x.ph x.at_ (some ⟨x.gc,0,none⟩) (bp x.gp) (bp x.ga) x.lv_ x.o0 x.o1 x.o2 x.o3) 98 (0,0))∧Ints w (.slice AP c.pa.length cP) c.pa∧Ints w (.slice AL c.li.length cL) c.li∧Ints w (.slice A2 m c2) x.pth
 cl:Is11 c w x.gc x.xc
 pool:x.ph = 1→∃ gp v s xp,x.gp = some gp∧v < c.N∧s < c.S∧Is08 c v s w gp xp∧A08 xp
 add:x.ph = 5→∃ ga v xa,x.ga = some ga∧v < c.N∧Is06 c v w ga xa∧A06 c xa
structure A12 (c:Cf) (ws:List Int) (x:S12):Prop where
 nd:x.nd < c.N
 n1:1 ≤ x.n0
 n2:x.n0 ≤ 1048576
 th:x.th ≤ 1000
 p1:0 < x.pth.length
 p2:x.pth.length ≤ 100
 p3:nodesOk c x.pth
 ph:x.ph = 0 ∨ x.ph = 1 ∨ x.ph = 2 ∨ x.ph = 3 ∨ x.ph = 4 ∨ x.ph = 5 ∨ x.ph = 6
 cl:A11 c x.xc
 cl0:x.ph ≠ 0→x.ph ≠ 6→x.xc.o0 = 0
 at0:0 ≤ x.at_
 at1:x.ph = 1 ∨ x.ph = 5→x.at_ < x.pth.length
 at2:x.at_ ≤ x.pth.length
 at3:x.ph = 0→x.at_ = 0
 body:x.ph = 4→∀ k:Nat,k < c.ti→x.xc.o1 = k→bodyOk c (wd ws (c.tk k + 1))
theorem A12.to {c:Cf} {ws ws':List Int} {x:S12} (h:A12 c ws x) (hw:WTo c ws ws'):A12 c ws' x :=
 ⟨h.nd,h.n1,h.n2,h.th,h.p1,h.p2,h.p3,h.ph,h.cl,h.cl0,h.at0,h.at1,h.at2,h.at3,fun hp k hk ho=>hw.later k hk (h.body hp k hk ho)⟩
theorem Is11.fr {c:Cf} {B g:Nat} {L:List Nat} {w w':World} {x:S11} (h:Is11 c w g x) (hf:Fr B true L w w') (hg:g ∉ L):Is11 c w' g x:=by
 obtain ⟨AP,cP,AL,cL,hb,hP,hL⟩:=h
 exact ⟨AP,cP,AL,cL,blk_fr hb hf hg (fun _=>by decide),hP.fr hf,hL.fr hf⟩
theorem Is08.fr {c:Cf} {v s B g:Nat} {L:List Nat} {w w':World} {x:S08} (h:Is08 c v s w g x) (hf:Fr B true L w w') (hg:g ∉ L):Is08 c v s w' g x:=by
 obtain ⟨AP,cP,AL,cL,hb,hP,hL⟩:=h
 exact ⟨AP,cP,AL,cL,blk_fr hb hf hg (fun _=>by decide),hP.fr hf,hL.fr hf⟩
theorem Is06.fr {c:Cf} {v B g:Nat} {L:List Nat} {w w':World} {x:S06} (h:Is06 c v w g x) (hf:Fr B true L w w') (hg:g ∉ L):Is06 c v w' g x:=blk_fr h hf hg (fun _=>by decide)
theorem Is12.fr {c:Cf} {B g:Nat} {L:List Nat} {w w':World} {x:S12} (h:Is12 c w g x) (hf:Fr B true L w w') (hL:∀ k ∈ own12 g x,k ∉ L):Is12 c w' g x:=by
 obtain ⟨⟨AP,cP,AL,cL,A2,m,c2,hm,hb,hP,hLi,h2⟩,hc,hp,ha⟩:=h
 refine ⟨⟨AP,cP,AL,cL,A2,m,c2,hm,blk_fr hb hf (hL g (by simp [own12])) (fun _=>by decide),hP.fr hf,hLi.fr hf,h2.fr hf⟩,hc.fr hf (hL _ (by simp [own12])),fun e=>?_,fun e=>?_⟩
 ·obtain ⟨gp,v,s,xp,e1,hv,hs,hi,ha⟩:=hp e
  exact ⟨gp,v,s,xp,e1,hv,hs,hi.fr hf (hL gp (by simp [own12,e1])),ha⟩
 ·obtain ⟨ga,v,xa,e1,hv,hi,ha⟩:=ha e
  exact ⟨ga,v,xa,e1,hv,hi.fr hf (hL ga (by simp [own12,e1])),ha⟩
theorem new12 {c:Cf} (hc:c.Ok) {w:World} {AP AL:Option Addr} {cP cL:Nat} (hP:Ints w (.slice AP c.pa.length cP) c.pa) (hL:Ints w (.slice AL c.li.length cL) c.li) {nd th:Nat} (hnd:nd < c.N) {n0:Int} :
  Calls Try.prog 38 #[(cA c AP cP AL cL),.int .i64 nd,.int .i64 n0,.int .i64 th] w fun e w'=>∃ g gc r,e = .returned (.pointer (some ⟨g,0,none⟩))∧w.heap.size ≤ g∧w.heap.size ≤ gc∧0 < r.length∧r.length ≤ 100∧nodesOk c r∧Is12 c w' g ⟨nd,n0,th,r,0,0,gc,⟨th,0,false,0,0,false,0,0,false,0⟩,none,none,0,0,0,false,0⟩∧Below w.heap.size w w':=by
 have HC:=Lib.hid hc
 have HP:=Lib.hid hP
 have HLi:=Lib.hid hL
 have HND:=Lib.hid hnd
 have HS0:Hid (Mk w w):=Lib.hid (Mk.refl w)
 clear hc hP hL hnd
 go_enter Try.func38,Try.ntmps38
 go_wp2_with (first|((with_reducible refine gate_dst (N:=4) rfl ?_);refine box_event ?hg (N:=4) ?hd (cs:=#[.int .i64 c.th,.int .i64 c.S,.int .i64 c.ga,.int .i64 c.le,.int .i64 c.re,.int .i64 c.ti,.slice AP c.pa.length cP,.slice AL c.li.length cL]) (t:=24) ?hr ?_;(case hd=>rfl);(case hg=>rfl);(case hr=>first|(go_simp;done)|(go_simp;rfl));intro g1 hg W1 hbox hb';have HG_g1:Hid (w.heap.size ≤ g1):=Lib.hid (by rw [hg];exact HS0.out.size);have HS1:=Lib.hid ((HS0.out.below hb'));have HB1_g1:Hid (W1.heap[g1]? = some (.cells (#[.int .i64 c.th,.int .i64 c.S,.int .i64 c.ga,.int .i64 c.le,.int .i64 c.re,.int .i64 c.ti,.slice AP c.pa.length cP,.slice AL c.li.length cL]:Array Value) 24 (0,0))):=Lib.hid (hbox);have C_g1:=cells8 HB1_g1.out;clear hb' hbox hg))
 refine ch_d C_g1 C_g1 [12] [0,2,3,4,5,6,8,9,1,7,10,11,12,13] (fun W2 HWd hHeld=>?_)
 have HS2:Hid (Mk w W2):=Lib.hid (by rw [← HWd.out];exact HS1.out.drew)
 have HB2_g1:=dwH HWd HB1_g1
 replace C_g1:=cells8 HB2_g1.out
 clear HWd
 iterate 8 refine ch_s ?_
 refine ch_1 fun K hK=>?_
 refine goes_s Try.func22 #[(cA c AP cP AL cL)] ?_
 refine (own_c HC.out (HP.out.below HS2.out.b) (HLi.out.below HS2.out.b)).mono ?_
 rintro e W3 ⟨AP2,AL2,cP2,cL2,rfl,hp2,hl2,hb'⟩
 refine ⟨_,rfl,?_⟩
 have HS3:=Lib.hid (HS2.out.below hb')
 have HB3_g1:=Lib.hid (blk_below HB2_g1.out hb')
 replace C_g1:=cells8 HB3_g1.out
 have HP2:=Lib.hid hp2
 have HL2:=Lib.hid hl2
 clear hp2 hl2
 clear hb'
 refine hK.out _ _ C_g1 ?_;clear hK K hHeld;intro hHeld
 try simp only [Act.put,zq1,zq2,zq3]
 refine ch_1 fun K hK=>?_
 refine goes_s Try.func53 #[(cA c AP cP AL cL),.int .i64 nd] ?_
 refine (path_c HC.out (HP.out.below HS3.out.b) (HLi.out.below HS3.out.b) (v:=nd) HND.out).mono ?_
 rintro e W4 ⟨A2,c2,r,rfl,hr0,hr1,hr2,hr3,hb'⟩
 refine ⟨_,rfl,?_⟩
 have HR4_P:Hid (Ints W4 (.slice AP2 c.pa.length cP2) (c.pa)):=Lib.hid ((HP2.out).below hb')
 have HR4_L:Hid (Ints W4 (.slice AL2 c.li.length cL2) (c.li)):=Lib.hid ((HL2.out).below hb')
 have HS4:=Lib.hid (HS3.out.below hb')
 have HB4_g1:=Lib.hid (blk_below HB3_g1.out hb')
 replace C_g1:=cells8 HB4_g1.out
 have HR0:=Lib.hid hr0
 have HR1:=Lib.hid hr1
 have HR2:=Lib.hid hr2
 have HR3:=Lib.hid hr3
 obtain ⟨m,hm⟩:∃ m,r.length = m:=⟨_,rfl⟩
 rw [hm] at HR0 ⊢
 have HM:=Lib.hid hm
 clear hr0 hr1 hr2 hr3 hm
 clear hb'
 refine hK.out _ _ C_g1 ?_;clear hK K hHeld;intro hHeld
 try simp only [Act.put,zq1,zq2,zq3]
 refine ch_1 fun K hK=>?_
 refine goes_s Try.func54 #[(cA c AP cP AL cL),.int .i64 th] ?_
 refine (new11 HC.out (HP.out.below HS4.out.b) (HLi.out.below HS4.out.b) (st:=th)).mono ?_
 rintro e W5 ⟨gc,rfl,hge,his,hb'⟩
 refine ⟨_,rfl,?_⟩
 have HG_gc:Hid (w.heap.size ≤ gc):=Lib.hid (Nat.le_trans HS4.out.size hge)
 have HIS:=Lib.hid his
 clear hge his
 have HR5_P:Hid (Ints W5 (.slice AP2 c.pa.length cP2) (c.pa)):=Lib.hid ((HR4_P.out).below hb')
 have HR5_L:Hid (Ints W5 (.slice AL2 c.li.length cL2) (c.li)):=Lib.hid ((HR4_L.out).below hb')
 have HR5_N:Hid (Ints W5 (.slice A2 m c2) (r)):=Lib.hid ((HR0.out).below hb')
 have HS5:=Lib.hid (HS4.out.below hb')
 have HB5_g1:=Lib.hid (blk_below HB4_g1.out hb')
 replace C_g1:=cells8 HB5_g1.out
 clear hb'
 refine hK.out _ _ C_g1 ?_;clear hK K hHeld;intro hHeld
 try simp only [Act.put,zq1,zq2,zq3]
 refine ch_s ?_
 refine ch_last rfl rfl (by kernel_rfl) (by decide) (fun K hK=>?_)
 refine box_r (cs:=#[.int .i64 c.th,.int .i64 c.S,.int .i64 c.ga,.int .i64 c.le,.int .i64 c.re,.int .i64 c.ti,.slice AP2 c.pa.length cP2,.slice AL2 c.li.length cL2,.int .i64 nd,.int .i64 n0,.int .i64 th,.slice A2 m c2,.int .i64 0,.int .i64 0,.pointer (some ⟨gc,0,none⟩),.pointer none,.pointer none,.int .i64 0,.int .i64 0,.int .i64 0,.bool false,.int .i64 0]) (t:=98) (by rfl) rfl (by first|(go_simp;done)|(go_simp;rfl)) ?_
 intro g2 hg W6 hbox hb'
 have HG_g2:Hid (w.heap.size ≤ g2):=Lib.hid (by rw [hg];exact HS5.out.size)
 have HIS2:=Lib.hid (HIS.out.fr (Fr.of_below hb' 0 true []) (by simp))
 clear C_g1
 have HR6_P:Hid (Ints W6 (.slice AP2 c.pa.length cP2) (c.pa)):=Lib.hid ((HR5_P.out).below hb')
 have HR6_L:Hid (Ints W6 (.slice AL2 c.li.length cL2) (c.li)):=Lib.hid ((HR5_L.out).below hb')
 have HR6_N:Hid (Ints W6 (.slice A2 m c2) (r)):=Lib.hid ((HR5_N.out).below hb')
 have HS6:=Lib.hid (HS5.out.below hb')
 have HB6_g1:=Lib.hid (blk_below HB5_g1.out hb')
 have HB6_g2:Hid (W6.heap[g2]? = some (.cells (#[.int .i64 c.th,.int .i64 c.S,.int .i64 c.ga,.int .i64 c.le,.int .i64 c.re,.int .i64 c.ti,.slice AP2 c.pa.length cP2,.slice AL2 c.li.length cL2,.int .i64 nd,.int .i64 n0,.int .i64 th,.slice A2 m c2,.int .i64 0,.int .i64 0,.pointer (some ⟨gc,0,none⟩),.pointer none,.pointer none,.int .i64 0,.int .i64 0,.int .i64 0,.bool false,.int .i64 0]:Array Value) 98 (0,0))):=Lib.hid (hbox)
 have C_g1:=cells8 HB6_g1.out
 have C_g2:=cells22 HB6_g2.out
 clear hb' hbox hg
 refine hK.out _ _ ?_
 clear hK K
 try simp only [Act.put,zq1,zq2,zq3]
 refine ch_s ?_
 refine ch_z ?_
 clear hHeld
 go_wp2
 go_ret
 exact ⟨g2,gc,r,rfl,HG_g2.out,HG_gc.out,HR1.out,HR2.out,HR3.out,⟨⟨_,_,_,_,_,_,_,HM.out,HB6_g2.out,HR6_P.out,HR6_L.out,HR6_N.out⟩,HIS2.out,fun h=>absurd h (show ¬ (0:Int) = 1 by decide),fun h=>absurd h (show ¬ (0:Int) = 5 by decide)⟩,HS6.out⟩
theorem Mk.set {w W:World} (h:Mk w W) {g:Nat} (hg:w.heap.size ≤ g) (i:Nat) (v:Value):Mk w (W.setCell ⟨g,i,none⟩ v):=below_set h hg
theorem ans11 {c:Cf} {w:World} {g:Nat} {AP AL:Option Addr} {cP cL:Nat} {st:Nat} {j wv sv o0 o1 o3:Int} {sn en o2:Bool} (hg:w.heap[g]? = some (.cells (k11 c AP cP AL cL st j sn wv sv en o0 o1 o2 o3) 112 (0,0))) :
  Calls Try.prog 55 #[.pointer (some ⟨g,0,none⟩)] w fun e w'=>e = .returned (.agg #[.int .i64 o0,.int .i64 o1,.bool o2,.int .i64 o3])∧Below w.heap.size w w':=by
 have HB0_g:=Lib.hid hg
 have HS0:Hid (Mk w w):=Lib.hid (Mk.refl w)
 clear hg
 have C_g:=cells_k11 HB0_g.out
 go_enter Try.func55,Try.ntmps55
 go_wp2_with (first|((with_reducible refine gate_dst (N:=2) rfl ?_);refine box_event ?hg (N:=2) ?hd (cs:=#[.int .i64 0,.int .i64 0,.bool false,.int .i64 0]) (t:=46) ?hr ?_;(case hd=>rfl);(case hg=>rfl);(case hr=>first|(go_simp;done)|(go_simp;rfl));intro gr hg W1 hbox hb';have HG_gr:Hid (w.heap.size ≤ gr):=Lib.hid (by rw [hg];exact HS0.out.size);have HS1:=Lib.hid ((HS0.out.below hb'));have HB1_g:Hid (W1.heap[g]? = some (.cells (k11 c AP cP AL cL st j sn wv sv en o0 o1 o2 o3) 112 (0,0))):=Lib.hid (blk_below HB0_g.out hb');have HB1_gr:Hid (W1.heap[gr]? = some (.cells (#[.int .i64 0,.int .i64 0,.bool false,.int .i64 0]:Array Value) 46 (0,0))):=Lib.hid (hbox);replace C_g:=cells_k11 HB1_g.out;have C_gr:=cells4 HB1_gr.out;clear hb' hbox hg;have ne1:g ≠ gr:=(by have:=blk_lt HB0_g.out;have:=HG_gr.out;omega);have ne2:=Ne.symm ne1))
 refine bodyPost_ret (results_cell_row rfl _ _ gr 46 (#[.int .i64 o0,.int .i64 o1,.bool o2,.int .i64 o3]:Array Value) (0,0) _ rfl ((blk_set' (blk_set' (blk_set' (blk_set' HB1_gr.out 0 (.int .i64 o0) rfl) 1 (.int .i64 o1) rfl) 2 (.bool o2) rfl) 3 (.int .i64 o3) rfl)) Try.underlying46 rfl (by kernel_rfl)) rfl ?_
 exact ⟨rfl,(Mk.set (Mk.set (Mk.set (Mk.set HS1.out HG_gr.out 0 (.int .i64 o0)) HG_gr.out 1 (.int .i64 o1)) HG_gr.out 2 (.bool o2)) HG_gr.out 3 (.int .i64 o3))⟩
theorem ans08 {c:Cf} {w:World} {g:Nat} {AP AL:Option Addr} {cP cL:Nat} {v s:Nat} {n0 At l a e0 o0 o1 o3:Int} {o2:Bool} (hg:w.heap[g]? = some (.cells (k08 c AP cP AL cL v n0 s At l a e0 o0 o1 o2 o3) 115 (0,0))) :
  Calls Try.prog 80 #[.pointer (some ⟨g,0,none⟩)] w fun e w'=>e = .returned (.agg #[.int .i64 o0,.int .i64 o1,.bool o2,.int .i64 o3])∧Below w.heap.size w w':=by
 have HB0_g:=Lib.hid hg
 have HS0:Hid (Mk w w):=Lib.hid (Mk.refl w)
 clear hg
 have C_g:=cells_k08 HB0_g.out
 go_enter Try.func80,Try.ntmps80
 go_wp2_with (first|((with_reducible refine gate_dst (N:=2) rfl ?_);refine box_event ?hg (N:=2) ?hd (cs:=#[.int .i64 0,.int .i64 0,.bool false,.int .i64 0]) (t:=46) ?hr ?_;(case hd=>rfl);(case hg=>rfl);(case hr=>first|(go_simp;done)|(go_simp;rfl));intro gr hg W1 hbox hb';have HG_gr:Hid (w.heap.size ≤ gr):=Lib.hid (by rw [hg];exact HS0.out.size);have HS1:=Lib.hid ((HS0.out.below hb'));have HB1_g:Hid (W1.heap[g]? = some (.cells (k08 c AP cP AL cL v n0 s At l a e0 o0 o1 o2 o3) 115 (0,0))):=Lib.hid (blk_below HB0_g.out hb');have HB1_gr:Hid (W1.heap[gr]? = some (.cells (#[.int .i64 0,.int .i64 0,.bool false,.int .i64 0]:Array Value) 46 (0,0))):=Lib.hid (hbox);replace C_g:=cells_k08 HB1_g.out;have C_gr:=cells4 HB1_gr.out;clear hb' hbox hg;have ne1:g ≠ gr:=(by have:=blk_lt HB0_g.out;have:=HG_gr.out;omega);have ne2:=Ne.symm ne1))
 refine bodyPost_ret (results_cell_row rfl _ _ gr 46 (#[.int .i64 o0,.int .i64 o1,.bool o2,.int .i64 o3]:Array Value) (0,0) _ rfl ((blk_set' (blk_set' (blk_set' (blk_set' HB1_gr.out 0 (.int .i64 o0) rfl) 1 (.int .i64 o1) rfl) 2 (.bool o2) rfl) 3 (.int .i64 o3) rfl)) Try.underlying46 rfl (by kernel_rfl)) rfl ?_
 exact ⟨rfl,(Mk.set (Mk.set (Mk.set (Mk.set HS1.out HG_gr.out 0 (.int .i64 o0)) HG_gr.out 1 (.int .i64 o1)) HG_gr.out 2 (.bool o2)) HG_gr.out 3 (.int .i64 o3))⟩
theorem node_at {c:Cf} {r:List Int} {m:Nat} {xf:Nat→Int} (hr:r.length = m∧nodesOk c r) (hx:∀ i,xf i = r.getD i 0) {i:Nat} (hi:i < m):∃ u:Nat,xf i = u∧u < c.N:=by
 have hl:i < r.length:=by omega
 have h:=hr.2 (r[i]) (List.getElem_mem hl)
 have e:xf i = r[i]:=by rw [hx,List.getD_eq_getElem?_getD,List.getElem?_eq_getElem hl];rfl
 obtain ⟨u,hu⟩:=Int.eq_ofNat_of_zero_le h.1
 exact ⟨u,by rw [e,hu],by omega⟩
theorem pool12 {c:Cf} (hc:c.Ok) {B gm g n:Nat} {w:World} {ws:List Int} (hm:MemIs B w gm ws n) (hB:B ≤ g) {AP AL A2:Option Addr} {cP cL nd th m c2:Nat} {n0 ph at_ lv_ o0 o1 o3:Int} {o2:Bool} {gq gp ga:Option Addr} (hg:w.heap[g]? = some (.cells (k12 c AP cP AL cL nd n0 th A2 m c2 ph at_ gq gp ga lv_ o0 o1 o2 o3) 98 (0,0))) (hP:Ints w (.slice AP c.pa.length cP) c.pa) (hL:Ints w (.slice AL c.li.length cL) c.li) {r:List Int} (hN:Ints w (.slice A2 m c2) r) (hr:r.length = m∧nodesOk c r) (h0:0 ≤ at_) (h1:at_ < m) :
  Calls Try.prog 78 #[.pointer (some ⟨g,0,none⟩)] w fun e w'=>e = .returned (.tuple #[])∧∃ gp' v s,w.heap.size ≤ gp'∧v < c.N∧s < c.S∧w'.heap[g]? = some (.cells (k12 c AP cP AL cL nd n0 th A2 m c2 ph at_ gq (some ⟨gp',0,none⟩) ga lv_ o0 o1 o2 o3) 98 (0,0))∧Is08 c v s w' gp' ⟨n0,0,0,0,0,0,0,false,0⟩∧MemIs B w' gm ws n∧Fr B true [g] w w':=by
 obtain ⟨L,T,HLL,HTe,HT,HSG_g,HS0⟩:=st1 hm hB hg (by decide) (by decide)
 obtain ⟨gA,xf,rfl,hx,hne0,HAT⟩:=ints_at (B:=B) (L:=L) hN (by omega)
 have ne1:=hne0 _ _ _ _ hg (by decide)
 have ne2:=Ne.symm ne1
 clear hne0
 have HB0_g:=Lib.hid hg
 have HC:=Lib.hid hc
 have HP:=Lib.hid hP
 have HLi:=Lib.hid hL
 obtain ⟨a,ha⟩:=Int.eq_ofNat_of_zero_le h0
 subst ha
 obtain ⟨u,hu,hu2⟩:=node_at hr hx (i:=a) (by omega)
 have HUX:=Lib.hid hu
 have HU:=Lib.hid hu2
 have HA:Hid (a < m):=Lib.hid (by omega)
 clear hc hg hm hN hP hL hx
 have i1:(0:Int) ≤ (a:Int):=by omega
 have i2:(a:Int) < (m:Int):=h1
 obtain ⟨s,hs,hs2⟩:∃ s:Nat,Int.tmod (th:Int) (c.S:Int) = s∧s < c.S:=⟨th % c.S,by rw [Int.tmod_eq_emod_of_nonneg (by omega)];omega,Nat.mod_lt _ (by have:=HC.out.Sle;omega)⟩
 have HSS:=Lib.hid hs2
 have q0:IntKind.i64.wrap (s:Int) = (s:Int):=IntWalk.i64_in _ (by have:=HC.out.Sle;omega)
 have z0:¬ ((c.S:Int) = 0):=by have:=HC.out.Sle;omega
 have z1:¬ (c.S = 0):=by have:=HC.out.Sle;omega
 clear h1 h0 hs2
 have C_g:=cells_k12 HB0_g.out
 go_enter Try.func78,Try.ntmps78
 refine ch_st (fun wS=>wS.cell? ⟨g,0,none⟩ = some (.int .i64 c.th)∧wS.cell? ⟨g,1,none⟩ = some (.int .i64 c.S)∧wS.cell? ⟨g,2,none⟩ = some (.int .i64 c.ga)∧wS.cell? ⟨g,3,none⟩ = some (.int .i64 c.le)∧wS.cell? ⟨g,4,none⟩ = some (.int .i64 c.re)∧wS.cell? ⟨g,5,none⟩ = some (.int .i64 c.ti)∧wS.cell? ⟨g,6,none⟩ = some (.slice AP c.pa.length cP)∧wS.cell? ⟨g,7,none⟩ = some (.slice AL c.li.length cL)∧wS.cell? ⟨g,9,none⟩ = some (.int .i64 n0)∧wS.cell? ⟨g,10,none⟩ = some (.int .i64 th)∧wS.cell? ⟨g,11,none⟩ = some (.slice (some ⟨gA,0,none⟩) m c2)∧wS.cell? ⟨g,13,none⟩ = some (.int .i64 a)∧wS.cell? ⟨gA,a,none⟩ = some (.int .i64 u)) [32] [0,1,2,3,4,5,6,7,8,9,10,11,12,13,14,15,16,17,18,19,20,21,22,23,24,25,26,27,28,29,30,31,32] (by kernel_rfl) rfl (⟨C_g.2.1,C_g.2.2.1,C_g.2.2.2.1,C_g.2.2.2.2.1,C_g.2.2.2.2.2.1,C_g.2.2.2.2.2.2.1,C_g.2.2.2.2.2.2.2.1,C_g.2.2.2.2.2.2.2.2.1,C_g.2.2.2.2.2.2.2.2.2.2.1,C_g.2.2.2.2.2.2.2.2.2.2.2.1,C_g.2.2.2.2.2.2.2.2.2.2.2.2.1,C_g.2.2.2.2.2.2.2.2.2.2.2.2.2.2.1,(by rw [← HUX.out];exact HAT.out _ HS0.out.fr a HA.out)⟩) (fun W1 HWd hHeld=>?_)
 have HS1:=dwS HWd HS0
 have HB1_g:Hid (W1.heap[g]? = some (.cells (k12 c AP cP AL cL nd n0 th (some ⟨gA,0,none⟩) m c2 ph a gq gp ga lv_ o0 o1 o2 o3) 98 (0,0))):=Lib.hid (by rw [← HWd.out];exact HB0_g.out)
 replace C_g:=cells_k12 HB1_g.out
 clear HWd
 iterate 29 refine ch_s ?_
 refine ch_1 fun K hK=>?_
 refine goes_s Try.func89 #[(cA c AP cP AL cL),.int .i64 u,.int .i64 n0,.int .i64 s] ?_
 refine (new08 HC.out (HP.out.fr HS1.out.fr) (HLi.out.fr HS1.out.fr) (v:=u) (s:=s) (n0:=n0)).mono ?_
 rintro e W2 ⟨g2,rfl,hge,his,hb'⟩
 refine ⟨_,rfl,?_⟩
 have HG_g2:Hid (w.heap.size ≤ g2):=Lib.hid (Nat.le_trans HS1.out.fr.size hge)
 have HIS:=Lib.hid his
 clear hge his
 have HS2:=Lib.hid (HS1.out.below hb')
 have HB2_g:=Lib.hid (blk_below HB1_g.out hb')
 replace C_g:=cells_k12 HB2_g.out
 clear hb'
 refine hK.out _ _ (⟨C_g.2.1,C_g.2.2.1,C_g.2.2.2.1,C_g.2.2.2.2.1,C_g.2.2.2.2.2.1,C_g.2.2.2.2.2.2.1,C_g.2.2.2.2.2.2.2.1,C_g.2.2.2.2.2.2.2.2.1,C_g.2.2.2.2.2.2.2.2.2.2.1,C_g.2.2.2.2.2.2.2.2.2.2.2.1,C_g.2.2.2.2.2.2.2.2.2.2.2.2.1,C_g.2.2.2.2.2.2.2.2.2.2.2.2.2.2.1,(by rw [← HUX.out];exact HAT.out _ HS2.out.fr a HA.out)⟩) ?_;clear hK K hHeld;intro hHeld
 try simp only [Act.put,zq1,zq2,zq3]
 iterate 2 refine ch_s ?_
 refine ch_last rfl rfl (by kernel_rfl) (by decide) (fun K hK=>?_)
 refine skip_ (by rfl) rfl (by go_simp;first|rfl|exact ⟨rfl,rfl⟩) ?_
 refine hK.out _ _ ?_
 clear hK K
 try simp only [Act.put,zq1,zq2,zq3]
 refine ch_z ?_
 clear hHeld
 go_wp2
 go_end0
 exact ⟨rfl,g2,u,s,HG_g2.out,HU.out,HSS.out,(blk_set' HB2_g.out 15 (.pointer (some ⟨g2,0,none⟩)) rfl),HIS.out.fr (Fr.refl B true [g] _ |>.setCell hB (.inl (by simp)) HB2_g.out (by decide) _) (by simp;have:=blk_lt HB0_g.out;have:=HG_g2.out;omega),(HSG_g.out _ _ _ HS2.out 15 (.pointer (some ⟨g2,0,none⟩))).mem,HLL.out ▸ (HSG_g.out _ _ _ HS2.out 15 (.pointer (some ⟨g2,0,none⟩))).fr⟩
def To1 (c:Cf) (w w':World) (n0:Int) (k:Nat):Prop:=∃ v s,w.heap.size ≤ k∧v < c.N∧s < c.S∧Is08 c v s w' k ⟨n0,0,0,0,0,0,0,false,0⟩
theorem claimed_err {c:Cf} {B gm g n:Nat} {w:World} {ws:List Int} (hm:MemIs B w gm ws n) (hB:B ≤ g) {AP AL A2:Option Addr} {cP cL nd th m c2:Nat} {n0 ph at_ lv_ o0 o1 o3:Int} {o2:Bool} {gp ga:Option Addr} {AP3 AL3:Option Addr} {cP3 cL3 st gc:Nat} {j wv sv q0 q1 q3:Int} {sn en q2:Bool} (hg:w.heap[g]? = some (.cells (k12 c AP cP AL cL nd n0 th A2 m c2 ph at_ (some ⟨gc,0,none⟩) gp ga lv_ o0 o1 o2 o3) 98 (0,0))) (hgc:w.heap[gc]? = some (.cells (k11 c AP3 cP3 AL3 cL3 st j sn wv sv en q0 q1 q2 q3) 112 (0,0))) (hq:q0 ≠ 0) :
  Calls Try.prog 57 #[.pointer (some ⟨g,0,none⟩)] w fun e w'=>e = .returned (.tuple #[])∧w'.heap[g]? = some (.cells (k12 c AP cP AL cL nd n0 th A2 m c2 6 at_ (some ⟨gc,0,none⟩) gp ga lv_ q0 q1 q2 q3) 98 (0,0))∧MemIs B w' gm ws n∧Fr B true [g] w w':=by
 obtain ⟨L,T,HLL,HTe,HT,HSG_g,HS0⟩:=st1 hm hB hg (by decide) (by decide)
 have HNL:Hid (gc ∉ L):=Lib.hid (by rw [HLL.out,List.mem_singleton];intro e;subst e;rw [hg] at hgc;injection hgc with e;injection e with _ e;exact absurd e (by decide))
 have HGC:=Lib.hid hgc
 clear hgc
 have HB0_g:=Lib.hid hg
 clear hm hg
 have d0:(q0 != 0) = true:=bne_iff_ne.2 hq
 clear hq
 have C_g:=cells_k12 HB0_g.out
 go_enter Try.func57,Try.ntmps57
 go_wp2_with (first|(skip;go_at_call 55;(with_reducible refine (ans11 (blk_fr HGC.out HS0.out.fr HNL.out (fun _=>by decide))).mono ?_);rintro e W1 ⟨rfl,hb'⟩;have HS1:=Lib.hid (HS0.out.below hb');have HB1_g:Hid (W1.heap[g]? = some (.cells (k12 c AP cP AL cL nd n0 th A2 m c2 ph at_ ((some ⟨gc,0,none⟩)) gp ga lv_ o0 o1 o2 o3) 98 (0,0))):=Lib.hid (blk_below HB0_g.out hb');replace C_g:=cells_k12 HB1_g.out;clear hb')|(skip;go_at_call 55;(with_reducible refine (ans11 (blk_fr HGC.out HS1.out.fr HNL.out (fun _=>by decide))).mono ?_);rintro e W2 ⟨rfl,hb'⟩;have HS2:=Lib.hid (HS1.out.below hb');have HB2_g:=Lib.hid (blk_below HB1_g.out hb');replace C_g:=cells_k12 HB2_g.out;clear hb'))
 (try simp only [Exit.inBlock,Exit.then]);refine bodyPost_ret (results_none rfl _ _ _) rfl ?_
 exact ⟨rfl,(blk_set' (blk_set' (blk_set' (blk_set' (blk_set' HB2_g.out 18 (.int .i64 q0) rfl) 19 (.int .i64 q1) rfl) 20 (.bool q2) rfl) 21 (.int .i64 q3) rfl) 12 (.int .i64 6) rfl),(HSG_g.out _ _ _ (HSG_g.out _ _ _ (HSG_g.out _ _ _ (HSG_g.out _ _ _ (HSG_g.out _ _ _ HS2.out 18 (.int .i64 q0)) 19 (.int .i64 q1)) 20 (.bool q2)) 21 (.int .i64 q3)) 12 (.int .i64 6)).mem,HLL.out ▸ (HSG_g.out _ _ _ (HSG_g.out _ _ _ (HSG_g.out _ _ _ (HSG_g.out _ _ _ (HSG_g.out _ _ _ HS2.out 18 (.int .i64 q0)) 19 (.int .i64 q1)) 20 (.bool q2)) 21 (.int .i64 q3)) 12 (.int .i64 6)).fr⟩
theorem claimed_ok {c:Cf} {B gm g n:Nat} {w:World} {ws:List Int} (hm:MemIs B w gm ws n) (hB:B ≤ g) {AP AL A2:Option Addr} {cP cL nd th m c2:Nat} {n0 ph at_ lv_ o0 o1 o3:Int} {o2:Bool} {gp ga:Option Addr} {AP3 AL3:Option Addr} {cP3 cL3 st gc:Nat} {j wv sv q0 q1 q3:Int} {sn en q2:Bool} (hg:w.heap[g]? = some (.cells (k12 c AP cP AL cL nd n0 th A2 m c2 ph at_ (some ⟨gc,0,none⟩) gp ga lv_ o0 o1 o2 o3) 98 (0,0))) (hgc:w.heap[gc]? = some (.cells (k11 c AP3 cP3 AL3 cL3 st j sn wv sv en q0 q1 q2 q3) 112 (0,0))) (hc:c.Ok) (hP:Ints w (.slice AP c.pa.length cP) c.pa) (hL:Ints w (.slice AL c.li.length cL) c.li) {r:List Int} (hN:Ints w (.slice A2 m c2) r) (hr:r.length = m∧nodesOk c r) (h0:0 ≤ at_) (h1:at_ < m) (hq:q0 = 0) :
  Calls Try.prog 57 #[.pointer (some ⟨g,0,none⟩)] w fun e w'=>e = .returned (.tuple #[])∧∃ gp',w'.heap[g]? = some (.cells (k12 c AP cP AL cL nd n0 th A2 m c2 1 at_ (some ⟨gc,0,none⟩) (some ⟨gp',0,none⟩) ga lv_ o0 o1 o2 o3) 98 (0,0))∧To1 c w w' n0 gp'∧MemIs B w' gm ws n∧Fr B true [g] w w':=by
 obtain ⟨L,T,HLL,HTe,HT,HSG_g,HS0⟩:=st1 hm hB hg (by decide) (by decide)
 have HNL:Hid (gc ∉ L):=Lib.hid (by rw [HLL.out,List.mem_singleton];intro e;subst e;rw [hg] at hgc;injection hgc with e;injection e with _ e;exact absurd e (by decide))
 have HGC:=Lib.hid hgc
 clear hgc
 have HB0_g:=Lib.hid hg
 have HC:=Lib.hid hc
 have HP:=Lib.hid hP
 have HLi:=Lib.hid hL
 have HN:=Lib.hid hN
 have HR:=Lib.hid hr
 clear hc hP hL hN hr
 clear hm hg
 subst hq
 have d0:((0:Int) != 0) = false:=rfl
 have C_g:=cells_k12 HB0_g.out
 go_enter Try.func57,Try.ntmps57
 go_wp2_with (first|(go_at_call 55;(with_reducible refine (ans11 (blk_fr HGC.out HS0.out.fr HNL.out (fun _=>by decide))).mono ?_);rintro e W1 ⟨rfl,hb'⟩;have HS1:=Lib.hid (HS0.out.below hb');have HB1_g:Hid (W1.heap[g]? = some (.cells (k12 c AP cP AL cL nd n0 th A2 m c2 ph at_ ((some ⟨gc,0,none⟩)) gp ga lv_ o0 o1 o2 o3) 98 (0,0))):=Lib.hid (blk_below HB0_g.out hb');replace C_g:=cells_k12 HB1_g.out;clear hb')|(go_at_call 78;(with_reducible refine (pool12 HC.out (HSG_g.out _ _ _ HS1.out 12 (.int .i64 1)).mem hB (blk_set' HB1_g.out 12 (.int .i64 1) rfl) (HP.out.fr (HSG_g.out _ _ _ HS1.out 12 (.int .i64 1)).fr) (HLi.out.fr (HSG_g.out _ _ _ HS1.out 12 (.int .i64 1)).fr) (HN.out.fr (HSG_g.out _ _ _ HS1.out 12 (.int .i64 1)).fr) HR.out h0 h1).mono ?_);rintro e W2 ⟨rfl,gp',v,s,hge,hv,hs,hg',his,hm',hf'⟩;have HS2:=Lib.hid ((HSG_g.out _ _ _ HS1.out 12 (.int .i64 1)).turn hm' hf' (fun p hp hk=>by rw [HTe.out] at hp;rw [List.mem_singleton.1 hp];exact ⟨_,hg'⟩) (fun k hk=>.inl (by rw [HLL.out];exact hk)) HT.out);have HB2_g:Hid (W2.heap[g]? = some (.cells (k12 c AP cP AL cL nd n0 th A2 m c2 1 at_ ((some ⟨gc,0,none⟩)) ((some ⟨gp',0,none⟩)) ga lv_ o0 o1 o2 o3) 98 (0,0))):=Lib.hid (hg');replace C_g:=cells_k12 HB2_g.out;clear hg' hm' hf';have HGE:=Lib.hid (Nat.le_trans (HSG_g.out _ _ _ HS1.out 12 (.int .i64 1)).fr.size hge);have HV:=Lib.hid hv;have HSS:=Lib.hid hs;have HIS:=Lib.hid his;clear hge hv hs his))
 go_end0
 exact ⟨rfl,gp',HB2_g.out,⟨v,s,HGE.out,HV.out,HSS.out,HIS.out⟩,HS2.out.mem,HLL.out ▸ HS2.out.fr⟩
theorem pooled_err {c:Cf} {B gm g n:Nat} {w:World} {ws:List Int} (hm:MemIs B w gm ws n) (hB:B ≤ g) {AP AL A2:Option Addr} {cP cL nd th m c2:Nat} {n0 ph at_ lv_ o0 o1 o3:Int} {o2:Bool} {gq ga:Option Addr} {AP3 AL3:Option Addr} {cP3 cL3 v3 s3 gk:Nat} {n3 At3 l3 a3 e3 q0 q1 q3:Int} {q2:Bool} (hg:w.heap[g]? = some (.cells (k12 c AP cP AL cL nd n0 th A2 m c2 ph at_ gq (some ⟨gk,0,none⟩) ga lv_ o0 o1 o2 o3) 98 (0,0))) (hgk:w.heap[gk]? = some (.cells (k08 c AP3 cP3 AL3 cL3 v3 n3 s3 At3 l3 a3 e3 q0 q1 q2 q3) 115 (0,0))) (hq:q0 ≠ 0) :
  Calls Try.prog 59 #[.pointer (some ⟨g,0,none⟩)] w fun e w'=>e = .returned (.tuple #[])∧w'.heap[g]? = some (.cells (k12 c AP cP AL cL nd n0 th A2 m c2 2 at_ gq (some ⟨gk,0,none⟩) ga lv_ q0 q1 q2 q3) 98 (0,0))∧MemIs B w' gm ws n∧Fr B true [g] w w':=by
 obtain ⟨L,T,HLL,HTe,HT,HSG_g,HS0⟩:=st1 hm hB hg (by decide) (by decide)
 have HNL:Hid (gk ∉ L):=Lib.hid (by rw [HLL.out,List.mem_singleton];intro e;subst e;rw [hg] at hgk;injection hgk with e;injection e with _ e;exact absurd e (by decide))
 have HGC:=Lib.hid hgk
 clear hgk
 have HB0_g:=Lib.hid hg
 clear hm hg
 have d0:(q0 != 0) = true:=bne_iff_ne.2 hq
 clear hq
 have C_g:=cells_k12 HB0_g.out
 go_enter Try.func59,Try.ntmps59
 go_wp2_with (first|(skip;go_at_call 80;(with_reducible refine (ans08 (blk_fr HGC.out HS0.out.fr HNL.out (fun _=>by decide))).mono ?_);rintro e W1 ⟨rfl,hb'⟩;have HS1:=Lib.hid (HS0.out.below hb');have HB1_g:Hid (W1.heap[g]? = some (.cells (k12 c AP cP AL cL nd n0 th A2 m c2 ph at_ gq ((some ⟨gk,0,none⟩)) ga lv_ o0 o1 o2 o3) 98 (0,0))):=Lib.hid (blk_below HB0_g.out hb');replace C_g:=cells_k12 HB1_g.out;clear hb')|(skip;go_at_call 80;(with_reducible refine (ans08 (blk_fr HGC.out HS1.out.fr HNL.out (fun _=>by decide))).mono ?_);rintro e W2 ⟨rfl,hb'⟩;have HS2:=Lib.hid (HS1.out.below hb');have HB2_g:=Lib.hid (blk_below HB1_g.out hb');replace C_g:=cells_k12 HB2_g.out;clear hb'))
 (try simp only [Exit.inBlock,Exit.then]);refine bodyPost_ret (results_none rfl _ _ _) rfl ?_
 exact ⟨rfl,(blk_set' (blk_set' (blk_set' (blk_set' (blk_set' HB2_g.out 18 (.int .i64 q0) rfl) 19 (.int .i64 q1) rfl) 20 (.bool q2) rfl) 21 (.int .i64 q3) rfl) 12 (.int .i64 2) rfl),(HSG_g.out _ _ _ (HSG_g.out _ _ _ (HSG_g.out _ _ _ (HSG_g.out _ _ _ (HSG_g.out _ _ _ HS2.out 18 (.int .i64 q0)) 19 (.int .i64 q1)) 20 (.bool q2)) 21 (.int .i64 q3)) 12 (.int .i64 2)).mem,HLL.out ▸ (HSG_g.out _ _ _ (HSG_g.out _ _ _ (HSG_g.out _ _ _ (HSG_g.out _ _ _ (HSG_g.out _ _ _ HS2.out 18 (.int .i64 q0)) 19 (.int .i64 q1)) 20 (.bool q2)) 21 (.int .i64 q3)) 12 (.int .i64 2)).fr⟩
theorem pooled_end {c:Cf} {B gm g n:Nat} {w:World} {ws:List Int} (hm:MemIs B w gm ws n) (hB:B ≤ g) {AP AL A2:Option Addr} {cP cL nd th m c2:Nat} {n0 ph at_ lv_ o0 o1 o3:Int} {o2:Bool} {gq ga:Option Addr} {AP3 AL3:Option Addr} {cP3 cL3 v3 s3 gk:Nat} {n3 At3 l3 a3 e3 q0 q1 q3:Int} {q2:Bool} (hg:w.heap[g]? = some (.cells (k12 c AP cP AL cL nd n0 th A2 m c2 ph at_ gq (some ⟨gk,0,none⟩) ga lv_ o0 o1 o2 o3) 98 (0,0))) (hgk:w.heap[gk]? = some (.cells (k08 c AP3 cP3 AL3 cL3 v3 n3 s3 At3 l3 a3 e3 q0 q1 q2 q3) 115 (0,0))) (h0:0 ≤ at_) (h1:at_ + 1 = m) (hm0:m ≤ 100) (hq:q0 = 0) :
  Calls Try.prog 59 #[.pointer (some ⟨g,0,none⟩)] w fun e w'=>e = .returned (.tuple #[])∧w'.heap[g]? = some (.cells (k12 c AP cP AL cL nd n0 th A2 m c2 3 (at_ + 1) gq (some ⟨gk,0,none⟩) ga lv_ o0 o1 o2 o3) 98 (0,0))∧MemIs B w' gm ws n∧Fr B true [g] w w':=by
 obtain ⟨L,T,HLL,HTe,HT,HSG_g,HS0⟩:=st1 hm hB hg (by decide) (by decide)
 have HNL:Hid (gk ∉ L):=Lib.hid (by rw [HLL.out,List.mem_singleton];intro e;subst e;rw [hg] at hgk;injection hgk with e;injection e with _ e;exact absurd e (by decide))
 have HGC:=Lib.hid hgk
 clear hgk
 have HB0_g:=Lib.hid hg
 clear hm hg
 subst hq
 have d0:((0:Int) != 0) = false:=rfl
 obtain ⟨a,ha⟩:=Int.eq_ofNat_of_zero_le h0
 subst ha
 obtain ⟨b,hb⟩:∃ b:Nat,b = a + 1:=⟨_,rfl⟩
 have q9:IntKind.i64.wrap ((a:Int) + 1) = (b:Int):=by rw [hb];exact IntWalk.i64_in _ (by omega)
 have d1:((b:Int) == (m:Int)) = true:=beq_iff_eq.2 (by omega)
 have d2:(b == m) = true:=beq_iff_eq.2 (by omega)
 have HBA:Hid ((b:Int) = a + 1):=Lib.hid (by omega)
 have HBM:Hid ((a:Int) + 1 = m):=Lib.hid (by omega)
 clear hb h0 h1
 have C_g:=cells_k12 HB0_g.out
 go_enter Try.func59,Try.ntmps59
 go_wp2_with (first|(go_at_call 80;(with_reducible refine (ans08 (blk_fr HGC.out HS0.out.fr HNL.out (fun _=>by decide))).mono ?_);rintro e W1 ⟨rfl,hb'⟩;have HS1:=Lib.hid (HS0.out.below hb');have HB1_g:Hid (W1.heap[g]? = some (.cells (k12 c AP cP AL cL nd n0 th A2 m c2 ph a gq ((some ⟨gk,0,none⟩)) ga lv_ o0 o1 o2 o3) 98 (0,0))):=Lib.hid (blk_below HB0_g.out hb');replace C_g:=cells_k12 HB1_g.out;clear hb'))
 generalize hWd:(World.setCell W1 ⟨g,13,none⟩ (.int .i64 b)) = W2 at ⊢
 have HWd:=Lib.hid hWd
 clear hWd
 have HS2:Hid (St B L T w gm ws n W2):=Lib.hid (by rw [← HWd.out];exact (HSG_g.out _ _ _ HS1.out 13 (.int .i64 b)))
 have HB2_g:Hid (W2.heap[g]? = some (.cells (k12 c AP cP AL cL nd n0 th A2 m c2 ph b gq ((some ⟨gk,0,none⟩)) ga lv_ o0 o1 o2 o3) 98 (0,0))):=Lib.hid (by rw [← HWd.out];exact (blk_set' HB1_g.out 13 (.int .i64 b) rfl))
 replace C_g:=cells_k12 HB2_g.out
 clear HWd
 refine ch_b C_g C_g [0,1,2,3,4,5,6,7,8,9] (fun W3 HWd hHeld=>?_)
 have HS3:=dwS HWd HS2
 have HB3_g:=dwH HWd HB2_g
 replace C_g:=cells_k12 HB3_g.out
 clear HWd
 iterate 10 refine ch_s ?_
 refine ch_z ?_
 clear hHeld
 go_wp2
 (try simp only [Exit.inBlock,Exit.then]);refine bodyPost_ret (results_none rfl _ _ _) rfl ?_
 rw [← HBA.out]
 exact ⟨rfl,(blk_set' HB3_g.out 12 (.int .i64 3) rfl),(HSG_g.out _ _ _ HS3.out 12 (.int .i64 3)).mem,HLL.out ▸ (HSG_g.out _ _ _ HS3.out 12 (.int .i64 3)).fr⟩
theorem pooled_on {c:Cf} {B gm g n:Nat} {w:World} {ws:List Int} (hm:MemIs B w gm ws n) (hB:B ≤ g) {AP AL A2:Option Addr} {cP cL nd th m c2:Nat} {n0 ph at_ lv_ o0 o1 o3:Int} {o2:Bool} {gq ga:Option Addr} {AP3 AL3:Option Addr} {cP3 cL3 v3 s3 gk:Nat} {n3 At3 l3 a3 e3 q0 q1 q3:Int} {q2:Bool} (hg:w.heap[g]? = some (.cells (k12 c AP cP AL cL nd n0 th A2 m c2 ph at_ gq (some ⟨gk,0,none⟩) ga lv_ o0 o1 o2 o3) 98 (0,0))) (hgk:w.heap[gk]? = some (.cells (k08 c AP3 cP3 AL3 cL3 v3 n3 s3 At3 l3 a3 e3 q0 q1 q2 q3) 115 (0,0))) (hc:c.Ok) (hP:Ints w (.slice AP c.pa.length cP) c.pa) (hL:Ints w (.slice AL c.li.length cL) c.li) {r:List Int} (hN:Ints w (.slice A2 m c2) r) (hr:r.length = m∧nodesOk c r) (h0:0 ≤ at_) (h1:at_ + 1 < m) (hm0:m ≤ 100) (hq:q0 = 0) :
  Calls Try.prog 59 #[.pointer (some ⟨g,0,none⟩)] w fun e w'=>e = .returned (.tuple #[])∧∃ gp',w'.heap[g]? = some (.cells (k12 c AP cP AL cL nd n0 th A2 m c2 ph (at_ + 1) gq (some ⟨gp',0,none⟩) ga lv_ o0 o1 o2 o3) 98 (0,0))∧To1 c w w' n0 gp'∧MemIs B w' gm ws n∧Fr B true [g] w w':=by
 obtain ⟨L,T,HLL,HTe,HT,HSG_g,HS0⟩:=st1 hm hB hg (by decide) (by decide)
 have HNL:Hid (gk ∉ L):=Lib.hid (by rw [HLL.out,List.mem_singleton];intro e;subst e;rw [hg] at hgk;injection hgk with e;injection e with _ e;exact absurd e (by decide))
 have HGC:=Lib.hid hgk
 clear hgk
 have HB0_g:=Lib.hid hg
 have HC:=Lib.hid hc
 have HP:=Lib.hid hP
 have HLi:=Lib.hid hL
 have HN:=Lib.hid hN
 have HR:=Lib.hid hr
 clear hc hP hL hN hr
 clear hm hg
 subst hq
 have d0:((0:Int) != 0) = false:=rfl
 obtain ⟨a,ha⟩:=Int.eq_ofNat_of_zero_le h0
 subst ha
 obtain ⟨b,hb⟩:∃ b:Nat,b = a + 1:=⟨_,rfl⟩
 have q9:IntKind.i64.wrap ((a:Int) + 1) = (b:Int):=by rw [hb];exact IntWalk.i64_in _ (by omega)
 have d1:((b:Int) == (m:Int)) = false:=beq_eq_false_iff_ne.2 (by omega)
 have d2:(b == m) = false:=beq_eq_false_iff_ne.2 (by omega)
 have HBA:Hid ((b:Int) = a + 1):=Lib.hid (by omega)
 have HBM:Hid ((a:Int) + 1 < m):=Lib.hid (by omega)
 clear hb h0 h1
 have C_g:=cells_k12 HB0_g.out
 go_enter Try.func59,Try.ntmps59
 go_wp2_with (first|(go_at_call 80;(with_reducible refine (ans08 (blk_fr HGC.out HS0.out.fr HNL.out (fun _=>by decide))).mono ?_);rintro e W1 ⟨rfl,hb'⟩;have HS1:=Lib.hid (HS0.out.below hb');have HB1_g:Hid (W1.heap[g]? = some (.cells (k12 c AP cP AL cL nd n0 th A2 m c2 ph a gq ((some ⟨gk,0,none⟩)) ga lv_ o0 o1 o2 o3) 98 (0,0))):=Lib.hid (blk_below HB0_g.out hb');replace C_g:=cells_k12 HB1_g.out;clear hb'))
 generalize hWd:(World.setCell W1 ⟨g,13,none⟩ (.int .i64 b)) = W2 at ⊢
 have HWd:=Lib.hid hWd
 clear hWd
 have HS2:Hid (St B L T w gm ws n W2):=Lib.hid (by rw [← HWd.out];exact (HSG_g.out _ _ _ HS1.out 13 (.int .i64 b)))
 have HB2_g:Hid (W2.heap[g]? = some (.cells (k12 c AP cP AL cL nd n0 th A2 m c2 ph b gq ((some ⟨gk,0,none⟩)) ga lv_ o0 o1 o2 o3) 98 (0,0))):=Lib.hid (by rw [← HWd.out];exact (blk_set' HB1_g.out 13 (.int .i64 b) rfl))
 replace C_g:=cells_k12 HB2_g.out
 clear HWd
 refine ch_b C_g C_g [0,1,2,3,4,5,6,7,8,9] (fun W3 HWd hHeld=>?_)
 have HS3:=dwS HWd HS2
 have HB3_g:=dwH HWd HB2_g
 replace C_g:=cells_k12 HB3_g.out
 clear HWd
 iterate 10 refine ch_s ?_
 refine ch_z ?_
 clear hHeld
 go_wp2_with (first|(go_at_call 78;(with_reducible refine (pool12 HC.out HS3.out.mem hB HB3_g.out (HP.out.fr HS3.out.fr) (HLi.out.fr HS3.out.fr) (HN.out.fr HS3.out.fr) HR.out (by omega) (by have:=HBA.out;have:=HBM.out;omega)).mono ?_);rintro e W4 ⟨rfl,gp',v,s,hge,hv,hs,hg',his,hm',hf'⟩;have HS4:=Lib.hid (HS3.out.turn hm' hf' (fun p hp hk=>by rw [HTe.out] at hp;rw [List.mem_singleton.1 hp];exact ⟨_,hg'⟩) (fun k hk=>.inl (by rw [HLL.out];exact hk)) HT.out);have HB4_g:Hid (W4.heap[g]? = some (.cells (k12 c AP cP AL cL nd n0 th A2 m c2 ph b gq ((some ⟨gp',0,none⟩)) ga lv_ o0 o1 o2 o3) 98 (0,0))):=Lib.hid (hg');replace C_g:=cells_k12 HB4_g.out;clear hg' hm' hf';have HGE:=Lib.hid (Nat.le_trans HS3.out.fr.size hge);have HV:=Lib.hid hv;have HSS:=Lib.hid hs;have HIS:=Lib.hid his;clear hge hv hs his))
 go_end0
 rw [← HBA.out]
 exact ⟨rfl,gp',HB4_g.out,⟨v,s,HGE.out,HV.out,HSS.out,HIS.out⟩,HS4.out.mem,HLL.out ▸ HS4.out.fr⟩
theorem handle_ok (x y:Int):∃ r b,breadlineref10_Handle.f x y = some (r,b):=by
 unfold breadlineref10_Handle.f
 obtain ⟨v,hv,_⟩:=version_in y
 try simp only [hv,Option.bind_some]
 repeat (first|exact ⟨_,_,rfl⟩|split)
theorem added_end {c:Cf} {B gm g n:Nat} {w:World} {ws:List Int} (hm:MemIs B w gm ws n) (hB:B ≤ g) {AP AL A2:Option Addr} {cP cL nd th m c2:Nat} {n0 ph at_ lv_ o0 o1 o3:Int} {o2:Bool} {gp ga:Option Addr} {AP3 AL3:Option Addr} {cP3 cL3 st gc:Nat} {j wv sv q0 q1 q3:Int} {sn en q2:Bool} (hg:w.heap[g]? = some (.cells (k12 c AP cP AL cL nd n0 th A2 m c2 ph at_ (some ⟨gc,0,none⟩) gp ga lv_ o0 o1 o2 o3) 98 (0,0))) (hgc:w.heap[gc]? = some (.cells (k11 c AP3 cP3 AL3 cL3 st j sn wv sv en q0 q1 q2 q3) 112 (0,0))) (h0:0 ≤ at_) (h1:(m:Int) ≤ at_ + 1) (h2:at_ ≤ 1000) :
  Calls Try.prog 67 #[.pointer (some ⟨g,0,none⟩)] w fun e w'=>e = .returned (.tuple #[])∧∃ hd,w'.heap[g]? = some (.cells (k12 c AP cP AL cL nd n0 th A2 m c2 6 (at_ + 1) (some ⟨gc,0,none⟩) gp ga lv_ 0 hd false 0) 98 (0,0))∧MemIs B w' gm ws n∧Fr B true [g] w w':=by
 obtain ⟨L,T,HLL,HTe,HT,HSG_g,HS0⟩:=st1 hm hB hg (by decide) (by decide)
 have HNL:Hid (gc ∉ L):=Lib.hid (by rw [HLL.out,List.mem_singleton];intro e;subst e;rw [hg] at hgc;injection hgc with e;injection e with _ e;exact absurd e (by decide))
 have HGC:=Lib.hid hgc
 clear hgc
 have HB0_g:=Lib.hid hg
 clear hm hg
 obtain ⟨a,ha⟩:=Int.eq_ofNat_of_zero_le h0
 subst ha
 obtain ⟨b,hb⟩:∃ b:Nat,b = a + 1:=⟨_,rfl⟩
 have q9:IntKind.i64.wrap ((a:Int) + 1) = (b:Int):=by rw [hb];exact IntWalk.i64_in _ (by omega)
 have d1:decide ((b:Int) < (m:Int)) = false:=decide_eq_false (by omega)
 have d2:decide (b < m) = false:=decide_eq_false (by omega)
 have HBA:Hid ((b:Int) = a + 1):=Lib.hid (by omega)
 obtain ⟨hd,hb2,hh⟩:=handle_ok q1 lv_
 have HH:=Lib.hid hh
 clear hb h0 h1 hh
 have C_g:=cells_k12 HB0_g.out
 go_enter Try.func67,Try.ntmps67
 go_wp2
 generalize hWd:(World.setCell w ⟨g,13,none⟩ (.int .i64 b)) = W1 at ⊢
 have HWd:=Lib.hid hWd
 clear hWd
 have HS1:Hid (St B L T w gm ws n W1):=Lib.hid (by rw [← HWd.out];exact (HSG_g.out _ _ _ HS0.out 13 (.int .i64 b)))
 have HB1_g:Hid (W1.heap[g]? = some (.cells (k12 c AP cP AL cL nd n0 th A2 m c2 ph b ((some ⟨gc,0,none⟩)) gp ga lv_ o0 o1 o2 o3) 98 (0,0))):=Lib.hid (by rw [← HWd.out];exact (blk_set' HB0_g.out 13 (.int .i64 b) rfl))
 replace C_g:=cells_k12 HB1_g.out
 clear HWd
 refine ch_b C_g C_g [0,1,2,3,4,5,6,7,8,9] (fun W2 HWd hHeld=>?_)
 have HS2:=dwS HWd HS1
 have HB2_g:=dwH HWd HB1_g
 replace C_g:=cells_k12 HB2_g.out
 clear HWd
 iterate 10 refine ch_s ?_
 refine ch_z ?_
 clear hHeld
 go_wp2
 refine ch_b C_g C_g [0,1,2,3,6,7,8,9,4,5,10,11,12,13,14,15] (fun W3 HWd hHeld=>?_)
 have HS3:=dwS HWd HS2
 have HB3_g:=dwH HWd HB2_g
 replace C_g:=cells_k12 HB3_g.out
 clear HWd
 iterate 8 refine ch_s ?_
 refine ch_1 fun K hK=>?_
 refine goes_s Try.func55 #[.pointer (some ⟨gc,0,none⟩)] ?_
 refine (ans11 (blk_fr HGC.out HS3.out.fr HNL.out (fun _=>by decide))).mono ?_
 rintro e W4 ⟨rfl,hb'⟩
 refine ⟨_,rfl,?_⟩
 have HS4:=Lib.hid (HS3.out.below hb')
 have HB4_g:=Lib.hid (blk_below HB3_g.out hb')
 replace C_g:=cells_k12 HB4_g.out
 clear hb'
 refine hK.out _ _ C_g ?_;clear hK K hHeld;intro hHeld
 try simp only [Act.put,zq1,zq2,zq3]
 refine ch_s ?_
 refine ch_1 fun K hK=>?_
 refine goes_s Try.func88 #[.int .i64 q1,.int .i64 lv_] ?_
 refine (breadlineref10_Handle.calls q1 lv_ hd hb2 _ HH.out).mono ?_
 rintro e w' ⟨rfl,⟨dr,rfl⟩⟩
 refine ⟨_,rfl,?_⟩
 generalize hWd:World.drewN W4 dr = W5 at ⊢
 have HWd:=Lib.hid hWd
 clear hWd
 have HS5:Hid (St B L T w gm ws n W5):=Lib.hid (by rw [← HWd.out];exact HS4.out.drewN dr)
 have HB5_g:=dwH HWd HB4_g
 replace C_g:=cells_k12 HB5_g.out
 clear HWd
 refine hK.out _ _ C_g ?_;clear hK K hHeld;intro hHeld
 try simp only [Act.put,zq1,zq2,zq3]
 iterate 5 refine ch_s ?_
 refine ch_z ?_
 clear hHeld
 go_wp2
 go_end0
 rw [← HBA.out]
 exact ⟨rfl,hd,(blk_set' (blk_set' (blk_set' (blk_set' (blk_set' HB5_g.out 18 (.int .i64 0) rfl) 19 (.int .i64 hd) rfl) 20 (.bool false) rfl) 21 (.int .i64 0) rfl) 12 (.int .i64 6) rfl),(HSG_g.out _ _ _ (HSG_g.out _ _ _ (HSG_g.out _ _ _ (HSG_g.out _ _ _ (HSG_g.out _ _ _ HS5.out 18 (.int .i64 0)) 19 (.int .i64 hd)) 20 (.bool false)) 21 (.int .i64 0)) 12 (.int .i64 6)).mem,HLL.out ▸ (HSG_g.out _ _ _ (HSG_g.out _ _ _ (HSG_g.out _ _ _ (HSG_g.out _ _ _ (HSG_g.out _ _ _ HS5.out 18 (.int .i64 0)) 19 (.int .i64 hd)) 20 (.bool false)) 21 (.int .i64 0)) 12 (.int .i64 6)).fr⟩
def To5 (c:Cf) (w w':World) (d:Int) (k:Nat):Prop:=∃ v x,w.heap.size ≤ k∧v < c.N∧0 ≤ x∧Is06 c v w' k ⟨d,x,0,0,0,0,0⟩
theorem added_on {c:Cf} {B gm g n:Nat} {w:World} {ws:List Int} (hm:MemIs B w gm ws n) (hB:B ≤ g) {AP AL A2:Option Addr} {cP cL nd th m c2:Nat} {n0 ph at_ lv_ o0 o1 o3:Int} {o2:Bool} {gq gp ga:Option Addr}  (hg:w.heap[g]? = some (.cells (k12 c AP cP AL cL nd n0 th A2 m c2 ph at_ gq gp ga lv_ o0 o1 o2 o3) 98 (0,0)))  (hc:c.Ok) (hP:Ints w (.slice AP c.pa.length cP) c.pa) (hL:Ints w (.slice AL c.li.length cL) c.li) {r:List Int} (hN:Ints w (.slice A2 m c2) r) (hr:r.length = m∧nodesOk c r) (h0:0 ≤ at_) (h1:at_ + 1 < m) (hm0:m ≤ 100) (hth:th ≤ 1000) :
  Calls Try.prog 67 #[.pointer (some ⟨g,0,none⟩)] w fun e w'=>e = .returned (.tuple #[])∧∃ ga',w'.heap[g]? = some (.cells (k12 c AP cP AL cL nd n0 th A2 m c2 ph (at_ + 1) gq gp (some ⟨ga',0,none⟩) lv_ o0 o1 o2 o3) 98 (0,0))∧To5 c w w' n0 ga'∧MemIs B w' gm ws n∧Fr B true [g] w w':=by
 obtain ⟨L,T,HLL,HTe,HT,HSG_g,HS0⟩:=st1 hm hB hg (by decide) (by decide)
 have HB0_g:=Lib.hid hg
 have HC:=Lib.hid hc
 have HP:=Lib.hid hP
 have HLi:=Lib.hid hL
 have HN:=Lib.hid hN
 have HR:=Lib.hid hr
 clear hc hP hL hN hr
 clear hm hg
 obtain ⟨a,ha⟩:=Int.eq_ofNat_of_zero_le h0
 subst ha
 obtain ⟨b,hb⟩:∃ b:Nat,b = a + 1:=⟨_,rfl⟩
 have q9:IntKind.i64.wrap ((a:Int) + 1) = (b:Int):=by rw [hb];exact IntWalk.i64_in _ (by omega)
 have d1:decide ((b:Int) < (m:Int)) = true:=decide_eq_true (by omega)
 have d2:decide (b < m) = true:=decide_eq_true (by omega)
 have HBA:Hid ((b:Int) = a + 1):=Lib.hid (by omega)
 obtain ⟨gA,xf,rfl,hx,hne0,HAT⟩:=ints_at (B:=B) (L:=L) HN.out (by omega)
 have ne1:=hne0 _ _ _ _ HB0_g.out (by decide)
 have ne2:=Ne.symm ne1
 clear hne0
 obtain ⟨u,hu,hu2⟩:=node_at HR.out hx (i:=b) (by omega)
 have HU:=Lib.hid hu2
 have HUX:=Lib.hid hu
 have HBM:Hid (b < m):=Lib.hid (by omega)
 have HTH:=Lib.hid hth
 have i1:(0:Int) ≤ (b:Int):=by omega
 have i2:(b:Int) < (m:Int):=by omega
 clear hb h0 h1 hx hu hu2 hth
 have C_g:=cells_k12 HB0_g.out
 go_enter Try.func67,Try.ntmps67
 go_wp2
 generalize hWd:(World.setCell w ⟨g,13,none⟩ (.int .i64 b)) = W1 at ⊢
 have HWd:=Lib.hid hWd
 clear hWd
 have HS1:Hid (St B L T w gm ws n W1):=Lib.hid (by rw [← HWd.out];exact (HSG_g.out _ _ _ HS0.out 13 (.int .i64 b)))
 have HB1_g:Hid (W1.heap[g]? = some (.cells (k12 c AP cP AL cL nd n0 th (some ⟨gA,0,none⟩) m c2 ph b gq gp ga lv_ o0 o1 o2 o3) 98 (0,0))):=Lib.hid (by rw [← HWd.out];exact (blk_set' HB0_g.out 13 (.int .i64 b) rfl))
 replace C_g:=cells_k12 HB1_g.out
 clear HWd
 refine ch_b C_g C_g [0,1,2,3,4,5,6,7,8,9] (fun W2 HWd hHeld=>?_)
 have HS2:=dwS HWd HS1
 have HB2_g:=dwH HWd HB1_g
 replace C_g:=cells_k12 HB2_g.out
 clear HWd
 iterate 10 refine ch_s ?_
 refine ch_z ?_
 clear hHeld
 go_wp2
 refine ch_st (fun wS=>wS.cell? ⟨g,0,none⟩ = some (.int .i64 c.th)∧wS.cell? ⟨g,1,none⟩ = some (.int .i64 c.S)∧wS.cell? ⟨g,2,none⟩ = some (.int .i64 c.ga)∧wS.cell? ⟨g,3,none⟩ = some (.int .i64 c.le)∧wS.cell? ⟨g,4,none⟩ = some (.int .i64 c.re)∧wS.cell? ⟨g,5,none⟩ = some (.int .i64 c.ti)∧wS.cell? ⟨g,6,none⟩ = some (.slice AP c.pa.length cP)∧wS.cell? ⟨g,7,none⟩ = some (.slice AL c.li.length cL)∧wS.cell? ⟨g,9,none⟩ = some (.int .i64 n0)∧wS.cell? ⟨g,10,none⟩ = some (.int .i64 th)∧wS.cell? ⟨g,11,none⟩ = some (.slice (some ⟨gA,0,none⟩) m c2)∧wS.cell? ⟨g,13,none⟩ = some (.int .i64 b)∧wS.cell? ⟨gA,b,none⟩ = some (.int .i64 u)) [26] [0,1,2,3,4,5,6,7,8,9,10,11,12,13,14,15,16,17,18,19,20,21,22,23,24,25,26] (by kernel_rfl) rfl (⟨C_g.2.1,C_g.2.2.1,C_g.2.2.2.1,C_g.2.2.2.2.1,C_g.2.2.2.2.2.1,C_g.2.2.2.2.2.2.1,C_g.2.2.2.2.2.2.2.1,C_g.2.2.2.2.2.2.2.2.1,C_g.2.2.2.2.2.2.2.2.2.2.1,C_g.2.2.2.2.2.2.2.2.2.2.2.1,C_g.2.2.2.2.2.2.2.2.2.2.2.2.1,C_g.2.2.2.2.2.2.2.2.2.2.2.2.2.2.1,(by rw [← HUX.out];exact HAT.out _ HS2.out.fr b HBM.out)⟩) (fun W3 HWd hHeld=>?_)
 have HS3:=dwS HWd HS2
 have HB3_g:=dwH HWd HB2_g
 replace C_g:=cells_k12 HB3_g.out
 clear HWd
 iterate 23 refine ch_s ?_
 refine ch_1 fun K hK=>?_
 refine goes_s Try.func65 #[(cA c AP cP AL cL),.int .i64 u,.int .i64 n0,.int .i64 th] ?_
 refine (put12 HC.out (HP.out.fr HS3.out.fr) (HLi.out.fr HS3.out.fr) HU.out HTH.out).mono ?_
 rintro e W4 ⟨g2,x0,rfl,hx0,hge,his,hb'⟩
 refine ⟨_,rfl,?_⟩
 have HX0:=Lib.hid hx0
 have HG_g2:Hid (w.heap.size ≤ g2):=Lib.hid (Nat.le_trans HS3.out.fr.size hge)
 have HIS:=Lib.hid his
 clear hx0 hge his
 have HS4:=Lib.hid (HS3.out.below hb')
 have HB4_g:=Lib.hid (blk_below HB3_g.out hb')
 replace C_g:=cells_k12 HB4_g.out
 clear hb'
 refine hK.out _ _ (⟨C_g.2.1,C_g.2.2.1,C_g.2.2.2.1,C_g.2.2.2.2.1,C_g.2.2.2.2.2.1,C_g.2.2.2.2.2.2.1,C_g.2.2.2.2.2.2.2.1,C_g.2.2.2.2.2.2.2.2.1,C_g.2.2.2.2.2.2.2.2.2.2.1,C_g.2.2.2.2.2.2.2.2.2.2.2.1,C_g.2.2.2.2.2.2.2.2.2.2.2.2.1,C_g.2.2.2.2.2.2.2.2.2.2.2.2.2.2.1,(by rw [← HUX.out];exact HAT.out _ HS4.out.fr b HBM.out)⟩) ?_;clear hK K hHeld;intro hHeld
 try simp only [Act.put,zq1,zq2,zq3]
 iterate 2 refine ch_s ?_
 refine ch_last rfl rfl (by kernel_rfl) (by decide) (fun K hK=>?_)
 refine skip_ (by rfl) rfl (by go_simp;first|rfl|exact ⟨rfl,rfl⟩) ?_
 refine hK.out _ _ ?_
 clear hK K
 try simp only [Act.put,zq1,zq2,zq3]
 refine ch_z ?_
 clear hHeld
 go_wp2
 (try simp only [Exit.inBlock,Exit.then]);refine bodyPost_ret (results_none rfl _ _ _) rfl ?_
 rw [← HBA.out]
 exact ⟨rfl,g2,(blk_set' HB4_g.out 16 (.pointer (some ⟨g2,0,none⟩)) rfl),⟨u,x0,HG_g2.out,HU.out,HX0.out,HIS.out.fr (Fr.refl B true [g] _ |>.setCell hB (.inl (by simp)) HB4_g.out (by decide) _) (by simp;have:=blk_lt HB0_g.out;have:=HG_g2.out;omega)⟩,(HSG_g.out _ _ _ HS4.out 16 (.pointer (some ⟨g2,0,none⟩))).mem,HLL.out ▸ (HSG_g.out _ _ _ HS4.out 16 (.pointer (some ⟨g2,0,none⟩))).fr⟩
theorem claimed_any {c:Cf} {B gm g n:Nat} {w:World} {ws:List Int} (hm:MemIs B w gm ws n) (hB:B ≤ g) {AP AL A2:Option Addr} {cP cL nd th m c2:Nat} {n0 ph at_ lv_ o0 o1 o3:Int} {o2:Bool} {gp:Option Nat} {ga:Option Addr} {AP3 AL3:Option Addr} {cP3 cL3 st gc:Nat} {j wv sv q0 q1 q3:Int} {sn en q2:Bool} (hg:w.heap[g]? = some (.cells (k12 c AP cP AL cL nd n0 th A2 m c2 ph at_ (some ⟨gc,0,none⟩) (bp gp) ga lv_ o0 o1 o2 o3) 98 (0,0))) (hgc:w.heap[gc]? = some (.cells (k11 c AP3 cP3 AL3 cL3 st j sn wv sv en q0 q1 q2 q3) 112 (0,0))) (hc:c.Ok) (hP:Ints w (.slice AP c.pa.length cP) c.pa) (hL:Ints w (.slice AL c.li.length cL) c.li) {r:List Int} (hN:Ints w (.slice A2 m c2) r) (hr:r.length = m∧nodesOk c r) (h0:0 ≤ at_) (h1:at_ < m) :
  Calls Try.prog 57 #[.pointer (some ⟨g,0,none⟩)] w fun e w'=>e = .returned (.tuple #[])∧∃ ph' gp' p0 p1 p2 p3,w'.heap[g]? = some (.cells (k12 c AP cP AL cL nd n0 th A2 m c2 ph' at_ (some ⟨gc,0,none⟩) (bp gp') ga lv_ p0 p1 p2 p3) 98 (0,0))∧(ph' = 6∧gp' = gp ∨ ph' = 1∧q0 = 0∧∃ k,gp' = some k∧To1 c w w' n0 k)∧MemIs B w' gm ws n∧Fr B true [g] w w':=by
 by_cases hq:q0 = 0
 ·refine (claimed_ok hm hB hg hgc hc hP hL hN hr h0 h1 hq).mono ?_
  rintro e w' ⟨rfl,gp',hg',ht,hm',hf'⟩
  exact ⟨rfl,1,some gp',_,_,_,_,hg',.inr ⟨rfl,hq,gp',rfl,ht⟩,hm',hf'⟩
 ·refine (claimed_err hm hB hg hgc hq).mono ?_
  rintro e w' ⟨rfl,hg',hm',hf'⟩
  exact ⟨rfl,6,gp,_,_,_,_,hg',.inl ⟨rfl,rfl⟩,hm',hf'⟩
theorem pooled_any {c:Cf} {B gm g n:Nat} {w:World} {ws:List Int} (hm:MemIs B w gm ws n) (hB:B ≤ g) {AP AL A2:Option Addr} {cP cL nd th m c2:Nat} {n0 at_ lv_ o0 o1 o3:Int} {o2:Bool} {gq ga:Option Addr} {AP3 AL3:Option Addr} {cP3 cL3 v3 s3 gk:Nat} {n3 At3 l3 a3 e3 q0 q1 q3:Int} {q2:Bool} (hg:w.heap[g]? = some (.cells (k12 c AP cP AL cL nd n0 th A2 m c2 1 at_ gq (some ⟨gk,0,none⟩) ga lv_ o0 o1 o2 o3) 98 (0,0))) (hgk:w.heap[gk]? = some (.cells (k08 c AP3 cP3 AL3 cL3 v3 n3 s3 At3 l3 a3 e3 q0 q1 q2 q3) 115 (0,0))) (hc:c.Ok) (hP:Ints w (.slice AP c.pa.length cP) c.pa) (hL:Ints w (.slice AL c.li.length cL) c.li) {r:List Int} (hN:Ints w (.slice A2 m c2) r) (hr:r.length = m∧nodesOk c r) (h0:0 ≤ at_) (h1:at_ < m) (hm0:m ≤ 100) :
  Calls Try.prog 59 #[.pointer (some ⟨g,0,none⟩)] w fun e w'=>e = .returned (.tuple #[])∧∃ ph' at' gp' p0 p1 p2 p3,w'.heap[g]? = some (.cells (k12 c AP cP AL cL nd n0 th A2 m c2 ph' at' gq (bp gp') ga lv_ p0 p1 p2 p3) 98 (0,0))∧(ph' = 2∧at' = at_∧gp' = some gk ∨ ph' = 3∧at' = at_ + 1∧gp' = some gk ∨ ph' = 1∧at' = at_ + 1∧at' < m∧∃ k,gp' = some k∧To1 c w w' n0 k)∧MemIs B w' gm ws n∧Fr B true [g] w w':=by
 by_cases hq:q0 = 0
 ·by_cases he:at_ + 1 = m
  ·refine (pooled_end hm hB hg hgk h0 he hm0 hq).mono ?_
   rintro e w' ⟨rfl,hg',hm',hf'⟩
   exact ⟨rfl,3,_,some gk,_,_,_,_,hg',.inr (.inl ⟨rfl,rfl,rfl⟩),hm',hf'⟩
  ·refine (pooled_on hm hB hg hgk hc hP hL hN hr h0 (by omega) hm0 hq).mono ?_
   rintro e w' ⟨rfl,gp',hg',ht,hm',hf'⟩
   exact ⟨rfl,1,_,some gp',_,_,_,_,hg',.inr (.inr ⟨rfl,rfl,by omega,gp',rfl,ht⟩),hm',hf'⟩
 ·refine (pooled_err hm hB hg hgk hq).mono ?_
  rintro e w' ⟨rfl,hg',hm',hf'⟩
  exact ⟨rfl,2,_,some gk,_,_,_,_,hg',.inl ⟨rfl,rfl,rfl⟩,hm',hf'⟩
theorem added_any {c:Cf} {B gm g n:Nat} {w:World} {ws:List Int} (hm:MemIs B w gm ws n) (hB:B ≤ g) {AP AL A2:Option Addr} {cP cL nd th m c2:Nat} {n0 at_ lv_ o0 o1 o3:Int} {o2:Bool} {gp:Option Addr} {ga:Option Nat} {AP3 AL3:Option Addr} {cP3 cL3 st gc:Nat} {j wv sv q0 q1 q3:Int} {sn en q2:Bool} (hg:w.heap[g]? = some (.cells (k12 c AP cP AL cL nd n0 th A2 m c2 5 at_ (some ⟨gc,0,none⟩) gp (bp ga) lv_ o0 o1 o2 o3) 98 (0,0))) (hgc:w.heap[gc]? = some (.cells (k11 c AP3 cP3 AL3 cL3 st j sn wv sv en q0 q1 q2 q3) 112 (0,0))) (hc:c.Ok) (hP:Ints w (.slice AP c.pa.length cP) c.pa) (hL:Ints w (.slice AL c.li.length cL) c.li) {r:List Int} (hN:Ints w (.slice A2 m c2) r) (hr:r.length = m∧nodesOk c r) (h0:0 ≤ at_) (h1:at_ < m) (hm0:m ≤ 100) (hth:th ≤ 1000) :
  Calls Try.prog 67 #[.pointer (some ⟨g,0,none⟩)] w fun e w'=>e = .returned (.tuple #[])∧∃ ph' ga' p0 p1 p2 p3,w'.heap[g]? = some (.cells (k12 c AP cP AL cL nd n0 th A2 m c2 ph' (at_ + 1) (some ⟨gc,0,none⟩) gp (bp ga') lv_ p0 p1 p2 p3) 98 (0,0))∧(ph' = 6∧ga' = ga ∨ ph' = 5∧at_ + 1 < m∧∃ k,ga' = some k∧To5 c w w' n0 k)∧MemIs B w' gm ws n∧Fr B true [g] w w':=by
 by_cases he:at_ + 1 < m
 ·refine (added_on hm hB hg hc hP hL hN hr h0 he hm0 hth).mono ?_
  rintro e w' ⟨rfl,ga',hg',ht,hm',hf'⟩
  exact ⟨rfl,5,some ga',_,_,_,_,hg',.inr ⟨rfl,he,ga',rfl,ht⟩,hm',hf'⟩
 ·refine (added_end hm hB hg hgc h0 (by omega) (by omega)).mono ?_
  rintro e w' ⟨rfl,hd,hg',hm',hf'⟩
  exact ⟨rfl,6,ga,_,_,_,_,hg',.inl ⟨rfl,rfl⟩,hm',hf'⟩
end Go.Proofs.Ytadblpcjkahikaa.PTraceRuns

