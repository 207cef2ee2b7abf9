
import Derived.Test.YtadblpcjkahikaaRunsAdd
import Derived.Test.YtadblpcjkahikaaRunsPool
import Derived.Test.YtadblpcjkahikaaRunsShift
import Derived.Test.YtadblpcjkahikaaRunsClaim
import Derived.Test.YtadblpcjkahikaaRunsSnap
namespace Go.Proofs.Ytadblpcjkahikaa.PTraceRuns
open Go.RowKit Go.Proofs.YtadblpcjkahikaaW.PrintWords Go.Proofs.YtadblpcjkahikaaW.PrintLast Go.Proofs.YtadblpcjkahikaaW.PrintMore
set_option linter.unusedVariables false
set_option linter.unusedSimpArgs false
set_option maxHeartbeats 2000000
set_option maxRecDepth 100000
def Mk (w W:World):Prop:=Below w.heap.size w W
namespace Mk
variable {w W W':World}
theorem b (h:Mk w W):Below w.heap.size w W:=h
theorem refl (w:World):Mk w w:=Below.refl _ _
theorem below (h:Mk w W) (hb:Below W.heap.size W W'):Mk w W':=below_step h hb
theorem drewN (h:Mk w W) (n:Nat):Mk w (W.drewN n):=⟨h.os,h.tape,h.output,h.size,h.block⟩
theorem drew (h:Mk w W):Mk w W.drew:=⟨h.os,h.tape,h.output,h.size,h.block⟩
end Mk
theorem own_c {c:Cf} (hc:c.Ok) {w:World} {AP AL:Option Addr} {cP cL:Nat} (hP:Ints w (.slice AP c.pa.length cP) c.pa) (hL:Ints w (.slice AL c.li.length cL) c.li) :
  Calls Try.prog 22 #[(cA c AP cP AL cL)] w fun e w'=>∃ AP' AL' cP' cL',e = .returned (.agg #[.int .i64 c.th,.int .i64 c.S,.int .i64 c.ga,.int .i64 c.le,.int .i64 c.re,.int .i64 c.ti,.slice AP' c.pa.length cP',.slice AL' c.li.length cL'])∧Ints w' (.slice AP' c.pa.length cP') c.pa∧Ints w' (.slice AL' c.li.length cL') c.li∧Below w.heap.size w w':=by
 obtain ⟨A1,c1,e1,h1,k1⟩:=hP.reads
 obtain ⟨A2,c2,e2,h2,k2⟩:=hL.reads
 injection e1 with e1 _ e1'
 injection e2 with e2 _ e2'
 subst e1 e1' e2 e2'
 have hN:c.pa.length ≤ 12:=hc.N2
 have hN2:c.li.length ≤ 12:=by rw [hc.li];exact hc.N2
 refine (breadlineref04_Own.calls _ _ _ _ _ _ _ _ _ _ _ _ c.th c.S c.ga c.le c.re c.ti c.pa c.li w k1 h1 k2 h2 ?_).mono ?_
 ·unfold breadlineref04_Own.f
  simp only [Option.bind_some,List.length_nil,Nat.zero_add,List.nil_append]
  rw [if_pos (by omega),if_pos (by omega)]
 ·rintro e w' ⟨v6,v7,rfl,r6,r7,hb⟩
  obtain ⟨A6,c6,e6⟩:=Kd.R_slice r6
  obtain ⟨A7,c7,e7⟩:=Kd.R_slice r7
  subst e6 e7
  exact ⟨_,_,_,_,rfl,Ints.of r6,Ints.of r7,hb⟩
theorem new11 {c:Cf} (hc:c.Ok) {w:World} {AP AL:Option Addr} {cP cL:Nat} (hP:Ints w (.slice AP c.pa.length cP) c.pa) (hL:Ints w (.slice AL c.li.length cL) c.li) {st:Nat} :
  Calls Try.prog 54 #[(cA c AP cP AL cL),.int .i64 st] w fun e w'=>∃ g,e = .returned (.pointer (some ⟨g,0,none⟩))∧w.heap.size ≤ g∧Is11 c w' g ⟨st,0,false,0,0,false,0,0,false,0⟩∧Below w.heap.size w w':=by
 have HC:=Lib.hid hc
 have HP:=Lib.hid hP
 have HLi:=Lib.hid hL
 have HS0:Hid (Mk w w):=Lib.hid (Mk.refl w)
 clear hc hP hL
 go_enter Try.func54,Try.ntmps54
 go_wp2_with (first|((with_reducible refine gate_dst (N:=2) rfl ?_);refine box_event ?hg (N:=2) ?hd (cs:=#[.int .i64 c.th,.int .i64 c.S,.int .i64 c.ga,.int .i64 c.le,.int .i64 c.re,.int .i64 c.ti,.slice AP c.pa.length cP,.slice AL c.li.length cL]) (t:=24) ?hr ?_;(case hd=>rfl);(case hg=>rfl);(case hr=>first|(go_simp;done)|(go_simp;rfl));intro g1 hg W1 hbox hb';have HG_g1:Hid (w.heap.size ≤ g1):=Lib.hid (by rw [hg];exact HS0.out.size);have HS1:=Lib.hid ((HS0.out.below hb'));have HB1_g1:Hid (W1.heap[g1]? = some (.cells (#[.int .i64 c.th,.int .i64 c.S,.int .i64 c.ga,.int .i64 c.le,.int .i64 c.re,.int .i64 c.ti,.slice AP c.pa.length cP,.slice AL c.li.length cL]:Array Value) 24 (0,0))):=Lib.hid (hbox);have C_g1:=cells8 HB1_g1.out;clear hb' hbox hg)|(go_at_call 22;(with_reducible refine (own_c HC.out (HP.out.below HS1.out.b) (HLi.out.below HS1.out.b)).mono ?_);rintro e W2 ⟨AP2,AL2,cP2,cL2,rfl,hp2,hl2,hb'⟩;have HS2:=Lib.hid (HS1.out.below hb');have HB2_g1:=Lib.hid (blk_below HB1_g1.out hb');replace C_g1:=cells8 HB2_g1.out;have HP2:=Lib.hid hp2;have HL2:=Lib.hid hl2;clear hp2 hl2;clear hb')|((with_reducible refine gate_dst (N:=9) rfl ?_);refine box_event ?hg (N:=9) ?hd (cs:=#[.int .i64 c.th,.int .i64 c.S,.int .i64 c.ga,.int .i64 c.le,.int .i64 c.re,.int .i64 c.ti,.slice AP2 c.pa.length cP2,.slice AL2 c.li.length cL2,.int .i64 st,.int .i64 0,.bool false,.int .i64 0,.int .i64 0,.bool false,.int .i64 0,.int .i64 0,.bool false,.int .i64 0]) (t:=112) ?hr ?_;(case hd=>rfl);(case hg=>rfl);(case hr=>first|(go_simp;done)|(go_simp;rfl));intro g2 hg W3 hbox hb';have HG_g2:Hid (w.heap.size ≤ g2):=Lib.hid (by rw [hg];exact HS2.out.size);have HR3_P:Hid (Ints W3 (.slice AP2 c.pa.length cP2) (c.pa)):=Lib.hid ((HP2.out).below hb');have HR3_L:Hid (Ints W3 (.slice AL2 c.li.length cL2) (c.li)):=Lib.hid ((HL2.out).below hb');have HS3:=Lib.hid ((HS2.out.below hb'));have HB3_g1:=Lib.hid (blk_below HB2_g1.out hb');have HB3_g2:Hid (W3.heap[g2]? = some (.cells (#[.int .i64 c.th,.int .i64 c.S,.int .i64 c.ga,.int .i64 c.le,.int .i64 c.re,.int .i64 c.ti,.slice AP2 c.pa.length cP2,.slice AL2 c.li.length cL2,.int .i64 st,.int .i64 0,.bool false,.int .i64 0,.int .i64 0,.bool false,.int .i64 0,.int .i64 0,.bool false,.int .i64 0]:Array Value) 112 (0,0))):=Lib.hid (hbox);replace C_g1:=cells8 HB3_g1.out;have C_g2:=cells18 HB3_g2.out;clear hb' hbox hg))
 go_ret
 exact ⟨g2,rfl,HG_g2.out,⟨_,_,_,_,HB3_g2.out,HR3_P.out,HR3_L.out⟩,HS3.out⟩
theorem new08 {c:Cf} (hc:c.Ok) {w:World} {AP AL:Option Addr} {cP cL:Nat} (hP:Ints w (.slice AP c.pa.length cP) c.pa) (hL:Ints w (.slice AL c.li.length cL) c.li) {v s:Nat} {n0:Int} :
  Calls Try.prog 89 #[(cA c AP cP AL cL),.int .i64 v,.int .i64 n0,.int .i64 s] w fun e w'=>∃ g,e = .returned (.pointer (some ⟨g,0,none⟩))∧w.heap.size ≤ g∧Is08 c v s w' g ⟨n0,0,0,0,0,0,0,false,0⟩∧Below w.heap.size w w':=by
 have HC:=Lib.hid hc
 have HP:=Lib.hid hP
 have HLi:=Lib.hid hL
 have HS0:Hid (Mk w w):=Lib.hid (Mk.refl w)
 clear hc hP hL
 go_enter Try.func89,Try.ntmps89
 go_wp2_with (first|((with_reducible refine gate_dst (N:=4) rfl ?_);refine box_event ?hg (N:=4) ?hd (cs:=#[.int .i64 c.th,.int .i64 c.S,.int .i64 c.ga,.int .i64 c.le,.int .i64 c.re,.int .i64 c.ti,.slice AP c.pa.length cP,.slice AL c.li.length cL]) (t:=24) ?hr ?_;(case hd=>rfl);(case hg=>rfl);(case hr=>first|(go_simp;done)|(go_simp;rfl));intro g1 hg W1 hbox hb';have HG_g1:Hid (w.heap.size ≤ g1):=Lib.hid (by rw [hg];exact HS0.out.size);have HS1:=Lib.hid ((HS0.out.below hb'));have HB1_g1:Hid (W1.heap[g1]? = some (.cells (#[.int .i64 c.th,.int .i64 c.S,.int .i64 c.ga,.int .i64 c.le,.int .i64 c.re,.int .i64 c.ti,.slice AP c.pa.length cP,.slice AL c.li.length cL]:Array Value) 24 (0,0))):=Lib.hid (hbox);have C_g1:=cells8 HB1_g1.out;clear hb' hbox hg)|(go_at_call 22;(with_reducible refine (own_c HC.out (HP.out.below HS1.out.b) (HLi.out.below HS1.out.b)).mono ?_);rintro e W2 ⟨AP2,AL2,cP2,cL2,rfl,hp2,hl2,hb'⟩;have HS2:=Lib.hid (HS1.out.below hb');have HB2_g1:=Lib.hid (blk_below HB1_g1.out hb');replace C_g1:=cells8 HB2_g1.out;have HP2:=Lib.hid hp2;have HL2:=Lib.hid hl2;clear hp2 hl2;clear hb')|((with_reducible refine gate_dst (N:=15) rfl ?_);refine box_event ?hg (N:=15) ?hd (cs:=#[.int .i64 c.th,.int .i64 c.S,.int .i64 c.ga,.int .i64 c.le,.int .i64 c.re,.int .i64 c.ti,.slice AP2 c.pa.length cP2,.slice AL2 c.li.length cL2,.int .i64 v,.int .i64 n0,.int .i64 s,.int .i64 0,.int .i64 0,.int .i64 0,.int .i64 0,.int .i64 0,.int .i64 0,.bool false,.int .i64 0]) (t:=115) ?hr ?_;(case hd=>rfl);(case hg=>rfl);(case hr=>first|(go_simp;done)|(go_simp;rfl));intro g2 hg W3 hbox hb';have HG_g2:Hid (w.heap.size ≤ g2):=Lib.hid (by rw [hg];exact HS2.out.size);have HR3_P:Hid (Ints W3 (.slice AP2 c.pa.length cP2) (c.pa)):=Lib.hid ((HP2.out).below hb');have HR3_L:Hid (Ints W3 (.slice AL2 c.li.length cL2) (c.li)):=Lib.hid ((HL2.out).below hb');have HS3:=Lib.hid ((HS2.out.below hb'));have HB3_g1:=Lib.hid (blk_below HB2_g1.out hb');have HB3_g2:Hid (W3.heap[g2]? = some (.cells (#[.int .i64 c.th,.int .i64 c.S,.int .i64 c.ga,.int .i64 c.le,.int .i64 c.re,.int .i64 c.ti,.slice AP2 c.pa.length cP2,.slice AL2 c.li.length cL2,.int .i64 v,.int .i64 n0,.int .i64 s,.int .i64 0,.int .i64 0,.int .i64 0,.int .i64 0,.int .i64 0,.int .i64 0,.bool false,.int .i64 0]:Array Value) 115 (0,0))):=Lib.hid (hbox);replace C_g1:=cells8 HB3_g1.out;have C_g2:=cells19 HB3_g2.out;clear hb' hbox hg))
 go_ret
 exact ⟨g2,rfl,HG_g2.out,⟨_,_,_,_,HB3_g2.out,HR3_P.out,HR3_L.out⟩,HS3.out⟩
theorem raise09 {c:Cf} (hc:c.Ok) {w:World} {AP AL:Option Addr} {cP cL:Nat} (hP:Ints w (.slice AP c.pa.length cP) c.pa) (hL:Ints w (.slice AL c.li.length cL) c.li) {v:Nat} {n0:Int} :
  Calls Try.prog 40 #[(cA c AP cP AL cL),.int .i64 v,.int .i64 n0] w fun e w'=>∃ g,e = .returned (.pointer (some ⟨g,0,none⟩))∧w.heap.size ≤ g∧Is09 c v w' g ⟨2,n0,0,0,0,0,false,0⟩∧Below w.heap.size w w':=by
 have HC:=Lib.hid hc
 have HP:=Lib.hid hP
 have HLi:=Lib.hid hL
 have HS0:Hid (Mk w w):=Lib.hid (Mk.refl w)
 clear hc hP hL
 go_enter Try.func40,Try.ntmps40
 go_wp2_with (first|((with_reducible refine gate_dst (N:=3) rfl ?_);refine box_event ?hg (N:=3) ?hd (cs:=#[.int .i64 c.th,.int .i64 c.S,.int .i64 c.ga,.int .i64 c.le,.int .i64 c.re,.int .i64 c.ti,.slice AP c.pa.length cP,.slice AL c.li.length cL]) (t:=24) ?hr ?_;(case hd=>rfl);(case hg=>rfl);(case hr=>first|(go_simp;done)|(go_simp;rfl));intro g1 hg W1 hbox hb';have HG_g1:Hid (w.heap.size ≤ g1):=Lib.hid (by rw [hg];exact HS0.out.size);have HS1:=Lib.hid ((HS0.out.below hb'));have HB1_g1:Hid (W1.heap[g1]? = some (.cells (#[.int .i64 c.th,.int .i64 c.S,.int .i64 c.ga,.int .i64 c.le,.int .i64 c.re,.int .i64 c.ti,.slice AP c.pa.length cP,.slice AL c.li.length cL]:Array Value) 24 (0,0))):=Lib.hid (hbox);have C_g1:=cells8 HB1_g1.out;clear hb' hbox hg)|(go_at_call 22;(with_reducible refine (own_c HC.out (HP.out.below HS1.out.b) (HLi.out.below HS1.out.b)).mono ?_);rintro e W2 ⟨AP2,AL2,cP2,cL2,rfl,hp2,hl2,hb'⟩;have HS2:=Lib.hid (HS1.out.below hb');have HB2_g1:=Lib.hid (blk_below HB1_g1.out hb');replace C_g1:=cells8 HB2_g1.out;have HP2:=Lib.hid hp2;have HL2:=Lib.hid hl2;clear hp2 hl2;clear hb')|((with_reducible refine gate_dst (N:=12) rfl ?_);refine box_event ?hg (N:=12) ?hd (cs:=#[.int .i64 2,.int .i64 c.th,.int .i64 c.S,.int .i64 c.ga,.int .i64 c.le,.int .i64 c.re,.int .i64 c.ti,.slice AP2 c.pa.length cP2,.slice AL2 c.li.length cL2,.int .i64 v,.int .i64 n0,.int .i64 0,.int .i64 0,.int .i64 0,.int .i64 0,.bool false,.int .i64 0]) (t:=102) ?hr ?_;(case hd=>rfl);(case hg=>rfl);(case hr=>first|(go_simp;done)|(go_simp;rfl));intro g2 hg W3 hbox hb';have HG_g2:Hid (w.heap.size ≤ g2):=Lib.hid (by rw [hg];exact HS2.out.size);have HR3_P:Hid (Ints W3 (.slice AP2 c.pa.length cP2) (c.pa)):=Lib.hid ((HP2.out).below hb');have HR3_L:Hid (Ints W3 (.slice AL2 c.li.length cL2) (c.li)):=Lib.hid ((HL2.out).below hb');have HS3:=Lib.hid ((HS2.out.below hb'));have HB3_g1:=Lib.hid (blk_below HB2_g1.out hb');have HB3_g2:Hid (W3.heap[g2]? = some (.cells (#[.int .i64 2,.int .i64 c.th,.int .i64 c.S,.int .i64 c.ga,.int .i64 c.le,.int .i64 c.re,.int .i64 c.ti,.slice AP2 c.pa.length cP2,.slice AL2 c.li.length cL2,.int .i64 v,.int .i64 n0,.int .i64 0,.int .i64 0,.int .i64 0,.int .i64 0,.bool false,.int .i64 0]:Array Value) 102 (0,0))):=Lib.hid (hbox);replace C_g1:=cells8 HB3_g1.out;have C_g2:=cells17 HB3_g2.out;clear hb' hbox hg))
 go_ret
 exact ⟨g2,rfl,HG_g2.out,⟨_,_,_,_,HB3_g2.out,HR3_P.out,HR3_L.out⟩,HS3.out⟩
theorem lower09 {c:Cf} (hc:c.Ok) {w:World} {AP AL:Option Addr} {cP cL:Nat} (hP:Ints w (.slice AP c.pa.length cP) c.pa) (hL:Ints w (.slice AL c.li.length cL) c.li) {v:Nat} {n0:Int} :
  Calls Try.prog 41 #[(cA c AP cP AL cL),.int .i64 v,.int .i64 n0] w fun e w'=>∃ g,e = .returned (.pointer (some ⟨g,0,none⟩))∧w.heap.size ≤ g∧Is09 c v w' g ⟨3,n0,0,0,0,0,false,0⟩∧Below w.heap.size w w':=by
 have HC:=Lib.hid hc
 have HP:=Lib.hid hP
 have HLi:=Lib.hid hL
 have HS0:Hid (Mk w w):=Lib.hid (Mk.refl w)
 clear hc hP hL
 go_enter Try.func41,Try.ntmps41
 go_wp2_with (first|((with_reducible refine gate_dst (N:=3) rfl ?_);refine box_event ?hg (N:=3) ?hd (cs:=#[.int .i64 c.th,.int .i64 c.S,.int .i64 c.ga,.int .i64 c.le,.int .i64 c.re,.int .i64 c.ti,.slice AP c.pa.length cP,.slice AL c.li.length cL]) (t:=24) ?hr ?_;(case hd=>rfl);(case hg=>rfl);(case hr=>first|(go_simp;done)|(go_simp;rfl));intro g1 hg W1 hbox hb';have HG_g1:Hid (w.heap.size ≤ g1):=Lib.hid (by rw [hg];exact HS0.out.size);have HS1:=Lib.hid ((HS0.out.below hb'));have HB1_g1:Hid (W1.heap[g1]? = some (.cells (#[.int .i64 c.th,.int .i64 c.S,.int .i64 c.ga,.int .i64 c.le,.int .i64 c.re,.int .i64 c.ti,.slice AP c.pa.length cP,.slice AL c.li.length cL]:Array Value) 24 (0,0))):=Lib.hid (hbox);have C_g1:=cells8 HB1_g1.out;clear hb' hbox hg)|(go_at_call 22;(with_reducible refine (own_c HC.out (HP.out.below HS1.out.b) (HLi.out.below HS1.out.b)).mono ?_);rintro e W2 ⟨AP2,AL2,cP2,cL2,rfl,hp2,hl2,hb'⟩;have HS2:=Lib.hid (HS1.out.below hb');have HB2_g1:=Lib.hid (blk_below HB1_g1.out hb');replace C_g1:=cells8 HB2_g1.out;have HP2:=Lib.hid hp2;have HL2:=Lib.hid hl2;clear hp2 hl2;clear hb')|((with_reducible refine gate_dst (N:=12) rfl ?_);refine box_event ?hg (N:=12) ?hd (cs:=#[.int .i64 3,.int .i64 c.th,.int .i64 c.S,.int .i64 c.ga,.int .i64 c.le,.int .i64 c.re,.int .i64 c.ti,.slice AP2 c.pa.length cP2,.slice AL2 c.li.length cL2,.int .i64 v,.int .i64 n0,.int .i64 0,.int .i64 0,.int .i64 0,.int .i64 0,.bool false,.int .i64 0]) (t:=102) ?hr ?_;(case hd=>rfl);(case hg=>rfl);(case hr=>first|(go_simp;done)|(go_simp;rfl));intro g2 hg W3 hbox hb';have HG_g2:Hid (w.heap.size ≤ g2):=Lib.hid (by rw [hg];exact HS2.out.size);have HR3_P:Hid (Ints W3 (.slice AP2 c.pa.length cP2) (c.pa)):=Lib.hid ((HP2.out).below hb');have HR3_L:Hid (Ints W3 (.slice AL2 c.li.length cL2) (c.li)):=Lib.hid ((HL2.out).below hb');have HS3:=Lib.hid ((HS2.out.below hb'));have HB3_g1:=Lib.hid (blk_below HB2_g1.out hb');have HB3_g2:Hid (W3.heap[g2]? = some (.cells (#[.int .i64 3,.int .i64 c.th,.int .i64 c.S,.int .i64 c.ga,.int .i64 c.le,.int .i64 c.re,.int .i64 c.ti,.slice AP2 c.pa.length cP2,.slice AL2 c.li.length cL2,.int .i64 v,.int .i64 n0,.int .i64 0,.int .i64 0,.int .i64 0,.int .i64 0,.bool false,.int .i64 0]:Array Value) 102 (0,0))):=Lib.hid (hbox);replace C_g1:=cells8 HB3_g1.out;have C_g2:=cells17 HB3_g2.out;clear hb' hbox hg))
 go_ret
 exact ⟨g2,rfl,HG_g2.out,⟨_,_,_,_,HB3_g2.out,HR3_P.out,HR3_L.out⟩,HS3.out⟩
theorem begin_ok (th:Nat) (h:th ≤ 1000):∃ r:Int,breadlineref02_Begin.f th = some r∧0 ≤ r:=by
 unfold breadlineref02_Begin.f
 refine ⟨_,rfl,Int.tmod_nonneg _ ?_⟩
 rw [show wrap64 ((th:Int) + 1) = (th:Int) + 1 by unfold wrap64;omega,show wrap64 (((th:Int) + 1) * 2654435761) = ((th:Int) + 1) * 2654435761 by unfold wrap64;omega]
 omega
theorem new06 {c:Cf} {v th b:Nat} (hb:c.na v (2 + c.S) = b) (hth:th ≤ 1000) {d:Int} (w:World) :
  Calls Try.prog 83 #[.int .i64 b,.int .i64 c.S,.int .i64 c.ga,.int .i64 d,.int .i64 th] w fun e w'=>∃ g x,e = .returned (.pointer (some ⟨g,0,none⟩))∧0 ≤ x∧w.heap.size ≤ g∧Is06 c v w' g ⟨d,x,0,0,0,0,0⟩∧Below w.heap.size w w':=by
 obtain ⟨x0,hx,hx0⟩:=begin_ok th hth
 have HX:=Lib.hid hx
 have HX0:=Lib.hid hx0
 have HBS:=Lib.hid hb
 have HS0:Hid (Mk w w):=Lib.hid (Mk.refl w)
 clear hx hx0 hb hth
 go_enter Try.func83,Try.ntmps83
 go_wp2_with (first|(go_at_call 91;(with_reducible refine (breadlineref02_Begin.calls th x0 _ HX.out).mono ?_);rintro e w' ⟨rfl,⟨nd,rfl⟩⟩;generalize hWd:World.drewN w nd = W1 at ⊢;have HWd:=Lib.hid hWd;clear hWd;have HS1:Hid (Mk w W1):=Lib.hid (by rw [← HWd.out];exact HS0.out.drewN nd);clear HWd)|((with_reducible refine gate_dst (N:=18) rfl ?_);refine box_event ?hg (N:=18) ?hd (cs:=#[.int .i64 b,.int .i64 c.S,.int .i64 c.ga,.int .i64 d,.int .i64 x0,.int .i64 0,.int .i64 0,.int .i64 0,.int .i64 0,.int .i64 0]) (t:=122) ?hr ?_;(case hd=>rfl);(case hg=>rfl);(case hr=>first|(go_simp;done)|(go_simp;rfl));intro g2 hg W2 hbox hb';have HG_g2:Hid (w.heap.size ≤ g2):=Lib.hid (by rw [hg];exact HS1.out.size);have HS2:=Lib.hid ((HS1.out.below hb'));have HB2_g2:Hid (W2.heap[g2]? = some (.cells (#[.int .i64 b,.int .i64 c.S,.int .i64 c.ga,.int .i64 d,.int .i64 x0,.int .i64 0,.int .i64 0,.int .i64 0,.int .i64 0,.int .i64 0]:Array Value) 122 (0,0))):=Lib.hid (hbox);have C_g2:=cells10 HB2_g2.out;clear hb' hbox hg))
 go_ret
 exact ⟨g2,x0,rfl,HX0.out,HG_g2.out,by unfold Is06;rw [HBS.out];exact HB2_g2.out,HS2.out⟩
theorem put12 {c:Cf} (hc:c.Ok) {w:World} {AP AL:Option Addr} {cP cL:Nat} (hP:Ints w (.slice AP c.pa.length cP) c.pa) (hL:Ints w (.slice AL c.li.length cL) c.li) {v th:Nat} (hv:v < c.N) (hth:th ≤ 1000) {d:Int} :
  Calls Try.prog 65 #[(cA c AP cP AL cL),.int .i64 v,.int .i64 d,.int .i64 th] w fun e w'=>∃ g x,e = .returned (.pointer (some ⟨g,0,none⟩))∧0 ≤ x∧w.heap.size ≤ g∧Is06 c v w' g ⟨d,x,0,0,0,0,0⟩∧Below w.heap.size w w':=by
 have HV:=Lib.hid hv
 have HTH:=Lib.hid hth
 obtain ⟨b,hb⟩:∃ b,c.na v (2 + c.S) = b:=⟨_,rfl⟩
 have HBS:=Lib.hid hb
 clear hv hth hb
 have HC:=Lib.hid hc
 have HP:=Lib.hid hP
 have HLi:=Lib.hid hL
 have HS0:Hid (Mk w w):=Lib.hid (Mk.refl w)
 clear hc hP hL
 go_enter Try.func65,Try.ntmps65
 go_wp2_with (first|((with_reducible refine gate_dst (N:=4) rfl ?_);refine box_event ?hg (N:=4) ?hd (cs:=#[.int .i64 c.th,.int .i64 c.S,.int .i64 c.ga,.int .i64 c.le,.int .i64 c.re,.int .i64 c.ti,.slice AP c.pa.length cP,.slice AL c.li.length cL]) (t:=24) ?hr ?_;(case hd=>rfl);(case hg=>rfl);(case hr=>first|(go_simp;done)|(go_simp;rfl));intro g1 hg W1 hbox hb';have HG_g1:Hid (w.heap.size ≤ g1):=Lib.hid (by rw [hg];exact HS0.out.size);have HS1:=Lib.hid ((HS0.out.below hb'));have HB1_g1:Hid (W1.heap[g1]? = some (.cells (#[.int .i64 c.th,.int .i64 c.S,.int .i64 c.ga,.int .i64 c.le,.int .i64 c.re,.int .i64 c.ti,.slice AP c.pa.length cP,.slice AL c.li.length cL]:Array Value) 24 (0,0))):=Lib.hid (hbox);have C_g1:=cells8 HB1_g1.out;clear hb' hbox hg))
 refine ch_d C_g1 C_g1 [9] [0,1,3,4,5,6,7,8,2,9,10] (fun W2 HWd hHeld=>?_)
 have HS2:Hid (Mk w W2):=Lib.hid (by rw [← HWd.out];exact HS1.out.drew)
 have HB2_g1:=dwH HWd HB1_g1
 replace C_g1:=cells8 HB2_g1.out
 clear HWd
 iterate 8 refine ch_s ?_
 refine ch_1 fun K hK=>?_
 refine goes_s Try.func35 #[(cA c AP cP AL cL),.int .i64 v] ?_
 refine (counter_c HC.out (HP.out.below HS2.out.b) (HLi.out.below HS2.out.b) (v:=v) (by have:=HV.out;omega)).mono ?_
 rintro e W3 ⟨rfl,hb'⟩
 refine ⟨_,rfl,?_⟩
 have HS3:=Lib.hid (HS2.out.below hb')
 have HB3_g1:=Lib.hid (blk_below HB2_g1.out hb')
 replace C_g1:=cells8 HB3_g1.out
 rw [HBS.out]
 clear hb'
 refine hK.out _ _ C_g1 ?_;clear hK K hHeld;intro hHeld
 try simp only [Act.put,zq1,zq2,zq3]
 refine ch_last rfl rfl (by kernel_rfl) (by decide) (fun K hK=>?_)
 refine goes_s Try.func83 #[.int .i64 b,.int .i64 c.S,.int .i64 c.ga,.int .i64 d,.int .i64 th] ?_
 refine (new06 HBS.out HTH.out W3).mono ?_
 rintro e W4 ⟨g2,x0,rfl,hx0,hge,his,hb'⟩
 refine ⟨_,rfl,?_⟩
 have HX0:=Lib.hid hx0
 have HG_g2:Hid (w.heap.size ≤ g2):=Lib.hid (Nat.le_trans HS3.out.size hge)
 have HIS:=Lib.hid his
 clear hx0 hge his
 have HS4:=Lib.hid (HS3.out.below hb')
 have HB4_g1:=Lib.hid (blk_below HB3_g1.out hb')
 replace C_g1:=cells8 HB4_g1.out
 clear hb'
 refine hK.out _ _ ?_
 clear hK K
 try simp only [Act.put,zq1,zq2,zq3]
 refine ch_s ?_
 refine ch_z ?_
 clear hHeld
 go_wp2
 go_ret
 exact ⟨g2,x0,rfl,HX0.out,HG_g2.out,HIS.out,HS4.out⟩
def nodesOk (c:Cf) (r:List Int):Prop:=∀ x ∈ r,0 ≤ x∧x < c.N
theorem path_l {c:Cf} (hc:c.Ok):∀ (i:Nat) (xs:List Int),i < c.N→xs.length + i < 100→nodesOk c xs→∃ k r,breadlineref04_Path.l0 k xs (i:Int) c.th c.S c.ga c.le c.re c.ti c.pa c.li = some r∧0 < r.length∧r.length ≤ xs.length + i + 1∧nodesOk c r:=by
 intro i
 induction i using Nat.strongRecOn with
 | _ i ih =>
  intro xs hi hl hx
  have hrd:rd c.pa (i:Int) = c.pa.getD i 0:=by unfold rd;rw [Int.toNat_natCast]
  have hlen:(i:Int) < (c.pa.length:Int):=by have:c.N = c.pa.length:=rfl;omega
  have hx2:nodesOk c (xs ++ [(i:Int)]):=fun y hy=>by
   rcases List.mem_append.1 hy with h|h
   ·exact hx y h
   ·rw [List.mem_singleton.1 h];omega
  by_cases h0:i = 0
  ·subst h0
   refine ⟨2,xs ++ [((0:Nat):Int)],?_,by simp,by simp,hx2⟩
   rw [breadlineref04_Path.l0,if_pos (by omega),if_pos (by omega),if_pos (by omega),if_pos hlen,hrd,hc.pa0,breadlineref04_Path.l0,if_neg (by omega)]
  ·obtain ⟨h1,h2⟩:=hc.pa i (by omega) hi
   obtain ⟨j,hj⟩:=Int.eq_ofNat_of_zero_le h1
   obtain ⟨k,r,hk,hr1,hr2,hr3⟩:=ih j (by omega) (xs ++ [(i:Int)]) (by omega) (by rw [List.length_append,List.length_singleton];omega) hx2
   refine ⟨k + 1,r,?_,hr1,by rw [List.length_append,List.length_singleton] at hr2;omega,hr3⟩
   rw [breadlineref04_Path.l0,if_pos (by omega),if_pos (by omega),if_pos (by omega),if_pos hlen,hrd,hj]
   exact hk
theorem path_c {c:Cf} (hc:c.Ok) {w:World} {AP AL:Option Addr} {cP cL:Nat} (hP:Ints w (.slice AP c.pa.length cP) c.pa) (hL:Ints w (.slice AL c.li.length cL) c.li) {v:Nat} (hv:v < c.N) :
  Calls Try.prog 53 #[(cA c AP cP AL cL),.int .i64 v] w fun e w'=>∃ A cp r,e = .returned (.slice A r.length cp)∧Ints w' (.slice A r.length cp) r∧0 < r.length∧r.length ≤ 100∧nodesOk c r∧Below w.heap.size w w':=by
 obtain ⟨A1,c1,e1,h1,k1⟩:=hP.reads
 obtain ⟨A2,c2,e2,h2,k2⟩:=hL.reads
 injection e1 with e1 _ e1'
 injection e2 with e2 _ e2'
 subst e1 e1' e2 e2'
 have hN2:=hc.N2
 obtain ⟨k,r,hk,hr1,hr2,hr3⟩:=path_l hc v [] hv (by rw [List.length_nil];omega) (fun _ h=>by cases h)
 refine (breadlineref04_Path.calls (k + 1) _ _ _ _ _ _ _ _ _ _ _ _ v r w k1 h1 k2 h2 ?_).mono ?_
 ·have hlen:¬ ((v:Int) ≥ (c.pa.length:Int)):=by have:c.N = c.pa.length:=rfl;omega
  unfold breadlineref04_Path.f
  rw [if_neg (by omega),decide_eq_false hlen,breadlineref04_Path.j0,if_neg (by decide)]
  exact hk
 ·rintro e w' ⟨v0,rfl,r0,hb⟩
  obtain ⟨A6,c6,e6⟩:=Kd.R_slice r0
  subst e6
  exact ⟨_,_,_,rfl,Ints.of r0,hr1,by rw [List.length_nil] at hr2;omega,hr3,hb⟩
end Go.Proofs.Ytadblpcjkahikaa.PTraceRuns

