
import Derived.Test.YtadblpcjkahikaaRunsTurn
namespace Go.Proofs.Ytadblpcjkahikaa.PTraceRuns
open Go.RowKit Go.Proofs.YtadblpcjkahikaaW.PrintWords Go.Proofs.YtadblpcjkahikaaW.PrintLast Go.Proofs.YtadblpcjkahikaaW.PrintMore
set_option linter.unusedVariables false
set_option linter.unusedSimpArgs false
set_option maxHeartbeats 2000000
set_option maxRecDepth 100000
structure S07 where
 sp:Nat
 l:Int
 gl:Bool
 got:List Int
 o0:Int
 o1:Int
 o2:Bool
 o3:Int
 en:Bool
def k07 (bs sp:Nat) (l:Int) (gl:Bool) (AG:Option Addr) (m cG:Nat) (o0 o1:Int) (o2:Bool) (o3:Int) (en:Bool):Array Value:=#[.int .i64 bs,.int .i64 sp,.int .i64 l,.bool gl,.slice AG m cG,.int .i64 o0,.int .i64 o1,.bool o2,.int .i64 o3,.bool en]
theorem cells_k07 {bs sp:Nat} {l:Int} {gl:Bool} {AG:Option Addr} {m cG:Nat} {o0 o1:Int} {o2:Bool} {o3:Int} {en:Bool} {w:World} {g:Nat} (h:w.heap[g]? = some (.cells (k07 bs sp l gl AG m cG o0 o1 o2 o3 en) 104 (0,0))):Sat (fun w=>(∀ i,w.frozen? ⟨g,i,none⟩ = false)∧w.cell? ⟨g,0,none⟩ = some (.int .i64 bs)∧w.cell? ⟨g,1,none⟩ = some (.int .i64 sp)∧w.cell? ⟨g,2,none⟩ = some (.int .i64 l)∧w.cell? ⟨g,3,none⟩ = some (.bool gl)∧w.cell? ⟨g,4,none⟩ = some (.slice AG m cG)∧w.cell? ⟨g,5,none⟩ = some (.int .i64 o0)∧w.cell? ⟨g,6,none⟩ = some (.int .i64 o1)∧w.cell? ⟨g,7,none⟩ = some (.bool o2)∧w.cell? ⟨g,8,none⟩ = some (.int .i64 o3)∧w.cell? ⟨g,9,none⟩ = some (.bool en)) w:=by unfold k07 at h;exact cells10 h
def Is07 (bs:Nat) (w:World) (g:Nat) (x:S07):Prop :=
 ∃ AG m cG,x.got.length = m∧w.heap[g]? = some (.cells (k07 bs x.sp x.l x.gl AG m cG x.o0 x.o1 x.o2 x.o3 x.en) 104 (0,0))∧Ints w (.slice AG m cG) x.got
structure A07 (c:Cf) (x:S07):Prop where
 h:x.gl = true ∨ x.sp = c.S∧x.got.length < 4 + 2 * c.S
def P07 (c:Cf) (bs B gm g:Nat) (ws:List Int) (n:Nat) (w:World) (e:Ending) (w':World):Prop :=
 ∃ b x ws' n',e = .returned (.bool b)∧Is07 bs w' g x∧A07 c x∧MemIs B w' gm ws' n'∧WTo c ws ws'∧n ≤ n'∧n' ≤ n + 1∧Fr B true [g] w w'
theorem word_0 {B gm g n j:Nat} {w:World} {ws:List Int} (hm:MemIs B w gm ws n) (hB:B ≤ g) {bs sp m cG:Nat} {l o0 o1 o3:Int} {gl o2 en:Bool} {AG:Option Addr} (hg:w.heap[g]? = some (.cells (k07 bs sp l gl AG m cG o0 o1 o2 o3 en) 104 (0,0))) (hb:bs ≤ 10000) (hS:1 ≤ sp∧sp ≤ 8) (hj:j < 4 + 2 * sp) (hq:j = 0) :
  Calls Try.prog 75 #[.pointer (some ⟨g,0,none⟩),.int .i64 j] w fun e w'=>∃ p:Nat,p ≤ 3 + sp∧e = .returned (.int .i64 ((bs + p:Nat):Int))∧w'.heap[g]? = some (.cells (k07 bs sp l gl AG m cG o0 o1 o2 o3 en) 104 (0,0))∧MemIs B w' gm ws n∧Fr B true [g] w w':=by
 have HB0_g:=Lib.hid hg
 obtain ⟨L,T,HLL,HTe,HT,HSG_g,HS0⟩:=st1 hm hB hg (by decide) (by decide)
 clear hm hg
 have q0:IntKind.i64.wrap (3 + (sp:Int)) = 3 + (sp:Int):=IntWalk.i64_in _ (by omega)
 have e0:((j:Int) == 0) = true:=beq_iff_eq.2 (by omega)
 have q1:IntKind.i64.wrap ((bs:Int) + 1) = (bs:Int) + 1:=IntWalk.i64_in _ (by omega)
 have HQ:=Lib.hid hq
 have HJ:=Lib.hid hj
 clear hq hj hS hb
 have C_g:=cells_k07 HB0_g.out
 go_enter Try.func75,Try.ntmps75
 go_wp2
 go_ret
 exact ⟨1,by have:=HQ.out;have:=HJ.out;omega,congrArg (fun z:Int=>Ending.returned (Value.int .i64 z)) (show (bs:Int) + 1 = ((bs + (1):Nat):Int) from by have:=HQ.out;have:=HJ.out;omega),HB0_g.out,HS0.out.mem,HLL.out ▸ HS0.out.fr⟩
theorem word_e {B gm g n j:Nat} {w:World} {ws:List Int} (hm:MemIs B w gm ws n) (hB:B ≤ g) {bs sp m cG:Nat} {l o0 o1 o3:Int} {gl o2 en:Bool} {AG:Option Addr} (hg:w.heap[g]? = some (.cells (k07 bs sp l gl AG m cG o0 o1 o2 o3 en) 104 (0,0))) (hb:bs ≤ 10000) (hS:1 ≤ sp∧sp ≤ 8) (hj:j < 4 + 2 * sp) (hq:j ≠ 0∧j = 3 + sp) :
  Calls Try.prog 75 #[.pointer (some ⟨g,0,none⟩),.int .i64 j] w fun e w'=>∃ p:Nat,p ≤ 3 + sp∧e = .returned (.int .i64 ((bs + p:Nat):Int))∧w'.heap[g]? = some (.cells (k07 bs sp l gl AG m cG o0 o1 o2 o3 en) 104 (0,0))∧MemIs B w' gm ws n∧Fr B true [g] w w':=by
 have HB0_g:=Lib.hid hg
 obtain ⟨L,T,HLL,HTe,HT,HSG_g,HS0⟩:=st1 hm hB hg (by decide) (by decide)
 clear hm hg
 have q0:IntKind.i64.wrap (3 + (sp:Int)) = 3 + (sp:Int):=IntWalk.i64_in _ (by omega)
 have e0:((j:Int) == 0) = false:=beq_eq_false_iff_ne.2 (by omega)
 have e1:((j:Int) == 3 + (sp:Int)) = true:=beq_iff_eq.2 (by omega)
 have q1:IntKind.i64.wrap ((bs:Int) + 1) = (bs:Int) + 1:=IntWalk.i64_in _ (by omega)
 have HQ:=Lib.hid hq
 have HJ:=Lib.hid hj
 clear hq hj hS hb
 have C_g:=cells_k07 HB0_g.out
 go_enter Try.func75,Try.ntmps75
 go_wp2
 go_ret
 exact ⟨1,by have:=HQ.out;have:=HJ.out;omega,congrArg (fun z:Int=>Ending.returned (Value.int .i64 z)) (show (bs:Int) + 1 = ((bs + (1):Nat):Int) from by have:=HQ.out;have:=HJ.out;omega),HB0_g.out,HS0.out.mem,HLL.out ▸ HS0.out.fr⟩
theorem word_1 {B gm g n j:Nat} {w:World} {ws:List Int} (hm:MemIs B w gm ws n) (hB:B ≤ g) {bs sp m cG:Nat} {l o0 o1 o3:Int} {gl o2 en:Bool} {AG:Option Addr} (hg:w.heap[g]? = some (.cells (k07 bs sp l gl AG m cG o0 o1 o2 o3 en) 104 (0,0))) (hb:bs ≤ 10000) (hS:1 ≤ sp∧sp ≤ 8) (hj:j < 4 + 2 * sp) (hq:j = 1∧j ≠ 3 + sp) :
  Calls Try.prog 75 #[.pointer (some ⟨g,0,none⟩),.int .i64 j] w fun e w'=>∃ p:Nat,p ≤ 3 + sp∧e = .returned (.int .i64 ((bs + p:Nat):Int))∧w'.heap[g]? = some (.cells (k07 bs sp l gl AG m cG o0 o1 o2 o3 en) 104 (0,0))∧MemIs B w' gm ws n∧Fr B true [g] w w':=by
 have HB0_g:=Lib.hid hg
 obtain ⟨L,T,HLL,HTe,HT,HSG_g,HS0⟩:=st1 hm hB hg (by decide) (by decide)
 clear hm hg
 have q0:IntKind.i64.wrap (3 + (sp:Int)) = 3 + (sp:Int):=IntWalk.i64_in _ (by omega)
 have e0:((j:Int) == 0) = false:=beq_eq_false_iff_ne.2 (by omega)
 have e1:((j:Int) == 3 + (sp:Int)) = false:=beq_eq_false_iff_ne.2 (by omega)
 have e2:((j:Int) == 1) = true:=beq_iff_eq.2 (by omega)
 have q1:IntKind.i64.wrap ((bs:Int) + 2) = (bs:Int) + 2:=IntWalk.i64_in _ (by omega)
 have HQ:=Lib.hid hq
 have HJ:=Lib.hid hj
 clear hq hj hS hb
 have C_g:=cells_k07 HB0_g.out
 go_enter Try.func75,Try.ntmps75
 go_wp2
 go_ret
 exact ⟨2,by have:=HQ.out;have:=HJ.out;omega,congrArg (fun z:Int=>Ending.returned (Value.int .i64 z)) (show (bs:Int) + 2 = ((bs + (2):Nat):Int) from by have:=HQ.out;have:=HJ.out;omega),HB0_g.out,HS0.out.mem,HLL.out ▸ HS0.out.fr⟩
theorem word_2 {B gm g n j:Nat} {w:World} {ws:List Int} (hm:MemIs B w gm ws n) (hB:B ≤ g) {bs sp m cG:Nat} {l o0 o1 o3:Int} {gl o2 en:Bool} {AG:Option Addr} (hg:w.heap[g]? = some (.cells (k07 bs sp l gl AG m cG o0 o1 o2 o3 en) 104 (0,0))) (hb:bs ≤ 10000) (hS:1 ≤ sp∧sp ≤ 8) (hj:j < 4 + 2 * sp) (hq:j = 2∧j ≠ 3 + sp) :
  Calls Try.prog 75 #[.pointer (some ⟨g,0,none⟩),.int .i64 j] w fun e w'=>∃ p:Nat,p ≤ 3 + sp∧e = .returned (.int .i64 ((bs + p:Nat):Int))∧w'.heap[g]? = some (.cells (k07 bs sp l gl AG m cG o0 o1 o2 o3 en) 104 (0,0))∧MemIs B w' gm ws n∧Fr B true [g] w w':=by
 have HB0_g:=Lib.hid hg
 obtain ⟨L,T,HLL,HTe,HT,HSG_g,HS0⟩:=st1 hm hB hg (by decide) (by decide)
 clear hm hg
 have q0:IntKind.i64.wrap (3 + (sp:Int)) = 3 + (sp:Int):=IntWalk.i64_in _ (by omega)
 have e0:((j:Int) == 0) = false:=beq_eq_false_iff_ne.2 (by omega)
 have e1:((j:Int) == 3 + (sp:Int)) = false:=beq_eq_false_iff_ne.2 (by omega)
 have e2:((j:Int) == 1) = false:=beq_eq_false_iff_ne.2 (by omega)
 have e3:((j:Int) == 2) = true:=beq_iff_eq.2 (by omega)
 have HQ:=Lib.hid hq
 have HJ:=Lib.hid hj
 clear hq hj hS hb
 have C_g:=cells_k07 HB0_g.out
 go_enter Try.func75,Try.ntmps75
 go_wp2
 go_ret
 exact ⟨0,by have:=HQ.out;have:=HJ.out;omega,congrArg (fun z:Int=>Ending.returned (Value.int .i64 z)) (show (bs:Int) = ((bs + (0):Nat):Int) from by have:=HQ.out;have:=HJ.out;omega),HB0_g.out,HS0.out.mem,HLL.out ▸ HS0.out.fr⟩
theorem word_lt {B gm g n j:Nat} {w:World} {ws:List Int} (hm:MemIs B w gm ws n) (hB:B ≤ g) {bs sp m cG:Nat} {l o0 o1 o3:Int} {gl o2 en:Bool} {AG:Option Addr} (hg:w.heap[g]? = some (.cells (k07 bs sp l gl AG m cG o0 o1 o2 o3 en) 104 (0,0))) (hb:bs ≤ 10000) (hS:1 ≤ sp∧sp ≤ 8) (hj:j < 4 + 2 * sp) (hq:3 ≤ j∧j < 3 + sp) :
  Calls Try.prog 75 #[.pointer (some ⟨g,0,none⟩),.int .i64 j] w fun e w'=>∃ p:Nat,p ≤ 3 + sp∧e = .returned (.int .i64 ((bs + p:Nat):Int))∧w'.heap[g]? = some (.cells (k07 bs sp l gl AG m cG o0 o1 o2 o3 en) 104 (0,0))∧MemIs B w' gm ws n∧Fr B true [g] w w':=by
 have HB0_g:=Lib.hid hg
 obtain ⟨L,T,HLL,HTe,HT,HSG_g,HS0⟩:=st1 hm hB hg (by decide) (by decide)
 clear hm hg
 have q0:IntKind.i64.wrap (3 + (sp:Int)) = 3 + (sp:Int):=IntWalk.i64_in _ (by omega)
 have e0:((j:Int) == 0) = false:=beq_eq_false_iff_ne.2 (by omega)
 have e1:((j:Int) == 3 + (sp:Int)) = false:=beq_eq_false_iff_ne.2 (by omega)
 have e2:((j:Int) == 1) = false:=beq_eq_false_iff_ne.2 (by omega)
 have e3:((j:Int) == 2) = false:=beq_eq_false_iff_ne.2 (by omega)
 have e4:decide ((j:Int) < 3 + (sp:Int)) = true:=decide_eq_true (by omega)
 have q1:IntKind.i64.wrap ((bs:Int) + 4) = (bs:Int) + 4:=IntWalk.i64_in _ (by omega)
 have q2:IntKind.i64.wrap ((bs:Int) + 4 + (j:Int)) = (bs:Int) + 4 + (j:Int):=IntWalk.i64_in _ (by omega)
 have q3:IntKind.i64.wrap ((bs:Int) + 4 + (j:Int) - 3) = (bs:Int) + 4 + (j:Int) - 3:=IntWalk.i64_in _ (by omega)
 have HQ:=Lib.hid hq
 have HJ:=Lib.hid hj
 clear hq hj hS hb
 have C_g:=cells_k07 HB0_g.out
 go_enter Try.func75,Try.ntmps75
 go_wp2
 go_ret
 exact ⟨j + 1,by have:=HQ.out;have:=HJ.out;omega,congrArg (fun z:Int=>Ending.returned (Value.int .i64 z)) (show (bs:Int) + 4 + (j:Int) - 3 = ((bs + (j + 1):Nat):Int) from by have:=HQ.out;have:=HJ.out;omega),HB0_g.out,HS0.out.mem,HLL.out ▸ HS0.out.fr⟩
theorem word_ge {B gm g n j:Nat} {w:World} {ws:List Int} (hm:MemIs B w gm ws n) (hB:B ≤ g) {bs sp m cG:Nat} {l o0 o1 o3:Int} {gl o2 en:Bool} {AG:Option Addr} (hg:w.heap[g]? = some (.cells (k07 bs sp l gl AG m cG o0 o1 o2 o3 en) 104 (0,0))) (hb:bs ≤ 10000) (hS:1 ≤ sp∧sp ≤ 8) (hj:j < 4 + 2 * sp) (hq:3 ≤ j∧3 + sp < j) :
  Calls Try.prog 75 #[.pointer (some ⟨g,0,none⟩),.int .i64 j] w fun e w'=>∃ p:Nat,p ≤ 3 + sp∧e = .returned (.int .i64 ((bs + p:Nat):Int))∧w'.heap[g]? = some (.cells (k07 bs sp l gl AG m cG o0 o1 o2 o3 en) 104 (0,0))∧MemIs B w' gm ws n∧Fr B true [g] w w':=by
 have HB0_g:=Lib.hid hg
 obtain ⟨L,T,HLL,HTe,HT,HSG_g,HS0⟩:=st1 hm hB hg (by decide) (by decide)
 clear hm hg
 have q0:IntKind.i64.wrap (3 + (sp:Int)) = 3 + (sp:Int):=IntWalk.i64_in _ (by omega)
 have e0:((j:Int) == 0) = false:=beq_eq_false_iff_ne.2 (by omega)
 have e1:((j:Int) == 3 + (sp:Int)) = false:=beq_eq_false_iff_ne.2 (by omega)
 have e2:((j:Int) == 1) = false:=beq_eq_false_iff_ne.2 (by omega)
 have e3:((j:Int) == 2) = false:=beq_eq_false_iff_ne.2 (by omega)
 have e4:decide ((j:Int) < 3 + (sp:Int)) = false:=decide_eq_false (by omega)
 have q1:IntKind.i64.wrap ((bs:Int) + 4) = (bs:Int) + 4:=IntWalk.i64_in _ (by omega)
 have q2:IntKind.i64.wrap ((bs:Int) + 4 + (j:Int)) = (bs:Int) + 4 + (j:Int):=IntWalk.i64_in _ (by omega)
 have q3:IntKind.i64.wrap ((bs:Int) + 4 + (j:Int) - 4) = (bs:Int) + 4 + (j:Int) - 4:=IntWalk.i64_in _ (by omega)
 have q4:IntKind.i64.wrap ((bs:Int) + 4 + (j:Int) - 4 - (sp:Int)) = (bs:Int) + 4 + (j:Int) - 4 - (sp:Int):=IntWalk.i64_in _ (by omega)
 have HQ:=Lib.hid hq
 have HJ:=Lib.hid hj
 clear hq hj hS hb
 have C_g:=cells_k07 HB0_g.out
 go_enter Try.func75,Try.ntmps75
 go_wp2
 refine ch_b C_g C_g [0,1,2,3,4,5,6,7,8,9,10,11,12,13] (fun W1 HWd hHeld=>?_)
 have HS1:=dwS HWd HS0
 have HB1_g:Hid (W1.heap[g]? = some (.cells (k07 bs sp l gl AG m cG o0 o1 o2 o3 en) 104 (0,0))):=Lib.hid (by rw [← HWd.out];exact HB0_g.out)
 replace C_g:=cells_k07 HB1_g.out
 clear HWd
 iterate 14 refine ch_s ?_
 refine ch_z ?_
 clear hHeld
 go_wp2
 go_ret
 exact ⟨j - sp,by have:=HQ.out;have:=HJ.out;omega,congrArg (fun z:Int=>Ending.returned (Value.int .i64 z)) (show (bs:Int) + 4 + (j:Int) - 4 - (sp:Int) = ((bs + (j - sp):Nat):Int) from by have:=HQ.out;have:=HJ.out;omega),HB1_g.out,HS1.out.mem,HLL.out ▸ HS1.out.fr⟩
theorem word_any {B gm g n j:Nat} {w:World} {ws:List Int} (hm:MemIs B w gm ws n) (hB:B ≤ g) {bs sp m cG:Nat} {l o0 o1 o3:Int} {gl o2 en:Bool} {AG:Option Addr} (hg:w.heap[g]? = some (.cells (k07 bs sp l gl AG m cG o0 o1 o2 o3 en) 104 (0,0))) (hb:bs ≤ 10000) (hS:1 ≤ sp∧sp ≤ 8) (hj:j < 4 + 2 * sp) :
  Calls Try.prog 75 #[.pointer (some ⟨g,0,none⟩),.int .i64 j] w fun e w'=>∃ p:Nat,p ≤ 3 + sp∧e = .returned (.int .i64 ((bs + p:Nat):Int))∧w'.heap[g]? = some (.cells (k07 bs sp l gl AG m cG o0 o1 o2 o3 en) 104 (0,0))∧MemIs B w' gm ws n∧Fr B true [g] w w':=by
 by_cases h0:j = 0
 ·exact word_0 hm hB hg hb hS hj h0
 ·by_cases h1:j = 3 + sp
  ·exact word_e hm hB hg hb hS hj ⟨h0,h1⟩
  ·by_cases h2:j = 1
   ·exact word_1 hm hB hg hb hS hj ⟨h2,h1⟩
   ·by_cases h3:j = 2
    ·exact word_2 hm hB hg hb hS hj ⟨h3,h1⟩
    ·by_cases h4:j < 3 + sp
     ·exact word_lt hm hB hg hb hS hj ⟨by omega,h4⟩
     ·exact word_ge hm hB hg hb hS hj ⟨by omega,by omega⟩
theorem Ints.of_types {w w1:World} {v:Value} {xs:List Int} (h:Ints w v xs) (hk:∀ (k:Nat) (cs:Array Value),w.heap[k]? = some (.cells cs 3 (0,0))→w1.heap[k]? = w.heap[k]?):Ints w1 v xs:=by
 refine Kd.R_mono (Kd.R_move (Kd.R_bound h) (fun k hk1=>?_)) (fun _ _=>trivial)
 obtain ⟨_,_,_,q,hq,cells,hc⟩:=hk1
 have e:q = 3:=by simpa [Kd.int,Kd.scalar] using hq
 subst e
 exact hk _ _ hc
theorem Ints.drew {w:World} {v:Value} {xs:List Int} (h:Ints w v xs):Ints w.drew v xs:=h.of_types fun _ _ _=>rfl
theorem Ints.drewN {w:World} {v:Value} {xs:List Int} (h:Ints w v xs) (n:Nat):Ints (w.drewN n) v xs:=h.of_types fun _ _ _=>rfl
theorem Ints.set {w:World} {v:Value} {xs:List Int} (h:Ints w v xs) {g:Nat} {cs:Array Value} {t:Nat} {fr:Nat × Nat} (hb:w.heap[g]? = some (.cells cs t fr)) (ht:t ≠ 3) (i:Nat) (u:Value):Ints (w.setCell ⟨g,i,none⟩ u) v xs:=h.of_types fun k cs' hc=>by
 refine Below.heap_setCell w ⟨g,i,none⟩ u k (fun e=>?_)
 have e:k = g:=e
 subst e
 rw [hb] at hc;injection hc with hc;injection hc with _ e;exact ht e
theorem ints_at {B:Nat} {L:List Nat} {w:World} {A:Option Addr} {m cp:Nat} {xs:List Int} (h:Ints w (.slice A m cp) xs) (hm:0 < m):∃ (gG:Nat) (xf:Nat→Int),A = some ⟨gG,0,none⟩∧(∀ i,xf i = xs.getD i 0)∧(∀ k cs t fr,w.heap[k]? = some (.cells cs t fr)→t ≠ 3→gG ≠ k)∧Hid (∀ W,Fr B true L w W→∀ i:Nat,i < m→W.cell? ⟨gG,i,none⟩ = some (.int .i64 (xf i))):=by
 obtain ⟨gG,rfl,hn,_⟩:=h.at_ hm
 refine ⟨gG,fun i=>xs.getD i 0,rfl,fun _=>rfl,fun k cs t fr hk ht e=>?_,Lib.hid (fun W hW i hi=>?_)⟩
 ·subst e
  obtain ⟨_,cs',hc⟩:=R_typed' h gG rfl
  rw [hc] at hk;injection hk with hk;injection hk with _ hk;exact ht hk.symm
 obtain ⟨g2,e,_,h2⟩:=(h.fr hW).at_ hm
 injection e with e
 injection e with e
 subst e
 exact h2 i hi
theorem toNat_add3 (k:Nat):((3:Int) + (k:Int)).toNat = 3 + k:=by omega
theorem toNat_add4 (k j:Nat):((4:Int) + (k:Int) + (j:Int)).toNat = 4 + k + j:=by omega
theorem closed_true {B gm g n:Nat} {w:World} {ws:List Int} (hm:MemIs B w gm ws n) (hB:B ≤ g) {bs sp m cG:Nat} {l o0 o1 o3:Int} {gl o2 en:Bool} {AG:Option Addr} (hg:w.heap[g]? = some (.cells (k07 bs sp l gl AG m cG o0 o1 o2 o3 en) 104 (0,0))) (hS:1 ≤ sp∧sp ≤ 8) {xs:List Int} (hG:Ints w (.slice AG m cG) xs) (hl:m = 4 + 2 * sp) (h0:(xs.getD 0 0 == xs.getD 1 0) = true) :
  Calls Try.prog 76 #[.pointer (some ⟨g,0,none⟩)] w fun e w'=>e = .returned (.tuple #[])∧∃ l' o0' o1' o2' o3' en',w'.heap[g]? = some (.cells (k07 bs sp l' gl none 0 0 o0' o1' o2' o3' en') 104 (0,0))∧MemIs B w' gm ws n∧Fr B true [g] w w':=by
 obtain ⟨L,T,HLL,HTe,HT,HSG_g,HS0⟩:=st1 hm hB hg (by decide) (by decide)
 obtain ⟨gG,xf,rfl,hx,hne0,HAT⟩:=ints_at (B:=B) (L:=L) hG (by omega)
 have ne1:=hne0 _ _ _ _ hg (by decide)
 have ne2:=Ne.symm ne1
 clear hne0
 have HB0_g:=Lib.hid hg
 have d1:(xf 0 == xf 1) = true:=by rw [hx,hx];exact h0
 clear hx
 clear hm hg hG
 have hm4:(m:Int) = 4 + 2 * (sp:Int):=by omega
 have t3:=toNat_add3 sp
 have i0:(0:Int) < (m:Int):=by omega
 have i1:(1:Int) < (m:Int):=by omega
 have i2:(2:Int) < (m:Int):=by omega
 have i3:(3:Int) + (sp:Int) < (m:Int):=by omega
 have i4:(0:Int) ≤ 3 + (sp:Int):=by omega
 have i5:3 + sp < m:=by omega
 have n0:0 < m:=by omega
 have n1:1 < m:=by omega
 have n2:2 < m:=by omega
 have q0:IntKind.i64.wrap (3 + (sp:Int)) = 3 + (sp:Int):=IntWalk.i64_in _ (by omega)
 have q9:IntKind.i64.wrap (4 + (sp:Int)) = 4 + (sp:Int):=IntWalk.i64_in _ (by omega)
 have HL:=Lib.hid hl
 clear hm4 hl h0
 have C_g:=cells_k07 HB0_g.out
 go_enter Try.func76,Try.ntmps76
 go_wp2
 refine ch_st (fun wS=>wS.cell? ⟨g,1,none⟩ = some (.int .i64 sp)∧wS.cell? ⟨gG,0,none⟩ = some (.int .i64 (xf (0)))∧wS.cell? ⟨gG,1,none⟩ = some (.int .i64 (xf (1)))∧wS.cell? ⟨gG,3 + sp,none⟩ = some (.int .i64 (xf (3 + sp)))) [] [0,1,2,3,4,5,6,7,8,9,10,11,12,13,14,15,16,17,18,19,20,21] (by kernel_rfl) rfl (⟨C_g.2.2.1,HAT.out _ HS0.out.fr (0) (by omega),HAT.out _ HS0.out.fr (1) (by omega),HAT.out _ HS0.out.fr (3 + sp) (by omega)⟩) (fun W1 HWd hHeld=>?_)
 have HS1:=dwS HWd HS0
 have HB1_g:Hid (W1.heap[g]? = some (.cells (k07 bs sp l gl (some ⟨gG,0,none⟩) m cG o0 o1 o2 o3 en) 104 (0,0))):=Lib.hid (by rw [← HWd.out];exact HB0_g.out)
 replace C_g:=cells_k07 HB1_g.out
 clear HWd
 iterate 22 refine ch_s ?_
 refine ch_z ?_
 clear hHeld
 have cG2:=HAT.out _ HS1.out.fr (2) (by omega)
 go_wp2
 go_loopw [3,4,5] (fun v3 v4 v5 wr=>∃ (k:Nat) (b:Bool) (z:Int),k ≤ sp∧v3 = .bool b∧v4 = .int .i64 z∧v5 = .int .i64 k∧Aside0 (St B L T w gm ws n wr)∧Aside0 (wr.heap[g]? = some (.cells (k07 bs sp l gl (some ⟨gG,0,none⟩) m cG o0 o1 o2 o3 en) 104 (0,0)))) (fun _ _ v5 _=>sp - (intOf v5).toNat)
 case atStart=>exact ⟨0,_,_,Nat.zero_le _,rfl,rfl,rfl,⟨HS1.out⟩,⟨HB1_g.out⟩⟩
 case round =>
  obtain ⟨k,b,z,hk,rfl,rfl,rfl,HSr,HBr⟩:=hrel
  clear C_g cG2
  have C_g:=cells_k07 HBr.out
  by_cases hkl:k < sp
  ·have d4:decide ((k:Int) < (sp:Int)) = true:=decide_eq_true (by omega)
   have t4:=toNat_add3 k
   have t5:=toNat_add4 sp k
   have hl:=HL.out
   have j3:(3:Int) + (k:Int) < (m:Int):=by omega
   have j4:(0:Int) ≤ 3 + (k:Int):=by omega
   have j5:3 + k < m:=by omega
   have j6:(4:Int) + (sp:Int) + (k:Int) < (m:Int):=by omega
   have j7:(0:Int) ≤ 4 + (sp:Int) + (k:Int):=by omega
   have j8:4 + sp + k < m:=by omega
   clear hl
   have q1:IntKind.i64.wrap (3 + (k:Int)) = 3 + (k:Int):=IntWalk.i64_in _ (by omega)
   have q2:IntKind.i64.wrap (4 + (sp:Int) + (k:Int)) = 4 + (sp:Int) + (k:Int):=IntWalk.i64_in _ (by omega)
   have q3:IntKind.i64.wrap ((k:Int) + 1) = (k:Int) + 1:=IntWalk.i64_in _ (by omega)
   obtain ⟨v1,hv1⟩:=value_ok (xf (3 + k))
   have HV1:=Lib.hid hv1
   clear hv1
   cases b
   case false =>
    go_wp2
    refine ch_st (fun wS=>wS.cell? ⟨g,1,none⟩ = some (.int .i64 sp)∧wS.cell? ⟨gG,3 + k,none⟩ = some (.int .i64 (xf (3 + k)))∧wS.cell? ⟨gG,4 + sp + k,none⟩ = some (.int .i64 (xf (4 + sp + k)))) [] [0,1,2,3,4,5,6,7,8,9,10,11,12,13,14,15,16,17,18,19] (by kernel_rfl) rfl (⟨C_g.2.2.1,HAT.out _ HSr.out.fr (3 + k) (by omega),HAT.out _ HSr.out.fr (4 + sp + k) (by omega)⟩) (fun W2 HWd hHeld=>?_)
    have HS2:=dwS HWd (Lib.hid HSr.out)
    have HB2_g:Hid (W2.heap[g]? = some (.cells (k07 bs sp l gl (some ⟨gG,0,none⟩) m cG o0 o1 o2 o3 en) 104 (0,0))):=Lib.hid (by rw [← HWd.out];exact HBr.out)
    replace C_g:=cells_k07 HB2_g.out
    clear HWd
    iterate 2 refine ch_s ?_
    iterate 16
     refine ch_skip rfl rfl (by kernel_rfl) (fun _ _ _ h=>h) (by rfl) rfl ?_
     try simp only [Act.put,zq1,zq2,zq3]
    iterate 2 refine ch_s ?_
    refine ch_z ?_
    clear hHeld
    have cG3:=HAT.out _ HS2.out.fr (3 + k) (by omega)
    go_wp2_with (first|(go_at_call 85;(with_reducible refine (breadlineref01_Value.calls (xf (3 + k)) v1 _ HV1.out).mono ?_);rintro e w' ⟨rfl,⟨nd,rfl⟩⟩;generalize hWd:World.drewN W2 nd = W3 at ⊢;have HWd:=Lib.hid hWd;clear hWd;have HS3:Hid (St B L T w gm ws n W3):=Lib.hid (by rw [← HWd.out];exact HS2.out.drewN nd);have HB3_g:=dwH HWd HB2_g;replace C_g:=cells_k07 HB3_g.out;clear HWd))
    go_roundw
    case rel=>exact ⟨k + 1,_,_,by omega,rfl,rfl,by go_num,⟨HS3.out⟩,⟨HB3_g.out⟩⟩
    case measure=>simp [intOf];omega
   case true =>
    go_wp2
    refine ch_st (fun wS=>wS.cell? ⟨g,1,none⟩ = some (.int .i64 sp)∧wS.cell? ⟨gG,3 + k,none⟩ = some (.int .i64 (xf (3 + k)))∧wS.cell? ⟨gG,4 + sp + k,none⟩ = some (.int .i64 (xf (4 + sp + k)))) [] [0,1,2,3,4,5,6,7,8,9,10,11,12,13,14,15,16,17,18,19] (by kernel_rfl) rfl (⟨C_g.2.2.1,HAT.out _ HSr.out.fr (3 + k) (by omega),HAT.out _ HSr.out.fr (4 + sp + k) (by omega)⟩) (fun W2 HWd hHeld=>?_)
    have HS2:=dwS HWd (Lib.hid HSr.out)
    have HB2_g:Hid (W2.heap[g]? = some (.cells (k07 bs sp l gl (some ⟨gG,0,none⟩) m cG o0 o1 o2 o3 en) 104 (0,0))):=Lib.hid (by rw [← HWd.out];exact HBr.out)
    replace C_g:=cells_k07 HB2_g.out
    clear HWd
    iterate 20 refine ch_s ?_
    refine ch_z ?_
    clear hHeld
    have cG3:=HAT.out _ HS2.out.fr (3 + k) (by omega)
    go_wp2_with (first|(go_at_call 85;(with_reducible refine (breadlineref01_Value.calls (xf (3 + k)) v1 _ HV1.out).mono ?_);rintro e w' ⟨rfl,⟨nd,rfl⟩⟩;generalize hWd:World.drewN W2 nd = W3 at ⊢;have HWd:=Lib.hid hWd;clear hWd;have HS3:Hid (St B L T w gm ws n W3):=Lib.hid (by rw [← HWd.out];exact HS2.out.drewN nd);have HB3_g:=dwH HWd HB2_g;replace C_g:=cells_k07 HB3_g.out;clear HWd))
    go_roundw
    case rel=>exact ⟨k + 1,_,_,by omega,rfl,rfl,by go_num,⟨HS3.out⟩,⟨HB3_g.out⟩⟩
    case measure=>simp [intOf];omega
  ·have hke:sp = k:=by omega
   subst hke
   have d4:decide ((sp:Int) < (sp:Int)) = false:=decide_eq_false (by omega)
   have cG2:=HAT.out _ HSr.out.fr (2) (by omega)
   obtain ⟨l1,hl1⟩:∃ z,IntKind.i64.wrap (l - 1) = z:=⟨_,rfl⟩
   cases b
   case true =>
    go_wp2
    go_end0
    exact ⟨rfl,l1,0,z,true,0,true,(blk_set' (blk_set' (blk_set' (blk_set' (blk_set' (blk_set' (blk_set' HBr.out 2 (.int .i64 l1) rfl) 4 (.slice none 0 0) rfl) 5 (.int .i64 0) rfl) 6 (.int .i64 z) rfl) 7 (.bool true) rfl) 8 (.int .i64 0) rfl) 9 (.bool true) rfl),(HSG_g.out _ _ _ (HSG_g.out _ _ _ (HSG_g.out _ _ _ (HSG_g.out _ _ _ (HSG_g.out _ _ _ (HSG_g.out _ _ _ (HSG_g.out _ _ _ HSr.out 2 (.int .i64 l1)) 4 (.slice none 0 0)) 5 (.int .i64 0)) 6 (.int .i64 z)) 7 (.bool true)) 8 (.int .i64 0)) 9 (.bool true)).mem,HLL.out ▸ (HSG_g.out _ _ _ (HSG_g.out _ _ _ (HSG_g.out _ _ _ (HSG_g.out _ _ _ (HSG_g.out _ _ _ (HSG_g.out _ _ _ (HSG_g.out _ _ _ HSr.out 2 (.int .i64 l1)) 4 (.slice none 0 0)) 5 (.int .i64 0)) 6 (.int .i64 z)) 7 (.bool true)) 8 (.int .i64 0)) 9 (.bool true)).fr⟩
   case false =>
    by_cases hz:l1 = 0
    ·have d5:(l1 == 0) = true:=beq_iff_eq.2 hz
     clear hz
     go_wp2
     go_end0
     exact ⟨rfl,l1,0,xf 2,false,0,true,(blk_set' (blk_set' (blk_set' (blk_set' (blk_set' (blk_set' (blk_set' HBr.out 2 (.int .i64 l1) rfl) 4 (.slice none 0 0) rfl) 5 (.int .i64 0) rfl) 6 (.int .i64 (xf 2)) rfl) 7 (.bool false) rfl) 8 (.int .i64 0) rfl) 9 (.bool true) rfl),(HSG_g.out _ _ _ (HSG_g.out _ _ _ (HSG_g.out _ _ _ (HSG_g.out _ _ _ (HSG_g.out _ _ _ (HSG_g.out _ _ _ (HSG_g.out _ _ _ HSr.out 2 (.int .i64 l1)) 4 (.slice none 0 0)) 5 (.int .i64 0)) 6 (.int .i64 (xf 2))) 7 (.bool false)) 8 (.int .i64 0)) 9 (.bool true)).mem,HLL.out ▸ (HSG_g.out _ _ _ (HSG_g.out _ _ _ (HSG_g.out _ _ _ (HSG_g.out _ _ _ (HSG_g.out _ _ _ (HSG_g.out _ _ _ (HSG_g.out _ _ _ HSr.out 2 (.int .i64 l1)) 4 (.slice none 0 0)) 5 (.int .i64 0)) 6 (.int .i64 (xf 2))) 7 (.bool false)) 8 (.int .i64 0)) 9 (.bool true)).fr⟩
    ·have d5:(l1 == 0) = false:=beq_eq_false_iff_ne.2 hz
     clear hz
     go_wp2
     go_end0
     exact ⟨rfl,l1,o0,o1,o2,o3,en,(blk_set' (blk_set' HBr.out 2 (.int .i64 l1) rfl) 4 (.slice none 0 0) rfl),(HSG_g.out _ _ _ (HSG_g.out _ _ _ HSr.out 2 (.int .i64 l1)) 4 (.slice none 0 0)).mem,HLL.out ▸ (HSG_g.out _ _ _ (HSG_g.out _ _ _ HSr.out 2 (.int .i64 l1)) 4 (.slice none 0 0)).fr⟩
theorem closed_false {B gm g n:Nat} {w:World} {ws:List Int} (hm:MemIs B w gm ws n) (hB:B ≤ g) {bs sp m cG:Nat} {l o0 o1 o3:Int} {gl o2 en:Bool} {AG:Option Addr} (hg:w.heap[g]? = some (.cells (k07 bs sp l gl AG m cG o0 o1 o2 o3 en) 104 (0,0))) (hS:1 ≤ sp∧sp ≤ 8) {xs:List Int} (hG:Ints w (.slice AG m cG) xs) (hl:m = 4 + 2 * sp) (h0:(xs.getD 0 0 == xs.getD 1 0) = false) :
  Calls Try.prog 76 #[.pointer (some ⟨g,0,none⟩)] w fun e w'=>e = .returned (.tuple #[])∧∃ l' o0' o1' o2' o3' en',w'.heap[g]? = some (.cells (k07 bs sp l' gl none 0 0 o0' o1' o2' o3' en') 104 (0,0))∧MemIs B w' gm ws n∧Fr B true [g] w w':=by
 obtain ⟨L,T,HLL,HTe,HT,HSG_g,HS0⟩:=st1 hm hB hg (by decide) (by decide)
 obtain ⟨gG,xf,rfl,hx,hne0,HAT⟩:=ints_at (B:=B) (L:=L) hG (by omega)
 have ne1:=hne0 _ _ _ _ hg (by decide)
 have ne2:=Ne.symm ne1
 clear hne0
 have HB0_g:=Lib.hid hg
 have d1:(xf 0 == xf 1) = false:=by rw [hx,hx];exact h0
 clear hx
 clear hm hg hG
 have hm4:(m:Int) = 4 + 2 * (sp:Int):=by omega
 have t3:=toNat_add3 sp
 have i0:(0:Int) < (m:Int):=by omega
 have i1:(1:Int) < (m:Int):=by omega
 have i2:(2:Int) < (m:Int):=by omega
 have i3:(3:Int) + (sp:Int) < (m:Int):=by omega
 have i4:(0:Int) ≤ 3 + (sp:Int):=by omega
 have i5:3 + sp < m:=by omega
 have n0:0 < m:=by omega
 have n1:1 < m:=by omega
 have n2:2 < m:=by omega
 have q0:IntKind.i64.wrap (3 + (sp:Int)) = 3 + (sp:Int):=IntWalk.i64_in _ (by omega)
 have q9:IntKind.i64.wrap (4 + (sp:Int)) = 4 + (sp:Int):=IntWalk.i64_in _ (by omega)
 have HL:=Lib.hid hl
 clear hm4 hl h0
 have C_g:=cells_k07 HB0_g.out
 go_enter Try.func76,Try.ntmps76
 go_wp2
 refine ch_st (fun wS=>wS.cell? ⟨g,1,none⟩ = some (.int .i64 sp)∧wS.cell? ⟨gG,0,none⟩ = some (.int .i64 (xf (0)))∧wS.cell? ⟨gG,1,none⟩ = some (.int .i64 (xf (1)))∧wS.cell? ⟨gG,3 + sp,none⟩ = some (.int .i64 (xf (3 + sp)))) [] [0,1,2,3,4,5,6,7,8,9,10,11,12,13,14,15,16,17,18,19,20,21] (by kernel_rfl) rfl (⟨C_g.2.2.1,HAT.out _ HS0.out.fr (0) (by omega),HAT.out _ HS0.out.fr (1) (by omega),HAT.out _ HS0.out.fr (3 + sp) (by omega)⟩) (fun W1 HWd hHeld=>?_)
 have HS1:=dwS HWd HS0
 have HB1_g:Hid (W1.heap[g]? = some (.cells (k07 bs sp l gl (some ⟨gG,0,none⟩) m cG o0 o1 o2 o3 en) 104 (0,0))):=Lib.hid (by rw [← HWd.out];exact HB0_g.out)
 replace C_g:=cells_k07 HB1_g.out
 clear HWd
 iterate 8 refine ch_s ?_
 iterate 12
  refine ch_skip rfl rfl (by kernel_rfl) (fun _ _ _ h=>h) (by rfl) rfl ?_
  try simp only [Act.put,zq1,zq2,zq3]
 iterate 2 refine ch_s ?_
 refine ch_z ?_
 clear hHeld
 have cG2:=HAT.out _ HS1.out.fr (2) (by omega)
 go_wp2
 go_loopw [3,4,5] (fun v3 v4 v5 wr=>∃ (k:Nat) (b:Bool) (z:Int),k ≤ sp∧v3 = .bool b∧v4 = .int .i64 z∧v5 = .int .i64 k∧Aside0 (St B L T w gm ws n wr)∧Aside0 (wr.heap[g]? = some (.cells (k07 bs sp l gl (some ⟨gG,0,none⟩) m cG o0 o1 o2 o3 en) 104 (0,0)))) (fun _ _ v5 _=>sp - (intOf v5).toNat)
 case atStart=>exact ⟨0,_,_,Nat.zero_le _,rfl,rfl,rfl,⟨HS1.out⟩,⟨HB1_g.out⟩⟩
 case round =>
  obtain ⟨k,b,z,hk,rfl,rfl,rfl,HSr,HBr⟩:=hrel
  clear C_g cG2
  have C_g:=cells_k07 HBr.out
  by_cases hkl:k < sp
  ·have d4:decide ((k:Int) < (sp:Int)) = true:=decide_eq_true (by omega)
   have t4:=toNat_add3 k
   have t5:=toNat_add4 sp k
   have hl:=HL.out
   have j3:(3:Int) + (k:Int) < (m:Int):=by omega
   have j4:(0:Int) ≤ 3 + (k:Int):=by omega
   have j5:3 + k < m:=by omega
   have j6:(4:Int) + (sp:Int) + (k:Int) < (m:Int):=by omega
   have j7:(0:Int) ≤ 4 + (sp:Int) + (k:Int):=by omega
   have j8:4 + sp + k < m:=by omega
   clear hl
   have q1:IntKind.i64.wrap (3 + (k:Int)) = 3 + (k:Int):=IntWalk.i64_in _ (by omega)
   have q2:IntKind.i64.wrap (4 + (sp:Int) + (k:Int)) = 4 + (sp:Int) + (k:Int):=IntWalk.i64_in _ (by omega)
   have q3:IntKind.i64.wrap ((k:Int) + 1) = (k:Int) + 1:=IntWalk.i64_in _ (by omega)
   obtain ⟨v1,hv1⟩:=value_ok (xf (3 + k))
   have HV1:=Lib.hid hv1
   clear hv1
   cases b
   case false =>
    go_wp2
    refine ch_st (fun wS=>wS.cell? ⟨g,1,none⟩ = some (.int .i64 sp)∧wS.cell? ⟨gG,3 + k,none⟩ = some (.int .i64 (xf (3 + k)))∧wS.cell? ⟨gG,4 + sp + k,none⟩ = some (.int .i64 (xf (4 + sp + k)))) [] [0,1,2,3,4,5,6,7,8,9,10,11,12,13,14,15,16,17,18,19] (by kernel_rfl) rfl (⟨C_g.2.2.1,HAT.out _ HSr.out.fr (3 + k) (by omega),HAT.out _ HSr.out.fr (4 + sp + k) (by omega)⟩) (fun W2 HWd hHeld=>?_)
    have HS2:=dwS HWd (Lib.hid HSr.out)
    have HB2_g:Hid (W2.heap[g]? = some (.cells (k07 bs sp l gl (some ⟨gG,0,none⟩) m cG o0 o1 o2 o3 en) 104 (0,0))):=Lib.hid (by rw [← HWd.out];exact HBr.out)
    replace C_g:=cells_k07 HB2_g.out
    clear HWd
    iterate 2 refine ch_s ?_
    iterate 16
     refine ch_skip rfl rfl (by kernel_rfl) (fun _ _ _ h=>h) (by rfl) rfl ?_
     try simp only [Act.put,zq1,zq2,zq3]
    iterate 2 refine ch_s ?_
    refine ch_z ?_
    clear hHeld
    have cG3:=HAT.out _ HS2.out.fr (3 + k) (by omega)
    go_wp2_with (first|(go_at_call 85;(with_reducible refine (breadlineref01_Value.calls (xf (3 + k)) v1 _ HV1.out).mono ?_);rintro e w' ⟨rfl,⟨nd,rfl⟩⟩;generalize hWd:World.drewN W2 nd = W3 at ⊢;have HWd:=Lib.hid hWd;clear hWd;have HS3:Hid (St B L T w gm ws n W3):=Lib.hid (by rw [← HWd.out];exact HS2.out.drewN nd);have HB3_g:=dwH HWd HB2_g;replace C_g:=cells_k07 HB3_g.out;clear HWd))
    go_roundw
    case rel=>exact ⟨k + 1,_,_,by omega,rfl,rfl,by go_num,⟨HS3.out⟩,⟨HB3_g.out⟩⟩
    case measure=>simp [intOf];omega
   case true =>
    go_wp2
    refine ch_st (fun wS=>wS.cell? ⟨g,1,none⟩ = some (.int .i64 sp)∧wS.cell? ⟨gG,3 + k,none⟩ = some (.int .i64 (xf (3 + k)))∧wS.cell? ⟨gG,4 + sp + k,none⟩ = some (.int .i64 (xf (4 + sp + k)))) [] [0,1,2,3,4,5,6,7,8,9,10,11,12,13,14,15,16,17,18,19] (by kernel_rfl) rfl (⟨C_g.2.2.1,HAT.out _ HSr.out.fr (3 + k) (by omega),HAT.out _ HSr.out.fr (4 + sp + k) (by omega)⟩) (fun W2 HWd hHeld=>?_)
    have HS2:=dwS HWd (Lib.hid HSr.out)
    have HB2_g:Hid (W2.heap[g]? = some (.cells (k07 bs sp l gl (some ⟨gG,0,none⟩) m cG o0 o1 o2 o3 en) 104 (0,0))):=Lib.hid (by rw [← HWd.out];exact HBr.out)
    replace C_g:=cells_k07 HB2_g.out
    clear HWd
    iterate 20 refine ch_s ?_
    refine ch_z ?_
    clear hHeld
    have cG3:=HAT.out _ HS2.out.fr (3 + k) (by omega)
    go_wp2_with (first|(go_at_call 85;(with_reducible refine (breadlineref01_Value.calls (xf (3 + k)) v1 _ HV1.out).mono ?_);rintro e w' ⟨rfl,⟨nd,rfl⟩⟩;generalize hWd:World.drewN W2 nd = W3 at ⊢;have HWd:=Lib.hid hWd;clear hWd;have HS3:Hid (St B L T w gm ws n W3):=Lib.hid (by rw [← HWd.out];exact HS2.out.drewN nd);have HB3_g:=dwH HWd HB2_g;replace C_g:=cells_k07 HB3_g.out;clear HWd))
    go_roundw
    case rel=>exact ⟨k + 1,_,_,by omega,rfl,rfl,by go_num,⟨HS3.out⟩,⟨HB3_g.out⟩⟩
    case measure=>simp [intOf];omega
  ·have hke:sp = k:=by omega
   subst hke
   have d4:decide ((sp:Int) < (sp:Int)) = false:=decide_eq_false (by omega)
   have cG2:=HAT.out _ HSr.out.fr (2) (by omega)
   obtain ⟨l1,hl1⟩:∃ z,IntKind.i64.wrap (l - 1) = z:=⟨_,rfl⟩
   cases b
   case true =>
    go_wp2
    go_end0
    exact ⟨rfl,l1,0,z,true,0,true,(blk_set' (blk_set' (blk_set' (blk_set' (blk_set' (blk_set' (blk_set' HBr.out 2 (.int .i64 l1) rfl) 4 (.slice none 0 0) rfl) 5 (.int .i64 0) rfl) 6 (.int .i64 z) rfl) 7 (.bool true) rfl) 8 (.int .i64 0) rfl) 9 (.bool true) rfl),(HSG_g.out _ _ _ (HSG_g.out _ _ _ (HSG_g.out _ _ _ (HSG_g.out _ _ _ (HSG_g.out _ _ _ (HSG_g.out _ _ _ (HSG_g.out _ _ _ HSr.out 2 (.int .i64 l1)) 4 (.slice none 0 0)) 5 (.int .i64 0)) 6 (.int .i64 z)) 7 (.bool true)) 8 (.int .i64 0)) 9 (.bool true)).mem,HLL.out ▸ (HSG_g.out _ _ _ (HSG_g.out _ _ _ (HSG_g.out _ _ _ (HSG_g.out _ _ _ (HSG_g.out _ _ _ (HSG_g.out _ _ _ (HSG_g.out _ _ _ HSr.out 2 (.int .i64 l1)) 4 (.slice none 0 0)) 5 (.int .i64 0)) 6 (.int .i64 z)) 7 (.bool true)) 8 (.int .i64 0)) 9 (.bool true)).fr⟩
   case false =>
    by_cases hz:l1 = 0
    ·have d5:(l1 == 0) = true:=beq_iff_eq.2 hz
     clear hz
     go_wp2
     go_end0
     exact ⟨rfl,l1,0,xf 2,false,0,true,(blk_set' (blk_set' (blk_set' (blk_set' (blk_set' (blk_set' (blk_set' HBr.out 2 (.int .i64 l1) rfl) 4 (.slice none 0 0) rfl) 5 (.int .i64 0) rfl) 6 (.int .i64 (xf 2)) rfl) 7 (.bool false) rfl) 8 (.int .i64 0) rfl) 9 (.bool true) rfl),(HSG_g.out _ _ _ (HSG_g.out _ _ _ (HSG_g.out _ _ _ (HSG_g.out _ _ _ (HSG_g.out _ _ _ (HSG_g.out _ _ _ (HSG_g.out _ _ _ HSr.out 2 (.int .i64 l1)) 4 (.slice none 0 0)) 5 (.int .i64 0)) 6 (.int .i64 (xf 2))) 7 (.bool false)) 8 (.int .i64 0)) 9 (.bool true)).mem,HLL.out ▸ (HSG_g.out _ _ _ (HSG_g.out _ _ _ (HSG_g.out _ _ _ (HSG_g.out _ _ _ (HSG_g.out _ _ _ (HSG_g.out _ _ _ (HSG_g.out _ _ _ HSr.out 2 (.int .i64 l1)) 4 (.slice none 0 0)) 5 (.int .i64 0)) 6 (.int .i64 (xf 2))) 7 (.bool false)) 8 (.int .i64 0)) 9 (.bool true)).fr⟩
    ·have d5:(l1 == 0) = false:=beq_eq_false_iff_ne.2 hz
     clear hz
     go_wp2
     go_end0
     exact ⟨rfl,l1,o0,o1,o2,o3,en,(blk_set' (blk_set' HBr.out 2 (.int .i64 l1) rfl) 4 (.slice none 0 0) rfl),(HSG_g.out _ _ _ (HSG_g.out _ _ _ HSr.out 2 (.int .i64 l1)) 4 (.slice none 0 0)).mem,HLL.out ▸ (HSG_g.out _ _ _ (HSG_g.out _ _ _ HSr.out 2 (.int .i64 l1)) 4 (.slice none 0 0)).fr⟩
theorem closed_any {B gm g n:Nat} {w:World} {ws:List Int} (hm:MemIs B w gm ws n) (hB:B ≤ g) {bs sp m cG:Nat} {l o0 o1 o3:Int} {gl o2 en:Bool} {AG:Option Addr} (hg:w.heap[g]? = some (.cells (k07 bs sp l gl AG m cG o0 o1 o2 o3 en) 104 (0,0))) (hS:1 ≤ sp∧sp ≤ 8) {xs:List Int} (hG:Ints w (.slice AG m cG) xs) (hl:m = 4 + 2 * sp) :
  Calls Try.prog 76 #[.pointer (some ⟨g,0,none⟩)] w fun e w'=>e = .returned (.tuple #[])∧∃ l' o0' o1' o2' o3' en',w'.heap[g]? = some (.cells (k07 bs sp l' gl none 0 0 o0' o1' o2' o3' en') 104 (0,0))∧MemIs B w' gm ws n∧Fr B true [g] w w':=by
 cases h:(xs.getD 0 0 == xs.getD 1 0) with
 | true=>exact closed_true hm hB hg hS hG hl h
 | false=>exact closed_false hm hB hg hS hG hl h
theorem step07_end {c:Cf} (hc:c.Ok) {v B gm g n:Nat} {w:World} {ws:List Int} (hv:v < c.N) (hm:MemIs B w gm ws n) (hw:WOk c ws) (hn:n ≤ 1000000) (hB:B ≤ g) {sp:Nat} {l o0 o1 o3:Int} {o2:Bool} {gl:Bool} {got:List Int} (hg:Is07 (c.na v (2 + c.S)) w g ⟨sp,l,gl,got,o0,o1,o2,o3,true⟩) (hi:A07 c ⟨sp,l,gl,got,o0,o1,o2,o3,true⟩) :
  Calls Try.prog 47 #[.pointer (some ⟨g,0,none⟩),.pointer (some ⟨gm,0,none⟩)] w (P07 c (c.na v (2 + c.S)) B gm g ws n w):=by
 obtain ⟨AG,m,cG,hml,hg,hG⟩:=hg
 have HW:=Lib.hid hw
 have HG:=Lib.hid hG
 have HLe:=Lib.hid (hw.le hc)
 have HI:=Lib.hid hi
 have hS:=hc.Sle
 have hK:c.K = 6 + 2 * c.S:=rfl
 have hpl:Hid (∀ j:Nat,j ≤ 3 + c.S→c.na v (2 + c.S) + j < ws.length):=Lib.hid (fun j hj=>by have:=hw.lt (v:=v) (o:=2 + c.S + j) hv (by omega);unfold Cf.na at this ⊢;omega)
 have hps:Hid (c.na v (2 + c.S) ≤ 10000):=Lib.hid (by have:=hpl.out 0 (by omega);have:=HLe.out;omega)
 obtain ⟨bs,hbs⟩:∃ p,c.na v (2 + c.S) = p:=⟨_,rfl⟩
 rw [hbs] at hg hpl hps ⊢
 dsimp only at hg hml
 have HML:=Lib.hid hml
 have HB0_g:=Lib.hid hg
 obtain ⟨L,T,HLL,HTe,HT,HSG_g,HS0⟩:=st1 hm hB hg (by decide) (by decide)
 clear hc hw hg hm hG hi hK hbs hml hS
 have C_g:=cells_k07 HB0_g.out
 go_enter Try.func47,Try.ntmps47
 go_wp2
 go_ret
 exact ⟨true,⟨sp,l,gl,got,o0,o1,o2,o3,true⟩,ws,_,rfl,⟨_,_,_,HML.out,HB0_g.out,HG.out.fr HS0.out.fr⟩,HI.out,HS0.out.mem,WTo.refl HW.out,Nat.le_refl _,by omega,HLL.out ▸ HS0.out.fr⟩
theorem step07_glance {c:Cf} (hc:c.Ok) {v B gm g n:Nat} {w:World} {ws:List Int} (hv:v < c.N) (hm:MemIs B w gm ws n) (hw:WOk c ws) (hn:n ≤ 1000000) (hB:B ≤ g) {sp:Nat} {l o0 o1 o3:Int} {o2:Bool} {got:List Int} (hg:Is07 (c.na v (2 + c.S)) w g ⟨sp,l,true,got,o0,o1,o2,o3,false⟩) (hi:A07 c ⟨sp,l,true,got,o0,o1,o2,o3,false⟩) :
  Calls Try.prog 47 #[.pointer (some ⟨g,0,none⟩),.pointer (some ⟨gm,0,none⟩)] w (P07 c (c.na v (2 + c.S)) B gm g ws n w):=by
 obtain ⟨AG,m,cG,hml,hg,hG⟩:=hg
 have HW:=Lib.hid hw
 have HG:=Lib.hid hG
 have HLe:=Lib.hid (hw.le hc)
 have HI:=Lib.hid hi
 have hS:=hc.Sle
 have hK:c.K = 6 + 2 * c.S:=rfl
 have hpl:Hid (∀ j:Nat,j ≤ 3 + c.S→c.na v (2 + c.S) + j < ws.length):=Lib.hid (fun j hj=>by have:=hw.lt (v:=v) (o:=2 + c.S + j) hv (by omega);unfold Cf.na at this ⊢;omega)
 have hps:Hid (c.na v (2 + c.S) ≤ 10000):=Lib.hid (by have:=hpl.out 0 (by omega);have:=HLe.out;omega)
 obtain ⟨bs,hbs⟩:∃ p,c.na v (2 + c.S) = p:=⟨_,rfl⟩
 rw [hbs] at hg hpl hps ⊢
 dsimp only at hg hml
 have HML:=Lib.hid hml
 have HB0_g:=Lib.hid hg
 obtain ⟨L,T,HLL,HTe,HT,HSG_g,HS0⟩:=st1 hm hB hg (by decide) (by decide)
 clear hc hw hg hm hG hi hK hbs hml hS
 have C_g:=cells_k07 HB0_g.out
 go_enter Try.func47,Try.ntmps47
 obtain ⟨x1,hx1⟩:∃ z,wd ws bs = z:=⟨_,rfl⟩
 have HX1:=Lib.hid hx1
 clear hx1
 have H0l:Hid (bs < ws.length):=Lib.hid (by have:=hpl.out 0 (by omega);omega)
 go_wp2_with (first|(go_at_call 68;(with_reducible refine ((load_z HS0.out.mem hn HLe.out bs H0l.out _ rfl)).mono ?_);rintro e W1 ⟨rfl,hm',hf'⟩;have HS1:=Lib.hid (HS0.out.acc hm' hf' HT.out);have HB1_g:Hid (W1.heap[g]? = some (.cells (k07 bs sp l true AG m cG o0 o1 o2 o3 false) 104 (0,0))):=Lib.hid (blk_fr HB0_g.out hf' (by simp) (by decide));replace C_g:=cells_k07 HB1_g.out;clear hm' hf';rw [HX1.out]))
 go_ret
 exact ⟨true,⟨sp,l,true,got,0,x1,false,0,true⟩,ws,_,rfl,⟨_,_,_,HML.out,(blk_set' (blk_set' (blk_set' (blk_set' (blk_set' HB1_g.out 5 (.int .i64 0) rfl) 6 (.int .i64 x1) rfl) 7 (.bool false) rfl) 8 (.int .i64 0) rfl) 9 (.bool true) rfl),HG.out.fr (HSG_g.out _ _ _ (HSG_g.out _ _ _ (HSG_g.out _ _ _ (HSG_g.out _ _ _ (HSG_g.out _ _ _ HS1.out 5 (.int .i64 0)) 6 (.int .i64 x1)) 7 (.bool false)) 8 (.int .i64 0)) 9 (.bool true)).fr⟩,⟨.inl rfl⟩,(HSG_g.out _ _ _ (HSG_g.out _ _ _ (HSG_g.out _ _ _ (HSG_g.out _ _ _ (HSG_g.out _ _ _ HS1.out 5 (.int .i64 0)) 6 (.int .i64 x1)) 7 (.bool false)) 8 (.int .i64 0)) 9 (.bool true)).mem,WTo.refl HW.out,by omega,Nat.le_refl _,HLL.out ▸ (HSG_g.out _ _ _ (HSG_g.out _ _ _ (HSG_g.out _ _ _ (HSG_g.out _ _ _ (HSG_g.out _ _ _ HS1.out 5 (.int .i64 0)) 6 (.int .i64 x1)) 7 (.bool false)) 8 (.int .i64 0)) 9 (.bool true)).fr⟩
theorem step07_on {c:Cf} (hc:c.Ok) {v B gm g n:Nat} {w:World} {ws:List Int} (hv:v < c.N) (hm:MemIs B w gm ws n) (hw:WOk c ws) (hn:n ≤ 1000000) (hB:B ≤ g) {sp:Nat} {l o0 o1 o3:Int} {o2:Bool} {got:List Int} (hg:Is07 (c.na v (2 + c.S)) w g ⟨sp,l,false,got,o0,o1,o2,o3,false⟩) (hi:A07 c ⟨sp,l,false,got,o0,o1,o2,o3,false⟩) (hq:got.length + 1 ≠ 4 + 2 * c.S) :
  Calls Try.prog 47 #[.pointer (some ⟨g,0,none⟩),.pointer (some ⟨gm,0,none⟩)] w (P07 c (c.na v (2 + c.S)) B gm g ws n w):=by
 obtain ⟨AG,m,cG,hml,hg,hG⟩:=hg
 have HW:=Lib.hid hw
 have HG:=Lib.hid hG
 have HLe:=Lib.hid (hw.le hc)
 have HI:=Lib.hid hi
 have hS:=hc.Sle
 have hK:c.K = 6 + 2 * c.S:=rfl
 have hpl:Hid (∀ j:Nat,j ≤ 3 + c.S→c.na v (2 + c.S) + j < ws.length):=Lib.hid (fun j hj=>by have:=hw.lt (v:=v) (o:=2 + c.S + j) hv (by omega);unfold Cf.na at this ⊢;omega)
 have hps:Hid (c.na v (2 + c.S) ≤ 10000):=Lib.hid (by have:=hpl.out 0 (by omega);have:=HLe.out;omega)
 obtain ⟨bs,hbs⟩:∃ p,c.na v (2 + c.S) = p:=⟨_,rfl⟩
 rw [hbs] at hg hpl hps ⊢
 dsimp only at hg hml
 have HML:=Lib.hid hml
 have HB0_g:=Lib.hid hg
 obtain ⟨L,T,HLL,HTe,HT,HSG_g,HS0⟩:=st1 hm hB hg (by decide) (by decide)
 have HC:=Lib.hid hc
 clear hc hw hg hm hG hi hK hbs hml hS
 obtain ⟨hsp,hgl⟩:sp = c.S∧m < 4 + 2 * c.S:=by rcases HI.out.h with h|⟨h1,h2⟩;cases h;exact ⟨h1,by rw [← HML.out];exact h2⟩
 have hS:=HC.out.Sle
 rw [← hsp] at hgl hS hpl
 rw [HML.out,← hsp] at hq
 have HSP:=Lib.hid hsp
 have q1:IntKind.i64.wrap (2 * (sp:Int)) = 2 * (sp:Int):=IntWalk.i64_in _ (by omega)
 have q2:IntKind.i64.wrap (4 + 2 * (sp:Int)) = 4 + 2 * (sp:Int):=IntWalk.i64_in _ (by omega)
 have q3:IntKind.i64.wrap (2 * (sp:Int) + 4) = 2 * (sp:Int) + 4:=IntWalk.i64_in _ (by omega)
 have q4:((m:Int) + 1 == 4 + 2 * (sp:Int)) = false:=beq_eq_false_iff_ne.2 (by omega)
 have HSL:=Lib.hid hS
 have HGL:=Lib.hid hgl
 have HQ:=Lib.hid hq
 clear hsp hgl hS hq
 have C_g:=cells_k07 HB0_g.out
 go_enter Try.func47,Try.ntmps47
 go_wp2_with (first|(go_at_call 75;(with_reducible refine (word_any HS0.out.mem hB HB0_g.out hps.out HSL.out HGL.out).mono ?_);rintro e W1 ⟨p,hp,rfl,hg',hm',hf'⟩;have HS1:=Lib.hid (HS0.out.turn hm' hf' (fun p hp hk=>by rw [HTe.out] at hp;rw [List.mem_singleton.1 hp];exact ⟨_,hg'⟩) (fun k hk=>.inl (by rw [HLL.out];exact hk)) HT.out);have HB1_g:Hid (W1.heap[g]? = some (.cells (k07 bs sp l false AG m cG o0 o1 o2 o3 false) 104 (0,0))):=Lib.hid (hg');replace C_g:=cells_k07 HB1_g.out;clear hg' hm' hf';have HP0:=Lib.hid (hpl.out p (by have:=HSP.out;omega));obtain ⟨x1,hx1⟩:∃ z,wd ws (bs + p) = z:=⟨_,rfl⟩;have HX1:=Lib.hid hx1;clear hx1 hp)|(go_at_call 68;(with_reducible refine ((load_z HS1.out.mem hn HLe.out (bs + p) HP0.out ((bs:Int) + (p:Int)) (by omega))).mono ?_);rintro e W2 ⟨rfl,hm',hf'⟩;have HS2:=Lib.hid (HS1.out.acc hm' hf' HT.out);have HB2_g:=Lib.hid (blk_fr HB1_g.out hf' (by simp) (by decide));replace C_g:=cells_k07 HB2_g.out;clear hm' hf';rw [HX1.out])|((with_reducible refine gate_dst (N:=37) rfl ?_);refine Kd.R_lit (Kd.int .i64) _ 3 ?hg (N:=37) ?hd (xs:=[]) (inner:=[]) (ok:=fun _=>True) (okp:=fun _=>True) ?hr ?hp (fun _ hk=>hk) trivial (Below.refl _ _) (Nat.le_refl _) (by simp) ?_;(case hd=>rfl);(case hg=>rfl);(case hr=>first|(go_simp;done)|(go_simp;rfl));(case hp=>exact (Reps.none _ _));intro vA W3 ho hb' hg_ hnew_;have HRA:=Lib.hid ho;have HBA:=Lib.hid hb';clear ho hg_ hnew_;have HS3:=Lib.hid (HS2.out.below hb');have HB3_g:=Lib.hid (blk_below HB2_g.out hb');replace C_g:=cells_k07 HB3_g.out;clear hb')|((with_reducible refine gate_builtin (b:=.append) (xs:=#[.tmp 37,.tmp 41]) rfl ?_);at_builtin;refine Kd.R_append_rows (Kd.int .i64) (w0:=W2) W2.heap.size rfl (.tmp 37) (.tmp 41) 22 3 (.int .i64 0) 8 rfl Try.underlying22 info3 rfl (by decide) (by omega) vA [] got _ _ _ (fun _=>True) (fun _=>False) rfl rfl HRA.out (by have h:=(HG.out.fr (HS2.out.below HBA.out).fr).reads;obtain ⟨A_,c_,e_,_,h_⟩:=h;injection e_ with e1_ _ e3_;subst e1_ e3_;rw [HML.out] at h_;exact h_) (fun _ _ h=>h) (fun _ h=>h.elim) (fun _ _=>trivial) HBA.out (below_size HBA.out) (by have:=HGL.out;have:=HSL.out;have:=HML.out;simp only [List.length_nil,List.nil_append];omega) ?_;intro vB W4 ho hb' hg_ hat_;have HRB:=Lib.hid ho;have HBB:=Lib.hid hb';clear ho hg_ hat_ HRA HBA;have HS4:=Lib.hid (HS2.out.below hb');have HB4_g:=Lib.hid (blk_below HB2_g.out hb');replace C_g:=cells_k07 HB4_g.out;clear hb')|((with_reducible refine gate_builtin (b:=.append) (xs:=#[.tmp 42,.tmp 44]) rfl ?_);at_builtin;refine Kd.R_append (Kd.int .i64) (w0:=W2) W2.heap.size rfl (.tmp 42) (.tmp 44) 22 3 (.int .i64 0) 8 rfl Try.underlying22 info3 rfl (by decide) (by omega) vB ([] ++ got) x1 [.int .i64 x1] (fun _=>True) (fun _=>False) rfl rfl rfl (fun _ hk=>hk.elim) (fun _ _=>trivial) HRB.out HBB.out (below_size HBB.out) (by have:=HGL.out;have:=HSL.out;have:=HML.out;simp only [List.length_nil,List.nil_append];omega) ?_;intro vC W5 ho hb' hg_ hat_;obtain ⟨AC,cC,eC⟩:=Kd.R_slice ho;subst eC;have HRC:=Lib.hid ho;clear ho hg_ hat_ HRB HBB;have HS5:=Lib.hid (HS2.out.below hb');have HB5_g:=Lib.hid (blk_below HB2_g.out hb');replace C_g:=cells_k07 HB5_g.out;have hle:(([] ++ got) ++ [x1]).length = m + 1:=(by simp only [List.nil_append,List.length_append,List.length_singleton,HML.out]);rw [hle];have HLE:=Lib.hid hle;have HRD:=HRC;rw [hle] at HRD;clear hle HRC;clear hb'))
 generalize hWd:(World.setCell W5 ⟨g,4,none⟩ (.slice AC (m + 1) cC)) = W6 at ⊢
 have HWd:=Lib.hid hWd
 clear hWd
 have HR6_got:Hid (Ints W6 (.slice AC (m + 1) cC) (([] ++ got) ++ [x1])):=Lib.hid (by rw [← HWd.out];exact (Ints.set (Ints.of HRD.out) HB5_g.out (by decide) 4 (.slice AC (m + 1) cC)))
 have HS6:Hid (St B L T w gm ws (n + 1) W6):=Lib.hid (by rw [← HWd.out];exact (HSG_g.out _ _ _ HS5.out 4 (.slice AC (m + 1) cC)))
 have HB6_g:Hid (W6.heap[g]? = some (.cells (k07 bs sp l false AC (m + 1) cC o0 o1 o2 o3 false) 104 (0,0))):=Lib.hid (by rw [← HWd.out];exact (blk_set' HB5_g.out 4 (.slice AC (m + 1) cC) rfl))
 replace C_g:=cells_k07 HB6_g.out
 clear HWd
 refine ch_b C_g C_g [0,1,2,3,4,5,6,7,8,9,10,11] (fun W7 HWd hHeld=>?_)
 have HR7_got:Hid (Ints W7 (.slice AC (m + 1) cC) (([] ++ got) ++ [x1])):=Lib.hid (by rw [← HWd.out];exact (HR6_got.out).drew)
 have HS7:=dwS HWd HS6
 have HB7_g:=dwH HWd HB6_g
 replace C_g:=cells_k07 HB7_g.out
 clear HWd
 iterate 12 refine ch_s ?_
 refine ch_z ?_
 clear hHeld
 go_wp2
 go_ret
 exact ⟨false,⟨sp,l,false,([] ++ got) ++ [x1],o0,o1,o2,o3,false⟩,ws,_,rfl,⟨_,_,_,HLE.out,HB7_g.out,HR7_got.out⟩,⟨.inr ⟨HSP.out,by have h1:=HLE.out;have h2:=HQ.out;have h3:=HGL.out;have h4:=HSP.out;show (([] ++ got) ++ [x1]).length < _;omega⟩⟩,HS7.out.mem,WTo.refl HW.out,by omega,Nat.le_refl _,HLL.out ▸ HS7.out.fr⟩
theorem step07_full {c:Cf} (hc:c.Ok) {v B gm g n:Nat} {w:World} {ws:List Int} (hv:v < c.N) (hm:MemIs B w gm ws n) (hw:WOk c ws) (hn:n ≤ 1000000) (hB:B ≤ g) {sp:Nat} {l o0 o1 o3:Int} {o2:Bool} {got:List Int} (hg:Is07 (c.na v (2 + c.S)) w g ⟨sp,l,false,got,o0,o1,o2,o3,false⟩) (hi:A07 c ⟨sp,l,false,got,o0,o1,o2,o3,false⟩) (hq:got.length + 1 = 4 + 2 * c.S) :
  Calls Try.prog 47 #[.pointer (some ⟨g,0,none⟩),.pointer (some ⟨gm,0,none⟩)] w (P07 c (c.na v (2 + c.S)) B gm g ws n w):=by
 obtain ⟨AG,m,cG,hml,hg,hG⟩:=hg
 have HW:=Lib.hid hw
 have HG:=Lib.hid hG
 have HLe:=Lib.hid (hw.le hc)
 have HI:=Lib.hid hi
 have hS:=hc.Sle
 have hK:c.K = 6 + 2 * c.S:=rfl
 have hpl:Hid (∀ j:Nat,j ≤ 3 + c.S→c.na v (2 + c.S) + j < ws.length):=Lib.hid (fun j hj=>by have:=hw.lt (v:=v) (o:=2 + c.S + j) hv (by omega);unfold Cf.na at this ⊢;omega)
 have hps:Hid (c.na v (2 + c.S) ≤ 10000):=Lib.hid (by have:=hpl.out 0 (by omega);have:=HLe.out;omega)
 obtain ⟨bs,hbs⟩:∃ p,c.na v (2 + c.S) = p:=⟨_,rfl⟩
 rw [hbs] at hg hpl hps ⊢
 dsimp only at hg hml
 have HML:=Lib.hid hml
 have HB0_g:=Lib.hid hg
 obtain ⟨L,T,HLL,HTe,HT,HSG_g,HS0⟩:=st1 hm hB hg (by decide) (by decide)
 have HC:=Lib.hid hc
 clear hc hw hg hm hG hi hK hbs hml hS
 obtain ⟨hsp,hgl⟩:sp = c.S∧m < 4 + 2 * c.S:=by rcases HI.out.h with h|⟨h1,h2⟩;cases h;exact ⟨h1,by rw [← HML.out];exact h2⟩
 have hS:=HC.out.Sle
 rw [← hsp] at hgl hS hpl
 rw [HML.out,← hsp] at hq
 have HSP:=Lib.hid hsp
 have q1:IntKind.i64.wrap (2 * (sp:Int)) = 2 * (sp:Int):=IntWalk.i64_in _ (by omega)
 have q2:IntKind.i64.wrap (4 + 2 * (sp:Int)) = 4 + 2 * (sp:Int):=IntWalk.i64_in _ (by omega)
 have q3:IntKind.i64.wrap (2 * (sp:Int) + 4) = 2 * (sp:Int) + 4:=IntWalk.i64_in _ (by omega)
 have q4:((m:Int) + 1 == 4 + 2 * (sp:Int)) = true:=beq_iff_eq.2 (by omega)
 have HSL:=Lib.hid hS
 have HGL:=Lib.hid hgl
 have HQ:=Lib.hid hq
 clear hsp hgl hS hq
 have C_g:=cells_k07 HB0_g.out
 go_enter Try.func47,Try.ntmps47
 go_wp2_with (first|(go_at_call 75;(with_reducible refine (word_any HS0.out.mem hB HB0_g.out hps.out HSL.out HGL.out).mono ?_);rintro e W1 ⟨p,hp,rfl,hg',hm',hf'⟩;have HS1:=Lib.hid (HS0.out.turn hm' hf' (fun p hp hk=>by rw [HTe.out] at hp;rw [List.mem_singleton.1 hp];exact ⟨_,hg'⟩) (fun k hk=>.inl (by rw [HLL.out];exact hk)) HT.out);have HB1_g:Hid (W1.heap[g]? = some (.cells (k07 bs sp l false AG m cG o0 o1 o2 o3 false) 104 (0,0))):=Lib.hid (hg');replace C_g:=cells_k07 HB1_g.out;clear hg' hm' hf';have HP0:=Lib.hid (hpl.out p (by have:=HSP.out;omega));obtain ⟨x1,hx1⟩:∃ z,wd ws (bs + p) = z:=⟨_,rfl⟩;have HX1:=Lib.hid hx1;clear hx1 hp)|(go_at_call 68;(with_reducible refine ((load_z HS1.out.mem hn HLe.out (bs + p) HP0.out ((bs:Int) + (p:Int)) (by omega))).mono ?_);rintro e W2 ⟨rfl,hm',hf'⟩;have HS2:=Lib.hid (HS1.out.acc hm' hf' HT.out);have HB2_g:=Lib.hid (blk_fr HB1_g.out hf' (by simp) (by decide));replace C_g:=cells_k07 HB2_g.out;clear hm' hf';rw [HX1.out])|((with_reducible refine gate_dst (N:=37) rfl ?_);refine Kd.R_lit (Kd.int .i64) _ 3 ?hg (N:=37) ?hd (xs:=[]) (inner:=[]) (ok:=fun _=>True) (okp:=fun _=>True) ?hr ?hp (fun _ hk=>hk) trivial (Below.refl _ _) (Nat.le_refl _) (by simp) ?_;(case hd=>rfl);(case hg=>rfl);(case hr=>first|(go_simp;done)|(go_simp;rfl));(case hp=>exact (Reps.none _ _));intro vA W3 ho hb' hg_ hnew_;have HRA:=Lib.hid ho;have HBA:=Lib.hid hb';clear ho hg_ hnew_;have HS3:=Lib.hid (HS2.out.below hb');have HB3_g:=Lib.hid (blk_below HB2_g.out hb');replace C_g:=cells_k07 HB3_g.out;clear hb')|((with_reducible refine gate_builtin (b:=.append) (xs:=#[.tmp 37,.tmp 41]) rfl ?_);at_builtin;refine Kd.R_append_rows (Kd.int .i64) (w0:=W2) W2.heap.size rfl (.tmp 37) (.tmp 41) 22 3 (.int .i64 0) 8 rfl Try.underlying22 info3 rfl (by decide) (by omega) vA [] got _ _ _ (fun _=>True) (fun _=>False) rfl rfl HRA.out (by have h:=(HG.out.fr (HS2.out.below HBA.out).fr).reads;obtain ⟨A_,c_,e_,_,h_⟩:=h;injection e_ with e1_ _ e3_;subst e1_ e3_;rw [HML.out] at h_;exact h_) (fun _ _ h=>h) (fun _ h=>h.elim) (fun _ _=>trivial) HBA.out (below_size HBA.out) (by have:=HGL.out;have:=HSL.out;have:=HML.out;simp only [List.length_nil,List.nil_append];omega) ?_;intro vB W4 ho hb' hg_ hat_;have HRB:=Lib.hid ho;have HBB:=Lib.hid hb';clear ho hg_ hat_ HRA HBA;have HS4:=Lib.hid (HS2.out.below hb');have HB4_g:=Lib.hid (blk_below HB2_g.out hb');replace C_g:=cells_k07 HB4_g.out;clear hb')|((with_reducible refine gate_builtin (b:=.append) (xs:=#[.tmp 42,.tmp 44]) rfl ?_);at_builtin;refine Kd.R_append (Kd.int .i64) (w0:=W2) W2.heap.size rfl (.tmp 42) (.tmp 44) 22 3 (.int .i64 0) 8 rfl Try.underlying22 info3 rfl (by decide) (by omega) vB ([] ++ got) x1 [.int .i64 x1] (fun _=>True) (fun _=>False) rfl rfl rfl (fun _ hk=>hk.elim) (fun _ _=>trivial) HRB.out HBB.out (below_size HBB.out) (by have:=HGL.out;have:=HSL.out;have:=HML.out;simp only [List.length_nil,List.nil_append];omega) ?_;intro vC W5 ho hb' hg_ hat_;obtain ⟨AC,cC,eC⟩:=Kd.R_slice ho;subst eC;have HRC:=Lib.hid ho;clear ho hg_ hat_ HRB HBB;have HS5:=Lib.hid (HS2.out.below hb');have HB5_g:=Lib.hid (blk_below HB2_g.out hb');replace C_g:=cells_k07 HB5_g.out;have hle:(([] ++ got) ++ [x1]).length = m + 1:=(by simp only [List.nil_append,List.length_append,List.length_singleton,HML.out]);rw [hle];have HLE:=Lib.hid hle;have HRD:=HRC;rw [hle] at HRD;clear hle HRC;clear hb'))
 generalize hWd:(World.setCell W5 ⟨g,4,none⟩ (.slice AC (m + 1) cC)) = W6 at ⊢
 have HWd:=Lib.hid hWd
 clear hWd
 have HR6_got:Hid (Ints W6 (.slice AC (m + 1) cC) (([] ++ got) ++ [x1])):=Lib.hid (by rw [← HWd.out];exact (Ints.set (Ints.of HRD.out) HB5_g.out (by decide) 4 (.slice AC (m + 1) cC)))
 have HS6:Hid (St B L T w gm ws (n + 1) W6):=Lib.hid (by rw [← HWd.out];exact (HSG_g.out _ _ _ HS5.out 4 (.slice AC (m + 1) cC)))
 have HB6_g:Hid (W6.heap[g]? = some (.cells (k07 bs sp l false AC (m + 1) cC o0 o1 o2 o3 false) 104 (0,0))):=Lib.hid (by rw [← HWd.out];exact (blk_set' HB5_g.out 4 (.slice AC (m + 1) cC) rfl))
 replace C_g:=cells_k07 HB6_g.out
 clear HWd
 refine ch_b C_g C_g [0,1,2,3,4,5,6,7,8,9,10,11] (fun W7 HWd hHeld=>?_)
 have HR7_got:Hid (Ints W7 (.slice AC (m + 1) cC) (([] ++ got) ++ [x1])):=Lib.hid (by rw [← HWd.out];exact (HR6_got.out).drew)
 have HS7:=dwS HWd HS6
 have HB7_g:=dwH HWd HB6_g
 replace C_g:=cells_k07 HB7_g.out
 clear HWd
 iterate 12 refine ch_s ?_
 refine ch_z ?_
 clear hHeld
 go_wp2_with (first|(go_at_call 76;(with_reducible refine (closed_any HS7.out.mem hB HB7_g.out HSL.out HR7_got.out (by have:=HQ.out;omega)).mono ?_);rintro e W8 ⟨rfl,l',o0',o1',o2',o3',en',hg',hm',hf'⟩;have HS8:=Lib.hid (HS7.out.turn hm' hf' (fun p hp hk=>by rw [HTe.out] at hp;rw [List.mem_singleton.1 hp];exact ⟨_,hg'⟩) (fun k hk=>.inl (by rw [HLL.out];exact hk)) HT.out);have HB8_g:Hid (W8.heap[g]? = some (.cells (k07 bs sp l' false none 0 0 o0' o1' o2' o3' en') 104 (0,0))):=Lib.hid (hg');replace C_g:=cells_k07 HB8_g.out;clear hg' hm' hf'))
 go_ret
 exact ⟨en',⟨sp,l',false,[],o0',o1',o2',o3',en'⟩,ws,_,rfl,⟨_,_,_,rfl,HB8_g.out,Kd.R_nil _ _ _ _ _⟩,⟨.inr ⟨HSP.out,by show 0 < _;omega⟩⟩,HS8.out.mem,WTo.refl HW.out,by omega,Nat.le_refl _,HLL.out ▸ HS8.out.fr⟩
theorem step07 {c:Cf} (hc:c.Ok) {v B gm g n:Nat} {w:World} {ws:List Int} (hv:v < c.N) (hm:MemIs B w gm ws n) (hw:WOk c ws) (hn:n ≤ 1000000) (hB:B ≤ g) {x:S07} (hg:Is07 (c.na v (2 + c.S)) w g x) (hi:A07 c x) :
  Calls Try.prog 47 #[.pointer (some ⟨g,0,none⟩),.pointer (some ⟨gm,0,none⟩)] w (P07 c (c.na v (2 + c.S)) B gm g ws n w):=by
 obtain ⟨sp,l,gl,got,o0,o1,o2,o3,en⟩:=x
 cases en with
 | true=>exact step07_end hc hv hm hw hn hB hg hi
 | false =>
  cases gl with
  | true=>exact step07_glance hc hv hm hw hn hB hg hi
  | false =>
   by_cases h1:got.length + 1 = 4 + 2 * c.S
   ·exact step07_full hc hv hm hw hn hB hg hi h1
   ·exact step07_on hc hv hm hw hn hB hg hi h1
end Go.Proofs.Ytadblpcjkahikaa.PTraceRuns

