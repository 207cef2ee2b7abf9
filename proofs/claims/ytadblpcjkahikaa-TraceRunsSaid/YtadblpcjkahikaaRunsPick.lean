
import Derived.Test.YtadblpcjkahikaaRunsMach
import Derived.Test.YtadblpcjkahikaaRunsInv
namespace Go.Proofs.Ytadblpcjkahikaa.PTraceRuns
open Go.RowKit Go.Proofs.YtadblpcjkahikaaW.PrintWords Go.Proofs.YtadblpcjkahikaaW.PrintLast Go.Proofs.YtadblpcjkahikaaW.PrintMore
set_option linter.unusedVariables false
set_option linter.unusedSimpArgs false
attribute [local go_sem] ans_f0 ans_f1
set_option maxHeartbeats 20000000
set_option maxRecDepth 100000
theorem row_set {α:Type} {d:Kd α} {e b t:Nat} {ok:Nat→Prop} {w:World} {v:Value} {xs:List α} (h:d.R e w b ok v xs) {g:Nat} {cs:Array Value} {fr:Nat × Nat} (hb:w.heap[g]? = some (.cells cs t fr)) (hE:∀ q ∈ e :: d.E,q ≠ t) (i:Nat) (u:Value):d.R e (w.setCell ⟨g,i,none⟩ u) b ok v xs:=row_keep h (KeepT.setCell hb i u) hE
section
variable {w w1:World} {v:Value} {ps:List (Option Nat)} {l:List S48} {g:Nat} {cs:Array Value} {fr:Nat × Nat}
theorem Ptrs.below (h:Ptrs w v ps) (hb:Below w.heap.size w w1):Ptrs w1 v ps:=Kd.R_below h hb
theorem Ptrs.drew (h:Ptrs w v ps):Ptrs w.drew v ps:=row_keep (t:=39) h (fun _ _ _ _ h _=>h) (by decide)
theorem Ptrs.drewN (h:Ptrs w v ps) (n:Nat):Ptrs (w.drewN n) v ps:=row_keep (t:=39) h (fun _ _ _ _ h _=>h) (by decide)
theorem Ptrs.set (h:Ptrs w v ps) (hb:w.heap[g]? = some (.cells cs 39 fr)) (i:Nat) (u:Value):Ptrs (w.setCell ⟨g,i,none⟩ u) v ps:=row_set h hb (by decide) i u
theorem Evs.below (h:Evs w v l) (hb:Below w.heap.size w w1):Evs w1 v l:=Kd.R_below h hb
theorem Evs.drew (h:Evs w v l):Evs w.drew v l:=row_keep (t:=39) h (fun _ _ _ _ h _=>h) (by decide)
theorem Evs.drewN (h:Evs w v l) (n:Nat):Evs (w.drewN n) v l:=row_keep (t:=39) h (fun _ _ _ _ h _=>h) (by decide)
theorem Evs.set (h:Evs w v l) (hb:w.heap[g]? = some (.cells cs 39 fr)) (i:Nat) (u:Value):Evs (w.setCell ⟨g,i,none⟩ u) v l:=row_set h hb (by decide) i u
theorem ptr_cell {A:Option Addr} {n c:Nat} (h:Ptrs w (.slice A n c) ps) {i:Nat} (hi:i < n):∃ gn,A = some ⟨gn,0,none⟩∧(∀ k o t fr,w.heap[k]? = some (.cells o t fr)→t ≠ 62→gn ≠ k):=by
 obtain ⟨gn,e,hne,_⟩:=ptr_at (B:=0) (L:=[]) h i hi
 exact ⟨gn,e,hne⟩
theorem ptr_val {gn n c:Nat} (h:Ptrs w (.slice (some ⟨gn,0,none⟩) n c) ps) {i:Nat} (hi:i < n) {o:Option Nat} (ho:ps.getD i none = o):w.cell? ⟨gn,i,none⟩ = some (.pointer (bp o)):=by
 obtain ⟨gn',e,_,hc⟩:=ptr_at (B:=0) (L:=[]) h i hi
 injection e with e;injection e with e
 subst e ho
 exact hc.out w (Fr.refl _ _ _ _)
theorem int_val {gb n c:Nat} {bg:List Int} (h:Ints w (.slice (some ⟨gb,0,none⟩) n c) bg) {i:Nat} (hi:i < n) {z:Int} (ho:bg.getD i 0 = z):w.cell? ⟨gb,i,none⟩ = some (.int .i64 z):=by
 obtain ⟨gn',xf,e,hx,_,hc⟩:=ints_at (B:=0) (L:=[]) h (by omega)
 injection e with e;injection e with e
 subst e ho
 rw [← hx]
 exact hc.out w (Fr.refl _ _ _ _) i hi
end
namespace Mach
variable {c:Cf} {B g:Nat} {w w':World} {ws ws':List Int} {now:Now}
theorem fr' {L:List Nat} (h:Mach c B w g ws now) (hf:Fr B true L w w') (hL:∀ k ∈ L,k = g:=by simp):Mach c B w' g ws now:=h.fr hf hL
theorem below (h:Mach c B w g ws now) (hb:Below w.heap.size w w'):Mach c B w' g ws now:=h.fr (Fr.of_below hb B true []) (fun _ h=>by cases h)
theorem drew (h:Mach c B w g ws now):Mach c B w.drew g ws now:=h.fr (L:=[]) (Fr.refl B true [] w).drew (fun _ h=>by cases h)
theorem drewN (h:Mach c B w g ws now) (n:Nat):Mach c B (w.drewN n) g ws now:=h.fr (L:=[]) ((Fr.refl B true [] w).drewN n) (fun _ h=>by cases h)
theorem set (h:Mach c B w g ws now) (hB:B ≤ g) {cs:Array Value} (hb:w.heap[g]? = some (.cells cs 39 (0,0))) (i:Nat) (u:Value):Mach c B (w.setCell ⟨g,i,none⟩ u) g ws now:=h.fr ((Fr.refl B true [g] w).setCell hB (.inl List.mem_cons_self) hb (by decide) u) (fun k hk=>List.mem_singleton.1 hk)
end Mach
def onOf (now:Now) (t:Nat):Bool:=(now.getD t none).isSome
theorem onOf_set (now:Now) {i:Nat} (hi:i < now.length) (o:Option (Nat × M15)) (t:Nat):onOf (now.set i o) t = if t = i then o.isSome else onOf now t:=by
 unfold onOf
 rw [getD_set_now]
 by_cases h:i = t
 ·rw [if_pos ⟨h,hi⟩,if_pos h.symm]
 ·rw [if_neg (fun e=>h e.1),if_neg (fun e=>h e.symm)]
theorem ptrs_same {now:Now} {i gi:Nat} {xi x':M15} (h:now.getD i none = some (gi,xi)) (hi:i < now.length):ptrs (now.set i (some (gi,x'))) = ptrs now:=by
 rw [ptrs_set]
 have h2:(ptrs now).getD i none = some gi:=by rw [ptrs_getD,h];rfl
 have hl:i < (ptrs now).length:=by unfold ptrs;rw [List.length_map];exact hi
 rw [List.getD_eq_getElem?_getD,List.getElem?_eq_getElem hl] at h2
 have h3:(ptrs now)[i] = some gi:=h2
 show (ptrs now).set i (some gi) = ptrs now
 rw [← h3,List.set_getElem_self]
def P18 (c:Cf) (B g gm:Nat) (calls:List (List S43)) (l:List S48) (n:Nat) (w:World) (e:Ending) (w':World):Prop :=
 ∃ b bg' now' l' ws' n',e = .returned (.bool b)∧SB c w' g gm calls bg' (ptrs now') l'∧MemIs B w' gm ws' n'∧WOk c ws'∧Mach c B w' g ws' now'∧Inv calls bg' (onOf now') l' n'∧now'.length = calls.length∧n' ≤ n + 1∧l'.length ≤ l.length + 2∧Below B w w'
theorem event16' {c:Cf} {B gm g n i j tB tN cP cL cC cB cN cE:Nat} {AP AL AC AB AN AE:Option Addr} {w:World} {ws:List Int} (hm:MemIs B w gm ws n) (hB:B ≤ g) {calls:List (List S43)} {bg:List Int} {ev:List S48} (hg:w.heap[g]? = some (.cells (k16 c AP cP AL cL (some ⟨gm,0,none⟩) AC calls.length cC AB tB cB AN tN cN AE ev.length cE) 39 (0,0))) (hC:Rows43 w (.slice AC calls.length cC) calls) (hA:Ints w (.slice AB tB cB) bg) (hE:Evs w (.slice AE ev.length cE) ev) (hi:i < calls.length) (hi2:i < tB) (hj:bg.getD i 0 = (j:Int) + 1) (hj2:j < (calls.getD i []).length) (hj3:(calls.getD i []).length ≤ 8) (hmx:ev.length ≤ 4000) (kd a0 a1 a3:Int) (a2:Bool) :
  Calls Try.prog 24 #[.pointer (some ⟨g,0,none⟩),.int .i64 i,.int .i64 kd,.agg #[.int .i64 a0,.int .i64 a1,.bool a2,.int .i64 a3]] w fun e w'=>e = .returned (.tuple #[])∧∃ ev' AE' cE',ev' = ev ++ [⟨n,i,kd,rd_T43 (calls.getD i []) j,⟨a0,a1,a2,a3⟩⟩]∧w'.heap[g]? = some (.cells (k16 c AP cP AL cL (some ⟨gm,0,none⟩) AC calls.length cC AB tB cB AN tN cN AE' ev'.length cE') 39 (0,0))∧Evs w' (.slice AE' ev'.length cE') ev'∧MemIs B w' gm ws n∧Fr B true [g] w w':=by
 refine (event16 hm hB hg hC hA hE hi hi2 hj hj2 hj3 hmx kd a0 a1 a3 a2).mono ?_
 rintro e w' ⟨rfl,AE',cE',h1,h2,h3,h4⟩
 have hl:(ev ++ [(⟨n,i,kd,rd_T43 (calls.getD i []) j,⟨a0,a1,a2,a3⟩⟩:S48)]).length = ev.length + 1:=by simp
 exact ⟨rfl,_,AE',cE',rfl,by rw [hl];exact h1,by rw [hl];exact h2,h3,h4⟩
theorem pick_idle {c:Cf} (hc:c.Ok) {B g gm n:Nat} {w:World} {ws:List Int} {calls:List (List S43)} {bg:List Int} {now:Now} {l:List S48} (hS:SB c w g gm calls bg (ptrs now) l) (hm:MemIs B w gm ws n) (hw:WOk c ws) (hM:Mach c B w g ws now) (hI:Inv calls bg (onOf now) l n) (hB:B ≤ g) (hn:n ≤ 1000) (hl:l.length ≤ 3000) (hT:calls.length ≤ 8) (h8:∀ t,t < calls.length→(calls.getD t []).length ≤ 8) (hnow:now.length = calls.length) {i:Nat} (hi:i < calls.length) (hnone:now.getD i none = none) (hq:bg.getD i 0 = ((calls.getD i []).length:Int)) :
  Calls Try.prog 18 #[.pointer (some ⟨g,0,none⟩),.int .i64 i] w (P18 c B g gm calls l n w):=by
 obtain ⟨AP,cP,AL,cL,AC,cC,AB,cB,AN,cN,AE,cE,hg,hP,hL,hC,hA,hN,hE⟩:=hS
 have hgw:=blk_lt hg
 have HBW:Hid (B ≤ w.heap.size):=Lib.hid (by omega)
 have HC:=Lib.hid hc
 have HP:=Lib.hid hP
 have HLi:=Lib.hid hL
 have HC43:=Lib.hid hC
 have HA:=Lib.hid hA
 have HNR:=Lib.hid hN
 have HE:=Lib.hid hE
 have HW:=Lib.hid hw
 have HM:=Lib.hid hM
 have HI:=Lib.hid hI
 have HII:Hid (i < calls.length):=Lib.hid hi
 have HIN:Hid (i < now.length):=Lib.hid (by omega)
 have HNL:Hid (now.length = calls.length):=Lib.hid hnow
 have HTL:Hid (calls.length ≤ 8∧bg.length = calls.length∧(calls.getD i []).length ≤ 8):=Lib.hid ⟨hT,hI.lenB,h8 i hi⟩
 have HLL3:Hid (l.length ≤ 3000):=Lib.hid hl
 have HBG:Hid (B ≤ g):=Lib.hid hB
 have HNN:Hid (n ≤ 1000):=Lib.hid hn
 have hn6:n ≤ 1000000:=by omega
 obtain ⟨L,T,HLL,HTe,HT,HSG_g,HS0⟩:=st1 hm hB hg (by decide) (by decide)
 obtain ⟨gC,AI,cI,rfl,hneC,hcI,HCA,hIA⟩:=call_at (B:=B) (L:=L) hC i hi
 obtain ⟨gB,xf,rfl,hx,hneB,HBA0⟩:=ints_at (B:=B) (L:=L) hA (by omega)
 obtain ⟨gN,rfl,hneN,HNA⟩:=ptr_at (B:=B) (L:=L) hN i hi
 obtain ⟨j,hj,hjl⟩:=hI.rng i hi
 have HBA:Hid (∀ W,Fr B true L w W→W.cell? ⟨gB,i,none⟩ = some (.int .i64 (j:Int))):=Lib.hid (fun W hW=>by rw [HBA0.out W hW i hi,hx,hj])
 have HJ0:=Lib.hid hj
 have ne1:=hneN _ _ _ _ hg (by decide)
 have ne2:=Ne.symm ne1
 have ne3:=hneB _ _ _ _ hg (by decide)
 have ne4:=Ne.symm ne3
 have ne7:=hneC _ _ _ _ hg (by decide)
 have ne8:=Ne.symm ne7
 have HB0_g:=Lib.hid hg
 have hl8:=h8 i hi
 obtain ⟨lI,hlI⟩:∃ k,(calls.getD i []).length = k:=⟨_,rfl⟩
 have HLI:=Lib.hid hlI
 rw [hlI] at HCA hjl hl8
 rw [hj,hlI] at hq
 have i0:(0:Int) ≤ (i:Int):=by omega
 have i1:(i:Int) < (calls.length:Int):=by omega
 have i3:i < calls.length:=hi
 have d1:decide ((i:Int) < 0) = false:=decide_eq_false (by omega)
 have d2:decide ((calls.length:Int) ≤ (i:Int)) = false:=decide_eq_false (by omega)
 have d3:decide (calls.length ≤ i) = false:=decide_eq_false (by omega)
 have HNV:Hid (∀ W,Fr B true L w W→W.cell? ⟨gN,i,none⟩ = some (.pointer none)):=Lib.hid (fun W hW=>by rw [HNA.out W hW,ptrs_getD,hnone];rfl)
 have HNO:=Lib.hid hnone
 clear hnone HNA
 have e1:((j:Int) == (lI:Int)) = true:=beq_iff_eq.2 (by omega)
 have e2:(j == lI) = true:=beq_iff_eq.2 (by omega)
 clear hq hIA hjl hl8
 clear hc hg hP hL hC hA hN hE hw hM hI hm hgw hB hn hl hT h8 hnow hi hneC hneB hneN hcI HBA0 hx hj
 have C_g:=cells_k16 HB0_g.out
 have X_N:=HNV.out w HS0.out.fr
 go_enter Try.func18,Try.ntmps18
 go_wp2
 refine ch_st (fun wS=>wS.cell? ⟨g,9,none⟩ = some (.slice (some ⟨gC,0,none⟩) calls.length cC)∧wS.cell? ⟨g,10,none⟩ = some (.slice (some ⟨gB,0,none⟩) calls.length cB)∧wS.cell? ⟨gB,i,none⟩ = some (.int .i64 (j:Int))∧wS.cell? ⟨gC,i,none⟩ = some (.slice AI lI cI)) [] [0,1,2,3,4,5,6,7,8,9,10,11,12,13,14,15] (by kernel_rfl) rfl (⟨C_g.2.2.2.2.2.2.2.2.2.2.1,C_g.2.2.2.2.2.2.2.2.2.2.2.1,(HBA.out w HS0.out.fr),(HCA.out w HS0.out.fr)⟩) (fun W1 HWd hHeld=>?_)
 have HS1:=dwS HWd HS0
 have HB1_g:Hid (W1.heap[g]? = some (.cells (k16 c AP cP AL cL ((some ⟨gm,0,none⟩)) (some ⟨gC,0,none⟩) calls.length cC (some ⟨gB,0,none⟩) calls.length cB (some ⟨gN,0,none⟩) calls.length cN AE l.length cE) 39 (0,0))):=Lib.hid (by rw [← HWd.out];exact HB0_g.out)
 clear C_g X_N
 have C_g:=cells_k16 HB1_g.out
 have X_N:=HNV.out W1 HS1.out.fr
 clear HWd
 iterate 16 refine ch_s ?_
 refine ch_z ?_
 clear hHeld
 go_wp2
 go_ret
 exact ⟨false,bg,now,l,ws,n,rfl,⟨_,_,_,_,_,_,_,_,_,_,_,_,HB1_g.out,(HP.out.fr HS1.out.fr),(HLi.out.fr HS1.out.fr),(HC43.out.fr HS1.out.fr),(HA.out.fr HS1.out.fr),(HNR.out.fr HS1.out.fr),(HE.out.fr HS1.out.fr)⟩,HS1.out.mem,HW.out,(HM.out.fr HS1.out.fr (fun k hk=>by rw [HLL.out] at hk;exact List.mem_singleton.1 hk)),HI.out,HNL.out,by omega,by omega,HS1.out.fr.below HBW.out⟩
theorem now16_none {w:World} {A:Option Addr} {n cp:Nat} {ps:List (Option Nat)} (hr:Ptrs w (.slice A n cp) ps) {i:Nat} (hi:i < n) (hn:n ≤ 1000) :
  Calls Try.prog 26 #[.slice A n cp,.int .i64 i,.pointer none] w fun e w'=>∃ A' c',e = .returned (.slice A' n c')∧Ptrs w' (.slice A' n c') (ps.set i none)∧Below w.heap.size w w':=now16 hr hi hn none
theorem now16_some {w:World} {A:Option Addr} {n cp:Nat} {ps:List (Option Nat)} (hr:Ptrs w (.slice A n cp) ps) {i:Nat} (hi:i < n) (hn:n ≤ 1000) (gi:Nat) :
  Calls Try.prog 26 #[.slice A n cp,.int .i64 i,.pointer (some ⟨gi,0,none⟩)] w fun e w'=>∃ A' c',e = .returned (.slice A' n c')∧Ptrs w' (.slice A' n c') (ps.set i (some gi))∧Below w.heap.size w w':=now16 hr hi hn (some gi)
theorem getD_set_int (bg:List Int) {i:Nat} (hi:i < bg.length) (z:Int):(bg.set i z).getD i 0 = z:=by
 rw [List.getD_eq_getElem?_getD,List.getElem?_set,if_pos rfl,if_pos hi];rfl
theorem getD_set_ptr (ps:List (Option Nat)) {i:Nat} (hi:i < ps.length) (z:Option Nat):(ps.set i z).getD i none = z:=by
 rw [List.getD_eq_getElem?_getD,List.getElem?_set,if_pos rfl,if_pos hi];rfl
theorem getD_set_n (now:Now) {i:Nat} (hi:i < now.length) (z:Option (Nat × M15)):(now.set i z).getD i none = z:=by rw [getD_set_now,if_pos ⟨rfl,hi⟩]
theorem pick_busy {c:Cf} (hc:c.Ok) {B g gm n:Nat} {w:World} {ws:List Int} {calls:List (List S43)} {bg:List Int} {now:Now} {l:List S48} (hS:SB c w g gm calls bg (ptrs now) l) (hm:MemIs B w gm ws n) (hw:WOk c ws) (hM:Mach c B w g ws now) (hI:Inv calls bg (onOf now) l n) (hB:B ≤ g) (hn:n ≤ 1000) (hl:l.length ≤ 3000) (hT:calls.length ≤ 8) (h8:∀ t,t < calls.length→(calls.getD t []).length ≤ 8) (hnow:now.length = calls.length) {i:Nat} (hi:i < calls.length) {gi:Nat} {xi:M15} (hsome:now.getD i none = some (gi,xi)) :
  Calls Try.prog 18 #[.pointer (some ⟨g,0,none⟩),.int .i64 i] w (P18 c B g gm calls l n w):=by
 obtain ⟨AP,cP,AL,cL,AC,cC,AB,cB,AN,cN,AE,cE,hg,hP,hL,hC,hA,hN,hE⟩:=hS
 have hgw:=blk_lt hg
 have HBW:Hid (B ≤ w.heap.size):=Lib.hid (by omega)
 have HC:=Lib.hid hc
 have HP:=Lib.hid hP
 have HLi:=Lib.hid hL
 have HC43:=Lib.hid hC
 have HA:=Lib.hid hA
 have HNR:=Lib.hid hN
 have HE:=Lib.hid hE
 have HW:=Lib.hid hw
 have HM:=Lib.hid hM
 have HI:=Lib.hid hI
 have HII:Hid (i < calls.length):=Lib.hid hi
 have HIN:Hid (i < now.length):=Lib.hid (by omega)
 have HNL:Hid (now.length = calls.length):=Lib.hid hnow
 have HTL:Hid (calls.length ≤ 8∧bg.length = calls.length∧(calls.getD i []).length ≤ 8):=Lib.hid ⟨hT,hI.lenB,h8 i hi⟩
 have HLL3:Hid (l.length ≤ 3000):=Lib.hid hl
 have HBG:Hid (B ≤ g):=Lib.hid hB
 have HNN:Hid (n ≤ 1000):=Lib.hid hn
 have hn6:n ≤ 1000000:=by omega
 obtain ⟨L,T,HLL,HTe,HT,HSG_g,HS0⟩:=st1 hm hB hg (by decide) (by decide)
 obtain ⟨gC,AI,cI,rfl,hneC,hcI,HCA,hIA⟩:=call_at (B:=B) (L:=L) hC i hi
 obtain ⟨gB,xf,rfl,hx,hneB,HBA0⟩:=ints_at (B:=B) (L:=L) hA (by omega)
 obtain ⟨gN,rfl,hneN,HNA⟩:=ptr_at (B:=B) (L:=L) hN i hi
 obtain ⟨j,hj,hjl⟩:=hI.rng i hi
 have HBA:Hid (∀ W,Fr B true L w W→W.cell? ⟨gB,i,none⟩ = some (.int .i64 (j:Int))):=Lib.hid (fun W hW=>by rw [HBA0.out W hW i hi,hx,hj])
 have HJ0:=Lib.hid hj
 have ne1:=hneN _ _ _ _ hg (by decide)
 have ne2:=Ne.symm ne1
 have ne3:=hneB _ _ _ _ hg (by decide)
 have ne4:=Ne.symm ne3
 have ne7:=hneC _ _ _ _ hg (by decide)
 have ne8:=Ne.symm ne7
 have HB0_g:=Lib.hid hg
 have hl8:=h8 i hi
 obtain ⟨lI,hlI⟩:∃ k,(calls.getD i []).length = k:=⟨_,rfl⟩
 have HLI:=Lib.hid hlI
 rw [hlI] at HCA hjl hl8
 have i0:(0:Int) ≤ (i:Int):=by omega
 have i1:(i:Int) < (calls.length:Int):=by omega
 have i3:i < calls.length:=hi
 have d1:decide ((i:Int) < 0) = false:=decide_eq_false (by omega)
 have d2:decide ((calls.length:Int) ≤ (i:Int)) = false:=decide_eq_false (by omega)
 have d3:decide (calls.length ≤ i) = false:=decide_eq_false (by omega)
 have HNV:Hid (∀ W,Fr B true L w W→W.cell? ⟨gN,i,none⟩ = some (.pointer (some ⟨gi,0,none⟩))):=Lib.hid (fun W hW=>by rw [HNA.out W hW,ptrs_getD,hsome];rfl)
 have HSO:=Lib.hid hsome
 clear hsome HNA
 have hbusy:onOf now i = true:=by unfold onOf;rw [HSO.out];rfl
 obtain ⟨p0,jb,hp0,hjb,hjb2,_⟩:=hI.opn i hi hbusy
 have HJB:=Lib.hid hjb
 have HJ2:Hid (jb < (calls.getD i []).length):=Lib.hid hjb2
 have HON:=Lib.hid hbusy
 have HLX0:Hid (l.length ≤ l.length + 0):=Lib.hid (Nat.le_refl _)
 have HAT:=HSO
 have HNLI:=HIN
 have HPI:Hid ((ptrs now).getD i none = some gi):=Lib.hid (by rw [ptrs_getD,HSO.out];rfl)
 obtain ⟨LL,hLL⟩:∃ LL,LL = g :: own15 gi xi:=⟨_,rfl⟩
 have HLW:Hid (∀ k ∈ L,k ∈ LL):=Lib.hid (fun k h=>by rw [HLL.out] at h;rw [hLL,List.mem_singleton.1 h];exact List.mem_cons_self)
 have HGL:Hid (g ∈ LL):=Lib.hid (by rw [hLL];exact List.mem_cons_self)
 have HOL:Hid (∀ k ∈ own15 gi xi,k ∉ T.map (·.1)∧(k ∈ LL ∨ w.heap.size ≤ k)):=Lib.hid (fun k hk=>⟨by rw [HTe.out];simpa using ((hM.is i gi xi HSO.out).2.2 k hk).2.1,.inl (by rw [hLL];exact List.mem_cons_of_mem _ hk)⟩)
 have HGO:Hid (g ∉ own15 gi xi):=Lib.hid (fun h=>((hM.is i gi xi HSO.out).2.2 g h).2.1 rfl)
 clear hp0 hjb hjb2 hbusy hLL hIA hjl hl8
 clear hc hg hP hL hC hA hN hE hw hM hI hm hgw hB hn hl hT h8 hnow hi hneC hneB hneN hcI HBA0 hx hj
 have C_g:=cells_k16 HB0_g.out
 have X_N:=HNV.out w HS0.out.fr
 go_enter Try.func18,Try.ntmps18
 go_wp2
 refine ch_st (fun wS=>wS.cell? ⟨g,11,none⟩ = some (.slice (some ⟨gN,0,none⟩) calls.length cN)∧wS.cell? ⟨g,8,none⟩ = some (.pointer (some ⟨gm,0,none⟩))∧wS.cell? ⟨gN,i,none⟩ = some (.pointer (some ⟨gi,0,none⟩))) [] [0,1,2,3,4,5,6,7,8,9,10,11] (by kernel_rfl) rfl (⟨C_g.2.2.2.2.2.2.2.2.2.2.2.2.1,C_g.2.2.2.2.2.2.2.2.2.1,(show w.cell? ⟨gN,i,none⟩ = some (.pointer (some ⟨gi,0,none⟩)) from ptr_val (HNR.out.fr HS0.out.fr) HII.out HPI.out)⟩) (fun W1 HWd hHeld=>?_)
 have HS1:=dwS HWd HS0
 have HB1_g:Hid (W1.heap[g]? = some (.cells (k16 c AP cP AL cL ((some ⟨gm,0,none⟩)) (some ⟨gC,0,none⟩) calls.length cC (some ⟨gB,0,none⟩) calls.length cB (some ⟨gN,0,none⟩) calls.length cN AE l.length cE) 39 (0,0))):=Lib.hid (by rw [← HWd.out];exact HB0_g.out)
 clear C_g X_N
 have C_g:=cells_k16 HB1_g.out
 clear HWd
 iterate 11 refine ch_s ?_
 refine ch_1 fun K hK=>?_
 have HMPRE:Hid (Mach c B W1 g ws (now)):=Lib.hid (HM.out.fr HS1.out.fr (fun k hk=>by rw [HLL.out] at hk;exact List.mem_singleton.1 hk))
 have HSZB:Hid (B ≤ W1.heap.size∧g < W1.heap.size):=Lib.hid ⟨Nat.le_trans HBW.out HS1.out.fr.size,blk_lt HB1_g.out⟩
 refine goes_s Try.func28 #[.pointer (some ⟨gi,0,none⟩),.pointer (some ⟨gm,0,none⟩)] ?_
 refine (step15 HC.out HS1.out.mem HW.out hn6 (fun k hk=>((HMPRE.out.is i gi xi HAT.out).2.2 k hk).1) (HMPRE.out.is i gi xi HAT.out).1 (HMPRE.out.is i gi xi HAT.out).2.1).mono ?_
 rintro e W2 ⟨b1,x1,ws1,n1,rfl,hx1,hax1,hm',hwt,hn1,hn2,hf',how⟩
 refine ⟨_,rfl,?_⟩
 have HS2:=Lib.hid ((HS1.out.wide HLW.out).call hm' hf' HOL.out HT.out)
 have HB2_g:Hid (W2.heap[g]? = some (.cells (k16 c AP cP AL cL ((some ⟨gm,0,none⟩)) (some ⟨gC,0,none⟩) calls.length cC (some ⟨gB,0,none⟩) calls.length cB (some ⟨gN,0,none⟩) calls.length cN AE l.length cE) 39 (0,0))):=Lib.hid (blk_fr HB1_g.out hf' HGO.out (by decide))
 replace C_g:=cells_k16 HB2_g.out
 have X_N:=(show W2.cell? ⟨gN,i,none⟩ = some (.pointer (some ⟨gi,0,none⟩)) from ptr_val (HNR.out.fr HS2.out.fr) HII.out HPI.out)
 have HX1:=Lib.hid hx1
 have HWT:=Lib.hid hwt
 have HN1:=Lib.hid hn1
 have HN2:=Lib.hid hn2
 have HMM:=Lib.hid (HMPRE.out.step HNLI.out HAT.out hx1 hax1 hwt hf' how HSZB.out.1 HSZB.out.2)
 clear hx1 hax1 hwt hn1 hn2 how HMPRE HSZB
 clear hm' hf'
 have HSG2:Hid (∀ (ws:List Int) (n:Nat) (W:World),St B LL T w gm ws n W→∀ (i:Nat) (u:Value),St B LL T w gm ws n (W.setCell ⟨g,i,none⟩ u)):=Lib.hid (fun ws n W h i u=>h.set (t:=39) (by rw [HTe.out];exact List.mem_cons_self) HBG.out (.inl HGL.out) (by decide) (by decide) i u)
 refine hK.out _ _ (⟨C_g.2.2.2.2.2.2.2.2.2.2.2.2.1,C_g.2.2.2.2.2.2.2.2.2.1,(show W2.cell? ⟨gN,i,none⟩ = some (.pointer (some ⟨gi,0,none⟩)) from ptr_val (HNR.out.fr HS2.out.fr) HII.out HPI.out)⟩) ?_;clear hK K hHeld;intro hHeld
 try simp only [Act.put,zq1,zq2,zq3]
 refine ch_z ?_
 clear hHeld
 go_wp2_with (first|(go_at_call 29;(with_reducible refine (ans15 HX1.out).mono ?_);rintro e W3 ⟨a0,a1,a2,a3,rfl,hb'⟩;have HR3_M:Hid (Mach c B W3 g ws1 ((now).set i (some (gi,x1)))):=Lib.hid ((HMM.out).below hb');have HS3:=Lib.hid (HS2.out.below hb');have HB3_g:=Lib.hid (blk_below HB2_g.out hb');clear C_g X_N;have C_g:=cells_k16 HB3_g.out;have X_N:=(show W3.cell? ⟨gN,i,none⟩ = some (.pointer (some ⟨gi,0,none⟩)) from ptr_val (HNR.out.fr HS3.out.fr) HII.out HPI.out);clear hb')|(go_at_call 24;(with_reducible refine (event16' HS3.out.mem HBG.out HB3_g.out (HC43.out.fr HS3.out.fr) (HA.out.fr HS3.out.fr) (HE.out.fr HS3.out.fr) HII.out HII.out HJB.out HJ2.out HTL.out.2.2 (by have:=HLL3.out;have:=HLX0.out;omega) 2 a0 a1 a3 a2).mono ?_);rintro e W4 ⟨rfl,l1,AE1,cE1,hev,hg',hE1,hm',hf'⟩;have HR4_M:Hid (Mach c B W4 g ws1 ((now).set i (some (gi,x1)))):=Lib.hid ((HR3_M.out).fr hf');have HS4:=Lib.hid (HS3.out.turn hm' hf' (fun p hp hk=>by rw [HTe.out] at hp;rw [List.mem_singleton.1 hp];exact ⟨_,hg'⟩) (fun k hk=>.inl (by rw [List.mem_singleton.1 hk];exact HGL.out)) HT.out);have HB4_g:Hid (W4.heap[g]? = some (.cells (k16 c AP cP AL cL ((some ⟨gm,0,none⟩)) (some ⟨gC,0,none⟩) calls.length cC (some ⟨gB,0,none⟩) calls.length cB (some ⟨gN,0,none⟩) calls.length cN AE1 l1.length cE1) 39 (0,0))):=Lib.hid (hg');clear C_g X_N;have C_g:=cells_k16 HB4_g.out;have X_N:=(show W4.cell? ⟨gN,i,none⟩ = some (.pointer (some ⟨gi,0,none⟩)) from ptr_val (HNR.out.fr HS4.out.fr) HII.out HPI.out);have HEV1:=Lib.hid hev;have HLX1:Hid (l1.length ≤ l.length + 1):=Lib.hid (by have:=HLX0.out;rw [hev,List.length_append,List.length_singleton];omega);have HRX1:=Lib.hid hE1;clear hev hE1;clear hg' hm' hf')|(go_at_call 26;(with_reducible refine (now16_none (HNR.out.fr HS4.out.fr) HII.out (by have:=HTL.out;omega)).mono ?_);rintro e W5 ⟨A9,c9,rfl,hp9,hb'⟩;have HR5_M:Hid (Mach c B W5 g ws1 ((now).set i (some (gi,x1)))):=Lib.hid ((HR4_M.out).below hb');have HR5_E:Hid (Evs W5 (.slice AE1 l1.length cE1) l1):=Lib.hid ((HRX1.out).below hb');have HS5:=Lib.hid (HS4.out.below hb');have HB5_g:=Lib.hid (blk_below HB4_g.out hb');clear C_g X_N;have C_g:=cells_k16 HB5_g.out;have X_N:=(show W5.cell? ⟨gN,i,none⟩ = some (.pointer (some ⟨gi,0,none⟩)) from ptr_val (HNR.out.fr HS5.out.fr) HII.out HPI.out);have HR9:=Lib.hid hp9;clear hp9;clear hb'))
 ·go_ret
  refine ⟨true,bg,now.set i none,l1,ws1,n1,rfl,?_,(HSG2.out _ _ _ HS5.out 11 (.slice A9 calls.length c9)).mem,HWT.out.ok,(by have h:=(Mach.set HR5_M.out HBG.out HB5_g.out 11 (.slice A9 calls.length c9)).drop i;simpa only [List.set_set] using h),(by rw [HEV1.out];exact (HI.out).end_ HII.out HON.out HJB.out HN1.out ⟨a0,a1,a2,a3⟩ (fun t ht=>by rw [onOf_set now HIN.out];rfl)),by simp only [List.length_set];exact HNL.out,HN2.out,(by have:=HLX1.out;omega),(HSG2.out _ _ _ HS5.out 11 (.slice A9 calls.length c9)).fr.below HBW.out⟩
  rw [show ptrs (now.set i none) = (ptrs now).set i none from by rw [ptrs_set];rfl]
  exact ⟨_,_,_,_,_,_,_,_,_,_,_,_,(blk_set' HB5_g.out 11 (.slice A9 calls.length c9) rfl),(HP.out.fr (HSG2.out _ _ _ HS5.out 11 (.slice A9 calls.length c9)).fr),(HLi.out.fr (HSG2.out _ _ _ HS5.out 11 (.slice A9 calls.length c9)).fr),(HC43.out.fr (HSG2.out _ _ _ HS5.out 11 (.slice A9 calls.length c9)).fr),(HA.out.fr (HSG2.out _ _ _ HS5.out 11 (.slice A9 calls.length c9)).fr),(Ptrs.set HR9.out HB5_g.out 11 (.slice A9 calls.length c9)),(Evs.set HR5_E.out HB5_g.out 11 (.slice A9 calls.length c9))⟩
 ·go_ret
  refine ⟨true,bg,(now).set i (some (gi,x1)),l,ws1,n1,rfl,?_,HS2.out.mem,HWT.out.ok,HMM.out,(((HI.out).later HN1.out).congr (fun t ht=>by rw [onOf_set _ HNLI.out];by_cases e:t = i <;> simp [e,HON.out])),by simp only [List.length_set];exact HNL.out,HN2.out,(by have:=HLX0.out;omega),HS2.out.fr.below HBW.out⟩
  rw [show ptrs ((now).set i (some (gi,x1))) = ptrs now from ptrs_same HAT.out HNLI.out]
  exact ⟨_,_,_,_,_,_,_,_,_,_,_,_,HB2_g.out,(HP.out.fr HS2.out.fr),(HLi.out.fr HS2.out.fr),(HC43.out.fr HS2.out.fr),(HA.out.fr HS2.out.fr),(HNR.out.fr HS2.out.fr),(HE.out.fr HS2.out.fr)⟩
theorem pick_new_err {c:Cf} (hc:c.Ok) {B g gm n:Nat} {w:World} {ws:List Int} {calls:List (List S43)} {bg:List Int} {now:Now} {l:List S48} (hS:SB c w g gm calls bg (ptrs now) l) (hm:MemIs B w gm ws n) (hw:WOk c ws) (hM:Mach c B w g ws now) (hI:Inv calls bg (onOf now) l n) (hB:B ≤ g) (hn:n ≤ 1000) (hl:l.length ≤ 3000) (hT:calls.length ≤ 8) (h8:∀ t,t < calls.length→(calls.getD t []).length ≤ 8) (hnow:now.length = calls.length) {i:Nat} (hi:i < calls.length) (hnone:now.getD i none = none) {j' kr:Nat} {r:Int} (hj':bg.getD i 0 = (j':Int)) (hq:j' < (calls.getD i []).length) (hr:breadlineref15_Check.f kr c.th c.S c.ga c.le c.re c.ti c.pa c.li (rd_T43 (calls.getD i []) j').f0 (rd_T43 (calls.getD i []) j').f1 (rd_T43 (calls.getD i []) j').f2 = some r) (h0:r ≠ 0) :
  Calls Try.prog 18 #[.pointer (some ⟨g,0,none⟩),.int .i64 i] w (P18 c B g gm calls l n w):=by
 obtain ⟨AP,cP,AL,cL,AC,cC,AB,cB,AN,cN,AE,cE,hg,hP,hL,hC,hA,hN,hE⟩:=hS
 have hgw:=blk_lt hg
 have HBW:Hid (B ≤ w.heap.size):=Lib.hid (by omega)
 have HC:=Lib.hid hc
 have HP:=Lib.hid hP
 have HLi:=Lib.hid hL
 have HC43:=Lib.hid hC
 have HA:=Lib.hid hA
 have HNR:=Lib.hid hN
 have HE:=Lib.hid hE
 have HW:=Lib.hid hw
 have HM:=Lib.hid hM
 have HI:=Lib.hid hI
 have HII:Hid (i < calls.length):=Lib.hid hi
 have HIN:Hid (i < now.length):=Lib.hid (by omega)
 have HNL:Hid (now.length = calls.length):=Lib.hid hnow
 have HTL:Hid (calls.length ≤ 8∧bg.length = calls.length∧(calls.getD i []).length ≤ 8):=Lib.hid ⟨hT,hI.lenB,h8 i hi⟩
 have HLL3:Hid (l.length ≤ 3000):=Lib.hid hl
 have HBG:Hid (B ≤ g):=Lib.hid hB
 have HNN:Hid (n ≤ 1000):=Lib.hid hn
 have hn6:n ≤ 1000000:=by omega
 obtain ⟨L,T,HLL,HTe,HT,HSG_g,HS0⟩:=st1 hm hB hg (by decide) (by decide)
 obtain ⟨gC,AI,cI,rfl,hneC,hcI,HCA,hIA⟩:=call_at (B:=B) (L:=L) hC i hi
 obtain ⟨gB,xf,rfl,hx,hneB,HBA0⟩:=ints_at (B:=B) (L:=L) hA (by omega)
 obtain ⟨gN,rfl,hneN,HNA⟩:=ptr_at (B:=B) (L:=L) hN i hi
 obtain ⟨j,hj,hjl⟩:=hI.rng i hi
 have HBA:Hid (∀ W,Fr B true L w W→W.cell? ⟨gB,i,none⟩ = some (.int .i64 (j:Int))):=Lib.hid (fun W hW=>by rw [HBA0.out W hW i hi,hx,hj])
 have HJ0:=Lib.hid hj
 have ne1:=hneN _ _ _ _ hg (by decide)
 have ne2:=Ne.symm ne1
 have ne3:=hneB _ _ _ _ hg (by decide)
 have ne4:=Ne.symm ne3
 have ne7:=hneC _ _ _ _ hg (by decide)
 have ne8:=Ne.symm ne7
 have HB0_g:=Lib.hid hg
 have hl8:=h8 i hi
 obtain ⟨lI,hlI⟩:∃ k,(calls.getD i []).length = k:=⟨_,rfl⟩
 have HLI:=Lib.hid hlI
 rw [hlI] at HCA hjl hl8 hq
 have i0:(0:Int) ≤ (i:Int):=by omega
 have i1:(i:Int) < (calls.length:Int):=by omega
 have i3:i < calls.length:=hi
 have d1:decide ((i:Int) < 0) = false:=decide_eq_false (by omega)
 have d2:decide ((calls.length:Int) ≤ (i:Int)) = false:=decide_eq_false (by omega)
 have d3:decide (calls.length ≤ i) = false:=decide_eq_false (by omega)
 have HNV:Hid (∀ W,Fr B true L w W→W.cell? ⟨gN,i,none⟩ = some (.pointer none)):=Lib.hid (fun W hW=>by rw [HNA.out W hW,ptrs_getD,hnone];rfl)
 have HNO:=Lib.hid hnone
 clear hnone HNA
 have hjj:j' = j:=by omega
 subst hjj
 have e1:((j':Int) == (lI:Int)) = false:=beq_eq_false_iff_ne.2 (by omega)
 have e2:(j' == lI) = false:=beq_eq_false_iff_ne.2 (by omega)
 obtain ⟨gI,rfl,hneI,HIA⟩:=hIA j' (by rw [hlI];exact hq)
 obtain ⟨x,hxx⟩:∃ x,rd_T43 (calls.getD i []) j' = x:=⟨_,rfl⟩
 rw [hxx] at HIA hr
 have j0:(0:Int) ≤ (j':Int):=by omega
 have j1:(j':Int) < (lI:Int):=by omega
 have j2:j' < lI:=hq
 have q0:(j':Int) + 1 - 1 = (j':Int):=by omega
 have q1:IntKind.i64.wrap (j':Int) = (j':Int):=IntWalk.i64_in _ (by omega)
 have q2:IntKind.i64.wrap ((j':Int) + 1) = (j':Int) + 1:=IntWalk.i64_in _ (by omega)
 have HJB:Hid ((bg.set i ((j':Int) + 1)).getD i 0 = (j':Int) + 1):=Lib.hid (getD_set_int bg (by have:=HTL.out.2.1;omega) _)
 have HJ2:Hid (j' < (calls.getD i []).length):=Lib.hid (by rw [hlI];exact hq)
 have HCK:=Lib.hid hr
 have HOFF:Hid (onOf now i = false):=Lib.hid (by unfold onOf;rw [HNO.out];rfl)
 have HLX0:Hid (l.length ≤ l.length + 0):=Lib.hid (Nat.le_refl _)
 have d4:(r != 0) = true:=bne_iff_ne.2 h0
 clear hneI hIA hxx hr hq hjl hl8 hj' h0
 clear hc hg hP hL hC hA hN hE hw hM hI hm hgw hB hn hl hT h8 hnow hi hneC hneB hneN hcI HBA0 hx hj
 have C_g:=cells_k16 HB0_g.out
 have X_N:=HNV.out w HS0.out.fr
 go_enter Try.func18,Try.ntmps18
 go_wp2
 refine ch_st (fun wS=>wS.cell? ⟨g,9,none⟩ = some (.slice (some ⟨gC,0,none⟩) calls.length cC)∧wS.cell? ⟨g,10,none⟩ = some (.slice (some ⟨gB,0,none⟩) calls.length cB)∧wS.cell? ⟨gB,i,none⟩ = some (.int .i64 (j':Int))∧wS.cell? ⟨gC,i,none⟩ = some (.slice (some ⟨gI,0,none⟩) lI cI)) [] [0,1,2,3,4,5,6,7,8,9,10,11,12,13,14,15] (by kernel_rfl) rfl (⟨C_g.2.2.2.2.2.2.2.2.2.2.1,C_g.2.2.2.2.2.2.2.2.2.2.2.1,(HBA.out w HS0.out.fr),(HCA.out w HS0.out.fr)⟩) (fun W1 HWd hHeld=>?_)
 have HS1:=dwS HWd HS0
 have HB1_g:Hid (W1.heap[g]? = some (.cells (k16 c AP cP AL cL ((some ⟨gm,0,none⟩)) (some ⟨gC,0,none⟩) calls.length cC (some ⟨gB,0,none⟩) calls.length cB (some ⟨gN,0,none⟩) calls.length cN AE l.length cE) 39 (0,0))):=Lib.hid (by rw [← HWd.out];exact HB0_g.out)
 clear C_g X_N
 have C_g:=cells_k16 HB1_g.out
 have X_N:=HNV.out W1 HS1.out.fr
 clear HWd
 iterate 16 refine ch_s ?_
 refine ch_z ?_
 clear hHeld
 go_wp2_with (first|((with_reducible refine gate_dst (N:=43) rfl ?_);refine Kd.R_lit (Kd.int .i64) _ 3 ?hg (N:=43) ?hd (xs:=[]) (inner:=[]) (ok:=fun _=>True) (okp:=fun _=>True) ?hr ?hp (fun _ hk=>hk) trivial (Below.refl _ _) (Nat.le_refl _) (by simp) ?_;(case hd=>rfl);(case hg=>rfl);(case hr=>first|(go_simp;done)|(go_simp;rfl));(case hp=>exact (Reps.none _ _));intro vA W2 ho hb' hg_ hnew_;have HRA:=Lib.hid ho;have HBA':=Lib.hid hb';clear ho hg_ hnew_;have HS2:=Lib.hid (HS1.out.below hb');have HB2_g:=Lib.hid (blk_below HB1_g.out hb');clear C_g X_N;have C_g:=cells_k16 HB2_g.out;clear hb')|((with_reducible refine gate_builtin (b:=.append) (xs:=#[.tmp 43,.tmp 47]) rfl ?_);at_builtin;refine Kd.R_append_rows (Kd.int .i64) (w0:=W1) W1.heap.size rfl (.tmp 43) (.tmp 47) 22 3 (.int .i64 0) 8 rfl Try.underlying22 info3 rfl (by decide) (by omega) vA [] bg _ _ _ (fun _=>True) (fun _=>False) rfl rfl HRA.out (reads_n (HA.out.fr (HS1.out.below HBA'.out).fr)) (fun _ _ h=>h) (fun _ h=>h.elim) (fun _ _=>trivial) HBA'.out (below_size HBA'.out) (by have:=HTL.out;simp only [List.length_nil,List.nil_append];omega) ?_;intro vB W3 ho hb' hg_ hat_;have HRB:=Lib.hid ho;clear ho hg_ hat_ HRA HBA';have HS3:=Lib.hid (HS1.out.below hb');have HB3_g:=Lib.hid (blk_below HB1_g.out hb');replace C_g:=cells_k16 HB3_g.out;have HBL:=Lib.hid hb';obtain ⟨gb,cb,eb,hgb,x0,x1⟩:=int_own HRB.out (n:=calls.length) (by rw [List.nil_append];exact HTL.out.2.1) i HII.out;subst eb;rw [List.nil_append,HJ0.out] at x0;have HGB:=Lib.hid hgb;have ne5:gb ≠ g:=(by have:=blk_lt HB1_g.out;have:=HGB.out;omega);have ne6:=Ne.symm ne5;clear hgb;clear hb'))
 generalize hWd:(World.setCell W3 ⟨gb,i,none⟩ (.int .i64 ((j':Int) + 1))) = W4 at ⊢
 have HWd:=Lib.hid hWd
 clear hWd
 have HS4:Hid (St B L T w gm ws n W4):=Lib.hid (by rw [← HWd.out];exact HS1.out.below (below_set HBL.out HGB.out))
 have HB4_g:Hid (W4.heap[g]? = some (.cells (k16 c AP cP AL cL ((some ⟨gm,0,none⟩)) (some ⟨gC,0,none⟩) calls.length cC (some ⟨gB,0,none⟩) calls.length cB (some ⟨gN,0,none⟩) calls.length cN AE l.length cE) 39 (0,0))):=Lib.hid (by rw [← HWd.out];exact blk_below HB1_g.out (below_set HBL.out HGB.out))
 replace C_g:=cells_k16 HB4_g.out
 have HRb:Hid (Ints W4 (.slice (some ⟨gb,0,none⟩) calls.length cb) (bg.set i ((j':Int) + 1))):=Lib.hid (by rw [← HWd.out];have h:=Kd.R_putn HRB.out (i:Int) ((j':Int) + 1);rw [Int.toNat_natCast] at h;exact row_free h)
 clear HWd HRB HBL HGB x0 x1
 generalize hWd:(World.setCell W4 ⟨g,10,none⟩ (.slice (some ⟨gb,0,none⟩) calls.length cb)) = W5 at ⊢
 have HWd:=Lib.hid hWd
 clear hWd
 have HR5_B:Hid (Ints W5 (.slice (some ⟨gb,0,none⟩) calls.length cb) (bg.set i ((j':Int) + 1))):=Lib.hid (by rw [← HWd.out];exact (Ints.set HRb.out HB4_g.out (by decide) 10 (.slice (some ⟨gb,0,none⟩) calls.length cb)))
 have HS5:Hid (St B L T w gm ws n W5):=Lib.hid (by rw [← HWd.out];exact (HSG_g.out _ _ _ HS4.out 10 (.slice (some ⟨gb,0,none⟩) calls.length cb)))
 have HB5_g:Hid (W5.heap[g]? = some (.cells (k16 c AP cP AL cL ((some ⟨gm,0,none⟩)) (some ⟨gC,0,none⟩) calls.length cC (some ⟨gb,0,none⟩) calls.length cb (some ⟨gN,0,none⟩) calls.length cN AE l.length cE) 39 (0,0))):=Lib.hid (by rw [← HWd.out];exact (blk_set' HB4_g.out 10 (.slice (some ⟨gb,0,none⟩) calls.length cb) rfl))
 replace C_g:=cells_k16 HB5_g.out
 clear HWd
 refine ch_st (fun wS=>wS.cell? ⟨g,9,none⟩ = some (.slice (some ⟨gC,0,none⟩) calls.length cC)∧wS.cell? ⟨gC,i,none⟩ = some (.slice (some ⟨gI,0,none⟩) lI cI)∧wS.cell? ⟨gb,i,none⟩ = some (.int .i64 ((j':Int) + 1))∧wS.cell? ⟨gI,j' * 3,none⟩ = some (.int .i64 x.f0)∧wS.cell? ⟨gI,j' * 3 + 1,none⟩ = some (.int .i64 x.f1)∧wS.cell? ⟨gI,j' * 3 + 2,none⟩ = some (.int .i64 x.f2)) [15] [0,1,2,3,4,5,6,7,8,9,10,11,12,13,14,15] (by kernel_rfl) rfl (⟨C_g.2.2.2.2.2.2.2.2.2.2.1,(HCA.out W5 HS5.out.fr),(show W5.cell? ⟨gb,i,none⟩ = _ from int_val HR5_B.out HII.out HJB.out),(HIA.out W5 HS5.out.fr).1,(HIA.out W5 HS5.out.fr).2.1,(HIA.out W5 HS5.out.fr).2.2⟩) (fun W6 HWd hHeld=>?_)
 have HR6_B:Hid (Ints W6 (.slice (some ⟨gb,0,none⟩) calls.length cb) (bg.set i ((j':Int) + 1))):=Lib.hid (by rw [← HWd.out];exact (HR5_B.out).drew)
 have HS6:=dwS HWd HS5
 have HB6_g:=dwH HWd HB5_g
 replace C_g:=cells_k16 HB6_g.out
 clear HWd
 iterate 14 refine ch_s ?_
 refine ch_1 fun K hK=>?_
 refine box_r (cs:=#[.int .i64 0,.int .i64 0,.int .i64 0]) (t:=43) (by rfl) rfl (by first|(go_simp;done)|(go_simp;rfl)) ?_
 intro gx hg W7 hbox hb'
 have HG_gx:Hid (w.heap.size ≤ gx):=Lib.hid (by rw [hg];exact HS6.out.fr.size)
 have NE_g_gx:Hid (g ≠ gx):=Lib.hid (by have:=blk_lt HB6_g.out;rw [hg];omega)
 have NE_gx_g:Hid (gx ≠ g):=Lib.hid (Ne.symm NE_g_gx.out)
 clear C_g
 have HR7_B:Hid (Ints W7 (.slice (some ⟨gb,0,none⟩) calls.length cb) (bg.set i ((j':Int) + 1))):=Lib.hid ((HR6_B.out).below hb')
 have HS7:=Lib.hid (HS6.out.below hb')
 have HB7_g:=Lib.hid (blk_below HB6_g.out hb')
 have HB7_gx:Hid (W7.heap[gx]? = some (.cells (#[.int .i64 0,.int .i64 0,.int .i64 0]:Array Value) 43 (0,0))):=Lib.hid (hbox)
 have C_g:=cells_k16 HB7_g.out
 have C_gx:=cells3 HB7_gx.out
 clear hb' hbox hg
 refine hK.out _ _ (⟨C_g.2.2.2.2.2.2.2.2.2.2.1,(HCA.out W7 HS7.out.fr),(show W7.cell? ⟨gb,i,none⟩ = _ from int_val HR7_B.out HII.out HJB.out),(HIA.out W7 HS7.out.fr).1,(HIA.out W7 HS7.out.fr).2.1,(HIA.out W7 HS7.out.fr).2.2⟩) ?_;clear hK K hHeld;intro hHeld
 try simp only [Act.put,zq1,zq2,zq3]
 refine ch_last rfl rfl (by kernel_rfl) (by decide) (fun K hK=>?_)
 refine skip_ (by rfl) rfl (by go_simp;first|rfl|exact ⟨rfl,rfl⟩) ?_
 refine hK.out _ _ ?_
 clear hK K
 try simp only [Act.put,zq1,zq2,zq3]
 refine ch_z ?_
 clear hHeld
 go_wp2_with (first|(go_at_call 24;(with_reducible refine (event16' (St.setNew (St.setNew (St.setNew HS7.out HG_gx.out HB7_gx.out (by decide) 0 (.int .i64 x.f0)) HG_gx.out (blk_set' HB7_gx.out 0 (.int .i64 x.f0) rfl) (by decide) 1 (.int .i64 x.f1)) HG_gx.out (blk_set' (blk_set' HB7_gx.out 0 (.int .i64 x.f0) rfl) 1 (.int .i64 x.f1) rfl) (by decide) 2 (.int .i64 x.f2)).mem HBG.out (blk_far (blk_far (blk_far HB7_g.out (p:=⟨gx,0,none⟩) NE_g_gx.out (.int .i64 x.f0)) (p:=⟨gx,1,none⟩) NE_g_gx.out (.int .i64 x.f1)) (p:=⟨gx,2,none⟩) NE_g_gx.out (.int .i64 x.f2)) (HC43.out.fr (St.setNew (St.setNew (St.setNew HS7.out HG_gx.out HB7_gx.out (by decide) 0 (.int .i64 x.f0)) HG_gx.out (blk_set' HB7_gx.out 0 (.int .i64 x.f0) rfl) (by decide) 1 (.int .i64 x.f1)) HG_gx.out (blk_set' (blk_set' HB7_gx.out 0 (.int .i64 x.f0) rfl) 1 (.int .i64 x.f1) rfl) (by decide) 2 (.int .i64 x.f2)).fr) (Ints.set (Ints.set (Ints.set HR7_B.out HB7_gx.out (by decide) 0 (.int .i64 x.f0)) (blk_set' HB7_gx.out 0 (.int .i64 x.f0) rfl) (by decide) 1 (.int .i64 x.f1)) (blk_set' (blk_set' HB7_gx.out 0 (.int .i64 x.f0) rfl) 1 (.int .i64 x.f1) rfl) (by decide) 2 (.int .i64 x.f2)) (HE.out.fr (St.setNew (St.setNew (St.setNew HS7.out HG_gx.out HB7_gx.out (by decide) 0 (.int .i64 x.f0)) HG_gx.out (blk_set' HB7_gx.out 0 (.int .i64 x.f0) rfl) (by decide) 1 (.int .i64 x.f1)) HG_gx.out (blk_set' (blk_set' HB7_gx.out 0 (.int .i64 x.f0) rfl) 1 (.int .i64 x.f1) rfl) (by decide) 2 (.int .i64 x.f2)).fr) HII.out HII.out HJB.out HJ2.out HTL.out.2.2 (by have:=HLL3.out;have:=HLX0.out;omega) 1 0 0 0 false).mono ?_);rintro e W8 ⟨rfl,l1,AE1,cE1,hev,hg',hE1,hm',hf'⟩;have HR8_B:Hid (Ints W8 (.slice (some ⟨gb,0,none⟩) calls.length cb) (bg.set i ((j':Int) + 1))):=Lib.hid (((Ints.set (Ints.set (Ints.set HR7_B.out HB7_gx.out (by decide) 0 (.int .i64 x.f0)) (blk_set' HB7_gx.out 0 (.int .i64 x.f0) rfl) (by decide) 1 (.int .i64 x.f1)) (blk_set' (blk_set' HB7_gx.out 0 (.int .i64 x.f0) rfl) 1 (.int .i64 x.f1) rfl) (by decide) 2 (.int .i64 x.f2))).fr hf');have HS8:=Lib.hid ((St.setNew (St.setNew (St.setNew HS7.out HG_gx.out HB7_gx.out (by decide) 0 (.int .i64 x.f0)) HG_gx.out (blk_set' HB7_gx.out 0 (.int .i64 x.f0) rfl) (by decide) 1 (.int .i64 x.f1)) HG_gx.out (blk_set' (blk_set' HB7_gx.out 0 (.int .i64 x.f0) rfl) 1 (.int .i64 x.f1) rfl) (by decide) 2 (.int .i64 x.f2)).turn hm' hf' (fun p hp hk=>by rw [HTe.out] at hp;rw [List.mem_singleton.1 hp];exact ⟨_,hg'⟩) (fun k hk=>.inl (by rw [HLL.out];exact hk)) HT.out);have HB8_g:Hid (W8.heap[g]? = some (.cells (k16 c AP cP AL cL ((some ⟨gm,0,none⟩)) (some ⟨gC,0,none⟩) calls.length cC (some ⟨gb,0,none⟩) calls.length cb (some ⟨gN,0,none⟩) calls.length cN AE1 l1.length cE1) 39 (0,0))):=Lib.hid (hg');have HB8_gx:Hid (W8.heap[gx]? = some (.cells (#[.int .i64 x.f0,.int .i64 x.f1,.int .i64 x.f2]:Array Value) 43 (0,0))):=Lib.hid (blk_fr (blk_set' (blk_set' (blk_set' HB7_gx.out 0 (.int .i64 x.f0) rfl) 1 (.int .i64 x.f1) rfl) 2 (.int .i64 x.f2) rfl) hf' (by simpa using NE_gx_g.out) (by decide));clear C_g C_gx;have C_g:=cells_k16 HB8_g.out;have C_gx:=cells3 HB8_gx.out;have HEV1:=Lib.hid hev;have HLX1:Hid (l1.length ≤ l.length + 1):=Lib.hid (by have:=HLX0.out;rw [hev,List.length_append,List.length_singleton];omega);have HRX1:=Lib.hid hE1;clear hev hE1;clear hg' hm' hf'))
 refine ch_b (at2 C_g C_gx) (at2 C_g C_gx) [0,1,2,3,4,5,6] (fun W9 HWd hHeld=>?_)
 have HR9_B:Hid (Ints W9 (.slice (some ⟨gb,0,none⟩) calls.length cb) (bg.set i ((j':Int) + 1))):=Lib.hid (by rw [← HWd.out];exact (HR8_B.out).drew)
 have HR9_E:Hid (Evs W9 (.slice AE1 l1.length cE1) l1):=Lib.hid (by rw [← HWd.out];exact (HRX1.out).drew)
 have HS9:=dwS HWd HS8
 have HB9_g:=dwH HWd HB8_g
 have HB9_gx:=dwH HWd HB8_gx
 clear C_g C_gx
 have C_g:=cells_k16 HB9_g.out
 have C_gx:=cells3 HB9_gx.out
 clear HWd
 iterate 5 refine ch_s ?_
 refine ch_1 fun K hK=>?_
 refine goes_s Try.func25 #[(cA c AP cP AL cL),.agg #[.int .i64 x.f0,.int .i64 x.f1,.int .i64 x.f2]] ?_
 refine (check_c (HP.out.fr HS9.out.fr) (HLi.out.fr HS9.out.fr) HCK.out).mono ?_
 rintro e W10 ⟨rfl,hb'⟩
 refine ⟨_,rfl,?_⟩
 have HR10_B:Hid (Ints W10 (.slice (some ⟨gb,0,none⟩) calls.length cb) (bg.set i ((j':Int) + 1))):=Lib.hid ((HR9_B.out).below hb')
 have HR10_E:Hid (Evs W10 (.slice AE1 l1.length cE1) l1):=Lib.hid ((HR9_E.out).below hb')
 have HS10:=Lib.hid (HS9.out.below hb')
 have HB10_g:=Lib.hid (blk_below HB9_g.out hb')
 have HB10_gx:=Lib.hid (blk_below HB9_gx.out hb')
 clear C_g C_gx
 have C_g:=cells_k16 HB10_g.out
 have C_gx:=cells3 HB10_gx.out
 clear hb'
 refine hK.out _ _ (at2 C_g C_gx) ?_;clear hK K hHeld;intro hHeld
 try simp only [Act.put,zq1,zq2,zq3]
 refine ch_s ?_
 refine ch_z ?_
 clear hHeld
 go_wp2_with (first|(go_at_call 24;(with_reducible refine (event16' HS10.out.mem HBG.out HB10_g.out (HC43.out.fr HS10.out.fr) HR10_B.out HR10_E.out HII.out HII.out HJB.out HJ2.out HTL.out.2.2 (by have:=HLL3.out;have:=HLX1.out;omega) 2 r 0 0 false).mono ?_);rintro e W11 ⟨rfl,l2,AE2,cE2,hev,hg',hE1,hm',hf'⟩;have HR11_B:Hid (Ints W11 (.slice (some ⟨gb,0,none⟩) calls.length cb) (bg.set i ((j':Int) + 1))):=Lib.hid ((HR10_B.out).fr hf');have HR11_E:Hid (Evs W11 (.slice AE1 l1.length cE1) l1):=Lib.hid ((HR10_E.out).fr hf');have HS11:=Lib.hid (HS10.out.turn hm' hf' (fun p hp hk=>by rw [HTe.out] at hp;rw [List.mem_singleton.1 hp];exact ⟨_,hg'⟩) (fun k hk=>.inl (by rw [HLL.out];exact hk)) HT.out);have HB11_g:Hid (W11.heap[g]? = some (.cells (k16 c AP cP AL cL ((some ⟨gm,0,none⟩)) (some ⟨gC,0,none⟩) calls.length cC (some ⟨gb,0,none⟩) calls.length cb (some ⟨gN,0,none⟩) calls.length cN AE2 l2.length cE2) 39 (0,0))):=Lib.hid (hg');have HB11_gx:Hid (W11.heap[gx]? = some (.cells (#[.int .i64 x.f0,.int .i64 x.f1,.int .i64 x.f2]:Array Value) 43 (0,0))):=Lib.hid (blk_fr HB10_gx.out hf' (by simpa using NE_gx_g.out) (by decide));clear C_g C_gx;have C_g:=cells_k16 HB11_g.out;have C_gx:=cells3 HB11_gx.out;have HEV2:=Lib.hid hev;have HLX2:Hid (l2.length ≤ l.length + 2):=Lib.hid (by have:=HLX1.out;rw [hev,List.length_append,List.length_singleton];omega);have HRX2:=Lib.hid hE1;clear hev hE1;clear hg' hm' hf'))
 go_ret
 exact ⟨true,bg.set i ((j':Int) + 1),now,l2,ws,n,rfl,⟨_,_,_,_,_,_,_,_,_,_,_,_,HB11_g.out,(HP.out.fr HS11.out.fr),(HLi.out.fr HS11.out.fr),(HC43.out.fr HS11.out.fr),HR11_B.out,(HNR.out.fr HS11.out.fr),HRX2.out⟩,HS11.out.mem,HW.out,(HM.out.fr HS11.out.fr (fun k hk=>by rw [HLL.out] at hk;exact List.mem_singleton.1 hk)),(by rw [HEV2.out,HEV1.out];exact (HI.out.begin_ HII.out HOFF.out HJ0.out HJ2.out (on':=fun t=>if t = i then true else onOf now t) (fun _ _=>rfl)).end_ HII.out (by simp) HJB.out (Nat.le_refl _) ⟨r,0,false,0⟩ (fun t ht=>by by_cases e:t = i <;> simp [e,HOFF.out])),HNL.out,by omega,by have:=HLX2.out;omega,HS11.out.fr.below HBW.out⟩
theorem pick_new_ok {c:Cf} (hc:c.Ok) {B g gm n:Nat} {w:World} {ws:List Int} {calls:List (List S43)} {bg:List Int} {now:Now} {l:List S48} (hS:SB c w g gm calls bg (ptrs now) l) (hm:MemIs B w gm ws n) (hw:WOk c ws) (hM:Mach c B w g ws now) (hI:Inv calls bg (onOf now) l n) (hB:B ≤ g) (hn:n ≤ 1000) (hl:l.length ≤ 3000) (hT:calls.length ≤ 8) (h8:∀ t,t < calls.length→(calls.getD t []).length ≤ 8) (hnow:now.length = calls.length) {i:Nat} (hi:i < calls.length) (hnone:now.getD i none = none) {j' kr:Nat} (hj':bg.getD i 0 = (j':Int)) (hq:j' < (calls.getD i []).length) (hr:breadlineref15_Check.f kr c.th c.S c.ga c.le c.re c.ti c.pa c.li (rd_T43 (calls.getD i []) j').f0 (rd_T43 (calls.getD i []) j').f1 (rd_T43 (calls.getD i []) j').f2 = some 0) (hgood:GoodCall c (rd_T43 (calls.getD i []) j').f0 (rd_T43 (calls.getD i []) j').f1 (rd_T43 (calls.getD i []) j').f2) :
  Calls Try.prog 18 #[.pointer (some ⟨g,0,none⟩),.int .i64 i] w (P18 c B g gm calls l n w):=by
 obtain ⟨AP,cP,AL,cL,AC,cC,AB,cB,AN,cN,AE,cE,hg,hP,hL,hC,hA,hN,hE⟩:=hS
 have hgw:=blk_lt hg
 have HBW:Hid (B ≤ w.heap.size):=Lib.hid (by omega)
 have HC:=Lib.hid hc
 have HP:=Lib.hid hP
 have HLi:=Lib.hid hL
 have HC43:=Lib.hid hC
 have HA:=Lib.hid hA
 have HNR:=Lib.hid hN
 have HE:=Lib.hid hE
 have HW:=Lib.hid hw
 have HM:=Lib.hid hM
 have HI:=Lib.hid hI
 have HII:Hid (i < calls.length):=Lib.hid hi
 have HIN:Hid (i < now.length):=Lib.hid (by omega)
 have HNL:Hid (now.length = calls.length):=Lib.hid hnow
 have HTL:Hid (calls.length ≤ 8∧bg.length = calls.length∧(calls.getD i []).length ≤ 8):=Lib.hid ⟨hT,hI.lenB,h8 i hi⟩
 have HLL3:Hid (l.length ≤ 3000):=Lib.hid hl
 have HBG:Hid (B ≤ g):=Lib.hid hB
 have HNN:Hid (n ≤ 1000):=Lib.hid hn
 have hn6:n ≤ 1000000:=by omega
 obtain ⟨L,T,HLL,HTe,HT,HSG_g,HS0⟩:=st1 hm hB hg (by decide) (by decide)
 obtain ⟨gC,AI,cI,rfl,hneC,hcI,HCA,hIA⟩:=call_at (B:=B) (L:=L) hC i hi
 obtain ⟨gB,xf,rfl,hx,hneB,HBA0⟩:=ints_at (B:=B) (L:=L) hA (by omega)
 obtain ⟨gN,rfl,hneN,HNA⟩:=ptr_at (B:=B) (L:=L) hN i hi
 obtain ⟨j,hj,hjl⟩:=hI.rng i hi
 have HBA:Hid (∀ W,Fr B true L w W→W.cell? ⟨gB,i,none⟩ = some (.int .i64 (j:Int))):=Lib.hid (fun W hW=>by rw [HBA0.out W hW i hi,hx,hj])
 have HJ0:=Lib.hid hj
 have ne1:=hneN _ _ _ _ hg (by decide)
 have ne2:=Ne.symm ne1
 have ne3:=hneB _ _ _ _ hg (by decide)
 have ne4:=Ne.symm ne3
 have ne7:=hneC _ _ _ _ hg (by decide)
 have ne8:=Ne.symm ne7
 have HB0_g:=Lib.hid hg
 have hl8:=h8 i hi
 obtain ⟨lI,hlI⟩:∃ k,(calls.getD i []).length = k:=⟨_,rfl⟩
 have HLI:=Lib.hid hlI
 rw [hlI] at HCA hjl hl8 hq
 have i0:(0:Int) ≤ (i:Int):=by omega
 have i1:(i:Int) < (calls.length:Int):=by omega
 have i3:i < calls.length:=hi
 have d1:decide ((i:Int) < 0) = false:=decide_eq_false (by omega)
 have d2:decide ((calls.length:Int) ≤ (i:Int)) = false:=decide_eq_false (by omega)
 have d3:decide (calls.length ≤ i) = false:=decide_eq_false (by omega)
 have HNV:Hid (∀ W,Fr B true L w W→W.cell? ⟨gN,i,none⟩ = some (.pointer none)):=Lib.hid (fun W hW=>by rw [HNA.out W hW,ptrs_getD,hnone];rfl)
 have HNO:=Lib.hid hnone
 clear hnone HNA
 have hjj:j' = j:=by omega
 subst hjj
 have e1:((j':Int) == (lI:Int)) = false:=beq_eq_false_iff_ne.2 (by omega)
 have e2:(j' == lI) = false:=beq_eq_false_iff_ne.2 (by omega)
 obtain ⟨gI,rfl,hneI,HIA⟩:=hIA j' (by rw [hlI];exact hq)
 obtain ⟨x,hxx⟩:∃ x,rd_T43 (calls.getD i []) j' = x:=⟨_,rfl⟩
 rw [hxx] at HIA hr hgood
 have j0:(0:Int) ≤ (j':Int):=by omega
 have j1:(j':Int) < (lI:Int):=by omega
 have j2:j' < lI:=hq
 have q0:(j':Int) + 1 - 1 = (j':Int):=by omega
 have q1:IntKind.i64.wrap (j':Int) = (j':Int):=IntWalk.i64_in _ (by omega)
 have q2:IntKind.i64.wrap ((j':Int) + 1) = (j':Int) + 1:=IntWalk.i64_in _ (by omega)
 have HJB:Hid ((bg.set i ((j':Int) + 1)).getD i 0 = (j':Int) + 1):=Lib.hid (getD_set_int bg (by have:=HTL.out.2.1;omega) _)
 have HJ2:Hid (j' < (calls.getD i []).length):=Lib.hid (by rw [hlI];exact hq)
 have HCK:=Lib.hid hr
 have HOFF:Hid (onOf now i = false):=Lib.hid (by unfold onOf;rw [HNO.out];rfl)
 have HLX0:Hid (l.length ≤ l.length + 0):=Lib.hid (Nat.le_refl _)
 have d4:((0:Int) != 0) = false:=rfl
 have HGD:=Lib.hid hgood
 have HI1:Hid (i ≤ 1000):=Lib.hid (by omega)
 clear hgood
 clear hneI hIA hxx hr hq hjl hl8 hj'
 clear hc hg hP hL hC hA hN hE hw hM hI hm hgw hB hn hl hT h8 hnow hi hneC hneB hneN hcI HBA0 hx hj
 have C_g:=cells_k16 HB0_g.out
 have X_N:=HNV.out w HS0.out.fr
 go_enter Try.func18,Try.ntmps18
 go_wp2
 refine ch_st (fun wS=>wS.cell? ⟨g,9,none⟩ = some (.slice (some ⟨gC,0,none⟩) calls.length cC)∧wS.cell? ⟨g,10,none⟩ = some (.slice (some ⟨gB,0,none⟩) calls.length cB)∧wS.cell? ⟨gB,i,none⟩ = some (.int .i64 (j':Int))∧wS.cell? ⟨gC,i,none⟩ = some (.slice (some ⟨gI,0,none⟩) lI cI)) [] [0,1,2,3,4,5,6,7,8,9,10,11,12,13,14,15] (by kernel_rfl) rfl (⟨C_g.2.2.2.2.2.2.2.2.2.2.1,C_g.2.2.2.2.2.2.2.2.2.2.2.1,(HBA.out w HS0.out.fr),(HCA.out w HS0.out.fr)⟩) (fun W1 HWd hHeld=>?_)
 have HS1:=dwS HWd HS0
 have HB1_g:Hid (W1.heap[g]? = some (.cells (k16 c AP cP AL cL ((some ⟨gm,0,none⟩)) (some ⟨gC,0,none⟩) calls.length cC (some ⟨gB,0,none⟩) calls.length cB (some ⟨gN,0,none⟩) calls.length cN AE l.length cE) 39 (0,0))):=Lib.hid (by rw [← HWd.out];exact HB0_g.out)
 clear C_g X_N
 have C_g:=cells_k16 HB1_g.out
 have X_N:=HNV.out W1 HS1.out.fr
 clear HWd
 iterate 16 refine ch_s ?_
 refine ch_z ?_
 clear hHeld
 go_wp2_with (first|((with_reducible refine gate_dst (N:=43) rfl ?_);refine Kd.R_lit (Kd.int .i64) _ 3 ?hg (N:=43) ?hd (xs:=[]) (inner:=[]) (ok:=fun _=>True) (okp:=fun _=>True) ?hr ?hp (fun _ hk=>hk) trivial (Below.refl _ _) (Nat.le_refl _) (by simp) ?_;(case hd=>rfl);(case hg=>rfl);(case hr=>first|(go_simp;done)|(go_simp;rfl));(case hp=>exact (Reps.none _ _));intro vA W2 ho hb' hg_ hnew_;have HRA:=Lib.hid ho;have HBA':=Lib.hid hb';clear ho hg_ hnew_;have HS2:=Lib.hid (HS1.out.below hb');have HB2_g:=Lib.hid (blk_below HB1_g.out hb');clear C_g X_N;have C_g:=cells_k16 HB2_g.out;clear hb')|((with_reducible refine gate_builtin (b:=.append) (xs:=#[.tmp 43,.tmp 47]) rfl ?_);at_builtin;refine Kd.R_append_rows (Kd.int .i64) (w0:=W1) W1.heap.size rfl (.tmp 43) (.tmp 47) 22 3 (.int .i64 0) 8 rfl Try.underlying22 info3 rfl (by decide) (by omega) vA [] bg _ _ _ (fun _=>True) (fun _=>False) rfl rfl HRA.out (reads_n (HA.out.fr (HS1.out.below HBA'.out).fr)) (fun _ _ h=>h) (fun _ h=>h.elim) (fun _ _=>trivial) HBA'.out (below_size HBA'.out) (by have:=HTL.out;simp only [List.length_nil,List.nil_append];omega) ?_;intro vB W3 ho hb' hg_ hat_;have HRB:=Lib.hid ho;clear ho hg_ hat_ HRA HBA';have HS3:=Lib.hid (HS1.out.below hb');have HB3_g:=Lib.hid (blk_below HB1_g.out hb');replace C_g:=cells_k16 HB3_g.out;have HBL:=Lib.hid hb';obtain ⟨gb,cb,eb,hgb,x0,x1⟩:=int_own HRB.out (n:=calls.length) (by rw [List.nil_append];exact HTL.out.2.1) i HII.out;subst eb;rw [List.nil_append,HJ0.out] at x0;have HGB:=Lib.hid hgb;have ne5:gb ≠ g:=(by have:=blk_lt HB1_g.out;have:=HGB.out;omega);have ne6:=Ne.symm ne5;clear hgb;clear hb'))
 generalize hWd:(World.setCell W3 ⟨gb,i,none⟩ (.int .i64 ((j':Int) + 1))) = W4 at ⊢
 have HWd:=Lib.hid hWd
 clear hWd
 have HS4:Hid (St B L T w gm ws n W4):=Lib.hid (by rw [← HWd.out];exact HS1.out.below (below_set HBL.out HGB.out))
 have HB4_g:Hid (W4.heap[g]? = some (.cells (k16 c AP cP AL cL ((some ⟨gm,0,none⟩)) (some ⟨gC,0,none⟩) calls.length cC (some ⟨gB,0,none⟩) calls.length cB (some ⟨gN,0,none⟩) calls.length cN AE l.length cE) 39 (0,0))):=Lib.hid (by rw [← HWd.out];exact blk_below HB1_g.out (below_set HBL.out HGB.out))
 replace C_g:=cells_k16 HB4_g.out
 have HRb:Hid (Ints W4 (.slice (some ⟨gb,0,none⟩) calls.length cb) (bg.set i ((j':Int) + 1))):=Lib.hid (by rw [← HWd.out];have h:=Kd.R_putn HRB.out (i:Int) ((j':Int) + 1);rw [Int.toNat_natCast] at h;exact row_free h)
 clear HWd HRB HBL HGB x0 x1
 generalize hWd:(World.setCell W4 ⟨g,10,none⟩ (.slice (some ⟨gb,0,none⟩) calls.length cb)) = W5 at ⊢
 have HWd:=Lib.hid hWd
 clear hWd
 have HR5_B:Hid (Ints W5 (.slice (some ⟨gb,0,none⟩) calls.length cb) (bg.set i ((j':Int) + 1))):=Lib.hid (by rw [← HWd.out];exact (Ints.set HRb.out HB4_g.out (by decide) 10 (.slice (some ⟨gb,0,none⟩) calls.length cb)))
 have HS5:Hid (St B L T w gm ws n W5):=Lib.hid (by rw [← HWd.out];exact (HSG_g.out _ _ _ HS4.out 10 (.slice (some ⟨gb,0,none⟩) calls.length cb)))
 have HB5_g:Hid (W5.heap[g]? = some (.cells (k16 c AP cP AL cL ((some ⟨gm,0,none⟩)) (some ⟨gC,0,none⟩) calls.length cC (some ⟨gb,0,none⟩) calls.length cb (some ⟨gN,0,none⟩) calls.length cN AE l.length cE) 39 (0,0))):=Lib.hid (by rw [← HWd.out];exact (blk_set' HB4_g.out 10 (.slice (some ⟨gb,0,none⟩) calls.length cb) rfl))
 replace C_g:=cells_k16 HB5_g.out
 clear HWd
 refine ch_st (fun wS=>wS.cell? ⟨g,9,none⟩ = some (.slice (some ⟨gC,0,none⟩) calls.length cC)∧wS.cell? ⟨gC,i,none⟩ = some (.slice (some ⟨gI,0,none⟩) lI cI)∧wS.cell? ⟨gb,i,none⟩ = some (.int .i64 ((j':Int) + 1))∧wS.cell? ⟨gI,j' * 3,none⟩ = some (.int .i64 x.f0)∧wS.cell? ⟨gI,j' * 3 + 1,none⟩ = some (.int .i64 x.f1)∧wS.cell? ⟨gI,j' * 3 + 2,none⟩ = some (.int .i64 x.f2)) [15] [0,1,2,3,4,5,6,7,8,9,10,11,12,13,14,15] (by kernel_rfl) rfl (⟨C_g.2.2.2.2.2.2.2.2.2.2.1,(HCA.out W5 HS5.out.fr),(show W5.cell? ⟨gb,i,none⟩ = _ from int_val HR5_B.out HII.out HJB.out),(HIA.out W5 HS5.out.fr).1,(HIA.out W5 HS5.out.fr).2.1,(HIA.out W5 HS5.out.fr).2.2⟩) (fun W6 HWd hHeld=>?_)
 have HR6_B:Hid (Ints W6 (.slice (some ⟨gb,0,none⟩) calls.length cb) (bg.set i ((j':Int) + 1))):=Lib.hid (by rw [← HWd.out];exact (HR5_B.out).drew)
 have HS6:=dwS HWd HS5
 have HB6_g:=dwH HWd HB5_g
 replace C_g:=cells_k16 HB6_g.out
 clear HWd
 iterate 14 refine ch_s ?_
 refine ch_1 fun K hK=>?_
 refine box_r (cs:=#[.int .i64 0,.int .i64 0,.int .i64 0]) (t:=43) (by rfl) rfl (by first|(go_simp;done)|(go_simp;rfl)) ?_
 intro gx hg W7 hbox hb'
 have HG_gx:Hid (w.heap.size ≤ gx):=Lib.hid (by rw [hg];exact HS6.out.fr.size)
 have NE_g_gx:Hid (g ≠ gx):=Lib.hid (by have:=blk_lt HB6_g.out;rw [hg];omega)
 have NE_gx_g:Hid (gx ≠ g):=Lib.hid (Ne.symm NE_g_gx.out)
 clear C_g
 have HR7_B:Hid (Ints W7 (.slice (some ⟨gb,0,none⟩) calls.length cb) (bg.set i ((j':Int) + 1))):=Lib.hid ((HR6_B.out).below hb')
 have HS7:=Lib.hid (HS6.out.below hb')
 have HB7_g:=Lib.hid (blk_below HB6_g.out hb')
 have HB7_gx:Hid (W7.heap[gx]? = some (.cells (#[.int .i64 0,.int .i64 0,.int .i64 0]:Array Value) 43 (0,0))):=Lib.hid (hbox)
 have C_g:=cells_k16 HB7_g.out
 have C_gx:=cells3 HB7_gx.out
 clear hb' hbox hg
 refine hK.out _ _ (⟨C_g.2.2.2.2.2.2.2.2.2.2.1,(HCA.out W7 HS7.out.fr),(show W7.cell? ⟨gb,i,none⟩ = _ from int_val HR7_B.out HII.out HJB.out),(HIA.out W7 HS7.out.fr).1,(HIA.out W7 HS7.out.fr).2.1,(HIA.out W7 HS7.out.fr).2.2⟩) ?_;clear hK K hHeld;intro hHeld
 try simp only [Act.put,zq1,zq2,zq3]
 refine ch_last rfl rfl (by kernel_rfl) (by decide) (fun K hK=>?_)
 refine skip_ (by rfl) rfl (by go_simp;first|rfl|exact ⟨rfl,rfl⟩) ?_
 refine hK.out _ _ ?_
 clear hK K
 try simp only [Act.put,zq1,zq2,zq3]
 refine ch_z ?_
 clear hHeld
 go_wp2_with (first|(go_at_call 24;(with_reducible refine (event16' (St.setNew (St.setNew (St.setNew HS7.out HG_gx.out HB7_gx.out (by decide) 0 (.int .i64 x.f0)) HG_gx.out (blk_set' HB7_gx.out 0 (.int .i64 x.f0) rfl) (by decide) 1 (.int .i64 x.f1)) HG_gx.out (blk_set' (blk_set' HB7_gx.out 0 (.int .i64 x.f0) rfl) 1 (.int .i64 x.f1) rfl) (by decide) 2 (.int .i64 x.f2)).mem HBG.out (blk_far (blk_far (blk_far HB7_g.out (p:=⟨gx,0,none⟩) NE_g_gx.out (.int .i64 x.f0)) (p:=⟨gx,1,none⟩) NE_g_gx.out (.int .i64 x.f1)) (p:=⟨gx,2,none⟩) NE_g_gx.out (.int .i64 x.f2)) (HC43.out.fr (St.setNew (St.setNew (St.setNew HS7.out HG_gx.out HB7_gx.out (by decide) 0 (.int .i64 x.f0)) HG_gx.out (blk_set' HB7_gx.out 0 (.int .i64 x.f0) rfl) (by decide) 1 (.int .i64 x.f1)) HG_gx.out (blk_set' (blk_set' HB7_gx.out 0 (.int .i64 x.f0) rfl) 1 (.int .i64 x.f1) rfl) (by decide) 2 (.int .i64 x.f2)).fr) (Ints.set (Ints.set (Ints.set HR7_B.out HB7_gx.out (by decide) 0 (.int .i64 x.f0)) (blk_set' HB7_gx.out 0 (.int .i64 x.f0) rfl) (by decide) 1 (.int .i64 x.f1)) (blk_set' (blk_set' HB7_gx.out 0 (.int .i64 x.f0) rfl) 1 (.int .i64 x.f1) rfl) (by decide) 2 (.int .i64 x.f2)) (HE.out.fr (St.setNew (St.setNew (St.setNew HS7.out HG_gx.out HB7_gx.out (by decide) 0 (.int .i64 x.f0)) HG_gx.out (blk_set' HB7_gx.out 0 (.int .i64 x.f0) rfl) (by decide) 1 (.int .i64 x.f1)) HG_gx.out (blk_set' (blk_set' HB7_gx.out 0 (.int .i64 x.f0) rfl) 1 (.int .i64 x.f1) rfl) (by decide) 2 (.int .i64 x.f2)).fr) HII.out HII.out HJB.out HJ2.out HTL.out.2.2 (by have:=HLL3.out;have:=HLX0.out;omega) 1 0 0 0 false).mono ?_);rintro e W8 ⟨rfl,l1,AE1,cE1,hev,hg',hE1,hm',hf'⟩;have HR8_B:Hid (Ints W8 (.slice (some ⟨gb,0,none⟩) calls.length cb) (bg.set i ((j':Int) + 1))):=Lib.hid (((Ints.set (Ints.set (Ints.set HR7_B.out HB7_gx.out (by decide) 0 (.int .i64 x.f0)) (blk_set' HB7_gx.out 0 (.int .i64 x.f0) rfl) (by decide) 1 (.int .i64 x.f1)) (blk_set' (blk_set' HB7_gx.out 0 (.int .i64 x.f0) rfl) 1 (.int .i64 x.f1) rfl) (by decide) 2 (.int .i64 x.f2))).fr hf');have HS8:=Lib.hid ((St.setNew (St.setNew (St.setNew HS7.out HG_gx.out HB7_gx.out (by decide) 0 (.int .i64 x.f0)) HG_gx.out (blk_set' HB7_gx.out 0 (.int .i64 x.f0) rfl) (by decide) 1 (.int .i64 x.f1)) HG_gx.out (blk_set' (blk_set' HB7_gx.out 0 (.int .i64 x.f0) rfl) 1 (.int .i64 x.f1) rfl) (by decide) 2 (.int .i64 x.f2)).turn hm' hf' (fun p hp hk=>by rw [HTe.out] at hp;rw [List.mem_singleton.1 hp];exact ⟨_,hg'⟩) (fun k hk=>.inl (by rw [HLL.out];exact hk)) HT.out);have HB8_g:Hid (W8.heap[g]? = some (.cells (k16 c AP cP AL cL ((some ⟨gm,0,none⟩)) (some ⟨gC,0,none⟩) calls.length cC (some ⟨gb,0,none⟩) calls.length cb (some ⟨gN,0,none⟩) calls.length cN AE1 l1.length cE1) 39 (0,0))):=Lib.hid (hg');have HB8_gx:Hid (W8.heap[gx]? = some (.cells (#[.int .i64 x.f0,.int .i64 x.f1,.int .i64 x.f2]:Array Value) 43 (0,0))):=Lib.hid (blk_fr (blk_set' (blk_set' (blk_set' HB7_gx.out 0 (.int .i64 x.f0) rfl) 1 (.int .i64 x.f1) rfl) 2 (.int .i64 x.f2) rfl) hf' (by simpa using NE_gx_g.out) (by decide));clear C_g C_gx;have C_g:=cells_k16 HB8_g.out;have C_gx:=cells3 HB8_gx.out;have HEV1:=Lib.hid hev;have HLX1:Hid (l1.length ≤ l.length + 1):=Lib.hid (by have:=HLX0.out;rw [hev,List.length_append,List.length_singleton];omega);have HRX1:=Lib.hid hE1;clear hev hE1;clear hg' hm' hf'))
 refine ch_b (at2 C_g C_gx) (at2 C_g C_gx) [0,1,2,3,4,5,6] (fun W9 HWd hHeld=>?_)
 have HR9_B:Hid (Ints W9 (.slice (some ⟨gb,0,none⟩) calls.length cb) (bg.set i ((j':Int) + 1))):=Lib.hid (by rw [← HWd.out];exact (HR8_B.out).drew)
 have HR9_E:Hid (Evs W9 (.slice AE1 l1.length cE1) l1):=Lib.hid (by rw [← HWd.out];exact (HRX1.out).drew)
 have HS9:=dwS HWd HS8
 have HB9_g:=dwH HWd HB8_g
 have HB9_gx:=dwH HWd HB8_gx
 clear C_g C_gx
 have C_g:=cells_k16 HB9_g.out
 have C_gx:=cells3 HB9_gx.out
 clear HWd
 iterate 5 refine ch_s ?_
 refine ch_1 fun K hK=>?_
 refine goes_s Try.func25 #[(cA c AP cP AL cL),.agg #[.int .i64 x.f0,.int .i64 x.f1,.int .i64 x.f2]] ?_
 refine (check_c (HP.out.fr HS9.out.fr) (HLi.out.fr HS9.out.fr) HCK.out).mono ?_
 rintro e W10 ⟨rfl,hb'⟩
 refine ⟨_,rfl,?_⟩
 have HR10_B:Hid (Ints W10 (.slice (some ⟨gb,0,none⟩) calls.length cb) (bg.set i ((j':Int) + 1))):=Lib.hid ((HR9_B.out).below hb')
 have HR10_E:Hid (Evs W10 (.slice AE1 l1.length cE1) l1):=Lib.hid ((HR9_E.out).below hb')
 have HS10:=Lib.hid (HS9.out.below hb')
 have HB10_g:=Lib.hid (blk_below HB9_g.out hb')
 have HB10_gx:=Lib.hid (blk_below HB9_gx.out hb')
 clear C_g C_gx
 have C_g:=cells_k16 HB10_g.out
 have C_gx:=cells3 HB10_gx.out
 clear hb'
 refine hK.out _ _ (at2 C_g C_gx) ?_;clear hK K hHeld;intro hHeld
 try simp only [Act.put,zq1,zq2,zq3]
 refine ch_s ?_
 refine ch_z ?_
 clear hHeld
 go_wp2
 refine ch_d (at2 C_g C_gx) (at2 C_g C_gx) [16] [0,1,2,3,4,5,6,7,8,9,10,11,12,13,14,15,16] (fun W11 HWd hHeld=>?_)
 have HR11_B:Hid (Ints W11 (.slice (some ⟨gb,0,none⟩) calls.length cb) (bg.set i ((j':Int) + 1))):=Lib.hid (by rw [← HWd.out];exact (HR10_B.out).drew)
 have HR11_E:Hid (Evs W11 (.slice AE1 l1.length cE1) l1):=Lib.hid (by rw [← HWd.out];exact (HR10_E.out).drew)
 have HS11:=dwS HWd HS10
 have HB11_g:=dwH HWd HB10_g
 have HB11_gx:=dwH HWd HB10_gx
 clear C_g C_gx
 have C_g:=cells_k16 HB11_g.out
 have C_gx:=cells3 HB11_gx.out
 clear HWd
 iterate 12 refine ch_s ?_
 refine ch_1 fun K hK=>?_
 have HMPRE:Hid (Mach c B W11 g ws now):=Lib.hid (HM.out.fr HS11.out.fr (fun k hk=>by rw [HLL.out] at hk;exact List.mem_singleton.1 hk))
 have HSZB:Hid (B ≤ W11.heap.size∧g < W11.heap.size∧w.heap.size ≤ W11.heap.size):=Lib.hid ⟨Nat.le_trans HBW.out HS11.out.fr.size,blk_lt HB11_g.out,HS11.out.fr.size⟩
 refine goes_s Try.func27 #[(cA c AP cP AL cL),.int .i64 i,.agg #[.int .i64 x.f0,.int .i64 x.f1,.int .i64 x.f2]] ?_
 refine (new15 HC.out (HP.out.fr HS11.out.fr) (HLi.out.fr HS11.out.fr) (th:=i) HI1.out HGD.out).mono ?_
 rintro e W12 ⟨gi,xi,rfl,hx,hax,ho,hb'⟩
 refine ⟨_,rfl,?_⟩
 have HR12_B:Hid (Ints W12 (.slice (some ⟨gb,0,none⟩) calls.length cb) (bg.set i ((j':Int) + 1))):=Lib.hid ((HR11_B.out).below hb')
 have HR12_E:Hid (Evs W12 (.slice AE1 l1.length cE1) l1):=Lib.hid ((HR11_E.out).below hb')
 have HS12:=Lib.hid (HS11.out.below hb')
 have HB12_g:=Lib.hid (blk_below HB11_g.out hb')
 have HB12_gx:=Lib.hid (blk_below HB11_gx.out hb')
 clear C_g C_gx
 have C_g:=cells_k16 HB12_g.out
 have C_gx:=cells3 HB12_gx.out
 have HOW:Hid (∀ k ∈ own15 gi xi,w.heap.size ≤ k):=Lib.hid (fun k hk=>Nat.le_trans HSZB.out.2.2 (ho k hk).1)
 have HMM0:=Lib.hid (HMPRE.out.put (i:=i) hb' hx (hax ws) ho HSZB.out.1 HSZB.out.2.1)
 have HGO:Hid (g ∉ own15 gi xi):=Lib.hid (fun h=>by have:=(ho g h).1;have:=HSZB.out.2.1;omega)
 clear hx hax ho HMPRE HSZB
 clear hb'
 refine hK.out _ _ (at2 C_g C_gx) ?_;clear hK K hHeld;intro hHeld
 try simp only [Act.put,zq1,zq2,zq3]
 refine ch_1 fun K hK=>?_
 refine goes_s Try.func26 #[.slice (some ⟨gN,0,none⟩) calls.length cN,.int .i64 i,.pointer (some ⟨gi,0,none⟩)] ?_
 refine (now16_some (HNR.out.fr HS12.out.fr) HII.out (by have:=HTL.out;omega) gi).mono ?_
 rintro e W13 ⟨A8,c8,rfl,hp9,hb'⟩
 refine ⟨_,rfl,?_⟩
 have HR13_B:Hid (Ints W13 (.slice (some ⟨gb,0,none⟩) calls.length cb) (bg.set i ((j':Int) + 1))):=Lib.hid ((HR12_B.out).below hb')
 have HR13_E:Hid (Evs W13 (.slice AE1 l1.length cE1) l1):=Lib.hid ((HR12_E.out).below hb')
 have HR13_M:Hid (Mach c B W13 g ws (now.set i (some (gi,xi)))):=Lib.hid ((HMM0.out).below hb')
 have HS13:=Lib.hid (HS12.out.below hb')
 have HB13_g:=Lib.hid (blk_below HB12_g.out hb')
 have HB13_gx:=Lib.hid (blk_below HB12_gx.out hb')
 clear C_g C_gx
 have C_g:=cells_k16 HB13_g.out
 have C_gx:=cells3 HB13_gx.out
 clear hb'
 obtain ⟨gn,rfl,hneQ⟩:=ptr_cell hp9 HII.out
 have HRn:=Lib.hid hp9
 have ne9:=hneQ _ _ _ _ HB13_g.out (by decide)
 have ne10:=Ne.symm ne9
 clear hneQ hp9
 refine hK.out _ _ (at2 C_g C_gx) ?_;clear hK K hHeld;intro hHeld
 try simp only [Act.put,zq1,zq2,zq3]
 iterate 2 refine ch_s ?_
 refine ch_last rfl rfl (by kernel_rfl) (by decide) (fun K hK=>?_)
 refine skip_ (by rfl) rfl (by go_simp;first|rfl|exact ⟨rfl,rfl⟩) ?_
 refine hK.out _ _ ?_
 clear hK K
 try simp only [Act.put,zq1,zq2,zq3]
 refine ch_z ?_
 clear hHeld
 have HAT:Hid ((now.set i (some (gi,xi))).getD i none = some (gi,xi)):=Lib.hid (getD_set_n now HIN.out _)
 have HNLI:Hid (i < (now.set i (some (gi,xi))).length):=Lib.hid (by rw [List.length_set];exact HIN.out)
 have HPI:Hid (((ptrs now).set i (some gi)).getD i none = some gi):=Lib.hid (getD_set_ptr (ptrs now) (by unfold ptrs;rw [List.length_map];exact HIN.out) _)
 have HON:Hid (onOf (now.set i (some (gi,xi))) i = true):=Lib.hid (by rw [onOf_set now HIN.out,if_pos rfl];rfl)
 have HOL:Hid (∀ k ∈ own15 gi xi,k ∉ T.map (·.1)∧(k ∈ L ∨ w.heap.size ≤ k)):=Lib.hid (fun k hk=>⟨by rw [HTe.out];simpa using (fun e:k = g=>HGO.out (e ▸ hk)),.inr (HOW.out k hk)⟩)
 go_wp2
 clear C_gx
 generalize hWd:(World.setCell W13 ⟨g,11,none⟩ (.slice (some ⟨gn,0,none⟩) calls.length c8)) = W14 at ⊢
 have HWd:=Lib.hid hWd
 clear hWd
 have HR14_B:Hid (Ints W14 (.slice (some ⟨gb,0,none⟩) calls.length cb) (bg.set i ((j':Int) + 1))):=Lib.hid (by rw [← HWd.out];exact (Ints.set HR13_B.out HB13_g.out (by decide) 11 (.slice (some ⟨gn,0,none⟩) calls.length c8)))
 have HR14_E:Hid (Evs W14 (.slice AE1 l1.length cE1) l1):=Lib.hid (by rw [← HWd.out];exact (Evs.set HR13_E.out HB13_g.out 11 (.slice (some ⟨gn,0,none⟩) calls.length c8)))
 have HR14_M:Hid (Mach c B W14 g ws (now.set i (some (gi,xi)))):=Lib.hid (by rw [← HWd.out];exact (Mach.set HR13_M.out HBG.out HB13_g.out 11 (.slice (some ⟨gn,0,none⟩) calls.length c8)))
 have HR14_N:Hid (Ptrs W14 (.slice (some ⟨gn,0,none⟩) calls.length c8) ((ptrs now).set i (some gi))):=Lib.hid (by rw [← HWd.out];exact (Ptrs.set HRn.out HB13_g.out 11 (.slice (some ⟨gn,0,none⟩) calls.length c8)))
 have HS14:Hid (St B L T w gm ws n W14):=Lib.hid (by rw [← HWd.out];exact (HSG_g.out _ _ _ HS13.out 11 (.slice (some ⟨gn,0,none⟩) calls.length c8)))
 have HB14_g:Hid (W14.heap[g]? = some (.cells (k16 c AP cP AL cL ((some ⟨gm,0,none⟩)) (some ⟨gC,0,none⟩) calls.length cC (some ⟨gb,0,none⟩) calls.length cb (some ⟨gn,0,none⟩) calls.length c8 AE1 l1.length cE1) 39 (0,0))):=Lib.hid (by rw [← HWd.out];exact (blk_set' HB13_g.out 11 (.slice (some ⟨gn,0,none⟩) calls.length c8) rfl))
 replace C_g:=cells_k16 HB14_g.out
 clear HWd
 refine ch_st (fun wS=>wS.cell? ⟨g,11,none⟩ = some (.slice (some ⟨gn,0,none⟩) calls.length c8)∧wS.cell? ⟨g,8,none⟩ = some (.pointer (some ⟨gm,0,none⟩))∧wS.cell? ⟨gn,i,none⟩ = some (.pointer (some ⟨gi,0,none⟩))) [] [0,1,2,3,4,5,6,7,8,9,10,11] (by kernel_rfl) rfl (⟨C_g.2.2.2.2.2.2.2.2.2.2.2.2.1,C_g.2.2.2.2.2.2.2.2.2.1,(show W14.cell? ⟨gn,i,none⟩ = some (.pointer (some ⟨gi,0,none⟩)) from ptr_val HR14_N.out HII.out HPI.out)⟩) (fun W15 HWd hHeld=>?_)
 have HR15_B:Hid (Ints W15 (.slice (some ⟨gb,0,none⟩) calls.length cb) (bg.set i ((j':Int) + 1))):=Lib.hid (by rw [← HWd.out];exact (HR14_B.out).drew)
 have HR15_E:Hid (Evs W15 (.slice AE1 l1.length cE1) l1):=Lib.hid (by rw [← HWd.out];exact (HR14_E.out).drew)
 have HR15_M:Hid (Mach c B W15 g ws (now.set i (some (gi,xi)))):=Lib.hid (by rw [← HWd.out];exact (HR14_M.out).drew)
 have HR15_N:Hid (Ptrs W15 (.slice (some ⟨gn,0,none⟩) calls.length c8) ((ptrs now).set i (some gi))):=Lib.hid (by rw [← HWd.out];exact (HR14_N.out).drew)
 have HS15:=dwS HWd HS14
 have HB15_g:=dwH HWd HB14_g
 replace C_g:=cells_k16 HB15_g.out
 clear HWd
 iterate 11 refine ch_s ?_
 refine ch_1 fun K hK=>?_
 have HMPRE:Hid (Mach c B W15 g ws (now.set i (some (gi,xi)))):=Lib.hid HR15_M.out
 have HSZB:Hid (B ≤ W15.heap.size∧g < W15.heap.size):=Lib.hid ⟨Nat.le_trans HBW.out HS15.out.fr.size,blk_lt HB15_g.out⟩
 refine goes_s Try.func28 #[.pointer (some ⟨gi,0,none⟩),.pointer (some ⟨gm,0,none⟩)] ?_
 refine (step15 HC.out HS15.out.mem HW.out hn6 (fun k hk=>((HMPRE.out.is i gi xi HAT.out).2.2 k hk).1) (HMPRE.out.is i gi xi HAT.out).1 (HMPRE.out.is i gi xi HAT.out).2.1).mono ?_
 rintro e W16 ⟨b1,x1,ws1,n1,rfl,hx1,hax1,hm',hwt,hn1,hn2,hf',how⟩
 refine ⟨_,rfl,?_⟩
 have HR16_B:Hid (Ints W16 (.slice (some ⟨gb,0,none⟩) calls.length cb) (bg.set i ((j':Int) + 1))):=Lib.hid ((HR15_B.out).fr hf')
 have HR16_E:Hid (Evs W16 (.slice AE1 l1.length cE1) l1):=Lib.hid ((HR15_E.out).fr hf')
 have HR16_N:Hid (Ptrs W16 (.slice (some ⟨gn,0,none⟩) calls.length c8) ((ptrs now).set i (some gi))):=Lib.hid ((HR15_N.out).fr hf')
 have HS16:=Lib.hid ((HS15.out).call hm' hf' HOL.out HT.out)
 have HB16_g:Hid (W16.heap[g]? = some (.cells (k16 c AP cP AL cL ((some ⟨gm,0,none⟩)) (some ⟨gC,0,none⟩) calls.length cC (some ⟨gb,0,none⟩) calls.length cb (some ⟨gn,0,none⟩) calls.length c8 AE1 l1.length cE1) 39 (0,0))):=Lib.hid (blk_fr HB15_g.out hf' HGO.out (by decide))
 replace C_g:=cells_k16 HB16_g.out
 have X_N:=(show W16.cell? ⟨gn,i,none⟩ = some (.pointer (some ⟨gi,0,none⟩)) from ptr_val HR16_N.out HII.out HPI.out)
 have HX1:=Lib.hid hx1
 have HWT:=Lib.hid hwt
 have HN1:=Lib.hid hn1
 have HN2:=Lib.hid hn2
 have HMM:=Lib.hid (HMPRE.out.step HNLI.out HAT.out hx1 hax1 hwt hf' how HSZB.out.1 HSZB.out.2)
 clear hx1 hax1 hwt hn1 hn2 how HMPRE HSZB
 clear hm' hf'
 refine hK.out _ _ (⟨C_g.2.2.2.2.2.2.2.2.2.2.2.2.1,C_g.2.2.2.2.2.2.2.2.2.1,(show W16.cell? ⟨gn,i,none⟩ = some (.pointer (some ⟨gi,0,none⟩)) from ptr_val HR16_N.out HII.out HPI.out)⟩) ?_;clear hK K hHeld;intro hHeld
 try simp only [Act.put,zq1,zq2,zq3]
 refine ch_z ?_
 clear hHeld
 go_wp2_with (first|(go_at_call 29;(with_reducible refine (ans15 HX1.out).mono ?_);rintro e W17 ⟨a0,a1,a2,a3,rfl,hb'⟩;have HR17_B:Hid (Ints W17 (.slice (some ⟨gb,0,none⟩) calls.length cb) (bg.set i ((j':Int) + 1))):=Lib.hid ((HR16_B.out).below hb');have HR17_E:Hid (Evs W17 (.slice AE1 l1.length cE1) l1):=Lib.hid ((HR16_E.out).below hb');have HR17_N:Hid (Ptrs W17 (.slice (some ⟨gn,0,none⟩) calls.length c8) ((ptrs now).set i (some gi))):=Lib.hid ((HR16_N.out).below hb');have HR17_M:Hid (Mach c B W17 g ws1 ((now.set i (some (gi,xi))).set i (some (gi,x1)))):=Lib.hid ((HMM.out).below hb');have HS17:=Lib.hid (HS16.out.below hb');have HB17_g:=Lib.hid (blk_below HB16_g.out hb');clear C_g X_N;have C_g:=cells_k16 HB17_g.out;have X_N:=(show W17.cell? ⟨gn,i,none⟩ = some (.pointer (some ⟨gi,0,none⟩)) from ptr_val HR17_N.out HII.out HPI.out);clear hb')|(go_at_call 24;(with_reducible refine (event16' HS17.out.mem HBG.out HB17_g.out (HC43.out.fr HS17.out.fr) HR17_B.out HR17_E.out HII.out HII.out HJB.out HJ2.out HTL.out.2.2 (by have:=HLL3.out;have:=HLX1.out;omega) 2 a0 a1 a3 a2).mono ?_);rintro e W18 ⟨rfl,l2,AE2,cE2,hev,hg',hE1,hm',hf'⟩;have HR18_B:Hid (Ints W18 (.slice (some ⟨gb,0,none⟩) calls.length cb) (bg.set i ((j':Int) + 1))):=Lib.hid ((HR17_B.out).fr hf');have HR18_E:Hid (Evs W18 (.slice AE1 l1.length cE1) l1):=Lib.hid ((HR17_E.out).fr hf');have HR18_N:Hid (Ptrs W18 (.slice (some ⟨gn,0,none⟩) calls.length c8) ((ptrs now).set i (some gi))):=Lib.hid ((HR17_N.out).fr hf');have HR18_M:Hid (Mach c B W18 g ws1 ((now.set i (some (gi,xi))).set i (some (gi,x1)))):=Lib.hid ((HR17_M.out).fr hf');have HS18:=Lib.hid (HS17.out.turn hm' hf' (fun p hp hk=>by rw [HTe.out] at hp;rw [List.mem_singleton.1 hp];exact ⟨_,hg'⟩) (fun k hk=>.inl (by rw [List.mem_singleton.1 hk,HLL.out];exact List.mem_cons_self)) HT.out);have HB18_g:Hid (W18.heap[g]? = some (.cells (k16 c AP cP AL cL ((some ⟨gm,0,none⟩)) (some ⟨gC,0,none⟩) calls.length cC (some ⟨gb,0,none⟩) calls.length cb (some ⟨gn,0,none⟩) calls.length c8 AE2 l2.length cE2) 39 (0,0))):=Lib.hid (hg');clear C_g X_N;have C_g:=cells_k16 HB18_g.out;have X_N:=(show W18.cell? ⟨gn,i,none⟩ = some (.pointer (some ⟨gi,0,none⟩)) from ptr_val HR18_N.out HII.out HPI.out);have HEV2:=Lib.hid hev;have HLX2:Hid (l2.length ≤ l.length + 2):=Lib.hid (by have:=HLX1.out;rw [hev,List.length_append,List.length_singleton];omega);have HRX2:=Lib.hid hE1;clear hev hE1;clear hg' hm' hf')|(go_at_call 26;(with_reducible refine (now16_none HR18_N.out HII.out (by have:=HTL.out;omega)).mono ?_);rintro e W19 ⟨A9,c9,rfl,hp9,hb'⟩;have HR19_B:Hid (Ints W19 (.slice (some ⟨gb,0,none⟩) calls.length cb) (bg.set i ((j':Int) + 1))):=Lib.hid ((HR18_B.out).below hb');have HR19_E:Hid (Evs W19 (.slice AE2 l2.length cE2) l2):=Lib.hid ((HRX2.out).below hb');have HR19_N:Hid (Ptrs W19 (.slice (some ⟨gn,0,none⟩) calls.length c8) ((ptrs now).set i (some gi))):=Lib.hid ((HR18_N.out).below hb');have HR19_M:Hid (Mach c B W19 g ws1 ((now.set i (some (gi,xi))).set i (some (gi,x1)))):=Lib.hid ((HR18_M.out).below hb');have HS19:=Lib.hid (HS18.out.below hb');have HB19_g:=Lib.hid (blk_below HB18_g.out hb');clear C_g X_N;have C_g:=cells_k16 HB19_g.out;have X_N:=(show W19.cell? ⟨gn,i,none⟩ = some (.pointer (some ⟨gi,0,none⟩)) from ptr_val HR19_N.out HII.out HPI.out);have HR9:=Lib.hid hp9;clear hp9;clear hb'))
 ·go_ret
  refine ⟨true,(bg.set i ((j':Int) + 1)),now.set i none,l2,ws1,n1,rfl,?_,(HSG_g.out _ _ _ HS19.out 11 (.slice A9 calls.length c9)).mem,HWT.out.ok,(by have h:=(Mach.set HR19_M.out HBG.out HB19_g.out 11 (.slice A9 calls.length c9)).drop i;simpa only [List.set_set] using h),(by rw [HEV2.out];exact ((show Inv calls (bg.set i ((j':Int) + 1)) (onOf (now.set i (some (gi,xi)))) l1 n from by rw [HEV1.out];exact HI.out.begin_ HII.out HOFF.out HJ0.out HJ2.out (fun t ht=>by rw [onOf_set now HIN.out];rfl))).end_ HII.out HON.out HJB.out HN1.out ⟨a0,a1,a2,a3⟩ (fun t ht=>by rw [onOf_set now HIN.out];rw [onOf_set now HIN.out];by_cases e:t = i <;> simp [e])),by simp only [List.length_set];exact HNL.out,HN2.out,(by have:=HLX2.out;omega),(HSG_g.out _ _ _ HS19.out 11 (.slice A9 calls.length c9)).fr.below HBW.out⟩
  rw [show ptrs (now.set i none) = ((ptrs now).set i (some gi)).set i none from by rw [ptrs_set,List.set_set];rfl]
  exact ⟨_,_,_,_,_,_,_,_,_,_,_,_,(blk_set' HB19_g.out 11 (.slice A9 calls.length c9) rfl),(HP.out.fr (HSG_g.out _ _ _ HS19.out 11 (.slice A9 calls.length c9)).fr),(HLi.out.fr (HSG_g.out _ _ _ HS19.out 11 (.slice A9 calls.length c9)).fr),(HC43.out.fr (HSG_g.out _ _ _ HS19.out 11 (.slice A9 calls.length c9)).fr),(Ints.set HR19_B.out HB19_g.out (by decide) 11 (.slice A9 calls.length c9)),(Ptrs.set HR9.out HB19_g.out 11 (.slice A9 calls.length c9)),(Evs.set HR19_E.out HB19_g.out 11 (.slice A9 calls.length c9))⟩
 ·go_ret
  refine ⟨true,(bg.set i ((j':Int) + 1)),(now.set i (some (gi,xi))).set i (some (gi,x1)),l1,ws1,n1,rfl,?_,HS16.out.mem,HWT.out.ok,HMM.out,((((show Inv calls (bg.set i ((j':Int) + 1)) (onOf (now.set i (some (gi,xi)))) l1 n from by rw [HEV1.out];exact HI.out.begin_ HII.out HOFF.out HJ0.out HJ2.out (fun t ht=>by rw [onOf_set now HIN.out];rfl))).later HN1.out).congr (fun t ht=>by rw [onOf_set _ HNLI.out];by_cases e:t = i <;> simp [e,HON.out])),by simp only [List.length_set];exact HNL.out,HN2.out,(by have:=HLX1.out;omega),HS16.out.fr.below HBW.out⟩
  rw [show ptrs ((now.set i (some (gi,xi))).set i (some (gi,x1))) = (ptrs now).set i (some gi) from by rw [ptrs_same HAT.out HNLI.out,ptrs_set];rfl]
  exact ⟨_,_,_,_,_,_,_,_,_,_,_,_,HB16_g.out,(HP.out.fr HS16.out.fr),(HLi.out.fr HS16.out.fr),(HC43.out.fr HS16.out.fr),HR16_B.out,HR16_N.out,HR16_E.out⟩
end Go.Proofs.Ytadblpcjkahikaa.PTraceRuns

