
import Derived.Test.YtadblpcjkahikaaTracePure
import Derived.Test.YtadblpcjkahikaaPTraceRunsx1
import Derived.Test.YtadblpcjkahikaaPTraceRunsx1
import Derived.Maps.Own
import Derived.Maps.OwnOps
import Derived.Lib.Hide
import Derived.Maps.RangeWalk
namespace Go.Proofs.Ytadblpcjkahikaa.PTraceRuns.Tr
open Go.RowKit Go.Maps Go.Proofs.YtadblpcjkahikaaW.PrintWords Go.Proofs.YtadblpcjkahikaaW.PrintLast Go.Proofs.YtadblpcjkahikaaW.PrintMore
section
attribute [local go_sem] max2_int min2_int max_two min_two max_three min_three max_four min_four
set_option linter.unusedVariables false
set_option linter.unusedSimpArgs false
theorem eqA43 (d:Nat) (w:World) (x0 y0:Int) (x1 y1:Int) (x2 y2:Int) :
  (Op.equalIn (d + 2) 43 (.agg #[.int .i64 x0,.int .i64 x1,.int .i64 x2]) (.agg #[.int .i64 y0,.int .i64 y1,.int .i64 y2])).run Try.prog w = .ok (x0 == y0 && (x1 == y1 && (x2 == y2))) w:=by
 refine eqA_of Try.underlying43 (by kernel_rfl) ?_
 refine eqf_cons (by rfl) (by go_simp;rfl) (by go_simp;rfl) (by go_simp) ?_
 refine eqf_cons (by rfl) (by go_simp;rfl) (by go_simp;rfl) (by go_simp) ?_
 exact eqf_last (by rfl) (by go_simp;rfl) (by go_simp;rfl) (by go_simp)
theorem eqA46 (d:Nat) (w:World) (x0 y0:Int) (x1 y1:Int) (x2 y2:Bool) (x3 y3:Int) :
  (Op.equalIn (d + 2) 46 (.agg #[.int .i64 x0,.int .i64 x1,.bool x2,.int .i64 x3]) (.agg #[.int .i64 y0,.int .i64 y1,.bool y2,.int .i64 y3])).run Try.prog w = .ok (x0 == y0 && (x1 == y1 && (x2 == y2 && (x3 == y3)))) w:=by
 refine eqA_of Try.underlying46 (by kernel_rfl) ?_
 refine eqf_cons (by rfl) (by go_simp;rfl) (by go_simp;rfl) (by go_simp) ?_
 refine eqf_cons (by rfl) (by go_simp;rfl) (by go_simp;rfl) (by go_simp) ?_
 refine eqf_cons (by rfl) (by go_simp;rfl) (by go_simp;rfl) (by go_simp) ?_
 exact eqf_last (by rfl) (by go_simp;rfl) (by go_simp;rfl) (by go_simp)
end
attribute [local go_sem high] eqA43 eqA46
theorem law3:Keyed Try.prog 3:=int_keyed Try.underlying3
theorem zero3 (w:World):(zeroValue 3).run Try.prog w = .ok (.int .i64 0) w:=by kernel_rfl
theorem at_ev {l:List S48} {w:World} {A:Option Addr} (h:Kd.C k48 w A l.length l) (k:Nat) (hk:k < l.length):∃ ad:Addr,A = some ad∧w.cell? (ad.add (k * 10)) = some (.int .i64 (ev l k).f0)∧w.cell? ⟨(ad.add (k * 10)).block,(ad.add (k * 10)).off + 1,none⟩ = some (.int .i64 (ev l k).f1)∧w.cell? ⟨(ad.add (k * 10)).block,(ad.add (k * 10)).off + 2,none⟩ = some (.int .i64 (ev l k).f2)∧w.cell? ⟨(ad.add (k * 10)).block,(ad.add (k * 10)).off + 3,none⟩ = some (.int .i64 (ev l k).f3.f0)∧w.cell? ⟨(ad.add (k * 10)).block,(ad.add (k * 10)).off + 4,none⟩ = some (.int .i64 (ev l k).f3.f1)∧w.cell? ⟨(ad.add (k * 10)).block,(ad.add (k * 10)).off + 5,none⟩ = some (.int .i64 (ev l k).f3.f2)∧w.cell? ⟨(ad.add (k * 10)).block,(ad.add (k * 10)).off + 6,none⟩ = some (.int .i64 (ev l k).f4.f0)∧w.cell? ⟨(ad.add (k * 10)).block,(ad.add (k * 10)).off + 7,none⟩ = some (.int .i64 (ev l k).f4.f1)∧w.cell? ⟨(ad.add (k * 10)).block,(ad.add (k * 10)).off + 8,none⟩ = some (.bool (ev l k).f4.f2)∧w.cell? ⟨(ad.add (k * 10)).block,(ad.add (k * 10)).off + 9,none⟩ = some (.int .i64 (ev l k).f4.f3):=by
 have:=at_T48 h (k:Int) (by omega) (by omega)
 simpa only [Int.toNat_natCast,rd_ev] using this
theorem new_cells {w w1:World} {B:Nat} (hB:B < w.heap.size) (E:S48) (h:(w.alloc (.cells #[.int .i64 E.f0,.int .i64 E.f1,.int .i64 E.f2,.int .i64 E.f3.f0,.int .i64 E.f3.f1,.int .i64 E.f3.f2,.int .i64 E.f4.f0,.int .i64 E.f4.f1,.bool E.f4.f2,.int .i64 E.f4.f3] 48)).grownBy w1 (some B)) :
  w1.cell? ⟨w.heap.size,0,none⟩ = some (.int .i64 E.f0)∧w1.cell? ⟨w.heap.size,1,none⟩ = some (.int .i64 E.f1)∧w1.cell? ⟨w.heap.size,2,none⟩ = some (.int .i64 E.f2)∧w1.cell? ⟨w.heap.size,3,none⟩ = some (.int .i64 E.f3.f0)∧w1.cell? ⟨w.heap.size,4,none⟩ = some (.int .i64 E.f3.f1)∧w1.cell? ⟨w.heap.size,5,none⟩ = some (.int .i64 E.f3.f2)∧w1.cell? ⟨w.heap.size,6,none⟩ = some (.int .i64 E.f4.f0)∧w1.cell? ⟨w.heap.size,7,none⟩ = some (.int .i64 E.f4.f1)∧w1.cell? ⟨w.heap.size,8,none⟩ = some (.bool E.f4.f2)∧w1.cell? ⟨w.heap.size,9,none⟩ = some (.int .i64 E.f4.f3):=by
 have key:∀ j v,(w.alloc (.cells #[.int .i64 E.f0,.int .i64 E.f1,.int .i64 E.f2,.int .i64 E.f3.f0,.int .i64 E.f3.f1,.int .i64 E.f3.f2,.int .i64 E.f4.f0,.int .i64 E.f4.f1,.bool E.f4.f2,.int .i64 E.f4.f3] 48)).cell? ⟨w.heap.size,j,none⟩ = some v→w1.cell? ⟨w.heap.size,j,none⟩ = some v:=fun j v hv=>h.cell hv (fun e=>by injection e with e;simp at e;omega)
 exact ⟨key 0 _ (by go_simp),key 1 _ (by go_simp),key 2 _ (by go_simp),key 3 _ (by go_simp),key 4 _ (by go_simp),key 5 _ (by go_simp),key 6 _ (by go_simp),key 7 _ (by go_simp),key 8 _ (by go_simp),key 9 _ (by go_simp)⟩
theorem own_lt {w:World} {B n:Nat} {D:DataW Unit} (h:w.ownsMap Try.prog 3 (plainElem Try.prog 3) B n D):B < w.heap.size:=by
 obtain ⟨es,c,hb,_⟩:=h
 exact (Array.getElem?_eq_some_iff.1 hb).1
set_option maxHeartbeats 1000000 in
set_option maxRecDepth 100000 in
theorem take_begin (B n k:Nat) (A0:Option Addr) (c0:Nat) (l:List S48) (w:World) (hr:Kd.C k48 w A0 l.length l) (hk:k < l.length) (hn:n < 4000)
  (hwf:(Lit.int .i64 (ev l k).f1).wf = true) (hown:w.ownsMap Try.prog 3 (plainElem Try.prog 3) B n (mapTo l k)) (h1:(ev l k).f2 = 1) (hk2:k < 4000) :
  Calls Try.prog 20 #[.map (some B),.slice A0 l.length c0,.int .i64 k] w fun e w'=>e = .returned (.bool (takeB l k))∧w'.ownsMap Try.prog 3 (plainElem Try.prog 3) B (n + 1) (mapTo l (k + 1))∧w.grownBy w' (some B):=by
 obtain ⟨ad,e,x0,x1,x2,x3,x4,x5,x6,x7,x8,x9⟩:=at_ev hr k hk
 subst e
 have ho:=has_mapTo l (ev l k).f1 k
 have ht:takeB l k = (!(openAt l k (ev l k).f1).isSome && zeroB (ev l k).f4):=by unfold takeB;rw [if_pos h1]
 have hm:mapTo l (k + 1) = (mapTo l k).put (.int .i64 (ev l k).f1) (.lit (.int .i64 k)):=by rw [mapTo,if_pos h1]
 rw [ht,hm,← ho]
 clear ht hm ho hr
 have hB:=own_lt hown
 generalize mapTo l k = D at hown ⊢
 have hk0:(0:Int) ≤ (k:Int):=by omega
 have hk1:(k:Int) < (l.length:Int):=by omega
 have hkey:=keyOf_int_mk Try.underlying3 hwf
 generalize ev l k = E at *
 have h1':(E.f2 == 1) = true:=by simpa using h1
 clear h1
 have hz:(E.f4.f0 == 0 && (E.f4.f1 == 0 && (!E.f4.f2 && (E.f4.f3 == 0)))) = zeroB E.f4:=rfl
 have HZ:=Lib.hid hz
 clear hz
 cases hh:Maps.has D (.int .i64 E.f1)
 ·go_enter Try.func20,Try.ntmps20
  go_wp2_with (first|(at_lookup;refine wpList_lookup_own_ok_int _ rfl _ _ 57 rfl 3 3 .i64 law3 Try.underlying57 Try.underlying3 (zero3 _) B n D rfl (hown.alloc _) _ _ rfl hkey ?_;intro c hat hwc)|(at_mapUpdate;refine wpList_mapUpdate_own _ rfl _ _ _ 57 rfl 3 3 law3 Try.underlying57 _ B n D rfl (hown.alloc _) (by unfold maxLen;omega) _ _ _ rfl rfl hkey _ [] (plainElem_int Try.underlying3 (WalkArith.wf_i64 (by omega))) ?_;intro w1 hown1 hgrow1;obtain ⟨y0,y1,y2,y3,y4,y5,y6,y7,y8,y9⟩:=new_cells hB _ hgrow1))
  go_ret
  exact ⟨by rw [← HZ.out];rfl,hown1,(World.grownBy_alloc _ _ _).trans hgrow1⟩
 ·go_enter Try.func20,Try.ntmps20
  go_wp2_with (first|(at_lookup;refine wpList_lookup_own_ok_int _ rfl _ _ 57 rfl 3 3 .i64 law3 Try.underlying57 Try.underlying3 (zero3 _) B n D rfl (hown.alloc _) _ _ rfl hkey ?_;intro c hat hwc)|(at_mapUpdate;refine wpList_mapUpdate_own _ rfl _ _ _ 57 rfl 3 3 law3 Try.underlying57 _ B n D rfl (hown.alloc _) (by unfold maxLen;omega) _ _ _ rfl rfl hkey _ [] (plainElem_int Try.underlying3 (WalkArith.wf_i64 (by omega))) ?_;intro w1 hown1 hgrow1;obtain ⟨y0,y1,y2,y3,y4,y5,y6,y7,y8,y9⟩:=new_cells hB _ hgrow1))
  go_ret
  exact ⟨rfl,hown1,(World.grownBy_alloc _ _ _).trans hgrow1⟩
theorem own_mono {w:World} {B n m:Nat} {D:DataW Unit} (h:w.ownsMap Try.prog 3 (plainElem Try.prog 3) B n D) (hm:n ≤ m):w.ownsMap Try.prog 3 (plainElem Try.prog 3) B m D:=by
 obtain ⟨es,c,h1,h2,h3,h4⟩:=h
 exact ⟨es,c,h1,h2,Nat.le_trans h3 hm,h4⟩
theorem own_drewN {w:World} {B n:Nat} {D:DataW Unit} (h:w.ownsMap Try.prog 3 (plainElem Try.prog 3) B n D) (m:Nat):(w.drewN m).ownsMap Try.prog 3 (plainElem Try.prog 3) B n D:=h
theorem grown_drewN {a w:World} {row:Option Nat} (h:a.grownBy w row) (n:Nat):a.grownBy (w.drewN n) row:=⟨h.os,h.tape,h.output,h.size,h.block⟩
theorem cell_ne_map {w:World} {B n:Nat} {D:DataW Unit} (h:w.ownsMap Try.prog 3 (plainElem Try.prog 3) B n D) {p:Addr} {v:Value} (hc:w.cell? p = some v):p.block ≠ B:=by
 rintro rfl
 obtain ⟨es,c,hb,_⟩:=h
 simp [World.cell?,hb] at hc
theorem far_cell {w w1:World} {B n:Nat} {D:DataW Unit} {o:Obj} (h:w.ownsMap Try.prog 3 (plainElem Try.prog 3) B n D) (hg:(w.alloc o).grownBy w1 (some B)) {p:Addr} {v:Value} (hc:w.cell? p = some v):w1.cell? p = some v :=
 hg.cell ((World.cell?_of_block (Below.heap_alloc w o p.block (World.block_lt_of_cell? w p hc))).trans hc) (fun e=>cell_ne_map h hc (by injection e))
set_option maxHeartbeats 1000000 in
set_option maxRecDepth 100000 in
theorem take_end_none (B n k:Nat) (A0:Option Addr) (c0:Nat) (l:List S48) (w:World) (hr:Kd.C k48 w A0 l.length l) (hk:k < l.length)
  (hwf:(Lit.int .i64 (ev l k).f1).wf = true) (hown:w.ownsMap Try.prog 3 (plainElem Try.prog 3) B n (mapTo l k)) (h1:(ev l k).f2 = 2) (hno:openAt l k (ev l k).f1 = none) :
  Calls Try.prog 20 #[.map (some B),.slice A0 l.length c0,.int .i64 k] w fun e w'=>e = .returned (.bool (takeB l k))∧w'.ownsMap Try.prog 3 (plainElem Try.prog 3) B (n + 1) (mapTo l (k + 1))∧w.grownBy w' (some B):=by
 obtain ⟨ad,e,x0,x1,x2,x3,x4,x5,x6,x7,x8,x9⟩:=at_ev hr k hk
 subst e
 have ho:=has_mapTo l (ev l k).f1 k
 have ha:=at_mapTo l (ev l k).f1 k
 rw [hno] at ho ha
 have ht:takeB l k = false:=by unfold takeB;rw [if_neg (by omega),if_pos h1,hno]
 have hm:mapTo l (k + 1) = (mapTo l k).del (.int .i64 (ev l k).f1):=by rw [mapTo,if_neg (by omega),if_pos h1]
 rw [ht,hm]
 clear ht hm hr hno
 have hB:=own_lt hown
 generalize mapTo l k = D at *
 have hk0:(0:Int) ≤ (k:Int):=by omega
 have hk1:(k:Int) < (l.length:Int):=by omega
 have hkey:=keyOf_int_mk Try.underlying3 hwf
 generalize ev l k = E at *
 have h1':(E.f2 == 1) = false:=beq_eq_false_iff_ne.2 (by omega)
 have h2':(E.f2 == 2) = true:=by simpa using h1
 clear h1
 have hh:Maps.has D (.int .i64 E.f1) = false:=ho
 have HC:=Lib.hid (show ∀ c:Int,D.atKey (.int .i64 E.f1) (.lit (.int .i64 0)) = .lit (.int .i64 c)→c = ((0:Nat):Int) from fun c hc=>by
  rw [ha] at hc
  injection hc with hc
  injection hc with _ hc
  exact hc.symm)
 clear ho ha
 go_enter Try.func20,Try.ntmps20
 go_wp2_with (first|(at_lookup;refine wpList_lookup_own_ok_int _ rfl _ _ 57 rfl 3 3 .i64 law3 Try.underlying57 Try.underlying3 (zero3 _) B n D rfl (hown.alloc _) _ _ rfl hkey ?_;intro c hat _;obtain rfl:=HC.out c hat;clear hat)|(at_delete;refine wpList_delete_own _ rfl _ _ 57 3 rfl 3 law3 Try.underlying57 _ B n D rfl (hown.alloc _) _ _ rfl hkey ?_;intro w1 hown1 hturn1;obtain ⟨y0,y1,y2,y3,y4,y5,y6,y7,y8,y9⟩:=new_cells hB _ hturn1.grown))
 go_frame
 go_quiet (fail)
 go_wp2_with fail
 go_ret
 exact ⟨rfl,own_drewN (own_mono hown1 (Nat.le_succ _)) _,grown_drewN ((World.grownBy_alloc w _ (some B)).trans hturn1.grown) _⟩
set_option maxHeartbeats 1000000 in
set_option maxRecDepth 100000 in
theorem take_end_some (B n k p:Nat) (A0:Option Addr) (c0:Nat) (l:List S48) (w:World) (hr:Kd.C k48 w A0 l.length l) (hk:k < l.length)
  (hwf:(Lit.int .i64 (ev l k).f1).wf = true) (hown:w.ownsMap Try.prog 3 (plainElem Try.prog 3) B n (mapTo l k)) (h1:(ev l k).f2 = 2) (hno:openAt l k (ev l k).f1 = some p) :
  Calls Try.prog 20 #[.map (some B),.slice A0 l.length c0,.int .i64 k] w fun e w'=>e = .returned (.bool (takeB l k))∧w'.ownsMap Try.prog 3 (plainElem Try.prog 3) B (n + 1) (mapTo l (k + 1))∧w.grownBy w' (some B):=by
 obtain ⟨ad,e,x0,x1,x2,x3,x4,x5,x6,x7,x8,x9⟩:=at_ev hr k hk
 have hp:=openAt_lt l _ _ _ hno
 obtain ⟨ad',e',q0,q1,q2,q3,q4,q5,q6,q7,q8,q9⟩:=at_ev hr p (by omega)
 subst e
 obtain rfl:ad = ad':=by injection e'
 clear e'
 have ho:=has_mapTo l (ev l k).f1 k
 have ha:=at_mapTo l (ev l k).f1 k
 rw [hno] at ho ha
 have ht:takeB l k = callB (ev l p).f3 (ev l k).f3:=by unfold takeB;rw [if_neg (by omega),if_pos h1,hno]
 have hm:mapTo l (k + 1) = (mapTo l k).del (.int .i64 (ev l k).f1):=by rw [mapTo,if_neg (by omega),if_pos h1]
 rw [ht,hm]
 clear ht hm hr hno
 have hB:=own_lt hown
 generalize mapTo l k = D at *
 have hk0:(0:Int) ≤ (k:Int):=by omega
 have hk1:(k:Int) < (l.length:Int):=by omega
 have hp0:(0:Int) ≤ (p:Int):=by omega
 have hp1:(p:Int) < (l.length:Int):=by omega
 have hkey:=keyOf_int_mk Try.underlying3 hwf
 generalize ev l k = E at *
 generalize ev l p = F at *
 have h1':(E.f2 == 1) = false:=beq_eq_false_iff_ne.2 (by omega)
 have h2':(E.f2 == 2) = true:=by simpa using h1
 clear h1
 have hh:Maps.has D (.int .i64 E.f1) = true:=ho
 have HC:=Lib.hid (show ∀ c:Int,D.atKey (.int .i64 E.f1) (.lit (.int .i64 0)) = .lit (.int .i64 c)→c = (p:Int) from fun c hc=>by
  rw [ha] at hc
  injection hc with hc
  injection hc with _ hc
  exact hc.symm)
 clear ho ha q0 q1 q2 q6 q7 q8 q9
 go_enter Try.func20,Try.ntmps20
 go_wp2_with (first|(at_lookup;refine wpList_lookup_own_ok_int _ rfl _ _ 57 rfl 3 3 .i64 law3 Try.underlying57 Try.underlying3 (zero3 _) B n D rfl (hown.alloc _) _ _ rfl hkey ?_;intro c hat _;obtain rfl:=HC.out c hat;clear hat)|(at_delete;refine wpList_delete_own _ rfl _ _ 57 3 rfl 3 law3 Try.underlying57 _ B n D rfl (hown.alloc _) _ _ rfl hkey ?_;intro w1 hown1 hturn1;obtain ⟨y0,y1,y2,y3,y4,y5,y6,y7,y8,y9⟩:=new_cells hB _ hturn1.grown;have z3:=far_cell hown hturn1.grown q3;have z4:=far_cell hown hturn1.grown q4;have z5:=far_cell hown hturn1.grown q5))
 go_frame
 go_quiet (fail)
 go_wp2_with fail
 go_ret
 exact ⟨rfl,own_drewN (own_mono hown1 (Nat.le_succ _)) _,grown_drewN ((World.grownBy_alloc w _ (some B)).trans hturn1.grown) _⟩
set_option maxHeartbeats 1000000 in
set_option maxRecDepth 100000 in
theorem take_other (B n k:Nat) (A0:Option Addr) (c0:Nat) (l:List S48) (w:World) (hr:Kd.C k48 w A0 l.length l) (hk:k < l.length)
  (hwf:(Lit.int .i64 (ev l k).f1).wf = true) (hown:w.ownsMap Try.prog 3 (plainElem Try.prog 3) B n (mapTo l k)) (h1:(ev l k).f2 ≠ 1) (h2:(ev l k).f2 ≠ 2) :
  Calls Try.prog 20 #[.map (some B),.slice A0 l.length c0,.int .i64 k] w fun e w'=>e = .returned (.bool (takeB l k))∧w'.ownsMap Try.prog 3 (plainElem Try.prog 3) B (n + 1) (mapTo l (k + 1))∧w.grownBy w' (some B):=by
 obtain ⟨ad,e,x0,x1,x2,x3,x4,x5,x6,x7,x8,x9⟩:=at_ev hr k hk
 subst e
 have ht:takeB l k = false:=by unfold takeB;rw [if_neg h1,if_neg h2]
 have hm:mapTo l (k + 1) = mapTo l k:=by rw [mapTo,if_neg h1,if_neg h2]
 rw [ht,hm]
 clear ht hm hr
 generalize mapTo l k = D at *
 have hk0:(0:Int) ≤ (k:Int):=by omega
 have hk1:(k:Int) < (l.length:Int):=by omega
 have hkey:=keyOf_int_mk Try.underlying3 hwf
 generalize ev l k = E at *
 have h1':(E.f2 == 1) = false:=beq_eq_false_iff_ne.2 h1
 have h2':(E.f2 == 2) = false:=beq_eq_false_iff_ne.2 h2
 clear h1 h2
 go_enter Try.func20,Try.ntmps20
 go_wp2_with (at_lookup;refine wpList_lookup_own_ok_int _ rfl _ _ 57 rfl 3 3 .i64 law3 Try.underlying57 Try.underlying3 (zero3 _) B n D rfl (hown.alloc _) _ _ rfl hkey ?_;intro c hat hwc)
 go_ret
 exact ⟨rfl,own_mono (hown.alloc _) (Nat.le_succ _),World.grownBy_alloc _ _ _⟩
theorem take_any (B n k:Nat) (A0:Option Addr) (c0:Nat) (l:List S48) (w:World) (hr:Kd.C k48 w A0 l.length l) (hk:k < l.length) (hn:n < 4000) (hfit:fitB l = true)
  (hown:w.ownsMap Try.prog 3 (plainElem Try.prog 3) B n (mapTo l k)) :
  Calls Try.prog 20 #[.map (some B),.slice A0 l.length c0,.int .i64 k] w fun e w'=>e = .returned (.bool (takeB l k))∧w'.ownsMap Try.prog 3 (plainElem Try.prog 3) B (n + 1) (mapTo l (k + 1))∧w.grownBy w' (some B):=by
 have hwf:=fit_wf hfit k
 have hl:=fit_len hfit
 by_cases h1:(ev l k).f2 = 1
 ·exact take_begin B n k A0 c0 l w hr hk hn hwf hown h1 (by omega)
 ·by_cases h2:(ev l k).f2 = 2
  ·cases h:openAt l k (ev l k).f1 with
   | none=>exact take_end_none B n k A0 c0 l w hr hk hwf hown h2 h
   | some p=>exact take_end_some B n k p A0 c0 l w hr hk hwf hown h2 h
  ·exact take_other B n k A0 c0 l w hr hk hwf hown h1 h2
end Go.Proofs.Ytadblpcjkahikaa.PTraceRuns.Tr

