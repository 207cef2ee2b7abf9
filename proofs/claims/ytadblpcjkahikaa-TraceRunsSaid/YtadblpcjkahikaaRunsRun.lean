
import Derived.Test.YtadblpcjkahikaaRunsPick
namespace Go.Proofs.Ytadblpcjkahikaa.PTraceRuns
open Go.RowKit Go.Proofs.YtadblpcjkahikaaW.PrintWords Go.Proofs.YtadblpcjkahikaaW.PrintLast Go.Proofs.YtadblpcjkahikaaW.PrintMore
set_option linter.unusedVariables false
set_option linter.unusedSimpArgs false
set_option maxHeartbeats 2000000
set_option maxRecDepth 100000
theorem pick_low {c:Cf} (hc:c.Ok) {B g gm n:Nat} {w:World} {ws:List Int} {calls:List (List S43)} {bg:List Int} {now:Now} {l:List S48} (hS:SB c w g gm calls bg (ptrs now) l) (hm:MemIs B w gm ws n) (hw:WOk c ws) (hM:Mach c B w g ws now) (hI:Inv calls bg (onOf now) l n) (hB:B ≤ g) (hn:n ≤ 1000) (hl:l.length ≤ 3000) (hT:calls.length ≤ 8) (h8:∀ t,t < calls.length→(calls.getD t []).length ≤ 8) (hnow:now.length = calls.length) {z:Int} (hz:z < 0) :
  Calls Try.prog 18 #[.pointer (some ⟨g,0,none⟩),.int .i64 z] w (P18 c B g gm calls l n w):=by
 obtain ⟨AP,cP,AL,cL,AC,cC,AB,cB,AN,cN,AE,cE,hg,hP,hL,hC,hA,hN,hE⟩:=hS
 have hgw:=blk_lt hg
 have HBW:Hid (B ≤ w.heap.size):=Lib.hid (by omega)
 have HP:=Lib.hid hP
 have HLi:=Lib.hid hL
 have HC43:=Lib.hid hC
 have HA:=Lib.hid hA
 have HNR:=Lib.hid hN
 have HE:=Lib.hid hE
 have HW:=Lib.hid hw
 have HM:=Lib.hid hM
 have HI:=Lib.hid hI
 have HNL:=Lib.hid hnow
 obtain ⟨L,T,HLL,HTe,HT,HSG_g,HS0⟩:=st1 hm hB hg (by decide) (by decide)
 have HB0_g:=Lib.hid hg
 have d1:decide (z < 0) = true:=decide_eq_true hz
 clear hz hc hm hw hM hI hn hl hT h8 hnow hP hL hC hA hN hE hg hgw
 have C_g:=cells_k16 HB0_g.out
 go_enter Try.func18,Try.ntmps18
 go_wp2
 go_ret
 exact ⟨false,bg,now,l,ws,n,rfl,⟨_,_,_,_,_,_,_,_,_,_,_,_,HB0_g.out,HP.out.fr HS0.out.fr,HLi.out.fr HS0.out.fr,HC43.out.fr HS0.out.fr,HA.out.fr HS0.out.fr,HNR.out.fr HS0.out.fr,HE.out.fr HS0.out.fr⟩,HS0.out.mem,HW.out,HM.out,HI.out,HNL.out,by omega,by omega,HS0.out.fr.below HBW.out⟩
theorem pick_high {c:Cf} (hc:c.Ok) {B g gm n:Nat} {w:World} {ws:List Int} {calls:List (List S43)} {bg:List Int} {now:Now} {l:List S48} (hS:SB c w g gm calls bg (ptrs now) l) (hm:MemIs B w gm ws n) (hw:WOk c ws) (hM:Mach c B w g ws now) (hI:Inv calls bg (onOf now) l n) (hB:B ≤ g) (hn:n ≤ 1000) (hl:l.length ≤ 3000) (hT:calls.length ≤ 8) (h8:∀ t,t < calls.length→(calls.getD t []).length ≤ 8) (hnow:now.length = calls.length) {z:Int} (hz:(calls.length:Int) ≤ z) :
  Calls Try.prog 18 #[.pointer (some ⟨g,0,none⟩),.int .i64 z] w (P18 c B g gm calls l n w):=by
 obtain ⟨AP,cP,AL,cL,AC,cC,AB,cB,AN,cN,AE,cE,hg,hP,hL,hC,hA,hN,hE⟩:=hS
 have hgw:=blk_lt hg
 have HBW:Hid (B ≤ w.heap.size):=Lib.hid (by omega)
 have HP:=Lib.hid hP
 have HLi:=Lib.hid hL
 have HC43:=Lib.hid hC
 have HA:=Lib.hid hA
 have HNR:=Lib.hid hN
 have HE:=Lib.hid hE
 have HW:=Lib.hid hw
 have HM:=Lib.hid hM
 have HI:=Lib.hid hI
 have HNL:=Lib.hid hnow
 obtain ⟨L,T,HLL,HTe,HT,HSG_g,HS0⟩:=st1 hm hB hg (by decide) (by decide)
 have HB0_g:=Lib.hid hg
 have d1:decide (z < 0) = false:=decide_eq_false (by omega)
 have d2:decide ((calls.length:Int) ≤ z) = true:=decide_eq_true hz
 clear hz hc hm hw hM hI hn hl hT h8 hnow hP hL hC hA hN hE hg hgw
 have C_g:=cells_k16 HB0_g.out
 go_enter Try.func18,Try.ntmps18
 go_wp2
 go_ret
 exact ⟨false,bg,now,l,ws,n,rfl,⟨_,_,_,_,_,_,_,_,_,_,_,_,HB0_g.out,HP.out.fr HS0.out.fr,HLi.out.fr HS0.out.fr,HC43.out.fr HS0.out.fr,HA.out.fr HS0.out.fr,HNR.out.fr HS0.out.fr,HE.out.fr HS0.out.fr⟩,HS0.out.mem,HW.out,HM.out,HI.out,HNL.out,by omega,by omega,HS0.out.fr.below HBW.out⟩
theorem pick_any {c:Cf} (hc:c.Ok) {B g gm n:Nat} {w:World} {ws:List Int} {calls:List (List S43)} {bg:List Int} {now:Now} {l:List S48} (hS:SB c w g gm calls bg (ptrs now) l) (hm:MemIs B w gm ws n) (hw:WOk c ws) (hM:Mach c B w g ws now) (hI:Inv calls bg (onOf now) l n) (hB:B ≤ g) (hn:n ≤ 1000) (hl:l.length ≤ 3000) (hT:calls.length ≤ 8) (h8:∀ t,t < calls.length→(calls.getD t []).length ≤ 8) (hnow:now.length = calls.length) (z:Int) :
  Calls Try.prog 18 #[.pointer (some ⟨g,0,none⟩),.int .i64 z] w (P18 c B g gm calls l n w):=by
 by_cases h0:z < 0
 ·exact pick_low hc hS hm hw hM hI hB hn hl hT h8 hnow h0
 by_cases h1:(calls.length:Int) ≤ z
 ·exact pick_high hc hS hm hw hM hI hB hn hl hT h8 hnow h1
 obtain ⟨i,rfl⟩:=Int.eq_ofNat_of_zero_le (show 0 ≤ z by omega)
 have hi:i < calls.length:=by omega
 cases he:now.getD i none with
 | some p=>obtain ⟨gi,xi⟩:=p;exact pick_busy hc hS hm hw hM hI hB hn hl hT h8 hnow hi he
 | none =>
  obtain ⟨j,hj,hjl⟩:=hI.rng i hi
  by_cases hq:j = (calls.getD i []).length
  ·exact pick_idle hc hS hm hw hM hI hB hn hl hT h8 hnow hi he (by rw [hj,hq])
  ·obtain ⟨kr,r,hr,hgd⟩:=check_ok hc (rd_T43 (calls.getD i []) j).f0 (rd_T43 (calls.getD i []) j).f1 (rd_T43 (calls.getD i []) j).f2
   by_cases h2:r = 0
   ·subst h2
    exact pick_new_ok hc hS hm hw hM hI hB hn hl hT h8 hnow hi he hj (by omega) hr (hgd rfl)
   ·exact pick_new_err hc hS hm hw hM hI hB hn hl hT h8 hnow hi he hj (by omega) hr h2
theorem run16 {c:Cf} (hc:c.Ok) {w:World} {AP AL AQ AR:Option Addr} {cP cL cQ cR:Nat} (hP:Rd w (.slice AP c.pa.length cP) c.pa) (hL:Rd w (.slice AL c.li.length cL) c.li) {calls:List (List S43)} (hQ:Kd.C (Kd.slice 43 k43) w AQ calls.length calls) (hT:calls.length ≤ 8) (hT8:∀ i,i < calls.length→(calls.getD i []).length ≤ 8) {picks:List Int} (hR:Kd.C (Kd.int .i64) w AR picks.length picks) (hR6:picks.length ≤ 600) :
  Calls Try.prog 6 #[(cA c AP cP AL cL),.slice AQ calls.length cQ,.slice AR picks.length cR] w fun e w'=>∃ g gm bg now l n,e = .returned (.pointer (some ⟨g,0,none⟩))∧SB c w' g gm calls bg (ptrs now) l∧Inv calls bg (onOf now) l n∧l.length ≤ 1200∧Below w.heap.size w w':=by
 have HC:=Lib.hid hc
 have HP:=Lib.hid hP
 have HLi:=Lib.hid hL
 have HQ:=Lib.hid hQ
 have HT8:Hid (calls.length ≤ 8∧∀ i,i < calls.length→(calls.getD i []).length ≤ 8):=Lib.hid ⟨hT,hT8⟩
 obtain ⟨np,hnp⟩:∃ k,picks.length = k:=⟨_,rfl⟩
 rw [hnp] at hR hR6 ⊢
 have HR:=Lib.hid hR
 have HR6:=Lib.hid hR6
 have HS0:Hid (Mk w w):=Lib.hid (Mk.refl w)
 clear hc hP hL hQ hT hT8 hR hR6 hnp
 go_enter Try.func6,Try.ntmps6
 go_wp2_with (first|((with_reducible refine gate_dst (N:=3) rfl ?_);refine box_event ?hg (N:=3) ?hd (cs:=#[.int .i64 c.th,.int .i64 c.S,.int .i64 c.ga,.int .i64 c.le,.int .i64 c.re,.int .i64 c.ti,.slice AP c.pa.length cP,.slice AL c.li.length cL]) (t:=24) ?hr ?_;(case hd=>rfl);(case hg=>rfl);(case hr=>first|(go_simp;done)|(go_simp;rfl));intro g1 hg W1 hbox hb';have HG_g1:Hid (w.heap.size ≤ g1):=Lib.hid (by rw [hg];exact HS0.out.size);have HS1:=Lib.hid ((HS0.out.below hb'));have HB1_g1:Hid (W1.heap[g1]? = some (.cells (#[.int .i64 c.th,.int .i64 c.S,.int .i64 c.ga,.int .i64 c.le,.int .i64 c.re,.int .i64 c.ti,.slice AP c.pa.length cP,.slice AL c.li.length cL]:Array Value) 24 (0,0))):=Lib.hid (hbox);have C_g1:=cells8 HB1_g1.out;clear hb' hbox hg)|(go_at_call 17;(with_reducible refine (new16 HC.out (HP.out.below HS1.out.b) (HLi.out.below HS1.out.b) (Kd.C_below HQ.out HS1.out.b) HT8.out.1 HT8.out.2).mono ?_);rintro e W2 ⟨g,gm,ws,rfl,hge,hsb,hmem,hwok,hb'⟩;have HS2:=Lib.hid (HS1.out.below hb');have HB2_g1:=Lib.hid (blk_below HB1_g1.out hb');replace C_g1:=cells8 HB2_g1.out;have HSZ:=Lib.hid HS1.out.size;have HSB:=Lib.hid hsb;have HGE:=Lib.hid hge;have HMEM:=Lib.hid hmem;have HWOK:=Lib.hid hwok;clear hsb hge hmem hwok;clear hb'))
 have HBE:Hid (Below w.heap.size w W2):=Lib.hid HS2.out
 clear C_g1
 go_loopw [8] (fun v8 wr=>∃ k:Nat,k ≤ np∧v8 = .int .i64 k∧∃ bg now l ws n,Hid (SB c wr g gm calls bg (ptrs now) l)∧Hid (MemIs w.heap.size wr gm ws n)∧Hid (WOk c ws)∧Hid (Mach c w.heap.size wr g ws now)∧Hid (Inv calls bg (onOf now) l n)∧Hid (now.length = calls.length∧n ≤ k∧l.length ≤ 2 * k)∧Hid (Below w.heap.size w wr)) (fun v8 _=>np - (intOf v8).toNat)
 case atStart=>exact ⟨0,Nat.zero_le _,rfl,List.replicate calls.length 0,List.replicate calls.length none,[],ws,0,Lib.hid (by rw [show ptrs (List.replicate calls.length none) = List.replicate calls.length none by unfold ptrs;rw [List.map_replicate];rfl];exact HSB.out),Lib.hid (HMEM.out.base HSZ.out),HWOK,Lib.hid (Mach.start c _ _ g ws _),Lib.hid (Inv.start calls _ (fun t=>by unfold onOf;rw [List.getD_eq_getElem?_getD,List.getElem?_replicate];split <;> rfl) 0),Lib.hid ⟨List.length_replicate,Nat.le_refl _,Nat.le_refl _⟩,HBE⟩
 case round =>
  obtain ⟨k,hk,rfl,bg,now,l,ws,n,HSr,HMr,HWr,HAr,HIr,HLr,HBr⟩:=hrel
  by_cases hkl:k < np
  ·have i0:(0:Int) ≤ (k:Int):=by omega
   have i1:(k:Int) < (np:Int):=by omega
   have hk6:k ≤ 600:=by have:=HR6.out;omega
   obtain ⟨ad,rfl,hx⟩:=Kd.at_int HR.out (k:Int) i0 i1
   replace hx:=(HBr.out.cell (World.block_lt_of_cell? w _ hx)).trans hx
   simp only [Int.toNat_natCast] at hx
   obtain ⟨z,hz⟩:∃ z,rd picks (k:Int) = z:=⟨_,rfl⟩
   rw [hz] at hx
   have HKL:Hid (k < np∧k ≤ 600):=Lib.hid ⟨hkl,hk6⟩
   have q5:IntKind.i64.wrap ((k:Int) + 1) = (k:Int) + 1:=IntWalk.i64_in _ (by omega)
   have q4:wrap64 ((k:Int) + 1) = (k:Int) + 1:=by rw [← i64_w];exact q5
   clear hz hk hkl hk6
   go_wp2_with (go_at_call 18;(with_reducible refine (pick_any HC.out HSr.out HMr.out HWr.out HAr.out HIr.out (Nat.le_trans HSZ.out HGE.out) (by have:=HLr.out;have:=HKL.out;omega) (by have:=HLr.out;have:=HKL.out;omega) HT8.out.1 HT8.out.2 HLr.out.1 z).mono ?_);rintro e w2 ⟨b,bg',now',l',ws',n',rfl,h1,h2,h3,h4,h5,h6,h7,h8,h9⟩;have H1:=Lib.hid h1;have H2:=Lib.hid h2;have H3:=Lib.hid h3;have H4:=Lib.hid h4;have H5:=Lib.hid h5;have H6:Hid (now'.length = calls.length∧n' ≤ k + 1∧l'.length ≤ 2 * (k + 1)):=Lib.hid ⟨h6,by have:=HLr.out;omega,by have:=HLr.out;omega⟩;have H9:=Lib.hid (HBr.out.trans h9);clear h1 h2 h3 h4 h5 h6 h7 h8 h9 hx)
   go_roundw
   case rel=>exact ⟨k + 1,HKL.out.1,by go_num,bg',now',l',ws',n',H1,H2,H3,H4,H5,H6,H9⟩
   case measure=>simp [intOf];have:=HKL.out;omega
  ·have hke:np = k:=by omega
   subst hke
   clear hkl hk
   go_wp2
   go_ret
   exact ⟨g,gm,bg,now,l,n,rfl,HSr.out,HIr.out,by have:=HLr.out;have:=HR6.out;omega,HBr.out⟩
end Go.Proofs.Ytadblpcjkahikaa.PTraceRuns

