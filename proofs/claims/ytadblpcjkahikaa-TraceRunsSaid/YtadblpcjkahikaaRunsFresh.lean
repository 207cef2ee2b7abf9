
import Derived.Test.YtadblpcjkahikaaRunsRows
namespace Go.Proofs.Ytadblpcjkahikaa.PTraceRuns
open Go.RowKit Go.Proofs.YtadblpcjkahikaaW.PrintWords Go.Proofs.YtadblpcjkahikaaW.PrintLast Go.Proofs.YtadblpcjkahikaaW.PrintMore
set_option linter.unusedVariables false
set_option linter.unusedSimpArgs false
set_option maxHeartbeats 2000000
set_option maxRecDepth 100000
def Rd (w:World) (v:Value) (xs:List Int):Prop:=∃ A c,v = .slice A xs.length c∧xs.length ≤ c∧Kd.C (Kd.int .i64) w A xs.length xs
theorem Rd.below {w w1:World} {v:Value} {xs:List Int} (h:Rd w v xs) (hb:Below w.heap.size w w1):Rd w1 v xs:=by
 obtain ⟨A,c,e,h1,h2⟩:=h
 exact ⟨A,c,e,h1,Kd.C_below h2 hb⟩
theorem Rd.fr {w w1:World} {L:List Nat} {v:Value} {xs:List Int} (h:Rd w v xs) (hf:Fr w.heap.size true L w w1):Rd w1 v xs:=h.below (hf.below (Nat.le_refl _))
theorem own_a {c:Cf} (hc:c.Ok) {w:World} {AP AL:Option Addr} {cP cL:Nat} (hP:Rd w (.slice AP c.pa.length cP) c.pa) (hL:Rd w (.slice AL c.li.length cL) c.li) :
  Calls Try.prog 22 #[(cA c AP cP AL cL)] w fun e w'=>∃ AP' AL' cP' cL',e = .returned (.agg #[.int .i64 c.th,.int .i64 c.S,.int .i64 c.ga,.int .i64 c.le,.int .i64 c.re,.int .i64 c.ti,.slice AP' c.pa.length cP',.slice AL' c.li.length cL'])∧Ints w' (.slice AP' c.pa.length cP') c.pa∧Ints w' (.slice AL' c.li.length cL') c.li∧Below w.heap.size w w':=by
 obtain ⟨A1,c1,e1,h1,k1⟩:=hP
 obtain ⟨A2,c2,e2,h2,k2⟩:=hL
 injection e1 with e1 _ e1'
 injection e2 with e2 _ e2'
 subst e1 e1' e2 e2'
 have hN:c.pa.length ≤ 12:=hc.N2
 have hN2:c.li.length ≤ 12:=by rw [hc.li];exact hc.N2
 refine (breadlineref04_Own.calls _ _ _ _ _ _ _ _ _ _ _ _ c.th c.S c.ga c.le c.re c.ti c.pa c.li w k1 h1 k2 h2 ?_).mono ?_
 ·unfold breadlineref04_Own.f
  simp only [Option.bind_some,List.length_nil,Nat.zero_add,List.nil_append]
  rw [if_pos (by omega),if_pos (by omega)]
 ·rintro e w' ⟨v6,v7,rfl,r6,r7,hb⟩
  obtain ⟨A6,c6,e6⟩:=Kd.R_slice r6
  obtain ⟨A7,c7,e7⟩:=Kd.R_slice r7
  subst e6 e7
  exact ⟨_,_,_,_,rfl,Ints.of r6,Ints.of r7,hb⟩
theorem limit_a {c:Cf} {w:World} {AP AL:Option Addr} {cP cL:Nat} (hc:c.Ok) (hP:Rd w (.slice AP c.pa.length cP) c.pa) (hL:Rd w (.slice AL c.li.length cL) c.li) {v:Nat} (hv:v ≤ c.N) :
  Calls Try.prog 33 #[(cA c AP cP AL cL),.int .i64 v] w fun e w'=>e = .returned (.int .i64 (c.na v 0:Nat))∧Below w.heap.size w w':=by
 obtain ⟨A1,c1,e1,h1,k1⟩:=hP
 obtain ⟨A2,c2,e2,h2,k2⟩:=hL
 injection e1 with e1 _ e1'
 injection e2 with e2 _ e2'
 subst e1 e1' e2 e2'
 exact breadlineref05_Limit.calls _ _ _ _ _ _ _ _ _ _ _ _ _ _ _ k1 h1 k2 h2 (limit_z hc hv)
theorem avail_a {c:Cf} {w:World} {AP AL:Option Addr} {cP cL:Nat} (hc:c.Ok) (hP:Rd w (.slice AP c.pa.length cP) c.pa) (hL:Rd w (.slice AL c.li.length cL) c.li) {v:Nat} (hv:v ≤ c.N) :
  Calls Try.prog 34 #[(cA c AP cP AL cL),.int .i64 v] w fun e w'=>e = .returned (.int .i64 (c.na v 1:Nat))∧Below w.heap.size w w':=by
 obtain ⟨A1,c1,e1,h1,k1⟩:=hP
 obtain ⟨A2,c2,e2,h2,k2⟩:=hL
 injection e1 with e1 _ e1'
 injection e2 with e2 _ e2'
 subst e1 e1' e2 e2'
 refine breadlineref05_Avail.calls _ _ _ _ _ _ _ _ _ _ _ _ _ _ _ k1 h1 k2 h2 ?_
 have h3:=Nat.mul_le_mul_right c.K hv
 have h4:=Cf.NK_le hc
 unfold breadlineref05_Avail.f
 rw [limit_z hc hv,Option.bind_some,wrap_id (by unfold Cf.na;omega) (by unfold Cf.na;omega)]
 unfold Cf.na;rfl
theorem counter_a {c:Cf} {w:World} {AP AL:Option Addr} {cP cL:Nat} (hc:c.Ok) (hP:Rd w (.slice AP c.pa.length cP) c.pa) (hL:Rd w (.slice AL c.li.length cL) c.li) {v:Nat} (hv:v ≤ c.N) :
  Calls Try.prog 35 #[(cA c AP cP AL cL),.int .i64 v] w fun e w'=>e = .returned (.int .i64 (c.na v (2 + c.S):Nat))∧Below w.heap.size w w':=by
 obtain ⟨A1,c1,e1,h1,k1⟩:=hP
 obtain ⟨A2,c2,e2,h2,k2⟩:=hL
 injection e1 with e1 _ e1'
 injection e2 with e2 _ e2'
 subst e1 e1' e2 e2'
 refine breadlineref05_Counter.calls _ _ _ _ _ _ _ _ _ _ _ _ _ _ _ k1 h1 k2 h2 ?_
 have h3:=Nat.mul_le_mul_right c.K hv
 have h4:=Cf.NK_le hc
 have h5:=hc.Sle
 unfold breadlineref05_Counter.f
 rw [limit_z hc hv,Option.bind_some,wrap_id (z:=((c.na v 0:Nat):Int) + 2) (by unfold Cf.na;omega) (by unfold Cf.na;omega),wrap_id (by unfold Cf.na;omega) (by unfold Cf.na;omega)]
 unfold Cf.na;congr 1;omega
theorem size_c {c:Cf} (hc:c.Ok) {w:World} {AP AL:Option Addr} {cP cL:Nat} (hP:Rd w (.slice AP c.pa.length cP) c.pa) (hL:Rd w (.slice AL c.li.length cL) c.li) :
  Calls Try.prog 31 #[(cA c AP cP AL cL)] w fun e w'=>e = .returned (.int .i64 (c.tk c.ti:Nat))∧Below w.heap.size w w':=by
 obtain ⟨A1,c1,e1,h1,k1⟩:=hP
 obtain ⟨A2,c2,e2,h2,k2⟩:=hL
 injection e1 with e1 _ e1'
 injection e2 with e2 _ e2'
 subst e1 e1' e2 e2'
 exact breadlineref05_Size.calls _ _ _ _ _ _ _ _ _ _ _ _ _ _ k1 h1 k2 h2 (by unfold breadlineref05_Size.f;rw [ticket_z hc (Nat.le_refl _)];rfl)
theorem rd_at {w:World} {A:Option Addr} {n c:Nat} {xs:List Int} (h:Rd w (.slice A n c) xs) (hn:0 < n):∃ (ad:Addr) (xf:Nat→Int),A = some ad∧Hid (∀ W,Below w.heap.size w W→∀ i:Nat,i < n→W.cell? (ad.add i) = some (.int .i64 (xf i))):=by
 obtain ⟨A1,c1,e,_,hC⟩:=h
 injection e with e1 e2 _
 subst e1 e2
 obtain ⟨ad,rfl,_⟩:=Kd.at_int hC 0 (by omega) (by omega)
 refine ⟨ad,fun i=>rd xs (i:Int),rfl,Lib.hid (fun W hW i hi=>?_)⟩
 obtain ⟨ad',e3,hx⟩:=Kd.at_int hC (i:Int) (by omega) (by omega)
 injection e3 with e3
 subst e3
 rw [Int.toNat_natCast] at hx
 exact (hW.cell (World.block_lt_of_cell? w _ hx)).trans hx
structure FreshTo (c:Cf) (v:Nat) (ws:List Int):Prop where
 len:ws.length = c.N * c.K + 2 * c.ti
 live:∀ u,u < v→wd ws (c.na u (5 + c.S)) = 1
 tick:∀ k,k < c.ti→wd ws (c.tk k) = 0
theorem FreshTo.zero (c:Cf):FreshTo c 0 (List.replicate (c.tk c.ti) 0) :=
 ⟨by rw [List.length_replicate];rfl,fun u h=>absurd h (Nat.not_lt_zero u),fun k hk=>by unfold wd;rw [List.getD_eq_getElem?_getD,List.getElem?_replicate];split <;> rfl⟩
theorem FreshTo.set {c:Cf} {v:Nat} {ws:List Int} (h:FreshTo c v ws) {u o:Nat} (hu:u < c.N) (ho:o < c.K) (x:Int) (hx:o = 5 + c.S→x = 1):FreshTo c v (ws.set (c.na u o) x):=by
 have hn:=Cf.na_lt hu ho
 have hi:c.na u o < ws.length:=by rw [h.len];omega
 have hk5:5 + c.S < c.K:=by have:c.K = 6 + 2 * c.S:=rfl;omega
 refine ⟨by rw [List.length_set];exact h.len,fun u' hu'=>?_,fun k hk=>?_⟩
 ·rw [wd_set _ _ _ _ hi]
  split
  ·rename_i e;exact hx (Cf.na_inj hk5 ho e).2.symm
  ·exact h.live u' hu'
 ·rw [wd_set _ _ _ _ hi,if_neg (by unfold Cf.tk;omega)];exact h.tick k hk
theorem FreshTo.next {c:Cf} {v:Nat} {ws:List Int} (h:FreshTo c v ws) (hv:v < c.N):FreshTo c (v + 1) (ws.set (c.na v (5 + c.S)) 1):=by
 have hk5:5 + c.S < c.K:=by have:c.K = 6 + 2 * c.S:=rfl;omega
 have hn:=Cf.na_lt hv hk5
 have hi:c.na v (5 + c.S) < ws.length:=by rw [h.len];omega
 have h2:=h.set hv hk5 1 (fun _=>rfl)
 refine ⟨h2.len,fun u hu=>?_,h2.tick⟩
 by_cases e:u = v
 ·subst e;rw [wd_set _ _ _ _ hi,if_pos rfl]
 ·exact h2.live u (by omega)
theorem FreshTo.ok {c:Cf} (hc:c.Ok) {ws:List Int} (h:FreshTo c c.N ws):WOk c ws :=
 ⟨h.len,fun v hv=>by rw [h.live v hv];exact ⟨.inl rfl,by have:=hc.Sle;omega⟩,fun k hk hl=>by
  unfold isLive at hl
  rw [h.tick k hk] at hl
  exact absurd hl (by decide +kernel)⟩
theorem wrap_small {v:Nat} (h:v ≤ 12):IntKind.i64.wrap ((v:Int) + 1) = (v:Int) + 1∧wrap64 ((v:Int) + 1) = (v:Int) + 1:=⟨IntWalk.i64_in _ (by omega),by unfold wrap64;omega⟩
theorem new03 {n:Nat} (hn:n ≤ 10000) (w:World):Calls Try.prog 30 #[.int .i64 n] w fun e w'=>∃ gm,e = .returned (.pointer (some ⟨gm,0,none⟩))∧w.heap.size ≤ gm∧MemIs w.heap.size w' gm (List.replicate n 0) 0∧Below w.heap.size w w':=by
 have HN:=Lib.hid hn
 have hn':(0:Int) ≤ (n:Int):=by omega
 clear hn
 go_enter Try.func30,Try.ntmps30
 go_wp2_with (first|((with_reducible refine gate_dst (N:=4) rfl ?_);refine Kd.R_make (Kd.int .i64) (w0:=w) w.heap.size 3 ?hg (N:=4) ?hd 22 (.tmp 3) (.tmp 3) ?ho (n:Int) rfl rfl Try.underlying22 (.int .i64 0) 8 info3 rfl (by decide) (by decide) 0 (ok:=fun _=>True) (okp:=fun _=>True) ?hz (fun _ h=>h) trivial hn' ?hl (Below.refl _ _) (Nat.le_refl _) ?_;(case hd=>rfl);(case hg=>rfl);(case ho=>rfl);(case hz=>rfl);(case hl=>have:=HN.out;omega);intro v1 W1 hr1 hb1 _ _;rw [Int.toNat_natCast] at hr1;obtain ⟨A4,c4,e4⟩:=Kd.R_slice hr1;rw [List.length_replicate] at e4;subst e4;have HR1:=Lib.hid hr1;have HB1:=Lib.hid hb1;clear hr1 hb1)|((with_reducible refine gate_dst (N:=6) rfl ?_);refine box_event ?hg (N:=6) ?hd (cs:=#[.slice A4 n c4,.slice none 0 0]) (t:=77) ?hr ?_;(case hd=>rfl);(case hg=>rfl);(case hr=>first|(go_simp;done)|(go_simp;rfl));intro g2 hg W2 hbox hb';have HG:=Lib.hid hg;have HBX:=Lib.hid hbox;have HB2:=Lib.hid hb';clear hg hbox hb'))
 go_ret
 exact ⟨g2,rfl,by rw [HG.out];exact HB1.out.size,⟨_,_,[],HBX.out,by rw [HG.out];exact HB1.out.size,(Ints.of HR1.out).below HB2.out,Kd.R_nil _ _ _ _ _,rfl⟩,HB1.out.trans (HB2.out.mono HB1.out.size)⟩
theorem MemIs.base {B B' gm n:Nat} {w:World} {ws:List Int} (h:MemIs B w gm ws n) (hB:B' ≤ B):MemIs B' w gm ws n:=by
 obtain ⟨vW,vL,ls,h1,h2,h3,h4,h5⟩:=h
 exact ⟨vW,vL,ls,h1,Nat.le_trans hB h2,h3,Kd.R_lower h4 hB,h5⟩
theorem poke_z {B gm n:Nat} {w:World} {ws:List Int} (hm:MemIs B w gm ws n) (hlen:ws.length ≤ 10000) (i:Nat) (x z:Int) (hz:z = (i:Int)) :
  Calls Try.prog 32 #[.pointer (some ⟨gm,0,none⟩),.int .i64 z,.int .i64 x] w fun e w'=>e = .returned (.tuple #[])∧MemIs B w' gm (ws.set i x) n∧Fr B true [] w w':=by subst hz;exact poke_any hm hlen i x
theorem fresh_c {c:Cf} (hc:c.Ok) {w:World} {AP AL:Option Addr} {cP cL:Nat} (hP:Rd w (.slice AP c.pa.length cP) c.pa) (hL:Rd w (.slice AL c.li.length cL) c.li) :
  Calls Try.prog 23 #[(cA c AP cP AL cL)] w fun e w'=>∃ gm ws,e = .returned (.pointer (some ⟨gm,0,none⟩))∧w.heap.size ≤ gm∧MemIs w.heap.size w' gm ws 0∧WOk c ws∧Below w.heap.size w w':=by
 have hli:0 < c.li.length:=by rw [hc.li];exact hc.N1
 obtain ⟨ad,xf,rfl,HAT⟩:=rd_at hL hli
 clear hli
 have HC:=Lib.hid hc
 have HP:=Lib.hid hP
 have HLi:=Lib.hid hL
 obtain ⟨tk,htk⟩:∃ t,c.tk c.ti = t:=⟨_,rfl⟩
 have HTK:=Lib.hid htk
 have HTKL:Hid (tk ≤ 10000):=Lib.hid (by rw [← htk];have:=Cf.NK_le hc;have:=hc.ti2;unfold Cf.tk;omega)
 have HS0:Hid (Mk w w):=Lib.hid (Mk.refl w)
 clear hc hP hL htk
 go_enter Try.func23,Try.ntmps23
 go_wp2_with (first|((with_reducible refine gate_dst (N:=1) rfl ?_);refine box_event ?hg (N:=1) ?hd (cs:=#[.int .i64 c.th,.int .i64 c.S,.int .i64 c.ga,.int .i64 c.le,.int .i64 c.re,.int .i64 c.ti,.slice AP c.pa.length cP,.slice (some ad) c.li.length cL]) (t:=24) ?hr ?_;(case hd=>rfl);(case hg=>rfl);(case hr=>first|(go_simp;done)|(go_simp;rfl));intro g1 hg W1 hbox hb';have HG_g1:Hid (w.heap.size ≤ g1):=Lib.hid (by rw [hg];exact HS0.out.size);have HS1:=Lib.hid ((HS0.out.below hb'));have HB1_g1:Hid (W1.heap[g1]? = some (.cells (#[.int .i64 c.th,.int .i64 c.S,.int .i64 c.ga,.int .i64 c.le,.int .i64 c.re,.int .i64 c.ti,.slice AP c.pa.length cP,.slice (some ad) c.li.length cL]:Array Value) 24 (0,0))):=Lib.hid (hbox);have C_g1:=cells8 HB1_g1.out;clear hb' hbox hg)|(go_at_call 31;(with_reducible refine (size_c HC.out (HP.out.below HS1.out.b) (HLi.out.below HS1.out.b)).mono ?_);rintro e W2 ⟨rfl,hb'⟩;have HS2:=Lib.hid (HS1.out.below hb');have HB2_g1:=Lib.hid (blk_below HB1_g1.out hb');replace C_g1:=cells8 HB2_g1.out;rw [HTK.out];clear hb')|(go_at_call 30;(with_reducible refine (new03 HTKL.out W2).mono ?_);rintro e W3 ⟨gm,rfl,hge,hmem,hb'⟩;have HS3:=Lib.hid (HS2.out.below hb');have HB3_g1:=Lib.hid (blk_below HB2_g1.out hb');replace C_g1:=cells8 HB3_g1.out;have HSZ:=Lib.hid HS2.out.size;have HGE:=Lib.hid hge;have HMEM:=Lib.hid hmem;clear hge hmem;clear hb'))
 clear C_g1
 have HSt:Hid (St w.heap.size [] [] w gm (List.replicate (c.tk c.ti) 0) 0 W3):=Lib.hid ⟨by rw [HTK.out];exact HMEM.out.base HSZ.out,(fun _ h=>by cases h),Fr.of_below HS3.out.b _ true []⟩
 have HT:Hid (∀ p ∈ ([]:List (Nat × Nat)),p.2 ≠ 77∧p.2 ≠ 118):=Lib.hid (fun _ h=>by cases h)
 go_loopw [4] (fun v4 wr=>∃ v:Nat,v ≤ c.N∧v4 = .int .i64 v∧Hid (wr.heap[g1]? = some (.cells #[.int .i64 c.th,.int .i64 c.S,.int .i64 c.ga,.int .i64 c.le,.int .i64 c.re,.int .i64 c.ti,.slice AP c.pa.length cP,.slice (some ad) c.li.length cL] 24 (0,0)))∧∃ ws,Hid (FreshTo c v ws)∧Hid (St w.heap.size [] [] w gm ws 0 wr)) (fun v4 _=>c.N - (intOf v4).toNat)
 case atStart=>exact ⟨0,Nat.zero_le _,rfl,HB3_g1,_,Lib.hid (FreshTo.zero c),HSt⟩
 case round =>
  obtain ⟨v,hv,rfl,HBr,ws,HF,HSr⟩:=hrel
  have hNp:c.N = c.pa.length:=rfl
  by_cases hvl:v < c.N
  ·have HV:=Lib.hid hvl
   have hLN:=HC.out.li
   have HVL:Hid (v < c.li.length):=Lib.hid (by omega)
   have i0:(0:Int) ≤ (v:Int):=by omega
   have i1:(v:Int) < (c.li.length:Int):=by omega
   have i2:(v:Int) < (c.pa.length:Int):=by omega
   have d1:decide ((v:Int) < (c.pa.length:Int)) = true:=decide_eq_true i2
   have d2:decide (v < c.pa.length) = true:=decide_eq_true (by omega)
   obtain ⟨lx,hlx⟩:∃ x,xf v = x:=⟨_,rfl⟩
   have HLX:=Lib.hid hlx
   have HLe:Hid (ws.length ≤ 10000):=Lib.hid (by rw [HF.out.len];have:=Cf.NK_le HC.out;have:=HC.out.ti2;omega)
   obtain ⟨p0,hp0⟩:∃ p,c.na v 0 = p:=⟨_,rfl⟩
   obtain ⟨p1,hp1⟩:∃ p,c.na v 1 = p:=⟨_,rfl⟩
   obtain ⟨p2,hp2⟩:∃ p,c.na v (2 + c.S) = p:=⟨_,rfl⟩
   have hp2l:p2 ≤ 264:=by rw [← hp2];have:=Cf.NK_le HC.out;have:=Cf.na_lt (c:=c) hvl (o:=2 + c.S) (by have:c.K = 6 + 2 * c.S:=rfl;omega);omega
   have q3:IntKind.i64.wrap ((p2:Int) + 3) = (p2:Int) + 3:=IntWalk.i64_in _ (by omega)
   have hv12:v ≤ 12:=Nat.le_trans (Nat.le_of_lt hvl) HC.out.N2
   obtain ⟨q5,q4⟩:=wrap_small hv12
   have H0:=Lib.hid hp0
   have H1:=Lib.hid hp1
   have H2:=Lib.hid hp2
   clear hp0 hp1 hp2 hlx hv hvl hLN hNp hp2l
   have C_g1:=cells8 HBr.out
   go_wp2
   refine ch_st (fun wS=>wS.cell? ⟨g1,0,none⟩ = some (.int .i64 c.th)∧wS.cell? ⟨g1,1,none⟩ = some (.int .i64 c.S)∧wS.cell? ⟨g1,2,none⟩ = some (.int .i64 c.ga)∧wS.cell? ⟨g1,3,none⟩ = some (.int .i64 c.le)∧wS.cell? ⟨g1,4,none⟩ = some (.int .i64 c.re)∧wS.cell? ⟨g1,5,none⟩ = some (.int .i64 c.ti)∧wS.cell? ⟨g1,6,none⟩ = some (.slice AP c.pa.length cP)∧wS.cell? ⟨g1,7,none⟩ = some (.slice (some ad) c.li.length cL)∧wS.cell? (ad.add v) = some (.int .i64 lx)) [9] [0,1,2,4,5,6,7,8,3,9] (by kernel_rfl) rfl (⟨C_g1.2.1,C_g1.2.2.1,C_g1.2.2.2.1,C_g1.2.2.2.2.1,C_g1.2.2.2.2.2.1,C_g1.2.2.2.2.2.2.1,C_g1.2.2.2.2.2.2.2.1,C_g1.2.2.2.2.2.2.2.2,(by rw [← HLX.out];exact HAT.out _ (HSr.out.fr.below (Nat.le_refl _)) v HVL.out)⟩) (fun W11 HWd hHeld=>?_)
   have HS11:=dwS HWd (Lib.hid HSr.out)
   have HB11_g1:Hid (W11.heap[g1]? = some (.cells (#[.int .i64 c.th,.int .i64 c.S,.int .i64 c.ga,.int .i64 c.le,.int .i64 c.re,.int .i64 c.ti,.slice AP c.pa.length cP,.slice (some ad) c.li.length cL]:Array Value) 24 (0,0))):=Lib.hid (by rw [← HWd.out];exact HBr.out)
   replace C_g1:=cells8 HB11_g1.out
   clear HWd
   iterate 8 refine ch_s ?_
   refine ch_1 fun K hK=>?_
   refine goes_s Try.func33 #[.agg #[.int .i64 c.th,.int .i64 c.S,.int .i64 c.ga,.int .i64 c.le,.int .i64 c.re,.int .i64 c.ti,.slice AP c.pa.length cP,.slice (some ad) c.li.length cL],.int .i64 v] ?_
   refine (limit_a HC.out (HP.out.fr HS11.out.fr) (HLi.out.fr HS11.out.fr) (v:=v) (by have:=HV.out;omega)).mono ?_
   rintro e W12 ⟨rfl,hb'⟩
   refine ⟨_,rfl,?_⟩
   have HS12:=Lib.hid (HS11.out.below hb')
   have HB12_g1:=Lib.hid (blk_below HB11_g1.out hb')
   replace C_g1:=cells8 HB12_g1.out
   rw [H0.out]
   clear hb'
   refine hK.out _ _ (⟨C_g1.2.1,C_g1.2.2.1,C_g1.2.2.2.1,C_g1.2.2.2.2.1,C_g1.2.2.2.2.2.1,C_g1.2.2.2.2.2.2.1,C_g1.2.2.2.2.2.2.2.1,C_g1.2.2.2.2.2.2.2.2,(by rw [← HLX.out];exact HAT.out _ (HS12.out.fr.below (Nat.le_refl _)) v HVL.out)⟩) ?_;clear hK K hHeld;intro hHeld
   try simp only [Act.put,zq1,zq2,zq3]
   refine ch_last rfl rfl (by kernel_rfl) (by decide) (fun K hK=>?_)
   refine goes_s Try.func32 #[.pointer (some ⟨gm,0,none⟩),.int .i64 p0,.int .i64 lx] ?_
   refine (poke_any HS12.out.mem (by exact HLe.out) p0 lx).mono ?_
   rintro e W13 ⟨rfl,hm',hf'⟩
   refine ⟨_,rfl,?_⟩
   have HS13:=Lib.hid (HS12.out.acc hm' hf' HT.out)
   have HB13_g1:=Lib.hid (blk_fr HB12_g1.out hf' (by simp) (by decide))
   replace C_g1:=cells8 HB13_g1.out
   clear hm' hf'
   refine hK.out _ _ ?_
   clear hK K
   try simp only [Act.put,zq1,zq2,zq3]
   refine ch_z ?_
   clear hHeld
   go_wp2
   refine ch_st (fun wS=>wS.cell? ⟨g1,0,none⟩ = some (.int .i64 c.th)∧wS.cell? ⟨g1,1,none⟩ = some (.int .i64 c.S)∧wS.cell? ⟨g1,2,none⟩ = some (.int .i64 c.ga)∧wS.cell? ⟨g1,3,none⟩ = some (.int .i64 c.le)∧wS.cell? ⟨g1,4,none⟩ = some (.int .i64 c.re)∧wS.cell? ⟨g1,5,none⟩ = some (.int .i64 c.ti)∧wS.cell? ⟨g1,6,none⟩ = some (.slice AP c.pa.length cP)∧wS.cell? ⟨g1,7,none⟩ = some (.slice (some ad) c.li.length cL)∧wS.cell? (ad.add v) = some (.int .i64 lx)) [9] [0,1,2,4,5,6,7,8,3,9] (by kernel_rfl) rfl (⟨C_g1.2.1,C_g1.2.2.1,C_g1.2.2.2.1,C_g1.2.2.2.2.1,C_g1.2.2.2.2.2.1,C_g1.2.2.2.2.2.2.1,C_g1.2.2.2.2.2.2.2.1,C_g1.2.2.2.2.2.2.2.2,(by rw [← HLX.out];exact HAT.out _ (HS13.out.fr.below (Nat.le_refl _)) v HVL.out)⟩) (fun W14 HWd hHeld=>?_)
   have HS14:=dwS HWd HS13
   have HB14_g1:=dwH HWd HB13_g1
   replace C_g1:=cells8 HB14_g1.out
   clear HWd
   iterate 8 refine ch_s ?_
   refine ch_1 fun K hK=>?_
   refine goes_s Try.func34 #[.agg #[.int .i64 c.th,.int .i64 c.S,.int .i64 c.ga,.int .i64 c.le,.int .i64 c.re,.int .i64 c.ti,.slice AP c.pa.length cP,.slice (some ad) c.li.length cL],.int .i64 v] ?_
   refine (avail_a HC.out (HP.out.fr HS14.out.fr) (HLi.out.fr HS14.out.fr) (v:=v) (by have:=HV.out;omega)).mono ?_
   rintro e W15 ⟨rfl,hb'⟩
   refine ⟨_,rfl,?_⟩
   have HS15:=Lib.hid (HS14.out.below hb')
   have HB15_g1:=Lib.hid (blk_below HB14_g1.out hb')
   replace C_g1:=cells8 HB15_g1.out
   rw [H1.out]
   clear hb'
   refine hK.out _ _ (⟨C_g1.2.1,C_g1.2.2.1,C_g1.2.2.2.1,C_g1.2.2.2.2.1,C_g1.2.2.2.2.2.1,C_g1.2.2.2.2.2.2.1,C_g1.2.2.2.2.2.2.2.1,C_g1.2.2.2.2.2.2.2.2,(by rw [← HLX.out];exact HAT.out _ (HS15.out.fr.below (Nat.le_refl _)) v HVL.out)⟩) ?_;clear hK K hHeld;intro hHeld
   try simp only [Act.put,zq1,zq2,zq3]
   refine ch_last rfl rfl (by kernel_rfl) (by decide) (fun K hK=>?_)
   refine goes_s Try.func32 #[.pointer (some ⟨gm,0,none⟩),.int .i64 p1,.int .i64 lx] ?_
   refine (poke_any HS15.out.mem (by rw [List.length_set];exact HLe.out) p1 lx).mono ?_
   rintro e W16 ⟨rfl,hm',hf'⟩
   refine ⟨_,rfl,?_⟩
   have HS16:=Lib.hid (HS15.out.acc hm' hf' HT.out)
   have HB16_g1:=Lib.hid (blk_fr HB15_g1.out hf' (by simp) (by decide))
   replace C_g1:=cells8 HB16_g1.out
   clear hm' hf'
   refine hK.out _ _ ?_
   clear hK K
   try simp only [Act.put,zq1,zq2,zq3]
   refine ch_z ?_
   clear hHeld
   go_wp2_with (first|(go_at_call 35;(with_reducible refine (counter_a HC.out (HP.out.fr HS16.out.fr) (HLi.out.fr HS16.out.fr) (v:=v) (by have:=HV.out;omega)).mono ?_);rintro e W17 ⟨rfl,hb'⟩;have HS17:=Lib.hid (HS16.out.below hb');have HB17_g1:=Lib.hid (blk_below HB16_g1.out hb');replace C_g1:=cells8 HB17_g1.out;rw [H2.out];clear hb')|(go_at_call 32;(with_reducible refine (poke_z HS17.out.mem (by rw [List.length_set];rw [List.length_set];exact HLe.out) (p2 + 3) 1 _ (by omega)).mono ?_);rintro e W18 ⟨rfl,hm',hf'⟩;have HS18:=Lib.hid (HS17.out.acc hm' hf' HT.out);have HB18_g1:=Lib.hid (blk_fr HB17_g1.out hf' (by simp) (by decide));replace C_g1:=cells8 HB18_g1.out;clear hm' hf'))
   clear C_g1
   go_roundw
   case rel=>exact ⟨v + 1,HV.out,by go_num,HB18_g1,_,Lib.hid (by rw [← H2.out,← H1.out,← H0.out,show c.na v (2 + c.S) + 3 = c.na v (5 + c.S) by unfold Cf.na;omega];exact (((HF.out.set HV.out (o:=0) (by have:c.K = 6 + 2 * c.S:=rfl;omega) lx (fun h=>by omega)).set HV.out (o:=1) (by have:c.K = 6 + 2 * c.S:=rfl;omega) lx (fun h=>by omega)).next HV.out)),HS18⟩
   case measure=>simp [intOf];have:=HV.out;omega
  ·have hve:v = c.N:=by omega
   subst hve
   clear hvl hv hNp
   have d1:decide ((c.N:Int) < (c.pa.length:Int)) = false:=decide_eq_false (by show ¬ ((c.pa.length:Int) < (c.pa.length:Int));omega)
   have d2:decide (c.N < c.pa.length) = false:=decide_eq_false (Nat.lt_irrefl _)
   have C_g1:=cells8 HBr.out
   go_wp2
   go_ret
   exact ⟨gm,ws,rfl,Nat.le_trans HSZ.out HGE.out,HSr.out.mem,HF.out.ok HC.out,HSr.out.fr.below (Nat.le_refl _)⟩
end Go.Proofs.Ytadblpcjkahikaa.PTraceRuns

