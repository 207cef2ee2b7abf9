
import Derived.Test.YtadblpcjkahikaaRunsEvent
namespace Go.Proofs.Ytadblpcjkahikaa.PTraceRuns
open Go.RowKit Go.Proofs.YtadblpcjkahikaaW.PrintWords Go.Proofs.YtadblpcjkahikaaW.PrintLast Go.Proofs.YtadblpcjkahikaaW.PrintMore
set_option linter.unusedVariables false
set_option linter.unusedSimpArgs false
set_option maxHeartbeats 2000000
set_option maxRecDepth 100000
theorem reads_n {α:Type} {d:Kd α} {e b n c:Nat} {ok:Nat→Prop} {w:World} {A:Option Addr} {xs:List α} (h:d.R e w b ok (.slice A n c) xs):d.C w A n xs:=by
 obtain ⟨h1,_,h3⟩:=Kd.R_reads' h
 rw [h1];exact h3
theorem ptr_own {W:World} {b:Nat} {ok:Nat→Prop} {v:Value} {xs:List (Option Nat)} (h:Kd.R kptr 62 W b ok v xs) {n:Nat} (hn:xs.length = n) (i:Nat) (hi:i < n):∃ g cp,v = .slice (some ⟨g,0,none⟩) n cp∧b ≤ g∧W.cell? ⟨g,i,none⟩ = some (.pointer (bp (xs.getD i none)))∧W.frozen? ⟨g,i,none⟩ = false:=by
 subst hn
 obtain ⟨A,cp,e⟩:=Kd.R_slice h
 subst e
 obtain ⟨g,cs,e,_⟩:=elem_at (B:=0) (L:=[]) h (by decide) none i hi
 subst e
 obtain ⟨hb,_⟩:=R_typed' h g rfl
 have hc:=Kd.R_cell none h (i:Int) (by omega) (by omega)
 rw [Int.toNat_natCast] at hc
 exact ⟨g,cp,rfl,hb,by rw [hc.1];unfold rdOf;rw [Int.toNat_natCast],hc.2⟩
theorem int_own {W:World} {b:Nat} {ok:Nat→Prop} {v:Value} {xs:List Int} (h:Kd.R (Kd.int .i64) 3 W b ok v xs) {n:Nat} (hn:xs.length = n) (i:Nat) (hi:i < n):∃ g cp,v = .slice (some ⟨g,0,none⟩) n cp∧b ≤ g∧W.cell? ⟨g,i,none⟩ = some (.int .i64 (xs.getD i 0))∧W.frozen? ⟨g,i,none⟩ = false:=by
 subst hn
 obtain ⟨A,cp,e⟩:=Kd.R_slice h
 subst e
 obtain ⟨g,cs,e,_⟩:=elem_at (B:=0) (L:=[]) h (by decide) 0 i hi
 subst e
 obtain ⟨hb,_⟩:=R_typed' h g rfl
 have hc:=Kd.R_cell 0 h (i:Int) (by omega) (by omega)
 rw [Int.toNat_natCast] at hc
 exact ⟨g,cp,rfl,hb,by rw [hc.1];unfold rdOf;rw [Int.toNat_natCast],hc.2⟩
theorem now16 {w:World} {A:Option Addr} {n cp:Nat} {ps:List (Option Nat)} (hr:Ptrs w (.slice A n cp) ps) {i:Nat} (hi:i < n) (hn:n ≤ 1000) (x:Option Nat) :
  Calls Try.prog 26 #[.slice A n cp,.int .i64 i,.pointer (bp x)] w fun e w'=>∃ A' c',e = .returned (.slice A' n c')∧Ptrs w' (.slice A' n c') (ps.set i x)∧Below w.heap.size w w':=by
 have HP:=Lib.hid hr
 have HI:=Lib.hid hi
 have HL:Hid (ps.length = n∧n ≤ 1000):=Lib.hid ⟨(Kd.R_reads' hr).1.symm,hn⟩
 have i0:(0:Int) ≤ (i:Int):=by omega
 have i1:(i:Int) < (n:Int):=by omega
 have HS0:Hid (Mk w w):=Lib.hid (Mk.refl w)
 clear hr hi hn
 go_enter Try.func26,Try.ntmps26
 go_wp2_with (first|((with_reducible refine gate_dst (N:=8) rfl ?_);refine Kd.R_lit kptr _ 62 ?hg (N:=8) ?hd (xs:=[]) (inner:=[]) (ok:=fun _=>True) (okp:=fun _=>True) ?hr ?hp (fun _ hk=>hk) trivial (Below.refl _ _) (Nat.le_refl _) (by simp) ?_;(case hd=>rfl);(case hg=>rfl);(case hr=>first|(go_simp;done)|(go_simp;rfl));(case hp=>exact (Reps.none _ _));intro vA W1 ho hb' hg_ hnew_;have HRA:=Lib.hid ho;have HBA':=Lib.hid hb';clear ho hg_ hnew_;have HS1:=Lib.hid (HS0.out.below hb');clear hb')|((with_reducible refine gate_builtin (b:=.append) (xs:=#[.tmp 8,.tmp 9]) rfl ?_);at_builtin;refine Kd.R_append_rows kptr (w0:=w) w.heap.size rfl (.tmp 8) (.tmp 9) 36 62 (.pointer none) 8 rfl Try.underlying36 info62 rfl (by decide) (by omega) vA [] ps _ _ _ (fun _=>True) (fun _=>False) rfl rfl HRA.out (reads_n (HP.out.fr (Fr.of_below (HS0.out.below HBA'.out).b 0 true []))) (fun _ _ h=>h) (fun _ h=>h.elim) (fun _ _=>trivial) HBA'.out (below_size HBA'.out) (by have:=HL.out;simp only [List.length_nil,List.nil_append];omega) ?_;intro vB W2 ho hb' hg_ hat_;have HRB:=Lib.hid ho;clear ho hg_ hat_ HRA HBA';have HS2:=Lib.hid (HS0.out.below hb');obtain ⟨gB,cB,eB,hgB,x0,x1⟩:=ptr_own HRB.out (n:=n) (by rw [List.nil_append];exact HL.out.1) i HI.out;subst eB;have HGB:=Lib.hid hgB;clear hgB;clear hb'))
 go_ret
 have h:=Kd.R_putn HRB.out (i:Int) x
 rw [Int.toNat_natCast] at h
 exact ⟨_,_,rfl,row_free h,below_set HS2.out.b (Nat.le_trans HS0.out.size HGB.out)⟩
def KeepT (t:Nat) (w w1:World):Prop:=∀ (k:Nat) (cs:Array Value) (t':Nat) (fr:Nat × Nat),w.heap[k]? = some (.cells cs t' fr)→t' ≠ t→w1.heap[k]? = some (.cells cs t' fr)
theorem KeepT.grown {w w1:World} {row:Option Nat} {t:Nat} (hg:w.grownBy w1 row) (hr:∀ k,row = some k→∃ cs fr,w.heap[k]? = some (.cells cs t fr)):KeepT t w w1:=fun k cs t' fr hk ht=>by
 refine (hg.block k (blk_lt hk) (fun e=>?_)).trans hk
 obtain ⟨cs2,fr2,h2⟩:=hr k e.symm
 rw [hk] at h2;injection h2 with h2;injection h2 with _ h2;exact ht h2
theorem KeepT.below {t:Nat} {w w1:World} (h:Below w.heap.size w w1):KeepT t w w1:=fun k cs t' fr hk _=>(h.block k (blk_lt hk)).trans hk
theorem KeepT.setCell {w:World} {g t:Nat} {cs:Array Value} {fr:Nat × Nat} (hb:w.heap[g]? = some (.cells cs t fr)) (i:Nat) (u:Value):KeepT t w (w.setCell ⟨g,i,none⟩ u):=fun k cs' t' fr' hk ht=>by
 rw [Below.heap_setCell w ⟨g,i,none⟩ u k (fun e=>by
  have e:k = g:=e
  subst e;rw [hk] at hb;injection hb with hb;injection hb with _ hb;exact ht hb)]
 exact hk
theorem row_keep {α:Type} {d:Kd α} {e b t:Nat} {ok:Nat→Prop} {w w1:World} {v:Value} {xs:List α} (hr:d.R e w b ok v xs) (h:KeepT t w w1) (hE:∀ q ∈ e :: d.E,q ≠ t):d.R e w1 b ok v xs:=by
 refine Kd.R_mono (Kd.R_move (Kd.R_bound hr) (fun k hk=>?_)) (fun k hk=>hk.1)
 obtain ⟨_,_,_,q,hq,cells,hc⟩:=hk
 rw [hc]
 exact h k _ _ _ hc (hE q hq)
structure N16 (c:Cf) (w W:World) (gm:Nat) (ws:List Int) (AP:Option Addr) (cP:Nat) (AL:Option Addr) (cL:Nat):Prop where
 nk:Mk w W
 mem:MemIs w.heap.size W gm ws 0
 P:Ints W (.slice AP c.pa.length cP) c.pa
 L:Ints W (.slice AL c.li.length cL) c.li
namespace N16
variable {c:Cf} {w W W':World} {gm:Nat} {ws:List Int} {AP AL:Option Addr} {cP cL:Nat}
theorem keep {t:Nat} (h:N16 c w W gm ws AP cP AL cL) (hk:KeepT t W W') (hm:Mk w W') (ht:t ∉ [3,77,118]):N16 c w W' gm ws AP cP AL cL:=by
 have h3:∀ q ∈ (3 :: (Kd.int .i64).E),q ≠ t:=fun q hq e=>by subst e;exact ht (by rw [List.mem_singleton.1 hq];decide)
 exact ⟨hm,h.mem.of fun k cs t' fr h1 h2=>hk k cs t' fr h1 (fun e=>ht (e ▸ h2)),row_keep h.P hk h3,row_keep h.L hk h3⟩
theorem below (h:N16 c w W gm ws AP cP AL cL) (hb:Below W.heap.size W W'):N16 c w W' gm ws AP cP AL cL:=h.keep (t:=39) (KeepT.below hb) (h.nk.below hb) (by decide)
theorem drew (h:N16 c w W gm ws AP cP AL cL):N16 c w W.drew gm ws AP cP AL cL:=h.keep (t:=39) (fun _ _ _ _ h _=>h) h.nk.drew (by decide)
theorem set (h:N16 c w W gm ws AP cP AL cL) {g:Nat} (hg:w.heap.size ≤ g) {cs:Array Value} (hb:W.heap[g]? = some (.cells cs 39 (0,0))) (i:Nat) (u:Value):N16 c w (W.setCell ⟨g,i,none⟩ u) gm ws AP cP AL cL:=h.keep (KeepT.setCell hb i u) (below_set h.nk hg) (by decide)
end N16
theorem only43 {w:World} {b:Nat} {ok:Nat→Prop} {v:Value} {xs:List S43} (h:Kd.R k43 43 w b ok v xs):Kd.R k43 43 w b (fun k=>v.ownBlock = some k) v xs:=⟨fun _ h=>h,h.2⟩
theorem slice_of {α:Type} {d:Kd α} {e b n:Nat} {ok:Nat→Prop} {w:World} {v:Value} {xs:List α} (h:d.R e w b ok v xs) (hn:xs.length = n):∃ A c,v = .slice A n c:=by subst hn;exact Kd.R_slice h
theorem row_types {w:World} {b b':Nat} {ok ok':Nat→Prop} {α β:Type} {d:Kd α} {d':Kd β} {e e':Nat} {v v':Value} {xs:List α} {ys:List β} (h:d.R e w b ok v xs) (h':d'.R e' w b' ok' v' ys) (hne:e ≠ e') (k:Nat) (hk:v.ownBlock = some k):some k ≠ v'.ownBlock:=fun e1=>by
 obtain ⟨_,cs,hc⟩:=R_typed' h k hk
 obtain ⟨_,cs',hc'⟩:=R_typed' h' k e1.symm
 rw [hc] at hc';injection hc' with h1;injection h1 with _ h1;exact hne h1
theorem take_succ_getD (xs:List (List S43)) (k:Nat) (hk:k < xs.length):xs.take k ++ [xs.getD k []] = xs.take (k + 1):=by
 rw [List.take_succ_eq_append_getElem hk,List.getD_eq_getElem?_getD,List.getElem?_eq_getElem hk];rfl
def SB (c:Cf) (w:World) (g gm:Nat) (calls:List (List S43)) (bg:List Int) (now:List (Option Nat)) (ev:List S48):Prop :=
 ∃ AP cP AL cL AC cC AB cB AN cN AE cE,w.heap[g]? = some (.cells (k16 c AP cP AL cL (some ⟨gm,0,none⟩) AC calls.length cC AB calls.length cB AN calls.length cN AE ev.length cE) 39 (0,0))∧Ints w (.slice AP c.pa.length cP) c.pa∧Ints w (.slice AL c.li.length cL) c.li∧Rows43 w (.slice AC calls.length cC) calls∧Ints w (.slice AB calls.length cB) bg∧Ptrs w (.slice AN calls.length cN) now∧Evs w (.slice AE ev.length cE) ev
theorem new16 {c:Cf} (hc:c.Ok) {w:World} {AP AL AQ:Option Addr} {cP cL cQ:Nat} (hP:Rd w (.slice AP c.pa.length cP) c.pa) (hL:Rd w (.slice AL c.li.length cL) c.li) {calls:List (List S43)} (hQ:Kd.C (Kd.slice 43 k43) w AQ calls.length calls) (hT:calls.length ≤ 8) (hT8:∀ i,i < calls.length→(calls.getD i []).length ≤ 8) :
  Calls Try.prog 17 #[(cA c AP cP AL cL),.slice AQ calls.length cQ] w fun e w'=>∃ g gm ws,e = .returned (.pointer (some ⟨g,0,none⟩))∧w.heap.size ≤ g∧SB c w' g gm calls (List.replicate calls.length 0) (List.replicate calls.length none) []∧MemIs w.heap.size w' gm ws 0∧WOk c ws∧Below w.heap.size w w':=by
 have HC:=Lib.hid hc
 have HP:=Lib.hid hP
 have HLi:=Lib.hid hL
 obtain ⟨T,hTe⟩:∃ T,calls.length = T:=⟨_,rfl⟩
 have HTL:=Lib.hid hTe
 rw [hTe] at hQ hT ⊢
 have HQ:=Lib.hid hQ
 have HTT:=Lib.hid hT
 have HT8:=Lib.hid hT8
 have hT0:(0:Int) ≤ (T:Int):=by omega
 have HS0:Hid (Mk w w):=Lib.hid (Mk.refl w)
 clear hc hP hL hQ hT hTe hT8
 go_enter Try.func17,Try.ntmps17
 go_wp2_with (first|((with_reducible refine gate_dst (N:=2) rfl ?_);refine box_event ?hg (N:=2) ?hd (cs:=#[.int .i64 c.th,.int .i64 c.S,.int .i64 c.ga,.int .i64 c.le,.int .i64 c.re,.int .i64 c.ti,.slice AP c.pa.length cP,.slice AL c.li.length cL]) (t:=24) ?hr ?_;(case hd=>rfl);(case hg=>rfl);(case hr=>first|(go_simp;done)|(go_simp;rfl));intro g1 hg W1 hbox hb';have HG_g1:Hid (w.heap.size ≤ g1):=Lib.hid (by rw [hg];exact HS0.out.size);have HS1:=Lib.hid ((HS0.out.below hb'));have HB1_g1:Hid (W1.heap[g1]? = some (.cells (#[.int .i64 c.th,.int .i64 c.S,.int .i64 c.ga,.int .i64 c.le,.int .i64 c.re,.int .i64 c.ti,.slice AP c.pa.length cP,.slice AL c.li.length cL]:Array Value) 24 (0,0))):=Lib.hid (hbox);have C_g1:=cells8 HB1_g1.out;clear hb' hbox hg))
 refine ch_d C_g1 C_g1 [5] [0,2,1,3,4,5,6] (fun W2 HWd hHeld=>?_)
 have HS2:Hid (Mk w W2):=Lib.hid (by rw [← HWd.out];exact HS1.out.drew)
 have HB2_g1:=dwH HWd HB1_g1
 replace C_g1:=cells8 HB2_g1.out
 clear HWd
 iterate 2 refine ch_s ?_
 refine ch_1 fun K hK=>?_
 refine goes_s Try.func22 #[(cA c AP cP AL cL)] ?_
 refine (own_a HC.out (HP.out.below HS2.out.b) (HLi.out.below HS2.out.b)).mono ?_
 rintro e W3 ⟨AP2,AL2,cP2,cL2,rfl,hp2,hl2,hb'⟩
 refine ⟨_,rfl,?_⟩
 have HS3:=Lib.hid (HS2.out.below hb')
 have HB3_g1:=Lib.hid (blk_below HB2_g1.out hb')
 replace C_g1:=cells8 HB3_g1.out
 have HP2:=Lib.hid hp2
 have HL2:=Lib.hid hl2
 clear hp2 hl2
 clear hb'
 refine hK.out _ _ C_g1 ?_;clear hK K hHeld;intro hHeld
 try simp only [Act.put,zq1,zq2,zq3]
 refine ch_1 fun K hK=>?_
 refine goes_s Try.func23 #[(cA c AP cP AL cL)] ?_
 refine (fresh_c HC.out (HP.out.below HS3.out.b) (HLi.out.below HS3.out.b)).mono ?_
 rintro e W4 ⟨gm,ws,rfl,hge,hmem,hwok,hb'⟩
 refine ⟨_,rfl,?_⟩
 have HR4_P:Hid (Ints W4 (.slice AP2 c.pa.length cP2) (c.pa)):=Lib.hid ((HP2.out).below hb')
 have HR4_L:Hid (Ints W4 (.slice AL2 c.li.length cL2) (c.li)):=Lib.hid ((HL2.out).below hb')
 have HS4:=Lib.hid (HS3.out.below hb')
 have HB4_g1:=Lib.hid (blk_below HB3_g1.out hb')
 replace C_g1:=cells8 HB4_g1.out
 have HMEM:=Lib.hid (hmem.base HS3.out.size)
 have HWOK:=Lib.hid hwok
 clear hge hmem hwok
 clear hb'
 refine hK.out _ _ C_g1 ?_;clear hK K hHeld;intro hHeld
 try simp only [Act.put,zq1,zq2,zq3]
 refine ch_s ?_
 refine ch_last rfl rfl (by kernel_rfl) (by decide) (fun K hK=>?_)
 refine box_r (cs:=#[.int .i64 c.th,.int .i64 c.S,.int .i64 c.ga,.int .i64 c.le,.int .i64 c.re,.int .i64 c.ti,.slice AP2 c.pa.length cP2,.slice AL2 c.li.length cL2,.pointer (some ⟨gm,0,none⟩),.slice none 0 0,.slice none 0 0,.slice none 0 0,.slice none 0 0]) (t:=39) (by rfl) rfl (by first|(go_simp;done)|(go_simp;rfl)) ?_
 intro g hg W5 hbox hb'
 have HG_g:Hid (w.heap.size ≤ g):=Lib.hid (by rw [hg];exact HS4.out.size)
 have HMEM2:=Lib.hid (HMEM.out.below hb')
 clear C_g1
 have HR5_P:Hid (Ints W5 (.slice AP2 c.pa.length cP2) (c.pa)):=Lib.hid ((HR4_P.out).below hb')
 have HR5_L:Hid (Ints W5 (.slice AL2 c.li.length cL2) (c.li)):=Lib.hid ((HR4_L.out).below hb')
 have HS5:=Lib.hid (HS4.out.below hb')
 have HB5_g1:=Lib.hid (blk_below HB4_g1.out hb')
 have HB5_g:Hid (W5.heap[g]? = some (.cells (k16 c AP2 cP2 AL2 cL2 ((some ⟨gm,0,none⟩)) none 0 0 none 0 0 none 0 0 none 0 0) 39 (0,0))):=Lib.hid (hbox)
 have C_g1:=cells8 HB5_g1.out
 have C_g:=cells_k16 HB5_g.out
 clear hb' hbox hg
 refine hK.out _ _ ?_
 clear hK K
 try simp only [Act.put,zq1,zq2,zq3]
 refine ch_s ?_
 refine ch_z ?_
 clear hHeld
 go_wp2
 clear C_g C_g1
 have HNs:=Lib.hid (⟨HS5.out,HMEM2.out,HR5_P.out,HR5_L.out⟩:N16 c w W5 gm ws AP2 cP2 AL2 cL2)
 go_loopw [6] (fun v6 wr=>∃ k:Nat,k ≤ T∧v6 = .int .i64 k∧∃ AC cC,Hid (wr.heap[g]? = some (.cells (k16 c AP2 cP2 AL2 cL2 (some ⟨gm,0,none⟩) AC k cC none 0 0 none 0 0 none 0 0) 39 (0,0)))∧Hid (Kd.R (Kd.slice 43 k43) 53 wr w.heap.size (fun _=>True) (.slice AC k cC) (calls.take k))∧Hid (N16 c w wr gm ws AP2 cP2 AL2 cL2)) (fun v6 _=>T - (intOf v6).toNat)
 case atStart=>exact ⟨0,Nat.zero_le _,rfl,none,0,HB5_g,Lib.hid (by rw [List.take_zero];exact Kd.R_nil _ _ _ _ _),HNs⟩
 case round =>
  obtain ⟨k,hk,rfl,AC,cC,HBr,HRr,HNr⟩:=hrel
  by_cases hkl:k < T
  ·have i0:(0:Int) ≤ (k:Int):=by omega
   have i1:(k:Int) < (T:Int):=by omega
   have hk8:k ≤ 12:=by have:=HTT.out;omega
   obtain ⟨q5,q4⟩:=wrap_small hk8
   have HKN:Hid (k < T∧k < 8∧k < calls.length):=Lib.hid ⟨hkl,by have:=HTT.out;omega,by have:=HTL.out;omega⟩
   replace HKN:Hid (k < calls.length∧k < 8∧k < T):=Lib.hid ⟨HKN.out.2.2,HKN.out.2.1,HKN.out.1⟩
   obtain ⟨p,hp⟩:∃ p,calls.getD k [] = p:=⟨_,rfl⟩
   obtain ⟨ad,cs,rfl,_,hKs,hcell⟩:=Kd.C_get HQ.out [] (k:Int) i0 i1
   rw [Int.toNat_natCast,hp] at hKs
   obtain ⟨AI,cI,rfl,hle,hCI⟩:=hKs
   obtain ⟨lI,hlI⟩:∃ l,p.length = l:=⟨_,rfl⟩
   have HLI:Hid (lI ≤ 8):=Lib.hid (by rw [← hlI,← hp];exact HT8.out k HKN.out.1)
   have HCI:Hid (Kd.C k43 w AI lI p):=Lib.hid (by rw [← hlI];exact hCI)
   have hc0:=hcell 0 _ rfl
   rw [Int.toNat_natCast,hlI,show k * (Kd.slice 43 k43).sz + 0 = k by show k * 1 + 0 = k;omega] at hc0
   have HQA:Hid (∀ W,Below w.heap.size w W→W.cell? (ad.add k) = some (.slice AI lI cI)):=Lib.hid (fun W hW=>(hW.cell (World.block_lt_of_cell? w _ hc0)).trans hc0)
   have HPP:=Lib.hid hp
   have HLP:Hid (([] ++ p).length = lI):=Lib.hid hlI
   clear hcell hc0 hle hCI hp hlI hk hkl hk8
   have C_g:=cells_k16 HBr.out
   go_wp2
   refine ch_st (fun wS=>wS.cell? ⟨g,9,none⟩ = some (.slice AC k cC)∧wS.cell? (ad.add k) = some (.slice AI lI cI)) [15] [0,1,2,3,4,6,7,8,9,5,10,11,12,13,14,15] (by kernel_rfl) rfl (⟨C_g.2.2.2.2.2.2.2.2.2.2.1,(HQA.out wr HNr.out.nk)⟩) (fun W21 HWd hHeld=>?_)
   have HS21:Hid (N16 c w W21 gm ws AP2 cP2 AL2 cL2):=Lib.hid (by rw [← HWd.out];exact HNr.out.drew)
   have HB21_g:Hid (W21.heap[g]? = some (.cells (k16 c AP2 cP2 AL2 cL2 ((some ⟨gm,0,none⟩)) AC k cC none 0 0 none 0 0 none 0 0) 39 (0,0))):=Lib.hid (by rw [← HWd.out];exact HBr.out)
   replace C_g:=cells_k16 HB21_g.out
   have HR0:=Lib.hid (row_keep (t:=39) HRr.out (w1:=W21) (fun _ _ _ _ h _=>by rw [← HWd.out];exact h) (by decide))
   clear HWd HRr
   iterate 9 refine ch_s ?_
   have HBL:Hid (Below W21.heap.size W21 W21):=Lib.hid (Below.refl _ _)
   refine ch_1 fun K hK=>?_
   refine Kd.R_lit_step k43 (w0:=W21) W21.heap.size 43 (by rfl) (N:=24) ?hd (xs:=[]) (inner:=[]) (ok:=fun _=>True) (okp:=fun _=>True) ?hr (Reps.none _ _) (fun _ h=>h) trivial HBL.out HBL.out.size (by simp) ?_
   case hd=>rfl
   case hr=>first|(go_simp;done)|(go_simp;rfl)
   intro vA W22 ho hb' hg_ hnew_
   have HRA:=Lib.hid ho
   clear ho hg_ hnew_
   have HBL':=Lib.hid hb'
   clear HBL
   have HBL:=HBL'
   clear HBL' hb'
   have HS22:=Lib.hid (HS21.out.below HBL.out)
   have HB22_g:=Lib.hid (blk_below HB21_g.out HBL.out)
   replace C_g:=cells_k16 HB22_g.out
   refine hK.out _ _ (⟨C_g.2.2.2.2.2.2.2.2.2.2.1,(HQA.out W22 HS22.out.nk)⟩) ?_;clear hK K hHeld;intro hHeld
   try simp only [Act.put,zq1,zq2,zq3]
   refine ch_1 fun K hK=>?_
   refine Kd.R_append_rows_step k43 (w0:=W21) W21.heap.size (by rfl) (.tmp 24) (.tmp 28) 53 43 (.agg #[.int .i64 0,.int .i64 0,.int .i64 0]) 24 rfl Try.underlying53 info43 rfl (by decide) (by omega) vA [] p AI lI cI (fun _=>True) (fun _=>False) rfl rfl HRA.out (Kd.C_below HCI.out HS22.out.nk) (fun _ _ h=>h) (fun _ h=>h.elim) (fun _ _=>trivial) HBL.out HBL.out.size (by have:=HLI.out;simp only [List.length_nil,Nat.zero_add];omega) ?_
   intro vB W23 ho hb' hg_ hat_
   obtain ⟨AX,cX,eX⟩:=slice_of ho (n:=lI) HLP.out
   subst eX
   have HRB:=Lib.hid (Kd.R_lower ho HS21.out.nk.size)
   clear HRA ho hg_ hat_
   have HBL':=Lib.hid hb'
   clear HBL
   have HBL:=HBL'
   clear HBL' hb'
   have HS23:=Lib.hid (HS21.out.below HBL.out)
   have HB23_g:=Lib.hid (blk_below HB21_g.out HBL.out)
   replace C_g:=cells_k16 HB23_g.out
   refine hK.out _ _ (⟨C_g.2.2.2.2.2.2.2.2.2.2.1,(HQA.out W23 HS23.out.nk)⟩) ?_;clear hK K hHeld;intro hHeld
   try simp only [Act.put,zq1,zq2,zq3]
   refine ch_1 fun K hK=>?_
   refine value_ (by rfl) rfl (by go_simp;first|rfl|exact ⟨rfl,rfl⟩) ?_
   refine hK.out _ _ ⟨(cells_k16 (blk_below HB23_g.out (below_alloc (Below.refl _ _) _))).2.2.2.2.2.2.2.2.2.2.1,(HQA.out _ (HS23.out.nk.below (below_alloc (Below.refl _ _) _)))⟩ ?_;clear hK K hHeld;intro hHeld
   try simp only [Act.put,zq1,zq2,zq3]
   refine ch_1 fun K hK=>?_
   have HRO:=Lib.hid (Kd.R_below HR0.out HBL.out)
   clear HR0
   refine Kd.R_append_step (Kd.slice 43 k43) (w0:=w) w.heap.size (by rfl) (.tmp 23) (.tmp 30) 25 53 (.slice none 0 0) 24 rfl Try.underlying25 info53 rfl (by decide) (by omega) (.slice AC k cC) (calls.take k) p [.slice AX lI cX] (fun _=>True) (fun k'=>(Value.slice AX lI cX).ownBlock = some k') rfl rfl ⟨.slice AX lI cX,rfl,only43 HRB.out⟩ (fun k' hk'=>⟨trivial,row_types HRB.out HRO.out (by decide) k' hk'⟩) (fun _ _=>trivial) HRO.out HS23.out.nk HS23.out.nk.size (by have:=HKN.out;rw [List.length_take];omega) ?_
   intro vD W24 ho hmk hg_ hat_
   have hkt:KeepT 53 W23 W24:=KeepT.grown hg_ (fun k' hk'=>by obtain ⟨_,cs2,h2⟩:=R_typed' HRO.out k' hk';exact ⟨cs2,_,h2⟩)
   obtain ⟨AD,cD,eD⟩:=slice_of ho (n:=k + 1) (by have:=HKN.out;rw [List.length_append,List.length_take,List.length_singleton];omega)
   subst eD
   have HRD:=Lib.hid ho
   clear ho hg_ hat_ HRO HRB
   have HS24:=Lib.hid (HS23.out.keep hkt hmk (by decide))
   have HB24_g:Hid (W24.heap[g]? = some (.cells (k16 c AP2 cP2 AL2 cL2 ((some ⟨gm,0,none⟩)) AC k cC none 0 0 none 0 0 none 0 0) 39 (0,0))):=Lib.hid (hkt _ _ _ _ HB23_g.out (by decide))
   replace C_g:=cells_k16 HB24_g.out
   clear hkt hmk HBL
   refine hK.out _ _ (⟨C_g.2.2.2.2.2.2.2.2.2.2.1,(HQA.out W24 HS24.out.nk)⟩) ?_;clear hK K hHeld;intro hHeld
   try simp only [Act.put,zq1,zq2,zq3]
   iterate 2 refine ch_s ?_
   refine ch_last rfl rfl (by kernel_rfl) (by decide) (fun K hK=>?_)
   refine skip_ (by rfl) rfl (by go_simp;first|rfl|exact ⟨rfl,rfl⟩) ?_
   refine hK.out _ _ ?_
   clear hK K
   try simp only [Act.put,zq1,zq2,zq3]
   refine ch_z ?_
   clear hHeld C_g
   go_wp2
   go_roundw
   case rel=>exact ⟨k + 1,HKN.out.2.2,by go_num,AD,cD,Lib.hid (blk_set' HB24_g.out 9 (.slice AD (k + 1) cD) rfl),Lib.hid (by rw [← take_succ_getD _ _ HKN.out.1,HPP.out];exact row_keep (t:=39) HRD.out (KeepT.setCell HB24_g.out _ _) (by decide)),Lib.hid (HS24.out.set HG_g.out HB24_g.out 9 (.slice AD (k + 1) cD))⟩
   case measure=>simp [intOf];have:=HKN.out;omega
  ·have hke:T = k:=by omega
   subst hke
   clear hkl hk
   have C_g:=cells_k16 HBr.out
   go_wp2_with (first|((with_reducible refine gate_dst (N:=37) rfl ?_);refine Kd.R_make (Kd.int .i64) (w0:=w) w.heap.size 3 ?hg (N:=37) ?hd 22 (.tmp 36) (.tmp 36) ?ho (T:Int) rfl rfl Try.underlying22 (.int .i64 0) 8 info3 rfl (by decide) (by decide) 0 (ok:=fun _=>True) (okp:=fun _=>True) ?hz (fun _ h=>h) trivial hT0 ?hl HNr.out.nk HNr.out.nk.size ?_;(case hd=>rfl);(case hg=>rfl);(case ho=>rfl);(case hz=>rfl);(case hl=>have:=HTT.out;omega);intro vB W41 hr1 hb1 hg1 _;rw [Int.toNat_natCast] at hr1;obtain ⟨AB,cB,e4⟩:=slice_of hr1 (n:=T) List.length_replicate;subst e4;have HRB:=Lib.hid hr1;have hkt:KeepT 78 wr W41:=KeepT.grown hg1 (fun _ h=>by cases h);clear hr1 hg1;have HS41:=Lib.hid (HNr.out.keep hkt hb1 (by decide));have HB41_g:Hid (W41.heap[g]? = some (.cells (k16 c AP2 cP2 AL2 cL2 ((some ⟨gm,0,none⟩)) AC T cC none 0 0 none 0 0 none 0 0) 39 (0,0))):=Lib.hid (hkt _ _ _ _ HBr.out (by decide));replace C_g:=cells_k16 HB41_g.out;have HKC1:=Lib.hid (row_keep HRr.out hkt (by decide));clear hkt hb1)|((with_reducible refine gate_dst (N:=43) rfl ?_);refine Kd.R_make kptr (w0:=w) w.heap.size 62 ?hg (N:=43) ?hd 36 (.tmp 42) (.tmp 42) ?ho (T:Int) rfl rfl Try.underlying36 (.pointer none) 8 info62 rfl (by decide) (by decide) none (ok:=fun _=>True) (okp:=fun _=>True) ?hz (fun _ h=>h) trivial hT0 ?hl (HS41.out.set HG_g.out HB41_g.out 10 (.slice AB T cB)).nk (HS41.out.set HG_g.out HB41_g.out 10 (.slice AB T cB)).nk.size ?_;(case hd=>rfl);(case hg=>rfl);(case ho=>rfl);(case hz=>rfl);(case hl=>have:=HTT.out;omega);intro vN W42 hr1 hb1 hg1 _;rw [Int.toNat_natCast] at hr1;obtain ⟨AN,cN,e4⟩:=slice_of hr1 (n:=T) List.length_replicate;subst e4;have HRN:=Lib.hid hr1;have hkt:KeepT 78 (World.setCell W41 ⟨g,10,none⟩ (.slice AB T cB)) W42:=KeepT.grown hg1 (fun _ h=>by cases h);clear hr1 hg1;have HS42:=Lib.hid ((HS41.out.set HG_g.out HB41_g.out 10 (.slice AB T cB)).keep hkt hb1 (by decide));have HB42_g:Hid (W42.heap[g]? = some (.cells (k16 c AP2 cP2 AL2 cL2 ((some ⟨gm,0,none⟩)) AC T cC AB T cB none 0 0 none 0 0) 39 (0,0))):=Lib.hid (hkt _ _ _ _ (blk_set' HB41_g.out 10 (.slice AB T cB) rfl) (by decide));replace C_g:=cells_k16 HB42_g.out;have HKC2:=Lib.hid (row_keep (row_keep (t:=39) HKC1.out (KeepT.setCell HB41_g.out 10 (.slice AB T cB)) (by decide)) hkt (by decide));have HKB2:=Lib.hid (row_keep (row_keep (t:=39) HRB.out (KeepT.setCell HB41_g.out 10 (.slice AB T cB)) (by decide)) hkt (by decide));clear hkt hb1))
   go_ret
   exact ⟨g,gm,ws,rfl,HG_g.out,⟨AP2,cP2,AL2,cL2,AC,cC,AB,cB,AN,cN,none,0,by rw [HTL.out];exact (blk_set' HB42_g.out 11 (.slice AN T cN) rfl),(HS42.out.set HG_g.out HB42_g.out 11 (.slice AN T cN)).P,(HS42.out.set HG_g.out HB42_g.out 11 (.slice AN T cN)).L,by rw [HTL.out];exact row_free (by rw [← List.take_of_length_le (Nat.le_of_eq HTL.out)];exact (row_keep (t:=39) HKC2.out (KeepT.setCell HB42_g.out 11 (.slice AN T cN)) (by decide))),by rw [HTL.out];exact row_free (row_keep (t:=39) HKB2.out (KeepT.setCell HB42_g.out 11 (.slice AN T cN)) (by decide)),by rw [HTL.out];exact row_free (row_keep (t:=39) HRN.out (KeepT.setCell HB42_g.out 11 (.slice AN T cN)) (by decide)),Kd.R_nil _ _ _ _ _⟩,(HS42.out.set HG_g.out HB42_g.out 11 (.slice AN T cN)).mem,HWOK.out,(HS42.out.set HG_g.out HB42_g.out 11 (.slice AN T cN)).nk⟩
end Go.Proofs.Ytadblpcjkahikaa.PTraceRuns

