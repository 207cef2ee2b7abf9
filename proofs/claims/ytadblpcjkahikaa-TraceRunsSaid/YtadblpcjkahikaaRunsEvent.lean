
import Derived.Test.YtadblpcjkahikaaRunsFresh
namespace Go.Proofs.Ytadblpcjkahikaa.PTraceRuns
open Go.RowKit Go.Proofs.YtadblpcjkahikaaW.PrintWords Go.Proofs.YtadblpcjkahikaaW.PrintLast Go.Proofs.YtadblpcjkahikaaW.PrintMore
set_option linter.unusedVariables false
set_option linter.unusedSimpArgs false
set_option maxHeartbeats 2000000
set_option maxRecDepth 100000
def k16 (c:Cf) (AP:Option Addr) (cP:Nat) (AL:Option Addr) (cL:Nat) (pm:Option Addr) (AC:Option Addr) (tC cC:Nat) (AB:Option Addr) (tB cB:Nat) (AN:Option Addr) (tN cN:Nat) (AE:Option Addr) (m cE:Nat):Array Value:=#[.int .i64 c.th,.int .i64 c.S,.int .i64 c.ga,.int .i64 c.le,.int .i64 c.re,.int .i64 c.ti,.slice AP c.pa.length cP,.slice AL c.li.length cL,.pointer pm,.slice AC tC cC,.slice AB tB cB,.slice AN tN cN,.slice AE m cE]
theorem cells_k16 {c:Cf} {AP:Option Addr} {cP:Nat} {AL:Option Addr} {cL:Nat} {pm:Option Addr} {AC:Option Addr} {tC cC:Nat} {AB:Option Addr} {tB cB:Nat} {AN:Option Addr} {tN cN:Nat} {AE:Option Addr} {m cE:Nat} {w:World} {g:Nat} (h:w.heap[g]? = some (.cells (k16 c AP cP AL cL pm AC tC cC AB tB cB AN tN cN AE m cE) 39 (0,0))):Sat (fun w=>(∀ i,w.frozen? ⟨g,i,none⟩ = false)∧w.cell? ⟨g,0,none⟩ = some (.int .i64 c.th)∧w.cell? ⟨g,1,none⟩ = some (.int .i64 c.S)∧w.cell? ⟨g,2,none⟩ = some (.int .i64 c.ga)∧w.cell? ⟨g,3,none⟩ = some (.int .i64 c.le)∧w.cell? ⟨g,4,none⟩ = some (.int .i64 c.re)∧w.cell? ⟨g,5,none⟩ = some (.int .i64 c.ti)∧w.cell? ⟨g,6,none⟩ = some (.slice AP c.pa.length cP)∧w.cell? ⟨g,7,none⟩ = some (.slice AL c.li.length cL)∧w.cell? ⟨g,8,none⟩ = some (.pointer pm)∧w.cell? ⟨g,9,none⟩ = some (.slice AC tC cC)∧w.cell? ⟨g,10,none⟩ = some (.slice AB tB cB)∧w.cell? ⟨g,11,none⟩ = some (.slice AN tN cN)∧w.cell? ⟨g,12,none⟩ = some (.slice AE m cE)) w:=by unfold k16 at h;exact cells13 h
theorem St.setNew {B:Nat} {L:List Nat} {T:List (Nat × Nat)} {w:World} {gm:Nat} {ws:List Int} {n:Nat} {W:World} (h:St B L T w gm ws n W) {g t:Nat} {cs:Array Value} (hg:w.heap.size ≤ g) (hb:W.heap[g]? = some (.cells cs t (0,0))) (ht:t ∉ [3,77,118]) (i:Nat) (u:Value):St B L T w gm ws n (W.setCell ⟨g,i,none⟩ u):=by
 refine ⟨h.mem.set hb ht u,fun p hp=>?_,?_⟩
 ·obtain ⟨cs',hc⟩:=h.ty p hp
  by_cases e:p.1 = g
  ·rw [e] at hc ⊢
   exact ⟨_,blk_set hc i u⟩
  ·exact ⟨cs',by rw [Below.heap_setCell W ⟨g,i,none⟩ u p.1 e];exact hc⟩
 ·have f:=h.fr
  exact ⟨f.os,f.tape,f.output,by simpa [World.setCell] using f.size,fun k o ho hc=>by rw [Below.heap_setCell W ⟨g,i,none⟩ u k (by have:=blk_lt ho;show k ≠ g;omega)];exact f.blk k o ho hc⟩
theorem mem_row {B gm n:Nat} {w:World} {ws:List Int} (h:MemIs B w gm ws n):∃ vW AX cX,w.heap[gm]? = some (.cells #[vW,.slice AX n cX] 77 (0,0)):=by
 obtain ⟨vW,vL,ls,h1,h2,h3,h4,h5⟩:=h
 obtain ⟨A,cp,e⟩:=Kd.R_slice h4
 subst e h5
 exact ⟨vW,A,cp,h1⟩
theorem slice_n {w:World} {b:Nat} {v:Value} {xs:List S48} {n:Nat} (h:Kd.R k48 48 w b (fun _=>True) v xs) (hn:xs.length = n):∃ A c,v = .slice A n c:=by subst hn;exact Kd.R_slice h
theorem only48 {w:World} {b:Nat} {v:Value} {xs:List S48} (h:Kd.R k48 48 w b (fun _=>True) v xs):Kd.R k48 48 w b (fun k=>v.ownBlock = some k) v xs:=⟨fun _ h=>h,h.2⟩
theorem lt48 {w:World} {b k:Nat} {v:Value} {xs:List S48} (h:Kd.R k48 48 w b (fun _=>True) v xs) (hk:v.ownBlock = some k):k < w.heap.size:=by
 obtain ⟨_,cs,hc⟩:=R_typed' h k hk
 exact blk_lt hc
theorem grow48 {w w1:World} {b:Nat} {v:Value} {xs:List S48} {row:Option Nat} (h:Kd.R k48 48 w b (fun _=>True) v xs) (hg:w.grownBy w1 row) (hne:∀ k,v.ownBlock = some k→some k ≠ row):Kd.R k48 48 w1 b (fun _=>True) v xs:=Kd.R_mono (Kd.R_grown (only48 h) hg hne) (fun _ _=>trivial)
section
variable {P:Program} {ops:List Oper} {Q:Exit→Act→World→Prop} {S:World→Prop} {ds:List Nat}
theorem ch_re {is:List Nat} (js:List Nat) {l:Array Bool} {a:Act} {w:World} (h:is.length = js.length) (H:Ch P ops Q S ds js l a w):Ch P ops Q S ds is l a w:=by unfold Ch at *;rw [h];exact H
end
theorem event16 {c:Cf} {B gm g n i j tB tN cP cL cC cB cN cE:Nat} {AP AL AC AB AN AE:Option Addr} {w:World} {ws:List Int} (hm:MemIs B w gm ws n) (hB:B ≤ g) {calls:List (List S43)} {bg:List Int} {ev:List S48} (hg:w.heap[g]? = some (.cells (k16 c AP cP AL cL (some ⟨gm,0,none⟩) AC calls.length cC AB tB cB AN tN cN AE ev.length cE) 39 (0,0))) (hC:Rows43 w (.slice AC calls.length cC) calls) (hA:Ints w (.slice AB tB cB) bg) (hE:Evs w (.slice AE ev.length cE) ev) (hi:i < calls.length) (hi2:i < tB) (hj:bg.getD i 0 = (j:Int) + 1) (hj2:j < (calls.getD i []).length) (hj3:(calls.getD i []).length ≤ 8) (hmx:ev.length ≤ 4000) (kd a0 a1 a3:Int) (a2:Bool) :
  Calls Try.prog 24 #[.pointer (some ⟨g,0,none⟩),.int .i64 i,.int .i64 kd,.agg #[.int .i64 a0,.int .i64 a1,.bool a2,.int .i64 a3]] w fun e w'=>e = .returned (.tuple #[])∧∃ AE' cE',w'.heap[g]? = some (.cells (k16 c AP cP AL cL (some ⟨gm,0,none⟩) AC calls.length cC AB tB cB AN tN cN AE' (ev.length + 1) cE') 39 (0,0))∧Evs w' (.slice AE' (ev.length + 1) cE') (ev ++ [⟨n,i,kd,rd_T43 (calls.getD i []) j,⟨a0,a1,a2,a3⟩⟩])∧MemIs B w' gm ws n∧Fr B true [g] w w':=by
 obtain ⟨L,T,HLL,HTe,HT,HSG_g,HS0⟩:=st1 hm hB hg (by decide) (by decide)
 obtain ⟨gC,AI,cI,rfl,hne1,hcI,HCA,hIA⟩:=call_at (B:=B) (L:=L) hC i hi
 obtain ⟨gI,rfl,hne2,HIA⟩:=hIA j hj2
 obtain ⟨gB,xf,rfl,hx,hne3,HBA0⟩:=ints_at (B:=B) (L:=L) hA (by omega)
 have HBA:Hid (∀ W,Fr B true L w W→W.cell? ⟨gB,i,none⟩ = some (.int .i64 ((j:Int) + 1))):=Lib.hid (fun W hW=>by rw [HBA0.out W hW i hi2,hx,hj])
 obtain ⟨x,hxx⟩:∃ x,rd_T43 (calls.getD i []) j = x:=⟨_,rfl⟩
 rw [hxx] at HIA ⊢
 obtain ⟨lI,hlI⟩:∃ l,(calls.getD i []).length = l:=⟨_,rfl⟩
 rw [hlI] at HCA hj2 hj3
 obtain ⟨tC,htC⟩:∃ t,calls.length = t:=⟨_,rfl⟩
 rw [htC] at hg hi ⊢
 obtain ⟨vW,AX,cX,hgm⟩:=mem_row hm
 have HB0_g:=Lib.hid hg
 have HB0_gm:=Lib.hid hgm
 have NE_g_gm:Hid (g ≠ gm):=Lib.hid (ne_type hg hgm (by decide))
 have NE_gm_g:Hid (gm ≠ g):=Lib.hid (Ne.symm NE_g_gm.out)
 have HE:=Lib.hid hE
 have HMX:=Lib.hid hmx
 have i0:(0:Int) ≤ (i:Int):=by omega
 have i1:(i:Int) < (tC:Int):=by omega
 have i2:(i:Int) < (tB:Int):=by omega
 have j0:(0:Int) ≤ (j:Int):=by omega
 have j1:(j:Int) < (lI:Int):=by omega
 have q0:(j:Int) + 1 - 1 = (j:Int):=by omega
 have q1:IntKind.i64.wrap (j:Int) = (j:Int):=IntWalk.i64_in _ (by omega)
 have i3:i < tC:=hi
 have j2:j < lI:=hj2
 clear hne1 hne2 hne3 hIA HBA0 hC hA hE hj hx hxx hlI htC hm hg hgm hmx hcI hi hi2 hj2 hj3
 have C_g:=cells_k16 HB0_g.out
 have C_gm:=cells2 HB0_gm.out
 go_enter Try.func24,Try.ntmps24
 go_wp2_with (first|((with_reducible refine gate_dst (N:=7) rfl ?_);refine box_event ?hg (N:=7) ?hd (cs:=#[.int .i64 a0,.int .i64 a1,.bool a2,.int .i64 a3]) (t:=46) ?hr ?_;(case hd=>rfl);(case hg=>rfl);(case hr=>first|(go_simp;done)|(go_simp;rfl));intro ga hg W1 hbox hb';have HG_ga:Hid (w.heap.size ≤ ga):=Lib.hid (by rw [hg];exact HS0.out.fr.size);have HS1:=Lib.hid ((HS0.out.below hb'));have HB1_g:Hid (W1.heap[g]? = some (.cells (k16 c AP cP AL cL ((some ⟨gm,0,none⟩)) (some ⟨gC,0,none⟩) tC cC (some ⟨gB,0,none⟩) tB cB AN tN cN AE ev.length cE) 39 (0,0))):=Lib.hid (blk_below HB0_g.out hb');have HB1_gm:Hid (W1.heap[gm]? = some (.cells (#[vW,.slice AX n cX]:Array Value) 77 (0,0))):=Lib.hid (blk_below HB0_gm.out hb');have HB1_ga:Hid (W1.heap[ga]? = some (.cells (#[.int .i64 a0,.int .i64 a1,.bool a2,.int .i64 a3]:Array Value) 46 (0,0))):=Lib.hid (hbox);clear C_g C_gm;have C_g:=cells_k16 HB1_g.out;have C_gm:=cells2 HB1_gm.out;have C_ga:=cells4 HB1_ga.out;have NE_g_ga:Hid (g ≠ ga):=Lib.hid (by have:=blk_lt HB0_g.out;rw [hg];omega);have NE_ga_g:Hid (ga ≠ g):=Lib.hid (Ne.symm NE_g_ga.out);have NE_gm_ga:Hid (gm ≠ ga):=Lib.hid (by have:=blk_lt HB0_gm.out;rw [hg];omega);have NE_ga_gm:Hid (ga ≠ gm):=Lib.hid (Ne.symm NE_gm_ga.out);clear hb' hbox hg))
 refine ch_st (fun wS=>wS.cell? ⟨g,9,none⟩ = some (.slice (some ⟨gC,0,none⟩) tC cC)∧wS.cell? ⟨g,10,none⟩ = some (.slice (some ⟨gB,0,none⟩) tB cB)∧wS.cell? ⟨gC,i,none⟩ = some (.slice (some ⟨gI,0,none⟩) lI cI)∧wS.cell? ⟨gB,i,none⟩ = some (.int .i64 ((j:Int) + 1))∧wS.cell? ⟨gI,j * 3,none⟩ = some (.int .i64 x.f0)∧wS.cell? ⟨gI,j * 3 + 1,none⟩ = some (.int .i64 x.f1)∧wS.cell? ⟨gI,j * 3 + 2,none⟩ = some (.int .i64 x.f2)) [18] [0,1,2,3,4,5,6,7,8,9,10,11,12,13,14,15,16,17,18] (by kernel_rfl) rfl (⟨C_g.2.2.2.2.2.2.2.2.2.2.1,C_g.2.2.2.2.2.2.2.2.2.2.2.1,(HCA.out W1 HS1.out.fr),(HBA.out W1 HS1.out.fr),(HIA.out W1 HS1.out.fr).1,(HIA.out W1 HS1.out.fr).2.1,(HIA.out W1 HS1.out.fr).2.2⟩) (fun W2 HWd hHeld=>?_)
 have HS2:=dwS HWd HS1
 have HB2_g:=dwH HWd HB1_g
 have HB2_gm:=dwH HWd HB1_gm
 have HB2_ga:=dwH HWd HB1_ga
 clear C_g C_gm C_ga
 have C_g:=cells_k16 HB2_g.out
 have C_gm:=cells2 HB2_gm.out
 have C_ga:=cells4 HB2_ga.out
 clear HWd
 iterate 17 refine ch_s ?_
 refine ch_1 fun K hK=>?_
 refine box_r (cs:=#[.int .i64 0,.int .i64 0,.int .i64 0]) (t:=43) (by rfl) rfl (by first|(go_simp;done)|(go_simp;rfl)) ?_
 intro gx hg W3 hbox hb'
 have HG_gx:Hid (w.heap.size ≤ gx):=Lib.hid (by rw [hg];exact HS2.out.fr.size)
 have NE_g_gx:Hid (g ≠ gx):=Lib.hid (by have:=blk_lt HB2_g.out;rw [hg];omega)
 have NE_gx_g:Hid (gx ≠ g):=Lib.hid (Ne.symm NE_g_gx.out)
 have NE_gm_gx:Hid (gm ≠ gx):=Lib.hid (by have:=blk_lt HB2_gm.out;rw [hg];omega)
 have NE_gx_gm:Hid (gx ≠ gm):=Lib.hid (Ne.symm NE_gm_gx.out)
 have NE_ga_gx:Hid (ga ≠ gx):=Lib.hid (by have:=blk_lt HB2_ga.out;rw [hg];omega)
 have NE_gx_ga:Hid (gx ≠ ga):=Lib.hid (Ne.symm NE_ga_gx.out)
 clear C_g C_gm C_ga
 have HS3:=Lib.hid (HS2.out.below hb')
 have HB3_g:=Lib.hid (blk_below HB2_g.out hb')
 have HB3_gm:=Lib.hid (blk_below HB2_gm.out hb')
 have HB3_ga:=Lib.hid (blk_below HB2_ga.out hb')
 have HB3_gx:Hid (W3.heap[gx]? = some (.cells (#[.int .i64 0,.int .i64 0,.int .i64 0]:Array Value) 43 (0,0))):=Lib.hid (hbox)
 have C_g:=cells_k16 HB3_g.out
 have C_gm:=cells2 HB3_gm.out
 have C_ga:=cells4 HB3_ga.out
 have C_gx:=cells3 HB3_gx.out
 clear hb' hbox hg
 refine hK.out _ _ (⟨C_g.2.2.2.2.2.2.2.2.2.2.1,C_g.2.2.2.2.2.2.2.2.2.2.2.1,(HCA.out W3 HS3.out.fr),(HBA.out W3 HS3.out.fr),(HIA.out W3 HS3.out.fr).1,(HIA.out W3 HS3.out.fr).2.1,(HIA.out W3 HS3.out.fr).2.2⟩) ?_;clear hK K hHeld;intro hHeld
 try simp only [Act.put,zq1,zq2,zq3]
 refine ch_last rfl rfl (by kernel_rfl) (by decide) (fun K hK=>?_)
 refine skip_ (by rfl) rfl (by go_simp;first|rfl|exact ⟨rfl,rfl⟩) ?_
 refine hK.out _ _ ?_
 clear hK K
 try simp only [Act.put,zq1,zq2,zq3]
 refine ch_z ?_
 clear hHeld
 go_wp2
 generalize hWd:(World.setCell (World.setCell (World.setCell W3 ⟨gx,0,none⟩ (.int .i64 x.f0)) ⟨gx,1,none⟩ (.int .i64 x.f1)) ⟨gx,2,none⟩ (.int .i64 x.f2)) = W4 at ⊢
 have HWd:=Lib.hid hWd
 clear hWd
 have HS4:Hid (St B L T w gm ws n W4):=Lib.hid (by rw [← HWd.out];exact (St.setNew (St.setNew (St.setNew HS3.out HG_gx.out HB3_gx.out (by decide) 0 (.int .i64 x.f0)) HG_gx.out (blk_set' HB3_gx.out 0 (.int .i64 x.f0) rfl) (by decide) 1 (.int .i64 x.f1)) HG_gx.out (blk_set' (blk_set' HB3_gx.out 0 (.int .i64 x.f0) rfl) 1 (.int .i64 x.f1) rfl) (by decide) 2 (.int .i64 x.f2)))
 have HB4_g:Hid (W4.heap[g]? = some (.cells (k16 c AP cP AL cL ((some ⟨gm,0,none⟩)) (some ⟨gC,0,none⟩) tC cC (some ⟨gB,0,none⟩) tB cB AN tN cN AE ev.length cE) 39 (0,0))):=Lib.hid (by rw [← HWd.out];exact (blk_far (blk_far (blk_far HB3_g.out (p:=⟨gx,0,none⟩) NE_g_gx.out (.int .i64 x.f0)) (p:=⟨gx,1,none⟩) NE_g_gx.out (.int .i64 x.f1)) (p:=⟨gx,2,none⟩) NE_g_gx.out (.int .i64 x.f2)))
 have HB4_gm:Hid (W4.heap[gm]? = some (.cells (#[vW,.slice AX n cX]:Array Value) 77 (0,0))):=Lib.hid (by rw [← HWd.out];exact (blk_far (blk_far (blk_far HB3_gm.out (p:=⟨gx,0,none⟩) NE_gm_gx.out (.int .i64 x.f0)) (p:=⟨gx,1,none⟩) NE_gm_gx.out (.int .i64 x.f1)) (p:=⟨gx,2,none⟩) NE_gm_gx.out (.int .i64 x.f2)))
 have HB4_ga:Hid (W4.heap[ga]? = some (.cells (#[.int .i64 a0,.int .i64 a1,.bool a2,.int .i64 a3]:Array Value) 46 (0,0))):=Lib.hid (by rw [← HWd.out];exact (blk_far (blk_far (blk_far HB3_ga.out (p:=⟨gx,0,none⟩) NE_ga_gx.out (.int .i64 x.f0)) (p:=⟨gx,1,none⟩) NE_ga_gx.out (.int .i64 x.f1)) (p:=⟨gx,2,none⟩) NE_ga_gx.out (.int .i64 x.f2)))
 have HB4_gx:Hid (W4.heap[gx]? = some (.cells (#[.int .i64 x.f0,.int .i64 x.f1,.int .i64 x.f2]:Array Value) 43 (0,0))):=Lib.hid (by rw [← HWd.out];exact (blk_set' (blk_set' (blk_set' HB3_gx.out 0 (.int .i64 x.f0) rfl) 1 (.int .i64 x.f1) rfl) 2 (.int .i64 x.f2) rfl))
 clear C_g C_gm C_ga C_gx
 have C_g:=cells_k16 HB4_g.out
 have C_gm:=cells2 HB4_gm.out
 have C_ga:=cells4 HB4_ga.out
 have C_gx:=cells3 HB4_gx.out
 clear HWd
 refine ch_d (at2 (at2 (at2 C_g C_gm) C_gx) C_ga) (at2 (at2 (at2 C_g C_gm) C_gx) C_ga) [24] [0,2,3,4,5,7,8,9,10,11,12,13,14,15,16,17,18,19,1,20,6,21,22,23,24] (fun W5 HWd hHeld=>?_)
 have HS5:=dwS HWd HS4
 have HB5_g:=dwH HWd HB4_g
 have HB5_gm:=dwH HWd HB4_gm
 have HB5_ga:=dwH HWd HB4_ga
 have HB5_gx:=dwH HWd HB4_gx
 clear C_g C_gm C_ga C_gx
 have C_g:=cells_k16 HB5_g.out
 have C_gm:=cells2 HB5_gm.out
 have C_ga:=cells4 HB5_ga.out
 have C_gx:=cells3 HB5_gx.out
 clear HWd
 iterate 18 refine ch_s ?_
 have HBL:Hid (Below W5.heap.size W5 W5):=Lib.hid (Below.refl _ _)
 refine ch_two (i:=1) (j:=20) rfl rfl rfl rfl (by kernel_rfl) (by decide) (by decide) (fun K hK=>?_) (fun K hK=>?_)
 ·refine Kd.R_lit_step k48 (w0:=W5) W5.heap.size 48 (by rfl) (N:=27) ?hd (xs:=[]) (inner:=[]) (ok:=fun _=>True) (okp:=fun _=>True) ?hr (Reps.none _ _) (fun _ h=>h) trivial HBL.out HBL.out.size (by simp) ?_
  case hd=>rfl
  case hr=>first|(go_simp;done)|(go_simp;rfl)
  intro vA W6 ho hb' hg_ hnew_
  have HRA:=Lib.hid ho
  clear ho
  clear hg_ hnew_
  have HBL':=Lib.hid hb'
  clear HBL
  have HBL:=HBL'
  clear HBL' hb'
  have HS6:=Lib.hid (HS5.out.below HBL.out)
  have HB6_g:=Lib.hid (blk_below HB5_g.out HBL.out)
  have HB6_gm:=Lib.hid (blk_below HB5_gm.out HBL.out)
  have HB6_ga:=Lib.hid (blk_below HB5_ga.out HBL.out)
  have HB6_gx:=Lib.hid (blk_below HB5_gx.out HBL.out)
  clear C_g C_gm C_ga C_gx
  have C_g:=cells_k16 HB6_g.out
  have C_gm:=cells2 HB6_gm.out
  have C_ga:=cells4 HB6_ga.out
  have C_gx:=cells3 HB6_gx.out
  refine hK.out _ _ (at2 (at2 (at2 C_g C_gm) C_gx) C_ga) ?_;clear hK K hHeld;intro hHeld
  try simp only [Act.put,zq1,zq2,zq3]
  refine ch_two (i:=6) (j:=20) rfl rfl rfl rfl (by kernel_rfl) (by decide) (by decide) (fun K hK=>?_) (fun K hK=>?_)
  ·refine Kd.R_append_rows_step k48 (w0:=W5) W5.heap.size (by rfl) (.tmp 27) (.tmp 31) 37 48 (.agg #[.int .i64 0,.int .i64 0,.int .i64 0,.int .i64 0,.int .i64 0,.int .i64 0,.int .i64 0,.int .i64 0,.bool false,.int .i64 0]) 80 rfl Try.underlying37 info48 rfl (by decide) (by omega) vA [] ev AE ev.length cE (fun _=>True) (fun _=>False) rfl rfl HRA.out (Kd.R_reads' (HE.out.fr HS6.out.fr)).2.2 (fun _ _ h=>h) (fun _ h=>h.elim) (fun _ _=>trivial) HBL.out HBL.out.size (by have:=HMX.out;simp only [List.length_nil,Nat.zero_add];omega) ?_
   intro vB W7 ho hb' hg_ hat_
   clear HRA
   have HRA:=Lib.hid ho
   clear ho hg_ hat_
   have HBL':=Lib.hid hb'
   clear HBL
   have HBL:=HBL'
   clear HBL' hb'
   have HS7:=Lib.hid (HS5.out.below HBL.out)
   have HB7_g:=Lib.hid (blk_below HB5_g.out HBL.out)
   have HB7_gm:=Lib.hid (blk_below HB5_gm.out HBL.out)
   have HB7_ga:=Lib.hid (blk_below HB5_ga.out HBL.out)
   have HB7_gx:=Lib.hid (blk_below HB5_gx.out HBL.out)
   clear C_g C_gm C_ga C_gx
   have C_g:=cells_k16 HB7_g.out
   have C_gm:=cells2 HB7_gm.out
   have C_ga:=cells4 HB7_ga.out
   have C_gx:=cells3 HB7_gx.out
   refine hK.out _ _ (at2 (at2 (at2 C_g C_gm) C_gx) C_ga) ?_;clear hK K hHeld;intro hHeld
   try simp only [Act.put,zq1,zq2,zq3]
   refine ch_re [20,21,22,23,24] rfl ?_
   refine ch_1 fun K hK=>?_
   refine Kd.R_lit_step k48 (w0:=W5) W5.heap.size 48 (by rfl) (N:=46) ?hd (xs:=[⟨(n:Int),(i:Int),kd,x,⟨a0,a1,a2,a3⟩⟩]) (inner:=[.int .i64 n,.int .i64 i,.int .i64 kd,.int .i64 x.f0,.int .i64 x.f1,.int .i64 x.f2,.int .i64 a0,.int .i64 a1,.bool a2,.int .i64 a3]) (ok:=fun _=>True) (okp:=fun _=>True) ?hr (Reps.snoc (Reps.none _ _) (k48_mkM _ _ _ ⟨(n:Int),(i:Int),kd,x,⟨a0,a1,a2,a3⟩⟩) rfl) (fun _ h=>h) trivial HBL.out HBL.out.size (by simp) ?_
   case hd=>rfl
   case hr=>first|(go_simp;done)|(go_simp;rfl)
   intro vP W8 ho hb' hg_ hnew_
   obtain ⟨AQ,cQ,eQ⟩:=slice_n ho (n:=1) rfl
   subst eQ
   have HRP:=Lib.hid ho
   clear ho
   have HNP:Hid (∀ k,(Value.slice AQ 1 cQ).ownBlock = some k→some k ≠ vB.ownBlock):=Lib.hid (fun k hk e=>by obtain ⟨b,h1,h2⟩:=hnew_;have e2:=h1.symm.trans hk;injection e2 with e2;have:=lt48 HRA.out e.symm;omega)
   replace HRA:=Lib.hid (grow48 HRA.out hg_ (fun _ _=>by simp))
   clear hg_ hnew_
   have HBL':=Lib.hid hb'
   clear HBL
   have HBL:=HBL'
   clear HBL' hb'
   have HS8:=Lib.hid (HS5.out.below HBL.out)
   have HB8_g:=Lib.hid (blk_below HB5_g.out HBL.out)
   have HB8_gm:=Lib.hid (blk_below HB5_gm.out HBL.out)
   have HB8_ga:=Lib.hid (blk_below HB5_ga.out HBL.out)
   have HB8_gx:=Lib.hid (blk_below HB5_gx.out HBL.out)
   clear C_g C_gm C_ga C_gx
   have C_g:=cells_k16 HB8_g.out
   have C_gm:=cells2 HB8_gm.out
   have C_ga:=cells4 HB8_ga.out
   have C_gx:=cells3 HB8_gx.out
   refine hK.out _ _ (at2 (at2 (at2 C_g C_gm) C_gx) C_ga) ?_;clear hK K hHeld;intro hHeld
   try simp only [Act.put,zq1,zq2,zq3]
   refine ch_1 fun K hK=>?_
   refine Kd.R_append_rows_step k48 (w0:=W5) W5.heap.size (by rfl) (.tmp 32) (.tmp 46) 37 48 (.agg #[.int .i64 0,.int .i64 0,.int .i64 0,.int .i64 0,.int .i64 0,.int .i64 0,.int .i64 0,.int .i64 0,.bool false,.int .i64 0]) 80 rfl Try.underlying37 info48 rfl (by decide) (by omega) vB ([] ++ ev) [⟨(n:Int),(i:Int),kd,x,⟨a0,a1,a2,a3⟩⟩] AQ 1 cQ (fun _=>True) (fun _=>False) rfl rfl HRA.out (Kd.R_reads' HRP.out).2.2 (fun _ _ h=>h) (fun _ h=>h.elim) (fun _ _=>trivial) HBL.out HBL.out.size (by have:=HMX.out;simp only [List.length_nil,List.nil_append];omega) ?_
   intro vC W9 ho hb' hg_ hat_
   obtain ⟨AZ,cZ,eZ⟩:=slice_n ho (n:=ev.length + 1) (by simp)
   subst eZ
   have HRZ:Hid (Evs W9 _ _):=Lib.hid (row_free ho)
   clear HRA HRP HNP hg_ hat_ ho
   have HBL':=Lib.hid hb'
   clear HBL
   have HBL:=HBL'
   clear HBL' hb'
   have HS9:=Lib.hid (HS5.out.below HBL.out)
   have HB9_g:=Lib.hid (blk_below HB5_g.out HBL.out)
   have HB9_gm:=Lib.hid (blk_below HB5_gm.out HBL.out)
   have HB9_ga:=Lib.hid (blk_below HB5_ga.out HBL.out)
   have HB9_gx:=Lib.hid (blk_below HB5_gx.out HBL.out)
   clear C_g C_gm C_ga C_gx
   have C_g:=cells_k16 HB9_g.out
   have C_gm:=cells2 HB9_gm.out
   have C_ga:=cells4 HB9_ga.out
   have C_gx:=cells3 HB9_gx.out
   refine hK.out _ _ (at2 (at2 (at2 C_g C_gm) C_gx) C_ga) ?_;clear hK K hHeld;intro hHeld
   try simp only [Act.put,zq1,zq2,zq3]
   iterate 2 refine ch_s ?_
   refine ch_last rfl rfl (by kernel_rfl) (by decide) (fun K hK=>?_)
   refine skip_ (by rfl) rfl (by go_simp;first|rfl|exact ⟨rfl,rfl⟩) ?_
   refine hK.out _ _ ?_
   clear hK K
   try simp only [Act.put,zq1,zq2,zq3]
   refine ch_z ?_
   clear hHeld
   go_wp2
   go_end0
   exact ⟨rfl,AZ,cZ,(blk_set' HB9_g.out 12 (.slice AZ (ev.length + 1) cZ) rfl),HRZ.out.fr ((Fr.refl 0 true [g] _).setCell (Nat.zero_le _) (.inl (by simp)) HB9_g.out (by decide) _),(HSG_g.out _ _ _ HS9.out 12 (.slice AZ (ev.length + 1) cZ)).mem,HLL.out ▸ (HSG_g.out _ _ _ HS9.out 12 (.slice AZ (ev.length + 1) cZ)).fr⟩
  ·refine Kd.R_lit_step k48 (w0:=W5) W5.heap.size 48 (by rfl) (N:=46) ?hd (xs:=[⟨(n:Int),(i:Int),kd,x,⟨a0,a1,a2,a3⟩⟩]) (inner:=[.int .i64 n,.int .i64 i,.int .i64 kd,.int .i64 x.f0,.int .i64 x.f1,.int .i64 x.f2,.int .i64 a0,.int .i64 a1,.bool a2,.int .i64 a3]) (ok:=fun _=>True) (okp:=fun _=>True) ?hr (Reps.snoc (Reps.none _ _) (k48_mkM _ _ _ ⟨(n:Int),(i:Int),kd,x,⟨a0,a1,a2,a3⟩⟩) rfl) (fun _ h=>h) trivial HBL.out HBL.out.size (by simp) ?_
   case hd=>rfl
   case hr=>first|(go_simp;done)|(go_simp;rfl)
   intro vP W7 ho hb' hg_ hnew_
   obtain ⟨AQ,cQ,eQ⟩:=slice_n ho (n:=1) rfl
   subst eQ
   have HRP:=Lib.hid ho
   clear ho
   have HNP:Hid (∀ k,(Value.slice AQ 1 cQ).ownBlock = some k→some k ≠ vA.ownBlock):=Lib.hid (fun k hk e=>by obtain ⟨b,h1,h2⟩:=hnew_;have e2:=h1.symm.trans hk;injection e2 with e2;have:=lt48 HRA.out e.symm;omega)
   replace HRA:=Lib.hid (grow48 HRA.out hg_ (fun _ _=>by simp))
   clear hg_ hnew_
   have HBL':=Lib.hid hb'
   clear HBL
   have HBL:=HBL'
   clear HBL' hb'
   have HS7:=Lib.hid (HS5.out.below HBL.out)
   have HB7_g:=Lib.hid (blk_below HB5_g.out HBL.out)
   have HB7_gm:=Lib.hid (blk_below HB5_gm.out HBL.out)
   have HB7_ga:=Lib.hid (blk_below HB5_ga.out HBL.out)
   have HB7_gx:=Lib.hid (blk_below HB5_gx.out HBL.out)
   clear C_g C_gm C_ga C_gx
   have C_g:=cells_k16 HB7_g.out
   have C_gm:=cells2 HB7_gm.out
   have C_ga:=cells4 HB7_ga.out
   have C_gx:=cells3 HB7_gx.out
   refine hK.out _ _ (at2 (at2 (at2 C_g C_gm) C_gx) C_ga) ?_;clear hK K hHeld;intro hHeld
   try simp only [Act.put,zq1,zq2,zq3]
   refine ch_1 fun K hK=>?_
   refine Kd.R_append_rows_step k48 (w0:=W5) W5.heap.size (by rfl) (.tmp 27) (.tmp 31) 37 48 (.agg #[.int .i64 0,.int .i64 0,.int .i64 0,.int .i64 0,.int .i64 0,.int .i64 0,.int .i64 0,.int .i64 0,.bool false,.int .i64 0]) 80 rfl Try.underlying37 info48 rfl (by decide) (by omega) vA [] ev AE ev.length cE (fun _=>True) (fun _=>False) rfl rfl HRA.out (Kd.R_reads' (HE.out.fr HS7.out.fr)).2.2 (fun _ _ h=>h) (fun _ h=>h.elim) (fun _ _=>trivial) HBL.out HBL.out.size (by have:=HMX.out;simp only [List.length_nil,Nat.zero_add];omega) ?_
   intro vB W8 ho hb' hg_ hat_
   have HNQ:Hid (∀ k,(Value.slice AQ 1 cQ).ownBlock = some k→some k ≠ vB.ownBlock):=Lib.hid (fun k hk=>by rcases hat_ with h|⟨b,h1,h2⟩;rw [h];exact HNP.out k hk;rw [h1];intro e;injection e with e;have:=lt48 HRP.out hk;omega)
   replace HRP:=Lib.hid (grow48 HRP.out hg_ HNP.out)
   clear HNP
   have HNP:=HNQ
   clear HNQ
   clear HRA
   have HRA:=Lib.hid ho
   clear ho hg_ hat_
   have HBL':=Lib.hid hb'
   clear HBL
   have HBL:=HBL'
   clear HBL' hb'
   have HS8:=Lib.hid (HS5.out.below HBL.out)
   have HB8_g:=Lib.hid (blk_below HB5_g.out HBL.out)
   have HB8_gm:=Lib.hid (blk_below HB5_gm.out HBL.out)
   have HB8_ga:=Lib.hid (blk_below HB5_ga.out HBL.out)
   have HB8_gx:=Lib.hid (blk_below HB5_gx.out HBL.out)
   clear C_g C_gm C_ga C_gx
   have C_g:=cells_k16 HB8_g.out
   have C_gm:=cells2 HB8_gm.out
   have C_ga:=cells4 HB8_ga.out
   have C_gx:=cells3 HB8_gx.out
   refine hK.out _ _ (at2 (at2 (at2 C_g C_gm) C_gx) C_ga) ?_;clear hK K hHeld;intro hHeld
   try simp only [Act.put,zq1,zq2,zq3]
   refine ch_1 fun K hK=>?_
   refine Kd.R_append_rows_step k48 (w0:=W5) W5.heap.size (by rfl) (.tmp 32) (.tmp 46) 37 48 (.agg #[.int .i64 0,.int .i64 0,.int .i64 0,.int .i64 0,.int .i64 0,.int .i64 0,.int .i64 0,.int .i64 0,.bool false,.int .i64 0]) 80 rfl Try.underlying37 info48 rfl (by decide) (by omega) vB ([] ++ ev) [⟨(n:Int),(i:Int),kd,x,⟨a0,a1,a2,a3⟩⟩] AQ 1 cQ (fun _=>True) (fun _=>False) rfl rfl HRA.out (Kd.R_reads' HRP.out).2.2 (fun _ _ h=>h) (fun _ h=>h.elim) (fun _ _=>trivial) HBL.out HBL.out.size (by have:=HMX.out;simp only [List.length_nil,List.nil_append];omega) ?_
   intro vC W9 ho hb' hg_ hat_
   obtain ⟨AZ,cZ,eZ⟩:=slice_n ho (n:=ev.length + 1) (by simp)
   subst eZ
   have HRZ:Hid (Evs W9 _ _):=Lib.hid (row_free ho)
   clear HRA HRP HNP hg_ hat_ ho
   have HBL':=Lib.hid hb'
   clear HBL
   have HBL:=HBL'
   clear HBL' hb'
   have HS9:=Lib.hid (HS5.out.below HBL.out)
   have HB9_g:=Lib.hid (blk_below HB5_g.out HBL.out)
   have HB9_gm:=Lib.hid (blk_below HB5_gm.out HBL.out)
   have HB9_ga:=Lib.hid (blk_below HB5_ga.out HBL.out)
   have HB9_gx:=Lib.hid (blk_below HB5_gx.out HBL.out)
   clear C_g C_gm C_ga C_gx
   have C_g:=cells_k16 HB9_g.out
   have C_gm:=cells2 HB9_gm.out
   have C_ga:=cells4 HB9_ga.out
   have C_gx:=cells3 HB9_gx.out
   refine hK.out _ _ (at2 (at2 (at2 C_g C_gm) C_gx) C_ga) ?_;clear hK K hHeld;intro hHeld
   try simp only [Act.put,zq1,zq2,zq3]
   iterate 2 refine ch_s ?_
   refine ch_last rfl rfl (by kernel_rfl) (by decide) (fun K hK=>?_)
   refine skip_ (by rfl) rfl (by go_simp;first|rfl|exact ⟨rfl,rfl⟩) ?_
   refine hK.out _ _ ?_
   clear hK K
   try simp only [Act.put,zq1,zq2,zq3]
   refine ch_z ?_
   clear hHeld
   go_wp2
   go_end0
   exact ⟨rfl,AZ,cZ,(blk_set' HB9_g.out 12 (.slice AZ (ev.length + 1) cZ) rfl),HRZ.out.fr ((Fr.refl 0 true [g] _).setCell (Nat.zero_le _) (.inl (by simp)) HB9_g.out (by decide) _),(HSG_g.out _ _ _ HS9.out 12 (.slice AZ (ev.length + 1) cZ)).mem,HLL.out ▸ (HSG_g.out _ _ _ HS9.out 12 (.slice AZ (ev.length + 1) cZ)).fr⟩
 ·refine Kd.R_lit_step k48 (w0:=W5) W5.heap.size 48 (by rfl) (N:=46) ?hd (xs:=[⟨(n:Int),(i:Int),kd,x,⟨a0,a1,a2,a3⟩⟩]) (inner:=[.int .i64 n,.int .i64 i,.int .i64 kd,.int .i64 x.f0,.int .i64 x.f1,.int .i64 x.f2,.int .i64 a0,.int .i64 a1,.bool a2,.int .i64 a3]) (ok:=fun _=>True) (okp:=fun _=>True) ?hr (Reps.snoc (Reps.none _ _) (k48_mkM _ _ _ ⟨(n:Int),(i:Int),kd,x,⟨a0,a1,a2,a3⟩⟩) rfl) (fun _ h=>h) trivial HBL.out HBL.out.size (by simp) ?_
  case hd=>rfl
  case hr=>first|(go_simp;done)|(go_simp;rfl)
  intro vP W6 ho hb' hg_ hnew_
  obtain ⟨AQ,cQ,eQ⟩:=slice_n ho (n:=1) rfl
  subst eQ
  have HRP:=Lib.hid ho
  clear ho
  clear hg_ hnew_
  have HBL':=Lib.hid hb'
  clear HBL
  have HBL:=HBL'
  clear HBL' hb'
  have HS6:=Lib.hid (HS5.out.below HBL.out)
  have HB6_g:=Lib.hid (blk_below HB5_g.out HBL.out)
  have HB6_gm:=Lib.hid (blk_below HB5_gm.out HBL.out)
  have HB6_ga:=Lib.hid (blk_below HB5_ga.out HBL.out)
  have HB6_gx:=Lib.hid (blk_below HB5_gx.out HBL.out)
  clear C_g C_gm C_ga C_gx
  have C_g:=cells_k16 HB6_g.out
  have C_gm:=cells2 HB6_gm.out
  have C_ga:=cells4 HB6_ga.out
  have C_gx:=cells3 HB6_gx.out
  refine hK.out _ _ (at2 (at2 (at2 C_g C_gm) C_gx) C_ga) ?_;clear hK K hHeld;intro hHeld
  try simp only [Act.put,zq1,zq2,zq3]
  refine ch_re [1,6,21,22,23,24] rfl ?_
  refine ch_1 fun K hK=>?_
  refine Kd.R_lit_step k48 (w0:=W5) W5.heap.size 48 (by rfl) (N:=27) ?hd (xs:=[]) (inner:=[]) (ok:=fun _=>True) (okp:=fun _=>True) ?hr (Reps.none _ _) (fun _ h=>h) trivial HBL.out HBL.out.size (by simp) ?_
  case hd=>rfl
  case hr=>first|(go_simp;done)|(go_simp;rfl)
  intro vA W7 ho hb' hg_ hnew_
  have HRA:=Lib.hid ho
  clear ho
  have HNP:Hid (∀ k,(Value.slice AQ 1 cQ).ownBlock = some k→some k ≠ vA.ownBlock):=Lib.hid (fun k hk e=>by obtain ⟨b,h1,h2⟩:=hnew_;have:=lt48 HRP.out hk;rw [h1] at e;injection e with e;omega)
  replace HRP:=Lib.hid (grow48 HRP.out hg_ (fun _ _=>by simp))
  clear hg_ hnew_
  have HBL':=Lib.hid hb'
  clear HBL
  have HBL:=HBL'
  clear HBL' hb'
  have HS7:=Lib.hid (HS5.out.below HBL.out)
  have HB7_g:=Lib.hid (blk_below HB5_g.out HBL.out)
  have HB7_gm:=Lib.hid (blk_below HB5_gm.out HBL.out)
  have HB7_ga:=Lib.hid (blk_below HB5_ga.out HBL.out)
  have HB7_gx:=Lib.hid (blk_below HB5_gx.out HBL.out)
  clear C_g C_gm C_ga C_gx
  have C_g:=cells_k16 HB7_g.out
  have C_gm:=cells2 HB7_gm.out
  have C_ga:=cells4 HB7_ga.out
  have C_gx:=cells3 HB7_gx.out
  refine hK.out _ _ (at2 (at2 (at2 C_g C_gm) C_gx) C_ga) ?_;clear hK K hHeld;intro hHeld
  try simp only [Act.put,zq1,zq2,zq3]
  refine ch_1 fun K hK=>?_
  refine Kd.R_append_rows_step k48 (w0:=W5) W5.heap.size (by rfl) (.tmp 27) (.tmp 31) 37 48 (.agg #[.int .i64 0,.int .i64 0,.int .i64 0,.int .i64 0,.int .i64 0,.int .i64 0,.int .i64 0,.int .i64 0,.bool false,.int .i64 0]) 80 rfl Try.underlying37 info48 rfl (by decide) (by omega) vA [] ev AE ev.length cE (fun _=>True) (fun _=>False) rfl rfl HRA.out (Kd.R_reads' (HE.out.fr HS7.out.fr)).2.2 (fun _ _ h=>h) (fun _ h=>h.elim) (fun _ _=>trivial) HBL.out HBL.out.size (by have:=HMX.out;simp only [List.length_nil,Nat.zero_add];omega) ?_
  intro vB W8 ho hb' hg_ hat_
  have HNQ:Hid (∀ k,(Value.slice AQ 1 cQ).ownBlock = some k→some k ≠ vB.ownBlock):=Lib.hid (fun k hk=>by rcases hat_ with h|⟨b,h1,h2⟩;rw [h];exact HNP.out k hk;rw [h1];intro e;injection e with e;have:=lt48 HRP.out hk;omega)
  replace HRP:=Lib.hid (grow48 HRP.out hg_ HNP.out)
  clear HNP
  have HNP:=HNQ
  clear HNQ
  clear HRA
  have HRA:=Lib.hid ho
  clear ho hg_ hat_
  have HBL':=Lib.hid hb'
  clear HBL
  have HBL:=HBL'
  clear HBL' hb'
  have HS8:=Lib.hid (HS5.out.below HBL.out)
  have HB8_g:=Lib.hid (blk_below HB5_g.out HBL.out)
  have HB8_gm:=Lib.hid (blk_below HB5_gm.out HBL.out)
  have HB8_ga:=Lib.hid (blk_below HB5_ga.out HBL.out)
  have HB8_gx:=Lib.hid (blk_below HB5_gx.out HBL.out)
  clear C_g C_gm C_ga C_gx
  have C_g:=cells_k16 HB8_g.out
  have C_gm:=cells2 HB8_gm.out
  have C_ga:=cells4 HB8_ga.out
  have C_gx:=cells3 HB8_gx.out
  refine hK.out _ _ (at2 (at2 (at2 C_g C_gm) C_gx) C_ga) ?_;clear hK K hHeld;intro hHeld
  try simp only [Act.put,zq1,zq2,zq3]
  refine ch_1 fun K hK=>?_
  refine Kd.R_append_rows_step k48 (w0:=W5) W5.heap.size (by rfl) (.tmp 32) (.tmp 46) 37 48 (.agg #[.int .i64 0,.int .i64 0,.int .i64 0,.int .i64 0,.int .i64 0,.int .i64 0,.int .i64 0,.int .i64 0,.bool false,.int .i64 0]) 80 rfl Try.underlying37 info48 rfl (by decide) (by omega) vB ([] ++ ev) [⟨(n:Int),(i:Int),kd,x,⟨a0,a1,a2,a3⟩⟩] AQ 1 cQ (fun _=>True) (fun _=>False) rfl rfl HRA.out (Kd.R_reads' HRP.out).2.2 (fun _ _ h=>h) (fun _ h=>h.elim) (fun _ _=>trivial) HBL.out HBL.out.size (by have:=HMX.out;simp only [List.length_nil,List.nil_append];omega) ?_
  intro vC W9 ho hb' hg_ hat_
  obtain ⟨AZ,cZ,eZ⟩:=slice_n ho (n:=ev.length + 1) (by simp)
  subst eZ
  have HRZ:Hid (Evs W9 _ _):=Lib.hid (row_free ho)
  clear HRA HRP HNP hg_ hat_ ho
  have HBL':=Lib.hid hb'
  clear HBL
  have HBL:=HBL'
  clear HBL' hb'
  have HS9:=Lib.hid (HS5.out.below HBL.out)
  have HB9_g:=Lib.hid (blk_below HB5_g.out HBL.out)
  have HB9_gm:=Lib.hid (blk_below HB5_gm.out HBL.out)
  have HB9_ga:=Lib.hid (blk_below HB5_ga.out HBL.out)
  have HB9_gx:=Lib.hid (blk_below HB5_gx.out HBL.out)
  clear C_g C_gm C_ga C_gx
  have C_g:=cells_k16 HB9_g.out
  have C_gm:=cells2 HB9_gm.out
  have C_ga:=cells4 HB9_ga.out
  have C_gx:=cells3 HB9_gx.out
  refine hK.out _ _ (at2 (at2 (at2 C_g C_gm) C_gx) C_ga) ?_;clear hK K hHeld;intro hHeld
  try simp only [Act.put,zq1,zq2,zq3]
  iterate 2 refine ch_s ?_
  refine ch_last rfl rfl (by kernel_rfl) (by decide) (fun K hK=>?_)
  refine skip_ (by rfl) rfl (by go_simp;first|rfl|exact ⟨rfl,rfl⟩) ?_
  refine hK.out _ _ ?_
  clear hK K
  try simp only [Act.put,zq1,zq2,zq3]
  refine ch_z ?_
  clear hHeld
  go_wp2
  go_end0
  exact ⟨rfl,AZ,cZ,(blk_set' HB9_g.out 12 (.slice AZ (ev.length + 1) cZ) rfl),HRZ.out.fr ((Fr.refl 0 true [g] _).setCell (Nat.zero_le _) (.inl (by simp)) HB9_g.out (by decide) _),(HSG_g.out _ _ _ HS9.out 12 (.slice AZ (ev.length + 1) cZ)).mem,HLL.out ▸ (HSG_g.out _ _ _ HS9.out 12 (.slice AZ (ev.length + 1) cZ)).fr⟩
end Go.Proofs.Ytadblpcjkahikaa.PTraceRuns

