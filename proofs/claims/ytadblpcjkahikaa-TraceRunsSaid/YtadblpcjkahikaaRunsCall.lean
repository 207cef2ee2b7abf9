
import Derived.Test.YtadblpcjkahikaaRunsRelease
import Derived.Test.YtadblpcjkahikaaPTraceRunsx5
namespace Go.Proofs.Ytadblpcjkahikaa.PTraceRuns
open Go.RowKit Go.Proofs.YtadblpcjkahikaaW.PrintWords Go.Proofs.YtadblpcjkahikaaW.PrintLast Go.Proofs.YtadblpcjkahikaaW.PrintMore
set_option linter.unusedVariables false
set_option linter.unusedSimpArgs false
attribute [local go_sem] ans_f0 ans_f1
set_option maxHeartbeats 2000000
set_option maxRecDepth 100000
def GoodCall (c:Cf) (kd nd n:Int):Prop :=
 kd = 1∧(0 ≤ nd∧nd < c.N)∧1 ≤ n∧n ≤ 1048576 ∨ kd = 2∧(∃ (k:Nat) (ver:Int),k < c.ti∧breadlineref10_Named.f n c.ti = some ((k:Int),ver,true)) ∨ (kd = 3 ∨ kd = 4 ∨ kd = 5 ∨ kd = 6)∧0 ≤ nd∧nd < c.N
theorem leaf_l {c:Cf} (hc:c.Ok) (nd:Int):∀ (d i k:Nat),c.N = i + d→d < k→∃ b,breadlineref04_Leaf.l0 k nd (i:Int) c.th c.S c.ga c.le c.re c.ti c.pa c.li = some b∧(b = true→0 ≤ nd∧nd < c.N):=by
 have hN:c.N = c.pa.length:=rfl
 have hN2:=hc.N2
 intro d
 induction d with
 | zero =>
  intro i k h hk
  obtain ⟨k,rfl⟩:∃ m,k = m + 1:=⟨k - 1,by omega⟩
  rw [breadlineref04_Leaf.l0,if_neg (by omega)]
  split
  ·exact ⟨_,rfl,fun h=>by simp only [decide_eq_true_eq] at h;omega⟩
  ·exact ⟨_,rfl,fun h=>by simp at h⟩
 | succ d ih =>
  intro i k h hk
  obtain ⟨k,rfl⟩:∃ m,k = m + 1:=⟨k - 1,by omega⟩
  rw [breadlineref04_Leaf.l0,if_pos (by omega),if_pos (by omega)]
  split
  ·exact ⟨_,rfl,fun h=>by simp at h⟩
  ·rw [show wrap64 ((i:Int) + 1) = ((i + 1:Nat):Int) by unfold wrap64;omega]
   exact ih (i + 1) k (by omega) (by omega)
theorem check_ok {c:Cf} (hc:c.Ok) (kd nd n:Int):∃ k r,breadlineref15_Check.f k c.th c.S c.ga c.le c.re c.ti c.pa c.li kd nd n = some r∧(r = 0→GoodCall c kd nd n):=by
 obtain ⟨b,hb,hb1⟩:=leaf_l hc nd c.N 0 (c.N + 5) (by omega) (by omega)
 have hN:c.N = c.pa.length:=rfl
 have key:∀ x6,(x6 = true→1 ≤ n∧n ≤ 1048576)→∀ x5,(x5 = true→0 ≤ nd∧nd < c.N)→∃ r,breadlineref15_Check.j1 (c.N + 6) x5 x6 c.th c.S c.ga c.le c.re c.ti c.pa c.li kd nd n = some r∧(r = 0→GoodCall c kd nd n):=by
  intro x6 h6 x5 h5
  rw [breadlineref15_Check.j1]
  split
  ·rename_i h1
   unfold breadlineref04_Leaf.f
   rw [show (0:Int) = ((0:Nat):Int) from rfl,hb,Option.bind_some]
   split
   ·rename_i h2
    split
    ·rename_i h3;exact ⟨_,rfl,fun _=>.inl ⟨h1,hb1 h2,h6 h3⟩⟩
    ·exact ⟨_,rfl,fun h=>by simp at h⟩
   ·exact ⟨_,rfl,fun h=>by simp at h⟩
  ·split
   ·rename_i h1
    cases hq:breadlineref10_Named.f n c.ti with
    | none=>exact absurd hq (by unfold breadlineref10_Named.f;repeat (first|simp|split))
    | some q =>
     obtain ⟨q1,q2,q3⟩:=q
     rw [Option.bind_some]
     split
     ·rename_i h2
      dsimp only at h2;subst h2
      obtain ⟨k,hk,e⟩:=named_ok hq
      exact ⟨_,rfl,fun _=>.inr (.inl ⟨h1,k,q2,hk,by rw [hq,e]⟩)⟩
     ·exact ⟨_,rfl,fun h=>by simp at h⟩
   ·have j3:∀ y,(y = true→kd = 5 ∨ kd = 6)→∃ r,breadlineref15_Check.j3 (c.N + 4) x5 y = some r∧(r = 0→GoodCall c kd nd n):=by
     intro y hy
     rw [breadlineref15_Check.j3]
     split
     ·split
      ·rename_i h1 h2
       exact ⟨_,rfl,fun _=>.inr (.inr ⟨by have:=hy h1;omega,h5 h2⟩)⟩
      ·exact ⟨_,rfl,fun h=>by simp at h⟩
     ·exact ⟨_,rfl,fun h=>by simp at h⟩
    have j2:∀ y,(y = true→kd = 3 ∨ kd = 4)→∃ r,breadlineref15_Check.j2 (c.N + 5) x5 x6 kd y = some r∧(r = 0→GoodCall c kd nd n):=by
     intro y hy
     rw [breadlineref15_Check.j2]
     split
     ·split
      ·rename_i h1 h2
       split
       ·exact ⟨_,rfl,fun _=>.inr (.inr ⟨by have:=hy h1;omega,h5 h2⟩)⟩
       ·exact ⟨_,rfl,fun h=>by simp at h⟩
      ·exact ⟨_,rfl,fun h=>by simp at h⟩
     ·split
      ·exact j3 _ (fun h=>.inl (by simpa using h))
      ·exact j3 _ (fun h=>.inr (by simpa using h))
    split
    ·exact j2 _ (fun h=>.inl (by simpa using h))
    ·exact j2 _ (fun h=>.inr (by simpa using h))
 have key0:∀ x5,(x5 = true→0 ≤ nd∧nd < c.N)→∃ r,breadlineref15_Check.j0 (c.N + 7) x5 c.th c.S c.ga c.le c.re c.ti c.pa c.li kd nd n = some r∧(r = 0→GoodCall c kd nd n):=by
  intro x5 h5
  rw [breadlineref15_Check.j0]
  split
  ·exact key _ (fun h=>by simp only [decide_eq_true_eq] at h;omega) x5 h5
  ·exact key _ (fun h=>by simp at h) x5 h5
 refine ⟨c.N + 7,?_⟩
 unfold breadlineref15_Check.f
 split
 ·exact key0 _ (fun h=>by simp only [decide_eq_true_eq] at h;omega)
 ·exact key0 _ (fun h=>by simp at h)
theorem check_c {c:Cf} {w:World} {AP AL:Option Addr} {cP cL:Nat} (hP:Ints w (.slice AP c.pa.length cP) c.pa) (hL:Ints w (.slice AL c.li.length cL) c.li) {k:Nat} {kd nd n r:Int} (hr:breadlineref15_Check.f k c.th c.S c.ga c.le c.re c.ti c.pa c.li kd nd n = some r) :
  Calls Try.prog 25 #[(cA c AP cP AL cL),.agg #[.int .i64 kd,.int .i64 nd,.int .i64 n]] w fun e w'=>e = .returned (.int .i64 r)∧Below w.heap.size w w':=by
 obtain ⟨A1,c1,e1,h1,k1⟩:=hP.reads
 obtain ⟨A2,c2,e2,h2,k2⟩:=hL.reads
 injection e1 with e1 _ e1'
 injection e2 with e2 _ e2'
 subst e1 e1' e2 e2'
 exact breadlineref15_Check.calls k _ _ _ _ _ _ _ _ _ _ _ _ _ _ _ r w k1 h1 k2 h2 hr
theorem Is09.fr {c:Cf} {v B g:Nat} {L:List Nat} {w w':World} {x:S09} (h:Is09 c v w g x) (hf:Fr B true L w w') (hg:g ∉ L):Is09 c v w' g x:=by
 obtain ⟨AP,cP,AL,cL,hb,hP,hL⟩:=h
 exact ⟨AP,cP,AL,cL,blk_fr hb hf hg (fun _=>by decide),hP.fr hf,hL.fr hf⟩
theorem Is07.fr {bs B g:Nat} {L:List Nat} {w w':World} {x:S07} (h:Is07 bs w g x) (hf:Fr B true L w w') (hg:g ∉ L):Is07 bs w' g x:=by
 obtain ⟨AG,m,cG,hm,hb,hG⟩:=h
 exact ⟨AG,m,cG,hm,blk_fr hb hf hg (fun _=>by decide),hG.fr hf⟩
inductive M15 where
 | a (g:Nat) (x:S12)
 | e (g:Nat) (x:S13)
 | h (g v:Nat) (x:S09)
 | n (g v:Nat) (x:S07)
def own15 (g:Nat):M15→List Nat
 | .a ga x=>g :: own12 ga x
 | .e ge x=>g :: own13 ge x
 | .h gh _ _=>[g,gh]
 | .n gn _ _=>[g,gn]
def k15 (kd:Int) (a e h n:Option Nat):Array Value:=#[.int .i64 kd,.pointer (bp a),.pointer (bp e),.pointer (bp h),.pointer (bp n)]
def Is15 (c:Cf) (w:World) (g:Nat):M15→Prop
 | .a ga x=>w.heap[g]? = some (.cells (k15 1 (some ga) none none none) 86 (0,0))∧g ∉ own12 ga x∧Is12 c w ga x
 | .e ge x=>w.heap[g]? = some (.cells (k15 2 none (some ge) none none) 86 (0,0))∧g ∉ own13 ge x∧Is13 c w ge x
 | .h gh v x=>(∃ kd,(kd = 3 ∨ kd = 4)∧w.heap[g]? = some (.cells (k15 kd none none (some gh) none) 86 (0,0)))∧Is09 c v w gh x
 | .n gn v x=>(∃ kd,(kd = 5 ∨ kd = 6)∧w.heap[g]? = some (.cells (k15 kd none none none (some gn)) 86 (0,0)))∧Is07 (c.na v (2 + c.S)) w gn x
def A15 (c:Cf) (ws:List Int):M15→Prop
 | .a _ x=>A12 c ws x
 | .e _ x=>A13 c ws x
 | .h _ v x=>v < c.N∧A09 x
 | .n _ v x=>v < c.N∧A07 c x
theorem A15.to {c:Cf} {ws ws':List Int} {x:M15} (h:A15 c ws x) (hw:WTo c ws ws'):A15 c ws' x:=by
 cases x with
 | a _ x=>exact A12.to h hw
 | e _ x=>exact A13.to h hw
 | h _ _ x=>exact h
 | n _ _ x=>exact h
theorem Is15.fr {c:Cf} {B g:Nat} {L:List Nat} {w w':World} {x:M15} (h:Is15 c w g x) (hf:Fr B true L w w') (hL:∀ k ∈ own15 g x,k ∉ L):Is15 c w' g x:=by
 cases x with
 | a ga x=>exact ⟨blk_fr h.1 hf (hL g (by simp [own15])) (fun _=>by decide),h.2.1,h.2.2.fr hf (fun k hk=>hL k (by simp [own15,hk]))⟩
 | e ga x=>exact ⟨blk_fr h.1 hf (hL g (by simp [own15])) (fun _=>by decide),h.2.1,h.2.2.fr hf (fun k hk=>hL k (by simp [own15,hk]))⟩
 | h ga v x =>
  obtain ⟨⟨kd,h1,h2⟩,h3⟩:=h
  exact ⟨⟨kd,h1,blk_fr h2 hf (hL g (by simp [own15])) (fun _=>by decide)⟩,h3.fr hf (hL ga (by simp [own15]))⟩
 | n ga v x =>
  obtain ⟨⟨kd,h1,h2⟩,h3⟩:=h
  exact ⟨⟨kd,h1,blk_fr h2 hf (hL g (by simp [own15])) (fun _=>by decide)⟩,h3.fr hf (hL ga (by simp [own15]))⟩
theorem Is15.blk {c:Cf} {g:Nat} {w:World} {x:M15} (h:Is15 c w g x):∃ cs,w.heap[g]? = some (.cells cs 86 (0,0)):=by
 cases x with
 | a ga x=>exact ⟨_,h.1⟩
 | e ga x=>exact ⟨_,h.1⟩
 | h ga v x=>obtain ⟨⟨kd,h1,h2⟩,h3⟩:=h;exact ⟨_,h2⟩
 | n ga v x=>obtain ⟨⟨kd,h1,h2⟩,h3⟩:=h;exact ⟨_,h2⟩
theorem Is15.lt_a {c:Cf} {w:World} {g ga:Nat} {x:S12} (h:Is15 c w g (.a ga x)) (h1:x.gp = none) (h2:x.ga = none):∀ k ∈ own15 g (.a ga x),k < w.heap.size:=fun k hk=>by
 obtain ⟨hb,_,hi⟩:=h
 obtain ⟨_,_,_,_,_,_,_,_,hb2,_⟩:=hi.b
 obtain ⟨_,_,_,_,hb3,_⟩:=hi.cl
 simp [own15,own12,h1,h2] at hk
 rcases hk with rfl|rfl|rfl
 ·exact blk_lt hb
 ·exact blk_lt hb2
 ·exact blk_lt hb3
theorem Is15.lt_e {c:Cf} {w:World} {g ga:Nat} {x:S13} (h:Is15 c w g (.e ga x)) (h2:x.ga = none):∀ k ∈ own15 g (.e ga x),k < w.heap.size:=fun k hk=>by
 obtain ⟨hb,_,hi⟩:=h
 obtain ⟨_,_,_,_,_,_,_,hb2,_⟩:=hi.b
 simp [own15,own13,h2] at hk
 rcases hk with rfl|rfl
 ·exact blk_lt hb
 ·exact blk_lt hb2
theorem Is15.lt_h {c:Cf} {w:World} {g ga v:Nat} {x:S09} (h:Is15 c w g (.h ga v x)):∀ k ∈ own15 g (.h ga v x),k < w.heap.size:=fun k hk=>by
 obtain ⟨⟨_,_,hb⟩,_,_,_,_,hb2,_⟩:=h
 simp [own15] at hk
 rcases hk with rfl|rfl
 ·exact blk_lt hb
 ·exact blk_lt hb2
theorem Is15.lt_n {c:Cf} {w:World} {g ga v:Nat} {x:S07} (h:Is15 c w g (.n ga v x)):∀ k ∈ own15 g (.n ga v x),k < w.heap.size:=fun k hk=>by
 obtain ⟨⟨_,_,hb⟩,_,_,_,_,hb2,_⟩:=h
 simp [own15] at hk
 rcases hk with rfl|rfl
 ·exact blk_lt hb
 ·exact blk_lt hb2
def P15 (c:Cf) (B gm g:Nat) (x:M15) (ws:List Int) (n:Nat) (w:World) (e:Ending) (w':World):Prop :=
 ∃ b x' ws' n',e = .returned (.bool b)∧Is15 c w' g x'∧A15 c ws' x'∧MemIs B w' gm ws' n'∧WTo c ws ws'∧n ≤ n'∧n' ≤ n + 1∧Fr B true (own15 g x) w w'∧∀ k ∈ own15 g x',k ∈ own15 g x ∨ w.heap.size ≤ k∧k < w'.heap.size
theorem step15_a {c:Cf} (hc:c.Ok) {B gm g n:Nat} {w:World} {ws:List Int} (hm:MemIs B w gm ws n) (hw:WOk c ws) (hn:n ≤ 1000000) {gi:Nat} {x:S12} (hB:∀ k ∈ own15 g (.a gi x),B ≤ k) (hg:w.heap[g]? = some (.cells (k15 1 (some gi) none none none) 86 (0,0))) (hne:g ∉ own12 gi x) (hi:Is12 c w gi x) (ha:A12 c ws x) :
  Calls Try.prog 28 #[.pointer (some ⟨g,0,none⟩),.pointer (some ⟨gm,0,none⟩)] w (P15 c B gm g (.a gi x) ws n w):=by
 have hg':w.heap[g]? = some (.cells #[.int .i64 1,.pointer (some ⟨gi,0,none⟩),.pointer none,.pointer none,.pointer none] 86 (0,0)):=hg
 have HG:=Lib.hid hg
 have HC:=Lib.hid hc
 have HM:=Lib.hid hm
 have HW:=Lib.hid hw
 have HI:=Lib.hid hi
 have HA:=Lib.hid ha
 have HBO:Hid (∀ k ∈ own12 gi x,B ≤ k):=Lib.hid (fun k hk=>hB k (by simp [own15,hk]))
 have HNE:=Lib.hid hne
 have C_g:=cells5 hg'
 clear hc hm hw hg hg' hB ha hi hne
 go_enter Try.func28,Try.ntmps28
 go_wp2_with (go_at_call 44;(with_reducible refine (step12 HC.out HM.out HW.out hn HBO.out HI.out HA.out).mono ?_);rintro e W1 ⟨b,x1,ws1,n1,rfl,h1,h2,h3,h4,h5,h6,h7,h8⟩;clear C_g;have H1:=Lib.hid h1;have H2:=Lib.hid h2;have H3:=Lib.hid h3;have H4:=Lib.hid h4;have H5:=Lib.hid h5;have H6:=Lib.hid h6;have H7:=Lib.hid h7;have H8:=Lib.hid h8;clear h8;clear h1 h2 h3 h4 h5 h6 h7)
 go_ret
 exact ⟨b,.a gi x1,ws1,n1,rfl,⟨blk_fr HG.out H7.out HNE.out (fun _=>by decide),fun h=>by rcases H8.out g h with h|h;exact HNE.out h;have:=blk_lt HG.out;omega,H1.out⟩,H2.out,H3.out,H4.out,H5.out,H6.out,H7.out.mono id (fun k hk=>List.mem_cons_of_mem _ hk),fun k hk=>by rcases List.mem_cons.1 hk with h|h;exact .inl (h ▸ List.mem_cons_self);rcases H8.out k h with h|h;exact .inl (List.mem_cons_of_mem _ h);exact .inr h⟩
theorem step15_e {c:Cf} (hc:c.Ok) {B gm g n:Nat} {w:World} {ws:List Int} (hm:MemIs B w gm ws n) (hw:WOk c ws) (hn:n ≤ 1000000) {gi:Nat} {x:S13} (hB:∀ k ∈ own15 g (.e gi x),B ≤ k) (hg:w.heap[g]? = some (.cells (k15 2 none (some gi) none none) 86 (0,0))) (hne:g ∉ own13 gi x) (hi:Is13 c w gi x) (ha:A13 c ws x) :
  Calls Try.prog 28 #[.pointer (some ⟨g,0,none⟩),.pointer (some ⟨gm,0,none⟩)] w (P15 c B gm g (.e gi x) ws n w):=by
 have hg':w.heap[g]? = some (.cells #[.int .i64 2,.pointer none,.pointer (some ⟨gi,0,none⟩),.pointer none,.pointer none] 86 (0,0)):=hg
 have HG:=Lib.hid hg
 have HC:=Lib.hid hc
 have HM:=Lib.hid hm
 have HW:=Lib.hid hw
 have HI:=Lib.hid hi
 have HA:=Lib.hid ha
 have HBO:Hid (∀ k ∈ own13 gi x,B ≤ k):=Lib.hid (fun k hk=>hB k (by simp [own15,hk]))
 have HNE:=Lib.hid hne
 have C_g:=cells5 hg'
 clear hc hm hw hg hg' hB ha hi hne
 go_enter Try.func28,Try.ntmps28
 go_wp2_with (go_at_call 45;(with_reducible refine (step13 HC.out HM.out HW.out hn HBO.out HI.out HA.out).mono ?_);rintro e W1 ⟨b,x1,ws1,n1,rfl,h1,h2,h3,h4,h5,h6,h7,h8⟩;clear C_g;have H1:=Lib.hid h1;have H2:=Lib.hid h2;have H3:=Lib.hid h3;have H4:=Lib.hid h4;have H5:=Lib.hid h5;have H6:=Lib.hid h6;have H7:=Lib.hid h7;have H8:=Lib.hid h8;clear h8;clear h1 h2 h3 h4 h5 h6 h7)
 go_ret
 exact ⟨b,.e gi x1,ws1,n1,rfl,⟨blk_fr HG.out H7.out HNE.out (fun _=>by decide),fun h=>by rcases H8.out g h with h|h;exact HNE.out h;have:=blk_lt HG.out;omega,H1.out⟩,H2.out,H3.out,H4.out,H5.out,H6.out,H7.out.mono id (fun k hk=>List.mem_cons_of_mem _ hk),fun k hk=>by rcases List.mem_cons.1 hk with h|h;exact .inl (h ▸ List.mem_cons_self);rcases H8.out k h with h|h;exact .inl (List.mem_cons_of_mem _ h);exact .inr h⟩
theorem step15_h3 {c:Cf} (hc:c.Ok) {B gm g n:Nat} {w:World} {ws:List Int} (hm:MemIs B w gm ws n) (hw:WOk c ws) (hn:n ≤ 1000000) {gi v:Nat} {x:S09} (hB:∀ k ∈ own15 g (.h gi v x),B ≤ k) (hg:w.heap[g]? = some (.cells (k15 3 none none (some gi) none) 86 (0,0))) (hi:Is09 c v w gi x) (ha:A09 x) (hv:v < c.N) :
  Calls Try.prog 28 #[.pointer (some ⟨g,0,none⟩),.pointer (some ⟨gm,0,none⟩)] w (P15 c B gm g (.h gi v x) ws n w):=by
 have hg':w.heap[g]? = some (.cells #[.int .i64 3,.pointer none,.pointer none,.pointer (some ⟨gi,0,none⟩),.pointer none] 86 (0,0)):=hg
 have HG:=Lib.hid hg
 have HC:=Lib.hid hc
 have HM:=Lib.hid hm
 have HW:=Lib.hid hw
 have HI:=Lib.hid hi
 have HA:=Lib.hid ha
 have HBO:Hid (B ≤ gi):=Lib.hid (hB gi (by simp [own15]))
 have HV:=Lib.hid hv
 obtain ⟨_,_,_,_,hb,_⟩:=hi
 have HNE:Hid (g ∉ [gi]):=Lib.hid (by rw [List.mem_singleton];exact ne_type hg hb (by decide))
 clear hb
 have C_g:=cells5 hg'
 clear hc hm hw hg hg' hB ha hv
 go_enter Try.func28,Try.ntmps28
 go_wp2_with (go_at_call 46;(with_reducible refine (step09 HC.out HV.out HM.out HW.out hn HBO.out HI.out HA.out).mono ?_);rintro e W1 ⟨b,x1,ws1,n1,rfl,h1,h2,h3,h4,h5,h6,h7⟩;clear C_g;have H1:=Lib.hid h1;have H2:=Lib.hid h2;have H3:=Lib.hid h3;have H4:=Lib.hid h4;have H5:=Lib.hid h5;have H6:=Lib.hid h6;have H7:=Lib.hid h7;clear h1 h2 h3 h4 h5 h6 h7)
 go_ret
 exact ⟨b,.h gi v x1,ws1,n1,rfl,⟨⟨3,by simp,blk_fr HG.out H7.out HNE.out (fun _=>by decide)⟩,H1.out⟩,⟨HV.out,H2.out⟩,H3.out,H4.out,H5.out,H6.out,H7.out.mono id (fun k hk=>List.mem_cons_of_mem _ hk),fun k hk=>.inl hk⟩
theorem step15_h4 {c:Cf} (hc:c.Ok) {B gm g n:Nat} {w:World} {ws:List Int} (hm:MemIs B w gm ws n) (hw:WOk c ws) (hn:n ≤ 1000000) {gi v:Nat} {x:S09} (hB:∀ k ∈ own15 g (.h gi v x),B ≤ k) (hg:w.heap[g]? = some (.cells (k15 4 none none (some gi) none) 86 (0,0))) (hi:Is09 c v w gi x) (ha:A09 x) (hv:v < c.N) :
  Calls Try.prog 28 #[.pointer (some ⟨g,0,none⟩),.pointer (some ⟨gm,0,none⟩)] w (P15 c B gm g (.h gi v x) ws n w):=by
 have hg':w.heap[g]? = some (.cells #[.int .i64 4,.pointer none,.pointer none,.pointer (some ⟨gi,0,none⟩),.pointer none] 86 (0,0)):=hg
 have HG:=Lib.hid hg
 have HC:=Lib.hid hc
 have HM:=Lib.hid hm
 have HW:=Lib.hid hw
 have HI:=Lib.hid hi
 have HA:=Lib.hid ha
 have HBO:Hid (B ≤ gi):=Lib.hid (hB gi (by simp [own15]))
 have HV:=Lib.hid hv
 obtain ⟨_,_,_,_,hb,_⟩:=hi
 have HNE:Hid (g ∉ [gi]):=Lib.hid (by rw [List.mem_singleton];exact ne_type hg hb (by decide))
 clear hb
 have C_g:=cells5 hg'
 clear hc hm hw hg hg' hB ha hv
 go_enter Try.func28,Try.ntmps28
 go_wp2_with (go_at_call 46;(with_reducible refine (step09 HC.out HV.out HM.out HW.out hn HBO.out HI.out HA.out).mono ?_);rintro e W1 ⟨b,x1,ws1,n1,rfl,h1,h2,h3,h4,h5,h6,h7⟩;clear C_g;have H1:=Lib.hid h1;have H2:=Lib.hid h2;have H3:=Lib.hid h3;have H4:=Lib.hid h4;have H5:=Lib.hid h5;have H6:=Lib.hid h6;have H7:=Lib.hid h7;clear h1 h2 h3 h4 h5 h6 h7)
 go_ret
 exact ⟨b,.h gi v x1,ws1,n1,rfl,⟨⟨4,by simp,blk_fr HG.out H7.out HNE.out (fun _=>by decide)⟩,H1.out⟩,⟨HV.out,H2.out⟩,H3.out,H4.out,H5.out,H6.out,H7.out.mono id (fun k hk=>List.mem_cons_of_mem _ hk),fun k hk=>.inl hk⟩
theorem step15_n5 {c:Cf} (hc:c.Ok) {B gm g n:Nat} {w:World} {ws:List Int} (hm:MemIs B w gm ws n) (hw:WOk c ws) (hn:n ≤ 1000000) {gi v:Nat} {x:S07} (hB:∀ k ∈ own15 g (.n gi v x),B ≤ k) (hg:w.heap[g]? = some (.cells (k15 5 none none none (some gi)) 86 (0,0))) (hi:Is07 (c.na v (2 + c.S)) w gi x) (ha:A07 c x) (hv:v < c.N) :
  Calls Try.prog 28 #[.pointer (some ⟨g,0,none⟩),.pointer (some ⟨gm,0,none⟩)] w (P15 c B gm g (.n gi v x) ws n w):=by
 have hg':w.heap[g]? = some (.cells #[.int .i64 5,.pointer none,.pointer none,.pointer none,.pointer (some ⟨gi,0,none⟩)] 86 (0,0)):=hg
 have HG:=Lib.hid hg
 have HC:=Lib.hid hc
 have HM:=Lib.hid hm
 have HW:=Lib.hid hw
 have HI:=Lib.hid hi
 have HA:=Lib.hid ha
 have HBO:Hid (B ≤ gi):=Lib.hid (hB gi (by simp [own15]))
 have HV:=Lib.hid hv
 obtain ⟨_,_,_,_,hb,_⟩:=hi
 have HNE:Hid (g ∉ [gi]):=Lib.hid (by rw [List.mem_singleton];exact ne_type hg hb (by decide))
 clear hb
 have C_g:=cells5 hg'
 clear hc hm hw hg hg' hB ha hv
 go_enter Try.func28,Try.ntmps28
 go_wp2_with (go_at_call 47;(with_reducible refine (step07 HC.out HV.out HM.out HW.out hn HBO.out HI.out HA.out).mono ?_);rintro e W1 ⟨b,x1,ws1,n1,rfl,h1,h2,h3,h4,h5,h6,h7⟩;clear C_g;have H1:=Lib.hid h1;have H2:=Lib.hid h2;have H3:=Lib.hid h3;have H4:=Lib.hid h4;have H5:=Lib.hid h5;have H6:=Lib.hid h6;have H7:=Lib.hid h7;clear h1 h2 h3 h4 h5 h6 h7)
 go_ret
 exact ⟨b,.n gi v x1,ws1,n1,rfl,⟨⟨5,by simp,blk_fr HG.out H7.out HNE.out (fun _=>by decide)⟩,H1.out⟩,⟨HV.out,H2.out⟩,H3.out,H4.out,H5.out,H6.out,H7.out.mono id (fun k hk=>List.mem_cons_of_mem _ hk),fun k hk=>.inl hk⟩
theorem step15_n6 {c:Cf} (hc:c.Ok) {B gm g n:Nat} {w:World} {ws:List Int} (hm:MemIs B w gm ws n) (hw:WOk c ws) (hn:n ≤ 1000000) {gi v:Nat} {x:S07} (hB:∀ k ∈ own15 g (.n gi v x),B ≤ k) (hg:w.heap[g]? = some (.cells (k15 6 none none none (some gi)) 86 (0,0))) (hi:Is07 (c.na v (2 + c.S)) w gi x) (ha:A07 c x) (hv:v < c.N) :
  Calls Try.prog 28 #[.pointer (some ⟨g,0,none⟩),.pointer (some ⟨gm,0,none⟩)] w (P15 c B gm g (.n gi v x) ws n w):=by
 have hg':w.heap[g]? = some (.cells #[.int .i64 6,.pointer none,.pointer none,.pointer none,.pointer (some ⟨gi,0,none⟩)] 86 (0,0)):=hg
 have HG:=Lib.hid hg
 have HC:=Lib.hid hc
 have HM:=Lib.hid hm
 have HW:=Lib.hid hw
 have HI:=Lib.hid hi
 have HA:=Lib.hid ha
 have HBO:Hid (B ≤ gi):=Lib.hid (hB gi (by simp [own15]))
 have HV:=Lib.hid hv
 obtain ⟨_,_,_,_,hb,_⟩:=hi
 have HNE:Hid (g ∉ [gi]):=Lib.hid (by rw [List.mem_singleton];exact ne_type hg hb (by decide))
 clear hb
 have C_g:=cells5 hg'
 clear hc hm hw hg hg' hB ha hv
 go_enter Try.func28,Try.ntmps28
 go_wp2_with (go_at_call 47;(with_reducible refine (step07 HC.out HV.out HM.out HW.out hn HBO.out HI.out HA.out).mono ?_);rintro e W1 ⟨b,x1,ws1,n1,rfl,h1,h2,h3,h4,h5,h6,h7⟩;clear C_g;have H1:=Lib.hid h1;have H2:=Lib.hid h2;have H3:=Lib.hid h3;have H4:=Lib.hid h4;have H5:=Lib.hid h5;have H6:=Lib.hid h6;have H7:=Lib.hid h7;clear h1 h2 h3 h4 h5 h6 h7)
 go_ret
 exact ⟨b,.n gi v x1,ws1,n1,rfl,⟨⟨6,by simp,blk_fr HG.out H7.out HNE.out (fun _=>by decide)⟩,H1.out⟩,⟨HV.out,H2.out⟩,H3.out,H4.out,H5.out,H6.out,H7.out.mono id (fun k hk=>List.mem_cons_of_mem _ hk),fun k hk=>.inl hk⟩
theorem step15 {c:Cf} (hc:c.Ok) {B gm g n:Nat} {w:World} {ws:List Int} (hm:MemIs B w gm ws n) (hw:WOk c ws) (hn:n ≤ 1000000) {x:M15} (hB:∀ k ∈ own15 g x,B ≤ k) (hi:Is15 c w g x) (ha:A15 c ws x) :
  Calls Try.prog 28 #[.pointer (some ⟨g,0,none⟩),.pointer (some ⟨gm,0,none⟩)] w (P15 c B gm g x ws n w):=by
 cases x with
 | a ga x=>exact step15_a hc hm hw hn hB hi.1 hi.2.1 hi.2.2 ha
 | e ga x=>exact step15_e hc hm hw hn hB hi.1 hi.2.1 hi.2.2 ha
 | h ga v x =>
  obtain ⟨⟨kd,h1,h2⟩,h3⟩:=hi
  rcases h1 with h1|h1 <;> subst h1
  ·exact step15_h3 hc hm hw hn hB h2 h3 ha.2 ha.1
  ·exact step15_h4 hc hm hw hn hB h2 h3 ha.2 ha.1
 | n ga v x =>
  obtain ⟨⟨kd,h1,h2⟩,h3⟩:=hi
  rcases h1 with h1|h1 <;> subst h1
  ·exact step15_n5 hc hm hw hn hB h2 h3 ha.2 ha.1
  ·exact step15_n6 hc hm hw hn hB h2 h3 ha.2 ha.1
theorem ans15_a {w:World} {g gi:Nat} (hg:w.heap[g]? = some (.cells (k15 1 (some gi) none none none) 86 (0,0))) {c:Cf} {x:S12} (hx:Is12 c w gi x) :
  Calls Try.prog 29 #[.pointer (some ⟨g,0,none⟩)] w fun e w'=>∃ a0 a1 a2 a3,e = .returned (.agg #[.int .i64 a0,.int .i64 a1,.bool a2,.int .i64 a3])∧Below w.heap.size w w':=by
 have HB0_g:Hid (w.heap[g]? = some (.cells #[.int .i64 1,.pointer (some ⟨gi,0,none⟩),.pointer none,.pointer none,.pointer none] 86 (0,0))):=Lib.hid hg
 have HX:=Lib.hid hx
 have HS0:Hid (Mk w w):=Lib.hid (Mk.refl w)
 clear hg hx
 have C_g:=cells5 HB0_g.out
 go_enter Try.func29,Try.ntmps29
 go_wp2_with (first|((with_reducible refine gate_dst (N:=2) rfl ?_);refine box_event ?hg (N:=2) ?hd (cs:=#[.int .i64 0,.int .i64 0,.bool false,.int .i64 0]) (t:=46) ?hr ?_;(case hd=>rfl);(case hg=>rfl);(case hr=>first|(go_simp;done)|(go_simp;rfl));intro gr hg W1 hbox hb';have HG_gr:Hid (w.heap.size ≤ gr):=Lib.hid (by rw [hg];exact HS0.out.size);have HS1:=Lib.hid ((HS0.out.below hb'));have HB1_g:Hid (W1.heap[g]? = some (.cells (#[.int .i64 1,.pointer (some ⟨gi,0,none⟩),.pointer none,.pointer none,.pointer none]:Array Value) 86 (0,0))):=Lib.hid (blk_below HB0_g.out hb');have HB1_gr:Hid (W1.heap[gr]? = some (.cells (#[.int .i64 0,.int .i64 0,.bool false,.int .i64 0]:Array Value) 46 (0,0))):=Lib.hid (hbox);replace C_g:=cells5 HB1_g.out;have C_gr:=cells4 HB1_gr.out;clear hb' hbox hg;have ne1:g ≠ gr:=(by have:=blk_lt HB0_g.out;have:=HG_gr.out;omega);have ne2:=Ne.symm ne1)|(go_at_call 48;(with_reducible refine (ans12 (HX.out.fr (Fr.of_below HS1.out.b 0 true []) (by simp))).mono ?_);rintro e W2 ⟨a0,a1,a2,a3,rfl,hb'⟩;have HS2:=Lib.hid (HS1.out.below hb');have HB2_g:=Lib.hid (blk_below HB1_g.out hb');have HB2_gr:=Lib.hid (blk_below HB1_gr.out hb');clear C_g C_gr;have C_g:=cells5 HB2_g.out;have C_gr:=cells4 HB2_gr.out;clear hb'))
 refine bodyPost_ret (results_cell_row rfl _ _ gr 46 (#[.int .i64 a0,.int .i64 a1,.bool a2,.int .i64 a3]:Array Value) (0,0) _ rfl ((blk_set' (blk_set' (blk_set' (blk_set' HB2_gr.out 0 (.int .i64 a0) rfl) 1 (.int .i64 a1) rfl) 2 (.bool a2) rfl) 3 (.int .i64 a3) rfl)) Try.underlying46 rfl (by kernel_rfl)) rfl ?_
 exact ⟨_,_,_,_,rfl,(Mk.set (Mk.set (Mk.set (Mk.set HS2.out HG_gr.out 0 (.int .i64 a0)) HG_gr.out 1 (.int .i64 a1)) HG_gr.out 2 (.bool a2)) HG_gr.out 3 (.int .i64 a3))⟩
theorem ans15_e {w:World} {g gi:Nat} (hg:w.heap[g]? = some (.cells (k15 2 none (some gi) none none) 86 (0,0))) {c:Cf} {x:S13} (hx:Is13 c w gi x) :
  Calls Try.prog 29 #[.pointer (some ⟨g,0,none⟩)] w fun e w'=>∃ a0 a1 a2 a3,e = .returned (.agg #[.int .i64 a0,.int .i64 a1,.bool a2,.int .i64 a3])∧Below w.heap.size w w':=by
 obtain ⟨⟨AP,cP,AL,cL,A2,m,c2,hx,_⟩,_⟩:=hx
 have HB0_g:Hid (w.heap[g]? = some (.cells #[.int .i64 2,.pointer none,.pointer (some ⟨gi,0,none⟩),.pointer none,.pointer none] 86 (0,0))):=Lib.hid hg
 have HX:=Lib.hid hx
 have HS0:Hid (Mk w w):=Lib.hid (Mk.refl w)
 clear hg hx
 have C_g:=cells5 HB0_g.out
 go_enter Try.func29,Try.ntmps29
 go_wp2_with (first|((with_reducible refine gate_dst (N:=2) rfl ?_);refine box_event ?hg (N:=2) ?hd (cs:=#[.int .i64 0,.int .i64 0,.bool false,.int .i64 0]) (t:=46) ?hr ?_;(case hd=>rfl);(case hg=>rfl);(case hr=>first|(go_simp;done)|(go_simp;rfl));intro gr hg W1 hbox hb';have HG_gr:Hid (w.heap.size ≤ gr):=Lib.hid (by rw [hg];exact HS0.out.size);have HS1:=Lib.hid ((HS0.out.below hb'));have HB1_g:Hid (W1.heap[g]? = some (.cells (#[.int .i64 2,.pointer none,.pointer (some ⟨gi,0,none⟩),.pointer none,.pointer none]:Array Value) 86 (0,0))):=Lib.hid (blk_below HB0_g.out hb');have HB1_gr:Hid (W1.heap[gr]? = some (.cells (#[.int .i64 0,.int .i64 0,.bool false,.int .i64 0]:Array Value) 46 (0,0))):=Lib.hid (hbox);replace C_g:=cells5 HB1_g.out;have C_gr:=cells4 HB1_gr.out;clear hb' hbox hg;have ne1:g ≠ gr:=(by have:=blk_lt HB0_g.out;have:=HG_gr.out;omega);have ne2:=Ne.symm ne1)|(go_at_call 49;(with_reducible refine (ans13 (blk_fr HX.out (Fr.of_below HS1.out.b 0 true []) (by simp) (fun _=>by decide))).mono ?_);rintro e W2 ⟨a0,a1,a2,a3,rfl,hb'⟩;have HS2:=Lib.hid (HS1.out.below hb');have HB2_g:=Lib.hid (blk_below HB1_g.out hb');have HB2_gr:=Lib.hid (blk_below HB1_gr.out hb');clear C_g C_gr;have C_g:=cells5 HB2_g.out;have C_gr:=cells4 HB2_gr.out;clear hb'))
 refine bodyPost_ret (results_cell_row rfl _ _ gr 46 (#[.int .i64 a0,.int .i64 a1,.bool a2,.int .i64 a3]:Array Value) (0,0) _ rfl ((blk_set' (blk_set' (blk_set' (blk_set' HB2_gr.out 0 (.int .i64 a0) rfl) 1 (.int .i64 a1) rfl) 2 (.bool a2) rfl) 3 (.int .i64 a3) rfl)) Try.underlying46 rfl (by kernel_rfl)) rfl ?_
 exact ⟨_,_,_,_,rfl,(Mk.set (Mk.set (Mk.set (Mk.set HS2.out HG_gr.out 0 (.int .i64 a0)) HG_gr.out 1 (.int .i64 a1)) HG_gr.out 2 (.bool a2)) HG_gr.out 3 (.int .i64 a3))⟩
theorem ans15_h3 {w:World} {g gi:Nat} (hg:w.heap[g]? = some (.cells (k15 3 none none (some gi) none) 86 (0,0))) {c:Cf} {v:Nat} {x:S09} (hx:Is09 c v w gi x) :
  Calls Try.prog 29 #[.pointer (some ⟨g,0,none⟩)] w fun e w'=>∃ a0 a1 a2 a3,e = .returned (.agg #[.int .i64 a0,.int .i64 a1,.bool a2,.int .i64 a3])∧Below w.heap.size w w':=by
 obtain ⟨AP,cP,AL,cL,hx,_⟩:=hx
 have HB0_g:Hid (w.heap[g]? = some (.cells #[.int .i64 3,.pointer none,.pointer none,.pointer (some ⟨gi,0,none⟩),.pointer none] 86 (0,0))):=Lib.hid hg
 have HX:=Lib.hid hx
 have HS0:Hid (Mk w w):=Lib.hid (Mk.refl w)
 clear hg hx
 have C_g:=cells5 HB0_g.out
 go_enter Try.func29,Try.ntmps29
 go_wp2_with (first|((with_reducible refine gate_dst (N:=2) rfl ?_);refine box_event ?hg (N:=2) ?hd (cs:=#[.int .i64 0,.int .i64 0,.bool false,.int .i64 0]) (t:=46) ?hr ?_;(case hd=>rfl);(case hg=>rfl);(case hr=>first|(go_simp;done)|(go_simp;rfl));intro gr hg W1 hbox hb';have HG_gr:Hid (w.heap.size ≤ gr):=Lib.hid (by rw [hg];exact HS0.out.size);have HS1:=Lib.hid ((HS0.out.below hb'));have HB1_g:Hid (W1.heap[g]? = some (.cells (#[.int .i64 3,.pointer none,.pointer none,.pointer (some ⟨gi,0,none⟩),.pointer none]:Array Value) 86 (0,0))):=Lib.hid (blk_below HB0_g.out hb');have HB1_gr:Hid (W1.heap[gr]? = some (.cells (#[.int .i64 0,.int .i64 0,.bool false,.int .i64 0]:Array Value) 46 (0,0))):=Lib.hid (hbox);replace C_g:=cells5 HB1_g.out;have C_gr:=cells4 HB1_gr.out;clear hb' hbox hg;have ne1:g ≠ gr:=(by have:=blk_lt HB0_g.out;have:=HG_gr.out;omega);have ne2:=Ne.symm ne1)|(go_at_call 50;(with_reducible refine (ans09 (blk_fr HX.out (Fr.of_below HS1.out.b 0 true []) (by simp) (fun _=>by decide))).mono ?_);rintro e W2 ⟨a0,a1,a2,a3,rfl,hb'⟩;have HS2:=Lib.hid (HS1.out.below hb');have HB2_g:=Lib.hid (blk_below HB1_g.out hb');have HB2_gr:=Lib.hid (blk_below HB1_gr.out hb');clear C_g C_gr;have C_g:=cells5 HB2_g.out;have C_gr:=cells4 HB2_gr.out;clear hb'))
 refine bodyPost_ret (results_cell_row rfl _ _ gr 46 (#[.int .i64 a0,.int .i64 a1,.bool a2,.int .i64 a3]:Array Value) (0,0) _ rfl ((blk_set' (blk_set' (blk_set' (blk_set' HB2_gr.out 0 (.int .i64 a0) rfl) 1 (.int .i64 a1) rfl) 2 (.bool a2) rfl) 3 (.int .i64 a3) rfl)) Try.underlying46 rfl (by kernel_rfl)) rfl ?_
 exact ⟨_,_,_,_,rfl,(Mk.set (Mk.set (Mk.set (Mk.set HS2.out HG_gr.out 0 (.int .i64 a0)) HG_gr.out 1 (.int .i64 a1)) HG_gr.out 2 (.bool a2)) HG_gr.out 3 (.int .i64 a3))⟩
theorem ans15_h4 {w:World} {g gi:Nat} (hg:w.heap[g]? = some (.cells (k15 4 none none (some gi) none) 86 (0,0))) {c:Cf} {v:Nat} {x:S09} (hx:Is09 c v w gi x) :
  Calls Try.prog 29 #[.pointer (some ⟨g,0,none⟩)] w fun e w'=>∃ a0 a1 a2 a3,e = .returned (.agg #[.int .i64 a0,.int .i64 a1,.bool a2,.int .i64 a3])∧Below w.heap.size w w':=by
 obtain ⟨AP,cP,AL,cL,hx,_⟩:=hx
 have HB0_g:Hid (w.heap[g]? = some (.cells #[.int .i64 4,.pointer none,.pointer none,.pointer (some ⟨gi,0,none⟩),.pointer none] 86 (0,0))):=Lib.hid hg
 have HX:=Lib.hid hx
 have HS0:Hid (Mk w w):=Lib.hid (Mk.refl w)
 clear hg hx
 have C_g:=cells5 HB0_g.out
 go_enter Try.func29,Try.ntmps29
 go_wp2_with (first|((with_reducible refine gate_dst (N:=2) rfl ?_);refine box_event ?hg (N:=2) ?hd (cs:=#[.int .i64 0,.int .i64 0,.bool false,.int .i64 0]) (t:=46) ?hr ?_;(case hd=>rfl);(case hg=>rfl);(case hr=>first|(go_simp;done)|(go_simp;rfl));intro gr hg W1 hbox hb';have HG_gr:Hid (w.heap.size ≤ gr):=Lib.hid (by rw [hg];exact HS0.out.size);have HS1:=Lib.hid ((HS0.out.below hb'));have HB1_g:Hid (W1.heap[g]? = some (.cells (#[.int .i64 4,.pointer none,.pointer none,.pointer (some ⟨gi,0,none⟩),.pointer none]:Array Value) 86 (0,0))):=Lib.hid (blk_below HB0_g.out hb');have HB1_gr:Hid (W1.heap[gr]? = some (.cells (#[.int .i64 0,.int .i64 0,.bool false,.int .i64 0]:Array Value) 46 (0,0))):=Lib.hid (hbox);replace C_g:=cells5 HB1_g.out;have C_gr:=cells4 HB1_gr.out;clear hb' hbox hg;have ne1:g ≠ gr:=(by have:=blk_lt HB0_g.out;have:=HG_gr.out;omega);have ne2:=Ne.symm ne1)|(go_at_call 50;(with_reducible refine (ans09 (blk_fr HX.out (Fr.of_below HS1.out.b 0 true []) (by simp) (fun _=>by decide))).mono ?_);rintro e W2 ⟨a0,a1,a2,a3,rfl,hb'⟩;have HS2:=Lib.hid (HS1.out.below hb');have HB2_g:=Lib.hid (blk_below HB1_g.out hb');have HB2_gr:=Lib.hid (blk_below HB1_gr.out hb');clear C_g C_gr;have C_g:=cells5 HB2_g.out;have C_gr:=cells4 HB2_gr.out;clear hb'))
 refine bodyPost_ret (results_cell_row rfl _ _ gr 46 (#[.int .i64 a0,.int .i64 a1,.bool a2,.int .i64 a3]:Array Value) (0,0) _ rfl ((blk_set' (blk_set' (blk_set' (blk_set' HB2_gr.out 0 (.int .i64 a0) rfl) 1 (.int .i64 a1) rfl) 2 (.bool a2) rfl) 3 (.int .i64 a3) rfl)) Try.underlying46 rfl (by kernel_rfl)) rfl ?_
 exact ⟨_,_,_,_,rfl,(Mk.set (Mk.set (Mk.set (Mk.set HS2.out HG_gr.out 0 (.int .i64 a0)) HG_gr.out 1 (.int .i64 a1)) HG_gr.out 2 (.bool a2)) HG_gr.out 3 (.int .i64 a3))⟩
theorem ans15_n5 {w:World} {g gi:Nat} (hg:w.heap[g]? = some (.cells (k15 5 none none none (some gi)) 86 (0,0))) {bs:Nat} {x:S07} (hx:Is07 bs w gi x) :
  Calls Try.prog 29 #[.pointer (some ⟨g,0,none⟩)] w fun e w'=>∃ a0 a1 a2 a3,e = .returned (.agg #[.int .i64 a0,.int .i64 a1,.bool a2,.int .i64 a3])∧Below w.heap.size w w':=by
 obtain ⟨AG,m,cG,_,hx,_⟩:=hx
 have HB0_g:Hid (w.heap[g]? = some (.cells #[.int .i64 5,.pointer none,.pointer none,.pointer none,.pointer (some ⟨gi,0,none⟩)] 86 (0,0))):=Lib.hid hg
 have HX:=Lib.hid hx
 have HS0:Hid (Mk w w):=Lib.hid (Mk.refl w)
 clear hg hx
 have C_g:=cells5 HB0_g.out
 go_enter Try.func29,Try.ntmps29
 go_wp2_with (first|((with_reducible refine gate_dst (N:=2) rfl ?_);refine box_event ?hg (N:=2) ?hd (cs:=#[.int .i64 0,.int .i64 0,.bool false,.int .i64 0]) (t:=46) ?hr ?_;(case hd=>rfl);(case hg=>rfl);(case hr=>first|(go_simp;done)|(go_simp;rfl));intro gr hg W1 hbox hb';have HG_gr:Hid (w.heap.size ≤ gr):=Lib.hid (by rw [hg];exact HS0.out.size);have HS1:=Lib.hid ((HS0.out.below hb'));have HB1_g:Hid (W1.heap[g]? = some (.cells (#[.int .i64 5,.pointer none,.pointer none,.pointer none,.pointer (some ⟨gi,0,none⟩)]:Array Value) 86 (0,0))):=Lib.hid (blk_below HB0_g.out hb');have HB1_gr:Hid (W1.heap[gr]? = some (.cells (#[.int .i64 0,.int .i64 0,.bool false,.int .i64 0]:Array Value) 46 (0,0))):=Lib.hid (hbox);replace C_g:=cells5 HB1_g.out;have C_gr:=cells4 HB1_gr.out;clear hb' hbox hg;have ne1:g ≠ gr:=(by have:=blk_lt HB0_g.out;have:=HG_gr.out;omega);have ne2:=Ne.symm ne1)|(go_at_call 51;(with_reducible refine (ans07 (blk_fr HX.out (Fr.of_below HS1.out.b 0 true []) (by simp) (fun _=>by decide))).mono ?_);rintro e W2 ⟨a0,a1,a2,a3,rfl,hb'⟩;have HS2:=Lib.hid (HS1.out.below hb');have HB2_g:=Lib.hid (blk_below HB1_g.out hb');have HB2_gr:=Lib.hid (blk_below HB1_gr.out hb');clear C_g C_gr;have C_g:=cells5 HB2_g.out;have C_gr:=cells4 HB2_gr.out;clear hb'))
 refine bodyPost_ret (results_cell_row rfl _ _ gr 46 (#[.int .i64 a0,.int .i64 a1,.bool a2,.int .i64 a3]:Array Value) (0,0) _ rfl ((blk_set' (blk_set' (blk_set' (blk_set' HB2_gr.out 0 (.int .i64 a0) rfl) 1 (.int .i64 a1) rfl) 2 (.bool a2) rfl) 3 (.int .i64 a3) rfl)) Try.underlying46 rfl (by kernel_rfl)) rfl ?_
 exact ⟨_,_,_,_,rfl,(Mk.set (Mk.set (Mk.set (Mk.set HS2.out HG_gr.out 0 (.int .i64 a0)) HG_gr.out 1 (.int .i64 a1)) HG_gr.out 2 (.bool a2)) HG_gr.out 3 (.int .i64 a3))⟩
theorem ans15_n6 {w:World} {g gi:Nat} (hg:w.heap[g]? = some (.cells (k15 6 none none none (some gi)) 86 (0,0))) {bs:Nat} {x:S07} (hx:Is07 bs w gi x) :
  Calls Try.prog 29 #[.pointer (some ⟨g,0,none⟩)] w fun e w'=>∃ a0 a1 a2 a3,e = .returned (.agg #[.int .i64 a0,.int .i64 a1,.bool a2,.int .i64 a3])∧Below w.heap.size w w':=by
 obtain ⟨AG,m,cG,_,hx,_⟩:=hx
 have HB0_g:Hid (w.heap[g]? = some (.cells #[.int .i64 6,.pointer none,.pointer none,.pointer none,.pointer (some ⟨gi,0,none⟩)] 86 (0,0))):=Lib.hid hg
 have HX:=Lib.hid hx
 have HS0:Hid (Mk w w):=Lib.hid (Mk.refl w)
 clear hg hx
 have C_g:=cells5 HB0_g.out
 go_enter Try.func29,Try.ntmps29
 go_wp2_with (first|((with_reducible refine gate_dst (N:=2) rfl ?_);refine box_event ?hg (N:=2) ?hd (cs:=#[.int .i64 0,.int .i64 0,.bool false,.int .i64 0]) (t:=46) ?hr ?_;(case hd=>rfl);(case hg=>rfl);(case hr=>first|(go_simp;done)|(go_simp;rfl));intro gr hg W1 hbox hb';have HG_gr:Hid (w.heap.size ≤ gr):=Lib.hid (by rw [hg];exact HS0.out.size);have HS1:=Lib.hid ((HS0.out.below hb'));have HB1_g:Hid (W1.heap[g]? = some (.cells (#[.int .i64 6,.pointer none,.pointer none,.pointer none,.pointer (some ⟨gi,0,none⟩)]:Array Value) 86 (0,0))):=Lib.hid (blk_below HB0_g.out hb');have HB1_gr:Hid (W1.heap[gr]? = some (.cells (#[.int .i64 0,.int .i64 0,.bool false,.int .i64 0]:Array Value) 46 (0,0))):=Lib.hid (hbox);replace C_g:=cells5 HB1_g.out;have C_gr:=cells4 HB1_gr.out;clear hb' hbox hg;have ne1:g ≠ gr:=(by have:=blk_lt HB0_g.out;have:=HG_gr.out;omega);have ne2:=Ne.symm ne1)|(go_at_call 51;(with_reducible refine (ans07 (blk_fr HX.out (Fr.of_below HS1.out.b 0 true []) (by simp) (fun _=>by decide))).mono ?_);rintro e W2 ⟨a0,a1,a2,a3,rfl,hb'⟩;have HS2:=Lib.hid (HS1.out.below hb');have HB2_g:=Lib.hid (blk_below HB1_g.out hb');have HB2_gr:=Lib.hid (blk_below HB1_gr.out hb');clear C_g C_gr;have C_g:=cells5 HB2_g.out;have C_gr:=cells4 HB2_gr.out;clear hb'))
 refine bodyPost_ret (results_cell_row rfl _ _ gr 46 (#[.int .i64 a0,.int .i64 a1,.bool a2,.int .i64 a3]:Array Value) (0,0) _ rfl ((blk_set' (blk_set' (blk_set' (blk_set' HB2_gr.out 0 (.int .i64 a0) rfl) 1 (.int .i64 a1) rfl) 2 (.bool a2) rfl) 3 (.int .i64 a3) rfl)) Try.underlying46 rfl (by kernel_rfl)) rfl ?_
 exact ⟨_,_,_,_,rfl,(Mk.set (Mk.set (Mk.set (Mk.set HS2.out HG_gr.out 0 (.int .i64 a0)) HG_gr.out 1 (.int .i64 a1)) HG_gr.out 2 (.bool a2)) HG_gr.out 3 (.int .i64 a3))⟩
theorem ans15 {c:Cf} {w:World} {g:Nat} {x:M15} (hi:Is15 c w g x) :
  Calls Try.prog 29 #[.pointer (some ⟨g,0,none⟩)] w fun e w'=>∃ a0 a1 a2 a3,e = .returned (.agg #[.int .i64 a0,.int .i64 a1,.bool a2,.int .i64 a3])∧Below w.heap.size w w':=by
 cases x with
 | a ga x=>exact ans15_a hi.1 hi.2.2
 | e ga x=>exact ans15_e hi.1 hi.2.2
 | h ga v x =>
  obtain ⟨⟨kd,h1,h2⟩,h3⟩:=hi
  rcases h1 with h1|h1 <;> subst h1
  ·exact ans15_h3 h2 h3
  ·exact ans15_h4 h2 h3
 | n ga v x =>
  obtain ⟨⟨kd,h1,h2⟩,h3⟩:=hi
  rcases h1 with h1|h1 <;> subst h1
  ·exact ans15_n5 h2 h3
  ·exact ans15_n6 h2 h3
theorem count07 {c:Cf} {b:Nat} (w:World) :
  Calls Try.prog 42 #[.int .i64 b,.int .i64 c.S,.int .i64 c.re] w fun e w'=>∃ g,e = .returned (.pointer (some ⟨g,0,none⟩))∧w.heap.size ≤ g∧Is07 b w' g ⟨c.S,c.re,false,[],0,0,false,0,false⟩∧Below w.heap.size w w':=by
 have HS0:Hid (Mk w w):=Lib.hid (Mk.refl w)
 go_enter Try.func42,Try.ntmps42
 go_wp2_with (first|((with_reducible refine gate_dst (N:=11) rfl ?_);refine box_event ?hg (N:=11) ?hd (cs:=#[.int .i64 b,.int .i64 c.S,.int .i64 c.re,.bool false,.slice none 0 0,.int .i64 0,.int .i64 0,.bool false,.int .i64 0,.bool false]) (t:=104) ?hr ?_;(case hd=>rfl);(case hg=>rfl);(case hr=>first|(go_simp;done)|(go_simp;rfl));intro g2 hg W1 hbox hb';have HG_g2:Hid (w.heap.size ≤ g2):=Lib.hid (by rw [hg];exact HS0.out.size);have HS1:=Lib.hid ((HS0.out.below hb'));have HB1_g2:Hid (W1.heap[g2]? = some (.cells (#[.int .i64 b,.int .i64 c.S,.int .i64 c.re,.bool false,.slice none 0 0,.int .i64 0,.int .i64 0,.bool false,.int .i64 0,.bool false]:Array Value) 104 (0,0))):=Lib.hid (hbox);have C_g2:=cells10 HB1_g2.out;clear hb' hbox hg))
 go_ret
 exact ⟨g2,rfl,HG_g2.out,⟨none,0,0,rfl,HB1_g2.out,Kd.R_nil _ _ _ _ _⟩,HS1.out⟩
theorem peek07 {c:Cf} {b:Nat} (w:World) :
  Calls Try.prog 43 #[.int .i64 b] w fun e w'=>∃ g,e = .returned (.pointer (some ⟨g,0,none⟩))∧w.heap.size ≤ g∧Is07 b w' g ⟨0,0,true,[],0,0,false,0,false⟩∧Below w.heap.size w w':=by
 have HS0:Hid (Mk w w):=Lib.hid (Mk.refl w)
 go_enter Try.func43,Try.ntmps43
 go_wp2_with (first|((with_reducible refine gate_dst (N:=5) rfl ?_);refine box_event ?hg (N:=5) ?hd (cs:=#[.int .i64 b,.int .i64 0,.int .i64 0,.bool true,.slice none 0 0,.int .i64 0,.int .i64 0,.bool false,.int .i64 0,.bool false]) (t:=104) ?hr ?_;(case hd=>rfl);(case hg=>rfl);(case hr=>first|(go_simp;done)|(go_simp;rfl));intro g2 hg W1 hbox hb';have HG_g2:Hid (w.heap.size ≤ g2):=Lib.hid (by rw [hg];exact HS0.out.size);have HS1:=Lib.hid ((HS0.out.below hb'));have HB1_g2:Hid (W1.heap[g2]? = some (.cells (#[.int .i64 b,.int .i64 0,.int .i64 0,.bool true,.slice none 0 0,.int .i64 0,.int .i64 0,.bool false,.int .i64 0,.bool false]:Array Value) 104 (0,0))):=Lib.hid (hbox);have C_g2:=cells10 HB1_g2.out;clear hb' hbox hg))
 go_ret
 exact ⟨g2,rfl,HG_g2.out,⟨none,0,0,rfl,HB1_g2.out,Kd.R_nil _ _ _ _ _⟩,HS1.out⟩
theorem A12.new {c:Cf} (hc:c.Ok) {nd th gc:Nat} {n0:Int} {r:List Int} (hnd:nd < c.N) (h1:1 ≤ n0) (h2:n0 ≤ 1048576) (hth:th ≤ 1000) (hr1:0 < r.length) (hr2:r.length ≤ 100) (hr3:nodesOk c r) (ws:List Int):A12 c ws ⟨nd,n0,th,r,0,0,gc,⟨th,0,false,0,0,false,0,0,false,0⟩,none,none,0,0,0,false,0⟩ :=
 ⟨hnd,h1,h2,hth,hr1,hr2,hr3,.inl rfl,A11.mk' hth (.inr ⟨Int.le_refl 0,by have:=hc.ti1;omega⟩) ⟨0,by have:=hc.ti1;omega,rfl⟩,fun h=>absurd rfl h,Int.le_refl 0,fun h=>absurd (show (0:Int) = 1 ∨ (0:Int) = 5 from h) (by decide),Int.natCast_nonneg _,fun _=>rfl,fun h=>absurd (show (0:Int) = 4 from h) (by decide)⟩
theorem A13.new {c:Cf} {k th:Nat} {ver:Int} (hk:k < c.ti) (hth:th ≤ 1000) (ws:List Int):A13 c ws ⟨k,ver,th,0,0,0,0,[],0,0,none,0,0,false,0⟩ :=
 ⟨hk,hth,.inl rfl,fun h=>absurd (show (0:Int) = 3 ∨ (0:Int) = 4 from h) (by decide),fun _=>rfl,fun h=>absurd (show (0:Int) = 1 from h) (by decide),fun h=>absurd (show (0:Int) = 2 from h) (by decide)⟩
theorem new15_1 {c:Cf} (hc:c.Ok) {w:World} {AP AL:Option Addr} {cP cL:Nat} (hP:Ints w (.slice AP c.pa.length cP) c.pa) (hL:Ints w (.slice AL c.li.length cL) c.li) {th v:Nat} {n:Int} (hv:v < c.N) (hth:th ≤ 1000) (hn:1 ≤ n∧n ≤ 1048576) :
  Calls Try.prog 27 #[(cA c AP cP AL cL),.int .i64 th,.agg #[.int .i64 1,.int .i64 v,.int .i64 n]] w fun e w'=>∃ g x,e = .returned (.pointer (some ⟨g,0,none⟩))∧Is15 c w' g x∧(∀ ws,A15 c ws x)∧(∀ k ∈ own15 g x,w.heap.size ≤ k∧k < w'.heap.size)∧Below w.heap.size w w':=by
 have HC:=Lib.hid hc
 have HP:=Lib.hid hP
 have HLi:=Lib.hid hL
 have HV:=Lib.hid hv
 have HTH:=Lib.hid hth
 have HN1:=Lib.hid hn
 have HS0:Hid (Mk w w):=Lib.hid (Mk.refl w)
 clear hc hP hL hv hth hn
 go_enter Try.func27,Try.ntmps27
 go_wp2_with (first|((with_reducible refine gate_dst (N:=3) rfl ?_);refine box_event ?hg (N:=3) ?hd (cs:=#[.int .i64 c.th,.int .i64 c.S,.int .i64 c.ga,.int .i64 c.le,.int .i64 c.re,.int .i64 c.ti,.slice AP c.pa.length cP,.slice AL c.li.length cL]) (t:=24) ?hr ?_;(case hd=>rfl);(case hg=>rfl);(case hr=>first|(go_simp;done)|(go_simp;rfl));intro g1 hg W1 hbox hb';have HG_g1:Hid (w.heap.size ≤ g1):=Lib.hid (by rw [hg];exact HS0.out.size);have HS1:=Lib.hid ((HS0.out.below hb'));have HB1_g1:Hid (W1.heap[g1]? = some (.cells (#[.int .i64 c.th,.int .i64 c.S,.int .i64 c.ga,.int .i64 c.le,.int .i64 c.re,.int .i64 c.ti,.slice AP c.pa.length cP,.slice AL c.li.length cL]:Array Value) 24 (0,0))):=Lib.hid (hbox);have C_g1:=cells8 HB1_g1.out;clear hb' hbox hg)|((with_reducible refine gate_dst (N:=5) rfl ?_);refine box_event ?hg (N:=5) ?hd (cs:=#[.int .i64 1,.int .i64 v,.int .i64 n]) (t:=43) ?hr ?_;(case hd=>rfl);(case hg=>rfl);(case hr=>first|(go_simp;done)|(go_simp;rfl));intro g2 hg W2 hbox hb';have HG_g2:Hid (w.heap.size ≤ g2):=Lib.hid (by rw [hg];exact HS1.out.size);have HS2:=Lib.hid ((HS1.out.below hb'));have HB2_g1:=Lib.hid (blk_below HB1_g1.out hb');have HB2_g2:Hid (W2.heap[g2]? = some (.cells (#[.int .i64 1,.int .i64 v,.int .i64 n]:Array Value) 43 (0,0))):=Lib.hid (hbox);replace C_g1:=cells8 HB2_g1.out;have C_g2:=cells3 HB2_g2.out;clear hb' hbox hg)|((with_reducible refine gate_dst (N:=11) rfl ?_);refine box_event ?hg (N:=11) ?hd (cs:=#[.int .i64 1,.pointer none,.pointer none,.pointer none,.pointer none]) (t:=86) ?hr ?_;(case hd=>rfl);(case hg=>rfl);(case hr=>first|(go_simp;done)|(go_simp;rfl));intro g3 hg W3 hbox hb';have HG_g3:Hid (w.heap.size ≤ g3):=Lib.hid (by rw [hg];exact HS2.out.size);have HS3:=Lib.hid ((HS2.out.below hb'));have HB3_g1:=Lib.hid (blk_below HB2_g1.out hb');have HB3_g2:=Lib.hid (blk_below HB2_g2.out hb');have HB3_g3:Hid (W3.heap[g3]? = some (.cells (#[.int .i64 1,.pointer none,.pointer none,.pointer none,.pointer none]:Array Value) 86 (0,0))):=Lib.hid (hbox);clear C_g1 C_g2;have C_g1:=cells8 HB3_g1.out;have C_g2:=cells3 HB3_g2.out;have C_g3:=cells5 HB3_g3.out;clear hb' hbox hg)|(go_at_call 38;(with_reducible refine (new12 HC.out (HP.out.below HS3.out.b) (HLi.out.below HS3.out.b) (nd:=v) HV.out (th:=th) (n0:=n)).mono ?_);rintro e W4 ⟨gi,gc,r,rfl,hge,hgc,hr1,hr2,hr3,his,hb'⟩;have HS4:=Lib.hid (HS3.out.below hb');have HB4_g1:=Lib.hid (blk_below HB3_g1.out hb');have HB4_g2:=Lib.hid (blk_below HB3_g2.out hb');have HB4_g3:=Lib.hid (blk_below HB3_g3.out hb');clear C_g1 C_g2 C_g3;have C_g1:=cells8 HB4_g1.out;have C_g2:=cells3 HB4_g2.out;have C_g3:=cells5 HB4_g3.out;have HLT:=Lib.hid (blk_lt HB3_g3.out);have HSZ:=Lib.hid HS3.out.size;have HGE:=Lib.hid hge;have HGC:=Lib.hid hgc;have HR1:=Lib.hid hr1;have HR2:=Lib.hid hr2;have HR3:=Lib.hid hr3;have HIS:=Lib.hid his;clear hge hgc hr1 hr2 hr3 his;clear hb'))
 go_ret
 have hX:Is15 c _ g3 (.a gi ⟨v,n,th,r,0,0,gc,⟨th,0,false,0,0,false,0,0,false,0⟩,none,none,0,0,0,false,0⟩):=⟨(blk_set' HB4_g3.out 1 (.pointer (some ⟨gi,0,none⟩)) rfl),by simp [own12];have:=HLT.out;have:=HGE.out;have:=HGC.out;omega,HIS.out.fr ((Fr.refl 0 true [g3] _).setCell (Nat.zero_le _) (.inl (by simp)) HB4_g3.out (by decide) _) (fun k hk=>by simp [own12] at hk;rw [List.mem_singleton];have:=HLT.out;have:=HGE.out;have:=HGC.out;omega)⟩
 exact ⟨g3,.a gi ⟨v,n,th,r,0,0,gc,⟨th,0,false,0,0,false,0,0,false,0⟩,none,none,0,0,0,false,0⟩,rfl,hX,fun ws=>A12.new HC.out HV.out HN1.out.1 HN1.out.2 HTH.out HR1.out HR2.out HR3.out ws,fun k hk0=>⟨by have hk:=hk0;simp [own15,own12] at hk;have:=HSZ.out;have:=HGE.out;have:=HGC.out;have:=HG_g3.out;omega,Is15.lt_a hX rfl rfl k hk0⟩,(Mk.set HS4.out HG_g3.out 1 (.pointer (some ⟨gi,0,none⟩)))⟩
theorem new15_2 {c:Cf} (hc:c.Ok) {w:World} {AP AL:Option Addr} {cP cL:Nat} (hP:Ints w (.slice AP c.pa.length cP) c.pa) (hL:Ints w (.slice AL c.li.length cL) c.li) {th:Nat} {n:Int} (hth:th ≤ 1000) {kk:Nat} {ver n1:Int} (hkk:kk < c.ti) (hnm:breadlineref10_Named.f n c.ti = some ((kk:Int),ver,true)) :
  Calls Try.prog 27 #[(cA c AP cP AL cL),.int .i64 th,.agg #[.int .i64 2,.int .i64 n1,.int .i64 n]] w fun e w'=>∃ g x,e = .returned (.pointer (some ⟨g,0,none⟩))∧Is15 c w' g x∧(∀ ws,A15 c ws x)∧(∀ k ∈ own15 g x,w.heap.size ≤ k∧k < w'.heap.size)∧Below w.heap.size w w':=by
 have HC:=Lib.hid hc
 have HP:=Lib.hid hP
 have HLi:=Lib.hid hL
 have HTH:=Lib.hid hth
 have HKK:=Lib.hid hkk
 have HNM:=Lib.hid hnm
 have HS0:Hid (Mk w w):=Lib.hid (Mk.refl w)
 clear hc hP hL hth hkk hnm
 go_enter Try.func27,Try.ntmps27
 go_wp2_with (first|((with_reducible refine gate_dst (N:=3) rfl ?_);refine box_event ?hg (N:=3) ?hd (cs:=#[.int .i64 c.th,.int .i64 c.S,.int .i64 c.ga,.int .i64 c.le,.int .i64 c.re,.int .i64 c.ti,.slice AP c.pa.length cP,.slice AL c.li.length cL]) (t:=24) ?hr ?_;(case hd=>rfl);(case hg=>rfl);(case hr=>first|(go_simp;done)|(go_simp;rfl));intro g1 hg W1 hbox hb';have HG_g1:Hid (w.heap.size ≤ g1):=Lib.hid (by rw [hg];exact HS0.out.size);have HS1:=Lib.hid ((HS0.out.below hb'));have HB1_g1:Hid (W1.heap[g1]? = some (.cells (#[.int .i64 c.th,.int .i64 c.S,.int .i64 c.ga,.int .i64 c.le,.int .i64 c.re,.int .i64 c.ti,.slice AP c.pa.length cP,.slice AL c.li.length cL]:Array Value) 24 (0,0))):=Lib.hid (hbox);have C_g1:=cells8 HB1_g1.out;clear hb' hbox hg)|((with_reducible refine gate_dst (N:=5) rfl ?_);refine box_event ?hg (N:=5) ?hd (cs:=#[.int .i64 2,.int .i64 n1,.int .i64 n]) (t:=43) ?hr ?_;(case hd=>rfl);(case hg=>rfl);(case hr=>first|(go_simp;done)|(go_simp;rfl));intro g2 hg W2 hbox hb';have HG_g2:Hid (w.heap.size ≤ g2):=Lib.hid (by rw [hg];exact HS1.out.size);have HS2:=Lib.hid ((HS1.out.below hb'));have HB2_g1:=Lib.hid (blk_below HB1_g1.out hb');have HB2_g2:Hid (W2.heap[g2]? = some (.cells (#[.int .i64 2,.int .i64 n1,.int .i64 n]:Array Value) 43 (0,0))):=Lib.hid (hbox);replace C_g1:=cells8 HB2_g1.out;have C_g2:=cells3 HB2_g2.out;clear hb' hbox hg)|((with_reducible refine gate_dst (N:=11) rfl ?_);refine box_event ?hg (N:=11) ?hd (cs:=#[.int .i64 2,.pointer none,.pointer none,.pointer none,.pointer none]) (t:=86) ?hr ?_;(case hd=>rfl);(case hg=>rfl);(case hr=>first|(go_simp;done)|(go_simp;rfl));intro g3 hg W3 hbox hb';have HG_g3:Hid (w.heap.size ≤ g3):=Lib.hid (by rw [hg];exact HS2.out.size);have HS3:=Lib.hid ((HS2.out.below hb'));have HB3_g1:=Lib.hid (blk_below HB2_g1.out hb');have HB3_g2:=Lib.hid (blk_below HB2_g2.out hb');have HB3_g3:Hid (W3.heap[g3]? = some (.cells (#[.int .i64 2,.pointer none,.pointer none,.pointer none,.pointer none]:Array Value) 86 (0,0))):=Lib.hid (hbox);clear C_g1 C_g2;have C_g1:=cells8 HB3_g1.out;have C_g2:=cells3 HB3_g2.out;have C_g3:=cells5 HB3_g3.out;clear hb' hbox hg)|(go_at_call 39;(with_reducible refine (new13 HC.out (HP.out.below HS3.out.b) (HLi.out.below HS3.out.b) HNM.out (th:=th)).mono ?_);rintro e W4 ⟨gi,rfl,hge,his,hb'⟩;have HS4:=Lib.hid (HS3.out.below hb');have HB4_g1:=Lib.hid (blk_below HB3_g1.out hb');have HB4_g2:=Lib.hid (blk_below HB3_g2.out hb');have HB4_g3:=Lib.hid (blk_below HB3_g3.out hb');clear C_g1 C_g2 C_g3;have C_g1:=cells8 HB4_g1.out;have C_g2:=cells3 HB4_g2.out;have C_g3:=cells5 HB4_g3.out;have HLT:=Lib.hid (blk_lt HB3_g3.out);have HSZ:=Lib.hid HS3.out.size;have HGE:=Lib.hid hge;have HIS:=Lib.hid his;clear hge his;clear hb'))
 go_ret
 have hX:Is15 c _ g3 (.e gi ⟨kk,ver,th,0,0,0,0,[],0,0,none,0,0,false,0⟩):=⟨(blk_set' HB4_g3.out 2 (.pointer (some ⟨gi,0,none⟩)) rfl),by simp [own13];have:=HLT.out;have:=HGE.out;omega,HIS.out.fr ((Fr.refl 0 true [g3] _).setCell (Nat.zero_le _) (.inl (by simp)) HB4_g3.out (by decide) _) (fun k hk=>by simp [own13] at hk;rw [List.mem_singleton];have:=HLT.out;have:=HGE.out;omega)⟩
 exact ⟨g3,.e gi ⟨kk,ver,th,0,0,0,0,[],0,0,none,0,0,false,0⟩,rfl,hX,fun ws=>A13.new HKK.out HTH.out ws,fun k hk0=>⟨by have hk:=hk0;simp [own15,own13] at hk;have:=HSZ.out;have:=HGE.out;have:=HG_g3.out;omega,Is15.lt_e hX rfl k hk0⟩,(Mk.set HS4.out HG_g3.out 2 (.pointer (some ⟨gi,0,none⟩)))⟩
theorem new15_3 {c:Cf} (hc:c.Ok) {w:World} {AP AL:Option Addr} {cP cL:Nat} (hP:Ints w (.slice AP c.pa.length cP) c.pa) (hL:Ints w (.slice AL c.li.length cL) c.li) {th v:Nat} {n:Int} (hv:v < c.N) :
  Calls Try.prog 27 #[(cA c AP cP AL cL),.int .i64 th,.agg #[.int .i64 3,.int .i64 v,.int .i64 n]] w fun e w'=>∃ g x,e = .returned (.pointer (some ⟨g,0,none⟩))∧Is15 c w' g x∧(∀ ws,A15 c ws x)∧(∀ k ∈ own15 g x,w.heap.size ≤ k∧k < w'.heap.size)∧Below w.heap.size w w':=by
 have HC:=Lib.hid hc
 have HP:=Lib.hid hP
 have HLi:=Lib.hid hL
 have HV:=Lib.hid hv
 have HS0:Hid (Mk w w):=Lib.hid (Mk.refl w)
 clear hc hP hL hv
 go_enter Try.func27,Try.ntmps27
 go_wp2_with (first|((with_reducible refine gate_dst (N:=3) rfl ?_);refine box_event ?hg (N:=3) ?hd (cs:=#[.int .i64 c.th,.int .i64 c.S,.int .i64 c.ga,.int .i64 c.le,.int .i64 c.re,.int .i64 c.ti,.slice AP c.pa.length cP,.slice AL c.li.length cL]) (t:=24) ?hr ?_;(case hd=>rfl);(case hg=>rfl);(case hr=>first|(go_simp;done)|(go_simp;rfl));intro g1 hg W1 hbox hb';have HG_g1:Hid (w.heap.size ≤ g1):=Lib.hid (by rw [hg];exact HS0.out.size);have HS1:=Lib.hid ((HS0.out.below hb'));have HB1_g1:Hid (W1.heap[g1]? = some (.cells (#[.int .i64 c.th,.int .i64 c.S,.int .i64 c.ga,.int .i64 c.le,.int .i64 c.re,.int .i64 c.ti,.slice AP c.pa.length cP,.slice AL c.li.length cL]:Array Value) 24 (0,0))):=Lib.hid (hbox);have C_g1:=cells8 HB1_g1.out;clear hb' hbox hg)|((with_reducible refine gate_dst (N:=5) rfl ?_);refine box_event ?hg (N:=5) ?hd (cs:=#[.int .i64 3,.int .i64 v,.int .i64 n]) (t:=43) ?hr ?_;(case hd=>rfl);(case hg=>rfl);(case hr=>first|(go_simp;done)|(go_simp;rfl));intro g2 hg W2 hbox hb';have HG_g2:Hid (w.heap.size ≤ g2):=Lib.hid (by rw [hg];exact HS1.out.size);have HS2:=Lib.hid ((HS1.out.below hb'));have HB2_g1:=Lib.hid (blk_below HB1_g1.out hb');have HB2_g2:Hid (W2.heap[g2]? = some (.cells (#[.int .i64 3,.int .i64 v,.int .i64 n]:Array Value) 43 (0,0))):=Lib.hid (hbox);replace C_g1:=cells8 HB2_g1.out;have C_g2:=cells3 HB2_g2.out;clear hb' hbox hg)|((with_reducible refine gate_dst (N:=11) rfl ?_);refine box_event ?hg (N:=11) ?hd (cs:=#[.int .i64 3,.pointer none,.pointer none,.pointer none,.pointer none]) (t:=86) ?hr ?_;(case hd=>rfl);(case hg=>rfl);(case hr=>first|(go_simp;done)|(go_simp;rfl));intro g3 hg W3 hbox hb';have HG_g3:Hid (w.heap.size ≤ g3):=Lib.hid (by rw [hg];exact HS2.out.size);have HS3:=Lib.hid ((HS2.out.below hb'));have HB3_g1:=Lib.hid (blk_below HB2_g1.out hb');have HB3_g2:=Lib.hid (blk_below HB2_g2.out hb');have HB3_g3:Hid (W3.heap[g3]? = some (.cells (#[.int .i64 3,.pointer none,.pointer none,.pointer none,.pointer none]:Array Value) 86 (0,0))):=Lib.hid (hbox);clear C_g1 C_g2;have C_g1:=cells8 HB3_g1.out;have C_g2:=cells3 HB3_g2.out;have C_g3:=cells5 HB3_g3.out;clear hb' hbox hg)|(go_at_call 40;(with_reducible refine (raise09 HC.out (HP.out.below HS3.out.b) (HLi.out.below HS3.out.b) (v:=v) (n0:=n)).mono ?_);rintro e W4 ⟨gi,rfl,hge,his,hb'⟩;have HS4:=Lib.hid (HS3.out.below hb');have HB4_g1:=Lib.hid (blk_below HB3_g1.out hb');have HB4_g2:=Lib.hid (blk_below HB3_g2.out hb');have HB4_g3:=Lib.hid (blk_below HB3_g3.out hb');clear C_g1 C_g2 C_g3;have C_g1:=cells8 HB4_g1.out;have C_g2:=cells3 HB4_g2.out;have C_g3:=cells5 HB4_g3.out;have HLT:=Lib.hid (blk_lt HB3_g3.out);have HSZ:=Lib.hid HS3.out.size;have HGE:=Lib.hid hge;have HIS:=Lib.hid his;clear hge his;clear hb'))
 go_ret
 have hX:Is15 c _ g3 (.h gi v ⟨2,n,0,0,0,0,false,0⟩):=⟨⟨3,by simp,(blk_set' HB4_g3.out 3 (.pointer (some ⟨gi,0,none⟩)) rfl)⟩,HIS.out.fr ((Fr.refl 0 true [g3] _).setCell (Nat.zero_le _) (.inl (by simp)) HB4_g3.out (by decide) _) (by rw [List.mem_singleton];have:=HLT.out;have:=HGE.out;omega)⟩
 exact ⟨g3,.h gi v ⟨2,n,0,0,0,0,false,0⟩,rfl,hX,fun ws=>⟨HV.out,.inl rfl,.inl rfl⟩,fun k hk0=>⟨by have hk:=hk0;simp [own15] at hk;have:=HSZ.out;have:=HGE.out;have:=HG_g3.out;omega,Is15.lt_h hX k hk0⟩,(Mk.set HS4.out HG_g3.out 3 (.pointer (some ⟨gi,0,none⟩)))⟩
theorem new15_4 {c:Cf} (hc:c.Ok) {w:World} {AP AL:Option Addr} {cP cL:Nat} (hP:Ints w (.slice AP c.pa.length cP) c.pa) (hL:Ints w (.slice AL c.li.length cL) c.li) {th v:Nat} {n:Int} (hv:v < c.N) :
  Calls Try.prog 27 #[(cA c AP cP AL cL),.int .i64 th,.agg #[.int .i64 4,.int .i64 v,.int .i64 n]] w fun e w'=>∃ g x,e = .returned (.pointer (some ⟨g,0,none⟩))∧Is15 c w' g x∧(∀ ws,A15 c ws x)∧(∀ k ∈ own15 g x,w.heap.size ≤ k∧k < w'.heap.size)∧Below w.heap.size w w':=by
 have HC:=Lib.hid hc
 have HP:=Lib.hid hP
 have HLi:=Lib.hid hL
 have HV:=Lib.hid hv
 have HS0:Hid (Mk w w):=Lib.hid (Mk.refl w)
 clear hc hP hL hv
 go_enter Try.func27,Try.ntmps27
 go_wp2_with (first|((with_reducible refine gate_dst (N:=3) rfl ?_);refine box_event ?hg (N:=3) ?hd (cs:=#[.int .i64 c.th,.int .i64 c.S,.int .i64 c.ga,.int .i64 c.le,.int .i64 c.re,.int .i64 c.ti,.slice AP c.pa.length cP,.slice AL c.li.length cL]) (t:=24) ?hr ?_;(case hd=>rfl);(case hg=>rfl);(case hr=>first|(go_simp;done)|(go_simp;rfl));intro g1 hg W1 hbox hb';have HG_g1:Hid (w.heap.size ≤ g1):=Lib.hid (by rw [hg];exact HS0.out.size);have HS1:=Lib.hid ((HS0.out.below hb'));have HB1_g1:Hid (W1.heap[g1]? = some (.cells (#[.int .i64 c.th,.int .i64 c.S,.int .i64 c.ga,.int .i64 c.le,.int .i64 c.re,.int .i64 c.ti,.slice AP c.pa.length cP,.slice AL c.li.length cL]:Array Value) 24 (0,0))):=Lib.hid (hbox);have C_g1:=cells8 HB1_g1.out;clear hb' hbox hg)|((with_reducible refine gate_dst (N:=5) rfl ?_);refine box_event ?hg (N:=5) ?hd (cs:=#[.int .i64 4,.int .i64 v,.int .i64 n]) (t:=43) ?hr ?_;(case hd=>rfl);(case hg=>rfl);(case hr=>first|(go_simp;done)|(go_simp;rfl));intro g2 hg W2 hbox hb';have HG_g2:Hid (w.heap.size ≤ g2):=Lib.hid (by rw [hg];exact HS1.out.size);have HS2:=Lib.hid ((HS1.out.below hb'));have HB2_g1:=Lib.hid (blk_below HB1_g1.out hb');have HB2_g2:Hid (W2.heap[g2]? = some (.cells (#[.int .i64 4,.int .i64 v,.int .i64 n]:Array Value) 43 (0,0))):=Lib.hid (hbox);replace C_g1:=cells8 HB2_g1.out;have C_g2:=cells3 HB2_g2.out;clear hb' hbox hg)|((with_reducible refine gate_dst (N:=11) rfl ?_);refine box_event ?hg (N:=11) ?hd (cs:=#[.int .i64 4,.pointer none,.pointer none,.pointer none,.pointer none]) (t:=86) ?hr ?_;(case hd=>rfl);(case hg=>rfl);(case hr=>first|(go_simp;done)|(go_simp;rfl));intro g3 hg W3 hbox hb';have HG_g3:Hid (w.heap.size ≤ g3):=Lib.hid (by rw [hg];exact HS2.out.size);have HS3:=Lib.hid ((HS2.out.below hb'));have HB3_g1:=Lib.hid (blk_below HB2_g1.out hb');have HB3_g2:=Lib.hid (blk_below HB2_g2.out hb');have HB3_g3:Hid (W3.heap[g3]? = some (.cells (#[.int .i64 4,.pointer none,.pointer none,.pointer none,.pointer none]:Array Value) 86 (0,0))):=Lib.hid (hbox);clear C_g1 C_g2;have C_g1:=cells8 HB3_g1.out;have C_g2:=cells3 HB3_g2.out;have C_g3:=cells5 HB3_g3.out;clear hb' hbox hg)|(go_at_call 41;(with_reducible refine (lower09 HC.out (HP.out.below HS3.out.b) (HLi.out.below HS3.out.b) (v:=v) (n0:=n)).mono ?_);rintro e W4 ⟨gi,rfl,hge,his,hb'⟩;have HS4:=Lib.hid (HS3.out.below hb');have HB4_g1:=Lib.hid (blk_below HB3_g1.out hb');have HB4_g2:=Lib.hid (blk_below HB3_g2.out hb');have HB4_g3:=Lib.hid (blk_below HB3_g3.out hb');clear C_g1 C_g2 C_g3;have C_g1:=cells8 HB4_g1.out;have C_g2:=cells3 HB4_g2.out;have C_g3:=cells5 HB4_g3.out;have HLT:=Lib.hid (blk_lt HB3_g3.out);have HSZ:=Lib.hid HS3.out.size;have HGE:=Lib.hid hge;have HIS:=Lib.hid his;clear hge his;clear hb'))
 go_ret
 have hX:Is15 c _ g3 (.h gi v ⟨3,n,0,0,0,0,false,0⟩):=⟨⟨4,by simp,(blk_set' HB4_g3.out 3 (.pointer (some ⟨gi,0,none⟩)) rfl)⟩,HIS.out.fr ((Fr.refl 0 true [g3] _).setCell (Nat.zero_le _) (.inl (by simp)) HB4_g3.out (by decide) _) (by rw [List.mem_singleton];have:=HLT.out;have:=HGE.out;omega)⟩
 exact ⟨g3,.h gi v ⟨3,n,0,0,0,0,false,0⟩,rfl,hX,fun ws=>⟨HV.out,.inr rfl,.inl rfl⟩,fun k hk0=>⟨by have hk:=hk0;simp [own15] at hk;have:=HSZ.out;have:=HGE.out;have:=HG_g3.out;omega,Is15.lt_h hX k hk0⟩,(Mk.set HS4.out HG_g3.out 3 (.pointer (some ⟨gi,0,none⟩)))⟩
theorem new15_5 {c:Cf} (hc:c.Ok) {w:World} {AP AL:Option Addr} {cP cL:Nat} (hP:Ints w (.slice AP c.pa.length cP) c.pa) (hL:Ints w (.slice AL c.li.length cL) c.li) {th v:Nat} {n:Int} (hv:v < c.N) :
  Calls Try.prog 27 #[(cA c AP cP AL cL),.int .i64 th,.agg #[.int .i64 5,.int .i64 v,.int .i64 n]] w fun e w'=>∃ g x,e = .returned (.pointer (some ⟨g,0,none⟩))∧Is15 c w' g x∧(∀ ws,A15 c ws x)∧(∀ k ∈ own15 g x,w.heap.size ≤ k∧k < w'.heap.size)∧Below w.heap.size w w':=by
 have HC:=Lib.hid hc
 have HP:=Lib.hid hP
 have HLi:=Lib.hid hL
 have HV:=Lib.hid hv
 have HS0:Hid (Mk w w):=Lib.hid (Mk.refl w)
 clear hc hP hL hv
 obtain ⟨b,hb⟩:∃ b,c.na v (2 + c.S) = b:=⟨_,rfl⟩
 have HBS:=Lib.hid hb
 clear hb
 go_enter Try.func27,Try.ntmps27
 go_wp2_with (first|((with_reducible refine gate_dst (N:=3) rfl ?_);refine box_event ?hg (N:=3) ?hd (cs:=#[.int .i64 c.th,.int .i64 c.S,.int .i64 c.ga,.int .i64 c.le,.int .i64 c.re,.int .i64 c.ti,.slice AP c.pa.length cP,.slice AL c.li.length cL]) (t:=24) ?hr ?_;(case hd=>rfl);(case hg=>rfl);(case hr=>first|(go_simp;done)|(go_simp;rfl));intro g1 hg W1 hbox hb';have HG_g1:Hid (w.heap.size ≤ g1):=Lib.hid (by rw [hg];exact HS0.out.size);have HS1:=Lib.hid ((HS0.out.below hb'));have HB1_g1:Hid (W1.heap[g1]? = some (.cells (#[.int .i64 c.th,.int .i64 c.S,.int .i64 c.ga,.int .i64 c.le,.int .i64 c.re,.int .i64 c.ti,.slice AP c.pa.length cP,.slice AL c.li.length cL]:Array Value) 24 (0,0))):=Lib.hid (hbox);have C_g1:=cells8 HB1_g1.out;clear hb' hbox hg)|((with_reducible refine gate_dst (N:=5) rfl ?_);refine box_event ?hg (N:=5) ?hd (cs:=#[.int .i64 5,.int .i64 v,.int .i64 n]) (t:=43) ?hr ?_;(case hd=>rfl);(case hg=>rfl);(case hr=>first|(go_simp;done)|(go_simp;rfl));intro g2 hg W2 hbox hb';have HG_g2:Hid (w.heap.size ≤ g2):=Lib.hid (by rw [hg];exact HS1.out.size);have HS2:=Lib.hid ((HS1.out.below hb'));have HB2_g1:=Lib.hid (blk_below HB1_g1.out hb');have HB2_g2:Hid (W2.heap[g2]? = some (.cells (#[.int .i64 5,.int .i64 v,.int .i64 n]:Array Value) 43 (0,0))):=Lib.hid (hbox);replace C_g1:=cells8 HB2_g1.out;have C_g2:=cells3 HB2_g2.out;clear hb' hbox hg)|((with_reducible refine gate_dst (N:=11) rfl ?_);refine box_event ?hg (N:=11) ?hd (cs:=#[.int .i64 5,.pointer none,.pointer none,.pointer none,.pointer none]) (t:=86) ?hr ?_;(case hd=>rfl);(case hg=>rfl);(case hr=>first|(go_simp;done)|(go_simp;rfl));intro g3 hg W3 hbox hb';have HG_g3:Hid (w.heap.size ≤ g3):=Lib.hid (by rw [hg];exact HS2.out.size);have HS3:=Lib.hid ((HS2.out.below hb'));have HB3_g1:=Lib.hid (blk_below HB2_g1.out hb');have HB3_g2:=Lib.hid (blk_below HB2_g2.out hb');have HB3_g3:Hid (W3.heap[g3]? = some (.cells (#[.int .i64 5,.pointer none,.pointer none,.pointer none,.pointer none]:Array Value) 86 (0,0))):=Lib.hid (hbox);clear C_g1 C_g2;have C_g1:=cells8 HB3_g1.out;have C_g2:=cells3 HB3_g2.out;have C_g3:=cells5 HB3_g3.out;clear hb' hbox hg))
 refine ch_d (at2 C_g1 C_g2) (at2 C_g1 C_g2) [12] [0,1,2,3,5,6,7,8,4,9,10,11,12] (fun W4 HWd hHeld=>?_)
 have HS4:Hid (Mk w W4):=Lib.hid (by rw [← HWd.out];exact HS3.out.drew)
 have HB4_g1:=dwH HWd HB3_g1
 have HB4_g2:=dwH HWd HB3_g2
 have HB4_g3:=dwH HWd HB3_g3
 clear C_g1 C_g2 C_g3
 have C_g1:=cells8 HB4_g1.out
 have C_g2:=cells3 HB4_g2.out
 have C_g3:=cells5 HB4_g3.out
 clear HWd
 iterate 8 refine ch_s ?_
 refine ch_1 fun K hK=>?_
 refine goes_s Try.func35 #[(cA c AP cP AL cL),.int .i64 v] ?_
 refine (counter_c HC.out (HP.out.below HS4.out.b) (HLi.out.below HS4.out.b) (v:=v) (by have:=HV.out;omega)).mono ?_
 rintro e W5 ⟨rfl,hb'⟩
 refine ⟨_,rfl,?_⟩
 have HS5:=Lib.hid (HS4.out.below hb')
 have HB5_g1:=Lib.hid (blk_below HB4_g1.out hb')
 have HB5_g2:=Lib.hid (blk_below HB4_g2.out hb')
 have HB5_g3:=Lib.hid (blk_below HB4_g3.out hb')
 clear C_g1 C_g2 C_g3
 have C_g1:=cells8 HB5_g1.out
 have C_g2:=cells3 HB5_g2.out
 have C_g3:=cells5 HB5_g3.out
 rw [HBS.out]
 clear hb'
 refine hK.out _ _ (at2 C_g1 C_g2) ?_;clear hK K hHeld;intro hHeld
 try simp only [Act.put,zq1,zq2,zq3]
 refine ch_1 fun K hK=>?_
 refine goes_s Try.func42 #[.int .i64 b,.int .i64 c.S,.int .i64 c.re] ?_
 refine (count07 (c:=c) (b:=b) W5).mono ?_
 rintro e W6 ⟨gi,rfl,hge,his,hb'⟩
 refine ⟨_,rfl,?_⟩
 have HS6:=Lib.hid (HS5.out.below hb')
 have HB6_g1:=Lib.hid (blk_below HB5_g1.out hb')
 have HB6_g2:=Lib.hid (blk_below HB5_g2.out hb')
 have HB6_g3:=Lib.hid (blk_below HB5_g3.out hb')
 clear C_g1 C_g2 C_g3
 have C_g1:=cells8 HB6_g1.out
 have C_g2:=cells3 HB6_g2.out
 have C_g3:=cells5 HB6_g3.out
 have HLT:=Lib.hid (blk_lt HB5_g3.out)
 have HSZ:=Lib.hid HS5.out.size
 have HGE:=Lib.hid hge
 have HIS:=Lib.hid his
 clear hge his
 clear hb'
 refine hK.out _ _ (at2 C_g1 C_g2) ?_;clear hK K hHeld;intro hHeld
 try simp only [Act.put,zq1,zq2,zq3]
 iterate 2 refine ch_s ?_
 refine ch_last rfl rfl (by kernel_rfl) (by decide) (fun K hK=>?_)
 refine skip_ (by rfl) rfl (by go_simp;first|rfl|exact ⟨rfl,rfl⟩) ?_
 refine hK.out _ _ ?_
 clear hK K
 try simp only [Act.put,zq1,zq2,zq3]
 refine ch_z ?_
 clear hHeld
 go_wp2
 go_ret
 have hX:Is15 c _ g3 (.n gi v ⟨c.S,c.re,false,[],0,0,false,0,false⟩):=⟨⟨5,by simp,(blk_set' HB6_g3.out 4 (.pointer (some ⟨gi,0,none⟩)) rfl)⟩,by rw [HBS.out];exact HIS.out.fr ((Fr.refl 0 true [g3] _).setCell (Nat.zero_le _) (.inl (by simp)) HB6_g3.out (by decide) _) (by rw [List.mem_singleton];have:=HLT.out;have:=HGE.out;omega)⟩
 exact ⟨g3,.n gi v ⟨c.S,c.re,false,[],0,0,false,0,false⟩,rfl,hX,fun ws=>⟨HV.out,⟨.inr ⟨rfl,show (0:Nat) < 4 + 2 * c.S by omega⟩⟩⟩,fun k hk0=>⟨by have hk:=hk0;simp [own15] at hk;have:=HSZ.out;have:=HGE.out;have:=HG_g3.out;omega,Is15.lt_n hX k hk0⟩,(Mk.set HS6.out HG_g3.out 4 (.pointer (some ⟨gi,0,none⟩)))⟩
theorem new15_6 {c:Cf} (hc:c.Ok) {w:World} {AP AL:Option Addr} {cP cL:Nat} (hP:Ints w (.slice AP c.pa.length cP) c.pa) (hL:Ints w (.slice AL c.li.length cL) c.li) {th v:Nat} {n:Int} (hv:v < c.N) :
  Calls Try.prog 27 #[(cA c AP cP AL cL),.int .i64 th,.agg #[.int .i64 6,.int .i64 v,.int .i64 n]] w fun e w'=>∃ g x,e = .returned (.pointer (some ⟨g,0,none⟩))∧Is15 c w' g x∧(∀ ws,A15 c ws x)∧(∀ k ∈ own15 g x,w.heap.size ≤ k∧k < w'.heap.size)∧Below w.heap.size w w':=by
 have HC:=Lib.hid hc
 have HP:=Lib.hid hP
 have HLi:=Lib.hid hL
 have HV:=Lib.hid hv
 have HS0:Hid (Mk w w):=Lib.hid (Mk.refl w)
 clear hc hP hL hv
 obtain ⟨b,hb⟩:∃ b,c.na v (2 + c.S) = b:=⟨_,rfl⟩
 have HBS:=Lib.hid hb
 clear hb
 go_enter Try.func27,Try.ntmps27
 go_wp2_with (first|((with_reducible refine gate_dst (N:=3) rfl ?_);refine box_event ?hg (N:=3) ?hd (cs:=#[.int .i64 c.th,.int .i64 c.S,.int .i64 c.ga,.int .i64 c.le,.int .i64 c.re,.int .i64 c.ti,.slice AP c.pa.length cP,.slice AL c.li.length cL]) (t:=24) ?hr ?_;(case hd=>rfl);(case hg=>rfl);(case hr=>first|(go_simp;done)|(go_simp;rfl));intro g1 hg W1 hbox hb';have HG_g1:Hid (w.heap.size ≤ g1):=Lib.hid (by rw [hg];exact HS0.out.size);have HS1:=Lib.hid ((HS0.out.below hb'));have HB1_g1:Hid (W1.heap[g1]? = some (.cells (#[.int .i64 c.th,.int .i64 c.S,.int .i64 c.ga,.int .i64 c.le,.int .i64 c.re,.int .i64 c.ti,.slice AP c.pa.length cP,.slice AL c.li.length cL]:Array Value) 24 (0,0))):=Lib.hid (hbox);have C_g1:=cells8 HB1_g1.out;clear hb' hbox hg)|((with_reducible refine gate_dst (N:=5) rfl ?_);refine box_event ?hg (N:=5) ?hd (cs:=#[.int .i64 6,.int .i64 v,.int .i64 n]) (t:=43) ?hr ?_;(case hd=>rfl);(case hg=>rfl);(case hr=>first|(go_simp;done)|(go_simp;rfl));intro g2 hg W2 hbox hb';have HG_g2:Hid (w.heap.size ≤ g2):=Lib.hid (by rw [hg];exact HS1.out.size);have HS2:=Lib.hid ((HS1.out.below hb'));have HB2_g1:=Lib.hid (blk_below HB1_g1.out hb');have HB2_g2:Hid (W2.heap[g2]? = some (.cells (#[.int .i64 6,.int .i64 v,.int .i64 n]:Array Value) 43 (0,0))):=Lib.hid (hbox);replace C_g1:=cells8 HB2_g1.out;have C_g2:=cells3 HB2_g2.out;clear hb' hbox hg)|((with_reducible refine gate_dst (N:=11) rfl ?_);refine box_event ?hg (N:=11) ?hd (cs:=#[.int .i64 6,.pointer none,.pointer none,.pointer none,.pointer none]) (t:=86) ?hr ?_;(case hd=>rfl);(case hg=>rfl);(case hr=>first|(go_simp;done)|(go_simp;rfl));intro g3 hg W3 hbox hb';have HG_g3:Hid (w.heap.size ≤ g3):=Lib.hid (by rw [hg];exact HS2.out.size);have HS3:=Lib.hid ((HS2.out.below hb'));have HB3_g1:=Lib.hid (blk_below HB2_g1.out hb');have HB3_g2:=Lib.hid (blk_below HB2_g2.out hb');have HB3_g3:Hid (W3.heap[g3]? = some (.cells (#[.int .i64 6,.pointer none,.pointer none,.pointer none,.pointer none]:Array Value) 86 (0,0))):=Lib.hid (hbox);clear C_g1 C_g2;have C_g1:=cells8 HB3_g1.out;have C_g2:=cells3 HB3_g2.out;have C_g3:=cells5 HB3_g3.out;clear hb' hbox hg)|(go_at_call 35;(with_reducible refine (counter_c HC.out (HP.out.below HS3.out.b) (HLi.out.below HS3.out.b) (v:=v) (by have:=HV.out;omega)).mono ?_);rintro e W4 ⟨rfl,hb'⟩;have HS4:=Lib.hid (HS3.out.below hb');have HB4_g1:=Lib.hid (blk_below HB3_g1.out hb');have HB4_g2:=Lib.hid (blk_below HB3_g2.out hb');have HB4_g3:=Lib.hid (blk_below HB3_g3.out hb');clear C_g1 C_g2 C_g3;have C_g1:=cells8 HB4_g1.out;have C_g2:=cells3 HB4_g2.out;have C_g3:=cells5 HB4_g3.out;rw [HBS.out];clear hb')|(go_at_call 43;(with_reducible refine (peek07 (c:=c) (b:=b) W4).mono ?_);rintro e W5 ⟨gi,rfl,hge,his,hb'⟩;have HS5:=Lib.hid (HS4.out.below hb');have HB5_g1:=Lib.hid (blk_below HB4_g1.out hb');have HB5_g2:=Lib.hid (blk_below HB4_g2.out hb');have HB5_g3:=Lib.hid (blk_below HB4_g3.out hb');clear C_g1 C_g2 C_g3;have C_g1:=cells8 HB5_g1.out;have C_g2:=cells3 HB5_g2.out;have C_g3:=cells5 HB5_g3.out;have HLT:=Lib.hid (blk_lt HB4_g3.out);have HSZ:=Lib.hid HS4.out.size;have HGE:=Lib.hid hge;have HIS:=Lib.hid his;clear hge his;clear hb'))
 go_ret
 have hX:Is15 c _ g3 (.n gi v ⟨0,0,true,[],0,0,false,0,false⟩):=⟨⟨6,by simp,(blk_set' HB5_g3.out 4 (.pointer (some ⟨gi,0,none⟩)) rfl)⟩,by rw [HBS.out];exact HIS.out.fr ((Fr.refl 0 true [g3] _).setCell (Nat.zero_le _) (.inl (by simp)) HB5_g3.out (by decide) _) (by rw [List.mem_singleton];have:=HLT.out;have:=HGE.out;omega)⟩
 exact ⟨g3,.n gi v ⟨0,0,true,[],0,0,false,0,false⟩,rfl,hX,fun ws=>⟨HV.out,⟨.inl rfl⟩⟩,fun k hk0=>⟨by have hk:=hk0;simp [own15] at hk;have:=HSZ.out;have:=HGE.out;have:=HG_g3.out;omega,Is15.lt_n hX k hk0⟩,(Mk.set HS5.out HG_g3.out 4 (.pointer (some ⟨gi,0,none⟩)))⟩
theorem new15 {c:Cf} (hc:c.Ok) {w:World} {AP AL:Option Addr} {cP cL:Nat} (hP:Ints w (.slice AP c.pa.length cP) c.pa) (hL:Ints w (.slice AL c.li.length cL) c.li) {th:Nat} (hth:th ≤ 1000) {kd nd n:Int} (hg:GoodCall c kd nd n) :
  Calls Try.prog 27 #[(cA c AP cP AL cL),.int .i64 th,.agg #[.int .i64 kd,.int .i64 nd,.int .i64 n]] w fun e w'=>∃ g x,e = .returned (.pointer (some ⟨g,0,none⟩))∧Is15 c w' g x∧(∀ ws,A15 c ws x)∧(∀ k ∈ own15 g x,w.heap.size ≤ k∧k < w'.heap.size)∧Below w.heap.size w w':=by
 rcases hg with ⟨h1,h2,h3⟩|⟨h1,kk,ver,h2,h3⟩|⟨h1,h2⟩
 ·obtain ⟨v,hv⟩:=Int.eq_ofNat_of_zero_le h2.1
  subst h1 hv
  exact new15_1 hc hP hL (by omega) hth h3
 ·subst h1
  exact new15_2 hc hP hL hth h2 h3
 ·obtain ⟨v,hv⟩:=Int.eq_ofNat_of_zero_le h2.1
  subst hv
  rcases h1 with h1|h1|h1|h1 <;> subst h1
  ·exact new15_3 hc hP hL (by omega)
  ·exact new15_4 hc hP hL (by omega)
  ·exact new15_5 hc hP hL (by omega)
  ·exact new15_6 hc hP hL (by omega)
end Go.Proofs.Ytadblpcjkahikaa.PTraceRuns

