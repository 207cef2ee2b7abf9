
import Derived.Test.YtadblpcjkahikaaRunsCells
import Derived.Test.YtadblpcjkahikaaWAll
import Derived.Lib.Hide
import Derived.WalkKit
namespace Go.Proofs.Ytadblpcjkahikaa.PTraceRuns
open Go.RowKit Go.Proofs.YtadblpcjkahikaaW.PrintWords Go.Proofs.YtadblpcjkahikaaW.PrintLast Go.Proofs.YtadblpcjkahikaaW.PrintMore
set_option linter.unusedVariables false
def mtypes:List Nat:=[39,77,86,98,100,102,104,112,115,122,118]
structure Fr (B:Nat) (M:Bool) (L:List Nat) (w w':World):Prop where
 os:w'.os = w.os
 tape:w'.tape = w.tape
 output:w'.output = w.output
 size:w.heap.size ≤ w'.heap.size
 blk:∀ k o,w.heap[k]? = some o→(k < B ∨ ∀ cs t fr,o = .cells cs t fr→t ∈ mtypes→k ∉ L∧(M = true→t ≠ 77∧t ≠ 118))→w'.heap[k]? = some o
namespace Fr
variable {B:Nat} {M M1 M2:Bool} {L L1 L2:List Nat} {w w1 w2:World}
theorem refl (B:Nat) (M:Bool) (L:List Nat) (w:World):Fr B M L w w:=⟨rfl,rfl,rfl,Nat.le_refl _,fun _ _ h _=>h⟩
theorem mono (h:Fr B M1 L1 w w1) (hM:M1 = true→M = true) (hL:∀ k ∈ L1,k ∈ L):Fr B M L w w1 :=
 ⟨h.os,h.tape,h.output,h.size,fun k o ho hc=>h.blk k o ho (hc.imp id fun hc cs t fr e ht=>⟨fun hk=>(hc cs t fr e ht).1 (hL k hk),fun hm=>(hc cs t fr e ht).2 (hM hm)⟩)⟩
theorem trans (h:Fr B M1 L1 w w1) (g:Fr B M2 L2 w1 w2) (h1:M1 = true→M = true) (h2:M2 = true→M = true) (hL1:∀ k ∈ L1,k ∈ L) (hL2:∀ k ∈ L2,k ∈ L ∨ w.heap.size ≤ k):Fr B M L w w2 :=
 ⟨g.os.trans h.os,g.tape.trans h.tape,g.output.trans h.output,Nat.le_trans h.size g.size,fun k o ho hc=>by
  have hlt:=blk_lt ho
  refine g.blk k o (h.blk k o ho (hc.imp id fun hc cs t fr e ht=>⟨fun hk=>(hc cs t fr e ht).1 (hL1 k hk),fun hm=>(hc cs t fr e ht).2 (h1 hm)⟩)) (hc.imp id fun hc cs t fr e ht=>⟨fun hk=>?_,fun hm=>(hc cs t fr e ht).2 (h2 hm)⟩)
  rcases hL2 k hk with h3|h3
  ·exact (hc cs t fr e ht).1 h3
  ·omega⟩
theorem of_below (h:Below w.heap.size w w1) (B:Nat) (M:Bool) (L:List Nat):Fr B M L w w1:=⟨h.os,h.tape,h.output,h.size,fun k o ho _=>(h.block k (blk_lt ho)).trans ho⟩
theorem below (h:Fr B M L w w1) (hB:B ≤ w.heap.size):Below B w w1:=⟨h.os,h.tape,h.output,h.size,fun k hk=>by
 have hlt:k < w.heap.size:=by omega
 have e:=Array.getElem?_eq_getElem hlt
 rw [h.blk k _ e (.inl hk),e]⟩
theorem step (h:Fr B M L w w1) (g:Fr B M2 L2 w1 w2) (h2:M2 = true→M = true) (hL2:∀ k ∈ L2,k ∈ L ∨ w.heap.size ≤ k):Fr B M L w w2:=trans h g id h2 (fun _ hk=>hk) hL2
theorem then_below (h:Fr B M L w w1) (g:Below w1.heap.size w1 w2):Fr B M L w w2:=step h (of_below g B false []) (fun e=>by cases e) (fun _ hk=>by cases hk)
theorem drewN (h:Fr B M L w w1) (n:Nat):Fr B M L w (w1.drewN n):=⟨h.os,h.tape,h.output,h.size,h.blk⟩
theorem drew (h:Fr B M L w w1):Fr B M L w w1.drew:=⟨h.os,h.tape,h.output,h.size,h.blk⟩
theorem alloc (h:Fr B M L w w1) (o:Obj):Fr B M L w (w1.alloc o):=h.then_below (below_alloc (Below.refl _ _) o)
theorem setCell (h:Fr B M L w w1) {p:Addr} (hB:B ≤ p.block) (hp:p.block ∈ L ∨ w.heap.size ≤ p.block) {cs:Array Value} {t:Nat} {fr:Nat × Nat} (hb:w1.heap[p.block]? = some (.cells cs t fr)) (ht:t ∈ mtypes) (u:Value):Fr B M L w (w1.setCell p u):=by
 refine step h (M2:=false) (L2:=[p.block]) ⟨rfl,rfl,rfl,by simp [World.setCell],fun k o ho hc=>?_⟩ (fun e=>by cases e) (fun k hk=>by rw [List.mem_singleton.1 hk];exact hp)
 by_cases e:k = p.block
 ·subst e
  rcases hc with hc|hc
  ·omega
  ·rw [hb] at ho
   injection ho with ho
   exact absurd List.mem_cons_self (hc cs t fr ho.symm ht).1
 ·rw [Below.heap_setCell w1 p u k e];exact ho
theorem setMem (h:Fr B M L w w1) (hM:M = true) {p:Addr} (hB:B ≤ p.block) {cs:Array Value} {fr:Nat × Nat} (hb:w1.heap[p.block]? = some (.cells cs 77 fr)) (u:Value):Fr B M L w (w1.setCell p u):=by
 refine step h (M2:=true) (L2:=[]) ⟨rfl,rfl,rfl,by simp [World.setCell],fun k o ho hc=>?_⟩ (fun _=>hM) (fun _ hk=>by cases hk)
 by_cases e:k = p.block
 ·subst e
  rcases hc with hc|hc
  ·omega
  ·rw [hb] at ho
   injection ho with ho
   exact absurd rfl ((hc cs 77 fr ho.symm (by decide)).2 rfl).1
 ·rw [Below.heap_setCell w1 p u k e];exact ho
theorem grown (h:Fr B M L w w1) (hM:M = true) {row:Option Nat} (hg:w1.grownBy w2 row) (hr:∀ k,row = some k→B ≤ k∧∃ cs fr,w1.heap[k]? = some (.cells cs 118 fr)):Fr B M L w w2:=by
 refine step h (M2:=true) (L2:=[]) ⟨hg.os,hg.tape,hg.output,hg.size,fun k o ho hc=>?_⟩ (fun _=>hM) (fun _ hk=>by cases hk)
 by_cases e:some k = row
 ·obtain ⟨hB,cs,fr,hk⟩:=hr k e.symm
  rcases hc with hc|hc
  ·omega
  ·rw [ho] at hk
   injection hk with hk
   exact absurd rfl ((hc cs 118 fr hk (by decide)).2 rfl).2
 ·exact (hg.block k (blk_lt ho) e).trans ho
end Fr
section
variable {B:Nat} {M:Bool} {L:List Nat} {w w1:World} {α:Type} {d:Kd α} {e b g t:Nat} {ok:Nat→Prop} {v:Value} {xs:List α} {cs:Array Value} {fr:Nat × Nat}
theorem blk_fr (hb:w.heap[g]? = some (.cells cs t fr)) (h:Fr B M L w w1) (hg:g ∉ L) (ht:M = true→t ≠ 77∧t ≠ 118):w1.heap[g]? = some (.cells cs t fr) :=
 h.blk g _ hb (.inr fun cs' t' fr' e _=>by injection e with _ e2;subst e2;exact ⟨hg,ht⟩)
theorem row_fr (hr:d.R e w b ok v xs) (h:Fr B M L w w1) (hE:∀ q ∈ e :: d.E,q ∉ mtypes):d.R e w1 b ok v xs:=by
 refine Kd.R_mono (Kd.R_move (Kd.R_bound hr) (fun k hk=>?_)) (fun k hk=>hk.1)
 obtain ⟨_,_,_,q,hq,cells,hc⟩:=hk
 rw [hc]
 exact h.blk k _ hc (.inr fun cs' t' fr' e' ht=>by injection e' with _ e2;subst e2;exact absurd ht (hE q hq))
end
theorem row_slice {w:World} {B n:Nat} {v:Value} {xs:List Value} (h:w.ownsRow B 3 1 v n xs) (hn:0 < n):∃ g cap,v = .slice (some ⟨g,0,none⟩) n cap∧n ≤ cap∧cap ≤ maxLen∧B ≤ g∧g < w.heap.size:=by
 obtain ⟨_,h⟩:=h
 rcases h with ⟨_,h0⟩|⟨g,cap,cur,hv,hb,hg,h1,h2,_⟩
 ·omega
 ·exact ⟨g,cap,hv,h1,h2,hb,(Array.getElem?_eq_some_iff.1 hg).1⟩
theorem R_typed' {α:Type} {d:Kd α} {e b:Nat} {ok:Nat→Prop} {w:World} {v:Value} {xs:List α} (h:d.R e w b ok v xs) (k:Nat) (hk:v.ownBlock = some k):b ≤ k∧∃ cells,w.heap[k]? = some (.cells cells e (0,0)):=by
 obtain ⟨inner,ho⟩:=Kd.R_own h
 exact ⟨own_base ho k hk,own_typed ho k hk⟩
def Ints (w:World) (v:Value) (xs:List Int):Prop:=Kd.R (Kd.int .i64) 3 w 0 (fun _=>True) v xs
theorem Ints.fr {B:Nat} {M:Bool} {L:List Nat} {w w1:World} {v:Value} {xs:List Int} (h:Ints w v xs) (hf:Fr B M L w w1):Ints w1 v xs:=row_fr h hf (by decide)
theorem Ints.below {w w1:World} {v:Value} {xs:List Int} (h:Ints w v xs) (hb:Below w.heap.size w w1):Ints w1 v xs:=Kd.R_below h hb
theorem Ints.of {w:World} {b:Nat} {ok:Nat→Prop} {v:Value} {xs:List Int} (h:Kd.R (Kd.int .i64) 3 w b ok v xs):Ints w v xs:=Kd.R_mono (Kd.R_lower h (Nat.zero_le _)) (fun _ _=>trivial)
theorem Ints.reads {w:World} {v:Value} {xs:List Int} (h:Ints w v xs):∃ A c,v = .slice A xs.length c∧xs.length ≤ c∧Kd.C (Kd.int .i64) w A xs.length xs:=Kd.R_reads h
theorem Ints.at_ {w:World} {A:Option Addr} {n c:Nat} {xs:List Int} (h:Ints w (.slice A n c) xs) (hn:0 < n):∃ g,A = some ⟨g,0,none⟩∧n = xs.length∧∀ i:Nat,i < n→w.cell? ⟨g,i,none⟩ = some (.int .i64 (xs.getD i 0)):=by
 have ho:w.ownsRow 0 3 1 (.slice A n c) xs.length (nums .i64 xs):=Kd.own_of_R h
 obtain ⟨A',c',e⟩:=own_slice ho
 injection e with e1 e2 e3
 subst e2
 obtain ⟨g,cap,e,_⟩:=row_slice ho (by omega)
 injection e with e1 e2 e3
 subst e1 e3
 refine ⟨g,rfl,rfl,fun i hi=>?_⟩
 have:=(own_at ho (i:Int) (by omega) (by omega)).1
 rw [Int.toNat_natCast] at this
 rw [this];unfold rd;rw [Int.toNat_natCast]
end Go.Proofs.Ytadblpcjkahikaa.PTraceRuns

