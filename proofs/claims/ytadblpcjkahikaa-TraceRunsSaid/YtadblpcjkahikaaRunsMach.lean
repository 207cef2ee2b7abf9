
import Derived.Test.YtadblpcjkahikaaRunsNew
namespace Go.Proofs.Ytadblpcjkahikaa.PTraceRuns
open Go.RowKit Go.Proofs.YtadblpcjkahikaaW.PrintWords
set_option linter.unusedVariables false
abbrev Now:=List (Option (Nat × M15))
def ptrs (now:Now):List (Option Nat):=now.map fun o=>o.map (·.1)
theorem ptrs_getD (now:Now) (i:Nat):(ptrs now).getD i none = (now.getD i none).map (·.1):=by
 unfold ptrs
 rw [List.getD_eq_getElem?_getD,List.getElem?_map,List.getD_eq_getElem?_getD]
 cases now[i]? <;> rfl
theorem ptrs_set (now:Now) (i:Nat) (o:Option (Nat × M15)):ptrs (now.set i o) = (ptrs now).set i (o.map (·.1)):=by
 unfold ptrs;rw [List.map_set]
theorem getD_set_now (now:Now) (i j:Nat) (o:Option (Nat × M15)):(now.set i o).getD j none = if i = j∧i < now.length then o else now.getD j none:=by
 rw [List.getD_eq_getElem?_getD,List.getElem?_set,List.getD_eq_getElem?_getD]
 by_cases h:i = j
 ·subst h
  by_cases h2:i < now.length
  ·rw [if_pos rfl,if_pos h2,if_pos ⟨rfl,h2⟩];rfl
  ·rw [if_pos rfl,if_neg h2,if_neg (fun e=>h2 e.2),List.getElem?_eq_none (by omega)]
 ·rw [if_neg h,if_neg (fun e=>h e.1)]
structure Mach (c:Cf) (B:Nat) (w:World) (g:Nat) (ws:List Int) (now:Now):Prop where
 is:∀ i gi xi,now.getD i none = some (gi,xi)→Is15 c w gi xi∧A15 c ws xi∧∀ k ∈ own15 gi xi,B ≤ k∧k ≠ g∧k < w.heap.size
 apart:∀ i j gi xi gj xj,i ≠ j→now.getD i none = some (gi,xi)→now.getD j none = some (gj,xj)→∀ k ∈ own15 gi xi,k ∉ own15 gj xj
namespace Mach
variable {c:Cf} {B g:Nat} {w w':World} {ws ws':List Int} {now:Now}
theorem start (c:Cf) (B:Nat) (w:World) (g:Nat) (ws:List Int) (n:Nat):Mach c B w g ws (List.replicate n none):=by
 have h:∀ i,(List.replicate n (none:Option (Nat × M15))).getD i none = none:=fun i=>by
  rw [List.getD_eq_getElem?_getD,List.getElem?_replicate];split <;> rfl
 exact ⟨fun i gi xi e=>(by rw [h i] at e;cases e),fun i j gi xi gj xj _ e=>(by rw [h i] at e;cases e)⟩
theorem fr {L:List Nat} (h:Mach c B w g ws now) (hf:Fr B true L w w') (hL:∀ k ∈ L,k = g:=by simp):Mach c B w' g ws now :=
 ⟨fun i gi xi e=>by
  obtain ⟨h1,h2,h3⟩:=h.is i gi xi e
  exact ⟨h1.fr hf (fun k hk hm=>(h3 k hk).2.1 (hL k hm)),h2,fun k hk=>⟨(h3 k hk).1,(h3 k hk).2.1,Nat.lt_of_lt_of_le (h3 k hk).2.2 hf.size⟩⟩,h.apart⟩
theorem step {i gi:Nat} {xi x':M15} (h:Mach c B w g ws now) (hi:i < now.length) (he:now.getD i none = some (gi,xi)) (hx:Is15 c w' gi x') (ha:A15 c ws' x') (hw:WTo c ws ws') (hf:Fr B true (own15 gi xi) w w') (ho:∀ k ∈ own15 gi x',k ∈ own15 gi xi ∨ w.heap.size ≤ k∧k < w'.heap.size) (hB:B ≤ w.heap.size) (hg:g < w.heap.size) :
  Mach c B w' g ws' (now.set i (some (gi,x'))):=by
 obtain ⟨h1,h2,h3⟩:=h.is i gi xi he
 have hlt:∀ k ∈ own15 gi x',k < w'.heap.size:=fun k hk=>by
  rcases ho k hk with h4|h4
  ·exact Nat.lt_of_lt_of_le (h3 k h4).2.2 hf.size
  ·exact h4.2
 refine ⟨fun j gj xj e=>?_,fun j k gj xj gk xk hne e1 e2=>?_⟩
 ·rw [getD_set_now] at e
  split at e
  ·injection e with e;injection e with e1 e2;subst e1 e2
   refine ⟨hx,ha,fun k hk=>⟨?_,?_,hlt k hk⟩⟩
   ·rcases ho k hk with h4|h4
    ·exact (h3 k h4).1
    ·omega
   ·rcases ho k hk with h4|h4
    ·exact (h3 k h4).2.1
    ·omega
  ·rename_i hn
   obtain ⟨h4,h5,h6⟩:=h.is j gj xj e
   have hij:i ≠ j:=fun e3=>hn ⟨e3,hi⟩
   exact ⟨h4.fr hf (fun k hk=>h.apart j i gj xj gi xi (Ne.symm hij) e he k hk),h5.to hw,fun k hk=>⟨(h6 k hk).1,(h6 k hk).2.1,Nat.lt_of_lt_of_le (h6 k hk).2.2 hf.size⟩⟩
 ·rw [getD_set_now] at e1 e2
  split at e1
  ·rename_i hj
   split at e2
   ·rename_i hk;exact absurd (hj.1.symm.trans hk.1) hne
   ·injection e1 with e1;injection e1 with e3 e4;subst e3 e4
    intro b hb hb2
    rcases ho b hb with h4|h4
    ·exact h.apart i k gi xi gk xk (by rw [hj.1];exact hne) he e2 b h4 hb2
    ·have:=((h.is k gk xk e2).2.2 b hb2).2.2;omega
  ·split at e2
   ·rename_i hk
    injection e2 with e2;injection e2 with e3 e4;subst e3 e4
    intro b hb hb2
    rcases ho b hb2 with h4|h4
    ·exact h.apart j i gj xj gi xi (by rw [hk.1];exact hne) e1 he b hb h4
    ·have:=((h.is j gj xj e1).2.2 b hb).2.2;omega
   ·exact h.apart j k gj xj gk xk hne e1 e2
theorem put {i gi:Nat} {xi:M15} (h:Mach c B w g ws now) (hb:Below w.heap.size w w') (hx:Is15 c w' gi xi) (ha:A15 c ws xi) (ho:∀ k ∈ own15 gi xi,w.heap.size ≤ k∧k < w'.heap.size) (hB:B ≤ w.heap.size) (hg:g < w.heap.size) :
  Mach c B w' g ws (now.set i (some (gi,xi))):=by
 have hf:=Fr.of_below hb B true []
 refine ⟨fun j gj xj e=>?_,fun j k gj xj gk xk hne e1 e2=>?_⟩
 ·rw [getD_set_now] at e
  split at e
  ·injection e with e;injection e with e1 e2;subst e1 e2
   exact ⟨hx,ha,fun k hk=>⟨by have:=(ho k hk).1;omega,by have:=(ho k hk).1;omega,(ho k hk).2⟩⟩
  ·exact (h.fr hf (fun _ h=>by cases h)).is j gj xj e
 ·rw [getD_set_now] at e1 e2
  split at e1
  ·rename_i hj
   split at e2
   ·rename_i hk;exact absurd (hj.1.symm.trans hk.1) hne
   ·injection e1 with e1;injection e1 with e3 e4;subst e3 e4
    intro b hb1 hb2
    have:=((h.is k gk xk e2).2.2 b hb2).2.2
    have:=(ho b hb1).1
    omega
  ·split at e2
   ·injection e2 with e2;injection e2 with e3 e4;subst e3 e4
    intro b hb1 hb2
    have:=((h.is j gj xj e1).2.2 b hb1).2.2
    have:=(ho b hb2).1
    omega
   ·exact h.apart j k gj xj gk xk hne e1 e2
theorem drop (h:Mach c B w g ws now) (i:Nat):Mach c B w g ws (now.set i none):=by
 refine ⟨fun j gj xj e=>?_,fun j k gj xj gk xk hne e1 e2=>?_⟩
 ·rw [getD_set_now] at e
  split at e
  ·cases e
  ·exact h.is j gj xj e
 ·rw [getD_set_now] at e1 e2
  split at e1
  ·cases e1
  ·split at e2
   ·cases e2
   ·exact h.apart j k gj xj gk xk hne e1 e2
end Mach
end Go.Proofs.Ytadblpcjkahikaa.PTraceRuns

