
import Derived.Test.YtadblpcjkahikaaTracePure
namespace Go.Proofs.Ytadblpcjkahikaa.PTraceRuns.Tr
set_option linter.unusedVariables false
open Go.RowKit Go.Maps
def endTo (l:List S48) (b:Nat):Nat→Int
 | 0=>-1
 | k + 1=>if endTo l b k = -1 then (if b < k∧(ev l k).f1 = (ev l b).f1 then (k:Int) else -1) else endTo l b k
def beginsTo (l:List S48):Nat→List Nat
 | 0=>[]
 | k + 1=>if (ev l k).f2 = 1 then beginsTo l k ++ [k] else beginsTo l k
def endsTo (l:List S48) (k:Nat):List Int:=(beginsTo l k).map fun b=>endTo l b k
def callsTo (l:List S48) (k:Nat):List Int:=(beginsTo l k).map fun b:Nat=>(b:Int)
def onTo (l:List S48):Nat→DataW Unit
 | 0=>.map []
 | k + 1=>if (ev l k).f2 = 1 then (onTo l k).put (.int .i64 (ev l k).f1) (.lit (.int .i64 (((beginsTo l k).length:Nat):Int))) else onTo l k
def lastBegin (l:List S48) (t:Int):Nat→Option Nat
 | 0=>none
 | k + 1=>if (ev l k).f2 = 1∧(ev l k).f1 = t then some k else lastBegin l t k
def rankOf (l:List S48) (p:Nat):Nat:=(beginsTo l p).length
def takesB (l:List S48):Bool:=(List.range l.length).all (takeB l)
theorem takes_at {l:List S48} (h:takesB l = true) {k:Nat} (hk:k < l.length):takeB l k = true:=by
 simp only [takesB,List.all_eq_true,List.mem_range] at h
 exact h k hk
theorem take_kind {l:List S48} {k:Nat} (h:takeB l k = true):(ev l k).f2 = 1∧openAt l k (ev l k).f1 = none∧zeroB (ev l k).f4 = true ∨ (ev l k).f2 = 2∧∃ p,openAt l k (ev l k).f1 = some p∧callB (ev l p).f3 (ev l k).f3 = true:=by
 unfold takeB at h
 by_cases h1:(ev l k).f2 = 1
 ·rw [if_pos h1] at h
  left
  cases ho:openAt l k (ev l k).f1 with
  | none=>rw [ho] at h;exact ⟨h1,rfl,by simpa using h⟩
  | some p=>rw [ho] at h;simp at h
 ·rw [if_neg h1] at h
  by_cases h2:(ev l k).f2 = 2
  ·rw [if_pos h2] at h
   right
   cases ho:openAt l k (ev l k).f1 with
   | none=>rw [ho] at h;cases h
   | some p=>rw [ho] at h;exact ⟨h2,p,rfl,h⟩
  ·rw [if_neg h2] at h;cases h
theorem beginsTo_lt (l:List S48):∀ k b,b ∈ beginsTo l k→b < k∧(ev l b).f2 = 1
 | 0,b,h=>by simp [beginsTo] at h
 | k + 1,b,h=>by
  unfold beginsTo at h
  split at h
  ·rename_i hk
   rcases List.mem_append.1 h with h|h
   ·have:=beginsTo_lt l k b h;exact ⟨by omega,this.2⟩
   ·simp at h;subst h;exact ⟨by omega,hk⟩
  ·have:=beginsTo_lt l k b h;exact ⟨by omega,this.2⟩
theorem beginsTo_rank (l:List S48) (p:Nat) (hp:(ev l p).f2 = 1):∀ k,p < k→(beginsTo l k)[rankOf l p]? = some p
 | 0,h=>by omega
 | k + 1,h=>by
  unfold beginsTo
  by_cases e:p = k
  ·subst e
   rw [if_pos hp]
   unfold rankOf
   simp
  ·have ih:=beginsTo_rank l p hp k (by omega)
   split
   ·rw [List.getElem?_append_left]
    ·exact ih
    ·exact (List.getElem?_eq_some_iff.1 ih).1
   ·exact ih
theorem beginsTo_nodup (l:List S48):∀ k,(beginsTo l k).Pairwise (· < ·)
 | 0=>List.Pairwise.nil
 | k + 1=>by
  unfold beginsTo
  have ih:=beginsTo_nodup l k
  split
  ·rw [List.pairwise_append]
   refine ⟨ih,by simp,fun a ha b hb=>?_⟩
   simp at hb
   rw [hb]
   exact (beginsTo_lt l k a ha).1
  ·exact ih
theorem endTo_small (l:List S48) (b:Nat):∀ k,k ≤ b + 1→endTo l b k = -1
 | 0,_=>rfl
 | k + 1,h=>by
  unfold endTo
  rw [if_pos (endTo_small l b k (by omega)),if_neg (by omega)]
theorem endTo_ways (l:List S48) (b:Nat):∀ k,(endTo l b k = -1∧∀ j,b < j→j < k→(ev l j).f1 ≠ (ev l b).f1) ∨
  ∃ q:Nat,endTo l b k = (q:Int)∧b < q∧q < k∧(ev l q).f1 = (ev l b).f1∧∀ j,b < j→j < q→(ev l j).f1 ≠ (ev l b).f1
 | 0=>.inl ⟨rfl,fun j h1 h2=>by omega⟩
 | k + 1=>by
  rw [endTo]
  rcases endTo_ways l b k with ⟨h,hn⟩|⟨q,h,h1,h2,h3,h4⟩
  ·rw [if_pos h]
   by_cases hc:b < k∧(ev l k).f1 = (ev l b).f1
   ·rw [if_pos hc]
    exact .inr ⟨k,rfl,hc.1,by omega,hc.2,fun j h1 h2=>hn j h1 (by omega)⟩
   ·rw [if_neg hc]
    refine .inl ⟨rfl,fun j h1 h2=>?_⟩
    by_cases e:j = k
    ·subst e;intro h;exact hc ⟨h1,h⟩
    ·exact hn j h1 (by omega)
  ·rw [if_neg (by omega)]
   exact .inr ⟨q,h,h1,by omega,h3,h4⟩
theorem openAt_some (l:List S48) (t:Int) (hk:∀ k,k < l.length→(ev l k).f2 = 1 ∨ (ev l k).f2 = 2):∀ k p,k ≤ l.length→openAt l k t = some p→(ev l p).f2 = 1∧(ev l p).f1 = t∧p < k∧lastBegin l t k = some p∧∀ j,p < j→j < k→(ev l j).f1 ≠ t
 | 0,p,_,h=>by simp [openAt] at h
 | k + 1,p,hkl,h=>by
  unfold openAt at h
  unfold lastBegin
  by_cases ht:(ev l k).f1 = t
  ·rw [if_pos ht] at h
   by_cases h1:(ev l k).f2 = 1
   ·rw [if_pos h1] at h
    injection h with h
    subst h
    rw [if_pos ⟨h1,ht⟩]
    exact ⟨h1,ht,by omega,rfl,fun j a b=>by omega⟩
   ·rw [if_neg h1] at h
    rcases hk k (by omega) with h2|h2
    ·exact absurd h2 h1
    ·rw [if_pos h2] at h;cases h
  ·rw [if_neg ht] at h
   obtain ⟨a,b,c,d,e⟩:=openAt_some l t hk k p (by omega) h
   rw [if_neg (by intro x;exact ht x.2)]
   refine ⟨a,b,by omega,d,fun j h1 h2=>?_⟩
   by_cases ej:j = k
   ·subst ej;exact ht
   ·exact e j h1 (by omega)
theorem openAt_none (l:List S48) (t:Int):∀ k,openAt l k t = none→∀ b,b < k→(ev l b).f2 = 1→(ev l b).f1 = t→endTo l b k ≠ -1
 | 0,_,b,hb,_,_=>by omega
 | k + 1,h,b,hb,h1,ht=>by
  unfold openAt at h
  by_cases hkt:(ev l k).f1 = t
  ·rw [if_pos hkt] at h
   by_cases hb1:(ev l k).f2 = 1
   ·rw [if_pos hb1] at h;cases h
   ·have hne:b ≠ k:=by rintro rfl;exact hb1 h1
    unfold endTo
    by_cases he:endTo l b k = -1
    ·rw [if_pos he,if_pos ⟨by omega,by rw [hkt,ht]⟩];omega
    ·rw [if_neg he];exact he
  ·rw [if_neg hkt] at h
   have hne:b ≠ k:=by rintro rfl;exact hkt ht
   have ih:=openAt_none l t k h b (by omega) h1 ht
   unfold endTo
   rw [if_neg ih];exact ih
theorem endsTo_begin {l:List S48} {k:Nat} (h1:(ev l k).f2 = 1) (ho:openAt l k (ev l k).f1 = none):endsTo l (k + 1) = endsTo l k ++ [-1]:=by
 unfold endsTo
 have hb:beginsTo l (k + 1) = beginsTo l k ++ [k]:=by rw [beginsTo,if_pos h1]
 rw [hb,List.map_append]
 congr 1
 ·refine List.map_congr_left fun b hb=>?_
  obtain ⟨hlt,hb1⟩:=beginsTo_lt l k b hb
  rw [endTo]
  by_cases he:endTo l b k = -1
  ·rw [if_pos he]
   rw [if_neg]
   ·exact he.symm
   ·rintro ⟨_,ht⟩
    exact openAt_none l _ k ho b hlt hb1 ht.symm he
  ·rw [if_neg he]
 ·simp [endTo_small l k (k + 1) (by omega)]
theorem endsTo_end {l:List S48} {k p:Nat} (h1:(ev l k).f2 ≠ 1) (hk:∀ k,k < l.length→(ev l k).f2 = 1 ∨ (ev l k).f2 = 2) (hkl:k < l.length) (ho:openAt l k (ev l k).f1 = some p):endsTo l (k + 1) = (endsTo l k).set (rankOf l p) (k:Int)∧rankOf l p < (endsTo l k).length:=by
 obtain ⟨p1,p2,p3,_,p5⟩:=openAt_some l _ hk k p (by omega) ho
 have hb:beginsTo l (k + 1) = beginsTo l k:=by rw [beginsTo,if_neg h1]
 have hr:=beginsTo_rank l p p1 k p3
 have hrl:rankOf l p < (beginsTo l k).length:=(List.getElem?_eq_some_iff.1 hr).1
 refine ⟨?_,by unfold endsTo;simpa using hrl⟩
 unfold endsTo
 rw [hb]
 refine List.ext_getElem? fun j=>?_
 rw [List.getElem?_set]
 by_cases hj:rankOf l p = j
 ·subst hj
  rw [if_pos rfl,List.getElem?_map,hr]
  rw [if_pos (by simpa using hrl)]
  simp only [Option.map_some]
  rw [endTo]
  have he:endTo l p k = -1:=by
   rcases endTo_ways l p k with ⟨h,_⟩|⟨q,_,q1,q2,q3,_⟩
   ·exact h
   ·exact absurd (q3.trans p2) (p5 q q1 q2)
  rw [if_pos he,if_pos ⟨p3,p2.symm⟩]
 ·rw [if_neg hj,List.getElem?_map,List.getElem?_map]
  cases hb2:(beginsTo l k)[j]? with
  | none=>rfl
  | some b =>
   simp only [Option.map_some]
   congr 1
   have hmem:b ∈ beginsTo l k:=List.mem_of_getElem? hb2
   obtain ⟨hlt,hb1⟩:=beginsTo_lt l k b hmem
   have hne:b ≠ p:=by
    rintro rfl
    have hr2:=beginsTo_rank l b hb1 k hlt
    have hnd:=beginsTo_nodup l k
    have hj2:j < (beginsTo l k).length:=(List.getElem?_eq_some_iff.1 hb2).1
    have e1:=(List.getElem?_eq_some_iff.1 hb2).2
    have e2:=(List.getElem?_eq_some_iff.1 hr2).2
    rcases Nat.lt_or_gt_of_ne hj with h|h
    ·have:=List.pairwise_iff_getElem.1 hnd _ _ hrl hj2 h;omega
    ·have:=List.pairwise_iff_getElem.1 hnd _ _ hj2 hrl h;omega
   rw [endTo]
   by_cases he:endTo l b k = -1
   ·rw [if_pos he,if_neg]
    ·exact he.symm
    ·rintro ⟨hbk,ht⟩
     rcases Nat.lt_or_gt_of_ne hne with h|h
     ·
      rcases endTo_ways l b k with ⟨_,hn⟩|⟨q,hq,_⟩
      ·exact hn p h p3 (by rw [p2,ht])
      ·omega
     ·exact p5 b h hbk ht.symm
   ·rw [if_neg he]
theorem tidy_onTo (l:List S48):∀ k,Tidy (onTo l k)
 | 0=>tidy_empty
 | k + 1=>by
  have ih:=tidy_onTo l k
  unfold onTo
  split
  ·exact ih.put (by trivial) _
  ·exact ih
theorem at_onTo (l:List S48) (t:Int):∀ k,(onTo l k).atKey (.int .i64 t) (.lit (.int .i64 0)) = .lit (.int .i64 ((match lastBegin l t k with|some p=>rankOf l p|none=>0:Nat):Int))
 | 0=>rfl
 | k + 1=>by
  have ih:=at_onTo l t k
  have hm:=(tidy_onTo l k).isMap
  unfold onTo lastBegin
  by_cases h1:(ev l k).f2 = 1
  ·rw [if_pos h1]
   by_cases ht:(ev l k).f1 = t
   ·subst ht
    rw [if_pos ⟨h1,rfl⟩]
    exact atKey_put_same hm (by trivial) _ _
   ·rw [if_neg (by intro x;exact ht x.2),atKey_put_other (key_ne ht)]
    exact ih
  ·rw [if_neg h1,if_neg (by intro x;exact h1 x.1)]
   exact ih
theorem beginsTo_len (l:List S48):∀ k,(beginsTo l k).length ≤ k
 | 0=>Nat.le_refl _
 | k + 1=>by
  have ih:=beginsTo_len l k
  unfold beginsTo
  split
  ·simp;omega
  ·omega
theorem endsTo_len (l:List S48) (k:Nat):(endsTo l k).length ≤ k:=by
 unfold endsTo
 rw [List.length_map]
 exact beginsTo_len l k
end Go.Proofs.Ytadblpcjkahikaa.PTraceRuns.Tr

