
import Derived.Test.YtadblpcjkahikaaPTraceRunsx0
import Derived.Maps.OwnSet
namespace Go.Proofs.Ytadblpcjkahikaa.PTraceRuns.Tr
open Go.RowKit Go.Maps
def ev (l:List S48) (k:Nat):S48:=l.getD k z48
theorem rd_ev (l:List S48) (k:Nat):rd_T48 l (k:Int) = ev l k:=by simp [rd_T48,ev]
def openAt (l:List S48):Nat→Int→Option Nat
 | 0,_=>none
 | k + 1,t=>if (ev l k).f1 = t then (if (ev l k).f2 = 1 then some k else if (ev l k).f2 = 2 then none else openAt l k t) else openAt l k t
def mapTo (l:List S48):Nat→DataW Unit
 | 0=>.map []
 | k + 1=>if (ev l k).f2 = 1 then (mapTo l k).put (.int .i64 (ev l k).f1) (.lit (.int .i64 k)) else if (ev l k).f2 = 2 then (mapTo l k).del (.int .i64 (ev l k).f1) else mapTo l k
def callB (a b:S43):Bool:=a.f0 == b.f0 && (a.f1 == b.f1 && (a.f2 == b.f2))
def zeroB (a:S46):Bool:=a.f0 == 0 && (a.f1 == 0 && (!a.f2 && (a.f3 == 0)))
def takeB (l:List S48) (k:Nat):Bool :=
 if (ev l k).f2 = 1 then !(openAt l k (ev l k).f1).isSome && zeroB (ev l k).f4
 else if (ev l k).f2 = 2 then (match openAt l k (ev l k).f1 with|some p=>callB (ev l p).f3 (ev l k).f3|none=>false) else false
def wasAt (l:List S48):Nat→Int
 | 0=>0
 | k + 1=>(ev l k).f0
def stepB (l:List S48) (threads:Int) (k:Nat):Bool :=
 decide (0 ≤ (ev l k).f1) && (decide ((ev l k).f1 < threads) && (decide (wasAt l k ≤ (ev l k).f0) && takeB l k))
def rightB (l:List S48) (threads:Int):Bool:=(List.range l.length).all (stepB l threads)
def mostTo (l:List S48):Nat→Int
 | 0=>0
 | k + 1=>max (mostTo l k) (Maps.size (mapTo l (k + 1)))
def beforeB (l:List S48) (a b:Int):Bool :=
 decide (0 ≤ a) && (decide (a < b) && (decide (b < l.length) && ((ev l a.toNat).f2 == 1 && ((ev l b.toNat).f2 == 1 &&
  ((List.range (b.toNat - a.toNat - 1)).any fun j=>(ev l (a.toNat + 1 + j)).f1 == (ev l a.toNat).f1)))))
def fitB (l:List S48):Bool:=l.all (fun e=>decide (-9223372036854775808 ≤ e.f1) && decide (e.f1 ≤ 9223372036854775807)) && decide (l.length ≤ 4000)
theorem fit_len {l:List S48} (h:fitB l = true):l.length ≤ 4000:=by simp [fitB] at h;exact h.2
theorem fit_wf {l:List S48} (h:fitB l = true) (k:Nat):(Lit.int .i64 (ev l k).f1).wf = true:=by
 refine WalkArith.wf_i64 ?_
 simp only [fitB,Bool.and_eq_true,List.all_eq_true] at h
 by_cases hk:k < l.length
 ·have h1:=h.1 l[k] (List.getElem_mem hk)
  simp at h1
  unfold ev
  rw [List.getD_eq_getElem?_getD,List.getElem?_eq_getElem hk]
  exact h1
 ·unfold ev
  rw [List.getD_eq_getElem?_getD,List.getElem?_eq_none (by omega)]
  decide
theorem tidy_mapTo (l:List S48):∀ k,Tidy (mapTo l k)
 | 0=>tidy_empty
 | k + 1=>by
  have ih:=tidy_mapTo l k
  unfold mapTo
  split
  ·exact ih.put (by trivial) _
  ·split
   ·exact ih.del _
   ·exact ih
theorem key_ne {s t:Int} (h:s ≠ t):(Lit.int .i64 t) ≠ Lit.int .i64 s:=fun e=>h (by injection e with _ e;exact e.symm)
theorem has_mapTo (l:List S48) (t:Int):∀ k,Maps.has (mapTo l k) (.int .i64 t) = (openAt l k t).isSome
 | 0=>rfl
 | k + 1=>by
  have ih:=has_mapTo l t k
  have hm:=(tidy_mapTo l k).isMap
  unfold mapTo openAt
  by_cases ht:(ev l k).f1 = t
  ·subst ht
   rw [if_pos rfl]
   by_cases h1:(ev l k).f2 = 1
   ·rw [if_pos h1,if_pos h1];exact has_put_same hm (by trivial) _
   ·rw [if_neg h1,if_neg h1]
    by_cases h2:(ev l k).f2 = 2
    ·rw [if_pos h2,if_pos h2];exact has_del_same
    ·rw [if_neg h2,if_neg h2];exact ih
  ·rw [if_neg ht]
   split
   ·rw [has_put_other (key_ne ht)];exact ih
   ·split
    ·rw [has_del_other (key_ne ht)];exact ih
    ·exact ih
theorem at_mapTo (l:List S48) (t:Int):∀ k,(mapTo l k).atKey (.int .i64 t) (.lit (.int .i64 0)) = .lit (.int .i64 (((openAt l k t).getD 0:Nat):Int))
 | 0=>rfl
 | k + 1=>by
  have ih:=at_mapTo l t k
  have hm:=(tidy_mapTo l k).isMap
  unfold mapTo openAt
  by_cases ht:(ev l k).f1 = t
  ·subst ht
   rw [if_pos rfl]
   by_cases h1:(ev l k).f2 = 1
   ·rw [if_pos h1,if_pos h1];exact atKey_put_same hm (by trivial) _ _
   ·rw [if_neg h1,if_neg h1]
    by_cases h2:(ev l k).f2 = 2
    ·rw [if_pos h2,if_pos h2];exact atKey_del_same _
    ·rw [if_neg h2,if_neg h2];exact ih
  ·rw [if_neg ht]
   split
   ·rw [atKey_put_other (key_ne ht)];exact ih
   ·split
    ·rw [atKey_del_other (key_ne ht)];exact ih
    ·exact ih
theorem openAt_lt (l:List S48) (t:Int):∀ k p,openAt l k t = some p→p < k
 | 0,_,h=>by simp [openAt] at h
 | k + 1,p,h=>by
  have ih:=openAt_lt l t k p
  unfold openAt at h
  split at h
  ·split at h
   ·injection h;omega
   ·split at h
    ·cases h
    ·have:=ih h;omega
  ·have:=ih h;omega
theorem size_mapTo (l:List S48):∀ k,Maps.size (mapTo l k) ≤ k
 | 0=>Nat.le_refl _
 | k + 1=>by
  have ih:=size_mapTo l k
  unfold mapTo
  split
  ·rw [size_put (tidy_mapTo l k)];split <;> omega
  ·split
   ·have:=size_del (k:=.int .i64 (ev l k).f1) (tidy_mapTo l k);omega
   ·omega
theorem mostTo_bd (l:List S48):∀ k,0 ≤ mostTo l k∧mostTo l k ≤ k
 | 0=>⟨Int.le_refl _,Int.le_refl _⟩
 | k + 1=>by
  have ih:=mostTo_bd l k
  have:=size_mapTo l (k + 1)
  unfold mostTo
  omega
end Go.Proofs.Ytadblpcjkahikaa.PTraceRuns.Tr

