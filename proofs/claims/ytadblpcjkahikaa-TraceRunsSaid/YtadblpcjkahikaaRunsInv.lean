
import Derived.Test.YtadblpcjkahikaaTraceEnds0
namespace Go.Proofs.Ytadblpcjkahikaa.PTraceRuns
open Go.RowKit Go.Maps Go.Proofs.Ytadblpcjkahikaa.PTraceRuns.Tr
set_option linter.unusedVariables false
section
variable {l:List S48} {e:S48}
theorem ev_app {k:Nat} (hk:k < l.length):ev (l ++ [e]) k = ev l k:=by
 unfold ev;rw [List.getD_eq_getElem?_getD,List.getElem?_append_left hk,List.getD_eq_getElem?_getD]
theorem ev_last:ev (l ++ [e]) l.length = e:=by
 unfold ev;rw [List.getD_eq_getElem?_getD,List.getElem?_append_right (Nat.le_refl _),Nat.sub_self];rfl
theorem openAt_app (t:Int):∀ k,k ≤ l.length→openAt (l ++ [e]) k t = openAt l k t
 | 0,_=>rfl
 | k + 1,h=>by rw [openAt,openAt,ev_app h,openAt_app t k (by omega)]
theorem wasAt_app:∀ k,k ≤ l.length→wasAt (l ++ [e]) k = wasAt l k
 | 0,_=>rfl
 | k + 1,h=>by rw [wasAt,wasAt,ev_app h]
theorem takeB_app {k:Nat} (hk:k < l.length):takeB (l ++ [e]) k = takeB l k:=by
 unfold takeB
 rw [ev_app hk,openAt_app _ k (by omega)]
 cases h:openAt l k (ev l k).f1 with
 | none=>rfl
 | some p=>simp only [ev_app (e:=e) (show p < l.length by have:=openAt_lt l _ k p h;omega)]
theorem stepB_app {k:Nat} (T:Int) (hk:k < l.length):stepB (l ++ [e]) T k = stepB l T k:=by
 unfold stepB;rw [ev_app hk,takeB_app hk,wasAt_app k (by omega)]
theorem openAt_last (t:Int):openAt (l ++ [e]) (l.length + 1) t = if e.f1 = t then (if e.f2 = 1 then some l.length else if e.f2 = 2 then none else openAt l l.length t) else openAt l l.length t:=by
 rw [openAt,ev_last,openAt_app t _ (Nat.le_refl _)]
end
structure Inv (calls:List (List S43)) (bg:List Int) (on:Nat→Bool) (l:List S48) (n:Nat):Prop where
 lenB:bg.length = calls.length
 rng:∀ t,t < calls.length→∃ b:Nat,bg.getD t 0 = (b:Int)∧b ≤ (calls.getD t []).length
 steps:∀ k,k < l.length→stepB l calls.length k = true
 opn:∀ t,t < calls.length→on t = true→∃ p b:Nat,openAt l l.length t = some p∧bg.getD t 0 = (b:Int) + 1∧b < (calls.getD t []).length∧(ev l p).f3 = rd_T43 (calls.getD t []) b
 shut:∀ t,t < calls.length→on t = false→openAt l l.length t = none
 at_:wasAt l l.length ≤ n
namespace Inv
variable {calls:List (List S43)} {bg:List Int} {on on':Nat→Bool} {l:List S48} {n n':Nat}
theorem start (calls:List (List S43)) (on:Nat→Bool) (h:∀ t,on t = false) (n:Nat):Inv calls (List.replicate calls.length 0) on [] n:=by
 refine ⟨List.length_replicate,fun t ht=>⟨0,?_,Nat.zero_le _⟩,fun k hk=>absurd hk (Nat.not_lt_zero k),fun t _ e=>?_,fun _ _ _=>rfl,Int.natCast_nonneg n⟩
 ·rw [List.getD_eq_getElem?_getD,List.getElem?_replicate];split <;> rfl
 ·rw [h t] at e;cases e
theorem later (h:Inv calls bg on l n) (hn:n ≤ n'):Inv calls bg on l n':=⟨h.lenB,h.rng,h.steps,h.opn,h.shut,by have:=h.at_;omega⟩
theorem congr (h:Inv calls bg on l n) (ho:∀ t,t < calls.length→on' t = on t):Inv calls bg on' l n:=⟨h.lenB,h.rng,h.steps,fun t ht e=>h.opn t ht (by rw [← ho t ht];exact e),fun t ht e=>h.shut t ht (by rw [← ho t ht];exact e),h.at_⟩
theorem begin_ (h:Inv calls bg on l n) {i j:Nat} (hi:i < calls.length) (ho:on i = false) (hj:bg.getD i 0 = (j:Int)) (hj2:j < (calls.getD i []).length) (ho':∀ t,t < calls.length→on' t = if t = i then true else on t) :
  Inv calls (bg.set i ((j:Int) + 1)) on' (l ++ [⟨n,i,1,rd_T43 (calls.getD i []) j,⟨0,0,false,0⟩⟩]) n:=by
 have hs:=h.shut i hi ho
 have hbi:i < bg.length:=by rw [h.lenB];exact hi
 have hset:∀ t,(bg.set i ((j:Int) + 1)).getD t 0 = if t = i then (j:Int) + 1 else bg.getD t 0:=fun t=>by
  rw [List.getD_eq_getElem?_getD,List.getElem?_set,List.getD_eq_getElem?_getD]
  by_cases e:i = t
  ·subst e;rw [if_pos rfl,if_pos hbi,if_pos rfl];rfl
  ·rw [if_neg e,if_neg (fun e2=>e e2.symm)]
 have hlen:(l ++ [(⟨n,i,1,rd_T43 (calls.getD i []) j,⟨0,0,false,0⟩⟩:S48)]).length = l.length + 1:=by simp
 refine ⟨by rw [List.length_set];exact h.lenB,fun t ht=>?_,fun k hk=>?_,fun t ht e=>?_,fun t ht e=>?_,?_⟩
 ·rw [hset]
  split
  ·rename_i e;subst e;exact ⟨j + 1,by omega,hj2⟩
  ·exact h.rng t ht
 ·rw [hlen] at hk
  by_cases hkl:k < l.length
  ·rw [stepB_app _ hkl];exact h.steps k hkl
  ·have hke:k = l.length:=by omega
   subst hke
   have h1:=h.at_
   unfold stepB takeB
   rw [ev_last,wasAt_app _ (Nat.le_refl _),openAt_app _ _ (Nat.le_refl _)]
   simp only [hs]
   simp [zeroB]
   omega
 ·rw [ho' t ht] at e
  rw [hlen,openAt_last,hset]
  by_cases hti:t = i
  ·subst hti
   rw [if_pos rfl,if_pos rfl,if_pos rfl]
   exact ⟨l.length,j,rfl,rfl,hj2,by rw [ev_last]⟩
  ·rw [if_neg hti] at e
   rw [if_neg (fun e2=>hti (by have e2:(i:Int) = t:=e2;omega)),if_neg hti]
   obtain ⟨p,b,h1,h2,h3,h4⟩:=h.opn t ht e
   exact ⟨p,b,h1,h2,h3,by rw [ev_app (openAt_lt l _ _ p h1)];exact h4⟩
 ·rw [ho' t ht] at e
  rw [hlen,openAt_last]
  by_cases hti:t = i
  ·rw [if_pos hti] at e;cases e
  ·rw [if_neg hti] at e
   rw [if_neg (fun e2=>hti (by have e2:(i:Int) = t:=e2;omega))]
   exact h.shut t ht e
 ·rw [hlen,wasAt,ev_last];exact Int.le_refl _
theorem end_ (h:Inv calls bg on l n) {i j:Nat} (hi:i < calls.length) (ho:on i = true) (hj:bg.getD i 0 = (j:Int) + 1) (hn:n ≤ n') (a:S46) (ho':∀ t,t < calls.length→on' t = if t = i then false else on t) :
  Inv calls bg on' (l ++ [⟨n',i,2,rd_T43 (calls.getD i []) j,a⟩]) n':=by
 obtain ⟨p,b,hp,hb,hb2,hx⟩:=h.opn i hi ho
 have hbj:b = j:=by omega
 subst hbj
 have hlen:(l ++ [(⟨n',i,2,rd_T43 (calls.getD i []) b,a⟩:S48)]).length = l.length + 1:=by simp
 refine ⟨h.lenB,h.rng,fun k hk=>?_,fun t ht e=>?_,fun t ht e=>?_,?_⟩
 ·rw [hlen] at hk
  by_cases hkl:k < l.length
  ·rw [stepB_app _ hkl];exact h.steps k hkl
  ·have hke:k = l.length:=by omega
   subst hke
   have h1:=h.at_
   unfold stepB takeB
   rw [ev_last,wasAt_app _ (Nat.le_refl _),openAt_app _ _ (Nat.le_refl _)]
   simp only [hp,ev_app (openAt_lt l _ _ p hp),hx]
   simp [callB]
   omega
 ·rw [ho' t ht] at e
  rw [hlen,openAt_last]
  by_cases hti:t = i
  ·rw [if_pos hti] at e;cases e
  ·rw [if_neg hti] at e
   rw [if_neg (fun e2=>hti (by have e2:(i:Int) = t:=e2;omega))]
   obtain ⟨p,b,h1,h2,h3,h4⟩:=h.opn t ht e
   exact ⟨p,b,h1,h2,h3,by rw [ev_app (openAt_lt l _ _ p h1)];exact h4⟩
 ·rw [ho' t ht] at e
  rw [hlen,openAt_last]
  by_cases hti:t = i
  ·rw [if_pos (by show (i:Int) = t;omega),if_neg (show ¬ (2:Int) = 1 by decide),if_pos rfl]
  ·rw [if_neg hti] at e
   rw [if_neg (fun e2=>hti (by have e2:(i:Int) = t:=e2;omega))]
   exact h.shut t ht e
 ·rw [hlen,wasAt,ev_last];exact Int.le_refl _
end Inv
def cnt (l:List S48) (k:Nat):Nat→Nat
 | 0=>0
 | T + 1=>cnt l k T + if (openAt l k (T:Int)).isSome then 1 else 0
theorem cnt_le (l:List S48) (k:Nat):∀ T,cnt l k T ≤ T
 | 0=>Nat.le_refl _
 | T + 1=>by have:=cnt_le l k T;rw [cnt];split <;> omega
theorem cnt_begin {l:List S48} {k t:Nat} (h1:(ev l k).f2 = 1) (ht:(ev l k).f1 = t) (ho:openAt l k t = none):∀ T,cnt l (k + 1) T = cnt l k T + if t < T then 1 else 0
 | 0=>rfl
 | T + 1=>by
  rw [cnt,cnt,cnt_begin h1 ht ho T,openAt,ht,if_pos h1]
  by_cases e:t = T
  ·subst e;rw [if_pos rfl,ho,if_neg (Nat.lt_irrefl _),if_pos (Nat.lt_succ_self _)];simp
  ·rw [if_neg (show ¬ (t:Int) = T by omega)]
   by_cases h:t < T
   ·rw [if_pos h,if_pos (show t < T + 1 by omega)];omega
   ·rw [if_neg h,if_neg (show ¬ t < T + 1 by omega)];omega
theorem cnt_end {l:List S48} {k t p:Nat} (h1:(ev l k).f2 ≠ 1) (h2:(ev l k).f2 = 2) (ht:(ev l k).f1 = t) (ho:openAt l k t = some p):∀ T,cnt l k T = cnt l (k + 1) T + if t < T then 1 else 0
 | 0=>rfl
 | T + 1=>by
  rw [cnt,cnt,cnt_end h1 h2 ht ho T,openAt,ht,if_neg h1,if_pos h2]
  by_cases e:t = T
  ·subst e;rw [if_pos rfl,ho,if_neg (Nat.lt_irrefl _),if_pos (Nat.lt_succ_self _)];simp
  ·rw [if_neg (show ¬ (t:Int) = T by omega)]
   by_cases h:t < T
   ·rw [if_pos h,if_pos (show t < T + 1 by omega)];omega
   ·rw [if_neg h,if_neg (show ¬ t < T + 1 by omega)];omega
theorem size_take {l:List S48} {k:Nat} (h:takeB l k = true):(Maps.size (mapTo l (k + 1)):Int) = if (ev l k).f2 = 1 then (Maps.size (mapTo l k):Int) + 1 else (Maps.size (mapTo l k):Int) - 1:=by
 have hh:=has_mapTo l (ev l k).f1 k
 rcases take_kind h with ⟨h1,ho,_⟩|⟨h2,p,ho,_⟩
 ·rw [ho] at hh
  rw [if_pos h1,mapTo,if_pos h1,size_put (tidy_mapTo l k),hh]
  simp
 ·rw [ho] at hh
  rw [if_neg (by omega),mapTo,if_neg (by omega),if_pos h2]
  have:=size_del (k:=.int .i64 (ev l k).f1) (tidy_mapTo l k)
  rw [hh] at this
  simp at this
  omega
theorem size_cnt {l:List S48} {T:Nat} (h:∀ k,k < l.length→stepB l T k = true):∀ k,k ≤ l.length→(Maps.size (mapTo l k):Int) = cnt l k T
 | 0,_=>by
  have:∀ T,cnt l 0 T = 0:=fun T=>by
   induction T with
   | zero=>rfl
   | succ T ih=>rw [cnt,ih];rfl
  rw [this];rfl
 | k + 1,hk=>by
  have ih:=size_cnt h k (by omega)
  have hs:=h k hk
  unfold stepB at hs
  simp only [Bool.and_eq_true,decide_eq_true_eq] at hs
  obtain ⟨h0,h1,_,ht⟩:=hs
  obtain ⟨t,he⟩:=Int.eq_ofNat_of_zero_le h0
  have htT:t < T:=by omega
  rw [size_take ht]
  rcases take_kind ht with ⟨h3,ho,_⟩|⟨h3,p,ho,_⟩
  ·rw [if_pos h3,ih,cnt_begin h3 he (by rw [← he];exact ho) T,if_pos htT];omega
  ·rw [if_neg (by omega),ih,cnt_end (by omega) h3 he (by rw [← he];exact ho) T,if_pos htT];omega
theorem most_le {l:List S48} {T:Nat} (h:∀ k,k < l.length→stepB l T k = true):∀ k,k ≤ l.length→mostTo l k ≤ T
 | 0,_=>Int.natCast_nonneg T
 | k + 1,hk=>by
  have ih:=most_le h k (by omega)
  have h2:=size_cnt h (k + 1) hk
  have h3:=cnt_le l (k + 1) T
  rw [mostTo]
  omega
theorem Inv.takes {calls:List (List S43)} {bg:List Int} {on:Nat→Bool} {l:List S48} {n:Nat} (h:Inv calls bg on l n):takesB l = true:=by
 unfold takesB
 simp only [List.all_eq_true,List.mem_range]
 intro k hk
 have hs:=h.steps k hk
 unfold stepB at hs
 simp only [Bool.and_eq_true] at hs
 exact hs.2.2.2
theorem Inv.fit {calls:List (List S43)} {bg:List Int} {on:Nat→Bool} {l:List S48} {n:Nat} (h:Inv calls bg on l n) (hT:calls.length ≤ 8) (hl:l.length ≤ 4000):fitB l = true:=by
 unfold fitB
 simp only [Bool.and_eq_true,List.all_eq_true,decide_eq_true_eq]
 refine ⟨fun e he=>?_,hl⟩
 obtain ⟨k,hk,hke⟩:=List.getElem_of_mem he
 have hs:=h.steps k hk
 have hev:ev l k = e:=by unfold ev;rw [List.getD_eq_getElem?_getD,List.getElem?_eq_getElem hk,hke];rfl
 unfold stepB at hs
 simp only [Bool.and_eq_true,decide_eq_true_eq] at hs
 rw [hev] at hs
 omega
end Go.Proofs.Ytadblpcjkahikaa.PTraceRuns

