
import Derived.Test.YtadblpcjkahikaaRunsMem
import Derived.Test.YtadblpcjkahikaaPTraceRunsx6
import Derived.Test.YtadblpcjkahikaaPTraceRunsx7
namespace Go.Proofs.Ytadblpcjkahikaa.PTraceRuns
set_option linter.unusedVariables false
structure Cf where
 th:Int
 S:Nat
 ga:Int
 le:Int
 re:Int
 ti:Nat
 pa:List Int
 li:List Int
namespace Cf
def N (c:Cf):Nat:=c.pa.length
def K (c:Cf):Nat:=6 + 2 * c.S
def na (c:Cf) (v o:Nat):Nat:=v * c.K + o
def tk (c:Cf) (k:Nat):Nat:=c.N * c.K + 2 * k
structure Ok (c:Cf):Prop where
 S:c.S = 1 ∨ c.S = 2 ∨ c.S = 4 ∨ c.S = 8
 ga1:1 ≤ c.ga
 ga2:c.ga ≤ 1048576
 le1:0 ≤ c.le
 le2:c.le ≤ 1048576
 re1:1 ≤ c.re
 re2:c.re ≤ 8
 ti1:1 ≤ c.ti
 ti2:c.ti ≤ 16
 N1:1 ≤ c.N
 N2:c.N ≤ 12
 li:c.li.length = c.N
 pa0:c.pa.getD 0 0 = -1
 pa:∀ i:Nat,0 < i→i < c.N→0 ≤ c.pa.getD i 0∧c.pa.getD i 0 < i
theorem Ok.Sle {c:Cf} (h:c.Ok):1 ≤ c.S∧c.S ≤ 8:=by rcases h.S with h|h|h|h <;> omega
theorem na_inj {c:Cf} {v v' o o':Nat} (ho:o < c.K) (ho':o' < c.K) (h:c.na v o = c.na v' o'):v = v'∧o = o':=by
 unfold na at h
 have h1:(v * c.K + o) % c.K = o:=by rw [Nat.mul_comm,Nat.mul_add_mod,Nat.mod_eq_of_lt ho]
 have h2:(v' * c.K + o') % c.K = o':=by rw [Nat.mul_comm,Nat.mul_add_mod,Nat.mod_eq_of_lt ho']
 have h3:o = o':=by rw [← h1,← h2,h]
 subst h3
 have hK:0 < c.K:=by unfold K;omega
 exact ⟨Nat.eq_of_mul_eq_mul_right hK (Nat.add_right_cancel h),rfl⟩
theorem na_lt {c:Cf} {v o:Nat} (hv:v < c.N) (ho:o < c.K):c.na v o < c.N * c.K:=by
 unfold na
 have:(v + 1) * c.K ≤ c.N * c.K:=Nat.mul_le_mul_right _ hv
 rw [Nat.succ_mul] at this
 omega
theorem NK_le {c:Cf} (h:c.Ok):c.N * c.K ≤ 264:=by
 have h1:=h.Sle
 have h2:=h.N2
 have:c.N * c.K ≤ 12 * 22:=Nat.mul_le_mul h2 (by unfold K;omega)
 omega
end Cf
def lv (c:Cf) (x:Int):Prop:=(x = 1 ∨ x = 2 ∨ x = 4 ∨ x = 8)∧x ≤ c.S
def bodyOk (c:Cf) (x:Int):Prop:=∃ v n,breadlineref10_Of.f x = some (v,n,true)∧0 ≤ v∧v < c.N
def isLive (x:Int):Prop:=breadlineref10_State.f x = some 2
structure WOk (c:Cf) (ws:List Int):Prop where
 len:ws.length = c.N * c.K + 2 * c.ti
 live:∀ v,v < c.N→lv c (wd ws (c.na v (5 + c.S)))
 tick:∀ k,k < c.ti→isLive (wd ws (c.tk k))→bodyOk c (wd ws (c.tk k + 1))
structure WTo (c:Cf) (ws ws':List Int):Prop where
 ok:WOk c ws'
 later:∀ k,k < c.ti→bodyOk c (wd ws (c.tk k + 1))→bodyOk c (wd ws' (c.tk k + 1))
theorem WTo.refl {c:Cf} {ws:List Int} (h:WOk c ws):WTo c ws ws:=⟨h,fun _ _ h=>h⟩
theorem WTo.trans {c:Cf} {a b d:List Int} (h:WTo c a b) (g:WTo c b d):WTo c a d:=⟨g.ok,fun k hk h1=>g.later k hk (h.later k hk h1)⟩
theorem wd_set (ws:List Int) (i j:Nat) (x:Int) (hi:i < ws.length):wd (ws.set i x) j = if j = i then x else wd ws j:=by
 unfold wd
 rw [List.getD_eq_getElem?_getD,List.getElem?_set,List.getD_eq_getElem?_getD]
 by_cases h:i = j
 ·subst h;rw [if_pos rfl,if_pos hi,if_pos rfl];rfl
 ·rw [if_neg h,if_neg (fun e=>h e.symm)]
theorem WOk.lt {c:Cf} {ws:List Int} (h:WOk c ws) {v o:Nat} (hv:v < c.N) (ho:o < c.K):c.na v o < ws.length:=by
 have:=Cf.na_lt hv ho
 rw [h.len];omega
theorem WOk.tlt {c:Cf} {ws:List Int} (h:WOk c ws) {k:Nat} (hk:k < c.ti):c.tk k + 1 < ws.length:=by
 rw [h.len];unfold Cf.tk;omega
theorem WOk.le {c:Cf} {ws:List Int} (h:WOk c ws) (hc:c.Ok):ws.length ≤ 10000:=by
 have h1:=Cf.NK_le hc
 have h2:=hc.ti2
 rw [h.len];omega
theorem WOk.set_node {c:Cf} {ws:List Int} (h:WOk c ws) {v o:Nat} (hv:v < c.N) (ho:o < c.K) (hl:o ≠ 5 + c.S) (x:Int):WTo c ws (ws.set (c.na v o) x):=by
 have hi:=h.lt hv ho
 have hn:=Cf.na_lt hv ho
 have hk5:5 + c.S < c.K:=by have:c.K = 6 + 2 * c.S:=rfl;omega
 have hT:∀ k,c.tk k ≠ c.na v o∧c.tk k + 1 ≠ c.na v o:=fun k=>by unfold Cf.tk;omega
 refine ⟨⟨by rw [List.length_set];exact h.len,fun v' hv'=>?_,fun k hk=>?_⟩,fun k hk=>?_⟩
 ·rw [wd_set _ _ _ _ hi,if_neg (fun e=>hl (Cf.na_inj hk5 ho e).2.symm)];exact h.live v' hv'
 ·rw [wd_set _ _ _ _ hi,wd_set _ _ _ _ hi,if_neg (hT k).1,if_neg (hT k).2];exact h.tick k hk
 ·rw [wd_set _ _ _ _ hi,if_neg (hT k).2];exact id
theorem WOk.set_live {c:Cf} {ws:List Int} (h:WOk c ws) {v:Nat} (hv:v < c.N) {x:Int} (hx:lv c x):WTo c ws (ws.set (c.na v (5 + c.S)) x):=by
 have hk5:5 + c.S < c.K:=by have:c.K = 6 + 2 * c.S:=rfl;omega
 have hi:=h.lt hv hk5
 have hn:=Cf.na_lt hv hk5
 have hT:∀ k,c.tk k ≠ c.na v (5 + c.S)∧c.tk k + 1 ≠ c.na v (5 + c.S):=fun k=>by unfold Cf.tk;omega
 refine ⟨⟨by rw [List.length_set];exact h.len,fun v' hv'=>?_,fun k hk=>?_⟩,fun k hk=>?_⟩
 ·rw [wd_set _ _ _ _ hi]
  split
  ·exact hx
  ·exact h.live v' hv'
 ·rw [wd_set _ _ _ _ hi,wd_set _ _ _ _ hi,if_neg (hT k).1,if_neg (hT k).2];exact h.tick k hk
 ·rw [wd_set _ _ _ _ hi,if_neg (hT k).2];exact id
theorem WOk.set_state {c:Cf} {ws:List Int} (h:WOk c ws) {k:Nat} (hk:k < c.ti) {x:Int} (hx:isLive x→bodyOk c (wd ws (c.tk k + 1))):WTo c ws (ws.set (c.tk k) x):=by
 have hi:c.tk k < ws.length:=by have:=h.tlt hk;omega
 have hN:∀ v,v < c.N→c.na v (5 + c.S) ≠ c.tk k:=fun v hv=>by
  have:=Cf.na_lt (c:=c) hv (o:=5 + c.S) (by have:c.K = 6 + 2 * c.S:=rfl;omega)
  unfold Cf.tk;omega
 have hT:∀ k',c.tk k' + 1 ≠ c.tk k:=fun k'=>by unfold Cf.tk;omega
 refine ⟨⟨by rw [List.length_set];exact h.len,fun v' hv'=>?_,fun k' hk'=>?_⟩,fun k' hk'=>?_⟩
 ·rw [wd_set _ _ _ _ hi,if_neg (hN v' hv')];exact h.live v' hv'
 ·rw [wd_set _ _ _ _ hi,wd_set _ _ _ _ hi,if_neg (hT k')]
  split
  ·rename_i e
   have:k' = k:=by unfold Cf.tk at e;omega
   subst this
   exact hx
  ·exact h.tick k' hk'
 ·rw [wd_set _ _ _ _ hi,if_neg (hT k')];exact id
theorem WOk.set_body {c:Cf} {ws:List Int} (h:WOk c ws) {k:Nat} (hk:k < c.ti) {x:Int} (hx:bodyOk c x):WTo c ws (ws.set (c.tk k + 1) x)∧bodyOk c (wd (ws.set (c.tk k + 1) x) (c.tk k + 1)):=by
 have hi:=h.tlt hk
 have hN:∀ v,v < c.N→c.na v (5 + c.S) ≠ c.tk k + 1:=fun v hv=>by
  have:=Cf.na_lt (c:=c) hv (o:=5 + c.S) (by have:c.K = 6 + 2 * c.S:=rfl;omega)
  unfold Cf.tk;omega
 have hT:∀ k',c.tk k' ≠ c.tk k + 1:=fun k'=>by unfold Cf.tk;omega
 refine ⟨⟨⟨by rw [List.length_set];exact h.len,fun v' hv'=>?_,fun k' hk'=>?_⟩,fun k' hk'=>?_⟩,by rw [wd_set _ _ _ _ hi,if_pos rfl];exact hx⟩
 ·rw [wd_set _ _ _ _ hi,if_neg (hN v' hv')];exact h.live v' hv'
 ·rw [wd_set _ _ _ _ hi,wd_set _ _ _ _ hi,if_neg (hT k')]
  split
  ·exact fun _=>hx
  ·exact h.tick k' hk'
 ·rw [wd_set _ _ _ _ hi]
  split
  ·exact fun _=>hx
  ·exact id
@[reducible] def cA (c:Cf) (AP:Option Addr) (cP:Nat) (AL:Option Addr) (cL:Nat):Value:=.agg #[.int .i64 c.th,.int .i64 c.S,.int .i64 c.ga,.int .i64 c.le,.int .i64 c.re,.int .i64 c.ti,.slice AP c.pa.length cP,.slice AL c.li.length cL]
end Go.Proofs.Ytadblpcjkahikaa.PTraceRuns
