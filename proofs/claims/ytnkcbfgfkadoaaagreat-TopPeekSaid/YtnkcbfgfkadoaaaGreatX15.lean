/- Part 15 of the proof of TopPeek. -/
import Derived.Test.YtnkcbfgfkadoaaaGreatX14
set_option linter.all false
namespace Go.Proofs.YtnkcbfgfkadoaaaGreat.Sx
open Go
set_option maxRecDepth 100000
def upI(P:List Int)(v:Int):Int:=P.getD (ix 1 (aE 0 (Int.toNat v)) 0) 0
def chain(P:List Int):Nat→Int→List Int
 |0,_=>[]
 |k+1,v=>v::chain P k (upI P v)
def pathC(P:List Int)(np:Nat):Nat→Int→kB
 |0,v=>[(decide (v≥0),false)]
 |k+1,v=>(decide (v≥0),true)::(decide (0≤v),true)::(decide (v<(np:Int)),true)::(Nat.blt (ix 1 (aE 0 (Int.toNat v)) 0) P.length,true)::pathC P np k (upI P v)
def pathW:Nat→Way
 |0=>[(0,false)]
 |k+1=>(0,true)::(9,true)::(0,true)::(0,true)::pathW k
def qH(P:List Int)(np:Nat):Nat→Int→Bool
 |0,v=>decide (v<0)
 |k+1,v=>decide (0≤v∧v<(np:Int))&&Nat.blt (ix 1 (aE 0 (Int.toNat v)) 0) P.length&&qH P np k (upI P v)
theorem onPath_C{P:List Int}{np:Nat}:∀{k:Nat} {v:Int},qH P np k v=true→holds (pathC P np k v)
 |0,v,h=>by
  simp only[qH,decide_eq_true_eq]at h;exact⟨by simp only[decide_eq_false_iff_not];omega,trivial⟩
 |k+1,v,h=>by
  simp only[qH,Bool.and_eq_true,decide_eq_true_eq]at h;obtain⟨⟨⟨h1,h2⟩,h3⟩,h4⟩:=h;exact⟨by simp only[decide_eq_true_eq];omega,by simpa using h1,by simpa using h2,h3,onPath_C h4⟩
def nX(P:List Int)(np:Nat)(k:Nat)(v:Int):Bool:=match k with
 |0=>decide (v≥(np:Int))||decide (v<0)
 |k+1=>Nat.ble k 11&&qH P np (k+1) v
def cfg(th st ga le re ti:Int)(l np:Nat)(c:Option Nat)(lv:Value):SV:=.agg [.int .i64 th,.int .i64 st,.int .i64 ga,.int .i64 le,.int .i64 re,.int .i64 ti,.slice l 0 np c,.val lv]
noncomputable def pathR(th st ga le re ti node:Int)(np:Nat)(c:Option Nat)(lv:Value)(P:List Int):Out (SV×H):=runK Tryz.prog K4 30 (.fn 73 [cfg th st ga le re ti 0 np c lv,.int .i64 node]) (aT [.ints 3 1 P] [0])
section
variable(th st ga le re ti node:Int)(np:Nat)(c:Option Nat)(lv:Value)(P:List Int)
theorem path_a:follow [(0,true)] ((pathR th st ga le re ti node np c lv P).bind (cD []))=some ([(decide (node≥(np:Int)),true)],(aC,7,[])):=by kernel_rfl
theorem path_b:follow [(0,false),(0,false)] ((pathR th st ga le re ti node np c lv P).bind (cD []))=some ([(decide (node≥(np:Int)),false),(decide (node≥0),false)],(aC,7,[])):=by kernel_rfl
def gG(k:Nat):Prop:=follow ((0,false)::pathW k) ((pathR th st ga le re ti node np c lv P).bind (cD [6+2*k]))=some ((decide (node≥(np:Int)),false)::pathC P np k node,(.slice (6+2*k) 0 k none,7+2*k,[.cells 3 1 ((chain P k node).map (SV.int .i64))]))
theorem path_1:gG th st ga le re ti node np c lv P 1:=by unfold gG;kernel_rfl
theorem path_2:gG th st ga le re ti node np c lv P 2:=by unfold gG;kernel_rfl
theorem path_3:gG th st ga le re ti node np c lv P 3:=by unfold gG;kernel_rfl
theorem path_4:gG th st ga le re ti node np c lv P 4:=by unfold gG;kernel_rfl
theorem path_5:gG th st ga le re ti node np c lv P 5:=by unfold gG;kernel_rfl
theorem path_6:gG th st ga le re ti node np c lv P 6:=by unfold gG;kernel_rfl
theorem path_7:gG th st ga le re ti node np c lv P 7:=by unfold gG;kernel_rfl
theorem path_8:gG th st ga le re ti node np c lv P 8:=by unfold gG;kernel_rfl
theorem path_9:gG th st ga le re ti node np c lv P 9:=by unfold gG;kernel_rfl
theorem path_10:gG th st ga le re ti node np c lv P 10:=by unfold gG;kernel_rfl
theorem path_11:gG th st ga le re ti node np c lv P 11:=by unfold gG;kernel_rfl
theorem path_12:gG th st ga le re ti node np c lv P 12:=by unfold gG;kernel_rfl
theorem path_all:∀{k:Nat},1≤k→k≤12→gG th st ga le re ti node np c lv P k
 |1,_,_=>path_1 th st ga le re ti node np c lv P
 |2,_,_=>path_2 th st ga le re ti node np c lv P
 |3,_,_=>path_3 th st ga le re ti node np c lv P
 |4,_,_=>path_4 th st ga le re ti node np c lv P
 |5,_,_=>path_5 th st ga le re ti node np c lv P
 |6,_,_=>path_6 th st ga le re ti node np c lv P
 |7,_,_=>path_7 th st ga le re ti node np c lv P
 |8,_,_=>path_8 th st ga le re ti node np c lv P
 |9,_,_=>path_9 th st ga le re ti node np c lv P
 |10,_,_=>path_10 th st ga le re ti node np c lv P
 |11,_,_=>path_11 th st ga le re ti node np c lv P
 |12,_,_=>path_12 th st ga le re ti node np c lv P
 |0,h,_=>absurd h (by omega)
 |k+13,_,h=>absurd h (by omega)
end
def pathV(k n:Nat):SV:=match k with
 |0=>aC
 |k+1=>.slice n 0 (k+1) none
def pathL(P:List Int)(k:Nat)(v:Int)(n:Nat):List (Nat×SO):=match k with
 |0=>[]
 |k+1=>[(n,.ints 3 1 (chain P (k+1) v))]
noncomputable def pathK(k:Nat):cI:=fun t h=>match t with
 |.fn 73 [.agg [.int .i64 th,.int .i64 st,.int .i64 ga,.int .i64 le,.int .i64 re,.int .i64 ti,.slice l 0 np c,.val lv],.int .i64 node]=>match h.get l with
  |.ints 3 1 P=>some (.chk (Nat.blt l h.n&&Nat.ble (h.n+40) 1000000) (.chk (nX P np k node) (.ret (pathV k h.n,h.lay 40 (pathL P k node h.n)))))
  |_=>none
 |_=>none
theorem zJ{h:H}{l:Nat}{P:List Int}(hl:l<h.n)(hg:h.get l=.ints 3 1 P):h.n≤1000000→Fit h (aT [.ints 3 1 P] [0]) (nm [l]):=fun h6=>aX
 ⟨hl,⟨fun _=>by unfold live;rw[hg];simp,fun ρ p w h=>by rw[hg]at h;exact h⟩,trivial⟩ (dF (by simp)) (by simp) h6
theorem zK(k:Nat):cX Tryz.prog (pathK k):=fun f args h o r ho hg=>by
 unfold pathK at ho;split at ho
 ·rename_i th st ga le re ti l np c lv node heq
  injection heq with e1 e2;subst e1;subst e2;split at ho
  ·rename_i P gl
   injection ho with ho;subst ho;obtain⟨hc,hg1⟩:=Out.chk_go hg;obtain⟨hd,pU⟩:=Out.chk_go hg1;have:=Out.ret_go pU;subst this;simp only[Bool.and_eq_true]at hc;obtain⟨c1,c2⟩:=hc;have c1:=aF.1 c1;have c2:=Nat.le_of_ble_eq_true c2;have fit:=@zJ h l P c1 gl;have ea:SV.rens (nm [l]) [cfg th st ga le re ti 0 np c lv,.int .i64 node]=[cfg th st ga le re ti l np c lv,.int .i64 node]:=rfl
   match k,hd with
   |0,hd=>
    have hl:h.lay 40 (laid (nx h.n 1 [] [l]) [] [])=h.lay 40 []:=rfl;simp only[nX,Bool.or_eq_true,decide_eq_true_eq]at hd;by_cases hn:node≥(np:Int)
    ·exact cP (K:=40) (j:=[]) (ns:=[l]) bW aK (path_a th st ga le re ti node np c lv P) ⟨by simpa using hn,trivial⟩ (rN.refl _) fit rfl rfl rfl (by simp) (by simp) c2
    ·exact cP (K:=40) (j:=[]) (ns:=[l]) bW aK (path_b th st ga le re ti node np c lv P) ⟨by simpa using hn,by simp only[decide_eq_false_iff_not];omega,trivial⟩ (rN.refl _) fit rfl rfl rfl (by simp) (by simp) c2
   |k+1,hd=>
    simp only[nX,Bool.and_eq_true]at hd;obtain⟨d1,d2⟩:=hd;have d1:=Nat.le_of_ble_eq_true d1;have hn:node<(np:Int):=by
     simp only[qH,Bool.and_eq_true,decide_eq_true_eq]at d2;exact d2.1.1.2
    have T:=path_all th st ga le re ti node np c lv P (k:=k+1) (by omega) (by omega);have:=cP (K:=40) (j:=[5+2*(k+1)]) (ns:=[l]) (os:=[.ints 3 1 (chain P (k+1) node)]) bW aK T ⟨by simp only[decide_eq_false_iff_not];omega,onPath_C d2⟩ ⟨qG _ _ _,trivial⟩ fit rfl (by simp[fO]<;>omega) rfl (by simp<;>omega) (by simp<;>omega) c2;have q:nx h.n 1 [5+2*(k+1)] [l] (6+2*(k+1))=h.n:=by
     unfold nx;simp[oI,rot]<;>omega
    have q2:[SO.ints 3 1 P].length=1:=rfl;rw[q2]at this;simp only[SV.ren,laid,List.zip_cons_cons,List.zip_nil_left,List.map_cons,List.map_nil,q,SO.ren]at this;exact this
  ·cases ho
 ·cases ho
attribute[irreducible] nX
end Go.Proofs.YtnkcbfgfkadoaaaGreat.Sx
