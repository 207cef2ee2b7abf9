/- Part 9 of the proof of TopPeek. -/
import Derived.Test.YtnkcbfgfkadoaaaGreatX8
set_option linter.all false
namespace Go.Proofs.YtnkcbfgfkadoaaaGreat.Sx
open Go
set_option maxRecDepth 100000
theorem und37:Tryz.prog.underlying 37=some (.struct (Tryz.prog.fieldsOf 37)):=by kernel_rfl
theorem und40:Tryz.prog.underlying 40=some (.struct (Tryz.prog.fieldsOf 40)):=by kernel_rfl
theorem und179:Tryz.prog.underlying 179=some (.struct (Tryz.prog.fieldsOf 179)):=by kernel_rfl
theorem und210:Tryz.prog.underlying 210=some (.array 8 3):=by kernel_rfl
theorem und3:Tryz.prog.underlying 3=some (.int .i64):=by kernel_rfl
theorem fit37:kJ Tryz.prog (Tryz.prog.fieldsOf 37).toList [true,true,true] 0=true:=by decide+kernel
theorem fit40:kJ Tryz.prog (Tryz.prog.fieldsOf 40).toList [true,true,false,true] 0=true:=by decide+kernel
theorem fit179:kJ Tryz.prog (Tryz.prog.fieldsOf 179).toList [true,true] 0=true:=by decide+kernel
theorem vT{t:Nat}{sh:List Bool}(hu:Tryz.prog.underlying t=some (.struct (Tryz.prog.fieldsOf t)))(hp:Tryz.prog.stoodInHeld t=false)(hf:kJ Tryz.prog (Tryz.prog.fieldsOf t).toList sh 0=true)
 (xs ys:List SV)(us vs:List Value)(ρ:bF)(b:Bool)(w:World)(hx:bM ρ xs us)(hy:bM ρ ys vs)(hg:(eqs sh xs ys).go=some b):(Op.equal t (.agg us.toArray) (.agg vs.toArray)).run Tryz.prog w=.ok b w:=by
 show(Op.equalIn (9999+1) t (.agg us.toArray) (.agg vs.toArray)).run Tryz.prog w=.ok b w;rw[run_equalIn_struct w 9999 t _ _ hu hp];exact wW (d:=9998) (ρ:=ρ) _ sh 0 xs ys b hf (by simpa using hx) (by simpa using hy) hg
theorem loop_eq{P:Program}(h3:P.underlying 3=some (.int .i64)){d:Nat}{us vs:Array Value}{ρ:bF}{w:World}:∀(m i:Nat) (xs ys:List SV) (b:Bool),bM ρ xs (us.toList.drop i)→bM ρ ys (vs.toList.drop i)→(eqs (List.replicate m true) xs ys).go=some b→
 (forIn (List.range' i m) (⟨none,()⟩:Prod (Option Bool) PUnit) (fun i (_:Prod (Option Bool) PUnit)=>do
  let a←part 3 us (i*1);let b←part 3 vs (i*1);let r←Op.equalIn (d+1) 3 a b
  if(!r)=true then pure (ForInStep.done ⟨some false,()⟩)else pure (ForInStep.yield ⟨none,()⟩):_→_→Sem (ForInStep (Prod (Option Bool) PUnit)))).run P w=.ok (if b then⟨none,()⟩else⟨some false,()⟩) w
 |0,i,xs,ys,b,_,_,hg=>by
  have:b=true:=by
   cases xs<;>cases ys<;>first|exact(Out.ret_go hg).symm|cases hg
  subst this;simp
 |m+1,i,xs,ys,b,hx,hy,hg=>by
  rw[List.replicate_succ]at hg;obtain⟨x,xs',y,ys',rfl,rfl⟩:=eqs_cons hg;cases hu:us.toList.drop i with
  |nil=>rw[hu]at hx;simp[bM]at hx
  |cons u ul=>
  cases hv:vs.toList.drop i with
  |nil=>rw[hv]at hy;simp[bM]at hy
  |cons v vl=>
  rw[hu]at hx;rw[hv]at hy;simp only[bM]at hx hy;obtain⟨p1,p2⟩:=uG hu;obtain⟨q1,q2⟩:=uG hv;have f3:sJ P 3 true=true:=by simp only[sJ,h3];rfl
  obtain⟨e1,r1,r2,e2,e3,rfl⟩:=cell_eq (w:=w) (d:=d) f3 hx.1 hy.1 hg;have ih:=loop_eq h3 (d:=d) (us:=us) (vs:=vs) (w:=w) m (i+1) xs' ys' r2 (by rw[p2];exact hx.2) (by rw[q2];exact hy.2) e3;simp only[List.range'_succ,List.forIn_cons,Sem.run_bind,Nat.mul_one,e1 us i u p1,e1 vs i v q1,Result.andThen_ok,e2];cases r1
  ·simp
  ·simpa using ih
theorem array_core{P:Program}(h3:P.underlying 3=some (.int .i64))(h210:P.underlying 210=some (.array 8 3))(hs:sz P 3=1)(e d:Nat)(he:e=d+1)(xs ys:List SV)(us vs:Array Value)(ρ:bF)(b:Bool)(w:World)(hx:bM ρ xs us.toList)(hy:bM ρ ys vs.toList)
 (hg:(eqs (List.replicate 8 true) xs ys).go=some b):(Op.equalIn (e+1) 210 (.agg us) (.agg vs)).run P w=.ok b w:=by
 have h:=loop_eq h3 (d:=d) (us:=us) (vs:=vs) (w:=w) 8 0 xs ys b hx hy hg;rw[←he]at h;simp only[Op.equalIn,Sem.run_bind,bN h210,Result.andThen_ok,run_sz h3,hs,Std.Legacy.Range.forIn_eq_forIn_range',Std.Legacy.Range.size,Nat.sub_zero,Nat.add_sub_cancel,Nat.div_one];erw[h];cases b<;>simp
theorem array_eq{P:Program}(h3:P.underlying 3=some (.int .i64))(h210:P.underlying 210=some (.array 8 3))(hs:sz P 3=1)(xs ys:List SV)(us vs:List Value)(ρ:bF)(b:Bool)(w:World)(hx:bM ρ xs us)(hy:bM ρ ys vs)(hg:(eqs [true,true,true,true,true,true,true,true] xs ys).go=some b):
 (Op.equal 210 (.agg us.toArray) (.agg vs.toArray)).run P w=.ok b w:=array_core h3 h210 hs 9999 9998 rfl xs ys us.toArray vs.toArray ρ b w (by simpa using hx) (by simpa using hy) hg
theorem BB{t:Nat}{sh:List Bool}(h:xV t=some sh):(t=37∧sh=[true,true,true])∨(t=40∧sh=[true,true,false,true])∨(t=179∧sh=[true,true])∨(t=210∧sh=[true,true,true,true,true,true,true,true]):=by
 unfold xV at h;split at h
 all_goals first|cases h;done|(injection h with h;subst h;simp_all[Nat.beq_eq];done)|skip
theorem tok:TOK Tryz.prog where
 zero:=fun t i z cK hi hz=>by
  have ht:Tryz.prog.types[t]?=some i:=by
   have:Tryz.prog.info? t=if t<Tryz.prog.types.size then Tryz.prog.types[t]?else _:=rfl
   rw[this,if_pos cK]at hi;exact hi
  have:=List.all_eq_true.1 zeros i (List.mem_of_getElem? (by simpa using ht:Tryz.prog.types.toList[t]?=some i));rw[hz]at this;simp only[Bool.and_eq_true,Bool.or_eq_true]at this;exact⟨fun hn=>this.1.resolve_left (by rw[hn];simp),Nat.eq_of_beq_eq_true this.2⟩
 fields:=fun t fs cK hu f hf=>by
  have:=List.all_eq_true.1 fieldsIn t (by simpa using cK);rw[hu]at this;exact List.all_eq_true.1 this f hf
 eq:=fun t sh hsh=>by
  rcases BB hsh with⟨rfl,rfl⟩|⟨rfl,rfl⟩|⟨rfl,rfl⟩|⟨rfl,rfl⟩
  ·exact⟨by decide+kernel,vT und37 (by decide+kernel) fit37⟩
  ·exact⟨by decide+kernel,vT und40 (by decide+kernel) fit40⟩
  ·exact⟨by decide+kernel,vT und179 (by decide+kernel) fit179⟩
  ·exact⟨by decide+kernel,array_eq und3 und210 (by decide+kernel)⟩
theorem bW:wV Tryz.prog:=⟨tok,mixed,okFuncs⟩
end Go.Proofs.YtnkcbfgfkadoaaaGreat.Sx
namespace Go.Proofs.YtnkcbfgfkadoaaaGreat.Sx
open Go
section
variable{P:Program}
def Spec(P:Program)(t:Task)(h:H)(r:SV×H):Prop:=match t with
 |.fn f args=>(∃fn,P.funcs[f]?=some fn∧fn.body.isSome=true∧(fn.name== "runtime.NumGoroutine")=false)∧
  ∀ρ w us n,HR ρ h w→bM ρ args us→CallsIn Fence.wide n P f us.toArray w (AY ρ h w r.1 r.2)
 |.yield _ _=>False
end
mutual
def SV.ren(r:Nat→Nat):SV→SV
 |.val v=>.val v
 |.bool b=>.bool b
 |.int k n=>.int k n
 |.ptr l i f=>.ptr (r l) i f
 |.slice l i n c=>.slice (r l) i n c
 |.map l=>.map (r l)
 |.func fn f c=>.func fn (SV.rens r f) (SV.rens r c)
 |.iface t v=>.iface t (SV.ren r v)
 |.agg l=>.agg (SV.rens r l)
 |.tup l=>.tup (SV.rens r l)
 |.yield l=>.yield (r l)
 |.any=>.any
def SV.rens(r:Nat→Nat):List SV→List SV
 |[]=>[]
 |x::xs=>SV.ren r x::SV.rens r xs
end
theorem SV.rens_map(r:Nat→Nat):∀l,SV.rens r l=l.map (SV.ren r)
 |[]=>by simp[SV.rens]
 |x::xs=>by simp[SV.rens,SV.rens_map r xs]
theorem SV.rens_append(r:Nat→Nat)(l m:List SV):SV.rens r (l++m)=SV.rens r l++SV.rens r m:=by rw[SV.rens_map,SV.rens_map,SV.rens_map,List.map_append]
def bF.via(ρ:bF)(r:Nat→Nat):bF:=⟨fun l=>ρ (r l),fun _=>False⟩
def Nm(dQ:bF)(r:Nat→Nat)(iJ:bF):Prop:=∀l,dQ l=iJ (r l)
theorem oH(ρ:bF)(r:Nat→Nat):Nm (ρ.via r) r ρ:=fun _=>rfl
section
variable{dQ iJ:bF}{r:Nat→Nat}(hn:Nm dQ r iJ)
include hn
mutual
theorem jH:∀{s:SV} {u:Value},VR dQ s u↔VR iJ (s.ren r) u
 |.val _,_=>by simp only[VR,SV.ren]
 |.bool _,_=>by simp only[VR,SV.ren]
 |.int _ _,_=>by simp only[VR,SV.ren]
 |.ptr _ _ _,_=>by simp only[VR,SV.ren,hn _]
 |.slice _ _ _ _,_=>by simp only[VR,SV.ren,hn _]
 |.map _,_=>by simp only[VR,SV.ren,hn _]
 |.func _ _ _,_=>by simp only[VR,SV.ren];exact exists_congr fun _=>exists_congr fun _=>and_congr_right fun _=>and_congr kP kP
 |.iface _ _,_=>by simp only[VR,SV.ren];exact exists_congr fun _=>and_congr_right fun _=>jH
 |.agg _,_=>by simp only[VR,SV.ren];exact exists_congr fun _=>and_congr_right fun _=>kP
 |.tup _,_=>by simp only[VR,SV.ren];exact exists_congr fun _=>and_congr_right fun _=>kP
 |.yield _,_=>by simp only[VR,SV.ren,hn _]
 |.any,_=>by simp only[VR,SV.ren]
theorem kP:∀{s:List SV} {u:List Value},bM dQ s u↔bM iJ (SV.rens r s) u
 |[],[]=>by simp only[bM,SV.rens]
 |x::xs,y::ys=>by simp only[bM,SV.rens];exact and_congr jH kP
 |[],_::_=>by simp only[bM,SV.rens]
 |_::_,[]=>by simp only[bM,SV.rens]
end
end
def SO.ren(r:Nat→Nat):SO→SO
 |.dead=>.dead
 |.cells t s l=>.cells t s (SV.rens r l)
 |.ints t s l=>.ints t s l
 |.spot t s k l=>.spot t s k (SV.rens r l)
 |.map es=>.map (es.map fun e=>(e.1,e.2.ren r))
 |.loop _ _ _ _ _ _ _=>.dead
 |.defd=>.defd
 |.any t s n=>.any t s n
def SO.plain:SO→Bool
 |.loop _ _ _ _ _ _ _=>false
 |_=>true
theorem VRs_map_ren{dQ iJ:bF}{r:Nat→Nat}(hn:Nm dQ r iJ){l:List SV}{u:List Value}:bM dQ l u↔bM iJ (l.map (SV.ren r)) u:=by rw[←SV.rens_map];exact kP hn
theorem OR_ren{dQ iJ:bF}{r:Nat→Nat}(hn:Nm dQ r iJ){p:Pl}{w:World}{o:SO}(hp:o.plain=true):OR dQ p w o↔OR iJ p w (o.ren r):=by
 have cells:∀(l:List SV) (cs:Array Value) (b:Nat),(∀i v,l[i]?=some v→∃u,cs[b+i]?=some u∧VR dQ v u)↔∀i v,(SV.rens r l)[i]?=some v→∃u,cs[b+i]?=some u∧VR iJ v u:=fun l cs b=>by
  constructor
  ·intro h i v hv
   rw[SV.rens_map,List.getElem?_map]at hv;cases hx:l[i]?with
   |none=>rw[hx]at hv;cases hv
   |some x=>
    rw[hx]at hv;simp only[Option.map_some,Option.some.injEq]at hv;subst hv;obtain⟨u,h1,h2⟩:=h i x hx;exact⟨u,h1,(jH hn).1 h2⟩
  ·intro h i v hv
   obtain⟨u,h1,h2⟩:=h i (v.ren r) (by rw[SV.rens_map,List.getElem?_map,hv];rfl);exact⟨u,h1,(jH hn).2 h2⟩
 have len:∀l:List SV,(SV.rens r l).length=l.length:=fun l=>by rw[SV.rens_map,List.length_map]
 cases o with
 |dead=>exact Iff.rfl
 |cells t s l=>
  simp only[OR,SO.ren,len];exact and_congr_right fun _=>and_congr_right fun _=>exists_congr fun cs=>exists_congr fun fr=>and_congr_right fun _=>and_congr_right fun _=>and_congr_right fun _=>cells _ _ _
 |ints t s l=>exact Iff.rfl
 |spot t s k l=>
  simp only[OR,SO.ren,len];exact and_congr_right fun _=>and_congr_right fun _=>and_congr_right fun _=>exists_congr fun cs=>exists_congr fun fr=>and_congr_right fun _=>and_congr_right fun _=>and_congr_right fun _=>cells _ _ _
 |map es=>
  simp only[OR,SO.ren,List.map_map,Function.comp_def];refine and_congr_right fun _=>exists_congr fun ms=>exists_congr fun c=>and_congr_right fun _=>and_congr ?_ Iff.rfl
  rw[VRs_map_ren hn,List.map_map];rfl
 |loop _ _ _ _ _ _ _=>cases hp
 |defd=>exact Iff.rfl
 |any t s n=>exact Iff.rfl
def mk(l:List SO):H:=l.foldl H.new {n:=0,t:=.nil}
theorem sK:∀(l:List SO) (h:H),h.n+l.length≤1000000→(l.foldl H.new h).n=h.n+l.length∧(l.foldl H.new h).A=h.A∧∀i,(l.foldl H.new h).get i=if h.n≤i∧i<h.n+l.length then l.getD (i-h.n) .dead else h.get i
 |[],h,_=>⟨rfl,rfl,fun i=>by rw[if_neg (by simp)];rfl⟩
 |o::l,h,hl=>by
  simp only[List.length_cons]at hl;have hnn:(h.new o).n=h.n+1:=rfl;obtain⟨h1,h2,h3⟩:=sK l (h.new o) (by rw[hnn];omega);refine⟨by show(l.foldl H.new (h.new o)).n=_;rw[h1,hnn];simp;omega,h2,fun i=>?_⟩;show(l.foldl H.new (h.new o)).get i=_;rw[h3 i,hnn];by_cases e:i=h.n
  ·subst e
   rw[if_neg (by omega),if_pos (by simp),H.get_new (by omega)];simp
  ·rw[H.get_new_ne (Ne.symm e)]
   by_cases h4:h.n+1≤i∧i<h.n+1+l.length
   ·rw[if_pos h4,if_pos (by simp;omega)]
    have:i-h.n=(i-(h.n+1))+1:=by omega
    rw[this];simp
   ·rw[if_neg h4,if_neg (by simp;omega)]
theorem H.get_nil(i:Nat)(A:Amb):({n:=0,t:=.nil,A:=A}:H).get i=.dead:=by unfold H.get D;rfl
theorem mk_n{l:List SO}(h:l.length≤1000000):(mk l).n=l.length:=by
 have:=(sK l {n:=0,t:=.nil} (by simpa using h)).1;show(l.foldl H.new {n:=0,t:=.nil}).n=_;simpa using this
theorem mk_A{l:List SO}(h:l.length≤1000000):(mk l).A=fun _ _=>True:=(sK l {n:=0,t:=.nil} (by simpa using h)).2.1
theorem mk_get{l:List SO}(h:l.length≤1000000)(i:Nat):(mk l).get i=l.getD i .dead:=by
 have:=(sK l {n:=0,t:=.nil} (by simpa using h)).2.2 i;simp only[Nat.zero_le,true_and,Nat.zero_add,Nat.sub_zero]at this;show(l.foldl H.new {n:=0,t:=.nil}).get i=_;rw[this];split
 ·rfl
 ·rename_i h2
  rw[H.get_nil,List.getD_eq_getElem?_getD,List.getElem?_eq_none (by omega)];rfl
theorem SO.ren_live{r:Nat→Nat}{o:SO}(hp:o.plain=true)(h:o≠.dead):o.ren r≠.dead:=by cases o<;>simp[SO.ren,SO.plain]at*
def Wk(o o':SO):Prop:=o'=.dead∨(o≠.dead∧∀(ρ:bF) (p:Pl) (w:World),OR ρ p w o→OR ρ p w o')
theorem Wk.refl(o:SO):Wk o o:=by
 by_cases h:o=.dead
 ·exact .inl h
 ·exact .inr ⟨h,fun _ _ _ h=>h⟩
theorem Wk.of{o o':SO}(h:o=o'):Wk o o':=h▸.refl o
structure Fit(h s:H)(r:Nat→Nat):Prop where
 n:s.n≤1000000
 A:s.A=fun _ _=>True
 C:s.C=[]
 low:∀l,l<s.n→r l<h.n
 high:∀l,s.n≤l→h.n≤r l
 own:∀l,live s l→l∉s.R→r l∉h.R∧(∀x∈h.C,x.1≠r l)∧Wk (h.get (r l)) ((s.get l).ren r)∧(s.get l).plain=true
 ro:∀l,l∈s.R→live s l→live h (r l)∧∀(ρ:bF) (p:Pl) (w:World),OR ρ p w (h.get (r l))→OR (ρ.via r) p w (s.get l)
 bound:∀l,live s l→l<s.n
 inj:∀l l',live s l→live s l'→r l=r l'→l=l'
def rot(j x:Nat):Nat:=if x=j then 0 else if x<j then x+1 else x
def unrot(j y:Nat):Nat:=if y=0 then j else if y≤j then y-1 else y
theorem unrot_rot(j x:Nat):unrot j (rot j x)=x:=by
 unfold rot unrot;by_cases h1:x=j
 ·simp[h1]
 ·by_cases h2:x<j
  ·rw[if_neg h1,if_pos h2,if_neg (by omega),if_pos (by omega)];omega
  ·rw[if_neg h1,if_neg h2,if_neg (by omega),if_neg (by omega)]
theorem rot_lt{j x k:Nat}(hx:x<k)(hj:j<k∨j=0):rot j x<k:=by
 unfold rot;split
 ·omega
 ·split<;>omega
theorem unrot_ge{j y k:Nat}(hy:k≤y)(hj:j<k∨j=0):k≤unrot j y:=by
 unfold unrot;split
 ·omega
 ·split<;>omega
def oI:List Nat→Nat→Nat
 |[],x=>x
 |j::js,x=>oI js (rot j x)
def zE:List Nat→Nat→Nat
 |[],y=>y
 |j::js,y=>unrot j (zE js y)
theorem nU:∀(js:List Nat) (x:Nat),zE js (oI js x)=x
 |[],_=>rfl
 |j::js,x=>by show unrot j (zE js (oI js (rot j x)))=x;rw[nU js,unrot_rot]
theorem rots_lt:∀(js:List Nat) {x k:Nat},x<k→(∀j∈js,j<k)→oI js x<k
 |[],_,_,hx,_=>hx
 |j::js,x,k,hx,hj=>rots_lt js (rot_lt hx (.inl (hj j (by simp)))) fun i hi=>hj i (by simp[hi])
theorem unrots_ge:∀(js:List Nat) {y k:Nat},k≤y→(∀j∈js,j<k)→k≤zE js y
 |[],_,_,hy,_=>hy
 |j::js,y,k,hy,hj=>unrot_ge (unrots_ge js hy fun i hi=>hj i (by simp[hi])) (.inl (hj j (by simp)))
theorem uH{js:List Nat}{x y:Nat}(h:oI js x=oI js y):x=y:=by rw[←nU js x,h,nU]
def nxt(h s:H)(j:List Nat)(r:Nat→Nat)(l:Nat):Nat:=if l<s.n then r l else h.n+oI j (l-s.n)
def H.lay(h:H)(k:Nat)(os:List (Nat×SO)):H:={dY h os with n:=h.n+k}
def ext(h s:H)(j:List Nat)(ρ uI:bF):bF:=⟨fun m=>if m<h.n then ρ m else uI (s.n+zE j (m-h.n)),ρ.S⟩
theorem oJ:∀(os:List (Nat×SO)) (h:H) (m:Nat) (o:SO),(os.map (·.1)).Nodup→(∀x∈os,x.1≤1000000)→(m,o)∈os→(dY h os).get m=o
 |[],_,_,_,_,_,hm=>by cases hm
 |x::os,h,m,o,hd,hl,hm=>by
  rw[List.map_cons,List.nodup_cons]at hd;show(dY (h.put x.1 x.2) os).get m=o;rcases List.mem_cons.1 hm with e|hm
  ·have hnot:∀(os:List (Nat×SO)) (h:H),m∉os.map (·.1)→(dY h os).get m=h.get m:=by
    intro os
    induction os with
    |nil=>intro h _;rfl
    |cons y os ih=>
     intro h hy;rw[List.map_cons,List.mem_cons,not_or]at hy;show(dY (h.put y.1 y.2) os).get m=_;rw[ih _ hy.2,H.get_put_ne (Ne.symm hy.1)]
   rw[hnot os _ (by rw[←e]at hd;exact hd.1),←e];exact H.get_put (by have:=hl x (by simp);rw[←e]at this;exact this)
  ·exact oJ os _ m o hd.2 (fun y hy=>hl y (by simp[hy])) hm
theorem mH:∀(os:List (Nat×SO)) (h:H) (m:Nat),m∉os.map (·.1)→(dY h os).get m=h.get m
 |[],_,_,_=>rfl
 |x::os,h,m,hm=>by
  rw[List.map_cons,List.mem_cons,not_or]at hm;show(dY (h.put x.1 x.2) os).get m=_;rw[mH os _ m hm.2,H.get_put_ne (Ne.symm hm.1)]
section
variable{h s s':H}{r:Nat→Nat}{ρ uI:bF}{w w':World}{os:List (Nat×SO)}{k K:Nat}{j:List Nat}
theorem Fit.hr(ft:Fit h s r)(hr:HR ρ h w):HR (ρ.via r) s w where
 n:=ft.n
 at_:=fun l hl=>by
  refine⟨ft.bound l hl,?_⟩;by_cases hR:l∈s.R
  ·obtain⟨h1,h2⟩:=ft.ro l hR hl
   obtain⟨_,p,h3,h4,h5⟩:=hr.at_ _ h1;exact⟨p,h3,h4,h2 _ _ _ h5⟩
  ·obtain⟨_,_,h1,h2⟩:=ft.own l hl hR
   rcases h1 with h1|⟨h1,h1'⟩
   ·exact absurd h1 (SO.ren_live h2 hl)
   ·obtain⟨_,p,h3,h4,h5⟩:=hr.at_ (r l) h1
    exact⟨p,h3,h4,(OR_ren (oH ρ r) h2).2 (h1' _ _ _ h5)⟩
 apart:=fun l l' p p' fS hl hl' hp pV=>by
  have lv:∀l,live s l→live h (r l):=fun l hl=>by
   by_cases hR:l∈s.R
   ·exact(ft.ro l hR hl).1
   ·obtain⟨_,_,h1,h2⟩:=ft.own l hl hR
    exact(h1.resolve_left (SO.ren_live h2 hl)).1
  rcases hr.apart (r l) (r l') p p' (fun e=>fS (ft.inj l l' hl hl' e)) (lv l hl) (lv l' hl') hp pV with h1|h1|h1|⟨h1,h2⟩
  ·exact .inl h1
  ·exact .inr (.inl h1)
  ·exact .inr (.inr (.inl h1))
  ·refine .inr (.inr (.inr ⟨?_,?_⟩))
   ·exact Classical.byContradiction fun hR=>(ft.own l hl hR).1 h1
   ·exact Classical.byContradiction fun hR=>(ft.own l' hl' hR).1 h2
 fresh:=fun l hl=>hr.fresh _ (ft.high l hl)
 amb:=⟨fun _ _=>by rw[ft.A];trivial,fun _ h=>h.elim⟩
theorem Fit.lv(ft:Fit h s r){l:Nat}(hl:live s l):live h (r l):=by
 by_cases hR:l∈s.R
 ·exact(ft.ro l hR hl).1
 ·obtain⟨_,_,h1,h2⟩:=ft.own l hl hR
  exact(h1.resolve_left (SO.ren_live h2 hl)).1
theorem Fit.ownsX(ft:Fit h s r){b i:Nat}(ho:AT (ρ.via r) s b i):∃l p,live s l∧l∉s.R∧ρ (r l)=some p∧p.b=b∧p.o≤i∧i<p.o+p.R∧¬prot h (r l) (i-p.o):=by
 rcases ho with⟨l,p,h1,h2,h3,h4,h5,h6⟩|ho
 ·have hR:l∉s.R:=fun h=>h6 (.inl h)
  refine⟨l,p,h1,hR,h2,h3,h4,h5,?_⟩;rintro(h7|⟨x,hx,e,_⟩)
  ·exact(ft.own l h1 hR).1 h7
  ·exact(ft.own l h1 hR).2.1 x hx e
 ·exact ho.elim
theorem Fit.ownsBX(ft:Fit h s r){b:Nat}(ho:wM (ρ.via r) s b):∃l p,live s l∧l∉s.R∧ρ (r l)=some p∧p.b=b∧p.R≠0:=by
 rcases ho with⟨l,p,h1,h2,h3,h4,h5⟩|ho
 ·exact⟨l,p,h1,h5,h2,h3,h4⟩
 ·exact ho.elim
theorem Fit.nm(ft:Fit h s r)(hr:HR ρ h w)(f:FR (ρ.via r) s w uI s' w'):Nm uI (nxt h s j r) (ext h s j ρ uI):=fun l=>by
 unfold nxt ext;by_cases hl:l<s.n
 ·simp only[if_pos hl,if_pos (ft.low l hl)]
  exact f.keep l hl
 ·simp only[if_neg hl]
  rw[if_neg (by omega)];have:h.n+oI j (l-s.n)-h.n=oI j (l-s.n):=by omega
  rw[this,nU];congr 1;omega
theorem Fit.lift(ft:Fit h s r)(hr:HR ρ h w)(hr':HR uI s' w')(f:FR (ρ.via r) s w uI s' w')(hk:s'.n=s.n+k)(hK:k≤K)(hj:∀i∈j,i<k)(h6:h.n+K≤1000000)
 (hd:(os.map (·.1)).Nodup)(dS:∀l,live s l→l∉s.R→l∈os.map (·.1))(nD:∀x∈os,x.1<s'.n∧x.1∉s.R∧(x.1<s.n→live s x.1)∧Wk (s'.get x.1) x.2∧x.2.plain=true):
 HR (ext h s j ρ uI) (h.lay K (os.map fun x=>(nxt h s j r x.1,x.2.ren (nxt h s j r)))) w'∧FR ρ h w (ext h s j ρ uI) (h.lay K (os.map fun x=>(nxt h s j r x.1,x.2.ren (nxt h s j r)))) w':=by
 have hnm:=ft.nm (j:=j) hr f;generalize hq:nxt h s j r=q at hnm⊢;have q1:∀l,l<s.n→q l=r l:=fun l hl=>by rw[←hq];unfold nxt;rw[if_pos hl]
 have q2:∀l,s.n≤l→q l=h.n+oI j (l-s.n):=fun l hl=>by rw[←hq];unfold nxt;rw[if_neg (by omega)]
 have qlt:∀l,l<s'.n→q l<h.n+K:=fun l hl=>by
  rcases Nat.lt_or_ge l s.n with h1|h1
  ·rw[q1 l h1];have:=ft.low l h1;omega
  ·rw[q2 l h1];have:=rots_lt j (x:=l-s.n) (k:=k) (by omega) hj;omega
 have qlo:∀l,q l<h.n→l<s.n:=fun l hl=>by
  rcases Nat.lt_or_ge l s.n with h1|h1
  ·exact h1
  ·rw[q2 l h1]at hl;omega
 generalize hH:h.lay K (os.map fun x=>(q x.1,x.2.ren q))=h';have hn':h'.n=h.n+K:=by rw[←hH];rfl
 have hR':h'.R=h.R:=by rw[←hH];exact cQ _ _
 have hC':h'.C=h.C:=by rw[←hH];exact cY _ _
 have hA':h'.A=h.A:=by rw[←hH];exact yZ _ _
 have hbig:∀x∈os.map (fun x=>(q x.1,x.2.ren q)),x.1≤1000000:=fun x hx=>by
  obtain⟨y,hy,rfl⟩:=List.mem_map.1 hx;have:=qlt y.1 (nD y hy).1;show q y.1≤_;omega
 have qinj:∀x∈os,∀y∈os,q x.1=q y.1→x.1=y.1:=fun x hx y hy e=>by
  obtain⟨a1,_,a2,_⟩:=nD x hx;obtain⟨b1,_,b2,_⟩:=nD y hy;rcases Nat.lt_or_ge x.1 s.n with h1|h1<;>rcases Nat.lt_or_ge y.1 s.n with h2|h2
  ·rw[q1 _ h1,q1 _ h2]at e;exact ft.inj _ _ (a2 h1) (b2 h2) e
  ·rw[q1 _ h1,q2 _ h2]at e;have:=ft.low _ h1;omega
  ·rw[q2 _ h1,q1 _ h2]at e;have:=ft.low _ h2;omega
  ·rw[q2 _ h1,q2 _ h2]at e;have:=uH (Nat.add_left_cancel e);omega
 have kO:((os.map (fun x=>(q x.1,x.2.ren q))).map (·.1)).Nodup:=by
  rw[List.map_map];clear hbig dS hH
  induction os with
  |nil=>simp
  |cons x os ih=>
   rw[List.map_cons,List.nodup_cons]at hd⊢;refine⟨fun hm=>?_,ih hd.2 (fun y hy=>nD y (by simp[hy])) (fun a ha b hb=>qinj a (by simp[ha]) b (by simp[hb]))⟩;obtain⟨y,hy,e⟩:=List.mem_map.1 hm;have:=qinj y (by simp[hy]) x (by simp) e;exact hd.1 (by rw[←this];exact List.mem_map.2 ⟨y,hy,rfl⟩)
 have gin:∀x∈os,h'.get (q x.1)=x.2.ren q:=fun x hx=>by
  rw[←hH];exact oJ _ h _ _ kO hbig (List.mem_map.2 ⟨x,hx,rfl⟩)
 have gout:∀m,(∀x∈os,q x.1≠m)→h'.get m=h.get m:=fun m hm=>by
  rw[←hH];refine mH _ h m fun hx=>?_
  rw[List.map_map]at hx;obtain⟨y,hy,e⟩:=List.mem_map.1 hx;exact hm y hy e
 have split:∀m,live h' m→(∃x∈os,m=q x.1∧live s' x.1∧(∀(ρ:bF) (p:Pl) (w:World),OR ρ p w (s'.get x.1)→OR ρ p w x.2)∧x.2.plain=true∧x.1∉s.R)∨(live h m∧h'.get m=h.get m∧∀l,live s l→l∉s.R→r l≠m):=fun m hm=>by
  by_cases hx:∃x∈os,q x.1=m
  ·obtain⟨x,hx,rfl⟩:=hx
   obtain⟨a1,a2,a3,a4,a5⟩:=nD x hx;refine .inl ⟨x,hx,rfl,?_,?_,a5,a2⟩
   ·rcases a4 with a4|a4
    ·unfold live at hm;rw[gin x hx,a4]at hm;exact absurd rfl hm
    ·exact a4.1
   ·rcases a4 with a4|a4
    ·unfold live at hm;rw[gin x hx,a4]at hm;exact absurd rfl hm
    ·exact a4.2
  ·have qS:∀x∈os,q x.1≠m:=fun x h1 e=>hx ⟨x,h1,e⟩
   have:=gout m qS;refine .inr ⟨by unfold live at hm⊢;rwa [this]at hm,this,fun l hl hR e=>?_⟩;obtain⟨x,hxo,e2⟩:=List.mem_map.1 (dS l hl hR);exact qS x hxo (by rw[e2,q1 l (ft.bound l hl)];exact e)
 have keepc:∀m p,live h m→(∀l,live s l→l∉s.R→r l≠m)→ρ m=some p→(∀i,p.o≤i→i<p.o+p.R→¬AT (ρ.via r) s p.b i)∧(p.R≠0→¬wM (ρ.via r) s p.b):=fun m p hm hno hp=>by
  refine⟨fun i hi1 hi2 ho=>?_,fun hR ho=>?_⟩
  ·obtain⟨l,p0,h1,h2,h3,h4,h5,h7,h8⟩:=ft.ownsX ho
   rcases hr.apart (r l) m p0 p (hno l h1 h2) (ft.lv h1) hm h3 hp with h9|h9|h9|h9
   ·exact h9 h4
   ·omega
   ·omega
   ·exact(ft.own l h1 h2).1 h9.1
  ·obtain⟨l,p0,h1,h2,h3,h4,h5⟩:=ft.ownsBX ho
   rcases hr.apart (r l) m p0 p (hno l h1 h2) (ft.lv h1) hm h3 hp with h9|h9|h9|h9
   ·exact h9 h4
   ·exact h5 h9
   ·exact hR h9
   ·exact(ft.own l h1 h2).1 h9.1
 have olow:∀m,live h m→(ext h s j ρ uI) m=ρ m:=fun m hm=>by
  have:=(hr.at_ m hm).1;show(if m<h.n then ρ m else _)=_;rw[if_pos this]
 have hle:ρ.le (ext h s j ρ uI):=fun m p hp=>by
  show(if m<h.n then ρ m else _)=_;rcases Nat.lt_or_ge m h.n with h1|h1
  ·rw[if_pos h1];exact hp
  ·rw[hr.fresh m h1]at hp;cases hp
 have where_:∀x∈os,live s' x.1→∀p,uI x.1=some p→(x.1<s.n∧live s x.1∧ρ (r x.1)=some p)∨(s.n≤x.1∧(w.heap.size≤p.b∨∀i,p.o≤i→i<p.o+p.R→AT (ρ.via r) s p.b i)):=fun x hx hl p hp=>by
  rcases Nat.lt_or_ge x.1 s.n with h1|h1
  ·exact .inl ⟨h1,f.old _ h1 hl,by rw[f.keep _ h1]at hp;exact hp⟩
  ·exact .inr ⟨h1,f.new _ p h1 hl hp⟩
 have elder:∀m p,live h m→ρ m=some p→p.b<w.heap.size:=fun m p hm hp=>by
  obtain⟨_,q,h1,h2,_⟩:=hr.at_ m hm;rw[hp]at h1;injection h1 with h1;rw[h1];exact h2
 have mixed:∀x∈os,live s' x.1→x.1∉s.R→∀m p p',uI x.1=some p→live h m→(∀l,live s l→l∉s.R→r l≠m)→ρ m=some p'→p.b≠p'.b∨p.R=0∨p'.R=0:=fun x hx hl hxR m p p' hp hm hno pV=>by
  rcases where_ x hx hl p hp with⟨h1,h2,h3⟩|⟨h1,h2|h2⟩
  ·rcases hr.apart (r x.1) m p p' (hno _ h2 hxR) (ft.lv h2) hm h3 pV with h9|h9|h9|h9
   ·exact .inl h9
   ·exact .inr (.inl h9)
   ·exact .inr (.inr h9)
   ·exact absurd h9.1 (ft.own _ h2 hxR).1
  ·exact .inl (by have:=elder m p' hm pV;omega)
  ·by_cases hR:p.R=0
   ·exact .inr (.inl hR)
   ·by_cases hR2:p'.R=0
    ·exact .inr (.inr hR2)
    ·refine .inl fun e=>?_
     obtain⟨l,p0,k1,k2,k3,k4,k5,k7,k8⟩:=ft.ownsX (h2 p.o (Nat.le_refl _) (by omega));rcases hr.apart (r l) m p0 p' (hno l k1 k2) (ft.lv k1) hm k3 pV with h9|h9|h9|h9
     ·exact h9 (by rw[k4,e])
     ·omega
     ·exact hR2 h9
     ·exact(ft.own l k1 k2).1 h9.1
 have sameS:∀b,ρ.S b→w'.heap[b]?=w.heap[b]?:=fun b hb=>by
  obtain⟨a1,a2⟩:=hr.amb.2 b hb;have no:∀l p,live s l→ρ (r l)=some p→p.b=b→p.R=0:=fun l p hl hp e=>a2 (r l) p (ft.lv hl) hp e
  have hx:w.heap[b]?=some w.heap[b]:=Array.getElem?_eq_getElem a1;cases ho:w.heap[b]with
  |cells cs t fr=>
   rw[ho]at hx;obtain⟨gF,e1,e2,e3⟩:=f.cells b cs t fr hx;rw[e1,hx];have:gF=cs:=Array.ext_getElem? fun i=>e3 i fun hw=>by
    obtain⟨l,p,k1,k2,k3,k4,k5,k6,_⟩:=ft.ownsX hw;have:=no l p k1 k3 k4;omega
   rw[this]
  |_=>
   rw[ho]at hx;rw[hx];refine f.others b _ hx trivial fun hw=>?_
   obtain⟨l,p,k1,k2,k3,k4,k5⟩:=ft.ownsBX hw;exact k5 (no l p k1 k3 k4)
 refine⟨⟨by rw[hn'];exact h6,fun m hm=>?_,fun m m' p p' fS hm pZ hp pV=>?_,fun m hm=>?_,?_⟩,⟨hle,fun m hm=>?_,by rw[hn'];omega,f.size,fun b cs t fr hb=>?_,fun b o hb hnc ho=>?_,fun m hm hl=>?_,fun m p hm hl hp=>?_,fun b hb=>.inr hb,hR',hC',fun x hx cK=>?_,f.env⟩⟩
 ·rcases split m hm with⟨x,hx,rfl,h1,h2,h3,h4⟩|⟨h1,h2,h3⟩
  ·obtain⟨g1,p,g2,g3,g4⟩:=hr'.at_ _ h1
   refine⟨by rw[hn'];exact qlt _ g1,p,by rw[←hnm];exact g2,g3,?_⟩;rw[gin x hx];exact(OR_ren hnm h3).1 (h2 _ _ _ g4)
  ·obtain⟨g1,p,g2,g3,g4⟩:=hr.at_ m h1
   refine⟨by rw[hn'];omega,p,by rw[olow m h1];exact g2,Nat.lt_of_lt_of_le g3 f.size,?_⟩;rw[h2];obtain⟨c1,c2⟩:=keepc m p h1 h3 g2;refine g4.frame hle (fun cs t fr hb=>?_) (fun x hx hnc hR=>f.others _ x hx hnc (c2 hR));obtain⟨gF,e1,e2,e3⟩:=f.cells _ _ _ _ hb;exact⟨gF,e1,e2,fun i hi1 hi2=>e3 i (c1 i hi1 hi2)⟩
 ·rcases split m hm with⟨x,hx,rfl,h1,h2,h3,h4⟩|⟨h1,h2,h3⟩<;>rcases split m' pZ with⟨y,hy,rfl,g1,g2,g3,g4⟩|⟨g1,g2,g3⟩
  ·rw[←hnm]at hp pV
   have hxy:x.1≠y.1:=fun e=>fS (by rw[e])
   rcases hr'.apart _ _ p p' hxy h1 g1 hp pV with h9|h9|h9|h9
   ·exact .inl h9
   ·exact .inr (.inl h9)
   ·exact .inr (.inr (.inl h9))
   ·rw[f.ro]at h9;exact absurd h9.1 h4
  ·rw[←hnm]at hp
   rw[olow m' g1]at pV;rcases mixed x hx h1 h4 m' p p' hp g1 g3 pV with h9|h9|h9
   ·exact .inl h9
   ·exact .inr (.inl h9)
   ·exact .inr (.inr (.inl h9))
  ·rw[←hnm]at pV
   rw[olow m h1]at hp;rcases mixed y hy g1 g4 m p' p pV h1 h3 hp with h9|h9|h9
   ·exact .inl (Ne.symm h9)
   ·exact .inr (.inr (.inl h9))
   ·exact .inr (.inl h9)
  ·rw[olow m h1]at hp
   rw[olow m' g1]at pV;rw[hR'];exact hr.apart m m' p p' fS h1 g1 hp pV
 ·rw[hn']at hm
  show(if m<h.n then ρ m else _)=none;rw[if_neg (by omega)];have:=unrots_ge j (y:=m-h.n) (k:=k) (by omega) hj;exact hr'.fresh _ (by omega)
 ·refine hr.amb_step hA' rfl f.size sameS fun b m p hb hm hp e=>?_
  rcases split m hm with⟨x,hx,rfl,h1,h2,h3,h4⟩|⟨h1,h2,h3⟩
  ·rw[←hnm]at hp
   have hblt:=(hr.amb.2 b hb).1;rcases where_ x hx h1 p hp with⟨k1,k2,k3⟩|⟨k1,k2|k2⟩
   ·exact(hr.amb.2 b hb).2 _ p (ft.lv k2) k3 e
   ·omega
   ·refine Classical.byContradiction fun hR=>?_
    obtain⟨l,p0,j1,j2,j3,j4,j5,j6,_⟩:=ft.ownsX (k2 p.o (Nat.le_refl _) (by omega));have:=(hr.amb.2 b hb).2 _ p0 (ft.lv j1) j3 (by rw[j4,e]);omega
  ·rw[olow m h1]at hp
   exact(hr.amb.2 b hb).2 m p h1 hp e
 ·show(if m<h.n then ρ m else _)=_
  rw[if_pos hm]
 ·obtain⟨gF,e1,e2,e3⟩:=f.cells b cs t fr hb
  refine⟨gF,e1,e2,fun i hi=>e3 i fun hw=>hi ?_⟩;obtain⟨l,p,k1,k2,k3,k4,k5,k6,k7⟩:=ft.ownsX hw;exact .inl ⟨r l,p,ft.lv k1,k3,k4,k5,k6,k7⟩
 ·refine f.others b o hb hnc fun hw=>ho ?_
  obtain⟨l,p,k1,k2,k3,k4,k5⟩:=ft.ownsBX hw;exact .inl ⟨r l,p,ft.lv k1,k3,k4,k5,(ft.own l k1 k2).1⟩
 ·rcases split m hl with⟨x,hx,rfl,h1,h2,h3,h4⟩|⟨h1,h2,h3⟩
  ·have:=qlo _ hm
   rw[q1 _ this];exact ft.lv (f.old _ this h1)
  ·exact h1
 ·rcases split m hl with⟨x,hx,rfl,h1,h2,h3,h4⟩|⟨h1,h2,h3⟩
  ·rw[←hnm]at hp
   rcases where_ x hx h1 p hp with⟨k1,k2,k3⟩|⟨k1,k2|k2⟩
   ·rw[q1 _ k1]at hm;have:=ft.low _ k1;omega
   ·exact .inl k2
   ·refine .inr fun i hi1 hi2=>?_
    obtain⟨l,p0,j1,j2,j3,j4,j5,j6,j7⟩:=ft.ownsX (k2 i hi1 hi2);exact .inl ⟨r l,p0,ft.lv j1,j3,j4,j5,j6,j7⟩
  ·have:=(hr.at_ m h1).1;omega
 ·by_cases AZ:∃y∈os,q y.1=x.1
  ·obtain⟨y,hy,e⟩:=AZ
   exfalso;have hlo:=qlo y.1 (by rw[e];exact cK);obtain⟨_,a2,a3,_⟩:=nD y hy;exact(ft.own _ (a3 hlo) a2).2.1 x hx (by rw[←q1 _ hlo];exact e.symm)
  ·rw[gout _ fun y hy e=>AZ ⟨y,hy,e⟩]
   exact .refl _ _ _
end
section
variable{β:Type}
def stN:Nat→Nat→(Nat→Out β)→Out β
 |0,n,c=>c n
 |d+1,n,c=>match Nat.beq n 0 with
  |true=>c 0
  |false=>match Nat.beq (n%2) 0 with
   |true=>stN d (n/2) fun q=>c (2*q)
   |false=>stN d (n/2) fun q=>c (2*q+1)
mutual
def stV:SV→(SV→Out β)→Out β
 |.val v,c=>c (.val v)
 |.bool b,c=>c (.bool b)
 |.int k n,c=>c (.int k n)
 |.ptr l i f,c=>stN 20 l fun l=>c (.ptr l i f)
 |.slice l i n m,c=>stN 20 l fun l=>c (.slice l i n m)
 |.map l,c=>stN 20 l fun l=>c (.map l)
 |.func fn f g,c=>uJ f fun f=>uJ g fun g=>c (.func fn f g)
 |.iface t v,c=>stV v fun v=>c (.iface t v)
 |.agg l,c=>uJ l fun l=>c (.agg l)
 |.tup l,c=>uJ l fun l=>c (.tup l)
 |.yield l,c=>stN 20 l fun l=>c (.yield l)
 |.any,c=>c .any
def uJ:List SV→(List SV→Out β)→Out β
 |[],c=>c []
 |x::xs,c=>stV x fun x=>uJ xs fun xs=>c (x::xs)
end
theorem iD:∀(d n:Nat) (c:Nat→Out β),(stN d n c).go=(c n).go
 |0,_,_=>rfl
 |d+1,n,c=>by
  unfold stN;split
  ·rename_i h;rw[Nat.eq_of_beq_eq_true h]
  ·split
   ·rename_i h
    have:=Nat.eq_of_beq_eq_true h;rw[iD d];have e:2*(n/2)=n:=by omega
    simp only[e]
   ·rename_i h
    have h2:n%2≠0:=fun e=>by rw[e]at h;simp at h
    rw[iD d];have e:2*(n/2)+1=n:=by omega
    simp only[e]
mutual
theorem stV_eq:∀(v:SV) (c:SV→Out β),(stV v c).go=(c v).go
 |.val _,_=>rfl
 |.bool _,_=>rfl
 |.int _ _,_=>rfl
 |.ptr _ _ _,_=>by unfold stV;rw[iD]
 |.slice _ _ _ _,_=>by unfold stV;rw[iD]
 |.map _,_=>by unfold stV;rw[iD]
 |.func _ _ _,_=>by unfold stV;rw[kQ,kQ]
 |.iface _ _,_=>by unfold stV;rw[stV_eq]
 |.agg _,_=>by unfold stV;rw[kQ]
 |.tup _,_=>by unfold stV;rw[kQ]
 |.yield _,_=>by unfold stV;rw[iD]
 |.any,_=>rfl
theorem kQ:∀(l:List SV) (c:List SV→Out β),(uJ l c).go=(c l).go
 |[],_=>rfl
 |_::_,_=>by unfold uJ;rw[stV_eq,kQ]
end
def rawT(t:Nat):Bool:=Nat.beq t 42||Nat.beq t 74||Nat.beq t 201
def stO:SO→(SO→Out β)→Out β
 |.dead,c=>c .dead
 |.cells t s l,c=>match rawT t with
  |true=>c (.cells t s l)
  |false=>uJ l fun l=>c (.cells t s l)
 |.ints t s l,c=>c (.ints t s l)
 |.spot t s k l,c=>uJ l fun l=>c (.spot t s k l)
 |.map es,c=>c (.map es)
 |.loop _ _ _ _ _ _ _,_=>.fail
 |.defd,c=>c .defd
 |.any t s n,c=>c (.any t s n)
theorem stO_eq{b:β}:∀(o:SO) (c:SO→Out β),(stO o c).go=some b→(c o).go=some b
 |.dead,_,h=>h
 |.cells t s l,c,h=>by
  have h':(match rawT t with
   |true=>c (.cells t s l)
   |false=>uJ l fun l=>c (.cells t s l)).go=some b:=h
  split at h'
  ·exact h'
  ·rwa [kQ]at h'
 |.ints _ _ _,_,h=>h
 |.spot t s k l,c,h=>by
  have h':(uJ l fun l=>c (.spot t s k l)).go=some b:=h
  rwa [kQ]at h'
 |.map _,_,h=>h
 |.loop _ _ _ _ _ _ _,_,h=>by cases h
 |.defd,_,h=>h
 |.any _ _ _,_,h=>h
def seeL(h:H):List Nat→(List SO→Out β)→Out β
 |[],c=>c []
 |l::ls,c=>stO (h.get l) fun o=>seeL h ls fun os=>c (o::os)
theorem seeL_eq{b:β}{h:H}:∀(ls:List Nat) (c:List SO→Out β),(seeL h ls c).go=some b→(c (ls.map h.get)).go=some b
 |[],_,hg=>hg
 |l::ls,c,hg=>by
  unfold seeL at hg;have:=seeL_eq ls _ (stO_eq _ _ hg);exact this
end
def cD(ls:List Nat)(r:SV×H):Out (SV×Nat×List SO):=stV r.1 fun v=>stN 20 r.2.n fun n=>seeL r.2 ls fun os=>.ret (v,n,os)
theorem see_eq{ls:List Nat}{r:SV×H}{v:SV}{n:Nat}{os:List SO}(h:(cD ls r).go=some (v,n,os)):r.1=v∧r.2.n=n∧ls.map r.2.get=os:=by
 unfold cD at h;rw[stV_eq,iD]at h;have:=Out.ret_go (seeL_eq (b:=(v,n,os)) ls (fun os=>.ret (r.1,r.2.n,os)) h);injection this with e1 e2;injection e2 with e2 e3;exact⟨e1,e2,e3⟩
def cR(ts ls:List Nat)(r:SX×SA×H):Out (SX×List Nat×List SV×Nat×List SO):=uJ (ts.map r.2.1.get) fun vs=>stN 20 r.2.2.n fun n=>seeL r.2.2 ls fun os=>.ret (r.1,r.2.1.marks,vs,n,os)
theorem seeC_eq{ts ls:List Nat}{r:SX×SA×H}{x:SX}{ms:List Nat}{vs:List SV}{n:Nat}{os:List SO}(h:(cR ts ls r).go=some (x,ms,vs,n,os)):r.1=x∧r.2.1.marks=ms∧ts.map r.2.1.get=vs∧r.2.2.n=n∧ls.map r.2.2.get=os:=by
 unfold cR at h;rw[kQ,iD]at h;have:=Out.ret_go (seeL_eq (b:=(x,ms,vs,n,os)) ls (fun os=>.ret (r.1,r.2.1.marks,ts.map r.2.1.get,r.2.2.n,os)) h);injection this with e1 e2;injection e2 with e2 e3;injection e3 with e3 e4;injection e4 with e4 e5;exact⟨e1,e2,e3,e4,e5⟩
section
variable{α:Type}
abbrev Way:=List (Nat×Bool)
abbrev kB:=List (Bool×Bool)
def holds:kB→Prop
 |[]=>True
 |c::cs=>c.1=c.2∧holds cs
def note(b d:Bool)(r:Option (kB×α)):Option (kB×α):=match r with
 |some r=>some ((b,d)::r.1,r.2)
 |none=>none
def follow:Way→Out α→Option (kB×α)
 |[],.ret a=>some ([],a)
 |_::_,.ret _=>none
 |_,.fail=>none
 |[],.chk b k=>match b with
  |true=>follow [] k
  |false=>none
 |(n,d)::ps,.chk b k=>match n with
  |0=>match d with
   |true=>note b true (follow ps k)
   |false=>none
  |n+1=>match b with
   |true=>follow ((n,d)::ps) k
   |false=>none
 |[],.ite b t e=>match b with
  |true=>follow [] t
  |false=>follow [] e
 |(n,d)::ps,.ite b t e=>match n with
  |0=>match d with
   |true=>note b true (follow ps t)
   |false=>note b false (follow ps e)
  |n+1=>match b with
   |true=>follow ((n,d)::ps) t
   |false=>follow ((n,d)::ps) e
 |_,.ask _ _=>none
theorem vU{b d:Bool}{r:Option (kB×α)}{cs:kB}{a:α}(h:note b d r=some (cs,a)):∃gF,r=some (gF,a)∧cs=(b,d)::gF:=by
 cases r with
 |none=>cases h
 |some r=>
  simp only[note,Option.some.injEq,Prod.mk.injEq]at h;exact⟨r.1,by rw[←h.2],h.1.symm⟩
theorem dT:∀(o:Out α) (ps:Way) (cs:kB) (a:α),follow ps o=some (cs,a)→holds cs→o.go=some a
 |.ret a,ps,cs,a',h,_=>by
  cases ps with
  |nil=>simp only[follow,Option.some.injEq,Prod.mk.injEq]at h;rw[←h.2];rfl
  |cons p ps=>simp[follow]at h
 |.fail,ps,cs,a,h,_=>by cases ps<;>simp[follow]at h
 |.chk b k,ps,cs,a,h,hc=>by
  cases ps with
  |nil=>
   unfold follow at h;split at h
   ·exact dT k _ _ _ h hc
   ·cases h
  |cons p ps=>
   obtain⟨n,d⟩:=p;cases n with
   |zero=>
    unfold follow at h;simp only at h;split at h
    ·obtain⟨gF,h1,rfl⟩:=vU h
     have hb:b=true:=hc.1;subst hb;exact dT k _ _ _ h1 hc.2
    ·cases h
   |succ n=>
    unfold follow at h;simp only at h;split at h
    ·exact dT k _ _ _ h hc
    ·cases h
 |.ite b t e,ps,cs,a,h,hc=>by
  cases ps with
  |nil=>
   unfold follow at h;split at h
   ·exact dT t _ _ _ h hc
   ·exact dT e _ _ _ h hc
  |cons p ps=>
   obtain⟨n,d⟩:=p;cases n with
   |zero=>
    unfold follow at h;simp only at h;split at h
    ·obtain⟨gF,h1,rfl⟩:=vU h
     have hb:b=true:=hc.1;subst hb;exact dT t _ _ _ h1 hc.2
    ·obtain⟨gF,h1,rfl⟩:=vU h
     have hb:b=false:=hc.1;subst hb;exact dT e _ _ _ h1 hc.2
   |succ n=>
    unfold follow at h;simp only at h;split at h
    ·exact dT t _ _ _ h hc
    ·exact dT e _ _ _ h hc
 |.ask p k,ps,cs,a,h,_=>by cases ps<;>simp[follow]at h
end
abbrev cI:=Task→H→Option (Out (SV×H))
def cX(P:Program)(S:cI):Prop:=∀(f:Nat) (args:List SV) (h:H) (o:Out (SV×H)) (r:SV×H),S (.fn f args) h=some o→o.go=some r→Spec P (.fn f args) h r
def by_(S:cI)(K:pY):pY:=fun t h=>match t with
 |.fn f args=>match S (.fn f args) h with
  |some o=>o
  |none=>K t h
 |t=>K t h
theorem by_ok{P:Program}{S:cI}{K:pY}(hS:cX P S)(hK:KOK P K):KOK P (by_ S K) where
 fn:=fun f args h v h' hg=>by
  unfold by_ at hg;simp only at hg;split at hg
  ·rename_i o ho
   exact hS f args h o (v,h') ho hg
  ·exact hK.fn _ _ _ _ _ hg
 yield:=fun l args h v h' hg=>hK.yield _ _ _ _ _ hg
def runK(P:Program)(S:cI):Nat→pY
 |0=>fun _ _=>.fail
 |n+1=>by_ S fun t h=>match t with
  |.fn f args=>call P f (runK P S n) args h
  |.yield l args=>round P l (runK P S n) args h
theorem kR{P:Program}(X:wV P){S:cI}(hS:cX P S):∀n,KOK P (runK P S n)
 |0=>⟨fun _ _ _ _ _ hg=>(by cases hg),fun _ _ _ _ _ hg=>(by cases hg)⟩
 |n+1=>by_ok hS ⟨fun _ _ _ _ _ hg=>call_ok X (kR X hS n) hg,fun _ _ _ _ _ hg=>round_ok X (kR X hS n) hg⟩
def aT(l:List SO)(R:List Nat):H:={mk l with R:=R}
end Go.Proofs.YtnkcbfgfkadoaaaGreat.Sx
