/- Part 5 of the proof of TopPeek. -/
import Derived.Test.YtnkcbfgfkadoaaaGreatX4
set_option linter.all false
namespace Go.Proofs.YtnkcbfgfkadoaaaGreat.Sx
open Go
section
variable{P:Program}{ρ oU:bF}{h0 h1 h2:H}{w w0:World}
theorem HR.sub(hr:HR ρ h1 w)(hn:h1.n≤h2.n)(h6:h2.n≤1000000)(hs:∀l,live h2 l→h2.get l=h1.get l)(hA:h2.A=h1.A)(hR:h2.R=h1.R):HR ρ h2 w where
 n:=h6
 at_:=fun l hl=>by
  have h3:live h1 l:=by unfold live at hl⊢;rw[←hs l hl];exact hl
  obtain⟨g1,p,g2,g3,g4⟩:=hr.at_ l h3;exact⟨by omega,p,g2,g3,by rw[hs l hl];exact g4⟩
 apart:=fun l l' p p' fS hl hl'=>by rw[hR];exact hr.apart l l' p p' fS (by unfold live at hl⊢;rw[←hs l hl];exact hl) (by unfold live at hl'⊢;rw[←hs l' hl'];exact hl')
 fresh:=fun l hl=>hr.fresh l (by omega)
 amb:=hr.amb_step hA rfl (Nat.le_refl _) (fun _ _=>rfl) fun b m q hb hm hq e=>(hr.amb.2 b hb).2 m q (by unfold live at hm⊢;rw[←hs m hm];exact hm) hq e
theorem FR.sub(f:FR oU h0 w0 ρ h1 w)(hn:h1.n≤h2.n)(hs:∀l,live h2 l→h2.get l=h1.get l)(hR:h2.R=h1.R)(hC:h2.C=h1.C)(xJ:∀m,m<h0.n→h2.get m=h1.get m):FR oU h0 w0 ρ h2 w where
 le:=f.le
 keep:=f.keep
 n:=Nat.le_trans f.n hn
 size:=f.size
 cells:=f.cells
 others:=f.others
 old:=fun l hl hv=>f.old l hl (by unfold live at hv⊢;rw[←hs l hv];exact hv)
 new:=fun l p hl hv hp=>f.new l p hl (by unfold live at hv⊢;rw[←hs l hv];exact hv) hp
 amb:=f.amb
 ro:=hR.trans f.ro
 ct:=hC.trans f.ct
 eqc:=fun x hx hl=>by rw[xJ _ hl];exact f.eqc x hx hl
 env:=f.env
end
def cV(h:H)(ls:List Nat):H:=ls.foldl (fun h l=>h.put l .dead) h
theorem eZ:∀(ls:List Nat) (h:H),(cV h ls).n=h.n
 |[],_=>rfl
 |l::ls,h=>by show(cV (h.put l .dead) ls).n=h.n;rw[eZ ls];rfl
theorem qB:∀(ls:List Nat) (h:H),(cV h ls).A=h.A
 |[],_=>rfl
 |l::ls,h=>by show(cV (h.put l .dead) ls).A=h.A;rw[qB ls];rfl
theorem jC:∀(ls:List Nat) (h:H),(cV h ls).R=h.R
 |[],_=>rfl
 |l::ls,h=>by show(cV (h.put l .dead) ls).R=h.R;rw[jC ls];rfl
theorem nR:∀(ls:List Nat) (h:H),(cV h ls).C=h.C
 |[],_=>rfl
 |l::ls,h=>by show(cV (h.put l .dead) ls).C=h.C;rw[nR ls];rfl
theorem dH:∀(ls:List Nat) (h:H) (m:Nat),(∀l∈ls,l≤1000000)→(cV h ls).get m=if m∈ls then .dead else h.get m
 |[],h,m,_=>by simp[cV]
 |l::ls,h,m,hl=>by
  show(cV (h.put l .dead) ls).get m=_;rw[dH ls _ m fun x hx=>hl x (by simp[hx])];by_cases e:m=l
  ·subst e
   rw[H.get_put (hl m (by simp))];simp
  ·rw[H.get_put_ne (Ne.symm e)]
   by_cases e2:m∈ls<;>simp[e,e2]
theorem deadAll_n:∀(os:List (Nat×SO)) (h:H),(fH h os).n=h.n
 |[],_=>rfl
 |x::os,h=>by show(fH (h.put x.1 .dead) os).n=h.n;rw[deadAll_n os];rfl
theorem deadAll_A:∀(os:List (Nat×SO)) (h:H),(fH h os).A=h.A
 |[],_=>rfl
 |x::os,h=>by show(fH (h.put x.1 .dead) os).A=h.A;rw[deadAll_A os];rfl
theorem vQ:∀(os:List (Nat×SO)) (h:H),(fH h os).R=h.R
 |[],_=>rfl
 |x::os,h=>by show(fH (h.put x.1 .dead) os).R=h.R;rw[vQ os];rfl
theorem kV:∀(os:List (Nat×SO)) (h:H) (m:Nat),(∀x∈os,x.1≤1000000)→(fH h os).get m=if m∈os.map (·.1)then .dead else h.get m
 |[],h,m,_=>by simp[fH]
 |x::os,h,m,hl=>by
  show(fH (h.put x.1 .dead) os).get m=_;rw[kV os _ m fun y hy=>hl y (by simp[hy])];by_cases e:m=x.1
  ·subst e
   rw[H.get_put (hl x (by simp))];simp
  ·rw[H.get_put_ne (Ne.symm e)]
   by_cases e2:m∈os.map (·.1)<;>simp[e,e2]
theorem putAll_n:∀(os:List (Nat×SO)) (h:H),(dY h os).n=h.n
 |[],_=>rfl
 |x::os,h=>by show(dY (h.put x.1 x.2) os).n=h.n;rw[putAll_n os];rfl
theorem yZ:∀(os:List (Nat×SO)) (h:H),(dY h os).A=h.A
 |[],_=>rfl
 |x::os,h=>by show(dY (h.put x.1 x.2) os).A=h.A;rw[yZ os];rfl
theorem cQ:∀(os:List (Nat×SO)) (h:H),(dY h os).R=h.R
 |[],_=>rfl
 |x::os,h=>by show(dY (h.put x.1 x.2) os).R=h.R;rw[cQ os];rfl
theorem cY:∀(os:List (Nat×SO)) (h:H),(dY h os).C=h.C
 |[],_=>rfl
 |x::os,h=>by show(dY (h.put x.1 x.2) os).C=h.C;rw[cY os];rfl
theorem zA(f:Nat→SO):∀(os:List (Nat×SO)) (h:H) (m:Nat),(∀x∈os,x.1≤1000000∧x.2=f x.1)→(dY h os).get m=if m∈os.map (·.1)then f m else h.get m
 |[],h,m,_=>by simp[dY]
 |x::os,h,m,hl=>by
  show(dY (h.put x.1 x.2) os).get m=_;rw[zA f os _ m fun y hy=>hl y (by simp[hy])];by_cases e:m=x.1
  ·subst e
   rw[H.get_put (hl x (by simp)).1,(hl x (by simp)).2];simp
  ·rw[H.get_put_ne (Ne.symm e)]
   by_cases e2:m∈os.map (·.1)<;>simp[e,e2]
theorem uD{m:Nat}{h:H}:∀(acc:Acc) (x:Nat×SO),x∈hide m h acc→x.1<h.n∧x.2=h.get x.1∧∃y∈acc,x.1∈y.2.2
 |[],x,hx=>by simp[hide]at hx
 |(i,cs,ls)::acc,x,hx=>by
  have up:(x.1<h.n∧x.2=h.get x.1∧∃y∈acc,x.1∈y.2.2)→x.1<h.n∧x.2=h.get x.1∧∃y∈(i,cs,ls)::acc,x.1∈y.2.2:=fun⟨h1,h2,y,h3,h4⟩=>⟨h1,h2,y,by simp[h3],h4⟩
  unfold hide at hx;split at hx
  ·exact up (uD acc x hx)
  ·rw[List.mem_append]at hx
   rcases hx with hx|hx
   ·obtain⟨l,hl,rfl⟩:=List.mem_map.1 hx
    obtain⟨h1,h2⟩:=List.mem_filter.1 hl;exact⟨aF.1 h2,rfl,_,List.mem_cons_self,h1⟩
   ·exact up (uD acc x hx)
theorem zB{m:Nat}{h:H}{i l:Nat}{cs:List (Nat×Nat×Nat)}{ls:List Nat}(hi:Nat.testBit m i=false)(hl:l∈ls)(hn:l<h.n):∀(acc:Acc),(i,cs,ls)∈acc→l∈(hide m h acc).map (·.1)
 |[],hx=>by simp at hx
 |(j,gF,ls')::acc,hx=>by
  unfold hide;rcases List.mem_cons.1 hx with e|hx
  ·injection e with e1 e2
   injection e2 with e2 e3;subst e1;subst e2;subst e3;simp only[hi,List.map_append,List.mem_append];exact .inl (List.mem_map.2 ⟨(l,h.get l),List.mem_map.2 ⟨l,List.mem_filter.2 ⟨hl,aF.2 hn⟩,rfl⟩,rfl⟩)
  ·split
   ·exact zB hi hl hn acc hx
   ·rw[List.map_append,List.mem_append]
    exact .inr (zB hi hl hn acc hx)
theorem vR{m i:Nat}{cs:List (Nat×Nat×Nat)}{ls:List Nat}{y:Nat×Nat×Nat}(hi:Nat.testBit m i=false)(hy:y∈cs):∀(acc:Acc),(i,cs,ls)∈acc→y∈prots m acc
 |[],hx=>by simp at hx
 |(j,gF,ls')::acc,hx=>by
  unfold prots;rcases List.mem_cons.1 hx with e|hx
  ·injection e with e1 e2
   injection e2 with e2 e3;subst e1;subst e2;subst e3;simp only[hi];exact List.mem_append_left _ hy
  ·split
   ·exact vR hi hy acc hx
   ·exact List.mem_append_right _ (vR hi hy acc hx)
section
variable{P:Program}
theorem rd_heap{h h':H}{l i f a k:Nat}(he:qW (h.get l) (h'.get l) a k)(h1:a≤ix (xU (h.get l)) i f)(h2:ix (xU (h.get l)) i f<a+k):rd h' l i f=rd h l i f:=he.2.2 i f h1 h2
theorem rdN_heap{h h':H}{l i a k:Nat}(he:qW (h.get l) (h'.get l) a k):∀(n f:Nat),a≤ix (xU (h.get l)) i f→ix (xU (h.get l)) i f+n≤a+k→rdN h' l i n f=rdN h l i n f
 |0,_,_,_=>rfl
 |n+1,f,h1,h2=>by
  unfold rdN;rw[sX]at h1 h2;rw[rd_heap he (by rw[sX];exact h1) (by rw[sX];omega)];congr 1;funext v;rw[rdN_heap he n (f+1) (by rw[sX];omega) (by rw[sX];omega)]
theorem tI{h h':H}{l e:Nat}(he:xU (h'.get l)=xU (h.get l)):tY P h' l e=tY P h l e:=by unfold tY;rw[he]
theorem cells_heap{β:Type}{h h':H}{l a k:Nat}(he:qW (h.get l) (h'.get l) a k)(F:Nat→Nat→Out β):(match h'.get l with
 |.cells _ s c=>F s c.length
 |_=>.fail)=(match h.get l with
 |.cells _ s c=>F s c.length
 |_=>.fail):=by
 obtain⟨h1,h2,_⟩:=he;cases ho:h.get l<;>cases ho':h'.get l<;>rw[ho,ho']at h1 h2<;>simp[oln,xU]at h1 h2⊢;subst h1;rw[h2]
theorem ev_heap{h h':H}{bY:Bool}{σ:Operand→SV}{op:Op}(hc:cl op=0)(he:∀x∈eM P h σ op,qW (h.get x.1) (h'.get x.1) x.2.1 x.2.2):ev P bY h' σ op=ev P bY h σ op:=by
 cases op
 case load t x=>
  simp only[eM]at he;simp only[ev];cases hx:σ x<;>simp only[load];rename_i l i f;rw[hx]at he;have:=he _ (List.mem_cons_self);simp only[ldN]at this;cases hu:P.underlying t with
  |none=>rfl
  |some d=>
   rw[hu]at this;simp only at this⊢;cases hd:xG d with
   |true=>
    rw[hd]at this;simp only at this⊢;rw[rdN_heap this _ _ (Nat.le_refl _) (Nat.le_refl _)]
   |false=>
    rw[hd]at this;simp only at this⊢;rw[rd_heap this (Nat.le_refl _) (by omega)]
 case slice t x lo hi mx=>
  simp only[eM]at he;cases mx with
  |some y=>rfl
  |none=>
   simp only[ev];cases hx:σ x with
   |ptr l i f=>
    rw[hx]at he;have:=he _ (List.mem_cons_self);cases hu:P.underlying t with
    |none=>rfl
    |some d=>cases d<;>first|rfl|skip
             rename_i n e;cases i<;>cases f<;>first|rfl|skip
             simp only[tI this.1];exact cells_heap this fun s k=>match tY P h l e&&Nat.ble (n*s) k&&Nat.ble n 1000000000 with
              |true=>(bound n (hi.map σ)).bind fun hi=>(bound 0 (lo.map σ)).bind fun lo=>cut l 0 n (some n) lo hi
              |false=>.fail
   |slice l i n c=>
    rw[hx]at he;have:=he _ (List.mem_cons_self);simp only[tI this.1]
   |_=>rfl
 case indexAddr t x j=>
  simp only[eM]at he;simp only[ev];cases hx:σ x with
  |slice l i n c=>
   rw[hx]at he;have:=he _ (List.mem_cons_self);cases P.underlying t with
   |none=>rfl
   |some d=>cases d<;>cases σ j<;>first|rfl|simp only[tI this.1]
  |_=>cases P.underlying t with
   |none=>rfl
   |some d=>cases d<;>cases σ j<;>rfl
 case unOp o t x=>cases o<;>rfl
 case makeFunc fn f c=>cases fn<;>rfl
 case call cc=>
  obtain⟨callee,args,ts⟩:=cc;cases callee with
  |builtin b=>cases b<;>rfl
  |value f=>rfl
  |invoke r nm=>rfl
 all_goals rfl
theorem touches_heap{h h':H}{σ:Operand→SV}{op:Op}(he:∀x∈eM P h σ op,qW (h.get x.1) (h'.get x.1) x.2.1 x.2.2):eM P h' σ op=eM P h σ op:=by
 unfold eM at he⊢;split
 ·simp only at he
  split
  ·rename_i l i f hx
   rw[hx]at he;have:=(he _ List.mem_cons_self).1;simp only at this;rw[this]
  ·rfl
 all_goals rfl
end
def gdOk(ops:List Oper)(a:SA)(o:Oper):Prop:=o.guard=none∨∃j want t,o.guard=some (j,want)∧mG ops j=some t∧a.get t=.bool want
def gdNo(ops:List Oper)(a:SA)(o:Oper):Prop:=∃j want t b,o.guard=some (j,want)∧mG ops j=some t∧a.get t=.bool b∧(b==want)=false
def zC(a:SA)(d:Option Nat)(v:SV):Prop:=∀t,d=some t→t<a.n→a.get t=v
def Late(P:Program)(bY:Bool)(ops:List Oper)(a:SA)(h:H)(acc:Acc)(lay:List (Nat×Nat))(x:mZ):Prop:=
 (gdNo ops a x.2.2∧zC a x.2.2.dst iK∧∀l,(x.1,l)∉lay)∨
 (gdOk ops a x.2.2∧cl x.2.2.op=0∧∃σ v cs ls,(∀y∈x.2.2.op.operands,σ y=a.eval y)∧(ev P bY h σ x.2.2.op).go=some v∧zC a x.2.2.dst v∧(x.1,cs,ls)∈acc∧(∀y∈eM P h σ x.2.2.op,y∈cs∧y.1<h.n)∧∀l,(x.1,l)∉lay)∨
 (gdOk ops a x.2.2∧cl x.2.2.op=1∧∃σ so mk l,(∀y∈x.2.2.op.operands,σ y=a.eval y)∧(al P σ x.2.2.op).go=some (so,mk)∧zC a x.2.2.dst (mk l)∧(x.1,l)∈lay∧h.get l=so∧∃cs,(x.1,cs,[l])∈acc)
structure Inv(P:Program)(bY:Bool)(ops:List Oper)(done:List mZ)(a:SA)(h:H)(acc:Acc)(D:Nat→Prop)(lay:List (Nat×Nat))(oU:bF)(h0:H)(w0:World)(ρ:bF)(c:Act)(w:World):Prop where
 sub:∀i,D i→i∈idx done
 eff:∀x∈done,cl x.2.2.op=2→D x.1
 closed:∀x∈done,D x.1→∀e∈edges x.2.2,D e
 an:a.n≤1000
 size:c.tmps.size=a.n
 marks:∀l∈a.marks,∃p,ρ l=some p
 defers:c.defers=a.marks.map fun l=>tH (blk ρ l)
 tm:∀t,(∀x∈done,x.2.2.dst=some t→D x.1)→VR ρ (a.get t) (c.tmps.getD t Go.undef)
 out:∀t,a.n≤t→VR ρ (a.get t) Go.undef
 h6:h.n≤1000000
 hr:HR ρ (cV h (lay.map (·.2))) w
 fr:FR oU h0 w0 ρ (cV h (lay.map (·.2))) w
 lays:∀x∈lay,ρ x.2=none∧h0.n≤x.2∧x.2<h.n∧h.get x.2≠.dead∧¬D x.1∧x.1∈idx done
 nodup:(lay.map (·.2)).Nodup
 nodup1:(lay.map (·.1)).Nodup
 accl:∀y∈acc,∀l∈y.2.2,h0.n≤l
 late:∀x∈done,¬D x.1→Late P bY ops a h acc lay x
theorem SA.eval_congr{a a':SA}{o:Operand}(h:∀t,o=.tmp t→a'.get t=a.get t):a'.eval o=a.eval o:=by
 cases o with
 |tmp t=>exact h t rfl
 |_=>rfl
theorem qD{ops:List Oper}{o:Oper}{t:Nat}(h:(Operand.tmp t)∈o.op.operands):t∈jA ops o:=by
 unfold jA;exact List.mem_append_left _ (List.mem_filterMap.2 ⟨.tmp t,by simpa using h,rfl⟩)
theorem gD{ops:List Oper}{o:Oper}{j t:Nat}{want:Bool}(h:o.guard=some (j,want))(hd:mG ops j=some t):t∈jA ops o:=by
 unfold jA;exact List.mem_append_right _ (by rw[h];simp[hd])
theorem al_live{P:Program}{σ:Operand→SV}{op:Op}{so:SO}{mk:Nat→SV}(hg:(al P σ op).go=some (so,mk)):so≠.dead:=by
 unfold al at hg;split at hg
 ·have:=Out.ret_go hg;injection this with e1 _;rw[←e1];simp
 ·obtain⟨z,_,hg⟩:=Out.bind_go hg
  have:=Out.ret_go hg;injection this with e1 _;rw[←e1];simp
 ·split at hg
  ·split at hg
   ·obtain⟨z,_,hg⟩:=Out.bind_go hg
    obtain⟨z,_,hg⟩:=Out.bind_go hg;have:=Out.ret_go hg;injection this with e1 _;rw[←e1];simp
   ·cases hg
  ·cases hg
 ·split at hg
  ·split at hg
   ·split at hg
    ·obtain⟨_,hg⟩:=Out.all_go hg
     have:=Out.ret_go hg;injection this with e1 _;rw[←e1];simp
    ·cases hg
   ·cases hg
  ·cases hg
 ·have:=Out.ret_go hg;injection this with e1 _;rw[←e1];simp
 ·cases hg
theorem Late.keep{P:Program}{bY:Bool}{ops:List Oper}{a a':SA}{h h':H}{acc kA:Acc}{lay gQ:List (Nat×Nat)}{x:mZ}(hl:Late P bY ops a h acc lay x)
 (hn:a'.n=a.n)(hreads:∀t∈jA ops x.2.2,a'.get t=a.get t)(lO:∀t,x.2.2.dst=some t→a'.get t=a.get t)(hacc:∀y∈acc,y∈kA)(hlay:∀l,(x.1,l)∈lay↔(x.1,l)∈gQ)
 (hh:∀cs ls,(x.1,cs,ls)∈acc→(∀y∈cs,y.1<h.n→qW (h.get y.1) (h'.get y.1) y.2.1 y.2.2)∧∀l∈ls,l<h.n→h'.get l=h.get l)(hhn:h.n≤h'.n)(hlb:∀l,(x.1,l)∈lay→l<h.n):Late P bY ops a' h' kA gQ x:=by
 have hZ:∀{σ:Operand→SV},(∀y∈x.2.2.op.operands,σ y=a.eval y)→∀y∈x.2.2.op.operands,σ y=a'.eval y:=fun hσ y hy=>by
  rw[hσ y hy];exact(SA.eval_congr fun t ht=>hreads t (qD (by rw[←ht];exact hy))).symm
 have hd:∀{v:SV},zC a x.2.2.dst v→zC a' x.2.2.dst v:=fun h t ht cK=>by rw[lO t ht];exact h t ht (by omega)
 have dE:gdOk ops a x.2.2→gdOk ops a' x.2.2:=fun h=>h.imp id fun⟨j,want,t,h1,h2,h3⟩=>⟨j,want,t,h1,h2,by rw[hreads t (gD h1 h2)];exact h3⟩
 rcases hl with⟨⟨j,want,t,b,h1,h2,h3,h4⟩,h5,h9⟩|⟨h1,h2,σ,v,cs,ls,h3,h4,h5,h6,h7,h9⟩|⟨h1,h2,σ,so,mk,l,h3,h4,h5,h6,h7,cs,h8⟩
 ·exact .inl ⟨⟨j,want,t,b,h1,h2,by rw[hreads t (gD h1 h2)];exact h3,h4⟩,hd h5,fun l hl=>h9 l ((hlay l).2 hl)⟩
 ·have hs:=fun y hy=>(hh cs ls h6).1 y (h7 y hy).1 (h7 y hy).2
  refine .inr (.inl ⟨dE h1,h2,σ,v,cs,ls,hZ h3,?_,hd h5,hacc _ h6,fun y hy=>?_,fun l hl=>h9 l ((hlay l).2 hl)⟩)
  ·rw[ev_heap h2 hs]
   exact h4
  ·rw[touches_heap hs]at hy
   exact⟨(h7 y hy).1,by have:=(h7 y hy).2;omega⟩
 ·exact .inr (.inr ⟨dE h1,h2,σ,so,mk,l,hZ h3,h4,hd h5,(hlay l).1 h6,by rw[(hh cs [l] h8).2 l (by simp) (hlb l h6)];exact h7,cs,hacc _ h8⟩)
section
variable{P:Program}{bY:Bool}{ops:List Oper}{pl done rest:List mZ}{a:SA}{h h0:H}{acc:Acc}{D:Nat→Prop}{lay:List (Nat×Nat)}{oU ρ:bF}{w0 w:World}{c:Act}
theorem gJ{x:mZ}{l:List mZ}(h:x∈l):∃pre post,l=pre++x::post:=List.append_of_mem h
theorem DOK.inj(d:DOK ops pl){x y:mZ}(hx:x∈pl)(hy:y∈pl)(he:x.1=y.1):x=y:=by
 obtain⟨pre,post,e1⟩:=gJ hx;rw[e1]at hy;rcases List.mem_append.1 hy with h1|h1
 ·exfalso
  exact(d.at_ pre x post e1).fresh (by rw[he];exact List.mem_map.2 ⟨y,h1,rfl⟩)
 ·rcases List.mem_cons.1 h1 with h2|h2
  ·exact h2.symm
  ·exfalso
   obtain⟨p2,q2,e2⟩:=gJ h2;exact(d.at_ (pre++x::p2) y q2 (by rw[e1,e2];simp)).fresh (by rw[←he];exact List.mem_map.2 ⟨x,by simp,rfl⟩)
theorem Inv.mask(d:DOK ops pl)(dM:pl=done++rest)(iv:Inv P bY ops done a h acc D lay oU h0 w0 ρ c w):∀(k:Nat) (pre:List mZ) (x:mZ) (post:List mZ),pre.length=k→pl=pre++x::post→
 (∀e∈edges x.2.2,D e)→∀j,Nat.testBit x.2.1 j=true→D j:=by
 intro k
 induction k using Nat.strongRecOn with
 |_ k ih=>
  intro pre x post hk he hD j hj;have eo:=d.at_ pre x post he;rcases eo.mask j hj with h1|⟨y,hy,h1,h2⟩
  ·exact hD j h1
  ·have hDy:=hD _ h1
   obtain⟨y',hy',e1⟩:=List.mem_map.1 (eo.edges _ h1);have hy'pl:y'∈pl:=by rw[he];exact List.mem_append_left _ hy'
   have:=d.inj hy'pl hy e1;subst this;obtain⟨p2,q2,e2⟩:=gJ hy';have hyd:y'∈done:=by
    obtain⟨z,hz,ez⟩:=List.mem_map.1 (iv.sub _ hDy);have:=d.inj (by rw[dM];exact List.mem_append_left _ hz) hy'pl ez;rw[←this];exact hz
   exact ih p2.length (by rw[←hk,e2];simp) p2 y' (q2++x::post) rfl (by rw[he,e2];simp) (iv.closed y' hyd hDy) j h2
theorem Inv.read(d:DOK ops pl)(dM:pl=done++rest)(iv:Inv P bY ops done a h acc D lay oU h0 w0 ρ c w){x:mZ}(hx:x∈pl)(hD:∀e∈edges x.2.2,D e):
 (∀t∈jA ops x.2.2,VR ρ (a.get t) (c.tmps.getD t Go.undef))∧∀y∈x.2.2.op.operands,VR ρ (a.eval y) (c.eval y):=by
 obtain⟨pre,post,e1⟩:=gJ hx;have eo:=d.at_ pre x post e1;have h1:∀t∈jA ops x.2.2,VR ρ (a.get t) (c.tmps.getD t Go.undef):=fun t ht=>iv.tm t fun y hy hyd=>
  iv.mask d dM pre.length pre x post rfl e1 hD y.1 (eo.reads t ht y (by rw[dM];exact List.mem_append_left _ hy) hyd)
 refine⟨h1,fun y hy=>?_⟩;have dE:=eo.ok;simp only[dR,Bool.and_eq_true,List.all_eq_true]at dE;have hx:=dE.1 y (by simpa using hy);cases y with
 |tmp t=>exact h1 t (qD hy)
 |const v=>exact ofV_ok hx
 |func f=>simp only[SA.eval,Act.eval,VR];exact⟨#[],#[],rfl,by simp[bM],by simp[bM]⟩
 |global g=>cases hx
end
theorem SA.get_put'{a:SA}{d:Option Nat}{v:SV}(hn:a.n≤1000){t:Nat}(h:d≠some t):(a.put d v).get t=a.get t:=by
 cases d with
 |none=>rfl
 |some s=>
  by_cases hs:s<a.n
  ·rw[SA.get_put hs hn,if_neg (fun e=>h (by rw[e]))]
  ·rw[SA.put_out hs]
theorem SA.get_put_out{a:SA}{d:Option Nat}{v:SV}(hn:a.n≤1000){t:Nat}(h:a.n≤t):(a.put d v).get t=a.get t:=by
 by_cases e:d=some t
 ·subst e;rw[SA.put_out (by omega)]
 ·exact SA.get_put' hn e
theorem sI{a:SA}{d:Option Nat}{v:SV}(hn:a.n≤1000):zC (a.put d v) d v:=by
 intro t hd ht;subst hd;rw[(SA.put_n (a:=a) (t:=some t) (v:=v)).1]at ht;rw[SA.get_put ht hn,if_pos rfl]
theorem cl_le(op:Op):cl op=0∨cl op=1∨cl op=2:=by
 unfold cl;split<;>simp
section
variable{P:Program}{bY:Bool}{ops:List Oper}{pl done rest:List mZ}{a a':SA}{h h0:H}{acc:Acc}{D:Nat→Prop}{lay:List (Nat×Nat)}{oU ρ:bF}{w0 w:World}{c:Act}{x:mZ}
theorem DOK.others(d:DOK ops pl)(dM:pl=done++x::rest){y:mZ}(hy:y∈done){t:Nat}(ht:t∈jA ops y.2.2∨y.2.2.dst=some t):x.2.2.dst≠some t:=by
 obtain⟨p2,q2,e2⟩:=gJ hy;have ey:=d.at_ p2 y (q2++x::rest) (by rw[dM,e2];simp);have ex:=d.at_ done x rest dM;intro hd;rcases ht with ht|ht
 ·have h1:=ey.early _ (ey.reads t ht x (by rw[dM];simp) hd)
  exact ex.fresh (by rw[e2];unfold idx at h1⊢;rw[List.map_append];exact List.mem_append_left _ h1)
 ·exact ey.dst t ht x (by simp) hd
theorem DOK.self(d:DOK ops pl)(dM:pl=done++x::rest){t:Nat}(ht:t∈jA ops x.2.2):x.2.2.dst≠some t:=by
 have ex:=d.at_ done x rest dM;exact fun hd=>ex.fresh (ex.early _ (ex.reads t ht x (by rw[dM];simp) hd))
theorem Inv.notD(d:DOK ops pl)(dM:pl=done++x::rest)(iv:Inv P bY ops done a h acc D lay oU h0 w0 ρ c w):¬D x.1:=fun hD=>(d.at_ done x rest dM).fresh (iv.sub _ hD)
theorem Inv.lbound(iv:Inv P bY ops done a h acc D lay oU h0 w0 ρ c w):∀l∈lay.map (·.2),l≤1000000:=fun l hl=>by
 obtain⟨y,hy,rfl⟩:=List.mem_map.1 hl;have:=(iv.lays y hy).2.2.1;have:=iv.h6;omega
theorem Inv.adv0(d:DOK ops pl)(dM:pl=done++x::rest)(iv:Inv P bY ops done a h acc D lay oU h0 w0 ρ c w){kA:Acc}(nN:cl x.2.2.op≠2)(hn:a'.n=a.n)(hm:a'.marks=a.marks)
 (kX:∀t,x.2.2.dst≠some t→a'.get t=a.get t)(hout:∀t,a.n≤t→a'.get t=a.get t)(hacc:∀y∈acc,y∈kA)(wT:∀y∈kA,∀l∈y.2.2,h0.n≤l)(hl:Late P bY ops a' h kA lay x):Inv P bY ops (done++[x]) a' h kA D lay oU h0 w0 ρ c w where
 sub:=fun i hi=>by unfold idx;rw[List.map_append];exact List.mem_append_left _ (iv.sub i hi)
 eff:=fun y hy hc=>by
  rcases List.mem_append.1 hy with hy|hy
  ·exact iv.eff y hy hc
  ·rw[List.mem_singleton.1 hy]at hc;exact absurd hc nN
 closed:=fun y hy hD=>by
  rcases List.mem_append.1 hy with hy|hy
  ·exact iv.closed y hy hD
  ·rw[List.mem_singleton.1 hy]at hD;exact absurd hD (iv.notD d dM)
 an:=by rw[hn];exact iv.an
 size:=by rw[hn];exact iv.size
 marks:=by rw[hm];exact iv.marks
 defers:=by rw[hm];exact iv.defers
 tm:=fun t ht=>by
  have fS:x.2.2.dst≠some t:=fun e=>iv.notD d dM (ht x (by simp) e)
  rw[kX t fS];exact iv.tm t fun y hy=>ht y (by simp[hy])
 out:=fun t ht=>by rw[hout t (by omega)];exact iv.out t (by omega)
 h6:=iv.h6
 hr:=iv.hr
 fr:=iv.fr
 lays:=fun y hy=>by
  obtain⟨h1,h2,h3,h4,h5,h6⟩:=iv.lays y hy;exact⟨h1,h2,h3,h4,h5,by unfold idx at h6⊢;rw[List.map_append];exact List.mem_append_left _ h6⟩
 nodup:=iv.nodup
 nodup1:=iv.nodup1
 accl:=wT
 late:=fun y hy hD=>by
  rcases List.mem_append.1 hy with hy|hy
  ·exact(iv.late y hy hD).keep hn (fun t ht=>kX t (d.others dM hy (.inl ht))) (fun t ht=>kX t (d.others dM hy (.inr ht))) hacc (fun _=>Iff.rfl) (fun _ _ _=>⟨fun _ _ _=>.refl _ _ _,fun _ _ _=>rfl⟩) (Nat.le_refl _) fun l hl=>(iv.lays _ hl).2.2.1
  ·rw[List.mem_singleton.1 hy];exact hl
theorem Inv.adv1(d:DOK ops pl)(dM:pl=done++x::rest)(iv:Inv P bY ops done a h acc D lay oU h0 w0 ρ c w){kA:Acc}{so:SO}(nN:cl x.2.2.op≠2)(hn:a'.n=a.n)(hm:a'.marks=a.marks)
 (kX:∀t,x.2.2.dst≠some t→a'.get t=a.get t)(hout:∀t,a.n≤t→a'.get t=a.get t)(hacc:∀y∈acc,y∈kA)(wT:∀y∈kA,∀l∈y.2.2,h0.n≤l)(hso:so≠.dead)(h6:h.n<1000000)(hl:Late P bY ops a' (h.new so) kA ((x.1,h.n)::lay) x):
 Inv P bY ops (done++[x]) a' (h.new so) kA D ((x.1,h.n)::lay) oU h0 w0 ρ c w:=by
 have hb:=iv.lbound;have hnn:(h.new so).n=h.n+1:=rfl;have vS:∀l,live (cV (h.new so) (((x.1,h.n)::lay).map (·.2))) l→(cV (h.new so) (((x.1,h.n)::lay).map (·.2))).get l=(cV h (lay.map (·.2))).get l:=by
  intro l eK;unfold live at eK
  rw[dH _ _ _ (by intro z hz;rcases List.mem_cons.1 hz with e|e;·rw[e];show h.n≤1000000;omega
                  ·exact hb z e)]at eK⊢
  split at eK
  ·exact absurd rfl eK
  ·rename_i hni
   rw[if_neg hni,dH _ _ _ hb,if_neg fun e=>hni (by simp at e⊢;exact .inr e)];exact H.get_new_ne fun e=>hni (by simp[e])
 have h0n:h0.n≤h.n:=by have:=iv.fr.n;rw[eZ]at this;exact this
 have xJ:∀m,m<h0.n→(cV (h.new so) (((x.1,h.n)::lay).map (·.2))).get m=(cV h (lay.map (·.2))).get m:=by
  intro m hm
  rw[dH _ _ _ (by intro z hz;rcases List.mem_cons.1 hz with e|e;·rw[e];show h.n≤1000000;omega
                  ·exact hb z e),dH _ _ _ hb,H.get_new_ne (by omega)]
  have:m≠h.n:=by omega
  have hiff:(m∈((x.1,h.n)::lay).map (·.2))↔m∈lay.map (·.2):=by rw[List.map_cons,List.mem_cons];exact⟨fun h=>h.resolve_left this,.inr⟩
  by_cases e:m∈lay.map (·.2)
  ·rw[if_pos (hiff.2 e),if_pos e]
  ·rw[if_neg fun h=>e (hiff.1 h),if_neg e]
 refine⟨fun i hi=>by unfold idx;rw[List.map_append];exact List.mem_append_left _ (iv.sub i hi),fun y hy hc=>?_,fun y hy hD=>?_,by rw[hn];exact iv.an,by rw[hn];exact iv.size,by rw[hm];exact iv.marks,by rw[hm];exact iv.defers,fun t ht=>?_,fun t ht=>(by rw[hout t (by omega)];exact iv.out t (by omega)),by rw[hnn];omega,
  iv.hr.sub (by rw[eZ,eZ,hnn];omega) (by rw[eZ,hnn];omega) vS (by rw[qB,qB];rfl) (by rw[jC,jC];rfl),iv.fr.sub (by rw[eZ,eZ,hnn];omega) vS (by rw[jC,jC];rfl) (by rw[nR,nR];rfl) xJ,fun y hy=>?_,?_,?_,wT,fun y hy hD=>?_⟩
 ·rcases List.mem_append.1 hy with hy|hy
  ·exact iv.eff y hy hc
  ·rw[List.mem_singleton.1 hy]at hc;exact absurd hc nN
 ·rcases List.mem_append.1 hy with hy|hy
  ·exact iv.closed y hy hD
  ·rw[List.mem_singleton.1 hy]at hD;exact absurd hD (iv.notD d dM)
 ·have fS:x.2.2.dst≠some t:=fun e=>iv.notD d dM (ht x (by simp) e)
  rw[kX t fS];exact iv.tm t fun y hy=>ht y (by simp[hy])
 ·rcases List.mem_cons.1 hy with e|hy
  ·subst e
   refine⟨iv.hr.fresh _ (by rw[eZ];exact Nat.le_refl _),by have:=iv.fr.n;rw[eZ]at this;exact this,by rw[hnn];show h.n<h.n+1;omega,?_,iv.notD d dM,by unfold idx;simp⟩;show(h.new so).get h.n≠.dead;rw[H.get_new (by omega)];exact hso
  ·obtain⟨h1,h2,h3,h4,h5,h6⟩:=iv.lays y hy
   exact⟨h1,h2,by rw[hnn];omega,by rw[H.get_new_ne (by omega)];exact h4,h5,by unfold idx at h6⊢;rw[List.map_append];exact List.mem_append_left _ h6⟩
 ·rw[List.map_cons,List.nodup_cons]
  refine⟨fun hm=>?_,iv.nodup⟩;obtain⟨y,hy,he⟩:=List.mem_map.1 hm;have:=(iv.lays y hy).2.2.1;simp only at he;omega
 ·rw[List.map_cons,List.nodup_cons]
  refine⟨fun hm=>?_,iv.nodup1⟩;obtain⟨y,hy,he⟩:=List.mem_map.1 hm;exact(d.at_ done x rest dM).fresh (by rw[←he];exact(iv.lays y hy).2.2.2.2.2)
 ·rcases List.mem_append.1 hy with hy|hy
  ·have fS:y.1≠x.1:=fun e=>(d.at_ done x rest dM).fresh (by rw[←e];exact List.mem_map.2 ⟨y,hy,rfl⟩)
   refine(iv.late y hy hD).keep hn (fun t ht=>kX t (d.others dM hy (.inl ht))) (fun t ht=>kX t (d.others dM hy (.inr ht))) hacc (fun _=>by simp[fS]) (fun _ _ _=>⟨fun y _ cK=>by rw[H.get_new_ne (by omega)];exact .refl _ _ _,fun l _ cK=>H.get_new_ne (by omega)⟩) (by rw[hnn];omega) fun l hl=>(iv.lays _ hl).2.2.1
  ·rw[List.mem_singleton.1 hy];exact hl
theorem Inv.ahead(d:DOK ops pl)(dM:pl=done++x::rest)(iv:Inv P bY ops done a h acc D lay oU h0 w0 ρ c w){K:pY}{res:SA×H}(nN:cl x.2.2.op≠2)(hg:(cL P K bY ops (x::rest) a h acc).go=some res):
 ∃a' h' kA gQ,(cL P K bY ops rest a' h' kA).go=some res∧Inv P bY ops (done++[x]) a' h' kA D gQ oU h0 w0 ρ c w:=by
 obtain⟨i,m,o⟩:=x;simp only at nN;have han:=iv.an;have main:∀(a1:SA) (r:Out (SA×H)),(∀t,a1.get t=a.get t)→a1.n=a.n→a1.marks=a.marks→((gdOk ops a1 o∧r=one P K bY o a1 h)∨(gdNo ops a1 o∧r=.ret (a1.put o.dst iK,h)))→
  (r.bind fun y=>match(eM P h a1.eval o.op).all (fun z=>Nat.blt z.1 y.2.n)&&(qQ h o.op).all fun l=>Nat.blt l y.2.n with
   |true=>cL P K bY ops rest y.1 y.2 ((i,eM P h a1.eval o.op,qQ h o.op)::acc)
   |false=>.fail).go=some res→
  ∃a' h' kA gQ,(cL P K bY ops rest a' h' kA).go=some res∧Inv P bY ops (done++[(i,m,o)]) a' h' kA D gQ oU h0 w0 ρ c w:=by
  intro a1 r e1 e2 e3 hr dZ;have ha1:a1.n≤1000:=by omega
  obtain⟨y,hy,dZ⟩:=Out.bind_go dZ;obtain⟨a',h'⟩:=y;simp only at dZ;split at dZ
  ·rename_i hall0
   have dS:=(Bool.and_eq_true _ _▸hall0:_∧_).1;have h0n:h0.n≤h.n:=by have:=iv.fr.n;rw[eZ]at this;exact this
   have wT:∀(cs:List (Nat×Nat×Nat)),∀y∈(i,cs,qQ h o.op)::acc,∀l∈y.2.2,h0.n≤l:=fun cs y hy l hl=>by
    rcases List.mem_cons.1 hy with e|hy
    ·subst e
     simp only[qQ]at hl;split at hl
     ·simp at hl;omega
     ·simp at hl
    ·exact iv.accl y hy l hl
   have hgetp:∀v t,o.dst≠some t→(a1.put o.dst v).get t=a.get t:=fun v t ht=>by rw[SA.get_put' ha1 ht,e1]
   have jN:∀v,(a1.put o.dst v).n=a.n∧(a1.put o.dst v).marks=a.marks:=fun v=>by
    obtain⟨q1,q2,_⟩:=SA.put_n (a:=a1) (t:=o.dst) (v:=v);exact⟨by omega,by rw[q2,e3]⟩
   have hout:∀v t,a.n≤t→(a1.put o.dst v).get t=a.get t:=fun v t ht=>by rw[SA.get_put_out ha1 (by omega),e1]
   have uE:∀l,(i,l)∉lay:=fun l hl=>(d.at_ done _ rest dM).fresh (iv.lays _ hl).2.2.2.2.2
   have hself:∀v t,t∈jA ops o→(a1.put o.dst v).get t=a1.get t:=fun v t ht=>SA.get_put' ha1 (d.self dM ht)
   have hevs:∀v,∀z∈o.op.operands,a1.eval z=(a1.put o.dst v).eval z:=fun v z hz=>(SA.eval_congr fun t ht=>hself v t (qD (by rw[←ht];exact hz))).symm
   have dE:∀v,gdOk ops a1 o→gdOk ops (a1.put o.dst v) o:=fun v h=>h.imp id fun⟨j,want,t,h1,h2,h3⟩=>⟨j,want,t,h1,h2,by rw[hself v t (gD h1 h2)];exact h3⟩
   rcases hr with⟨hgd,rfl⟩|⟨⟨j,want,t,b,g1,g2,g3,g4⟩,rfl⟩
   ·unfold one at hy
    rcases cl_le o.op with hc|hc|hc
    ·rw[hc]at hy
     obtain⟨v,k1,k2⟩:=Out.bind_go hy;have:=Out.ret_go k2;injection this with q1 q2;subst q1;subst q2;refine⟨_,h,_,lay,dZ,iv.adv0 d dM nN (jN v).1 (jN v).2 (hgetp v) (hout v) (fun y hy=>by simp[hy]) (wT _) (.inr (.inl ⟨dE v hgd,hc,a1.eval,v,_,_,hevs v,k1,sI ha1,List.mem_cons_self,fun l hl=>⟨hl,?_⟩,uE⟩))⟩;exact aF.1 (List.all_eq_true.1 dS l hl)
    ·rw[hc]at hy
     simp only at hy;split at hy
     ·rename_i sG
      obtain⟨z,k1,k2⟩:=Out.bind_go hy;obtain⟨so,mk⟩:=z;have:=Out.ret_go k2;injection this with q1 q2;subst q1;subst q2;have htl:qQ h o.op=[h.n]:=by simp only[qQ,hc]
      rw[htl]at dZ wT;refine⟨_,_,_,_,dZ,iv.adv1 d dM nN (jN _).1 (jN _).2 (hgetp _) (hout _) (fun y hy=>by simp[hy]) (wT _) (al_live k1) (aF.1 sG) (.inr (.inr ⟨dE _ hgd,hc,a1.eval,so,mk,h.n,hevs _,k1,sI ha1,List.mem_cons_self,H.get_new (by have:=aF.1 sG;omega),_,List.mem_cons_self⟩))⟩
     ·cases hy
    ·exact absurd hc nN
   ·have:=Out.ret_go hy
    injection this with q1 q2;subst q1;subst q2;exact⟨_,h,_,lay,dZ,iv.adv0 d dM nN (jN _).1 (jN _).2 (hgetp _) (hout _) (fun y hy=>by simp[hy]) (wT _) (.inl ⟨⟨j,want,t,b,g1,g2,by rw[hself iK t (gD g1 g2)];exact g3,g4⟩,sI ha1,uE⟩)⟩
  ·cases dZ
 unfold cL at hg;have hg':(step P K bY ops o a h fun a' r=>r.bind fun y=>match(eM P h a'.eval o.op).all (fun z=>Nat.blt z.1 y.2.n)&&(qQ h o.op).all fun l=>Nat.blt l y.2.n with
  |true=>cL P K bY ops rest y.1 y.2 ((i,eM P h a'.eval o.op,qQ h o.op)::acc)
  |false=>.fail).go=some res:=by
  rcases cl_le o.op with hc|hc|hc
  ·rw[hc]at hg;exact hg
  ·rw[hc]at hg;exact hg
  ·exact absurd hc nN
 rcases yD hg' with⟨g1,g2⟩|⟨j,want,t,b,g1,g2,g3,g4⟩
 ·exact main a _ (fun _=>rfl) rfl rfl (.inl ⟨.inl g1,rfl⟩) g2
 ·obtain⟨q1,q2,_⟩:=SA.put_n (a:=a) (t:=some t) (v:=.bool b)
  have hgt:∀s,(a.put (some t) (.bool b)).get s=a.get s:=fun s=>by
   by_cases ht:t<a.n
   ·rw[SA.get_put ht han]
    split
    ·rename_i e;rw[e,g3]
    ·rfl
   ·rw[SA.put_out ht]
  refine main _ _ hgt q1 q2 ?_ g4;cases hb:(b==want)
  ·exact .inr ⟨⟨j,want,t,b,g1,g2,by rw[hgt,g3],hb⟩,rfl⟩
  ·exact .inl ⟨.inr ⟨j,want,t,g1,g2,by rw[hgt,g3];simp at hb;rw[hb]⟩,rfl⟩
end
section
variable{ρ oU:bF}{h0 hA hB:H}{w w0:World}
theorem rJ{w:World}{x:Obj}{b:Nat}{o:Obj}(h:w.heap[b]?=some o):(w.heap.push x)[b]?=some o:=by
 rw[Array.getElem?_push_lt (dP h),←h];exact(Array.getElem?_eq_getElem (dP h)).symm
theorem HR.birth{l:Nat}{p:Pl}{so:SO}{x:Obj}(hr:HR ρ hA w)(hAe:hB.A=hA.A)(hRe:hB.R=hA.R)(hn:hB.n=hA.n)(hl:l<hA.n)(nB:ρ l=none)(hg:hB.get l=so)(hs:∀m,m≠l→live hB m→hB.get m=hA.get m)
 (hpb:p.b=w.heap.size)(ho:OR (ρ.upd l p) p {w with heap:=w.heap.push x} so):HR (ρ.upd l p) hB {w with heap:=w.heap.push x}:=by
 have hle:=bF.le_upd (ρ:=ρ) p nB;have hA':∀m,m≠l→live hB m→live hA m:=fun m hm hv=>by unfold live at hv⊢;rw[←hs m hm hv];exact hv
 have back:∀m q,m≠l→(ρ.upd l p) m=some q→ρ m=some q:=fun m q e hq=>by rwa [bF.upd_ne ρ p e]at hq
 have old:∀m q,m≠l→live hB m→(ρ.upd l p) m=some q→q.b<w.heap.size:=fun m q e hm hq=>by
  obtain⟨_,q',h2,h3,_⟩:=hr.at_ m (hA' m e hm);rw[back m q e hq]at h2;injection h2 with h2;rw[h2];exact h3
 refine⟨by rw[hn];exact hr.n,fun m hm=>?_,fun m m' q q' fS hm pZ hq AN=>?_,fun m hm=>?_,?_⟩
 ·by_cases e:m=l
  ·subst e
   exact⟨by omega,p,bF.upd_same _ _ _,by simp[hpb],by rw[hg];exact ho⟩
  ·obtain⟨h1,q,h2,h3,h4⟩:=hr.at_ m (hA' m e hm)
   refine⟨by omega,q,hle _ _ h2,by simp;omega,?_⟩;rw[hs m e hm];exact h4.frame hle (fun cs t fr hb=>⟨cs,rJ hb,rfl,fun _ _ _=>rfl⟩) (fun y hy _ _=>rJ hy)
 ·by_cases e:m=l
  ·have e':m'≠l:=fun x=>fS (by rw[e,x])
   have:=old m' q' e' pZ AN;rw[e,bF.upd_same]at hq;injection hq with hq;subst hq;exact .inl (by omega)
  ·by_cases e':m'=l
   ·have:=old m q e hm hq
    rw[e',bF.upd_same]at AN;injection AN with AN;subst AN;exact .inl (by omega)
   ·rw[hRe];exact hr.apart m m' q q' fS (hA' m e hm) (hA' m' e' pZ) (back m q e hq) (back m' q' e' AN)
 ·rw[bF.upd_ne ρ p (by omega)];exact hr.fresh m (by omega)
 ·refine hr.amb_step hAe rfl (by simp) (fun b hb=>?_) fun b m q hb hm hq e=>?_
  ·have cK:=(hr.amb.2 b hb).1
   rw[Array.getElem?_eq_getElem cK];exact rJ (Array.getElem?_eq_getElem cK)
  ·by_cases e':m=l
   ·rw[e',bF.upd_same]at hq;injection hq with hq;subst hq
    have:=(hr.amb.2 b hb).1;omega
   ·exact(hr.amb.2 b hb).2 m q (hA' m e' hm) (back m q e' hq) e
theorem FR.birth{l:Nat}{p:Pl}{x:Obj}(f:FR oU h0 w0 ρ hA w)(hn:hB.n=hA.n)(hl:h0.n≤l)(nB:ρ l=none)(hs:∀m,m≠l→live hB m→hB.get m=hA.get m)(hpb:p.b=w.heap.size)(hRe:hB.R=hA.R)(hCe:hB.C=hA.C)(xJ:∀m,m<h0.n→hB.get m=hA.get m):
 FR oU h0 w0 (ρ.upd l p) hB {w with heap:=w.heap.push x} where
 le:=f.le.trans (bF.le_upd p nB)
 keep:=fun m hm=>by rw[bF.upd_ne ρ p (by omega)];exact f.keep m hm
 n:=by rw[hn];exact f.n
 size:=by have:=f.size;simp;omega
 cells:=fun b cs t fr hb=>by
  obtain⟨gF,h1,h2,h3⟩:=f.cells b cs t fr hb;exact⟨gF,rJ h1,h2,h3⟩
 others:=fun b o hb hnc ho=>rJ (f.others b o hb hnc ho)
 old:=fun m hm hv=>f.old m hm (by unfold live at hv⊢;rw[←hs m (by omega) hv];exact hv)
 new:=fun m q hm hv hq=>by
  by_cases e:m=l
  ·rw[e,bF.upd_same]at hq;injection hq with hq;subst hq
   exact .inl (by have:=f.size;omega)
  ·exact f.new m q hm (by unfold live at hv⊢;rw[←hs m e hv];exact hv) (by rwa [bF.upd_ne ρ p e]at hq)
 amb:=f.amb
 ro:=hRe.trans f.ro
 ct:=hCe.trans f.ct
 eqc:=fun y hy cK=>by rw[xJ _ cK];exact f.eqc y hy cK
 env:=⟨f.env.os,f.env.tape,f.env.output⟩
end
section
variable{P:Program}{F:Fence}{n:Nat}{Q:Exit→Act→World→Prop}{bY:Bool}{ops:Array Oper}{pl done rest:List mZ}{a:SA}{h h0:H}{acc:Acc}{D:Nat→Prop}{lay:List (Nat×Nat)}{oU ρ:bF}{w0 w:World}{c:Act}{x:mZ}
theorem act_put{a:SA}{c:Act}{d:Option Nat}{u:Value}(hs:c.tmps.size=a.n):(c.put d u).tmps.size=a.n∧(c.put d u).defers=c.defers∧(∀t,d≠some t→(c.put d u).tmps.getD t Go.undef=c.tmps.getD t Go.undef)∧
 (∀t,d=some t→t<a.n→(c.put d u).tmps.getD t Go.undef=u)∧∀t,a.n≤t→(c.put d u).tmps.getD t Go.undef=Go.undef:=by
 have hbig:∀(xs:Array Value) (t:Nat),xs.size≤t→xs.getD t Go.undef=Go.undef:=fun xs t ht=>by
  rw[Array.getD_eq_getD_getElem?,Array.getElem?_eq_none ht];rfl
 cases d with
 |none=>exact⟨hs,rfl,fun _ _=>rfl,fun t h=>(by cases h),fun t ht=>hbig _ _ (by simp only[Act.put];omega)⟩
 |some d=>
  refine⟨by simp[Act.put,hs],rfl,fun t ht=>?_,fun t ht cK=>?_,fun t ht=>hbig _ _ (by simp[Act.put];omega)⟩
  ·simp only[Act.put]
   rw[Array.getD_eq_getD_getElem?,Array.getElem?_setIfInBounds_ne (fun e=>ht (by rw[e])),←Array.getD_eq_getD_getElem?]
  ·injection ht with ht
   subst ht;simp only[Act.put];rw[Array.getD_eq_getD_getElem?,Array.getElem?_setIfInBounds_self_of_lt (by omega)];rfl
def placeOf:SV→List Nat
 |.ptr l _ _=>[l]
 |.slice l _ _ _=>[l]
 |_=>[]
theorem Inv.done_late(d:DOK ops.toList pl)(dM:pl=done++rest)(iv:Inv P bY ops.toList done a h acc D lay oU h0 w0 ρ c w)(hx:x∈done)(hxD:¬D x.1)(hed:∀e∈edges x.2.2,D e){aW:bF}{w':World}{gQ:List (Nat×Nat)}{v:SV}{u:Value}
 (hle:ρ.le aW)(hr:HR aW (cV h (gQ.map (·.2))) w')(fr:FR oU h0 w0 aW (cV h (gQ.map (·.2))) w')(hv:VR aW v u)(hd:zC a x.2.2.dst v)
 (hlay:∀y,y∈gQ↔y∈lay∧y.1≠x.1)(hn2:(gQ.map (·.2)).Nodup)(hn1:(gQ.map (·.1)).Nodup)(hno:∀y∈gQ,aW y.2=none):
 Inv P bY ops.toList done a h acc (fun j=>D j∨j=x.1) gQ oU h0 w0 aW (c.put x.2.2.dst u) w':=by
 obtain⟨p1,p2,p3,p4,p5⟩:=act_put (d:=x.2.2.dst) (u:=u) iv.size;refine⟨fun i hi=>?_,fun y hy hc=>.inl (iv.eff y hy hc),fun y hy hD e he=>?_,iv.an,p1,fun l hl=>?_,?_,fun t ht=>?_,fun t ht=>(iv.out t ht).mono hle,iv.h6,hr,fr,fun y hy=>?_,hn2,hn1,iv.accl,fun y hy hD=>?_⟩
 ·rcases hi with hi|rfl
  ·exact iv.sub i hi
  ·exact List.mem_map.2 ⟨x,hx,rfl⟩
 ·rcases hD with hD|hD
  ·exact .inl (iv.closed y hy hD e he)
  ·have:y=x:=d.inj (by rw[dM];exact List.mem_append_left _ hy) (by rw[dM];exact List.mem_append_left _ hx) hD
   subst this;exact .inl (hed e he)
 ·obtain⟨p,hp⟩:=iv.marks l hl
  exact⟨p,hle _ _ hp⟩
 ·rw[p2,iv.defers]
  refine List.map_congr_left fun l hl=>?_
  obtain⟨p,hp⟩:=iv.marks l hl;rw[yU hle hp]
 ·rcases Nat.lt_or_ge t a.n with cK|wQ
  ·by_cases e:x.2.2.dst=some t
   ·rw[p4 t e cK,hd t e cK];exact hv
   ·rw[p3 t e]
    exact(iv.tm t fun y hy hyd=>(ht y hy hyd).resolve_right fun hyx=>e (by
     have:y=x:=d.inj (by rw[dM];exact List.mem_append_left _ hy) (by rw[dM];exact List.mem_append_left _ hx) hyx;rw[←this];exact hyd)).mono hle
  ·rw[p5 t wQ];exact(iv.out t wQ).mono hle
 ·obtain⟨h1,h2⟩:=(hlay y).1 hy
  obtain⟨g1,g2,g3,g4,g5,g6⟩:=iv.lays y h1;exact⟨hno y hy,g2,g3,g4,fun h3=>h3.elim g5 h2,g6⟩
 ·have hyx:y.1≠x.1:=fun e=>hD (.inr e)
  exact(iv.late y hy fun h3=>hD (.inl h3)).keep rfl (fun _ _=>rfl) (fun _ _=>rfl) (fun _ h=>h) (fun l=>by rw[hlay];simp[hyx]) (fun _ _ _=>⟨fun _ _ _=>.refl _ _ _,fun _ _ _=>rfl⟩) (Nat.le_refl _) fun l hl=>(iv.lays _ hl).2.2.1
theorem iL{α β:Type}(f:α→β)(p:α→Bool):∀(l:List α),(l.map f).Nodup→((l.filter p).map f).Nodup
 |[],_=>by simp
 |x::l,h=>by
  rw[List.map_cons,List.nodup_cons]at h;rw[List.filter_cons];split
  ·rw[List.map_cons,List.nodup_cons]
   exact⟨fun hm=>h.1 (by
    obtain⟨y,hy,he⟩:=List.mem_map.1 hm;exact List.mem_map.2 ⟨y,(List.mem_filter.1 hy).1,he⟩),iL f p l h.2⟩
  ·exact iL f p l h.2
theorem nodup_snd{l:List (Nat×Nat)}(h:(l.map (·.2)).Nodup){a b m:Nat}(h1:(a,m)∈l)(h2:(b,m)∈l):a=b:=by
 induction l with
 |nil=>simp at h1
 |cons y l ih=>
  rw[List.map_cons,List.nodup_cons]at h;rcases List.mem_cons.1 h1 with e1|h1<;>rcases List.mem_cons.1 h2 with e2|h2
  ·rw[←e1]at e2;injection e2 with e2 _;exact e2.symm
  ·exact absurd (List.mem_map.2 ⟨_,h2,by rw[←e1]⟩) h.1
  ·exact absurd (List.mem_map.2 ⟨_,h1,by rw[←e2]⟩) h.1
  ·exact ih h.2 h1 h2
theorem nodup_fst{l:List (Nat×Nat)}(h:(l.map (·.1)).Nodup){a b m:Nat}(h1:(m,a)∈l)(h2:(m,b)∈l):a=b:=by
 induction l with
 |nil=>simp at h1
 |cons y l ih=>
  rw[List.map_cons,List.nodup_cons]at h;rcases List.mem_cons.1 h1 with e1|h1<;>rcases List.mem_cons.1 h2 with e2|h2
  ·rw[←e1]at e2;injection e2 with _ e2;exact e2.symm
  ·exact absurd (List.mem_map.2 ⟨_,h2,by rw[←e1]⟩) h.1
  ·exact absurd (List.mem_map.2 ⟨_,h1,by rw[←e2]⟩) h.1
  ·exact ih h.2 h1 h2
theorem Inv.exec(T:TOK P)(hF:FOK F)(d:DOK ops.toList pl)(dM:pl=done++rest)(iv:Inv P bY ops.toList done a h acc D lay oU h0 w0 ρ c w)(hx:x∈done)(hxD:¬D x.1)(hed:∀e∈edges x.2.2,D e){K:Act→World→Prop}
 (hK:∀gQ aW c' w',Inv P bY ops.toList done a h acc (fun j=>D j∨j=x.1) gQ oU h0 w0 aW c' w'→K c' w'):wpOpIn F n P ops Q x.1 K c w:=by
 have hxpl:x∈pl:=by rw[dM];exact List.mem_append_left _ hx
 obtain⟨hrd,hZ⟩:=iv.read d dM hxpl hed;have hop:ops[x.1]?=some x.2.2:=by simpa using d.op x hxpl
 have dE:dR x.2.2.op=true:=by
  obtain⟨pre,post,e⟩:=gJ hxpl;exact(d.at_ pre x post e).ok
 have yV:x.2.2.semAt F.round c.eval=execOp c.eval x.2.2:=Oper.semAt_eq _ _ _ fun cc hc=>by rw[hc]at dE;simp[dR]at dE
 have hund:VR ρ iK Go.undef:=by simp[iK,VR,Go.undef,bM]
 unfold wpOpIn;simp only[hop];have hw:gdOk ops.toList a x.2.2→Region.wanted x.2.2 (yielded ops c.tmps)=true:=by
  rintro(h1|⟨j,want,t,h1,h2,h3⟩)
  ·exact iA h1
  ·rw[iB h1 h2 h3 (hrd t (gD h1 h2))];simp
 rcases iv.late x hx hxD with⟨⟨j,want,t,b,h1,h2,h3,h4⟩,h5,h6⟩|⟨h1,h2,σ,v,cs,ls,h3,h4,h5,h6,h7,h8⟩|⟨h1,h2,σ,so,mk,l,h3,h4,h5,h6,h7,_,h8⟩
 ·rw[iB h1 h2 h3 (hrd t (gD h1 h2)),h4,if_neg (by simp)]
  refine⟨fun f _=>hF.fn f,hK lay ρ _ w (iv.done_late d dM hx hxD hed (.refl _) iv.hr iv.fr hund h5 (fun y=>?_) iv.nodup iv.nodup1 fun y hy=>(iv.lays y hy).1)⟩;exact⟨fun hy=>⟨hy,fun e=>h6 y.2 (by rw[←e];exact hy)⟩,fun hy=>hy.1⟩
 ·rw[hw h1,if_pos rfl]
  have hbound:=iv.lbound;have hkill:∀y∈eM P h σ x.2.2.op,(cV h (lay.map (·.2))).get y.1=h.get y.1:=fun y hl=>by
   rw[dH _ _ _ hbound,if_neg];intro hm;obtain⟨z,hz,e⟩:=List.mem_map.1 hm;have hnone:=(iv.lays z hz).1;rw[e]at hnone;have:∃o∈x.2.2.op.operands,y.1∈placeOf (σ o):=by
    unfold eM at hl;split at hl
    ·rename_i t o heq
     refine⟨o,by rw[heq];simp[Op.operands],?_⟩;split at hl
     ·rename_i l' i f he;rw[he];simp at hl;subst hl;simp[placeOf]
     ·simp at hl
    ·rename_i t o lo hi mx heq
     refine⟨o,by rw[heq];simp[Op.operands],?_⟩;split at hl
     ·rename_i l' i f he;rw[he];simp at hl;subst hl;simp[placeOf]
     ·rename_i l' i f c he;rw[he];simp at hl;subst hl;simp[placeOf]
     ·simp at hl
    ·rename_i t o j heq
     refine⟨o,by rw[heq];simp[Op.operands],?_⟩;split at hl
     ·rename_i l' i n c he;rw[he];simp at hl;subst hl;simp[placeOf]
     ·simp at hl
    ·simp at hl
   obtain⟨o,ho,hlo⟩:=this;have hvo:=hZ o ho;rw[←h3 o ho]at hvo;cases hs:σ o with
   |ptr l' i f=>
    rw[hs]at hlo hvo;simp[placeOf]at hlo;subst hlo;simp only[VR]at hvo;obtain⟨p,hp,_⟩:=hvo;rw[hp]at hnone;cases hnone
   |slice l' i n' c'=>
    rw[hs]at hlo hvo;simp[placeOf]at hlo;subst hlo;simp only[VR]at hvo;obtain⟨_,_,_,_,_,_,p,hp,_⟩:=hvo;rw[hp]at hnone;cases hnone
   |_=>rw[hs]at hlo;simp[placeOf]at hlo
  have hev':(ev P bY (cV h (lay.map (·.2))) σ x.2.2.op).go=some v:=by rw[ev_heap (h:=h) h2 fun y hy=>by rw[hkill y hy];exact .refl _ _ _];exact h4
  obtain⟨u,r1,r2⟩:=ev_ok (w:=w) T hev' iv.hr fun y hy=>by rw[h3 y hy];exact hZ y hy
  refine⟨fun f _=>hF.fn f,?_⟩;rw[yV,r1,Oper.uponIn_value];refine hK lay ρ _ w (iv.done_late d dM hx hxD hed (.refl _) iv.hr iv.fr r2 h5 (fun y=>?_) iv.nodup iv.nodup1 fun y hy=>(iv.lays y hy).1);exact⟨fun hy=>⟨hy,fun e=>h8 y.2 (by rw[←e];exact hy)⟩,fun hy=>hy.1⟩
 ·rw[hw h1,if_pos rfl]
  obtain⟨g1,g2,g3,g4,_,_⟩:=iv.lays _ h6;simp only at g1 g2 g3;obtain⟨obj,p,u,r1,r2,r3,r4,r5⟩:=al_ok (w:=w) (lc:=l) T h4 g1 fun y hy=>by rw[h3 y hy];exact hZ y hy
  have hbound:=iv.lbound;let gQ:=lay.filter fun y=>!Nat.beq y.1 x.1
  have hmem:∀y,y∈gQ↔y∈lay∧y.1≠x.1:=fun y=>by
   simp only[gQ,List.mem_filter];refine and_congr_right fun _=>?_
   cases hbq:Nat.beq y.1 x.1
   ·simp;intro e;rw[e]at hbq;simp at hbq
   ·simp;exact Nat.eq_of_beq_eq_true hbq
  have pT:∀z∈gQ.map (·.2),z≤1000000:=fun z hz=>by
   obtain⟨y,hy,rfl⟩:=List.mem_map.1 hz;exact hbound _ (List.mem_map.2 ⟨y,((hmem y).1 hy).1,rfl⟩)
  have kX:(cV h (gQ.map (·.2))).get l=so:=by
   rw[dH _ _ _ pT,if_neg,h7];intro hm;obtain⟨y,hy,e⟩:=List.mem_map.1 hm;obtain⟨y1,y2⟩:=(hmem y).1 hy;have h6':(x.1,y.2)∈lay:=by rw[e];exact h6
   exact y2 (nodup_snd iv.nodup (m:=y.2) (by exact y1) h6')
  have hoth:∀m,m≠l→live (cV h (gQ.map (·.2))) m→(cV h (gQ.map (·.2))).get m=(cV h (lay.map (·.2))).get m:=fun m hm hv=>by
   unfold live at hv;rw[dH _ _ _ pT]at hv⊢;rw[dH _ _ _ hbound];split at hv
   ·exact absurd rfl hv
   ·rename_i hni
    rw[if_neg hni,if_neg];intro hm2;obtain⟨y,hy,e⟩:=List.mem_map.1 hm2;by_cases e2:y.1=x.1
    ·exact hm (by rw[←e];exact nodup_fst iv.nodup1 (m:=x.1) (by rw[←e2];exact hy) h6)
    ·exact hni (List.mem_map.2 ⟨y,(hmem y).2 ⟨hy,e2⟩,e⟩)
  have xJ:∀m,m<h0.n→(cV h (gQ.map (·.2))).get m=(cV h (lay.map (·.2))).get m:=fun m hm=>by
   have no:∀L:List (Nat×Nat),(∀y∈L,y∈lay)→m∉L.map (·.2):=fun L hL hm2=>by
    obtain⟨y,hy,e⟩:=List.mem_map.1 hm2;have:=(iv.lays y (hL y hy)).2.1;omega
   rw[dH _ _ _ pT,dH _ _ _ hbound,if_neg (no _ fun y hy=>((hmem y).1 hy).1),if_neg (no _ fun _ h=>h)]
  have hr':=iv.hr.birth (hB:=cV h (gQ.map (·.2))) (by rw[qB,qB]) (by rw[jC,jC]) (by rw[eZ,eZ]) (by rw[eZ];exact g3) g1 kX hoth r2 r4;have fr':=iv.fr.birth (hB:=cV h (gQ.map (·.2))) (x:=obj) (by rw[eZ,eZ]) g2 g1 hoth r2 (by rw[jC,jC]) (by rw[nR,nR]) xJ;refine⟨fun f _=>hF.fn f,?_⟩;rw[yV,r1,Oper.uponIn_value];refine hK gQ _ _ _ (iv.done_late d dM hx hxD hed (bF.le_upd p g1) hr' fr' r5 h5 hmem (iL _ _ _ iv.nodup) (iL _ _ _ iv.nodup1) fun y hy=>?_);obtain⟨y1,y2⟩:=(hmem y).1 hy;rw[bF.upd_ne ρ p]
  ·exact(iv.lays y y1).1
  ·intro e
   have h6':(x.1,y.2)∈lay:=by rw[e];exact h6
   exact y2 (nodup_snd iv.nodup (m:=y.2) (by exact y1) h6')
end
end Go.Proofs.YtnkcbfgfkadoaaaGreat.Sx
