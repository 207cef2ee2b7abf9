/- Part 10 of the proof of TopPeek. -/
import Derived.Test.YtnkcbfgfkadoaaaGreatX9
set_option linter.all false
namespace Go.Proofs.YtnkcbfgfkadoaaaGreat.Sx
open Go
def SO.lives:SO→Bool
 |.dead=>false
 |_=>true
theorem SO.lives_iff{o:SO}:o.lives=true↔o≠.dead:=by cases o<;>simp[SO.lives]
theorem sY{l:List SO}{R:List Nat}(h:l.length≤1000000):(aT l R).n=l.length:=mk_n h
theorem sL{l:List SO}{R:List Nat}(h:l.length≤1000000)(i:Nat):(aT l R).get i=l.getD i .dead:=mk_get h i
theorem mkR_A{l:List SO}{R:List Nat}(h:l.length≤1000000):(aT l R).A=fun _ _=>True:=mk_A h
theorem foldl_C:∀(l:List SO) (h:H),(l.foldl H.new h).C=h.C
 |[],_=>rfl
 |o::l,h=>by show(l.foldl H.new (h.new o)).C=_;rw[foldl_C l];rfl
theorem mkR_C{l:List SO}{R:List Nat}:(aT l R).C=[]:=foldl_C l _
theorem vV{l:List SO}{R:List Nat}(h:l.length≤1000000){i:Nat}(hi:live (aT l R) i):i<l.length:=by
 unfold live at hi;rw[sL h,List.getD_eq_getElem?_getD]at hi;rcases Nat.lt_or_ge i l.length with h1|h1
 ·exact h1
 ·rw[List.getElem?_eq_none h1]at hi;exact absurd rfl hi
def eU(R:List Nat)(l:List SO):Bool:=(List.range l.length).all fun i=>R.contains i||(l.getD i .dead).lives
theorem mJ{l:List SO}{R:List Nat}(h:l.length≤1000000)(hl:eU R l=true){i:Nat}(hi:i<l.length)(hR:i∉R):live (aT l R) i:=by
 unfold live;rw[sL h];have:=List.all_eq_true.1 hl i (by simpa using hi);rw[Bool.or_eq_true]at this;exact SO.lives_iff.1 (this.resolve_left (by simpa using hR))
def nm(ns:List Nat)(l:Nat):Nat:=ns.getD l (1000000+l)
def jI(h:H)(r:Nat→Nat)(R:List Nat)(i n:Nat)(o:SO):Prop:=match R.contains i with
 |true=>(o≠.dead→live h n)∧∀(ρ:bF) (p:Pl) (w:World),OR ρ p w (h.get n)→OR (ρ.via r) p w o
 |false=>okK h n=true∧Wk (h.get n) (o.ren r)∧o.plain=true
def pB(h:H)(r:Nat→Nat)(R:List Nat):Nat→List Nat→List SO→Prop
 |i,n::ns,o::os=>n<h.n∧jI h r R i n o∧pB h r R (i+1) ns os
 |_,[],[]=>True
 |_,_,_=>False
theorem pB.at_{h:H}{r:Nat→Nat}{R:List Nat}:∀{ns:List Nat} {os:List SO} {i:Nat},pB h r R i ns os→ns.length=os.length∧∀j n o,ns[j]?=some n→os[j]?=some o→n<h.n∧jI h r R (i+j) n o
 |[],[],_,_=>⟨rfl,fun j n o h=>by simp at h⟩
 |n::ns,o::os,i,h=>by
  obtain⟨h1,h3,h4⟩:=h;obtain⟨g1,g3⟩:=pB.at_ h4;refine⟨by simp[g1],fun j n' o' hn ho=>?_⟩;cases j with
  |zero=>simp at hn ho;subst hn;subst ho;exact⟨h1,h3⟩
  |succ j=>
   have:=g3 j n' o' (by simpa using hn) (by simpa using ho)
   rwa [show i+1+j=i+(j+1) by omega]at this
 |[],_::_,_,h=>h.elim
 |_::_,[],_,h=>h.elim
def aQ:List Nat→List SO→List Nat
 |n::ns,o::os=>match o.lives with
  |true=>n::aQ ns os
  |false=>aQ ns os
 |_,_=>[]
theorem zF:∀{ns:List Nat} {os:List SO} {i n:Nat} {o:SO},ns[i]?=some n→os[i]?=some o→o≠.dead→n∈aQ ns os
 |[],_,_,_,_,h,_,_=>by simp at h
 |_::_,[],_,_,_,_,h,_=>by simp at h
 |m::ns,p::os,i,n,o,h1,h2,h3=>by
  unfold aQ;cases i with
  |zero=>
   simp at h1 h2;subst h1;subst h2;have h3':=SO.lives_iff.2 h3;simp[h3']
  |succ i=>
   have:=zF (ns:=ns) (os:=os) (by simpa using h1) (by simpa using h2) h3;split
   ·exact List.mem_cons_of_mem _ this
   ·exact this
theorem livesN_at:∀{ns:List Nat} {os:List SO} {i j n:Nat} {o o':SO},(aQ ns os).Nodup→ns[i]?=some n→ns[j]?=some n→os[i]?=some o→os[j]?=some o'→o≠.dead→o'≠.dead→i=j
 |[],_,_,_,_,_,_,_,h,_,_,_,_,_=>by simp at h
 |_::_,[],_,_,_,_,_,_,_,_,h,_,_,_=>by simp at h
 |m::ns,p::os,i,j,n,o,o',hd,h1,h2,h3,h4,h5,h6=>by
  have hd':(aQ ns os).Nodup:=by
   unfold aQ at hd;split at hd
   ·exact(List.nodup_cons.1 hd).2
   ·exact hd
  have no:∀{k:Nat} {q:SO},ns[k]?=some n→os[k]?=some q→q≠.dead→m=n→p≠.dead→False:=fun a b c e hp=>by
   have pV:=SO.lives_iff.2 hp;simp only[aQ,pV]at hd;exact(List.nodup_cons.1 hd).1 (by rw[e];exact zF a b c)
  cases i<;>cases j
  ·rfl
  ·simp at h1 h3
   subst h3;exact(no (by simpa using h2) (by simpa using h4) h6 h1 h5).elim
  ·simp at h2 h4
   subst h4;exact(no (by simpa using h1) (by simpa using h3) h5 h2 h6).elim
  ·rename_i i j
   have:=livesN_at (i:=i) (j:=j) (n:=n) (o:=o) (o':=o') hd' (by simpa using h1) (by simpa using h2) (by simpa using h3) (by simpa using h4) h5 h6;rw[this]
theorem dF:∀{ns:List Nat} {os:List SO},ns.Nodup→(aQ ns os).Nodup
 |[],_,_=>by simp[aQ]
 |_::_,[],_=>by simp[aQ]
 |m::ns,p::os,hd=>by
  rw[List.nodup_cons]at hd;have sub:∀(ns:List Nat) (os:List SO) (x:Nat),x∈aQ ns os→x∈ns:=by
   intro ns
   induction ns with
   |nil=>intro os x h;simp[aQ]at h
   |cons n ns ih=>
    intro os x h;cases os with
    |nil=>simp[aQ]at h
    |cons o os=>
     unfold aQ at h;split at h
     ·rcases List.mem_cons.1 h with e|h
      ·simp[e]
      ·exact List.mem_cons_of_mem _ (ih os x h)
     ·exact List.mem_cons_of_mem _ (ih os x h)
  unfold aQ;split
  ·rw[List.nodup_cons]
   exact⟨fun h=>hd.1 (sub _ _ _ h),dF hd.2⟩
  ·exact dF hd.2
theorem aX{h:H}{ns:List Nat}{os:List SO}{R:List Nat}(hf:pB h (nm ns) R 0 ns os)(hd:(aQ ns os).Nodup)(hn:os.length≤1000)(h6:h.n≤1000000):Fit h (aT os R) (nm ns):=by
 obtain⟨h1,h3⟩:=hf.at_;have hl:os.length≤1000000:=by omega
 have look:∀l,l<os.length→∃n o,ns[l]?=some n∧os[l]?=some o∧nm ns l=n∧(aT os R).get l=o:=fun l cK=>by
  refine⟨ns[l]'(by omega),os[l],List.getElem?_eq_getElem _,List.getElem?_eq_getElem cK,?_,?_⟩
  ·unfold nm;rw[List.getD_eq_getElem?_getD,List.getElem?_eq_getElem (by omega)];rfl
  ·rw[sL hl,List.getD_eq_getElem?_getD,List.getElem?_eq_getElem cK];rfl
 have lv:∀l,live (aT os R) l→l<os.length:=fun l h=>vV hl h
 refine⟨by rw[sY hl];exact hl,mkR_A hl,mkR_C,fun l cK=>?_,fun l wQ=>?_,fun l eK hR=>?_,fun l hR eK=>?_,fun l eK=>?_,fun l l' eK hlv' e=>?_⟩
 ·rw[sY hl]at cK
  obtain⟨n,o,a,b,c,d⟩:=look l cK;rw[c];exact(h3 l n o a b).1
 ·rw[sY hl]at wQ
  unfold nm;rw[List.getD_eq_getElem?_getD,List.getElem?_eq_none (by omega)];show _≤1000000+l;omega
 ·obtain⟨n,o,a,b,c,d⟩:=look l (lv l eK)
  have:=(h3 l n o a b).2;rw[Nat.zero_add]at this;have hc:R.contains l=false:=by
   cases hx:R.contains l
   ·rfl
   ·exact absurd (show l∈R by simpa using hx) hR
  unfold jI at this;rw[hc]at this;obtain⟨g1,g2,g3⟩:=this;obtain⟨k1,k2⟩:=vO g1;rw[c,d];exact⟨k1,k2,g2,g3⟩
 ·obtain⟨n,o,a,b,c,d⟩:=look l (lv l eK)
  have:=(h3 l n o a b).2;rw[Nat.zero_add]at this;have hc:R.contains l=true:=by
   have:l∈R:=hR;simpa using this
  unfold jI at this;rw[hc]at this;rw[c,d];exact⟨this.1 (by rw[←d];exact eK),this.2⟩
 ·rw[sY hl];exact lv l eK
 ·obtain⟨n,o,a,b,c,d⟩:=look l (lv l eK)
  obtain⟨n',o',a',b',c',d'⟩:=look l' (lv l' hlv');rw[c,c']at e;subst e;exact livesN_at hd a a' b b' (by rw[←d];exact eK) (by rw[←d'];exact hlv')
def fO(k:Nat)(R:List Nat)(n:Nat)(ls:List Nat):Bool:=decide (ls.Nodup)&&(List.range k).all (fun i=>R.contains i||ls.contains i)&&ls.all (fun l=>Nat.blt l n&&!R.contains l)&&Nat.ble k n&&Nat.ble k 1000
def nx(b k:Nat)(j:List Nat)(ns:List Nat)(l:Nat):Nat:=if l<k then nm ns l else b+oI j (l-k)
def laid(q:Nat→Nat)(ls:List Nat)(os:List SO):List (Nat×SO):=(ls.zip os).map fun x=>(q x.1,x.2.ren q)
section
variable{P:Program}{S:cI}{h s':H}{objs os oV:List SO}{R ns ls:List Nat}{n K:Nat}{j:List Nat}{ρ uI:bF}{w w':World}
def rN:List SO→List SO→Prop
 |[],[]=>True
 |o::os,o'::oV=>Wk o o'∧rN os oV
 |_,_=>False
theorem rN.refl:∀os:List SO,rN os os
 |[]=>trivial
 |o::os=>⟨.refl o,rN.refl os⟩
theorem nV(hwk:rN oV os)(ft:Fit h (aT objs R) (nm ns))(eK:eU R objs=true)(mK:fO objs.length R n ls=true)(dM:os.all SO.plain=true)(hK:n-objs.length≤K)(hj:∀i∈j,i<n-objs.length)(h6:h.n+K≤1000000)(hr:HR ρ h w)(hr':HR uI s' w')(f:FR (ρ.via (nm ns)) (aT objs R) w uI s' w')
 (hn:s'.n=n)(nD:ls.map s'.get=oV):
 HR (ext h (aT objs R) j ρ uI) (h.lay K (laid (nx h.n objs.length j ns) ls os)) w'∧FR ρ h w (ext h (aT objs R) j ρ uI) (h.lay K (laid (nx h.n objs.length j ns) ls os)) w'∧Nm uI (nx h.n objs.length j ns) (ext h (aT objs R) j ρ uI):=by
 simp only[fO,Bool.and_eq_true,decide_eq_true_eq]at mK;obtain⟨⟨⟨⟨l1,l2⟩,l3⟩,l4⟩,l5⟩:=mK;have l4:=Nat.le_of_ble_eq_true l4;have l5:=Nat.le_of_ble_eq_true l5;have hl:objs.length≤1000000:=by omega
 have hsn:(aT objs R).n=objs.length:=sY hl;have hq:nxt h (aT objs R) j (nm ns)=nx h.n objs.length j ns:=by funext l;unfold nxt nx;rw[hsn]
 have wlen:∀(a b:List SO),rN a b→a.length=b.length:=by
  intro a
  induction a with
  |nil=>intro b h;cases b<;>first|rfl|exact h.elim
  |cons x a ih=>intro b h;cases b<;>first|exact h.elim|(simp only[List.length_cons];rw[ih _ h.2])
 have hlen:ls.length=os.length:=by rw[←wlen _ _ hwk,←nD,List.length_map]
 have hfst:(ls.zip os).map (·.1)=ls:=List.map_fst_zip (by omega);have key:=ft.lift (os:=ls.zip os) (k:=n-objs.length) hr hr' f (by rw[hn,hsn];omega) hK hj h6 (by rw[hfst];exact l1) (fun l eK hR=>?_) (fun x hx=>?_)
 ·rw[hq]at key
  refine⟨key.1,key.2,?_⟩;rw[←hq];exact ft.nm (j:=j) hr f
 ·rw[hfst]
  have:=List.all_eq_true.1 l2 l (by simpa using vV hl eK);rw[Bool.or_eq_true]at this;rcases this with h1|h1
  ·exact absurd (show l∈R by simpa using h1) hR
  ·simpa using h1
 ·have hm1:x.1∈ls:=(List.of_mem_zip hx).1
  have hm2:x.2∈os:=(List.of_mem_zip hx).2;have h3:=List.all_eq_true.1 l3 x.1 hm1;rw[Bool.and_eq_true]at h3;have hxR:x.1∉R:=fun hR=>by
   have:R.contains x.1=true:=by simpa using hR
   rw[this]at h3;cases h3.2
  refine⟨by rw[hn];exact aF.1 h3.1,hxR,fun cK=>mJ hl eK (by rw[hsn]at cK;exact cK) hxR,?_,List.all_eq_true.1 dM _ hm2⟩;have:∀(ls:List Nat) (os oV:List SO),ls.map s'.get=oV→rN oV os→x∈ls.zip os→Wk (s'.get x.1) x.2:=by
   intro ls
   induction ls with
   |nil=>intro os _ _ _ hx;simp at hx
   |cons l ls ih=>
    intro os oV ho hw hx;cases os with
    |nil=>simp at hx
    |cons o os=>
     cases oV with
     |nil=>exact hw.elim
     |cons o' oV=>
      simp only[List.map_cons,List.cons.injEq]at ho;rcases List.mem_cons.1 hx with e|hx
      ·rw[e,ho.1];exact hw.1
      ·exact ih os oV ho.2 hw.2 hx
  exact this ls os oV nD hwk hx
theorem zG(ft:Fit h (aT objs R) (nm ns))(eK:eU R objs=true)(mK:fO objs.length R n ls=true)(hK:n-objs.length≤K)(hj:∀i∈j,i<n-objs.length)(h6:h.n+K≤1000000)(hlen:ls.length=os.length):
 (∀(i l:Nat) (o:SO),ls[i]?=some l→os[i]?=some o→(h.lay K (laid (nx h.n objs.length j ns) ls os)).get (nx h.n objs.length j ns l)=o.ren (nx h.n objs.length j ns))∧
 (∀m,(∀l∈ls,nx h.n objs.length j ns l≠m)→(h.lay K (laid (nx h.n objs.length j ns) ls os)).get m=h.get m)∧
 (∀l∈ls,l<n∧l∉R∧(l<objs.length→nx h.n objs.length j ns l=nm ns l∧nm ns l<h.n)∧(objs.length≤l→nx h.n objs.length j ns l=h.n+oI j (l-objs.length)∧oI j (l-objs.length)<n-objs.length)):=by
 simp only[fO,Bool.and_eq_true,decide_eq_true_eq]at mK;obtain⟨⟨⟨⟨l1,l2⟩,l3⟩,l4⟩,l5⟩:=mK;have l4:=Nat.le_of_ble_eq_true l4;have l5:=Nat.le_of_ble_eq_true l5;have hl:objs.length≤1000000:=by omega
 have hsn:(aT objs R).n=objs.length:=sY hl;have base:∀l∈ls,l<n∧l∉R∧(l<objs.length→nx h.n objs.length j ns l=nm ns l∧nm ns l<h.n)∧(objs.length≤l→nx h.n objs.length j ns l=h.n+oI j (l-objs.length)∧oI j (l-objs.length)<n-objs.length):=fun l hm=>by
  have h3:=List.all_eq_true.1 l3 l hm;rw[Bool.and_eq_true]at h3;have cK:=aF.1 h3.1;have hxR:l∉R:=fun hR=>by
   have:R.contains l=true:=by simpa using hR
   rw[this]at h3;cases h3.2
  refine⟨cK,hxR,fun hk=>⟨by unfold nx;rw[if_pos hk],ft.low l (by rw[hsn];exact hk)⟩,fun hk=>⟨by unfold nx;rw[if_neg (by omega)],rots_lt j (by omega) hj⟩⟩
 have qinj:∀l∈ls,∀l'∈ls,nx h.n objs.length j ns l=nx h.n objs.length j ns l'→l=l':=fun l hm l' pZ e=>by
  obtain⟨a1,a2,a3,a4⟩:=base l hm;obtain⟨b1,b2,b3,b4⟩:=base l' pZ;rcases Nat.lt_or_ge l objs.length with h1|h1<;>rcases Nat.lt_or_ge l' objs.length with h2|h2
  ·rw[(a3 h1).1,(b3 h2).1]at e
   exact ft.inj _ _ (mJ hl eK h1 a2) (mJ hl eK h2 b2) e
  ·rw[(a3 h1).1,(b4 h2).1]at e;have:=(a3 h1).2;omega
  ·rw[(a4 h1).1,(b3 h2).1]at e;have:=(b3 h2).2;omega
  ·rw[(a4 h1).1,(b4 h2).1]at e;have:=uH (Nat.add_left_cancel e);omega
 have hfst:(laid (nx h.n objs.length j ns) ls os).map (·.1)=ls.map (nx h.n objs.length j ns):=by
  unfold laid;rw[List.map_map];have:((fun x=>x.1)∘fun(x:Nat×SO)=>(nx h.n objs.length j ns x.1,x.2.ren (nx h.n objs.length j ns)))=(nx h.n objs.length j ns)∘(·.1):=rfl;rw[this,←List.map_map,List.map_fst_zip (by omega)]
 have kO:((laid (nx h.n objs.length j ns) ls os).map (·.1)).Nodup:=by
  rw[hfst];have:∀(l:List Nat),l.Nodup→(∀a∈l,∀b∈l,nx h.n objs.length j ns a=nx h.n objs.length j ns b→a=b)→(l.map (nx h.n objs.length j ns)).Nodup:=by
   intro l
   induction l with
   |nil=>intro _ _;simp
   |cons a l ih=>
    intro hd hi;rw[List.map_cons,List.nodup_cons]at*;refine⟨fun hm=>?_,ih hd.2 fun b hb c hc=>hi b (by simp[hb]) c (by simp[hc])⟩;obtain⟨b,hb,e⟩:=List.mem_map.1 hm;have:=hi b (by simp[hb]) a (by simp) e;exact hd.1 (by rw[←this];exact hb)
  exact this ls l1 qinj
 refine⟨fun i l o h1 h2=>?_,fun m hm=>?_,base⟩
 ·refine oJ _ h _ _ kO (fun x hx=>?_) ?_
  ·have:x.1∈(laid (nx h.n objs.length j ns) ls os).map (·.1):=List.mem_map.2 ⟨x,hx,rfl⟩
   rw[hfst]at this;obtain⟨l',hl',e⟩:=List.mem_map.1 this;obtain⟨_,_,b3,b4⟩:=base l' hl';rcases Nat.lt_or_ge l' objs.length with h3|h3
   ·have:=b3 h3;omega
   ·have:=b4 h3;omega
  ·refine List.mem_map.2 ⟨(l,o),?_,rfl⟩
   have:(ls.zip os)[i]?=some (l,o):=by simp[List.getElem?_zip_eq_some,h1,h2]
   exact List.mem_of_getElem? this
 ·refine mH _ h m fun hx=>?_
  rw[hfst]at hx;obtain⟨l,hl,e⟩:=List.mem_map.1 hx;exact hm l hl e
theorem cP(X:wV P)(hS:cX P S){N f:Nat}{args:List SV}{ps:Way}{cs:kB}{v:SV}(T:follow ps ((runK P S N (.fn f args) (aT objs R)).bind (cD ls))=some (cs,(v,n,oV)))(hc:holds cs)(hwk:rN oV os)
 (ft:h.n≤1000000→Fit h (aT objs R) (nm ns))(eK:eU R objs=true)(mK:fO objs.length R n ls=true)(dM:os.all SO.plain=true)(hK:n-objs.length≤K)(hj:∀i∈j,i<n-objs.length)(h6:h.n+K≤1000000):
 Spec P (.fn f (SV.rens (nm ns) args)) h (v.ren (nx h.n objs.length j ns),h.lay K (laid (nx h.n objs.length j ns) ls os)):=by
 obtain⟨⟨v',s'⟩,g1,g2⟩:=Out.bind_go (dT _ _ _ _ T hc);obtain⟨e1,e2,e3⟩:=see_eq g2;simp only at e1 e2 e3;subst e1;obtain⟨k1,k2⟩:=(kR X hS N).fn _ _ _ _ _ g1;refine⟨k1,fun ρ w us n hr hv=>?_⟩;have ft:=ft hr.n;refine(k2 (ρ.via (nm ns)) w us n (ft.hr hr) ((kP (oH ρ (nm ns))).2 hv)).mono fun e w' he=>?_
 obtain⟨uI,u,rfl,hvu,hr',f⟩:=he;obtain⟨j1,j2,j3⟩:=nV hwk ft eK mK dM hK hj h6 hr hr' f e2 e3;exact⟨_,u,rfl,(jH j3).1 hvu,j1,j2⟩
theorem go_code(X:wV P)(hS:cX P S){N:Nat}{bY:Bool}{c:Code}{sa:SA}{a:Act}{ps:Way}{ts ms:List Nat}{cs:kB}{x:SX}{vs:List SV}{m:Nat}{Q:Exit→Act→World→Prop}
 (T:follow ps ((code P (runK P S N) bY false c sa (aT objs R)).bind (cR ts ls))=some (cs,(x,ms,vs,n,oV)))(hc:holds cs)(hwk:rN oV os)
 (ft:Fit h (aT objs R) (nm ns))(eK:eU R objs=true)(mK:fO objs.length R n ls=true)(dM:os.all SO.plain=true)(hK:n-objs.length≤K)(hj:∀i∈j,i<n-objs.length)(h6:h.n+K≤1000000)(dE:eF c=true)(ha:AR (ρ.via (nm ns)) sa a)(hr:HR ρ h w)
 (hq:∀aW a' w',HR aW (h.lay K (laid (nx h.n objs.length j ns) ls os)) w'→FR ρ h w aW (h.lay K (laid (nx h.n objs.length j ns) ls os)) w'→bM aW (SV.rens (nx h.n objs.length j ns) vs) (ts.map fun t=>a'.tmps.getD t Go.undef)→
  a'.tmps.size≤1000→a'.defers=ms.map (fun l=>tH (blk aW (nx h.n objs.length j ns l)))→Q (exOf x) a' w'):c.wpIn Fence.wide m P Q a w:=by
 obtain⟨⟨x',iS,s'⟩,g1,g2⟩:=Out.bind_go (dT _ _ _ _ T hc);obtain⟨e1,e2,e3,e4,e5⟩:=seeC_eq g2;simp only at e1 e2 e3 e4 e5;subst e1;refine jD X.tab X.mixed rM (kR X hS N) (fun _=>rfl) c sa iS _ s' x' _ a w dE g1 ha (ft.hr hr) fun uI a' w' p1 p2 p3=>?_
 obtain⟨j1,j2,j3⟩:=nV hwk ft eK mK dM hK hj h6 hr p2 p3 e4 e5;refine hq _ a' w' j1 j2 ?_ (by rw[p1.size];exact p1.n) ?_
 ·refine(kP j3).1 ?_
  rw[←e3];clear T g2 e3 hq
  induction ts with
  |nil=>simp[bM]
  |cons t ts ih=>simp only[List.map_cons,bM];exact⟨p1.at_ t,ih⟩
 ·rw[p1.defers,e2]
  refine List.map_congr_left fun l _=>?_
  unfold blk;rw[j3 l]
end
def S0:cI:=fun _ _=>none
theorem aH(P:Program):cX P S0:=fun _ _ _ _ _ h=>by cases h
def bI(wp nW:Nat)(c:Option Nat)(lg:SV):SO:=.cells 107 2 [.slice wp 0 nW c,lg]
def aC:SV:=.val (.slice none 0 0)
def lR(nW nL:Nat)(c:Option Nat)(W:List Int):Bool→List SO
 |true=>[bI 1 nW c (.slice 2 0 nL none),.ints 3 1 W,.any 122 5 nL]
 |false=>[bI 1 nW c aC,.ints 3 1 W]
def accC(i:Int)(nW:Nat)(W:List Int):kB:=[(decide (0≤i),true),(decide (i<nW),true),(Nat.blt i.toNat W.length,true)]
def logC(nL:Nat):kB:=[(Nat.ble nL nL,true),(Nat.ble (nL+1) 1000000000,true)]
def tL(cs:List SV):Bool→List SO→Nat→Nat→Nat→Option Nat→List Int→List SO
 |true,l,j,nW,nL,c,W=>[bI 1 nW c (.slice (j+3) 0 (nL+1) none),.ints 3 1 W,.dead,.any 122 5 (nL+1)]++l
 |false,l,j,nW,_,c,W=>[bI 1 nW c (.slice (j+2) 0 1 none),.ints 3 1 W,.cells 122 5 cs]++l
section
variable(i x old:Int)(W:List Int)(nW nL:Nat)(c:Option Nat)
theorem load_t:follow [(0,true),(0,true),(0,true),(0,true),(3,true)] ((runK Tryz.prog S0 20 (.fn 137 [.ptr 0 0 0,.int .i64 i]) (aT (lR nW nL c W true) [])).bind (cD [0,1,2,6]))=
 some (accC i nW W++logC nL,(.int .i64 (W.getD i.toNat 0),7,tL [] true [] 3 nW nL c W)):=by kernel_rfl
theorem load_f:follow [(0,true),(0,true),(0,true)] ((runK Tryz.prog S0 20 (.fn 137 [.ptr 0 0 0,.int .i64 i]) (aT (lR nW nL c W false) [])).bind (cD [0,1,5]))=
 some (accC i nW W,(.int .i64 (W.getD i.toNat 0),6,tL [.int .i64 1,.int .i64 i,.int .i64 (W.getD i.toNat 0),.int .i64 0,.bool false] false [] 3 nW nL c W)):=by kernel_rfl
def casC:Bool→kB
 |true=>accC i nW W++[(W.getD i.toNat 0==old,true),(Nat.blt i.toNat W.length,true)]
 |false=>accC i nW W++[(W.getD i.toNat 0==old,false)]
theorem casY_t:follow [(0,true),(0,true),(0,true),(0,true),(0,true),(0,true),(3,true)] ((runK Tryz.prog S0 20 (.fn 140 [.ptr 0 0 0,.int .i64 i,.int .i64 old,.int .i64 x]) (aT (lR nW nL c W true) [])).bind (cD [0,1,2,8]))=
 some (casC i old W nW true++logC nL,(.bool (W.getD i.toNat 0==old),9,tL [] true [] 5 nW nL c (W.set i.toNat x))):=by kernel_rfl
theorem casY_f:follow [(0,true),(0,true),(0,true),(0,true),(0,true)] ((runK Tryz.prog S0 20 (.fn 140 [.ptr 0 0 0,.int .i64 i,.int .i64 old,.int .i64 x]) (aT (lR nW nL c W false) [])).bind (cD [0,1,7]))=
 some (casC i old W nW true,(.bool (W.getD i.toNat 0==old),8,tL [.int .i64 3,.int .i64 i,.int .i64 old,.int .i64 x,.bool (W.getD i.toNat 0==old)] false [] 5 nW nL c (W.set i.toNat x))):=by kernel_rfl
theorem casN_t:follow [(0,true),(0,true),(0,true),(0,false),(0,true),(3,true)] ((runK Tryz.prog S0 20 (.fn 140 [.ptr 0 0 0,.int .i64 i,.int .i64 old,.int .i64 x]) (aT (lR nW nL c W true) [])).bind (cD [0,1,2,8]))=
 some (casC i old W nW false++logC nL,(.bool (W.getD i.toNat 0==old),9,tL [] true [] 5 nW nL c W)):=by kernel_rfl
theorem casN_f:follow [(0,true),(0,true),(0,true),(0,false)] ((runK Tryz.prog S0 20 (.fn 140 [.ptr 0 0 0,.int .i64 i,.int .i64 old,.int .i64 x]) (aT (lR nW nL c W false) [])).bind (cD [0,1,7]))=
 some (casC i old W nW false,(.bool (W.getD i.toNat 0==old),8,tL [.int .i64 3,.int .i64 i,.int .i64 old,.int .i64 x,.bool (W.getD i.toNat 0==old)] false [] 5 nW nL c W)):=by kernel_rfl
def plus:List Int:=W.set i.toNat (IntKind.wrap .i64 (W.getD i.toNat 0+x))
def addC:kB:=accC i nW W++[(Nat.blt i.toNat W.length,true),(Nat.blt i.toNat (plus i x W).length,true)]
theorem add_t:follow [(0,true),(0,true),(0,true),(0,true),(0,true),(0,true),(3,true)] ((runK Tryz.prog S0 20 (.fn 147 [.ptr 0 0 0,.int .i64 i,.int .i64 x]) (aT (lR nW nL c W true) [])).bind (cD [0,1,2,7]))=
 some (addC i x W nW++logC nL,(.int .i64 ((plus i x W).getD i.toNat 0),8,tL [] true [] 4 nW nL c (plus i x W))):=by kernel_rfl
theorem add_f:follow [(0,true),(0,true),(0,true),(0,true),(0,true)] ((runK Tryz.prog S0 20 (.fn 147 [.ptr 0 0 0,.int .i64 i,.int .i64 x]) (aT (lR nW nL c W false) [])).bind (cD [0,1,6]))=
 some (addC i x W nW,(.int .i64 ((plus i x W).getD i.toNat 0),7,tL [.int .i64 2,.int .i64 i,.int .i64 x,.int .i64 ((plus i x W).getD i.toNat 0),.bool false] false [] 4 nW nL c (plus i x W))):=by kernel_rfl
theorem store_t:follow [(0,true),(0,true),(0,true),(0,true),(3,true)] ((runK Tryz.prog S0 20 (.fn 164 [.ptr 0 0 0,.int .i64 i,.int .i64 x]) (aT (lR nW nL c W true) [])).bind (cD [0,1,2,7]))=
 some (accC i nW W++logC nL,(iK,8,tL [] true [] 4 nW nL c (W.set i.toNat x))):=by kernel_rfl
theorem store_f:follow [(0,true),(0,true),(0,true)] ((runK Tryz.prog S0 20 (.fn 164 [.ptr 0 0 0,.int .i64 i,.int .i64 x]) (aT (lR nW nL c W false) [])).bind (cD [0,1,6]))=
 some (accC i nW W,(iK,7,tL [.int .i64 4,.int .i64 i,.int .i64 x,.int .i64 0,.bool false] false [] 4 nW nL c (W.set i.toNat x))):=by kernel_rfl
end
def accK(h:H)(M k:Nat)(i:Int)(F:List Int→Out (SV×List Int)):Out (SV×H):=match h.get M with
 |.cells 107 2 [.slice wp 0 nW c,lg]=>match h.get wp with
  |.ints 3 1 W=>match lg with
   |.slice lp 0 nL none=>match h.get lp with
    |.any 122 5 nA=>.chk (okK h M&&okK h wp&&okK h lp&&!Nat.beq M wp&&!Nat.beq M lp&&!Nat.beq wp lp&&Nat.blt M h.n&&Nat.blt wp h.n&&Nat.blt lp h.n&&Nat.ble (h.n+(k+1)) 1000000)
     (.chk (decide (0≤i)&&decide (i<nW)&&Nat.blt i.toNat W.length&&Nat.beq nA nL&&Nat.ble (nL+1) 1000000000)
      ((F W).bind fun|(v,W')=>.ret (v,h.lay (k+1) [(M,.cells 107 2 [.slice wp 0 nW c,.slice (h.n+k) 0 (nL+1) none]),(wp,.ints 3 1 W'),(lp,.dead),(h.n+k,.any 122 5 (nL+1))])))
    |_=>.fail
   |.val (.slice none 0 0)=>.chk (okK h M&&okK h wp&&!Nat.beq M wp&&Nat.blt M h.n&&Nat.blt wp h.n&&Nat.ble (h.n+(k+1)) 1000000)
    (.chk (decide (0≤i)&&decide (i<nW)&&Nat.blt i.toNat W.length)
     ((F W).bind fun|(v,W')=>.ret (v,h.lay (k+1) [(M,.cells 107 2 [.slice wp 0 nW c,.slice (h.n+k) 0 1 none]),(wp,.ints 3 1 W'),(h.n+k,.any 122 5 1)])))
   |_=>.fail
  |_=>.fail
 |_=>.fail
def AccT(f k:Nat)(args:List SV)(i:Int)(F:List Int→Out (SV×List Int)):Prop:=∀(W:List Int) (nW nL:Nat) (c:Option Nat) (r:SV×List Int),holds (accC i nW W)→(F W).go=some r→
 (∀q,r.1.ren q=r.1)∧(nL+1≤1000000000→∃ps cs,follow ps ((runK Tryz.prog S0 20 (.fn f (.ptr 0 0 0::args)) (aT (lR nW nL c W true) [])).bind (cD [0,1,2,k+3]))=some (cs,(r.1,k+4,tL [] true [] k nW nL c r.2))∧holds cs)∧
 ∃ps cs l,l.length=5∧l.all SV.one=true∧follow ps ((runK Tryz.prog S0 20 (.fn f (.ptr 0 0 0::args)) (aT (lR nW nL c W false) [])).bind (cD [0,1,k+2]))=some (cs,(r.1,k+3,tL l false [] k nW nL c r.2))∧holds cs
theorem wk_any{l:List SV}(hl:l.length=5)(h1:l.all SV.one=true):Wk (.cells 122 5 l) (.any 122 5 1):=by
 refine .inr ⟨by simp,fun ρ p w h=>?_⟩;obtain⟨a1,a2,cs,fr,a3,a4,a5,a6⟩:=h;refine⟨a1,by omega,cs,fr,a3,a4,a5,fun i hi=>?_⟩;have tU:i<l.length:=by omega
 obtain⟨u,b1,b2⟩:=a6 i l[i] (List.getElem?_eq_getElem tU);exact⟨u,b1,kU b2 (List.all_eq_true.1 h1 _ (List.getElem_mem tU))⟩
theorem fT{a b:Nat}(h:(!Nat.beq a b)=true):a≠b:=fun e=>by subst e;simp at h
theorem sM{f k:Nat}{args:List SV}{i:Int}{F:List Int→Out (SV×List Int)}(T:AccT f k args i F)(ha:∀q,SV.rens q args=args)(hk:k≤500){h:H}{M:Nat}{r:SV×H}(hg:(accK h M k i F).go=some r):Spec Tryz.prog (.fn f (.ptr M 0 0::args)) h r:=by
 unfold accK at hg;split at hg
 ·rename_i wp nW c lg hM
  split at hg
  ·rename_i W hW
   split at hg
   ·rename_i lp nL
    split at hg
    ·rename_i nA hL
     obtain⟨hc,hg⟩:=Out.chk_go hg;obtain⟨hd,hg⟩:=Out.chk_go hg;obtain⟨⟨v,W'⟩,hF,hg⟩:=Out.bind_go hg;have:=Out.ret_go hg;subst this;simp only[Bool.and_eq_true,decide_eq_true_eq]at hc hd;obtain⟨⟨⟨⟨⟨⟨⟨⟨⟨c1,c2⟩,c3⟩,c4⟩,c5⟩,c6⟩,c7⟩,c8⟩,c9⟩,c10⟩:=hc;obtain⟨⟨⟨⟨d1,d2⟩,d3⟩,d4⟩,d5⟩:=hd;have:=Nat.eq_of_beq_eq_true d4;subst this;obtain⟨hv,t1,_⟩:=T W nW nA c (v,W') ⟨by simpa using d1,by simpa using d2,d3,trivial⟩ hF;obtain⟨ps,cs,t2,t3⟩:=t1 (Nat.le_of_ble_eq_true d5);have c10:=Nat.le_of_ble_eq_true c10;have fit:h.n≤1000000→Fit h (aT (lR nW nA c W true) []) (nm [M,wp,lp]):=fun h6=>aX
      ⟨aF.1 c7,⟨c1,.of hM,rfl⟩,aF.1 c8,⟨c2,.of hW,rfl⟩,aF.1 c9,⟨c3,.of hL,rfl⟩,trivial⟩
      (dF (by simp[fT c4,fT c5,fT c6])) (by simp[lR]) h6
     have key:=cP (os:=tL [] true [] k nW nA c W') bW (aH _) t2 t3 (rN.refl _) fit rfl (by
      have:k+3<k+4:=by omega
      simp[fO,lR,List.range,List.range.loop,Nat.blt,Nat.ble]) rfl (K:=k+1) (j:=[]) (by simp[lR]) (by simp) c10
     have e1:SV.rens (nm [M,wp,lp]) (.ptr 0 0 0::args)=.ptr M 0 0::args:=by rw[SV.rens,ha];rfl
     rw[e1,hv]at key;have e3:laid (nx h.n (lR nW nA c W true).length [] [M,wp,lp]) [0,1,2,k+3] (tL [] true [] k nW nA c W')=[(M,.cells 107 2 [.slice wp 0 nW c,.slice (h.n+k) 0 (nA+1) none]),(wp,.ints 3 1 W'),(lp,.dead),(h.n+k,.any 122 5 (nA+1))]:=by
      have e:nx h.n 3 [] [M,wp,lp] (k+3)=h.n+k:=by unfold nx oI;rw[if_neg (by omega)];omega
      simp[laid,tL,lR,bI,SO.ren,SV.rens,SV.ren,e];simp[nx,nm]
     rw[e3]at key;exact key
    ·cases hg
   ·obtain⟨hc,hg⟩:=Out.chk_go hg
    obtain⟨hd,hg⟩:=Out.chk_go hg;obtain⟨⟨v,W'⟩,hF,hg⟩:=Out.bind_go hg;have:=Out.ret_go hg;subst this;simp only[Bool.and_eq_true,decide_eq_true_eq]at hc hd;obtain⟨⟨⟨⟨⟨c1,c2⟩,c4⟩,c7⟩,c8⟩,c10⟩:=hc;obtain⟨⟨d1,d2⟩,d3⟩:=hd;obtain⟨hv,_,ps,cs,l,l1,l2,t2,t3⟩:=T W nW 0 c (v,W') ⟨by simpa using d1,by simpa using d2,d3,trivial⟩ hF;have c10:=Nat.le_of_ble_eq_true c10;have fit:h.n≤1000000→Fit h (aT (lR nW 0 c W false) []) (nm [M,wp]):=fun h6=>aX
     ⟨aF.1 c7,⟨c1,.of hM,rfl⟩,aF.1 c8,⟨c2,.of hW,rfl⟩,trivial⟩
     (dF (by simp[fT c4])) (by simp[lR]) h6
    have key:=cP (os:=[bI 1 nW c (.slice (k+2) 0 1 none),.ints 3 1 W',.any 122 5 1]) bW (aH _) t2 t3 ⟨.refl _,.refl _,wk_any l1 l2,trivial⟩ fit rfl (by
     have:k+2<k+3:=by omega
     simp[fO,lR,List.range,List.range.loop,Nat.blt,Nat.ble]) rfl (K:=k+1) (j:=[]) (by simp[lR]) (by simp) c10
    have e1:SV.rens (nm [M,wp]) (.ptr 0 0 0::args)=.ptr M 0 0::args:=by rw[SV.rens,ha];rfl
    rw[e1,hv]at key;have e3:laid (nx h.n (lR nW 0 c W false).length [] [M,wp]) [0,1,k+2] [bI 1 nW c (.slice (k+2) 0 1 none),.ints 3 1 W',.any 122 5 1]=[(M,.cells 107 2 [.slice wp 0 nW c,.slice (h.n+k) 0 1 none]),(wp,.ints 3 1 W'),(h.n+k,.any 122 5 1)]:=by
     have e:nx h.n 2 [] [M,wp] (k+2)=h.n+k:=by unfold nx oI;rw[if_neg (by omega)];omega
     simp[laid,lR,bI,SO.ren,SV.rens,SV.ren,e];simp[nx,nm]
    rw[e3]at key;exact key
   ·cases hg
  ·cases hg
 ·cases hg
theorem aG:∀{a b:kB},holds a→holds b→holds (a++b)
 |[],_,_,h=>h
 |_::_,_,h,h'=>⟨h.1,aG h.2 h'⟩
theorem uK{nL:Nat}(h:nL+1≤1000000000):holds (logC nL):=⟨by simp,Nat.ble_eq_true_of_le h,trivial⟩
def memK:cI:=fun t h=>match t with
 |.fn 137 [.ptr M 0 0,.int .i64 i]=>some (accK h M 3 i fun W=>.ret (.int .i64 (W.getD i.toNat 0),W))
 |.fn 140 [.ptr M 0 0,.int .i64 i,.int .i64 old,.int .i64 x]=>some (accK h M 5 i fun W=>.ite (W.getD i.toNat 0==old) (.ret (.bool true,W.set i.toNat x)) (.ret (.bool false,W)))
 |.fn 147 [.ptr M 0 0,.int .i64 i,.int .i64 x]=>some (accK h M 4 i fun W=>.ret (.int .i64 ((plus i x W).getD i.toNat 0),plus i x W))
 |.fn 164 [.ptr M 0 0,.int .i64 i,.int .i64 x]=>some (accK h M 4 i fun W=>.ret (iK,W.set i.toNat x))
 |_=>none
theorem mem_sound:cX Tryz.prog memK:=fun f args h o r ho hg=>by
 unfold memK at ho;split at ho
 ·rename_i M i heq
  injection heq with e1 e2;subst e1;subst e2;injection ho with ho;subst ho;refine sM (fun W nW nL c r hc hF=>?_) (fun q=>rfl) (by omega) hg;have:=Out.ret_go hF;subst this;exact⟨fun _=>rfl,fun hL=>⟨_,_,load_t i W nW nL c,aG hc (uK hL)⟩,_,_,_,rfl,rfl,load_f i W nW nL c,hc⟩
 ·rename_i M i old x heq
  injection heq with e1 e2;subst e1;subst e2;injection ho with ho;subst ho;refine sM (fun W nW nL c r hc hF=>?_) (fun q=>rfl) (by omega) hg;simp only[Out.go]at hF;split at hF
  ·rename_i he
   have:=Out.ret_go hF;subst this;have e:(SV.bool true)=.bool (W.getD i.toNat 0==old):=by rw[he]
   have hx:holds (casC i old W nW true):=aG hc ⟨he,hc.2.2.1,trivial⟩;have t1:=casY_t i x old W nW nL c;have t2:=casY_f i x old W nW nL c;rw[←e]at t1 t2;exact⟨fun _=>rfl,fun hL=>⟨_,_,t1,aG hx (uK hL)⟩,_,_,_,rfl,rfl,t2,hx⟩
  ·rename_i he
   have:=Out.ret_go hF;subst this;have e:(SV.bool false)=.bool (W.getD i.toNat 0==old):=by rw[he]
   have hx:holds (casC i old W nW false):=aG hc ⟨he,trivial⟩;have t1:=casN_t i x old W nW nL c;have t2:=casN_f i x old W nW nL c;rw[←e]at t1 t2;exact⟨fun _=>rfl,fun hL=>⟨_,_,t1,aG hx (uK hL)⟩,_,_,_,rfl,rfl,t2,hx⟩
 ·rename_i M i x heq
  injection heq with e1 e2;subst e1;subst e2;injection ho with ho;subst ho;refine sM (fun W nW nL c r hc hF=>?_) (fun q=>rfl) (by omega) hg;have:=Out.ret_go hF;subst this;have hx:holds [(Nat.blt i.toNat W.length,true),(Nat.blt i.toNat (plus i x W).length,true)]:=⟨hc.2.2.1,by simp only[plus,List.length_set];exact hc.2.2.1,trivial⟩;exact⟨fun _=>rfl,fun hL=>⟨_,_,add_t i x W nW nL c,aG (aG hc hx) (uK hL)⟩,_,_,_,rfl,rfl,add_f i x W nW nL c,aG hc hx⟩
 ·rename_i M i x heq
  injection heq with e1 e2;subst e1;subst e2;injection ho with ho;subst ho;refine sM (fun W nW nL c r hc hF=>?_) (fun q=>rfl) (by omega) hg;have:=Out.ret_go hF;subst this;exact⟨fun _=>rfl,fun hL=>⟨_,_,store_t i x W nW nL c,aG hc (uK hL)⟩,_,_,_,rfl,rfl,store_f i x W nW nL c,hc⟩
 ·cases ho
end Go.Proofs.YtnkcbfgfkadoaaaGreat.Sx
