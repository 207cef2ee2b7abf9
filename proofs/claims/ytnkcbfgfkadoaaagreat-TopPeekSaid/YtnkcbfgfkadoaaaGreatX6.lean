/- Part 6 of the proof of TopPeek. -/
import Derived.Test.YtnkcbfgfkadoaaaGreatX5
set_option linter.all false
namespace Go.Proofs.YtnkcbfgfkadoaaaGreat.Sx
open Go
section
variable{ρ oU aW:bF}{h0 HA HB hh h1:H}{w w0 w':World}{lZ:Nat→Prop}
theorem HR.back(ra:HR ρ HA w)(r1:HR aW h1 w')(f:FR ρ hh w aW h1 w')(hBe:HB.A=h1.A)(hRA:hh.R=HA.R)(hRB:HB.R=h1.R)(hn:hh.n=HA.n)(hnB:HB.n=h1.n)(vS:∀m,live hh m→hh.get m=HA.get m)(hdead:∀m,lZ m→¬live hh m)
 (hB1:∀m,live HB m→lZ m→HB.get m=HA.get m)(hB2:∀m,live HB m→¬lZ m→HB.get m=h1.get m):HR aW HB w':=by
 have lA:∀m,live hh m→live HA m:=fun m hm=>by unfold live at hm⊢;rw[←vS m hm];exact hm
 have lB1:∀m,live HB m→lZ m→live HA m:=fun m hm hi=>by unfold live at hm⊢;rw[←hB1 m hm hi];exact hm
 have lB2:∀m,live HB m→¬lZ m→live h1 m:=fun m hm hi=>by unfold live at hm⊢;rw[←hB2 m hm hi];exact hm
 have same:∀m p,live HA m→aW m=some p→ρ m=some p:=fun m p hm hp=>by
  obtain⟨_,q,hq,_⟩:=ra.at_ m hm;rw[f.le _ _ hq]at hp;injection hp with hp;rw[←hp];exact hq
 have mixed:∀m m' p p',live HB m→¬lZ m→live HB m'→lZ m'→aW m=some p→aW m'=some p'→p.b≠p'.b∨p.R=0∨p'.R=0∨(m∈HB.R∧m'∈HB.R):=by
  intro m m' p p' hm hi pZ tU hp pV;have hA':=lB1 m' pZ tU;have AN:=same m' p' hA' pV;have h1m:=lB2 m hm hi;have pT:p'.b<w.heap.size:=by
   obtain⟨_,q,hq,h3,_⟩:=ra.at_ m' hA';rw[AN]at hq;injection hq with hq;rw[hq];exact h3
  rcases Nat.lt_or_ge m hh.n with hl|hl
  ·have hhm:=f.old m hl h1m
   have fS:m≠m':=fun e=>hdead m' tU (e▸hhm)
   rw[hRB,f.ro,hRA];exact ra.apart m m' p p' fS (lA m hhm) hA' (same m p (lA m hhm) hp) AN
  ·rcases f.new m p hl h1m hp with h5|h5
   ·exact .inl (by omega)
   ·by_cases hR:p.R=0
    ·exact .inr (.inl hR)
    ·rcases h5 p.o (Nat.le_refl _) (by omega)with⟨l0,p0,g1,g2,g3,g4,g5,g6⟩|hS
     ·have fS:l0≠m':=fun e=>hdead m' tU (e▸g1)
      rcases ra.apart l0 m' p0 p' fS (lA l0 g1) hA' g2 AN with h6|h6|h6|h6
      ·exact .inl (by rw[←g3];exact h6)
      ·omega
      ·exact .inr (.inr (.inl h6))
      ·exact absurd (.inl (by rw[hRA];exact h6.1)) g6
     ·by_cases he:p.b=p'.b
      ·exact .inr (.inr (.inl ((ra.amb.2 _ hS).2 m' p' hA' AN he.symm)))
      ·exact .inl he
 refine⟨by rw[hnB];exact r1.n,fun m hm=>?_,fun m m' p p' fS hm pZ hp pV=>?_,fun m hm=>r1.fresh m (by omega),?_⟩
 ·by_cases hi:lZ m
  ·have hA:=lB1 m hm hi
   obtain⟨g1,p,g2,g3,g4⟩:=ra.at_ m hA;refine⟨by have:=f.n;omega,p,f.le _ _ g2,by have:=f.size;omega,?_⟩;rw[hB1 m hm hi];have notown:∀l0 p0,live hh l0→ρ l0=some p0→p0.b=p.b→p0.R≠0→l0∉hh.R→p.R=0:=fun l0 p0 k1 k2 k3 k4 k5=>by
    have fS:l0≠m:=fun e=>hdead m hi (e▸k1)
    rcases ra.apart l0 m p0 p fS (lA l0 k1) hA k2 g2 with h6|h6|h6|h6
    ·exact absurd k3 h6
    ·exact absurd h6 k4
    ·exact h6
    ·exact absurd (by rw[hRA];exact h6.1) k5
   have notS:ρ.S p.b→p.R=0:=fun hS=>(ra.amb.2 _ hS).2 m p hA g2 rfl
   refine g4.frame f.le (fun cs t fr hb=>?_) (fun x hx hnc hR=>f.others _ x hx hnc fun ho=>?_)
   ·obtain⟨gF,e1,e2,e3⟩:=f.cells _ _ _ _ hb
    refine⟨gF,e1,e2,fun i hi1 hi2=>e3 i fun ho=>?_⟩;rcases ho with⟨l0,p0,k1,k2,k3,k4,k5,k6⟩|hS
    ·have:=notown l0 p0 k1 k2 k3 (by omega) fun h=>k6 (.inl h)
     omega
    ·have:=notS hS;omega
   ·rcases ho with⟨l0,p0,k1,k2,k3,k4,k5⟩|hS
    ·exact hR (notown l0 p0 k1 k2 k3 k4 k5)
    ·exact hR (notS hS)
  ·obtain⟨g1,p,g2,g3,g4⟩:=r1.at_ m (lB2 m hm hi)
   exact⟨by omega,p,g2,g3,by rw[hB2 m hm hi];exact g4⟩
 ·by_cases hi:lZ m
  ·by_cases tU:lZ m'
   ·rw[hRB,f.ro,hRA]
    exact ra.apart m m' p p' fS (lB1 m hm hi) (lB1 m' pZ tU) (same m p (lB1 m hm hi) hp) (same m' p' (lB1 m' pZ tU) pV)
   ·rcases mixed m' m p' p pZ tU hm hi pV hp with h5|h5|h5
    ·exact .inl (Ne.symm h5)
    ·exact .inr (.inr (.inl h5))
    ·rcases h5 with h5|h5
     ·exact .inr (.inl h5)
     ·exact .inr (.inr (.inr h5.symm))
  ·by_cases tU:lZ m'
   ·exact mixed m m' p p' hm hi pZ tU hp pV
   ·rw[hRB]
    exact r1.apart m m' p p' fS (lB2 m hm hi) (lB2 m' pZ tU) hp pV
 ·refine r1.amb_step hBe rfl (Nat.le_refl _) (fun _ _=>rfl) fun b m p hb hm hp e=>?_
  by_cases hi:lZ m
  ·have hA':=lB1 m hm hi
   rcases f.amb b hb with h5|h5
   ·obtain⟨_,q,hq,h3,_⟩:=ra.at_ m hA'
    rw[same m p hA' hp]at hq;injection hq with hq;subst hq;omega
   ·exact(ra.amb.2 b h5).2 m p hA' (same m p hA' hp) e
  ·exact(r1.amb.2 b hb).2 m p (lB2 m hm hi) hp e
theorem FR.back(r0:HR oU h0 w0)(ra:HR ρ HA w)(f0:FR oU h0 w0 ρ HA w)(f:FR ρ hh w aW h1 w')(hRA:hh.R=HA.R)(hRB:HB.R=h1.R)(hCA:∀x∈HA.C,x∈hh.C)(hCB:HB.C=HA.C)(xJ:∀m,m<h0.n→hh.get m=HA.get m∧HB.get m=h1.get m)(hn:hh.n=HA.n)(hnB:HB.n=h1.n)(vS:∀m,live hh m→hh.get m=HA.get m)
 (hB1:∀m,live HB m→lZ m→HB.get m=HA.get m)(hB2:∀m,live HB m→¬lZ m→HB.get m=h1.get m):FR oU h0 w0 aW HB w':=by
 have lA:∀m,live hh m→live HA m:=fun m hm=>by unfold live at hm⊢;rw[←vS m hm];exact hm
 have lB1:∀m,live HB m→lZ m→live HA m:=fun m hm hi=>by unfold live at hm⊢;rw[←hB1 m hm hi];exact hm
 have lB2:∀m,live HB m→¬lZ m→live h1 m:=fun m hm hi=>by unfold live at hm⊢;rw[←hB2 m hm hi];exact hm
 have same:∀m p,live HA m→aW m=some p→ρ m=some p:=fun m p hm hp=>by
  obtain⟨_,q,hq,_⟩:=ra.at_ m hm;rw[f.le _ _ hq]at hp;injection hp with hp;rw[←hp];exact hq
 have own:∀b i,AT ρ hh b i→AT ρ HA b i:=fun b i ho=>ho.imp (fun⟨l,p,k1,k2,k3,k4,k5,k6⟩=>⟨l,p,lA l k1,k2,k3,k4,k5,fun h=>k6 (h.imp (fun h=>by rw[hRA];exact h) fun⟨x,hx,h⟩=>⟨x,hCA x hx,h⟩)⟩) id
 have ownB:∀b,wM ρ hh b→wM ρ HA b:=fun b ho=>ho.imp (fun⟨l,p,k1,k2,k3,k4,k5⟩=>⟨l,p,lA l k1,k2,k3,k4,by rw[←hRA];exact k5⟩) id
 refine⟨f0.le.trans f.le,fun l hl=>by rw[f.keep l (by have:=f0.n;omega)];exact f0.keep l hl,by have:=f0.n;have:=f.n;omega,Nat.le_trans f0.size f.size,fun b cs t fr hb=>?_,fun b o hb hnc ho=>?_,fun l hl hv=>?_,fun l p hl hv hp=>?_,fun b hb=>?_,by rw[hRB,f.ro,hRA,f0.ro],by rw[hCB,f0.ct],fun x hx cK=>?_,f0.env.trans f.env⟩
 ·obtain⟨cs1,e1,e2,e3⟩:=f0.cells b cs t fr hb
  obtain⟨xX,g1,g2,g3⟩:=f.cells b cs1 t fr e1;exact⟨xX,g1,by omega,fun i hi=>by rw[g3 i fun h=>hi (f0.owns_back r0 (dP hb) (own b i h)),e3 i hi]⟩
 ·exact f.others b o (f0.others b o hb hnc ho) hnc fun h=>ho (f0.ownsB_back r0 (dP hb) (ownB b h))
 ·by_cases hi:lZ l
  ·exact f0.old l hl (lB1 l hv hi)
  ·exact f0.old l hl (lA l (f.old l (by have:=f0.n;omega) (lB2 l hv hi)))
 ·by_cases hi:lZ l
  ·exact f0.new l p hl (lB1 l hv hi) (same l p (lB1 l hv hi) hp)
  ·rcases Nat.lt_or_ge l hh.n with h5|h5
   ·have:=lA l (f.old l h5 (lB2 l hv hi))
    exact f0.new l p hl this (same l p this hp)
   ·rcases f.new l p h5 (lB2 l hv hi) hp with h6|h6
    ·exact .inl (by have:=f0.size;omega)
    ·rcases Nat.lt_or_ge p.b w0.heap.size with h7|h7
     ·exact .inr fun i h8 h9=>f0.owns_back r0 h7 (own _ _ (h6 i h8 h9))
     ·exact .inl h7
 ·rcases f.amb b hb with h5|h5
  ·exact .inl (Nat.le_trans f0.size h5)
  ·exact f0.amb b h5
 ·have h1:=f0.eqc x hx cK
  have h2:=f.eqc x (hCA x (by rw[f0.ct];exact hx)) (by have:=f0.n;omega);rw[(xJ _ cK).1]at h2;rw[(xJ _ cK).2];exact h1.trans h2
end
section
variable{P:Program}{F:Fence}{n:Nat}{Q:Exit→Act→World→Prop}{bY:Bool}{ops:Array Oper}{pl done rest:List mZ}{a:SA}{h h0:H}{acc:Acc}{D:Nat→Prop}{lay:List (Nat×Nat)}{oU ρ:bF}{w0 w:World}{c:Act}{x:mZ}
theorem Inv.effect(T:TOK P)(hF:FOK F){K:pY}(hK:KOK P K)(d:DOK ops.toList pl)(dM:pl=done++x::rest)(r0:HR oU h0 w0)(iv:Inv P bY ops.toList done a h acc D lay oU h0 w0 ρ c w)(nN:cl x.2.2.op=2)(hed:∀e∈edges x.2.2,D e){res:SA×H}
 (hg:(cL P K bY ops.toList (x::rest) a h acc).go=some res){N:Act→World→Prop}
 (hN:∀a' h' aW c' w',(cL P K bY ops.toList rest a' h' acc).go=some res→Inv P bY ops.toList (done++[x]) a' h' acc (fun j=>D j∨j=x.1) lay oU h0 w0 aW c' w'→N c' w'):wpOpIn F n P ops Q x.1 N c w:=by
 have hxpl:x∈pl:=by rw[dM];simp
 have ex:=d.at_ done x rest dM;obtain⟨hrd,hZ⟩:=iv.read (rest:=x::rest) d dM hxpl hed;have hmask:=iv.mask (rest:=x::rest) d dM done.length done x rest rfl dM hed;have hop:ops[x.1]?=some x.2.2:=by simpa using d.op x hxpl
 have hbound:=iv.lbound;have han:=iv.an;unfold wpOpIn;simp only[hop];generalize hhid:hide x.2.1 h acc=lZ at*;have hidlt:∀y∈lZ,y.1<h.n∧y.2=h.get y.1:=fun y hy=>by
  obtain⟨h1,h2,_⟩:=uD acc y (by rw[hhid];exact hy);exact⟨h1,h2⟩
 have hid0:∀m∈lZ.map (·.1),h0.n≤m:=fun m hm=>by
  obtain⟨y,hy,rfl⟩:=List.mem_map.1 hm;obtain⟨_,_,z,hz,hz2⟩:=uD acc y (by rw[hhid];exact hy);exact iv.accl z hz _ hz2
 generalize hprt:prots x.2.1 acc=prt at*;have hid6:∀y∈lZ,y.1≤1000000:=fun y hy=>by have:=(hidlt y hy).1;have:=iv.h6;omega
 have notin:∀y∈done,¬D y.1→Nat.testBit x.2.1 y.1=false:=fun y _ hD=>by
  cases hb:Nat.testBit x.2.1 y.1
  ·rfl
  ·exact absurd (hmask _ hb) hD
 have inhid:∀y∈done,¬D y.1→∀cs ls l,(y.1,cs,ls)∈acc→l∈ls→l<h.n→l∈lZ.map (·.1):=fun y hy hD cs ls l h1 h2 h3=>by
  rw[←hhid];exact zB (notin y hy hD) h2 h3 acc h1
 have inprt:∀y∈done,¬D y.1→∀cs ls z,(y.1,cs,ls)∈acc→z∈cs→z∈prt:=fun y hy hD cs ls z h1 h2=>by
  rw[←hprt];exact vR (notin y hy hD) h2 acc h1
 have layhid:∀y∈lay,y.2∈lZ.map (·.1):=fun y hy=>by
  obtain⟨g1,g2,g3,g4,g5,g6⟩:=iv.lays y hy;obtain⟨z,hz,e⟩:=List.mem_map.1 g6;have hzD:¬D z.1:=by rw[e];exact g5
  rcases iv.late z hz hzD with⟨_,_,h6⟩|⟨_,_,σ,v,cs,ls,_,_,_,_,_,h8⟩|⟨_,_,σ,so,mk,l,_,_,_,h6,_,cs,h8⟩
  ·exact absurd (show(z.1,y.2)∈lay by rw[e];exact hy) (h6 y.2)
  ·exact absurd (show(z.1,y.2)∈lay by rw[e];exact hy) (h8 y.2)
  ·have:l=y.2:=nodup_fst iv.nodup1 (m:=y.1) (by rw[←e];exact h6) hy
   rw[this]at h8;exact inhid z hz hzD _ _ _ h8 (by simp) g3
 have vS:∀m,live (fH h lZ) m→(fH h lZ).get m=(cV h (lay.map (·.2))).get m:=fun m hm=>by
  unfold live at hm;rw[kV _ _ _ hid6]at hm⊢;split at hm
  ·exact absurd rfl hm
  ·rename_i hni
   rw[if_neg hni,dH _ _ _ hbound,if_neg];intro hm2;obtain⟨y,hy,e⟩:=List.mem_map.1 hm2;exact hni (by rw[←e];exact layhid y hy)
 let hc:H:={fH h lZ with C:=prt++h.C};have hcg:∀m,hc.get m=(fH h lZ).get m:=fun _=>rfl
 have aU:hc.n=h.n:=deadAll_n _ _;have hrh:HR ρ hc w:=iv.hr.sub (by rw[eZ,aU];exact Nat.le_refl _) (by rw[aU];exact iv.h6) vS (by show(fH h lZ).A=_;rw[deadAll_A,qB]) (by show(fH h lZ).R=_;rw[vQ,jC]);have after:∀(a1:SA) (v:SV) (u:Value) (aW:bF) (h1:H) (w':World),(∀t,a1.get t=a.get t)→a1.n=a.n→a1.marks=a.marks→(cL P K bY ops.toList rest (a1.put x.2.2.dst v) {dY h1 lZ with C:=h.C} acc).go=some res→
  VR aW v u→HR aW h1 w'→FR ρ hc w aW h1 w'→N (c.put x.2.2.dst u) w':=by
  intro a1 v u aW h1 w' e1 e2 e3 dZ hv r1 f;have ha1:a1.n≤1000:=by omega
  obtain⟨q1,q2,_⟩:=SA.put_n (a:=a1) (t:=x.2.2.dst) (v:=v);obtain⟨p1,p2,p3,p4,p5⟩:=act_put (d:=x.2.2.dst) (u:=u) iv.size;have kX:∀t,x.2.2.dst≠some t→(a1.put x.2.2.dst v).get t=a.get t:=fun t ht=>by rw[SA.get_put' ha1 ht,e1]
  have hputs:∀y∈lZ,y.1≤1000000∧y.2=h.get y.1:=fun y hy=>⟨hid6 y hy,(hidlt y hy).2⟩
  let hb:H:={dY h1 lZ with C:=h.C};have hbg:∀m,hb.get m=(dY h1 lZ).get m:=fun _=>rfl
  have hpg:∀m,hb.get m=if m∈lZ.map (·.1)then h.get m else h1.get m:=fun m=>by rw[hbg];exact zA h.get lZ h1 m hputs
  have hbn:hb.n=h1.n:=putAll_n _ _;have hn1:h.n≤h1.n:=by have:=f.n;rw[aU]at this;exact this
  have hBn:(cV hb (lay.map (·.2))).n=h1.n:=by rw[eZ,hbn]
  have hdead:∀m,m∈lZ.map (·.1)→¬live hc m:=fun m hm hl=>hl (by rw[hcg,kV _ _ _ hid6,if_pos hm])
  have hB1:∀m,live (cV hb (lay.map (·.2))) m→m∈lZ.map (·.1)→(cV hb (lay.map (·.2))).get m=(cV h (lay.map (·.2))).get m:=fun m hm hi=>by
   rw[dH _ _ _ hbound,dH _ _ _ hbound,hpg,if_pos hi]
  have hB2:∀m,live (cV hb (lay.map (·.2))) m→¬m∈lZ.map (·.1)→(cV hb (lay.map (·.2))).get m=h1.get m:=fun m hm hi=>by
   unfold live at hm;rw[dH _ _ _ hbound]at hm⊢;split at hm
   ·exact absurd rfl hm
   ·rename_i hni;rw[if_neg hni,hpg,if_neg hi]
  have hnn:hc.n=(cV h (lay.map (·.2))).n:=by rw[aU,eZ]
  have hRA:hc.R=(cV h (lay.map (·.2))).R:=by show(fH h lZ).R=_;rw[vQ,jC]
  have hRB:(cV hb (lay.map (·.2))).R=h1.R:=by rw[jC];show(dY h1 lZ).R=_;rw[cQ]
  have hCA:∀y∈(cV h (lay.map (·.2))).C,y∈hc.C:=fun y hy=>by rw[nR]at hy;exact List.mem_append_right _ hy
  have hCB:(cV hb (lay.map (·.2))).C=(cV h (lay.map (·.2))).C:=by rw[nR,nR]
  have nolay:∀m,m<h0.n→m∉lay.map (·.2):=fun m hm hm2=>by
   obtain⟨y,hy,e⟩:=List.mem_map.1 hm2;have:=(iv.lays y hy).2.1;omega
  have xJ:∀m,m<h0.n→hc.get m=(cV h (lay.map (·.2))).get m∧(cV hb (lay.map (·.2))).get m=h1.get m:=fun m hm=>by
   have hnh:m∉lZ.map (·.1):=fun hm2=>by have:=hid0 m hm2;omega
   rw[hcg,kV _ _ _ hid6,dH _ _ _ hbound,dH _ _ _ hbound,if_neg hnh,if_neg (nolay m hm),if_neg (nolay m hm),hpg,if_neg hnh];exact⟨rfl,rfl⟩
  have hsame:∀z∈prt,z.1<h.n→qW (h.get z.1) (hb.get z.1) z.2.1 z.2.2:=fun z hz cK=>by
   rw[hpg];split
   ·exact .refl _ _ _
   ·rename_i hnh
    have:=f.eqc z (List.mem_append_left _ hz) (by rw[aU];exact cK)
    rwa [hcg,kV _ _ _ hid6,if_neg hnh]at this
  refine hN _ _ aW _ w' dZ ⟨fun i hi=>?_,fun y hy hc=>?_,fun y hy hD e he=>?_,by rw[q1];exact ha1,by rw[p1,q1,e2],fun l hl=>?_,?_,fun t ht=>?_,fun t ht=>?_,by show hb.n≤_;rw[hbn];exact r1.n,
   HR.back iv.hr r1 f (by rw[qB];show(dY h1 lZ).A=_;rw[yZ]) hRA hRB hnn hBn (fun m hm=>vS m hm) hdead hB1 hB2,FR.back r0 iv.hr iv.fr f hRA hRB hCA hCB xJ hnn hBn (fun m hm=>vS m hm) hB1 hB2,fun y hy=>?_,iv.nodup,iv.nodup1,iv.accl,fun y hy hD=>?_⟩
  ·unfold idx;rw[List.map_append]
   rcases hi with hi|rfl
   ·exact List.mem_append_left _ (iv.sub i hi)
   ·simp
  ·rcases List.mem_append.1 hy with hy|hy
   ·exact .inl (iv.eff y hy hc)
   ·rw[List.mem_singleton.1 hy];exact .inr rfl
  ·rcases List.mem_append.1 hy with hy|hy
   ·rcases hD with hD|hD
    ·exact .inl (iv.closed y hy hD e he)
    ·exact absurd (List.mem_map.2 ⟨y,hy,hD⟩) ex.fresh
   ·rw[List.mem_singleton.1 hy]at he;exact .inl (hed e he)
  ·rw[q2,e3]at hl
   obtain⟨p,hp⟩:=iv.marks l hl;exact⟨p,f.le _ _ hp⟩
  ·rw[p2,iv.defers,q2,e3]
   refine List.map_congr_left fun l hl=>?_
   obtain⟨p,hp⟩:=iv.marks l hl;rw[yU f.le hp]
  ·rcases Nat.lt_or_ge t a.n with cK|wQ
   ·by_cases e:x.2.2.dst=some t
    ·rw[p4 t e cK,sI ha1 t e (by rw[q1];omega)];exact hv
    ·rw[p3 t e,kX t e]
     exact(iv.tm t fun y hy hyd=>(ht y (by simp[hy]) hyd).resolve_right fun hyx=>ex.fresh (List.mem_map.2 ⟨y,hy,hyx⟩)).mono f.le
   ·rw[p5 t wQ,SA.get_put_out ha1 (by omega),e1];exact(iv.out t wQ).mono f.le
  ·rw[SA.get_put_out ha1 (by omega),e1];exact(iv.out t (by omega)).mono f.le
  ·obtain⟨g1,g2,g3,g4,g5,g6⟩:=iv.lays y hy
   refine⟨by rw[f.keep _ (by rw[aU];exact g3)];exact g1,g2,by show _<hb.n;rw[hbn];omega,by show hb.get _≠_;rw[hpg,if_pos (layhid y hy)];exact g4,fun h3=>h3.elim g5 fun e=>ex.fresh (by rw[←e];exact g6),by unfold idx at g6⊢;rw[List.map_append];exact List.mem_append_left _ g6⟩
  ·rcases List.mem_append.1 hy with hy|hy
   ·have hyD:¬D y.1:=fun h3=>hD (.inl h3)
    exact(iv.late y hy hyD).keep (by rw[q1,e2]) (fun t ht=>kX t (d.others dM hy (.inl ht))) (fun t ht=>kX t (d.others dM hy (.inr ht))) (fun _ h=>h) (fun _=>Iff.rfl)
     (fun cs ls k1=>⟨fun z k2 k3=>hsame z (inprt y hy hyD cs ls z k1 k2) k3,fun l k2 k3=>by show hb.get _=_;rw[hpg,if_pos (inhid y hy hyD cs ls l k1 k2 k3)]⟩) (by show _≤hb.n;rw[hbn];exact hn1) fun l hl=>(iv.lays _ hl).2.2.1
   ·rw[List.mem_singleton.1 hy]at hD;exact absurd (.inr rfl) hD
 have main:∀(a1:SA) (r:Out (SA×H)),(∀t,a1.get t=a.get t)→a1.n=a.n→a1.marks=a.marks→(Region.wanted x.2.2 (yielded ops c.tmps)=true∧r=one P K bY x.2.2 a1 hc∨Region.wanted x.2.2 (yielded ops c.tmps)=false∧r=.ret (a1.put x.2.2.dst iK,hc))→
  (r.bind fun y=>cL P K bY ops.toList rest y.1 {dY y.2 lZ with C:=h.C} acc).go=some res→
  if Region.wanted x.2.2 (yielded ops c.tmps)=true then x.2.2.wpIn F n P c w N Q else(∀f,x.2.2.about P w c.eval=some f→F.fn f)∧N (c.put x.2.2.dst Go.undef) w:=by
  intro a1 r e1 e2 e3 hr dZ;obtain⟨y,hy,dZ⟩:=Out.bind_go dZ;rcases hr with⟨hw,rfl⟩|⟨hw,rfl⟩
  ·rw[hw,if_pos rfl]
   unfold one at hy;rw[nN]at hy;obtain⟨z,k1,k2⟩:=Out.bind_go hy;have:=Out.ret_go k2;subst this;have hev1:∀o∈x.2.2.op.operands,VR ρ (a1.eval o) (c.eval o):=fun o ho=>by
    rw[SA.eval_congr (a:=a) fun t _=>e1 t];exact hZ o ho
   exact ef_ok T hF hK k1 hev1 hrh ex.ok fun aW u w' g1 g2 g3=>after a1 z.1 u aW z.2 w' e1 e2 e3 dZ g1 g2 g3
  ·rw[hw,if_neg (by simp)]
   have:=Out.ret_go hy;subst this;exact⟨fun f _=>hF.fn f,after a1 iK _ ρ _ w e1 e2 e3 dZ (by simp[iK,VR,Go.undef,bM]) hrh (.refl hrh)⟩
 have hg':(step P K bY ops.toList x.2.2 a hc fun _ r=>r.bind fun y=>cL P K bY ops.toList rest y.1 {dY y.2 lZ with C:=h.C} acc).go=some res:=by
  obtain⟨i,m,o⟩:=x;unfold cL at hg;simp only at nN hg hhid hprt;rw[nN]at hg;simp only[hc];rw[←hhid,←hprt];exact hg
 rcases yD hg' with⟨g1,g2⟩|⟨j,want,t,b,g1,g2,g3,g4⟩
 ·exact main a _ (fun _=>rfl) rfl rfl (.inl ⟨iA g1,rfl⟩) g2
 ·obtain⟨q1,q2,_⟩:=SA.put_n (a:=a) (t:=some t) (v:=.bool b)
  have hgt:∀s,(a.put (some t) (.bool b)).get s=a.get s:=fun s=>by
   by_cases ht:t<a.n
   ·rw[SA.get_put ht han]
    split
    ·rename_i e;rw[e,g3]
    ·rfl
   ·rw[SA.put_out ht]
  have hw:=iB (c:=c) g1 g2 g3 (hrd t (gD g1 g2));refine main _ _ hgt q1 q2 ?_ g4;cases hb:(b==want)
  ·exact .inr ⟨by rw[hw,hb],rfl⟩
  ·exact .inl ⟨by rw[hw,hb],rfl⟩
end
section
variable{P:Program}{F:Fence}{n:Nat}{Q:Exit→Act→World→Prop}{bY:Bool}{ops:Array Oper}{pl:List mZ}{h0:H}{oU:bF}{w0:World}
theorem Inv.advance(d:DOK ops.toList pl){K:pY}{res:SA×H}{D:Nat→Prop}{ρ:bF}{c:Act}{w:World}:∀(rest done:List mZ) (a:SA) (h:H) (acc:Acc) (lay:List (Nat×Nat)),pl=done++rest→
 Inv P bY ops.toList done a h acc D lay oU h0 w0 ρ c w→(cL P K bY ops.toList rest a h acc).go=some res→
 ∃zD wU a' h' kA gQ,pl=zD++wU∧Inv P bY ops.toList zD a' h' kA D gQ oU h0 w0 ρ c w∧(cL P K bY ops.toList wU a' h' kA).go=some res∧(∀x r,wU=x::r→cl x.2.2.op=2)
 |[],done,a,h,acc,lay,dM,iv,hg=>⟨done,[],a,h,acc,lay,dM,iv,hg,fun _ _ e=>by cases e⟩
 |x::rest,done,a,h,acc,lay,dM,iv,hg=>by
  by_cases hc:cl x.2.2.op=2
  ·exact⟨done,x::rest,a,h,acc,lay,dM,iv,hg,fun y r e=>by injection e with e _;rw[←e];exact hc⟩
  ·obtain⟨a',h',kA,gQ,r1,r2⟩:=iv.ahead d dM hc hg
   exact Inv.advance d rest (done++[x]) a' h' kA gQ (by rw[dM];simp) r2 r1
theorem mem_edges{o:Oper}{e:Nat}:e∈edges o↔∃x∈o.after,Region.binds .any x=true∧x.on=e:=by
 unfold edges;rw[List.mem_filterMap];constructor
 ·rintro⟨x,hx,h⟩
  refine⟨x,by simpa using hx,?_⟩;split at h
  ·rename_i hb;injection h with h;exact⟨hb,h⟩
  ·cases h
 ·rintro⟨x,hx,h1,h2⟩
  exact⟨x,by simpa using hx,by rw[h1];simp[h2]⟩
theorem draw_go(T:TOK P)(hF:FOK F){K:pY}(hK:KOK P K)(d:DOK ops.toList pl)(r0:HR oU h0 w0){res:SA×H}(hQ:∀aW c' w',AR aW res.1 c'→HR aW res.2 w'→FR oU h0 w0 aW res.2 w'→Q .normal c' w'):
 ∀(fuel:Nat) (todo:List Nat) (eR:Array Bool) (D:Nat→Prop) (done rest:List mZ) (a:SA) (h:H) (acc:Acc) (lay:List (Nat×Nat)) (ρ:bF) (c:Act) (w:World),
 todo.length≤fuel→(∀i,i<ops.size→eR.getD i true=false→i∈todo)→eR.size=ops.size→(∀i,D i↔eR.getD i false=true)→pl=done++rest→
 Inv P bY ops.toList done a h acc D lay oU h0 w0 ρ c w→(cL P K bY ops.toList rest a h acc).go=some res→wpAnyIn F n P .any ops Q fuel eR c w:=by
 intro fuel;have fin:∀(eR:Array Bool) (D:Nat→Prop) (done rest:List mZ) (a:SA) (h:H) (acc:Acc) (lay:List (Nat×Nat)) (ρ:bF) (c:Act) (w:World),
  eR.size=ops.size→(∀i,D i↔eR.getD i false=true)→pl=done++rest→
  Inv P bY ops.toList done a h acc D lay oU h0 w0 ρ c w→(cL P K bY ops.toList rest a h acc).go=some res→Region.ready .any ops eR=[]→Q .normal c w:=by
  intro eR D done rest a h acc lay ρ c w sG hD dM iv hg hr;have dichot:∀i,i<ops.size→¬D i→eR.getD i true=false:=fun i hi hn=>by
   rw[hD,Array.getD_eq_getD_getElem?]at hn;rw[Array.getD_eq_getD_getElem?];have:eR[i]?=some eR[i]:=Array.getElem?_eq_getElem (by omega);rw[this]at hn⊢;simpa using hn
  have allD:∀(k:Nat) (pre:List mZ) (x:mZ) (post:List mZ),pre.length=k→pl=pre++x::post→D x.1:=by
   intro k
   induction k using Nat.strongRecOn with
   |_ k ih=>
    intro pre x post hk he;by_cases hx:D x.1
    ·exact hx
    ·exfalso
     have ex:=d.at_ pre x post he;have hop:ops[x.1]?=some x.2.2:=by simpa using d.op x (by rw[he];simp)
     have cK:x.1<ops.size:=(Array.getElem?_eq_some_iff.1 hop).1;have:x.1∈Region.ready .any ops eR:=mem_ready.2 ⟨dichot _ cK hx,x.2.2,hop,fun e he' hb=>by
      have h1:=ex.edges e.on (mem_edges.2 ⟨e,he',hb,rfl⟩);obtain⟨y,hy,e1⟩:=List.mem_map.1 h1;obtain⟨p2,q2,e2⟩:=gJ hy;have:=ih p2.length (by rw[←hk,e2];simp) p2 y (q2++x::post) rfl (by rw[he,e2];simp);rw[e1]at this;exact(hD _).1 this⟩
     rw[hr]at this;cases this
  cases rest with
  |cons x rest=>exact absurd (allD _ done x rest rfl dM) (iv.notD d dM)
  |nil=>
   have hlay:lay=[]:=by
    cases lay with
    |nil=>rfl
    |cons y lay=>
     exfalso;obtain⟨_,_,_,_,g5,g6⟩:=iv.lays y (by simp);obtain⟨z,hz,e⟩:=List.mem_map.1 g6;obtain⟨p2,q2,e2⟩:=gJ hz;have:=allD _ p2 z q2 rfl (by rw[dM,e2];simp);rw[e]at this;exact g5 this
   subst hlay;have:=Out.ret_go hg;subst this;refine hQ ρ c w ⟨iv.an,iv.size,fun t=>?_,iv.marks,iv.defers⟩ iv.hr iv.fr;refine iv.tm t fun x hx _=>?_
   obtain⟨p2,q2,e2⟩:=gJ hx;exact allD _ p2 x q2 rfl (by rw[dM,e2];simp)
 induction fuel with
 |zero=>
  intro todo eR D done rest a h acc lay ρ c w htodo AZ sG hD dM iv hg;have tJ:Region.ready .any ops eR=[]:=by
   cases hr:Region.ready .any ops eR with
   |nil=>rfl
   |cons i is=>
    have hi:i∈Region.ready .any ops eR:=by rw[hr];simp
    obtain⟨h1,o,h2,_⟩:=mem_ready.1 hi;have:=AZ i (Array.getElem?_eq_some_iff.1 h2).1 h1;cases todo with
    |nil=>cases this
    |cons=>simp at htodo
  exact⟨tJ,fin eR D done rest a h acc lay ρ c w sG hD dM iv hg tJ⟩
 |succ fuel ih=>
  intro todo eR D done0 rest0 a0 h00 acc0 lay0 ρ c w htodo AZ sG hD hpl0 iv0 hg0;obtain⟨done,rest,a,h,acc,lay,dM,iv,hg,hhead⟩:=Inv.advance d rest0 done0 a0 h00 acc0 lay0 hpl0 iv0 hg0;refine⟨fin eR D done rest a h acc lay ρ c w sG hD dM iv hg,fun i hi=>?_⟩;obtain⟨h1,o,h2,h3⟩:=mem_ready.1 hi;have hilt:i<ops.size:=(Array.getElem?_eq_some_iff.1 h2).1;have hnD:¬D i:=fun hx=>by
   rw[hD,Array.getD_eq_getD_getElem?]at hx;rw[Array.getD_eq_getD_getElem?]at h1;have:eR[i]?=some eR[i]:=Array.getElem?_eq_getElem (by omega);rw[this]at hx h1;simp at hx h1;rw[hx]at h1;cases h1
  obtain⟨x,hx,hxi⟩:=List.mem_map.1 (d.all i (by simpa using hilt));have hxo:x.2.2=o:=by
   have:=d.op x hx;rw[hxi]at this;have h2':ops.toList[i]?=some o:=by simpa using h2
   rw[h2']at this;injection this with this;exact this.symm
  have hed:∀e∈edges x.2.2,D e:=fun e he=>by
   rw[hxo]at he;obtain⟨y,hy,hb,rfl⟩:=mem_edges.1 he;exact(hD _).2 (h3 y hy hb)
  have hxD:¬D x.1:=by rw[hxi];exact hnD
  have next:∀(zD wU:List mZ) (a':SA) (h':H) (kA:Acc) (gQ:List (Nat×Nat)) (aW:bF) (c':Act) (w':World),pl=zD++wU→
   Inv P bY ops.toList zD a' h' kA (fun j=>D j∨j=x.1) gQ oU h0 w0 aW c' w'→(cL P K bY ops.toList wU a' h' kA).go=some res→wpAnyIn F n P .any ops Q fuel (eR.setIfInBounds i true) c' w':=by
   intro zD wU a' h' kA gQ aW c' w' e1 iv' hg';have himem:i∈todo:=AZ i hilt h1;refine ih (todo.erase i) _ _ zD wU a' h' kA gQ aW c' w' (by rw[List.length_erase_of_mem himem];omega) (fun j hj hf=>?_) (by simp[sG]) (fun j=>?_) e1 iv' hg'
   ·by_cases e:j=i
    ·subst e
     rw[Array.getD_eq_getD_getElem?,Array.getElem?_setIfInBounds_self_of_lt (by omega)]at hf;simp at hf
    ·rw[Array.getD_eq_getD_getElem?,Array.getElem?_setIfInBounds_ne (Ne.symm e),←Array.getD_eq_getD_getElem?]at hf
     exact(List.mem_erase_of_ne e).2 (AZ j hj hf)
   ·by_cases e:j=i
    ·subst e
     rw[Array.getD_eq_getD_getElem?,Array.getElem?_setIfInBounds_self_of_lt (by omega)];simp[hxi]
    ·rw[Array.getD_eq_getD_getElem?,Array.getElem?_setIfInBounds_ne (Ne.symm e),←Array.getD_eq_getD_getElem?,←hD,hxi]
     simp[e]
  rw[←hxi];have next':=next
  rw[←hxi]at next';rw[dM]at hx;rcases List.mem_append.1 hx with hx|hx
  ·exact iv.exec T hF d dM hx hxD hed fun gQ aW c' w' iv'=>next' done rest a h acc gQ aW c' w' dM iv' hg
  ·cases rest with
   |nil=>cases hx
   |cons y rest=>
    have nN:=hhead y rest rfl;rcases List.mem_cons.1 hx with rfl|hx
    ·exact iv.effect T hF hK d dM r0 nN hed hg fun a' h' aW c' w' hg' iv'=>next' (done++[x]) rest a' h' acc lay aW c' w' (by rw[dM];simp) iv' hg'
    ·exfalso
     have ey:=d.at_ done y rest dM;have hb:=ey.eager nN x hx;obtain⟨p2,q2,e2⟩:=gJ hx;exact iv.notD d dM (iv.mask d dM _ (done++y::p2) x q2 rfl (by rw[dM,e2];simp) hed _ hb)
theorem draw_ok(T:TOK P)(hm:P.follows .mixedOrders=true)(hF:FOK F){K:pY}(hK:KOK P K){id:Nat}{a a':SA}{c:Act}{ρ:bF}{h h':H}{w:World}(dE:okDraw ops.toList=true)
 (hg:(cL P K bY ops.toList (plan ops.toList) a h []).go=some (a',h'))(ha:AR ρ a c)(hr:HR ρ h w)(hQ:∀aW c' w',AR aW a' c'→HR aW h' w'→FR ρ h w aW h' w'→Q .normal c' w'):(Code.region id ops true).wpIn F n P Q c w:=by
 have d:=okDraw_ok dE;refine wpIn_region_any hm ?_;have hr1:HR ρ h {w with drawn:=w.drawn+1}:=hr.same rfl;have hgetD:∀i (b:Bool),(Array.replicate ops.size false).getD i b=if i<ops.size then false else b:=fun i b=>by
  rw[Array.getD_eq_getD_getElem?,Array.getElem?_replicate];split<;>rfl
 refine draw_go T hF hK d hr1 (res:=(a',h')) (fun aW c' w' p1 p2 p3=>hQ aW c' w' p1 p2 ((FR.same (w':={w with drawn:=w.drawn+1}) hr rfl).trans hr hr1 p3)) ops.size (List.range ops.size) _ (fun _=>False) [] (plan ops.toList) a h [] [] ρ c _ (by simp) (fun i hi _=>by simpa using hi) (by simp) (fun i=>?_) rfl ?_ hg
 ·rw[hgetD];simp
 ·have hk:cV h (([]:List (Nat×Nat)).map (·.2))=h:=rfl
  refine⟨fun _ h=>h.elim,(fun x hx=>by cases hx),(fun x hx=>by cases hx),ha.n,ha.size,ha.marks,ha.defers,fun t _=>ha.at_ t,fun t ht=>?_,hr.n,(by rw[hk];exact hr1),(by rw[hk];exact .refl hr1),(fun x hx=>by cases hx),by simp,by simp,(fun x hx=>by cases hx),(fun x hx=>by cases hx)⟩;have:=ha.at_ t
  rwa [Array.getD_eq_getD_getElem?,Array.getElem?_eq_none (by have:=ha.size;omega)]at this
end
def exOf:SX→Exit
 |.normal=>.normal
 |.exit id=>.exit id
 |.ret=>.ret
theorem least{p:Nat→Prop}(h:∃k,p k):∃k,p k∧∀j,p j→k≤j:=by
 obtain⟨k,hk⟩:=h
 induction k using Nat.strongRecOn with
 |_ k ih=>
  by_cases hx:∃j,j<k∧p j
  ·obtain⟨j,h1,h2⟩:=hx;exact ih j h1 h2
  ·exact⟨k,hk,fun j hj=>Nat.le_of_not_lt fun cK=>hx ⟨j,cK,hj⟩⟩
section
variable{P:Program}{F:Fence}{n:Nat}{Q:Exit→Act→World→Prop}
theorem loop_k{c:Code}{a:Act}{w:World}(I:Nat→Act→World→Prop){k:Nat}(h0:I k a w)(round:∀k a w,I k a w→c.wpIn F n P (Exit.then (fun a' w'=>∃j,j<k∧I j a' w') Q) a w):
 (Code.loop c).wpIn F n P Q a w:=by
 classical
 let μ:Act→World→Nat:=fun a w=>if h:∃k,I k a w then Classical.choose (least h)else 0
 have hμ:∀a w,(h:∃k,I k a w)→I (μ a w) a w∧∀j,I j a w→μ a w≤j:=fun a w h=>by
  have:μ a w=Classical.choose (least h):=dif_pos h;rw[this];exact Classical.choose_spec (least h)
 refine wpIn_loop (fun a w=>∃k,I k a w) μ ⟨k,h0⟩ fun a w hI=>?_
 refine wpIn_mono (round _ a w (hμ a w hI).1) fun e a' w' h=>?_
 cases e with
 |normal=>
  obtain⟨j,hj,hI'⟩:=h;exact⟨⟨j,hI'⟩,Nat.lt_of_le_of_lt ((hμ a' w' ⟨j,hI'⟩).2 j hI') hj⟩
 |_=>exact h
theorem HR.loop{ρ:bF}{h:H}{w:World}{l:Nat}{p:Pl}{st:LoopState}{oW:Option Code}{tmps:Tr SV}{m:Nat}{ps:List Nat}{wL body:Code}(hr:HR ρ h w)(hg:h.get l=.loop st oW tmps m ps wL body)(dE:okR h l=true)(hp:ρ l=some p):
 ∃L,w.heap[p.b]?=some (.loop L)∧L.state=st∧L.pending=oW∧L.params.toList=ps∧L.assign=wL∧L.body=body∧(eF wL=true∧eF body=true)∧TR ρ tmps m L.tmps∧
  ∀st' rH,HR ρ (h.put l (.loop st' rH tmps m ps wL body)) {w with heap:=w.heap.setIfInBounds p.b (.loop {L with state:=st',pending:=rH})}∧
   FR ρ h w ρ (h.put l (.loop st' rH tmps m ps wL body)) {w with heap:=w.heap.setIfInBounds p.b (.loop {L with state:=st',pending:=rH})}:=by
 have hv:live h l:=by unfold live;rw[hg];simp
 obtain⟨_,q,hq,_,ho⟩:=hr.at_ l hv;rw[hp]at hq;injection hq with hq;subst hq;rw[hg]at ho;obtain⟨hR,L,h1,h2,h3,h4,h5,h6,h7,h8⟩:=ho;refine⟨L,h1,h2,h3,h4,h5,h6,h7,h8,fun st' rH=>hr.setO hv hp hR h1 trivial dE ⟨rfl,rfl,fun _ _=>rfl⟩ (by simp) ⟨hR,_,Array.getElem?_setIfInBounds_self_of_lt (dP h1),rfl,rfl,h4,h5,h6,h7,h8⟩⟩
theorem lQ{w:World}{l:Nat}{L:Loop}(h:w.heap[l]?=some (.loop L)):(Instr.getLoop l).run P w=.ok L w:=by simp[Instr.getLoop,getObj,Sem.run,h]
theorem nS{w:World}{l:Nat}{L:Loop}(o:Obj)(h:w.heap[l]?=some (.loop L)):(setObj l o).run P w=.ok () {w with heap:=w.heap.setIfInBounds l o}:=by simp[setObj,Sem.run,h]
theorem endLoop_ok{ρ:bF}{h h':H}{w:World}{l:Nat}{p:Pl}{sa iS:SA}{x:SX}(hr:HR ρ h w)(hp:ρ l=some p)(hg:(endLoop l h sa).go=some (x,iS,h')):
 iS=sa∧∃w' jump,(Instr.endLoop p.b).run P w=.ok jump w'∧HR ρ h' w'∧FR ρ h w ρ h' w'∧((jump=none∧x=.normal)∨(jump=some .ret∧x=.ret)∨∃id,jump=some (.exit id)∧x=.exit id):=by
 unfold endLoop at hg;split at hg
 ·rename_i st oW tmps m ps wL body hgl
  have dE:okR h l=true:=by
   cases ho:okR h l
   ·rw[ho]at hg;cases st<;>cases hg
   ·rfl
  rw[dE]at hg;obtain⟨L,h1,h2,h3,h4,h5,h6,_,h7,h8⟩:=hr.loop hgl dE hp;obtain⟨q1,q2⟩:=h8 .exhausted oW;have dZ:st≠.busy→(Instr.endLoop p.b).run P w=.ok oW {w with heap:=w.heap.setIfInBounds p.b (.loop {L with state:=.exhausted,pending:=oW})}:=fun hb=>by
   have e:(L.state==LoopState.busy)=false:=by rw[h2];cases st<;>first|rfl|exact absurd rfl hb
   have eL:({L with state:=.exhausted,pending:=oW}:Loop)={L with state:=.exhausted}:=by rw[←h3]
   rw[eL];simp only[Instr.endLoop,Sem.run_bind,lQ h1,Result.andThen_ok,e];simp[Sem.run_bind,nS _ h1,h3]
  have main:st≠.busy→(match oW with
   |none=>Out.ret (SX.normal,sa,h.put l (.loop .exhausted oW tmps m ps wL body))
   |some .ret=>.ret (.ret,sa,h.put l (.loop .exhausted oW tmps m ps wL body))
   |some (.exit id)=>.ret (.exit id,sa,h.put l (.loop .exhausted oW tmps m ps wL body))
   |_=>.fail).go=some (x,iS,h')→iS=sa∧∃w' jump,(Instr.endLoop p.b).run P w=.ok jump w'∧HR ρ h' w'∧FR ρ h w ρ h' w'∧((jump=none∧x=.normal)∨(jump=some .ret∧x=.ret)∨∃id,jump=some (.exit id)∧x=.exit id):=by
   intro hb hg;split at hg
   ·have:=Out.ret_go hg;injection this with e1 e2;injection e2 with e2 e3
    subst e1;subst e2;subst e3;exact⟨rfl,_,_,dZ hb,q1,q2,.inl ⟨rfl,rfl⟩⟩
   ·have:=Out.ret_go hg;injection this with e1 e2;injection e2 with e2 e3
    subst e1;subst e2;subst e3;exact⟨rfl,_,_,dZ hb,q1,q2,.inr (.inl ⟨rfl,rfl⟩)⟩
   ·have:=Out.ret_go hg;injection this with e1 e2;injection e2 with e2 e3
    subst e1;subst e2;subst e3;exact⟨rfl,_,_,dZ hb,q1,q2,.inr (.inr ⟨_,rfl,rfl⟩)⟩
   ·cases hg
  cases st with
  |busy=>cases hg
  |ready=>exact main (by simp) hg
  |done=>exact main (by simp) hg
  |exhausted=>exact main (by simp) hg
 ·cases hg
theorem jD(T:TOK P)(hm:P.follows .mixedOrders=true)(hF:FOK F){K:pY}(hK:KOK P K){bY rnd:Bool}(hrnd:rnd=false→F.round=none):∀(c:Code) {Q:Exit→Act→World→Prop} (sa iS:SA) (h h':H) (x:SX) (ρ:bF) (a:Act) (w:World),
 eF c=true→(code P K bY rnd c sa h).go=some (x,iS,h')→AR ρ sa a→HR ρ h w→(∀aW a' w',AR aW iS a'→HR aW h' w'→FR ρ h w aW h' w'→Q (exOf x) a' w')→c.wpIn F n P Q a w
 |.skip,Q,sa,iS,h,h',x,ρ,a,w,_,hg,ha,hr,hq=>by
  have:=Out.ret_go hg;injection this with e1 e2;injection e2 with e2 e3;subst e1;subst e2;subst e3;exact wpIn_skip (hq ρ a w ha hr (.refl hr))
 |.exit id,Q,sa,iS,h,h',x,ρ,a,w,_,hg,ha,hr,hq=>by
  have:=Out.ret_go hg;injection this with e1 e2;injection e2 with e2 e3;subst e1;subst e2;subst e3;exact wpIn_exit (hq ρ a w ha hr (.refl hr))
 |.ret,Q,sa,iS,h,h',x,ρ,a,w,_,hg,ha,hr,hq=>by
  have:=Out.ret_go hg;injection this with e1 e2;injection e2 with e2 e3;subst e1;subst e2;subst e3;exact wpIn_ret (hq ρ a w ha hr (.refl hr))
 |.region id ops false,Q,sa,iS,h,h',x,ρ,a,w,dE,hg,ha,hr,hq=>by
  obtain⟨y,g1,g2⟩:=Out.bind_go hg;have:=Out.ret_go g2;injection this with e1 e2;injection e2 with e2 e3;subst e1;subst e2;subst e3;have dS:∀o∈ops.toList,dR o.op=true:=List.all_eq_true.1 dE;have:=pA (n:=n) (Q:=Q) T hF hK dS ops.toList 0 sa y.1 a ρ h y.2 w rfl g1 ha hr hq;rw[←List.range_eq_range',Array.length_toList]at this;exact wpIn_region this
 |.region id ops true,Q,sa,iS,h,h',x,ρ,a,w,dE,hg,ha,hr,hq=>by
  obtain⟨y,g1,g2⟩:=Out.bind_go hg;have:=Out.ret_go g2;injection this with e1 e2;injection e2 with e2 e3;subst e1;subst e2;subst e3;exact draw_ok T hm hF hK dE g1 ha hr hq
 |.seq c d,Q,sa,iS,h,h',x,ρ,a,w,dE,hg,ha,hr,hq=>by
  simp only[eF,Bool.and_eq_true]at dE;obtain⟨⟨x1,BA,h1⟩,g1,g2⟩:=Out.bind_go hg;refine wpIn_seq (jD T hm hF hK hrnd c sa BA h h1 x1 ρ a w dE.1 g1 ha hr fun dQ a1 w1 p1 p2 p3=>?_);cases x1 with
  |normal=>exact jD T hm hF hK hrnd d BA iS h1 h' x dQ a1 w1 dE.2 g2 p1 p2 fun aW a' w' q1 q2 q3=>hq aW a' w' q1 q2 (p3.trans hr p2 q3)
  |exit j=>
   have:=Out.ret_go g2;injection this with e1 e2;injection e2 with e2 e3;subst e1;subst e2;subst e3;exact hq _ _ _ p1 p2 p3
  |ret=>
   have:=Out.ret_go g2;injection this with e1 e2;injection e2 with e2 e3;subst e1;subst e2;subst e3;exact hq _ _ _ p1 p2 p3
 |.cond o c d,Q,sa,iS,h,h',x,ρ,a,w,dE,hg,ha,hr,hq=>by
  simp only[eF,Bool.and_eq_true]at dE;unfold code at hg;split at hg
  ·rename_i b hb
   have hv:=ha.eval dE.1.1;rw[hb]at hv;simp only[VR]at hv;refine wpIn_cond hv ?_;simp only[Out.go]at hg;cases b with
   |true=>
    rw[if_pos rfl];exact jD T hm hF hK hrnd c sa iS h h' x ρ a w dE.1.2 hg ha hr hq
   |false=>
    rw[if_neg (by simp)];exact jD T hm hF hK hrnd d sa iS h h' x ρ a w dE.2 hg ha hr hq
  ·cases hg
 |.block id c,Q,sa,iS,h,h',x,ρ,a,w,dE,hg,ha,hr,hq=>by
  obtain⟨⟨x1,BA,h1⟩,g1,g2⟩:=Out.bind_go hg;refine wpIn_block (jD T hm hF hK hrnd c sa BA h h1 x1 ρ a w dE g1 ha hr fun dQ a1 w1 p1 p2 p3=>?_);cases x1 with
  |normal=>
   have:=Out.ret_go g2;injection this with e1 e2;injection e2 with e2 e3;subst e1;subst e2;subst e3;exact hq _ _ _ p1 p2 p3
  |ret=>
   have:=Out.ret_go g2;injection this with e1 e2;injection e2 with e2 e3;subst e1;subst e2;subst e3;exact hq _ _ _ p1 p2 p3
  |exit j=>
   simp only[exOf,Exit.inBlock];simp only at g2;split at g2
   ·rename_i he
    have he:=Nat.eq_of_beq_eq_true he;have:=Out.ret_go g2;injection this with e1 e2;injection e2 with e2 e3;subst e1;subst e2;subst e3;rw[if_pos he];exact hq _ _ _ p1 p2 p3
   ·rename_i he
    have:=Out.ret_go g2;injection this with e1 e2;injection e2 with e2 e3;subst e1;subst e2;subst e3;rw[if_neg (fun e=>by rw[e]at he;simp at he)];exact hq _ _ _ p1 p2 p3
 |.loop c,Q,sa,iS,h,h',x,ρ,a,w,dE,hg,ha,hr,hq=>by
  refine loop_k (fun k a1 w1=>∃BA h1 dQ,(rounds (code P K bY rnd c) k BA h1).go=some (x,iS,h')∧AR dQ BA a1∧HR dQ h1 w1∧FR ρ h w dQ h1 w1) (k:=LF) ⟨sa,h,ρ,hg,ha,hr,.refl hr⟩ ?_;rintro k a1 w1 ⟨BA,h1,dQ,r1,r2,r3,r4⟩;cases k with
  |zero=>cases r1
  |succ k=>
   obtain⟨⟨x2,sa2,h2⟩,g1,g2⟩:=Out.bind_go r1;refine jD T hm hF hK hrnd c BA sa2 h1 h2 x2 dQ a1 w1 dE g1 r2 r3 fun iJ a2 w2 p1 p2 p3=>?_
   cases x2 with
   |normal=>exact⟨k,by omega,sa2,h2,iJ,g2,p1,p2,r4.trans hr r3 p3⟩
   |exit j=>
    have:=Out.ret_go g2;injection this with e1 e2;injection e2 with e2 e3;subst e1;subst e2;subst e3;exact hq _ _ _ p1 p2 (r4.trans hr r3 p3)
   |ret=>
    have:=Out.ret_go g2;injection this with e1 e2;injection e2 with e2 e3;subst e1;subst e2;subst e3;exact hq _ _ _ p1 p2 (r4.trans hr r3 p3)
 |.rangeFunc f ps wL body,Q,sa,iS,h,h',x,ρ,a,w,dE,hg,ha,hr,hq=>by
  simp only[eF,Bool.and_eq_true]at dE;unfold code at hg;split at hg
  ·rename_i hn6
   have hn6:=aF.1 hn6;have hro:=hrnd rfl;simp only at hg;obtain⟨tk,g1,hg⟩:=Out.bind_go hg;let p0:Pl:=⟨w.heap.size,0,1,1⟩;let w1:World:={w with heap:=w.heap.push (.deferred (some []))};obtain⟨q1,q2⟩:=hr.push (p:=p0) (o:=.defd) (x:=.deferred (some [])) (by omega) (by simp) rfl ⟨by simp[p0],by simp[p0]⟩;have f1:=q2;let dQ:=ρ.upd h.n p0;let h1:=h.new .defd;have hh1:h1.n=h.n+1:=rfl;let p2:Pl:=⟨w1.heap.size,0,1,1⟩;refine wpIn_rangeFunc fun fn _=>?_
   let L:Loop:={state:=.ready,pending:=none,fn,tmps:=a.tmps,params:=ps,assign:=wL,body,defers:=w.heap.size};let w2:World:={w1 with heap:=w1.heap.push (.loop L)};have hle1:ρ.le dQ:=f1.le;have hTR:TR (dQ.upd h1.n p2) sa.t sa.n a.tmps:=⟨ha.size,ha.n,fun i=>(ha.at_ i).mono (hle1.trans (bF.le_upd p2 (q1.fresh _ (Nat.le_refl _))))⟩;obtain⟨q3,f2⟩:=q1.push (p:=p2) (o:=.loop .ready none sa.t sa.n ps.toList wL body) (x:=.loop L) (by show h.n+1<1000000;omega) (by simp) rfl ⟨by simp[p2],L,by show(w1.heap.push (.loop L))[w1.heap.size]?=_;simp,rfl,rfl,rfl,rfl,rfl,⟨dE.1.2,dE.2⟩,hTR⟩;let iJ:=dQ.upd h1.n p2;let h2:=h1.new (.loop .ready none sa.t sa.n ps.toList wL body);have hle2:ρ.le iJ:=hle1.trans f2.le;have f12:FR ρ h w iJ h2 w2:=f1.trans hr q1 f2;have hρl:iJ h1.n=some p2:=bF.upd_same _ _ _;have hρr:iJ h.n=some p0:=f2.le _ _ (bF.upd_same _ _ _);have hfv:=(ha.eval dE.1.1).mono hle2;have ha2:AR iJ {sa with marks:=h.n::sa.marks} {a with defers:=[{target:=.collected w.heap.size,args:=#[]}]++a.defers}:=by
    have hb:=ha.mono hle2;refine⟨hb.n,hb.size,hb.at_,fun m hm=>?_,?_⟩
    ·rcases List.mem_cons.1 hm with e|hm
     ·rw[e];exact⟨_,hρr⟩
     ·exact hb.marks m hm
    ·show _::_=_
     rw[List.map_cons,←hb.defers];show _=tH (blk iJ h.n)::a.defers;have:blk iJ h.n=w.heap.size:=by unfold blk;rw[hρr]
     rw[this];rfl
   rcases target_ok g1 with⟨g,first,cap,he,rfl⟩|⟨l,_,rfl⟩
   ·simp only at hg
    obtain⟨y,k1,k2⟩:=Out.bind_go hg;have he':sa.eval f=_:=(by cases f<;>rfl:sa.eval f=SA.eval {sa with marks:=h.n::sa.marks} f).trans he;rw[he']at hfv;simp only[VR]at hfv;obtain⟨fs,cs,hfe,hfs,oG⟩:=hfv;obtain⟨⟨fn',e1,e2,e3⟩,e4⟩:=hK.fn _ _ _ _ _ k1;have dS:bM iJ (first++[.yield h1.n]++cap) (fs.toList++[.func (.yield p2.b) #[] #[]]++cs.toList):=(hfs.append (by simp only[bM,VR];exact⟨⟨p2,hρl,rfl⟩,trivial⟩)).append oG;have nO:=e4 iJ w2 _ (n-1) q3 dS;refine⟨p2.b,[{target:=.collected w.heap.size,args:=#[]}],w2,{target:=.fn (.func g) cs,args:=fs++#[.func (.yield p2.b) #[] #[]]},w2,g,fs++#[.func (.yield p2.b) #[] #[]]++cs,w2,?_,?_,?_,?_,?_,?_⟩
    ·rw[hro]
     rfl
    ·simp only[rangeCall,resolve,hfe,Deferred.ofValue,Sem.run_bind,Sem.run_pure,Result.andThen_ok]
     simp[Act.eval]
    ·exact fun f' _=>hF.fn f'
    ·simp only[invoke]
     exact jR e1 e2 e3
    ·intro hd;rw[hF.depth]at hd;cases hd
    ·have yW:(fs.toList++[Value.func (.yield p2.b) #[] #[]]++cs.toList).toArray=fs++#[.func (.yield p2.b) #[] #[]]++cs:=by simp
     rw[yW]at nO;refine(hF.calls nO).mono fun e w3 he'=>?_
     obtain⟨gV,u,rfl,r1,r2,r3⟩:=he';have hρl3:gV h1.n=some p2:=r3.le _ _ hρl;obtain⟨s1,w4,jump,s2,s3,s4,s5⟩:=endLoop_ok (P:=P) r2 hρl3 k2;subst s1;have ha3:=ha2.mono r3.le;have f4:=(f12.trans hr q3 r3).trans hr r2 s4;refine⟨jump,w4,s2,?_⟩;rcases s5 with⟨rfl,rfl⟩|⟨rfl,rfl⟩|⟨id,rfl,rfl⟩
     ·exact hq gV _ w4 ha3 s3 f4
     ·exact wpIn_ret (hq gV _ w4 ha3 s3 f4)
     ·exact wpIn_exit (hq gV _ w4 ha3 s3 f4)
   ·cases hg
  ·cases hg
 |.scope _,_,_,_,_,_,_,_,_,_,dE,_,_,_,_=>by cases dE
 |.label _,_,_,_,_,_,_,_,_,_,dE,_,_,_,_=>by cases dE
 |.goto _,_,_,_,_,_,_,_,_,_,dE,_,_,_,_=>by cases dE
 |.refuse _,_,_,_,_,_,_,_,_,_,dE,_,_,_,_=>by cases dE
end
end Go.Proofs.YtnkcbfgfkadoaaaGreat.Sx
