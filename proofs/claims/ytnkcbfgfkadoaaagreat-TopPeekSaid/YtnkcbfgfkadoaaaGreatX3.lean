/- Part 3 of the proof of TopPeek. -/
import Derived.Test.YtnkcbfgfkadoaaaGreatX2
set_option linter.all false
namespace Go.Proofs.YtnkcbfgfkadoaaaGreat.Sx
open Go
section
variable{P:Program}{ρ:bF}{w:World}
theorem free0(a n:Nat):yN (0,0) a n:=fun i _ _=>by simp
theorem row_ok{t s lc:Nat}{l:List SV}{cs:Array Value}(hf:ρ lc=none)(hv:bM ρ l cs.toList):
 OR (ρ.upd lc ⟨w.heap.size,0,cs.size,s⟩) ⟨w.heap.size,0,cs.size,s⟩ {w with heap:=w.heap.push (.cells cs t (0,0))} (.cells t s l):=by
 have hle:=bF.le_upd (ρ:=ρ) (l:=lc) ⟨w.heap.size,0,cs.size,s⟩ hf;refine⟨rfl,by have:=hv.length;simp at this;simp;omega,cs,(0,0),⟨_,by simp;rfl⟩,free0 _ _,by simp,fun i v hi=>?_⟩;obtain⟨u,h1,h2⟩:=(hv.mono hle).get hi;exact⟨u,by simpa using h1,h2⟩
theorem wP{place:Nat→Option (Nat×Nat)}:∀(ps:List (Nat×SV)) (cs gF:List SV),(fill place cs ps).go=some gF→gF.length=cs.length
 |[],cs,gF,h=>by rw[←Out.ret_go h]
 |(i,v)::ps,cs,gF,h=>by
  unfold fill at h;cases hp:place i with
  |none=>rw[hp]at h;cases h
  |some x=>
   rw[hp]at h;simp only at h;split at h
   ·rw[wP ps _ gF h,uA]
   ·cases h
theorem al_ok(T:TOK P){lc:Nat}{AU:Operand→SV}{iR:Operand→Value}{o:Oper}{so:SO}{mk:Nat→SV}(hg:(al P AU o.op).go=some (so,mk))(hf:ρ lc=none)
 (nB:∀x∈o.op.operands,VR ρ (AU x) (iR x)):∃obj p u,(execOp iR o).run P w=.ok (.value u) {w with heap:=w.heap.push obj}∧p.b=w.heap.size∧so≠.dead∧
  OR (ρ.upd lc p) p {w with heap:=w.heap.push obj} so∧VR (ρ.upd lc p) (mk lc) u:=by
 obtain⟨dst,op,type,pos,after,guard⟩:=o;simp only at hg nB;unfold al at hg;split at hg
 case h_1 t x=>
  have hx:=nB x (by simp[Op.operands]);have he:=Out.ret_go hg;injection he with e1 e2;subst e1;subst e2;refine⟨.cells (iR x).cells t (0,0),⟨w.heap.size,0,(iR x).cells.size,recSz P t⟩,.pointer (some ⟨w.heap.size,0,none⟩),?_,rfl,by simp,row_ok hf (oZ hx),?_⟩
  ·simp[execOp,Instr.box,newVar,newRow]
  ·simp only[VR];exact⟨_,bF.upd_same _ _ _,by simp⟩
 case h_2 t=>
  obtain⟨z,hz,hg⟩:=Out.bind_go hg;obtain⟨it,zv,hi,hzv,hzr,cK⟩:=xY T hz;have he:=Out.ret_go hg;injection he with e1 e2;subst e1;subst e2;refine⟨.cells zv.cells t (0,0),⟨w.heap.size,0,zv.cells.size,recSz P t⟩,.pointer (some ⟨w.heap.size,0,none⟩),?_,rfl,by simp,row_ok hf (oZ hzr),?_⟩
  ·simp[execOp,Instr.alloc,newVar,newRow,iX hi hzv]
  ·simp only[VR];exact⟨_,bF.upd_same _ _ _,by simp⟩
 case h_3 t n parts=>
  split at hg
  ·rename_i e hu
   split at hg
   ·rename_i yA
    simp only[Bool.and_eq_true]at yA;have hs0:=aF.1 yA.1;have hsm:=Nat.le_of_ble_eq_true yA.2;have fS:sz P e≠0:=by omega
    obtain⟨z,hz,hg⟩:=Out.bind_go hg;obtain⟨cs,hfl,hg⟩:=Out.bind_go hg;obtain⟨it,zv,hi,hzv,hzr,cK⟩:=xY T hz;have nN:=oZ hzr;have he:=Out.ret_go hg;injection he with e1 e2;subst e1;subst e2;have hzs:=(T.zero e it zv cK hi hzv).2;have sG:sz P e=it.size:=by simp[sz,hi]
    have hlen:=nN.length;simp at hlen;have hm:bM ρ ((parts.toList.map fun p=>(p.1,AU p.2)).map (·.2)) ((parts.map fun(x:Nat×Operand)=>(x.1,iR x.2)).toList.map (·.2)):=by
     have:=yS (ρ:=ρ) (AU:=AU) (iR:=iR) parts.toList fun x hx=>nB x.2 (by
      simp only[Op.operands,List.mem_toArray,List.mem_map];exact⟨x,by simpa using hx,rfl⟩)
     simpa using this
    have hm1:(parts.toList.map fun p=>(p.1,AU p.2)).map (·.1)=(parts.map fun(x:Nat×Operand)=>(x.1,iR x.2)).toList.map (·.1):=by simp[Function.comp_def]
    have h0:bM ρ ((List.range (n*sz P e)).map fun i=>z.cells.getD (i%z.cells.length) iK) ((Array.range (n*sz P e)).map (zv.cells[·%zv.cells.size]!)).toList:=by
     refine bM.of_get (by simp) fun i v tU=>?_
     rw[List.getElem?_map]at tU;rcases Nat.lt_or_ge i (n*sz P e)with cK|wQ
     ·rw[List.getElem?_range cK]at tU
      simp only[Option.map_some]at tU;injection tU with tU;subst tU;have hmod:i%z.cells.length<z.cells.length:=Nat.mod_lt _ (by omega);obtain⟨u,g1,g2⟩:=nN.get (List.getElem?_eq_getElem hmod);refine⟨u,?_,by rw[List.getD_eq_getElem?_getD,List.getElem?_eq_getElem hmod];exact g2⟩;have g1':zv.cells[i%z.cells.length]?=some u:=by simpa using g1
      have hb:i%zv.cells.size<zv.cells.size:=by rw[←hlen];exact hmod
      simp only[Array.toList_map,Array.toList_range,List.getElem?_map,List.getElem?_range cK,Option.map_some];rw[getElem!_pos zv.cells (i%zv.cells.size) hb];rw[hlen,Array.getElem?_eq_getElem hb]at g1';exact g1'
     ·rw[List.getElem?_eq_none (by simpa using wQ)]at tU
      cases tU
    obtain⟨zs,h1,h2⟩:=xZ _ _ _ _ _ hfl hm1 hm h0;have hzl:zs.size=n*sz P e:=by
     have h3:=h2.length;rw[wP _ _ _ hfl]at h3;simpa using h3.symm
    refine⟨.cells zs e (0,0),⟨w.heap.size,0,zs.size,sz P e⟩,.slice (some ⟨w.heap.size,0,none⟩) n n,?_,rfl,by simp,row_ok hf h2,?_⟩
    ·have dZ:(Instr.buildSlice t n (parts.map fun(x:Nat×Operand)=>(x.1,iR x.2))).run P w=.ok (.slice (some ⟨w.heap.size,0,none⟩) n n) {w with heap:=w.heap.push (.cells zs e (0,0))}:=by
      simp only[Instr.buildSlice,Sem.run_bind,bN hu,Result.andThen_ok,qA fS];rw[if_neg (by omega)];by_cases h00:n*sz P e=0
      ·rw[if_pos h00]
       have h1':Instr.fill (fun i=>some (i*sz P e,sz P e)) ((Array.range (n*sz P e)).map fun x=>(#[]:Array Value)[x%(#[]:Array Value).size]!) (parts.map fun(x:Nat×Operand)=>(x.1,iR x.2)).toList=some zs:=by
        rw[←h1,h00,Array.eq_empty_of_size_eq_zero (xs:=(Array.range 0).map _) (by simp),Array.eq_empty_of_size_eq_zero (xs:=(Array.range 0).map _) (by simp)]
       simp only[Sem.run_bind,Sem.run_pure,Result.andThen_ok,h1'];simp[newRow]
      ·rw[if_neg h00]
       simp only[Sem.run_bind,iX hi hzv,Sem.run_pure,Result.andThen_ok,h1];simp[newRow]
     simp[execOp,dZ]
    ·simp only[VR]
     refine⟨_,n,rfl,Nat.le_refl _,by unfold xH;have:=Nat.le_mul_of_pos_right n hs0;omega,fun c0 hc=>(by injection hc),_,bF.upd_same _ _ _,fun _=>⟨by simp,?_⟩⟩;simp only[Nat.zero_add];rw[hzl];exact Nat.le_refl _
   ·cases hg
  ·cases hg
 case h_4 t a b=>
  have ha:=nB a (by simp[Op.operands]);have hb:=nB b (by simp[Op.operands]);split at hg
  ·rename_i e k n k' m hu hea heb
   split at hg
   ·rename_i ie AV
    split at hg
    ·rename_i yA hz
     simp only[Bool.and_eq_true]at yA;have hs1:=Nat.eq_of_beq_eq_true yA.1;have hb8:=Nat.le_of_ble_eq_true yA.2;obtain⟨hc,pU⟩:=Out.all_go hg;have he:=Out.ret_go pU;clear hg pU;have c1:0≤n:=by simpa using hc (decide (0≤n)) (by simp)
     have c2:n=m:=by simpa using hc (decide (n=m)) (by simp)
     have c3:n≤1000000000:=by simpa using hc (decide (n≤1000000000)) (by simp)
     subst c2;injection he with e1 e2;subst e1;subst e2;rw[hea]at ha;rw[heb]at hb;simp only[VR]at ha hb;have hw64:IntKind.i64.wrap n=n:=jB (by simp only[hd,lo,hi];omega);let cs:Array Value:=(Array.range n.toNat).map ((#[Value.int .i64 0]:Array Value)[·%1]!);have oG:∀i:Nat,i<n.toNat→cs[i]?=some (.int .i64 0):=fun i hi=>by
      simp[cs,hi,Nat.mod_one]
     have hcz:cs.size=n.toNat:=by simp[cs]
     refine⟨.cells cs e (0,0),⟨w.heap.size,0,n.toNat,1⟩,.slice (some ⟨w.heap.size,0,none⟩) n.toNat n.toNat,?_,rfl,by simp,⟨rfl,by simp,cs,(0,0),⟨_,by simp;rfl⟩,free0 _ _,by simp[hcz],fun i v hi=>?_⟩,?_⟩
     ·have dZ:(Instr.makeSlice t (iR a) (iR b)).run P w=.ok (.slice (some ⟨w.heap.size,0,none⟩) n.toNat n.toNat) {w with heap:=w.heap.push (.cells cs e (0,0))}:=by
       have hbn:¬((ie.bytes:Int)*n>2^48):=by
        have h1:(ie.bytes:Int)*n≤8*n:=Int.mul_le_mul_of_nonneg_right (by omega) c1;omega
       have hs:(sizeOf e).run P {w with heap:=w.heap}=.ok 1 w:=by rw[run_sizeOf AV,hs1]
       simp only[Instr.makeSlice,Sem.run_bind,bN hu,Result.andThen_ok,ha.1,hb.1,asInt,asIntOf,Sem.run_pure,oY AV,hw64];have hneg:¬n<0:=by omega
       simp only[hneg,hbn,decide_false,Bool.or_false,Bool.false_eq_true,false_or,if_false,Int.lt_irrefl,gt_iff_lt];simp only[Sem.run_pure,Result.andThen_ok,run_askRoom,Sem.run_bind,run_sizeOf AV,hs1,Nat.mul_one];by_cases h00:n.toNat=0
       ·rw[if_pos h00]
        have hcs0:cs=(Array.range n.toNat).map fun x=>(#[]:Array Value)[x%(#[]:Array Value).size]!:=by
         rw[Array.eq_empty_of_size_eq_zero (xs:=cs) (by omega),Array.eq_empty_of_size_eq_zero (xs:=(Array.range n.toNat).map _) (by simpa using h00)]
        rw[hcs0];simp only[Sem.run_bind,Sem.run_pure,Result.andThen_ok];simp[newRow]
       ·rw[if_neg h00]
        simp only[Sem.run_bind,iX AV hz,Sem.run_pure,Result.andThen_ok];simp[newRow,cs,Value.cells]
      simp[execOp,dZ]
     ·have cK:i<n.toNat:=by
       have:=(List.getElem?_eq_some_iff.1 hi).1;simpa using this
      rw[List.getElem?_replicate,if_pos cK]at hi;injection hi with hi;subst hi;exact⟨by simpa using oG i cK,by simp[hd,lo,Sx.hi]⟩
     ·simp only[VR]
      exact⟨_,n.toNat,rfl,Nat.le_refl _,by unfold xH;omega,fun c0 hc=>(by injection hc),_,bF.upd_same _ _ _,fun _=>⟨by simp,by simp⟩⟩
    ·cases hg
   ·cases hg
  ·cases hg
 case h_5 t=>
  have he:=Out.ret_go hg;injection he with e1 e2;subst e1;subst e2;refine⟨.map #[] 0,⟨w.heap.size,0,1,1⟩,.map (some w.heap.size),by simp[execOp,Instr.makeMap],rfl,by simp,⟨by simp,#[],0,by simp,by simp[bM],by simp⟩,?_⟩;simp only[VR];exact⟨_,bF.upd_same _ _ _,rfl⟩
 case h_6=>cases hg
end
section
variable{P:Program}{ρ:bF}{h:H}{w:World}
theorem HR.move{w':World}{l0:Nat}{q p:Pl}{o:SO}(hr:HR ρ h w)(hn:h.n<1000000)(hd:o≠.dead)(hv:live h l0)(dE:okK h l0=true)(hq:ρ l0=some q)(hpb:p.b=q.b)(ho1:q.o≤p.o)(ho2:p.o+p.R≤q.o+q.R)
 (hs:w'.heap.size=w.heap.size)(hx:∀b:Nat,b≠q.b→w'.heap[b]?=w.heap[b]?)
 (hc:∃cs t fr gF,w.heap[q.b]?=some (.cells cs t fr)∧w'.heap[q.b]?=some (.cells gF t fr)∧gF.size=cs.size∧∀i,¬(q.o≤i∧i<q.o+q.R)→gF[i]?=cs[i]?)
 (ho:OR (ρ.upd h.n p) p w' o)(hZ:yO w w'):
 HR (ρ.upd h.n p) ((h.put l0 .dead).new o) w'∧FR ρ h w (ρ.upd h.n p) ((h.put l0 .dead).new o) w':=by
 have hle:=bF.le_upd (ρ:=ρ) p (hr.fresh h.n (Nat.le_refl _));have hl0:l0<h.n:=(hr.at_ l0 hv).1;obtain⟨cs,t,fr,gF,hb,pT,sG,oG⟩:=hc;have hdr:=hr.drop l0 (by omega);have eK:∀m,live ((h.put l0 .dead).new o) m↔(m=h.n∨(m≠l0∧live h m)):=fun m=>by
  rw[HR.new_live (h:=h.put l0 .dead) (by simp only[H.put];omega) hd];refine⟨fun h1=>h1.imp id fun h2=>?_,fun h1=>h1.imp id fun h2=>?_⟩
  ·by_cases e:m=l0
   ·subst e;exact absurd (H.get_put (by omega)) h2
   ·exact⟨e,by unfold live at h2⊢;rwa [H.get_put_ne (Ne.symm e)]at h2⟩
  ·unfold live;rw[H.get_put_ne (Ne.symm h2.1)];exact h2.2
 have getn:((h.put l0 .dead).new o).get h.n=o:=H.get_new (h:=h.put l0 .dead) (by simp only[H.put];omega);have getm:∀m,m≠h.n→m≠l0→((h.put l0 .dead).new o).get m=h.get m:=fun m e1 e2=>by
  rw[H.get_new_ne (h:=h.put l0 .dead) (by simp only[H.put];omega),H.get_put_ne (Ne.symm e2)]
 have key:∀(b:Nat) (cs1:Array Value) (t1:TypeId) (fr1:Nat×Nat),w.heap[b]?=some (.cells cs1 t1 fr1)→∃xX,w'.heap[b]?=some (.cells xX t1 fr1)∧xX.size=cs1.size∧∀i,(b=q.b→¬(q.o≤i∧i<q.o+q.R))→xX[i]?=cs1[i]?:=by
  intro b cs1 t1 fr1 h1;by_cases e:b=q.b
  ·subst e
   rw[hb]at h1;injection h1 with h1;injection h1 with e1 e2 e3;subst e1;subst e2;subst e3;exact⟨gF,pT,sG,fun i hi=>oG i (hi rfl)⟩
  ·exact⟨cs1,by rw[hx b e];exact h1,rfl,fun _ _=>rfl⟩
 have key2:∀(b:Nat) (x:Obj),w.heap[b]?=some x→kT x→w'.heap[b]?=some x:=by
  intro b x hxx hnc;by_cases e:b=q.b
  ·subst e;rw[hb]at hxx;injection hxx with hxx;subst hxx;exact hnc.elim
  ·rw[hx b e];exact hxx
 have back:∀m q1,m≠h.n→(ρ.upd h.n p) m=some q1→ρ m=some q1:=fun m q e hq=>by rwa [bF.upd_ne ρ p e]at hq
 refine⟨⟨by simp only[H.new,H.put];omega,fun m hm=>?_,fun m m' q1 q1' fS hm pZ hq1 hq1'=>?_,fun m hm=>?_,?_⟩,⟨hle,fun m hm=>bF.upd_ne ρ p (by omega),by simp only[H.new,H.put];omega,by omega,fun b cs1 t1 fr1 h1=>?_,fun b x h1 h2 _=>key2 b x h1 h2,fun m hm yB=>?_,fun m q1 hm yB hq1=>?_,fun _ h=>.inr h,rfl,rfl,fun x hx hxl=>by rw[getm _ (by omega) ((vO dE).2 x hx)];exact .refl _ _ _,hZ⟩⟩
 ·by_cases e:m=h.n
  ·subst e
   refine⟨by simp only[H.new,H.put];omega,p,bF.upd_same _ _ _,by rw[hpb,hs];exact dP hb,by rw[getn];exact ho⟩
  ·obtain⟨e2,yQ⟩:=((eK m).1 hm).resolve_left e
   obtain⟨h1,q1,h2,h3,h4⟩:=hr.at_ m yQ;refine⟨by simp only[H.new,H.put];omega,q1,hle _ _ h2,by omega,?_⟩;rw[getm m e e2];refine h4.frame hle (fun cs1 t1 fr1 h5=>?_) (fun x h5 h6 _=>key2 _ x h5 h6);obtain⟨xX,g1,g2,g3⟩:=key _ _ _ _ h5;refine⟨xX,g1,g2,fun i hi1 hi2=>g3 i fun hbe=>?_⟩;rcases hr.apart m l0 q1 q e2 yQ hv h2 hq with h7|h7|h7|h7
   ·omega
   ·omega
   ·omega
   ·exact absurd h7.2 (vO dE).1
 ·have one:∀m q1,m≠h.n→live ((h.put l0 .dead).new o) m→(ρ.upd h.n p) m=some q1→q1.b≠p.b∨q1.R=0∨p.R=0:=fun m q1 e hm hq1=>by
   obtain⟨e2,yQ⟩:=((eK m).1 hm).resolve_left e;rcases hr.apart m l0 q1 q e2 yQ hv (back m q1 e hq1) hq with h7|h7|h7|h7
   ·exact .inl (by rw[hpb];exact h7)
   ·exact .inr (.inl h7)
   ·exact .inr (.inr (by omega))
   ·exact absurd h7.2 (vO dE).1
  by_cases e:m=h.n
  ·have e':m'≠h.n:=fun x=>fS (by rw[e,x])
   have:=one m' q1' e' pZ hq1';rw[e,bF.upd_same]at hq1;injection hq1 with hq1;subst hq1;rcases this with h7|h7|h7
   ·exact .inl (Ne.symm h7)
   ·exact .inr (.inr (.inl h7))
   ·exact .inr (.inl h7)
  ·by_cases e':m'=h.n
   ·have:=one m q1 e hm hq1
    rw[e',bF.upd_same]at hq1';injection hq1' with hq1';subst hq1';exact this.imp id fun h=>h.imp id .inl
   ·exact hr.apart m m' q1 q1' fS (((eK m).1 hm).resolve_left e).2 (((eK m').1 pZ).resolve_left e').2 (back m q1 e hq1) (back m' q1' e' hq1')
 ·rw[bF.upd_ne ρ p (by simp only[H.new,H.put]at hm;omega)]
  exact hr.fresh m (by simp only[H.new,H.put]at hm;omega)
 ·have hq0:∀b,ρ.S b→q.b=b→q.R=0:=fun b hb e=>(hr.amb.2 b hb).2 l0 q hv hq e
  refine hr.amb_step rfl rfl (by omega) (fun b hb2=>?_) fun b m q1 hb2 hm hq1 e=>?_
  ·by_cases e:b=q.b
   ·have:=hq0 b hb2 e.symm
    subst e;rw[hb,pT];congr 2;exact Array.ext_getElem? fun i=>oG i (by omega)
   ·exact hx b e
  ·by_cases e':m=h.n
   ·rw[e',bF.upd_same]at hq1
    injection hq1 with hq1;subst hq1;have:=hq0 b hb2 (by rw[←hpb];exact e);omega
   ·exact(hr.amb.2 b hb2).2 m q1 (((eK m).1 hm).resolve_left e').2 (back m q1 e' hq1) e
 ·obtain⟨xX,g1,g2,g3⟩:=key _ _ _ _ h1
  exact⟨xX,g1,g2,fun i hi=>g3 i fun hbe hr2=>hi (.inl ⟨l0,q,hv,hq,hbe.symm,hr2.1,hr2.2,okK_prot dE⟩)⟩
 ·exact(((eK m).1 yB).resolve_left (by omega)).2
 ·by_cases e:m=h.n
  ·rw[e,bF.upd_same]at hq1
   injection hq1 with hq1;subst hq1;exact .inr fun i h5 h6=>.inl ⟨l0,q,hv,hq,hpb.symm,by omega,by omega,okK_prot dE⟩
  ·have:=(hr.at_ m (((eK m).1 yB).resolve_left e).2).1
   omega
theorem stores_ok{b:Nat}{t:TypeId}{fr:Nat×Nat}:∀(us:List Value) (o k:Nat) (w:World) (cs:Array Value),(∀u∈us,u.oneCell'=true)→w.heap[b]?=some (.cells cs t fr)→
 o+k+us.length≤cs.size→(∀i,o+k≤i→i<o+k+us.length→¬(fr.1≤i∧i<fr.2))→
 ∃w' gF,(storeCells ⟨b,o,none⟩ us k).run P w=.ok () w'∧w'.heap.size=w.heap.size∧(∀b':Nat,b'≠b→w'.heap[b']?=w.heap[b']?)∧w'.heap[b]?=some (.cells gF t fr)∧gF.size=cs.size∧
  (∀i,(i<o+k∨o+k+us.length≤i)→gF[i]?=cs[i]?)∧(∀j u,us[j]?=some u→gF[o+k+j]?=some u)∧yO w w'
 |[],o,k,w,cs,_,hb,_,_=>⟨w,cs,by simp[storeCells],rfl,fun _ _=>rfl,hb,rfl,fun _ _=>rfl,fun j u hj=>by simp at hj,.refl _⟩
 |u::us,o,k,w,cs,hu,hb,hl,hf=>by
  simp only[List.length_cons]at hl hf;have cK:o+k<cs.size:=by omega
  have h1:(Go.store ⟨b,o+k,none⟩ u).run P w=.ok () (w.setCell ⟨b,o+k,none⟩ u):=by
   rw[run_store _ _ _ _ _ (hu u (by simp)),cell_of ⟨_,hb⟩,Array.getElem?_eq_getElem cK];simp only[vM ⟨_,hb⟩ (hf (o+k) (by omega) (by omega)),Bool.false_eq_true,if_false]
  obtain⟨w',gF,g1,g2,g3,g4,g5,g6,g7,g8⟩:=stores_ok us o (k+1) (w.setCell ⟨b,o+k,none⟩ u) _ (fun v hv=>hu v (by simp[hv])) (nJ hb) (by simp;omega) (fun i h1 h2=>hf i (by omega) (by omega));refine⟨w',gF,?_,by rw[g2,size_setCell],fun b' pT=>by rw[g3 b' pT,jP pT],g4,by rw[g5];simp,fun i hi=>?_,fun j v hj=>?_,⟨g8.os,g8.tape,g8.output⟩⟩
  ·simp only[storeCells,Sem.run_bind,jQ,h1,Result.andThen_ok,g1]
  ·simp only[List.length_cons]at hi
   rw[g6 i (by omega),Array.getElem?_setIfInBounds_ne (by omega)]
  ·cases j with
   |zero=>
    simp at hj;subst hj;rw[g6 (o+k+0) (by omega),Nat.add_zero,Array.getElem?_setIfInBounds_self_of_lt cK]
   |succ j=>
    have:=g7 j v (by simpa using hj)
    rwa [show o+(k+1)+j=o+k+(j+1) by omega]at this
def eQ:Row→List SV
 |.none=>[]
 |.cs _ _ l=>l
 |.is _ _ l=>l.map (SV.int .i64)
 |.any _ s n=>List.replicate (n*s) .any
def nF:Row→Nat
 |.none=>0
 |.cs _ s _=>s
 |.is _ s _=>s
 |.any _ s _=>s
def rowT:Row→Nat
 |.none=>0
 |.cs t _ _=>t
 |.is t _ _=>t
 |.any t _ _=>t
theorem rI{v:SV}{u:Value}{r:Row}(hg:(rowOf h v).go=some r)(hr:HR ρ h w)(hv:VR ρ v u):
 (r=.none∧u=.slice none 0 0∧v=.val (.slice none 0 0))∨
 ∃l i n c a cap q cs fr,v=.slice l i n c∧oX r=true∧u=.slice (some a) n cap∧live h l∧ρ l=some q∧q.sz=nF r∧CB w q.b cs fr∧yN fr q.o q.R∧q.o+q.R≤cs.size∧
  (i+n)*nF r≤q.R∧∃us:List Value,us.length=n*nF r∧bM ρ (eQ r) us∧∀j x,us[j]?=some x→cs[q.o+i*nF r+j]?=some x:=by
 unfold rowOf at hg;split at hg
 ·have:=Out.ret_go hg
  subst this;simp only[VR]at hv;exact .inl ⟨rfl,hv.1,rfl⟩
 ·rename_i l i n c
  refine .inr ?_;have hl:live h l:=by
   unfold live;intro e;rw[e]at hg;cases hg
  obtain⟨_,q,hq,_,hor⟩:=hr.at_ l hl;have hv0:=hv;simp only[VR]at hv;obtain⟨a,cap,rfl,_⟩:=hv;split at hg
  ·rename_i t s cc hcc
   obtain⟨h1,hg⟩:=Out.chk_go hg;have:=Out.ret_go hg;subst this;have h1:=Nat.le_of_ble_eq_true h1;rw[bT,aY]at h1;rw[hcc]at hor;obtain⟨e1,e2,cs,fr,e3,e4,e5,e6⟩:=hor;have hns:(i+n)*s=i*s+n*s:=Nat.add_mul _ _ _;simp only[bT,dropS_eq];have dS:∀k,k<cc.length→∃x,cs[q.o+k]?=some x∧VR ρ (cc.getD k iK) x:=fun k hk=>by
    obtain⟨x,g1,g2⟩:=e6 k _ (List.getElem?_eq_getElem hk);exact⟨x,g1,by rw[List.getD_eq_getElem?_getD,List.getElem?_eq_getElem hk];exact g2⟩
   refine⟨l,i,n,c,a,cap,q,cs,fr,rfl,rfl,rfl,hl,hq,e1,e3,e4,e5,by simp only[nF];omega,(List.range (n*s)).map fun k=>cs.getD (q.o+i*s+k) Go.undef,by simp[nF],?_,?_⟩
   ·refine bM.of_get (by simp[eQ];omega) fun j v hj=>?_
    simp only[eQ]at hj;rw[List.getElem?_take]at hj;split at hj
    ·rename_i hjn
     rw[List.getElem?_drop]at hj;obtain⟨x,g1,g2⟩:=e6 _ _ hj;refine⟨x,?_,g2⟩;rw[List.getElem?_map,List.getElem?_range hjn];simp only[Option.map_some];rw[Array.getD_eq_getD_getElem?,show q.o+i*s+j=q.o+(i*s+j) by omega,g1];rfl
    ·cases hj
   ·intro j x hj
    simp only[nF];rw[List.getElem?_map]at hj;rcases Nat.lt_or_ge j (n*s)with cK|wQ
    ·rw[List.getElem?_range cK]at hj
     simp only[Option.map_some]at hj;injection hj with hj;obtain⟨y,g1,_⟩:=dS (i*s+j) (by omega);rw[show q.o+i*s+j=q.o+(i*s+j) by omega]at hj⊢;rw[Array.getD_eq_getD_getElem?,g1]at hj;rw[g1,←hj];rfl
    ·rw[List.getElem?_eq_none (by simpa using wQ)]at hj
     cases hj
  ·rename_i t s cc hcc
   obtain⟨h1,hg⟩:=Out.chk_go hg;have:=Out.ret_go hg;subst this;have h1:=Nat.le_of_ble_eq_true h1;rw[bT,aY]at h1;rw[hcc]at hor;obtain⟨e1,e2,cs,fr,e3,e4,e5,e6⟩:=hor;have hns:(i+n)*s=i*s+n*s:=Nat.add_mul _ _ _;simp only[bT,dropS_eq];refine⟨l,i,n,c,a,cap,q,cs,fr,rfl,rfl,rfl,hl,hq,e1,e3,e4,e5,by simp only[nF];omega,((cc.drop (i*s)).take (n*s)).map (Value.int .i64),by simp[nF];omega,?_,?_⟩
   ·refine bM.of_get (by simp[eQ]) fun j v hj=>?_
    simp only[eQ]at hj;rw[List.getElem?_map]at hj⊢;cases hz:((cc.drop (i*s)).take (n*s))[j]?with
    |none=>rw[hz]at hj;cases hj
    |some z=>
     rw[hz]at hj;simp only[Option.map_some]at hj⊢;injection hj with hj;subst hj;rw[List.getElem?_take]at hz;split at hz
     ·rw[List.getElem?_drop]at hz
      exact⟨_,rfl,by simp only[VR];exact⟨trivial,(e6 _ _ hz).2⟩⟩
     ·cases hz
   ·intro j x hj
    simp only[nF];rw[List.getElem?_map]at hj;cases hz:((cc.drop (i*s)).take (n*s))[j]?with
    |none=>rw[hz]at hj;cases hj
    |some z=>
     rw[hz]at hj;simp only[Option.map_some]at hj;injection hj with hj;subst hj;rw[List.getElem?_take]at hz;split at hz
     ·rw[List.getElem?_drop]at hz
      rw[show q.o+i*s+j=q.o+(i*s+j) by omega];exact(e6 _ _ hz).1
     ·cases hz
  ·rename_i t s m hcc
   obtain⟨h1,hg⟩:=Out.chk_go hg;have:=Out.ret_go hg;subst this;have h1:=Nat.le_of_ble_eq_true h1;rw[aY]at h1;rw[hcc]at hor;obtain⟨e1,e2,cs,fr,e3,e4,e5,e6⟩:=hor;have hns:(i+n)*s=i*s+n*s:=Nat.add_mul _ _ _;have hms:(i+n)*s≤m*s:=Nat.mul_le_mul_right _ h1;refine⟨l,i,n,c,a,cap,q,cs,fr,rfl,rfl,rfl,hl,hq,e1,e3,e4,e5,by simp only[nF];omega,(List.range (n*s)).map fun k=>cs.getD (q.o+i*s+k) Go.undef,by simp[nF],?_,?_⟩
   ·refine bM.of_get (by simp[eQ]) fun j v hj=>?_
    simp only[eQ]at hj;rw[List.getElem?_replicate]at hj;split at hj
    ·rename_i hjn
     injection hj with hj;subst hj;obtain⟨u,g1,g2⟩:=e6 (i*s+j) (by omega);refine⟨u,?_,by simp only[VR];exact g2⟩;rw[List.getElem?_map,List.getElem?_range hjn];simp only[Option.map_some];rw[Array.getD_eq_getD_getElem?,show q.o+i*s+j=q.o+(i*s+j) by omega,g1];rfl
    ·cases hj
   ·intro j x hj
    simp only[nF];rw[List.getElem?_map]at hj;rcases Nat.lt_or_ge j (n*s)with cK|wQ
    ·rw[List.getElem?_range cK]at hj
     simp only[Option.map_some]at hj;injection hj with hj;obtain⟨y,g1,_⟩:=e6 (i*s+j) (by omega);rw[show q.o+i*s+j=q.o+(i*s+j) by omega]at hj⊢;rw[Array.getD_eq_getD_getElem?,g1]at hj;rw[g1,←hj];rfl
    ·rw[List.getElem?_eq_none (by simpa using wQ)]at hj
     cases hj
  ·cases hg
 ·cases hg
end
section
variable{P:Program}{ρ:bF}{h:H}{w:World}
theorem toInts_ok:∀(l:List SV) (m:List Int),(toInts l).go=some m→l=m.map (SV.int .i64)
 |[],m,h=>by rw[←Out.ret_go h];rfl
 |.int .i64 n::r,m,h=>by
  unfold toInts at h;obtain⟨m',h1,h2⟩:=Out.bind_go h;rw[←Out.ret_go h2,toInts_ok r m' h1];rfl
 |.int .i8 _::_,_,h|.int .i16 _::_,_,h|.int .i32 _::_,_,h|.int .u8 _::_,_,h|.int .u16 _::_,_,h|.int .u32 _::_,_,h|.int .u64 _::_,_,h=>by cases h
 |.val _::_,_,h|.bool _::_,_,h|.ptr _ _ _::_,_,h|.slice _ _ _ _::_,_,h|.map _::_,_,h|.func _ _ _::_,_,h|.iface _ _::_,_,h|.agg _::_,_,h|.tup _::_,_,h|.yield _::_,_,h|.any::_,_,h=>by cases h
theorem or_cells{aW:bF}{p:Pl}{w':World}{t s:Nat}{l:List SV}{us:List Value}(hp:p.sz=s)(hv:bM aW l us)(hl:us.length≤p.R)
 (hc:∃cs fr,CB w' p.b cs fr∧yN fr p.o p.R∧p.o+p.R≤cs.size∧∀(j:Nat) (u:Value),us[j]?=some u→cs[p.o+j]?=some u):OR aW p w' (.cells t s l):=by
 obtain⟨cs,fr,h1,h2,h3,h4⟩:=hc;exact⟨hp,by rw[hv.length];exact hl,cs,fr,h1,h2,h3,fun i v hi=>by obtain⟨u,g1,g2⟩:=hv.get hi;exact⟨u,h4 i u g1,g2⟩⟩
theorem yC{aW:bF}{p:Pl}{w':World}{t s:Nat}{l:List Int}{us:List Value}(hp:p.sz=s)(hv:bM aW (l.map (SV.int .i64)) us)(hl:us.length≤p.R)
 (hc:∃cs fr,CB w' p.b cs fr∧yN fr p.o p.R∧p.o+p.R≤cs.size∧∀(j:Nat) (u:Value),us[j]?=some u→cs[p.o+j]?=some u):OR aW p w' (.ints t s l):=by
 obtain⟨cs,fr,h1,h2,h3,h4⟩:=hc;refine⟨hp,by have:=hv.length;simp at this;omega,cs,fr,h1,h2,h3,fun i n hi=>?_⟩;obtain⟨u,g1,g2⟩:=hv.get (i:=i) (v:=.int .i64 n) (by simp[hi]);simp only[VR]at g2;exact⟨by rw[h4 i u g1,g2.1],g2.2⟩
theorem or_any{aW:bF}{p:Pl}{w':World}{t s n:Nat}{l:List SV}{us:List Value}(hp:p.sz=s)(hv:bM aW l us)(ho:l.all SV.one=true)(hn:us.length=n*s)(hl:us.length≤p.R)
 (hc:∃cs fr,CB w' p.b cs fr∧yN fr p.o p.R∧p.o+p.R≤cs.size∧∀(j:Nat) (u:Value),us[j]?=some u→cs[p.o+j]?=some u):OR aW p w' (.any t s n):=by
 obtain⟨cs,fr,h1,h2,h3,h4⟩:=hc;refine⟨hp,by omega,cs,fr,h1,h2,h3,fun i hi=>?_⟩;have cK:i<us.length:=by omega
 have hll:i<l.length:=by rw[hv.length];exact cK
 obtain⟨u,g1,g2⟩:=hv.get (List.getElem?_eq_getElem hll);exact⟨u,h4 i u g1,kU g2 (List.all_eq_true.1 ho _ (List.getElem_mem hll))⟩
theorem cat_ok{e s m:Nat}{rx ry:Row}{o:SO}(hsx:oX rx=true→nF rx=s)(hsy:oX ry=true→nF ry=s)(hm:(eQ ry).length=m*s)(hg:(cat e s m rx ry).go=some o):o≠.dead∧∀{aW:bF} {p:Pl} {w':World} {us:List Value},p.sz=s→bM aW (eQ rx++eQ ry) us→us.length≤p.R→
 (∃cs fr,CB w' p.b cs fr∧yN fr p.o p.R∧p.o+p.R≤cs.size∧∀(j:Nat) (u:Value),us[j]?=some u→cs[p.o+j]?=some u)→OR aW p w' o:=by
 have hrep:∀k,(List.replicate k SV.any).all SV.one=true:=fun k=>by simp[SV.one]
 unfold cat at hg;split at hg
 ·rw[←Out.ret_go hg];exact⟨by simp,fun hp hv hl hc=>or_cells hp (by simpa[eQ]using hv) hl hc⟩
 ·rw[←Out.ret_go hg];exact⟨by simp,fun hp hv hl hc=>yC hp (by simpa[eQ]using hv) hl hc⟩
 ·rw[←Out.ret_go hg];exact⟨by simp,fun hp hv hl hc=>or_cells hp (by simpa[eQ]using hv) hl hc⟩
 ·obtain⟨m,h1,h2⟩:=Out.bind_go hg
  rw[←Out.ret_go h2];exact⟨by simp,fun hp hv hl hc=>yC hp (by rw[eQ,eQ,toInts_ok _ _ h1]at hv;simpa using hv) hl hc⟩
 ·rw[←Out.ret_go hg];exact⟨by simp,fun hp hv hl hc=>yC hp (by simpa[eQ]using hv) hl hc⟩
 ·split at hg
  ·rw[←Out.ret_go hg];exact⟨by simp,fun hp hv hl hc=>yC hp (by simpa[eQ]using hv) hl hc⟩
  ·cases hg
 ·rename_i s1 n1 _ _ l
  split at hg
  ·rename_i hone
   rw[←Out.ret_go hg];have e1:s1=s:=hsx rfl;subst e1;refine⟨by simp,fun hp hv hl hc=>or_any hp hv (by simp only[eQ,List.all_append,hrep,hone];rfl) ?_ hl hc⟩;have:=hv.length;rw[List.length_append,hm]at this;simp only[eQ,List.length_replicate]at this;rw[Nat.add_mul];omega
  ·cases hg
 ·rename_i s1 n1 _ s2 n2
  rw[←Out.ret_go hg];have e1:s1=s:=hsx rfl;subst e1;refine⟨by simp,fun hp hv hl hc=>or_any hp hv (by simp only[eQ,List.all_append,hrep];rfl) ?_ hl hc⟩;have:=hv.length;rw[List.length_append,hm]at this;simp only[eQ,List.length_replicate]at this;rw[Nat.add_mul];omega
 ·rw[←Out.ret_go hg]
  refine⟨by simp,fun hp hv hl hc=>or_any hp hv (by simp only[eQ,List.nil_append,hrep]) ?_ hl hc⟩;have:=hv.length;rw[List.length_append,hm]at this;simp only[eQ,List.length_nil]at this;omega
 ·split at hg
  ·rw[←Out.ret_go hg]
   refine⟨by simp,fun hp hv hl hc=>or_any hp hv (by simp only[eQ,List.nil_append,hrep]) ?_ hl hc⟩;have:=hv.length;rw[List.length_append,hm]at this;simp only[eQ,List.length_nil]at this;omega
  ·cases hg
 ·cases hg
theorem FR.drop(hr:HR ρ h w)(l:Nat)(hl:l≤1000000)(hc:∀x∈h.C,x.1≠l):FR ρ h w ρ (h.put l .dead) w:=by
 have eK:∀m,live (h.put l .dead) m→live h m:=fun m hm=>by
  by_cases e:l=m
  ·subst e;exact absurd (H.get_put hl) hm
  ·unfold live at hm⊢;rwa [H.get_put_ne e]at hm
 exact⟨.refl _,fun _ _=>rfl,Nat.le_refl _,Nat.le_refl _,fun _ cs _ _ hb=>⟨cs,hb,rfl,fun _ _=>rfl⟩,fun _ _ hb _ _=>hb,fun m _ hm=>eK m hm,fun m q hm hv _=>absurd (hr.at_ m (eK m hv)).1 (by omega),fun _ h=>.inr h,rfl,rfl,fun x hx _=>by rw[H.get_put_ne (Ne.symm (hc x hx))];exact .refl _ _ _,.refl _⟩
theorem kill_ok{x:SV}(dE:okKx h x=true)(hr:HR ρ h w)(hl:∀l i n c,x=.slice l i n c→live h l):HR ρ (kill h x) w∧FR ρ h w ρ (kill h x) w∧(kill h x).n=h.n:=by
 unfold kill;split
 ·rename_i l i n c
  have yP:l≤1000000:=by have:=(hr.at_ l (hl _ _ _ _ rfl)).1;have:=hr.n;omega
  unfold okKx at dE;split
  ·exact⟨hr,.refl hr,rfl⟩
  ·rename_i hc0
   have hok':okK h l=true:=by
    cases c with
    |none=>exact dE
    |some c1=>cases c1 with
     |zero=>exact absurd rfl hc0
     |succ c2=>exact dE
   exact⟨hr.drop l yP,FR.drop hr l yP (vO hok').2,rfl⟩
 ·exact⟨hr,.refl hr,rfl⟩
theorem grow_le:∀(k c n:Nat),c<n→Builtin.growBy n k c≤2*n+200
 |0,c,n,h=>by simp[Builtin.growBy];omega
 |k+1,c,n,h=>by
  unfold Builtin.growBy;rw[if_neg (by omega)];by_cases h2:c+(c+768)/4<n
  ·exact grow_le k _ n h2
  ·have:Builtin.growBy n k (c+(c+768)/4)=c+(c+768)/4:=by cases k<;>simp[Builtin.growBy];omega
   rw[this];omega
theorem next_le{n c:Nat}(h:c<n):Builtin.nextslicecap n c≤2*n+200:=by
 unfold Builtin.nextslicecap;split
 ·omega
 ·split
  ·omega
  ·exact grow_le 4 c n h
theorem uC{v:SV}{u:Value}{s n:Nat}{r:Row}(hg:(rowOf h v).go=some r)(hr:HR ρ h w)(hv:VR ρ v u)(hn:(len v).go=some n)(hs:oX r=true→nF r=s):
 ∃us:List Value,us.length=n*s∧bM ρ (eQ r) us∧∀w':World,w'.heap=w.heap→(Builtin.firstCells s n u).run P w'=.ok us.toArray w':=by
 rcases rI hg hr hv with⟨rfl,rfl,rfl⟩|⟨l,i,n',c,a,cap,q,cs,fr,rfl,h1,rfl,h2,h3,h4,h5,h6,h7,h8,us,h9,h10,xI⟩
 ·have:n=0:=by
   obtain⟨_,h2⟩:=Out.chk_go hn;exact(Out.ret_go h2).symm
  subst this;exact⟨[],by simp,by simp[eQ,bM],fun w' _=>by simp[Builtin.firstCells]⟩
 ·have:n'=n:=Out.ret_go hn
  subst this;have hs:=hs h1;rw[hs]at h9 xI h4;refine⟨us,h9,h10,fun w' he=>?_⟩;simp only[Builtin.firstCells,loadCells,←h9];have:=kG (P:=P) (w:=w') (a:=a) us 0 #[] fun j x hj=>by
   have cK:j<us.length:=(List.getElem?_eq_some_iff.1 hj).1;have hpos:0<n':=by
    rcases Nat.eq_zero_or_pos n' with e|e
    ·rw[e]at h9;omega
    ·exact e
   simp only[VR]at hv;obtain⟨a',cap',e1,e2,_,_,e3⟩:=hv;injection e1 with e1 e1' e1'';injection e1 with e1;subst e1;subst e1'';obtain⟨p,g1,g2⟩:=e3;obtain⟨g2,_⟩:=g2 (by omega);rw[h3]at g1;injection g1 with g1;subst g1;rw[g2,Nat.zero_add,jQ,h4];have h5':CB w' q.b cs fr:=by unfold CB;rw[he];exact h5
   rw[cell_of h5',←xI j x hj]
  simpa using this
theorem sH{l:List SV}{us:List Value}(hv:bM ρ l us)(h:l.all SV.one=true):∀x∈us,x.oneCell'=true:=by
 intro x hx;obtain⟨i,hi⟩:=List.getElem?_of_mem hx;have cK:i<l.length:=by rw[hv.length];exact(List.getElem?_eq_some_iff.1 hi).1
 obtain⟨y,h1,h2⟩:=hv.get (List.getElem?_eq_getElem cK);rw[hi]at h1;injection h1 with h1;subst h1;exact kU h2 (List.all_eq_true.1 h _ (List.getElem_mem cK))
theorem rowOne_ok{r:Row}{us:List Value}(hv:bM ρ (eQ r) us)(h:rowOne r=true):∀x∈us,x.oneCell'=true:=by
 cases r with
 |none=>exact sH hv rfl
 |cs t s l=>exact sH hv h
 |is t s l=>exact sH hv (by simp[eQ,SV.one])
 |any t s n=>exact sH hv (by simp[eQ,SV.one])
theorem run_fit{t t2 e:Nat}{ie:TypeInfo}{d2:TypeId}{ts:Array TypeId}{ty:TypeId}{args:Array Value}{n m ac bc:Nat}{ab bb:Option Addr}{us:List Value}{w':World}
 (e1:ts[0]?=some t)(e2:ts[1]?=some t2)(e3:args[0]?=some (.slice ab n ac))(e4:args[1]?=some (.slice bb m bc))
 (hu:P.underlying t=some (.slice e))(hu2:P.underlying t2=some (.slice d2))(AV:P.info? e=some ie)(hf:(Builtin.firstCells ie.size m (.slice bb m bc)).run P w=.ok us.toArray w)(hfit:n+m≤ac)
 (gA:∀a,ab=some a→(storeCells (a.add (n*ie.size)) us).run P w=.ok () w')(hno:ab=none→w'=w):(Builtin.append_ ts ty args).run P w=.ok (.slice ab (n+m) ac) w':=by
 simp only[Builtin.append_,e1,e2,e3,e4,Sem.run_bind,bN hu,bN hu2,run_sizeOf AV,Result.andThen_ok,Sem.run_pure,Builtin.lenOf,Bool.false_eq_true,if_false,if_pos hfit,Bool.not_false,if_true,hf];cases ab with
 |none=>rw[hno rfl];rfl
 |some a=>simp[gA a rfl]
theorem run_grow{t t2 e:Nat}{ie:TypeInfo}{d2:TypeId}{ts:Array TypeId}{ty:TypeId}{args:Array Value}{n m ac bc:Nat}{ab bb:Option Addr}{us vs:List Value}{z:Value}
 (e1:ts[0]?=some t)(e2:ts[1]?=some t2)(e3:args[0]?=some (.slice ab n ac))(e4:args[1]?=some (.slice bb m bc))
 (hu:P.underlying t=some (.slice e))(hu2:P.underlying t2=some (.slice d2))(AV:P.info? e=some ie)(hz:ie.zero=some z)
 (hf:∀w':World,w'.heap=w.heap→(Builtin.firstCells ie.size m (.slice bb m bc)).run P w'=.ok us.toArray w')(hfx:∀w':World,w'.heap=w.heap→(Builtin.firstCells ie.size n (.slice ab n ac)).run P w'=.ok vs.toArray w')
 (hfit:¬n+m≤ac)(hby:ie.bytes≤1000)(hbig:n+m≤1000000000):
 ∃N,n+m≤N∧N≤xH∧(Builtin.append_ ts ty args).run P w=.ok (.slice (some ⟨w.heap.size,0,none⟩) (n+m) N)
  {w with heap:=w.heap.push (.cells (vs.toArray++us.toArray++Builtin.zeroCells z.cells (N-(n+m))) e (0,0)),drawn:=w.drawn+1}:=by
 refine⟨(Question.appendCap (n+m) ac e).cut (w.tape w.drawn (.appendCap (n+m) ac e)),by simp only[Question.cut];omega,?_,?_⟩
 ·simp only[Question.cut,xH]
  have:0<2^63-(n+m):=by omega
  have:=Nat.mod_lt (w.tape w.drawn (.appendCap (n+m) ac e)) this;omega
 ·have hm:¬(((n+m:Nat):Int)>IntKind.i64.max∧(false=true∨ie.bytes=0)):=by
   rintro⟨h1,_⟩;have:IntKind.i64.max=9223372036854775807:=by decide
   omega
  have hnx:¬(Builtin.nextslicecap (n+m) ac*ie.bytes>2^48):=by
   have h1:=next_le (n:=n+m) (c:=ac) (by omega);have h2:Builtin.nextslicecap (n+m) ac*ie.bytes≤(2*(n+m)+200)*1000:=Nat.mul_le_mul h1 hby;omega
  simp only[Builtin.append_,e1,e2,e3,e4,Sem.run_bind,bN hu,bN hu2,run_sizeOf AV,Result.andThen_ok,Sem.run_pure,Builtin.lenOf,Bool.false_eq_true,if_false,if_neg hfit,Bool.not_false,if_true,oY AV];rw[if_neg (by simpa using hm)];simp only[Sem.run_bind,oY AV,Result.andThen_ok,if_neg hnx,run_choose,Question.forced,Bool.false_eq_true,if_false,run_askRoom];rw[hfx {w with drawn:=w.drawn+1} rfl];simp only[Result.andThen_ok];rw[hf {w with drawn:=w.drawn+1} rfl];simp only[Result.andThen_ok,iX AV hz];simp[newRow];exact⟨rfl,rfl,rfl⟩
theorem append_ok(T:TOK P){t t2:Nat}{x y v:SV}{a b:Value}{h':H}{ts:Array TypeId}{ty:TypeId}{args:Array Value}(hg:(append P h t t2 x y).go=some (v,h'))(hr:HR ρ h w)(hx:VR ρ x a)(hy:VR ρ y b)
 (e1:ts[0]?=some t)(e2:ts[1]?=some t2)(e3:args[0]?=some a)(e4:args[1]?=some b):
 ∃aW w' u,(Builtin.append_ ts ty args).run P w=.ok u w'∧VR aW v u∧HR aW h' w'∧FR ρ h w aW h' w':=by
 unfold append at hg;split at hg
 ·rename_i e e' hu hu2
  split at hg
  ·rename_i ie AV
   split at hg
   ·rename_i yA
    simp only[Bool.and_eq_true]at yA;have hs0:=aF.1 yA.1.1.1;have hby:=Nat.le_of_ble_eq_true yA.1.1.2;have hn6:=aF.1 yA.1.2;obtain⟨zv,hzv⟩:=Option.isSome_iff_exists.1 yA.2.1;have hzs:=(T.zero e ie zv (aF.1 yA.2.2) AV hzv).2;obtain⟨n,hn,hg⟩:=Out.bind_go hg;obtain⟨m,hm,hg⟩:=Out.bind_go hg;obtain⟨rx,hrx,hg⟩:=Out.bind_go hg;obtain⟨ry,hry,hg⟩:=Out.bind_go hg;obtain⟨ab,ac,rfl,hnb⟩:=len_ok hn hx;obtain⟨bb,bc,rfl,hmb⟩:=len_ok hm hy;split at hg
    ·rename_i hri
     have hret:=Out.ret_go hg;injection hret with r1 r2;subst r1;subst r2;obtain⟨us,hul,_,hus⟩:=uC (P:=P) (s:=ie.size) hry hr hy hm (fun h=>by rw[hri]at h;cases h);have yQ:m=0:=by
      rcases rI hry hr hy with⟨rfl,h2,rfl⟩|⟨l,i,n',c,a,cap,q,cs,fr,rfl,h1,_⟩
      ·injection h2
      ·rw[h1]at hri;cases hri
     subst yQ;rw[Nat.zero_mul]at hul;have hus0:us=[]:=List.eq_nil_of_length_eq_zero hul;subst hus0;have hle:n+0≤ac:=by
      rcases rI hrx hr hx with⟨rfl,h2,rfl⟩|⟨l,i,n',c,a,cap,q,cs,fr,rfl,h1,h2,_⟩
      ·injection h2 with h1 h2 h3;omega
      ·simp only[VR]at hx;obtain⟨a1,c1,h3,h4,_⟩:=hx;injection h3 with h3 h5 h6;omega
     refine⟨ρ,w,_,run_fit e1 e2 e3 e4 hu hu2 AV (hus w rfl) hle (fun a _=>by simp[storeCells]) (fun _=>rfl),by simpa using hx,hr,.refl hr⟩
    ·rename_i hri
     obtain⟨hc,hg⟩:=Out.all_go hg;obtain⟨o,ho,hg⟩:=Out.bind_go hg;have hret:=Out.ret_go hg;injection hret with r1 r2;subst r1;subst r2;have c1:=hc (kF e ie.size rx) (by simp);have c2:=hc (kF e ie.size ry) (by simp);have c3:=Nat.le_of_ble_eq_true (hc (Nat.ble (n+m) 1000000000) (by simp));have c4:=hc (oX rx||Nat.blt 0 m) (by simp);have c5:=hc (full x||rowOne ry) (by simp);have c6:=hc (okKx h x) (by simp);have chk:∀r,kF e ie.size r=true→oX r=true→nF r=ie.size∧rowT r=e:=by
      intro r h1 h2;cases r with
      |none=>cases h2
      |cs t s l=>simp only[kF,Bool.and_eq_true]at h1;exact⟨Nat.eq_of_beq_eq_true h1.2,Nat.eq_of_beq_eq_true h1.1⟩
      |is t s l=>simp only[kF,Bool.and_eq_true]at h1;exact⟨Nat.eq_of_beq_eq_true h1.2,Nat.eq_of_beq_eq_true h1.1⟩
      |any t s n=>simp only[kF,Bool.and_eq_true]at h1;exact⟨Nat.eq_of_beq_eq_true h1.2,Nat.eq_of_beq_eq_true h1.1⟩
     have hsy:oX ry=true→nF ry=ie.size:=fun h=>(chk ry c2 h).1
     have hsx:oX rx=true→nF rx=ie.size:=fun h=>(chk rx c1 h).1
     have hlx:∀l i n c,x=.slice l i n c→live h l:=fun l i n' c qS=>by
      rcases rI hrx hr hx with⟨_,_,h2⟩|⟨l',i',n'',c',a,cap,q,cs,fr,h2,_,_,h3,_⟩
      ·rw[h2]at qS;cases qS
      ·rw[h2]at qS;injection qS with qS;rw[←qS];exact h3
     obtain⟨us,hul,huv,hus⟩:=uC (P:=P) hry hr hy hm hsy;obtain⟨kO,hor⟩:=cat_ok hsx hsy (by rw[huv.length];exact hul) ho;obtain⟨vs,hvl,hvv,AO⟩:=uC (P:=P) hrx hr hx hn hsx;obtain⟨hrk,hfk,hkn⟩:=kill_ok c6 hr hlx;have hsplit:(n+m)*ie.size=n*ie.size+m*ie.size:=Nat.add_mul _ _ _;by_cases hfit:n+m≤ac
     ·
      rcases rI hrx hr hx with⟨rfl,h2,rfl⟩|⟨l,i,n',c,a,cap,q,cs,fr,rfl,h1,h2,h3,h4,h5,h6,h7,h8,h9,vs',h10,xI,h12⟩
      ·injection h2 with k1 k2 k3
       have:=aF.1 (by simpa[oX]using c4:Nat.blt 0 m=true);omega
      ·injection h2 with k1 k2 k3
       subst k1;subst k3;have:n'=n:=by simp only[VR]at hx;obtain⟨_,_,hx,_⟩:=hx;injection hx with _ hx _;exact hx.symm
       subst this;obtain⟨cs1,xX⟩:=chk rx c1 h1;rw[cs1]at h5 h9 h10 h12;have hx0:=hx;simp only[VR]at hx0;obtain⟨a',cap',k1,k2,k3,k4,k5⟩:=hx0;injection k1 with k1 _ k1';injection k1 with k1;subst k1;subst k1';rcases Nat.eq_zero_or_pos ac with hcap|hcap
       ·
        have hn0:n'=0:=by omega
        have yQ:m=0:=by omega
        subst hn0;subst yQ;rw[Nat.zero_mul]at hul h10;have hus0:us=[]:=List.eq_nil_of_length_eq_zero hul;have hvs0:vs'=[]:=List.eq_nil_of_length_eq_zero h10;subst hus0;subst hvs0;have hqb:=(hr.at_ l h3).2;obtain⟨q',g1,g2,_⟩:=hqb;rw[h4]at g1;injection g1 with g1;subst g1;have hle:=bF.le_upd (ρ:=ρ) (l:=(kill h (.slice l i 0 c)).n) ⟨q.b,q.o,0,ie.size⟩ (hrk.fresh _ (Nat.le_refl _));obtain⟨r1,r2⟩:=hrk.place (p:=⟨q.b,q.o,0,ie.size⟩) (by omega) kO (Nat.le_refl _) g2 (fun _ _ _ _ h=>h) (fun _ _ h _=>h) (.inr rfl)
         (hor (us:=[]) rfl (by simpa using(xI.append huv).mono hle) (by simp) ⟨cs,fr,h6,fun i g5 g6=>(by have g7:i<q.o+0:=g6;have g8:q.o≤i:=g5;omega),by simp;omega,fun j u hj=>by simp at hj⟩)
        refine⟨_,w,_,run_fit e1 e2 e3 e4 hu hu2 AV (hus w rfl) hfit (fun _ _=>by simp[storeCells]) (fun h=>(by cases h)),?_,r1,hfk.trans hr hrk r2⟩;simp only[VR];exact⟨a,ac,rfl,by omega,k3,fun c0 h=>(by cases h),⟨q.b,q.o,0,ie.size⟩,(by rw[←hkn];exact bF.upd_same _ _ _),fun h=>by omega⟩
       ·obtain⟨q',g1,g23⟩:=k5
        obtain⟨g2,g3⟩:=g23 hcap;rw[h4]at g1;injection g1 with g1;subst g1;rw[h5]at g2 g3;have hcne:∀c0,c=some c0→c0≠0:=fun c0 hc0=>by have:=k4 c0 hc0;omega
        have hkill:kill h (.slice l i n' c)=h.put l .dead:=by
         unfold kill;split
         ·rename_i l2 i2 n2 c2 heq
          injection heq with q1 q2 q3 q4;subst q1;subst q4;split
          ·exact absurd rfl (hcne 0 rfl)
          ·rfl
         ·rename_i fS;exact absurd rfl (fS _ _ _ _)
        have hokK:okK h l=true:=by
         cases c with
         |none=>exact c6
         |some c0=>cases c0 with
          |zero=>exact absurd rfl (hcne 0 rfl)
          |succ c1=>exact c6
        have hone:∀u∈us,u.oneCell'=true:=by
         refine rowOne_ok huv ?_;have:full (.slice l i n' c)=false:=by
          cases c with
          |none=>rfl
          |some c0=>cases c0 with
           |zero=>exact absurd rfl (hcne 0 rfl)
           |succ c1=>rfl
         rw[this,Bool.false_or]at c5;exact c5
        have hR:i*ie.size+n'*ie.size+m*ie.size≤q.R:=by
         have g4:(i+(n'+m))*ie.size≤(i+ac)*ie.size:=Nat.mul_le_mul_right _ (by omega);rw[Nat.add_mul,Nat.add_mul n' m]at g4;omega
        obtain⟨tt,h6⟩:=h6;obtain⟨w',gF,s1,s2,s3,s4,s5,s6,s7,s8⟩:=stores_ok (P:=P) (b:=q.b) (t:=tt) (fr:=fr) us (q.o+i*ie.size+n'*ie.size) 0 w cs hone h6 (by omega) (fun i' hi1 hi2=>h7 i' (by omega) (by omega));have hle:=bF.le_upd (ρ:=ρ) (l:=h.n) ⟨q.b,q.o+i*ie.size,q.R-i*ie.size,ie.size⟩ (hr.fresh _ (Nat.le_refl _));obtain⟨r1,r2⟩:=hr.move (w':=w') (q:=q) (p:=⟨q.b,q.o+i*ie.size,q.R-i*ie.size,ie.size⟩) hn6 kO h3 hokK h4 rfl (by simp) (by simp;omega) s2 s3 ⟨cs,tt,fr,gF,h6,s4,s5,fun i' tU=>s6 i' (by omega)⟩
         (hor (us:=vs'++us) rfl ((xI.append huv).mono hle) (by simp;omega) ⟨gF,fr,⟨tt,s4⟩,fun i' hi1 hi2=>h7 i' (by simp at hi1;omega) (by simp at hi2;omega),by simp;omega,fun j u hj=>by
          simp only;rcases Nat.lt_or_ge j (n'*ie.size)with hj1|hj1
          ·rw[List.getElem?_append_left (by omega)]at hj
           rw[s6 _ (by omega)];exact h12 j u hj
          ·rw[List.getElem?_append_right (by omega),h10]at hj
           have:=s7 _ u hj;rw[←this];congr 1;omega⟩) s8
        rw[hkill];refine⟨_,w',_,run_fit e1 e2 e3 e4 hu hu2 AV (hus w rfl) hfit (fun a2 ha=>?_) (fun h=>(by cases h)),?_,r1,r2⟩
        ·injection ha with ha
         subst ha;rw[g2,jQ];exact s1
        ·simp only[VR]
         refine⟨a,ac,rfl,by omega,k3,fun c0 h=>(by cases h),_,bF.upd_same _ _ _,fun _=>⟨by rw[g2];simp,?_⟩⟩;simp only[Nat.zero_add];rw[Nat.add_mul]at g3;omega
     ·
      obtain⟨N,hN1,hN2,dZ⟩:=run_grow e1 e2 e3 e4 hu hu2 AV hzv hus AO hfit hby c3;have hlen:(vs.toArray++us.toArray++Builtin.zeroCells zv.cells (N-(n+m))).size=N*ie.size:=by
       simp only[Array.size_append,List.size_toArray,hvl,hul,Builtin.zeroCells,Array.size_map,Array.size_range,hzs];rw[←hsplit,←Nat.add_mul];congr 1;omega
      have hNs:(n+m)*ie.size≤N*ie.size:=Nat.mul_le_mul_right _ hN1;have hle:=bF.le_upd (ρ:=ρ) (l:=(kill h x).n) ⟨w.heap.size,0,N*ie.size,ie.size⟩ (hrk.fresh _ (Nat.le_refl _));have hr1:HR ρ (kill h x) {w with drawn:=w.drawn+1}:=hrk.same rfl;obtain⟨r1,r2⟩:=hr1.push (p:=⟨w.heap.size,0,N*ie.size,ie.size⟩) (x:=.cells (vs.toArray++us.toArray++Builtin.zeroCells zv.cells (N-(n+m))) e (0,0)) (by omega) kO rfl
       (hor (us:=vs++us) rfl ((hvv.append huv).mono hle) (by simp only[List.length_append,hvl,hul];omega) ⟨vs.toArray++us.toArray++Builtin.zeroCells zv.cells (N-(n+m)),(0,0),⟨e,by simp⟩,free0 _ _,by simp only[Nat.zero_add];rw[hlen];exact Nat.le_refl _,fun j u hj=>by
        simp only[Nat.zero_add];have cK:j<(vs++us).length:=(List.getElem?_eq_some_iff.1 hj).1;rw[Array.getElem?_append_left (by simpa using cK)];simpa using hj⟩)
      refine⟨_,_,_,dZ,?_,r1,(hfk.trans hr hrk (FR.same (w':={w with drawn:=w.drawn+1}) hrk rfl)).trans hr hr1 r2⟩;simp only[VR];rw[←hkn];exact⟨_,N,rfl,hN1,hN2,fun c0 h=>(by cases h),_,bF.upd_same _ _ _,fun _=>⟨by simp,by simp⟩⟩
   ·cases hg
  ·cases hg
 ·cases hg
end
end Go.Proofs.YtnkcbfgfkadoaaaGreat.Sx
