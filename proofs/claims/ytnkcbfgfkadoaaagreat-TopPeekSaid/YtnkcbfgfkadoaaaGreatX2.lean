/- Part 2 of the proof of TopPeek. -/
import Derived.Laws.Tables
import Derived.Test.YtnkcbfgfkadoaaaGreatX1
set_option linter.all false
namespace Go.Proofs.YtnkcbfgfkadoaaaGreat.Sx
open Go
structure TOK(P:Program):Prop where
 zero:∀t i z,t<P.types.size→P.info? t=some i→i.zero=some z→(isTup z=false→okVal z=true)∧z.cells.size=i.size
 fields:∀t fs,t<P.types.size→P.underlying t=some (.struct fs)→∀f∈fs.toList,(P.info? f.type).isSome=true
 eq:∀t sh,xV t=some sh→P.eqGuardType P.depth t=false∧∀(xs ys:List SV) (us vs:List Value) (ρ:bF) (b:Bool) (w:World),bM ρ xs us→bM ρ ys vs→(eqs sh xs ys).go=some b→
  (Op.equal t (.agg us.toArray) (.agg vs.toArray)).run P w=.ok b w
theorem ofV1_ok{ρ:bF}{v:Value}(h:okV1 v=true):VR ρ (ofV1 v) v:=by
 cases v<;>simp[okV1]at h<;>simp[ofV1,VR,Value.oneCell'];exact h
theorem ofV_ok{ρ:bF}{v:Value}(h:okVal v=true):VR ρ (ofV v) v:=by
 cases v
 case agg cs=>
  simp only[okVal,List.all_eq_true]at h;simp only[ofV,VR];refine⟨cs,rfl,bM.of_get (by simp) fun i v hv=>?_⟩;rw[List.getElem?_map]at hv;cases hx:cs.toList[i]?with
  |none=>rw[hx]at hv;cases hv
  |some x=>
   rw[hx]at hv;injection hv with hv;subst hv;exact⟨x,rfl,ofV1_ok (h x (List.mem_of_getElem? hx))⟩
 all_goals exact ofV1_ok (by simpa only[okVal]using h)
section
variable{P:Program}{ρ:bF}{w:World}
theorem xY(T:TOK P){t:Nat}{v:SV}(h:(zero P t).go=some v):∃i z,P.info? t=some i∧i.zero=some z∧VR ρ v z∧t<P.types.size:=by
 unfold zero at h;cases hi:P.info? t with
 |none=>rw[hi]at h;cases h
 |some i=>
  rw[hi]at h;simp only at h;cases hz:i.zero with
  |none=>rw[hz]at h;cases h
  |some z=>
   rw[hz]at h;simp only at h;split at h
   ·rename_i hn cK
    have:=Out.ret_go h;subst this;have cK:=aF.1 cK;exact⟨i,z,rfl,hz,ofV_ok ((T.zero t i z cK hi hz).1 hn),cK⟩
   ·cases h
theorem iX{t:Nat}{i:TypeInfo}{z:Value}(h1:P.info? t=some i)(h2:i.zero=some z):(zeroValue t).run P w=.ok z w:=by
 simp[zeroValue,oY h1,h2]
theorem setAt_ok:∀(vs:List SV) (us:List Value) (cs:List SV) (zs:Array Value) (o k:Nat),bM ρ vs us→bM ρ cs zs.toList→o+k+vs.length≤cs.length→
 bM ρ (setAt cs (o+k) vs) ((us.zipIdx k).foldl (fun(cs:Array Value) (x:Value×Nat)=>cs.setIfInBounds (o+x.2) x.1) zs).toList
 |[],[],cs,zs,o,k,_,h,_=>by simpa[setAt]using h
 |v::vs,u::us,cs,zs,o,k,hv,h,hl=>by
  simp only[bM]at hv;simp only[List.zipIdx_cons,List.foldl_cons,setAt];rw[Nat.add_assoc];refine setAt_ok vs us _ _ o (k+1) hv.2 ?_ (by simp at hl⊢;omega);have hle:=h.length;refine bM.of_get (by simpa using hle) fun i x hi=>?_
  rw[Array.toList_setIfInBounds];by_cases e:o+k=i
  ·subst e
   simp at hl;rw[List.getElem?_set_self (by omega)]at hi;injection hi with hi;subst hi;exact⟨u,by rw[List.getElem?_set_self (by rw[←hle];omega)],hv.1⟩
  ·rw[List.getElem?_set_ne e]at hi⊢
   exact h.get hi
 |[],_::_,_,_,_,_,h,_,_=>by simp only[bM]at h
 |_::_,[],_,_,_,_,h,_,_=>by simp only[bM]at h
theorem uA:∀(vs cs:List SV) (o:Nat),(setAt cs o vs).length=cs.length
 |[],_,_=>rfl
 |v::vs,cs,o=>by simp[setAt,uA vs]
theorem xZ{place:Nat→Option (Nat×Nat)}:∀(ps:List (Nat×SV)) (qs:List (Nat×Value)) (cs gF:List SV) (zs:Array Value),(fill place cs ps).go=some gF→
 ps.map (·.1)=qs.map (·.1)→bM ρ (ps.map (·.2)) (qs.map (·.2))→bM ρ cs zs.toList→∃zs',Instr.fill place zs qs=some zs'∧bM ρ gF zs'.toList
 |[],[],cs,gF,zs,h,_,_,hz=>by
  have:=Out.ret_go h;subst this;exact⟨zs,rfl,hz⟩
 |(i,v)::ps,(j,u)::qs,cs,gF,zs,h,he,hv,hz=>by
  simp only[List.map_cons,List.cons.injEq]at he;obtain⟨rfl,he⟩:=he;simp only[List.map_cons,bM]at hv;unfold fill at h;unfold Instr.fill;cases hp:place i with
  |none=>rw[hp]at h;cases h
  |some x=>
   obtain⟨o,s⟩:=x;rw[hp]at h;simp only at h⊢;split at h
   ·rename_i hc
    simp only[Bool.and_eq_true]at hc;have h1:=Nat.eq_of_beq_eq_true hc.1;have h2:=Nat.le_of_ble_eq_true hc.2;have nN:=oZ hv.1;have hl:=nN.length;have hzl:=hz.length;rw[if_neg (by
     simp only[Bool.or_eq_true,decide_eq_true_eq,not_or];simp at hl hzl;omega)]
    refine xZ ps qs _ gF _ h he hv.2 ?_;have:=setAt_ok v.cells u.cells.toList cs zs o 0 nN hz (by omega);rw[←Array.foldl_toList,Array.toList_zipIdx];exact this
   ·cases h
 |[],_::_,_,_,_,_,h,_,_=>by simp at h
 |_::_,[],_,_,_,_,h,_,_=>by simp at h
end
theorem fits_hd{n:Int}(h:fits n=true):hd .i64 n:=by
 simp only[fits,Bool.and_eq_true,decide_eq_true_eq]at h;exact h
theorem hd_tmod{k:IntKind}{x y:Int}(h:hd k x):hd k (x.tmod y):=by
 have h1:∀a b:Int,0≤a→0≤a.tmod b∧a.tmod b≤a:=fun a b ha=>by
  obtain⟨n,rfl⟩:=Int.eq_ofNat_of_zero_le ha;rw[Int.tmod_eq_emod_of_nonneg ha];by_cases hb:b=0
  ·subst hb;simp
  ·exact⟨Int.emod_nonneg _ hb,by
   rcases Int.natAbs_eq b with e|e
   ·rw[e,←Int.natCast_emod];exact Int.ofNat_le.2 (Nat.mod_le _ _)
   ·rw[e,Int.emod_neg,←Int.natCast_emod];exact Int.ofNat_le.2 (Nat.mod_le _ _)⟩
 rcases Int.le_total 0 x with h0|h0
 ·have:=h1 x y h0
  simp only[hd]at h⊢;have hl:lo k≤0:=by cases k<;>decide
  omega
 ·have:=h1 (-x) y (by omega)
  rw[Int.neg_tmod]at this;simp only[hd]at h⊢;have hl:0≤hi k:=by cases k<;>decide
  omega
theorem hd_fdiv{k:IntKind}{x:Int}{n:Nat}(h:hd k x):hd k (x.fdiv (2^n)):=by
 have hp:(0:Int)<2^n:=Int.pow_pos (by decide);rw[Int.fdiv_eq_ediv_of_nonneg _ (by omega)];simp only[hd]at h⊢;have hl:lo k≤0:=by cases k<;>decide
 have hh:0≤hi k:=by cases k<;>decide
 rcases Int.le_total 0 x with h0|h0
 ·have h1:=Int.ediv_nonneg h0 (by omega:(0:Int)≤2^n)
  have h2:=Int.ediv_le_self (2^n) h0;omega
 ·have h1:x/2^n≤0:=Int.ediv_nonpos_of_nonpos_of_neg h0 hp
  have h2:x≤x/2^n:=by
   rw[Int.le_ediv_iff_mul_le hp];have:=Int.mul_le_mul_of_nonpos_left h0 (show(1:Int)≤2^n by omega);omega
  omega
section
variable{P:Program}{ρ:bF}{h:H}{w:World}
theorem arith_ok{bY:Bool}{op:BinOp}{k:IntKind}{x y:Int}{v:SV}(hg:(arith bY op k x y).go=some v)(hx:hd k x):
 ∃u,(Go.binOp op 0 (.int k x) (.int k y)).run P w=.ok u w∧VR ρ v u:=by
 have hr:∀z,∀v,Out.go (match k with
  |.i64=>match bY with
   |false=>.chk (fits z) (.ret (SV.int .i64 z))
   |true=>.ret (.int .i64 (IntKind.wrap .i64 z))
  |k=>.ret (.int k (k.wrap z)))=some v→v=.int k (k.wrap z):=by
  intro z v h;cases k<;>simp only at h
  case i64=>
   cases bY
   ·obtain⟨h1,h2⟩:=Out.chk_go h
    rw[jB (fits_hd h1)];exact(Out.ret_go h2).symm
   ·exact(Out.ret_go h).symm
  all_goals exact(Out.ret_go h).symm
 have hv:∀z,VR ρ (.int k (k.wrap z)) (.int k (k.wrap z)):=fun z=>by simp only[VR];exact⟨trivial,tZ k z⟩
 cases op<;>simp only[arith]at hg
 case add=>rw[hr _ _ hg];exact⟨_,by simp[Go.binOp,Op.intArith],hv _⟩
 case sub=>rw[hr _ _ hg];exact⟨_,by simp[Go.binOp,Op.intArith],hv _⟩
 case mul=>rw[hr _ _ hg];exact⟨_,by simp[Go.binOp,Op.intArith],hv _⟩
 case quo=>
  obtain⟨h1,h2⟩:=Out.chk_go hg;have:=Out.ret_go h2;subst this;simp at h1;exact⟨.int k (k.wrap (x.tdiv y)),by simp[Go.binOp,Op.intDiv,h1],hv _⟩
 case rem=>
  obtain⟨h1,h2⟩:=Out.chk_go hg;have:=Out.ret_go h2;subst this;simp at h1;exact⟨.int k (x.tmod y),by simp[Go.binOp,Op.intDiv,h1],by simp only[VR];exact⟨trivial,hd_tmod hx⟩⟩
 case and=>have:=Out.ret_go hg;subst this;exact⟨_,by simp[Go.binOp,Op.intBits],hv _⟩
 case or=>have:=Out.ret_go hg;subst this;exact⟨_,by simp[Go.binOp,Op.intBits],hv _⟩
 case xor=>have:=Out.ret_go hg;subst this;exact⟨_,by simp[Go.binOp,Op.intBits],hv _⟩
 case eql=>have:=Out.ret_go hg;subst this;exact⟨.bool (x==y),by simp[Go.binOp,Op.intCmp],by simp only[VR]⟩
 case neq=>have:=Out.ret_go hg;subst this;exact⟨.bool (x !=y),by simp[Go.binOp,Op.intCmp],by simp only[VR]⟩
 case lss=>have:=Out.ret_go hg;subst this;exact⟨.bool (decide (x<y)),by simp[Go.binOp,Op.intCmp],by simp only[VR]⟩
 case leq=>have:=Out.ret_go hg;subst this;exact⟨.bool (decide (x≤y)),by simp[Go.binOp,Op.intCmp],by simp only[VR]⟩
 case gtr=>have:=Out.ret_go hg;subst this;exact⟨.bool (decide (x>y)),by simp[Go.binOp,Op.intCmp],by simp only[VR]⟩
 case geq=>have:=Out.ret_go hg;subst this;exact⟨.bool (decide (x≥y)),by simp[Go.binOp,Op.intCmp],by simp only[VR]⟩
 all_goals cases hg
theorem yR(op:BinOp)(t:Nat)(k k':IntKind)(x y:Int):Go.binOp op t (.int k x) (.int k' y)=Go.binOp op 0 (.int k x) (.int k' y):=by
 cases op<;>rfl
theorem kH{t:Nat}{a b:Value}{r:Bool}(h:∀n,(Op.equalIn (n+1) t a b).run P w=.ok r w):(Op.equal t a b).run P w=.ok r w:=h 9999
theorem eql_ok(T:TOK P){c:Bool}{t:Nat}{x y:SV}{a b:Value}{r:Bool}(hg:(eql P c t x y).go=some r)(hx:VR ρ x a)(hy:VR ρ y b):
 (Op.equal t a b).run P w=.ok r w∧∀(op:BinOp) (ox oy:Operand),(c=true→(cst ox||cst oy)=true)→(eqGuard op t ox oy a b).run P w=.ok () w:=by
 unfold eql at hg;split at hg
 ·split at hg
  ·rename_i ms hu
   have:=Out.ret_go hg;subst this;simp only[VR]at hx hy;obtain⟨x',rfl,_⟩:=hx;obtain⟨rfl,_⟩:=hy;exact⟨kH fun n=>by simp[Op.equalIn,bN hu],fun op ox oy _=>by cases op<;>simp[eqGuard]⟩
  ·cases hg
 ·split at hg
  ·rename_i c' ms hu
   have:=Out.ret_go hg;subst this;simp only[VR]at hx hy;obtain⟨rfl,_⟩:=hx;obtain⟨rfl,_⟩:=hy;refine⟨kH fun n=>by simp[Op.equalIn,bN hu],fun op ox oy hc=>?_⟩;have hc:=hc rfl;have hc':((match ox with|.const _=>true|_=>false)||(match oy with|.const _=>true|_=>false))=true:=by
    cases ox<;>cases oy<;>simp[cst]at hc⊢
   cases op<;>simp[eqGuard]
   all_goals(cases ox<;>cases oy<;>simp[cst]at hc⊢)
  ·cases hg
 ·split at hg
  ·rename_i hu
   have:=Out.ret_go hg;subst this;simp only[VR]at hx hy;obtain⟨f,g,rfl,_⟩:=hx;obtain⟨rfl,_⟩:=hy;exact⟨kH fun n=>by simp[Op.equalIn,bN hu],fun op ox oy _=>by cases op<;>simp[eqGuard]⟩
  ·cases hg
 ·split at hg
  ·rename_i hu
   have:=Out.ret_go hg;subst this;simp only[VR]at hx hy;obtain⟨rfl,_⟩:=hx;obtain⟨rfl,_⟩:=hy;exact⟨kH fun n=>by simp[Op.equalIn,bN hu],fun op ox oy _=>by cases op<;>simp[eqGuard]⟩
  ·cases hg
 ·split at hg
  ·rename_i hu
   have:=Out.ret_go hg;subst this;simp only[VR]at hx hy;obtain⟨f,g,rfl,_⟩:=hx;obtain⟨rfl,_⟩:=hy;exact⟨kH fun n=>by simp[Op.equalIn,bN hu],fun op ox oy _=>by cases op<;>simp[eqGuard]⟩
  ·cases hg
 ·split at hg
  ·rename_i hu
   have:=Out.ret_go hg;subst this;simp only[VR]at hx hy;obtain⟨rfl,_⟩:=hx;obtain⟨rfl,_⟩:=hy;exact⟨kH fun n=>by simp[Op.equalIn,bN hu],fun op ox oy _=>by cases op<;>simp[eqGuard]⟩
  ·cases hg
 ·split at hg
  ·rename_i hu
   have:=Out.ret_go hg;subst this;simp only[VR]at hx hy;subst hx;subst hy;exact⟨kH fun n=>by simp[Op.equalIn,bN hu],fun op ox oy _=>by cases op<;>simp[eqGuard]⟩
  ·cases hg
 ·split at hg
  ·rename_i xs ys sh hc
   simp only[VR]at hx hy;obtain⟨us,rfl,hx⟩:=hx;obtain⟨vs,rfl,hy⟩:=hy;have:=T.eq t sh hc;refine⟨by simpa using this.2 _ _ us.toList vs.toList ρ r w hx hy hg,fun op ox oy _=>?_⟩;cases op<;>simp[eqGuard,this.1]
  ·cases hg
 ·cases hg
theorem binOp_ok(T:TOK P){bY c:Bool}{op:BinOp}{t:Nat}{x y v:SV}{a b:Value}{ox oy:Operand}(hg:(binOp P bY c op t x y).go=some v)(hx:VR ρ x a)(hy:VR ρ y b)
 (hc:c=true→(cst ox||cst oy)=true):
 ∃u,(do eqGuard op t ox oy a b;Go.binOp op t a b:Sem Value).run P w=.ok u w∧VR ρ v u:=by
 unfold binOp at hg;split at hg
 ·rename_i k m k' n
  simp only[VR]at hx hy;obtain⟨rfl,hkx⟩:=hx;obtain⟨rfl,hky⟩:=hy;have hgd:(eqGuard op t ox oy (.int k m) (.int k' n)).run P w=.ok () w:=by
   cases op<;>simp[eqGuard]
  simp only[Sem.run_bind,hgd,Result.andThen_ok];rw[yR];split at hg
  ·obtain⟨h1,h2⟩:=Out.chk_go hg
   have:=Out.ret_go h2;subst this;simp at h1;refine⟨.int k (k.wrap (m*2^(min n.toNat k.bits))),?_,by simp only[VR];exact⟨trivial,tZ _ _⟩⟩;have:¬n<0:=by omega
   simp[Go.binOp,Op.shift,this]
  ·obtain⟨h1,h2⟩:=Out.chk_go hg
   have:=Out.ret_go h2;subst this;simp at h1;refine⟨.int k (m.fdiv (2^(min n.toNat k.bits))),?_,by simp only[VR];exact⟨trivial,hd_fdiv hkx⟩⟩;have:¬n<0:=by omega
   simp[Go.binOp,Op.shift,this]
  ·split at hg
   ·rename_i hk
    simp at hk;subst hk;exact arith_ok hg hkx
   ·cases hg
 ·rename_i fS
  have gen:∀b',(eql P c t x y).go=some b'→(∀k m k' n,x=.int k m→y=.int k' n→False)→(Go.binOp .eql t a b).run P w=.ok (.bool b') w∧(Go.binOp .neq t a b).run P w=.ok (.bool !b') w∧∀op,(eqGuard op t ox oy a b).run P w=.ok () w:=by
   intro b' pT hni;obtain⟨h1,h2⟩:=eql_ok (w:=w) T pT hx hy;have h3:∀(f:Bool→Bool),(do pure (Value.bool (f (←Op.equal t a b))):Sem Value).run P w=.ok (.bool (f b')) w:=by intro f;simp[h1]
   unfold eql at pT;split at pT<;>(try(cases pT;done))<;>simp only[VR]at hx hy
   ·obtain⟨x',rfl,_⟩:=hx;obtain⟨rfl,_⟩:=hy
    exact⟨h3 id,h3 (!·),fun op=>h2 op ox oy hc⟩
   ·obtain⟨rfl,_⟩:=hx;obtain⟨rfl,_⟩:=hy
    exact⟨h3 id,h3 (!·),fun op=>h2 op ox oy hc⟩
   ·obtain⟨x',_,rfl,_⟩:=hx;obtain⟨rfl,_⟩:=hy
    exact⟨h3 id,h3 (!·),fun op=>h2 op ox oy hc⟩
   ·obtain⟨rfl,_⟩:=hx;obtain⟨rfl,_⟩:=hy
    exact⟨h3 id,h3 (!·),fun op=>h2 op ox oy hc⟩
   ·obtain⟨x',_,rfl,_⟩:=hx;obtain⟨rfl,_⟩:=hy
    exact⟨h3 id,h3 (!·),fun op=>h2 op ox oy hc⟩
   ·obtain⟨rfl,_⟩:=hx;obtain⟨rfl,_⟩:=hy
    exact⟨h3 id,h3 (!·),fun op=>h2 op ox oy hc⟩
   ·subst hx;subst hy
    exact⟨h3 id,h3 (!·),fun op=>h2 op ox oy hc⟩
   ·obtain⟨x',rfl,_⟩:=hx;obtain⟨y',rfl,_⟩:=hy
    exact⟨h3 id,h3 (!·),fun op=>h2 op ox oy hc⟩
  have hni:∀k m k' n,x=.int k m→y=.int k' n→False:=fun k m k' n e1 e2=>fS k m k' n e1 e2
  split at hg
  ·obtain⟨b',h1,h2⟩:=Out.bind_go hg
   have:=Out.ret_go h2;subst this;obtain⟨g1,g2,g3⟩:=gen b' h1 hni;exact⟨.bool b',by simp only[Sem.run_bind,g3,Result.andThen_ok,g1],by simp only[VR]⟩
  ·obtain⟨b',h1,h2⟩:=Out.bind_go hg
   have:=Out.ret_go h2;subst this;obtain⟨g1,g2,g3⟩:=gen b' h1 hni;exact⟨.bool !b',by simp only[Sem.run_bind,g3,Result.andThen_ok,g2],by simp only[VR]⟩
  ·cases hg
end
section
variable{P:Program}{ρ:bF}{h:H}{w:World}
theorem uB{AU:Operand→SV}{iR:Operand→Value}:∀(l:List Operand),(∀x∈l,VR ρ (AU x) (iR x))→bM ρ (l.map AU) (l.map iR)
 |[],_=>by simp only[List.map_nil,bM]
 |x::l,h=>by simp only[List.map_cons,bM];exact⟨h x (by simp),uB l fun y hy=>h y (by simp[hy])⟩
theorem yS{AU:Operand→SV}{iR:Operand→Value}:∀(l:List (Nat×Operand)),(∀x∈l,VR ρ (AU x.2) (iR x.2))→bM ρ ((l.map fun p=>(p.1,AU p.2)).map (·.2)) ((l.map fun p=>(p.1,iR p.2)).map (·.2))
 |[],_=>by simp only[List.map_nil,bM]
 |x::l,h=>by simp only[List.map_cons,bM];exact⟨h x (by simp),yS l fun y hy=>h y (by simp[hy])⟩
theorem bM.drop:∀{s:List SV} {u:List Value} (n:Nat),bM ρ s u→bM ρ (s.drop n) (u.drop n)
 |[],[],n,_=>by simp[bM]
 |_::_,_::_,0,h=>h
 |_::xs,_::ys,n+1,h=>by simp only[bM]at h;simpa using bM.drop n h.2
 |[],_::_,_,h=>by simp only[bM]at h
 |_::_,[],_,h=>by simp only[bM]at h
theorem bM.take:∀{s:List SV} {u:List Value} (n:Nat),bM ρ s u→bM ρ (s.take n) (u.take n)
 |[],[],n,_=>by simp[bM]
 |_::_,_::_,0,_=>by simp[bM]
 |_::xs,_::ys,n+1,h=>by simp only[bM]at h;simp only[List.take_succ_cons,bM];exact⟨h.1,bM.take n h.2⟩
 |[],_::_,_,h=>by simp only[bM]at h
 |_::_,[],_,h=>by simp only[bM]at h
theorem cut_ok{l i n lo hi:Nat}{c:Option Nat}{v:SV}{a:Addr}{cap size:Nat}(hg:(cut l i n c lo hi).go=some v)
 (hx:VR ρ (.slice l i n c) (.slice (some a) n cap))(hs:∀p,ρ l=some p→p.sz=size):
 hi≤n∧lo≤hi∧n≤cap∧VR ρ v (.slice (some (if cap=lo then a else a.add (lo*size))) (hi-lo) (cap-lo)):=by
 unfold cut at hg;obtain⟨h1,h2⟩:=Out.all_go hg;have:=Out.ret_go h2;subst this;have h3:=Nat.le_of_ble_eq_true (h1 (Nat.ble hi n) (by simp));have h4:=Nat.le_of_ble_eq_true (h1 (Nat.ble lo hi) (by simp));simp only[VR]at hx;obtain⟨a',cap',e,h5,h6,h7,h8⟩:=hx;injection e with e1 e2 e3;injection e1 with e1;subst e1;subst e3;refine⟨h3,h4,h5,?_⟩;simp only[VR];refine⟨_,cap-lo,rfl,by omega,by omega,fun c0 hc=>?_,?_⟩
 ·cases c with
  |none=>simp at hc
  |some c1=>simp at hc;rw[h7 c1 rfl];exact hc
 ·obtain⟨p,hp,h9⟩:=h8
  refine⟨p,hp,fun hpos=>?_⟩;obtain⟨ha,hR⟩:=h9 (by omega);refine⟨?_,?_⟩
  ·rw[if_neg (by omega),ha,jQ,aY,←hs p hp,Nat.add_mul]
   simp[Nat.add_assoc]
  ·rw[aY];rw[show i+lo+(cap-lo)=i+cap by omega];exact hR
theorem bound_ok{d n:Nat}{x:Option SV}(hg:(bound d x).go=some n):(x=none∧n=d)∨∃k z,x=some (.int k z)∧0≤z∧n=z.toNat:=by
 unfold bound at hg;split at hg
 ·exact .inl ⟨rfl,(Out.ret_go hg).symm⟩
 ·obtain⟨h1,h2⟩:=Out.chk_go hg
  exact .inr ⟨_,_,rfl,by simpa using h1,(Out.ret_go h2).symm⟩
 ·cases hg
theorem run_sliceBound{k:IntKind}{z:Int}{y:Nat}{code:BoundsCode}(h0:0≤z)(h1:z.toNat≤y):(Instr.sliceBound (.int k z) y code).run P w=.ok z.toNat w:=by
 have:z≤y:=by omega
 simp[Instr.sliceBound,asIntOf,h0,this]
theorem qR{b:Bool}{len cap lo hi:Nat}{xl xh:Option SV}{rl rh:Option Value}(hh:(bound len xh).go=some hi)(hl:(bound 0 xl).go=some lo)
 (vh:∀x,xh=some x→∃u,rh=some u∧VR ρ x u)(nh:xh=none→rh=none)(vl:∀x,xl=some x→∃u,rl=some u∧VR ρ x u)(nl:xl=none→rl=none)
 (h1:hi≤cap)(h2:lo≤hi):(Instr.sliceBounds b len cap rl rh none).run P w=.ok (lo,hi,cap) w:=by
 have hrh:(rh=none∧hi=len)∨∃k z,rh=some (.int k z)∧0≤z∧hi=z.toNat:=by
  rcases bound_ok hh with⟨e,he⟩|⟨k,z,e,h0,he⟩
  ·exact .inl ⟨nh e,he⟩
  ·obtain⟨u,e1,e2⟩:=vh _ e
   simp only[VR]at e2;exact .inr ⟨k,z,by rw[e1,e2.1],h0,he⟩
 have hrl:(rl=none∧lo=0)∨∃k z,rl=some (.int k z)∧0≤z∧lo=z.toNat:=by
  rcases bound_ok hl with⟨e,he⟩|⟨k,z,e,h0,he⟩
  ·exact .inl ⟨nl e,he⟩
  ·obtain⟨u,e1,e2⟩:=vl _ e
   simp only[VR]at e2;exact .inr ⟨k,z,by rw[e1,e2.1],h0,he⟩
 clear vh nh vl nl hh hl;rcases hrh with⟨rfl,rfl⟩|⟨k,z,rfl,h3,rfl⟩<;>rcases hrl with⟨rfl,rfl⟩|⟨k',z',rfl,h4,rfl⟩
 ·simp[Instr.sliceBounds]
 ·simp[Instr.sliceBounds,run_sliceBound h4 h2]
 ·simp[Instr.sliceBounds,run_sliceBound h3 h1]
 ·simp[Instr.sliceBounds,run_sliceBound h3 h1,run_sliceBound h4 h2]
theorem osz_ok{l s:Nat}{p:Pl}(hr:HR ρ h w)(hp:ρ l=some p)(hs:xU (h.get l)=s)(h0:s≠0):p.sz=s:=by
 have hl:live h l:=by
  unfold live;intro e;rw[e]at hs;simp[xU]at hs;omega
 obtain⟨_,q,h2,h3,h4⟩:=hr.at_ l hl;rw[hp]at h2;injection h2 with h2;subst h2;cases ho:h.get l with
 |cells t s' c=>rw[ho]at h4 hs;simp[xU]at hs;rw[←hs];exact h4.1
 |ints t s' c=>rw[ho]at h4 hs;simp[xU]at hs;rw[←hs];exact h4.1
 |spot t s' k c=>rw[ho]at h4 hs;simp[xU]at hs;rw[←hs];exact h4.1
 |_=>rw[ho]at hs;simp[xU]at hs;omega
theorem info_of_sz{e:Nat}(h:sz P e≠0):∃i,P.info? e=some i∧i.size=sz P e:=by
 unfold sz at h⊢;cases hi:P.info? e with
 |none=>simp[hi]at h
 |some i=>exact⟨i,rfl,rfl⟩
theorem yT{l e:Nat}(hr:HR ρ h w)(hg:tY P h l e=true):sz P e≠0∧∀p,ρ l=some p→p.sz=sz P e:=by
 unfold tY at hg;simp only[Bool.and_eq_true]at hg;have h1:=aF.1 hg.1;have h2:=Nat.eq_of_beq_eq_true hg.2;exact⟨by omega,fun p hp=>osz_ok hr hp h2 (by omega)⟩
theorem qA{e:Nat}(h:sz P e≠0):(sizeOf e).run P w=.ok (sz P e) w:=by
 obtain⟨i,h1,h2⟩:=info_of_sz h;rw[run_sizeOf h1,h2]
theorem len_ok{x:SV}{a:Value}{n:Nat}(hg:(len x).go=some n)(hx:VR ρ x a):∃b c,a=.slice b n c∧hd .i64 n:=by
 unfold len at hg;split at hg
 ·have:=Out.ret_go hg
  subst this;simp only[VR]at hx;obtain⟨b,c,rfl,h1,h2,_⟩:=hx;exact⟨_,_,rfl,by simp only[hd,lo,hi];unfold xH at h2;omega⟩
 ·obtain⟨h1,h2⟩:=Out.chk_go hg
  have:=Out.ret_go h2;subst this;have h1:=Nat.le_of_ble_eq_true h1;simp only[VR]at hx;exact⟨_,_,hx.1,by simp only[hd,lo,hi];omega⟩
 ·cases hg
theorem run_part{t:Nat}{d:TypeDesc}{cs:Array Value}{off:Nat}(hu:P.underlying t=some d):
 (part t cs off).run P w=match xG d with
  |true=>.ok (.agg (cs.extract off (off+sz P t))) w
  |false=>match cs[off]?with
   |some v=>.ok v w
   |none=>.halt (.stuck "part: no such cell") w:=by
 simp only[part,Sem.run_bind,sF hu,Result.andThen_ok];cases xG d
 ·simp only[Bool.false_eq_true,if_false]
  cases cs[off]?<;>rfl
 ·simp[run_sz hu]
theorem wN:∀(fs:List Field),(∀f∈fs,(P.info? f.type).isSome=true)→fs.mapM (fun f=>(P.info? f.type).map fun i=>(f.offset,i.size))=some (fs.map fun f=>(f.offset,sz P f.type))
 |[],_=>rfl
 |f::fs,h=>by
  obtain⟨i,hi⟩:=Option.isSome_iff_exists.1 (h f (by simp));simp[List.mapM_cons,hi,wN fs fun g hg=>h g (by simp[hg]),sz]
theorem ev_ok(T:TOK P){bY:Bool}{AU:Operand→SV}{iR:Operand→Value}{o:Oper}{v:SV}(hg:(ev P bY h AU o.op).go=some v)(hr:HR ρ h w)
 (nB:∀x∈o.op.operands,VR ρ (AU x) (iR x)):∃u,(execOp iR o).run P w=.ok (.value u) w∧VR ρ v u:=by
 obtain⟨dst,op,type,pos,after,guard⟩:=o;simp only at hg nB;unfold ev at hg;split at hg
 case h_1 x=>
  have:=Out.ret_go hg;subst this;exact⟨iR x,rfl,nB x (by simp[Op.operands])⟩
 case h_2 x=>
  have:=Out.ret_go hg;subst this;exact⟨iR x,rfl,nB x (by simp[Op.operands])⟩
 case h_3 c a b=>
  have hc:=nB c (by simp[Op.operands]);split at hg
  ·rename_i t ht
   rw[ht]at hc;simp only[VR]at hc;cases t
   ·have:=Out.ret_go hg;subst this
    exact⟨iR b,by simp[execOp,hc,asBool],nB b (by simp[Op.operands])⟩
   ·have:=Out.ret_go hg;subst this
    exact⟨iR a,by simp[execOp,hc,asBool],nB a (by simp[Op.operands])⟩
  ·cases hg
 case h_4 t a=>
  obtain⟨u,h1,h2⟩:=load_ok (P:=P) hg hr (nB a (by simp[Op.operands]));exact⟨u,by simp[execOp,h1],h2⟩
 case h_5 x=>
  have hx:=nB x (by simp[Op.operands]);split at hg
  ·rename_i l i f he
   have:=Out.ret_go hg;subst this;rw[he]at hx;have hx0:=hx;simp only[VR]at hx;obtain⟨p,h1,h2⟩:=hx;exact⟨_,by simp[execOp,h2],h2▸hx0⟩
  ·rename_i t x' he
   have:=Out.ret_go hg;subst this;rw[he]at hx;have hx0:=hx;simp only[VR]at hx;obtain⟨y,h2,h3⟩:=hx;exact⟨_,by simp[execOp,h2],h2▸hx0⟩
  ·cases hg
 case h_6 op t x y yt=>
  obtain⟨u,h1,h2⟩:=binOp_ok (w:=w) T hg (nB x (by simp[Op.operands])) (nB y (by simp[Op.operands])) (ox:=x) (oy:=y) fun h=>h
  refine⟨u,?_,h2⟩;have:(execOp iR {dst,op:=.binOp op t x y yt,type,pos,after,guard})=(do pure (.value (←(do eqGuard op t x y (iR x) (iR y);Go.binOp op t (iR x) (iR y):Sem Value))):Sem Next):=rfl;rw[this,Sem.run_bind,h1];rfl
 case h_7 t x=>
  have hx:=nB x (by simp[Op.operands]);split at hg
  ·rename_i b he
   have:=Out.ret_go hg;subst this;rw[he]at hx;simp only[VR]at hx;exact⟨.bool !b,by simp[execOp,Op.unary,hx],by simp only[VR]⟩
  ·cases hg
 case h_8 t x=>
  have hx:=nB x (by simp[Op.operands]);split at hg
  ·rename_i k n he
   rw[he]at hx;simp only[VR]at hx;have h0:hd k 0:=by cases k<;>simp[hd,lo,hi]
   obtain⟨u,h1,h2⟩:=arith_ok (P:=P) (w:=w) hg h0;refine⟨u,?_,h2⟩;have h1':(Op.intArith .sub k 0 n).run P w=.ok u w:=by simpa[Go.binOp]using h1
   simp[execOp,Op.unary,hx.1,h1']
  ·cases hg
 case h_9 src dst' x=>
  have hx:=nB x (by simp[Op.operands]);split at hg
  ·rename_i d k n k' hus he hu
   rw[he]at hx;simp only[VR]at hx;obtain⟨hx,hk⟩:=hx;have hw:∀v,v=SV.int k' (k'.wrap n)→∃u,(execOp iR {dst,op:=.convert src dst' x,type,pos,after,guard}).run P w=.ok (.value u) w∧VR ρ v u:=by
    rintro v rfl;refine⟨.int k' (k'.wrap n),?_,by simp only[VR];exact⟨trivial,tZ _ _⟩⟩;have:(Go.convert src dst' (.int k n)).run P w=.ok (.int k' (k'.wrap n)) w:=by
     simp only[Go.convert,Sem.run_bind,bN hus,bN hu,Result.andThen_ok];simp[Conv.intToInt]
    simp[execOp,hx,this]
   split at hg
   ·rename_i hkk
    simp at hkk;subst hkk;have:=Out.ret_go hg;subst this;exact hw _ (by rw[jB hk])
   ·exact hw _ (Out.ret_go hg).symm
  ·cases hg
 case h_10 t parts=>
  obtain⟨z,hz,hg⟩:=Out.bind_go hg;obtain⟨it,zv,hi,hzv,hzr,cK⟩:=xY T hz;have nN:=oZ hzr;have hm:bM ρ ((parts.toList.map fun p=>(p.1,AU p.2)).map (·.2)) ((parts.map fun(x:Nat×Operand)=>(x.1,iR x.2)).toList.map (·.2)):=by
   have:=yS (ρ:=ρ) (AU:=AU) (iR:=iR) parts.toList fun x hx=>nB x.2 (by
    simp only[Op.operands,List.mem_toArray,List.mem_map];exact⟨x,by simpa using hx,rfl⟩)
   simpa using this
  have hm1:(parts.toList.map fun p=>(p.1,AU p.2)).map (·.1)=(parts.map fun(x:Nat×Operand)=>(x.1,iR x.2)).toList.map (·.1):=by simp[Function.comp_def]
  split at hg
  ·rename_i fs hu
   obtain⟨cs,hf,hg⟩:=Out.bind_go hg;have:=Out.ret_go hg;subst this;have hfs:=T.fields t fs cK hu;obtain⟨zs,h1,h2⟩:=xZ _ _ _ _ zv.cells hf hm1 hm nN;refine⟨.agg zs,?_,by simp only[VR];exact⟨zs,rfl,h2⟩⟩;have hb:P.built t (parts.map fun(x:Nat×Operand)=>(x.1,iR x.2)).toList=some zs:=by
    simp only[Program.built,hi,hu,hzv,wN fs.toList hfs];rw[←h1];congr 1;funext i;simp
   simp[execOp,run_build w t _ zs hb]
  ·rename_i n e hu
   split at hg
   ·rename_i ie AV
    obtain⟨cs,hf,hg⟩:=Out.bind_go hg;have:=Out.ret_go hg;subst this;obtain⟨zs,h1,h2⟩:=xZ _ _ _ _ zv.cells hf hm1 hm nN;refine⟨.agg zs,?_,by simp only[VR];exact⟨zs,rfl,h2⟩⟩;have hb:P.built t (parts.map fun(x:Nat×Operand)=>(x.1,iR x.2)).toList=some zs:=by
     simp only[Program.built,hi,hu,hzv,AV];exact h1
    simp[execOp,run_build w t _ zs hb]
   ·cases hg
  ·cases hg
 case h_11 t x=>
  have hx:=nB x (by simp[Op.operands]);split at hg
  ·cases hg
  ·rename_i d hd hu
   have:=Out.ret_go hg;subst this;refine⟨.iface t (iR x),?_,by simp only[VR];exact⟨_,rfl,hx⟩⟩;have:(Instr.makeInterface t (iR x)).run P w=.ok (.iface t (iR x)) w:=by
    simp only[Instr.makeInterface,Sem.run_bind,bN hu,Result.andThen_ok];cases d<;>first|rfl|exact(hd _ rfl).elim
   simp[execOp,this]
  ·cases hg
 case h_12 f first cap=>
  have:=Out.ret_go hg;subst this;refine⟨.func (.func f) (first.map iR) (cap.map iR),by simp[execOp,Instr.makeFunc],?_⟩;simp only[VR];exact⟨_,_,rfl,by simpa using uB first.toList fun x hx=>nB x (by simp[Op.operands];exact .inl (by simpa using hx)),by simpa using uB cap.toList fun x hx=>nB x (by simp[Op.operands];exact .inr (by simpa using hx))⟩
 case h_13 t x lo hi=>
  have hx:=nB x (by simp[Op.operands]);have vo:∀(y:Option Operand),(∀z,y=some z→z∈(Op.slice t x lo hi none).operands)→(∀s,y.map AU=some s→∃u,y.map iR=some u∧VR ρ s u)∧(y.map AU=none→y.map iR=none):=by
   intro y hy;cases y with
   |none=>exact⟨fun s h=>by simp at h,fun _=>rfl⟩
   |some z=>exact⟨fun s h=>by simp at h;subst h;exact⟨_,rfl,nB z (hy z rfl)⟩,fun h=>by simp at h⟩
  obtain⟨vh,nh⟩:=vo hi fun z hz=>by subst hz;simp[Op.operands]
  obtain⟨vl,nl⟩:=vo lo fun z hz=>by subst hz;simp[Op.operands]
  split at hg
  ·rename_i e hu
   split at hg
   ·rename_i l i n c he
    split at hg
    ·rename_i nD
     obtain⟨tU,h1,hg⟩:=Out.bind_go hg;obtain⟨lo',h2,hg⟩:=Out.bind_go hg;rw[he]at hx;have hx0:=hx;simp only[VR]at hx0;obtain⟨a,cap,ha,hnc,_⟩:=hx0;rw[ha]at hx;obtain⟨hs0,hs⟩:=yT hr nD;obtain⟨k1,k2,k3,k4⟩:=cut_ok (size:=sz P e) hg hx hs;have hb:=qR (P:=P) (w:=w) (b:=true) (cap:=cap) h1 h2 vh nh vl nl (by omega) k2;have dZ:(Instr.sliceAt t (iR x) (lo.map iR) (hi.map iR) none).run P w=.ok (.slice (some (if cap=lo' then a else a.add (lo'*sz P e))) (tU-lo') (cap-lo')) w:=by
      simp only[Instr.sliceAt,Sem.run_bind,bN hu,Result.andThen_ok,Instr.slice,ha,hb,qA hs0,Sem.run_pure];split<;>rfl
     exact⟨_,by simp[execOp,dZ],k4⟩
    ·cases hg
   ·cases hg
  ·rename_i n e hu
   split at hg
   ·rename_i l he
    split at hg
    ·rename_i t' s c hcells
     split at hg
     ·rename_i yA
      simp only[Bool.and_eq_true]at yA;obtain⟨hs0,hs⟩:=yT hr yA.1.1;have hlen:=Nat.le_of_ble_eq_true yA.1.2;have hbig0:=Nat.le_of_ble_eq_true yA.2;obtain⟨tU,h1,hg⟩:=Out.bind_go hg;obtain⟨lo',h2,hg⟩:=Out.bind_go hg;rw[he]at hx;simp only[VR]at hx;obtain⟨p,hp,ha⟩:=hx;have eK:live h l:=by unfold live;rw[hcells];simp
      obtain⟨_,q,hq,_,hor⟩:=hr.at_ l eK;rw[hp]at hq;injection hq with hq;subst hq;rw[hcells]at hor;obtain⟨e1,e2,cs,fr,e3,e4,e5,_⟩:=hor;have hbig:n≤xH:=by unfold xH;omega
      have hvr:VR ρ (.slice l 0 n (some n)) (.slice (some ⟨p.b,p.o,none⟩) n n):=by
       simp only[VR];refine⟨_,n,rfl,Nat.le_refl _,hbig,fun c0 hc=>(by injection hc),p,hp,fun _=>⟨by simp,?_⟩⟩;rw[e1,Nat.zero_add];omega
      obtain⟨k1,k2,k3,k4⟩:=cut_ok (size:=sz P e) hg hvr hs;have hb:=qR (P:=P) (w:=w) (b:=false) (cap:=n) h1 h2 vh nh vl nl (by omega) k2;have dZ:(Instr.sliceAt t (iR x) (lo.map iR) (hi.map iR) none).run P w=.ok (.slice (some (if n=lo' then⟨p.b,p.o,none⟩else(⟨p.b,p.o,none⟩:Addr).add (lo'*sz P e))) (tU-lo') (n-lo')) w:=by
       simp only[Instr.sliceAt,Sem.run_bind,bN hu,Result.andThen_ok,Instr.sureAddr,ha,hb,qA hs0,Sem.run_pure];simp
      exact⟨_,by simp[execOp,dZ],k4⟩
     ·cases hg
    ·cases hg
   ·cases hg
  ·cases hg
 case h_14 t x f=>
  have hx:=nB x (by simp[Op.operands]);split at hg
  ·rename_i fs l i o hu he
   split at hg
   ·rename_i fd hfd
    split at hg
    ·rename_i sG
     have:=Out.ret_go hg;subst this;have sG:=aF.1 sG;rw[he]at hx;simp only[VR]at hx;obtain⟨p,hp,ha⟩:=hx;refine⟨.pointer (some ⟨p.b,p.o+i*p.sz+(o+fd.offset),none⟩),?_,by simp only[VR];exact⟨p,hp,rfl⟩⟩;have dZ:(Instr.fieldAt t (iR x) f).run P w=.ok (.pointer (some ⟨p.b,p.o+i*p.sz+(o+fd.offset),none⟩)) w:=by
      have fS:sz P fd.type≠0:=by omega
      simp only[Instr.fieldAt,Sem.run_bind,bN hu,Result.andThen_ok,hfd,ha,Instr.sureAddr,Sem.run_pure,fieldPlace,qA fS,fS,if_false,jQ];simp[Nat.add_assoc]
     simp[execOp,dZ]
    ·cases hg
   ·cases hg
  ·cases hg
 case h_15 t x f=>
  have hx:=nB x (by simp[Op.operands]);split at hg
  ·rename_i fs cs hu he
   split at hg
   ·rename_i fd hfd
    split at hg
    ·rename_i d hd
     rw[he]at hx;simp only[VR]at hx;obtain⟨rs,ha,hrs⟩:=hx;have wO:=run_part (P:=P) (w:=w) (cs:=rs) (off:=fd.offset) hd;have dZ:∀u,(part fd.type rs fd.offset).run P w=.ok u w→(execOp iR {dst,op:=.field t x f,type,pos,after,guard}).run P w=.ok (.value u) w:=by
      intro u hu';simp[execOp,Instr.field,bN hu,hfd,ha,asAgg,hu']
     split at hg
     ·rename_i hag
      have:=Out.ret_go hg;subst this;rw[hag]at wO;refine⟨_,dZ _ wO,?_⟩;simp only[VR];refine⟨_,rfl,?_⟩;have:=(hrs.drop fd.offset).take (sz P fd.type);simpa[Array.toList_extract,List.extract_eq_take_drop]using this
     ·rename_i hag
      have hc:=Out.of_go hg;obtain⟨u,h1,h2⟩:=hrs.get hc;rw[hag]at wO;have h1':rs[fd.offset]?=some u:=by simpa using h1
      rw[h1']at wO;exact⟨u,dZ _ wO,h2⟩
    ·cases hg
   ·cases hg
  ·cases hg
 case h_16 t x j=>
  have hx:=nB x (by simp[Op.operands]);have hj:=nB j (by simp[Op.operands]);split at hg
  ·rename_i e l i n c k z hu he hz
   split at hg
   ·rename_i nD
    obtain⟨hs0,hs⟩:=yT hr nD;obtain⟨hc,hg⟩:=Out.all_go hg;have:=Out.ret_go hg;subst this;have c1:0≤z:=by simpa using hc (decide (0≤z)) (by simp)
    have c2:z<n:=by simpa using hc (decide (z<n)) (by simp)
    rw[he]at hx;rw[hz]at hj;simp only[VR]at hx hj;obtain⟨a,cap,ha,hnc,_,_,p,hp,hpos⟩:=hx;obtain⟨rfl,hR⟩:=hpos (by omega);refine⟨.pointer (some ⟨p.b,p.o+(i+z.toNat)*p.sz+0,none⟩),?_,by simp only[VR,aY];exact⟨p,hp,rfl⟩⟩;have dZ:(Instr.indexAt t (iR x) (iR j)).run P w=.ok (.pointer (some ⟨p.b,p.o+(i+z.toNat)*p.sz+0,none⟩)) w:=by
     simp only[Instr.indexAt,hj.1,asIntOf,Sem.run_bind,Sem.run_pure,Result.andThen_ok,bN hu,ha];simp[c1,c2,qA hs0,jQ,←hs p hp,Nat.add_mul,Nat.add_assoc]
    simp[execOp,dZ]
   ·cases hg
  ·rename_i n e l i o k z hu he hz
   split at hg
   ·rename_i sG
    have sG:=aF.1 sG;have fS:sz P e≠0:=by omega
    obtain⟨hc,hg⟩:=Out.all_go hg;have:=Out.ret_go hg;subst this;have c1:0≤z:=by simpa using hc (decide (0≤z)) (by simp)
    have c2:z<n:=by simpa using hc (decide (z<n)) (by simp)
    rw[he]at hx;rw[hz]at hj;simp only[VR]at hx hj;obtain⟨p,hp,ha⟩:=hx;refine⟨.pointer (some ⟨p.b,p.o+i*p.sz+(o+z.toNat*sz P e),none⟩),?_,by simp only[VR];exact⟨p,hp,rfl⟩⟩;have dZ:(Instr.indexAt t (iR x) (iR j)).run P w=.ok (.pointer (some ⟨p.b,p.o+i*p.sz+(o+z.toNat*sz P e),none⟩)) w:=by
     simp only[Instr.indexAt,hj.1,asIntOf,Sem.run_bind,Sem.run_pure,Result.andThen_ok,bN hu,ha,Instr.sureAddr];simp[c1,c2,qA fS,jQ,Nat.add_assoc]
    simp[execOp,dZ]
   ·cases hg
  ·cases hg
 case h_17 t x j=>
  have hx:=nB x (by simp[Op.operands]);have hj:=nB j (by simp[Op.operands]);split at hg
  ·rename_i n e cs k z hu he hz
   split at hg
   ·rename_i d hd
    split at hg
    ·cases hg
    ·rename_i hag
     split at hg
     ·rename_i sG
      have sG:=aF.1 sG;have fS:sz P e≠0:=by omega
      obtain⟨hc,hg⟩:=Out.all_go hg;have c1:0≤z:=by simpa using hc (decide (0≤z)) (by simp)
      have c2:z<n:=by simpa using hc (decide (z<n)) (by simp)
      rw[he]at hx;rw[hz]at hj;simp only[VR]at hx hj;obtain⟨rs,ha,hrs⟩:=hx;obtain⟨u,h1,h2⟩:=hrs.get (Out.of_go hg);have wO:=run_part (P:=P) (w:=w) (cs:=rs) (off:=z.toNat*sz P e) hd;have h1':rs[z.toNat*sz P e]?=some u:=by simpa using h1
      rw[hag,h1']at wO;refine⟨u,?_,h2⟩;have dZ:(Instr.index t (iR x) (iR j)).run P w=.ok u w:=by
       simp only[Instr.index,hj.1,asIntOf,Sem.run_bind,Sem.run_pure,Result.andThen_ok,bN hu,ha];simp only[c1,c2,and_self,if_true,Sem.run_bind,qA fS,Result.andThen_ok];exact wO
      simp[execOp,dZ]
     ·cases hg
   ·cases hg
  ·rename_i s k z hu he hz
   obtain⟨c1,hg⟩:=Out.chk_go hg;have c1:0≤z:=by simpa using c1
   split at hg
   ·rename_i b hb
    have:=Out.ret_go hg;subst this;rw[he]at hx;rw[hz]at hj;simp only[VR]at hx hj;refine⟨.int .u8 b.toNat,?_,by simp only[VR];exact⟨trivial,by simp only[hd,lo,hi];have:=b.toNat_lt;omega⟩⟩;have hsb:s[z.toNat]?=some b:=by
     have:s.data[z.toNat]?=some b:=by simpa using hb
     rw[←this];rfl
    have dZ:(Instr.index t (iR x) (iR j)).run P w=.ok (.int .u8 b.toNat) w:=by
     simp only[Instr.index,hj.1,asIntOf,Sem.run_bind,Sem.run_pure,Result.andThen_ok,bN hu,hx.1,c1,if_true,hsb]
    simp[execOp,dZ]
   ·cases hg
  ·cases hg
 case h_18 t j=>
  have hx:=nB t (by simp[Op.operands]);split at hg
  ·rename_i l he
   rw[he]at hx;simp only[VR]at hx;obtain⟨rs,ha,hrs⟩:=hx;obtain⟨u,h1,h2⟩:=hrs.get (Out.of_go hg);have h1':rs[j]?=some u:=by simpa using h1
   exact⟨u,by simp[execOp,Instr.extract,ha,h1'],h2⟩
  ·cases hg
 case h_19 args ts=>
  split at hg
  ·rename_i x ty rest eA hts
   have hx:=nB x (by
    simp only[Op.operands,Call.operands];have:x∈args.toList:=by rw[eA];simp
    simpa using this)
   split at hg
   ·rename_i e hu
    obtain⟨n,h1,hg⟩:=Out.bind_go hg;have:=Out.ret_go hg;subst this;obtain⟨b,c,ha,hn⟩:=len_ok h1 hx;refine⟨.int .i64 n,?_,by simp only[VR];exact⟨trivial,hn⟩⟩;have e1:ts[0]?=some ty:=by
     have:ts.toList[0]?=some ty:=by rw[hts];rfl
     simpa using this
    have e2:(args.map iR)[0]?=some (iR x):=by
     have:args.toList[0]?=some x:=by rw[eA];rfl
     have:args[0]?=some x:=by simpa using this
     simp[this]
    simp only[execOp,resolve,Sem.run_bind,Sem.run_pure,Result.andThen_ok,invoke,Go.builtin,Builtin.len_,e1,e2,bN hu,ha];rfl
   ·cases hg
  ·cases hg
 case h_20 args _=>
  split at hg
  ·rename_i x y eA
   have hx:=nB x (by
    simp only[Op.operands,Call.operands];have:x∈args.toList:=by rw[eA];simp
    simpa using this)
   have hy:=nB y (by
    simp only[Op.operands,Call.operands];have:y∈args.toList:=by rw[eA];simp
    simpa using this)
   split at hg
   ·rename_i k a k' b he1 he2
    split at hg
    ·rename_i hk
     simp at hk;subst hk;have:=Out.ret_go hg;subst this;rw[he1]at hx;rw[he2]at hy;simp only[VR]at hx hy;refine⟨.int k (if b>a then b else a),?_,by simp only[VR];exact⟨trivial,by split<;>first|exact hy.2|exact hx.2⟩⟩;have e2:(args.map iR).toList=[iR x,iR y]:=by simp[eA]
     simp only[execOp,resolve,Sem.run_bind,Sem.run_pure,Result.andThen_ok,invoke,Go.builtin,Builtin.max_,e2];simp[Builtin.max2,hx.1,hy.1]
    ·cases hg
   ·cases hg
  ·cases hg
 case h_21 args _=>
  split at hg
  ·rename_i x y eA
   have hx:=nB x (by
    simp only[Op.operands,Call.operands];have:x∈args.toList:=by rw[eA];simp
    simpa using this)
   have hy:=nB y (by
    simp only[Op.operands,Call.operands];have:y∈args.toList:=by rw[eA];simp
    simpa using this)
   split at hg
   ·rename_i k a k' b he1 he2
    split at hg
    ·rename_i hk
     simp at hk;subst hk;have:=Out.ret_go hg;subst this;rw[he1]at hx;rw[he2]at hy;simp only[VR]at hx hy;refine⟨.int k (if b<a then b else a),?_,by simp only[VR];exact⟨trivial,by split<;>first|exact hy.2|exact hx.2⟩⟩;have e2:(args.map iR).toList=[iR x,iR y]:=by simp[eA]
     simp only[execOp,resolve,Sem.run_bind,Sem.run_pure,Result.andThen_ok,invoke,Go.builtin,Builtin.min_,e2];simp[Builtin.min2,hx.1,hy.1]
    ·cases hg
   ·cases hg
  ·cases hg
 case h_22=>cases hg
end
end Go.Proofs.YtnkcbfgfkadoaaaGreat.Sx
