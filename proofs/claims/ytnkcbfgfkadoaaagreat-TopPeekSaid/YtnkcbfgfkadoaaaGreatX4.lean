/- Part 4 of the proof of TopPeek. -/
import Derived.OrdersIn
import Derived.Test.YtnkcbfgfkadoaaaGreatX3
set_option linter.all false
namespace Go.Proofs.YtnkcbfgfkadoaaaGreat.Sx
open Go
section
variable{P:Program}{ρ:bF}{h:H}{w:World}
def flat(o:SO):Prop:=xU o=0∧oln o=none∧∀i f,rdO o i f=.fail
theorem flat_same{o o':SO}(h:flat o)(h':flat o')(a k:Nat):qW o o' a k:=⟨by rw[h.1,h'.1],by rw[h.2.1,h'.2.1],fun i f _ _=>by rw[h.2.2,h'.2.2]⟩
theorem OR.flat{p:Pl}{o:SO}{x:Obj}(h:OR ρ p w o)(hx:w.heap[p.b]?=some x)(hn:kT x):flat o:=by
 have no:∀cs t fr,w.heap[p.b]?=some (Obj.cells cs t fr)→False:=fun cs t fr h2=>by rw[hx]at h2;injection h2 with h2;subst h2;exact hn
 cases o with
 |cells t s l=>obtain⟨_,_,cs,fr,h3,_⟩:=h;exact(no _ _ _ h3.choose_spec).elim
 |ints t s l=>obtain⟨_,_,cs,fr,h3,_⟩:=h;exact(no _ _ _ h3.choose_spec).elim
 |spot t s k l=>obtain⟨_,_,_,cs,fr,h3,_⟩:=h;exact(no _ _ _ h3.choose_spec).elim
 |any t s n=>obtain⟨_,_,cs,fr,h3,_⟩:=h;exact(no _ _ _ h3.choose_spec).elim
 |_=>exact⟨rfl,rfl,fun _ _=>rfl⟩
theorem HR.setO{l:Nat}{p:Pl}{o:SO}{x x':Obj}(hr:HR ρ h w)(hv:live h l)(hp:ρ l=some p)(hR:p.R≠0)(hx:w.heap[p.b]?=some x)(hnc:kT x)(dE:okR h l=true)(hfl:flat o)(hd:o≠.dead)
 (ho:OR ρ p {w with heap:=w.heap.setIfInBounds p.b x'} o):
 HR ρ (h.put l o) {w with heap:=w.heap.setIfInBounds p.b x'}∧FR ρ h w ρ (h.put l o) {w with heap:=w.heap.setIfInBounds p.b x'}:=by
 have hl:=(hr.at_ l hv).1;have yP:l≤1000000:=by have:=hr.n;omega
 have ne:∀b:Nat,b≠p.b→(w.heap.setIfInBounds p.b x')[b]?=w.heap[b]?:=fun b hb=>Array.getElem?_setIfInBounds_ne (Ne.symm hb)
 have keyc:∀(b:Nat) cs t fr,w.heap[b]?=some (Obj.cells cs t fr)→b≠p.b:=fun b cs t fr hb e=>by
  subst e;rw[hx]at hb;injection hb with hb;subst hb;exact hnc
 refine⟨⟨hr.n,fun m hm=>?_,fun m m' q q' fS hm pZ=>hr.apart m m' q q' fS ((HR.put_live yP hv hd).1 hm) ((HR.put_live yP hv hd).1 pZ),hr.fresh,hr.amb_step rfl rfl (by simp) (fun b hs=>ne b fun e=>hR ((hr.amb.2 b hs).2 l p hv hp e.symm)) fun b m q hs hm hq e=>(hr.amb.2 b hs).2 m q ((HR.put_live yP hv hd).1 hm) hq e⟩,⟨.refl _,fun _ _=>rfl,Nat.le_refl _,by simp,fun b cs t fr hb=>⟨cs,by simp only[ne b (keyc b cs t fr hb)];exact hb,rfl,fun _ _=>rfl⟩,fun b y hb _ ho=>?_,fun m _ hm=>(HR.put_live yP hv hd).1 hm,fun m q hm hvm _=>absurd (hr.at_ m ((HR.put_live yP hv hd).1 hvm)).1 (by omega),fun _ h=>.inr h,rfl,rfl,fun y hy _=>?_,⟨rfl,rfl,rfl⟩⟩⟩
 ·have yQ:=(HR.put_live yP hv hd).1 hm
  obtain⟨h1,q,h2,h3,h4⟩:=hr.at_ m yQ;refine⟨h1,q,h2,by simpa using h3,?_⟩;by_cases e:l=m
  ·subst e
   rw[hp]at h2;injection h2 with h2;subst h2;rw[H.get_put yP];exact ho
  ·rw[H.get_put_ne e]
   refine h4.frame (.refl _) (fun gF t' fr' pT=>⟨gF,by simp only[ne _ (keyc _ _ _ _ pT)];exact pT,rfl,fun _ _ _=>rfl⟩) (fun y hy _ hqR=>?_);have:q.b≠p.b:=by
    rcases hr.apart l m p q e hv yQ hp h2 with h5|h5|h5|h5
    ·exact Ne.symm h5
    ·exact absurd h5 hR
    ·exact absurd h5 hqR
    ·exact absurd h5.1 (vN dE)
   simp only[ne _ this];exact hy
 ·have:b≠p.b:=fun e=>ho (.inl ⟨l,p,hv,hp,e.symm,hR,vN dE⟩)
  simp only[ne b this];exact hb
 ·by_cases e:y.1=l
  ·obtain⟨_,q,hq,_,ho'⟩:=hr.at_ l hv
   rw[hp]at hq;injection hq with hq;subst hq;rw[e,H.get_put yP];exact flat_same (ho'.flat hx hnc) hfl _ _
  ·rw[H.get_put_ne (Ne.symm e)];exact .refl _ _ _
theorem copy_ok{t:Nat}{x y v:SV}{a b:Value}{h':H}{ts:Array TypeId}{ty:TypeId}{args:Array Value}(hg:(copy P h t x y).go=some (v,h'))(hr:HR ρ h w)(hx:VR ρ x a)(hy:VR ρ y b)
 (e1:ts[0]?=some t)(e3:args[0]?=some a)(e4:args[1]?=some b):
 ∃w' u,(Builtin.copy_ ts ty args).run P w=.ok u w'∧VR ρ v u∧HR ρ h' w'∧FR ρ h w ρ h' w':=by
 unfold copy at hg;split at hg
 ·rename_i e hu
  split at hg
  ·rename_i ie AV
   split at hg
   ·rename_i l i n c l2 j m c2
    obtain⟨r,hr1,hg⟩:=Out.bind_go hg;split at hg
    ·rename_i vs hcp
     split at hg
     ·rename_i yA
      simp only[Bool.and_eq_true]at yA;have nD:=Nat.eq_of_beq_eq_true yA.1.2;have hs0:=aF.1 yA.2;have hrs:nF r=ie.size∧eQ r=vs:=by
       have:=yA.1.1;cases r with
       |none=>cases hcp
       |any _ _ _=>cases hcp
       |cs t' s' l=>
        simp only[kF,Bool.and_eq_true]at this;injection hcp with hcp;exact⟨Nat.eq_of_beq_eq_true this.2,hcp⟩
       |is t' s' l=>
        simp only[kF,Bool.and_eq_true]at this;injection hcp with hcp;exact⟨Nat.eq_of_beq_eq_true this.2,hcp⟩
      obtain⟨hrs,hsv⟩:=hrs;obtain⟨h1,hw1,hg⟩:=Out.bind_go hg;have hret:=Out.ret_go hg;injection hret with r1 r2;subst r1;subst r2;simp only[VR]at hx hy;obtain⟨ax,capx,rfl,hx1,hx2,hx3,hx4⟩:=hx;obtain⟨ay,capy,rfl,hy1,hy2,hy3,hy4⟩:=hy;have hkm:(if m≤n then m else n)≤m:=by split<;>omega
      have hkn:(if m≤n then m else n)≤n:=by split<;>omega
      have hkmin:Nat.min m n=if m≤n then m else n:=by
       simp only[Nat.min_def]
      generalize hk:(if m≤n then m else n)=k at*;have hy':VR ρ (.slice l2 j k none) (.slice (some ay) k capy):=by
       simp only[VR];exact⟨ay,capy,rfl,by omega,hy2,fun c0 h=>(by cases h),hy4⟩
      obtain⟨us,u1,u2,u3⟩:=uC (P:=P) (s:=ie.size) hr1 hr hy' rfl (fun _=>hrs);rw[hsv]at u2;have u3':(Builtin.firstCells ie.size k (.slice (some ay) m capy)).run P w=.ok us.toArray w:=u3 w rfl;have hl:live h l:=by
       unfold live;intro e;rw[e]at nD;simp[xU]at nD;omega
      obtain⟨_,p,hp,hpb,_⟩:=hr.at_ l hl;have hps:=osz_ok hr hp nD (by omega);obtain⟨w',w1,w2,w3⟩:=wrN_ok (P:=P) (i:=0) hp vs us h h1 w (bG i ie.size) 0 hw1 hr u2;refine⟨w',.int .i64 k,?_,by simp only[VR];exact⟨trivial,by simp only[hd,lo,hi];unfold xH at hx2;omega⟩,w2,w3⟩;have gA:(storeCells ax us).run P w=.ok () w':=by
       rcases Nat.eq_zero_or_pos k with hk0|hk0
       ·subst hk0
        rw[Nat.zero_mul]at u1;have:=List.eq_nil_of_length_eq_zero u1;subst this;simpa[storeCells]using w1
       ·obtain⟨p',g1,g2⟩:=hx4
        obtain⟨g2,_⟩:=g2 (by omega);rw[hp]at g1;injection g1 with g1;subst g1;rw[g2];rw[Nat.zero_mul,Nat.add_zero,bT,←hps]at w1;exact w1
      simp only[Builtin.copy_,e1,e3,e4,Sem.run_bind,bN hu,Result.andThen_ok,Builtin.lenOf,Sem.run_pure,run_sizeOf AV];rw[hkmin,u3'];simp[gA,goInt]
     ·cases hg
    ·cases hg
   ·cases hg
  ·cases hg
 ·cases hg
def MR(ρ:bF):List (Int×SV)→List MapEntry→Prop
 |[],[]=>True
 |x::xs,y::ys=>(y.key=.int .i64 x.1∧VR ρ x.2 y.val)∧MR ρ xs ys
 |_,_=>False
theorem MR.of:∀(es:List (Int×SV)) (ms:List MapEntry),bM ρ (es.map (·.2)) (ms.map (·.val))→es.map (fun e=>Value.int .i64 e.1)=ms.map (·.key)→MR ρ es ms
 |[],[],_,_=>trivial
 |x::xs,y::ys,h1,h2=>by
  simp only[List.map_cons,bM]at h1;simp only[List.map_cons,List.cons.injEq]at h2;exact⟨⟨h2.1.symm,h1.1⟩,MR.of xs ys h1.2 h2.2⟩
 |[],_::_,_,h=>by simp at h
 |_::_,[],_,h=>by simp at h
theorem MR.to:∀(es:List (Int×SV)) (ms:List MapEntry),MR ρ es ms→bM ρ (es.map (·.2)) (ms.map (·.val))∧es.map (fun e=>Value.int .i64 e.1)=ms.map (·.key)
 |[],[],_=>by simp[bM]
 |x::xs,y::ys,h=>by
  obtain⟨⟨h1,h2⟩,h3⟩:=h;obtain⟨h4,h5⟩:=MR.to xs ys h3;simp only[List.map_cons,bM,h1,h5];exact⟨⟨h2,h4⟩,trivial⟩
 |[],_::_,h=>h.elim
 |_::_,[],h=>h.elim
theorem look_ok{kk:IntKind}{k:Int}{d:SV}:∀(es:List (Int×SV)) (ms:List MapEntry) (i:Nat) (r:SV×Bool),MR ρ es ms→(look k d es).go=some r→
 (∃j u,Instr.findNow (.int kk) (.int .i64 k) ms i=some (some (j,u))∧VR ρ r.1 u∧r.2=true)∨(Instr.findNow (.int kk) (.int .i64 k) ms i=some none∧r=(d,false))
 |[],[],i,r,_,hg=>.inr ⟨rfl,(Out.ret_go hg).symm⟩
 |(j,v)::es,e::ms,i,r,hm,hg=>by
  obtain⟨⟨h1,h2⟩,h3⟩:=hm;unfold look at hg;simp only at h1 h2;simp only[Out.go]at hg;simp only[Instr.findNow,h1,Instr.sameNow,if_true];split at hg
  ·rename_i hkj
   rw[hkj];have:=Out.ret_go hg;subst this;exact .inl ⟨i,e.val,rfl,h2,rfl⟩
  ·rename_i hkj
   rw[hkj];exact look_ok es ms (i+1) r h3 hg
 |[],_::_,_,_,h,_=>h.elim
 |_::_,[],_,_,h,_=>h.elim
theorem upd_ok{kk:IntKind}{k:Int}{v:SV}{u:Value}(hv:VR ρ v u):∀(es AW:List (Int×SV)) (ms:List MapEntry) (i:Nat),MR ρ es ms→(upd k v es).go=some AW→
 (∃j x e,Instr.findNow (.int kk) (.int .i64 k) ms i=some (some (i+j,x))∧ms[j]?=some e∧e.key=.int .i64 k∧MR ρ AW (ms.modify j fun e=>{e with key:=.int .i64 k,val:=u}))∨
 (Instr.findNow (.int kk) (.int .i64 k) ms i=some none∧∀c,MR ρ AW (ms++[{key:=.int .i64 k,val:=u,born:=c}]))
 |[],AW,[],i,_,hg=>by
  have:=Out.ret_go hg;subst this;exact .inr ⟨rfl,fun c=>⟨⟨rfl,hv⟩,trivial⟩⟩
 |(j,v')::es,AW,e::ms,i,hm,hg=>by
  obtain⟨⟨h1,h2⟩,h3⟩:=hm;unfold upd at hg;simp only at h1 h2;simp only[Out.go]at hg;simp only[Instr.findNow,h1,Instr.sameNow,if_true];split at hg
  ·rename_i hkj
   rw[hkj];have:=Out.ret_go hg;subst this;have hk:k=j:=by simpa using hkj
   subst hk;exact .inl ⟨0,e.val,e,by simp,rfl,h1,⟨⟨rfl,hv⟩,h3⟩⟩
  ·rename_i hkj
   rw[hkj];obtain⟨es2,g1,g2⟩:=Out.bind_go hg;have:=Out.ret_go g2;subst this;rcases upd_ok hv es es2 ms (i+1) h3 g1 with⟨j2,x,e2,a1,a2,a3,a4⟩|⟨a1,a2⟩
   ·exact .inl ⟨j2+1,x,e2,by rw[a1];simp;omega,by simpa using a2,a3,by simpa using⟨⟨h1,h2⟩,a4⟩⟩
   ·exact .inr ⟨a1,fun c=>⟨⟨h1,h2⟩,a2 c⟩⟩
 |[],_,_::_,_,h,_=>h.elim
 |_::_,_,[],_,h,_=>h.elim
theorem del_ok{kk:IntKind}{k:Int}:∀(es AW:List (Int×SV)) (ms:List MapEntry) (i:Nat),MR ρ es ms→(del k es).go=some AW→
 (∃j x,Instr.findNow (.int kk) (.int .i64 k) ms i=some (some (i+j,x))∧MR ρ AW (ms.eraseIdx j))∨(Instr.findNow (.int kk) (.int .i64 k) ms i=some none∧MR ρ AW ms)
 |[],AW,[],i,_,hg=>by
  have:=Out.ret_go hg;subst this;exact .inr ⟨rfl,trivial⟩
 |(j,v')::es,AW,e::ms,i,hm,hg=>by
  obtain⟨⟨h1,h2⟩,h3⟩:=hm;unfold del at hg;simp only at h1 h2;simp only[Out.go]at hg;simp only[Instr.findNow,h1,Instr.sameNow,if_true];split at hg
  ·rename_i hkj
   rw[hkj];have:=Out.ret_go hg;subst this;exact .inl ⟨0,e.val,by simp,h3⟩
  ·rename_i hkj
   rw[hkj];obtain⟨es2,g1,g2⟩:=Out.bind_go hg;have:=Out.ret_go g2;subst this;rcases del_ok es es2 ms (i+1) h3 g1 with⟨j2,x,a1,a4⟩|⟨a1,a2⟩
   ·exact .inl ⟨j2+1,x,by rw[a1];simp;omega,by simpa using⟨⟨h1,h2⟩,a4⟩⟩
   ·exact .inr ⟨a1,⟨h1,h2⟩,a2⟩
 |[],_,_::_,_,h,_=>h.elim
 |_::_,_,[],_,h,_=>h.elim
theorem run_checkKey{e:Bool}{n kt:Nat}{kk:IntKind}{x:Value}(hu:P.underlying kt=some (.int kk)):(Instr.checkKey e (n+1) kt x).run P w=.ok () w:=by
 simp[Instr.checkKey,bN hu]
theorem map_at{l:Nat}{es:List (Int×SV)}(hr:HR ρ h w)(hm:h.get l=.map es):live h l∧∃p,ρ l=some p∧p.R≠0∧∃ms c,w.heap[p.b]?=some (.map ms c)∧MR ρ es ms.toList:=by
 have hl:live h l:=by unfold live;rw[hm];simp
 obtain⟨_,p,hp,_,ho⟩:=hr.at_ l hl;rw[hm]at ho;obtain⟨h1,ms,c,h2,h3,h4⟩:=ho;exact⟨hl,p,hp,h1,ms,c,h2,MR.of es ms.toList h3 h4⟩
theorem lookup_ok(T:TOK P){t:Nat}{m k v:SV}{rm rk:Value}{ok:Bool}(hg:(lookup P h t m k ok).go=some v)(hr:HR ρ h w)(hm:VR ρ m rm)(hk:VR ρ k rk):
 ∃u,(Instr.lookup t rm rk ok).run P w=.ok u w∧VR ρ v u:=by
 unfold lookup at hg;split at hg
 ·rename_i kt e l z hu
  split at hg
  ·rename_i kk es hkt hes
   obtain⟨d,hd,hg⟩:=Out.bind_go hg;obtain⟨r,hl,hg⟩:=Out.bind_go hg;obtain⟨it,zv,hi,hzv,hzr,cK⟩:=xY T hd;obtain⟨_,p,hp,hR,ms,c,hb,hmr⟩:=map_at hr hes;simp only[VR]at hm hk;obtain⟨p',pV,rfl⟩:=hm;rw[hp]at pV;injection pV with pV;subst pV;have AX:(getObj p.b).run P w=.ok (.map ms c) w:=by simp[getObj,Sem.run,hb]
   have hfin:∀(x:Value) (b:Bool),VR ρ r.1 x→r.2=b→∃u,(pure (if ok then Value.tuple #[x,.bool b]else x):Sem Value).run P w=.ok u w∧VR ρ v u:=by
    intro x b h1 h2;cases ok
    ·have:=Out.ret_go hg;subst this
     exact⟨x,rfl,h1⟩
    ·have:=Out.ret_go hg;subst this
     exact⟨.tuple #[x,.bool b],rfl,by simp only[VR];exact⟨_,rfl,by simp only[bM,VR,h2,and_true];exact h1⟩⟩
   rcases look_ok (kk:=kk) es ms.toList 0 r hmr hl with⟨j,x,a1,a2,a3⟩|⟨a1,a2⟩
   ·obtain⟨u,f1,f2⟩:=hfin x true a2 a3
    refine⟨u,?_,f2⟩;rw[←f1];simp only[Instr.lookup,Sem.run_bind,bN hu,Result.andThen_ok,AX,Sem.run_pure,hk.1,run_checkKey hkt,Instr.findKey,bN hkt,a1]
   ·obtain⟨u,f1,f2⟩:=hfin zv false (by rw[a2];exact hzr) (by rw[a2])
    refine⟨u,?_,f2⟩;rw[←f1];simp only[Instr.lookup,Sem.run_bind,bN hu,Result.andThen_ok,AX,Sem.run_pure,hk.1,run_checkKey hkt,Instr.findKey,bN hkt,a1,iX hi hzv]
  ·cases hg
 ·cases hg
theorem update_ok{t:Nat}{m k v:SV}{rm rk u:Value}{h':H}(hg:(update P h t m k v).go=some h')(hr:HR ρ h w)(hm:VR ρ m rm)(hk:VR ρ k rk)(hv:VR ρ v u):
 ∃w',(Instr.mapUpdate t rm rk u).run P w=.ok () w'∧HR ρ h' w'∧FR ρ h w ρ h' w':=by
 unfold update at hg;split at hg
 ·rename_i kt e l z hu
  split at hg
  ·rename_i kk es hkt hes
   obtain⟨hokR,hg⟩:=Out.chk_go hg;obtain⟨AW,he,hg⟩:=Out.bind_go hg;have:=Out.ret_go hg;subst this;obtain⟨hl,p,hp,hR,ms,c,hb,hmr⟩:=map_at hr hes;simp only[VR]at hm hk;obtain⟨p',pV,rfl⟩:=hm;rw[hp]at pV;injection pV with pV;subst pV;have AX:(getObj p.b).run P w=.ok (.map ms c) w:=by simp[getObj,Sem.run,hb]
   have hset:∀o,(setObj p.b o).run P w=.ok () {w with heap:=w.heap.setIfInBounds p.b o}:=fun o=>by simp[setObj,Sem.run,hb]
   have fin:∀(ms':Array MapEntry) (c':Nat),MR ρ AW ms'.toList→HR ρ (h.put l (.map AW)) {w with heap:=w.heap.setIfInBounds p.b (.map ms' c')}∧FR ρ h w ρ (h.put l (.map AW)) {w with heap:=w.heap.setIfInBounds p.b (.map ms' c')}:=by
    intro ms' c' hmr';obtain⟨g1,g2⟩:=MR.to _ _ hmr';exact hr.setO hl hp hR hb trivial hokR ⟨rfl,rfl,fun _ _=>rfl⟩ (by simp) ⟨hR,ms',c',by simp[Array.getElem?_setIfInBounds_self_of_lt (dP hb)],g1,g2⟩
   rcases upd_ok (kk:=kk) hv es AW ms.toList 0 hmr he with⟨j,x,e2,a1,a2,a3,a4⟩|⟨a1,a2⟩
   ·rw[Nat.zero_add]at a1
    have a2':ms[j]?=some e2:=by simpa using a2
    obtain⟨f1,f2⟩:=fin (ms.modify j fun e=>{e with key:=.int .i64 z,val:=u}) c (by simpa[Array.toList_modify]using a4);refine⟨_,?_,f1,f2⟩;simp only[Instr.mapUpdate,Sem.run_bind,bN hu,Result.andThen_ok,AX,Sem.run_pure,hk.1,run_checkKey hkt,Instr.findKey,bN hkt,a1,a2',Option.map_some,Option.getD_some,a3];have hsb:Instr.sameBits 10000 (.int .i64 z) (.int .i64 z)=true:=by
     show Instr.sameBits (9999+1) (.int .i64 z) (.int .i64 z)=true;unfold Instr.sameBits;simp
    simp[Instr.keyThatStays,hsb,hset]
   ·obtain⟨f1,f2⟩:=fin (ms.push {key:=.int .i64 z,val:=u,born:=c}) (c+1) (by simpa using a2 c)
    refine⟨_,?_,f1,f2⟩;simp only[Instr.mapUpdate,Sem.run_bind,bN hu,Result.andThen_ok,AX,Sem.run_pure,hk.1,run_checkKey hkt,Instr.findKey,bN hkt,a1,hset]
  ·cases hg
 ·cases hg
theorem delete_ok{t:Nat}{m k:SV}{rm rk:Value}{h':H}{ts:Array TypeId}{ty:TypeId}{args:Array Value}(hg:(delete P h t m k).go=some h')(hr:HR ρ h w)(hm:VR ρ m rm)(hk:VR ρ k rk)
 (e1:ts[0]?=some t)(e3:args[0]?=some rm)(e4:args[1]?=some rk):
 ∃w',(Builtin.delete_ ts ty args).run P w=.ok (.tuple #[]) w'∧HR ρ h' w'∧FR ρ h w ρ h' w':=by
 unfold delete at hg;split at hg
 ·rename_i kt e l z hu
  split at hg
  ·rename_i kk es hkt hes
   obtain⟨hokR,hg⟩:=Out.chk_go hg;obtain⟨AW,he,hg⟩:=Out.bind_go hg;have:=Out.ret_go hg;subst this;obtain⟨hl,p,hp,hR,ms,c,hb,hmr⟩:=map_at hr hes;simp only[VR]at hm hk;obtain⟨p',pV,rfl⟩:=hm;rw[hp]at pV;injection pV with pV;subst pV;have AX:(getObj p.b).run P w=.ok (.map ms c) w:=by simp[getObj,Sem.run,hb]
   have hset:∀o,(setObj p.b o).run P w=.ok () {w with heap:=w.heap.setIfInBounds p.b o}:=fun o=>by simp[setObj,Sem.run,hb]
   have fin:∀(ms':Array MapEntry) (c':Nat),MR ρ AW ms'.toList→HR ρ (h.put l (.map AW)) {w with heap:=w.heap.setIfInBounds p.b (.map ms' c')}∧FR ρ h w ρ (h.put l (.map AW)) {w with heap:=w.heap.setIfInBounds p.b (.map ms' c')}:=by
    intro ms' c' hmr';obtain⟨g1,g2⟩:=MR.to _ _ hmr';exact hr.setO hl hp hR hb trivial hokR ⟨rfl,rfl,fun _ _=>rfl⟩ (by simp) ⟨hR,ms',c',by simp[Array.getElem?_setIfInBounds_self_of_lt (dP hb)],g1,g2⟩
   rcases del_ok (kk:=kk) es AW ms.toList 0 hmr he with⟨j,x,a1,a4⟩|⟨a1,a2⟩
   ·rw[Nat.zero_add]at a1
    obtain⟨f1,f2⟩:=fin (ms.eraseIdxIfInBounds j) c (by simpa using a4);refine⟨_,?_,f1,f2⟩;simp only[Builtin.delete_,e1,e3,e4,Sem.run_bind,bN hu,Result.andThen_ok,AX,Sem.run_pure,hk.1,run_checkKey hkt,Instr.findKey,bN hkt,a1,hset]
   ·obtain⟨f1,f2⟩:=fin ms c a2
    refine⟨_,?_,f1,f2⟩;simp only[Builtin.delete_,e1,e3,e4,Sem.run_bind,bN hu,Result.andThen_ok,AX,Sem.run_pure,hk.1,run_checkKey hkt,Instr.findKey,bN hkt,a1,hset]
  ·cases hg
 ·cases hg
end
def blk(ρ:bF)(l:Nat):Nat:=match ρ l with
 |some p=>p.b
 |none=>0
theorem yU{ρ aW:bF}{l:Nat}{p:Pl}(hle:ρ.le aW)(h:ρ l=some p):blk aW l=blk ρ l:=by simp[blk,h,hle l p h]
def tH(b:Nat):Deferred:={target:=.collected b,args:=#[]}
structure AR(ρ:bF)(a:SA)(c:Act):Prop where
 n:a.n≤1000
 size:c.tmps.size=a.n
 at_:∀i,VR ρ (a.get i) (c.tmps.getD i Go.undef)
 marks:∀l∈a.marks,∃p,ρ l=some p
 defers:c.defers=a.marks.map fun l=>tH (blk ρ l)
theorem AR.mono{ρ aW:bF}{a:SA}{c:Act}(hle:ρ.le aW)(h:AR ρ a c):AR aW a c where
 n:=h.n
 size:=h.size
 at_:=fun i=>(h.at_ i).mono hle
 marks:=fun l hl=>let⟨p,hp⟩:=h.marks l hl;⟨p,hle _ _ hp⟩
 defers:=by
  rw[h.defers];refine List.map_congr_left fun l hl=>?_
  obtain⟨p,hp⟩:=h.marks l hl;rw[yU hle hp]
theorem SA.get_put{a:SA}{t:Nat}{v:SV}(h:t<a.n)(hn:a.n≤1000)(i:Nat):(a.put (some t) v).get i=if i=t then v else a.get i:=by
 unfold SA.put;have:Nat.blt t a.n=true:=aF.2 h;simp only[this];by_cases e:i=t
 ·subst e
  unfold SA.get;rw[if_pos rfl,Tr.get_set _ _ _ _ (by unfold D;omega)]
 ·unfold SA.get
  rw[if_neg e,Tr.get_set_ne _ _ _ _ _ (Ne.symm e)]
theorem SA.put_out{a:SA}{t:Nat}{v:SV}(h:¬t<a.n):a.put (some t) v=a:=by
 unfold SA.put;have:Nat.blt t a.n=false:=by
  cases h2:Nat.blt t a.n
  ·rfl
  ·exact absurd (aF.1 h2) h
 simp only[this]
theorem SA.put_n{a:SA}{t:Option Nat}{v:SV}:(a.put t v).n=a.n∧(a.put t v).marks=a.marks∧(a.put t v).round=a.round:=by
 unfold SA.put;split
 ·split<;>exact⟨rfl,rfl,rfl⟩
 ·exact⟨rfl,rfl,rfl⟩
theorem AR.put{ρ:bF}{a:SA}{c:Act}{t:Option Nat}{v:SV}{u:Value}(h:AR ρ a c)(hv:VR ρ v u):AR ρ (a.put t v) (c.put t u):=by
 cases t with
 |none=>exact h
 |some t=>
  obtain⟨e1,e2,e3⟩:=SA.put_n (a:=a) (t:=some t) (v:=v);by_cases ht:t<a.n
  ·refine⟨by rw[e1];exact h.n,by rw[e1];simp[Act.put,h.size],fun i=>?_,by rw[e2];exact h.marks,by rw[e2];exact h.defers⟩
   rw[SA.get_put ht h.n];simp only[Act.put];by_cases hi:i=t
   ·subst hi
    rw[if_pos rfl,Array.getD_eq_getD_getElem?,Array.getElem?_setIfInBounds_self_of_lt (by rw[h.size];exact ht)];exact hv
   ·rw[if_neg hi,Array.getD_eq_getD_getElem?,Array.getElem?_setIfInBounds_ne (Ne.symm hi),←Array.getD_eq_getD_getElem?]
    exact h.at_ i
  ·rw[SA.put_out ht]
   have:c.put (some t) u=c:=by
    simp only[Act.put];rw[Array.setIfInBounds_eq_of_size_le (by rw[h.size];omega)]
   rw[this];exact h
theorem AR.eval{ρ:bF}{a:SA}{c:Act}(h:AR ρ a c){x:Operand}(hx:okX x=true):VR ρ (a.eval x) (c.eval x):=by
 cases x with
 |tmp t=>exact h.at_ t
 |const v=>exact ofV_ok hx
 |func f=>simp only[SA.eval,Act.eval,VR];exact⟨#[],#[],rfl,by simp[bM],by simp[bM]⟩
 |global g=>cases hx
theorem AR.evals{ρ:bF}{a:SA}{c:Act}(h:AR ρ a c){o:Op}(ho:dR o=true):∀x∈o.operands,VR ρ (a.eval x) (c.eval x):=fun x hx=>by
 simp only[dR,Bool.and_eq_true,List.all_eq_true]at ho;exact h.eval (ho.1 x (by simpa using hx))
def AY(ρ:bF)(h:H)(w:World)(v:SV)(h':H)(e:Ending)(w':World):Prop:=∃aW u,e=.returned u∧VR aW v u∧HR aW h' w'∧FR ρ h w aW h' w'
structure KOK(P:Program)(K:pY):Prop where
 fn:∀f args h v h',(K (.fn f args) h).go=some (v,h')→(∃fn,P.funcs[f]?=some fn∧fn.body.isSome=true∧(fn.name== "runtime.NumGoroutine")=false)∧
  ∀ρ w us n,HR ρ h w→bM ρ args us→CallsIn Fence.wide n P f us.toArray w (AY ρ h w v h')
 yield:∀l args h v h',(K (.yield l args) h).go=some (v,h')→∀ρ w us n p,HR ρ h w→ρ l=some p→bM ρ args us→
  ∃L,w.heap[p.b]?=some (.loop L)∧us.length=L.params.size∧
   RoundIn Fence.wide n P p.b L.fn ((L.params.zip us.toArray).foldl (fun tmps (x:Tmp×Value)=>tmps.setIfInBounds x.1 x.2) L.tmps) L.assign L.body w (AY ρ h w v h')
structure FOK(F:Fence):Prop where
 fn:∀f,F.fn f
 depth:F.depth=none
 wide:F=Fence.wide∨∃l,F=Fence.wide.inRound l
section
variable{P:Program}{F:Fence}{n:Nat}{Q:Exit→Act→World→Prop}
theorem FOK.calls(hF:FOK F){f:FuncId}{args:Array Value}{w:World}{R:Ending→World→Prop}(h:CallsIn Fence.wide n P f args w R):CallsIn F n P f args w R:=by
 rcases hF.wide with rfl|⟨l,rfl⟩
 ·exact h
 ·exact h
theorem FOK.round(hF:FOK F){l:Nat}{f:FuncId}{tmps:Array Value}{a b:Code}{w:World}{R:Ending→World→Prop}(h:RoundIn Fence.wide n P l f tmps a b w R):RoundIn F n P l f tmps a b w R:=by
 rcases hF.wide with rfl|⟨l,rfl⟩
 ·exact h
 ·exact h
theorem jR{f:Nat}{args:Array Value}{w:World}{fn:Func}(h1:P.funcs[f]?=some fn)(h2:fn.body.isSome=true)(h3:(fn.name== "runtime.NumGoroutine")=false):
 (callFunc f args).run P w=.ok (.enter f args) w:=by
 have h4:fn.body≠none:=by intro e;rw[e]at h2;cases h2
 have h3':fn.name≠ "runtime.NumGoroutine" :=by simpa using h3
 simp[callFunc,h1,h3',h4]
theorem target_ok{s:SV}{args:List SV}{tk:Task}(hg:(target s args).go=some tk):
 (∃g first cap,s=.func (.func g) first cap∧tk=.fn g (first++args++cap))∨∃l,s=.yield l∧tk=.yield l args:=by
 unfold target at hg;split at hg
 ·exact .inl ⟨_,_,_,rfl,(Out.ret_go hg).symm⟩
 ·exact .inr ⟨_,rfl,(Out.ret_go hg).symm⟩
 ·cases hg
theorem ef_ok(T:TOK P)(hF:FOK F){K:pY}(hK:KOK P K){o:Oper}{σ:Operand→SV}{c:Act}{ρ:bF}{h h':H}{w:World}{v:SV}(hg:(ef P K h σ o.op).go=some (v,h'))(hZ:∀x∈o.op.operands,VR ρ (σ x) (c.eval x))(hr:HR ρ h w)
 (ho:dR o.op=true){next:Act→World→Prop}(hn:∀aW u w',VR aW v u→HR aW h' w'→FR ρ h w aW h' w'→next (c.put o.dst u) w'):o.wpIn F n P c w next Q:=by
 refine⟨fun f _=>hF.fn f,?_⟩;have yV:o.semAt F.round c.eval=execOp c.eval o:=Oper.semAt_eq _ _ _ fun cc hc=>by rw[hc]at ho;simp[dR]at ho
 rw[yV];obtain⟨dst,op,type,pos,after,guard⟩:=o;simp only at hg ho hZ hn;unfold ef at hg;split at hg
 case h_1 t x y=>
  obtain⟨h1,g1,g2⟩:=Out.bind_go hg;have:=Out.ret_go g2;injection this with e1 e2;subst e1;subst e2;obtain⟨w',r1,r2,r3⟩:=store_ok (P:=P) g1 hr (hZ x (by simp[Op.operands])) (hZ y (by simp[Op.operands]));simp only[execOp,Sem.run_bind,r1,Result.andThen_ok,Sem.run_pure,Oper.uponIn_skip];exact hn ρ _ w' (by simp[iK,VR,Go.undef,bM]) r2 r3
 case h_2 t m k x=>
  obtain⟨h1,g1,g2⟩:=Out.bind_go hg;have:=Out.ret_go g2;injection this with e1 e2;subst e1;subst e2;obtain⟨w',r1,r2,r3⟩:=update_ok (P:=P) g1 hr (hZ m (by simp[Op.operands])) (hZ k (by simp[Op.operands])) (hZ x (by simp[Op.operands]));simp only[execOp,Sem.run_bind,r1,Result.andThen_ok,Sem.run_pure,Oper.uponIn_skip];exact hn ρ _ w' (by simp[iK,VR,Go.undef,bM]) r2 r3
 case h_3 t m k x=>
  obtain⟨h1,g1,g2⟩:=Out.bind_go hg;have:=Out.ret_go g2;injection this with e1 e2;subst e1;subst e2;obtain⟨w',r1,r2,r3⟩:=update_ok (P:=P) g1 hr (hZ m (by simp[Op.operands])) (hZ k (by simp[Op.operands])) (hZ x (by simp[Op.operands]));simp only[execOp,Sem.run_bind,r1,Result.andThen_ok,Sem.run_pure,Oper.uponIn_skip];exact hn ρ _ w' (by simp[iK,VR,Go.undef,bM]) r2 r3
 case h_4 t m k ok=>
  obtain⟨v1,g1,g2⟩:=Out.bind_go hg;have:=Out.ret_go g2;injection this with e1 e2;subst e1;subst e2;obtain⟨u,r1,r2⟩:=lookup_ok (w:=w) T g1 hr (hZ m (by simp[Op.operands])) (hZ k (by simp[Op.operands]));simp only[execOp,Sem.run_bind,r1,Result.andThen_ok,Sem.run_pure,Oper.uponIn_value];exact hn ρ _ w r2 hr (.refl hr)
 case h_5 args ts=>
  split at hg
  ·rename_i x y t t2 _ eA hts
   have m1:x∈args.toList:=by rw[eA];simp
   have m2:y∈args.toList:=by rw[eA];simp
   have a1:(args.map c.eval)[0]?=some (c.eval x):=by
    have:args.toList[0]?=some x:=by rw[eA];rfl
    have:args[0]?=some x:=by simpa using this
    simp[this]
   have a2:(args.map c.eval)[1]?=some (c.eval y):=by
    have:args.toList[1]?=some y:=by rw[eA];rfl
    have:args[1]?=some y:=by simpa using this
    simp[this]
   have b1:ts[0]?=some t:=by
    have:ts.toList[0]?=some t:=by rw[hts];rfl
    simpa using this
   have b2:ts[1]?=some t2:=by
    have:ts.toList[1]?=some t2:=by rw[hts];rfl
    simpa using this
   obtain⟨aW,w',u,r1,r2,r3,r4⟩:=append_ok (w:=w) (ty:=type) T hg hr (hZ x (by simp only[Op.operands,Call.operands];simpa using m1)) (hZ y (by simp only[Op.operands,Call.operands];simpa using m2)) b1 b2 a1 a2;simp only[execOp,resolve,Sem.run_bind,Sem.run_pure,Result.andThen_ok,invoke,Go.builtin,r1,Oper.uponIn_value];exact hn aW u w' r2 r3 r4
  ·cases hg
 case h_6 args ts=>
  split at hg
  ·rename_i x y t _ eA hts
   have m1:x∈args.toList:=by rw[eA];simp
   have m2:y∈args.toList:=by rw[eA];simp
   have a1:(args.map c.eval)[0]?=some (c.eval x):=by
    have:args.toList[0]?=some x:=by rw[eA];rfl
    have:args[0]?=some x:=by simpa using this
    simp[this]
   have a2:(args.map c.eval)[1]?=some (c.eval y):=by
    have:args.toList[1]?=some y:=by rw[eA];rfl
    have:args[1]?=some y:=by simpa using this
    simp[this]
   have b1:ts[0]?=some t:=by
    have:ts.toList[0]?=some t:=by rw[hts];rfl
    simpa using this
   obtain⟨w',u,r1,r2,r3,r4⟩:=copy_ok (P:=P) (w:=w) (ty:=type) hg hr (hZ x (by simp only[Op.operands,Call.operands];simpa using m1)) (hZ y (by simp only[Op.operands,Call.operands];simpa using m2)) b1 a1 a2;simp only[execOp,resolve,Sem.run_bind,Sem.run_pure,Result.andThen_ok,invoke,Go.builtin,r1,Oper.uponIn_value];exact hn ρ u w' r2 r3 r4
  ·cases hg
 case h_7 args ts=>
  split at hg
  ·rename_i x y t _ eA hts
   obtain⟨h1,g1,g2⟩:=Out.bind_go hg;have:=Out.ret_go g2;injection this with e1 e2;subst e1;subst e2;have m1:x∈args.toList:=by rw[eA];simp
   have m2:y∈args.toList:=by rw[eA];simp
   have a1:(args.map c.eval)[0]?=some (c.eval x):=by
    have:args.toList[0]?=some x:=by rw[eA];rfl
    have:args[0]?=some x:=by simpa using this
    simp[this]
   have a2:(args.map c.eval)[1]?=some (c.eval y):=by
    have:args.toList[1]?=some y:=by rw[eA];rfl
    have:args[1]?=some y:=by simpa using this
    simp[this]
   have b1:ts[0]?=some t:=by
    have:ts.toList[0]?=some t:=by rw[hts];rfl
    simpa using this
   obtain⟨w',r1,r3,r4⟩:=delete_ok (P:=P) (w:=w) (ty:=type) g1 hr (hZ x (by simp only[Op.operands,Call.operands];simpa using m1)) (hZ y (by simp only[Op.operands,Call.operands];simpa using m2)) b1 a1 a2;simp only[execOp,resolve,Sem.run_bind,Sem.run_pure,Result.andThen_ok,invoke,Go.builtin,r1,Oper.uponIn_value];exact hn ρ _ w' (by simp[iK,VR,bM]) r3 r4
  ·cases hg
 case h_8 f args ats=>
  obtain⟨tk,g1,g2⟩:=Out.bind_go hg;have eA:bM ρ (args.toList.map σ) (args.toList.map c.eval):=uB _ fun x hx=>hZ x (by
   simp only[Op.operands,Call.operands];have qS:x∈args:=by simpa using hx
   simpa using .inr qS)
  have hf:=hZ f (by simp[Op.operands,Call.operands]);rcases target_ok g1 with⟨g,first,cap,he,rfl⟩|⟨l,he,rfl⟩
  ·rw[he]at hf
   simp only[VR]at hf;obtain⟨fs,cs,hfe,hfs,oG⟩:=hf;obtain⟨⟨fn,k1,k2,k3⟩,k4⟩:=hK.fn _ _ _ _ _ g2;have dS:=(hfs.append eA).append oG;have nO:=k4 ρ w _ (n-1) hr dS;have dZ:(execOp c.eval {dst,op:=.call {callee:=.value f,args:=args,argTypes:=ats},type,pos,after,guard}).run P w=.ok (.enter g (fs++args.map c.eval++cs)) w:=by
    simp only[execOp,resolve,hfe,Deferred.ofValue,Sem.run_bind,Sem.run_pure,Result.andThen_ok,invoke];exact jR k1 k2 k3
   rw[dZ,Oper.uponIn_enter];refine⟨fun h=>(by rw[hF.depth]at h;cases h),?_⟩;have yW:(fs.toList++args.toList.map c.eval++cs.toList).toArray=fs++args.map c.eval++cs:=by simp
   rw[yW]at nO;refine(hF.calls nO).mono fun e w' he'=>?_
   obtain⟨aW,u,rfl,p1,p2,p3⟩:=he';exact hn aW u w' p1 p2 p3
  ·rw[he]at hf
   simp only[VR]at hf;obtain⟨p,hp,hfe⟩:=hf;obtain⟨L,k1,k2,k3⟩:=hK.yield _ _ _ _ _ g2 ρ w _ (n-1) p hr hp eA;have sG:(args.map c.eval).size=L.params.size:=by rw[←k2];simp
   have dZ:(execOp c.eval {dst,op:=.call {callee:=.value f,args:=args,argTypes:=ats},type,pos,after,guard}).run P w=
    .ok (.round p.b L.fn ((L.params.zip (args.map c.eval)).foldl (fun tmps (x:Tmp×Value)=>tmps.setIfInBounds x.1 x.2) L.tmps) L.assign L.body) w:=by
    have AX:(Instr.getLoop p.b).run P w=.ok L w:=by simp[Instr.getLoop,getObj,Sem.run,k1]
    simp only[execOp,resolve,hfe,Deferred.ofValue,Sem.run_bind,Sem.run_pure,Result.andThen_ok,invoke,Instr.yield,Array.empty_append,AX];rw[if_neg (by rw[sG];simp)];rfl
   rw[dZ,Oper.uponIn_round];refine⟨fun h=>(by rw[hF.depth]at h;cases h),?_⟩;have yW:(args.toList.map c.eval).toArray=args.map c.eval:=by apply Array.ext';simp
   rw[yW]at k3;refine(hF.round k3).mono fun e w' he'=>?_
   obtain⟨aW,u,rfl,p1,p2,p3⟩:=he';exact hn aW u w' p1 p2 p3
 case h_9 r name args ats=>
  have eA:bM ρ (args.toList.map σ) (args.toList.map c.eval):=uB _ fun x hx=>hZ x (by
   simp only[Op.operands,Call.operands];have qS:x∈args:=by simpa using hx
   simpa using .inr qS)
  have hrv:=hZ r (by simp[Op.operands,Call.operands]);split at hg
  ·rename_i t x he
   obtain⟨f,g1,g2⟩:=Out.bind_go hg;rw[he]at hrv;simp only[VR]at hrv;obtain⟨y,hre,hy⟩:=hrv;obtain⟨⟨fn,k1,k2,k3⟩,k4⟩:=hK.fn _ _ _ _ _ g2;have nO:=k4 ρ w (y::args.toList.map c.eval) (n-1) hr (by simp only[bM];exact⟨hy,eA⟩);have hmeth:(Go.method (P.types.size+Made.depth) t y name).run P w=.ok (f,y) w:=by
    unfold methodOf at g1;split at g1
    ·rename_i i hi
     split at g1
     ·rename_i mm hmm
      split at g1
      ·rename_i ff hpath hfunc
       split at g1
       ·rename_i el hund
        have:=Out.ret_go g1;subst this;have hfind:i.methods.find? (fun m=>m.name==name)=some mm:=by simpa using hmm
        have hrcv:(receiverAt t (.val y) true (if mm.path.isEmpty then some ((name.splitOn ".").getLastD name)else none)).run P w=.ok y w:=by
         simp[receiverAt,bN hund,Place.get]
        show Sem.run P (Go.method ((P.types.size+99)+1) t y name) w=_;unfold Go.method;have hpath':mm.path=#[]:=by simpa using hpath
        simp only[Sem.run_bind,oY hi,Result.andThen_ok,hfind,hpath',hfunc];simp only[follow,Sem.run_pure,Result.andThen_ok];rw[hpath']at hrcv;rw[hrcv];rfl
       ·cases g1
      ·cases g1
     ·cases g1
    ·cases g1
   have dZ:(execOp c.eval {dst,op:=.call {callee:=.invoke r name,args:=args,argTypes:=ats},type,pos,after,guard}).run P w=.ok (.enter f (#[y]++args.map c.eval)) w:=by
    simp only[execOp,resolve,Sem.run_bind,Sem.run_pure,Result.andThen_ok,invoke];have e0:(#[c.eval r]++args.map c.eval)[0]?=some (.iface t y):=by rw[hre,Array.getElem?_append_left (by simp)];rfl
    have e1:(#[c.eval r]++args.map c.eval).extract 1 (#[c.eval r]++args.map c.eval).size=args.map c.eval:=by
     apply Array.ext';simp[Array.toList_extract,List.extract_eq_take_drop];exact List.take_of_length_le (by simp)
    simp only[e0,e1,callMethod,Sem.run_bind,run_program,Result.andThen_ok,hmeth];exact jR k1 k2 k3
   rw[dZ,Oper.uponIn_enter];refine⟨fun h=>(by rw[hF.depth]at h;cases h),?_⟩;have yW:(y::args.toList.map c.eval).toArray=#[y]++args.map c.eval:=by simp
   rw[yW]at nO;refine(hF.calls nO).mono fun e w' he'=>?_
   obtain⟨aW,u,rfl,p1,p2,p3⟩:=he';exact hn aW u w' p1 p2 p3
  ·cases hg
 case h_10=>cases hg
end
section
variable{P:Program}{F:Fence}{n:Nat}{Q:Exit→Act→World→Prop}
theorem one_ok(T:TOK P)(hF:FOK F){K:pY}(hK:KOK P K){bY:Bool}{o:Oper}{a a':SA}{c:Act}{ρ:bF}{h h':H}{w:World}(hg:(one P K bY o a h).go=some (a',h'))(ha:AR ρ a c)(hr:HR ρ h w)
 (ho:dR o.op=true){next:Act→World→Prop}(hn:∀aW c' w',AR aW a' c'→HR aW h' w'→FR ρ h w aW h' w'→next c' w'):o.wpIn F n P c w next Q:=by
 have hZ:=ha.evals ho;have yV:o.semAt F.round c.eval=execOp c.eval o:=Oper.semAt_eq _ _ _ fun cc hc=>by rw[hc]at ho;simp[dR]at ho
 unfold one at hg;split at hg
 ·obtain⟨v,g1,g2⟩:=Out.bind_go hg
  have:=Out.ret_go g2;injection this with e1 e2;subst e1;subst e2;obtain⟨u,r1,r2⟩:=ev_ok (w:=w) T g1 hr hZ;refine⟨fun f _=>hF.fn f,?_⟩;rw[yV,r1,Oper.uponIn_value];exact hn ρ _ w (ha.put r2) hr (.refl hr)
 ·split at hg
  ·rename_i sG
   obtain⟨x,g1,g2⟩:=Out.bind_go hg;have:=Out.ret_go g2;injection this with e1 e2;subst e1;subst e2;obtain⟨so,mk⟩:=x;obtain⟨obj,p,u,r1,r2,r3,r4,r5⟩:=al_ok (w:=w) (lc:=h.n) T g1 (hr.fresh _ (Nat.le_refl _)) hZ;obtain⟨q1,q2⟩:=hr.push (aF.1 sG) r3 r2 r4;refine⟨fun f _=>hF.fn f,?_⟩;rw[yV,r1,Oper.uponIn_value];exact hn _ _ _ ((ha.mono q2.le).put r5) q1 q2
  ·cases hg
 ·obtain⟨x,g1,g2⟩:=Out.bind_go hg
  have:=Out.ret_go g2;injection this with e1 e2;subst e1;subst e2;exact ef_ok T hF hK g1 hZ hr ho fun aW u w' p1 p2 p3=>hn aW _ w' ((ha.mono p3.le).put p1) p2 p3
theorem AR.same{ρ:bF}{a:SA}{c:Act}{t:Nat}{s:SV}(h:AR ρ a c)(hs:a.get t=s):AR ρ (a.put (some t) s) c:=by
 obtain⟨e1,e2,e3⟩:=SA.put_n (a:=a) (t:=some t) (v:=s);by_cases ht:t<a.n
 ·refine⟨by rw[e1];exact h.n,by rw[e1];exact h.size,fun i=>?_,by rw[e2];exact h.marks,by rw[e2];exact h.defers⟩
  rw[SA.get_put ht h.n];by_cases hi:i=t
  ·rw[if_pos hi,hi,←hs];exact h.at_ t
  ·rw[if_neg hi];exact h.at_ i
 ·rw[SA.put_out ht];exact h
def guarded(K:pY)(bY:Bool)(o:Oper)(a:SA)(h:H)(yes:Bool):Out (SA×H):=match yes with
 |true=>one P K bY o a h
 |false=>.ret (a.put o.dst iK,h)
theorem yD{K:pY}{bY:Bool}{ops:List Oper}{o:Oper}{a:SA}{h:H}{k:SA→Out (SA×H)→Out (SA×H)}{x:SA×H}(hg:(step P K bY ops o a h k).go=some x):
 (o.guard=none∧(k a (one P K bY o a h)).go=some x)∨
 ∃j want t b,o.guard=some (j,want)∧mG ops j=some t∧a.get t=.bool b∧(k (a.put (some t) (.bool b)) (guarded (P:=P) K bY o (a.put (some t) (.bool b)) h (b==want))).go=some x:=by
 unfold step at hg;split at hg
 ·rename_i hgd
  exact .inl ⟨hgd,hg⟩
 ·rename_i j want hgd
  refine .inr ?_;split at hg
  ·cases hg
  ·rename_i t ht
   split at hg
   ·rename_i b hb
    refine⟨j,want,t,b,hgd,ht,hb,?_⟩;simp only[Out.go]at hg;cases b<;>cases want<;>simpa[guarded]using hg
   ·cases hg
theorem iA{o:Oper}{f:Nat→Option Bool}(h:o.guard=none):Region.wanted o f=true:=by simp[Region.wanted,h]
theorem iB{ops:Array Oper}{o:Oper}{j t:Nat}{want b:Bool}{c:Act}{ρ:bF}{a:SA}(h:o.guard=some (j,want))(hd:mG ops.toList j=some t)(hb:a.get t=.bool b)(hv:VR ρ (a.get t) (c.tmps.getD t Go.undef)):
 Region.wanted o (yielded ops c.tmps)=(b==want):=by
 rw[hb]at hv;simp only[VR]at hv;have ht:c.tmps[t]?=some (.bool b):=by
  rw[Array.getD_eq_getD_getElem?]at hv;cases hx:c.tmps[t]?with
  |none=>rw[hx]at hv;simp[Go.undef]at hv
  |some x=>rw[hx]at hv;simp at hv;rw[hv]
 have hj:(ops[j]?).bind (·.dst)=some t:=by
  unfold mG at hd;cases hx:ops.toList[j]?with
  |none=>rw[hx]at hd;cases hd
  |some x=>
   rw[hx]at hd;have qS:ops[j]?=some x:=by simpa using hx
   rw[qS];exact hd
 simp[Region.wanted,h,yielded,hj,ht]
theorem stepS_go{K:pY}{bY:Bool}{ops:List Oper}{o:Oper}{a:SA}{h:H}{k:SA→Out (SA×H)→Out (SA×H)}{x:SA×H}(hg:(stepS P K bY ops o a h k).go=some x):
 (step P K bY ops o a h k).go=some x∨∃j want t,o.guard=some (j,want)∧mG ops j=some t∧a.get t=.tup []∧(k a (.ret (a.put o.dst iK,h))).go=some x:=by
 unfold stepS at hg;split at hg
 ·exact .inl hg
 ·rename_i j want hgd
  split at hg
  ·cases hg
  ·rename_i t ht
   split at hg
   ·rename_i hb
    exact .inr ⟨j,want,t,hgd,ht,hb,hg⟩
   ·exact .inl hg
theorem yX{ops:Array Oper}{o:Oper}{j t:Nat}{want:Bool}{c:Act}{ρ:bF}{a:SA}(h:o.guard=some (j,want))(hd:mG ops.toList j=some t)(hb:a.get t=.tup [])(hv:VR ρ (a.get t) (c.tmps.getD t Go.undef)):
 Region.wanted o (yielded ops c.tmps)=false:=by
 rw[hb]at hv;simp only[VR]at hv;obtain⟨cs,hv,_⟩:=hv;have hj:(ops[j]?).bind (·.dst)=some t:=by
  unfold mG at hd;cases hx:ops.toList[j]?with
  |none=>rw[hx]at hd;cases hd
  |some x=>
   rw[hx]at hd;have qS:ops[j]?=some x:=by simpa using hx
   rw[qS];exact hd
 have hy:yielded ops c.tmps j=none:=by
  unfold yielded;rw[hj];rw[Array.getD_eq_getD_getElem?]at hv;cases hx:c.tmps[t]?with
  |none=>simp[hx]
  |some x=>rw[hx]at hv;simp at hv;simp[hx,hv]
 simp[Region.wanted,h,hy]
theorem pA(T:TOK P)(hF:FOK F){K:pY}(hK:KOK P K){bY:Bool}{ops:Array Oper}(dS:∀o∈ops.toList,dR o.op=true):∀(os:List Oper) (k:Nat) (a a':SA) (c:Act) (ρ:bF) (h h':H) (w:World),
 os=ops.toList.drop k→(tG P K bY ops.toList os a h).go=some (a',h')→AR ρ a c→HR ρ h w→(∀aW c' w',AR aW a' c'→HR aW h' w'→FR ρ h w aW h' w'→Q .normal c' w')→
 wpOpsIn F n P ops Q (List.range' k os.length) c w
 |[],k,a,a',c,ρ,h,h',w,_,hg,ha,hr,hq=>by
  have:=Out.ret_go hg;injection this with e1 e2;subst e1;subst e2;exact hq ρ c w ha hr (.refl hr)
 |o::os,k,a,a',c,ρ,h,h',w,nD,hg,ha,hr,hq=>by
  have hk:ops[k]?=some o:=by
   have:(ops.toList.drop k)[0]?=some o:=by rw[←nD];rfl
   rw[List.getElem?_drop]at this;simpa using this
  have hos':os=ops.toList.drop (k+1):=by
   have:(ops.toList.drop k).drop 1=os:=by rw[←nD];rfl
   rw[←this,List.drop_drop]
  have ho:dR o.op=true:=dS o (by
   have:o∈ops.toList.drop k:=by rw[←nD];simp
   exact List.mem_of_mem_drop this)
  simp only[List.length_cons,List.range'_succ,wpOpsIn,hk];unfold tG at hg;rcases stepS_go hg with hg|⟨j,want,t,g1,g2,g3,g4⟩
  rotate_left
  ·rw[yX g1 g2 g3 (ha.at_ t),if_neg (by simp)]
   obtain⟨x,r1,r2⟩:=Out.bind_go g4;have:=Out.ret_go r1;subst this;exact⟨fun f _=>hF.fn f,pA T hF hK dS os (k+1) _ a' _ ρ h h' w hos' r2 (ha.put (by simp[iK,VR,Go.undef,bM])) hr hq⟩
  rcases yD hg with⟨g1,g2⟩|⟨j,want,t,b,g1,g2,g3,g4⟩
  ·obtain⟨x,r1,r2⟩:=Out.bind_go g2
   rw[iA g1,if_pos rfl];obtain⟨a1,h1⟩:=x;refine one_ok T hF hK r1 ha hr ho fun dQ c1 w1 q1 q2 q3=>?_
   exact pA T hF hK dS os (k+1) a1 a' c1 dQ h1 h' w1 hos' r2 q1 q2 fun aW c' w' p1 p2 p3=>hq aW c' w' p1 p2 (q3.trans hr q2 p3)
  ·have ha1:=ha.same g3
   rw[iB g1 g2 g3 (ha.at_ t)];obtain⟨x,r1,r2⟩:=Out.bind_go g4;obtain⟨a1,h1⟩:=x;cases hb:(b==want)
   ·rw[hb]at r1
    have:=Out.ret_go r1;injection this with e1 e2;subst e1;subst e2;rw[if_neg (by simp)];exact⟨fun f _=>hF.fn f,pA T hF hK dS os (k+1) _ a' _ ρ h h' w hos' r2 (ha1.put (by simp[iK,VR,Go.undef,bM])) hr hq⟩
   ·rw[hb]at r1
    rw[if_pos rfl];refine one_ok T hF hK r1 ha1 hr ho fun dQ c1 w1 q1 q2 q3=>?_
    exact pA T hF hK dS os (k+1) a1 a' c1 dQ h1 h' w1 hos' r2 q1 q2 fun aW c' w' p1 p2 p3=>hq aW c' w' p1 p2 (q3.trans hr q2 p3)
end
structure EOK(ops:List Oper)(pl pre:List mZ)(x:mZ)(post:List mZ):Prop where
 ok:dR x.2.2.op=true
 edges:∀e∈edges x.2.2,e∈idx pre
 fresh:x.1∉idx pre
 mask:∀j,Nat.testBit x.2.1 j=true→j∈Sx.edges x.2.2∨∃y∈pl,y.1∈Sx.edges x.2.2∧Nat.testBit y.2.1 j=true
 early:∀j,Nat.testBit x.2.1 j=true→j∈idx pre
 eager:cl x.2.2.op=2→∀y∈post,Nat.testBit y.2.1 x.1=true
 dst:∀d,x.2.2.dst=some d→∀y∈post,y.2.2.dst≠some d
 reads:∀t∈jA ops x.2.2,∀y∈pl,y.2.2.dst=some t→Nat.testBit x.2.1 y.1=true
structure DOK(ops:List Oper)(pl:List mZ):Prop where
 all:∀i,i<ops.length→i∈idx pl
 op:∀x∈pl,ops[x.1]?=some x.2.2
 at_:∀pre x post,pl=pre++x::post→EOK ops pl pre x post
theorem num_mem(ops:List Oper)(bs:List Nat):∀(n:Nat) (x:mZ),x∈num ops bs n→ops[x.1]?=some x.2.2
 |0,x,h=>by simp[num]at h
 |n+1,x,h=>by
  simp only[num,List.mem_append]at h;rcases h with h|h
  ·exact num_mem ops bs n x h
  ·split at h
   ·rename_i o b h1 h2
    simp at h;subst h;exact h1
   ·simp at h
theorem plan_mem(ops:List Oper)(x:mZ)(h:x∈plan ops):ops[x.1]?=some x.2.2:=by
 unfold plan at h;rw[List.mem_filterMap]at h;obtain⟨i,_,hi⟩:=h;exact num_mem ops _ _ x (List.mem_of_getElem? hi)
theorem wR(i j:Nat):Nat.testBit (2^i) j=true↔i=j:=by simp[Nat.testBit_two_pow]
theorem mask_mem:∀(l:List Nat) (s j:Nat),Nat.testBit (l.foldl (fun s i=>s|||2^i) s) j=true→Nat.testBit s j=true∨j∈l
 |[],s,j,h=>.inl h
 |i::l,s,j,h=>by
  rcases mask_mem l _ j h with h1|h1
  ·rw[Nat.testBit_or,Bool.or_eq_true]at h1
   rcases h1 with h2|h2
   ·exact .inl h2
   ·rw[wR]at h2;subst h2;exact .inr (by simp)
  ·exact .inr (by simp[h1])
theorem wS(pl:List mZ):∀(es:List Nat) (j:Nat),Nat.testBit (closure pl es) j=true→j∈es∨∃y∈pl,y.1∈es∧Nat.testBit y.2.1 j=true
 |[],j,h=>by simp[closure]at h
 |e::es,j,h=>by
  simp only[closure,Nat.testBit_or,Bool.or_eq_true]at h;rcases h with(h|h)|h
  ·rw[wR]at h;subst h;exact .inl (by simp)
  ·unfold maskAt at h
   split at h
   ·rename_i x hx
    have h1:=List.mem_of_find?_eq_some hx;have h2:=List.find?_some hx;have h3:=Nat.eq_of_beq_eq_true h2;exact .inr ⟨x,h1,by rw[h3];simp,h⟩
   ·simp at h
  ·rcases wS pl es j h with h1|⟨y,h1,h2,h3⟩
   ·exact .inl (by simp[h1])
   ·exact .inr ⟨y,h1,by simp[h2],h3⟩
theorem eqDst_iff{a:Option Nat}{t:Nat}:eqDst a t=true↔a=some t:=by
 cases a with
 |none=>simp[eqDst]
 |some d=>simp[eqDst,Nat.beq_eq]
theorem chkEnt_ok{ops:List Oper}{pl pre:List mZ}{x:mZ}{post:List mZ}{pi:List Nat}(hpi:∀j,j∈pi↔j∈idx pre)(h:chkEnt ops pl pi x post=true):EOK ops pl pre x post:=by
 simp only[chkEnt,Bool.and_eq_true]at h;obtain⟨⟨⟨⟨⟨⟨⟨h1,h2⟩,h3⟩,h4⟩,h5⟩,h6⟩,h7⟩,h8⟩:=h;refine⟨h1,fun e he=>?_,fun hc=>?_,fun j hj=>?_,fun j hj=>?_,fun hc y hy=>?_,fun d hd y hy hyd=>?_,fun t ht y hy hyd=>?_⟩
 ·have:=List.all_eq_true.1 h2 e he
  exact(hpi e).1 (by simpa using this)
 ·have:pi.contains x.1=true:=by simpa using(hpi x.1).2 hc
  rw[this]at h3;cases h3
 ·rw[Nat.eq_of_beq_eq_true h4]at hj
  exact wS pl _ j hj
 ·have h5:=Nat.eq_of_beq_eq_true h5
  rw[←h5,Nat.testBit_and,Bool.and_eq_true]at hj;rcases mask_mem pi 0 j hj.2 with h9|h9
  ·simp at h9
  ·exact(hpi j).1 h9
 ·rw[hc]at h6
  have h6':post.all (fun y=>Nat.testBit y.2.1 x.1)=true:=by simpa using h6
  exact List.all_eq_true.1 h6' y hy
 ·rw[hd]at h7
  have:=List.all_eq_true.1 h7 y hy;rw[eqDst_iff.2 hyd]at this;cases this
 ·have:=List.all_eq_true.1 (List.all_eq_true.1 h8 t ht) y hy
  rw[eqDst_iff.2 hyd]at this;simpa using this
theorem yY{ops:List Oper}{pl:List mZ}:∀(l pre0:List mZ) (pi:List Nat),(∀j,j∈pi↔j∈idx pre0)→xW ops pl pi l=true→∀pre x post,l=pre++x::post→EOK ops pl (pre0++pre) x post
 |[],_,_,_,_,pre,x,post,he=>by simp at he
 |y::l,pre0,pi,hpi,h,pre,x,post,he=>by
  simp only[xW,Bool.and_eq_true]at h;cases pre with
  |nil=>
   simp only[List.nil_append,List.cons.injEq]at he;obtain⟨rfl,rfl⟩:=he;rw[List.append_nil];exact chkEnt_ok hpi h.1
  |cons z pre=>
   simp only[List.cons_append,List.cons.injEq]at he;obtain⟨rfl,rfl⟩:=he;have:=yY _ (pre0++[y]) (y.1::pi) (fun j=>by simp[idx,hpi j,or_comm]) h.2 pre x post rfl
   rwa [List.append_assoc,List.singleton_append]at this
theorem okDraw_ok{ops:List Oper}(h:okDraw ops=true):DOK ops (plan ops):=by
 simp only[okDraw,Bool.and_eq_true]at h;refine⟨fun i hi=>?_,plan_mem ops,fun pre x post he=>by simpa using yY (plan ops) [] [] (by simp[idx]) h.2 pre x post he⟩;have:=List.all_eq_true.1 h.1 i (by simpa using hi);rw[List.any_eq_true]at this;obtain⟨x,hx,he⟩:=this;have:=Nat.eq_of_beq_eq_true he;exact List.mem_map.2 ⟨x,hx,this⟩
end Go.Proofs.YtnkcbfgfkadoaaaGreat.Sx
