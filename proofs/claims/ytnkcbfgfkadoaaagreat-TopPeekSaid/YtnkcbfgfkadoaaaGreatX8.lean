/- Part 8 of the proof of TopPeek. -/
import Derived.Laws.StructEq
import Derived.Test.YtnkcbfgfkadoaaaGreatProg
import Derived.Test.YtnkcbfgfkadoaaaGreatX7
set_option linter.all false
namespace Go.Proofs.YtnkcbfgfkadoaaaGreat.Sx
open Go
section
variable{P:Program}{ρ:bF}{w:World}
def isI64:Option TypeDesc→Bool
 |some (.int .i64)=>true
 |_=>false
def isB:Option TypeDesc→Bool
 |some .bool=>true
 |_=>false
def sJ(P:Program)(t:Nat):Bool→Bool
 |true=>isI64 (P.underlying t)
 |false=>isB (P.underlying t)
def kJ(P:Program):List Field→List Bool→Nat→Bool
 |[],[],_=>true
 |f::fs,b::sh,i=>(f.name != "_")&&Nat.beq f.offset i&&sJ P f.type b&&kJ P fs sh (i+1)
 |_,_,_=>false
theorem cell_eq{t d:Nat}{b:Bool}{x y:SV}{u v:Value}(h:sJ P t b=true)(hx:VR ρ x u)(hy:VR ρ y v){r:Bool}{sh:List Bool}{xs ys:List SV}(hg:(eqs (b::sh) (x::xs) (y::ys)).go=some r):
 (∀(us:Array Value) (i:Nat) (z:Value),us[i]?=some z→(part t us i).run P w=.ok z w)∧∃r1 r2,(Op.equalIn (d+1) t u v).run P w=.ok r1 w∧(eqs sh xs ys).go=some r2∧r=(r1&&r2):=by
 cases b with
 |true=>
  simp only[sJ]at h;have hu:P.underlying t=some (.int .i64):=by
   revert h;generalize P.underlying t=d;intro h;unfold isI64 at h;split at h
   ·rfl
   ·cases h
  refine⟨fun us i z hz=>?_,?_⟩
  ·unfold part
   simp only[Sem.run_bind,sF hu,Result.andThen_ok];simp[hz,xG]
  ·cases x<;>cases y<;>first|(simp only[eqs]at hg;cases hg;done)|skip
   rename_i k1 n1 k2 n2;cases k1<;>cases k2<;>first|(simp only[eqs]at hg;cases hg;done)|skip
   simp only[eqs]at hg;obtain⟨r2,g1,g2⟩:=Out.bind_go hg;have:=Out.ret_go g2;simp only[VR]at hx hy;rw[hx.1,hy.1];exact⟨_,r2,run_equalIn_int w d t .i64 .i64 n1 n2 hu,g1,this.symm⟩
 |false=>
  simp only[sJ]at h;have hu:P.underlying t=some .bool:=by
   revert h;generalize P.underlying t=d;intro h;unfold isB at h;split at h
   ·rfl
   ·cases h
  refine⟨fun us i z hz=>?_,?_⟩
  ·unfold part
   simp only[Sem.run_bind,sF hu,Result.andThen_ok];simp[hz,xG]
  ·cases x<;>cases y<;>first|(simp only[eqs]at hg;cases hg;done)|skip
   rename_i n1 n2;simp only[eqs]at hg;obtain⟨r2,g1,g2⟩:=Out.bind_go hg;have:=Out.ret_go g2;simp only[VR]at hx hy;rw[hx,hy];exact⟨_,r2,run_equalIn_bool w d t n1 n2 hu,g1,this.symm⟩
theorem eqs_cons{sh:List Bool}{b:Bool}{xs ys:List SV}{r:Bool}(hg:(eqs (b::sh) xs ys).go=some r):∃x xs' y ys',xs=x::xs'∧ys=y::ys':=by
 cases xs with
 |nil=>cases b<;>simp only[eqs]at hg<;>cases hg
 |cons x xs=>
  cases ys with
  |nil=>cases b<;>cases x<;>simp only[eqs]at hg<;>cases hg
  |cons y ys=>exact⟨x,xs,y,ys,rfl,rfl⟩
theorem uG{us:Array Value}{i:Nat}{u:Value}{l:List Value}(h:us.toList.drop i=u::l):us[i]?=some u∧us.toList.drop (i+1)=l:=by
 constructor
 ·have:(us.toList.drop i)[0]?=some u:=by rw[h];rfl
  rw[List.getElem?_drop]at this;simpa using this
 ·rw[←List.drop_drop,h];rfl
theorem wW{d:Nat}{us vs:Array Value}:∀(fs:List Field) (sh:List Bool) (i:Nat) (xs ys:List SV) (b:Bool),kJ P fs sh i=true→bM ρ xs (us.toList.drop i)→bM ρ ys (vs.toList.drop i)→(eqs sh xs ys).go=some b→
 (Op.eqFields (d+1) us vs fs).run P w=.ok b w
 |[],[],i,xs,ys,b,_,_,_,hg=>by
  have:b=true:=by
   cases xs<;>cases ys<;>first|exact(Out.ret_go hg).symm|cases hg
  subst this;simp[Op.eqFields]
 |f::fs,c::sh,i,xs,ys,b,hf,hx,hy,hg=>by
  simp only[kJ,Bool.and_eq_true,bne_iff_ne]at hf;obtain⟨⟨⟨f1,f2⟩,f3⟩,f4⟩:=hf;have f2:=Nat.eq_of_beq_eq_true f2;obtain⟨x,xs',y,ys',rfl,rfl⟩:=eqs_cons hg;cases hu:us.toList.drop i with
  |nil=>rw[hu]at hx;simp[bM]at hx
  |cons u ul=>
  cases hv:vs.toList.drop i with
  |nil=>rw[hv]at hy;simp[bM]at hy
  |cons v vl=>
  rw[hu]at hx;rw[hv]at hy;simp only[bM]at hx hy;obtain⟨p1,p2⟩:=uG hu;obtain⟨q1,q2⟩:=uG hv;obtain⟨e1,r1,r2,e2,e3,rfl⟩:=cell_eq (w:=w) (d:=d) f3 hx.1 hy.1 hg;have ih:=wW (d:=d) (us:=us) (vs:=vs) fs sh (i+1) xs' ys' r2 f4 (by rw[p2];exact hx.2) (by rw[q2];exact hy.2) e3;simp only[Op.eqFields,if_pos f1,Sem.run_bind,f2,e1 us i u p1,e1 vs i v q1,Result.andThen_ok,e2];cases r1
  ·simp
  ·simpa using ih
 |[],_::_,_,_,_,_,hf,_,_,_=>by cases hf
 |_::_,[],_,_,_,_,hf,_,_,_=>by cases hf
end
set_option maxRecDepth 100000
theorem zeros:Tryz.prog.types.toList.all (fun i=>match i.zero with
 |some z=>(isTup z||okVal z)&&Nat.beq z.cells.size i.size
 |none=>true)=true:=by decide+kernel
theorem fieldsIn:(List.range Tryz.prog.types.size).all (fun t=>match Tryz.prog.underlying t with
 |some (.struct fs)=>fs.toList.all fun f=>(Tryz.prog.info? f.type).isSome
 |_=>true)=true:=by decide+kernel
theorem okAll:Tryz.prog.funcs.toList.all okFunc=true:=by decide+kernel
theorem okFuncs(f:Nat)(fn:Func)(h:Tryz.prog.funcs[f]?=some fn):okFunc fn=true:=by
 refine List.all_eq_true.1 okAll fn ?_;have:Tryz.prog.funcs.toList[f]?=some fn:=by simpa using h
 exact List.mem_of_getElem? this
theorem mixed:Tryz.prog.follows .mixedOrders=true:=by decide+kernel
end Go.Proofs.YtnkcbfgfkadoaaaGreat.Sx
