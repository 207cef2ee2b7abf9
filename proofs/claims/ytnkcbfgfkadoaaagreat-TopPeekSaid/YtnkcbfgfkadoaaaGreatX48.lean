/- For every script: TopPeek answers true, and what it reads, reads behind the call as it read before. Conditions: none. -/
import Derived.ChangeOld
import Derived.HandedShaped
import Derived.OpenShut
import Derived.WalkKit
import Derived.Test.YtnkcbfgfkadoaaaGreatX47
set_option linter.all false
namespace Go.Proofs.YtnkcbfgfkadoaaaGreat.topPeek
open Go Go.ChangeShapes Go.WideShapes Go.ChangeAt Go.RowKit Go.Proofs.YtnkcbfgfkadoaaaGreat.Sx
theorem own:ownKnob Tryz.prog.godebug=none:=by kernel_rfl
theorem laidOut:laidOutB Tryz.prog=true:=by kernel_rfl
theorem gl0:Nat.beq Tryz.prog.globals.size 0=true:=by kernel_rfl
theorem hp0:Nat.blt 0 (begin Tryz.prog (fun _ _=>0) default).world.heap.size=true:=by kernel_rfl
def isC(w:World):Bool:=match w.heap[0]?with
 |some (Obj.cells _ _ _)=>true
 |_=>false
theorem ce0:isC (begin Tryz.prog (fun _ _=>0) default).world=true:=by kernel_rfl
theorem blk0{W:World}(h:W.ShapedOpen Tryz.prog):∃cs fr,CB W 0 cs fr:=by
 have h2:=h.2;have hp:=hp0;have ce:=ce0;generalize (begin Tryz.prog (fun _ _=>0) default).world=w0 at h2 hp ce;have g0:=Nat.eq_of_beq_eq_true gl0;rw[g0]at h2;obtain⟨o,o0,a,b,c⟩:=h2 0 (Nat.le_refl _) (aF.1 hp);have c:o=o0:=by simpa[World.looseAt]using c
 subst c;unfold isC at ce;rw[b]at ce;cases o with
 |cells cs t fr=>exact⟨cs,fr,t,a⟩
 |_=>simp at ce
set_option maxRecDepth 100000 in
theorem lifted(os:Os)(started:os.Started)(H:Type)(enc:TypeId×Value→H):
 ReturnsInHanded {} Tryz.checked os 3 .any (Rows.topPeekSpec.pre6 enc Tryz.prog Tryz.f3 Rows.topPeekRow.domain false) (Rows.topPeekSpec.post enc Tryz.prog Tryz.f3 false true false false):=by
 refine returnsInHanded_of_change_shaped (C:=Tryz.checked) own started (by kernel_rfl) Tryz.func3
  (ChangeSpec.witness6 (enc:=enc) (C:=Tryz.checked) false ⟨#[],#[.agg #[.int .i64 0,.int .i64 0,.int .i64 0,.int .i64 0,.int .i64 0,.int .i64 0,.slice none 0 0,.slice none 0 0,.slice none 0 0,.slice none 0 0]],[]⟩ 16 (by kernel_rfl) (by kernel_rfl) (by kernel_rfl) (by kernel_rfl)) ?_
 intro W base args ds gs before hval0 hW hcnd _ hsh _;have hval:∀(j:Nat) t v,Tryz.f3.params[j]?=some t→args[j]?=some v→Value.okWide Tryz.prog W .any base t v:=hval0;have hW':=hW;obtain⟨p,q,hA0,hV,rfl,hfz,kO⟩:=hW;have hA:DataW.TrodAll enc Tryz.prog W 0 (fun _=>true) true Tryz.f3.params.toList args.toList ds p:=hA0;rw[Tryz.params3]at hA hval;obtain⟨v0,vs0,d0,ds0,p0,q0,eA,rfl,rfl,h0,r0⟩:=trodAll_cons hA;obtain⟨rfl,rfl,rfl⟩:=trodAll_nil r0;obtain rfl:args=#[v0]:=by cases args;simp_all
 obtain⟨rfl,rfl⟩:=trodVars_none hV;obtain⟨cs,rfl,_⟩:=okWide_struct Tryz.underlying28 (hval 0 28 v0 rfl rfl);have k0:=h0;have lt0:∀x∈p0,x.block<W.heap.size:=by obtain⟨m,hm⟩:=k0;exact DataW.trod_lt m _ _ _ hm
 obtain⟨m,hm⟩:=h0;have pZ:DataW.trod enc Tryz.prog W 0 (fun _=>true) true m 28 cs.toList=some (d0,p0):=hm;have nf:NF W p0:=fun b off hb=>hfz b off (by simp[hb])
 obtain⟨z0,z1,z2,z3,z4,z5,u6,l6,u7,l7,u8,l8,u9,l9,e,d,s6,s7,s8,s9⟩:=script_in (fun _=>rfl) (blk0 hsh) pZ nf;obtain rfl:cs=#[.int .i64 z0,.int .i64 z1,.int .i64 z2,.int .i64 z3,.int .i64 z4,.int .i64 z5,u6,u7,u8,u9]:=Array.ext' e;clear hA0 hval0 hm pZ e;refine(top_law d s6 s7 s8 s9).mono fun e W' ⟨he,bel⟩=>?_
 subst he;exact⟨_,rfl,_,_,_,[],_,[],hW',trodAll_mk1 (shut_bool Tryz.underlying4 _),(trodAll_cons_mk (Below.trod laidOut (by kernel_rfl) (of_decide_eq_true (by kernel_rfl)) k0 bel lt0) trodAll_mk0),rfl,bel.frame _,fun h=>by cases h⟩
theorem over:Rows.topPeekRow.holds Tryz.pinned (OpenSpec.ofChange Rows.topPeekSpec):=
 OpenClaim.holds_of_wide 3 Tryz.f3 rfl rfl rfl rfl rfl rfl rfl ⟨rfl,rfl,rfl,rfl,rfl⟩ rfl rfl rfl rfl rfl (by kernel_rfl) Tryz.func3 (by kernel_rfl)
  (of_decide_eq_true (by kernel_rfl)) (by unfold Func.isWrapper;first|(rw[if_pos (by decide+kernel)];kernel_rfl)|(rw[if_neg (by decide+kernel)];exact⟨rfl,rfl⟩))
  (fun os started H enc _=>lifted os started H enc)
theorem proved:Rows.TopPeekSaid:=over
end Go.Proofs.YtnkcbfgfkadoaaaGreat.topPeek
