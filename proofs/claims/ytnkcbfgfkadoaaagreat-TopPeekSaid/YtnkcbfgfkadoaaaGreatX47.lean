/- Part 47 of the proof of TopPeek. -/
import Derived.Below
import Derived.Test.YtnkcbfgfkadoaaaGreatX46
set_option linter.all false
namespace Go.Proofs.YtnkcbfgfkadoaaaGreat.Sx
open Go Go.RowKit Go.ChangeShapes Go.WideShapes Go.Deep
set_option maxRecDepth 100000
section
variable{H:Type}{enc:TypeId×Value→H}{W:World}{spare:Nat→Bool}{held:Bool}
theorem c3_:Tryz.prog.cellsOf 3=1:=by kernel_rfl
theorem c5_:Tryz.prog.cellsOf 5=1:=by kernel_rfl
theorem c22_:Tryz.prog.cellsOf 22=1:=by kernel_rfl
theorem c48_:Tryz.prog.cellsOf 48=1:=by kernel_rfl
theorem c25_:Tryz.prog.cellsOf 25=1:=by kernel_rfl
theorem c26_:Tryz.prog.cellsOf 26=1:=by kernel_rfl
theorem c37_:Tryz.prog.cellsOf 37=3:=by kernel_rfl
theorem c24_:Tryz.prog.cellsOf 24=8:=by kernel_rfl
theorem c28_:Tryz.prog.cellsOf 28=10:=by kernel_rfl
def AKI(k:IntKind)(z:Int)(c:List Value):Prop:=c=[.int k z]∧hd k z
def AK3(x:Int×Int×Int)(c:List Value):Prop:=c=[.int .i64 x.1,.int .i64 x.2.1,.int .i64 x.2.2]∧hd .i64 x.1∧hd .i64 x.2.1∧hd .i64 x.2.2
def AKC(W:World)(x:Value×List (Int×Int×Int))(c:List Value):Prop:=c=[x.1]∧oS W 3 AK3 x.1 x.2
theorem hd_wf{k:IntKind}{n:Int}(hk:k=.i64∨k=.u8)(h:(Lit.int k n).wf=true):hd k n:=by
 rcases hk with rfl|rfl<;>simp only[Lit.wf,Bool.and_eq_true,decide_eq_true_eq]at h<;>simp only[hd,lo,hi,IntKind.min,IntKind.max,IntKind.signed,IntKind.bits]at h⊢<;>simp at h⊢<;>omega
theorem oT{n:Nat}{cs:List Value}{x:DataW H×List MemPlace}(h:DataW.trod enc Tryz.prog W 0 spare held n 3 cs=some x):∃z,AKI .i64 z cs:=by
 obtain⟨z,h1,_,h2⟩:=DataW.trod_int Tryz.underlying3 h;exact⟨z,h1,hd_wf (.inl rfl) h2⟩
theorem u8_in{n:Nat}{cs:List Value}{x:DataW H×List MemPlace}(h:DataW.trod enc Tryz.prog W 0 spare held n 5 cs=some x):∃z,AKI .u8 z cs:=by
 obtain⟨z,h1,_,h2⟩:=DataW.trod_int Tryz.underlying5 h;exact⟨z,h1,hd_wf (.inr rfl) h2⟩
theorem call_in{n:Nat}{cs:List Value}{x:DataW H×List MemPlace}(h:DataW.trod enc Tryz.prog W 0 spare held n 37 cs=some x):∃e,AK3 e cs:=by
 obtain⟨xs,m,_,_,hl,hx,hf⟩:=DataW.trod_struct Tryz.underlying37 h;rw[c37_]at hl
 match cs,hl,xs,hx with
 |[u0,u1,u2],_,[y0,y1,y2],_=>
  have g0:=hf 0 _ rfl;have g1:=hf 1 _ rfl;have g2:=hf 2 _ rfl;simp[c3_]at g0 g1 g2;obtain⟨z0,e0,d0⟩:=oT g0;obtain⟨z1,e1,d1⟩:=oT g1;obtain⟨z2,e2,d2⟩:=oT g2;simp at e0 e1 e2;subst e0 e1 e2;exact⟨(z0,z1,z2),rfl,d0,d1,d2⟩
variable(hsp:∀b,spare b=true)(b0:∃cs fr,CB W 0 cs fr)
include hsp b0
theorem ints_in{n:Nat}{cs:List Value}{x:DataW H×List MemPlace}(h:DataW.trod enc Tryz.prog W 0 spare held n 22 cs=some x)(nf:NF W x.2):∃u l,cs=[u]∧oS W 1 (AKI .i64) u l:=
 yM 0 hsp Tryz.underlying22 c3_ (by omega) b0 (fun h _=>oT h) h nf
theorem bytes_in{n:Nat}{cs:List Value}{x:DataW H×List MemPlace}(h:DataW.trod enc Tryz.prog W 0 spare held n 26 cs=some x)(nf:NF W x.2):∃u l,cs=[u]∧oS W 1 (AKI .u8) u l:=
 yM 0 hsp Tryz.underlying26 c5_ (by omega) b0 (fun h _=>u8_in h) h nf
theorem calls_in{n:Nat}{cs:List Value}{x:DataW H×List MemPlace}(h:DataW.trod enc Tryz.prog W 0 spare held n 25 cs=some x)(nf:NF W x.2):∃u l,cs=[u]∧oS W 1 (AKC W) u l:=
 yM (.nilIface,[]) hsp Tryz.underlying25 c48_ (by omega) b0 (fun h nf=>by
  obtain⟨u,l,e,s⟩:=yM (0,0,0) hsp Tryz.underlying48 c37_ (by omega) b0 (fun h _=>call_in h) h nf;exact⟨(u,l),e,s⟩) h nf
theorem conf_in{n:Nat}{cs:List Value}{x:DataW H×List MemPlace}(h:DataW.trod enc Tryz.prog W 0 spare held n 24 cs=some x)(nf:NF W x.2):
 ∃z0 z1 z2 z3 z4 z5 u6 l6 u7 l7,cs=[.int .i64 z0,.int .i64 z1,.int .i64 z2,.int .i64 z3,.int .i64 z4,.int .i64 z5,u6,u7]∧(hd .i64 z0∧hd .i64 z1∧hd .i64 z2∧hd .i64 z3∧hd .i64 z4∧hd .i64 z5)∧oS W 1 (AKI .i64) u6 l6∧oS W 1 (AKI .i64) u7 l7:=by
 obtain⟨xs,m,_,ex,hl,hx,hf⟩:=DataW.trod_struct Tryz.underlying24 h;rw[c24_]at hl
 match cs,hl,xs,hx with
 |[a0,a1,a2,a3,a4,a5,a6,a7],_,[y0,y1,y2,y3,y4,y5,y6,y7],_=>
  have g0:=hf 0 _ rfl;have g1:=hf 1 _ rfl;have g2:=hf 2 _ rfl;have g3:=hf 3 _ rfl;have g4:=hf 4 _ rfl;have g5:=hf 5 _ rfl;have g6:=hf 6 _ rfl;have g7:=hf 7 _ rfl;simp[c3_,c22_]at g0 g1 g2 g3 g4 g5 g6 g7;obtain⟨z0,e0,d0⟩:=oT g0;obtain⟨z1,e1,d1⟩:=oT g1;obtain⟨z2,e2,d2⟩:=oT g2;obtain⟨z3,e3,d3⟩:=oT g3;obtain⟨z4,e4,d4⟩:=oT g4;obtain⟨z5,e5,d5⟩:=oT g5;obtain⟨u6,l6,e6,s6⟩:=ints_in hsp b0 g6 (fun b off hb=>nf b off (by rw[ex];simp[hb]));obtain⟨u7,l7,e7,s7⟩:=ints_in hsp b0 g7 (fun b off hb=>nf b off (by rw[ex];simp[hb]));simp at e0 e1 e2 e3 e4 e5 e6 e7;subst e0 e1 e2 e3 e4 e5 e6 e7;exact⟨z0,z1,z2,z3,z4,z5,_,l6,_,l7,rfl,⟨d0,d1,d2,d3,d4,d5⟩,s6,s7⟩
theorem script_in{n:Nat}{cs:List Value}{x:DataW H×List MemPlace}(h:DataW.trod enc Tryz.prog W 0 spare held n 28 cs=some x)(nf:NF W x.2):
 ∃z0 z1 z2 z3 z4 z5 u6 l6 u7 l7 u8 l8 u9 l9,cs=[.int .i64 z0,.int .i64 z1,.int .i64 z2,.int .i64 z3,.int .i64 z4,.int .i64 z5,u6,u7,u8,u9]∧(hd .i64 z0∧hd .i64 z1∧hd .i64 z2∧hd .i64 z3∧hd .i64 z4∧hd .i64 z5)∧oS W 1 (AKI .i64) u6 l6∧oS W 1 (AKI .i64) u7 l7∧oS W 1 (AKC W) u8 l8∧oS W 1 (AKI .u8) u9 l9:=by
 obtain⟨xs,m,_,ex,hl,hx,hf⟩:=DataW.trod_struct Tryz.underlying28 h;rw[c28_]at hl
 match cs,hl,xs,hx with
 |[a0,a1,a2,a3,a4,a5,a6,a7,a8,a9],_,[y0,y1,y2],_=>
  have g0:=hf 0 _ rfl;have g1:=hf 1 _ rfl;have g2:=hf 2 _ rfl;simp[c24_,c25_,c26_]at g0 g1 g2;obtain⟨z0,z1,z2,z3,z4,z5,u6,l6,u7,l7,e0,d,s6,s7⟩:=conf_in hsp b0 g0 (fun b off hb=>nf b off (by rw[ex];simp[hb]));obtain⟨u8,l8,e8,s8⟩:=calls_in hsp b0 g1 (fun b off hb=>nf b off (by rw[ex];simp[hb]));obtain⟨u9,l9,e9,s9⟩:=bytes_in hsp b0 g2 (fun b off hb=>nf b off (by rw[ex];simp[hb]));simp at e0 e8 e9;obtain⟨rfl,rfl,rfl,rfl,rfl,rfl,rfl,rfl⟩:=e0;subst e8 e9;exact⟨z0,z1,z2,z3,z4,z5,_,l6,_,l7,_,l8,_,l9,rfl,d,s6,s7,s8,s9⟩
end
def xT(qs:List (Option Pl)):bF:=⟨fun l=>(qs[l]?).join,fun _=>False⟩
theorem hr_mk{W:World}{os:List SO}{qs:List (Option Pl)}(hl:os.length=qs.length)(h6:os.length≤1000000)(hor:∀(l:Nat) (o:SO),os[l]?=some o→o≠.dead→∃p,qs[l]?=some (some p)∧p.b<W.heap.size∧OR (xT qs) p W o):HR (xT qs) (aT os (List.range os.length)) W:=by
 have hn:(aT os (List.range os.length)).n=os.length:=sY h6;have lv:∀l,live (aT os (List.range os.length)) l→∃o,os[l]?=some o∧o≠.dead∧(aT os (List.range os.length)).get l=o:=fun l eK=>by
  have cK:=vV h6 eK;refine⟨os[l],List.getElem?_eq_getElem cK,?_,?_⟩
  ·intro e
   apply eK;rw[sL h6,List.getD_eq_getElem?_getD,List.getElem?_eq_getElem cK,e];rfl
  ·rw[sL h6,List.getD_eq_getElem?_getD,List.getElem?_eq_getElem cK];rfl
 refine⟨by rw[hn];exact h6,fun l eK=>?_,fun l l' p p' _ h1 h2 _ _=>.inr (.inr (.inr ⟨?_,?_⟩)),fun l hln=>?_,fun _ _=>by rw[mkR_A h6];trivial,fun b hb=>hb.elim⟩
 ·obtain⟨o,g1,g2,g3⟩:=lv l eK
  obtain⟨p,g4,g5,g6⟩:=hor l o g1 g2;refine⟨by rw[hn];exact(List.getElem?_eq_some_iff.1 g1).1,p,by show(qs[l]?).join=_;rw[g4];rfl,g5,by rw[g3];exact g6⟩
 ·exact List.mem_range.2 (vV h6 h1)
 ·exact List.mem_range.2 (vV h6 h2)
 ·rw[hn]at hln
  show(qs[l]?).join=none;rw[List.getElem?_eq_none (by omega)];rfl
theorem below_of{W W':World}{h h':H}{aW:bF}{qs:List (Option Pl)}(f:FR (xT qs) h W aW h' W')(hR:∀l,live h l→l∈h.R):Below W.heap.size W W':=by
 refine⟨f.env.os,f.env.tape,f.env.output,f.size,fun k hk=>?_⟩;have e:W.heap[k]?=some W.heap[k]:=Array.getElem?_eq_getElem hk;have nb:¬wM (xT qs) h k:=fun hb=>by
  rcases hb with⟨l,p,h1,_,_,_,h5⟩|hb
  ·exact h5 (hR l h1)
  ·exact hb
 have no:∀i,¬AT (xT qs) h k i:=fun i hb=>by
  rcases hb with⟨l,p,h1,_,_,_,_,h5⟩|hb
  ·exact h5 (.inl (hR l h1))
  ·exact hb
 cases ho:W.heap[k]with
 |cells cs t fr=>
  rw[ho]at e;obtain⟨gF,g1,g2,g3⟩:=f.cells k cs t fr e;have:gF=cs:=Array.ext_getElem? fun i=>g3 i (no i)
  rw[g1,e,this]
 |_=>rw[ho]at e;rw[e];exact f.others k _ e trivial nb
end Go.Proofs.YtnkcbfgfkadoaaaGreat.Sx
namespace Go.Proofs.YtnkcbfgfkadoaaaGreat.Sx
open Go Go.RowKit Go.ChangeShapes
set_option maxRecDepth 100000
section
variable{W:World}
theorem or_ints_in{ρ:bF}{p:Pl}{l:List Int}(r:RowIn W 1 (AKI .i64) p l):OR ρ p W (.ints 3 1 l):=by
 obtain⟨h1,_,h3,cs,fr,h4,h5,h6,h7⟩:=r;refine⟨h1,by omega,cs,fr,h4,h5,h6,fun i n hn=>?_⟩;obtain⟨c,_,⟨rfl,hd0⟩,g⟩:=h7 i n hn;have:=g 0 _ rfl;exact⟨by simpa using this,hd0⟩
theorem or_bytes_in{ρ:bF}{p:Pl}{l:List Int}(r:RowIn W 1 (AKI .u8) p l):OR ρ p W (.cells 5 1 (l.map (SV.int .u8))):=by
 obtain⟨h1,_,h3,cs,fr,h4,h5,h6,h7⟩:=r;refine⟨h1,by simp;omega,cs,fr,h4,h5,h6,fun i v hv=>?_⟩;rw[List.getElem?_map]at hv;cases hl:l[i]?with
 |none=>rw[hl]at hv;cases hv
 |some n=>
  rw[hl]at hv;simp at hv;subst hv;obtain⟨c,_,⟨rfl,hd0⟩,g⟩:=h7 i n hl;have:=g 0 _ rfl;exact⟨.int .u8 n,by simpa using this,by simp only[VR];exact⟨trivial,hd0⟩⟩
theorem ccs_ix:∀(l:List (Int×Int×Int)) (j:Nat) (v:SV),(mD l)[j]?=some v→∃x,l[j/3]?=some x∧([.int .i64 x.1,.int .i64 x.2.1,.int .i64 x.2.2]:List SV)[j%3]?=some v
 |[],j,v,h=>by simp[mD]at h
 |c::l,j,v,h=>by
  have e:mD (c::l)=[.int .i64 c.1,.int .i64 c.2.1,.int .i64 c.2.2]++mD l:=rfl;rw[e]at h;rcases Nat.lt_or_ge j 3 with hj|hj
  ·rw[List.getElem?_append_left (by simpa using hj)]at h
   rw[Nat.div_eq_of_lt hj,Nat.mod_eq_of_lt hj];exact⟨c,rfl,h⟩
  ·rw[List.getElem?_append_right (by simpa using hj)]at h
   obtain⟨x,h1,h2⟩:=ccs_ix l (j-3) v (by simpa using h);have e1:j/3=(j-3)/3+1:=by omega
   have e2:j%3=(j-3)%3:=by omega
   rw[e1,e2];exact⟨x,by simpa using h1,h2⟩
theorem or_calls_in{ρ:bF}{p:Pl}{l:List (Int×Int×Int)}(r:RowIn W 3 AK3 p l):OR ρ p W (.cells 37 3 (mD l)):=by
 obtain⟨h1,_,h3,cs,fr,h4,h5,h6,h7⟩:=r;refine⟨h1,by rw[uX];exact h3,cs,fr,h4,h5,h6,fun j v hv=>?_⟩;obtain⟨x,g1,g2⟩:=ccs_ix l j v hv;obtain⟨c,_,⟨rfl,d0,d1,d2⟩,g⟩:=h7 _ _ g1;have ej:p.o+j=p.o+j/3*3+j%3:=by omega
 rw[ej];have h3':j%3=0∨j%3=1∨j%3=2:=by omega
 rcases h3' with e|e|e<;>rw[e]at g2⊢<;>simp at g2<;>subst g2
 ·exact⟨_,g 0 _ rfl,by simp only[VR];exact⟨trivial,d0⟩⟩
 ·exact⟨_,g 1 _ rfl,by simp only[VR];exact⟨trivial,d1⟩⟩
 ·exact⟨_,g 2 _ rfl,by simp only[VR];exact⟨trivial,d2⟩⟩
theorem vr_sl{ρ:bF}{k s n:Nat}{p:Pl}{u:Value}(h:SlU s u n p)(hs:p.sz=s)(hk:ρ k=some p):VR ρ (.slice k 0 n none) u:=by
 obtain⟨a,cap,rfl,h1,h2,h3⟩:=h;simp only[VR];exact⟨a,cap,rfl,h1,h2,fun _ e=>(by cases e),p,hk,fun hc=>⟨by rw[(h3 hc).1];simp,by rw[hs,Nat.zero_add];exact(h3 hc).2⟩⟩
theorem vr_nil{ρ:bF}:VR ρ aC (.slice none 0 0):=by unfold aC;simp only[VR];exact⟨trivial,rfl⟩
theorem in_ints{u:Value}{l:List Int}(h:oS W 1 (AKI .i64) u l)(k:Nat):∃(pp:Option (Nat×Nat×Option Nat)) (q:Option Pl) (o:SO),(∀ρ:bF,ρ k=q→VR ρ (slO pp) u)∧(∀x,pp=some x→x.1=k∧o=.ints 3 1 l∧l.length=x.2.1)∧(o≠.dead→∃p,q=some p∧p.b<W.heap.size∧∀ρ,OR ρ p W o):=by
 rcases h with⟨rfl,rfl⟩|⟨p,h1,h2⟩
 ·exact⟨none,none,.dead,fun ρ _=>vr_nil,fun x hx=>(by cases hx),fun e=>absurd rfl e⟩
 ·exact⟨some (k,l.length,none),some p,.ints 3 1 l,fun ρ hk=>vr_sl h1 h2.1 hk,fun x hx=>(by injection hx with hx;subst hx;exact⟨rfl,rfl,rfl⟩),fun _=>⟨p,rfl,h2.2.1,fun ρ=>or_ints_in h2⟩⟩
theorem in_bytes{u:Value}{l:List Int}(h:oS W 1 (AKI .u8) u l)(k:Nat):∃(nil:Bool) (q:Option Pl) (o:SO),(∀ρ:bF,ρ k=q→VR ρ (tS k none l nil) u)∧(nil=true→l=[])∧(nil=false→o=.cells 5 1 (l.map (SV.int .u8)))∧(o≠.dead→∃p,q=some p∧p.b<W.heap.size∧∀ρ,OR ρ p W o):=by
 rcases h with⟨rfl,rfl⟩|⟨p,h1,h2⟩
 ·exact⟨true,none,.dead,fun ρ _=>vr_nil,fun _=>rfl,fun e=>(by cases e),fun e=>absurd rfl e⟩
 ·exact⟨false,some p,.cells 5 1 (l.map (SV.int .u8)),fun ρ hk=>vr_sl h1 h2.1 hk,fun e=>(by cases e),fun _=>rfl,fun _=>⟨p,rfl,h2.2.1,fun ρ=>or_bytes_in h2⟩⟩
theorem in_row{u:Value}{l:List (Int×Int×Int)}(h:oS W 3 AK3 u l)(k:Nat):∃(r:Option rE) (q:Option Pl) (o:SO),(∀ρ:bF,ρ k=q→VR ρ (crSV r) u)∧(∀y,r=some y→y.r=k∧o=.cells 37 3 (mD y.cl)∧y.n=y.cl.length)∧(o≠.dead→∃p,q=some p∧p.b<W.heap.size∧∀ρ,OR ρ p W o):=by
 rcases h with⟨rfl,rfl⟩|⟨p,h1,h2⟩
 ·exact⟨none,none,.dead,fun ρ _=>vr_nil,fun x hx=>(by cases hx),fun e=>absurd rfl e⟩
 ·exact⟨some ⟨k,l.length,none,l⟩,some p,.cells 37 3 (mD l),fun ρ hk=>vr_sl h1 h2.1 hk,fun x hx=>(by injection hx with hx;subst hx;exact⟨rfl,rfl,rfl⟩),fun _=>⟨p,rfl,h2.2.1,fun ρ=>or_calls_in h2⟩⟩
theorem in_rows{l:List (Value×List (Int×Int×Int))}(h:∀x∈l,oS W 3 AK3 x.1 x.2)(k:Nat):∃(rows:List (Option rE)) (qs:List (Option Pl)) (os:List SO),rows.length=l.length∧qs.length=l.length∧os.length=l.length∧
 (∀ρ:bF,(∀i,i<l.length→ρ (k+i)=(qs[i]?).join)→∀(i:Nat) x r,l[i]?=some x→rows[i]?=some r→VR ρ (crSV r) x.1)∧
 (∀y,some y∈rows→∃i:Nat,y.r=k+i∧i<l.length∧os[i]?=some (.cells 37 3 (mD y.cl))∧y.n=y.cl.length)∧
 (∀(i:Nat) (o:SO),os[i]?=some o→o≠.dead→∃p,qs[i]?=some (some p)∧p.b<W.heap.size∧∀ρ,OR ρ p W o):=by
 induction l generalizing k with
 |nil=>exact⟨[],[],[],rfl,rfl,rfl,fun _ _ i x r hx=>(by simp at hx),fun y hy=>(by cases hy),fun i o ho=>(by simp at ho)⟩
 |cons x l ih=>
  obtain⟨rows,qs,os,e1,e2,e3,f1,f2,f3⟩:=ih (fun y hy=>h y (List.mem_cons_of_mem _ hy)) (k+1);obtain⟨r,q,o,g1,g2,g3⟩:=in_row (h x (by simp)) k;refine⟨r::rows,q::qs,o::os,by simp[e1],by simp[e2],by simp[e3],fun ρ nB i y r' hy hr=>?_,fun y hy=>?_,fun i o' ho fS=>?_⟩
  ·cases i with
   |zero=>
    simp at hy hr;subst hy;subst hr;exact g1 ρ (by have:=nB 0 (by simp);simpa using this)
   |succ i=>
    refine f1 ρ (fun j hj=>?_) i y r' (by simpa using hy) (by simpa using hr);have:=nB (j+1) (by simp;exact hj);rw[show k+1+j=k+(j+1) by omega,this];simp
  ·rcases List.mem_cons.1 hy with hy|hy
   ·obtain⟨a1,a2,a3⟩:=g2 y hy.symm
    exact⟨0,by simpa using a1,by simp,by simp[a2],a3⟩
   ·obtain⟨i,a1,a2,a3,a4⟩:=f2 y hy
    exact⟨i+1,by omega,by simp;exact a2,by simpa using a3,a4⟩
  ·cases i with
   |zero=>
    simp at ho;subst ho;obtain⟨p,a1,a2,a3⟩:=g3 fS;exact⟨p,by simp[a1],a2,a3⟩
   |succ i=>exact f3 i o' (by simpa using ho) fS
theorem in_calls{u:Value}{l:List (Value×List (Int×Int×Int))}(h:oS W 1 (AKC W) u l):∃(cs:Option (Nat×Option Nat)) (rows:List (Option rE)) (q:Option Pl) (o:SO) (qs:List (Option Pl)) (os:List SO),qs.length=os.length∧os.length≤8∧(∀x,cs=some x→x.1=2)∧(cs=none→rows=[])∧
 (∀ρ:bF,ρ 2=q→VR ρ (vD cs rows.length) u)∧(∀ρ:bF,(∀i,i<os.length→ρ (4+i)=(qs[i]?).join)→o≠.dead→∃p,q=some p∧p.b<W.heap.size∧OR ρ p W o)∧
 (rows.length≤8→(∀x,cs=some x→o=.cells 48 1 (rows.map crSV))∧∀y,some y∈rows→∃i:Nat,y.r=4+i∧i<os.length∧os[i]?=some (.cells 37 3 (mD y.cl))∧y.n=y.cl.length)∧
 (∀(i:Nat) (o:SO),os[i]?=some o→o≠.dead→∃p,qs[i]?=some (some p)∧p.b<W.heap.size∧∀ρ,OR ρ p W o):=by
 rcases h with⟨rfl,rfl⟩|⟨p,h1,h2⟩
 ·exact⟨none,[],none,.dead,[],[],rfl,by simp,fun x hx=>(by cases hx),fun _=>rfl,fun ρ _=>vr_nil,fun _ _ e=>absurd rfl e,fun _=>⟨fun x hx=>(by cases hx),fun y hy=>(by cases hy)⟩,fun i o ho=>(by simp at ho)⟩
 ·rcases Nat.lt_or_ge 8 l.length with h8|h8
  ·refine⟨some (2,none),List.replicate l.length none,some p,.dead,[],[],rfl,by simp,fun x hx=>(by injection hx with hx;subst hx;rfl),fun e=>(by cases e),fun ρ hk=>?_,fun _ _ e=>absurd rfl e,fun h=>?_,fun i o ho=>(by simp at ho)⟩
   ·show VR ρ (.slice 2 0 (List.replicate l.length none).length none) u
    rw[List.length_replicate];exact vr_sl h1 h2.1 hk
   ·rw[List.length_replicate]at h;omega
  ·obtain⟨hz,hb,hR,cs,fr,c1,c2,c3,c4⟩:=id h2
   have hk:∀x∈l,oS W 3 AK3 x.1 x.2:=fun x hx=>by
    obtain⟨i,hi⟩:=List.getElem?_of_mem hx;obtain⟨c,_,k1,_⟩:=c4 i x hi;exact k1.2
   obtain⟨rows,qs,os,e1,e2,e3,f1,f2,f3⟩:=in_rows hk 4;refine⟨some (2,none),rows,some p,.cells 48 1 (rows.map crSV),qs,os,by omega,by omega,fun x hx=>(by injection hx with hx;subst hx;rfl),fun e=>(by cases e),fun ρ hk=>?_,fun ρ nB _=>⟨p,rfl,hb,?_⟩,fun _=>⟨fun _ _=>rfl,fun y hy=>?_⟩,f3⟩
   ·show VR ρ (.slice 2 0 rows.length none) u
    rw[e1];exact vr_sl h1 hz hk
   ·refine⟨hz,by simp[e1];omega,cs,fr,c1,c2,c3,fun i v hv=>?_⟩
    rw[List.getElem?_map]at hv;cases hr:rows[i]?with
    |none=>rw[hr]at hv;cases hv
    |some r=>
     rw[hr]at hv;simp at hv;subst hv;have hi:i<l.length:=by rw[←e1];exact(List.getElem?_eq_some_iff.1 hr).1
     have hli:l[i]?=some l[i]:=List.getElem?_eq_getElem hi;obtain⟨c,_,⟨rfl,_⟩,g⟩:=c4 i _ hli;have:=g 0 _ rfl;exact⟨_,by simpa using this,f1 ρ (fun j hj=>nB j (by omega)) i _ r hli hr⟩
   ·obtain⟨i,a1,a2,a3,a4⟩:=f2 y hy
    exact⟨i,a1,by omega,a3,a4⟩
theorem top_law{z0 z1 z2 z3 z4 z5:Int}{u6 u7 u8 u9:Value}{l6 l7 l9:List Int}{l8:List (Value×List (Int×Int×Int))}(d:hd .i64 z0∧hd .i64 z1∧hd .i64 z2∧hd .i64 z3∧hd .i64 z4∧hd .i64 z5)(s6:oS W 1 (AKI .i64) u6 l6)(s7:oS W 1 (AKI .i64) u7 l7)(s8:oS W 1 (AKC W) u8 l8)(s9:oS W 1 (AKI .u8) u9 l9):
 Calls Tryz.prog 3 #[.agg #[.int .i64 z0,.int .i64 z1,.int .i64 z2,.int .i64 z3,.int .i64 z4,.int .i64 z5,u6,u7,u8,u9]] W (fun e W'=>e=.returned (.bool true)∧Below W.heap.size W W'):=by
 obtain⟨pP,qP,oP,vP,fP,rP⟩:=in_ints s6 0;obtain⟨pL,qL,oL,vL,fL,rL⟩:=in_ints s7 1;obtain⟨nil,qK,oK,vK,nK,fK,rK⟩:=in_bytes s9 3;obtain⟨cs,rows,qC,oC,qs,os,eqo,h8,xX,cs0,vC,rC,fC,rR⟩:=in_calls s8;have hlen:(oP::oL::oC::oK::os).length=(qP::qL::qC::qK::qs).length:=by simp[eqo]
 have hol:(oP::oL::oC::oK::os).length=os.length+4:=rfl;have r0:(xT (qP::qL::qC::qK::qs)) 0=qP:=rfl;have r1:(xT (qP::qL::qC::qK::qs)) 1=qL:=rfl;have r2:(xT (qP::qL::qC::qK::qs)) 2=qC:=rfl;have r3:(xT (qP::qL::qC::qK::qs)) 3=qK:=rfl;have r4:∀i,(xT (qP::qL::qC::qK::qs)) (4+i)=(qs[i]?).join:=fun i=>by
  show((qP::qL::qC::qK::qs)[4+i]?).join=_;rw[show 4+i=i+1+1+1+1 by omega];simp only[List.getElem?_cons_succ]
 have hr:=hr_mk (W:=W) (os:=oP::oL::oC::oK::os) (qs:=qP::qL::qC::qK::qs) hlen (by omega) fun l o ho fS=>by
  rcases l with _|_|_|_|l
  ·simp at ho;subst ho
   obtain⟨p,a,b,c⟩:=rP fS;exact⟨p,by simp[a],b,c _⟩
  ·simp at ho;subst ho
   obtain⟨p,a,b,c⟩:=rL fS;exact⟨p,by simp[a],b,c _⟩
  ·simp at ho;subst ho
   obtain⟨p,a,b,c⟩:=rC (xT (qP::qL::qC::qK::qs)) (fun i _=>r4 i) fS;exact⟨p,by simp[a],b,c⟩
  ·simp at ho;subst ho
   obtain⟨p,a,b,c⟩:=rK fS;exact⟨p,by simp[a],b,c _⟩
  ·obtain⟨p,a,b,c⟩:=rR l o (by simpa using ho) fS;exact⟨p,by simpa using a,b,c _⟩
 have hn:(aT (oP::oL::oC::oK::os) (List.range (oP::oL::oC::oK::os).length)).n=os.length+4:=sY (by omega);have kX:∀i,(aT (oP::oL::oC::oK::os) (List.range (oP::oL::oC::oK::os).length)).get i=(oP::oL::oC::oK::os).getD i .dead:=fun i=>sL (by omega) i
 have hRr:(aT (oP::oL::oC::oK::os) (List.range (oP::oL::oC::oK::os).length)).R=List.range (os.length+4):=rfl;have hC0:(aT (oP::oL::oC::oK::os) (List.range (oP::oL::oC::oK::os).length)).C=[]:=mkR_C;have eK:∀l,live (aT (oP::oL::oC::oK::os) (List.range (oP::oL::oC::oK::os).length)) l→l∈(aT (oP::oL::oC::oK::os) (List.range (oP::oL::oC::oK::os).length)).R:=fun l hl=>List.mem_range.2 (vV (by omega) hl)
 generalize aT (oP::oL::oC::oK::os) (List.range (oP::oL::oC::oK::os).length)=h at*;have A:RowsB h cs rows:=⟨cs0,fun x hx=>by rw[xX x hx,hn];omega,fun h8'=>⟨cs0,fun x hx=>by
  rw[xX x hx];refine⟨?_,by omega⟩;rw[kX,←(fC h8').1 x hx];rfl,fun y hy=>by
  obtain⟨i,a1,a2,a3,a4⟩:=(fC h8').2 y hy;refine⟨?_,by omega,by omega⟩;rw[kX,a1,List.getD_eq_getElem?_getD,show 4+i=i+1+1+1+1 by omega];simp only[List.getElem?_cons_succ,a3,Option.getD_some]⟩⟩
 have sp:=peek_spec (h:=h) (th:=z0) (st:=z1) (ga:=z2) (le:=z3) (re:=z4) (ti:=z5) (pP:=pP) (pL:=pL) (PL:=l6) (LL:=l7) (cs:=cs) (rows:=rows) (K:=3) (ck:=none) (pv:=l9) (nil:=nil) (fun m hm=>by rw[hRr]at hm;have:=List.mem_range.1 hm;omega) hC0
  (fun x hx=>by obtain⟨a,b,c⟩:=fP x hx;rw[a];exact⟨by rw[hRr];exact List.mem_range.2 (by omega),by rw[kX,←b];rfl,c⟩)
  (fun x hx=>by obtain⟨a,b,c⟩:=fL x hx;rw[a];exact⟨by omega,by rw[kX,←b];rfl,c⟩)
  (fun x y hx hy=>by rw[(fP x hx).1,(fL y hy).1];omega) A nK (fun e=>⟨by rw[kX,←fK e];rfl,by omega⟩) (by omega) (by omega)
 have ci:=sp.2 (xT (qP::qL::qC::qK::qs)) W [.agg #[.int .i64 z0,.int .i64 z1,.int .i64 z2,.int .i64 z3,.int .i64 z4,.int .i64 z5,u6,u7,u8,u9]] 0 hr (by
  obtain⟨d0,d1,d2,d3,d4,d5⟩:=d;simp only[bM,VR,and_true];refine⟨_,rfl,?_⟩;simp only[tW,bM,VR,and_true];exact⟨⟨trivial,d0⟩,⟨trivial,d1⟩,⟨trivial,d2⟩,⟨trivial,d3⟩,⟨trivial,d4⟩,⟨trivial,d5⟩,vP _ r0,vL _ r1,vC _ r2,vK _ r3⟩)
 refine(callsIn_wide.1 ci).mono fun e W' he=>?_
 obtain⟨v,h',rfl,aW,u,rfl,hu,hr',f⟩:=he;simp only[VR]at hu;subst hu;exact⟨rfl,below_of f eK⟩
end
end Go.Proofs.YtnkcbfgfkadoaaaGreat.Sx
