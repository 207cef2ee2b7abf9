
import Derived.Test.YtadblpcjkahikaaRunsBase
import Derived.ProofKit
import Derived.Deep.Slices
namespace Go.Proofs.Ytadblpcjkahikaa.PTraceRuns
open Go.RowKit Go.ChangeShapes Go.WideShapes Go.Deep Go.Proofs.YtadblpcjkahikaaW.PrintWords Go.Proofs.YtadblpcjkahikaaW.PrintLast Go.Proofs.YtadblpcjkahikaaW.PrintMore
set_option linter.unusedVariables false
set_option linter.unusedSimpArgs false
set_option maxRecDepth 100000
section
variable {H:Type} {enc:TypeId × Value→H} {w:World} {base:Nat} {spare:Nat→Bool} {held:Bool}
theorem c3_:Try.prog.cellsOf 3 = 1:=by kernel_rfl
theorem c5_:Try.prog.cellsOf 5 = 1:=by kernel_rfl
theorem c22_:Try.prog.cellsOf 22 = 1:=by kernel_rfl
theorem c53_:Try.prog.cellsOf 53 = 1:=by kernel_rfl
theorem c25_:Try.prog.cellsOf 25 = 1:=by kernel_rfl
theorem c26_:Try.prog.cellsOf 26 = 1:=by kernel_rfl
theorem c43_:Try.prog.cellsOf 43 = 3:=by kernel_rfl
theorem c24_:Try.prog.cellsOf 24 = 8:=by kernel_rfl
theorem c28_:Try.prog.cellsOf 28 = 10:=by kernel_rfl
theorem int_of_ {n:Nat} {cs:List Value} {x:DataW H × List MemPlace} (h:DataW.trod enc Try.prog w base spare held n 3 cs = some x):∃ z,cs = [.int .i64 z]:=by
 obtain ⟨z,h1,_,h2⟩:=DataW.trod_int Try.underlying3 h
 exact ⟨z,h1⟩
theorem u8_of_ {n:Nat} {cs:List Value} {x:DataW H × List MemPlace} (h:DataW.trod enc Try.prog w base spare held n 5 cs = some x):∃ z,cs = [.int .u8 z]:=by
 obtain ⟨z,h1,_,h2⟩:=DataW.trod_int Try.underlying5 h
 exact ⟨z,h1⟩
theorem call_of_ {n:Nat} {cs:List Value} {x:DataW H × List MemPlace} (h:DataW.trod enc Try.prog w base spare held n 43 cs = some x):∃ e:S43,k43.K w e cs:=by
 obtain ⟨xs,m,_,_,hl,hx,hf⟩:=DataW.trod_struct Try.underlying43 h
 rw [c43_] at hl
 match cs,hl,xs,hx with
 | [u0,u1,u2],_,[y0,y1,y2],_ =>
  have g0:=hf 0 _ rfl
  have g1:=hf 1 _ rfl
  have g2:=hf 2 _ rfl
  simp [c3_] at g0 g1 g2
  obtain ⟨z0,e0⟩:=int_of_ g0
  obtain ⟨z1,e1⟩:=int_of_ g1
  obtain ⟨z2,e2⟩:=int_of_ g2
  simp at e0 e1 e2
  subst e0 e1 e2
  exact ⟨⟨z0,z1,z2⟩,k43_mk w _⟩
theorem row_of_ {α:Type} {d:Kd α} (z:α) {T E n:Nat} (hT:Try.prog.underlying T = some (.slice E)) (hc:Try.prog.cellsOf E = d.sz)
  (hel:∀ {n cs} {x:DataW H × List MemPlace},DataW.trod enc Try.prog w base spare held n E cs = some x→∃ e,d.K w e cs) {cs:List Value} {x:DataW H × List MemPlace} (h:DataW.trod enc Try.prog w base spare held n T cs = some x) :
  ∃ A c l,cs = [.slice A l.length c]∧Kd.C d w A l.length l∧l.length ≤ c∧c ≤ maxLen:=by
 rcases open_slice hT h with ⟨hcs,_⟩|⟨x,len,cap,m,k,D,Pl,hcs,_,hl,hm,hmm,_,hi⟩
 ·exact ⟨none,0,[],hcs,⟨rfl,by simp,fun h=>by simp at h⟩,Nat.le_refl _,by simp⟩
 ·have hlm:len ≤ m:=by rw [hmm];split <;> omega
  have hex:∀ i:Nat,∃ e:α,i < len→∃ cs',w.cells? base (x.add (i * d.sz)) d.sz = some cs'∧d.K w e cs':=by
   intro i
   by_cases hil:i < len
   ·obtain ⟨cs',h1,h2⟩:=hi i (by omega)
    rw [hc] at h1
    obtain ⟨e,h3⟩:=hel h2
    exact ⟨e,fun _=>⟨cs',h1,h3⟩⟩
   ·exact ⟨z,fun h=>absurd h hil⟩
  let F:Nat→α:=fun i=>(hex i).choose
  have hF:∀ i,i < len→∃ cs',w.cells? base (x.add (i * d.sz)) d.sz = some cs'∧d.K w (F i) cs':=fun i hil=>(hex i).choose_spec hil
  refine ⟨some x,cap,(List.range len).map F,by simpa using hcs,?_,by simpa using hl,hm⟩
  refine ⟨by simp,by simp;unfold maxLen at hm;omega,fun _=>⟨x,rfl,fun j p hp=>?_⟩⟩
  rw [List.getElem?_map] at hp
  have hj:j < len:=by
   have:=(List.getElem?_eq_some_iff.1 (show ((List.range len).map F)[j]? = some p by rw [List.getElem?_map];exact hp)).1
   simpa using this
  rw [List.getElem?_range hj] at hp
  simp at hp
  subst hp
  obtain ⟨cs',h1,h2⟩:=hF j hj
  obtain ⟨_,hcl,hat⟩:=World.cells?_some h1
  refine ⟨cs',d.K_len h2,h2,fun i u hu=>?_⟩
  have hil:=(List.getElem?_eq_some_iff.1 hu).1
  have:=hat i (by omega)
  rw [hu,Go.Deep.add_add] at this
  exact this
theorem ints_of_ {n:Nat} {cs:List Value} {x:DataW H × List MemPlace} (h:DataW.trod enc Try.prog w base spare held n 22 cs = some x):∃ A c l,cs = [.slice A l.length c]∧Kd.C (Kd.int .i64) w A l.length l∧l.length ≤ c∧c ≤ maxLen :=
 row_of_ (d:=Kd.int .i64) 0 Try.underlying22 c3_ (fun h=>by obtain ⟨z,e⟩:=int_of_ h;exact ⟨z,e⟩) h
theorem bytes_of_ {n:Nat} {cs:List Value} {x:DataW H × List MemPlace} (h:DataW.trod enc Try.prog w base spare held n 26 cs = some x):∃ A c l,cs = [.slice A l.length c]∧Kd.C (Kd.int .u8) w A l.length l∧l.length ≤ c∧c ≤ maxLen :=
 row_of_ (d:=Kd.int .u8) 0 Try.underlying26 c5_ (fun h=>by obtain ⟨z,e⟩:=u8_of_ h;exact ⟨z,e⟩) h
theorem rows_of_ {n:Nat} {cs:List Value} {x:DataW H × List MemPlace} (h:DataW.trod enc Try.prog w base spare held n 25 cs = some x):∃ A c l,cs = [.slice A l.length c]∧Kd.C (Kd.slice 43 k43) w A l.length l∧l.length ≤ c∧c ≤ maxLen :=
 row_of_ (d:=Kd.slice 43 k43) [] Try.underlying25 c53_ (fun h=>by
  obtain ⟨A,c,l,e,h1,h2,_⟩:=row_of_ (d:=k43) z43 Try.underlying53 c43_ call_of_ h
  exact ⟨l,A,c,e,h2,h1⟩) h
theorem conf_of_ {n:Nat} {cs:List Value} {x:DataW H × List MemPlace} (h:DataW.trod enc Try.prog w base spare held n 24 cs = some x) :
  ∃ z0 z1 z2 z3 z4 z5 A6 c6 l6 A7 c7 l7,cs = [.int .i64 z0,.int .i64 z1,.int .i64 z2,.int .i64 z3,.int .i64 z4,.int .i64 z5,.slice A6 (List.length l6) c6,.slice A7 (List.length l7) c7]∧(Kd.C (Kd.int .i64) w A6 l6.length l6∧l6.length ≤ c6)∧(Kd.C (Kd.int .i64) w A7 l7.length l7∧l7.length ≤ c7):=by
 obtain ⟨xs,m,_,_,hl,hx,hf⟩:=DataW.trod_struct Try.underlying24 h
 rw [c24_] at hl
 match cs,hl,xs,hx with
 | [u0,u1,u2,u3,u4,u5,u6,u7],_,[y0,y1,y2,y3,y4,y5,y6,y7],_ =>
  have g0:=hf 0 _ rfl
  have g1:=hf 1 _ rfl
  have g2:=hf 2 _ rfl
  have g3:=hf 3 _ rfl
  have g4:=hf 4 _ rfl
  have g5:=hf 5 _ rfl
  have g6:=hf 6 _ rfl
  have g7:=hf 7 _ rfl
  simp [c3_,c22_] at g0 g1 g2 g3 g4 g5 g6 g7
  obtain ⟨z0,e0⟩:=int_of_ g0
  obtain ⟨z1,e1⟩:=int_of_ g1
  obtain ⟨z2,e2⟩:=int_of_ g2
  obtain ⟨z3,e3⟩:=int_of_ g3
  obtain ⟨z4,e4⟩:=int_of_ g4
  obtain ⟨z5,e5⟩:=int_of_ g5
  obtain ⟨A6,c6,l6,e6,r6,k6,_⟩:=ints_of_ g6
  obtain ⟨A7,c7,l7,e7,r7,k7,_⟩:=ints_of_ g7
  simp at e0 e1 e2 e3 e4 e5 e6 e7
  subst e0 e1 e2 e3 e4 e5 e6 e7
  exact ⟨z0,z1,z2,z3,z4,z5,A6,c6,l6,A7,c7,l7,rfl,⟨r6,k6⟩,⟨r7,k7⟩⟩
theorem script_of_ {n:Nat} {cs:List Value} {x:DataW H × List MemPlace} (h:DataW.trod enc Try.prog w base spare held n 28 cs = some x) :
  ∃ z0 z1 z2 z3 z4 z5 A6 c6 l6 A7 c7 l7 A8 c8 l8 A9 c9 l9,cs = [.int .i64 z0,.int .i64 z1,.int .i64 z2,.int .i64 z3,.int .i64 z4,.int .i64 z5,.slice A6 (List.length l6) c6,.slice A7 (List.length l7) c7,.slice A8 (List.length l8) c8,.slice A9 (List.length l9) c9]∧(Kd.C (Kd.int .i64) w A6 l6.length l6∧l6.length ≤ c6)∧(Kd.C (Kd.int .i64) w A7 l7.length l7∧l7.length ≤ c7)∧(Kd.C (Kd.slice 43 k43) w A8 l8.length l8∧l8.length ≤ c8)∧(Kd.C (Kd.int .u8) w A9 l9.length l9∧l9.length ≤ c9):=by
 obtain ⟨xs,m,_,_,hl,hx,hf⟩:=DataW.trod_struct Try.underlying28 h
 rw [c28_] at hl
 match cs,hl,xs,hx with
 | [u0,u1,u2,u3,u4,u5,u6,u7,u8,u9],_,[y0,y1,y2],_ =>
  have g0:=hf 0 _ rfl
  have g1:=hf 1 _ rfl
  have g2:=hf 2 _ rfl
  simp [c24_,c25_,c26_] at g0 g1 g2
  obtain ⟨z0,z1,z2,z3,z4,z5,A6,c6,l6,A7,c7,l7,e0,r6,r7⟩:=conf_of_ g0
  obtain ⟨A8,c8,l8,e8,r8,k8,_⟩:=rows_of_ g1
  obtain ⟨A9,c9,l9,e9,r9,k9,_⟩:=bytes_of_ g2
  simp at e0 e8 e9
  obtain ⟨rfl,rfl,rfl,rfl,rfl,rfl,rfl,rfl⟩:=e0
  subst e8 e9
  exact ⟨z0,z1,z2,z3,z4,z5,A6,c6,l6,A7,c7,l7,A8,c8,l8,A9,c9,l9,rfl,r6,r7,⟨r8,k8⟩,⟨r9,k9⟩⟩
end
end Go.Proofs.Ytadblpcjkahikaa.PTraceRuns

