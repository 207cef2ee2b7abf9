/- Part 34 of the proof of TopPeek. -/
import Derived.Test.YtnkcbfgfkadoaaaGreatX33
set_option linter.all false
namespace Go.Proofs.YtnkcbfgfkadoaaaGreat.Sx
open Go
set_option maxRecDepth 100000
theorem fn4_ok:fnOk 4 90 [0]=true:=by kernel_rfl
section
variable{n n0:Nat}{h:H}{ns:List Nat}{b:mX}{ρ:bF}{a:Act}{w:World}{Q:Exit→Act→World→Prop}
theorem stage_0(L:Lv n0 h ns hO0)(h6:h.n+164≤1000000)(s:St b 90 (cU (nm ns) hK0) h ρ a w)
 (hq:∀h' wX aW a' w',Lv n0 h' wX hO1→h'.n=h.n+164→(∀k,k<n0→h'.get k=h.get k)→h'.R=h.R→h'.C=h.C→St b 90 (cU (nm wX) hK1) h' aW a' w'→cB n Tryz.prog (aA 6 (some (bR 4))) Q a' w'):cB n Tryz.prog (aA 0 (some (bR 4))) Q a w:=
 mY (m:=19) (c:=164) bW (aH _) head_0 (by kernel_rfl) (by kernel_rfl) (by kernel_rfl) (by kernel_rfl) (by kernel_rfl) (by kernel_rfl) (by kernel_rfl) (by kernel_rfl) (by kernel_rfl) (by kernel_rfl) (by kernel_rfl) (by kernel_rfl) L h6 s hq
theorem stage_1(L:Lv n0 h ns hO1)(h6:h.n+421≤1000000)(s:St b 90 (cU (nm ns) hK1) h ρ a w)
 (hq:∀h' wX aW a' w',Lv n0 h' wX hO2→h'.n=h.n+421→(∀k,k<n0→h'.get k=h.get k)→h'.R=h.R→h'.C=h.C→St b 90 (cU (nm wX) hK2) h' aW a' w'→cB n Tryz.prog (aA 7 (some (bR 4))) Q a' w'):cB n Tryz.prog (aA 6 (some (bR 4))) Q a w:=
 mY (m:=14) (c:=421) bW (aH _) head_1 (by kernel_rfl) (by kernel_rfl) (by kernel_rfl) (by kernel_rfl) (by kernel_rfl) (by kernel_rfl) (by kernel_rfl) (by kernel_rfl) (by kernel_rfl) (by kernel_rfl) (by kernel_rfl) (by kernel_rfl) L h6 s hq
theorem stage_2(L:Lv n0 h ns hO2)(h6:h.n+42≤1000000)(s:St b 90 (cU (nm ns) hK2) h ρ a w)
 (hq:∀h' wX aW a' w',Lv n0 h' wX hO3→h'.n=h.n+42→(∀k,k<n0→h'.get k=h.get k)→h'.R=h.R→h'.C=h.C→St b 90 (cU (nm wX) hK3) h' aW a' w'→cB n Tryz.prog (aA 8 (some (bR 4))) Q a' w'):cB n Tryz.prog (aA 7 (some (bR 4))) Q a w:=
 mY (m:=14) (c:=42) bW (aH _) head_2 (by kernel_rfl) (by kernel_rfl) (by kernel_rfl) (by kernel_rfl) (by kernel_rfl) (by kernel_rfl) (by kernel_rfl) (by kernel_rfl) (by kernel_rfl) (by kernel_rfl) (by kernel_rfl) (by kernel_rfl) L h6 s hq
theorem stage_3(L:Lv n0 h ns hO3)(h6:h.n+0≤1000000)(s:St b 90 (cU (nm ns) hK3) h ρ a w)
 (hq:∀h' wX aW a' w',Lv n0 h' wX hO4→h'.n=h.n+0→(∀k,k<n0→h'.get k=h.get k)→h'.R=h.R→h'.C=h.C→St b 90 (cU (nm wX) hK4) h' aW a' w'→cB n Tryz.prog (aA 9 (some (bR 4))) Q a' w'):cB n Tryz.prog (aA 8 (some (bR 4))) Q a w:=
 mY (m:=14) (c:=0) bW (aH _) head_3 (by kernel_rfl) (by kernel_rfl) (by kernel_rfl) (by kernel_rfl) (by kernel_rfl) (by kernel_rfl) (by kernel_rfl) (by kernel_rfl) (by kernel_rfl) (by kernel_rfl) (by kernel_rfl) (by kernel_rfl) L h6 s hq
theorem stage_4(L:Lv n0 h ns hO4)(h6:h.n+64≤1000000)(s:St b 90 (cU (nm ns) hK4) h ρ a w)
 (hq:∀h' wX aW a' w',Lv n0 h' wX hO5→h'.n=h.n+64→(∀k,k<n0→h'.get k=h.get k)→h'.R=h.R→h'.C=h.C→St b 90 (cU (nm wX) hK5) h' aW a' w'→cB n Tryz.prog (aA 10 (some (bR 4))) Q a' w'):cB n Tryz.prog (aA 9 (some (bR 4))) Q a w:=
 mY (m:=20) (c:=64) bW (aH _) head_4 (by kernel_rfl) (by kernel_rfl) (by kernel_rfl) (by kernel_rfl) (by kernel_rfl) (by kernel_rfl) (by kernel_rfl) (by kernel_rfl) (by kernel_rfl) (by kernel_rfl) (by kernel_rfl) (by kernel_rfl) L h6 s hq
theorem stage_5(L:Lv n0 h ns hO5)(h6:h.n+64≤1000000)(s:St b 90 (cU (nm ns) hK5) h ρ a w)
 (hq:∀h' wX aW a' w',Lv n0 h' wX hO6→h'.n=h.n+64→(∀k,k<n0→h'.get k=h.get k)→h'.R=h.R→h'.C=h.C→St b 90 (cU (nm wX) hK6) h' aW a' w'→cB n Tryz.prog (aA 11 (some (bR 4))) Q a' w'):cB n Tryz.prog (aA 10 (some (bR 4))) Q a w:=
 mY (m:=14) (c:=64) bW (aH _) head_5 (by kernel_rfl) (by kernel_rfl) (by kernel_rfl) (by kernel_rfl) (by kernel_rfl) (by kernel_rfl) (by kernel_rfl) (by kernel_rfl) (by kernel_rfl) (by kernel_rfl) (by kernel_rfl) (by kernel_rfl) L h6 s hq
theorem stage_6(L:Lv n0 h ns hO6)(h6:h.n+4≤1000000)(s:St b 90 (cU (nm ns) hK6) h ρ a w)
 (hq:∀h' wX aW a' w',Lv n0 h' wX hO7→h'.n=h.n+4→(∀k,k<n0→h'.get k=h.get k)→h'.R=h.R→h'.C=h.C→St b 90 (cU (nm wX) hK7) h' aW a' w'→cB n Tryz.prog (aA 13 (some (bR 4))) Q a' w'):cB n Tryz.prog (aA 11 (some (bR 4))) Q a w:=
 mY (m:=15) (c:=4) bW (aH _) head_6 (by kernel_rfl) (by kernel_rfl) (by kernel_rfl) (by kernel_rfl) (by kernel_rfl) (by kernel_rfl) (by kernel_rfl) (by kernel_rfl) (by kernel_rfl) (by kernel_rfl) (by kernel_rfl) (by kernel_rfl) L h6 s hq
theorem stage_7(L:Lv n0 h ns hO7)(h6:h.n+856≤1000000)(s:St b 90 (cU (nm ns) hK7) h ρ a w)
 (hq:∀h' aW a' w',h'.n=h.n+856→(∀k,k<n0→h'.get k=h.get k)→h'.R=h.R→h'.C=h.C→St b 90 [(0,.bool true)] h' aW a' w'→Q .ret a' w'):cB n Tryz.prog (aA 13 (some (bR 4))) Q a w:=
 go_last (ts:=[0]) (vs:=hV7) (c:=856) bW (aH _) head_7 (by kernel_rfl) (by kernel_rfl) (by kernel_rfl) (by kernel_rfl) (by kernel_rfl) (by kernel_rfl) (by kernel_rfl) (by kernel_rfl) (by kernel_rfl) L h6 s hq
end
def Adds(K:Nat)(h h':H):Prop:=h.n≤h'.n∧h'.n≤h.n+K∧(∀k,k<h.n→h'.get k=h.get k)∧h'.R=h.R∧h'.C=h.C
theorem head_spec{h:H}(hR:∀m∈h.R,m<h.n)(hC:h.C=[])(h6:h.n+1615≤1000000):lJ Tryz.prog 4 [] h (fun v h'=>v=.bool true∧Adds 1615 h h'):=by
 refine lG fn4_ok ⟨by simp,by omega⟩ ⟨by simp,by simp⟩ fun ρ a w n Q s0 hq=>?_
 refine stage_0 (Lv.zero hR hC) (by omega) s0 fun h1 ns1 dQ a1 w1 L1 n1 g1 r1 c1 s1=>?_
 refine stage_1 L1 (by omega) s1 fun h2 ns2 iJ a2 w2 L2 n2 g2 r2 c2 s2=>?_
 refine stage_2 L2 (by omega) s2 fun h3 ns3 gV a3 w3 L3 n3 g3 r3 c3 s3=>?_
 refine stage_3 L3 (by omega) s3 fun h4 ns4 mE a4 w4 L4 n4 g4 r4 c4 s4=>?_
 refine stage_4 L4 (by omega) s4 fun h5 ns5 rB a5 w5 L5 n5 g5 r5 c5 s5=>?_
 refine stage_5 L5 (by omega) s5 fun h6 ns6 ρ6 a6 w6 L6 n6 g6 r6 c6 s6=>?_
 refine stage_6 L6 (by omega) s6 fun h7 ns7 ρ7 a7 w7 L7 n7 g7 r7 c7 s7=>?_
 refine stage_7 L7 (by omega) s7 fun h8 ρ8 a8 w8 n8 g8 r8 c8 s8=>?_
 refine hq _ ρ8 a8 w8 [.bool true] h8 (.inl rfl) rfl ⟨rfl,by omega,by omega,fun k hk=>?_,?_,?_⟩ s8
 ·rw[g8 k hk,g7 k hk,g6 k hk,g5 k hk,g4 k hk,g3 k hk,g2 k hk,g1 k hk]
 ·rw[r8,r7,r6,r5,r4,r3,r2,r1]
 ·rw[c8,c7,c6,c5,c4,c3,c2,c1]
end Go.Proofs.YtnkcbfgfkadoaaaGreat.Sx
