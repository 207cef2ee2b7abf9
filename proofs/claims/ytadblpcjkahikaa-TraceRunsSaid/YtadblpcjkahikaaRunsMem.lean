
import Derived.Test.YtadblpcjkahikaaRunsBase
import Derived.BigQuiet
namespace Go.Proofs.Ytadblpcjkahikaa.PTraceRuns
open Go.RowKit Go.Proofs.YtadblpcjkahikaaW.PrintWords Go.Proofs.YtadblpcjkahikaaW.PrintLast Go.Proofs.YtadblpcjkahikaaW.PrintMore
set_option linter.unusedVariables false
set_option linter.unusedSimpArgs false
set_option maxHeartbeats 1000000
set_option maxRecDepth 100000
theorem info118:(Try.prog.info? 118).map (fun i=>(i.zero,i.size,i.bytes)) = some (some (.agg #[.int .i64 0,.int .i64 0,.int .i64 0,.int .i64 0,.bool false]),5,40):=by kernel_rfl
def MemIs (B:Nat) (w:World) (gm:Nat) (ws:List Int) (n:Nat):Prop :=
 ∃ vW vL ls,w.heap[gm]? = some (.cells #[vW,vL] 77 (0,0))∧B ≤ gm∧Ints w vW ws∧Kd.R k118 118 w B (fun _=>True) vL ls∧ls.length = n
theorem MemIs.of {B gm n:Nat} {w w1:World} {ws:List Int} (h:MemIs B w gm ws n) (hk:∀ (k:Nat) (cs:Array Value) (t:Nat) (fr:Nat × Nat),w.heap[k]? = some (.cells cs t fr)→t ∈ [3,77,118]→w1.heap[k]? = some (.cells cs t fr)):MemIs B w1 gm ws n:=by
 obtain ⟨vW,vL,ls,hb,hB,hW,hL,hn⟩:=h
 refine ⟨vW,vL,ls,hk _ _ _ _ hb (by decide),hB,?_,?_,hn⟩
 ·refine Kd.R_mono (Kd.R_move (Kd.R_bound hW) (fun k hk1=>?_)) (fun _ _=>trivial)
  obtain ⟨_,_,_,q,hq,cells,hc⟩:=hk1
  have e:q = 3:=by simpa [Kd.int,Kd.scalar] using hq
  subst e
  rw [hc];exact hk _ _ _ _ hc (by decide)
 ·refine Kd.R_mono (Kd.R_move (Kd.R_bound hL) (fun k hk1=>?_)) (fun _ _=>trivial)
  obtain ⟨_,_,_,q,hq,cells,hc⟩:=hk1
  have e:q = 118:=by simpa [k118,Kd.iso,Kd.pair,Kd.int,Kd.bool,Kd.scalar] using hq
  subst e
  rw [hc];exact hk _ _ _ _ hc (by decide)
theorem MemIs.below {B gm n:Nat} {w w1:World} {ws:List Int} (h:MemIs B w gm ws n) (hb:Below w.heap.size w w1):MemIs B w1 gm ws n:=h.of fun k cs t fr hk _=>(hb.block k (blk_lt hk)).trans hk
theorem MemIs.drewN {B gm n:Nat} {w:World} {ws:List Int} (h:MemIs B w gm ws n) (m:Nat):MemIs B (w.drewN m) gm ws n:=h.of fun k cs t fr hk _=>hk
theorem MemIs.drew {B gm n:Nat} {w:World} {ws:List Int} (h:MemIs B w gm ws n):MemIs B w.drew gm ws n:=h.of fun k cs t fr hk _=>hk
theorem MemIs.alloc {B gm n:Nat} {w:World} {ws:List Int} (h:MemIs B w gm ws n) (o:Obj):MemIs B (w.alloc o) gm ws n:=h.below (below_alloc (Below.refl _ _) o)
theorem MemIs.set {B gm n:Nat} {w:World} {ws:List Int} (h:MemIs B w gm ws n) {p:Addr} {cs:Array Value} {t:Nat} {fr:Nat × Nat} (hb:w.heap[p.block]? = some (.cells cs t fr)) (ht:t ∉ [3,77,118]) (u:Value):MemIs B (w.setCell p u) gm ws n :=
 h.of fun k cs' t' fr' hk hm=>by
  rw [Below.heap_setCell w p u k (fun e=>by subst e;rw [hb] at hk;injection hk with hk;injection hk with _ e;subst e;exact ht hm)]
  exact hk
theorem MemIs.lt {B gm n:Nat} {w:World} {ws:List Int} (h:MemIs B w gm ws n):gm < w.heap.size:=by obtain ⟨_,_,_,hb,_⟩:=h;exact blk_lt hb
theorem log_any {B gm n:Nat} {w:World} {ws:List Int} (hm:MemIs B w gm ws n) (hn:n ≤ 1000000) (x:S118) :
  Calls Try.prog 81 #[.pointer (some ⟨gm,0,none⟩),.agg #[.int .i64 x.f0,.int .i64 x.f1,.int .i64 x.f2,.int .i64 x.f3,.bool x.f4]] w fun e w'=>e = .returned (.tuple #[])∧MemIs B w' gm ws (n + 1)∧Fr B true [] w w':=by
 obtain ⟨vW,vL,ls,hb,hB,hW,hL,hn'⟩:=hm
 have HB:=Lib.hid hb
 have HW:=Lib.hid hW
 have HL:=Lib.hid hL
 have HN:=Lib.hid hn'
 have c0:w.cell? ⟨gm,0,none⟩ = some vW:=(blk_cell hb 0).trans rfl
 have c1:w.cell? ⟨gm,1,none⟩ = some vL:=(blk_cell hb 1).trans rfl
 have f1:=blk_frozen hb 1
 have hlt:=blk_lt hb
 clear hb hW hL hn'
 go_enter Try.func81,Try.ntmps81
 go_wp2
 have b0:(w.alloc (.cells #[.int .i64 x.f0,.int .i64 x.f1,.int .i64 x.f2,.int .i64 x.f3,.bool x.f4] 118)).heap[w.heap.size]? = some (.cells #[.int .i64 x.f0,.int .i64 x.f1,.int .i64 x.f2,.int .i64 x.f3,.bool x.f4] 118 (0,0)):=heap_alloc_new w _
 have HF0:=Lib.hid (Fr.alloc (Fr.refl B true [] w) (.cells #[.int .i64 x.f0,.int .i64 x.f1,.int .i64 x.f2,.int .i64 x.f3,.bool x.f4] 118))
 have HB0:=Lib.hid (blk_alloc HB.out (.cells #[.int .i64 x.f0,.int .i64 x.f1,.int .i64 x.f2,.int .i64 x.f3,.bool x.f4] 118))
 have HW0:=Lib.hid (HW.out.below (below_alloc (Below.refl _ _) (.cells #[.int .i64 x.f0,.int .i64 x.f1,.int .i64 x.f2,.int .i64 x.f3,.bool x.f4] 118)))
 have HL0:=Lib.hid (Kd.R_below HL.out (below_alloc (Below.refl _ _) (.cells #[.int .i64 x.f0,.int .i64 x.f1,.int .i64 x.f2,.int .i64 x.f3,.bool x.f4] 118)))
 generalize hw0:w.alloc (.cells #[.int .i64 x.f0,.int .i64 x.f1,.int .i64 x.f2,.int .i64 x.f3,.bool x.f4] 118) = W0 at *
 clear hw0
 have c1:W0.cell? ⟨gm,1,none⟩ = some vL:=(blk_cell HB0.out 1).trans rfl
 have d0:=(blk_cell b0 0).trans rfl
 have d1:=(blk_cell b0 1).trans rfl
 have d2:=(blk_cell b0 2).trans rfl
 have d3:=(blk_cell b0 3).trans rfl
 have d4:=(blk_cell b0 4).trans rfl
 clear b0
 refine start_ (n:=11) (S:=(fun w1=>w1.cell? ⟨gm,1,none⟩ = some vL∧w1.cell? ⟨w.heap.size,0,none⟩ = some (.int .i64 x.f0)∧w1.cell? ⟨w.heap.size,1,none⟩ = some (.int .i64 x.f1)∧w1.cell? ⟨w.heap.size,2,none⟩ = some (.int .i64 x.f2)∧w1.cell? ⟨w.heap.size,3,none⟩ = some (.int .i64 x.f3)∧w1.cell? ⟨w.heap.size,4,none⟩ = some (.bool x.f4))) (ds:=[7,10]) #[false,false,false,false,false,false,false,false,false,false,false] (by kernel_rfl) rfl rfl ?_ (fun hHeld=>?_)
 ·(try dsimp only);go_keep
 generalize hWd:World.drew (W0) = W1 at hHeld ⊢
 have HD:=Lib.hid hWd
 clear hWd
 refine pure_ (i := 0) (oi := { dst := some 4, op := Op.move (Operand.tmp 0), type := 35, pos := "ref.go:28", after := #[], guard := none }) (v := ?_) #[true, false, false, false, false, false, false, false, false, false, false] rfl rfl (by kernel_rfl) (fun _ _ _ h => h) (Or.inl ⟨by rfl, ?_⟩) rfl ?_
 rotate_left
 ·(intro w;go_simp);try with_reducible rfl
 try simp only [Act.put,zq1,zq2,zq3]
 refine pure_ (i := 1) (oi := { dst := some 5, op := Op.move (Operand.tmp 0), type := 35, pos := "ref.go:28", after := #[], guard := none }) (v := ?_) #[true, true, false, false, false, false, false, false, false, false, false] rfl rfl (by kernel_rfl) (fun _ _ _ h => h) (Or.inl ⟨by rfl, ?_⟩) rfl ?_
 rotate_left
 ·(intro w;go_simp);try with_reducible rfl
 try simp only [Act.put,zq1,zq2,zq3]
 refine pure_ (i := 2) (oi := { dst := some 6, op := Op.nilCheck (Operand.tmp 5), type := 0, pos := "ref.go:28", after := #[{ on := 1, ground := Ground.data }], guard := none }) (v := ?_) #[true, true, true, false, false, false, false, false, false, false, false] rfl rfl (by kernel_rfl) (fun _ _ _ h => h) (Or.inl ⟨by rfl, ?_⟩) rfl ?_
 rotate_left
 ·(intro w;go_simp);try with_reducible rfl
 try simp only [Act.put,zq1,zq2,zq3]
 refine pure_ (i := 3) (oi := { dst := some 7, op := Op.fieldAddr 77 (Operand.tmp 6) 1, type := 0, pos := "ref.go:28", after := #[{ on := 2, ground := Ground.data }], guard := none }) (v := ?_) #[true, true, true, true, false, false, false, false, false, false, false] rfl rfl (by kernel_rfl) (fun _ _ _ h => h) (Or.inl ⟨by rfl, ?_⟩) rfl ?_
 rotate_left
 ·(intro w;go_simp);try with_reducible rfl
 try simp only [Act.put,zq1,zq2,zq3]
 refine take_ (i := 4) (oi := { dst := some 8, op := Op.load 75 (Operand.tmp 7), type := 75, pos := "ref.go:28", after := #[{ on := 3, ground := Ground.data }], guard := none }) (v := ?_) #[true, true, true, true, true, false, false, false, false, false, false] rfl rfl (by kernel_rfl) (fun _ _ _ h => h) (Or.inl ⟨by rfl, ?_⟩) (by assumption) rfl ?_
 rotate_left
 ·(intro w hSw;(try dsimp only at hSw);go_simp);try with_reducible rfl
 try simp only [Act.put,zq1,zq2,zq3]
 refine take_ (i := 5) (oi := { dst := some 9, op := Op.load 118 (Operand.tmp 3), type := 118, pos := "ref.go:28", after := #[], guard := none }) (v := ?_) #[true, true, true, true, true, true, false, false, false, false, false] rfl rfl (by kernel_rfl) (fun _ _ _ h => h) (Or.inl ⟨by rfl, ?_⟩) (by assumption) rfl ?_
 rotate_left
 ·(intro w hSw;(try dsimp only at hSw);go_simp);try with_reducible rfl
 try simp only [Act.put,zq1,zq2,zq3]
 refine one_ (i := 6) (oi := { dst := some 10, op := Op.buildSlice 75 1 #[(0, Operand.tmp 9)], type := 75, pos := "ref.go:28", after := #[{ on := 5, ground := Ground.data }], guard := none }) #[true, true, true, true, true, true, true, false, false, false, false] rfl rfl (by kernel_rfl) (by decide) (fun K hK => ?_)
 refine value_ (by rfl) rfl (by go_simp;first|rfl|exact ⟨rfl,rfl⟩) ?_
 refine hK.out _ _ ?_ (fun hHeld6=>?_)
 ·(try dsimp only);go_keep
 clear hK K hHeld
 have hHeld:=hHeld6
 clear hHeld6
 try simp only [Act.put,zq1,zq2,zq3]
 refine last_ (i := 7) (oi := { dst := some 11, op := Op.call { callee := Callee.builtin Builtin.append, args := #[Operand.tmp 8, Operand.tmp 10], argTypes := #[75, 75] }, type := 75, pos := "ref.go:28", after := #[{ on := 4, ground := Ground.data }, { on := 6, ground := Ground.data }], guard := none }) #[true, true, true, true, true, true, true, true, false, false, false] rfl rfl (by kernel_rfl) (by decide) (fun K hK => ?_)
 have HLn:Kd.R k118 118 W1 B (fun _=>True) vL ls:=by rw [← HD.out];exact HL0.out
 refine Kd.R_append_step k118 (w0:=W1) B (by rfl) (.tmp 8) (.tmp 10) 75 118 (.agg #[.int .i64 0,.int .i64 0,.int .i64 0,.int .i64 0,.bool false]) 40 rfl Try.underlying75 info118 rfl (by decide) (by omega) vL ls x [.int .i64 x.f0,.int .i64 x.f1,.int .i64 x.f2,.int .i64 x.f3,.bool x.f4] (fun _=>True) (fun _=>False) rfl rfl (k118_mkM _ _ _ x) (fun _ hk=>hk.elim) (fun _ _=>trivial) HLn (Below.refl _ _) (by rw [← HD.out];exact Nat.le_trans hB (Nat.le_of_lt (blk_lt HB0.out))) (by rw [HN.out];omega) ?_
 intro v2 W2 hL2 hb2 hg2 hat2
 obtain ⟨A2,cp2,rfl⟩:=Kd.R_slice hL2
 have hBn:W1.heap[gm]? = some (.cells #[vW,vL] 77 (0,0)):=by rw [← HD.out];exact HB0.out
 have hB2:W2.heap[gm]? = some (.cells #[vW,vL] 77 (0,0)):=blk_grown hBn hg2 (Kd.R_ne HLn hBn (by decide))
 have HB2:=Lib.hid hB2
 have HF2:=Lib.hid (Fr.grown (HD.out ▸ HF0.out.drew) rfl hg2 (fun k hk=>by obtain ⟨hk1,cells,hc⟩:=R_typed' HLn k hk;exact ⟨hk1,cells,_,hc⟩))
 have HL2:=Lib.hid hL2
 have e1:W2.cell? ⟨gm,1,none⟩ = some vL:=(blk_cell hB2 1).trans rfl
 have e2:=blk_frozen hB2 1
 clear hBn hB2 hL2 hb2 hg2 hat2 HLn
 refine hK.out _ _ ?_
 clear hK K
 try simp only [Act.put,zq1,zq2,zq3]
 refine pure_ (i := 8) (oi := { dst := some 12, op := Op.nilCheck (Operand.tmp 4), type := 0, pos := "ref.go:28", after := #[{ on := 0, ground := Ground.data }, { on := 0, ground := Ground.phase }, { on := 1, ground := Ground.phase }, { on := 2, ground := Ground.phase }, { on := 3, ground := Ground.phase }, { on := 4, ground := Ground.phase }, { on := 5, ground := Ground.phase }, { on := 6, ground := Ground.phase }, { on := 7, ground := Ground.phase }], guard := none }) (v := ?_) #[true, true, true, true, true, true, true, true, true, false, false] rfl rfl (by kernel_rfl) (fun _ _ _ h => h) (Or.inl ⟨by rfl, ?_⟩) rfl ?_
 rotate_left
 ·(intro w;go_simp);try with_reducible rfl
 try simp only [Act.put,zq1,zq2,zq3]
 refine pure_ (i := 9) (oi := { dst := some 13, op := Op.fieldAddr 77 (Operand.tmp 12) 1, type := 0, pos := "ref.go:28", after := #[{ on := 8, ground := Ground.data }, { on := 0, ground := Ground.phase }, { on := 1, ground := Ground.phase }, { on := 2, ground := Ground.phase }, { on := 3, ground := Ground.phase }, { on := 4, ground := Ground.phase }, { on := 5, ground := Ground.phase }, { on := 6, ground := Ground.phase }, { on := 7, ground := Ground.phase }], guard := none }) (v := ?_) #[true, true, true, true, true, true, true, true, true, true, false] rfl rfl (by kernel_rfl) (fun _ _ _ h => h) (Or.inl ⟨by rfl, ?_⟩) rfl ?_
 rotate_left
 ·(intro w;go_simp);try with_reducible rfl
 try simp only [Act.put,zq1,zq2,zq3]
 refine last_ (i := 10) (oi := { dst := none, op := Op.store 75 (Operand.tmp 13) (Operand.tmp 11), type := 0, pos := "ref.go:28", after := #[{ on := 9, ground := Ground.data }, { on := 7, ground := Ground.data }, { on := 7, ground := Ground.chain }, { on := 0, ground := Ground.phase }, { on := 1, ground := Ground.phase }, { on := 2, ground := Ground.phase }, { on := 3, ground := Ground.phase }, { on := 4, ground := Ground.phase }, { on := 5, ground := Ground.phase }, { on := 6, ground := Ground.phase }, { on := 7, ground := Ground.phase }], guard := none }) #[true, true, true, true, true, true, true, true, true, true, true] rfl rfl (by kernel_rfl) (by decide) (fun K hK => ?_)
 refine skip_ (by rfl) rfl (by go_simp;first|rfl|exact ⟨rfl,rfl⟩) ?_
 refine hK.out _ _ ?_
 clear hK K
 try simp only [Act.put,zq1,zq2,zq3]
 refine done_ (by kernel_rfl) ?_
 go_wp2
 go_end0
 refine ⟨rfl,⟨vW,_,ls ++ [x],by simpa using blk_set HB2.out 1 (.slice A2 (ls ++ [x]).length cp2),hB,HW.out.fr (HF2.out.setMem rfl hB HB2.out _),Kd.R_set HL2.out HB2.out (by decide) 1 _,by rw [List.length_append,HN.out];rfl⟩,HF2.out.setMem rfl hB HB2.out _⟩
theorem take_snoc_set (ws:List Int) (i:Nat) (x:Int) (k:Nat) (hk:k < ws.length):(ws.set i x).take (k + 1) = (ws.set i x).take k ++ [if k = i then x else ws.getD k 0]:=by
 have hl:k < (ws.set i x).length:=by rw [List.length_set];exact hk
 rw [List.take_add_one,List.getElem?_eq_getElem hl,List.getElem_set]
 by_cases h:i = k
 ·subst h;simp
 ·rw [if_neg h,if_neg (fun e=>h e.symm),List.getD_eq_getElem?_getD,List.getElem?_eq_getElem hk];rfl
theorem poke_any {B gm n:Nat} {w:World} {ws:List Int} (hm:MemIs B w gm ws n) (hlen:ws.length ≤ 10000) (i:Nat) (x:Int) :
  Calls Try.prog 32 #[.pointer (some ⟨gm,0,none⟩),.int .i64 i,.int .i64 x] w fun e w'=>e = .returned (.tuple #[])∧MemIs B w' gm (ws.set i x) n∧Fr B true [] w w':=by
 obtain ⟨vW,vL,ls,hb,hB,hW,hL,hn'⟩:=hm
 obtain ⟨A,cp,rfl,hcp,hC⟩:=hW.reads
 have HB:=Lib.hid hb
 have HC:=Lib.hid hC
 have HW:=Lib.hid hW
 have HL:=Lib.hid hL
 have HN:=Lib.hid hn'
 have hlt:=blk_lt hb
 clear hb hW hL hn' hC
 go_enter Try.func32,Try.ntmps32
 go_wp2
 go_loopw [6,7] (fun v6 v7 wr=>∃ k:Nat,k ≤ ws.length∧v7 = .int .i64 k∧Aside0 (Kd.R (Kd.int .i64) 3 wr w.heap.size (fun _=>True) v6 ((ws.set i x).take k))∧Aside0 (Below w.heap.size w wr)) (fun _ v7 _=>ws.length - (intOf v7).toNat)
 case atStart=>exact ⟨0,Nat.zero_le _,rfl,⟨Kd.R_nil _ _ _ _ _⟩,⟨Below.refl _ _⟩⟩
 case round =>
  obtain ⟨k,hk,rfl,HO,HBe⟩:=hrel
  have hb1:=HB.out
  have hb2:wr.heap[gm]? = some (.cells #[.slice A ws.length cp,vL] 77 (0,0)):=blk_below hb1 HBe.out
  have c0:wr.cell? ⟨gm,0,none⟩ = some (.slice A ws.length cp):=(blk_cell hb2 0).trans rfl
  have f0:=blk_frozen hb2 0
  have HB2:=Lib.hid hb2
  clear hb1 hb2
  by_cases hkl:k < ws.length
  ·have hk0:(0:Int) ≤ (k:Int):=by omega
   have hk1:(k:Int) < (ws.length:Int):=by omega
   have HTS:=Lib.hid (take_snoc_set ws i x k hkl)
   have hex:Hid (∃ x',x' = if k = i then x else ws.getD k 0):=Lib.hid ⟨_,rfl⟩
   by_cases hki:k = i
   ·have hq1:((k:Int) == (i:Int)) = true:=by rw [beq_iff_eq,hki]
    have hq2:(k == i) = true:=by rw [beq_iff_eq,hki]
    have HKI:=Lib.hid hki
    clear hki
    go_wp2_with (first|((with_reducible refine gate_builtin (b:=.append) (xs:=#[.tmp 20,.tmp 22]) rfl ?_);at_builtin;refine Kd.R_append (Kd.int .i64) (w0:=w) w.heap.size rfl (.tmp 20) (.tmp 22) 22 3 (.int .i64 0) 8 rfl Try.underlying22 info3 rfl (by decide) (by omega) u6 ((ws.set i x).take k) x [.int .i64 x] (fun _=>True) (fun _=>False) rfl rfl rfl (fun _ hk=>hk.elim) (fun _ _=>trivial) HO.out HBe.out HBe.out.size (by rw [List.length_take];omega) ?_;intro v8 w8 ho hb8 hg8 hat8))
    have HO8:Aside0 (Kd.R (Kd.int .i64) 3 w8 w.heap.size (fun _=>True) v8 ((ws.set i x).take (k + 1))):=⟨by rw [HTS.out,if_pos HKI.out];exact ho⟩
    have HBe8:=Aside0.mk hb8
    clear ho hb8 hg8 hat8 c0 f0
    go_roundw
    case rel=>exact ⟨k + 1,by omega,by go_num,HO8,HBe8⟩
    case measure=>simp [intOf];omega
   ·have hq1:((k:Int) == (i:Int)) = false:=by rw [beq_eq_false_iff_ne];omega
    have hq2:(k == i) = false:=by rw [beq_eq_false_iff_ne];exact hki
    have HKI:=Lib.hid hki
    obtain ⟨ad,e,hx⟩:=Kd.at_int HC.out (k:Int) hk0 hk1
    subst e
    replace hx:=(HBe.out.cell (World.block_lt_of_cell? w _ hx)).trans hx
    simp only [Int.toNat_natCast] at hx
    have hrd:Hid (rd ws (k:Int) = ws.getD k 0):=Lib.hid (by unfold rd;rw [Int.toNat_natCast])
    clear hki
    go_wp2_with (first|((with_reducible refine gate_builtin (b:=.append) (xs:=#[.tmp 24,.tmp 32]) rfl ?_);at_builtin;refine Kd.R_append (Kd.int .i64) (w0:=w) w.heap.size rfl (.tmp 24) (.tmp 32) 22 3 (.int .i64 0) 8 rfl Try.underlying22 info3 rfl (by decide) (by omega) u6 ((ws.set i x).take k) (rd ws (k:Int)) [.int .i64 (rd ws (k:Int))] (fun _=>True) (fun _=>False) rfl rfl rfl (fun _ hk=>hk.elim) (fun _ _=>trivial) HO.out HBe.out HBe.out.size (by rw [List.length_take];omega) ?_;intro v8 w8 ho hb8 hg8 hat8))
    have HO8:Aside0 (Kd.R (Kd.int .i64) 3 w8 w.heap.size (fun _=>True) v8 ((ws.set i x).take (k + 1))):=⟨by rw [HTS.out,if_neg HKI.out,← hrd.out];exact ho⟩
    have HBe8:=Aside0.mk hb8
    clear ho hb8 hg8 hat8 c0 f0 hx
    go_roundw
    case rel=>exact ⟨k + 1,by omega,by go_num,HO8,HBe8⟩
    case measure=>simp [intOf];omega
  ·have hke:k = ws.length:=by omega
   subst hke
   clear hkl
   obtain ⟨A8,c8,e8⟩:=Kd.R_slice HO.out
   have HO8:Aside0 (Kd.R (Kd.int .i64) 3 wr w.heap.size (fun _=>True) u6 (ws.set i x)):=⟨by have h:=HO.out;rwa [List.take_of_length_le (by rw [List.length_set];exact Nat.le_refl _)] at h⟩
   subst e8
   clear HO
   go_wp2
   go_end0
   exact ⟨rfl,⟨_,vL,ls,by simpa using blk_set HB2.out 0 _,hB,(Ints.of HO8.out).fr ((Fr.refl B true [] wr).setMem rfl hB HB2.out _),Kd.R_set (Kd.R_below HL.out HBe.out) HB2.out (by decide) 0 _,HN.out⟩,(Fr.of_below HBe.out B true []).setMem rfl hB HB2.out _⟩
def wd (ws:List Int) (i:Nat):Int:=ws.getD i 0
theorem MemIs.open_ {B gm n:Nat} {w:World} {ws:List Int} (h:MemIs B w gm ws n) (i:Nat) (hi:i < ws.length):∃ ad cp,w.cell? ⟨gm,0,none⟩ = some (.slice (some ad) ws.length cp)∧w.cell? (ad.add i) = some (.int .i64 (wd ws i)):=by
 obtain ⟨vW,vL,ls,hb,hB,hW,hL,hn'⟩:=h
 obtain ⟨A,cp,rfl,hcp,hC⟩:=hW.reads
 obtain ⟨ad,e,hx⟩:=Kd.at_int hC (i:Int) (by omega) (by omega)
 subst e
 refine ⟨ad,cp,(blk_cell hb 0).trans rfl,?_⟩
 unfold rd at hx
 unfold wd
 simpa only [Int.toNat_natCast] using hx
theorem load_any {B gm n:Nat} {w:World} {ws:List Int} (hm:MemIs B w gm ws n) (hn:n ≤ 1000000) (hlen:ws.length ≤ 10000) (i:Nat) (hi:i < ws.length) :
  Calls Try.prog 68 #[.pointer (some ⟨gm,0,none⟩),.int .i64 i] w fun e w'=>e = .returned (.int .i64 (wd ws i))∧MemIs B w' gm ws (n + 1)∧Fr B true [] w w':=by
 have HM:=Lib.hid hm
 obtain ⟨ad,cp,x0,x1⟩:=hm.open_ i hi
 have i0:(0:Int) ≤ (i:Int):=by omega
 have i1:(i:Int) < (ws.length:Int):=by omega
 clear hm
 go_enter Try.func68,Try.ntmps68
 go_wp2_with (go_at_call 81;(with_reducible refine (log_any HM.out hn ⟨1,i,wd ws i,0,false⟩).mono ?_);rintro e w1 ⟨rfl,hm1,hf1⟩;have HM1:=Lib.hid hm1;have HF1:=Lib.hid hf1;clear x0 x1;obtain ⟨ad1,cp1,x0,x1⟩:=hm1.open_ i hi;clear hm1 hf1)
 go_ret
 exact ⟨rfl,HM1.out,HF1.out⟩
theorem store_any {B gm n:Nat} {w:World} {ws:List Int} (hm:MemIs B w gm ws n) (hn:n ≤ 1000000) (hlen:ws.length ≤ 10000) (i:Nat) (hi:i < ws.length) (x:Int) :
  Calls Try.prog 63 #[.pointer (some ⟨gm,0,none⟩),.int .i64 i,.int .i64 x] w fun e w'=>e = .returned (.tuple #[])∧MemIs B w' gm (ws.set i x) (n + 1)∧Fr B true [] w w':=by
 have HM:=Lib.hid hm
 clear hm
 go_enter Try.func63,Try.ntmps63
 go_wp2_with (first|(go_at_call 32;(with_reducible refine (poke_any HM.out hlen i x).mono ?_);rintro e w1 ⟨rfl,hm1,hf1⟩;have HM1:=Lib.hid hm1;have HF1:=Lib.hid hf1;clear hm1 hf1)|(go_at_call 81;(with_reducible refine (log_any HM1.out hn ⟨4,i,x,0,false⟩).mono ?_);rintro e w2 ⟨rfl,hm2,hf2⟩;have HM2:=Lib.hid hm2;have HF2:=Lib.hid (HF1.out.step hf2 id (fun _ hk=>by cases hk));clear hm2 hf2))
 go_end0
 exact ⟨rfl,HM2.out,HF2.out⟩
theorem add_any {B gm n:Nat} {w:World} {ws:List Int} (hm:MemIs B w gm ws n) (hn:n ≤ 1000000) (hlen:ws.length ≤ 10000) (i:Nat) (hi:i < ws.length) (d:Int) :
  Calls Try.prog 60 #[.pointer (some ⟨gm,0,none⟩),.int .i64 i,.int .i64 d] w fun e w'=>e = .returned (.int .i64 (wrap64 (wd ws i + d)))∧MemIs B w' gm (ws.set i (wrap64 (wd ws i + d))) (n + 1)∧Fr B true [] w w':=by
 have HM:=Lib.hid hm
 obtain ⟨ad,cp,x0,x1⟩:=hm.open_ i hi
 have i0:(0:Int) ≤ (i:Int):=by omega
 have i1:(i:Int) < (ws.length:Int):=by omega
 have HSL:Hid ((ws.set i (wrap64 (wd ws i + d))).length = ws.length):=Lib.hid List.length_set
 have HSG:Hid (wd (ws.set i (wrap64 (wd ws i + d))) i = wrap64 (wd ws i + d)):=Lib.hid (by unfold wd;rw [List.getD_eq_getElem?_getD,List.getElem?_set_self hi];rfl)
 clear hm
 go_enter Try.func60,Try.ntmps60
 go_wp2_with (first|(go_at_call 32;(with_reducible refine (poke_any HM.out hlen i (wrap64 (wd ws i + d))).mono ?_);rintro e w1 ⟨rfl,hm1,hf1⟩;have HM1:=Lib.hid hm1;have HF1:=Lib.hid hf1;clear x0 x1;obtain ⟨ad1,cp1,x0,x1⟩:=hm1.open_ i (by rw [HSL.out];exact hi);rw [HSL.out] at x0;rw [HSG.out] at x1;clear hm1 hf1)|(go_at_call 81;(with_reducible refine (log_any HM1.out hn ⟨2,i,d,wrap64 (wd ws i + d),false⟩).mono ?_);rintro e w2 ⟨rfl,hm2,hf2⟩;have HM2:=Lib.hid hm2;have HF2:=Lib.hid (HF1.out.step hf2 id (fun _ hk=>by cases hk));clear x0 x1;obtain ⟨ad2,cp2,x0,x1⟩:=hm2.open_ i (by rw [HSL.out];exact hi);rw [HSL.out] at x0;rw [HSG.out] at x1;clear hm2 hf2))
 go_ret
 exact ⟨rfl,HM2.out,HF2.out⟩
theorem cas_yes {B gm n:Nat} {w:World} {ws:List Int} (hm:MemIs B w gm ws n) (hn:n ≤ 1000000) (hlen:ws.length ≤ 10000) (i:Nat) (hi:i < ws.length) (old x:Int) (hq:wd ws i = old) :
  Calls Try.prog 72 #[.pointer (some ⟨gm,0,none⟩),.int .i64 i,.int .i64 old,.int .i64 x] w fun e w'=>e = .returned (.bool true)∧MemIs B w' gm (ws.set i x) (n + 1)∧Fr B true [] w w':=by
 have HM:=Lib.hid hm
 obtain ⟨ad,cp,x0,x1⟩:=hm.open_ i hi
 have i0:(0:Int) ≤ (i:Int):=by omega
 have i1:(i:Int) < (ws.length:Int):=by omega
 clear hm
 have hq1:(wd ws i == old) = true:=beq_iff_eq.2 hq
 clear hq
 go_enter Try.func72,Try.ntmps72
 go_wp2_with (first|(go_at_call 32;(with_reducible refine (poke_any HM.out hlen i x).mono ?_);rintro e w1 ⟨rfl,hm1,hf1⟩;have HM1:=Lib.hid hm1;have HF1:=Lib.hid hf1;clear hm1 hf1 x0 x1)|(go_at_call 81;(with_reducible refine (log_any HM1.out hn ⟨3,i,old,x,true⟩).mono ?_);rintro e w2 ⟨rfl,hm2,hf2⟩;have HM2:=Lib.hid hm2;have HF2:=Lib.hid (HF1.out.step hf2 id (fun _ hk=>by cases hk));clear hm2 hf2))
 go_ret
 exact ⟨rfl,HM2.out,HF2.out⟩
theorem cas_no {B gm n:Nat} {w:World} {ws:List Int} (hm:MemIs B w gm ws n) (hn:n ≤ 1000000) (hlen:ws.length ≤ 10000) (i:Nat) (hi:i < ws.length) (old x:Int) (hq:wd ws i ≠ old) :
  Calls Try.prog 72 #[.pointer (some ⟨gm,0,none⟩),.int .i64 i,.int .i64 old,.int .i64 x] w fun e w'=>e = .returned (.bool false)∧MemIs B w' gm ws (n + 1)∧Fr B true [] w w':=by
 have HM:=Lib.hid hm
 obtain ⟨ad,cp,x0,x1⟩:=hm.open_ i hi
 have i0:(0:Int) ≤ (i:Int):=by omega
 have i1:(i:Int) < (ws.length:Int):=by omega
 clear hm
 have hq1:(wd ws i == old) = false:=beq_eq_false_iff_ne.2 hq
 clear hq
 go_enter Try.func72,Try.ntmps72
 go_wp2_with (first|(go_at_call 32;(with_reducible refine (poke_any HM.out hlen i x).mono ?_);rintro e w1 ⟨rfl,hm1,hf1⟩;have HM1:=Lib.hid hm1;have HF1:=Lib.hid hf1;clear hm1 hf1 x0 x1)|(go_at_call 81;(with_reducible refine (log_any HM.out hn ⟨3,i,old,x,false⟩).mono ?_);rintro e w2 ⟨rfl,hm2,hf2⟩;have HM2:=Lib.hid hm2;have HF2:=Lib.hid hf2;clear hm2 hf2))
 go_ret
 exact ⟨rfl,HM2.out,HF2.out⟩
end Go.Proofs.Ytadblpcjkahikaa.PTraceRuns

