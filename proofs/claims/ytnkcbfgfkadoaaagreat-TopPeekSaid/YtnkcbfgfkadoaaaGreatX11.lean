/- Part 11 of the proof of TopPeek. -/
import Derived.Test.YtnkcbfgfkadoaaaGreatX10
set_option linter.all false
namespace Go.Proofs.YtnkcbfgfkadoaaaGreat.Sx
open Go
theorem p_value_0(x:Int):follow [] ((runK Tryz.prog S0 20 (.fn 68 [.int .i64 x]) (aT [] [])).bind (cD []))=
 some ([],(.int .i64 (IntKind.wrap .i64 (IntKind.wrap .i32 (IntKind.wrap .u32 (IntKind.wrap .u64 x)))),0,[])):=by kernel_rfl
theorem p_state_0(x:Int):follow [(0,true),(1,true)] ((runK Tryz.prog S0 20 (.fn 77 [.int .i64 x]) (aT [] [])).bind (cD []))=
 some ([(decide (IntKind.wrap .i64 (IntKind.wrap .i32 (IntKind.wrap .u32 (IntKind.wrap .u64 x)))≥0),true),(decide (IntKind.wrap .i64 (IntKind.wrap .i32 (IntKind.wrap .u32 (IntKind.wrap .u64 x)))≤3),true)],(.int .i64 (IntKind.wrap .i64 (IntKind.wrap .i32 (IntKind.wrap .u32 (IntKind.wrap .u64 x)))),0,[])):=by kernel_rfl
theorem p_state_1(x:Int):follow [(0,true),(1,false)] ((runK Tryz.prog S0 20 (.fn 77 [.int .i64 x]) (aT [] [])).bind (cD []))=
 some ([(decide (IntKind.wrap .i64 (IntKind.wrap .i32 (IntKind.wrap .u32 (IntKind.wrap .u64 x)))≥0),true),(decide (IntKind.wrap .i64 (IntKind.wrap .i32 (IntKind.wrap .u32 (IntKind.wrap .u64 x)))≤3),false)],(.int .i64 (Int.negSucc 0),0,[])):=by kernel_rfl
theorem p_state_2(x:Int):follow [(0,false)] ((runK Tryz.prog S0 20 (.fn 77 [.int .i64 x]) (aT [] [])).bind (cD []))=
 some ([(decide (IntKind.wrap .i64 (IntKind.wrap .i32 (IntKind.wrap .u32 (IntKind.wrap .u64 x)))≥0),false)],(.int .i64 (Int.negSucc 0),0,[])):=by kernel_rfl
theorem p_version_0(x:Int):follow [] ((runK Tryz.prog S0 20 (.fn 138 [.int .i64 x]) (aT [] [])).bind (cD []))=
 some ([],(.int .i64 (IntKind.wrap .i64 (Int.fdiv (IntKind.wrap .u64 x) (2^min (Int.toNat 32) (IntKind.bits .u64)))),0,[])):=by kernel_rfl
theorem p_of_0(x:Int):follow [(1,true),(2,true),(2,true),(2,true)] ((runK Tryz.prog S0 20 (.fn 76 [.int .i64 x]) (aT [] [])).bind (cD []))=
 some ([(decide (Int.fdiv x (2^min (Int.toNat 21) (IntKind.bits .i64))≥0),true),(decide (Int.fdiv x (2^min (Int.toNat 21) (IntKind.bits .i64))<12),true),(decide (IntKind.wrap .i64 ↑(BitVec.toNat (BitVec.ofInt (IntKind.bits .i64) x&&&BitVec.ofInt (IntKind.bits .i64) 2097151))≥1),true),(!decide (IntKind.wrap .i64 ↑(BitVec.toNat (BitVec.ofInt (IntKind.bits .i64) x&&&BitVec.ofInt (IntKind.bits .i64) 2097151))≤1048576),true)],(.tup [.int .i64 0,.int .i64 0,.bool false],2,[])):=by kernel_rfl
theorem p_of_1(x:Int):follow [(1,true),(2,true),(2,true),(2,false)] ((runK Tryz.prog S0 20 (.fn 76 [.int .i64 x]) (aT [] [])).bind (cD []))=
 some ([(decide (Int.fdiv x (2^min (Int.toNat 21) (IntKind.bits .i64))≥0),true),(decide (Int.fdiv x (2^min (Int.toNat 21) (IntKind.bits .i64))<12),true),(decide (IntKind.wrap .i64 ↑(BitVec.toNat (BitVec.ofInt (IntKind.bits .i64) x&&&BitVec.ofInt (IntKind.bits .i64) 2097151))≥1),true),(!decide (IntKind.wrap .i64 ↑(BitVec.toNat (BitVec.ofInt (IntKind.bits .i64) x&&&BitVec.ofInt (IntKind.bits .i64) 2097151))≤1048576),false)],(.tup [.int .i64 (Int.fdiv x (2^min (Int.toNat 21) (IntKind.bits .i64))),.int .i64 (IntKind.wrap .i64 ↑(BitVec.toNat (BitVec.ofInt (IntKind.bits .i64) x&&&BitVec.ofInt (IntKind.bits .i64) 2097151))),.bool true],2,[])):=by kernel_rfl
theorem p_of_2(x:Int):follow [(1,true),(2,true),(2,false)] ((runK Tryz.prog S0 20 (.fn 76 [.int .i64 x]) (aT [] [])).bind (cD []))=
 some ([(decide (Int.fdiv x (2^min (Int.toNat 21) (IntKind.bits .i64))≥0),true),(decide (Int.fdiv x (2^min (Int.toNat 21) (IntKind.bits .i64))<12),true),(decide (IntKind.wrap .i64 ↑(BitVec.toNat (BitVec.ofInt (IntKind.bits .i64) x&&&BitVec.ofInt (IntKind.bits .i64) 2097151))≥1),false)],(.tup [.int .i64 0,.int .i64 0,.bool false],2,[])):=by kernel_rfl
theorem p_of_3(x:Int):follow [(1,true),(2,false)] ((runK Tryz.prog S0 20 (.fn 76 [.int .i64 x]) (aT [] [])).bind (cD []))=
 some ([(decide (Int.fdiv x (2^min (Int.toNat 21) (IntKind.bits .i64))≥0),true),(decide (Int.fdiv x (2^min (Int.toNat 21) (IntKind.bits .i64))<12),false)],(.tup [.int .i64 0,.int .i64 0,.bool false],2,[])):=by kernel_rfl
theorem p_of_4(x:Int):follow [(1,false)] ((runK Tryz.prog S0 20 (.fn 76 [.int .i64 x]) (aT [] [])).bind (cD []))=
 some ([(decide (Int.fdiv x (2^min (Int.toNat 21) (IntKind.bits .i64))≥0),false)],(.tup [.int .i64 0,.int .i64 0,.bool false],2,[])):=by kernel_rfl
theorem p_next_0(x:Int):follow [(0,true)] ((runK Tryz.prog S0 20 (.fn 186 [.int .i64 x]) (aT [] [])).bind (cD []))=
 some ([(x !=IntKind.wrap .i64 (IntKind.wrap .u32 x),true)],(.int .i64 270369,4,[])):=by kernel_rfl
theorem p_next_1(x:Int):follow [(0,false),(1,true)] ((runK Tryz.prog S0 20 (.fn 186 [.int .i64 x]) (aT [] [])).bind (cD []))=
 some ([(x !=IntKind.wrap .i64 (IntKind.wrap .u32 x),false),(IntKind.wrap .u32 x==0,true)],(.int .i64 270369,4,[])):=by kernel_rfl
theorem p_next_2(x:Int):follow [(0,false),(1,false)] ((runK Tryz.prog S0 20 (.fn 186 [.int .i64 x]) (aT [] [])).bind (cD []))=
 some ([(x !=IntKind.wrap .i64 (IntKind.wrap .u32 x),false),(IntKind.wrap .u32 x==0,false)],(.int .i64 (IntKind.wrap .i64 (IntKind.wrap .u32 ↑(BitVec.toNat (BitVec.ofInt (IntKind.bits .u32) (IntKind.wrap .u32 ↑(BitVec.toNat (BitVec.ofInt (IntKind.bits .u32) (IntKind.wrap .u32 ↑(BitVec.toNat (BitVec.ofInt (IntKind.bits .u32) (IntKind.wrap .u32 x)^^^BitVec.ofInt (IntKind.bits .u32) (IntKind.wrap .u32 (IntKind.wrap .u32 x*2^min (Int.toNat 13) (IntKind.bits .u32))))))^^^BitVec.ofInt (IntKind.bits .u32) (Int.fdiv (IntKind.wrap .u32 ↑(BitVec.toNat (BitVec.ofInt (IntKind.bits .u32) (IntKind.wrap .u32 x)^^^BitVec.ofInt (IntKind.bits .u32) (IntKind.wrap .u32 (IntKind.wrap .u32 x*2^min (Int.toNat 13) (IntKind.bits .u32)))))) (2^min (Int.toNat 17) (IntKind.bits .u32))))))^^^BitVec.ofInt (IntKind.bits .u32) (IntKind.wrap .u32 (IntKind.wrap .u32 ↑(BitVec.toNat (BitVec.ofInt (IntKind.bits .u32) (IntKind.wrap .u32 ↑(BitVec.toNat (BitVec.ofInt (IntKind.bits .u32) (IntKind.wrap .u32 x)^^^BitVec.ofInt (IntKind.bits .u32) (IntKind.wrap .u32 (IntKind.wrap .u32 x*2^min (Int.toNat 13) (IntKind.bits .u32))))))^^^BitVec.ofInt (IntKind.bits .u32) (Int.fdiv (IntKind.wrap .u32 ↑(BitVec.toNat (BitVec.ofInt (IntKind.bits .u32) (IntKind.wrap .u32 x)^^^BitVec.ofInt (IntKind.bits .u32) (IntKind.wrap .u32 (IntKind.wrap .u32 x*2^min (Int.toNat 13) (IntKind.bits .u32)))))) (2^min (Int.toNat 17) (IntKind.bits .u32)))))*2^min (Int.toNat 5) (IntKind.bits .u32))))))),4,[])):=by kernel_rfl
theorem p_turn_0(x n:Int):follow [(0,true),(1,true)] ((runK Tryz.prog S0 20 (.fn 129 [.int .i64 x,.int .i64 n]) (aT [] [])).bind (cD []))=
 some ([(decide (n≥0),true),(!decide (n≤3),true)],(.tup [.int .i64 0,.bool false],0,[])):=by kernel_rfl
theorem p_turn_1(x n:Int):follow [(0,true),(1,false),(5,true)] ((runK Tryz.prog S0 20 (.fn 129 [.int .i64 x,.int .i64 n]) (aT [] [])).bind (cD []))=
 some ([(decide (n≥0),true),(!decide (n≤3),false),(n !=IntKind.wrap .i64 (IntKind.wrap .i32 n),true)],(.tup [.int .i64 0,.bool false],0,[])):=by kernel_rfl
theorem p_turn_2(x n:Int):follow [(0,true),(1,false),(5,false)] ((runK Tryz.prog S0 20 (.fn 129 [.int .i64 x,.int .i64 n]) (aT [] [])).bind (cD []))=
 some ([(decide (n≥0),true),(!decide (n≤3),false),(n !=IntKind.wrap .i64 (IntKind.wrap .i32 n),false)],(.tup [.int .i64 (IntKind.wrap .i64 (IntKind.wrap .u64 ↑(BitVec.toNat (BitVec.ofInt (IntKind.bits .u64) (IntKind.wrap .u64 (IntKind.wrap .u64 (IntKind.wrap .u32 (IntKind.wrap .u32 (Int.fdiv (IntKind.wrap .u64 x) (2^min (Int.toNat 32) (IntKind.bits .u64)))+1))*2^min (Int.toNat 32) (IntKind.bits .u64)))|||BitVec.ofInt (IntKind.bits .u64) (IntKind.wrap .u64 (IntKind.wrap .u32 (IntKind.wrap .i32 n))))))),.bool true],0,[])):=by kernel_rfl
theorem p_turn_3(x n:Int):follow [(0,false)] ((runK Tryz.prog S0 20 (.fn 129 [.int .i64 x,.int .i64 n]) (aT [] [])).bind (cD []))=
 some ([(decide (n≥0),false)],(.tup [.int .i64 0,.bool false],0,[])):=by kernel_rfl
theorem p_pnext_0(x n:Int):follow [(5,true)] ((runK Tryz.prog S0 20 (.fn 156 [.int .i64 x,.int .i64 n]) (aT [] [])).bind (cD []))=
 some ([(n !=IntKind.wrap .i64 (IntKind.wrap .i32 n),true)],(.tup [.int .i64 0,.bool false],0,[])):=by kernel_rfl
theorem p_pnext_1(x n:Int):follow [(5,false)] ((runK Tryz.prog S0 20 (.fn 156 [.int .i64 x,.int .i64 n]) (aT [] [])).bind (cD []))=
 some ([(n !=IntKind.wrap .i64 (IntKind.wrap .i32 n),false)],(.tup [.int .i64 (IntKind.wrap .i64 (IntKind.wrap .u64 ↑(BitVec.toNat (BitVec.ofInt (IntKind.bits .u64) (IntKind.wrap .u64 (IntKind.wrap .u64 (IntKind.wrap .u32 (IntKind.wrap .u32 (Int.fdiv (IntKind.wrap .u64 x) (2^min (Int.toNat 32) (IntKind.bits .u64)))+1))*2^min (Int.toNat 32) (IntKind.bits .u64)))|||BitVec.ofInt (IntKind.bits .u64) (IntKind.wrap .u64 (IntKind.wrap .u32 (IntKind.wrap .i32 n))))))),.bool true],0,[])):=by kernel_rfl
theorem p_handle_0(x n:Int):follow [(1,true)] ((runK Tryz.prog S0 20 (.fn 135 [.int .i64 x,.int .i64 n]) (aT [] [])).bind (cD []))=
 some ([(decide (x<0),true)],(.tup [.int .i64 0,.bool false],1,[])):=by kernel_rfl
theorem p_handle_1(x n:Int):follow [(1,false),(5,true)] ((runK Tryz.prog S0 20 (.fn 135 [.int .i64 x,.int .i64 n]) (aT [] [])).bind (cD []))=
 some ([(decide (x<0),false),(!(Int.tmod (IntKind.wrap .i64 (IntKind.wrap .i64 (IntKind.wrap .i64 (Int.fdiv (IntKind.wrap .u64 n) (2^min (Int.toNat 32) (IntKind.bits .u64)))*16)+x)) 16==x&&(IntKind.wrap .i64 (Int.tdiv (IntKind.wrap .i64 (IntKind.wrap .i64 (IntKind.wrap .i64 (Int.fdiv (IntKind.wrap .u64 n) (2^min (Int.toNat 32) (IntKind.bits .u64)))*16)+x)) 16)==IntKind.wrap .i64 (Int.fdiv (IntKind.wrap .u64 n) (2^min (Int.toNat 32) (IntKind.bits .u64)))&&true)),true)],(.tup [.int .i64 0,.bool false],2,[])):=by kernel_rfl
theorem p_handle_2(x n:Int):follow [(1,false),(5,false)] ((runK Tryz.prog S0 20 (.fn 135 [.int .i64 x,.int .i64 n]) (aT [] [])).bind (cD []))=
 some ([(decide (x<0),false),(!(Int.tmod (IntKind.wrap .i64 (IntKind.wrap .i64 (IntKind.wrap .i64 (Int.fdiv (IntKind.wrap .u64 n) (2^min (Int.toNat 32) (IntKind.bits .u64)))*16)+x)) 16==x&&(IntKind.wrap .i64 (Int.tdiv (IntKind.wrap .i64 (IntKind.wrap .i64 (IntKind.wrap .i64 (Int.fdiv (IntKind.wrap .u64 n) (2^min (Int.toNat 32) (IntKind.bits .u64)))*16)+x)) 16)==IntKind.wrap .i64 (Int.fdiv (IntKind.wrap .u64 n) (2^min (Int.toNat 32) (IntKind.bits .u64)))&&true)),false)],(.tup [.int .i64 (IntKind.wrap .i64 (IntKind.wrap .i64 (IntKind.wrap .i64 (Int.fdiv (IntKind.wrap .u64 n) (2^min (Int.toNat 32) (IntKind.bits .u64)))*16)+x)),.bool true],2,[])):=by kernel_rfl
theorem p_body_0(x n:Int):follow [(0,true),(2,true),(2,true),(2,true)] ((runK Tryz.prog S0 20 (.fn 128 [.int .i64 x,.int .i64 n]) (aT [] [])).bind (cD []))=
 some ([(decide (x≥0),true),(decide (x<12),true),(decide (n≥1),true),(!decide (n≤1048576),true)],(.tup [.int .i64 0,.bool false],2,[])):=by kernel_rfl
theorem p_body_1(x n:Int):follow [(0,true),(2,true),(2,true),(2,false)] ((runK Tryz.prog S0 20 (.fn 128 [.int .i64 x,.int .i64 n]) (aT [] [])).bind (cD []))=
 some ([(decide (x≥0),true),(decide (x<12),true),(decide (n≥1),true),(!decide (n≤1048576),false)],(.tup [.int .i64 (IntKind.wrap .i64 ↑(BitVec.toNat (BitVec.ofInt (IntKind.bits .i64) (IntKind.wrap .i64 (x*2^min (Int.toNat 21) (IntKind.bits .i64)))|||BitVec.ofInt (IntKind.bits .i64) n))),.bool true],3,[])):=by kernel_rfl
theorem p_body_2(x n:Int):follow [(0,true),(2,true),(2,false)] ((runK Tryz.prog S0 20 (.fn 128 [.int .i64 x,.int .i64 n]) (aT [] [])).bind (cD []))=
 some ([(decide (x≥0),true),(decide (x<12),true),(decide (n≥1),false)],(.tup [.int .i64 0,.bool false],2,[])):=by kernel_rfl
theorem p_body_3(x n:Int):follow [(0,true),(2,false)] ((runK Tryz.prog S0 20 (.fn 128 [.int .i64 x,.int .i64 n]) (aT [] [])).bind (cD []))=
 some ([(decide (x≥0),true),(decide (x<12),false)],(.tup [.int .i64 0,.bool false],2,[])):=by kernel_rfl
theorem p_body_4(x n:Int):follow [(0,false)] ((runK Tryz.prog S0 20 (.fn 128 [.int .i64 x,.int .i64 n]) (aT [] [])).bind (cD []))=
 some ([(decide (x≥0),false)],(.tup [.int .i64 0,.bool false],2,[])):=by kernel_rfl
theorem p_named_0(x n:Int):follow [(2,true)] ((runK Tryz.prog S0 20 (.fn 109 [.int .i64 x,.int .i64 n]) (aT [] [])).bind (cD []))=
 some ([(decide (x<0),true)],(.tup [.int .i64 0,.int .i64 0,.bool false],2,[])):=by kernel_rfl
theorem p_named_1(x n:Int):follow [(2,false),(3,true)] ((runK Tryz.prog S0 20 (.fn 109 [.int .i64 x,.int .i64 n]) (aT [] [])).bind (cD []))=
 some ([(decide (x<0),false),(decide (Int.tmod x 16≥n),true)],(.tup [.int .i64 0,.int .i64 0,.bool false],2,[])):=by kernel_rfl
theorem p_named_2(x n:Int):follow [(2,false),(3,false),(4,true)] ((runK Tryz.prog S0 20 (.fn 109 [.int .i64 x,.int .i64 n]) (aT [] [])).bind (cD []))=
 some ([(decide (x<0),false),(decide (Int.tmod x 16≥n),false),(Int.fdiv (IntKind.wrap .i64 (Int.tdiv x 16)) (2^min (Int.toNat 32) (IntKind.bits .i64))!=0,true)],(.tup [.int .i64 0,.int .i64 0,.bool false],2,[])):=by kernel_rfl
theorem p_named_3(x n:Int):follow [(2,false),(3,false),(4,false)] ((runK Tryz.prog S0 20 (.fn 109 [.int .i64 x,.int .i64 n]) (aT [] [])).bind (cD []))=
 some ([(decide (x<0),false),(decide (Int.tmod x 16≥n),false),(Int.fdiv (IntKind.wrap .i64 (Int.tdiv x 16)) (2^min (Int.toNat 32) (IntKind.bits .i64))!=0,false)],(.tup [.int .i64 (Int.tmod x 16),.int .i64 (IntKind.wrap .i64 (Int.tdiv x 16)),.bool true],2,[])):=by kernel_rfl
noncomputable abbrev R0(f:Nat)(args:List SV):Out (SV×H):=runK Tryz.prog S0 20 (.fn f args) (aT [] [])
theorem iE{ps:Way}{o:Out (SV×H)}{cs:kB}{v:SV}{n:Nat}(T:follow ps (o.bind (cD []))=some (cs,(v,n,[])))(hc:holds cs)(hn:n≤4):∃h',o.go=some (v,h')∧h'.n≤4:=by
 obtain⟨⟨v',h'⟩,g1,g2⟩:=Out.bind_go (dT _ _ _ _ T hc);obtain⟨e1,e2,_⟩:=see_eq g2;simp only at e1 e2;subst e1;exact⟨h',g1,by omega⟩
noncomputable def pC(f:Nat)(args:List SV):SV:=match(R0 f args).go with
 |some r=>r.1
 |none=>iK
theorem uL{f:Nat}{args:List SV}{v:SV}(h:∃h',(R0 f args).go=some (v,h')∧h'.n≤4):pC f args=v:=by
 obtain⟨h',h1,_⟩:=h;unfold pC;rw[h1]
def intOf:SV→Int
 |.int _ n=>n
 |_=>0
def tM:SV→Bool
 |.bool b=>b
 |_=>false
def partOf(i:Nat):SV→SV
 |.tup l=>l.getD i iK
 |_=>iK
theorem pure_known{f:Nat}{args:List SV}{v:SV}(T:∃h',(R0 f args).go=some (v,h')∧h'.n≤4)(hv:∀q,v.ren q=v)(ha:∀q,SV.rens q args=args){h:H}(h6:h.n+4≤1000000):Spec Tryz.prog (.fn f args) h (v,h.lay 4 []):=by
 obtain⟨s',g1,g2⟩:=T;obtain⟨k1,k2⟩:=(kR bW (aH _) 20).fn _ _ _ _ _ g1;refine⟨k1,fun ρ w us n hr AO=>?_⟩;have ft:Fit h (aT [] []) (nm []):=aX (R:=[]) (os:=[]) (ns:=[]) trivial (by simp[aQ]) (by simp) hr.n;have hvs':bM (ρ.via (nm [])) args us:=(kP (oH ρ (nm []))).2 (by rw[ha];exact AO);refine(k2 (ρ.via (nm [])) w us n (ft.hr hr) hvs').mono fun e w' he=>?_
 obtain⟨uI,u,rfl,hvu,hr',fr⟩:=he;obtain⟨j1,j2,j3⟩:=nV (os:=[]) (oV:=[]) (K:=4) (j:=[]) (ls:=[]) (n:=s'.n) (show rN [] []from trivial) ft rfl (by simp[fO,Nat.ble_eq_true_of_le]) rfl (by simpa using g2) (by simp) h6 hr hr' fr rfl rfl;exact⟨_,u,rfl,by rw[←hv];exact(jH j3).1 hvu,j1,j2⟩
def valueOf(x:Int):Int:=IntKind.wrap .i64 (IntKind.wrap .i32 (IntKind.wrap .u32 (IntKind.wrap .u64 x)))
def sZ(x:Int):Int:=IntKind.wrap .i64 (Int.fdiv (IntKind.wrap .u64 x) (2^min (Int.toNat 32) (IntKind.bits .u64)))
theorem BC(x:Int):-2147483648≤valueOf x∧valueOf x≤2147483647:=by
 have h1:=tZ .i32 (IntKind.wrap .u32 (IntKind.wrap .u64 x));have h2:valueOf x=IntKind.wrap .i32 (IntKind.wrap .u32 (IntKind.wrap .u64 x)):=jB (by simp only[hd,lo,hi]at h1⊢;omega);rw[h2];simpa only[hd,lo,hi]using h1
theorem value_ex(x:Int):∃h',(R0 68 [.int .i64 x]).go=some (.int .i64 (valueOf x),h')∧h'.n≤4:=iE (p_value_0 x) trivial (by omega)
theorem ver_ex(x:Int):∃h',(R0 138 [.int .i64 x]).go=some (.int .i64 (sZ x),h')∧h'.n≤4:=iE (p_version_0 x) trivial (by omega)
def dV(x:Int):Int:=if 0≤valueOf x∧valueOf x≤3 then valueOf x else-1
theorem state_ex(x:Int):∃h',(R0 77 [.int .i64 x]).go=some (.int .i64 (dV x),h')∧h'.n≤4:=by
 unfold dV;by_cases h1:0≤valueOf x
 ·by_cases h2:valueOf x≤3
  ·rw[if_pos ⟨h1,h2⟩]
   exact iE (p_state_0 x) ⟨decide_eq_true h1,decide_eq_true h2,trivial⟩ (by omega)
  ·rw[if_neg (fun h=>h2 h.2)]
   exact iE (p_state_1 x) ⟨decide_eq_true h1,decide_eq_false h2,trivial⟩ (by omega)
 ·rw[if_neg (fun h=>h1 h.1)]
  exact iE (p_state_2 x) ⟨decide_eq_false h1,trivial⟩ (by omega)
noncomputable def kD(x:Int):Int:=intOf (partOf 0 (pC 76 [.int .i64 x]))
noncomputable def mL(x:Int):Int:=intOf (partOf 1 (pC 76 [.int .i64 x]))
noncomputable def bodyB(x:Int):Bool:=tM (partOf 2 (pC 76 [.int .i64 x]))
theorem of_ex0(x:Int):∃v n b,(∃h',(R0 76 [.int .i64 x]).go=some (.tup [.int .i64 v,.int .i64 n,.bool b],h')∧h'.n≤4)∧0≤v∧v<12∧0≤n∧n≤1048576:=by
 have z:∀{n:Int},(!decide (n≤1048576))=true→¬n≤1048576:=fun h=>by simpa using h
 by_cases h1:Int.fdiv x (2^min (Int.toNat 21) (IntKind.bits .i64))≥0
 ·by_cases h2:Int.fdiv x (2^min (Int.toNat 21) (IntKind.bits .i64))<12
  ·by_cases h3:IntKind.wrap .i64 ↑(BitVec.toNat (BitVec.ofInt (IntKind.bits .i64) x&&&BitVec.ofInt (IntKind.bits .i64) 2097151))≥1
   ·by_cases h4:IntKind.wrap .i64 ↑(BitVec.toNat (BitVec.ofInt (IntKind.bits .i64) x&&&BitVec.ofInt (IntKind.bits .i64) 2097151))≤1048576
    ·exact⟨_,_,_,iE (p_of_1 x) ⟨decide_eq_true h1,decide_eq_true h2,decide_eq_true h3,by simp only[decide_eq_true h4];rfl,trivial⟩ (by omega),h1,h2,by omega,h4⟩
    ·exact⟨_,_,_,iE (p_of_0 x) ⟨decide_eq_true h1,decide_eq_true h2,decide_eq_true h3,by simp only[decide_eq_false h4];rfl,trivial⟩ (by omega),by omega,by omega,by omega,by omega⟩
   ·exact⟨_,_,_,iE (p_of_2 x) ⟨decide_eq_true h1,decide_eq_true h2,decide_eq_false h3,trivial⟩ (by omega),by omega,by omega,by omega,by omega⟩
  ·exact⟨_,_,_,iE (p_of_3 x) ⟨decide_eq_true h1,decide_eq_false h2,trivial⟩ (by omega),by omega,by omega,by omega,by omega⟩
 ·exact⟨_,_,_,iE (p_of_4 x) ⟨decide_eq_false h1,trivial⟩ (by omega),by omega,by omega,by omega,by omega⟩
theorem of_ex(x:Int):(∃h',(R0 76 [.int .i64 x]).go=some (.tup [.int .i64 (kD x),.int .i64 (mL x),.bool (bodyB x)],h')∧h'.n≤4)∧0≤kD x∧kD x<12∧0≤mL x∧mL x≤1048576:=by
 obtain⟨v,n,b,h,hb⟩:=of_ex0 x;have e:=uL h;have e1:kD x=v:=by unfold kD;rw[e];rfl
 have e2:mL x=n:=by unfold mL;rw[e];rfl
 have e3:bodyB x=b:=by unfold bodyB;rw[e];rfl
 rw[e1,e2,e3];exact⟨h,hb⟩
noncomputable def kY(x:Int):Int:=intOf (pC 186 [.int .i64 x])
theorem wrap_u32(y:Int):0≤IntKind.wrap .i64 (IntKind.wrap .u32 y)∧IntKind.wrap .i64 (IntKind.wrap .u32 y)≤4294967295:=by
 have h1:=tZ .u32 y;rw[jB (k:=.i64) (by simp only[hd,lo,hi]at h1⊢;omega)];simpa only[hd,lo,hi]using h1
theorem next_ex(x:Int):(∃h',(R0 186 [.int .i64 x]).go=some (.int .i64 (kY x),h')∧h'.n≤4)∧0≤kY x∧kY x≤4294967295:=by
 have main:∃n,(∃h',(R0 186 [.int .i64 x]).go=some (.int .i64 n,h')∧h'.n≤4)∧0≤n∧n≤4294967295:=by
  cases e1:(x !=IntKind.wrap .i64 (IntKind.wrap .u32 x))
  ·cases e2:(IntKind.wrap .u32 x==0)
   ·exact⟨_,iE (p_next_2 x) ⟨e1,e2,trivial⟩ (by omega),wrap_u32 _⟩
   ·exact⟨_,iE (p_next_1 x) ⟨e1,e2,trivial⟩ (by omega),by omega,by omega⟩
  ·exact⟨_,iE (p_next_0 x) ⟨e1,trivial⟩ (by omega),by omega,by omega⟩
 obtain⟨n,h,hb⟩:=main;have e1:kY x=n:=by unfold kY;rw[uL h];rfl
 rw[e1];exact⟨h,hb⟩
noncomputable def pnI(x n:Int):Int:=intOf (partOf 0 (pC 156 [.int .i64 x,.int .i64 n]))
noncomputable def pnB(x n:Int):Bool:=tM (partOf 1 (pC 156 [.int .i64 x,.int .i64 n]))
theorem or_low(a b:Nat)(hb:b<4294967296):(a*4294967296|||b)%4294967296=b:=by
 have h1:a*4294967296=a<<<32:=by rw[Nat.shiftLeft_eq]
 rw[h1,←Nat.shiftLeft_add_eq_or_of_lt (i:=32) (by simpa using hb),Nat.shiftLeft_eq];omega
theorem mM(y:Int):IntKind.wrap .u64 y=y%18446744073709551616:=by simp only[IntKind.wrap,IntKind.bits,IntKind.signed];simp
theorem zH(y:Int):IntKind.wrap .u32 y=y%4294967296:=by simp only[IntKind.wrap,IntKind.bits,IntKind.signed];simp
theorem sN(y z:Int)(h:z%4294967296=y%4294967296)(h1:-2147483648≤y)(h2:y≤2147483647):valueOf z=y:=by
 unfold valueOf;rw[mM,zH];have e:z%18446744073709551616%4294967296=y%4294967296:=by omega
 rw[e];simp only[IntKind.wrap,IntKind.bits,IntKind.signed];simp;split<;>split<;>omega
theorem pn_ex(x n:Int):(∃h',(R0 156 [.int .i64 x,.int .i64 n]).go=some (.tup [.int .i64 (pnI x n),.bool (pnB x n)],h')∧h'.n≤4)∧(-2147483648≤n→n≤2147483647→valueOf (pnI x n)=n):=by
 have main:∃a b,(∃h',(R0 156 [.int .i64 x,.int .i64 n]).go=some (.tup [.int .i64 a,.bool b],h')∧h'.n≤4)∧(-2147483648≤n→n≤2147483647→valueOf a=n):=by
  cases e1:(n !=IntKind.wrap .i64 (IntKind.wrap .i32 n))
  ·refine⟨_,_,iE (p_pnext_1 x n) ⟨e1,trivial⟩ (by omega),fun h1 h2=>sN n _ ?_ h1 h2⟩
   have e2:IntKind.wrap .i32 n=n:=jB (by simp only[hd,lo,hi];omega);rw[e2];generalize IntKind.wrap .u32 (IntKind.wrap .u32 (Int.fdiv (IntKind.wrap .u64 x) (2^min (Int.toNat 32) (IntKind.bits .u64)))+1)=a;have hm:(2:Int)^min (Int.toNat 32) (IntKind.bits .u64)=4294967296:=by decide
   rw[hm];have ea:IntKind.wrap .u64 (IntKind.wrap .u64 a*4294967296)=(a%4294967296)*4294967296:=by
    rw[mM,mM];omega
   have eb:IntKind.wrap .u64 (IntKind.wrap .u32 n)=n%4294967296:=by
    rw[mM,zH];omega
   rw[ea,eb];have h64:∀y:Int,0≤y→y<18446744073709551616→(BitVec.ofInt (IntKind.bits .u64) y).toNat=y.toNat:=fun y h3 h4=>by
    show(BitVec.ofInt 64 y).toNat=_;rw[BitVec.toNat_ofInt];have:y%((2^64:Nat):Int)=y:=Int.emod_eq_of_lt h3 (by simpa using h4);rw[this]
   rw[BitVec.toNat_or,h64 _ (by omega) (by omega),h64 _ (by omega) (by omega)];have e3:((a%4294967296)*4294967296).toNat=(a%4294967296).toNat*4294967296:=by omega
   rw[e3];have hl:=or_low (a%4294967296).toNat (n%4294967296).toNat (by omega);generalize ((a%4294967296).toNat*4294967296|||(n%4294967296).toNat)=o at hl;have e4:IntKind.wrap .i64 (IntKind.wrap .u64 (o:Int))%4294967296=(o:Int)%4294967296:=by
    rw[mM];simp only[IntKind.wrap,IntKind.bits,IntKind.signed];simp;split<;>omega
   rw[e4];omega
  ·refine⟨_,_,iE (p_pnext_0 x n) ⟨e1,trivial⟩ (by omega),fun h1 h2=>?_⟩
   have e2:IntKind.wrap .i32 n=n:=jB (by simp only[hd,lo,hi];omega);have e3:IntKind.wrap .i64 n=n:=jB (by simp only[hd,lo,hi];omega);rw[e2,e3]at e1;simp at e1
 obtain⟨a,b,h,hb⟩:=main;have e:=uL h;have e1:pnI x n=a:=by unfold pnI;rw[e];rfl
 have e2:pnB x n=b:=by unfold pnB;rw[e];rfl
 rw[e1,e2];exact⟨h,hb⟩
noncomputable def eD(x n:Int):Int:=intOf (partOf 0 (pC 129 [.int .i64 x,.int .i64 n]))
noncomputable def turnB(x n:Int):Bool:=tM (partOf 1 (pC 129 [.int .i64 x,.int .i64 n]))
theorem two_ex{f:Nat}{x n:Int}(main:∃a b,∃h',(R0 f [.int .i64 x,.int .i64 n]).go=some (.tup [.int .i64 a,.bool b],h')∧h'.n≤4):
 ∃h',(R0 f [.int .i64 x,.int .i64 n]).go=some (.tup [.int .i64 (intOf (partOf 0 (pC f [.int .i64 x,.int .i64 n]))),.bool (tM (partOf 1 (pC f [.int .i64 x,.int .i64 n])))],h')∧h'.n≤4:=by
 obtain⟨a,b,h⟩:=main;rw[uL h];exact h
theorem turn_ex(x n:Int):∃h',(R0 129 [.int .i64 x,.int .i64 n]).go=some (.tup [.int .i64 (eD x n),.bool (turnB x n)],h')∧h'.n≤4:=by
 refine two_ex ?_;by_cases h1:n≥0
 ·cases h2:(!decide (n≤3))
  ·cases h3:(n !=IntKind.wrap .i64 (IntKind.wrap .i32 n))
   ·exact⟨_,_,iE (p_turn_2 x n) ⟨decide_eq_true h1,h2,h3,trivial⟩ (by omega)⟩
   ·exact⟨_,_,iE (p_turn_1 x n) ⟨decide_eq_true h1,h2,h3,trivial⟩ (by omega)⟩
  ·exact⟨_,_,iE (p_turn_0 x n) ⟨decide_eq_true h1,h2,trivial⟩ (by omega)⟩
 ·exact⟨_,_,iE (p_turn_3 x n) ⟨decide_eq_false h1,trivial⟩ (by omega)⟩
noncomputable def bodyI(x n:Int):Int:=intOf (partOf 0 (pC 128 [.int .i64 x,.int .i64 n]))
noncomputable def bodyO(x n:Int):Bool:=tM (partOf 1 (pC 128 [.int .i64 x,.int .i64 n]))
theorem body_ex(x n:Int):∃h',(R0 128 [.int .i64 x,.int .i64 n]).go=some (.tup [.int .i64 (bodyI x n),.bool (bodyO x n)],h')∧h'.n≤4:=by
 refine two_ex ?_;by_cases h1:x≥0
 ·by_cases h2:x<12
  ·by_cases h3:n≥1
   ·cases h4:(!decide (n≤1048576))
    ·exact⟨_,_,iE (p_body_1 x n) ⟨decide_eq_true h1,decide_eq_true h2,decide_eq_true h3,h4,trivial⟩ (by omega)⟩
    ·exact⟨_,_,iE (p_body_0 x n) ⟨decide_eq_true h1,decide_eq_true h2,decide_eq_true h3,h4,trivial⟩ (by omega)⟩
   ·exact⟨_,_,iE (p_body_2 x n) ⟨decide_eq_true h1,decide_eq_true h2,decide_eq_false h3,trivial⟩ (by omega)⟩
  ·exact⟨_,_,iE (p_body_3 x n) ⟨decide_eq_true h1,decide_eq_false h2,trivial⟩ (by omega)⟩
 ·exact⟨_,_,iE (p_body_4 x n) ⟨decide_eq_false h1,trivial⟩ (by omega)⟩
noncomputable def handI(x n:Int):Int:=intOf (partOf 0 (pC 135 [.int .i64 x,.int .i64 n]))
noncomputable def handB(x n:Int):Bool:=tM (partOf 1 (pC 135 [.int .i64 x,.int .i64 n]))
def handC(x n:Int):Bool:=!(Int.tmod (IntKind.wrap .i64 (IntKind.wrap .i64 (IntKind.wrap .i64 (Int.fdiv (IntKind.wrap .u64 n) (2^min (Int.toNat 32) (IntKind.bits .u64)))*16)+x)) 16==x&&(IntKind.wrap .i64 (Int.tdiv (IntKind.wrap .i64 (IntKind.wrap .i64 (IntKind.wrap .i64 (Int.fdiv (IntKind.wrap .u64 n) (2^min (Int.toNat 32) (IntKind.bits .u64)))*16)+x)) 16)==IntKind.wrap .i64 (Int.fdiv (IntKind.wrap .u64 n) (2^min (Int.toNat 32) (IntKind.bits .u64)))&&true))
theorem hand_ex(x n:Int):∃h',(R0 135 [.int .i64 x,.int .i64 n]).go=some (.tup [.int .i64 (handI x n),.bool (handB x n)],h')∧h'.n≤4:=by
 refine two_ex ?_;by_cases h1:x<0
 ·exact⟨_,_,iE (p_handle_0 x n) ⟨decide_eq_true h1,trivial⟩ (by omega)⟩
 ·cases h2:handC x n
  ·exact⟨_,_,iE (p_handle_2 x n) ⟨decide_eq_false h1,h2,trivial⟩ (by omega)⟩
  ·exact⟨_,_,iE (p_handle_1 x n) ⟨decide_eq_false h1,h2,trivial⟩ (by omega)⟩
noncomputable def kZ(x n:Int):Int:=intOf (partOf 0 (pC 109 [.int .i64 x,.int .i64 n]))
noncomputable def uM(x n:Int):Int:=intOf (partOf 1 (pC 109 [.int .i64 x,.int .i64 n]))
noncomputable def namB(x n:Int):Bool:=tM (partOf 2 (pC 109 [.int .i64 x,.int .i64 n]))
theorem nam_ex(x n:Int):(∃h',(R0 109 [.int .i64 x,.int .i64 n]).go=some (.tup [.int .i64 (kZ x n),.int .i64 (uM x n),.bool (namB x n)],h')∧h'.n≤4)∧(1≤n→0≤kZ x n∧kZ x n<n):=by
 have main:∃t v b,(∃h',(R0 109 [.int .i64 x,.int .i64 n]).go=some (.tup [.int .i64 t,.int .i64 v,.bool b],h')∧h'.n≤4)∧(1≤n→0≤t∧t<n):=by
  by_cases h1:x<0
  ·exact⟨_,_,_,iE (p_named_0 x n) ⟨decide_eq_true h1,trivial⟩ (by omega),by omega⟩
  ·by_cases h2:Int.tmod x 16≥n
   ·exact⟨_,_,_,iE (p_named_1 x n) ⟨decide_eq_false h1,decide_eq_true h2,trivial⟩ (by omega),by omega⟩
   ·cases h3:(Int.fdiv (IntKind.wrap .i64 (Int.tdiv x 16)) (2^min (Int.toNat 32) (IntKind.bits .i64))!=0)
    ·refine⟨_,_,_,iE (p_named_3 x n) ⟨decide_eq_false h1,decide_eq_false h2,h3,trivial⟩ (by omega),fun _=>⟨?_,by omega⟩⟩
     exact Int.tmod_nonneg _ (by omega)
    ·exact⟨_,_,_,iE (p_named_2 x n) ⟨decide_eq_false h1,decide_eq_false h2,h3,trivial⟩ (by omega),by omega⟩
 obtain⟨t,v,b,h,hb⟩:=main;have e:=uL h;have e1:kZ x n=t:=by unfold kZ;rw[e];rfl
 have e2:uM x n=v:=by unfold uM;rw[e];rfl
 have e3:namB x n=b:=by unfold namB;rw[e];rfl
 rw[e1,e2,e3];exact⟨h,hb⟩
noncomputable def pure(h:H)(v:SV):Option (Out (SV×H)):=some (.chk (Nat.ble (h.n+4) 1000000) (.ret (v,h.lay 4 [])))
noncomputable def pureK:cI:=fun t h=>match t with
 |.fn 68 [.int .i64 x]=>pure h (.int .i64 (valueOf x))
 |.fn 138 [.int .i64 x]=>pure h (.int .i64 (sZ x))
 |.fn 77 [.int .i64 x]=>pure h (.int .i64 (dV x))
 |.fn 76 [.int .i64 x]=>pure h (.tup [.int .i64 (kD x),.int .i64 (mL x),.bool (bodyB x)])
 |.fn 186 [.int .i64 x]=>pure h (.int .i64 (kY x))
 |.fn 156 [.int .i64 x,.int .i64 n]=>pure h (.tup [.int .i64 (pnI x n),.bool (pnB x n)])
 |.fn 129 [.int .i64 x,.int .i64 n]=>pure h (.tup [.int .i64 (eD x n),.bool (turnB x n)])
 |.fn 128 [.int .i64 x,.int .i64 n]=>pure h (.tup [.int .i64 (bodyI x n),.bool (bodyO x n)])
 |.fn 135 [.int .i64 x,.int .i64 n]=>pure h (.tup [.int .i64 (handI x n),.bool (handB x n)])
 |.fn 109 [.int .i64 x,.int .i64 n]=>pure h (.tup [.int .i64 (kZ x n),.int .i64 (uM x n),.bool (namB x n)])
 |_=>none
theorem jE{f:Nat}{args:List SV}{v:SV}{h:H}{o:Out (SV×H)}{r:SV×H}(T:∃h',(R0 f args).go=some (v,h')∧h'.n≤4)(hv:∀q,v.ren q=v)(ha:∀q,SV.rens q args=args)(ho:pure h v=some o)(hg:o.go=some r):Spec Tryz.prog (.fn f args) h r:=by
 injection ho with ho;subst ho;obtain⟨h1,h2⟩:=Out.chk_go hg;have:=Out.ret_go h2;subst this;exact pure_known T hv ha (Nat.le_of_ble_eq_true h1)
theorem pure_sound:cX Tryz.prog pureK:=fun f args h o r ho hg=>by
 unfold pureK at ho;split at ho
 ·rename_i heq;injection heq with e1 e2;subst e1;subst e2;exact jE (value_ex _) (fun _=>rfl) (fun _=>rfl) ho hg
 ·rename_i heq;injection heq with e1 e2;subst e1;subst e2;exact jE (ver_ex _) (fun _=>rfl) (fun _=>rfl) ho hg
 ·rename_i heq;injection heq with e1 e2;subst e1;subst e2;exact jE (state_ex _) (fun _=>rfl) (fun _=>rfl) ho hg
 ·rename_i heq;injection heq with e1 e2;subst e1;subst e2;exact jE (of_ex _).1 (fun _=>rfl) (fun _=>rfl) ho hg
 ·rename_i heq;injection heq with e1 e2;subst e1;subst e2;exact jE (next_ex _).1 (fun _=>rfl) (fun _=>rfl) ho hg
 ·rename_i heq;injection heq with e1 e2;subst e1;subst e2;exact jE (pn_ex _ _).1 (fun _=>rfl) (fun _=>rfl) ho hg
 ·rename_i heq;injection heq with e1 e2;subst e1;subst e2;exact jE (turn_ex _ _) (fun _=>rfl) (fun _=>rfl) ho hg
 ·rename_i heq;injection heq with e1 e2;subst e1;subst e2;exact jE (body_ex _ _) (fun _=>rfl) (fun _=>rfl) ho hg
 ·rename_i heq;injection heq with e1 e2;subst e1;subst e2;exact jE (hand_ex _ _) (fun _=>rfl) (fun _=>rfl) ho hg
 ·rename_i heq;injection heq with e1 e2;subst e1;subst e2;exact jE (nam_ex _ _).1 (fun _=>rfl) (fun _=>rfl) ho hg
 ·cases ho
attribute[irreducible] pC valueOf sZ dV kD mL bodyB kY pnI pnB eD turnB bodyI bodyO handI handB kZ uM namB
def cA(th st ga le re ti:Int)(np:Nat)(cp:Option Nat)(lv:Value):SV:=.agg [.int .i64 th,.int .i64 st,.int .i64 ga,.int .i64 le,.int .i64 re,.int .i64 ti,.slice 0 0 np cp,.val lv]
theorem p_limit_0(th st ga le re ti v k:Int)(np:Nat)(cp:Option Nat)(lv:Value):follow [(0,true),(0,true),(0,true)] ((runK Tryz.prog S0 20 (.fn 51 [cA th st ga le re ti np cp lv,.int .i64 v]) (aT [.dead] [0])).bind (cD []))=
 some ([(fits (2*st),true),(fits (6+2*st),true),(fits (v*(6+2*st)),true)],(.int .i64 (v*(6+2*st)),4,[])):=by kernel_rfl
theorem p_avail_0(th st ga le re ti v k:Int)(np:Nat)(cp:Option Nat)(lv:Value):follow [(0,true),(0,true),(0,true),(0,true)] ((runK Tryz.prog S0 20 (.fn 52 [cA th st ga le re ti np cp lv,.int .i64 v]) (aT [.dead] [0])).bind (cD []))=
 some ([(fits (2*st),true),(fits (6+2*st),true),(fits (v*(6+2*st)),true),(fits (v*(6+2*st)+1),true)],(.int .i64 (v*(6+2*st)+1),5,[])):=by kernel_rfl
theorem p_counter_0(th st ga le re ti v k:Int)(np:Nat)(cp:Option Nat)(lv:Value):follow [(0,true),(0,true),(0,true),(0,true),(0,true)] ((runK Tryz.prog S0 20 (.fn 53 [cA th st ga le re ti np cp lv,.int .i64 v]) (aT [.dead] [0])).bind (cD []))=
 some ([(fits (2*st),true),(fits (6+2*st),true),(fits (v*(6+2*st)),true),(fits (v*(6+2*st)+2),true),(fits (v*(6+2*st)+2+st),true)],(.int .i64 (v*(6+2*st)+2+st),6,[])):=by kernel_rfl
theorem p_lease_0(th st ga le re ti v k:Int)(np:Nat)(cp:Option Nat)(lv:Value):follow [(0,true),(0,true),(0,true),(0,true),(0,true)] ((runK Tryz.prog S0 20 (.fn 72 [cA th st ga le re ti np cp lv,.int .i64 v,.int .i64 k]) (aT [.dead] [0])).bind (cD []))=
 some ([(fits (2*st),true),(fits (6+2*st),true),(fits (v*(6+2*st)),true),(fits (v*(6+2*st)+2),true),(fits (v*(6+2*st)+2+k),true)],(.int .i64 (v*(6+2*st)+2+k),5,[])):=by kernel_rfl
theorem p_ticket_0(th st ga le re ti v k:Int)(np:Nat)(cp:Option Nat)(lv:Value):follow [(0,true),(0,true),(0,true),(0,true),(0,true)] ((runK Tryz.prog S0 20 (.fn 70 [cA th st ga le re ti np cp lv,.int .i64 k]) (aT [.dead] [0])).bind (cD []))=
 some ([(fits (2*st),true),(fits (6+2*st),true),(fits (↑np*(6+2*st)),true),(fits (2*k),true),(fits (↑np*(6+2*st)+2*k),true)],(.int .i64 (↑np*(6+2*st)+2*k),5,[])):=by kernel_rfl
theorem eB{f n:Nat}{args kE:List SV}{v:SV}{ps:Way}{cs:kB}(T:follow ps ((runK Tryz.prog S0 20 (.fn f args) (aT [.dead] [0])).bind (cD []))=some (cs,(v,n,[])))(hc:holds cs)(hn:n≤9∧1≤n)(hv:∀q,v.ren q=v)
 {h:H}{p:Nat}(ha:SV.rens (nm [p]) args=kE)(hp:p<h.n)(h6:h.n+8≤1000000):Spec Tryz.prog (.fn f kE) h (v,h.lay 8 []):=by
 have ft:h.n≤1000000→Fit h (aT [.dead] [0]) (nm [p]):=fun h6=>aX (R:=[0]) (os:=[.dead]) (ns:=[p]) ⟨hp,⟨fun h=>absurd rfl h,fun _ _ _ _=>trivial⟩,trivial⟩ (dF (by simp)) (by simp) h6
 have key:=cP (os:=[]) (K:=8) (j:=[]) (ns:=[p]) bW (aH _) T hc (show rN [] []from trivial) ft rfl (by simp[fO,List.range,List.range.loop,Nat.ble_eq_true_of_le hn.2]) rfl (by simp;omega) (by simp) h6;rw[ha,hv]at key;exact key
theorem fU{v t:Int}(h1:0≤v)(h2:v≤100)(h3:0≤t)(h4:t≤8):0≤v*(6+2*t)∧v*(6+2*t)≤2200:=by
 refine⟨Int.mul_nonneg h1 (by omega),?_⟩;have:=Int.mul_le_mul h2 (show 6+2*t≤22 by omega) (by omega) (by omega);omega
theorem aN{n:Int}(h:-1000000000000≤n∧n≤1000000000000):fits n=true:=by simp only[fits,Bool.and_eq_true,decide_eq_true_eq];omega
def qF(h:H)(P:Nat)(c:Bool)(v:SV):Option (Out (SV×H)):=some (.chk (Nat.blt P h.n&&Nat.ble (h.n+8) 1000000) (.chk c (.ret (v,h.lay 8 []))))
def aB(st v:Int):Int:=v*(6+2*st)
def planK:cI:=fun t h=>match t with
 |.fn 51 [.agg [.int .i64 _,.int .i64 st,.int .i64 _,.int .i64 _,.int .i64 _,.int .i64 _,.slice P 0 _ _,.val _],.int .i64 v]=>qF h P (decide (0≤st∧st≤8∧0≤v∧v≤100)) (.int .i64 (aB st v))
 |.fn 52 [.agg [.int .i64 _,.int .i64 st,.int .i64 _,.int .i64 _,.int .i64 _,.int .i64 _,.slice P 0 _ _,.val _],.int .i64 v]=>qF h P (decide (0≤st∧st≤8∧0≤v∧v≤100)) (.int .i64 (aB st v+1))
 |.fn 53 [.agg [.int .i64 _,.int .i64 st,.int .i64 _,.int .i64 _,.int .i64 _,.int .i64 _,.slice P 0 _ _,.val _],.int .i64 v]=>qF h P (decide (0≤st∧st≤8∧0≤v∧v≤100)) (.int .i64 (aB st v+2+st))
 |.fn 72 [.agg [.int .i64 _,.int .i64 st,.int .i64 _,.int .i64 _,.int .i64 _,.int .i64 _,.slice P 0 _ _,.val _],.int .i64 v,.int .i64 k]=>qF h P (decide (0≤st∧st≤8∧0≤v∧v≤100∧0≤k∧k≤100)) (.int .i64 (aB st v+2+k))
 |.fn 70 [.agg [.int .i64 _,.int .i64 st,.int .i64 _,.int .i64 _,.int .i64 _,.int .i64 _,.slice P 0 np _,.val _],.int .i64 k]=>qF h P (decide (0≤st∧st≤8∧np≤100∧0≤k∧k≤100)) (.int .i64 (aB st np+2*k))
 |_=>none
theorem jL{f:Nat}{args:List SV}{v:SV}{h:H}{P:Nat}{c:Bool}{o:Out (SV×H)}{r:SV×H}(ho:qF h P c v=some o)(hg:o.go=some r)(T:c=true→P<h.n→h.n+8≤1000000→Spec Tryz.prog (.fn f args) h (v,h.lay 8 [])):Spec Tryz.prog (.fn f args) h r:=by
 injection ho with ho;subst ho;obtain⟨h1,h2⟩:=Out.chk_go hg;obtain⟨h3,h4⟩:=Out.chk_go h2;have:=Out.ret_go h4;subst this;rw[Bool.and_eq_true]at h1;exact T h3 (aF.1 h1.1) (Nat.le_of_ble_eq_true h1.2)
theorem plan_sound:cX Tryz.prog planK:=fun f args h o r ho hg=>by
 unfold planK at ho;split at ho
 ·rename_i th st ga le re ti P np cp lv v heq
  injection heq with e1 e2;subst e1;subst e2;refine jL ho hg fun hc hp h6=>?_
  obtain⟨c1,c2,c3,c4⟩:=of_decide_eq_true hc;have:=fU c3 c4 c1 c2;exact eB (p_limit_0 th st ga le re ti v 0 np cp lv) ⟨aN (by omega),aN (by omega),aN (by omega),trivial⟩ (by omega) (fun _=>rfl) rfl hp h6
 ·rename_i th st ga le re ti P np cp lv v heq
  injection heq with e1 e2;subst e1;subst e2;refine jL ho hg fun hc hp h6=>?_
  obtain⟨c1,c2,c3,c4⟩:=of_decide_eq_true hc;have:=fU c3 c4 c1 c2;exact eB (p_avail_0 th st ga le re ti v 0 np cp lv) ⟨aN (by omega),aN (by omega),aN (by omega),aN (by omega),trivial⟩ (by omega) (fun _=>rfl) rfl hp h6
 ·rename_i th st ga le re ti P np cp lv v heq
  injection heq with e1 e2;subst e1;subst e2;refine jL ho hg fun hc hp h6=>?_
  obtain⟨c1,c2,c3,c4⟩:=of_decide_eq_true hc;have:=fU c3 c4 c1 c2;exact eB (p_counter_0 th st ga le re ti v 0 np cp lv) ⟨aN (by omega),aN (by omega),aN (by omega),aN (by omega),aN (by omega),trivial⟩ (by omega) (fun _=>rfl) rfl hp h6
 ·rename_i th st ga le re ti P np cp lv v k heq
  injection heq with e1 e2;subst e1;subst e2;refine jL ho hg fun hc hp h6=>?_
  obtain⟨c1,c2,c3,c4,c5,c6⟩:=of_decide_eq_true hc;have:=fU c3 c4 c1 c2;exact eB (p_lease_0 th st ga le re ti v k np cp lv) ⟨aN (by omega),aN (by omega),aN (by omega),aN (by omega),aN (by omega),trivial⟩ (by omega) (fun _=>rfl) rfl hp h6
 ·rename_i th st ga le re ti P np cp lv k heq
  injection heq with e1 e2;subst e1;subst e2;refine jL ho hg fun hc hp h6=>?_
  obtain⟨c1,c2,c3,c4,c5⟩:=of_decide_eq_true hc;have:=fU (v:=np) (by omega) (by omega) c1 c2;exact eB (p_ticket_0 th st ga le re ti 0 k np cp lv) ⟨aN (by omega),aN (by omega),aN (by omega),aN (by omega),aN (by omega),trivial⟩ (by omega) (fun _=>rfl) rfl hp h6
 ·cases ho
def orK(A B:cI):cI:=fun t h=>match A t h with
 |some o=>some o
 |none=>B t h
theorem fW{P:Program}{A B:cI}(ha:cX P A)(hb:cX P B):cX P (orK A B):=fun f args h o r ho hg=>by
 unfold orK at ho;split at ho
 ·rename_i o' he
  injection ho with ho;subst ho;exact ha f args h _ r he hg
 ·exact hb f args h o r ho hg
noncomputable def K1:cI:=orK memK (orK pureK planK)
theorem k1_sound:cX Tryz.prog K1:=fW mem_sound (fW pure_sound plan_sound)
end Go.Proofs.YtnkcbfgfkadoaaaGreat.Sx
