
import Derived.Test.YtadblpcjkahikaaProg
import Derived.Below
import Derived.Deep.Draws
import Derived.Deep.AppendLies
import Derived.Maps.AppendAt
import Derived.OwnWalk
import Derived.Laws.BytesArg
import Derived.Laws.MakeOwn
import Derived.Laws.OwnMore
import Derived.Deep.OwnRows
import Derived.Tactics
import Derived.Lib.ConvBytes
import Derived.Laws.Slices
import Derived.WalkKit
import Derived.KernelRfl
import Derived.RowKit3
import Derived.Deep.LoopGhost
import Derived.Deep.QuietTactic
import Derived.BigQuiet
import Derived.WideLaws
import Derived.Deep.DeepCutAuto
import Derived.Deep.CutBlock
import Derived.Deep.RegionHeld3
import Derived.Laws.Rows
import Derived.Lib.AppendStr
import Derived.ArgAppend
import Derived.Laws.IdiomCopy
import Derived.OrdersHeld
import Derived.Laws.BitsLemmas
import Derived.RowKit
import Derived.Test.YtadblpcjkahikaaWAll
namespace Go.Proofs.Ytadblpcjkahikaa.PTraceRuns
open Go.RowKit Go.Proofs.YtadblpcjkahikaaW.PrintWords Go.Proofs.YtadblpcjkahikaaW.PrintLast Go.Proofs.YtadblpcjkahikaaW.PrintMore
attribute [local go_sem] max2_int min2_int max_two min_two max_three min_three max_four min_four
set_option linter.unusedVariables false
set_option linter.unusedSimpArgs false
def errW:Option Int→Value
 | none=>.nilIface
 | some c=>.iface 0 (.int .i64 c)
theorem errW_none:errW none = .nilIface:=rfl
theorem errW_some (c:Int):errW (some c) = .iface 0 (.int .i64 c):=rfl
theorem info3:(Try.prog.info? 3).map (fun i=>(i.zero,i.size,i.bytes)) = some (some (.int .i64 0),1,8):=by kernel_rfl
structure S43 where
 f0:Int
 f1:Int
 f2:Int
def z43:S43:=⟨(0:Int),(0:Int),(0:Int)⟩
def k43:Kd S43:=Kd.iso (Kd.pair (Kd.int .i64) (Kd.pair (Kd.int .i64) (Kd.int .i64))) (fun x:S43=>(x.f0,x.f1,x.f2))
theorem k43_open {w:World} {x:S43} {cs:List Value} (h:k43.K w x cs):cs = [.int .i64 x.f0,.int .i64 x.f1,.int .i64 x.f2]:=by
 obtain ⟨_,_,rfl,rfl,⟨_,_,rfl,rfl,rfl⟩⟩:=h
 exact rfl
theorem k43_mk (w:World) (x:S43) :k43.K w x [.int .i64 x.f0,.int .i64 x.f1,.int .i64 x.f2]:=⟨[.int .i64 x.f0],[.int .i64 x.f1,.int .i64 x.f2],rfl,rfl,⟨[.int .i64 x.f1],[.int .i64 x.f2],rfl,rfl,rfl⟩⟩
theorem k43_mkM (w:World) (base:Nat) (ok:Nat→Prop) (x:S43) :k43.M w base ok x [.int .i64 x.f0,.int .i64 x.f1,.int .i64 x.f2]:=⟨[.int .i64 x.f0],[.int .i64 x.f1,.int .i64 x.f2],rfl,rfl,⟨[.int .i64 x.f1],[.int .i64 x.f2],rfl,rfl,rfl⟩⟩
def rd_T43 (xs:List S43) (i:Int):S43:=xs.getD i.toNat z43
structure S46 where
 f0:Int
 f1:Int
 f2:Bool
 f3:Int
def z46:S46:=⟨(0:Int),(0:Int),false,(0:Int)⟩
def k46:Kd S46:=Kd.iso (Kd.pair (Kd.int .i64) (Kd.pair (Kd.int .i64) (Kd.pair Kd.bool (Kd.int .i64)))) (fun x:S46=>(x.f0,x.f1,x.f2,x.f3))
theorem k46_open {w:World} {x:S46} {cs:List Value} (h:k46.K w x cs):cs = [.int .i64 x.f0,.int .i64 x.f1,.bool x.f2,.int .i64 x.f3]:=by
 obtain ⟨_,_,rfl,rfl,⟨_,_,rfl,rfl,⟨_,_,rfl,rfl,rfl⟩⟩⟩:=h
 exact rfl
theorem k46_mkM (w:World) (base:Nat) (ok:Nat→Prop) (x:S46) :k46.M w base ok x [.int .i64 x.f0,.int .i64 x.f1,.bool x.f2,.int .i64 x.f3]:=⟨[.int .i64 x.f0],[.int .i64 x.f1,.bool x.f2,.int .i64 x.f3],rfl,rfl,⟨[.int .i64 x.f1],[.bool x.f2,.int .i64 x.f3],rfl,rfl,⟨[.bool x.f2],[.int .i64 x.f3],rfl,rfl,rfl⟩⟩⟩
structure S48 where
 f0:Int
 f1:Int
 f2:Int
 f3:S43
 f4:S46
def z48:S48:=⟨(0:Int),(0:Int),(0:Int),z43,z46⟩
def k48:Kd S48:=Kd.iso (Kd.pair (Kd.int .i64) (Kd.pair (Kd.int .i64) (Kd.pair (Kd.int .i64) (Kd.pair k43 k46)))) (fun x:S48=>(x.f0,x.f1,x.f2,x.f3,x.f4))
theorem k48_open {w:World} {x:S48} {cs:List Value} (h:k48.K w x cs):cs = [.int .i64 x.f0,.int .i64 x.f1,.int .i64 x.f2,.int .i64 x.f3.f0,.int .i64 x.f3.f1,.int .i64 x.f3.f2,.int .i64 x.f4.f0,.int .i64 x.f4.f1,.bool x.f4.f2,.int .i64 x.f4.f3]:=by
 obtain ⟨_,_,rfl,rfl,⟨_,_,rfl,rfl,⟨_,_,rfl,rfl,⟨_,_,rfl,s3,s6⟩⟩⟩⟩:=h
 obtain rfl:=k43_open s3
 obtain rfl:=k46_open s6
 exact rfl
theorem k48_mkM (w:World) (base:Nat) (ok:Nat→Prop) (x:S48) :k48.M w base ok x [.int .i64 x.f0,.int .i64 x.f1,.int .i64 x.f2,.int .i64 x.f3.f0,.int .i64 x.f3.f1,.int .i64 x.f3.f2,.int .i64 x.f4.f0,.int .i64 x.f4.f1,.bool x.f4.f2,.int .i64 x.f4.f3]:=⟨[.int .i64 x.f0],[.int .i64 x.f1,.int .i64 x.f2,.int .i64 x.f3.f0,.int .i64 x.f3.f1,.int .i64 x.f3.f2,.int .i64 x.f4.f0,.int .i64 x.f4.f1,.bool x.f4.f2,.int .i64 x.f4.f3],rfl,rfl,⟨[.int .i64 x.f1],[.int .i64 x.f2,.int .i64 x.f3.f0,.int .i64 x.f3.f1,.int .i64 x.f3.f2,.int .i64 x.f4.f0,.int .i64 x.f4.f1,.bool x.f4.f2,.int .i64 x.f4.f3],rfl,rfl,⟨[.int .i64 x.f2],[.int .i64 x.f3.f0,.int .i64 x.f3.f1,.int .i64 x.f3.f2,.int .i64 x.f4.f0,.int .i64 x.f4.f1,.bool x.f4.f2,.int .i64 x.f4.f3],rfl,rfl,⟨[.int .i64 x.f3.f0,.int .i64 x.f3.f1,.int .i64 x.f3.f2],[.int .i64 x.f4.f0,.int .i64 x.f4.f1,.bool x.f4.f2,.int .i64 x.f4.f3],rfl,(k43_mkM w base ok x.f3 ),(k46_mkM w base ok x.f4 )⟩⟩⟩⟩
def rd_T48 (xs:List S48) (i:Int):S48:=xs.getD i.toNat z48
theorem at_T48 {w:World} {A:Option Addr} {n:Nat} {xs:List S48} (h:Kd.C k48 w A n xs) (i:Int) (h0:0 ≤ i) (h1:i < n):∃ ad ,A = some ad∧w.cell? (ad.add (i.toNat * 10)) = some (.int .i64 (rd_T48 xs i).f0)∧w.cell? ⟨(ad.add (i.toNat * 10)).block,(ad.add (i.toNat * 10)).off + 1,none⟩ = some (.int .i64 (rd_T48 xs i).f1)∧w.cell? ⟨(ad.add (i.toNat * 10)).block,(ad.add (i.toNat * 10)).off + 2,none⟩ = some (.int .i64 (rd_T48 xs i).f2)∧w.cell? ⟨(ad.add (i.toNat * 10)).block,(ad.add (i.toNat * 10)).off + 3,none⟩ = some (.int .i64 (rd_T48 xs i).f3.f0)∧w.cell? ⟨(ad.add (i.toNat * 10)).block,(ad.add (i.toNat * 10)).off + 4,none⟩ = some (.int .i64 (rd_T48 xs i).f3.f1)∧w.cell? ⟨(ad.add (i.toNat * 10)).block,(ad.add (i.toNat * 10)).off + 5,none⟩ = some (.int .i64 (rd_T48 xs i).f3.f2)∧w.cell? ⟨(ad.add (i.toNat * 10)).block,(ad.add (i.toNat * 10)).off + 6,none⟩ = some (.int .i64 (rd_T48 xs i).f4.f0)∧w.cell? ⟨(ad.add (i.toNat * 10)).block,(ad.add (i.toNat * 10)).off + 7,none⟩ = some (.int .i64 (rd_T48 xs i).f4.f1)∧w.cell? ⟨(ad.add (i.toNat * 10)).block,(ad.add (i.toNat * 10)).off + 8,none⟩ = some (.bool (rd_T48 xs i).f4.f2)∧w.cell? ⟨(ad.add (i.toNat * 10)).block,(ad.add (i.toNat * 10)).off + 9,none⟩ = some (.int .i64 (rd_T48 xs i).f4.f3):=by
 obtain ⟨ad,c,e,_,hK,hc0⟩:=Kd.C_get h z48 i h0 h1
 have hc:∀ j u,c[j]? = some u→w.cell? (ad.add (i.toNat * 10 + j)) = some u:=hc0
 obtain rfl:=k48_open hK
 exact ⟨ad,e,hc 0 _ rfl,by rw [← add_field _ _ 1 (by omega)];exact hc 1 _ rfl,by rw [← add_field _ _ 2 (by omega)];exact hc 2 _ rfl,by rw [← add_field _ _ 3 (by omega)];exact hc 3 _ rfl,by rw [← add_field _ _ 4 (by omega)];exact hc 4 _ rfl,by rw [← add_field _ _ 5 (by omega)];exact hc 5 _ rfl,by rw [← add_field _ _ 6 (by omega)];exact hc 6 _ rfl,by rw [← add_field _ _ 7 (by omega)];exact hc 7 _ rfl,by rw [← add_field _ _ 8 (by omega)];exact hc 8 _ rfl,by rw [← add_field _ _ 9 (by omega)];exact hc 9 _ rfl⟩
def rd_L5 (xs:List (List S43)) (i:Int):(List S43):=xs.getD i.toNat ([]:List S43)
theorem at_L5 {w:World} {A:Option Addr} {n:Nat} {xs:List (List S43)} (h:Kd.C (Kd.slice 43 k43) w A n xs) (i:Int) (h0:0 ≤ i) (h1:i < n):∃ ad A0 c0,A = some ad∧w.cell? (ad.add i.toNat) = some (.slice A0 (rd_L5 xs i).length c0)∧(rd_L5 xs i).length ≤ c0∧k43.C w A0 (rd_L5 xs i).length (rd_L5 xs i):=by
 obtain ⟨ad,c,e,_,hK,hc0⟩:=Kd.C_get h ([]:List S43) i h0 h1
 have hc:∀ j u,c[j]? = some u→w.cell? (ad.add (i.toNat * 1 + j)) = some u:=hc0
 obtain ⟨A0,c0,rfl,l0,g0⟩:=hK
 exact ⟨ad,A0,c0,e,by have hq:=hc 0 _ rfl;rwa [Nat.mul_one,Nat.add_zero] at hq,l0,g0⟩
structure S118 where
 f0:Int
 f1:Int
 f2:Int
 f3:Int
 f4:Bool
def k118:Kd S118:=Kd.iso (Kd.pair (Kd.int .i64) (Kd.pair (Kd.int .i64) (Kd.pair (Kd.int .i64) (Kd.pair (Kd.int .i64) Kd.bool)))) (fun x:S118=>(x.f0,x.f1,x.f2,x.f3,x.f4))
theorem k118_mkM (w:World) (base:Nat) (ok:Nat→Prop) (x:S118) :k118.M w base ok x [.int .i64 x.f0,.int .i64 x.f1,.int .i64 x.f2,.int .i64 x.f3,.bool x.f4]:=⟨[.int .i64 x.f0],[.int .i64 x.f1,.int .i64 x.f2,.int .i64 x.f3,.bool x.f4],rfl,rfl,⟨[.int .i64 x.f1],[.int .i64 x.f2,.int .i64 x.f3,.bool x.f4],rfl,rfl,⟨[.int .i64 x.f2],[.int .i64 x.f3,.bool x.f4],rfl,rfl,⟨[.int .i64 x.f3],[.bool x.f4],rfl,rfl,rfl⟩⟩⟩⟩
end Go.Proofs.Ytadblpcjkahikaa.PTraceRuns

