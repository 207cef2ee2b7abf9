
import Derived.Test.YtadblpcjkahikaaRunsPure
import Derived.BigQuiet
namespace Go.Proofs.Ytadblpcjkahikaa.PTraceRuns
open Go.RowKit Go.Proofs.YtadblpcjkahikaaW.PrintWords Go.Proofs.YtadblpcjkahikaaW.PrintLast Go.Proofs.YtadblpcjkahikaaW.PrintMore
set_option linter.unusedVariables false
def nth:List Oper→Nat→Option Oper
 | [],_=>none
 | o :: _,0=>some o
 | _ :: r,n + 1=>nth r n
theorem nth_eq:∀ (l:List Oper) (i:Nat),nth l i = l[i]?
 | [],_=>by simp [nth]
 | o :: r,0=>by simp [nth]
 | o :: r,i + 1=>by simp [nth,nth_eq r i]
def loadB (o:Oper):Bool:=match o.op with
 | .load _ _=>true
 | _=>false
section
variable {P:Program} {ops:List Oper} {Q:Exit→Act→World→Prop} {S:World→Prop} {ds:List Nat}
def Ch (P:Program) (ops:List Oper) (Q:Exit→Act→World→Prop) (S:World→Prop) (ds:List Nat) (is:List Nat) (l:Array Bool) (a:Act) (w:World):Prop :=
 wpAnyLast P .any ops.toArray Q S ds is.length l a w
theorem ch_start {id:Nat} {a:Act} {w:World} (S:World→Prop) (ds is:List Nat) (hm:P.follows .mixedOrders = true) (hn:ops.length = is.length) (hS:S w.drew)
  (h:∀ W,w.drew = W→S W→Ch P ops Q S ds is (Array.replicate is.length false) a W):(Code.region id ops.toArray true).wp P Q a w :=
 start_ (n:=is.length) _ hm (by simpa using hn) rfl hS (fun hS=>h _ rfl hS)
theorem ch_step {i:Nat} {is:List Nat} {N:Option Tmp} {oi:Oper} {v:Value} {l:Array Bool} {a a':Act} {w:World} (hi:nth ops i = some oi) (hN:oi.dst = N)
  (hc:(if loadB oi = true then takeB .any ops.toArray ds l (l.setIfInBounds i true) i else anyB .any ops.toArray l (l.setIfInBounds i true) i) = true)
  (hQ:∀ c a w,Q (.panic c) (a.put oi.dst v) w→Q (.panic c) a w) (hw:Region.wanted oi (yielded ops.toArray a.tmps) = true) (hS:loadB oi = true→S w)
  (hy:∀ w,(loadB oi = true→S w)→(execOp a.eval oi).run P w = .ok (.value v) w) (ha:a.put N v = a') (h:Ch P ops Q S ds is (l.setIfInBounds i true) a' w):Ch P ops Q S ds (i :: is) l a w:=by
 have hi':ops.toArray[i]? = some oi:=by simpa [nth_eq] using hi
 cases hb:loadB oi with
 | true =>
  rw [hb,if_pos rfl] at hc
  exact take_ _ hi' hN hc hQ (.inl ⟨hw,fun w' h'=>hy w' (fun _=>h')⟩) (hS hb) ha h
 | false =>
  rw [hb,if_neg (by decide)] at hc
  exact pure_ _ hi' hN hc hQ (.inl ⟨hw,fun w'=>hy w' (fun h=>by rw [hb] at h;cases h)⟩) ha h
theorem ch_skip {i:Nat} {is:List Nat} {N:Option Tmp} {oi:Oper} {l:Array Bool} {a a':Act} {w:World} (hi:nth ops i = some oi) (hN:oi.dst = N)
  (hc:anyB .any ops.toArray l (l.setIfInBounds i true) i = true)
  (hQ:∀ c a w,Q (.panic c) (a.put oi.dst undef) w→Q (.panic c) a w) (hw:Region.wanted oi (yielded ops.toArray a.tmps) = false)
  (ha:a.put N undef = a') (h:Ch P ops Q S ds is (l.setIfInBounds i true) a' w):Ch P ops Q S ds (i :: is) l a w :=
 pure_ _ (by simpa [nth_eq] using hi) hN hc hQ (.inr ⟨hw,rfl⟩) ha h
theorem ch_one {i:Nat} {is:List Nat} {N:Option Tmp} {oi:Oper} {l:Array Bool} {a:Act} {w:World} (hi:nth ops i = some oi) (hN:oi.dst = N) (hc:readyB .any ops.toArray l (l.setIfInBounds i true) i = true) (hd:i ∉ ds)
  (h:∀ K:Act→World→Prop,Shut (∀ a' w',S w'→(S w'→Ch P ops Q S ds is (l.setIfInBounds i true) a' w')→K a' w')→if Region.wanted oi (yielded ops.toArray a.tmps) = true then Oper.wp P oi a w K Q else K (a.put N undef) w) :
  Ch P ops Q S ds (i :: is) l a w:=one_ _ (by simpa [nth_eq] using hi) hN hc hd h
theorem ch_last {i:Nat} {is:List Nat} {N:Option Tmp} {oi:Oper} {l:Array Bool} {a:Act} {w:World} (hi:nth ops i = some oi) (hN:oi.dst = N) (hc:readyB .any ops.toArray l (l.setIfInBounds i true) i = true) (hd:i ∈ ds)
  (h:∀ K:Act→World→Prop,Shut (∀ a' w',Ch P ops Q S ds is (l.setIfInBounds i true) a' w'→K a' w')→if Region.wanted oi (yielded ops.toArray a.tmps) = true then Oper.wp P oi a w K Q else K (a.put N undef) w) :
  Ch P ops Q S ds (i :: is) l a w:=last_ _ (by simpa [nth_eq] using hi) hN hc hd h
theorem ch_done {l:Array Bool} {a:Act} {w:World} (hr:(Region.ready .any ops.toArray l == []) = true) (h:Q .normal a w):Ch P ops Q S ds [] l a w:=done_ hr h
end
section
variable {P:Program} {ops:List Oper} {Q:Exit→Act→World→Prop} {S:World→Prop} {ds:List Nat}
theorem ch_s {i:Nat} {is:List Nat} {N:Option Tmp} {oi:Oper} {v:Value} {l:Array Bool} {a a':Act} {w:World} (h:Ch P ops Q S ds is (l.setIfInBounds i true) a' w) (hi:nth ops i = some oi:=by rfl) (hN:oi.dst = N:=by rfl)
  (hc:(if loadB oi = true then takeB .any ops.toArray ds l (l.setIfInBounds i true) i else anyB .any ops.toArray l (l.setIfInBounds i true) i) = true:=by kernel_rfl)
  (hQ:∀ c a w,Q (.panic c) (a.put oi.dst v) w→Q (.panic c) a w:=by exact fun _ _ _ h=>h) (hw:Region.wanted oi (yielded ops.toArray a.tmps) = true:=by rfl) (hS:loadB oi = true→S w:=by exact fun h=>by first|assumption|exact absurd h (by decide))
  (hy:∀ w,(loadB oi = true→S w)→(execOp a.eval oi).run P w = .ok (.value v) w:=by (intro w hSw;(try replace hSw:=hSw rfl);(try dsimp only at hSw);go_simp);try with_reducible rfl) (ha:a.put N v = a':=by (try simp only [Act.put,zq1,zq2,zq3]);try with_reducible rfl):Ch P ops Q S ds (i :: is) l a w :=
 ch_step hi hN hc hQ hw hS hy ha h
theorem ch_st {id:Nat} {a:Act} {w:World} (S:World→Prop) (ds is:List Nat) (hm:P.follows .mixedOrders = true) (hn:ops.length = is.length) (hS:S w.drew)
  (h:∀ W,RowKit.Hid (w.drew = W)→S W→Ch P ops Q S ds is (Array.replicate is.length false) a W):(Code.region id ops.toArray true).wp P Q a w:=ch_start S ds is hm hn hS h
theorem ch_b {id:Nat} {a:Act} {w:World} (C:Sat S w) (hS:S w.drew) (is:List Nat) (h:∀ W,RowKit.Hid (w.drew = W)→S W→Ch P ops Q S [] is (Array.replicate is.length false) a W)
  (hm:P.follows .mixedOrders = true:=by kernel_rfl) (hn:ops.length = is.length:=by rfl):(Code.region id ops.toArray true).wp P Q a w:=ch_start S [] is hm hn hS h
theorem ch_d {id:Nat} {a:Act} {w:World} (C:Sat S w) (hS:S w.drew) (ds is:List Nat) (h:∀ W,RowKit.Hid (w.drew = W)→S W→Ch P ops Q S ds is (Array.replicate is.length false) a W)
  (hm:P.follows .mixedOrders = true:=by kernel_rfl) (hn:ops.length = is.length:=by rfl):(Code.region id ops.toArray true).wp P Q a w:=ch_start S ds is hm hn hS h
theorem ch_1 {i:Nat} {is:List Nat} {N:Option Tmp} {oi:Oper} {l:Array Bool} {a:Act} {w:World} (h:∀ K:Act→World→Prop,Shut (∀ a' w',S w'→(S w'→Ch P ops Q S ds is (l.setIfInBounds i true) a' w')→K a' w')→if Region.wanted oi (yielded ops.toArray a.tmps) = true then Oper.wp P oi a w K Q else K (a.put N undef) w)
  (hi:nth ops i = some oi:=by rfl) (hN:oi.dst = N:=by rfl) (hc:readyB .any ops.toArray l (l.setIfInBounds i true) i = true:=by kernel_rfl) (hd:i ∉ ds:=by decide):Ch P ops Q S ds (i :: is) l a w:=ch_one hi hN hc hd h
theorem ch_z {l:Array Bool} {a:Act} {w:World} (h:Q .normal a w) (hr:(Region.ready .any ops.toArray l == []) = true:=by kernel_rfl):Ch P ops Q S ds [] l a w:=ch_done hr h
theorem goes_s {ops:Array Oper} {oi:Oper} {N:Option Tmp} {a:Act} {w:World} {K:Act→World→Prop} {f:FuncId} {fn:Func} {az:Array Operand} {ts:Array TypeId} (hf:P.funcs[f]? = some fn) (args:Array Value) (h:Calls P f args w fun e w'=>∃ v,e = .returned v∧K (a.put N v) w')
  (hname : (fn.name == "runtime.NumGoroutine") = false := by kernel_rfl) (hb : fn.body.isSome = true := by rfl) (hw : Region.wanted oi (yielded ops a.tmps) = true := by rfl) (hN : oi.dst = N := by rfl) (hop : oi.op = .call { callee := .value (.func f), args := az, argTypes := ts } := by rfl) (hargs : az.map a.eval = args := by kernel_rfl) :
  if Region.wanted oi (yielded ops a.tmps) = true then Oper.wp P oi a w K Q else K (a.put N undef) w:=goes_ hf hname hb args hw hN hop hargs h
end
theorem dwH {w X W:World} {g:Nat} {b:Option Obj} (h:Hid (X = W)) (H:Hid (w.heap[g]? = b)) (e:X.heap[g]? = w.heap[g]?:=by rfl):Hid (W.heap[g]? = b):=Lib.hid (by rw [← h.out,e];exact H.out)
end Go.Proofs.Ytadblpcjkahikaa.PTraceRuns
