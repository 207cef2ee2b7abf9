
import Derived.Test.YtadblpcjkahikaaRunsSt
import Derived.Test.YtadblpcjkahikaaPTraceRunsx3
import Derived.Test.YtadblpcjkahikaaPTraceRunsx4
namespace Go.Proofs.Ytadblpcjkahikaa.PTraceRuns
open Go.RowKit Go.Proofs.YtadblpcjkahikaaW.PrintWords Go.Proofs.YtadblpcjkahikaaW.PrintLast Go.Proofs.YtadblpcjkahikaaW.PrintMore
set_option linter.unusedVariables false
theorem wrap_id {z:Int} (h0:-1000000 ≤ z) (h1:z ≤ 1000000):wrap64 z = z:=by unfold wrap64;omega
section
variable {c:Cf} {w:World} {AP AL:Option Addr} {cP cL:Nat}
theorem limit_z (hc:c.Ok) {v:Nat} (hv:v ≤ c.N):breadlineref05_Limit.f c.th c.S c.ga c.le c.re c.ti c.pa c.li v = some ((c.na v 0:Nat):Int):=by
 have h1:=hc.Sle
 have h2:v * c.K ≤ c.N * c.K:=Nat.mul_le_mul_right _ hv
 have h3:=Cf.NK_le hc
 have hK:((c.K:Nat):Int) = 6 + 2 * (c.S:Int):=by unfold Cf.K;omega
 have h4:((v * c.K:Nat):Int) = (v:Int) * (6 + 2 * (c.S:Int)):=by rw [Int.natCast_mul,hK]
 unfold breadlineref05_Limit.f Cf.na
 rw [wrap_id (z:=2 * (c.S:Int)) (by omega) (by omega),wrap_id (z:=6 + 2 * (c.S:Int)) (by omega) (by omega),← h4,wrap_id (by omega) (by omega)]
 rfl
theorem limit_c (hc:c.Ok) (hP:Ints w (.slice AP c.pa.length cP) c.pa) (hL:Ints w (.slice AL c.li.length cL) c.li) {v:Nat} (hv:v ≤ c.N) :
  Calls Try.prog 33 #[(cA c AP cP AL cL),.int .i64 v] w fun e w'=>e = .returned (.int .i64 (c.na v 0:Nat))∧Below w.heap.size w w':=by
 obtain ⟨A1,c1,e1,h1,k1⟩:=hP.reads
 obtain ⟨A2,c2,e2,h2,k2⟩:=hL.reads
 injection e1 with e1 _ e1'
 injection e2 with e2 _ e2'
 subst e1 e1' e2 e2'
 exact breadlineref05_Limit.calls _ _ _ _ _ _ _ _ _ _ _ _ _ _ _ k1 h1 k2 h2 (limit_z hc hv)
theorem avail_c (hc:c.Ok) (hP:Ints w (.slice AP c.pa.length cP) c.pa) (hL:Ints w (.slice AL c.li.length cL) c.li) {v:Nat} (hv:v ≤ c.N) :
  Calls Try.prog 34 #[(cA c AP cP AL cL),.int .i64 v] w fun e w'=>e = .returned (.int .i64 (c.na v 1:Nat))∧Below w.heap.size w w':=by
 obtain ⟨A1,c1,e1,h1,k1⟩:=hP.reads
 obtain ⟨A2,c2,e2,h2,k2⟩:=hL.reads
 injection e1 with e1 _ e1'
 injection e2 with e2 _ e2'
 subst e1 e1' e2 e2'
 refine breadlineref05_Avail.calls _ _ _ _ _ _ _ _ _ _ _ _ _ _ _ k1 h1 k2 h2 ?_
 have h3:=Nat.mul_le_mul_right c.K hv
 have h4:=Cf.NK_le hc
 unfold breadlineref05_Avail.f
 rw [limit_z hc hv,Option.bind_some,wrap_id (by unfold Cf.na;omega) (by unfold Cf.na;omega)]
 unfold Cf.na;rfl
theorem lease_c (hc:c.Ok) (hP:Ints w (.slice AP c.pa.length cP) c.pa) (hL:Ints w (.slice AL c.li.length cL) c.li) {v s:Nat} (hv:v ≤ c.N) (hs:s ≤ 8) :
  Calls Try.prog 79 #[(cA c AP cP AL cL),.int .i64 v,.int .i64 s] w fun e w'=>e = .returned (.int .i64 (c.na v (2 + s):Nat))∧Below w.heap.size w w':=by
 obtain ⟨A1,c1,e1,h1,k1⟩:=hP.reads
 obtain ⟨A2,c2,e2,h2,k2⟩:=hL.reads
 injection e1 with e1 _ e1'
 injection e2 with e2 _ e2'
 subst e1 e1' e2 e2'
 refine breadlineref05_Lease.calls _ _ _ _ _ _ _ _ _ _ _ _ _ _ _ _ k1 h1 k2 h2 ?_
 have h3:=Nat.mul_le_mul_right c.K hv
 have h4:=Cf.NK_le hc
 unfold breadlineref05_Lease.f
 rw [limit_z hc hv,Option.bind_some,wrap_id (z:=((c.na v 0:Nat):Int) + 2) (by unfold Cf.na;omega) (by unfold Cf.na;omega),wrap_id (by unfold Cf.na;omega) (by unfold Cf.na;omega)]
 unfold Cf.na;congr 1;omega
theorem counter_c (hc:c.Ok) (hP:Ints w (.slice AP c.pa.length cP) c.pa) (hL:Ints w (.slice AL c.li.length cL) c.li) {v:Nat} (hv:v ≤ c.N) :
  Calls Try.prog 35 #[(cA c AP cP AL cL),.int .i64 v] w fun e w'=>e = .returned (.int .i64 (c.na v (2 + c.S):Nat))∧Below w.heap.size w w':=by
 obtain ⟨A1,c1,e1,h1,k1⟩:=hP.reads
 obtain ⟨A2,c2,e2,h2,k2⟩:=hL.reads
 injection e1 with e1 _ e1'
 injection e2 with e2 _ e2'
 subst e1 e1' e2 e2'
 refine breadlineref05_Counter.calls _ _ _ _ _ _ _ _ _ _ _ _ _ _ _ k1 h1 k2 h2 ?_
 have h3:=Nat.mul_le_mul_right c.K hv
 have h4:=Cf.NK_le hc
 have h5:=hc.Sle
 unfold breadlineref05_Counter.f
 rw [limit_z hc hv,Option.bind_some,wrap_id (z:=((c.na v 0:Nat):Int) + 2) (by unfold Cf.na;omega) (by unfold Cf.na;omega),wrap_id (by unfold Cf.na;omega) (by unfold Cf.na;omega)]
 unfold Cf.na;congr 1;omega
theorem ticket_z (hc:c.Ok) {k:Nat} (hk:k ≤ c.ti):breadlineref05_Ticket.f c.th c.S c.ga c.le c.re c.ti c.pa c.li k = some ((c.tk k:Nat):Int):=by
 have h4:=Cf.NK_le hc
 have h5:=hc.ti2
 have e:((c.pa.length:Nat):Int) = ((c.N:Nat):Int):=rfl
 unfold breadlineref05_Ticket.f
 rw [e,limit_z hc (Nat.le_refl _),Option.bind_some,wrap_id (z:=2 * (k:Int)) (by omega) (by omega),wrap_id (by unfold Cf.na;omega) (by unfold Cf.na;omega)]
 unfold Cf.na Cf.tk;congr 1
theorem ticket_c (hc:c.Ok) (hP:Ints w (.slice AP c.pa.length cP) c.pa) (hL:Ints w (.slice AL c.li.length cL) c.li) {k:Nat} (hk:k ≤ c.ti) :
  Calls Try.prog 52 #[(cA c AP cP AL cL),.int .i64 k] w fun e w'=>e = .returned (.int .i64 (c.tk k:Nat))∧Below w.heap.size w w':=by
 obtain ⟨A1,c1,e1,h1,k1⟩:=hP.reads
 obtain ⟨A2,c2,e2,h2,k2⟩:=hL.reads
 injection e1 with e1 _ e1'
 injection e2 with e2 _ e2'
 subst e1 e1' e2 e2'
 exact breadlineref05_Ticket.calls _ _ _ _ _ _ _ _ _ _ _ _ _ _ _ k1 h1 k2 h2 (ticket_z hc hk)
end
end Go.Proofs.Ytadblpcjkahikaa.PTraceRuns

