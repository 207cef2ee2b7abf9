
import Derived.Test.YtadblpcjkahikaaRunsLast
namespace Go.Proofs.Ytadblpcjkahikaa.PTraceRuns
open Go.RowKit Go.Proofs.YtadblpcjkahikaaW.PrintWords Go.Proofs.YtadblpcjkahikaaW.PrintLast Go.Proofs.YtadblpcjkahikaaW.PrintMore
set_option linter.unusedVariables false
structure St (B:Nat) (L:List Nat) (T:List (Nat × Nat)) (w:World) (gm:Nat) (ws:List Int) (n:Nat) (W:World):Prop where
 mem:MemIs B W gm ws n
 ty:∀ p ∈ T,∃ cs,W.heap[p.1]? = some (.cells cs p.2 (0,0))
 fr:Fr B true L w W
namespace St
variable {B:Nat} {L:List Nat} {T:List (Nat × Nat)} {w W W':World} {gm n n':Nat} {ws ws':List Int}
theorem drewN (h:St B L T w gm ws n W) (m:Nat):St B L T w gm ws n (W.drewN m):=⟨h.mem.drewN m,h.ty,h.fr.drewN m⟩
theorem drew (h:St B L T w gm ws n W):St B L T w gm ws n W.drew:=⟨h.mem.drew,h.ty,h.fr.drew⟩
theorem below (h:St B L T w gm ws n W) (hb:Below W.heap.size W W'):St B L T w gm ws n W':=⟨h.mem.below hb,fun p hp=>by obtain ⟨cs,hc⟩:=h.ty p hp;exact ⟨cs,blk_below hc hb⟩,h.fr.then_below hb⟩
theorem alloc (h:St B L T w gm ws n W) (o:Obj):St B L T w gm ws n (W.alloc o):=h.below (below_alloc (Below.refl _ _) o)
theorem set (h:St B L T w gm ws n W) {g t:Nat} (hT:(g,t) ∈ T) (hB:B ≤ g) (hL:g ∈ L ∨ w.heap.size ≤ g) (ht:t ∈ mtypes) (ht2:t ∉ [3,77,118]) (i:Nat) (u:Value):St B L T w gm ws n (W.setCell ⟨g,i,none⟩ u):=by
 obtain ⟨cs,hc⟩:=h.ty _ hT
 refine ⟨h.mem.set hc ht2 u,fun p hp=>?_,h.fr.setCell hB hL hc ht u⟩
 obtain ⟨cs',hc'⟩:=h.ty p hp
 by_cases e:p.1 = g
 ·rw [e] at hc' ⊢;exact ⟨_,blk_set hc' i u⟩
 ·exact ⟨cs',blk_far hc' e u⟩
theorem call (h:St B L T w gm ws n W) {M:Bool} {L':List Nat} (hm:MemIs B W' gm ws' n') (hf:Fr B M L' W W') (hL:∀ k ∈ L',k ∉ T.map (·.1)∧(k ∈ L ∨ w.heap.size ≤ k)) (ht:∀ p ∈ T,p.2 ≠ 77∧p.2 ≠ 118):St B L T w gm ws' n' W' :=
 ⟨hm,fun p hp=>by
  obtain ⟨cs,hc⟩:=h.ty p hp
  exact ⟨cs,blk_fr hc hf (fun hk=>(hL _ hk).1 (List.mem_map_of_mem hp)) (fun _=>ht p hp)⟩,h.fr.step hf (fun _=>rfl) (fun k hk=>(hL k hk).2)⟩
theorem turn (h:St B L T w gm ws n W) {M:Bool} {L':List Nat} (hm:MemIs B W' gm ws' n') (hf:Fr B M L' W W') (hty:∀ p ∈ T,p.1 ∈ L'→∃ cs,W'.heap[p.1]? = some (.cells cs p.2 (0,0))) (hL:∀ k ∈ L',k ∈ L ∨ w.heap.size ≤ k) (ht:∀ p ∈ T,p.2 ≠ 77∧p.2 ≠ 118):St B L T w gm ws' n' W' :=
 ⟨hm,fun p hp=>by
  by_cases hk:p.1 ∈ L'
  ·exact hty p hp hk
  ·obtain ⟨cs,hc⟩:=h.ty p hp
   exact ⟨cs,blk_fr hc hf hk (fun _=>ht p hp)⟩,h.fr.step hf (fun _=>rfl) hL⟩
theorem acc (h:St B L T w gm ws n W) (hm:MemIs B W' gm ws' n') (hf:Fr B true [] W W') (ht:∀ p ∈ T,p.2 ≠ 77∧p.2 ≠ 118):St B L T w gm ws' n' W':=h.call hm hf (fun _ hk=>by cases hk) ht
end St
theorem blk_set' {w:World} {g t:Nat} {cs cs':Array Value} (h:w.heap[g]? = some (.cells cs t (0,0))) (i:Nat) (u:Value) (e:cs.setIfInBounds i u = cs'):(w.setCell ⟨g,i,none⟩ u).heap[g]? = some (.cells cs' t (0,0)):=by subst e;exact blk_set h i u
theorem st_begin {B gm n:Nat} {w:World} {ws:List Int} (hm:MemIs B w gm ws n) (gs:List (Nat × Nat)) (hg:∀ p ∈ gs,B ≤ p.1∧p.2 ∈ mtypes∧p.2 ∉ [3,77,118]∧∃ cs,w.heap[p.1]? = some (.cells cs p.2 (0,0))) :
  ∃ L T,Hid (L = gs.map (·.1))∧Hid (T = gs)∧Hid (∀ p ∈ T,p.2 ≠ 77∧p.2 ≠ 118) ∧
   Hid (∀ p ∈ gs,∀ (ws:List Int) (n:Nat) (W:World),St B L T w gm ws n W→∀ (i:Nat) (u:Value),St B L T w gm ws n (W.setCell ⟨p.1,i,none⟩ u))∧Hid (St B L T w gm ws n w):=by
 refine ⟨_,_,Lib.hid rfl,Lib.hid rfl,Lib.hid (fun p hp=>?_),Lib.hid (fun p hp ws n W h i u=>h.set (t:=p.2) hp (hg p hp).1 (.inl (List.mem_map_of_mem hp)) (hg p hp).2.1 (hg p hp).2.2.1 i u),Lib.hid ⟨hm,fun p hp=>(hg p hp).2.2.2,Fr.refl _ _ _ _⟩⟩
 have:=(hg p hp).2.2.1
 simp at this
 omega
theorem st1 {B gm n g t:Nat} {w:World} {ws:List Int} {cs:Array Value} (hm:MemIs B w gm ws n) (hB:B ≤ g) (hg:w.heap[g]? = some (.cells cs t (0,0))) (ht:t ∈ mtypes) (ht2:t ∉ [3,77,118]) :
  ∃ L T,Hid (L = [g])∧Hid (T = [(g,t)])∧Hid (∀ p ∈ T,p.2 ≠ 77∧p.2 ≠ 118) ∧
   Hid (∀ (ws:List Int) (n:Nat) (W:World),St B L T w gm ws n W→∀ (i:Nat) (u:Value),St B L T w gm ws n (W.setCell ⟨g,i,none⟩ u))∧Hid (St B L T w gm ws n w):=by
 obtain ⟨L,T,h1,h2,h3,h4,h5⟩:=st_begin hm [(g,t)] (fun p hp=>by rw [List.mem_singleton.1 hp];exact ⟨hB,ht,ht2,cs,hg⟩)
 exact ⟨L,T,h1,h2,h3,Lib.hid (h4.out _ List.mem_cons_self),h5⟩
theorem bits_u32 (a b:Int):0 ≤ Go.bits .xor .u32 a b∧Go.bits .xor .u32 a b < 4294967296:=by
 unfold Go.bits
 rw [IntKind.wrap_u32];omega
theorem next_ok (x:Int):∃ r,breadlineref02_Next.f x = some r∧0 ≤ r:=by
 have h:∀ a b:Int,0 ≤ wrap64 (Go.bits .xor .u32 a b):=fun a b=>by
  have:=bits_u32 a b
  unfold wrap64;omega
 unfold breadlineref02_Next.f
 split
 ·exact ⟨_,rfl,h _ _⟩
 ·split
  ·exact ⟨_,rfl,h _ _⟩
  ·exact ⟨_,rfl,h _ _⟩
theorem value_ok (x:Int):∃ r,breadlineref01_Value.f x = some r:=by
 unfold breadlineref01_Value.f;split <;> exact ⟨_,rfl⟩
theorem word_ok (x y:Int):∃ r b,breadlineref01_Word.f x y = some (r,b):=by
 unfold breadlineref01_Word.f;repeat (first|exact ⟨_,_,rfl⟩|split)
theorem next01_ok (x y:Int):∃ r b,breadlineref01_Next.f x y = some (r,b):=by
 unfold breadlineref01_Next.f breadlineref01_Version.f
 simp only [Option.bind_some]
 split
 ·obtain ⟨r,b,h⟩:=word_ok 0 y;rw [h];exact ⟨r,b,rfl⟩
 ·obtain ⟨r,b,h⟩:=word_ok (wrap64 (wrap64 (IntKind.u64.wrap x / 4294967296) + 1)) y;rw [h];exact ⟨r,b,rfl⟩
section
variable {B gm n:Nat} {w:World} {ws:List Int}
theorem load_z (hm:MemIs B w gm ws n) (hn:n ≤ 1000000) (hlen:ws.length ≤ 10000) (i:Nat) (hi:i < ws.length) (z:Int) (hz:z = (i:Int)) :
  Calls Try.prog 68 #[.pointer (some ⟨gm,0,none⟩),.int .i64 z] w fun e w'=>e = .returned (.int .i64 (wd ws i))∧MemIs B w' gm ws (n + 1)∧Fr B true [] w w':=by subst hz;exact load_any hm hn hlen i hi
theorem store_z (hm:MemIs B w gm ws n) (hn:n ≤ 1000000) (hlen:ws.length ≤ 10000) (i:Nat) (hi:i < ws.length) (x z:Int) (hz:z = (i:Int)) :
  Calls Try.prog 63 #[.pointer (some ⟨gm,0,none⟩),.int .i64 z,.int .i64 x] w fun e w'=>e = .returned (.tuple #[])∧MemIs B w' gm (ws.set i x) (n + 1)∧Fr B true [] w w':=by subst hz;exact store_any hm hn hlen i hi x
theorem add_z (hm:MemIs B w gm ws n) (hn:n ≤ 1000000) (hlen:ws.length ≤ 10000) (i:Nat) (hi:i < ws.length) (d z:Int) (hz:z = (i:Int)) :
  Calls Try.prog 60 #[.pointer (some ⟨gm,0,none⟩),.int .i64 z,.int .i64 d] w fun e w'=>∃ x,e = .returned (.int .i64 x)∧MemIs B w' gm (ws.set i x) (n + 1)∧Fr B true [] w w':=by
 subst hz;exact (add_any hm hn hlen i hi d).mono fun e w' h=>⟨_,h⟩
theorem cas_yes_z (hm:MemIs B w gm ws n) (hn:n ≤ 1000000) (hlen:ws.length ≤ 10000) (i:Nat) (hi:i < ws.length) (old x z:Int) (hz:z = (i:Int)) (hq:wd ws i = old) :
  Calls Try.prog 72 #[.pointer (some ⟨gm,0,none⟩),.int .i64 z,.int .i64 old,.int .i64 x] w fun e w'=>e = .returned (.bool true)∧MemIs B w' gm (ws.set i x) (n + 1)∧Fr B true [] w w':=by subst hz;exact cas_yes hm hn hlen i hi old x hq
theorem cas_no_z (hm:MemIs B w gm ws n) (hn:n ≤ 1000000) (hlen:ws.length ≤ 10000) (i:Nat) (hi:i < ws.length) (old x z:Int) (hz:z = (i:Int)) (hq:wd ws i ≠ old) :
  Calls Try.prog 72 #[.pointer (some ⟨gm,0,none⟩),.int .i64 z,.int .i64 old,.int .i64 x] w fun e w'=>e = .returned (.bool false)∧MemIs B w' gm ws (n + 1)∧Fr B true [] w w':=by subst hz;exact cas_no hm hn hlen i hi old x hq
end
theorem dwS {B:Nat} {L:List Nat} {T:List (Nat × Nat)} {w w':World} {gm:Nat} {ws:List Int} {n:Nat} {W:World} (h:Hid (w'.drew = W)) (H:Hid (St B L T w gm ws n w')):Hid (St B L T w gm ws n W):=Lib.hid (by rw [← h.out];exact H.out.drew)
end Go.Proofs.Ytadblpcjkahikaa.PTraceRuns
