/- Part 0 of the proof of TopPeek. -/
import Derived.KernelRfl
import Derived.RangeFuncLeaves
set_option linter.all false
namespace Go.Proofs.YtnkcbfgfkadoaaaGreat.Sx
open Go
inductive SV where
 |val (v:Value)
 |bool (b:Bool)
 |int (k:IntKind) (n:Int)
 |ptr (l i f:Nat)
 |slice (l i n:Nat) (c:Option Nat)
 |map (l:Nat)
 |func (fn:Fn) (first cap:List SV)
 |iface (t:TypeId) (v:SV)
 |agg (l:List SV)
 |tup (l:List SV)
 |yield (l:Nat)
 |any
def iK:SV:=.tup []
inductive Tr(α:Type) where
 |nil
 |node (v:Option α) (l r:Tr α)
namespace Tr
variable{α:Type}
def get:Nat→Tr α→Nat→Option α
 |0,_,_=>none
 |_+1,.nil,_=>none
 |d+1,.node v l r,n=>match n with
  |0=>v
  |n+1=>match Nat.beq (n%2) 0 with
   |true=>get d l (n/2)
   |false=>get d r (n/2)
def set:Nat→Tr α→Nat→α→Tr α
 |0,t,_,_=>t
 |d+1,.nil,n,a=>match n with
  |0=>.node (some a) .nil .nil
  |n+1=>match Nat.beq (n%2) 0 with
   |true=>.node none (set d .nil (n/2) a) .nil
   |false=>.node none .nil (set d .nil (n/2) a)
 |d+1,.node v l r,n,a=>match n with
  |0=>.node (some a) l r
  |n+1=>match Nat.beq (n%2) 0 with
   |true=>.node v (set d l (n/2) a) r
   |false=>.node v l (set d r (n/2) a)
end Tr
inductive SO where
 |dead
 |cells (t sz:Nat) (l:List SV)
 |ints (t sz:Nat) (l:List Int)
 |spot (t sz k:Nat) (l:List SV)
 |map (es:List (Int×SV))
 |loop (st:LoopState) (oW:Option Code) (tmps:Tr SV) (n:Nat) (params:List Nat) (assign body:Code)
 |defd
 |any (t sz n:Nat)
abbrev Amb:=(Nat→Prop)→World→Prop
structure H where
 n:Nat
 t:Tr SO
 A:Amb:=fun _ _=>True
 R:List Nat:=[]
 C:List (Nat×Nat×Nat):=[]
def D:Nat:=20
def H.get(h:H)(l:Nat):SO:=match h.t.get D l with
 |some o=>o
 |none=>.dead
def H.put(h:H)(l:Nat)(o:SO):H:={h with t:=h.t.set D l o}
def H.new(h:H)(o:SO):H:={h with n:=h.n+1,t:=h.t.set D h.n o}
inductive Out(α:Type) where
 |ret (a:α)
 |fail
 |chk (b:Bool) (k:Out α)
 |ite (b:Bool) (t e:Out α)
 |ask (p:Prop) (k:Out α)
namespace Out
variable{α β:Type}
def bind(x:Out α)(f:α→Out β):Out β:=match x with
 |.ret a=>f a
 |.fail=>.fail
 |.chk b k=>.chk b (k.bind f)
 |.ite b t e=>.ite b (t.bind f) (e.bind f)
 |.ask p k=>.ask p (k.bind f)
noncomputable def go:Out α→Option α
 |.ret a=>some a
 |.fail=>none
 |.chk b k=>match b with
  |true=>k.go
  |false=>none
 |.ite b t e=>match b with
  |true=>t.go
  |false=>e.go
 |.ask p k=>match Classical.propDecidable p with
  |.isTrue _=>k.go
  |.isFalse _=>none
def of(o:Option α):Out α:=match o with
 |some a=>.ret a
 |none=>.fail
def all(bs:List Bool)(k:Out α):Out α:=match bs with
 |[]=>k
 |b::bs=>.chk b (all bs k)
end Out
instance:Monad Out where
 pure:=Out.ret
 bind:=Out.bind
section
variable(P:Program)
def sz(t:Nat):Nat:=match P.info? t with
 |some i=>i.size
 |none=>0
def xG:TypeDesc→Bool
 |.struct _=>true
 |.array _ _=>true
 |_=>false
def recSz(t:Nat):Nat:=match P.underlying t with
 |some (.array _ e)=>sz P e
 |_=>sz P t
def ofV1:Value→SV
 |.bool b=>.bool b
 |.int k n=>.int k n
 |v=>.val v
def ofV:Value→SV
 |.agg cs=>.agg (cs.toList.map ofV1)
 |v=>ofV1 v
def isTup:Value→Bool
 |.tuple _=>true
 |_=>false
def zero(t:Nat):Out SV:=match P.info? t with
 |some i=>match i.zero with
  |some v=>match isTup v,Nat.blt t P.types.size with
   |false,true=>.ret (ofV v)
   |_,_=>.fail
  |none=>.fail
 |none=>.fail
def SV.cells:SV→List SV
 |.agg l=>l
 |v=>[v]
def SV.one:SV→Bool
 |.agg _=>false
 |.tup _=>false
 |_=>true
def ix(s i f:Nat):Nat:=match s with
 |1=>match f with
  |0=>i
  |_=>i+f
 |_=>i*s+f
def bG(n s:Nat):Nat:=match s with
 |1=>n
 |_=>n*s
def aE(i n:Nat):Nat:=match i with
 |0=>n
 |_=>i+n
def fits(n:Int):Bool:=decide (-9223372036854775808≤n)&&decide (n≤9223372036854775807)
def rdO(o:SO)(i f:Nat):Out SV:=match o with
 |.cells _ s c=>Out.of c[ix s i f]?
 |.ints _ s c=>.chk (Nat.blt (ix s i f) c.length) (.ret (.int .i64 (c.getD (ix s i f) 0)))
 |.spot _ _ k c=>.chk (Nat.beq i k) (Out.of c[f]?)
 |_=>.fail
def rd(h:H)(l i f:Nat):Out SV:=rdO (h.get l) i f
def okR(h:H)(l:Nat):Bool:=h.R.all fun m=>!Nat.beq m l
def okC(l k:Nat)(x:Nat×Nat×Nat):Bool:=match Nat.beq x.1 l with
 |true=>Nat.blt k x.2.1||Nat.ble (x.2.1+x.2.2) k
 |false=>true
def okW(h:H)(l k:Nat):Bool:=okR h l&&h.C.all (okC l k)
def okK(h:H)(l:Nat):Bool:=okR h l&&h.C.all fun x=>!Nat.beq x.1 l
def rdN(h:H)(l i:Nat):Nat→Nat→Out (List SV)
 |0,_=>.ret []
 |n+1,f=>(rd h l i f).bind fun v=>(rdN h l i n (f+1)).bind fun vs=>.ret (v::vs)
def load(h:H)(t:Nat):SV→Out SV
 |.ptr l i f=>match P.underlying t with
  |some d=>match xG d with
   |true=>(rdN h l i (sz P t) f).bind fun vs=>.ret (.agg vs)
   |false=>rd h l i f
  |none=>.fail
 |_=>.fail
def wr(h:H)(l i f:Nat)(v:SV):Out H:=match v.one with
 |false=>.fail
 |true=>match h.get l with
  |.cells t s c=>match c[ix s i f]?,okW h l (ix s i f)with
   |some _,true=>.ret (h.put l (.cells t s (c.set (ix s i f) v)))
   |_,_=>.fail
  |.ints t s c=>match v,okW h l (ix s i f)with
   |.int .i64 n,true=>.chk (Nat.blt (ix s i f) c.length) (.ret (h.put l (.ints t s (c.set (ix s i f) n))))
   |_,_=>.fail
  |_=>.fail
def wrN(l i:Nat):List SV→H→Nat→Out H
 |[],h,_=>.ret h
 |v::vs,h,f=>(wr h l i f v).bind fun h=>wrN l i vs h (f+1)
def store(h:H)(t:Nat)(a v:SV):Out H:=match a with
 |.ptr l i f=>match P.info? t with
  |some ti=>match Nat.beq v.cells.length ti.size with
   |true=>wrN l i v.cells h f
   |false=>.fail
  |none=>.fail
 |_=>.fail
def xU:SO→Nat
 |.cells _ s _=>s
 |.ints _ s _=>s
 |.spot _ s _ _=>s
 |_=>0
def tY(h:H)(l e:Nat):Bool:=Nat.blt 0 (sz P e)&&Nat.beq (xU (h.get l)) (sz P e)
def setAt(cs:List SV):Nat→List SV→List SV
 |_,[]=>cs
 |o,v::vs=>setAt (cs.set o v) (o+1) vs
def fill(place:Nat→Option (Nat×Nat))(cs:List SV):List (Nat×SV)→Out (List SV)
 |[]=>.ret cs
 |(i,v)::r=>match place i with
  |none=>.fail
  |some (o,s)=>match Nat.beq v.cells.length s&&Nat.ble (o+s) cs.length with
   |true=>fill place (setAt cs o v.cells) r
   |false=>.fail
def eqs:List Bool→List SV→List SV→Out Bool
 |[],[],[]=>.ret true
 |true::sh,.int .i64 x::xs,.int .i64 y::ys=>(eqs sh xs ys).bind fun r=>.ret (x==y&&r)
 |false::sh,.bool x::xs,.bool y::ys=>(eqs sh xs ys).bind fun r=>.ret (x==y&&r)
 |_,_,_=>.fail
def xV(t:Nat):Option (List Bool):=match Nat.beq t 37,Nat.beq t 40,Nat.beq t 179,Nat.beq t 210 with
 |true,_,_,_=>some [true,true,true]
 |_,true,_,_=>some [true,true,false,true]
 |_,_,true,_=>some [true,true]
 |_,_,_,true=>some [true,true,true,true,true,true,true,true]
 |_,_,_,_=>none
def arith(bY:Bool)(op:BinOp)(k:IntKind)(x y:Int):Out SV:=
 let r (z:Int):Out SV:=match k with
  |.i64=>match bY with
   |false=>.chk (fits z) (.ret (.int .i64 z))
   |true=>.ret (.int .i64 (IntKind.wrap .i64 z))
  |k=>.ret (.int k (k.wrap z))
 let bits (z:Nat):Out SV:=.ret (.int k (k.wrap z))
 match op with
 |.add=>r (x+y)
 |.sub=>r (x-y)
 |.mul=>r (x*y)
 |.quo=>.chk (!decide (y=0)) (.ret (.int k (k.wrap (x.tdiv y))))
 |.rem=>.chk (!decide (y=0)) (.ret (.int k (x.tmod y)))
 |.and=>bits (BitVec.ofInt k.bits x&&&BitVec.ofInt k.bits y).toNat
 |.or=>bits (BitVec.ofInt k.bits x|||BitVec.ofInt k.bits y).toNat
 |.xor=>bits (BitVec.ofInt k.bits x^^^BitVec.ofInt k.bits y).toNat
 |.eql=>.ret (.bool (x==y))
 |.neq=>.ret (.bool (x !=y))
 |.lss=>.ret (.bool (decide (x<y)))
 |.leq=>.ret (.bool (decide (x≤y)))
 |.gtr=>.ret (.bool (decide (x>y)))
 |.geq=>.ret (.bool (decide (x≥y)))
 |_=>.fail
def cst:Operand→Bool
 |.const _=>true
 |_=>false
def eql(c:Bool)(t:Nat)(x y:SV):Out Bool:=match x,y with
 |.iface _ _,.val .nilIface=>match P.underlying t with
  |some (.interface _)=>.ret false
  |_=>.fail
 |.val .nilIface,.val .nilIface=>match c,P.underlying t with
  |true,some (.interface _)=>.ret true
  |_,_=>.fail
 |.func _ _ _,.val .nilFunc=>match P.underlying t with
  |some (.func _ _ _)=>.ret false
  |_=>.fail
 |.val .nilFunc,.val .nilFunc=>match P.underlying t with
  |some (.func _ _ _)=>.ret true
  |_=>.fail
 |.slice _ _ _ _,.val (.slice none 0 0)=>match P.underlying t with
  |some (.slice _)=>.ret false
  |_=>.fail
 |.val (.slice none 0 0),.val (.slice none 0 0)=>match P.underlying t with
  |some (.slice _)=>.ret true
  |_=>.fail
 |.bool a,.bool b=>match P.underlying t with
  |some .bool=>.ret (a==b)
  |_=>.fail
 |.agg a,.agg b=>match xV t with
  |some sh=>eqs sh a b
  |none=>.fail
 |_,_=>.fail
def binOp(bY c:Bool)(op:BinOp)(t:Nat)(x y:SV):Out SV:=match x,y with
 |.int k a,.int k' b=>match op with
  |.shl=>.chk (decide (0≤b)) (.ret (.int k (k.wrap (a*2^(min b.toNat k.bits)))))
  |.shr=>.chk (decide (0≤b)) (.ret (.int k (a.fdiv (2^(min b.toNat k.bits)))))
  |op=>match decide (k=k')with
   |true=>arith bY op k a b
   |false=>.fail
 |x,y=>match op with
  |.eql=>(eql P c t x y).bind fun b=>.ret (.bool b)
  |.neq=>(eql P c t x y).bind fun b=>.ret (.bool !b)
  |_=>.fail
def cut(l i n:Nat)(c:Option Nat)(lo hi:Nat):Out SV:=
 .all [Nat.ble hi n,Nat.ble lo hi] (.ret (.slice l (aE i lo) (hi-lo) (c.map (·-lo))))
def len:SV→Out Nat
 |.slice _ _ n _=>.ret n
 |.val (.slice _ n _)=>.chk (Nat.ble n 1000000000) (.ret n)
 |_=>.fail
def bound(d:Nat):Option SV→Out Nat
 |none=>.ret d
 |some (.int _ z)=>.chk (decide (0≤z)) (.ret z.toNat)
 |_=>.fail
def ev(bY:Bool)(h:H)(ρ:Operand→SV):Op→Out SV
 |.move x=>.ret (ρ x)
 |.assign x=>.ret (ρ x)
 |.pick c a b=>match ρ c with
  |.bool t=>match t with
   |true=>.ret (ρ a)
   |false=>.ret (ρ b)
  |_=>.fail
 |.load t a=>load P h t (ρ a)
 |.nilCheck x=>match ρ x with
  |.ptr l i f=>.ret (.ptr l i f)
  |.iface t v=>.ret (.iface t v)
  |_=>.fail
 |.binOp op t x y _=>binOp P bY (cst x||cst y) op t (ρ x) (ρ y)
 |.unOp .not _ x=>match ρ x with
  |.bool b=>.ret (.bool !b)
  |_=>.fail
 |.unOp .neg _ x=>match ρ x with
  |.int k n=>arith bY .sub k 0 n
  |_=>.fail
 |.convert src dst x=>match P.underlying src,ρ x,P.underlying dst with
  |some _,.int k n,some (.int k')=>match decide (k=k')with
   |true=>.ret (.int k n)
   |false=>.ret (.int k' (k'.wrap n))
  |_,_,_=>.fail
 |.build t parts=>(zero P t).bind fun z=>match P.underlying t with
  |some (.struct fs)=>(fill (fun i=>(fs[i]?).map fun f=>(f.offset,sz P f.type)) z.cells (parts.toList.map fun p=>(p.1,ρ p.2))).bind fun cs=>.ret (.agg cs)
  |some (.array _ e)=>match P.info? e with
   |some ie=>(fill (fun i=>some (i*ie.size,ie.size)) z.cells (parts.toList.map fun p=>(p.1,ρ p.2))).bind fun cs=>.ret (.agg cs)
   |none=>.fail
  |_=>.fail
 |.makeInterface t x=>match P.underlying t with
  |some (.interface _)=>.fail
  |some _=>.ret (.iface t (ρ x))
  |none=>.fail
 |.makeFunc (.func f) first cap=>.ret (.func (.func f) (first.toList.map ρ) (cap.toList.map ρ))
 |.slice t x lo hi none=>match P.underlying t with
  |some (.slice e)=>match ρ x with
   |.slice l i n c=>match tY P h l e with
    |true=>(bound n (hi.map ρ)).bind fun hi=>(bound 0 (lo.map ρ)).bind fun lo=>cut l i n c lo hi
    |false=>.fail
   |_=>.fail
  |some (.array n e)=>match ρ x with
   |.ptr l 0 0=>match h.get l with
    |.cells _ s c=>match tY P h l e&&Nat.ble (n*s) c.length&&Nat.ble n 1000000000 with
     |true=>(bound n (hi.map ρ)).bind fun hi=>(bound 0 (lo.map ρ)).bind fun lo=>cut l 0 n (some n) lo hi
     |false=>.fail
    |_=>.fail
   |_=>.fail
  |_=>.fail
 |.fieldAddr t x f=>match P.underlying t,ρ x with
  |some (.struct fs),.ptr l i o=>match fs[f]?with
   |some fd=>match Nat.blt 0 (sz P fd.type)with
    |true=>.ret (.ptr l i (o+fd.offset))
    |false=>.fail
   |none=>.fail
  |_,_=>.fail
 |.field t x f=>match P.underlying t,ρ x with
  |some (.struct fs),.agg cs=>match fs[f]?with
   |some fd=>match P.underlying fd.type with
    |some d=>match xG d with
     |true=>.ret (.agg ((cs.drop fd.offset).take (sz P fd.type)))
     |false=>Out.of cs[fd.offset]?
    |none=>.fail
   |none=>.fail
  |_,_=>.fail
 |.indexAddr t x j=>match P.underlying t,ρ x,ρ j with
  |some (.slice e),.slice l i n _,.int _ z=>match tY P h l e with
   |true=>.all [decide (0≤z),decide (z<n)] (.ret (.ptr l (aE i z.toNat) 0))
   |false=>.fail
  |some (.array n e),.ptr l i o,.int _ z=>match Nat.blt 0 (sz P e)with
   |true=>.all [decide (0≤z),decide (z<n)] (.ret (.ptr l i (o+z.toNat*sz P e)))
   |false=>.fail
  |_,_,_=>.fail
 |.index t x j=>match P.underlying t,ρ x,ρ j with
  |some (.array n e),.agg cs,.int _ z=>match P.underlying e with
   |some d=>match xG d with
    |true=>.fail
    |false=>match Nat.blt 0 (sz P e)with
     |true=>.all [decide (0≤z),decide (z<n)] (Out.of cs[z.toNat*sz P e]?)
     |false=>.fail
   |none=>.fail
  |some .string,.val (.string s),.int _ z=>.chk (decide (0≤z)) (match s.data.toList[z.toNat]?with
   |some b=>.ret (.int .u8 b.toNat)
   |none=>.fail)
  |_,_,_=>.fail
 |.extract t j=>match ρ t with
  |.tup l=>Out.of l[j]?
  |_=>.fail
 |.call {callee:=.builtin .len,args:=args,argTypes:=ts}=>match args.toList,ts.toList with
  |[x],t::_=>match P.underlying t with
   |some (.slice _)=>(len (ρ x)).bind fun n=>.ret (.int .i64 n)
   |_=>.fail
  |_,_=>.fail
 |.call {callee:=.builtin .max,args:=args, .. }=>match args.toList with
  |[x,y]=>match ρ x,ρ y with
   |.int k a,.int k' b=>match decide (k=k')with
    |true=>.ret (.int k (if b>a then b else a))
    |false=>.fail
   |_,_=>.fail
  |_=>.fail
 |.call {callee:=.builtin .min,args:=args, .. }=>match args.toList with
  |[x,y]=>match ρ x,ρ y with
   |.int k a,.int k' b=>match decide (k=k')with
    |true=>.ret (.int k (if b<a then b else a))
    |false=>.fail
   |_,_=>.fail
  |_=>.fail
 |_=>.fail
def al(ρ:Operand→SV):Op→Out (SO×(Nat→SV))
 |.box t x=>.ret (.cells t (recSz P t) (ρ x).cells,fun l=>.ptr l 0 0)
 |.alloc t=>(zero P t).bind fun z=>.ret (.cells t (recSz P t) z.cells,fun l=>.ptr l 0 0)
 |.buildSlice t n parts=>match P.underlying t with
  |some (.slice e)=>match Nat.blt 0 (sz P e)&&Nat.ble (n*sz P e) 1000 with
   |true=>(zero P e).bind fun z=>(fill (fun i=>some (i*sz P e,sz P e)) ((List.range (n*sz P e)).map fun i=>z.cells.getD (i%z.cells.length) iK) (parts.toList.map fun p=>(p.1,ρ p.2))).bind fun cs=>
    .ret (.cells e (sz P e) cs,fun l=>.slice l 0 n (some n))
   |false=>.fail
  |_=>.fail
 |.makeSlice t a b=>match P.underlying t,ρ a,ρ b with
  |some (.slice e),.int _ n,.int _ m=>match P.info? e with
   |some ie=>match Nat.beq ie.size 1&&Nat.ble ie.bytes 8,ie.zero with
    |true,some (.int .i64 0)=>.all [decide (0≤n),decide (n=m),decide (n≤1000000000)] (.ret (.ints e 1 (List.replicate n.toNat 0),fun l=>.slice l 0 n.toNat (some n.toNat)))
    |_,_=>.fail
   |none=>.fail
  |_,_,_=>.fail
 |.makeMap _ none=>.ret (.map [],fun l=>.map l)
 |_=>.fail
inductive Row where
 |none
 |cs (t s:Nat) (l:List SV)
 |is (t s:Nat) (l:List Int)
 |any (t s n:Nat)
def mF{α:Type}(n:Nat)(l:List α):List α:=match n with
 |0=>l
 |n=>l.drop n
def rowOf(h:H):SV→Out Row
 |.val (.slice none 0 0)=>.ret .none
 |.slice l i n _=>match h.get l with
  |.cells t s c=>.chk (Nat.ble (bG (aE i n) s) c.length) (.ret (.cs t s ((mF (bG i s) c).take (bG n s))))
  |.ints t s c=>.chk (Nat.ble (bG (aE i n) s) c.length) (.ret (.is t s ((mF (bG i s) c).take (bG n s))))
  |.any t s m=>.chk (Nat.ble (aE i n) m) (.ret (.any t s n))
  |_=>.fail
 |_=>.fail
def toInts:List SV→Out (List Int)
 |[]=>.ret []
 |.int .i64 n::r=>(toInts r).bind fun r=>.ret (n::r)
 |_=>.fail
def kF(e s:Nat):Row→Bool
 |.none=>true
 |.cs t s' _=>Nat.beq t e&&Nat.beq s' s
 |.is t s' _=>Nat.beq t e&&Nat.beq s' s
 |.any t s' _=>Nat.beq t e&&Nat.beq s' s
def cat(e s m:Nat):Row→Row→Out SO
 |.none,.cs _ _ l=>.ret (.cells e s l)
 |.none,.is _ _ l=>.ret (.ints e s l)
 |.cs _ _ l,.cs _ _ m=>.ret (.cells e s (l++m))
 |.is _ _ l,.cs _ _ m=>(toInts m).bind fun m=>.ret (.ints e s (l++m))
 |.is _ _ l,.is _ _ m=>.ret (.ints e s (l++m))
 |.cs _ _ l,.is _ _ m=>match l with
  |[]=>.ret (.ints e s m)
  |_=>.fail
 |.any _ _ n,.cs _ _ l=>match l.all SV.one with
  |true=>.ret (.any e s (n+m))
  |false=>.fail
 |.any _ _ n,.any _ _ _=>.ret (.any e s (n+m))
 |.none,.any _ _ _=>.ret (.any e s m)
 |.cs _ _ l,.any _ _ _=>match l with
  |[]=>.ret (.any e s m)
  |_=>.fail
 |_,_=>.fail
def kill(h:H):SV→H
 |.slice l _ _ c=>match c with
  |some 0=>h
  |_=>h.put l .dead
 |_=>h
def oX:Row→Bool
 |.none=>false
 |_=>true
def rowOne:Row→Bool
 |.cs _ _ l=>l.all SV.one
 |_=>true
def okKx(h:H):SV→Bool
 |.slice l _ _ c=>match c with
  |some 0=>true
  |_=>okK h l
 |_=>true
def full:SV→Bool
 |.slice _ _ _ (some 0)=>true
 |.slice _ _ _ _=>false
 |_=>true
def append(h:H)(t t2:Nat)(x y:SV):Out (SV×H):=match P.underlying t,P.underlying t2 with
 |some (.slice e),some (.slice _)=>match P.info? e with
  |some ie=>match Nat.blt 0 ie.size&&Nat.ble ie.bytes 1000&&Nat.blt h.n 1000000&&(ie.zero.isSome&&Nat.blt e P.types.size)with
   |true=>(len x).bind fun n=>(len y).bind fun m=>(rowOf h x).bind fun rx=>(rowOf h y).bind fun ry=>match oX ry with
    |false=>.ret (x,h)
    |true=>.all [kF e ie.size rx,kF e ie.size ry,Nat.ble (n+m) 1000000000,oX rx||Nat.blt 0 m,full x||rowOne ry,okKx h x]
     ((cat e ie.size m rx ry).bind fun o=>.ret (.slice h.n 0 (n+m) none,(kill h x).new o))
   |false=>.fail
  |none=>.fail
 |_,_=>.fail
def cpRow:Row→Option (List SV)
 |.cs _ _ l=>some l
 |.is _ _ l=>some (l.map (SV.int .i64))
 |_=>none
def copy(h:H)(t:Nat)(x y:SV):Out (SV×H):=match P.underlying t with
 |some (.slice e)=>match P.info? e with
  |some ie=>match x,y with
   |.slice l i n _,.slice l2 j m _=>
    let k:=if m≤n then m else n
    (rowOf h (.slice l2 j k none)).bind fun r=>match cpRow r with
     |some vs=>match kF e ie.size r&&Nat.beq (xU (h.get l)) ie.size&&Nat.blt 0 ie.size with
      |true=>(wrN l 0 vs h (bG i ie.size)).bind fun h=>.ret (.int .i64 k,h)
      |false=>.fail
     |none=>.fail
   |_,_=>.fail
  |none=>.fail
 |_=>.fail
def look(k:Int)(d:SV):List (Int×SV)→Out (SV×Bool)
 |[]=>.ret (d,false)
 |(j,v)::r=>.ite (k==j) (.ret (v,true)) (look k d r)
def upd(k:Int)(v:SV):List (Int×SV)→Out (List (Int×SV))
 |[]=>.ret [(k,v)]
 |(j,u)::r=>.ite (k==j) (.ret ((k,v)::r)) ((upd k v r).bind fun r=>.ret ((j,u)::r))
def del(k:Int):List (Int×SV)→Out (List (Int×SV))
 |[]=>.ret []
 |(j,u)::r=>.ite (k==j) (.ret r) ((del k r).bind fun r=>.ret ((j,u)::r))
def lookup(h:H)(t:Nat)(m k:SV)(ok:Bool):Out SV:=match P.underlying t,m,k with
 |some (.map kt e),.map l,.int .i64 k=>match P.underlying kt,h.get l with
  |some (.int _),.map es=>(zero P e).bind fun z=>(look k z es).bind fun r=>match ok with
   |true=>.ret (.tup [r.1,.bool r.2])
   |false=>.ret r.1
  |_,_=>.fail
 |_,_,_=>.fail
def update(h:H)(t:Nat)(m k v:SV):Out H:=match P.underlying t,m,k with
 |some (.map kt _),.map l,.int .i64 k=>match P.underlying kt,h.get l with
  |some (.int _),.map es=>.chk (okR h l) ((upd k v es).bind fun es=>.ret (h.put l (.map es)))
  |_,_=>.fail
 |_,_,_=>.fail
def delete(h:H)(t:Nat)(m k:SV):Out H:=match P.underlying t,m,k with
 |some (.map kt _),.map l,.int .i64 k=>match P.underlying kt,h.get l with
  |some (.int _),.map es=>.chk (okR h l) ((del k es).bind fun es=>.ret (h.put l (.map es)))
  |_,_=>.fail
 |_,_,_=>.fail
inductive Task where
 |fn (f:Nat) (args:List SV)
 |yield (l:Nat) (args:List SV)
abbrev pY:=Task→H→Out (SV×H)
def target:SV→List SV→Out Task
 |.func (.func f) first cap,args=>.ret (.fn f (first++args++cap))
 |.yield l,args=>.ret (.yield l args)
 |_,_=>.fail
def methodOf(t:Nat)(name:String):Out Nat:=match P.info? t with
 |some i=>match i.methods.toList.find? (fun m=>m.name==name)with
  |some m=>match m.path.toList,m.func with
   |[],some (f,true)=>match P.underlying t with
    |some (.pointer _)=>.ret f
    |_=>.fail
   |_,_=>.fail
  |none=>.fail
 |none=>.fail
def ef(K:pY)(h:H)(ρ:Operand→SV):Op→Out (SV×H)
 |.store t a x=>(store P h t (ρ a) (ρ x)).bind fun h=>.ret (iK,h)
 |.mapUpdate t m k x=>(update P h t (ρ m) (ρ k) (ρ x)).bind fun h=>.ret (iK,h)
 |.insert t m k x=>(update P h t (ρ m) (ρ k) (ρ x)).bind fun h=>.ret (iK,h)
 |.lookup t m k ok=>(lookup P h t (ρ m) (ρ k) ok).bind fun v=>.ret (v,h)
 |.call {callee:=.builtin .append,args:=args,argTypes:=ts}=>match args.toList,ts.toList with
  |[x,y],t::t2::_=>append P h t t2 (ρ x) (ρ y)
  |_,_=>.fail
 |.call {callee:=.builtin .copy,args:=args,argTypes:=ts}=>match args.toList,ts.toList with
  |[x,y],t::_=>copy P h t (ρ x) (ρ y)
  |_,_=>.fail
 |.call {callee:=.builtin .delete,args:=args,argTypes:=ts}=>match args.toList,ts.toList with
  |[m,k],t::_=>(delete P h t (ρ m) (ρ k)).bind fun h=>.ret (iK,h)
  |_,_=>.fail
 |.call {callee:=.value f,args:=args, .. }=>(target (ρ f) (args.toList.map ρ)).bind fun t=>K t h
 |.call {callee:=.invoke r name,args:=args, .. }=>match ρ r with
  |.iface t v=>(methodOf P t name).bind fun f=>K (.fn f (v::args.toList.map ρ)) h
  |_=>.fail
 |_=>.fail
def cl:Op→Nat
 |.box _ _|.alloc _|.buildSlice _ _ _|.makeSlice _ _ _|.makeMap _ _=>1
 |.store _ _ _|.mapUpdate _ _ _ _|.insert _ _ _ _|.lookup _ _ _ _=>2
 |.call {callee:=.builtin .len, .. }=>0
 |.call {callee:=.builtin .max, .. }=>0
 |.call {callee:=.builtin .min, .. }=>0
 |.call _=>2
 |_=>0
structure SA where
 t:Tr SV
 n:Nat
 marks:List Nat
 round:Option Nat
def SA.get(a:SA)(t:Nat):SV:=match a.t.get D t with
 |some v=>v
 |none=>iK
def SA.put(a:SA)(t:Option Nat)(v:SV):SA:=match t with
 |some t=>match Nat.blt t a.n with
  |true=>{a with t:=a.t.set D t v}
  |false=>a
 |none=>a
def SA.eval(a:SA):Operand→SV
 |.tmp t=>a.get t
 |.const v=>ofV v
 |.func f=>.func (.func f) [] []
 |.global _=>iK
def one(K:pY)(bY:Bool)(o:Oper)(a:SA)(h:H):Out (SA×H):=match cl o.op with
 |0=>(ev P bY h a.eval o.op).bind fun v=>.ret (a.put o.dst v,h)
 |1=>match Nat.blt h.n 1000000 with
  |true=>(al P a.eval o.op).bind fun x=>.ret (a.put o.dst (x.2 h.n),h.new x.1)
  |false=>.fail
 |_=>(ef P K h a.eval o.op).bind fun x=>.ret (a.put o.dst x.1,x.2)
def mG(ops:List Oper)(j:Nat):Option Nat:=match ops[j]?with
 |some o=>o.dst
 |none=>none
def step(K:pY)(bY:Bool)(ops:List Oper)(o:Oper)(a:SA)(h:H)(k:SA→Out (SA×H)→Out (SA×H)):Out (SA×H):=match o.guard with
 |none=>k a (one P K bY o a h)
 |some (j,want)=>match mG ops j with
  |none=>.fail
  |some t=>match a.get t with
   |.bool b=>.ite b
    (let a:=a.put (some t) (.bool true);match want with
     |true=>k a (one P K bY o a h)
     |false=>k a (.ret (a.put o.dst iK,h)))
    (let a:=a.put (some t) (.bool false);match want with
     |false=>k a (one P K bY o a h)
     |true=>k a (.ret (a.put o.dst iK,h)))
   |_=>.fail
def stepS(K:pY)(bY:Bool)(ops:List Oper)(o:Oper)(a:SA)(h:H)(k:SA→Out (SA×H)→Out (SA×H)):Out (SA×H):=match o.guard with
 |none=>step P K bY ops o a h k
 |some (j,_)=>match mG ops j with
  |none=>.fail
  |some t=>match a.get t with
   |.tup []=>k a (.ret (a.put o.dst iK,h))
   |_=>step P K bY ops o a h k
def tG(K:pY)(bY:Bool)(all:List Oper):List Oper→SA→H→Out (SA×H)
 |[],a,h=>.ret (a,h)
 |o::os,a,h=>stepS P K bY all o a h fun _ r=>r.bind fun x=>tG K bY all os x.1 x.2
def edges(o:Oper):List Nat:=o.after.toList.filterMap fun e=>match Region.binds .any e with
 |true=>some e.on
 |false=>none
def mask(l:List Nat):Nat:=l.foldl (fun s i=>s|||2^i) 0
def befs:List Oper→List Nat→List Nat
 |[],acc=>acc.reverse
 |o::os,acc=>befs os (((edges o).foldl (fun s i=>s|||2^i|||acc.reverse.getD i 0) 0)::acc)
def sE(done:Nat)(eff:Bool):List (Nat×Nat×Oper)→Option Nat
 |[]=>none
 |(i,m,o)::r=>match Nat.testBit done i with
  |true=>sE done eff r
  |false=>match Nat.beq (m&&&done) m&&(eff==Nat.beq (cl o.op) 2)with
   |true=>some i
   |false=>sE done eff r
def sched(l:List (Nat×Nat×Oper)):Nat→Nat→List Nat
 |0,_=>[]
 |n+1,done=>match sE done false l with
  |some i=>i::sched l n (done|||2^i)
  |none=>match sE done true l with
   |some i=>i::sched l n (done|||2^i)
   |none=>[]
def num(ops:List Oper)(bs:List Nat):Nat→List (Nat×Nat×Oper)
 |0=>[]
 |n+1=>num ops bs n++(match ops[n]?,bs[n]?with
  |some o,some b=>[(n,b,o)]
  |_,_=>[])
def plan(ops:List Oper):List (Nat×Nat×Oper):=
 let l:=num ops (befs ops []) ops.length
 (sched l ops.length 0).filterMap fun i=>l[i]?
def ldN(t:Nat):Nat:=match P.underlying t with
 |some d=>match xG d with
  |true=>sz P t
  |false=>1
 |none=>0
def eM(h:H)(ρ:Operand→SV):Op→List (Nat×Nat×Nat)
 |.load t x=>match ρ x with
  |.ptr l i f=>[(l,ix (xU (h.get l)) i f,ldN P t)]
  |_=>[]
 |.slice _ x _ _ _=>match ρ x with
  |.ptr l _ _=>[(l,0,0)]
  |.slice l _ _ _=>[(l,0,0)]
  |_=>[]
 |.indexAddr _ x _=>match ρ x with
  |.slice l _ _ _=>[(l,0,0)]
  |_=>[]
 |_=>[]
def qQ(h:H)(op:Op):List Nat:=match cl op with
 |1=>[h.n]
 |_=>[]
abbrev Acc:=List (Nat×List (Nat×Nat×Nat)×List Nat)
def hide(m:Nat)(h:H):Acc→List (Nat×SO)
 |[]=>[]
 |(i,_,ls)::r=>match Nat.testBit m i with
  |true=>hide m h r
  |false=>(ls.filter fun l=>Nat.blt l h.n).map (fun l=>(l,h.get l))++hide m h r
def prots(m:Nat):Acc→List (Nat×Nat×Nat)
 |[]=>[]
 |(i,cs,_)::r=>match Nat.testBit m i with
  |true=>prots m r
  |false=>cs++prots m r
def dY(h:H)(os:List (Nat×SO)):H:=os.foldl (fun h x=>h.put x.1 x.2) h
def fH(h:H)(os:List (Nat×SO)):H:=os.foldl (fun h x=>h.put x.1 .dead) h
def cL(K:pY)(bY:Bool)(all:List Oper):List (Nat×Nat×Oper)→SA→H→Acc→Out (SA×H)
 |[],a,h,_=>.ret (a,h)
 |(i,m,o)::os,a,h,acc=>match cl o.op with
  |2=>
   let lZ:=hide m h acc
   step P K bY all o a {fH h lZ with C:=prots m acc++h.C} fun _ r=>r.bind fun x=>cL K bY all os x.1 {dY x.2 lZ with C:=h.C} acc
  |_=>step P K bY all o a h fun a' r=>r.bind fun x=>match(eM P h a'.eval o.op).all (fun y=>Nat.blt y.1 x.2.n)&&(qQ h o.op).all fun l=>Nat.blt l x.2.n with
   |true=>cL K bY all os x.1 x.2 ((i,eM P h a'.eval o.op,qQ h o.op)::acc)
   |false=>.fail
inductive SX where
 |normal
 |exit (id:Nat)
 |ret
def rounds(body:SA→H→Out (SX×SA×H)):Nat→SA→H→Out (SX×SA×H)
 |0,_,_=>.fail
 |n+1,a,h=>(body a h).bind fun r=>match r with
  |(.normal,a,h)=>rounds body n a h
  |r=>.ret r
def LF:Nat:=100
def endLoop(l:Nat)(h:H)(a:SA):Out (SX×SA×H):=match h.get l with
 |.loop st oW tmps n ps wL body=>match st,okR h l with
  |.busy,_=>.fail
  |_,false=>.fail
  |_,true=>
   let h:=h.put l (.loop .exhausted oW tmps n ps wL body)
   match oW with
   |none=>.ret (.normal,a,h)
   |some .ret=>.ret (.ret,a,h)
   |some (.exit id)=>.ret (.exit id,a,h)
   |_=>.fail
 |_=>.fail
def code(K:pY)(bY rnd:Bool):Code→SA→H→Out (SX×SA×H)
 |.skip,a,h=>.ret (.normal,a,h)
 |.region _ ops false,a,h=>(tG P K bY ops.toList ops.toList a h).bind fun x=>.ret (.normal,x.1,x.2)
 |.region _ ops true,a,h=>(cL P K bY ops.toList (plan ops.toList) a h []).bind fun x=>.ret (.normal,x.1,x.2)
 |.seq x y,a,h=>(code K bY rnd x a h).bind fun r=>match r with
  |(.normal,a,h)=>code K bY rnd y a h
  |r=>.ret r
 |.cond c x y,a,h=>match a.eval c with
  |.bool b=>.ite b (code K bY rnd x a h) (code K bY rnd y a h)
  |_=>.fail
 |.block id c,a,h=>(code K bY rnd c a h).bind fun r=>match r with
  |(.exit j,a,h)=>match Nat.beq j id with
   |true=>.ret (.normal,a,h)
   |false=>.ret (.exit j,a,h)
  |r=>.ret r
 |.loop c,a,h=>rounds (code K bY rnd c) LF a h
 |.rangeFunc f ps wL body,a,h=>match rnd,Nat.blt h.n 999999 with
  |false,true=>
   let r:=h.n;let h:=h.new .defd;let l:=h.n;let h:=h.new (.loop .ready none a.t a.n ps.toList wL body);let a:={a with marks:=r::a.marks}
   (target (a.eval f) [.yield l]).bind fun t=>match t with
    |.fn g args=>(K (.fn g args) h).bind fun x=>endLoop l x.2 a
    |_=>.fail
  |_,_=>.fail
 |.exit id,a,h=>.ret (.exit id,a,h)
 |.ret,a,h=>.ret (.ret,a,h)
 |_,_,_=>.fail
def setArgs(t:Tr SV):Nat→List SV→Tr SV
 |_,[]=>t
 |i,v::vs=>setArgs (t.set D i v) (i+1) vs
def results(h:H)(a:SA):List ResultVar→Out (List SV)
 |[]=>.ret []
 |.tmp t::r=>(results h a r).bind fun vs=>.ret (a.get t::vs)
 |.cell t ty::r=>(load P h ty (a.get t)).bind fun v=>(results h a r).bind fun vs=>.ret (v::vs)
def pack:List SV→SV
 |[v]=>v
 |vs=>.tup vs
def zipSet(a:SA):List Nat→List SV→Out SA
 |[],[]=>.ret a
 |p::ps,v::vs=>zipSet (a.put (some p) v) ps vs
 |_,_=>.fail
def rG:List Nat→H→Out H
 |[],h=>.ret h
 |l::ls,h=>match h.get l,okR h l with
  |.defd,true=>rG ls (h.put l .dead)
  |_,_=>.fail
def wraps(f:Nat):Bool:=f==165||f==169||f==115||f==223||f==25||f==3||f==135||f==225||f==118
def call(f:Nat)(K:pY)(args:List SV)(h:H):Out (SV×H):=match P.funcs[f]?with
 |none=>.fail
 |some fn=>match fn.body with
  |none=>.fail
  |some c=>match Nat.ble args.length fn.ntmps&&Nat.ble fn.ntmps 1000 with
   |false=>.fail
   |true=>(code P K (wraps f) false c ⟨setArgs .nil 0 args,fn.ntmps,[],none⟩ h).bind fun r=>match r with
    |(.exit _,_,_)=>.fail
    |(_,a,h)=>(rG a.marks h).bind fun h=>(results P h a fn.results.toList).bind fun vs=>.ret (pack vs,h)
def round(l:Nat)(K:pY)(args:List SV)(h:H):Out (SV×H):=match h.get l,okR h l with
 |.loop .ready _ tmps n ps wL body,true=>(zipSet ⟨tmps,n,[],some l⟩ ps args).bind fun a=>
  (code P K false true wL a h).bind fun r=>match r with
   |(.normal,a,h)=>match h.get l with
    |.loop .ready rH tmps' n' ps' asg' body'=>
     (code P K false true body a (h.put l (.loop .busy rH tmps' n' ps' asg' body'))).bind fun r=>
      let fin (jump:Option Code) (ok:Bool) (h:H):Out (SV×H):=match h.get l with
       |.loop _ _ t n p x y=>.ret (.bool ok,h.put l (.loop (match ok with|true=>.ready|false=>.done) jump t n p x y))
       |_=>.fail
      match r with
      |(.normal,_,h)=>fin none true h
      |(.exit id,_,h)=>fin (some (.exit id)) false h
      |(.ret,_,h)=>fin (some .ret) false h
    |_=>.fail
   |_=>.fail
 |_,_=>.fail
end
def lo:IntKind→Int
 |.i8=>-128|.i16=>-32768|.i32=>-2147483648|.i64=>-9223372036854775808|_=>0
def hi:IntKind→Int
 |.i8=>127|.i16=>32767|.i32=>2147483647|.i64=>9223372036854775807|.u8=>255|.u16=>65535|.u32=>4294967295|.u64=>18446744073709551615
def okV1:Value→Bool
 |.int k n=>decide (lo k≤n)&&decide (n≤hi k)
 |.agg _=>false
 |.tuple _=>false
 |_=>true
def okVal:Value→Bool
 |.agg cs=>cs.toList.all okV1
 |v=>okV1 v
def okX:Operand→Bool
 |.tmp _=>true
 |.const v=>okVal v
 |.func _=>true
 |.global _=>false
def dR(o:Op):Bool:=o.operands.toList.all okX&&(match o with
 |.defer _=>false
 |.select _ _=>false
 |_=>true)
abbrev mZ:=Nat×Nat×Oper
def idx(l:List mZ):List Nat:=l.map (·.1)
def jA(ops:List Oper)(o:Oper):List Nat:=(o.op.operands.toList.filterMap fun x=>match x with
 |.tmp t=>some t
 |_=>none)++(match o.guard with
 |some (j,_)=>(mG ops j).toList
 |none=>[])
def maskAt(pl:List mZ)(e:Nat):Nat:=match pl.find? (fun x=>Nat.beq x.1 e)with
 |some x=>x.2.1
 |none=>0
def closure(pl:List mZ):List Nat→Nat
 |[]=>0
 |e::es=>2^e|||maskAt pl e|||closure pl es
def eqDst(a:Option Nat)(t:Nat):Bool:=match a with
 |some d=>Nat.beq d t
 |none=>false
def chkEnt(ops:List Oper)(pl:List mZ)(pre:List Nat)(x:mZ)(post:List mZ):Bool:=
 dR x.2.2.op&&(edges x.2.2).all (fun e=>pre.contains e)&&!pre.contains x.1&&Nat.beq x.2.1 (closure pl (edges x.2.2))&&Nat.beq (x.2.1&&&mask pre) x.2.1&&
 (!Nat.beq (cl x.2.2.op) 2||post.all (fun y=>Nat.testBit y.2.1 x.1))&&
 (match x.2.2.dst with
  |none=>true
  |some d=>post.all fun y=>!eqDst y.2.2.dst d)&&
 (jA ops x.2.2).all (fun t=>pl.all fun y=>!eqDst y.2.2.dst t||Nat.testBit x.2.1 y.1)
def xW(ops:List Oper)(pl:List mZ):List Nat→List mZ→Bool
 |_,[]=>true
 |pre,x::post=>chkEnt ops pl pre x post&&xW ops pl (x.1::pre) post
def okDraw(ops:List Oper):Bool:=(List.range ops.length).all (fun i=>(plan ops).any fun x=>Nat.beq x.1 i)&&xW ops (plan ops) [] (plan ops)
def eF:Code→Bool
 |.skip=>true
 |.region _ ops false=>ops.toList.all fun o=>dR o.op
 |.region _ ops true=>okDraw ops.toList
 |.seq a b=>eF a&&eF b
 |.cond c a b=>okX c&&eF a&&eF b
 |.block _ c=>eF c
 |.loop c=>eF c
 |.rangeFunc f _ a b=>okX f&&eF a&&eF b
 |.exit _=>true
 |.ret=>true
 |_=>false
def okFunc(fn:Func):Bool:=match fn.body with
 |some c=>eF c&&!(fn.name== "runtime.NumGoroutine")
 |none=>true
end Go.Proofs.YtnkcbfgfkadoaaaGreat.Sx
