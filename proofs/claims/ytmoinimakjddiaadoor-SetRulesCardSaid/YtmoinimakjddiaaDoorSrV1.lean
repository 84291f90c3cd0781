/- The machine of values, told and shown true: a part. -/
import GoSem.Dispatch
import GoSem.Core.Region
import Derived.Laws.BitsLemmas
import Derived.Control
import Derived.Orders
import Derived.Laws.Sem
import Derived.Laws.Entries
import Derived.Laws.StructEq
import Derived.Laws.BytesString
import Derived.ChangeKeysEq
namespace Go.VM
inductive V where
 |bool (b:Bool)
 |int (k:IntKind) (n:Int)
 |str (s:ByteArray)
 |sl (sz:Nat) (es:List V)
 |agg (cs:List V)
 |nilp
 |ptr (b:Nat) (off:Nat)
 |fn (f:FuncId) (caps:List V)
 |mp (es:List (Int×Bool))
 |undef
 deriving Inhabited
abbrev LV:=List V
abbrev OV (R:Type):=Option R
inductive M where
 |pr|ro|own (d:Bool)|pt
 deriving Inhabited,DecidableEq
def M.gives:M→M→Bool
 | .pt,_|_,.pt=>false
 |_,.ro=>true
 | .pr,_=>true
 | .own a,.own b=>a|| !b
 |_,_=>false
inductive Lo where
 |s (t:Nat)
 |b (bx:Nat) (j:Nat)
 deriving Inhabited
inductive Sl where
 |undef
 |none
 |one (v:V) (m:M)
 |many (cs:List (V×M))
 |tup (vs:List (V×M))
 |ref (l:Lo) (ver:Nat)
 |eref (l:Lo) (ver:Nat) (i:Nat) (off:Nat)
 |sref (l:Lo) (ver:Nat) (lo:Nat)
 |aref (ps:List (Lo×Nat))
 |rptr (z:Nat) (e:V) (off:Nat)
 |aptr (b off n:Nat) (i:Nat)
 deriving Inhabited
structure Cell where
 v:V
 m:M
 ver:Nat
 fix:Bool
 deriving Inhabited
abbrev Bx:=List Cell
structure St where
 tmps:List (Sl×Nat)
 boxes:List (Option Bx)
 deriving Inhabited
inductive Wr where
 |slot (t:Nat) (s:Sl)
 |keep (t:Nat) (s:Sl)
 |val (t:Nat) (v:V)
 |box (b:Nat) (x:Option Bx)
 |cval (b j:Nat) (v:V)
 |cell (b j:Nat) (c:Cell)
 deriving Inhabited
inductive UT where
 |int (k:IntKind)|bool|string|slice (e:TypeId)|array (n:Nat) (e:TypeId)|struct (fs:List (Nat×TypeId))|pointer|map (k e:TypeId)|other
 deriving Inhabited
structure TyD where
 under:UT
 size:Nat
 bytes:Nat
 zv:List (V×M)
 leafs:List UT
 deep:Bool
 cmp:Bool:=false
 deriving Inhabited
def TyD.agg(d:TyD):Bool:=match d.under with| .struct _| .array _ _=>true|_=>false
inductive Kd where
 |int (k:IntKind)|bool|str|sl (z:Nat)|agg (ks:List Kd)|any
 deriving Inhabited
inductive PS where
 |ptr (b off:Nat)
 |val (m:M) (kd:Kd)
 |fix (kd:Kd)
 |clo (f:Nat) (cs:List (Nat×Nat))
 deriving Inhabited
structure Sig where
 params:List PS
 boxes:List (List PS)
 outs:List (M×Kd)
 pan:Bool:=false
 io:Bool:=false
 deriving Inhabited
structure Env where
 ty:TypeId→Option TyD
 sig:FuncId→Option Sig
 take:Nat→Nat→Bool
 base:Nat
 vari:Nat→Nat→Nat:=fun _ _=>0
 panT:Nat:=0
 kp:List Nat:=[]
 tab:Option (Nat×List Value):=none
inductive Pg where
 |fail
 |ret (ws:List Wr)
 |rdS (t:Nat) (k:Sl→Nat→Pg)
 |rdB (b:Nat) (k:Option Bx→Pg)
 |rdHS (t:Nat) (k:Bool→Nat→Pg)
 |rdHB (b j:Nat) (k:Option (Bool×Nat)→Pg)
 |asInt (v:V) (k:IntKind→Int→Pg)
 |asBool (v:V) (k:Bool→Pg)
 |asStr (v:V) (k:ByteArray→Pg)
 |asSl (v:V) (k:Nat→List V→Pg)
 |asAgg (v:V) (k:List V→Pg)
 |asMp (v:V) (k:List (Int×Bool)→Pg)
 |cells (n:Nat) (v:V) (k:List V→Pg)
 |nth (es:List V) (i:Nat) (k:V→Pg)
 |bytes (es:List V) (k:List UInt8→Pg)
 |chk (b:Bool) (k:Pg)
 |ite (b:Bool) (k1 k2:Pg)
 |call (f:FuncId) (args:List V) (kds:List Kd) (k:List V→Pg)
def mpGet:List (Int×Bool)→Int→Option Bool
 | [],_=>none
 |p::r,n=>bif n==p.1 then some p.2 else mpGet r n
def mpPut:List (Int×Bool)→Int→Bool→List (Int×Bool)
 | [],n,b=>[(n,b)]
 |p::r,n,b=>bif n==p.1 then(n,b)::r else p::mpPut r n b
section elim
variable {R : Type}
def V.asInt(v:V)(K:IntKind→Int→Option R):Option R:=match v with| .int k n=>K k n|_=>none
def V.asBool(v:V)(K:Bool→Option R):Option R:=match v with| .bool b=>K b|_=>none
def V.asStr(v:V)(K:ByteArray→Option R):Option R:=match v with| .str b=>K b|_=>none
def V.asSl(v:V)(K:Nat→List V→Option R):Option R:=match v with| .sl z l=>K z l|_=>none
def unNil(l:List V)(x:Option R):Option R:=match l with| []=>x|_=>none
def unCons(l:List V)(K:V→List V→Option R):Option R:=match l with|v::r=>K v r| []=>none
def unL:Nat→List V→(List V→Option R)→Option R
 |0,l,K=>unNil l (K [])
 |n+1,l,K=>unCons l fun v r=>unL n r fun q=>K (v::q)
def V.asAgg(v:V)(K:List V→Option R):Option R:=match v with| .agg cs=>K cs|_=>none
def V.asMp(v:V)(K:List (Int×Bool)→Option R):Option R:=match v with| .mp es=>K es|_=>none
def V.cells(n:Nat)(v:V)(K:List V→Option R):Option R:=v.asAgg fun cs=>unL n cs K
def bytesK:List V→(List UInt8→Option R)→Option R
 | [],K=>K []
 |v::r,K=>v.asInt fun k n=>bif decide (k= .u8)then bytesK r fun q=>K (n.toNat.toUInt8::q)else none
mutual
def Kd.elim:Kd→V→(V→Option R)→Option R
 | .int k,v,X=>v.asInt fun k' n=>bif decide (k'=k)then X (.int k n)else none
 | .bool,v,X=>v.asBool fun b=>X (.bool b)
 | .str,v,X=>v.asStr fun s=>X (.str s)
 | .sl z,v,X=>v.asSl fun z' es=>bif z'==z then X (.sl z es)else none
 | .agg ks,v,X=>v.asAgg fun cs=>elimL ks cs fun us=>X (.agg us)
 | .any,v,X=>X v
def elimL:List Kd→List V→(List V→Option R)→Option R
 | [],l,X=>unNil l (X [])
 |k::ks,l,X=>unCons l fun v r=>k.elim v fun u=>elimL ks r fun us=>X (u::us)
end
def aI(k:IntKind)(v:V)(K:Int→Option R):Option R:=v.asInt fun k' n=>bif decide (k'=k)then K n else none
def aL(z:Nat)(v:V)(K:List V→Option R):Option R:=v.asSl fun z' es=>bif z'==z then K es else none
def uI(k:IntKind)(l:List V)(K:Int→List V→Option R):Option R:=unCons l fun v r=>v.asInt fun k' n=>bif decide (k'=k)then K n r else none
def uB(l:List V)(K:Bool→List V→Option R):Option R:=unCons l fun v r=>v.asBool fun b=>K b r
def uS(l:List V)(K:ByteArray→List V→Option R):Option R:=unCons l fun v r=>v.asStr fun s=>K s r
def uL(z:Nat)(l:List V)(K:List V→List V→Option R):Option R:=unCons l fun v r=>v.asSl fun z' es=>bif z'==z then K es r else none
def uA(l:List V)(K:List V→List V→Option R):Option R:=unCons l fun v r=>v.asAgg fun cs=>K cs r
def ce3(l:List V)(K:V→V→V→Option R):Option R:=unCons l fun a1 r1=>unCons r1 fun a2 r2=>unCons r2 fun a3 r3=>unNil r3 (K a1 a2 a3)
def ca3(v:V)(K:V→V→V→Option R):Option R:=v.asAgg fun l=>ce3 l K
def ce4(l:List V)(K:V→V→V→V→Option R):Option R:=unCons l fun a1 r1=>unCons r1 fun a2 r2=>unCons r2 fun a3 r3=>unCons r3 fun a4 r4=>unNil r4 (K a1 a2 a3 a4)
def ca4(v:V)(K:V→V→V→V→Option R):Option R:=v.asAgg fun l=>ce4 l K
def ce5(l:List V)(K:V→V→V→V→V→Option R):Option R:=unCons l fun a1 r1=>unCons r1 fun a2 r2=>unCons r2 fun a3 r3=>unCons r3 fun a4 r4=>unCons r4 fun a5 r5=>unNil r5 (K a1 a2 a3 a4 a5)
def ca5(v:V)(K:V→V→V→V→V→Option R):Option R:=v.asAgg fun l=>ce5 l K
def ce6(l:List V)(K:V→V→V→V→V→V→Option R):Option R:=unCons l fun a1 r1=>unCons r1 fun a2 r2=>unCons r2 fun a3 r3=>unCons r3 fun a4 r4=>unCons r4 fun a5 r5=>unCons r5 fun a6 r6=>unNil r6 (K a1 a2 a3 a4 a5 a6)
def ca6(v:V)(K:V→V→V→V→V→V→Option R):Option R:=v.asAgg fun l=>ce6 l K
def ce7(l:List V)(K:V→V→V→V→V→V→V→Option R):Option R:=unCons l fun a1 r1=>unCons r1 fun a2 r2=>unCons r2 fun a3 r3=>unCons r3 fun a4 r4=>unCons r4 fun a5 r5=>unCons r5 fun a6 r6=>unCons r6 fun a7 r7=>unNil r7 (K a1 a2 a3 a4 a5 a6 a7)
def ca7(v:V)(K:V→V→V→V→V→V→V→Option R):Option R:=v.asAgg fun l=>ce7 l K
def ce8(l:List V)(K:V→V→V→V→V→V→V→V→Option R):Option R:=unCons l fun a1 r1=>unCons r1 fun a2 r2=>unCons r2 fun a3 r3=>unCons r3 fun a4 r4=>unCons r4 fun a5 r5=>unCons r5 fun a6 r6=>unCons r6 fun a7 r7=>unCons r7 fun a8 r8=>unNil r8 (K a1 a2 a3 a4 a5 a6 a7 a8)
def ca8(v:V)(K:V→V→V→V→V→V→V→V→Option R):Option R:=v.asAgg fun l=>ce8 l K
def nthK(es:List V)(i:Nat)(K:V→Option R):Option R:=match es[i]? with|some v=>K v|none=>none
def forceN{β:Type}(n:Nat)(K:Nat→β):β:=match n with|0=>K 0|m+1=>K (m+1)
def forceB{β:Type}(b:Bool)(K:Bool→β):β:=match b with|true=>K true|false=>K false
def forceM{β:Type}(m:M)(K:M→β):β:=match m with| .pr=>K .pr| .ro=>K .ro| .own d=>forceB d fun d=>K (.own d)| .pt=>K .pt
def forceCs{β:Type}:List (V×M)→(List (V×M)→β)→β
 | [],K=>K []
 |(v,m)::r,K=>forceM m fun m=>forceCs r fun q=>K ((v,m)::q)
def forceSl{β:Type}(s:Sl)(K:Sl→β):β:=
 match s with
 | .undef=>K .undef
 | .none=>K .none
 | .one v m=>forceM m fun m=>K (.one v m)
 | .many cs=>forceCs cs fun cs=>K (.many cs)
 | .tup cs=>forceCs cs fun cs=>K (.tup cs)
 | .ref l ver=>forceN ver fun ver=>K (.ref l ver)
 | .eref l ver i off=>forceN ver fun ver=>forceN off fun off=>K (.eref l ver i off)
 | .sref l ver lo=>forceN ver fun ver=>K (.sref l ver lo)
 | .aref ps=>K (.aref ps)
 | .rptr z e off=>forceN off fun off=>K (.rptr z e off)
 | .aptr b off n i=>forceN off fun off=>K (.aptr b off n i)
def forceT{β:Type}:List (Sl×Nat)→(List (Sl×Nat)→β)→β
 | [],K=>K []
 |(s,v)::r,K=>forceSl s fun s=>forceN v fun v=>forceT r fun q=>K ((s,v)::q)
def forceBx{β:Type}:Bx→(Bx→β)→β
 | [],K=>K []
 |⟨v,m,ver,fx⟩::r,K=>forceM m fun m=>forceN ver fun ver=>forceB fx fun fx=>forceBx r fun q=>K (⟨v,m,ver,fx⟩::q)
def forceBs{β:Type}:List (Option Bx)→(List (Option Bx)→β)→β
 | [],K=>K []
 |none::r,K=>forceBs r fun q=>K (none::q)
 |some b::r,K=>forceBx b fun b=>forceBs r fun q=>K (some b::q)
def St.force{β:Type}(S:St)(K:St→β):β:=forceT S.tmps fun ts=>forceBs S.boxes fun bs=>K ⟨ts,bs⟩
end elim
def sbit(t:Nat):Nat:=2^(4*t)
def shbit(t:Nat):Nat:=2^(4*t+1)
def bbit(b:Nat):Nat:=2^(4*b+2)
def bhbit(b:Nat):Nat:=2^(4*b+3)
def M.isOwn:M→Bool| .own _=>true|_=>false
def Sl.isOwn:Sl→Bool| .one _ m=>m.isOwn|_=>false
def St.sl(S:St)(t:Nat):Sl×Nat:=S.tmps.getD t (.undef,0)
def St.bx(S:St)(b:Nat):Option Bx:=S.boxes.getD b none
def St.hb(S:St)(b j:Nat):Option (Bool×Nat):=match S.bx b with
 |some cs=>match cs[j]? with|some c=>some (c.m.isOwn,c.ver)|none=>none
 |none=>none
def Sl.withV(s:Sl)(v:V):Sl:=match s with| .one _ m=>.one v m|s=>s
def Bx.withV(cs:Bx)(j:Nat)(v:V):Bx:=match cs[j]? with|some c=>cs.set j {c with v:=v}|none=>cs
def Wr.app(S:St):Wr→St
 | .slot t s=>{S with tmps:=S.tmps.set t (s,(S.sl t).2+1)}
 | .keep t s=>{S with tmps:=S.tmps.set t (s,(S.sl t).2)}
 | .val t v=>{S with tmps:=S.tmps.set t ((S.sl t).1.withV v,(S.sl t).2)}
 | .box b x=>{S with boxes:=S.boxes.set b x}
 | .cval b j v=>{S with boxes:=S.boxes.set b ((S.bx b).map fun cs=>Bx.withV cs j v)}
 | .cell b j c=>{S with boxes:=S.boxes.set b ((S.bx b).map fun cs=>cs.set j c)}
def Wr.apps:List Wr→St→St
 | [],S=>S
 |w::ws,S=>Wr.apps ws (w.app S)
def setK{α β:Type}:List α→Nat→α→(List α→β)→β
 | [],_,_,K=>K []
 |_::r,0,x,K=>K (x::r)
 |a::r,n+1,x,K=>setK r n x fun q=>K (a::q)
def bxK{β:Type}(S:St)(b:Nat)(x:Option Bx)(K:St→β):β:=match x with
 |none=>setK S.boxes b none fun bs=>K ⟨S.tmps,bs⟩
 |some c=>forceBx c fun c=>setK S.boxes b (some c) fun bs=>K ⟨S.tmps,bs⟩
def Wr.appK{β:Type}(w:Wr)(S:St)(K:St→β):β:=match w with
 | .slot t s=>forceSl s fun s=>forceN ((S.sl t).2+1) fun v=>setK S.tmps t (s,v) fun ts=>K ⟨ts,S.boxes⟩
 | .keep t s=>forceSl s fun s=>forceN (S.sl t).2 fun v=>setK S.tmps t (s,v) fun ts=>K ⟨ts,S.boxes⟩
 | .val t v=>forceSl ((S.sl t).1.withV v) fun s=>forceN (S.sl t).2 fun v=>setK S.tmps t (s,v) fun ts=>K ⟨ts,S.boxes⟩
 | .box b x=>bxK S b x K
 | .cval b j v=>bxK S b ((S.bx b).map fun cs=>Bx.withV cs j v) K
 | .cell b j c=>bxK S b ((S.bx b).map fun cs=>cs.set j c) K
def Wr.appsK{β:Type}:List Wr→St→(St→β)→β
 | [],S,K=>K S
 |w::ws,S,K=>w.appK S fun S=>Wr.appsK ws S K
def Wr.bit:Wr→Nat
 | .slot t _| .keep t _=>sbit t|||shbit t
 | .val t _=>sbit t
 | .box b _| .cell b _ _=>bbit b|||bhbit b
 | .cval b _ _=>bbit b
def Wr.bits:List Wr→Nat
 | []=>0
 |w::ws=>w.bit|||Wr.bits ws
def Pg.run{R:Type}(G:FuncId→List V→(List V→Option R)→Option R)(S:St):Pg→Nat→(List Wr→Nat→Option R)→Option R
 | .fail,_,_=>none
 | .ret ws,rm,K=>K ws rm
 | .rdS t k,rm,K=>(k (S.sl t).1 (S.sl t).2).run G S (rm|||(sbit t|||shbit t)) K
 | .rdB b k,rm,K=>(k (S.bx b)).run G S (rm|||(bbit b|||bhbit b)) K
 | .rdHS t k,rm,K=>(k (S.sl t).1.isOwn (S.sl t).2).run G S (rm|||shbit t) K
 | .rdHB b j k,rm,K=>(k (S.hb b j)).run G S (rm|||bhbit b) K
 | .asInt v k,rm,K=>v.asInt fun kd n=>(k kd n).run G S rm K
 | .asBool v k,rm,K=>v.asBool fun b=>(k b).run G S rm K
 | .asStr v k,rm,K=>v.asStr fun b=>(k b).run G S rm K
 | .asSl v k,rm,K=>v.asSl fun z l=>(k z l).run G S rm K
 | .asAgg v k,rm,K=>v.asAgg fun l=>(k l).run G S rm K
 | .asMp v k,rm,K=>v.asMp fun l=>(k l).run G S rm K
 | .cells n v k,rm,K=>v.cells n fun l=>(k l).run G S rm K
 | .nth es i k,rm,K=>nthK es i fun v=>(k v).run G S rm K
 | .bytes es k,rm,K=>bytesK es fun l=>(k l).run G S rm K
 | .chk b k,rm,K=>bif b then k.run G S rm K else none
 | .ite b k1 k2,rm,K=>bif b then k1.run G S rm K else k2.run G S rm K
 | .call f args ks k,rm,K=>G f args fun o=>elimL ks o fun l=>(k l).run G S rm K
def M.isPt:M→Bool| .pt=>true|_=>false
def V.isAgg:V→Bool| .agg _=>true|_=>false
def V.isCell:V→Bool| .agg _| .undef| .fn _ _=>false|_=>true
mutual
def V.plain:V→Bool
 | .sl _ _=>false
 | .agg cs=>V.plains cs
 | .ptr _ _=>false
 | .fn _ _=>false
 | .mp _=>false
 |_=>true
def V.plains:List V→Bool
 | []=>true
 |v::vs=>v.plain&&V.plains vs
end
def V.flat:V→Bool| .int _ _| .bool _| .str _=>true|_=>false
def flats(l:List V):Bool:=l.all V.flat
def cellOf:Value→Option (V×M)
 | .bool b=>some (.bool b,.pr)
 | .int k n=>some (.int k n,.pr)
 | .string s=>some (.str s,.pr)
 | .slice none 0 0=>some (.sl 0 [],.own true)
 | .pointer none=>some (.nilp,.pr)
 |_=>none
def cellsOf:List Value→Option (List (V×M))
 | []=>some []
 |v::r=>match cellOf v,cellsOf r with|some c,some q=>some (c::q)|_,_=>none
def constSl(v:Value):Option Sl:=
 match v with
 | .agg cs=>match cellsOf cs.toList with|some l=>some (.many l)|none=>none
 |v=>match cellOf v with|some (x,m)=>some (.one x m)|none=>none
section ops
variable (E : Env)
def evO(x:Operand)(k:Sl→Pg):Pg:=
 match x with
 | .tmp t=>.rdS t fun s _=>k s
 | .const c=>match constSl c with|some s=>k s|none=>.fail
 | .func f=>k (.one (.fn f []) .pt)
 | .global _=>.fail
def look(l:Lo)(ver:Nat)(k:V→M→Wr→Wr→(V→Wr)→Pg):Pg:=
 match l with
 | .s t=>.rdS t fun s v=>match s with
   | .one x m=>.chk (v==ver) (k x m (.slot t .undef) (.keep t (.one x .ro)) fun y=>.val t y)
   |_=>.fail
 | .b b j=>.rdB b fun ob=>match ob with
   |some cs=>match cs[j]? with
    |some c=>.chk (c.ver==ver) (k c.v c.m (.cell b j ⟨.undef,.pr,c.ver+1,c.fix⟩) (.cell b j ⟨c.v,.ro,c.ver,c.fix⟩)
      fun y=>.cval b j y)
    |none=>.fail
   |none=>.fail
def M.meet:M→M→M
 | .pt,_|_,.pt=>.pt
 | .pr,m=>m
 |m,.pr=>m
 | .own a,.own b=>.own (a&&b)
 |_,_=>.ro
def meets(cs:List (V×M)):M:=cs.foldr (fun c m=>c.2.meet m) .pr
def val1(x:Operand)(k:V→Pg):Pg:=
 evO x fun s=>match s with
 | .one v m=>.chk (!m.isPt) (k v)
 | .many cs=>.chk (!cs.any (·.2.isPt)) (k (.agg (cs.map (·.1))))
 | .ref l ver=>look l ver fun v m _ _ _=>.chk (!m.isPt) (k v)
 |_=>.fail
def sink(take:Bool)(x:Operand)(k:List Wr→V→M→Pg):Pg:=
 match x with
 | .tmp t=>.rdS t fun s _=>match s with
   | .one v (.own d)=>k [.slot t .undef] v (.own d)
   | .one v m=>k [] v m
   | .many cs=>.chk (!cs.any (·.2.isPt)) (k [.slot t .undef] (.agg (cs.map (·.1))) (meets cs))
   | .ref l ver=>look l ver fun v m c f _=>match m with
     | .own d=>bif take then k [c] v (.own d)else k [f] v .ro
     |m=>k [] v m
   |_=>.fail
 |x=>evO x fun s=>match s with
  | .one v m=>k [] v m
  | .many cs=>.chk (!cs.any (·.2.isPt)) (k [] (.agg (cs.map (·.1))) (meets cs))
  |_=>.fail
def prim(u:UT)(v:V)(m:M)(k:V→M→Pg):Pg:=
 match u with
 | .int kd=>.asInt v fun k' n=>.chk (decide (k'=kd)) (k (.int kd n) .pr)
 | .string=>.asStr v fun s=>k (.str s) .pr
 | .bool=>.asBool v fun b=>k (.bool b) .pr
 | .slice _=>.asSl v fun z es=>k (.sl z es) m
 |_=>.chk v.isCell (k v m)
def prim1(u:UT)(v:V)(m:M)(k:V→M→Pg):Pg:=
 match u with
 | .slice _=>.asSl v fun z es=>k (.sl z es) m
 | .int _| .string| .bool=>prim u v m k
 |_=>.fail
def normC:List UT→List (V×M)→(List (V×M)→Pg)→Pg
 |u::us,(v,m)::r,k=>prim u v m fun v m=>normC us r fun q=>k ((v,m)::q)
 |_,_,k=>k []
def nilZ(x:Operand)(d:TyD):Option Nat:=
 match x,d.zv with
 | .const (.slice none 0 0),[(.sl z [],.own true)]=>some z
 |_,_=>none
def sinkC(take:Bool)(d:TyD)(x:Operand)(k:List Wr→List (V×M)→Pg):Pg:=
 bif d.agg then
  match x with
  | .tmp t=>.rdS t fun s _=>match s with
    | .many cs=>.chk (cs.length==d.size&&d.leafs.length==d.size) (normC d.leafs cs fun cs=>k [.slot t .undef] cs)
    | .one v m=>.cells d.size v fun l=>.chk (d.leafs.length==d.size) (normC d.leafs (l.map fun v=>(v,m)) fun cs=>k (bif m.isOwn then[.slot t .undef]else[]) cs)
    |_=>.fail
  |x=>evO x fun s=>match s with
   | .many cs=>.chk (cs.length==d.size&&d.leafs.length==d.size) (normC d.leafs cs fun cs=>k [] cs)
   |_=>.fail
 else match nilZ x d with
  |some z=>k [] [(.sl z [],.own true)]
  |none=>sink (take||d.deep) x fun ws v m=>prim d.under v m fun v m=>k ws [(v,m)]
def frzP(c:V×M):V×M:=match c.2 with| .own _=>(c.1,.ro)|_=>c
def frzSl(s:Sl):Sl:=match s with| .one v (.own _)=>.one v .ro|s=>s
def sinkF(fz take:Bool)(d:TyD)(x:Operand)(k:List Wr→List (V×M)→Pg):Pg:=sinkC take d x fun ws cs=>k ws (bif fz then cs.map frzP else cs)
def Wr.spot:Wr→Nat×Nat
 | .slot t _| .keep t _| .val t _=>(0,t)
 | .box b _| .cval b _ _| .cell b _ _=>(1,b)
def Wr.clash(a:List Wr)(b:List Wr):Bool:=a.any fun x=>b.any fun y=>x.spot==y.spot
def fieldsOf(d:TyD):List (Nat×TypeId):=match d.under with| .struct fs=>fs|_=>[]
def TyD.slE?(d:TyD):Option TypeId:=match d.under with| .slice e=>some e|_=>none
def TyD.elem?(d:TyD):Option TypeId:=match d.under with| .slice e=>some e| .array _ e=>some e|_=>none
def parts(tk:Bool)(place:Nat→Option (Nat×TyD)):List (Nat×Operand)→List Wr→List (V×M)→(List Wr→List (V×M)→Pg)→Pg
 | [],ws,cs,k=>k ws cs
 |(i,x)::r,ws,cs,k=>
  match place i with
  |some (off,d)=>sinkC tk d x fun w l=>.chk (!Wr.clash w ws&&decide (off+d.size≤cs.length)) (parts tk place r (ws++w) (cs.take off++l++cs.drop (off+d.size)) k)
  |none=>.fail
def primE(d:TyD)(v:V)(m:M)(k:V→M→Pg):Pg:=bif d.agg then .cells d.size v fun l=>k (.agg l) m else prim d.under v m k
def elems(d:TyD):Nat→List (Nat×Operand)→List Wr→List (V×M)→(List Wr→List (V×M)→Pg)→Pg
 |_,[],ws,es,k=>k ws es.reverse
 |n,(i,x)::r,ws,es,k=>
  .chk (i==n) (sink d.deep x fun w v m=>primE d v m fun v m=>.chk (!Wr.clash w ws&& !m.isPt) (elems d (n+1) r (ws++w) ((v,m)::es) k))
def M.solid:M→Bool| .pr| .own true=>true|_=>false
def allSolid(es:List (V×M)):Bool:=es.all fun c=>c.2.solid
def retype(t:TypeId)(s:Sl):Sl:=
 match s with
 | .one (.sl 0 []) m=>match (E.ty t).bind TyD.elem? with
   |some e=>match E.ty e with|some d=>.one (.sl d.size []) m|none=>s
   |none=>s
 |s=>s
def wDst(dst:Option Tmp)(s:Sl):List Wr:=match dst with|some t=>[.slot t s]|none=>[]
def mv(t:TypeId)(x:Operand)(k:List Wr→Sl→Pg):Pg:=
 match x with
 | .tmp t=>.rdHS t fun own ver=>bif own then k [] (.ref (.s t) ver)else .rdS t fun s _=>match s with
   | .one _ (.own _)=>.fail
   | .many cs=>bif cs.any (·.2.isOwn)then .fail else k [] (.many cs)
   | .tup vs=>k [.slot t .undef] (.tup vs)
   |s=>k [] s
 |x=>evO x fun s=>k [] (retype E t s)
def asg(take:Bool)(ty:TypeId)(x:Operand)(k:List Wr→Sl→Pg):Pg:=
 match x with
 | .tmp t=>.rdS t fun s _=>match s with
   | .many cs=>k [.slot t .undef] (.many cs)
   | .none=>k [] .none
   | .undef=>k [] .undef
   |_=>sink (take||((E.ty ty).map TyD.deep).getD false) (.tmp t) fun ws v m=>k ws (.one v m)
 |x=>evO x fun s=>k [] (retype E ty s)
def eqPrim(under:UT)(a b:V)(k:Bool→Pg):Pg:=
 match under with
 | .int kd=>.asInt a fun ka x=>.asInt b fun kb y=>.chk (decide (ka=kd)&&decide (kb=kd)) (k (x==y))
 | .string=>.asStr a fun x=>.asStr b fun y=>k (x.toList==y.toList)
 | .bool=>.asBool a fun x=>.asBool b fun y=>k (x==y)
 |_=>.fail
def eqLeafs:List UT→List V→List V→(Bool→Pg)→Pg
 | [],[],[],k=>k true
 |d::ds,a::as,b::bs,k=>eqPrim d a b fun r=>eqLeafs ds as bs fun q=>k (r&&q)
 |_,_,_,_=>.fail
def binI(op:BinOp)(k:IntKind)(x y:Int)(K:V→Pg):Pg:=
 match op with
 | .add=>K (.int k (k.wrap (x+y)))
 | .sub=>K (.int k (k.wrap (x-y)))
 | .mul=>K (.int k (k.wrap (x*y)))
 | .quo=>.chk (!(y==0)) (K (.int k (k.wrap (x.tdiv y))))
 | .rem=>.chk (!(y==0)) (K (.int k (x.tmod y)))
 | .and=>K (.int k (bits .and k x y))
 | .or=>K (.int k (bits .or k x y))
 | .xor=>K (.int k (bits .xor k x y))
 | .andNot=>K (.int k (bits .andNot k x y))
 | .eql=>K (.bool (x==y))
 | .neq=>K (.bool (x !=y))
 | .lss=>K (.bool (decide (x<y)))
 | .leq=>K (.bool (decide (x≤y)))
 | .gtr=>K (.bool (decide (x>y)))
 | .geq=>K (.bool (decide (x≥y)))
 |_=>.fail
def binV(op:BinOp)(d:TyD)(a b:V)(K:V→Pg):Pg:=
 match d.under with
 | .int k=>.asInt a fun ka x=>.chk (decide (ka=k)) (match op with
   | .shl=>.asInt b fun _ y=>.chk (decide (0≤y)) (K (.int k (k.wrap (x*2^(min y.toNat k.bits)))))
   | .shr=>.asInt b fun _ y=>.chk (decide (0≤y)) (K (.int k (x.fdiv (2^(min y.toNat k.bits)))))
   |op=>.asInt b fun kb y=>.chk (decide (kb=k)) (binI op k x y K))
 | .string=>.asStr a fun x=>.asStr b fun y=>match op with
   | .add=>.chk (decide (x.size+y.size≤4294967296)) (K (.str (x++y)))
   | .eql=>K (.bool (x.toList==y.toList))
   | .neq=>K (.bool (!(x.toList==y.toList)))
   |_=>.fail
 | .bool=>.asBool a fun x=>.asBool b fun y=>match op with
   | .eql=>K (.bool (x==y))
   | .neq=>K (.bool (!(x==y)))
   |_=>.fail
 |_=>.chk d.cmp<| .cells d.leafs.length a fun as=>.cells d.leafs.length b fun bs=>eqLeafs d.leafs as bs fun r=>match op with
  | .eql=>K (.bool r)
  | .neq=>K (.bool (!r))
  |_=>.fail
def unV(op:UnOp)(d:TyD)(a:V)(K:V→Pg):Pg:=
 match d.under with
 | .int k=>.asInt a fun ka x=>.chk (decide (ka=k)) (match op with
   | .neg=>K (.int k (k.wrap (0-x)))
   |_=>.fail)
 | .bool=>.asBool a fun x=>match op with| .not=>K (.bool (!x))|_=>.fail
 |_=>.fail
def readEl(d:TyD)(z:Nat)(e:V)(off:Nat)(k:Sl→Pg):Pg:=
 bif off==0&&d.size==z&&d.agg then .asAgg e fun cs=>k (.one (.agg cs) .ro)
 else bif d.agg then .chk (decide (off+d.size≤z))<| .cells z e fun cs=>k (.many (((cs.drop off).take d.size).map fun v=>(v,.ro)))
 else bif off==0&&z==1 then prim1 d.under e .ro fun v m=>k (.one v m)
 else .cells z e fun cs=>match cs[off]? with|some v=>prim d.under v .ro fun v m=>k (.one v m)|none=>.fail
def readElP(d:TyD)(z:Nat)(e:V)(off:Nat)(k:Sl→Pg):Pg:=
 let fin (v:V):Pg:=prim d.under v .ro fun v m=>match m with| .pr=>k (.one v .pr)|_=>.fail
 bif off==0&&z==1 then fin e
 else .cells z e fun cs=>match cs[off]? with|some v=>fin v|none=>.fail
def readElO(d:TyD)(z:Nat)(e:V)(off:Nat)(k:Sl→Pg):Pg:=
 .chk (decide (off+d.size≤z)&&d.leafs.length==d.size) (.cells z e fun cs=>normC d.leafs (((cs.drop off).take d.size).map fun v=>(v,.ro)) fun cs=>.chk (cs.length==d.size&&cs.all fun c=>match c.2 with| .pr=>true|_=>false) (k (.many cs)))
def Cell.pair(c:Cell):V×M:=(c.v,c.m)
def frz(c:Cell):Cell:=match c.m with| .own _=>{c with m:=.ro}|_=>c
def clr(c:Cell):Cell:=match c.m with| .own _=>⟨.undef,.pr,c.ver+1,c.fix⟩|_=>c
def loadP(take:Bool)(d:TyD)(a:Sl)(k:List Wr→Sl→Pg):Pg:=
 match a with
 | .one (.ptr b off) _=>.rdHB b off fun h=>bif !take&& !d.agg&&(match h with|some (o,_)=>o|none=>false)then(match h with|some (_,ver)=>k [] (.ref (.b b off) ver)|none=>.fail)else .rdB b fun ob=>match ob with
   |none=>.fail
   |some cs=>
    bif d.agg then
     .chk (decide (off+d.size≤cs.length)) (
     let part:=(cs.drop off).take d.size
     bif part.any (·.m.isOwn)then
      bif take||d.deep then k [.box b (some (cs.take off++part.map clr++cs.drop (off+d.size)))] (.many (part.map Cell.pair))
      else k [.box b (some (cs.take off++part.map frz++cs.drop (off+d.size)))] (.many (part.map (Cell.pair∘frz)))
     else k [] (.many (part.map Cell.pair)))
    else match cs[off]? with
     |none=>.fail
     |some c=>match c.m with
      | .own q=>bif take then k [.box b (some (cs.set off (clr c)))] (.one c.v (.own q))else .fail
      |m=>prim d.under c.v m fun v m=>k [] (.one v m)
 | .rptr z e off=>readEl d z e off fun s=>k [] s
 | .eref l ver i off=>look l ver fun v m _ _ kp=>.asSl v fun z es=>.nth es i fun e=>match m with
   | .own true=>
     bif d.agg then
      bif d.deep||take then .chk (off==0&&d.size==z) (.asAgg e fun cs=>k [kp (.sl z (es.set i .undef))] (.one (.agg cs) (.own true)))
      else readElO d z e off fun s=>k [] s
     else match d.under with
      | .slice _=>.chk (take||d.deep) (bif off==0&&z==1 then .asSl e fun z' es'=>k [kp (.sl z (es.set i .undef))] (.one (.sl z' es') (.own true))else .cells z e fun cs=>match cs[off]? with
        |some v=>k [kp (.sl z (es.set i (.agg (cs.set off .undef))))] (.one v (.own true))
        |none=>.fail)
      |_=>readElP d z e off fun s=>k [] s
   | .own false=>readEl d z e off fun s=>k [] s
   |_=>.fail
 |_=>.fail
def setCells(cs:Bx)(off:Nat):List (V×M)→Bx
 | []=>cs
 |(v,m)::r=>setCells (match cs[off]? with|some c=>cs.set off ⟨v,m,c.ver+1,c.fix⟩|none=>cs) (off+1) r
def okStored(deep:Bool)(cs:List (V×M)):Bool:= !deep||allSolid cs
def storeP(d:TyD)(a:Sl)(ws:List Wr)(cs:List (V×M))(k:List Wr→Pg):Pg:=
 match a with
 | .one (.ptr b off) _=>.rdB b fun ob=>match ob with
   |none=>.fail
   |some old=>.chk (decide (off+cs.length≤old.length)&&((old.drop off).take cs.length).all (fun c=> !c.fix)&& !Wr.clash ws [.box b none]) (k (ws++[.box b (some (setCells old off cs))]))
 | .aptr b off n i=>.rdB b fun ob=>match ob with
   |none=>.fail
   |some old=>match cs with
    | [(v,.pr)]=>.chk (decide (off+n≤old.length)&&((old.drop off).take n).all (fun c=> !c.fix&&(match c.m with| .pr=>true|_=>false))&& !Wr.clash ws [.box b none])
      (k (ws++[.box b (some (old.take off++(((old.drop off).take n).zipIdx.map fun(c,j)=>{c with v:=bif j==i then v else c.v,ver:=c.ver+1})++old.drop (off+n)))]))
    |_=>.fail
 | .eref l ver i off=>look l ver fun v m _ _ kp=>match m with
   | .own dp=>.chk (okStored dp cs&& !cs.any (·.2.isPt)&& !Wr.clash ws [kp .undef]) (.asSl v fun z es=>.nth es i fun e=>
     bif off==0&&d.size==z&&d.agg then k (ws++[kp (.sl z (es.set i (.agg (cs.map (·.1)))))])
     else bif off==0&&z==1&& !d.agg then match cs with
      | [(v',_)]=>k (ws++[kp (.sl z (es.set i v'))])
      |_=>.fail
     else .cells z e fun old=>.chk (decide (off+cs.length≤old.length)) (k (ws++[kp (.sl z (es.set i (.agg (old.take off++cs.map (·.1)++old.drop (off+cs.length)))))])))
   |_=>.fail
 |_=>.fail
def indexA(td:TyD)(ed:TyD)(x:Operand)(ix:Operand)(k:Sl→Pg):Pg:=
 val1 ix fun iv=>.asInt iv fun _ n=>
  match td.under with
  | .slice _=>match x with
    | .tmp t=>.rdS t fun s ver=>match s with
      | .one v (.own _)=>.asSl v fun z es=>.chk (z==ed.size&&decide (0≤n)&&decide (n<es.length)) (k (.eref (.s t) ver n.toNat 0))
      | .one v _=>.asSl v fun z es=>.chk (z==ed.size&&decide (0≤n)&&decide (n<es.length)) (.nth es n.toNat fun e=>k (.rptr ed.size e 0))
      | .ref l ver=>look l ver fun v m _ _ _=>.asSl v fun z es=>.chk (z==ed.size&&decide (0≤n)&&decide (n<es.length)) (match m with
        | .own _=>k (.eref l ver n.toNat 0)
        |_=>.nth es n.toNat fun e=>k (.rptr ed.size e 0))
      |_=>.fail
    |_=>.fail
  | .array len _=>evO x fun s=>match s with
    | .one (.ptr b off) _=>.chk (ed.size==1&&decide (0≤n)&&decide (n<len)) (k (.aptr b off len n.toNat))
    |_=>.fail
  |_=>.fail
def srefP(x:Operand)(lo hi:Option Operand)(ed:TyD)(k:Sl→Pg):Pg:=
 match lo,hi with
 |some lo,none=>val1 lo fun iv=>.asInt iv fun _ n=>match x with
  | .tmp t=>.rdS t fun s ver=>match s with
    | .one v (.own _)=>.asSl v fun z es=>.chk (z==ed.size&&decide (0≤n)&&decide (n<es.length)) (k (.sref (.s t) ver n.toNat))
    | .ref l ver=>look l ver fun v m _ _ _=>.asSl v fun z es=>.chk (z==ed.size&&decide (0≤n)&&decide (n<es.length)) (match m with
      | .own _=>k (.sref l ver n.toNat)
      |_=>.fail)
    |_=>.fail
  |_=>.fail
 |_,_=>.fail
def curr(l:Lo)(ver:Nat)(k:Pg):Pg:=
 match l with
 | .s t=>.rdHS t fun _ v=>.chk (v==ver) k
 | .b b j=>.rdHB b j fun h=>match h with|some (_,v)=>.chk (v==ver) k|none=>.fail
def fieldA(off:Nat)(s:Sl)(k:Sl→Pg):Pg:=
 match s with
 | .one (.ptr b o) _=>k (.one (.ptr b (o+off)) .pt)
 | .eref l v i o=>curr l v (k (.eref l v i (o+off)))
 | .rptr z e o=>k (.rptr z e (o+off))
 |_=>.fail
def appArg(z:Nat)(x:Operand)(k:List Wr→List V→Bool→Pg):Pg:=
 match x with
 | .tmp t=>sink true (.tmp t) fun ws v m=>match m with
   | .own d=>.asSl v fun z' es=>.chk (z'==z) (k ws es d)
   |_=>.fail
 | .const (.slice none 0 0)=>k [] [] true
 |_=>.fail
def solidO(y:Operand)(k:Bool→Pg):Pg:=
 match y with
 | .tmp t=>.rdS t fun s _=>match s with
   | .one _ m=>k m.solid
   |_=>k false
 |_=>k false
def outsOf(ms:List (M×Kd))(l:List V):List (V×M):=l.zip (ms.map (·.1))
def Lo.spot:Lo→Nat×Nat
 | .s t=>(0,t)
 | .b n _=>(1,n)
def lookAll:List (Lo×Nat)→(List V→Pg)→Pg
 | [],k=>k []
 |p::ps,k=>look p.1 p.2 fun v m _ _ _=>.chk (!m.isPt&& !v.isAgg) (lookAll ps fun vs=>k (v::vs))
def hdrs(b:Nat):Nat→Nat→(List (Lo×Nat)→Pg)→Pg
 |_,0,k=>k []
 |off,n+1,k=>.rdHB b off fun h=>match h with
  |some (_,ver)=>hdrs b (off+1) n fun ps=>k ((.b b off,ver)::ps)
  |none=>.fail
def lend(x:Operand)(k:List (Nat×Nat)→V→Pg):Pg:=
 evO x fun s=>match s with
 | .one v m=>.chk (!m.isPt) (match x with| .tmp t=>k (bif m.isOwn then[(0,t)]else[]) v|_=>k [] v)
 | .many cs=>.chk (!cs.any (·.2.isPt)) (match x with| .tmp t=>k [(0,t)] (.agg (cs.map (·.1)))|_=>k [] (.agg (cs.map (·.1))))
 | .ref l ver=>look l ver fun v m _ _ _=>.chk (!m.isPt) (k (bif m.isOwn then[l.spot]else[]) v)
 | .aref ps=>lookAll ps fun vs=>k (ps.map fun p=>p.1.spot) (.agg vs)
 |_=>.fail
def nilAs(kd:Kd)(x:Operand)(v:V):V:=
 match kd,x,v with
 | .sl z,.const (.slice none _ _),.sl _ []=>.sl z []
 |_,_,v=>v
def capsP:List (Nat×Nat)→List V→List (Nat×Nat)→(List (Nat×Nat)→Pg)→Pg
 | [],[],bs,k=>k bs
 |(b,off)::cs,v::vs,bs,k=>match v with
  | .ptr b' off'=>.chk (off==off') (match bs.lookup b with
    |some c=>.chk (c==b') (capsP cs vs bs k)
    |none=>.chk (!bs.any fun p=>p.2==b') (capsP cs vs (bs++[(b,b')]) k))
  |_=>.fail
 |_,_,_,_=>.fail
def args(esc:Bool):List PS→List Operand→List (Nat×Nat)→List Wr→List (Nat×Nat)→List V→(List (Nat×Nat)→List Wr→List (Nat×Nat)→List V→Pg)→Pg
 | [],[],bs,ws,ls,vs,k=>k bs ws ls vs.reverse
 | .ptr b off::ps,x::xs,bs,ws,ls,vs,k=>evO x fun s=>match s with
   | .one (.ptr b' off') _=>.chk (off==off') (match bs.lookup b with
     |some c=>.chk (c==b') (args esc ps xs bs ws ls vs k)
     |none=>.chk (!bs.any fun p=>p.2==b') (args esc ps xs (bs++[(b,b')]) ws ls vs k))
   |_=>.fail
 | .val .pr _::ps,x::xs,bs,ws,ls,vs,k=>evO x fun s=>match s with
   | .one v .pr=>args esc ps xs bs ws ls (v::vs) k
   | .ref l ver=>look l ver fun v m _ _ _=>match m with| .pr=>args esc ps xs bs ws ls (v::vs) k|_=>.fail
   |_=>.fail
 | .val (.own d) kd::ps,x::xs,bs,ws,ls,vs,k=>sink true x fun w v m=>.chk (!Wr.clash w ws&&(match m with| .pr=>true| .own d'=>d'|| !d|_=>false)) (args esc ps xs bs (ws++w) ls (nilAs kd x v::vs) k)
 | .val .ro kd::ps,x::xs,bs,ws,ls,vs,k=>
   bif esc then sink false x fun w v m=>.chk (!Wr.clash w ws&& !m.isPt) (args esc ps xs bs (ws++w) ls (nilAs kd x v::vs) k)
   else lend x fun l v=>args esc ps xs bs ws (l++ls) (nilAs kd x v::vs) k
 | .clo f cs::ps,x::xs,bs,ws,ls,vs,k=>evO x fun s=>match s with
   | .one (.fn f' caps) _=>.chk (f==f') (capsP cs caps bs fun bs=>args esc ps xs bs ws ls vs k)
   |_=>.fail
 |_,_,_,_,_,_,_=>.fail
def boxCells(esc:Bool):List PS→Bx→List (Nat×Nat)→List V→Bx→(List (Nat×Nat)→List V→Bx→Pg)→Pg
 | [],[],bs,vs,nb,k=>k bs vs nb.reverse
 |p::ps,c::cs,bs,vs,nb,k=>
  match p with
  | .ptr b off=>match c.v with
    | .ptr b' off'=>.chk (off==off') (match bs.lookup b with
      |some x=>.chk (x==b') (boxCells esc ps cs bs vs (c::nb) k)
      |none=>.chk (!bs.any fun p=>p.2==b') (boxCells esc ps cs (bs++[(b,b')]) vs (c::nb) k))
    |_=>.fail
  | .clo _ _=>.fail
  | .fix _=>.chk (!c.m.isPt)<|boxCells esc ps cs bs (c.v::vs) ((bif esc then frz c else c)::nb) k
  | .val m _=>.chk (c.m.gives m&& !c.fix)
      (boxCells esc ps cs bs (c.v::vs) (⟨.undef,m,c.ver+1,c.fix⟩::nb) k)
 |_,_,_,_,_,_=>.fail
def boxesIn(esc:Bool):Nat→List (List PS)→List (Nat×Nat)→List V→List (Nat×Bx×List PS)→(List V→List (Nat×Bx×List PS)→Pg)→Pg
 |n,[],bs,vs,nbs,k=>.chk (bs.all fun p=>decide (p.1<n)) (k vs nbs.reverse)
 |n,ps::r,bs,vs,nbs,k=>match bs.lookup n with
  |none=>.fail
  |some b'=>.rdB b' fun ob=>match ob with
   |none=>.fail
   |some cs=>boxCells esc ps cs bs [] [] fun bs vs' nb=>boxesIn esc (n+1) r bs (vs++vs'.reverse) ((b',nb,ps)::nbs) k
def fillB:List PS→Bx→List V→Bx×List V
 | .val _ _::ps,c::cs,v::vs=>let (b,r):=fillB ps cs vs;({c with v}::b,r)
 |_::ps,c::cs,vs=>let (b,r):=fillB ps cs vs;(c::b,r)
 |_,_,vs=>([],vs)
def fillBs:List (Nat×Bx×List PS)→List V→List Wr
 | [],_=>[]
 |(b,nb,ps)::r,vs=>let (x,q):=fillB ps nb vs; .box b (some x)::fillBs r q
def PS.isVal:PS→Bool| .val _ _=>true|_=>false
def keepB(esc:Bool)(nbs:List (Nat×Bx×List PS)):List (Nat×Bx×List PS):=bif esc then nbs else nbs.filter fun p=>p.2.2.any PS.isVal
def valKs:List PS→List Kd
 | []=>[]
 | .val _ kd::r=>kd::valKs r
 |_::r=>valKs r
def ptrsP:List PS→Option (List (Nat×Nat))
 | []=>some []
 | .ptr b off::r=>(ptrsP r).map ((b,off):: ·)
 |_=>none
def rf(f:FuncId):FuncId:=f % 65536
def callP(f:FuncId)(xs:List Operand)(caps:List V)(dst:Option Tmp):Pg:=
 match E.sig f,(E.sig f).bind fun g=>ptrsP (g.params.drop xs.length)with
 |some g,some cps=>.chk (!g.pan&& !g.io)<|
  let esc:= !((g.outs.all fun m=>m.1.solid)&&g.boxes.all fun ps=>ps.all fun p=>match p with| .val m _=>m.solid|_=>true)
  args esc (g.params.take xs.length) xs [] [] [] [] fun bs ws ls vs=>capsP cps caps bs fun bs=>boxesIn esc 0 g.boxes bs vs [] fun vs nbs=>
   .chk (!(ws.any fun w=>nbs.any (fun p=>w.spot==(1,p.1))||ls.contains w.spot)&& !(nbs.any fun p=>ls.contains (1,p.1))) (
   .call f vs (g.outs.map (·.2)++g.boxes.flatMap valKs) fun o=>
     .ret (ws++fillBs (keepB esc nbs) (o.drop g.outs.length)++match dst with
       |none=>[]
       |some t=>match outsOf g.outs (o.take g.outs.length)with
        | []=>[.slot t .undef]
        | [(v,m)]=>[.slot t (.one v m)]
        |l=>[.slot t (.tup l)]))
 |_,_=>.fail
def callIO(f:FuncId)(xs:List Operand)(dst:Option Tmp):Pg:=
 match xs with
 | [.tmp t]=>.rdS t fun s _=>match s with
   | .one v (.own true)=>.asSl v fun z es=>.chk (z==1) (.call f [.sl 1 es] [.sl 1] fun o=>match o with
     | [v']=>.ret (.val t v'::wDst dst .undef)
     |_=>.fail)
   | .ref l ver=>look l ver fun v m _ _ kp=>match m with
     | .own true=>.asSl v fun z es=>.chk (z==1) (.call f [.sl 1 es] [.sl 1] fun o=>match o with
       | [v']=>.ret (kp v'::wDst dst .undef)
       |_=>.fail)
     |_=>.fail
   |_=>.fail
 |_=>.fail
def Kd.zero:Kd→V
 | .int k=>.int k 0
 | .bool=>.bool false
 | .str=>.str ⟨#[]⟩
 | .sl z=>.sl z []
 |_=>.undef
def panW(n:Int):Wr:=.slot 4095 (.one (.int .i64 n) .pr)
def nopW:Wr:=.slot 4095 .undef
def callQ(f:FuncId)(xs:List Operand)(dst:Option Tmp):Pg:=
 match E.sig f,(E.sig f).bind fun g=>ptrsP (g.params.drop xs.length)with
 |some g,some cps=>.chk (g.pan&& !g.io)<|
  let esc:= !((g.outs.all fun m=>m.1.solid)&&g.boxes.all fun ps=>ps.all fun p=>match p with| .val m _=>m.solid|_=>true)
  args esc (g.params.take xs.length) xs [] [] [] [] fun bs ws ls vs=>capsP cps [] bs fun bs=>boxesIn esc 0 g.boxes bs vs [] fun vs nbs=>
   .chk (!(ws.any fun w=>nbs.any (fun p=>w.spot==(1,p.1))||ls.contains w.spot)&& !(nbs.any fun p=>ls.contains (1,p.1))) (
   .call f vs (.bool:: .int .i64::(g.outs.map (·.2)++g.boxes.flatMap valKs)) fun o=>match o with
     |p::e::o=>.asBool p fun b=>.asInt e fun _ n=>.ite b (.ret (panW n::(ws++fillBs nbs (o.drop g.outs.length))))
      (.ret (nopW::(ws++fillBs nbs (o.drop g.outs.length)++match dst with
        |none=>[]
        |some t=>match outsOf g.outs (o.take g.outs.length)with
         | []=>[.slot t .undef]
         | [(v,m)]=>[.slot t (.one v m)]
         |l=>[.slot t (.tup l)])))
     |_=>.fail)
 |_,_=>.fail
def capsO:List Operand→(List V→Pg)→Pg
 | [],k=>k []
 |x::xs,k=>evO x fun s=>match s with
  | .one (.ptr b off) _=>capsO xs fun vs=>k (.ptr b off::vs)
  |_=>.fail
def mapIB(t:TypeId):Bool:=match E.ty t with
 |some d=>match d.under with
  | .map k e=>match E.ty k,E.ty e with
    |some dk,some de=>match dk.under,de.under with
     | .int .i64,.bool=>true
     |_,_=>false
    |_,_=>false
  |_=>false
 |none=>false
def opPg(rid i:Nat)(o:Oper):Pg:=
 let tk:=E.take rid i
 let ret (ws:List Wr) (s:Sl):Pg:=.ret (ws++wDst o.dst s)
 match o.op with
 | .move x=>mv E o.type x fun ws s=>ret ws s
 | .assign x=>bif Nat.beq (E.vari rid i) 2 then(match E.ty o.type with
     |some d=>(match nilZ x d with|some z=>ret [] (.one (.sl z []) (.own true))|none=>.fail)
     |none=>.fail)else asg E tk o.type x fun ws s=>ret ws (bif Nat.beq (E.vari rid i) 1 then frzSl s else s)
 | .alloc t=>match E.ty t,o.dst with
   |some d,some t'=>.rdB (E.base+t') fun ob=>match ob with
    |none=>.ret [.box (E.base+t') (some (d.zv.map fun c=>⟨c.1,c.2,0,false⟩)),.slot t' (.one (.ptr (E.base+t') 0) .pt)]
    |some _=>.fail
   |_,_=>.fail
 | .box t x=>match E.ty t,o.dst with
   |some d,some t'=>.rdB (E.base+t') fun ob=>match ob with
    |none=>sinkF (Nat.beq (E.vari rid i) 1) tk d x fun ws cs=>.ret (ws++[.box (E.base+t') (some (cs.map fun c=>⟨c.1,c.2,0,false⟩)),.slot t' (.one (.ptr (E.base+t') 0) .pt)])
    |some _=>.fail
   |_,_=>.fail
 | .build t ps=>match E.ty t with
   |some d=>match d.under with
    | .struct fs=>parts tk (fun i=>match fs[i]? with|some f=>(E.ty f.2).map fun d=>(f.1,d)|none=>none) ps.toList [] d.zv fun ws cs=>ret ws (.many cs)
    | .array _ e=>match E.ty e with|some ed=>parts tk (fun i=>some (i*ed.size,ed)) ps.toList [] d.zv fun ws cs=>ret ws (.many cs)|none=>.fail
    |_=>.fail
   |none=>.fail
 | .buildSlice t n ps=>match E.ty t with
   |some d=>match d.slE?.bind E.ty with
    |some e=>.chk (ps.size==n&& !(e.size==0)&&decide (n*e.size≤16777216)) (elems e 0 ps.toList [] [] fun ws es=>ret ws (.one (.sl e.size (es.map (·.1))) (.own (allSolid es))))
    |none=>.fail
   |none=>.fail
 | .load t a=>match E.ty t with
   |some d=>bif Nat.beq (E.vari rid i) 5 then evO a fun s=>match s with
     | .one (.ptr b off) _=>.chk (d.agg&& !(d.size==0)) (hdrs b off d.size fun ps=>ret [] (.aref ps))
     |_=>.fail
    else evO a fun s=>match s with
    | .aptr b off n i=>.rdB b fun ob=>match ob with
      |some cs=>.chk (decide (off+n≤cs.length)&& !d.agg&&((cs.drop off).take n).all (fun c=>match c.m with| .pr=>true|_=>false)) (.nth (((cs.drop off).take n).map (·.v)) i fun v=>ret [] (.one v .pr))
      |none=>.fail
    |s=>loadP tk d s fun ws s=>ret ws s
   |none=>.fail
 | .store t a x=>match E.ty t with
   |some d=>.chk o.dst.isNone (evO a fun s=>sinkF (Nat.beq (E.vari rid i) 1) tk d x fun ws cs=>storeP d s ws cs fun ws=>.ret ws)
   |none=>.fail
 | .nilCheck x=>evO x fun s=>match s with
   | .one (.ptr b off) m=>bif Nat.ble 16 (E.vari rid i)then .rdB b fun ob=>match ob.bind (·[E.vari rid i-16]?)with
       |some c=>look (.b b (E.vari rid i-16)) c.ver fun v md _ f _=>match md with
        | .own _=>ret [f] (.one (.ptr b off) m)
        |_=>.fail
       |none=>.fail
     else ret [] (.one (.ptr b off) m)
   | .eref l v i off=>curr l v (ret [] (.eref l v i off))
   | .rptr z e off=>ret [] (.rptr z e off)
   |_=>.fail
 | .binOp op t x y _=>match E.ty t with
   |some d=>val1 x fun a=>val1 y fun b=>binV op d a b fun v=>ret [] (.one v .pr)
   |none=>.fail
 | .unOp op t x=>match E.ty t with
   |some d=>val1 x fun a=>unV op d a fun v=>ret [] (.one v .pr)
   |none=>.fail
 | .convert s t x=>match E.ty s,E.ty t with
   |some ds,some d=>val1 x fun a=>match ds.under,d.under with
    | .int _,.int k=>.asInt a fun _ n=>ret [] (.one (.int k (k.wrap n)) .pr)
    | .slice e,.string=>match (E.ty e).map TyD.under with
      |some (.int .u8)=>.asSl a fun _ es=>.bytes es fun l=>ret [] (.one (.str ⟨l.toArray⟩) .pr)
      |_=>.fail
    |_,_=>.fail
   |_,_=>.fail
 | .fieldAddr t x i=>match E.ty t with
   |some d=>match (fieldsOf d)[i]? with
    |some f=>match E.ty f.2 with
     |some fd=>.chk (!(fd.size==0)) (evO x fun s=>fieldA f.1 s fun s=>ret [] s)
     |none=>.fail
    |none=>.fail
   |none=>.fail
 | .indexAddr t x ix=>match E.ty t with
   |some d=>match d.elem?.bind E.ty with
    |some e=>indexA d e x ix fun s=>ret [] s
    |none=>.fail
   |none=>.fail
 | .index t x ix=>match E.ty t with
   |some d=>val1 ix fun iv=>.asInt iv fun _ n=>match d.under with
    | .string=>val1 x fun v=>.asStr v fun s=>.chk (decide (0≤n)&&decide (n<s.size)) (ret [] (.one (.int .u8 ((s.data.toList.getD n.toNat 0).toNat:Int)) .pr))
    | .array len e=>match E.ty e with
      |some ed=>evO x fun s=>match s with
       | .many cs=>.chk (ed.size==1&& !ed.agg&&cs.all (fun c=>match c.2 with| .pr=>true|_=>false)&&decide (0≤n)&&decide (n<len)) (.nth (cs.map (·.1)) n.toNat fun v=>ret [] (.one v .pr))
       |_=>.fail
      |none=>.fail
    |_=>.fail
   |none=>.fail
 | .slice t x lo hi none=>match E.ty t with
   |some d=>match d.under with
    | .string=>val1 x fun v=>.asStr v fun s=>
      let go (h:Int):Pg:=match lo with
       |some l=>val1 l fun lv=>.asInt lv fun _ l=>.chk (decide (0≤l)&&decide (l≤h)&&decide (h≤s.size)) (ret [] (.one (.str (s.extract l.toNat h.toNat)) .pr))
       |none=>.chk (decide (0≤h)&&decide (h≤s.size)) (ret [] (.one (.str (s.extract 0 h.toNat)) .pr))
      match hi with
      |some h=>val1 h fun hv=>.asInt hv fun _ h=>go h
      |none=>go s.size
    | .slice e=>match E.ty e with|none=>.fail|some ed=>bif Nat.beq (E.vari rid i) 4 then srefP x lo hi ed fun s=>ret [] s else sink (tk||d.deep) x fun ws v m=>.asSl v fun z es=>.chk (z==ed.size)<|
      let go (h:Int):Pg:=match lo with
       |some l=>val1 l fun lv=>.asInt lv fun _ l=>.chk (decide (0≤l)&&decide (l≤h)&&decide (h≤es.length)) (ret ws (.one (.sl z ((es.take h.toNat).drop l.toNat)) m))
       |none=>.chk (decide (0≤h)&&decide (h≤es.length)) (ret ws (.one (.sl z (es.take h.toNat)) m))
      match hi with
      |some h=>val1 h fun hv=>.asInt hv fun _ h=>go h
      |none=>go es.length
    |_=>.fail
   |none=>.fail
 | .makeSlice t l c=>match E.ty t with
   |some d=>match d.slE?.bind E.ty with
    |some e=>val1 l fun lv=>.asInt lv fun _ n=>val1 c fun cv=>.asInt cv fun _ m=>
     .chk (!(e.size==0)&&decide (e.bytes≤4096)&&decide (0≤n)&&decide (n≤m)&&decide (m≤1073741824)) (ret [] (.one (.sl e.size (List.replicate n.toNat (bif e.agg then .agg (e.zv.map (·.1))else(e.zv.map (·.1)).headD .undef))) (.own true)))
    |none=>.fail
   |none=>.fail
 | .field t x n=>match E.ty t with
   |some d=>match (fieldsOf d)[n]? with
    |some f=>match E.ty f.2 with
     |some fd=>evO x fun s=>match s with
      | .one v .ro=>.asAgg v fun cs=>.chk fd.agg (ret [] (.one (.agg ((cs.drop f.1).take fd.size)) .ro))
      |_=>.fail
     |none=>.fail
    |none=>.fail
   |none=>.fail
 | .makeMap t r=>match r with
   |none=>ret [] (.one (.mp []) (.own true))
   |some _=>.fail
 | .lookup t x ix ok=>.chk (mapIB E t) (val1 x fun v=>.asMp v fun es=>val1 ix fun iv=>.asInt iv fun k n=>.chk (decide (k= .i64)) (ret [] (bif ok then .tup [(.bool ((mpGet es n).getD false),.pr),(.bool (mpGet es n).isSome,.pr)]else .one (.bool ((mpGet es n).getD false)) .pr)))
 | .mapUpdate t x ix y=>.chk (o.dst.isNone&&mapIB E t) (val1 ix fun iv=>.asInt iv fun k n=>.chk (decide (k= .i64)) (val1 y fun yv=>.asBool yv fun b=>match x with
   | .tmp u=>.rdS u fun s _=>match s with
     | .one v (.own _)=>.asMp v fun es=>.ret [.val u (.mp (mpPut es n b))]
     | .ref l ver=>look l ver fun v m _ _ kp=>match m with
       | .own _=>.asMp v fun es=>.ret [kp (.mp (mpPut es n b))]
       |_=>.fail
     |_=>.fail
   |_=>.fail))
 | .makeFunc fn first cp=>match fn with
   | .func f=>.chk first.toList.isEmpty (capsO cp.toList fun vs=>ret [] (.one (.fn f vs) .pt))
   |_=>.fail
 | .pick c a b=>val1 c fun cv=>.asBool cv fun q=>.ite q (mv E o.type a fun ws s=>ret ws s) (mv E o.type b fun ws s=>ret ws s)
 | .extract x i=>match x with
   | .tmp t=>.rdS t fun s _=>match s with
     | .tup vs=>match vs[i]? with
       |some (v,m)=>bif m.isOwn then ret [.keep t (.tup (vs.set i (.undef,.pt)))] (.one v m)else .chk (!m.isPt) (ret [] (.one v m))
       |none=>.fail
     |_=>.fail
   |_=>.fail
 | .call c=>match c.callee with
   | .builtin .len=>match c.args.toList,(c.argTypes[0]?).bind E.ty with
     | [x],some d=>match d.under with
       | .slice _=>val1 x fun v=>.asSl v fun _ es=>ret [] (.one (.int .i64 es.length) .pr)
       | .string=>val1 x fun v=>.asStr v fun s=>ret [] (.one (.int .i64 s.size) .pr)
       | .array n _=>ret [] (.one (.int .i64 n) .pr)
       |_=>.fail
     |_,_=>.fail
   | .builtin .append=>match c.args.toList,(c.argTypes[0]?).bind E.ty with
     | [x,y],some d=>match d.slE?.bind E.ty with
       |some e=>.chk (decide (e.bytes≤4096)&& !(e.size==0)&&(((c.argTypes[1]?).bind E.ty).bind TyD.slE?).isSome) (appArg e.size x fun ws es q=>
        solidO y fun solid=>sink solid y fun w v m=>.asSl v fun z es'=>.chk (z==e.size&& !m.isPt&& !Wr.clash w ws&&decide (es.length+es'.length≤1073741824)) (bif Nat.beq (E.vari rid i) 3 then .chk (flats es') (ret (ws++w) (.one (.sl e.size (es++es')) (.own q)))else ret (ws++w) (.one (.sl e.size (es++es')) (.own (q&&m.solid)))))
       |none=>.fail
     |_,_=>.fail
   | .builtin .clear=>match c.args.toList,(c.argTypes[0]?).bind E.ty with
     | [x],some d=>match d.slE?.bind E.ty with
       |some e=>match e.zv with
        | [(.int k n,.pr)]=>evO x fun s=>match s with
          | .sref l ver lo=>look l ver fun v m _ _ kp=>match m with
            | .own _=>.asSl v fun z es=>.chk (z==1&&decide (lo≤es.length)) (.ret (kp (.sl z (es.take lo++List.replicate (es.length-lo) (.int k n)))::wDst o.dst .undef))
            |_=>.fail
          |_=>.fail
        |_=>.fail
       |none=>.fail
     |_,_=>.fail
   | .builtin .min=>match c.args.toList with
     | [x,y]=>val1 x fun a=>val1 y fun b=>.asInt a fun k m=>.asInt b fun k' n=>.chk (decide (k=k')) (ret [] (.one (.int k (bif decide (n<m)then n else m)) .pr))
     |_=>.fail
   | .builtin .max=>match c.args.toList with
     | [x,y]=>val1 x fun a=>val1 y fun b=>.asInt a fun k m=>.asInt b fun k' n=>.chk (decide (k=k')) (ret [] (.one (.int k (bif decide (m<n)then n else m)) .pr))
     |_=>.fail
   | .value (.func f)=>bif Nat.beq (E.vari rid i) 1005 then(match E.sig f with
       |some g=>.chk (g.io&&Nat.blt f 65536) (callIO f c.args.toList o.dst)
       |none=>.fail)
     else .chk (Nat.blt f 65536) (callP E (f+65536*E.vari rid i) c.args.toList [] o.dst)
   | .value (.tmp t)=>.rdS t fun s _=>match s with
     | .one (.fn f caps) _=>.chk (Nat.blt f 65536) (callP E (f+65536*E.vari rid i) c.args.toList caps o.dst)
     |_=>.fail
   |_=>.fail
 |_=>.fail
def apart(before:List Nat):List (Nat×Nat×Nat)→Bool
 | []=>true
 |(i,ri,wi)::r=>(r.all fun(j,rj,wj)=>Nat.testBit (before.getD i 0) j||(((wi &&&(rj|||wj))==0)&&((wj &&& ri)==0)))&&apart before r
def edgesBack(ops:List Oper):Bool:=ops.zipIdx.all fun(o,i)=>o.after.toList.all fun e=> !Region.binds .any e||decide (e.on<i)
def maskOf(acc:List Nat):List Edge→Nat
 | []=>0
 |e::es=>(bif Region.binds .any e then 2^e.on|||acc.getD e.on 0 else 0)|||maskOf acc es
def befs:List Oper→List Nat→List Nat
 | [],acc=>acc
 |o::r,acc=>forceN (maskOf acc o.after.toList) fun m=>befs r (acc++[m])
section exec
variable {R : Type}
def St.knows(S:St)(t:Nat)(m:M)(b:Bool):St:={S with tmps:=S.tmps.set t (.one (.bool b) m,(S.sl t).2)}
def St.knowsK{β:Type}(S:St)(t:Nat)(m:M)(b:Bool)(K:St→β):β:=forceN (S.sl t).2 fun v=>setK S.tmps t (.one (.bool b) m,v) fun ts=>K ⟨ts,S.boxes⟩
def oneOp(G:FuncId→List V→(List V→Option R)→Option R)(rid i:Nat)(o:Oper)(run:Bool)(S:St)(rm:Nat)(K:St→Nat→Nat→Option R):Option R:=
 (bif run then opPg E rid i o else .ret (wDst o.dst .none)).run G S rm fun ws rm=>
   Wr.appsK ws S fun S=>forceN rm fun rm=>forceN (Wr.bits ws) fun wm=>K S rm wm
def guardedOp(G:FuncId→List V→(List V→Option R)→Option R)(ops:Array Oper)(rid i:Nat)(o:Oper)(S:St)(K:St→Nat→Nat→Option R):Option R:=
 match o.guard with
 |none=>oneOp E G rid i o true S 0 K
 |some (j,want)=>match (ops[j]?).bind (·.dst)with
  |some t=>match (S.sl t).1 with
   | .one v m=>v.asBool fun b=>bif b then S.knowsK t m true fun S=>oneOp E G rid i o want S (sbit t|||shbit t) K else S.knowsK t m false fun S=>oneOp E G rid i o (!want) S (sbit t|||shbit t) K
   | .none=>oneOp E G rid i o false S (sbit t|||shbit t) K
   |_=>none
  |none=>none
def runOps(G:FuncId→List V→(List V→Option R)→Option R)(ops:Array Oper)(rid:Nat):List Nat→St→List (Nat×Nat×Nat)→(St→List (Nat×Nat×Nat)→Option R)→Option R
 | [],S,tr,K=>K S tr
 |i::rest,S,tr,K=>match ops[i]? with
  |none=>none
  |some o=>guardedOp E G ops rid i o S fun S rm wm=>runOps G ops rid rest S ((i,rm,wm)::tr) K
inductive Ex where
 |normal|exit (id:Nat)|ret|pan (n:Int)
 deriving Inhabited
def panF(o:Oper):Option (FuncId×List Operand):=
 match o.guard,o.op with
 |none,.call c=>match c.callee with
  | .value (.func f)=>match E.sig f with
    |some g=>bif g.pan&&Nat.blt f 65536 then some (f,c.args.toList)else none
    |none=>none
  |_=>none
 |_,_=>none
def throwOK(t t':Nat)(T:TypeId):Bool:=Nat.beq t t'&&Nat.beq T E.panT&&(match E.ty T with|some d=>(match d.under with| .int .i64=>true|_=>false)|none=>false)
def mkP(o:Oper)(o2:Option Oper):Option (Operand×Nat):=
 match o.guard,o.op,o.dst,o2 with
 |none,.makeInterface T x,some t,some p=>match p.guard,p.op with
  |none,.panic (.tmp t')=>bif throwOK E t t' T then some (x,t)else none
  |_,_=>none
 |_,_,_,_=>none
def throwP(x:Operand)(t:Nat):Pg:=val1 x fun v=>.asInt v fun k n=>.chk (decide (k= .i64)) (.ret [panW n,.slot t .undef])
def marked{β:Type}(ws:List Wr)(S:St)(K:Option Int→St→Option β):Option β:=
 match ws with
 | .slot _ (.one (.int _ n) _)::ws=>Wr.appsK ws S fun S=>K (some n) S
 | .slot _ .undef::ws=>Wr.appsK ws S fun S=>K none S
 |_=>none
def runSeq(G:FuncId→List V→(List V→Option R)→Option R)(ops:Array Oper)(rid:Nat):List Nat→St→(Option Int→St→Option R)→Option R
 | [],S,K=>K none S
 |i::rest,S,K=>match ops[i]? with
  |none=>none
  |some o=>match panF E o with
   |some (f,xs)=>(callQ E f xs o.dst).run G S 0 fun ws _=>marked ws S fun p S=>match p with
    |some n=>K (some n) S
    |none=>runSeq G ops rid rest S K
   |none=>match mkP E o (rest.head?.bind fun j=>ops[j]?)with
    |some (x,t)=>bif !(Nat.blt t S.tmps.length)then none else(throwP x t).run G S 0 fun ws _=>marked ws S fun p S=>match p with
     |some n=>K (some n) S
     |none=>none
    |none=>guardedOp E G ops rid i o S fun S _ _=>runSeq G ops rid rest S K
def condV(S:St)(c:Operand)(K:Bool→Option R):Option R:=
 match c with
 | .tmp t=>match (S.sl t).1 with
   | .one v _=>v.asBool K
   |_=>none
 | .const (.bool b)=>K b
 |_=>none
def exec(G:FuncId→List V→(List V→Option R)→Option R)(L:Nat→St→(Ex→St→Option R)→Option R):Code→St→(Ex→St→Option R)→Option R
 | .skip,S,K=>K .normal S
 | .region id ops draw,S,K=>S.force fun S=>bif draw then runOps E G ops id (List.range ops.size) S [] fun S tr=>
     bif edgesBack ops.toList&&apart (befs ops.toList []) tr then K .normal S else none
   else runSeq E G ops id (List.range ops.size) S fun p S=>match p with
    |none=>K .normal S
    |some n=>K (.pan n) S
 | .seq a b,S,K=>exec G L a S fun e S=>match e with
   | .normal=>exec G L b S K
   |e=>K e S
 | .cond c x y,S,K=>condV S c fun b=>bif b then exec G L x S K else exec G L y S K
 | .block id c,S,K=>match c with
   | .loop _=>L id S K
   |c=>exec G L c S fun e S=>match e with
    | .exit i=>bif i==id then K .normal S else K (.exit i) S
    |e=>K e S
 | .exit id,S,K=>K (.exit id) S
 | .ret,S,K=>K .ret S
 |_,_,_=>none
end exec
end ops
def utOf:TypeDesc→UT
 | .int k=>.int k
 | .bool=>.bool
 | .string=>.string
 | .slice e=>.slice e
 | .array n e=>.array n e
 | .struct fs=>.struct (fs.toList.map fun f=>(f.offset,f.type))
 | .pointer _=>.pointer
 | .map k e=>.map k e
 |_=>.other
inductive PSl where
 |undef
 |var (kd:Kd) (m:M)
 |stat (s:Sl)
 deriving Inhabited
inductive PCell where
 |var (kd:Kd) (m:M) (fix:Bool)
 |stat (c:Cell)
 deriving Inhabited
structure Pat where
 tmps:List PSl
 boxes:List (Option (List PCell))
 deriving Inhabited
def unds(l:List PSl)(n:Nat)(r:List PSl):List PSl:=l++(List.replicate n .undef++r)
def nons(l:List (Option (List PCell)))(n:Nat)(r:List (Option (List PCell))):List (Option (List PCell)):=l++(List.replicate n none++r)
def instS:List PSl→List V→List (Sl×Nat)×List V
 | [],vs=>([],vs)
 | .undef::r,vs=>let (l,q):=instS r vs;((.undef,0)::l,q)
 | .stat s::r,vs=>let (l,q):=instS r vs;((s,0)::l,q)
 | .var _ m::r,v::vs=>let (l,q):=instS r vs;((.one v m,0)::l,q)
 | .var _ _::r,[]=>let (l,q):=instS r [];((.undef,0)::l,q)
def instC:List PCell→List V→Bx×List V
 | [],vs=>([],vs)
 | .stat c::r,vs=>let (l,q):=instC r vs;(c::l,q)
 | .var _ m f::r,v::vs=>let (l,q):=instC r vs;(⟨v,m,0,f⟩::l,q)
 | .var _ _ f::r,[]=>let (l,q):=instC r [];(⟨.undef,.pr,0,f⟩::l,q)
def instB:List (Option (List PCell))→List V→List (Option Bx)
 | [],_=>[]
 |none::r,vs=>none::instB r vs
 |some cs::r,vs=>let (b,q):=instC cs vs;some b::instB r q
def Pat.inst(p:Pat)(vs:List V):St:=let (ts,q):=instS p.tmps vs;⟨ts,instB p.boxes q⟩
section
variable {R : Type}
def capsEq:List V→List V→Bool
 | [],[]=>true
 |v::vs,u::us=>(match v,u with| .ptr b o,.ptr b' o'=>b==b'&&o==o'|_,_=>false)&&capsEq vs us
 |_,_=>false
def Sl.beqStat:Sl→Sl→Bool
 | .one (.ptr b o) m,.one (.ptr b' o') _=>b==b'&&o==o'&&m.isPt
 | .one .nilp m,.one .nilp _=> !m.isPt
 | .one (.fn f cs) m,.one (.fn f' cs') m'=>f==f'&&capsEq cs cs'&&m.isPt&&m'.isPt
 | .undef,_=>true
 | .ref (.s t) v,.ref (.s t') v'=>t==t'&&v==v'
 | .ref (.b t j) v,.ref (.b t' j') v'=>t==t'&&j==j'&&v==v'
 |_,_=>false
def St.norm(S:St)(s:Sl):Sl:=
 match s with
 | .ref (.s t) v=>bif v==(S.sl t).2 then .ref (.s t) 0 else .undef
 | .ref (.b b j) v=>match S.bx b with
   |some cs=>match cs[j]? with|some c=>bif v==c.ver then .ref (.b b j) 0 else .undef|none=>.undef
   |none=>.undef
 |s=>s
def matchS(S:St):List PSl→List (Sl×Nat)→(List V→Option R)→Option R
 | [],[],X=>X []
 | .undef::ps,_::r,X=>matchS S ps r X
 | .stat p::ps,(s,_)::r,X=>bif p.beqStat (S.norm s)then matchS S ps r X else none
 | .var kd m::ps,(s,_)::r,X=>match s with
   | .one v m'=>bif m'.gives m then kd.elim v fun v=>matchS S ps r fun vs=>X (v::vs)else none
   |_=>none
 |_,_,_=>none
def Cell.beqStat(a b:Cell):Bool:=match a.v,b.v with
 | .ptr b o,.ptr b' o'=>b==b'&&o==o'&&a.m.isPt
 | .nilp,.nilp=> !a.m.isPt
 | .undef,_=>match a.m with| .pr=>true|_=>false
 |_,_=>false
def matchC:List PCell→Bx→(List V→Option R)→Option R
 | [],[],X=>X []
 | .stat p::ps,c::r,X=>bif p.beqStat c&&(p.fix==c.fix)then matchC ps r X else none
 | .var kd m f::ps,c::r,X=>bif c.m.gives m&&(f==c.fix)then kd.elim c.v fun v=>matchC ps r fun vs=>X (v::vs)else none
 |_,_,_=>none
def matchB:List (Option (List PCell))→List (Option Bx)→(List V→Option R)→Option R
 | [],[],X=>X []
 |none::ps,_::r,X=>matchB ps r X
 |some p::ps,some b::r,X=>matchC p b fun vs=>matchB ps r fun us=>X (vs++us)
 |_,_,_=>none
def Pat.mat(p:Pat)(S:St)(X:List V→Option R):Option R:=
 matchS S p.tmps S.tmps fun vs=>matchB p.boxes S.boxes fun us=>X (vs++us)
structure LoopD where
 id:Nat
 body:Code
 head:Pat
 out:Pat
 ret:Pat
variable (E : Env)
def loopN(G:FuncId→List V→(List V→Option R)→Option R)(L:Nat→St→(Ex→St→Option R)→Option R)(d:LoopD):Nat→List V→(Ex→St→Option R)→Option R
 |0,_,_=>none
 |k+1,vs,K=>exec E G L d.body (d.head.inst vs) fun e S=>match e with
  | .normal=>d.head.mat S fun vs=>loopN G L d k vs K
  | .exit i=>bif i==d.id then d.out.mat S fun vs=>K .normal (d.out.inst vs)else none
  | .ret=>d.ret.mat S fun vs=>K .ret (d.ret.inst vs)
  | .pan n=>d.ret.mat S fun vs=>K (.pan n) (d.ret.inst vs)
end
def initP:List PS→List V→List (Sl×Nat)×List V
 | [],vs=>([],vs)
 | .ptr b o::r,vs=>let (l,q):=initP r vs;((.one (.ptr b o) .pt,0)::l,q)
 | .clo f cs::r,vs=>let (l,q):=initP r vs;((.one (.fn f (cs.map fun p=>.ptr p.1 p.2)) .pt,0)::l,q)
 | .val m _::r,v::vs=>let (l,q):=initP r vs;((.one v m,0)::l,q)
 |_::r,vs=>let (l,q):=initP r vs;((.undef,0)::l,q)
def initC:List PS→List V→Bx×List V
 | [],vs=>([],vs)
 | .clo _ _::r,vs=>let (l,q):=initC r vs;(⟨.undef,.pr,0,true⟩::l,q)
 | .ptr b o::r,vs=>let (l,q):=initC r vs;(⟨.ptr b o,.pt,0,true⟩::l,q)
 | .val m _::r,v::vs=>let (l,q):=initC r vs;(⟨v,m,0,false⟩::l,q)
 | .fix _::r,v::vs=>let (l,q):=initC r vs;(⟨v,.ro,0,true⟩::l,q)
 |_::r,[]=>let (l,q):=initC r [];(⟨.undef,.pr,0,true⟩::l,q)
def initB:List (List PS)→List V→List (Option Bx)
 | [],_=>[]
 |ps::r,vs=>let (b,q):=initC ps vs;some b::initB r q
def initSt(g:Sig)(ntmps:Nat)(vs:List V):St:=
 let (ts,q):=initP g.params vs
 ⟨ts++List.replicate (ntmps-ts.length) (.undef,0),initB g.boxes q++List.replicate ntmps none⟩
def resV(E:Env)(S:St)(m:M):ResultVar→Option V
 | .tmp t=>match (S.sl t).1 with
   | .one v m'=>bif m'.gives m then some v else none
   | .many cs=>bif(meets cs).gives m then some (.agg (cs.map (·.1)))else none
   |_=>none
 | .cell t ty=>match (S.sl t).1,E.ty ty with
   | .one (.ptr b off) _,some d=>match S.bx b with
     |some cs=>bif !d.agg then(match cs[off]? with|some c=>bif c.m.gives m then some c.v else none|none=>none)else bif decide (off+d.size≤cs.length)&&(meets (((cs.drop off).take d.size).map Cell.pair)).gives m then some (.agg (((cs.drop off).take d.size).map (·.v)))else none
     |none=>none
   |_,_=>none
def resVs(E:Env)(S:St):List (M×Kd)→List ResultVar→Option (List V)
 | [],[]=>some []
 |(m,_)::ms,r::rs=>match resV E S m r,resVs E S ms rs with|some v,some l=>some (v::l)|_,_=>none
 |_,_=>none
def outC:List PS→Bx→Option (List V)
 | [],[]=>some []
 | .val m _::ps,c::cs=>bif c.m.gives m then(outC ps cs).map (c.v:: ·)else none
 |_::ps,c::cs=>bif c.fix then outC ps cs else none
 |_,_=>none
def outB:List (List PS)→List (Option Bx)→Option (List V)
 | [],_=>some []
 |ps::r,some b::bs=>match outC ps b,outB r bs with|some x,some y=>some (x++y)|_,_=>none
 |_,_=>none
def resPlace(S:St):ResultVar→Nat×Nat
 | .tmp t=>(0,t)
 | .cell t _=>match (S.sl t).1 with
   | .one (.ptr b _) _=>(1,b)
   |_=>(0,t)
def placesOK(n:Nat):List (Nat×Nat)→Bool
 | []=>true
 |(k,b)::r=>(k==0||decide (n≤b))&&(r.all fun y=> !(y.1==k&&y.2==b))&&placesOK n r
def finish(E:Env)(f:Func)(g:Sig)(S:St):Option (List V):=
 bif !placesOK g.boxes.length (f.results.toList.map (resPlace S))then none else
 match resVs E S g.outs f.results.toList,outB g.boxes S.boxes with
 |some a,some b=>some (a++b)
 |_,_=>none
def preO(g:Sig)(o:List V):List V:=bif g.pan then .bool false:: .int .i64 0::o else o
def panO(g:Sig)(n:Int)(o:List V):List V:=.bool true:: .int .i64 n::(g.outs.map (fun p=>p.2.zero)++o)
def finishX(E:Env)(f:Func)(g:Sig)(S:St):Option (List V):=finish E {f with results:= #[]} {g with outs:=[]} S
def callF{R:Type}(E:Env)(G:FuncId→List V→(List V→Option R)→Option R)(L:Nat→St→(Ex→St→Option R)→Option R)(f:Func)(g:Sig)(vs:List V)(K:List V→Option R):Option R:=
 match f.body with
 |none=>none
 |some c=>exec E G L c (initSt g f.ntmps vs) fun e S=>match e with
  | .exit _=>none
  | .pan n=>bif g.pan then(match finishX E f g S with
    |some o=>K (panO g n o)
    |none=>none)else none
  |_=>match finish E f g S with
   |some o=>K (preO g o)
   |none=>none
def findLoop(id:Nat):Code→Option Code
 | .block i c=>match c with
   | .loop b=>if i==id then some b else findLoop id b
   |c=>findLoop id c
 | .loop c=>findLoop id c
 | .seq a b=>match findLoop id a with|some c=>some c|none=>findLoop id b
 | .cond _ a b=>match findLoop id a with|some c=>some c|none=>findLoop id b
 |_=>none
def loopAt(id:Nat)(c:Code):Code:=(findLoop id c).getD .skip
def bodyOf(f:Func):Code:=f.body.getD .skip
def roundOf{R:Type}(E:Env)(G:FuncId→List V→(List V→Option R)→Option R)(L:Nat→St→(Ex→St→Option R)→Option R)(d:LoopD)(X:List V→Option R)(K:Ex→St→Option R)(vs:List V):Option R:=
 exec E G L d.body (d.head.inst vs) fun e S=>match e with
  | .normal=>d.head.mat S X
  | .exit i=>bif i==d.id then d.out.mat S (fun vs=>K .normal (d.out.inst vs))else none
  | .ret=>d.ret.mat S fun vs=>K .ret (d.ret.inst vs)
  | .pan n=>d.ret.mat S fun vs=>K (.pan n) (d.ret.inst vs)
set_option linter.unusedVariables false
def BytesR:List V→List UInt8→Prop
 | [],l=>l=[]
 |v::vs,l=>∃n b q,v= .int .u8 n∧b=n.toNat.toUInt8∧l=b::q∧BytesR vs q
section
variable (C : FuncId → List V → List V → Prop)
def PgR(S:St):Pg→Nat→List Wr→Nat→Prop
 | .fail,_,_,_=>False
 | .ret ws',rm,ws,rm'=>ws=ws'∧rm'=rm
 | .rdS t k,rm,ws,rm'=>PgR S (k (S.sl t).1 (S.sl t).2) (rm|||(sbit t|||shbit t)) ws rm'
 | .rdB b k,rm,ws,rm'=>PgR S (k (S.bx b)) (rm|||(bbit b|||bhbit b)) ws rm'
 | .rdHS t k,rm,ws,rm'=>PgR S (k (S.sl t).1.isOwn (S.sl t).2) (rm|||shbit t) ws rm'
 | .rdHB b j k,rm,ws,rm'=>PgR S (k (S.hb b j)) (rm|||bhbit b) ws rm'
 | .asInt v k,rm,ws,rm'=>∃kd n,v= .int kd n∧PgR S (k kd n) rm ws rm'
 | .asBool v k,rm,ws,rm'=>∃b,v= .bool b∧PgR S (k b) rm ws rm'
 | .asStr v k,rm,ws,rm'=>∃s,v= .str s∧PgR S (k s) rm ws rm'
 | .asSl v k,rm,ws,rm'=>∃z l,v= .sl z l∧PgR S (k z l) rm ws rm'
 | .asAgg v k,rm,ws,rm'=>∃l,v= .agg l∧PgR S (k l) rm ws rm'
 | .asMp v k,rm,ws,rm'=>∃l,v= .mp l∧PgR S (k l) rm ws rm'
 | .cells n v k,rm,ws,rm'=>∃l,v= .agg l∧l.length=n∧PgR S (k l) rm ws rm'
 | .nth es i k,rm,ws,rm'=>∃v,es[i]? =some v∧PgR S (k v) rm ws rm'
 | .bytes es k,rm,ws,rm'=>∃l,BytesR es l∧PgR S (k l) rm ws rm'
 | .chk b k,rm,ws,rm'=>b=true∧PgR S k rm ws rm'
 | .ite b k1 k2,rm,ws,rm'=>(b=true∧PgR S k1 rm ws rm')∨(b=false∧PgR S k2 rm ws rm')
 | .call f args ks k,rm,ws,rm'=>∃o,C f args o∧o.length=ks.length∧PgR S (k o) rm ws rm'
end
section run
variable {R : Type} {C : FuncId → List V → List V → Prop} {G : FuncId → List V → (List V → Option R) → Option R}
theorem asInt_some{v:V}{K:IntKind→Int→Option R}{r}(h:v.asInt K=some r):∃k n,v= .int k n∧K k n=some r:=by
 cases v<;>simp[V.asInt]at h;exact⟨_,_,rfl,h⟩
theorem asBool_some{v:V}{K:Bool→Option R}{r}(h:v.asBool K=some r):∃b,v= .bool b∧K b=some r:=by
 cases v<;>simp[V.asBool]at h;exact⟨_,rfl,h⟩
theorem asStr_some{v:V}{K:ByteArray→Option R}{r}(h:v.asStr K=some r):∃b,v= .str b∧K b=some r:=by
 cases v<;>simp[V.asStr]at h;exact⟨_,rfl,h⟩
theorem asSl_some{v:V}{K:Nat→List V→Option R}{r}(h:v.asSl K=some r):∃z l,v= .sl z l∧K z l=some r:=by
 cases v<;>simp[V.asSl]at h;exact⟨_,_,rfl,h⟩
theorem asAgg_some{v:V}{K:List V→Option R}{r}(h:v.asAgg K=some r):∃l,v= .agg l∧K l=some r:=by
 cases v<;>simp[V.asAgg]at h;exact⟨_,rfl,h⟩
theorem asMp_some{v:V}{K:List (Int×Bool)→Option R}{r}(h:v.asMp K=some r):∃l,v= .mp l∧K l=some r:=by
 cases v<;>simp[V.asMp]at h;exact⟨_,rfl,h⟩
theorem unL_some:∀{n:Nat} {l:List V} {K:List V→Option R} {r},unL n l K=some r→l.length=n∧K l=some r
 |0,l,K,r,h=>by cases l<;>simp[unL,unNil]at h;exact⟨rfl,h⟩
 |n+1,l,K,r,h=>by
  cases l with
  |nil=>simp[unL,unCons]at h
  |cons v q=>
   simp only[unL,unCons]at h
   obtain⟨h1,h2⟩:=unL_some h
   exact⟨by simp[h1],h2⟩
theorem cells_some{n:Nat}{v:V}{K:List V→Option R}{r}(h:v.cells n K=some r):∃l,v= .agg l∧l.length=n∧K l=some r:=by
 obtain⟨l,e,h⟩:=asAgg_some h
 exact⟨l,e,unL_some h⟩
theorem nthK_some{es:List V}{i:Nat}{K:V→Option R}{r}(h:nthK es i K=some r):∃v,es[i]? =some v∧K v=some r:=by
 unfold nthK at h
 cases e:es[i]? with
 |none=>simp[e]at h
 |some v=>simp only[e]at h;exact⟨v,rfl,h⟩
theorem bytesK_some:∀{es:List V} {K:List UInt8→Option R} {r},bytesK es K=some r→∃l,BytesR es l∧K l=some r
 | [],K,r,h=>⟨[],rfl,h⟩
 |v::vs,K,r,h=>by
  simp only[bytesK]at h
  obtain⟨k,n,rfl,h'⟩:=asInt_some h
  cases hk:decide (k= .u8)with
  |false=>rw[hk]at h';cases h'
  |true=>
   rw[hk]at h'
   have:k= .u8:=of_decide_eq_true hk
   subst this
   obtain⟨q,h1,h2⟩:=bytesK_some h'
   exact⟨_,⟨n,_,q,rfl,rfl,rfl,h1⟩,h2⟩
mutual
theorem elim_some:∀{kd:Kd} {v:V} {X:V→Option R} {r},kd.elim v X=some r→X v=some r
 | .int k,v,X,r,h=>by
   simp only[Kd.elim]at h
   obtain⟨k',n,rfl,h1⟩:=asInt_some h
   clear h
   cases hk:decide (k'=k)with
   |true=>rw[hk]at h1;have:k'=k:=of_decide_eq_true hk;subst this;exact h1
   |false=>rw[hk]at h1;cases h1
 | .bool,v,X,r,h=>by
   simp only[Kd.elim]at h
   obtain⟨b,rfl,h1⟩:=asBool_some h;exact h1
 | .str,v,X,r,h=>by
   simp only[Kd.elim]at h
   obtain⟨b,rfl,h1⟩:=asStr_some h;exact h1
 | .sl z,v,X,r,h=>by
   simp only[Kd.elim]at h
   obtain⟨z',l,rfl,h1⟩:=asSl_some h
   clear h
   cases hk:z'==z with
   |true=>rw[hk]at h1;have:z'=z:=by simpa using hk
          subst this;exact h1
   |false=>rw[hk]at h1;cases h1
 | .agg ks,v,X,r,h=>by
   simp only[Kd.elim]at h
   obtain⟨l,rfl,h1⟩:=asAgg_some h
   exact(elimL_some h1).2
 | .any,v,X,r,h=>by simpa [Kd.elim]using h
theorem elimL_some:∀{ks:List Kd} {l:List V} {X:List V→Option R} {r},elimL ks l X=some r→l.length=ks.length∧X l=some r
 | [],l,X,r,h=>by cases l<;>simp[elimL,unNil]at h;exact⟨rfl,h⟩
 |k::ks,l,X,r,h=>by
  cases l with
  |nil=>simp[elimL,unCons]at h
  |cons v q=>
   simp only[elimL,unCons]at h
   have h1:=elim_some h
   obtain⟨h2,h3⟩:=elimL_some h1
   exact⟨by simp[h2],h3⟩
end
theorem run_rel(hG:∀f args (K:List V→Option R) r,G f args K=some r→∃o,C f args o∧K o=some r)(S:St):
 ∀(p:Pg) (rm:Nat) (K:List Wr→Nat→Option R) (r:R),p.run G S rm K=some r→∃ws rm',PgR C S p rm ws rm'∧K ws rm'=some r:=by
 intro p
 induction p with
 |fail=>intro rm K r h;simp[Pg.run]at h
 |ret ws=>intro rm K r h;exact⟨ws,rm,⟨rfl,rfl⟩,h⟩
 |rdS t k ih=>intro rm K r h;exact ih _ _ _ _ _ h
 |rdB b k ih=>intro rm K r h;exact ih _ _ _ _ h
 |rdHS t k ih=>intro rm K r h;exact ih _ _ _ _ _ h
 |rdHB b j k ih=>intro rm K r h;exact ih _ _ _ _ h
 |asInt v k ih=>
  intro rm K r h
  obtain⟨kd,n,e,h⟩:=asInt_some (by simpa [Pg.run]using h)
  obtain⟨ws,rm',h1,h2⟩:=ih _ _ _ _ _ h
  exact⟨ws,rm',⟨kd,n,e,h1⟩,h2⟩
 |asBool v k ih=>
  intro rm K r h
  obtain⟨b,e,h⟩:=asBool_some (by simpa [Pg.run]using h)
  obtain⟨ws,rm',h1,h2⟩:=ih _ _ _ _ h
  exact⟨ws,rm',⟨b,e,h1⟩,h2⟩
 |asStr v k ih=>
  intro rm K r h
  obtain⟨b,e,h⟩:=asStr_some (by simpa [Pg.run]using h)
  obtain⟨ws,rm',h1,h2⟩:=ih _ _ _ _ h
  exact⟨ws,rm',⟨b,e,h1⟩,h2⟩
 |asSl v k ih=>
  intro rm K r h
  obtain⟨z,l,e,h⟩:=asSl_some (by simpa [Pg.run]using h)
  obtain⟨ws,rm',h1,h2⟩:=ih _ _ _ _ _ h
  exact⟨ws,rm',⟨z,l,e,h1⟩,h2⟩
 |asAgg v k ih=>
  intro rm K r h
  obtain⟨l,e,h⟩:=asAgg_some (by simpa [Pg.run]using h)
  obtain⟨ws,rm',h1,h2⟩:=ih _ _ _ _ h
  exact⟨ws,rm',⟨l,e,h1⟩,h2⟩
 |asMp v k ih=>
  intro rm K r h
  obtain⟨l,e,h⟩:=asMp_some (by simpa [Pg.run]using h)
  obtain⟨ws,rm',h1,h2⟩:=ih _ _ _ _ h
  exact⟨ws,rm',⟨l,e,h1⟩,h2⟩
 |cells n v k ih=>
  intro rm K r h
  obtain⟨l,e,hl,h⟩:=cells_some (by simpa [Pg.run]using h)
  obtain⟨ws,rm',h1,h2⟩:=ih _ _ _ _ h
  exact⟨ws,rm',⟨l,e,hl,h1⟩,h2⟩
 |nth es i k ih=>
  intro rm K r h
  obtain⟨v,e,h⟩:=nthK_some (by simpa [Pg.run]using h)
  obtain⟨ws,rm',h1,h2⟩:=ih _ _ _ _ h
  exact⟨ws,rm',⟨v,e,h1⟩,h2⟩
 |bytes es k ih=>
  intro rm K r h
  obtain⟨l,e,h⟩:=bytesK_some (by simpa [Pg.run]using h)
  obtain⟨ws,rm',h1,h2⟩:=ih _ _ _ _ h
  exact⟨ws,rm',⟨l,e,h1⟩,h2⟩
 |chk b k ih=>
  intro rm K r h
  cases b with
  |true=>obtain⟨ws,rm',h1,h2⟩:=ih _ _ _ (by simpa [Pg.run]using h);exact⟨ws,rm',⟨rfl,h1⟩,h2⟩
  |false=>simp[Pg.run]at h
 |ite b k1 k2 ih1 ih2=>
  intro rm K r h
  cases b with
  |true=>obtain⟨ws,rm',h1,h2⟩:=ih1 _ _ _ (by simpa [Pg.run]using h);exact⟨ws,rm',.inl ⟨rfl,h1⟩,h2⟩
  |false=>obtain⟨ws,rm',h1,h2⟩:=ih2 _ _ _ (by simpa [Pg.run]using h);exact⟨ws,rm',.inr ⟨rfl,h1⟩,h2⟩
 |call f args ks k ih=>
  intro rm K r h
  obtain⟨o,hc,h⟩:=hG _ _ _ _ (by simpa [Pg.run]using h)
  obtain⟨hl,h⟩:=elimL_some h
  obtain⟨ws,rm',h1,h2⟩:=ih _ _ _ _ h
  exact⟨ws,rm',⟨o,hc,hl,h1⟩,h2⟩
end run
section local_
variable {C : FuncId → List V → List V → Prop} {S S' : St}
theorem PgR.keeps:∀{p:Pg} {rm ws rm'},PgR C S p rm ws rm'→∀i,rm.testBit i=true→rm'.testBit i=true:=by
 intro p
 induction p with
 |fail=>intro rm ws rm' h;exact h.elim
 |ret ws=>intro rm ws rm' h i hi;rw[h.2];exact hi
 |rdS t k ih=>intro rm ws rm' h i hi;exact ih _ _ h i (by simp[hi])
 |rdB b k ih=>intro rm ws rm' h i hi;exact ih _ h i (by simp[hi])
 |rdHS t k ih=>intro rm ws rm' h i hi;exact ih _ _ h i (by simp[hi])
 |rdHB b j k ih=>intro rm ws rm' h i hi;exact ih _ h i (by simp[hi])
 |asInt v k ih=>intro rm ws rm' ⟨_,_,_,h⟩;exact ih _ _ h
 |asBool v k ih=>intro rm ws rm' ⟨_,_,h⟩;exact ih _ h
 |asStr v k ih=>intro rm ws rm' ⟨_,_,h⟩;exact ih _ h
 |asSl v k ih=>intro rm ws rm' ⟨_,_,_,h⟩;exact ih _ _ h
 |asAgg v k ih=>intro rm ws rm' ⟨_,_,h⟩;exact ih _ h
 |asMp v k ih=>intro rm ws rm' ⟨_,_,h⟩;exact ih _ h
 |cells n v k ih=>intro rm ws rm' ⟨_,_,_,h⟩;exact ih _ h
 |nth es i k ih=>intro rm ws rm' ⟨_,_,h⟩;exact ih _ h
 |bytes es k ih=>intro rm ws rm' ⟨_,_,h⟩;exact ih _ h
 |chk b k ih=>intro rm ws rm' ⟨_,h⟩;exact ih h
 |ite b k1 k2 ih1 ih2=>intro rm ws rm' h;exact h.elim (fun h=>ih1 h.2) (fun h=>ih2 h.2)
 |call f args ks k ih=>intro rm ws rm' ⟨_,_,_,h⟩;exact ih _ h
structure Alike (S S':St) (m:Nat):Prop where
 s:∀t,m.testBit (4*t)=true→S'.sl t=S.sl t
 sh:∀t,m.testBit (4*t+1)=true→(S'.sl t).1.isOwn=(S.sl t).1.isOwn∧(S'.sl t).2=(S.sl t).2
 b:∀b,m.testBit (4*b+2)=true→S'.bx b=S.bx b
 bh:∀b,m.testBit (4*b+3)=true→∀j,S'.hb b j=S.hb b j
theorem bit_sbit(t:Nat):(sbit t|||shbit t).testBit (4*t)=true:=by simp[sbit,shbit,Nat.testBit_two_pow_self]
theorem bit_shbit(t:Nat):(shbit t).testBit (4*t+1)=true:=by simp[shbit,Nat.testBit_two_pow_self]
theorem bit_bbit(t:Nat):(bbit t|||bhbit t).testBit (4*t+2)=true:=by simp[bbit,bhbit,Nat.testBit_two_pow_self]
theorem bit_bhbit(t:Nat):(bhbit t).testBit (4*t+3)=true:=by simp[bhbit,Nat.testBit_two_pow_self]
theorem PgR.alike:∀{p:Pg} {rm ws rm'},PgR C S p rm ws rm'→Alike S S' rm'→PgR C S' p rm ws rm':=by
 intro p
 induction p with
 |fail=>intro rm ws rm' h;exact h.elim
 |ret ws=>intro rm ws rm' h _;exact h
 |rdS t k ih=>
  intro rm ws rm' h ha
  have e:=ha.s t (PgR.keeps (p:=k (S.sl t).1 (S.sl t).2) h _ (by rw[Nat.testBit_or,bit_sbit];simp))
  show PgR C S' (k (S'.sl t).1 (S'.sl t).2) _ ws rm'
  rw[e];exact ih _ _ h ha
 |rdB b k ih=>
  intro rm ws rm' h ha
  have e:=ha.b b (PgR.keeps (p:=k (S.bx b)) h _ (by rw[Nat.testBit_or,bit_bbit];simp))
  show PgR C S' (k (S'.bx b)) _ ws rm'
  rw[e];exact ih _ h ha
 |rdHS t k ih=>
  intro rm ws rm' h ha
  have e:=ha.sh t (PgR.keeps (p:=k (S.sl t).1.isOwn (S.sl t).2) h _ (by rw[Nat.testBit_or,bit_shbit];simp))
  show PgR C S' (k (S'.sl t).1.isOwn (S'.sl t).2) _ ws rm'
  rw[e.1,e.2];exact ih _ _ h ha
 |rdHB b j k ih=>
  intro rm ws rm' h ha
  have e:=ha.bh b (PgR.keeps (p:=k (S.hb b j)) h _ (by rw[Nat.testBit_or,bit_bhbit];simp)) j
  show PgR C S' (k (S'.hb b j)) _ ws rm'
  rw[e];exact ih _ h ha
 |asInt v k ih=>intro rm ws rm' ⟨x,y,e,h⟩ ha;exact⟨x,y,e,ih _ _ h ha⟩
 |asBool v k ih=>intro rm ws rm' ⟨x,e,h⟩ ha;exact⟨x,e,ih _ h ha⟩
 |asStr v k ih=>intro rm ws rm' ⟨x,e,h⟩ ha;exact⟨x,e,ih _ h ha⟩
 |asSl v k ih=>intro rm ws rm' ⟨x,y,e,h⟩ ha;exact⟨x,y,e,ih _ _ h ha⟩
 |asAgg v k ih=>intro rm ws rm' ⟨x,e,h⟩ ha;exact⟨x,e,ih _ h ha⟩
 |asMp v k ih=>intro rm ws rm' ⟨x,e,h⟩ ha;exact⟨x,e,ih _ h ha⟩
 |cells n v k ih=>intro rm ws rm' ⟨x,e,e',h⟩ ha;exact⟨x,e,e',ih _ h ha⟩
 |nth es i k ih=>intro rm ws rm' ⟨x,e,h⟩ ha;exact⟨x,e,ih _ h ha⟩
 |bytes es k ih=>intro rm ws rm' ⟨x,e,h⟩ ha;exact⟨x,e,ih _ h ha⟩
 |chk b k ih=>intro rm ws rm' ⟨e,h⟩ ha;exact⟨e,ih h ha⟩
 |ite b k1 k2 ih1 ih2=>intro rm ws rm' h ha;exact h.elim (fun h=>.inl ⟨h.1,ih1 h.2 ha⟩) (fun h=>.inr ⟨h.1,ih2 h.2 ha⟩)
 |call f args ks k ih=>intro rm ws rm' ⟨o,hc,hl,h⟩ ha;exact⟨o,hc,hl,ih _ h ha⟩
end local_
abbrev Hp:=Array Obj
def seg(c:Array Value)(off z:Nat):List Value:=(c.toList.drop off).take z
def EntR(es:List (Int×Bool))(l:Array MapEntry):Prop:=l.toList.map (fun e=>(e.key,e.val))=es.map fun p=>(Value.int .i64 p.1,Value.bool p.2)
section
variable (h : Hp) (ro : Nat → Prop)
mutual
def REl:V→List Value→Prop
 | .bool b,rs=>rs=[.bool b]
 | .int k n,rs=>rs=[.int k n]
 | .str s,rs=>rs=[.string s]
 | .sl z es,rs=>∃a len cap,rs=[.slice a len cap]∧len=es.length∧len≤cap∧
     match a with
     |none=>cap=0
     |some ad=>0<es.length→ad.spot=none∧ro ad.block∧∃c ty fr,h[ad.block]? =some (.cells c ty fr)∧REs es c ad.off z
 | .agg cs,rs=>RCs cs rs
 | .nilp,rs=>rs=[.pointer none]
 | .ptr _ _,_=>False
 | .fn _ _,_=>False
 | .mp es,rs=>∃b l cl,rs=[.map (some b)]∧ro b∧h[b]? =some (.map l cl)∧EntR es l
 | .undef,rs=>∀r∈rs,r.oneCell'=true
def RCs:List V→List Value→Prop
 | [],rs=>rs=[]
 |v::vs,rs=>∃r q,rs=r::q∧v.isAgg=false∧REl v [r]∧RCs vs q
def REs:List V→Array Value→Nat→Nat→Prop
 | [],_,_,_=>True
 |e::es,c,off,z=>(seg c off z).length=z∧REl e (seg c off z)∧REs es c (off+z) z
end
mutual
def OEl:Bool→V→List Value→List Nat→Prop
 |_,.bool b,rs,fp=>rs=[.bool b]∧fp=[]
 |_,.int k n,rs,fp=>rs=[.int k n]∧fp=[]
 |_,.str s,rs,fp=>rs=[.string s]∧fp=[]
 |d,.sl z es,rs,fp=>∃a len cap,rs=[.slice a len cap]∧len=es.length∧(len≤cap∧cap≤9223372036854775807)∧
    match a with
    |none=>cap=0∧fp=[]
    |some ad=>ad.spot=none∧∃c ty,h[ad.block]? =some (.cells c ty (0,0))∧ad.off+cap*z≤c.size∧
      ∃fp',fp=ad.block::fp'∧(if d then OEs d es c ad.off z fp' else(fp'=[]∧REs h ro es c ad.off z))
 |d,.agg cs,rs,fp=>OCs d cs rs fp
 |_,.nilp,rs,fp=>rs=[.pointer none]∧fp=[]
 |_,.ptr _ _,_,_=>False
 |_,.fn _ _,_,_=>False
 |_,.mp es,rs,fp=>∃b l cl,rs=[.map (some b)]∧fp=[b]∧h[b]? =some (.map l cl)∧EntR es l
 |_,.undef,rs,fp=>fp=[]∧∀r∈rs,r.oneCell'=true
def OCs:Bool→List V→List Value→List Nat→Prop
 |_,[],rs,fp=>rs=[]∧fp=[]
 |d,v::vs,rs,fp=>∃r q f g,rs=r::q∧fp=f++g∧v.isAgg=false∧OEl d v [r] f∧OCs d vs q g
def OEs:Bool→List V→Array Value→Nat→Nat→List Nat→Prop
 |_,[],_,_,_,fp=>fp=[]
 |d,e::es,c,off,z,fp=>∃f g,fp=f++g∧(seg c off z).length=z∧OEl d e (seg c off z) f∧OEs d es c (off+z) z g
end
end
def RM(h:Hp)(ro:Nat→Prop):M→V→List Value→List Nat→Prop
 | .pr,v,rs,fp=>v.plain=true∧REl h (fun _=>False) v rs∧fp=[]
 | .ro,v,rs,fp=>REl h ro v rs∧fp=[]
 | .own d,v,rs,fp=>OEl h ro d v rs fp
 | .pt,_,_,_=>False
def RW(h:Hp)(ro:Nat→Prop)(m:M)(v:V)(r:Value)(fp:List Nat):Prop:=
 match v with
 | .agg _=>∃rs,r= .agg rs∧RM h ro m v rs.toList fp
 |_=>RM h ro m v [r] fp
section mono
variable {h h' : Hp} {ro ro' : Nat → Prop}
mutual
theorem REl.mono(hr:∀b,ro b→ro' b)(hh:∀b,ro b→h'[b]? =h[b]?):∀{v:V} {rs},REl h ro v rs→REl h' ro' v rs
 | .bool _,_,x=>x
 | .int _ _,_,x=>x
 | .str _,_,x=>x
 | .sl z es,rs,x=>by
   obtain⟨a,len,cap,e,hl,hc,x⟩:=x
   refine⟨a,len,cap,e,hl,hc,?_⟩
   cases a with
   |none=>exact x
   |some ad=>
    intro hp
    obtain⟨hsp,hro,c,ty,fr,hb,hs⟩:=x hp
    exact⟨hsp,hr _ hro,c,ty,fr,by rw[hh _ hro];exact hb,REs.mono hr hh hs⟩
 | .agg cs,_,x=>RCs.mono hr hh (vs:=cs) x
 | .nilp,_,x=>x
 | .ptr _ _,_,x=>x
 | .fn _ _,_,x=>x
 | .mp _,_,⟨b,l,cl,e,hb,hl,hE⟩=>⟨b,l,cl,e,hr _ hb,by rw[hh _ hb];exact hl,hE⟩
 | .undef,_,x=>x
theorem RCs.mono(hr:∀b,ro b→ro' b)(hh:∀b,ro b→h'[b]? =h[b]?):∀{vs:List V} {rs},RCs h ro vs rs→RCs h' ro' vs rs
 | [],_,x=>x
 |v::vs,_,⟨r,q,e,ha,x,y⟩=>⟨r,q,e,ha,REl.mono hr hh x,RCs.mono hr hh y⟩
theorem REs.mono(hr:∀b,ro b→ro' b)(hh:∀b,ro b→h'[b]? =h[b]?):∀{es:List V} {c off z},REs h ro es c off z→REs h' ro' es c off z
 | [],_,_,_,x=>x
 |e::es,_,_,_,⟨l,x,y⟩=>⟨l,REl.mono hr hh x,REs.mono hr hh y⟩
end
mutual
theorem OEl.mono(hr:∀b,ro b→ro' b)(hh:∀b,ro b→h'[b]? =h[b]?):∀{d:Bool} {v:V} {rs fp},(∀b∈fp,h'[b]? =h[b]?)→OEl h ro d v rs fp→OEl h' ro' d v rs fp
 |_,.bool _,_,_,_,x=>x
 |_,.int _ _,_,_,_,x=>x
 |_,.str _,_,_,_,x=>x
 |d,.sl z es,rs,fp,hf,x=>by
  obtain⟨a,len,cap,e,hl,hc,x⟩:=x
  refine⟨a,len,cap,e,hl,hc,?_⟩
  cases a with
  |none=>exact x
  |some ad=>
   obtain⟨hs,c,ty,hb,ho,fp',rfl,y⟩:=x
   refine⟨hs,c,ty,by rw[hf _ (by simp)];exact hb,ho,fp',rfl,?_⟩
   cases d with
   |true=>simp only[if_true]at y ⊢;exact OEs.mono hr hh (fun b hb=>hf b (by simp[hb])) y
   |false=>simp only[Bool.false_eq_true,if_false]at y ⊢;exact⟨y.1,y.2.mono hr hh⟩
 |d,.agg cs,_,_,hf,x=>OCs.mono hr hh (vs:=cs) hf x
 |_,.nilp,_,_,_,x=>x
 |_,.ptr _ _,_,_,_,x=>x
 |_,.fn _ _,_,_,_,x=>x
 |_,.mp _,_,_,hf,⟨b,l,cl,e,e2,hl,hE⟩=>⟨b,l,cl,e,e2,by rw[hf _ (by rw[e2];simp)];exact hl,hE⟩
 |_,.undef,_,_,_,x=>x
theorem OCs.mono(hr:∀b,ro b→ro' b)(hh:∀b,ro b→h'[b]? =h[b]?):∀{d:Bool} {vs:List V} {rs fp},(∀b∈fp,h'[b]? =h[b]?)→OCs h ro d vs rs fp→OCs h' ro' d vs rs fp
 |_,[],_,_,_,x=>x
 |d,v::vs,_,_,hf,⟨r,q,f,g,e,e',ha,x,y⟩=>by
  subst e'
  exact⟨r,q,f,g,e,rfl,ha,OEl.mono hr hh (fun b hb=>hf b (by simp[hb])) x,OCs.mono hr hh (fun b hb=>hf b (by simp[hb])) y⟩
theorem OEs.mono(hr:∀b,ro b→ro' b)(hh:∀b,ro b→h'[b]? =h[b]?):∀{d:Bool} {es:List V} {c off z fp},(∀b∈fp,h'[b]? =h[b]?)→OEs h ro d es c off z fp→OEs h' ro' d es c off z fp
 |_,[],_,_,_,_,_,x=>x
 |d,e::es,_,_,_,_,hf,⟨f,g,e',l,x,y⟩=>by
  subst e'
  exact⟨f,g,rfl,l,OEl.mono hr hh (fun b hb=>hf b (by simp[hb])) x,OEs.mono hr hh (fun b hb=>hf b (by simp[hb])) y⟩
end
mutual
theorem OEl.toRO(hr:∀b,ro b→ro' b):∀{d:Bool} {v:V} {rs fp},(∀b∈fp,ro' b)→OEl h ro d v rs fp→REl h ro' v rs
 |_,.bool _,_,_,_,x=>x.1
 |_,.int _ _,_,_,_,x=>x.1
 |_,.str _,_,_,_,x=>x.1
 |d,.sl z es,rs,fp,hf,x=>by
  obtain⟨a,len,cap,e,hl,hc,x⟩:=x
  refine⟨a,len,cap,e,hl,hc.1,?_⟩
  cases a with
  |none=>exact x.1
  |some ad=>
   obtain⟨hs,c,ty,hb,ho,fp',rfl,y⟩:=x
   refine fun _=>⟨hs,hf _ (by simp),c,ty,_,hb,?_⟩
   cases d with
   |true=>simp only[if_true]at y;exact OEs.toRO hr (fun b hb=>hf b (by simp[hb])) y
   |false=>simp only[Bool.false_eq_true,if_false]at y;exact y.2.mono hr (fun _ _=>rfl)
 |d,.agg cs,_,_,hf,x=>OCs.toRO hr (vs:=cs) hf x
 |_,.nilp,_,_,_,x=>x.1
 |_,.ptr _ _,_,_,_,x=>x
 |_,.fn _ _,_,_,_,x=>x
 |_,.mp _,_,_,hf,⟨b,l,cl,e,e2,hl,hE⟩=>⟨b,l,cl,e,hf _ (by rw[e2];simp),hl,hE⟩
 |_,.undef,_,_,_,x=>x.2
theorem OCs.toRO(hr:∀b,ro b→ro' b):∀{d:Bool} {vs:List V} {rs fp},(∀b∈fp,ro' b)→OCs h ro d vs rs fp→RCs h ro' vs rs
 |_,[],_,_,_,x=>x.1
 |d,v::vs,_,_,hf,⟨r,q,f,g,e,e',ha,x,y⟩=>by
  subst e'
  exact⟨r,q,e,ha,OEl.toRO hr (fun b hb=>hf b (by simp[hb])) x,OCs.toRO hr (fun b hb=>hf b (by simp[hb])) y⟩
theorem OEs.toRO(hr:∀b,ro b→ro' b):∀{d:Bool} {es:List V} {c off z fp},(∀b∈fp,ro' b)→OEs h ro d es c off z fp→REs h ro' es c off z
 |_,[],_,_,_,_,_,_=>trivial
 |d,e::es,_,_,_,_,hf,⟨f,g,e',l,x,y⟩=>by
  subst e'
  exact⟨l,OEl.toRO hr (fun b hb=>hf b (by simp[hb])) x,OEs.toRO hr (fun b hb=>hf b (by simp[hb])) y⟩
end
mutual
theorem REl.toOwn:∀{d:Bool} {v:V} {rs},v.plain=true→REl h ro v rs→OEl h' ro' d v rs []
 |_,.bool _,_,_,x=>⟨x,rfl⟩
 |_,.int _ _,_,_,x=>⟨x,rfl⟩
 |_,.str _,_,_,x=>⟨x,rfl⟩
 |_,.sl _ _,_,hp,_=>by simp[V.plain]at hp
 |_,.agg cs,_,hp,x=>RCs.toOwn (vs:=cs) hp x
 |_,.nilp,_,_,x=>⟨x,rfl⟩
 |_,.ptr _ _,_,_,x=>x
 |_,.fn _ _,_,_,x=>x
 |_,.mp _,_,hp,_=>by simp[V.plain]at hp
 |_,.undef,_,_,x=>⟨rfl,x⟩
theorem RCs.toOwn:∀{d:Bool} {vs:List V} {rs},V.plains vs=true→RCs h ro vs rs→OCs h' ro' d vs rs []
 |_,[],_,_,x=>⟨x,rfl⟩
 |_,v::vs,_,hp,⟨r,q,e,ha,x,y⟩=>by
  simp only[V.plains,Bool.and_eq_true]at hp
  exact⟨r,q,[],[],e,rfl,ha,REl.toOwn hp.1 x,RCs.toOwn hp.2 y⟩
end
mutual
theorem REl.plain_any:∀{v:V} {rs},v.plain=true→REl h ro v rs→REl h' ro' v rs
 | .bool _,_,_,x=>x
 | .int _ _,_,_,x=>x
 | .str _,_,_,x=>x
 | .sl _ _,_,hp,_=>by simp[V.plain]at hp
 | .agg cs,_,hp,x=>RCs.plain_any (vs:=cs) hp x
 | .nilp,_,_,x=>x
 | .ptr _ _,_,_,x=>x
 | .fn _ _,_,_,x=>x
 | .mp _,_,hp,_=>by simp[V.plain]at hp
 | .undef,_,_,x=>x
theorem RCs.plain_any:∀{vs:List V} {rs},V.plains vs=true→RCs h ro vs rs→RCs h' ro' vs rs
 | [],_,_,x=>x
 |v::vs,_,hp,⟨r,q,e,ha,x,y⟩=>by
  simp only[V.plains,Bool.and_eq_true]at hp
  exact⟨r,q,e,ha,REl.plain_any hp.1 x,RCs.plain_any hp.2 y⟩
end
mutual
theorem OEl.weak:∀{d:Bool} {v:V} {rs fp},fp.Nodup→OEl h ro d v rs fp→∃fo fi:List Nat,(∀b,b∈fp↔b∈fo∨b∈fi)∧fo.Nodup∧(∀b∈fi,b∉fo)∧(∀ro':Nat→Prop,(∀b,ro b→ro' b)→(∀b∈fi,ro' b)→OEl h ro' false v rs fo)
 |_,.bool _,_,_,_,x=>⟨[],[],by simp[x.2],by simp,by simp,fun _ _ _=>⟨x.1,rfl⟩⟩
 |_,.int _ _,_,_,_,x=>⟨[],[],by simp[x.2],by simp,by simp,fun _ _ _=>⟨x.1,rfl⟩⟩
 |_,.str _,_,_,_,x=>⟨[],[],by simp[x.2],by simp,by simp,fun _ _ _=>⟨x.1,rfl⟩⟩
 |d,.sl z es,rs,fp,hn,x=>by
  obtain⟨a,len,cap,e,hl,hc,x⟩:=x
  cases a with
  |none=>exact⟨[],[],by simp[x.2],by simp,by simp,fun _ _ _=>⟨none,len,cap,e,hl,hc,x.1,rfl⟩⟩
  |some ad=>
   obtain⟨hs,c,ty,hb,ho,fp',rfl,y⟩:=x
   have hn':=List.nodup_cons.1 hn
   refine⟨[ad.block],fp',by simp,by simp,fun b hb hb'=> ?_,fun ro' hr hi=>⟨some ad,len,cap,e,hl,hc,hs,c,ty,hb,ho,[],rfl,?_⟩⟩
   ·simp at hb';subst hb';exact hn'.1 hb
   ·simp only[Bool.false_eq_true,if_false]
    cases d with
    |true=>simp only[if_true]at y;exact⟨trivial,y.toRO hr hi⟩
    |false=>simp only[Bool.false_eq_true,if_false]at y;exact⟨trivial,y.2.mono hr (fun _ _=>rfl)⟩
 |d,.agg cs,_,_,hn,x=>OCs.weak (vs:=cs) hn x
 |_,.nilp,_,_,_,x=>⟨[],[],by simp[x.2],by simp,by simp,fun _ _ _=>⟨x.1,rfl⟩⟩
 |_,.ptr _ _,_,_,_,x=>x.elim
 |_,.fn _ _,_,_,_,x=>x.elim
 |_,.mp _,_,_,hn,⟨b,l,cl,e,e2,hl,hE⟩=>⟨[b],[],by simp[e2],by simp,by simp,fun _ _ _=>⟨b,l,cl,e,rfl,hl,hE⟩⟩
 |_,.undef,_,fp,_,x=>⟨[],[],by simp[show fp=[]from x.1],by simp,by simp,fun _ _ _=>⟨rfl,x.2⟩⟩
theorem OCs.weak:∀{d:Bool} {vs:List V} {rs fp},fp.Nodup→OCs h ro d vs rs fp→∃fo fi:List Nat,(∀b,b∈fp↔b∈fo∨b∈fi)∧fo.Nodup∧(∀b∈fi,b∉fo)∧(∀ro':Nat→Prop,(∀b,ro b→ro' b)→(∀b∈fi,ro' b)→OCs h ro' false vs rs fo)
 |_,[],_,_,_,x=>⟨[],[],by simp[x.2],by simp,by simp,fun _ _ _=>⟨x.1,rfl⟩⟩
 |d,v::vs,_,_,hn,⟨r,q,f,g,e,e',ha,x,y⟩=>by
  subst e'
  have hn':=List.nodup_append.1 hn
  obtain⟨fo,fi,h1,h2,h3,h4⟩:=OEl.weak hn'.1 x
  obtain⟨go,gi,k1,k2,k3,k4⟩:=OCs.weak hn'.2.1 y
  have dis:∀b,b∈f→b∈g→False:=fun b hb hb'=>hn'.2.2 b hb b hb' rfl
  refine⟨fo++go,fi++gi,fun b=> ?_,?_,fun b hb hb'=> ?_,fun ro' hr hi=>⟨r,q,fo,go,e,rfl,ha,h4 ro' hr fun b hb=>hi b (by simp[hb]),k4 ro' hr fun b hb=>hi b (by simp[hb])⟩⟩
  ·simp only[List.mem_append,h1 b,k1 b];constructor<;>intro h<;>rcases h with(h|h)|(h|h)<;>simp[h]
  ·refine List.nodup_append.2 ⟨h2,k2,fun b hb c hc hbc=> ?_⟩
   subst hbc;exact dis b ((h1 b).2 (.inl hb)) ((k1 b).2 (.inl hc))
  ·simp only[List.mem_append]at hb hb'
   rcases hb with hb|hb<;>rcases hb' with hb'|hb'
   ·exact h3 b hb hb'
   ·exact dis b ((h1 b).2 (.inr hb)) ((k1 b).2 (.inl hb'))
   ·exact dis b ((h1 b).2 (.inl hb')) ((k1 b).2 (.inr hb))
   ·exact k3 b hb hb'
end
end mono
mutual
theorem REl.ones{h:Hp}{ro:Nat→Prop}:∀{v:V} {rs},REl h ro v rs→∀r∈rs,r.oneCell'=true
 | .bool _,_,x=>by rw[show _=_ from x];simp[Value.oneCell']
 | .int _ _,_,x=>by rw[show _=_ from x];simp[Value.oneCell']
 | .str _,_,x=>by rw[show _=_ from x];simp[Value.oneCell']
 | .sl _ _,_,⟨_,_,_,e,_⟩=>by rw[e];simp[Value.oneCell']
 | .agg cs,_,x=>RCs.ones (vs:=cs) x
 | .nilp,_,x=>by rw[show _=_ from x];simp[Value.oneCell']
 | .ptr _ _,_,x=>x.elim
 | .fn _ _,_,x=>x.elim
 | .mp _,_,⟨_,_,_,e,_⟩=>by rw[e];simp[Value.oneCell']
 | .undef,_,x=>x
theorem RCs.ones{h:Hp}{ro:Nat→Prop}:∀{vs:List V} {rs},RCs h ro vs rs→∀r∈rs,r.oneCell'=true
 | [],_,x=>by rw[show _=_ from x];simp
 |v::vs,_,⟨r,q,e,_,x,y⟩=>by
  subst e
  intro u hu
  rcases List.mem_cons.1 hu with h1|h1
  ·subst h1;exact REl.ones x _ (by simp)
  ·exact RCs.ones y u h1
end
theorem OEl.ones{h:Hp}{ro:Nat→Prop}{d:Bool}{v:V}{rs fp}(x:OEl h ro d v rs fp):∀r∈rs,r.oneCell'=true:=
 REl.ones (OEl.toRO (ro':=fun _=>True) (fun _ _=>trivial) (fun _ _=>trivial) x)
theorem RM.ones{h:Hp}{ro:Nat→Prop}{m:M}{v:V}{rs fp}(x:RM h ro m v rs fp):∀r∈rs,r.oneCell'=true:=by
 cases m with
 |pr=>exact x.2.1.ones
 |ro=>exact x.1.ones
 |own d=>exact OEl.ones x
 |pt=>exact x.elim
deriving instance DecidableEq for Lo
inductive Ow where
 |none
 |loc (l:Lo)
 |box (b:Nat)
 |pool
structure Gh where
 ro:Nat→Prop
 ow:Nat→Ow
 fp:Lo→List Nat
 bb:Nat→Option Nat
structure Fr where
 w0:World
 wr:Nat→Prop
 ro0:Nat→Prop
 fixv:Nat→Nat→Option Value
 base:Nat
 bb0:Nat→Option Nat
 defs:List Deferred:=[]
def realAt(tm:Array Value)(h:Hp)(g:Gh):Lo→Option Value
 | .s t=>tm[t]?
 | .b b j=>match g.bb b with
   |some β=>match h[β]? with
    |some (.cells c _ _)=>c[j]?
    |_=>none
   |none=>none
def St.at(S:St):Lo→Option (V×M×Nat)
 | .s t=>match S.tmps[t]? with
   |some (.one v m,ver)=>some (v,m,ver)
   |_=>none
 | .b b j=>match S.bx b with
   |some cs=>(cs[j]?).map fun c=>(c.v,c.m,c.ver)
   |none=>none
def St.verAt(S:St):Lo→Nat
 | .s t=>(S.sl t).2
 | .b b j=>match S.bx b with
   |some cs=>match cs[j]? with|some c=>c.ver|none=>0
   |none=>0
def zOf:V→Option Nat| .sl z _=>some z|_=>none
def St.zAt(S:St)(l:Lo):Option Nat:=(S.at l).bind fun x=>zOf x.1
def CV(h:Hp)(g:Gh)(m:M)(v:V)(r:Value)(fp:List Nat):Prop:=
 match m with
 | .pt=>fp=[]∧∃b off β,v= .ptr b off∧g.bb b=some β∧r= .pointer (some ⟨β,off,none⟩)
 |m=>v.isAgg=false∧RM h g.ro m v [r] fp
def CsR(h:Hp)(g:Gh):List (V×M)→List Value→List Nat→Prop
 | [],rs,fp=>rs=[]∧fp=[]
 |(v,m)::q,rs,fp=>∃r rs' f f',rs=r::rs'∧fp=f++f'∧CV h g m v r f∧CsR h g q rs' f'
def TW(h:Hp)(g:Gh)(m:M)(v:V)(r:Value)(fp:List Nat):Prop:=
 match m with
 | .pt=>fp=[]
 |m=>RW h g.ro m v r fp
def TsR(h:Hp)(g:Gh):List (V×M)→List Value→List Nat→Prop
 | [],rs,fp=>rs=[]∧fp=[]
 |(v,m)::q,rs,fp=>∃r rs' f f',rs=r::rs'∧fp=f++f'∧TW h g m v r f∧TsR h g q rs' f'
def CapR(g:Gh):List V→List Value→Prop
 | [],rs=>rs=[]
 |v::vs,rs=>∃b off β rs',v= .ptr b off∧g.bb b=some β∧rs= .pointer (some ⟨β,off,none⟩)::rs'∧CapR g vs rs'
theorem CapR.keep{g g':Gh}{kp:Nat→Prop}(hb:∀b x,kp b→g.bb b=some x→g'.bb b=some x):∀{vs:List V} {rs:List Value},(∀v∈vs,∀b o,v= .ptr b o→kp b)→CapR g vs rs→CapR g' vs rs
 | [],_,_,h=>h
 |v::vs,rs,hk,⟨b,off,β,rs',h1,h2,h3,h4⟩=>⟨b,off,β,rs',h1,hb _ _ (hk v List.mem_cons_self b off h1) h2,h3,CapR.keep hb (fun u hu=>hk u (List.mem_cons_of_mem _ hu)) h4⟩
theorem CapR.up{g g':Gh}(hb:∀b x,g.bb b=some x→g'.bb b=some x):∀{vs:List V} {rs:List Value},CapR g vs rs→CapR g' vs rs
 | [],_,h=>h
 |v::vs,rs,⟨b,off,β,rs',h1,h2,h3,h4⟩=>⟨b,off,β,rs',h1,hb _ _ h2,h3,CapR.up hb h4⟩
def OneR(h:Hp)(g:Gh)(v:V)(m:M)(r:Value)(fp:List Nat):Prop:=
 match m with
 | .pt=>fp=[]∧((∃b off β,v= .ptr b off∧g.bb b=some β∧r= .pointer (some ⟨β,off,none⟩))∨∃f caps rs,v= .fn f caps∧r= .func (.func f) #[] rs∧CapR g caps rs.toList)
 |m=>RW h g.ro m v r fp
def ArR(S:St)(tm:Array Value)(h:Hp)(g:Gh):List (Lo×Nat)→List Value→Prop
 | [],rs=>rs=[]
 |p::ps,rs=>∃r q,rs=r::q∧p.2≤S.verAt p.1∧(p.2=S.verAt p.1→realAt tm h g p.1=some r)∧ArR S tm h g ps q
def SlR(S:St)(tm:Array Value)(h:Hp)(g:Gh):Sl→Value→List Nat→Prop
 | .undef,_,fp=>fp=[]
 | .none,r,fp=>r=undef∧fp=[]
 | .one v m,r,fp=>OneR h g v m r fp
 | .many cs,r,fp=>∃rs,r= .agg rs∧CsR h g cs rs.toList fp
 | .tup cs,r,fp=>∃rs,r= .tuple rs∧TsR h g cs rs.toList fp
 | .ref l ver,r,fp=>fp=[]∧ver≤S.verAt l∧(ver=S.verAt l→realAt tm h g l=some r)
 | .eref l ver i off,r,fp=>fp=[]∧ver≤S.verAt l∧(ver=S.verAt l→∃ad len cap z,realAt tm h g l=some (.slice (some ad) len cap)∧i<len∧S.zAt l=some z∧r= .pointer (some ⟨ad.block,ad.off+i*z+off,none⟩))
 | .sref l ver lo,r,fp=>fp=[]∧ver≤S.verAt l∧(ver=S.verAt l→∃ad len cap z,realAt tm h g l=some (.slice (some ad) len cap)∧lo<len∧len≤cap∧S.zAt l=some z∧r= .slice (some (ad.add (lo*z))) (len-lo) (cap-lo))
 | .aref ps,r,fp=>fp=[]∧∃rs,r= .agg rs∧ArR S tm h g ps rs.toList
 | .rptr z e off,r,fp=>fp=[]∧∃bl o c ty fr,r= .pointer (some ⟨bl,o+off,none⟩)∧g.ro bl∧h[bl]? =some (.cells c ty fr)∧(seg c o z).length=z∧REl h g.ro e (seg c o z)
 | .aptr b off n i,r,fp=>fp=[]∧i<n∧∃β,g.bb b=some β∧r= .pointer (some ⟨β,off+i,none⟩)
structure Sim (fr:Fr) (S:St) (a:Act) (w:World) (g:Gh) (pool:List Nat):Prop where
 defers:a.defers=fr.defs
 size:a.tmps.size=S.tmps.length
 slots:∀t x,S.tmps[t]? =some x→∃r,a.tmps[t]? =some r∧SlR S a.tmps w.heap g x.1 r (g.fp (.s t))
 boxes:∀b cs,S.bx b=some cs→∃β c ty,g.bb b=some β∧w.heap[β]? =some (.cells c ty (0,0))∧c.size=cs.length∧
  ∀j x,cs[j]? =some x→∃r,c[j]? =some r∧CV w.heap g x.m x.v r (g.fp (.b b j))∧(x.fix=true→fr.fixv b j=some r)
 noBox:∀b,S.bx b=none→g.bb b=none
 own:∀l x,x∈g.fp l→g.ow x= .loc l
 nd:∀l,(g.fp l).Nodup
 ownB:∀b x,g.bb b=some x→g.ow x= .box b
 pl:∀x∈pool,g.ow x= .pool
 plnd:pool.Nodup
 free:∀x,g.ow x≠ .none→¬g.ro x∧x<w.heap.size∧(fr.w0.heap.size≤x∨fr.wr x)
 rolt:∀x,g.ro x→x<w.heap.size
 ro0:∀x,fr.ro0 x→g.ro x
 ro1:∀x,g.ro x→fr.ro0 x∨fr.wr x∨fr.w0.heap.size≤x
 frame:∀x,x<fr.w0.heap.size→¬fr.wr x→w.heap[x]? =fr.w0.heap[x]?
 grow:fr.w0.heap.size≤w.heap.size
 os:w.os=fr.w0.os
 tape:w.tape=fr.w0.tape
 output:w.output=fr.w0.output
 bl:fr.base+S.tmps.length≤S.boxes.length
 bb0:∀b β,fr.bb0 b=some β→g.bb b=some β
section lemmas
variable {fr : Fr} {S S' : St} {a : Act} {w : World} {g g' : Gh} {pool pool' : List Nat} {tm tm' : Array Value} {h h' : Hp}
theorem RM.mono{ro ro':Nat→Prop}(hr:∀b,ro b→ro' b)(hh:∀b,ro b→h'[b]? =h[b]?){m:M}{v rs fp}(hf:∀b∈fp,h'[b]? =h[b]?)(x:RM h ro m v rs fp):RM h' ro' m v rs fp:=by
 cases m with
 |pr=>exact⟨x.1,x.2.1.mono (fun _ h=>h) (fun _ h=>h.elim),x.2.2⟩
 |ro=>exact⟨x.1.mono hr hh,x.2⟩
 |own d=>exact OEl.mono hr hh hf x
 |pt=>exact x
theorem RW.mono{ro ro':Nat→Prop}(hr:∀b,ro b→ro' b)(hh:∀b,ro b→h'[b]? =h[b]?){m:M}{v r fp}(hf:∀b∈fp,h'[b]? =h[b]?)(x:RW h ro m v r fp):RW h' ro' m v r fp:=by
 unfold RW at x ⊢
 split at x
 ·obtain⟨rs,e,y⟩:=x;exact⟨rs,e,y.mono hr hh hf⟩
 ·exact RM.mono hr hh hf x
theorem CV.mono(hr:∀b,g.ro b→g'.ro b)(hb:∀b β,g.bb b=some β→g'.bb b=some β)(hh:∀b,g.ro b→h'[b]? =h[b]?){m:M}{v r fp}(hf:∀b∈fp,h'[b]? =h[b]?)(x:CV h g m v r fp):CV h' g' m v r fp:=by
 unfold CV at x ⊢
 split at x
 ·obtain⟨e,b,off,β,e1,e2,e3⟩:=x;exact⟨e,b,off,β,e1,hb _ _ e2,e3⟩
 ·exact⟨x.1,x.2.mono hr hh hf⟩
theorem CsR.mono(hr:∀b,g.ro b→g'.ro b)(hb:∀b β,g.bb b=some β→g'.bb b=some β)(hh:∀b,g.ro b→h'[b]? =h[b]?):∀{cs rs fp},(∀b∈fp,h'[b]? =h[b]?)→CsR h g cs rs fp→CsR h' g' cs rs fp
 | [],_,_,_,x=>x
 |(v,m)::q,_,_,hf,⟨r,rs',f,f',e,e',x,y⟩=>by
  subst e'
  exact⟨r,rs',f,f',e,rfl,x.mono hr hb hh (fun b hb=>hf b (by simp[hb])),CsR.mono hr hb hh (fun b hb=>hf b (by simp[hb])) y⟩
theorem TW.mono(hr:∀b,g.ro b→g'.ro b)(hh:∀b,g.ro b→h'[b]? =h[b]?){m:M}{v r fp}(hf:∀b∈fp,h'[b]? =h[b]?)(x:TW h g m v r fp):TW h' g' m v r fp:=by
 cases m with
 |pt=>exact x
 |pr=>exact RW.mono hr hh hf (m:=.pr) x
 |ro=>exact RW.mono hr hh hf (m:=.ro) x
 |own d=>exact RW.mono hr hh hf (m:=.own d) x
theorem TsR.mono(hr:∀b,g.ro b→g'.ro b)(hh:∀b,g.ro b→h'[b]? =h[b]?):∀{cs rs fp},(∀b∈fp,h'[b]? =h[b]?)→TsR h g cs rs fp→TsR h' g' cs rs fp
 | [],_,_,_,x=>x
 |(v,m)::q,_,_,hf,⟨r,rs',f,f',e,e',x,y⟩=>by
  subst e'
  exact⟨r,rs',f,f',e,rfl,x.mono hr hh (fun b hb=>hf b (by simp[hb])),TsR.mono hr hh (fun b hb=>hf b (by simp[hb])) y⟩
theorem OneR.mono(hr:∀b,g.ro b→g'.ro b)(hb:∀b β,g.bb b=some β→g'.bb b=some β)(hh:∀b,g.ro b→h'[b]? =h[b]?){v m r fp}(hf:∀b∈fp,h'[b]? =h[b]?)(x:OneR h g v m r fp):OneR h' g' v m r fp:=by
 unfold OneR at x ⊢
 split at x
 ·obtain⟨e,x⟩:=x
  exact⟨e,x.imp (fun⟨b,off,β,e1,e2,e3⟩=>⟨b,off,β,e1,hb _ _ e2,e3⟩) (fun⟨f,c,rs,e1,e2,e3⟩=>⟨f,c,rs,e1,e2,CapR.up hb e3⟩)⟩
 ·exact RW.mono hr hh hf x
theorem ArR.mono(hv:∀l,S.verAt l≤S'.verAt l)(hl:∀l,S'.verAt l=S.verAt l→∀r,realAt tm h g l=some r→realAt tm' h' g' l=some r):∀{ps:List (Lo×Nat)} {rs:List Value},ArR S tm h g ps rs→ArR S' tm' h' g' ps rs
 | [],_,x=>x
 |p::ps,_,⟨r,q,e,h1,h2,h3⟩=>⟨r,q,e,Nat.le_trans h1 (hv _),fun he=>hl p.1 (by have:=hv p.1;omega) _ (h2 (by have:=hv p.1;omega)),ArR.mono hv hl h3⟩
theorem SlR.mono(hr:∀b,g.ro b→g'.ro b)(hb:∀b β,g.bb b=some β→g'.bb b=some β)(hh:∀b,g.ro b→h'[b]? =h[b]?)
 (hv:∀l,S.verAt l≤S'.verAt l) (hl:∀l,S'.verAt l=S.verAt l→(∀r,realAt tm h g l=some r→realAt tm' h' g' l=some r)∧(∀z,S.zAt l=some z→S'.zAt l=some z))
 {s:Sl} {r:Value} {fp} (hf:∀b∈fp,h'[b]? =h[b]?) (x:SlR S tm h g s r fp):SlR S' tm' h' g' s r fp:=by
 cases s with
 |undef=>exact x
 |none=>exact x
 |one v m=>exact OneR.mono hr hb hh hf x
 |many cs=>obtain⟨rs,e,y⟩:=x;exact⟨rs,e,y.mono hr hb hh hf⟩
 |tup cs=>obtain⟨rs,e,y⟩:=x;exact⟨rs,e,y.mono hr hh hf⟩
 |ref l ver=>
  obtain⟨e,hle,y⟩:=x
  refine⟨e,Nat.le_trans hle (hv l),fun he=> ?_⟩
  have h1:=hv l
  exact(hl l (by omega)).1 _ (y (by omega))
 |eref l ver i off=>
  obtain⟨e,hle,y⟩:=x
  refine⟨e,Nat.le_trans hle (hv l),fun he=> ?_⟩
  have h1:=hv l
  obtain⟨ad,len,cap,z,p1,p2,p3,p4⟩:=y (by omega)
  exact⟨ad,len,cap,z,(hl l (by omega)).1 _ p1,p2,(hl l (by omega)).2 _ p3,p4⟩
 |sref l ver lo=>
  obtain⟨e,hle,y⟩:=x
  refine⟨e,Nat.le_trans hle (hv l),fun he=> ?_⟩
  have h1:=hv l
  obtain⟨ad,len,cap,z,p1,p2,p3,p4,p5⟩:=y (by omega)
  exact⟨ad,len,cap,z,(hl l (by omega)).1 _ p1,p2,p3,(hl l (by omega)).2 _ p4,p5⟩
 |aref ps=>
  obtain⟨e,rs,e1,y⟩:=x
  exact⟨e,rs,e1,y.mono hv fun l he=>(hl l he).1⟩
 |rptr z e off=>
  obtain⟨e1,bl,o,c,ty,frz,p1,p2,p3,p4,p5⟩:=x
  exact⟨e1,bl,o,c,ty,frz,p1,hr _ p2,by rw[hh _ p2];exact p3,p4,p5.mono hr hh⟩
 |aptr b off n i=>
  obtain⟨e,hi,β,p1,p2⟩:=x
  exact⟨e,hi,β,hb _ _ p1,p2⟩
end lemmas
open Classical
theorem sl_eq{S:St}{t:Nat}{x}(h:S.tmps[t]? =some x):S.sl t=x:=by
 unfold St.sl;rw[List.getD_eq_getElem?_getD,h];rfl
theorem bx_eq{S:St}{b:Nat}:S.bx b=(S.boxes[b]?).getD none:=by
 unfold St.bx;rw[List.getD_eq_getElem?_getD]
def St.setT(S:St)(t:Nat)(s:Sl)(v:Nat):St:={S with tmps:=S.tmps.set t (s,v)}
def St.setB(S:St)(b:Nat)(x:Option Bx):St:={S with boxes:=S.boxes.set b x}
theorem setT_get{S:St}{t t':Nat}{s v}(ht:t<S.tmps.length):(S.setT t s v).tmps[t']? =if t'=t then some (s,v)else S.tmps[t']? :=by
 simp only[St.setT,List.getElem?_set]
 by_cases e:t=t'
 ·subst e;simp[ht]
 ·simp only[e,if_false]
  rw[if_neg (fun h=>e h.symm)]
theorem setT_verAt{S:St}{t:Nat}{s v}(ht:t<S.tmps.length)(l:Lo):(S.setT t s v).verAt l=if l= .s t then v else S.verAt l:=by
 cases l with
 |s t'=>
  simp only[St.verAt,St.sl,List.getD_eq_getElem?_getD,setT_get ht,Lo.s.injEq]
  split<;>rfl
 |b b j=>simp[St.verAt,St.setT,St.bx]
theorem setT_at{S:St}{t:Nat}{s v}(ht:t<S.tmps.length)(l:Lo)(hl:l≠ .s t):(S.setT t s v).at l=S.at l:=by
 cases l with
 |s t'=>
  have:t'≠t:=fun e=>hl (by rw[e])
  simp only[St.at,setT_get ht,this,if_false]
 |b b j=>rfl
theorem setB_get{S:St}{b b':Nat}{x}(hb:b<S.boxes.length):(S.setB b x).bx b'=if b'=b then x else S.bx b':=by
 simp only[bx_eq,St.setB,List.getElem?_set]
 by_cases e:b=b'
 ·subst e;simp[hb]
 ·simp only[e,if_false]
  rw[if_neg (fun h=>e h.symm)]
theorem setB_at{S:St}{b:Nat}{x}(hb:b<S.boxes.length)(l:Lo)(hl:∀j,l≠ .b b j):(S.setB b x).at l=S.at l∧(S.setB b x).verAt l=S.verAt l:=by
 cases l with
 |s t'=>exact⟨rfl,rfl⟩
 |b b' j=>
  have:b'≠b:=fun e=>hl j (by rw[e])
  simp only[St.at,St.verAt,setB_get hb,this,if_false,and_self]
section
variable {fr : Fr} {S S' : St} {a : Act} {w w' : World} {g : Gh} {pool pool' : List Nat}
structure Same (w w':World):Prop where
 os:w'.os=w.os
 tape:w'.tape=w.tape
 output:w'.output=w.output
theorem Same.refl(w:World):Same w w:=⟨rfl,rfl,rfl⟩
theorem Same.trans{w1 w2 w3:World}(h:Same w1 w2)(k:Same w2 w3):Same w1 w3:=⟨k.os.trans h.os,k.tape.trans h.tape,k.output.trans h.output⟩
theorem sim_set(hs:Sim fr S a w g pool){t:Nat}{s:Sl}{r:Value}{nv:Nat}{fp fz pool':List Nat}(ht:t<S.tmps.length)
 (hsw:Same w w') (hsz:w.heap.size≤w'.heap.size) (hh:∀x,x<w.heap.size→x∉pool→x∉g.fp (.s t)→w'.heap[x]? =w.heap[x]?)
 (hnv:(S.sl t).2≤nv) (hsame:nv=(S.sl t).2→a.tmps[t]? =some r∧∀z,S.zAt (.s t)=some z→(S.setT t s nv).zAt (.s t)=some z)
 (hfp:∀x∈fp,x∈pool∨x∈g.fp (.s t)) (hn:fp.Nodup)
 (hfz:∀x∈fz,x∈pool∨x∈g.fp (.s t))
 (hp:∀x∈pool',x∈pool∨x∈g.fp (.s t)) (hpn:pool'.Nodup)
 (hd:∀x∈fp,x∉pool') (hd2:∀x∈fz,x∉fp∧x∉pool')
 (hsl:SlR S a.tmps w'.heap {g with ro:=fun x=>g.ro x∨x∈fz} s r fp):
 ∃g',(∀x,g'.ro x↔g.ro x∨x∈fz)∧g'.bb=g.bb∧(∀l,l≠ .s t→g'.fp l=g.fp l)∧g'.fp (.s t)=fp∧Sim fr (S.setT t s nv) (a.put (some t) r) w' g' pool':=by
 have hfree:=hs.free
 have gone:∀x,(x∈pool∨x∈g.fp (.s t))→g.ow x= .pool∨g.ow x= .loc (.s t):=fun x hx=>hx.elim (fun h=>.inl (hs.pl x h)) (fun h=>.inr (hs.own _ x h))
 have far:∀x l,l≠ .s t→x∈g.fp l→¬(x∈pool∨x∈g.fp (.s t)):=fun x l hl hx hc=>by
  have h1:=hs.own l x hx
  rcases gone x hc with h|h<;>rw[h1]at h
  ·exact Ow.noConfusion h
  ·injection h with h;exact hl h
 have farB:∀x b,g.bb b=some x→¬(x∈pool∨x∈g.fp (.s t)):=fun x b hb hc=>by
  have h1:=hs.ownB b x hb
  rcases gone x hc with h|h<;>rw[h1]at h<;>exact Ow.noConfusion h
 have ltOf:∀x,(x∈pool∨x∈g.fp (.s t))→x<w.heap.size:=fun x hx=>by
  have:g.ow x≠ .none:=by rcases gone x hx with h|h<;>rw[h]<;>exact fun c=>Ow.noConfusion c
  exact(hfree x this).2.1
 have notro:∀x,(x∈pool∨x∈g.fp (.s t))→¬g.ro x:=fun x hx=>by
  have:g.ow x≠ .none:=by rcases gone x hx with h|h<;>rw[h]<;>exact fun c=>Ow.noConfusion c
  exact(hfree x this).1
 have hro:∀x,g.ro x→w'.heap[x]? =w.heap[x]? :=fun x hx=>
  hh x (hs.rolt x hx) (fun c=>notro x (.inl c) hx) (fun c=>notro x (.inr c) hx)
 let g1:Gh:={g with ro:=fun x=>g.ro x∨x∈fz}
 let g':Gh:=⟨(fun x=>g.ro x∨x∈fz),(fun x=>if x∈fp then Ow.loc (.s t)else if x∈pool' then Ow.pool else if x∈pool∨x∈g.fp (.s t)then Ow.none else g.ow x),(fun l=>if l= .s t then fp else g.fp l),g.bb⟩
 have hver:∀l,S.verAt l≤(S.setT t s nv).verAt l:=fun l=>by
  rw[setT_verAt ht];split
  ·rename_i e;subst e;exact hnv
  ·exact Nat.le_refl _
 have htm:∀t',(a.put (some t) r).tmps[t']? =if t'=t∧t<a.tmps.size then some r else a.tmps[t']? :=fun t'=>by
  simp only[Act.put,Array.getElem?_setIfInBounds]
  by_cases e:t=t'
  ·subst e;by_cases h2:t<a.tmps.size<;>simp[h2]
  ·have:¬(t'=t):=fun h=>e h.symm
   simp[e,this]
 have ht':t<a.tmps.size:=by rw[hs.size];exact ht
 have hreal:∀l,(S.setT t s nv).verAt l=S.verAt l→(∀r',realAt a.tmps w.heap g l=some r'→realAt (a.put (some t) r).tmps w'.heap g' l=some r')∧(∀z,S.zAt l=some z→(S.setT t s nv).zAt l=some z):=fun l hv=>by
  by_cases e:l= .s t
  ·subst e
   rw[setT_verAt ht,if_pos rfl]at hv
   obtain⟨h1,h2⟩:=hsame hv
   refine⟨fun r' hr'=> ?_,h2⟩
   simp only[realAt]at hr' ⊢
   rw[htm];simp only[ht',and_self,if_true]
   rw[h1]at hr';exact hr'
  ·refine⟨fun r' hr'=> ?_,fun z hz=>by unfold St.zAt at hz ⊢;rw[setT_at ht l e];exact hz⟩
   cases l with
   |s t'=>
    have:t'≠t:=fun c=>e (by rw[c])
    simp only[realAt]at hr' ⊢
    rw[htm];simp[this,hr']
   |b b j=>
    simp only[realAt]at hr' ⊢
    show(match g.bb b with|some β=>_|none=>none)=some r'
    cases hb:g.bb b with
    |none=>simp[hb]at hr'
    |some β=>
     simp only[hb]at hr' ⊢
     have hβ:w'.heap[β]? =w.heap[β]? :=by
      have hlt:β<w.heap.size:=(hs.free β (by rw[hs.ownB b β hb];exact fun c=>Ow.noConfusion c)).2.1
      exact hh β hlt (fun c=>farB β b hb (.inl c)) (fun c=>farB β b hb (.inr c))
     rw[hβ];exact hr'
 refine⟨g',fun x=>Iff.rfl,rfl,fun l hl=>by simp[g',hl],by simp[g'],?_⟩
 constructor
 ·exact hs.defers
 ·simp[Act.put,St.setT,hs.size]
 ·intro t' x hx
  rw[setT_get ht]at hx
  by_cases e:t'=t
  ·subst e
   simp only[if_true,Option.some.injEq]at hx;subst hx
   refine⟨r,by rw[htm];simp[ht'],?_⟩
   have:g'.fp (.s t')=fp:=by simp[g']
   rw[this]
   refine SlR.mono (g:=g1) (g':=g') (S:=S) (tm:=a.tmps) (tm':=(a.put (some t') r).tmps) (fun b hb=>hb) (fun b β hb=>hb) (fun _ _=>rfl) hver (fun l hl=>⟨fun r' hr'=> ?_,(hreal l hl).2⟩) (fun _ _=>rfl) hsl
   refine(hreal l hl).1 r' ?_
   cases l with
   |s _=>exact hr'
   |b b j=>
    simp only[realAt]at hr' ⊢
    cases hb:g.bb b with
    |none=>simp[g1,hb]at hr'
    |some β=>
     have hβ:w'.heap[β]? =w.heap[β]? :=by
      have hlt:β<w.heap.size:=(hs.free β (by rw[hs.ownB b β hb];exact fun c=>Ow.noConfusion c)).2.1
      exact hh β hlt (fun c=>farB β b hb (.inl c)) (fun c=>farB β b hb (.inr c))
     simp only[g1,hb]at hr' ⊢
     rw[hβ]at hr';exact hr'
  ·simp only[e,if_false]at hx
   obtain⟨r0,h1,h2⟩:=hs.slots t' x hx
   refine⟨r0,by rw[htm];simp[e,h1],?_⟩
   have hl:(Lo.s t')≠ .s t:=fun c=>e (by injection c)
   have:g'.fp (.s t')=g.fp (.s t'):=by simp[g',e]
   rw[this]
   refine SlR.mono (g:=g) (g':=g') (S:=S) (tm:=a.tmps) (fun b hb=>Or.inl hb) (fun b β hb=>hb) hro hver hreal (fun b hb=> ?_) h2
   have hf:=far b _ hl hb
   have hlt:b<w.heap.size:=(hs.free b (by rw[hs.own _ b hb];exact fun c=>Ow.noConfusion c)).2.1
   exact hh b hlt (fun c=>hf (.inl c)) (fun c=>hf (.inr c))
 ·intro b cs hb
  obtain⟨β,c,ty,h1,h2,h3,h4⟩:=hs.boxes b cs hb
  have hβ:w'.heap[β]? =w.heap[β]? :=by
   have hlt:β<w.heap.size:=(hs.free β (by rw[hs.ownB b β h1];exact fun c=>Ow.noConfusion c)).2.1
   exact hh β hlt (fun c=>farB β b h1 (.inl c)) (fun c=>farB β b h1 (.inr c))
  refine⟨β,c,ty,h1,by rw[hβ];exact h2,h3,fun j x hx=> ?_⟩
  obtain⟨r0,k1,k2,k3⟩:=h4 j x hx
  refine⟨r0,k1,?_,k3⟩
  have:g'.fp (.b b j)=g.fp (.b b j):=by simp[g']
  rw[this]
  refine CV.mono (g:=g) (g':=g') (fun b hb=>Or.inl hb) (fun b β hb=>hb) hro (fun x hx=> ?_) k2
  have hf:=far x (.b b j) (fun c=>Lo.noConfusion c) hx
  have hlt:x<w.heap.size:=(hs.free x (by rw[hs.own _ x hx];exact fun c=>Ow.noConfusion c)).2.1
  exact hh x hlt (fun c=>hf (.inl c)) (fun c=>hf (.inr c))
 ·exact hs.noBox
 ·intro l x hx
  by_cases e:l= .s t
  ·subst e;simp only[g',if_true]at hx;simp[g',hx]
  ·simp only[g',e,if_false]at hx
   have hf:=far x l e hx
   have n1:x∉fp:=fun c=>hf (hfp x c)
   have n2:x∉pool':=fun c=>hf (hp x c)
   simp only[g',n1,n2,hf,if_false];exact hs.own l x hx
 ·intro l
  by_cases e:l= .s t
  ·subst e;simpa [g']using hn
  ·simpa [g',e]using hs.nd l
 ·intro b x hb
  have hf:=farB x b hb
  have n1:x∉fp:=fun c=>hf (hfp x c)
  have n2:x∉pool':=fun c=>hf (hp x c)
  simp only[g',n1,n2,hf,if_false];exact hs.ownB b x hb
 ·intro x hx
  have n1:x∉fp:=fun c=>hd x c hx
  simp[g',n1,hx]
 ·exact hpn
 ·intro x hx
  have key:x∉fz∧g.ow x≠ .none:=by
   by_cases c1:x∈fp
   ·refine⟨fun c=>(hd2 x c).1 c1,?_⟩
    rcases gone x (hfp x c1)with h|h<;>rw[h]<;>exact fun c=>Ow.noConfusion c
   ·by_cases c2:x∈pool'
    ·refine⟨fun c=>(hd2 x c).2 c2,?_⟩
     rcases gone x (hp x c2)with h|h<;>rw[h]<;>exact fun c=>Ow.noConfusion c
    ·by_cases c3:x∈pool∨x∈g.fp (.s t)
     ·simp[g',c1,c2,c3]at hx
     ·refine⟨fun c=>c3 (hfz x c),?_⟩
      simp only[g',c1,c2,c3,if_false]at hx;exact hx
  obtain⟨k1,k2,k3⟩:=hfree x key.2
  exact⟨fun c=>c.elim k1 key.1,Nat.lt_of_lt_of_le k2 hsz,k3⟩
 ·intro x hx
  exact hx.elim (fun h=>Nat.lt_of_lt_of_le (hs.rolt x h) hsz) (fun h=>Nat.lt_of_lt_of_le (ltOf x (hfz x h)) hsz)
 ·intro x hx;exact .inl (hs.ro0 x hx)
 ·intro x hx
  refine hx.elim (hs.ro1 x) (fun h=> ?_)
  rcases(hs.free x (by rcases gone x (hfz x h)with h|h<;>rw[h]<;>exact fun c=>Ow.noConfusion c)).2.2 with k|k
  ·exact .inr (.inr k)
  ·exact .inr (.inl k)
 ·intro x hx hm
  have hlt:x<w.heap.size:=Nat.lt_of_lt_of_le hx hs.grow
  have:¬(x∈pool∨x∈g.fp (.s t)):=fun c=>by
   have:g.ow x≠ .none:=by rcases gone x c with h|h<;>rw[h]<;>exact fun c=>Ow.noConfusion c
   rcases(hfree x this).2.2 with h|h
   ·omega
   ·exact hm h
  rw[hh x hlt (fun c=>this (.inl c)) (fun c=>this (.inr c))]
  exact hs.frame x hx hm
 ·exact Nat.le_trans hs.grow hsz
 ·exact hsw.os.trans hs.os
 ·exact hsw.tape.trans hs.tape
 ·exact hsw.output.trans hs.output
 ·simpa [St.setT]using hs.bl
 ·exact hs.bb0
end
open Classical
section
variable {fr : Fr} {S S' : St} {a : Act} {w w' : World} {g : Gh} {pool pool' : List Nat}
theorem ow_ne_pool{x:Nat}{g:Gh}(h:g.ow x= .pool):g.ow x≠ .none:=by rw[h];exact fun c=>Ow.noConfusion c
theorem ow_ne_loc{x:Nat}{g:Gh}{l:Lo}(h:g.ow x= .loc l):g.ow x≠ .none:=by rw[h];exact fun c=>Ow.noConfusion c
theorem ow_ne_box{x:Nat}{g:Gh}{b:Nat}(h:g.ow x= .box b):g.ow x≠ .none:=by rw[h];exact fun c=>Ow.noConfusion c
theorem Sim.boxLt(hs:Sim fr S a w g pool){b β:Nat}(h:g.bb b=some β):β<w.heap.size:=(hs.free β (ow_ne_box (hs.ownB b β h))).2.1
theorem Sim.fpLt(hs:Sim fr S a w g pool){l x}(h:x∈g.fp l):x<w.heap.size:=(hs.free x (ow_ne_loc (hs.own l x h))).2.1
theorem Sim.plLt(hs:Sim fr S a w g pool){x}(h:x∈pool):x<w.heap.size:=(hs.free x (ow_ne_pool (hs.pl x h))).2.1
theorem Sim.boxIx(hs:Sim fr S a w g pool){b cs}(h:S.bx b=some cs):b<S.boxes.length:=by
 rw[bx_eq]at h
 rcases Nat.lt_or_ge b S.boxes.length with k|k
 ·exact k
 ·rw[List.getElem?_eq_none k]at h;cases h
theorem sim_box(hs:Sim fr S a w g pool){b β:Nat}{cs cs':Bx}{c':Array Value}{ty:TypeId}{fpb:Nat→List Nat}{fz pool':List Nat}
 (hb:S.bx b=some cs) (hβ:g.bb b=some β) (hsw:Same w w') (hsz:w.heap.size≤w'.heap.size)
 (hw:w'.heap[β]? =some (.cells c' ty (0,0))) (hc':c'.size=cs'.length)
 (hh:∀x,x<w.heap.size→x≠β→x∉pool→(∀j,x∉g.fp (.b b j))→w'.heap[x]? =w.heap[x]?)
 (hlen:cs'.length=cs.length)
 (hver:∀(j:Nat) (x x':Cell),cs[j]? =some x→cs'[j]? =some x'→x.ver≤x'.ver∧(x'.ver=x.ver→c'[j]? =realAt a.tmps w.heap g (.b b j)∧∀z,zOf x.v=some z→zOf x'.v=some z))
 (hfix:∀(j:Nat) (x':Cell),cs'[j]? =some x'→x'.fix=true→c'[j]? =fr.fixv b j)
 (hcell:∀(j:Nat) (x':Cell),cs'[j]? =some x'→∃r,c'[j]? =some r∧CV w'.heap {g with ro:=fun x=>g.ro x∨x∈fz} x'.m x'.v r (fpb j))
 (hfp:∀j,∀x∈fpb j,x∈pool∨∃i,x∈g.fp (.b b i)) (hn:∀j,(fpb j).Nodup) (hdj:∀i j x,x∈fpb i→x∈fpb j→i=j)
 (hfz:∀x∈fz,x∈pool∨∃i,x∈g.fp (.b b i))
 (hp:∀x∈pool',x∈pool∨∃i,x∈g.fp (.b b i)) (hpn:pool'.Nodup)
 (hd:∀j,∀x∈fpb j,x∉pool') (hd2:∀x∈fz,(∀j,x∉fpb j)∧x∉pool'):
 ∃g',(∀x,g'.ro x↔g.ro x∨x∈fz)∧g'.bb=g.bb∧(∀l,(∀j,l≠ .b b j)→g'.fp l=g.fp l)∧(∀j,g'.fp (.b b j)=fpb j)∧Sim fr (S.setB b (some cs')) a w' g' pool':=by
 have hbl:=hs.boxIx hb
 have hfree:=hs.free
 have gone:∀x,(x∈pool∨∃i,x∈g.fp (.b b i))→g.ow x= .pool∨∃i,g.ow x= .loc (.b b i):=fun x hx=>hx.elim (fun h=>.inl (hs.pl x h)) (fun⟨i,h⟩=>.inr ⟨i,hs.own _ x h⟩)
 have goneN:∀x,(x∈pool∨∃i,x∈g.fp (.b b i))→g.ow x≠ .none:=fun x hx=>by
  rcases gone x hx with h|⟨i,h⟩
  ·exact ow_ne_pool h
  ·exact ow_ne_loc h
 have far:∀x l,(∀j,l≠ .b b j)→x∈g.fp l→¬(x∈pool∨∃i,x∈g.fp (.b b i)):=fun x l hl hx hc=>by
  have h1:=hs.own l x hx
  rcases gone x hc with h|⟨i,h⟩<;>rw[h1]at h
  ·exact Ow.noConfusion h
  ·injection h with h;exact hl i h
 have farB:∀x b',g.bb b'=some x→¬(x∈pool∨∃i,x∈g.fp (.b b i)):=fun x b' hb hc=>by
  have h1:=hs.ownB b' x hb
  rcases gone x hc with h|⟨i,h⟩<;>rw[h1]at h<;>exact Ow.noConfusion h
 have notβ:∀x l,x∈g.fp l→x≠β:=fun x l hx e=>by
  subst e
  have h1:=hs.own l x hx
  rw[hs.ownB b x hβ]at h1;exact Ow.noConfusion h1
 have notβp:∀x,x∈pool→x≠β:=fun x hx e=>by
  subst e
  have h1:=hs.pl x hx
  rw[hs.ownB b x hβ]at h1;exact Ow.noConfusion h1
 have roβ:¬g.ro β:=(hfree β (ow_ne_box (hs.ownB b β hβ))).1
 have hro:∀x,g.ro x→w'.heap[x]? =w.heap[x]? :=fun x hx=>
  hh x (hs.rolt x hx) (fun e=>roβ (e▸hx)) (fun c=>(hfree x (goneN x (.inl c))).1 hx) (fun j c=>(hfree x (goneN x (.inr ⟨j,c⟩))).1 hx)
 have other:∀b' β',b'≠b→g.bb b'=some β'→w'.heap[β']? =w.heap[β']? :=fun b' β' hne h=>by
  refine hh β' (hs.boxLt h) (fun e=> ?_) (fun c=>farB β' b' h (.inl c)) (fun j c=>farB β' b' h (.inr ⟨j,c⟩))
  subst e
  have h1:=hs.ownB b' β' h
  rw[hs.ownB b β' hβ]at h1;injection h1 with h1;exact hne h1.symm
 let g':Gh:=⟨(fun x=>g.ro x∨x∈fz),(fun x=>if h:∃j,x∈fpb j then Ow.loc (.b b (Classical.choose h))else if x∈pool' then Ow.pool else if x∈pool∨∃i,x∈g.fp (.b b i)then Ow.none else g.ow x),(fun l=>match l with| .b b' j=>if b'=b then fpb j else g.fp l|l=>g.fp l),g.bb⟩
 have fpo:∀l,(∀j,l≠ .b b j)→g'.fp l=g.fp l:=fun l hl=>by
  cases l with
  |s t=>rfl
  |b b' j=>have:b'≠b:=fun e=>hl j (by rw[e]);simp[g',this]
 have fpi:∀j,g'.fp (.b b j)=fpb j:=fun j=>by simp[g']
 have owi:∀j x,x∈fpb j→g'.ow x= .loc (.b b j):=fun j x hx=>by
  have h:∃j,x∈fpb j:=⟨j,hx⟩
  have e:Classical.choose h=j:=hdj _ _ x (Classical.choose_spec h) hx
  simp only[g',h,dif_pos,e]
 have hverL:∀l,S.verAt l≤(S.setB b (some cs')).verAt l:=fun l=>by
  by_cases e:∃j,l= .b b j
  ·obtain⟨j,rfl⟩:=e
   simp only[St.verAt,setB_get hbl,if_true,hb]
   cases h1:cs[j]? with
   |none=>simp
   |some x=>
    have hj:j<cs.length:=(List.getElem?_eq_some_iff.1 h1).1
    obtain ⟨x', h2⟩ : ∃ x', cs'[j]? = some x' := ⟨cs'[j]'(by omega), List.getElem?_eq_getElem (by omega)⟩
    simp only[h2];exact(hver j x x' h1 h2).1
  ·exact Nat.le_of_eq (setB_at hbl l (fun j c=>e ⟨j,c⟩)).2.symm
 have hreal:∀l,(S.setB b (some cs')).verAt l=S.verAt l→(∀r',realAt a.tmps w.heap g l=some r'→realAt a.tmps w'.heap g' l=some r')∧(∀z,S.zAt l=some z→(S.setB b (some cs')).zAt l=some z):=fun l hv=>by
  by_cases e:∃j,l= .b b j
  ·obtain⟨j,rfl⟩:=e
   simp only[St.verAt,setB_get hbl,if_true,hb]at hv
   cases h1:cs[j]? with
   |none=>
    refine⟨fun r' hr'=> ?_,fun z hz=>by simp[St.zAt,St.at,hb,h1]at hz⟩
    obtain⟨β2,c,ty2,p1,p2,p3,_⟩:=hs.boxes b cs hb
    rw[hβ]at p1;injection p1 with p1;subst p1
    have hj:=List.getElem?_eq_none_iff.1 h1
    simp only[realAt,hβ,p2]at hr'
    have:=(Array.getElem?_eq_some_iff.1 hr').1
    omega
   |some x=>
    have hj:j<cs.length:=(List.getElem?_eq_some_iff.1 h1).1
    obtain ⟨x', h2⟩ : ∃ x', cs'[j]? = some x' := ⟨cs'[j]'(by omega), List.getElem?_eq_getElem (by omega)⟩
    simp only[h1,h2]at hv
    obtain⟨k1,k2⟩:=(hver j x x' h1 h2).2 hv
    refine⟨fun r' hr'=> ?_,fun z hz=> ?_⟩
    ·rw[←k1]at hr'
     show(match g.bb b with|some β=>_|none=>none)=some r'
     simp only[hβ,hw];exact hr'
    ·simp only[St.zAt,St.at,hb,h1,Option.map_some,Option.bind_some]at hz
     simp only[St.zAt,St.at,setB_get hbl,if_true,h2,Option.map_some,Option.bind_some]
     exact k2 z hz
  ·have e':∀j,l≠ .b b j:=fun j c=>e ⟨j,c⟩
   refine⟨fun r' hr'=> ?_,fun z hz=>by unfold St.zAt at hz ⊢;rw[(setB_at hbl l e').1];exact hz⟩
   cases l with
   |s t'=>exact hr'
   |b b' j=>
    have hne:b'≠b:=fun c=>e' j (by rw[c])
    simp only[realAt]at hr' ⊢
    show(match g.bb b' with|some β=>_|none=>none)=some r'
    cases hb':g.bb b' with
    |none=>simp[hb']at hr'
    |some β'=>simp only[hb']at hr' ⊢;rw[other b' β' hne hb'];exact hr'
 refine⟨g',fun x=>Iff.rfl,rfl,fpo,fpi,?_⟩
 constructor
 ·exact hs.defers
 ·exact hs.size
 ·intro t' x hx
  obtain⟨r0,h1,h2⟩:=hs.slots t' x hx
  refine⟨r0,h1,?_⟩
  have hl:∀j,(Lo.s t')≠ .b b j:=fun j c=>Lo.noConfusion c
  rw[fpo _ hl]
  refine SlR.mono (g:=g) (g':=g') (S:=S) (tm:=a.tmps) (fun b hb=>Or.inl hb) (fun b β hb=>hb) hro hverL hreal (fun x hx=> ?_) h2
  have hf:=far x _ hl hx
  exact hh x (hs.fpLt hx) (notβ x _ hx) (fun c=>hf (.inl c)) (fun j c=>hf (.inr ⟨j,c⟩))
 ·intro b' cs2 hb2
  rw[setB_get hbl]at hb2
  by_cases e:b'=b
  ·subst e
   simp only[if_true,Option.some.injEq]at hb2;subst hb2
   refine⟨β,c',ty,hβ,hw,hc',fun j x hx=> ?_⟩
   obtain⟨r,k1,k2⟩:=hcell j x hx
   refine⟨r,k1,?_,fun hf=>by rw[←hfix j x hx hf];exact k1⟩
   rw[fpi];exact k2
  ·simp only[e,if_false]at hb2
   obtain⟨β',c,ty',h1,h2,h3,h4⟩:=hs.boxes b' cs2 hb2
   refine⟨β',c,ty',h1,by rw[other b' β' e h1];exact h2,h3,fun j x hx=> ?_⟩
   obtain⟨r0,k1,k2,k3⟩:=h4 j x hx
   refine⟨r0,k1,?_,k3⟩
   have hl:∀i,(Lo.b b' j)≠ .b b i:=fun i c=>e (by injection c)
   rw[fpo _ hl]
   refine CV.mono (g:=g) (g':=g') (fun b hb=>Or.inl hb) (fun b β hb=>hb) hro (fun x hx=> ?_) k2
   have hf:=far x _ hl hx
   exact hh x (hs.fpLt hx) (notβ x _ hx) (fun c=>hf (.inl c)) (fun j c=>hf (.inr ⟨j,c⟩))
 ·intro b' hb'
  rw[setB_get hbl]at hb'
  by_cases e:b'=b
  ·simp[e]at hb'
  ·simp only[e,if_false]at hb';exact hs.noBox b' hb'
 ·intro l x hx
  by_cases e:∃j,l= .b b j
  ·obtain⟨j,rfl⟩:=e
   rw[fpi]at hx;exact owi j x hx
  ·have e':∀j,l≠ .b b j:=fun j c=>e ⟨j,c⟩
   rw[fpo l e']at hx
   have hf:=far x l e' hx
   have n1:¬∃j,x∈fpb j:=fun⟨j,c⟩=>hf (hfp j x c)
   have n2:x∉pool':=fun c=>hf (hp x c)
   simp only[g',n1,n2,hf,dif_neg,not_false_eq_true,if_false];exact hs.own l x hx
 ·intro l
  by_cases e:∃j,l= .b b j
  ·obtain⟨j,rfl⟩:=e;rw[fpi];exact hn j
  ·rw[fpo l (fun j c=>e ⟨j,c⟩)];exact hs.nd l
 ·intro b' x hb'
  have hf:=farB x b' hb'
  have n1:¬∃j,x∈fpb j:=fun⟨j,c⟩=>hf (hfp j x c)
  have n2:x∉pool':=fun c=>hf (hp x c)
  simp only[g',n1,n2,hf,dif_neg,not_false_eq_true,if_false];exact hs.ownB b' x hb'
 ·intro x hx
  have n1:¬∃j,x∈fpb j:=fun⟨j,c⟩=>hd j x c hx
  simp only[g',n1,dif_neg,not_false_eq_true,hx,if_true]
 ·exact hpn
 ·intro x hx
  have key:x∉fz∧g.ow x≠ .none:=by
   by_cases c1:∃j,x∈fpb j
   ·obtain⟨j,c1⟩:=c1
    exact⟨fun c=>(hd2 x c).1 j c1,goneN x (hfp j x c1)⟩
   ·by_cases c2:x∈pool'
    ·exact⟨fun c=>(hd2 x c).2 c2,goneN x (hp x c2)⟩
    ·by_cases c3:x∈pool∨∃i,x∈g.fp (.b b i)
     ·simp only[g',c1,c2,c3,dif_neg,not_false_eq_true,if_false,if_true]at hx;exact absurd rfl hx
     ·refine⟨fun c=>c3 (hfz x c),?_⟩
      simp only[g',c1,c2,c3,dif_neg,not_false_eq_true,if_false]at hx;exact hx
  obtain⟨k1,k2,k3⟩:=hfree x key.2
  exact⟨fun c=>c.elim k1 key.1,Nat.lt_of_lt_of_le k2 hsz,k3⟩
 ·intro x hx
  refine hx.elim (fun h=>Nat.lt_of_lt_of_le (hs.rolt x h) hsz) (fun h=>Nat.lt_of_lt_of_le ?_ hsz)
  exact(hfree x (goneN x (hfz x h))).2.1
 ·intro x hx;exact .inl (hs.ro0 x hx)
 ·intro x hx
  refine hx.elim (hs.ro1 x) (fun h=> ?_)
  rcases(hfree x (goneN x (hfz x h))).2.2 with k|k
  ·exact .inr (.inr k)
  ·exact .inr (.inl k)
 ·intro x hx hm
  have hlt:x<w.heap.size:=Nat.lt_of_lt_of_le hx hs.grow
  have nf:g.ow x≠ .none→False:=fun h=>by
   rcases(hfree x h).2.2 with k|k
   ·omega
   ·exact hm k
  rw[hh x hlt (fun e=>nf (by rw[e];exact ow_ne_box (hs.ownB b β hβ))) (fun c=>nf (goneN x (.inl c))) (fun j c=>nf (goneN x (.inr ⟨j,c⟩)))]
  exact hs.frame x hx hm
 ·exact Nat.le_trans hs.grow hsz
 ·exact hsw.os.trans hs.os
 ·exact hsw.tape.trans hs.tape
 ·exact hsw.output.trans hs.output
 ·simpa [St.setB]using hs.bl
 ·exact hs.bb0
theorem sim_world(hs:Sim fr S a w g pool)(hsw:Same w w')(hsz:w.heap.size≤w'.heap.size)(hh:∀x,x<w.heap.size→x∉pool→w'.heap[x]? =w.heap[x]?)
 {new:List Nat} (hnew:∀x∈new,w.heap.size≤x∧x<w'.heap.size) (hnn:new.Nodup) (hp:∀x∈pool',x∈pool∨x∈new) (hpn:pool'.Nodup):
 ∃g',g'.ro=g.ro∧g'.bb=g.bb∧g'.fp=g.fp∧Sim fr S a w' g' pool':=by
 have owlt:∀x,g.ow x≠ .none→x<w.heap.size:=fun x h=>(hs.free x h).2.1
 have np:∀x l,x∈g.fp l→x∉pool:=fun x l hx c=>by
  have h1:=hs.own l x hx;rw[hs.pl x c]at h1;exact Ow.noConfusion h1
 have npB:∀x b,g.bb b=some x→x∉pool:=fun x b hx c=>by
  have h1:=hs.ownB b x hx;rw[hs.pl x c]at h1;exact Ow.noConfusion h1
 have hro:∀x,g.ro x→w'.heap[x]? =w.heap[x]? :=fun x hx=>hh x (hs.rolt x hx) (fun c=>(hs.free x (ow_ne_pool (hs.pl x c))).1 hx)
 have hbx:∀b β,g.bb b=some β→w'.heap[β]? =w.heap[β]? :=fun b β h=>hh β (hs.boxLt h) (npB β b h)
 let g':Gh:=⟨g.ro,(fun x=>if x∈pool' then Ow.pool else if x∈pool then Ow.none else g.ow x),g.fp,g.bb⟩
 have notp':∀x,x∉pool→x<w.heap.size→x∉pool':=fun x h1 h2 c=>by
  rcases hp x c with k|k
  ·exact h1 k
  ·have:=(hnew x k).1;omega
 refine⟨g',rfl,rfl,rfl,?_⟩
 constructor
 ·exact hs.defers
 ·exact hs.size
 ·intro t x hx
  obtain⟨r,h1,h2⟩:=hs.slots t x hx
  refine⟨r,h1,SlR.mono (g:=g) (g':=g') (S:=S) (tm:=a.tmps) (fun b hb=>hb) (fun b β hb=>hb) hro (fun _=>Nat.le_refl _) (fun l _=>⟨fun r' hr'=> ?_,fun z hz=>hz⟩) (fun x hx=>hh x (hs.fpLt hx) (np x _ hx)) h2⟩
  cases l with
  |s t'=>exact hr'
  |b b j=>
   simp only[realAt]at hr' ⊢
   show(match g.bb b with|some β=>_|none=>none)=some r'
   cases hb:g.bb b with
   |none=>simp[hb]at hr'
   |some β=>simp only[hb]at hr' ⊢;rw[hbx b β hb];exact hr'
 ·intro b cs hb
  obtain⟨β,c,ty,h1,h2,h3,h4⟩:=hs.boxes b cs hb
  refine⟨β,c,ty,h1,by rw[hbx b β h1];exact h2,h3,fun j x hx=> ?_⟩
  obtain⟨r,k1,k2,k3⟩:=h4 j x hx
  exact⟨r,k1,CV.mono (g:=g) (g':=g') (fun b hb=>hb) (fun b β hb=>hb) hro (fun x hx=>hh x (hs.fpLt hx) (np x _ hx)) k2,k3⟩
 ·exact hs.noBox
 ·intro l x hx
  have h1:=np x l hx
  have h2:=notp' x h1 (hs.fpLt hx)
  simp only[g',h1,h2,if_false];exact hs.own l x hx
 ·exact hs.nd
 ·intro b x hx
  have h1:=npB x b hx
  have h2:=notp' x h1 (hs.boxLt hx)
  simp only[g',h1,h2,if_false];exact hs.ownB b x hx
 ·intro x hx;simp[g',hx]
 ·exact hpn
 ·intro x hx
  by_cases c1:x∈pool'
  ·rcases hp x c1 with h|h
   ·obtain⟨k1,k2,k3⟩:=hs.free x (ow_ne_pool (hs.pl x h))
    exact⟨k1,Nat.lt_of_lt_of_le k2 hsz,k3⟩
   ·obtain⟨k1,k2⟩:=hnew x h
    exact⟨fun c=>by have:=hs.rolt x c;omega,k2,.inl (Nat.le_trans hs.grow k1)⟩
  ·by_cases c2:x∈pool
   ·simp only[g',c1,c2,if_false,if_true]at hx;exact absurd rfl hx
   ·simp only[g',c1,c2,if_false]at hx
    obtain⟨k1,k2,k3⟩:=hs.free x hx
    exact⟨k1,Nat.lt_of_lt_of_le k2 hsz,k3⟩
 ·intro x hx;exact Nat.lt_of_lt_of_le (hs.rolt x hx) hsz
 ·exact hs.ro0
 ·exact hs.ro1
 ·intro x hx hm
  have hlt:x<w.heap.size:=Nat.lt_of_lt_of_le hx hs.grow
  rw[hh x hlt (fun c=> ?_)]
  ·exact hs.frame x hx hm
  ·rcases(hs.free x (ow_ne_pool (hs.pl x c))).2.2 with k|k
   ·omega
   ·exact hm k
 ·exact Nat.le_trans hs.grow hsz
 ·exact hsw.os.trans hs.os
 ·exact hsw.tape.trans hs.tape
 ·exact hsw.output.trans hs.output
 ·exact hs.bl
 ·exact hs.bb0
theorem sim_freeze(hs:Sim fr S a w g pool){fz pool':List Nat}(hfz:∀x∈fz,x∈pool)(hp:∀x∈pool',x∈pool)(hpn:pool'.Nodup)(hd:∀x∈fz,x∉pool'):
 ∃g',(∀x,g'.ro x↔g.ro x∨x∈fz)∧g'.bb=g.bb∧g'.fp=g.fp∧Sim fr S a w g' pool':=by
 let g':Gh:=⟨(fun x=>g.ro x∨x∈fz),(fun x=>if x∈pool' then Ow.pool else if x∈pool then Ow.none else g.ow x),g.fp,g.bb⟩
 have np:∀x l,x∈g.fp l→x∉pool:=fun x l hx c=>by
  have h1:=hs.own l x hx;rw[hs.pl x c]at h1;exact Ow.noConfusion h1
 have npB:∀x b,g.bb b=some x→x∉pool:=fun x b hx c=>by
  have h1:=hs.ownB b x hx;rw[hs.pl x c]at h1;exact Ow.noConfusion h1
 refine⟨g',fun x=>Iff.rfl,rfl,rfl,?_⟩
 constructor
 ·exact hs.defers
 ·exact hs.size
 ·intro t x hx
  obtain⟨r,h1,h2⟩:=hs.slots t x hx
  exact⟨r,h1,SlR.mono (g:=g) (g':=g') (S:=S) (tm:=a.tmps) (fun b hb=>Or.inl hb) (fun b β hb=>hb) (fun _ _=>rfl) (fun _=>Nat.le_refl _) (fun l _=>⟨fun r' hr'=>by cases l<;>exact hr',fun z hz=>hz⟩) (fun _ _=>rfl) h2⟩
 ·intro b cs hb
  obtain⟨β,c,ty,h1,h2,h3,h4⟩:=hs.boxes b cs hb
  refine⟨β,c,ty,h1,h2,h3,fun j x hx=> ?_⟩
  obtain⟨r,k1,k2,k3⟩:=h4 j x hx
  exact⟨r,k1,CV.mono (g:=g) (g':=g') (fun b hb=>Or.inl hb) (fun b β hb=>hb) (fun _ _=>rfl) (fun _ _=>rfl) k2,k3⟩
 ·exact hs.noBox
 ·intro l x hx
  have h1:=np x l hx
  have h2:x∉pool':=fun c=>h1 (hp x c)
  simp only[g',h1,h2,if_false];exact hs.own l x hx
 ·exact hs.nd
 ·intro b x hx
  have h1:=npB x b hx
  have h2:x∉pool':=fun c=>h1 (hp x c)
  simp only[g',h1,h2,if_false];exact hs.ownB b x hx
 ·intro x hx;simp[g',hx]
 ·exact hpn
 ·intro x hx
  by_cases c1:x∈pool'
  ·obtain⟨k1,k2,k3⟩:=hs.free x (ow_ne_pool (hs.pl x (hp x c1)))
   exact⟨fun c=>c.elim k1 (fun c=>hd x c c1),k2,k3⟩
  ·by_cases c2:x∈pool
   ·simp only[g',c1,c2,if_false,if_true]at hx;exact absurd rfl hx
   ·simp only[g',c1,c2,if_false]at hx
    obtain⟨k1,k2,k3⟩:=hs.free x hx
    exact⟨fun c=>c.elim k1 (fun c=>c2 (hfz x c)),k2,k3⟩
 ·intro x hx;exact hx.elim (hs.rolt x) (fun h=>hs.plLt (hfz x h))
 ·intro x hx;exact .inl (hs.ro0 x hx)
 ·intro x hx
  refine hx.elim (hs.ro1 x) (fun h=> ?_)
  rcases(hs.free x (ow_ne_pool (hs.pl x (hfz x h)))).2.2 with k|k
  ·exact .inr (.inr k)
  ·exact .inr (.inl k)
 ·exact hs.frame
 ·exact hs.grow
 ·exact hs.os
 ·exact hs.tape
 ·exact hs.output
 ·exact hs.bl
 ·exact hs.bb0
theorem sim_newbox(hs:Sim fr S a w g pool){b β:Nat}{cs:Bx}{c:Array Value}{ty:TypeId}{fpb:Nat→List Nat}{pool':List Nat}
 (hb:S.bx b=none) (hbl:b<S.boxes.length) (hβ:β∈pool) (hw:w.heap[β]? =some (.cells c ty (0,0))) (hc:c.size=cs.length)
 (hfix:∀(j:Nat) (x':Cell),cs[j]? =some x'→x'.fix=false)
 (hcell:∀(j:Nat) (x':Cell),cs[j]? =some x'→∃r,c[j]? =some r∧CV w.heap g x'.m x'.v r (fpb j))
 (hfp:∀j,∀x∈fpb j,x∈pool∧x≠β) (hn:∀j,(fpb j).Nodup) (hdj:∀i j x,x∈fpb i→x∈fpb j→i=j)
 (hp:∀x∈pool',x∈pool∧x≠β) (hpn:pool'.Nodup) (hd:∀j,∀x∈fpb j,x∉pool'):
 ∃g',g'.ro=g.ro∧g'.bb b=some β∧(∀b',b'≠b→g'.bb b'=g.bb b')∧(∀l,(∀j,l≠ .b b j)→g'.fp l=g.fp l)∧Sim fr (S.setB b (some cs)) a w g' pool':=by
 have hbn:=hs.noBox b hb
 let g':Gh:=⟨g.ro,(fun x=>if x=β then Ow.box b else if h:∃j,x∈fpb j then Ow.loc (.b b (Classical.choose h))else if x∈pool' then Ow.pool else if x∈pool then Ow.none else g.ow x),(fun l=>match l with| .b b' j=>if b'=b then fpb j else g.fp l|l=>g.fp l),(fun b'=>if b'=b then some β else g.bb b')⟩
 have np:∀x l,x∈g.fp l→x∉pool:=fun x l hx c=>by
  have h1:=hs.own l x hx;rw[hs.pl x c]at h1;exact Ow.noConfusion h1
 have npB:∀x b,g.bb b=some x→x∉pool:=fun x b hx c=>by
  have h1:=hs.ownB b x hx;rw[hs.pl x c]at h1;exact Ow.noConfusion h1
 have fpo:∀l,(∀j,l≠ .b b j)→g'.fp l=g.fp l:=fun l hl=>by
  cases l with
  |s t=>rfl
  |b b' j=>have:b'≠b:=fun e=>hl j (by rw[e]);simp[g',this]
 have fpi:∀j,g'.fp (.b b j)=fpb j:=fun j=>by simp[g']
 have hbb:∀b' β',g.bb b'=some β'→g'.bb b'=some β':=fun b' β' h=>by
  have:b'≠b:=fun e=>by rw[e,hbn]at h;cases h
  simp[g',this,h]
 have owi:∀j x,x∈fpb j→g'.ow x= .loc (.b b j):=fun j x hx=>by
  have h:∃j,x∈fpb j:=⟨j,hx⟩
  have e:Classical.choose h=j:=hdj _ _ x (Classical.choose_spec h) hx
  have nb:=(hfp j x hx).2
  simp only[g',nb,if_false,h,dif_pos,e]
 have owo:∀x,x∉pool→g'.ow x=g.ow x:=fun x hx=>by
  have n0:x≠β:=fun e=>hx (e▸hβ)
  have n1:¬∃j,x∈fpb j:=fun⟨j,c⟩=>hx (hfp j x c).1
  have n2:x∉pool':=fun c=>hx (hp x c).1
  simp only[g',n0,n1,n2,hx,dif_neg,not_false_eq_true,if_false]
 have hat:∀l,(∀j,l≠ .b b j)→(S.setB b (some cs)).at l=S.at l∧(S.setB b (some cs)).verAt l=S.verAt l:=fun l hl=>setB_at hbl l hl
 have hverL:∀l,S.verAt l≤(S.setB b (some cs)).verAt l:=fun l=>by
  by_cases e:∃j,l= .b b j
  ·obtain⟨j,rfl⟩:=e
   simp only[St.verAt,hb];exact Nat.zero_le _
  ·exact Nat.le_of_eq (hat l (fun j c=>e ⟨j,c⟩)).2.symm
 have hreal:∀l,(∀r',realAt a.tmps w.heap g l=some r'→realAt a.tmps w.heap g' l=some r')∧(∀z,S.zAt l=some z→(S.setB b (some cs)).zAt l=some z):=fun l=>by
  by_cases e:∃j,l= .b b j
  ·obtain⟨j,rfl⟩:=e
   refine⟨fun r' hr'=>by simp[realAt,hbn]at hr',fun z hz=>by simp[St.zAt,St.at,hb]at hz⟩
  ·have e':∀j,l≠ .b b j:=fun j c=>e ⟨j,c⟩
   refine⟨fun r' hr'=> ?_,fun z hz=>by unfold St.zAt at hz ⊢;rw[(hat l e').1];exact hz⟩
   cases l with
   |s t'=>exact hr'
   |b b' j=>
    have hne:b'≠b:=fun c=>e' j (by rw[c])
    simp only[realAt]at hr' ⊢
    have:g'.bb b'=g.bb b':=by simp[g',hne]
    rw[this];exact hr'
 refine⟨g',rfl,by simp[g'],fun b' h=>by simp[g',h],fpo,?_⟩
 constructor
 ·exact hs.defers
 ·exact hs.size
 ·intro t' x hx
  obtain⟨r0,h1,h2⟩:=hs.slots t' x hx
  refine⟨r0,h1,?_⟩
  rw[fpo _ (fun j c=>Lo.noConfusion c)]
  exact SlR.mono (g:=g) (g':=g') (S:=S) (tm:=a.tmps) (fun b hb=>hb) hbb (fun _ _=>rfl) hverL (fun l _=>hreal l) (fun _ _=>rfl) h2
 ·intro b' cs2 hb2
  rw[setB_get hbl]at hb2
  by_cases e:b'=b
  ·subst e
   simp only[if_true,Option.some.injEq]at hb2;subst hb2
   refine⟨β,c,ty,by simp[g'],hw,hc,fun j x hx=> ?_⟩
   obtain⟨r,k1,k2⟩:=hcell j x hx
   refine⟨r,k1,?_,fun hf=>by rw[hfix j x hx]at hf;cases hf⟩
   rw[fpi];exact CV.mono (g:=g) (g':=g') (fun b hb=>hb) hbb (fun _ _=>rfl) (fun _ _=>rfl) k2
  ·simp only[e,if_false]at hb2
   obtain⟨β',c2,ty',h1,h2,h3,h4⟩:=hs.boxes b' cs2 hb2
   refine⟨β',c2,ty',hbb _ _ h1,h2,h3,fun j x hx=> ?_⟩
   obtain⟨r0,k1,k2,k3⟩:=h4 j x hx
   refine⟨r0,k1,?_,k3⟩
   rw[fpo _ (fun i c=>e (by injection c))]
   exact CV.mono (g:=g) (g':=g') (fun b hb=>hb) hbb (fun _ _=>rfl) (fun _ _=>rfl) k2
 ·intro b' hb'
  rw[setB_get hbl]at hb'
  by_cases e:b'=b
  ·simp[e]at hb'
  ·simp only[e,if_false]at hb';simp only[g',e,if_false];exact hs.noBox b' hb'
 ·intro l x hx
  by_cases e:∃j,l= .b b j
  ·obtain⟨j,rfl⟩:=e
   rw[fpi]at hx;exact owi j x hx
  ·rw[fpo l (fun j c=>e ⟨j,c⟩)]at hx
   rw[owo x (np x l hx)];exact hs.own l x hx
 ·intro l
  by_cases e:∃j,l= .b b j
  ·obtain⟨j,rfl⟩:=e;rw[fpi];exact hn j
  ·rw[fpo l (fun j c=>e ⟨j,c⟩)];exact hs.nd l
 ·intro b' x hb'
  by_cases e:b'=b
  ·subst e;simp only[g',if_true,Option.some.injEq]at hb';subst hb';simp[g']
  ·simp only[g',e,if_false]at hb'
   rw[owo x (npB x b' hb')];exact hs.ownB b' x hb'
 ·intro x hx
  have n0:=(hp x hx).2
  have n1:¬∃j,x∈fpb j:=fun⟨j,c⟩=>hd j x c hx
  simp only[g',n0,n1,hx,dif_neg,not_false_eq_true,if_false,if_true]
 ·exact hpn
 ·intro x hx
  by_cases c0:x∈pool
  ·exact hs.free x (ow_ne_pool (hs.pl x c0))
  ·rw[owo x c0]at hx;exact hs.free x hx
 ·exact hs.rolt
 ·exact hs.ro0
 ·exact hs.ro1
 ·exact hs.frame
 ·exact hs.grow
 ·exact hs.os
 ·exact hs.tape
 ·exact hs.output
 ·simpa [St.setB]using hs.bl
 ·exact fun b' β' h=>hbb _ _ (hs.bb0 b' β' h)
end
open Classical
section
variable {fr : Fr} {S S' : St} {a : Act} {w w' : World} {g : Gh} {pool pool' : List Nat}
def Giv(g:Gh)(pool:List Nat)(H:Nat→Prop)(x:Nat):Prop:=x∈pool∨∃b j,H b∧x∈g.fp (.b b j)
theorem sim_many(hs:Sim fr S a w g pool){H:Nat→Prop}{fpn:Nat→Nat→List Nat}{ro':Nat→Prop}
 (ht:S'.tmps=S.tmps) (hbl:S'.boxes.length=S.boxes.length) (hsame:∀b,¬H b→S'.bx b=S.bx b)
 (hsw:Same w w') (hsz:w.heap.size≤w'.heap.size)
 (hh:∀x,x<w.heap.size→¬Giv g pool H x→(∀b,H b→g.bb b≠some x)→w'.heap[x]? =w.heap[x]?)
 (hro:∀x,g.ro x→ro' x) (hro':∀x,ro' x→g.ro x∨Giv g pool H x∨(w.heap.size≤x∧x<w'.heap.size))
 (hbox:∀b,H b→∃cs cs' β c' ty,S.bx b=some cs∧S'.bx b=some cs'∧cs'.length=cs.length∧g.bb b=some β∧w'.heap[β]? =some (.cells c' ty (0,0))∧c'.size=cs'.length∧
   (∀(j:Nat) (x x':Cell),cs[j]? =some x→cs'[j]? =some x'→x.ver≤x'.ver∧(x'.ver=x.ver→c'[j]? =realAt a.tmps w.heap g (.b b j)∧∀z,zOf x.v=some z→zOf x'.v=some z))∧
   (∀(j:Nat) (x':Cell),cs'[j]? =some x'→∃r,c'[j]? =some r∧CV w'.heap {g with ro:=ro'} x'.m x'.v r (fpn b j)∧(x'.fix=true→fr.fixv b j=some r)))
 (hfp:∀b j x,H b→x∈fpn b j→(Giv g pool H x∨w.heap.size≤x)∧x<w'.heap.size∧¬ro' x) (hn:∀b j,H b→(fpn b j).Nodup)
 (hdj:∀b j b' j' x,H b→H b'→x∈fpn b j→x∈fpn b' j'→b=b'∧j=j')
 (hp:∀x∈pool',(Giv g pool H x∨w.heap.size≤x)∧x<w'.heap.size∧¬ro' x) (hpn:pool'.Nodup)
 (hd:∀b j x,H b→x∈fpn b j→x∉pool'):
 ∃g',g'.ro=ro'∧g'.bb=g.bb∧Sim fr S' a w' g' pool':=by
 have hfree:=hs.free
 have gone:∀x,Giv g pool H x→g.ow x= .pool∨∃b i,H b∧g.ow x= .loc (.b b i):=fun x hx=>hx.elim (fun h=>.inl (hs.pl x h)) (fun⟨b,i,hb,h⟩=>.inr ⟨b,i,hb,hs.own _ x h⟩)
 have goneN:∀x,Giv g pool H x→g.ow x≠ .none:=fun x hx=>by
  rcases gone x hx with h|⟨b,i,_,h⟩
  ·exact ow_ne_pool h
  ·exact ow_ne_loc h
 have far:∀(x:Nat) (l:Lo),(∀b j,H b→l≠ .b b j)→x∈g.fp l→¬Giv g pool H x:=fun x l hl hx hc=>by
  have h1:=hs.own l x hx
  rcases gone x hc with h|⟨b,i,hb,h⟩<;>rw[h1]at h
  ·exact Ow.noConfusion h
  ·injection h with h;exact hl b i hb h
 have farB:∀x b',g.bb b'=some x→¬Giv g pool H x:=fun x b' hb hc=>by
  have h1:=hs.ownB b' x hb
  rcases gone x hc with h|⟨b,i,_,h⟩<;>rw[h1]at h<;>exact Ow.noConfusion h
 have notB:∀x l,x∈g.fp l→∀b,H b→g.bb b≠some x:=fun x l hx b _ e=>by
  have h1:=hs.own l x hx
  rw[hs.ownB b x e]at h1;exact Ow.noConfusion h1
 have roh:∀x,g.ro x→w'.heap[x]? =w.heap[x]? :=fun x hx=>
  hh x (hs.rolt x hx) (fun c=>(hfree x (goneN x c)).1 hx) (fun b _ e=>(hfree x (ow_ne_box (hs.ownB b x e))).1 hx)
 have other:∀b' β',¬H b'→g.bb b'=some β'→w'.heap[β']? =w.heap[β']? :=fun b' β' hne h=>by
  refine hh β' (hs.boxLt h) (farB β' b' h) (fun b hb e=> ?_)
  have h1:=hs.ownB b' β' h
  rw[hs.ownB b β' e]at h1;injection h1 with h1;exact hne (h1▸hb)
 have newFar:∀(x:Nat) (l:Lo),(∀b j,H b→l≠ .b b j)→x∈g.fp l→¬(Giv g pool H x∨w.heap.size≤x):=fun x l hl hx hc=>by
  rcases hc with hc|hc
  ·exact far x l hl hx hc
  ·have:=hs.fpLt hx;omega
 have newFarB:∀x b,g.bb b=some x→¬(Giv g pool H x∨w.heap.size≤x):=fun x b hx hc=>by
  rcases hc with hc|hc
  ·exact farB x b hx hc
  ·have:=hs.boxLt hx;omega
 let inF:Nat→Prop:=fun x=>∃p:Nat×Nat,H p.1∧x∈fpn p.1 p.2
 let g':Gh:=⟨ro',(fun x=>if h:inF x then Ow.loc (.b (Classical.choose h).1 (Classical.choose h).2)else if x∈pool' then Ow.pool else if Giv g pool H x then Ow.none else g.ow x),
  (fun l=>match l with| .b b j=>if H b then fpn b j else g.fp l|l=>g.fp l),g.bb⟩
 have fpo:∀l:Lo,(∀b j,H b→l≠ .b b j)→g'.fp l=g.fp l:=fun l hl=>by
  cases l with
  |s t=>rfl
  |b b j=>have:¬H b:=fun e=>hl b j e rfl
          simp only[g',this,if_false]
 have fpi:∀b j,H b→g'.fp (.b b j)=fpn b j:=fun b j hb=>by simp only[g',hb,if_true]
 have owi:∀b j x,H b→x∈fpn b j→g'.ow x= .loc (.b b j):=fun b j x hb hx=>by
  have h:inF x:=⟨(b,j),hb,hx⟩
  have e:=Classical.choose_spec h
  obtain⟨e1,e2⟩:=hdj _ _ _ _ x e.1 hb e.2 hx
  simp only[g',h,dif_pos]
  rw[e1,e2]
 have owo:∀x,¬(Giv g pool H x∨w.heap.size≤x)→g'.ow x=g.ow x:=fun x hx=>by
  have n1:¬inF x:=fun⟨p,h1,h2⟩=>hx (hfp p.1 p.2 x h1 h2).1
  have n2:x∉pool':=fun c=>hx (hp x c).1
  have n3:¬Giv g pool H x:=fun c=>hx (.inl c)
  simp only[g',n1,n2,n3,dif_neg,not_false_eq_true,if_false]
 have hat:∀l:Lo,(∀b j,H b→l≠ .b b j)→S'.at l=S.at l∧S'.verAt l=S.verAt l:=fun l hl=>by
  cases l with
  |s t=>simp only[St.at,St.verAt,St.sl,ht,and_self]
  |b b j=>have:¬H b:=fun e=>hl b j e rfl
          simp only[St.at,St.verAt,hsame b this,and_self]
 have isH:∀l:Lo,(∃b j,H b∧l= .b b j)∨(∀b j,H b→l≠ .b b j):=fun l=>by
  by_cases e:∃b j,H b∧l= .b b j
  ·exact .inl e
  ·exact .inr fun b j hb c=>e ⟨b,j,hb,c⟩
 have hverL:∀l:Lo,S.verAt l≤S'.verAt l:=fun l=>by
  rcases isH l with⟨b,j,hb,rfl⟩|e
  ·obtain⟨cs,cs',β,c',ty,q1,q2,q3,q4,q5,q6,q7,q8⟩:=hbox b hb
   simp only[St.verAt,q1,q2]
   cases h1:cs[j]? with
   |none=>simp
   |some x=>
    have hj:j<cs.length:=(List.getElem?_eq_some_iff.1 h1).1
    obtain ⟨x', h2⟩ : ∃ x', cs'[j]? = some x' := ⟨cs'[j]'(by omega), List.getElem?_eq_getElem (by omega)⟩
    simp only[h2];exact(q7 j x x' h1 h2).1
  ·exact Nat.le_of_eq (hat l e).2.symm
 have hreal:∀l,S'.verAt l=S.verAt l→(∀r',realAt a.tmps w.heap g l=some r'→realAt a.tmps w'.heap g' l=some r')∧(∀z,S.zAt l=some z→S'.zAt l=some z):=fun l hv=>by
  rcases isH l with⟨b,j,hb,rfl⟩|e
  ·obtain⟨cs,cs',β,c',ty,q1,q2,q3,q4,q5,q6,q7,q8⟩:=hbox b hb
   simp only[St.verAt,q1,q2]at hv
   cases h1:cs[j]? with
   |none=>
    refine⟨fun r' hr'=> ?_,fun z hz=>by simp[St.zAt,St.at,q1,h1]at hz⟩
    obtain⟨β2,c,ty2,p1,p2,p3,_⟩:=hs.boxes b cs q1
    rw[q4]at p1;injection p1 with p1;subst p1
    have hj:=List.getElem?_eq_none_iff.1 h1
    simp only[realAt,q4,p2]at hr'
    have:=(Array.getElem?_eq_some_iff.1 hr').1
    omega
   |some x=>
    have hj:j<cs.length:=(List.getElem?_eq_some_iff.1 h1).1
    obtain ⟨x', h2⟩ : ∃ x', cs'[j]? = some x' := ⟨cs'[j]'(by omega), List.getElem?_eq_getElem (by omega)⟩
    simp only[h1,h2]at hv
    obtain⟨k1,k2⟩:=(q7 j x x' h1 h2).2 hv
    refine⟨fun r' hr'=> ?_,fun z hz=> ?_⟩
    ·rw[←k1]at hr'
     show(match g.bb b with|some β=>_|none=>none)=some r'
     simp only[q4,q5];exact hr'
    ·simp only[St.zAt,St.at,q1,h1,Option.map_some,Option.bind_some]at hz
     simp only[St.zAt,St.at,q2,h2,Option.map_some,Option.bind_some]
     exact k2 z hz
  ·refine⟨fun r' hr'=> ?_,fun z hz=>by unfold St.zAt at hz ⊢;rw[(hat l e).1];exact hz⟩
   cases l with
   |s t'=>exact hr'
   |b b' j=>
    have hne:¬H b':=fun c=>e b' j c rfl
    simp only[realAt]at hr' ⊢
    show(match g.bb b' with|some β=>_|none=>none)=some r'
    cases hb':g.bb b' with
    |none=>simp[hb']at hr'
    |some β'=>simp only[hb']at hr' ⊢;rw[other b' β' hne hb'];exact hr'
 have keep:∀(l:Lo) (x:Nat),(∀b j,H b→l≠ .b b j)→x∈g.fp l→w'.heap[x]? =w.heap[x]? :=fun l x hl hx=>hh x (hs.fpLt hx) (far x l hl hx) (notB x l hx)
 refine⟨g',rfl,rfl,?_⟩
 constructor
 ·exact hs.defers
 ·rw[ht];exact hs.size
 ·intro t' x hx
  rw[ht]at hx
  obtain⟨r0,h1,h2⟩:=hs.slots t' x hx
  refine⟨r0,h1,?_⟩
  have hl:∀b j,H b→(Lo.s t')≠ .b b j:=fun b j _ c=>Lo.noConfusion c
  rw[fpo _ hl]
  exact SlR.mono (g:=g) (g':=g') (S:=S) (tm:=a.tmps) hro (fun b β hb=>hb) roh hverL hreal (fun x hx=>keep _ x hl hx) h2
 ·intro b' cs2 hb2
  by_cases e:H b'
  ·obtain⟨cs,cs',β,c',ty,q1,q2,q3,q4,q5,q6,q7,q8⟩:=hbox b' e
   rw[q2]at hb2;cases hb2
   refine⟨β,c',ty,q4,q5,q6,fun j x hx=> ?_⟩
   obtain⟨r,k1,k2,k3⟩:=q8 j x hx
   refine⟨r,k1,?_,k3⟩
   rw[fpi b' j e];exact k2
  ·rw[hsame b' e]at hb2
   obtain⟨β',c,ty',h1,h2,h3,h4⟩:=hs.boxes b' cs2 hb2
   refine⟨β',c,ty',h1,by rw[other b' β' e h1];exact h2,h3,fun j x hx=> ?_⟩
   obtain⟨r0,k1,k2,k3⟩:=h4 j x hx
   refine⟨r0,k1,?_,k3⟩
   have hl:∀b i,H b→(Lo.b b' j)≠ .b b i:=fun b i hb c=>e (by injection c with c _;exact c▸hb)
   rw[fpo _ hl]
   exact CV.mono (g:=g) (g':=g') hro (fun b β hb=>hb) roh (fun x hx=>keep _ x hl hx) k2
 ·intro b' hb'
  by_cases e:H b'
  ·obtain⟨cs,cs',β,c',ty,q1,q2,q3,q4,q5,q6,q7,q8⟩:=hbox b' e
   rw[q2]at hb';cases hb'
  ·rw[hsame b' e]at hb';exact hs.noBox b' hb'
 ·intro l x hx
  rcases isH l with⟨b,j,hb,rfl⟩|e
  ·rw[fpi b j hb]at hx;exact owi b j x hb hx
  ·rw[fpo l e]at hx
   rw[owo x (newFar x l e hx)];exact hs.own l x hx
 ·intro l
  rcases isH l with⟨b,j,hb,rfl⟩|e
  ·rw[fpi b j hb];exact hn b j hb
  ·rw[fpo l e];exact hs.nd l
 ·intro b' x hb'
  rw[owo x (newFarB x b' hb')];exact hs.ownB b' x hb'
 ·intro x hx
  have n1:¬inF x:=fun⟨p,h1,h2⟩=>hd p.1 p.2 x h1 h2 hx
  simp only[g',n1,dif_neg,not_false_eq_true,hx,if_true]
 ·exact hpn
 ·intro x hx
  have key:∀y,(Giv g pool H y∨w.heap.size≤y)→y<w'.heap.size→¬ro' y→¬ro' y∧y<w'.heap.size∧(fr.w0.heap.size≤y∨fr.wr y):=fun y h1 h2 h3=>by
   refine⟨h3,h2,?_⟩
   rcases h1 with h1|h1
   ·exact(hfree y (goneN y h1)).2.2
   ·exact .inl (Nat.le_trans hs.grow h1)
  by_cases c1:inF x
  ·obtain⟨p,h1,h2⟩:=c1
   obtain⟨k1,k2,k3⟩:=hfp p.1 p.2 x h1 h2
   exact key x k1 k2 k3
  ·by_cases c2:x∈pool'
   ·obtain⟨k1,k2,k3⟩:=hp x c2
    exact key x k1 k2 k3
   ·by_cases c3:Giv g pool H x
    ·simp only[g',c1,c2,c3,dif_neg,not_false_eq_true,if_false,if_true]at hx;exact absurd rfl hx
    ·simp only[g',c1,c2,c3,dif_neg,not_false_eq_true,if_false]at hx
     obtain⟨k1,k2,k3⟩:=hfree x hx
     refine⟨fun c=> ?_,Nat.lt_of_lt_of_le k2 hsz,k3⟩
     rcases hro' x c with h|h|h
     ·exact k1 h
     ·exact c3 h
     ·omega
 ·intro x hx
  rcases hro' x hx with h|h|h
  ·exact Nat.lt_of_lt_of_le (hs.rolt x h) hsz
  ·exact Nat.lt_of_lt_of_le (hfree x (goneN x h)).2.1 hsz
  ·exact h.2
 ·intro x hx;exact hro x (hs.ro0 x hx)
 ·intro x hx
  rcases hro' x hx with h|h|h
  ·exact hs.ro1 x h
  ·rcases(hfree x (goneN x h)).2.2 with k|k
   ·exact .inr (.inr k)
   ·exact .inr (.inl k)
  ·exact .inr (.inr (Nat.le_trans hs.grow h.1))
 ·intro x hx hm
  have hlt:x<w.heap.size:=Nat.lt_of_lt_of_le hx hs.grow
  have nf:g.ow x≠ .none→False:=fun h=>by
   rcases(hfree x h).2.2 with k|k
   ·omega
   ·exact hm k
  rw[hh x hlt (fun c=>nf (goneN x c)) (fun b _ e=>nf (ow_ne_box (hs.ownB b x e)))]
  exact hs.frame x hx hm
 ·exact Nat.le_trans hs.grow hsz
 ·exact hsw.os.trans hs.os
 ·exact hsw.tape.trans hs.tape
 ·exact hsw.output.trans hs.output
 ·rw[ht,hbl];exact hs.bl
 ·exact hs.bb0
end
open Classical
section
variable {S : St} {a : Act} {w : World}
def cellsAt(h:Hp)(β:Nat):Array Value:=match h[β]? with|some (.cells c _ _)=>c|_=> #[]
structure Start (S:St) (a:Act) (w:World) (ro:Nat→Prop) (fp:Lo→List Nat) (bb:Nat→Option Nat) (base:Nat):Prop where
 defers:a.defers=[]
 size:a.tmps.size=S.tmps.length
 slots:∀t x,S.tmps[t]? =some x→∃r,a.tmps[t]? =some r∧((x.1= .undef∧fp (.s t)=[])∨∃v m,x.1= .one v m∧OneR w.heap ⟨ro,fun _=>.none,fp,bb⟩ v m r (fp (.s t)))
 boxes:∀b cs,S.bx b=some cs→∃β c ty,bb b=some β∧w.heap[β]? =some (.cells c ty (0,0))∧c.size=cs.length∧
  ∀j x,cs[j]? =some x→∃r,c[j]? =some r∧CV w.heap ⟨ro,fun _=>.none,fp,bb⟩ x.m x.v r (fp (.b b j))
 noBox:∀b,S.bx b=none→bb b=none
 nd:∀l,(fp l).Nodup
 dj:∀l l' x,x∈fp l→x∈fp l'→l=l'
 bf:∀b l x,bb b=some x→x∉fp l
 bi:∀b b' x,bb b=some x→bb b'=some x→b=b'
 fr1:∀l x,x∈fp l→¬ro x∧x<w.heap.size
 fr2:∀b x,bb b=some x→¬ro x∧x<w.heap.size
 rolt:∀x,ro x→x<w.heap.size
 bl:base+S.tmps.length≤S.boxes.length
theorem sim_start{ro:Nat→Prop}{fp:Lo→List Nat}{bb:Nat→Option Nat}{base:Nat}(h:Start S a w ro fp bb base):
 ∃fr g,fr.w0=w∧fr.base=base∧(∀x,fr.wr x↔(∃l,x∈fp l)∨∃b,bb b=some x)∧fr.ro0=ro∧fr.bb0=bb∧(∀b β,bb b=some β→∀j,fr.fixv b j=(cellsAt w.heap β)[j]?)∧g.ro=ro∧g.bb=bb∧g.fp=fp∧Sim fr S a w g []:=by
 let ow:Nat→Ow:=fun x=>if k:∃l,x∈fp l then .loc (Classical.choose k)else if k:∃b,bb b=some x then .box (Classical.choose k)else .none
 let g:Gh:=⟨ro,ow,fp,bb⟩
 let fr:Fr:=⟨w,fun x=>(∃l,x∈fp l)∨∃b,bb b=some x,ro,fun b j=>match bb b with|some β=>(cellsAt w.heap β)[j]? |none=>none,base,bb,[]⟩
 have ow1:∀l x,x∈fp l→ow x= .loc l:=fun l x hx=>by
  have k:∃l,x∈fp l:=⟨l,hx⟩
  simp only[ow,k,dif_pos]
  rw[h.dj _ _ x (Classical.choose_spec k) hx]
 have ow2:∀b x,bb b=some x→ow x= .box b:=fun b x hx=>by
  have k1:¬∃l,x∈fp l:=fun⟨l,c⟩=>h.bf b l x hx c
  have k:∃b,bb b=some x:=⟨b,hx⟩
  simp only[ow,k1,dif_neg,not_false_eq_true,k,dif_pos]
  rw[h.bi _ _ x (Classical.choose_spec k) hx]
 refine⟨fr,g,rfl,rfl,fun x=>Iff.rfl,rfl,rfl,fun b β hb j=>by simp only[fr,hb],rfl,rfl,rfl,?_⟩
 constructor
 ·exact h.defers
 ·exact h.size
 ·intro t x hx
  obtain⟨r,h1,h2⟩:=h.slots t x hx
  refine⟨r,h1,?_⟩
  rcases h2 with⟨e,e2⟩|⟨v,m,e,y⟩
  ·rw[e];exact e2
  ·rw[e]
   exact OneR.mono (g:=⟨ro,fun _=>.none,fp,bb⟩) (g':=g) (fun _ h=>h) (fun _ _ h=>h) (fun _ _=>rfl) (fun _ _=>rfl) y
 ·intro b cs hb
  obtain⟨β,c,ty,h1,h2,h3,h4⟩:=h.boxes b cs hb
  refine⟨β,c,ty,h1,h2,h3,fun j x hx=> ?_⟩
  obtain⟨r,k1,k2⟩:=h4 j x hx
  refine⟨r,k1,CV.mono (g:=⟨ro,fun _=>.none,fp,bb⟩) (g':=g) (fun _ h=>h) (fun _ _ h=>h) (fun _ _=>rfl) (fun _ _=>rfl) k2,fun _=> ?_⟩
  simp only[fr,h1,cellsAt,h2];exact k1
 ·exact h.noBox
 ·exact ow1
 ·exact h.nd
 ·exact ow2
 ·simp
 ·simp
 ·intro x hx
  by_cases k:∃l,x∈fp l
  ·obtain⟨l,hl⟩:=k
   exact⟨(h.fr1 l x hl).1,(h.fr1 l x hl).2,.inr (.inl ⟨l,hl⟩)⟩
  ·by_cases k2:∃b,bb b=some x
   ·obtain⟨b,hb⟩:=k2
    exact⟨(h.fr2 b x hb).1,(h.fr2 b x hb).2,.inr (.inr ⟨b,hb⟩)⟩
   ·simp only[g,ow,k,k2,dif_neg,not_false_eq_true,ne_eq,not_true_eq_false]at hx
 ·exact h.rolt
 ·exact fun _ h=>h
 ·exact fun _ h=>.inl h
 ·exact fun _ _ _=>rfl
 ·exact Nat.le_refl _
 ·rfl
 ·rfl
 ·rfl
 ·exact h.bl
 ·exact fun _ _ h=>h
end
def Apt(m n:Nat):Prop:=∀i,¬(m.testBit i=true∧n.testBit i=true)
theorem apt_of_and{m n:Nat}(h:m &&& n=0):Apt m n:=fun i ⟨h1,h2⟩=>by
 have:(m &&& n).testBit i=true:=by rw[Nat.testBit_and,h1,h2];rfl
 rw[h]at this;simp at this
theorem Apt.symm{m n:Nat}(h:Apt m n):Apt n m:=fun i ⟨h1,h2⟩=>h i ⟨h2,h1⟩
theorem Apt.or_left{m n k:Nat}(h:Apt (m|||n) k):Apt m k∧Apt n k:=
 ⟨fun i ⟨h1,h2⟩=>h i ⟨by simp[h1],h2⟩,fun i ⟨h1,h2⟩=>h i ⟨by simp[h1],h2⟩⟩
theorem Apt.or_right{m n k:Nat}(h:Apt k (m|||n)):Apt k m∧Apt k n:=⟨h.symm.or_left.1.symm,h.symm.or_left.2.symm⟩
theorem tb_sbit(t i:Nat):(sbit t).testBit i=decide (4*t=i):=by simp[sbit,Nat.testBit_two_pow]
theorem tb_shbit(t i:Nat):(shbit t).testBit i=decide (4*t+1=i):=by simp[shbit,Nat.testBit_two_pow]
theorem tb_bbit(t i:Nat):(bbit t).testBit i=decide (4*t+2=i):=by simp[bbit,Nat.testBit_two_pow]
theorem tb_bhbit(t i:Nat):(bhbit t).testBit i=decide (4*t+3=i):=by simp[bhbit,Nat.testBit_two_pow]
def Wr.fs:Wr→Option (Nat×(Sl×Nat→Sl×Nat))
 | .slot t s=>some (t,fun x=>(s,x.2+1))
 | .keep t s=>some (t,fun x=>(s,x.2))
 | .val t v=>some (t,fun x=>(x.1.withV v,x.2))
 |_=>none
def Wr.fb:Wr→Option (Nat×(Option Bx→Option Bx))
 | .box b x=>some (b,fun _=>x)
 | .cval b j v=>some (b,fun x=>x.map fun cs=>Bx.withV cs j v)
 | .cell b j c=>some (b,fun x=>x.map fun cs=>cs.set j c)
 |_=>none
theorem Wr.app_eq(S:St)(w:Wr):(∃t f,w.fs=some (t,f)∧w.fb=none∧w.app S={S with tmps:=S.tmps.set t (f (S.sl t))}∧w.bit.testBit (4*t)=true)∨
 (∃b f,w.fb=some (b,f)∧w.fs=none∧w.app S={S with boxes:=S.boxes.set b (f (S.bx b))}∧w.bit.testBit (4*b+2)=true):=by
 cases w with
 |slot t s=>exact .inl ⟨t,_,rfl,rfl,rfl,by simp[Wr.bit,tb_sbit]⟩
 |keep t s=>exact .inl ⟨t,_,rfl,rfl,rfl,by simp[Wr.bit,tb_sbit]⟩
 |val t v=>exact .inl ⟨t,_,rfl,rfl,rfl,by simp[Wr.bit,tb_sbit]⟩
 |box b x=>exact .inr ⟨b,_,rfl,rfl,rfl,by simp[Wr.bit,tb_bbit]⟩
 |cval b j v=>exact .inr ⟨b,_,rfl,rfl,rfl,by simp[Wr.bit,tb_bbit]⟩
 |cell b j v=>exact .inr ⟨b,_,rfl,rfl,rfl,by simp[Wr.bit,tb_bbit]⟩
theorem Wr.app_fs{S:St}{w:Wr}{t f}(h:w.fs=some (t,f)):w.app S={S with tmps:=S.tmps.set t (f (S.sl t))}:=by
 cases w<;>simp[Wr.fs]at h<;>obtain⟨rfl,rfl⟩:=h<;>rfl
theorem Wr.app_fb{S:St}{w:Wr}{b f}(h:w.fb=some (b,f)):w.app S={S with boxes:=S.boxes.set b (f (S.bx b))}:=by
 cases w<;>simp[Wr.fb]at h<;>obtain⟨rfl,rfl⟩:=h<;>rfl
theorem getD_set_ne'{α:Type}{l:List α}{i j:Nat}{x d:α}(h:i≠j):(l.set i x).getD j d=l.getD j d:=by
 rw[List.getD_eq_getElem?_getD,List.getElem?_set,if_neg h,List.getD_eq_getElem?_getD]
theorem Wr.app_comm{S:St}{w u:Wr}(h:Apt w.bit u.bit):w.app (u.app S)=u.app (w.app S):=by
 rcases Wr.app_eq S w with⟨t,f,hw,_,_,b1⟩|⟨t,f,hw,_,_,b1⟩<;>rcases Wr.app_eq S u with⟨t',f',hu,_,_,b2⟩|⟨t',f',hu,_,_,b2⟩
 ·have hne:t≠t':=fun e=>by subst e;exact h _ ⟨b1,b2⟩
  simp only[Wr.app_fs hw,Wr.app_fs hu,St.sl]
  rw[getD_set_ne' hne,getD_set_ne' (Ne.symm hne),List.set_comm _ _ (Ne.symm hne)]
 ·simp only[Wr.app_fs hw,Wr.app_fb hu,St.sl,St.bx]
 ·simp only[Wr.app_fb hw,Wr.app_fs hu,St.sl,St.bx]
 ·have hne:t≠t':=fun e=>by subst e;exact h _ ⟨b1,b2⟩
  simp only[Wr.app_fb hw,Wr.app_fb hu,St.bx]
  rw[getD_set_ne' hne,getD_set_ne' (Ne.symm hne),List.set_comm _ _ (Ne.symm hne)]
theorem Wr.apps_app{w:Wr}:∀{us:List Wr} {S:St},Apt w.bit (Wr.bits us)→Wr.apps us (w.app S)=w.app (Wr.apps us S)
 | [],S,_=>rfl
 |u::us,S,h=>by
  have h':=Apt.or_right (m:=u.bit) (n:=Wr.bits us) h
  simp only[Wr.apps]
  rw[←Wr.app_comm (S:=S) h'.1,Wr.apps_app h'.2]
theorem Wr.apps_comm:∀{ws us:List Wr} {S:St},Apt (Wr.bits ws) (Wr.bits us)→Wr.apps ws (Wr.apps us S)=Wr.apps us (Wr.apps ws S)
 | [],us,S,_=>rfl
 |w::ws,us,S,h=>by
  have h':=Apt.or_left (m:=w.bit) (n:=Wr.bits ws) h
  simp only[Wr.apps]
  rw[←Wr.apps_app h'.1,Wr.apps_comm h'.2]
theorem getD_set_self{α:Type}{l:List α}{i:Nat}{x d:α}:(l.set i x).getD i d=if i<l.length then x else d:=by
 rw[List.getD_eq_getElem?_getD,List.getElem?_set]
 by_cases h:i<l.length<;>simp[h]
theorem getD_none{α:Type}{l:List α}{i:Nat}{d:α}(h:¬i<l.length):l.getD i d=d:=by
 rw[List.getD_eq_getElem?_getD,List.getElem?_eq_none (by omega)];rfl
theorem withV_own(s:Sl)(v:V):(s.withV v).isOwn=s.isOwn:=by cases s<;>rfl
theorem withV_hd(cs:Bx)(j i:Nat)(v:V):((Bx.withV cs j v)[i]?.map fun c=>(c.m.isOwn,c.ver))=(cs[i]?.map fun c=>(c.m.isOwn,c.ver)):=by
 unfold Bx.withV
 cases h:cs[j]? with
 |none=>rfl
 |some c=>
  simp only[List.getElem?_set]
  by_cases e:j=i
  ·subst e
   have hj:j<cs.length:=(List.getElem?_eq_some_iff.1 h).1
   have h2:cs[j]=c:=by rw[List.getElem?_eq_getElem hj]at h;injection h
   simp[hj,h2]
  ·simp[e]
theorem hb_eq(S:St)(b j:Nat):S.hb b j=(S.bx b).bind fun cs=>(cs[j]?).map fun c=>(c.m.isOwn,c.ver):=by
 unfold St.hb
 cases S.bx b with
 |none=>rfl
 |some cs=>simp only[Option.bind_some];cases cs[j]? <;>rfl
theorem Alike.refl(S:St)(m:Nat):Alike S S m:=⟨fun _ _=>rfl,fun _ _=>⟨rfl,rfl⟩,fun _ _=>rfl,fun _ _ _=>rfl⟩
theorem Alike.trans{S S' S'':St}{m:Nat}(h:Alike S S' m)(k:Alike S' S'' m):Alike S S'' m:=
 ⟨fun t ht=>(k.s t ht).trans (h.s t ht),fun t ht=>⟨(k.sh t ht).1.trans (h.sh t ht).1,(k.sh t ht).2.trans (h.sh t ht).2⟩,fun b hb=>(k.b b hb).trans (h.b b hb),fun b hb j=>(k.bh b hb j).trans (h.bh b hb j)⟩
theorem Alike.app{S:St}{w:Wr}{m:Nat}(h:Apt w.bit m):Alike S (w.app S) m:=by
 have other:∀t f,w.fs=some (t,f)→∀t',t'≠t→(w.app S).sl t'=S.sl t':=fun t f hw t' hne=>by
  rw[Wr.app_fs hw];exact getD_set_ne' (Ne.symm hne)
 have otherB:∀t f,w.fb=some (t,f)→∀t',t'≠t→(w.app S).bx t'=S.bx t':=fun t f hw t' hne=>by
  rw[Wr.app_fb hw];exact getD_set_ne' (Ne.symm hne)
 have sB:∀t f,w.fs=some (t,f)→∀b,(w.app S).bx b=S.bx b:=fun t f hw b=>by rw[Wr.app_fs hw];rfl
 have bS:∀t f,w.fb=some (t,f)→∀b,(w.app S).sl b=S.sl b:=fun t f hw b=>by rw[Wr.app_fb hw];rfl
 constructor
 ·intro t ht
  rcases Wr.app_eq S w with⟨t0,f,hw,_,_,b1⟩|⟨t0,f,hw,_,_,b1⟩
  ·exact other t0 f hw t (fun e=>by subst e;exact h _ ⟨b1,ht⟩)
  ·exact bS t0 f hw t
 ·intro t ht
  rcases Wr.app_eq S w with⟨t0,f,hw,_,_,b1⟩|⟨t0,f,hw,_,_,b1⟩
  ·by_cases e:t=t0
   ·subst e
    cases w with
    |slot t' s=>simp[Wr.fs]at hw;obtain⟨rfl,_⟩:=hw;exact absurd ⟨by simp[Wr.bit,tb_shbit,tb_sbit],ht⟩ (h (4*t'+1))
    |keep t' s=>simp[Wr.fs]at hw;obtain⟨rfl,_⟩:=hw;exact absurd ⟨by simp[Wr.bit,tb_shbit,tb_sbit],ht⟩ (h (4*t'+1))
    |val t' v=>
     simp[Wr.fs]at hw;obtain⟨rfl,_⟩:=hw
     have e2:(Wr.app S (.val t' v)).sl t'=if t'<S.tmps.length then((S.sl t').1.withV v,(S.sl t').2)else(.undef,0):=getD_set_self
     rw[e2]
     by_cases hl:t'<S.tmps.length
     ·simp only[hl,if_true];exact⟨withV_own _ _,trivial⟩
     ·simp only[hl,if_false]
      have:S.sl t'=(.undef,0):=getD_none hl
      rw[this];exact⟨rfl,rfl⟩
    |box b x=>simp[Wr.fs]at hw
    |cval b j v=>simp[Wr.fs]at hw
    |cell b j v=>simp[Wr.fs]at hw
   ·rw[other t0 f hw t e];exact⟨rfl,rfl⟩
  ·rw[bS t0 f hw t];exact⟨rfl,rfl⟩
 ·intro b hb
  rcases Wr.app_eq S w with⟨t0,f,hw,_,_,b1⟩|⟨t0,f,hw,_,_,b1⟩
  ·exact sB t0 f hw b
  ·exact otherB t0 f hw b (fun e=>by subst e;exact h _ ⟨b1,hb⟩)
 ·intro b hb j
  rcases Wr.app_eq S w with⟨t0,f,hw,_,_,b1⟩|⟨t0,f,hw,_,_,b1⟩
  ·rw[hb_eq,hb_eq,sB t0 f hw b]
  ·by_cases e:b=t0
   ·subst e
    cases w with
    |box b' x=>simp[Wr.fb]at hw;obtain⟨rfl,_⟩:=hw;exact absurd ⟨by simp[Wr.bit,tb_bhbit,tb_bbit],hb⟩ (h (4*b'+3))
    |cell b' j' x=>simp[Wr.fb]at hw;obtain⟨rfl,_⟩:=hw;exact absurd ⟨by simp[Wr.bit,tb_bhbit,tb_bbit],hb⟩ (h (4*b'+3))
    |cval b' j' v=>
     simp[Wr.fb]at hw;obtain⟨rfl,_⟩:=hw
     rw[hb_eq,hb_eq]
     show((S.boxes.set b' ((S.bx b').map fun cs=>Bx.withV cs j' v)).getD b' none).bind _=_
     rw[getD_set_self]
     by_cases hl:b'<S.boxes.length
     ·simp only[hl,if_true]
      cases hx:S.bx b' with
      |none=>rfl
      |some cs=>simp only[Option.map_some,Option.bind_some];exact withV_hd cs j' j v
     ·simp only[hl,if_false]
      have:S.bx b'=none:=getD_none hl
      rw[this]
    |slot t s=>simp[Wr.fb]at hw
    |keep t s=>simp[Wr.fb]at hw
    |val t v=>simp[Wr.fb]at hw
   ·rw[hb_eq,hb_eq,otherB t0 f hw b e]
theorem Alike.apps:∀{ws:List Wr} {S:St} {m:Nat},Apt (Wr.bits ws) m→Alike S (Wr.apps ws S) m
 | [],S,m,_=>Alike.refl S m
 |w::ws,S,m,h=>by
  have h':=Apt.or_left (m:=w.bit) (n:=Wr.bits ws) h
  exact(Alike.app h'.1).trans (Alike.apps h'.2)
section
variable (C : FuncId → List V → List V → Prop) (E : Env) (ops : Array Oper) (rid : Nat)
def OpR(i:Nat)(o:Oper)(S:St)(ws:List Wr)(rm:Nat):Prop:=
 match o.guard with
 |none=>PgR C S (opPg E rid i o) 0 ws rm
 |some (j,want)=>∃t,(ops[j]?).bind (·.dst)=some t∧
  (((S.sl t).1= .none∧ws=wDst o.dst .none∧rm=sbit t|||shbit t)∨
   (∃b m,(S.sl t).1= .one (.bool b) m∧((b=want∧PgR C S (opPg E rid i o) (sbit t|||shbit t) ws rm)∨(b≠want∧ws=wDst o.dst .none∧rm=sbit t|||shbit t))))
def RunR:List Nat→St→List (Nat×Nat×Nat)→St→Prop
 | [],S,tr,S2=>tr=[]∧S2=S
 |i::r,S,tr,S2=>∃o ws rm tr',ops[i]? =some o∧OpR C E ops rid i o S ws rm∧tr=(i,rm,Wr.bits ws)::tr'∧RunR r (Wr.apps ws S) tr' S2
end
section
variable {C : FuncId → List V → List V → Prop} {E : Env} {ops : Array Oper} {rid : Nat}
theorem OpR.alike{i:Nat}{o:Oper}{S S':St}{ws rm}(h:OpR C E ops rid i o S ws rm)(ha:Alike S S' rm):OpR C E ops rid i o S' ws rm:=by
 unfold OpR at h ⊢
 split at h
 ·exact h.alike ha
 ·obtain⟨t,ht,h⟩:=h
  refine⟨t,ht,?_⟩
  rcases h with⟨h1,h2,h3⟩|⟨b,m,h1,h2⟩
  ·left;refine⟨?_,h2,h3⟩
   rw[ha.s t (by rw[h3];exact bit_sbit t)];exact h1
  ·right
   refine⟨b,m,?_,?_⟩
   ·have:rm.testBit (4*t)=true:=by
     rcases h2 with⟨_,h⟩|⟨_,_,h⟩
     ·exact h.keeps _ (bit_sbit t)
     ·rw[h];exact bit_sbit t
    rw[ha.s t this];exact h1
   ·exact h2.imp (fun h=>⟨h.1,h.2.alike ha⟩) id
def StepApt(x y:Nat×Nat×Nat):Prop:=Apt x.2.2 (y.2.1|||y.2.2)∧Apt y.2.2 x.2.1
theorem StepApt.symm{x y}(h:StepApt x y):StepApt y x:=by
 refine⟨fun i ⟨h1,h2⟩=> ?_,h.1.or_right.1⟩
 rw[Nat.testBit_or,Bool.or_eq_true]at h2
 rcases h2 with h2|h2
 ·exact h.2 i ⟨h1,h2⟩
 ·exact h.1.or_right.2 i ⟨h2,h1⟩
theorem RunR.front{i:Nat}:∀{L1 L2:List Nat} {S S2:St} {tr},RunR C E ops rid (L1++i::L2) S tr S2→(∀x∈tr,∀y∈tr,x.1∈L1→y.1=i→StepApt x y)→i∉L1→
 ∃o ws rm tr',ops[i]? =some o∧OpR C E ops rid i o S ws rm∧RunR C E ops rid (L1++L2) (Wr.apps ws S) tr' S2∧(∀x,x∈tr↔x=(i,rm,Wr.bits ws)∨x∈tr')
 | [],L2,S,S2,tr,h,_,_=>by
   obtain⟨o,ws,rm,tr',h1,h2,h3,h4⟩:=h
   exact⟨o,ws,rm,tr',h1,h2,h4,fun x=>by rw[h3];simp⟩
 |j::L1,L2,S,S2,tr,h,ha,hn=>by
  obtain⟨o,ws,rm,tr',h1,h2,h3,h4⟩:=h
  subst h3
  have hn':i∉L1:=fun c=>hn (List.mem_cons_of_mem _ c)
  obtain⟨o',ws',rm',tr'',k1,k2,k3,k4⟩:=RunR.front h4 (fun x hx y hy hx1 hy1=>ha x (List.mem_cons_of_mem _ hx) y (List.mem_cons_of_mem _ hy) (List.mem_cons_of_mem _ hx1) hy1) hn'
  have hap:StepApt (j,rm,Wr.bits ws) (i,rm',Wr.bits ws'):=
   ha _ (List.mem_cons_self ..) _ (List.mem_cons_of_mem _ ((k4 _).2 (.inl rfl))) (List.mem_cons_self ..) rfl
  have a1:Apt (Wr.bits ws) rm':=hap.1.or_right.1
  have a2:Apt (Wr.bits ws) (Wr.bits ws'):=hap.1.or_right.2
  have a3:Apt (Wr.bits ws') rm:=hap.2
  have back:Alike (Wr.apps ws S) S rm':=by
   have f:=Alike.apps (S:=S) a1
   exact⟨fun t ht=>(f.s t ht).symm,fun t ht=>⟨(f.sh t ht).1.symm,(f.sh t ht).2.symm⟩,fun b hb=>(f.b b hb).symm,fun b hb j=>(f.bh b hb j).symm⟩
  refine⟨o',ws',rm',(j,rm,Wr.bits ws)::tr'',k1,k2.alike back,⟨o,ws,rm,tr'',h1,h2.alike (Alike.apps a3),rfl,?_⟩,fun x=> ?_⟩
  ·rw[Wr.apps_comm a2];exact k3
  ·simp only[List.mem_cons,k4]
   constructor
   ·rintro(h|h|h)
    ·exact .inr (.inl h)
    ·exact .inl h
    ·exact .inr (.inr h)
   ·rintro(h|h|h)
    ·exact .inr (.inl h)
    ·exact .inl h
    ·exact .inr (.inr h)
theorem RunR.mem:∀{L:List Nat} {S S2:St} {tr},RunR C E ops rid L S tr S2→∀x∈tr,x.1∈L
 | [],S,S2,tr,h,x,hx=>by rw[h.1]at hx;cases hx
 |j::L,S,S2,tr,h,x,hx=>by
  obtain⟨o,ws,rm,tr',h1,h2,h3,h4⟩:=h
  subst h3
  rcases List.mem_cons.1 hx with h|h
  ·subst h;exact List.mem_cons_self ..
  ·exact List.mem_cons_of_mem _ (RunR.mem h4 x h)
end
theorem forceN_eq{β:Type}(n:Nat)(K:Nat→β):forceN n K=K n:=by cases n<;>rfl
inductive Dn (ops:List Oper):Nat→Nat→Prop
 |edge {i:Nat} {o:Oper} {e:Edge}:ops[i]? =some o→e∈o.after→Region.binds .any e=true→Dn ops i e.on
 |more {i:Nat} {o:Oper} {e:Edge} {j:Nat}:ops[i]? =some o→e∈o.after→Region.binds .any e=true→Dn ops e.on j→Dn ops i j
theorem maskOf_bit{acc:List Nat}:∀{es:List Edge} {j:Nat},(maskOf acc es).testBit j=true→∃e∈es,Region.binds .any e=true∧(e.on=j∨(acc.getD e.on 0).testBit j=true)
 | [],j,h=>by simp[maskOf]at h
 |e::es,j,h=>by
  simp only[maskOf,Nat.testBit_or,Bool.or_eq_true]at h
  rcases h with h|h
  ·cases hb:Region.binds .any e with
   |false=>simp[hb]at h
   |true=>
    simp only[hb,cond_true,Nat.testBit_or,Bool.or_eq_true]at h
    refine⟨e,List.mem_cons_self ..,hb,?_⟩
    rcases h with h|h
    ·left;simpa [Nat.testBit_two_pow]using h
    ·exact .inr h
  ·obtain⟨e',h1,h2⟩:=maskOf_bit h
   exact⟨e',List.mem_cons_of_mem _ h1,h2⟩
theorem befs_dn{ops:List Oper}:∀(rest pre:List Oper) (acc:List Nat),ops=pre++rest→acc.length=pre.length→(∀i j,(acc.getD i 0).testBit j=true→Dn ops i j)→
 ∀i j,((befs rest acc).getD i 0).testBit j=true→Dn ops i j
 | [],pre,acc,_,_,h,i,j,hb=>h i j hb
 |o::rest,pre,acc,he,hl,h,i,j,hb=>by
  simp only[befs,forceN_eq]at hb
  refine befs_dn rest (pre++[o]) _ (by simp[he]) (by simp[hl]) (fun i j hb=> ?_) i j hb
  rw[List.getD_eq_getElem?_getD,List.getElem?_append]at hb
  by_cases c:i<acc.length
  ·rw[if_pos c]at hb;exact h i j (by rw[List.getD_eq_getElem?_getD];exact hb)
  ·rw[if_neg c]at hb
   by_cases c2:i=acc.length
   ·subst c2
    simp only[Nat.sub_self,List.getElem?_cons_zero,Option.getD_some]at hb
    obtain⟨e,h1,h2,h3⟩:=maskOf_bit hb
    have hg:ops[acc.length]? =some o:=by rw[he,hl];simp
    have h1':e∈o.after:=by simpa using h1
    rcases h3 with h3|h3
    ·subst h3;exact .edge hg h1' h2
    ·exact .more hg h1' h2 (h _ _ h3)
   ·have:([maskOf acc o.after.toList]:List Nat)[i-acc.length]? =none:=List.getElem?_eq_none (by simp;omega)
    rw[this]at hb;simp at hb
def AllApt(ops:List Oper)(tr:List (Nat×Nat×Nat)):Prop:=∀x∈tr,∀y∈tr,y.1<x.1→¬Dn ops x.1 y.1→StepApt x y
theorem apart_all{bef:List Nat}:∀{tr:List (Nat×Nat×Nat)},apart bef tr=true→tr.Pairwise fun x y=>(bef.getD x.1 0).testBit y.1=true∨StepApt x y
 | [],_=>.nil
 |(i,ri,wi)::r,h=>by
  simp only[apart,Bool.and_eq_true,List.all_eq_true]at h
  refine .cons (fun y hy=> ?_) (apart_all h.2)
  have h1:=h.1 y hy
  simp only[Bool.or_eq_true,Bool.and_eq_true,beq_iff_eq]at h1
  refine h1.imp id fun⟨p,q⟩=>⟨apt_of_and p,apt_of_and q⟩
section
variable {P : Program} {C : FuncId → List V → List V → Prop} {E : Env} {ops : Array Oper} {rid : Nat} {Q : Exit → Act → World → Prop} {fr : Fr}
def SimX(fr:Fr)(S:St)(a:Act)(w:World):Prop:=∃g,Sim fr S a w g []
theorem toL{ops:Array Oper}{k:Nat}{o:Oper}(h:ops.toList[k]? =some o):ops[k]? =some o:=by simpa using h
theorem SimX.drew{S:St}{a:Act}{w:World}(h:SimX fr S a w)(n:Nat):SimX fr S a {w with drawn:=n}:=by
 obtain⟨g,h⟩:=h
 obtain⟨g',_,_,_,h'⟩:=sim_world (w':={w with drawn:=n}) (new:=[]) (pool':=[]) h ⟨rfl,rfl,rfl⟩ (Nat.le_refl _) (fun _ _ _=>rfl) (by simp) (by simp) (by simp) (by simp)
 exact⟨g',h'⟩
def StepOK(P:Program)(C:FuncId→List V→List V→Prop)(E:Env)(ops:Array Oper)(rid:Nat)(Q:Exit→Act→World→Prop)(fr:Fr):Prop:=
 ∀(i:Nat) (o:Oper) (S:St) (ws:List Wr) (rm:Nat) (a:Act) (w:World) (K:Act→World→Prop),ops[i]? =some o→OpR C E ops rid i o S ws rm→SimX fr S a w→
  (∀a' w',SimX fr (Wr.apps ws S) a' w'→K a' w')→wpOp P ops Q i K a w
theorem wpAny_of_run(hstep:StepOK P C E ops rid Q fr)(hback:∀i o,ops[i]? =some o→∀e∈o.after,Region.binds .any e=true→e.on<i):
 ∀(fuel:Nat) {L:List Nat} {listed:Array Bool} {S S2:St} {tr a w},L.length=fuel→L.Pairwise (· < ·)→listed.size=ops.size→(∀k,k<ops.size→(k∈L↔listed.getD k false=false))→(∀k∈L,k<ops.size)→
  (∀k o,ops[k]? =some o→k∉L→∀e∈o.after,Region.binds .any e=true→e.on∉L)→
  RunR C E ops rid L S tr S2→AllApt ops.toList tr→SimX fr S a w→(∀a' w',SimX fr S2 a' w'→Q .normal a' w')→wpAny P .any ops Q fuel listed a w:=by
 intro fuel
 induction fuel with
 |zero=>
  intro L listed S S2 tr a w hl hp hsz hL hlt hdn hr hap hs hq
  have:L=[]:=List.eq_nil_of_length_eq_zero hl
  subst this
  refine⟨?_,by rw[hr.2]at hq;exact hq a w hs⟩
  rw[List.eq_nil_iff_forall_not_mem]
  intro j hj
  obtain⟨h0,o,ho,_⟩:=mem_ready.1 hj
  have hjl:j<ops.size:=(Array.getElem?_eq_some_iff.1 ho).1
  have:=(hL j hjl).2 (by
   have hj2:j<listed.size:=by rw[hsz];exact hjl
   simp[Array.getD,hj2]at h0 ⊢;exact h0)
  cases this
 |succ fuel ih=>
  intro L listed S S2 tr a w hl hp hsz hL hlt hdn hr hap hs hq
  have unl:∀j,j<ops.size→(listed.getD j true=false↔listed.getD j false=false):=fun j hj=>by
   have hj2:j<listed.size:=by rw[hsz];exact hj
   simp[Array.getD,hj2]
  have rdy:∀i∈Region.ready .any ops listed,i∈L∧∃o,ops[i]? =some o∧∀e∈o.after,Region.binds .any e=true→e.on∉L:=fun i hi=>by
   obtain⟨h0,o,ho,he⟩:=mem_ready.1 hi
   have hil:i<ops.size:=(Array.getElem?_eq_some_iff.1 ho).1
   refine⟨(hL i hil).2 ((unl i hil).1 h0),o,ho,fun e h1 h2 hc=> ?_⟩
   have h3:=he e h1 h2
   have h4:=(hL e.on (hlt _ hc)).1 hc
   rw[h4]at h3;cases h3
  refine⟨fun hnil=> ?_,fun i hi=> ?_⟩
  ·
   exfalso
   cases L with
   |nil=>simp at hl
   |cons i L=>
    have hil:=hlt i (List.mem_cons_self ..)
    have:i∈Region.ready .any ops listed:=by
     rw[mem_ready]
     refine⟨(unl i hil).2 ((hL i hil).1 (List.mem_cons_self ..)),ops[i],Array.getElem?_eq_getElem hil,fun e h1 h2=> ?_⟩
     have hlt2:=hback i ops[i] (Array.getElem?_eq_getElem hil) e h1 h2
     have hnot:e.on∉i::L:=fun hc=>by
      rcases List.mem_cons.1 hc with hc|hc
      ·omega
      ·have:=(List.pairwise_cons.1 hp).1 _ hc;omega
     have hel:e.on<ops.size:=by omega
     have hx:=mt (hL e.on hel).2 hnot
     cases hv:listed.getD e.on false with
     |true=>rfl
     |false=>exact absurd hv hx
    rw[hnil]at this;cases this
  ·obtain⟨hiL,o,ho,he⟩:=rdy i hi
   have hil:i<ops.size:=(Array.getElem?_eq_some_iff.1 ho).1
   have dnL:∀x y,Dn ops.toList x y→(x=i∨x∉L)→y∉L:=fun x y hd=>by
    induction hd with
    |edge h1 h2 h3=>
     intro hx
     have h1':=toL h1
     rcases hx with hx|hx
     ·subst hx;rw[ho]at h1';injection h1' with h1';subst h1';exact he _ h2 h3
     ·exact hdn _ _ h1' hx _ h2 h3
    |more h1 h2 h3 _ ihd=>
     intro hx
     have h1':=toL h1
     refine ihd (.inr ?_)
     rcases hx with hx|hx
     ·subst hx;rw[ho]at h1';injection h1' with h1';subst h1';exact he _ h2 h3
     ·exact hdn _ _ h1' hx _ h2 h3
   obtain⟨L1,L2,rfl⟩:=List.append_of_mem hiL
   have hp':=List.pairwise_append.1 hp
   have l1lt:∀x∈L1,x<i:=fun x hx=>hp'.2.2 x hx i (List.mem_cons_self ..)
   have hn:i∉L1:=fun c=>Nat.lt_irrefl _ (l1lt i c)
   have hn2:i∉L2:=fun c=>Nat.lt_irrefl _ ((List.pairwise_cons.1 hp'.2.1).1 i c)
   obtain⟨o',ws,rm,tr',k1,k2,k3,k4⟩:=RunR.front hr (fun x hx y hy hx1 hy1=>by
    refine StepApt.symm (hap y hy x hx (by rw[hy1];exact l1lt _ hx1) (fun hd=> ?_))
    rw[hy1]at hd
    exact dnL i x.1 hd (.inl rfl) (by simp[hx1])) hn
   rw[ho]at k1;injection k1 with k1;subst k1
   refine hstep i o S ws rm a w _ ho k2 hs fun a' w' hs'=> ?_
   refine ih (L:=L1++L2) (tr:=tr') (by simp at hl ⊢;omega) ?_ (by simp[hsz]) (fun k hk=> ?_) (fun k hk=>hlt k ?_) (fun k o2 hk hkL e h1 h2 hc=> ?_) k3 ?_ hs' hq
   ·refine List.pairwise_append.2 ⟨hp'.1,(List.pairwise_cons.1 hp'.2.1).2,fun x hx y hy=>hp'.2.2 x hx y (List.mem_cons_of_mem _ hy)⟩
   ·by_cases c:k=i
    ·subst c
     have hkl:k<listed.size:=by rw[hsz];exact hk
     simp[hn,hn2,hkl]
    ·rw[getD_set_ne false (Ne.symm c)]
     rw[←hL k hk];simp[c]
   ·simp only[List.mem_append,List.mem_cons]at hk ⊢
    rcases hk with hk|hk
    ·exact .inl hk
    ·exact .inr (.inr hk)
   ·have hcL:e.on∈L1++i::L2:=by
     simp only[List.mem_append,List.mem_cons]at hc ⊢
     rcases hc with hc|hc
     ·exact .inl hc
     ·exact .inr (.inr hc)
    by_cases c:k=i
    ·subst c;rw[ho]at hk;injection hk with hk;subst hk;exact he e h1 h2 hcL
    ·refine hdn k o2 hk (fun c2=> ?_) e h1 h2 hcL
     simp only[List.mem_append,List.mem_cons]at c2 hkL
     rcases c2 with c2|c2|c2
     ·exact hkL (.inl c2)
     ·exact c c2
     ·exact hkL (.inr c2)
   ·exact fun x hx y hy=>hap x ((k4 x).2 (.inr hx)) y ((k4 y).2 (.inr hy))
end
open Classical
section rep
variable {h h' : Hp} {g g' : Gh} {ro ro' : Nat → Prop}
def RV(h:Hp)(v:V)(r:Value):Prop:=RW h (fun _=>True) .ro v r []
theorem RM.toRO(hr:∀b,ro b→ro' b){m:M}{v rs fp}(hf:∀b∈fp,ro' b)(x:RM h ro m v rs fp):RM h ro' .ro v rs []:=by
 cases m with
 |pr=>exact⟨x.2.1.plain_any x.1,rfl⟩
 |ro=>exact⟨x.1.mono hr (fun _ _=>rfl),rfl⟩
 |own d=>exact⟨OEl.toRO hr hf x,rfl⟩
 |pt=>exact x.elim
theorem RW.toRO(hr:∀b,ro b→ro' b){m:M}{v r fp}(hf:∀b∈fp,ro' b)(x:RW h ro m v r fp):RW h ro' .ro v r []:=by
 unfold RW at x ⊢
 split at x
 ·obtain⟨rs,e,y⟩:=x;exact⟨rs,e,y.toRO hr hf⟩
 ·exact RM.toRO hr hf x
theorem OneR.rw{m:M}{v r fp}(hm:m.isPt=false)(x:OneR h g v m r fp):RW h g.ro m v r fp:=by
 cases m<;>first|exact x|simp[M.isPt]at hm
theorem RW.one{m:M}{v r fp}(x:RW h g.ro m v r fp):OneR h g v m r fp:=by
 cases m with
 |pt=>unfold RW at x;split at x
      ·obtain⟨rs,e,y⟩:=x;exact y.elim
      ·exact x.elim
 |_=>exact x
theorem OneR.rv{m:M}{v r fp}(hm:m.isPt=false)(x:OneR h g v m r fp):RV h v r:=(x.rw hm).toRO (fun _ _=>trivial) (fun _ _=>trivial)
theorem CV.one{m:M}{v r fp}(x:CV h g m v r fp):OneR h g v m r fp:=by
 cases m with
 |pt=>exact⟨x.1,.inl x.2⟩
 |_=>
  obtain⟨ha,y⟩:=x
  show RW h g.ro _ v r fp
  unfold RW
  split
  ·simp[V.isAgg]at ha
  ·exact y
theorem OneR.cv{m:M}{v r fp}(ha:v.isAgg=false)(hf:∀f c,v≠ .fn f c)(x:OneR h g v m r fp):CV h g m v r fp:=by
 cases m with
 |pt=>
  refine⟨x.1,x.2.resolve_right fun⟨f,_,_,e,_⟩=>hf _ _ e⟩
 |_=>
  refine⟨ha,?_⟩
  have y:RW h g.ro _ v r fp:=x
  unfold RW at y
  split at y
  ·simp[V.isAgg]at ha
  ·exact y
theorem RW.cv{m:M}{v r fp}(ha:v.isAgg=false)(x:RW h g.ro m v r fp):CV h g m v r fp:=by
 unfold RW at x
 split at x
 ·simp[V.isAgg]at ha
 ·cases m with
  |pt=>exact x.elim
  |_=>exact⟨ha,x⟩
theorem cv_undef{m:M}{r:Value}(hm:m= .pr)(h1:r.oneCell'=true):CV h g m .undef r []:=by
 subst hm;exact⟨rfl,rfl,by intro u hu;rw[List.mem_singleton.1 hu];exact h1,rfl⟩
theorem CV.ones{m:M}{v:V}{r fp}(x:CV h g m v r fp):r.oneCell'=true:=by
 unfold CV at x
 split at x
 ·obtain⟨_,b,off,β,_,_,rfl⟩:=x;rfl
 ·exact x.2.ones r (by simp)
end rep
section at_
variable {fr : Fr} {S S' : St} {a : Act} {w w' : World} {g g' : Gh} {pool pool' : List Nat}
theorem Sim.ix(hs:Sim fr S a w g pool){t:Nat}{x}(h:S.tmps[t]? =some x):t<S.tmps.length:=(List.getElem?_eq_some_iff.1 h).1
theorem put_self{a:Act}{t:Nat}{r:Value}(h:a.tmps[t]? =some r):a.put (some t) r=a:=by
 obtain⟨tm,df⟩:=a
 simp only[Act.put]
 congr 1
 apply Array.ext_getElem?
 intro i
 rw[Array.getElem?_setIfInBounds]
 by_cases e:t=i
 ·subst e
  have hl:t<tm.size:=(Array.getElem?_eq_some_iff.1 h).1
  have h2:=(Array.getElem?_eq_some_iff.1 h).2
  simp only at h2
  simp[hl,h2]
 ·simp[e]
theorem at_s{t:Nat}{v m ver}(h:S.at (.s t)=some (v,m,ver)):S.tmps[t]? =some (.one v m,ver):=by
 simp only[St.at]at h
 split at h
 ·rename_i e;injection h with h;cases h;exact e
 ·cases h
theorem at_b{b j:Nat}{v m ver}(h:S.at (.b b j)=some (v,m,ver)):∃cs c,S.bx b=some cs∧cs[j]? =some c∧c.v=v∧c.m=m∧c.ver=ver:=by
 simp only[St.at]at h
 split at h
 ·rename_i cs e
  cases hj:cs[j]? with
  |none=>simp[hj]at h
  |some c=>
   simp only[hj,Option.map_some,Option.some.injEq,Prod.mk.injEq]at h
   exact⟨cs,c,e,hj,h.1,h.2.1,h.2.2⟩
 ·cases h
def LR(h:Hp)(g:Gh)(l:Lo)(m:M)(v:V)(r:Value)(fp:List Nat):Prop:=
 match l with| .s _=>OneR h g v m r fp| .b _ _=>CV h g m v r fp
theorem LR.one{h:Hp}{l:Lo}{m v r fp}(x:LR h g l m v r fp):OneR h g v m r fp:=by
 cases l with|s t=>exact x|b b j=>exact CV.one x
theorem Sim.at(hs:Sim fr S a w g pool){l:Lo}{v m ver}(h:S.at l=some (v,m,ver)):∃r,realAt a.tmps w.heap g l=some r∧LR w.heap g l m v r (g.fp l)∧S.verAt l=ver:=by
 cases l with
 |s t=>
  have h:=at_s h
  obtain⟨r,h1,h2⟩:=hs.slots t _ h
  exact⟨r,h1,h2,by simp only[St.verAt];rw[sl_eq h]⟩
 |b b j=>
  obtain⟨cs,c,h1,h2,rfl,rfl,rfl⟩:=at_b h
  obtain⟨β,c',ty,k1,k2,k3,k4⟩:=hs.boxes b cs h1
  obtain⟨r,k5,k6,_⟩:=k4 j c h2
  exact⟨r,by simp only[realAt,k1,k2];exact k5,k6,by simp only[St.verAt,h1,h2]⟩
def LocW(S:St)(l:Lo)(v':V)(m':M)(up:Nat)(u:Wr):Prop:=
 match l with
 | .s t=>∃v m ver,S.tmps[t]? =some (.one v m,ver)∧(u.app S=S.setT t (.one v' m') (ver+up)∨(u.app S=S.setT t .undef (ver+up)∧v'= .undef∧m'= .pr))
 | .b b j=>∃cs c,S.bx b=some cs∧cs[j]? =some c∧u.app S=S.setB b (some (cs.set j ⟨v',m',c.ver+up,c.fix⟩))
theorem set_get{α:Type}{l:List α}{i j:Nat}{x:α}(h:i<l.length):(l.set i x)[j]? =if j=i then some x else l[j]? :=by
 rw[List.getElem?_set]
 by_cases e:i=j
 ·subst e;simp[h]
 ·rw[if_neg e,if_neg (fun c=>e c.symm)]
theorem sim_at(hs:Sim fr S a w g pool){l:Lo}{v m ver}(hat:S.at l=some (v,m,ver)){r:Value}(hr:realAt a.tmps w.heap g l=some r)
 {u:Wr} {v':V} {m':M} {up:Nat} {fp fz:List Nat} (hu:LocW S l v' m' up u) (hup:up=1∨(up=0∧∀z,zOf v=some z→zOf v'=some z))
 (hsw:Same w w') (hsz:w.heap.size≤w'.heap.size) (hh:∀x,x<w.heap.size→x∉pool→x∉g.fp l→w'.heap[x]? =w.heap[x]?)
 (hfp:∀x∈fp,x∈pool∨x∈g.fp l) (hn:fp.Nodup) (hfz:∀x∈fz,x∈pool∨x∈g.fp l)
 (hp:∀x∈pool',x∈pool∨x∈g.fp l) (hpn:pool'.Nodup) (hd:∀x∈fp,x∉pool') (hd2:∀x∈fz,x∉fp∧x∉pool')
 (hcv:(∃t,l= .s t∧u.app S=S.setT t .undef (ver+up)∧up=1∧fp=[])∨LR w'.heap {g with ro:=fun x=>g.ro x∨x∈fz} l m' v' r fp):
 ∃g',(∀x,g'.ro x↔g.ro x∨x∈fz)∧g'.bb=g.bb∧(∀l',l'≠l→g'.fp l'=g.fp l')∧g'.fp l=fp∧Sim fr (u.app S) a w' g' pool':=by
 cases l with
 |s t=>
  obtain⟨v0,m0,ver0,h1,h2⟩:=hu
  have h0:=at_s hat
  rw[h0]at h1;cases h1
  have ht:=hs.ix h0
  have hr':a.tmps[t]? =some r:=hr
  have key:∀s,SlR S a.tmps w'.heap {g with ro:=fun x=>g.ro x∨x∈fz} s r fp→(up=0→s= .one v' m')→∃g',(∀x,g'.ro x↔g.ro x∨x∈fz)∧g'.bb=g.bb∧(∀l',l'≠ .s t→g'.fp l'=g.fp l')∧g'.fp (.s t)=fp∧Sim fr (S.setT t s (ver+up)) a w' g' pool':=fun s hsl hs0=>by
   have:=sim_set (w':=w') (s:=s) (r:=r) (nv:=ver+up) (fp:=fp) (fz:=fz) (pool':=pool') hs ht hsw hsz hh (by rw[sl_eq h0];exact Nat.le_add_right _ _) (fun he=>⟨hr',fun z hz=> ?_⟩) hfp hn hfz hp hpn hd hd2 hsl
   ·rw[put_self hr']at this;exact this
   ·rw[sl_eq h0]at he
    have hup0:up=0:=by simp only at he;omega
    rcases hup with h|⟨_,h⟩
    ·omega
    ·rw[hs0 hup0]
     simp only[St.zAt,St.at,setT_get ht,if_true,Option.bind_some]
     simp only[St.zAt,hat,Option.bind_some]at hz
     exact h z hz
  rcases hcv with⟨t',e1,e2,e3,e4⟩|hcv
  ·cases e1
   rw[e2]
   exact key .undef e4 (fun c=>by omega)
  rcases h2 with h2|⟨h2,rfl,rfl⟩
  ·rw[h2];exact key _ hcv (fun _=>rfl)
  ·rcases hup with h|⟨h,h'⟩
   ·rw[h2]
    refine key .undef ?_ (fun c=>by omega)
    have:OneR w'.heap {g with ro:=fun x=>g.ro x∨x∈fz} .undef .pr r fp:=hcv
    exact this.2.2
   ·have:OneR w'.heap {g with ro:=fun x=>g.ro x∨x∈fz} .undef .pr r fp:=hcv
    rw[h2]
    have hz:∀z,zOf v≠some z:=fun z hz=>by have:=h' z hz;cases this
    have:=sim_set (w':=w') (s:=.undef) (r:=r) (nv:=ver+up) (fp:=fp) (fz:=fz) (pool':=pool') hs ht hsw hsz hh (by rw[sl_eq h0];exact Nat.le_add_right _ _) (fun he=>⟨hr',fun z hz'=> ?_⟩) hfp hn hfz hp hpn hd hd2 this.2.2
    ·rw[put_self hr']at this;exact this
    ·simp only[St.zAt,hat,Option.bind_some]at hz';exact absurd hz' (hz z)
 |b b j=>
  replace hcv:LR w'.heap {g with ro:=fun x=>g.ro x∨x∈fz} (.b b j) m' v' r fp:=by
   rcases hcv with⟨t',e1,_⟩|hcv
   ·cases e1
   ·exact hcv
  obtain⟨cs,c,h1,h2,h3⟩:=hu
  obtain⟨cs0,c0,k1,k2,rfl,rfl,rfl⟩:=at_b hat
  rw[k1]at h1;cases h1
  rw[k2]at h2;cases h2
  obtain⟨β,rc,ty,q1,q2,q3,q4⟩:=hs.boxes b cs k1
  have hj:j<cs.length:=(List.getElem?_eq_some_iff.1 k2).1
  have hlt:=hs.boxLt q1
  have nb:∀x,(x∈pool∨x∈g.fp (.b b j))→x≠β:=fun x hx e=>by
   subst e
   have e1:=hs.ownB b x q1
   rcases hx with hx|hx
   ·rw[hs.pl x hx]at e1;exact Ow.noConfusion e1
   ·rw[hs.own _ x hx]at e1;exact Ow.noConfusion e1
  have hw':w'.heap[β]? =some (.cells rc ty (0,0)):=by
   rw[hh β hlt (fun c=>nb _ (.inl c) rfl) (fun c=>nb _ (.inr c) rfl)];exact q2
  have rr:rc[j]? =some r:=by simp only[realAt,q1,q2]at hr;exact hr
  have two:∀i x,i≠j→x∈g.fp (.b b i)→¬(x∈pool∨x∈g.fp (.b b j)):=fun i x hi hx hc=>by
   have e1:=hs.own _ x hx
   rcases hc with hc|hc
   ·rw[hs.pl x hc]at e1;exact Ow.noConfusion e1
   ·rw[hs.own _ x hc]at e1;injection e1 with e1;injection e1 with _ e1;exact hi e1.symm
  have:=sim_box (w':=w') (cs':=cs.set j ⟨v',m',c.ver+up,c.fix⟩) (c':=rc) (ty:=ty) (fpb:=fun i=>if i=j then fp else g.fp (.b b i)) (fz:=fz) (pool':=pool') hs k1 q1 hsw hsz hw'
   (by simp[q3]) (fun x hx _ hxp hxf=>hh x hx hxp (hxf j)) (by simp)
   (fun i x x' hx hx'=>by
     rw[set_get hj]at hx'
     by_cases e:i=j
     ·subst e;rw[if_pos rfl]at hx';rw[k2]at hx;cases hx;cases hx'
      refine⟨Nat.le_add_right _ _,fun he=>⟨by rw[hr];exact rr,fun z hz=> ?_⟩⟩
      simp only at he
      rcases hup with h|⟨_,h⟩
      ·omega
      ·exact h z hz
     ·rw[if_neg e,hx]at hx';cases hx'
      exact⟨Nat.le_refl _,fun _=>⟨by simp only[realAt,q1,q2],fun z hz=>hz⟩⟩)
   (fun i x' hx' hf=>by
     rw[set_get hj]at hx'
     by_cases e:i=j
     ·subst e;rw[if_pos rfl]at hx';cases hx'
      obtain⟨r0,e1,_,e3⟩:=q4 i c k2
      rw[e1,e3 hf]
     ·rw[if_neg e]at hx'
      obtain⟨r0,e1,_,e3⟩:=q4 i x' hx'
      rw[e1,e3 hf])
   (fun i x' hx'=>by
     rw[set_get hj]at hx'
     by_cases e:i=j
     ·subst e;rw[if_pos rfl]at hx';cases hx'
      refine⟨r,rr,?_⟩;simp only[if_true];exact hcv
     ·rw[if_neg e]at hx'
      obtain⟨r0,e1,e2,_⟩:=q4 i x' hx'
      refine⟨r0,e1,?_⟩
      simp only[e,if_false]
      refine e2.mono (g':={g with ro:=fun x=>g.ro x∨x∈fz}) (fun b hb=>Or.inl hb) (fun _ _ h=>h) (fun x hx=> ?_) (fun x hx=> ?_)
      ·have hnr:¬(x∈pool∨x∈g.fp (.b b j)):=fun hc=>by
        have:g.ow x≠ .none:=by rcases hc with hc|hc;exact ow_ne_pool (hs.pl x hc);exact ow_ne_loc (hs.own _ x hc)
        exact(hs.free x this).1 hx
       exact hh x (hs.rolt x hx) (fun c=>hnr (.inl c)) (fun c=>hnr (.inr c))
      ·have:=two i x e hx
       exact hh x (hs.fpLt hx) (fun c=>this (.inl c)) (fun c=>this (.inr c)))
   (fun i x hx=>by
     by_cases e:i=j
     ·subst e;simp only[if_true]at hx;exact(hfp x hx).imp id fun h=>⟨i,h⟩
     ·simp only[e,if_false]at hx;exact .inr ⟨i,hx⟩)
   (fun i=>by
     by_cases e:i=j
     ·subst e;simpa using hn
     ·simpa [e]using hs.nd (.b b i))
   (fun i i' x hx hx'=>by
     by_cases e:i=j<;>by_cases e':i'=j
     ·rw[e,e']
     ·simp only[e,if_true,e',if_false]at hx hx';exact absurd (hfp x hx) (two i' x e' hx')
     ·simp only[e,if_false,e',if_true]at hx hx';exact absurd (hfp x hx') (two i x e hx)
     ·simp only[e,e',if_false]at hx hx'
      have e1:=hs.own _ x hx;rw[hs.own _ x hx']at e1;injection e1 with e1;injection e1 with _ e1;exact e1.symm)
   (fun x hx=>(hfz x hx).imp id fun h=>⟨j,h⟩) (fun x hx=>(hp x hx).imp id fun h=>⟨j,h⟩) hpn
   (fun i x hx=>by
     by_cases e:i=j
     ·subst e;simp only[if_true]at hx;exact hd x hx
     ·simp only[e,if_false]at hx;exact fun c=>two i x e hx (hp x c))
   (fun x hx=>⟨fun i hc=>by
     by_cases e:i=j
     ·subst e;simp only[if_true]at hc;exact(hd2 x hx).1 hc
     ·simp only[e,if_false]at hc;exact two i x e hc (hfz x hx),(hd2 x hx).2⟩)
  obtain⟨g',p1,p2,p3,p4,p5⟩:=this
  refine⟨g',p1,p2,fun l' hl=> ?_,by rw[p4];simp,by rw[h3];exact p5⟩
  by_cases e:∃i,l'= .b b i
  ·obtain⟨i,rfl⟩:=e
   have:i≠j:=fun c=>hl (by rw[c])
   rw[p4];simp[this]
  ·exact p3 l' (fun i c=>e ⟨i,c⟩)
end at_
section consts
variable {S : St} {tm : Array Value} {h : Hp} {g : Gh}
theorem cellOf_ok{v:Value}{x m}(e:cellOf v=some (x,m)):CV h g m x v []:=by
 unfold cellOf at e
 split at e<;>first|(cases e;done)|skip
 ·cases e;exact⟨rfl,rfl,rfl,rfl⟩
 ·cases e;exact⟨rfl,rfl,rfl,rfl⟩
 ·cases e;exact⟨rfl,rfl,rfl,rfl⟩
 ·cases e;exact⟨rfl,none,0,0,rfl,rfl,by decide,rfl,rfl⟩
 ·cases e;exact⟨rfl,rfl,rfl,rfl⟩
theorem cellsOf_ok:∀{l:List Value} {cs},cellsOf l=some cs→CsR h g cs l []
 | [],cs,e=>by cases e;exact⟨rfl,rfl⟩
 |v::r,cs,e=>by
  simp only[cellsOf]at e
  split at e
  ·rename_i c q h1 h2
   cases e
   exact⟨v,r,[],[],rfl,rfl,cellOf_ok h1,cellsOf_ok h2⟩
  ·cases e
theorem constSl_ok{v:Value}{s}(e:constSl v=some s):SlR S tm h g s v []:=by
 unfold constSl at e
 split at e
 ·rename_i cs
  split at e
  ·rename_i l h1;cases e
   exact⟨cs,rfl,cellsOf_ok h1⟩
  ·cases e
 ·split at e
  ·rename_i x m h1;cases e
   exact CV.one (cellOf_ok h1)
  ·cases e
end consts
section
variable {C : FuncId → List V → List V → Prop} {fr : Fr} {S : St} {a : Act} {w : World} {g : Gh} {pool : List Nat} {rm rm' : Nat} {ws : List Wr}
theorem Sim.slot(hs:Sim fr S a w g pool){t s ver}(h:S.tmps[t]? =some (s,ver)):SlR S a.tmps w.heap g s (a.eval (.tmp t)) (g.fp (.s t)):=by
 obtain⟨r,h1,h2⟩:=hs.slots t _ h
 have:a.eval (.tmp t)=r:=by
  simp only[Act.eval];rw[Array.getD_eq_getD_getElem?,h1];rfl
 rw[this];exact h2
theorem sl_case(S:St)(t:Nat):(∃ver,S.tmps[t]? =some ((S.sl t).1,ver)∧(S.sl t).2=ver)∨(S.tmps[t]? =none∧S.sl t=(.undef,0)):=by
 cases h:S.tmps[t]? with
 |none=>exact .inr ⟨rfl,by unfold St.sl;rw[List.getD_eq_getElem?_getD,h];rfl⟩
 |some x=>left;rw[sl_eq h];exact⟨x.2,rfl,rfl⟩
theorem evO_ok{x:Operand}{k:Sl→Pg}(hp:PgR C S (evO x k) rm ws rm')(hs:Sim fr S a w g pool):
 ∃s rm1 fp,PgR C S (k s) rm1 ws rm'∧SlR S a.tmps w.heap g s (a.eval x) fp∧((∃t ver,x= .tmp t∧S.tmps[t]? =some (s,ver)∧fp=g.fp (.s t))∨((∀t,x= .tmp t→s= .undef)∧fp=[])):=by
 unfold evO at hp
 split at hp
 ·rename_i t
  have hp':PgR C S (k (S.sl t).1) _ ws rm':=hp
  rcases sl_case S t with⟨ver,h1,_⟩|⟨_,h2⟩
  ·exact⟨_,_,_,hp',hs.slot h1,.inl ⟨t,ver,rfl,h1,rfl⟩⟩
  ·rw[h2]at hp'
   exact⟨_,_,_,hp',rfl,.inr ⟨fun _ _=>rfl,rfl⟩⟩
 ·rename_i c
  split at hp
  ·rename_i s h1
   exact⟨s,_,[],hp,constSl_ok h1,.inr ⟨(fun t e=>by cases e),rfl⟩⟩
  ·exact hp.elim
 ·rename_i f
  exact⟨_,_,[],hp,⟨rfl,.inr ⟨f,[],#[],rfl,rfl,rfl⟩⟩,.inr ⟨(fun t e=>by cases e),rfl⟩⟩
 ·exact hp.elim
def St.fixAt(S:St)(b j:Nat):Bool:=match S.bx b with|some cs=>(match cs[j]? with|some c=>c.fix|none=>false)|none=>false
def clrW(S:St):Lo→Wr
 | .s t=>.slot t .undef
 | .b b j=>.cell b j ⟨.undef,.pr,S.verAt (.b b j)+1,S.fixAt b j⟩
def frzW(S:St)(v:V):Lo→Wr
 | .s t=>.keep t (.one v .ro)
 | .b b j=>.cell b j ⟨v,.ro,S.verAt (.b b j),S.fixAt b j⟩
def valW:Lo→V→Wr
 | .s t=>fun y=>.val t y
 | .b b j=>fun y=>.cval b j y
theorem look_ok{l:Lo}{ver:Nat}{k}(hp:PgR C S (look l ver k) rm ws rm'):
 ∃v m rm1,S.at l=some (v,m,ver)∧PgR C S (k v m (clrW S l) (frzW S v l) (valW l)) rm1 ws rm':=by
 unfold look at hp
 split at hp
 ·rename_i t
  have hp':PgR C S (match (S.sl t).1 with| .one x m=>.chk ((S.sl t).2==ver) (k x m (.slot t .undef) (.keep t (.one x .ro)) fun y=>.val t y)|_=>.fail) _ ws rm':=hp
  rcases sl_case S t with⟨v0,h1,h2⟩|⟨_,h2⟩
  ·split at hp'
   ·rename_i x m hx
    obtain⟨hc,hp'⟩:=hp'
    rw[h2]at hc
    have:v0=ver:=by simpa using hc
    subst this
    rw[hx]at h1
    exact⟨x,m,_,by simp only[St.at,h1],hp'⟩
   ·exact hp'.elim
  ·rw[h2]at hp';exact hp'.elim
 ·rename_i b j
  have hp':PgR C S (match S.bx b with
   |some cs=>match cs[j]? with
    |some c=>.chk (c.ver==ver) (k c.v c.m (.cell b j ⟨.undef,.pr,c.ver+1,c.fix⟩) (.cell b j ⟨c.v,.ro,c.ver,c.fix⟩) fun y=>.cval b j y)
    |none=>.fail
   |none=>.fail) _ ws rm':=hp
  split at hp'
  ·rename_i cs h1
   split at hp'
   ·rename_i c h2
    obtain⟨hc,hp'⟩:=hp'
    have hc:c.ver=ver:=by simpa using hc
    refine⟨c.v,c.m,rm|||(bbit b|||bhbit b),by simp[St.at,h1,h2,hc],?_⟩
    have e1:S.verAt (.b b j)=c.ver:=by simp[St.verAt,h1,h2]
    have e2:S.fixAt b j=c.fix:=by simp[St.fixAt,h1,h2]
    simp only[clrW,frzW,e1,e2]
    exact hp'
   ·exact hp'.elim
  ·exact hp'.elim
theorem CsR.rcs:∀{cs:List (V×M)} {rs fp},cs.any (·.2.isPt)=false→CsR w.heap g cs rs fp→RCs w.heap (fun _=>True) (cs.map (·.1)) rs
 | [],rs,fp,_,x=>x.1
 |(v,m)::q,rs,fp,hn,⟨r,rs',f,f',e,e',x,y⟩=>by
  simp only[List.any_cons,Bool.or_eq_false_iff]at hn
  refine⟨r,rs',e,?_,?_,CsR.rcs hn.2 y⟩
  ·cases m<;>first|exact x.1|simp[M.isPt]at hn
  ·have:RM w.heap g.ro m v [r] f:=by cases m<;>first|exact x.2|simp[M.isPt]at hn
   exact(this.toRO (fun _ _=>trivial) (fun _ _=>trivial)).1
theorem Sim.ref(hs:Sim fr S a w g pool){l ver r fp v m}(h:SlR S a.tmps w.heap g (.ref l ver) r fp)(hat:S.at l=some (v,m,ver)):realAt a.tmps w.heap g l=some r∧LR w.heap g l m v r (g.fp l)∧fp=[]:=by
 obtain⟨r',h1,h2,h3⟩:=hs.at hat
 have:=h.2.2 h3.symm
 rw[h1]at this;cases this
 exact⟨h1,h2,h.1⟩
theorem val1_ok{x:Operand}{k:V→Pg}(hp:PgR C S (val1 x k) rm ws rm')(hs:Sim fr S a w g pool):
 ∃v rm1,PgR C S (k v) rm1 ws rm'∧RV w.heap v (a.eval x):=by
 obtain⟨s,rm1,fp,hp,hr,_⟩:=evO_ok hp hs
 cases s with
 |one v m=>
  obtain⟨hc,hp⟩:=hp
  exact⟨v,_,hp,OneR.rv (by simpa using hc) hr⟩
 |many cs=>
  obtain⟨hc,hp⟩:=hp
  obtain⟨rs,e,y⟩:=hr
  exact⟨_,_,hp,rs,e,CsR.rcs (by simpa using hc) y,rfl⟩
 |ref l ver=>
  obtain⟨v,m,rm2,hat,hc,hp⟩:=look_ok hp
  obtain⟨_,h2,_⟩:=hs.ref hr hat
  exact⟨v,_,hp,OneR.rv (by simpa using hc) h2.one⟩
 |_=>exact hp.elim
def Wr.lo:Wr→Option Lo
 | .slot t _| .keep t _| .val t _=>some (.s t)
 | .cell b j _| .cval b j _=>some (.b b j)
 | .box _ _=>none
theorem Wr.lo_spot{u:Wr}{l}(h:u.lo=some l):u.spot=l.spot:=by
 cases u<;>simp[Wr.lo]at h<;>subst h<;>rfl
def Agree(S S1:St):Lo→Prop
 | .s t=>S1.tmps[t]? =S.tmps[t]?
 | .b b j=>(S1.bx b).bind (·[j]?)=(S.bx b).bind (·[j]?)
theorem Agree.refl(S:St)(l:Lo):Agree S S l:=by cases l<;>rfl
theorem Agree.at{S S1:St}{l:Lo}(h:Agree S S1 l):S1.at l=S.at l:=by
 cases l with
 |s t=>simp only[St.at];rw[show S1.tmps[t]? =S.tmps[t]? from h]
 |b b j=>
  have h':(S1.bx b).bind (·[j]?)=(S.bx b).bind (·[j]?):=h
  simp only[St.at]
  cases e1:S1.bx b<;>cases e2:S.bx b<;>simp[e1,e2]at h'<;>simp[h']<;>simp[←h']
theorem Agree.fix{S S1:St}{b j}(h:Agree S S1 (.b b j)):S1.fixAt b j=S.fixAt b j:=by
 have h':(S1.bx b).bind (·[j]?)=(S.bx b).bind (·[j]?):=h
 simp only[St.fixAt]
 cases e1:S1.bx b<;>cases e2:S.bx b<;>simp[e1,e2]at h'<;>simp[h']<;>simp[←h']
theorem Agree.app{S S1:St}{u:Wr}{l l':Lo}(h:Agree S S1 l)(hu:u.lo=some l')(hn:l'≠l):Agree S (u.app S1) l:=by
 have sl:∀t x,l'= .s t→Agree S {S1 with tmps:=S1.tmps.set t x} l:=fun t x e=>by
  cases l with
  |s t'=>
   have:t≠t':=fun c=>hn (by rw[e,c])
   show(S1.tmps.set t x)[t']? =S.tmps[t']?
   rw[List.getElem?_set,if_neg this];exact h
  |b b j=>exact h
 have bx:∀b j (f:Bx→Bx),(∀cs i,i≠j→(f cs)[i]? =cs[i]?)→l'= .b b j→Agree S {S1 with boxes:=S1.boxes.set b ((S1.bx b).map f)} l:=fun b j f hf e=>by
  cases l with
  |s t'=>exact h
  |b b' j'=>
   by_cases c:b'=b
   ·subst c
    have hj:j'≠j:=fun c=>hn (by rw[e,c])
    show((St.bx {S1 with boxes:=S1.boxes.set b' ((S1.bx b').map f)} b').bind (·[j']?))=_
    have e1:St.bx {S1 with boxes:=S1.boxes.set b' ((S1.bx b').map f)} b'=(S1.bx b').map f:=by
     show(S1.boxes.set b' _).getD b' none=_
     rw[getD_set_self]
     by_cases hl:b'<S1.boxes.length
     ·simp[hl]
     ·simp only[hl,if_false];rw[show S1.bx b'=none from getD_none hl];rfl
    rw[e1]
    have h':(S1.bx b').bind (·[j']?)=(S.bx b').bind (·[j']?):=h
    rw[←h']
    cases S1.bx b' with
    |none=>rfl
    |some cs=>simp only[Option.map_some,Option.bind_some];exact hf cs j' hj
   ·show((St.bx {S1 with boxes:=S1.boxes.set b ((S1.bx b).map f)} b').bind (·[j']?))=_
    have e1:St.bx {S1 with boxes:=S1.boxes.set b ((S1.bx b).map f)} b'=S1.bx b':=getD_set_ne' (Ne.symm c)
    rw[e1];exact h
 cases u with
 |slot t s=>cases hu;exact sl t _ rfl
 |keep t s=>cases hu;exact sl t _ rfl
 |val t s=>cases hu;exact sl t _ rfl
 |box b x=>cases hu
 |cell b j c=>cases hu;exact bx b j _ (fun cs i hi=>by rw[List.getElem?_set,if_neg (Ne.symm hi)]) rfl
 |cval b j v=>
  cases hu
  refine bx b j _ (fun cs i hi=> ?_) rfl
  unfold Bx.withV
  cases cs[j]? with
  |none=>rfl
  |some c=>simp only;rw[List.getElem?_set,if_neg (Ne.symm hi)]
theorem Agree.apps{S:St}{l:Lo}:∀{W:List Wr} {S1:St},Agree S S1 l→(∀u∈W,∃l',u.lo=some l'∧l'≠l)→Agree S (Wr.apps W S1) l
 | [],_,h,_=>h
 |u::W,S1,h,hW=>by
  obtain⟨l',h1,h2⟩:=hW u (List.mem_cons_self ..)
  exact Agree.apps (W:=W) (S1:=u.app S1) (h.app h1 h2) fun u' hu'=>hW u' (List.mem_cons_of_mem _ hu')
theorem apps_append:∀{W X:List Wr} {S:St},Wr.apps (W++X) S=Wr.apps X (Wr.apps W S)
 | [],X,S=>rfl
 |u::W,X,S=>by simp only[List.cons_append,Wr.apps];exact apps_append
def Hot(S:St)(l:Lo):Prop:=(∃v d ver,S.at l=some (v,.own d,ver))∨∃t cs ver,l= .s t∧S.tmps[t]? =some (.many cs,ver)
structure Took (fr:Fr) (S:St) (W:List Wr) (a:Act) (w:World) (g:Gh) (pool:List Nat):Prop where
 tk:∀u∈W,∃l,u.lo=some l∧Hot S l
 sim:Sim fr (Wr.apps W S) a w g pool
structure Up (g g':Gh):Prop where
 ro:∀x,g.ro x→g'.ro x
 bb:∀b β,g.bb b=some β→g'.bb b=some β
theorem Up.refl(g:Gh):Up g g:=⟨fun _ h=>h,fun _ _ h=>h⟩
theorem Up.trans{g1 g2 g3:Gh}(h:Up g1 g2)(k:Up g2 g3):Up g1 g3:=⟨fun x hx=>k.ro x (h.ro x hx),fun b β hb=>k.bb b β (h.bb b β hb)⟩
theorem Took.cold{W}(h:Took fr S W a w g pool){l:Lo}(hl:¬Hot S l):Agree S (Wr.apps W S) l:=
 Agree.apps (Agree.refl S l) fun u hu=>by
  obtain⟨l',h1,h2⟩:=h.tk u hu
  exact⟨l',h1,fun e=>hl (e▸h2)⟩
theorem Took.away{W w0 u}(h:Took fr S W a w g pool){l:Lo}(hc:Wr.clash w0 W=false)(hu:u∈w0)(hl:u.spot=l.spot):Agree S (Wr.apps W S) l:=
 Agree.apps (Agree.refl S l) fun u' hu'=>by
  obtain⟨l',h1,h2⟩:=h.tk u' hu'
  refine⟨l',h1,fun e=> ?_⟩
  have:¬((w0.any fun x=>W.any fun y=>x.spot==y.spot)=true):=by simpa [Wr.clash]using hc
  exact this (List.any_eq_true.2 ⟨u,hu,List.any_eq_true.2 ⟨u',hu',by rw[hl,Wr.lo_spot h1,e];simp⟩⟩)
theorem locW_clr{S S1:St}{l v m ver}(hat:S1.at l=some (v,m,ver))(hg:Agree S S1 l):LocW S1 l .undef .pr 1 (clrW S l):=by
 cases l with
 |s t=>
  have h0:=at_s hat
  exact⟨v,m,ver,h0,.inr ⟨by simp only[clrW,Wr.app,St.setT];rw[sl_eq h0],rfl,rfl⟩⟩
 |b b j=>
  obtain⟨cs,c,h1,h2,rfl,rfl,rfl⟩:=at_b hat
  have e1:S.verAt (.b b j)=c.ver:=by
   have h':(S1.bx b).bind (·[j]?)=(S.bx b).bind (·[j]?):=hg
   rw[h1]at h';simp only[Option.bind_some,h2]at h'
   simp only[St.verAt]
   cases e:S.bx b with
   |none=>simp[e]at h'
   |some cs'=>simp only[e,Option.bind_some]at h' ⊢;rw[←h']
  have e2:S.fixAt b j=c.fix:=by rw[←hg.fix];simp[St.fixAt,h1,h2]
  refine⟨cs,c,h1,h2,?_⟩
  simp only[clrW,Wr.app,St.setB,h1,Option.map_some,e1,e2]
theorem locW_frz{S S1:St}{l v m ver}(hat:S1.at l=some (v,m,ver))(hg:Agree S S1 l):LocW S1 l v .ro 0 (frzW S v l):=by
 cases l with
 |s t=>
  have h0:=at_s hat
  exact⟨v,m,ver,h0,.inl (by simp only[frzW,Wr.app,St.setT];rw[sl_eq h0];rfl)⟩
 |b b j=>
  obtain⟨cs,c,h1,h2,rfl,rfl,rfl⟩:=at_b hat
  have e1:S.verAt (.b b j)=c.ver:=by
   have h':(S1.bx b).bind (·[j]?)=(S.bx b).bind (·[j]?):=hg
   rw[h1]at h';simp only[Option.bind_some,h2]at h'
   simp only[St.verAt]
   cases e:S.bx b with
   |none=>simp[e]at h'
   |some cs'=>simp only[e,Option.bind_some]at h' ⊢;rw[←h']
  have e2:S.fixAt b j=c.fix:=by rw[←hg.fix];simp[St.fixAt,h1,h2]
  refine⟨cs,c,h1,h2,?_⟩
  simp only[frzW,Wr.app,St.setB,h1,Option.map_some,e1,e2];rfl
theorem locW_val{S1:St}{l v m ver}(hat:S1.at l=some (v,m,ver))(v':V):LocW S1 l v' m 0 (valW l v'):=by
 cases l with
 |s t=>
  have h0:=at_s hat
  exact⟨v,m,ver,h0,.inl (by simp only[valW,Wr.app,St.setT];rw[sl_eq h0];rfl)⟩
 |b b j=>
  obtain⟨cs,c,h1,h2,rfl,rfl,rfl⟩:=at_b hat
  refine⟨cs,c,h1,h2,?_⟩
  simp only[valW,Wr.app,St.setB,h1,Option.map_some,Bx.withV,h2];rfl
end
section
variable {C : FuncId → List V → List V → Prop} {fr : Fr} {S : St} {a : Act} {w : World} {g : Gh} {pool : List Nat} {rm rm' : Nat} {ws : List Wr}
theorem OneR.fp_nil{h:Hp}{m:M}{v r fp}(hm:m.isOwn=false)(x:OneR h g v m r fp):fp=[]:=by
 cases m with
 |pr=>
  have y:RW h g.ro .pr v r fp:=x
  unfold RW at y;split at y
  ·obtain⟨_,_,y⟩:=y;exact y.2.2
  ·exact y.2.2
 |ro=>
  have y:RW h g.ro .ro v r fp:=x
  unfold RW at y;split at y
  ·obtain⟨_,_,y⟩:=y;exact y.2
  ·exact y.2
 |own d=>simp[M.isOwn]at hm
 |pt=>exact x.1
theorem OneR.up{h:Hp}{g g':Gh}{m v r fp}(x:OneR h g v m r fp)(hu:Up g g'):OneR h g' v m r fp:=OneR.mono hu.ro hu.bb (fun _ _=>rfl) (fun _ _=>rfl) x
theorem CV.up{h:Hp}{g g':Gh}{m v r fp}(x:CV h g m v r fp)(hu:Up g g'):CV h g' m v r fp:=CV.mono hu.ro hu.bb (fun _ _=>rfl) (fun _ _=>rfl) x
theorem CsR.up{h:Hp}{g g':Gh}{cs rs fp}(x:CsR h g cs rs fp)(hu:Up g g'):CsR h g' cs rs fp:=CsR.mono hu.ro hu.bb (fun _ _=>rfl) (fun _ _=>rfl) x
theorem isOwn_eq{m:M}(h:m.isOwn=true):∃d,m= .own d:=by cases m<;>simp[M.isOwn]at h;exact⟨_,rfl⟩
theorem fp_pool(hs:Sim fr S a w g pool){l}:∀x∈g.fp l,x∉pool:=fun x hx c=>by
 have e:=hs.own _ x hx;rw[hs.pl x c]at e;exact Ow.noConfusion e
theorem take_at{W}(h:Took fr S W a w g pool){l v d ver}(hat:S.at l=some (v,.own d,ver))(hg:Agree S (Wr.apps W S) l):
 ∃g' fp r,realAt a.tmps w.heap g l=some r∧Took fr S (W++[clrW S l]) a w g' (fp++pool)∧Up g g'∧OneR w.heap g' v (.own d) r fp:=by
 have hat1:=hg.at.trans hat
 obtain⟨r,h1,h2,h3⟩:=h.sim.at hat1
 have hcv:(∃t,l= .s t∧(clrW S l).app (Wr.apps W S)=(Wr.apps W S).setT t .undef (ver+1)∧1=1∧([]:List Nat)=[])∨LR w.heap {g with ro:=fun x=>g.ro x∨x∈[]} l .pr .undef r []:=by
  cases l with
  |s t=>exact .inl ⟨t,rfl,by simp only[clrW,Wr.app,St.setT];rw[sl_eq (at_s hat1)],rfl,rfl⟩
  |b b j=>
   have y:CV w.heap g (.own d) v r (g.fp (.b b j)):=h2
   exact .inr (cv_undef (g:={g with ro:=fun x=>g.ro x∨x∈[]}) rfl y.ones)
 obtain⟨g',p1,p2,p3,p4,p5⟩:=sim_at (w':=w) (fp:=[]) (fz:=[]) (pool':=g.fp l++pool) h.sim hat1 h1 (locW_clr hat1 hg) (.inl rfl) (Same.refl w) (Nat.le_refl _) (fun _ _ _ _=>rfl)
  (by simp) (by simp) (by simp) (fun x hx=>(List.mem_append.1 hx).symm) (List.nodup_append.2 ⟨h.sim.nd l,h.sim.plnd,fun x hx y hy e=>by subst e;exact fp_pool h.sim x hx hy⟩) (by simp) (by simp) hcv
 have up:Up g g':=⟨fun x hx=>(p1 x).2 (.inl hx),fun b β hb=>by rw[p2];exact hb⟩
 refine⟨g',g.fp l,r,h1,⟨fun u hu=> ?_,by rw[apps_append];exact p5⟩,up,(LR.one h2).up up⟩
 rcases List.mem_append.1 hu with hu|hu
 ·exact h.tk u hu
 ·simp only[List.mem_singleton]at hu;subst hu
  refine⟨l,?_,.inl ⟨v,d,ver,hat⟩⟩
  cases l<;>rfl
theorem freeze_at{W}(h:Took fr S W a w g pool){l v d ver}(hat:S.at l=some (v,.own d,ver))(hg:Agree S (Wr.apps W S) l):
 ∃g' r,realAt a.tmps w.heap g l=some r∧Took fr S (W++[frzW S v l]) a w g' pool∧Up g g'∧OneR w.heap g' v .ro r []:=by
 have hat1:=hg.at.trans hat
 obtain⟨r,h1,h2,h3⟩:=h.sim.at hat1
 let g1:Gh:={g with ro:=fun x=>g.ro x∨x∈g.fp l}
 have hro:LR w.heap g1 l .ro v r []:=by
  cases l with
  |s t=>
   have y:OneR w.heap g v (.own d) r (g.fp (.s t)):=h2
   exact RW.one (RW.toRO (ro':=g1.ro) (fun b hb=>Or.inl hb) (fun b hb=>Or.inr hb) (y.rw rfl))
  |b b j=>
   have y:CV w.heap g (.own d) v r (g.fp (.b b j)):=h2
   exact⟨y.1,RM.toRO (ro':=g1.ro) (fun b hb=>Or.inl hb) (fun b hb=>Or.inr hb) y.2⟩
 obtain⟨g',p1,p2,p3,p4,p5⟩:=sim_at (w':=w) (fp:=[]) (fz:=g.fp l) (pool':=pool) h.sim hat1 h1 (locW_frz hat1 hg) (.inr ⟨rfl,fun z hz=>hz⟩) (Same.refl w) (Nat.le_refl _) (fun _ _ _ _=>rfl)
  (by simp) (by simp) (fun x hx=>.inr hx) (fun x hx=>.inl hx) h.sim.plnd (by simp) (fun x hx=>⟨by simp,fp_pool h.sim x hx⟩) (.inr hro)
 have up:Up g g':=⟨fun x hx=>(p1 x).2 (.inl hx),fun b β hb=>by rw[p2];exact hb⟩
 have up1:Up g1 g':=⟨fun x hx=>(p1 x).2 hx,fun b β hb=>by rw[p2];exact hb⟩
 refine⟨g',r,h1,⟨fun u hu=> ?_,by rw[apps_append];exact p5⟩,up,(LR.one hro).up up1⟩
 rcases List.mem_append.1 hu with hu|hu
 ·exact h.tk u hu
 ·simp only[List.mem_singleton]at hu;subst hu
  refine⟨l,?_,.inl ⟨v,d,ver,hat⟩⟩
  cases l<;>rfl
theorem take_many{W}(h:Took fr S W a w g pool){t cs ver}(hat:S.tmps[t]? =some (.many cs,ver))(hg:Agree S (Wr.apps W S) (.s t)):
 ∃g' fp rs,a.eval (.tmp t)= .agg rs∧Took fr S (W++[.slot t .undef]) a w g' (fp++pool)∧Up g g'∧CsR w.heap g' cs rs.toList fp:=by
 have hat1:(Wr.apps W S).tmps[t]? =some (.many cs,ver):=Eq.trans hg hat
 have h2:=h.sim.slot hat1
 obtain⟨rs,e,y⟩:=h2
 obtain⟨r0,k1,_⟩:=h.sim.slots t _ hat1
 have h0:a.eval (.tmp t)=r0:=by simp only[Act.eval];rw[Array.getD_eq_getD_getElem?,k1];rfl
 have:=sim_set (w':=w) (s:=.undef) (r:=r0) (nv:=ver+1) (fp:=[]) (fz:=[]) (pool':=g.fp (.s t)++pool) h.sim (h.sim.ix hat1) (Same.refl w) (Nat.le_refl _) (fun _ _ _ _=>rfl) (by rw[sl_eq hat1];exact Nat.le_succ _) (fun he=>by rw[sl_eq hat1]at he;simp only at he;omega)
  (by simp) (by simp) (by simp) (fun x hx=>(List.mem_append.1 hx).symm) (List.nodup_append.2 ⟨h.sim.nd _,h.sim.plnd,fun x hx y hy e=>by subst e;exact fp_pool h.sim x hx hy⟩) (by simp) (by simp) rfl
 obtain⟨g',p1,p2,p3,p4,p5⟩:=this
 rw[put_self k1]at p5
 have up:Up g g':=⟨fun x hx=>(p1 x).2 (.inl hx),fun b β hb=>by rw[p2];exact hb⟩
 refine⟨g',g.fp (.s t),rs,e,⟨fun u hu=> ?_,?_⟩,up,y.up up⟩
 ·rcases List.mem_append.1 hu with hu|hu
  ·exact h.tk u hu
  ·simp only[List.mem_singleton]at hu;subst hu
   exact⟨.s t,rfl,.inr ⟨t,cs,ver,rfl,hat⟩⟩
 ·rw[apps_append]
  have:Wr.apps [.slot t .undef] (Wr.apps W S)=(Wr.apps W S).setT t .undef (ver+1):=by
   simp only[Wr.apps,Wr.app,St.setT];rw[sl_eq hat1]
  rw[this];exact p5
theorem gives_trans:∀{m n k:M},m.gives n=true→n.gives k=true→m.gives k=true:=by
 intro m n k
 cases m<;>cases n<;>cases k<;>simp[M.gives]<;>(try (rename_i a b c;cases a<;>cases b<;>cases c<;>simp))
theorem meet_l{m n:M}(h:m.isPt=false)(h':n.isPt=false):m.gives (m.meet n)=true:=by
 cases m with
 |pt=>simp[M.isPt]at h
 |pr=>cases n<;>simp[M.gives,M.isPt,M.meet]at*
 |ro=>cases n<;>simp[M.gives,M.isPt,M.meet]at*
 |own a=>cases n with
  |own b=>cases a<;>cases b<;>rfl
  |pt=>simp[M.isPt]at h'
  |pr=>cases a<;>rfl
  |ro=>rfl
theorem meet_r{m n:M}(h:m.isPt=false)(h':n.isPt=false):n.gives (m.meet n)=true:=by
 cases n with
 |pt=>simp[M.isPt]at h'
 |pr=>cases m<;>simp[M.gives,M.isPt,M.meet]at*
 |ro=>cases m<;>simp[M.gives,M.isPt,M.meet]at*
 |own b=>cases m with
  |own a=>cases a<;>cases b<;>rfl
  |pt=>simp[M.isPt]at h
  |pr=>cases b<;>rfl
  |ro=>rfl
theorem meet_pt{m n:M}(h:m.isPt=false)(h':n.isPt=false):(m.meet n).isPt=false:=by
 cases m<;>cases n<;>simp[M.isPt,M.meet]at*
theorem meets_ok:∀{cs:List (V×M)},cs.any (·.2.isPt)=false→(meets cs).isPt=false∧∀c∈cs,c.2.gives (meets cs)=true
 | [],_=>⟨rfl,fun _ h=>by cases h⟩
 |c::cs,h=>by
  simp only[List.any_cons,Bool.or_eq_false_iff]at h
  obtain⟨h1,h2⟩:=meets_ok h.2
  refine⟨meet_pt h.1 h1,fun c' hc=> ?_⟩
  rcases List.mem_cons.1 hc with rfl|hc
  ·exact meet_l h.1 h1
  ·exact gives_trans (h2 c' hc) (meet_r h.1 h1)
structure Part (fp fo fi:List Nat):Prop where
 mem:∀x,x∈fp↔x∈fo∨x∈fi
 nd:fo.Nodup
 dis:∀x∈fi,x∉fo
theorem Part.none{fp:List Nat}(h:fp.Nodup):Part fp fp []:=⟨by simp,h,by simp⟩
theorem Part.all(fp:List Nat):Part fp [] fp:=⟨by simp,by simp,by simp⟩
theorem Part.app{f fo fi g go gi:List Nat}(hn:(f++g).Nodup)(h:Part f fo fi)(k:Part g go gi):Part (f++g) (fo++go) (fi++gi):=by
 have hn':=List.nodup_append.1 hn
 have dis:∀b,b∈f→b∈g→False:=fun b hb hb'=>hn'.2.2 b hb b hb' rfl
 refine⟨fun b=> ?_,?_,fun b hb hb'=> ?_⟩
 ·simp only[List.mem_append,h.mem b,k.mem b];constructor<;>intro h<;>rcases h with(h|h)|(h|h)<;>simp[h]
 ·refine List.nodup_append.2 ⟨h.nd,k.nd,fun b hb c hc hbc=> ?_⟩
  subst hbc;exact dis b ((h.mem b).2 (.inl hb)) ((k.mem b).2 (.inl hc))
 ·simp only[List.mem_append]at hb hb'
  rcases hb with hb|hb<;>rcases hb' with hb'|hb'
  ·exact h.dis b hb hb'
  ·exact dis b ((h.mem b).2 (.inr hb)) ((k.mem b).2 (.inl hb'))
  ·exact dis b ((h.mem b).2 (.inl hb')) ((k.mem b).2 (.inr hb))
  ·exact k.dis b hb hb'
theorem RM.lower{h:Hp}{ro:Nat→Prop}{m n:M}{v rs fp}(hg:m.gives n=true)(hn:fp.Nodup)(x:RM h ro m v rs fp):
 ∃fo fi,Part fp fo fi∧∀ro':Nat→Prop,(∀b,ro b→ro' b)→(∀b∈fi,ro' b)→RM h ro' n v rs fo:=by
 cases m with
 |pt=>exact x.elim
 |pr=>
  obtain⟨x1,x2,rfl⟩:=x
  refine⟨[],[],Part.none (by simp),fun ro' hr _=> ?_⟩
  cases n with
  |pr=>exact⟨x1,x2,rfl⟩
  |ro=>exact⟨x2.plain_any x1,rfl⟩
  |own d=>exact x2.toOwn x1
  |pt=>simp[M.gives]at hg
 |ro=>
  obtain⟨x1,rfl⟩:=x
  refine⟨[],[],Part.none (by simp),fun ro' hr _=> ?_⟩
  cases n with
  |ro=>exact⟨x1.mono hr (fun _ _=>rfl),rfl⟩
  |_=>simp[M.gives]at hg
 |own d=>
  cases n with
  |ro=>exact⟨[],fp,Part.all fp,fun ro' hr hi=>⟨OEl.toRO hr hi x,rfl⟩⟩
  |own d'=>
   by_cases e:d=d'
   ·subst e
    exact⟨fp,[],Part.none hn,fun ro' hr _=>OEl.mono hr (fun _ _=>rfl) (fun _ _=>rfl) x⟩
   ·have:d'=false:=by cases d<;>cases d'<;>simp[M.gives]at hg e ⊢
    subst this
    obtain⟨fo,fi,h1,h2,h3,h4⟩:=OEl.weak hn x
    exact⟨fo,fi,⟨h1,h2,h3⟩,fun ro' hr hi=>h4 ro' hr hi⟩
  |_=>simp[M.gives]at hg
theorem CsR.lower{h:Hp}{n:M}(hn0:n.isPt=false):∀{cs:List (V×M)} {rs fp},(∀c∈cs,c.2.gives n=true)→fp.Nodup→CsR h g cs rs fp→
 ∃fo fi,Part fp fo fi∧∀ro':Nat→Prop,(∀b,g.ro b→ro' b)→(∀b∈fi,ro' b)→RM h ro' n (.agg (cs.map (·.1))) rs fo
 | [],rs,fp,_,_,⟨e,e'⟩=>by
   subst e;subst e'
   refine⟨[],[],Part.none (by simp),fun ro' _ _=> ?_⟩
   cases n with
   |pr=>exact⟨rfl,rfl,rfl⟩
   |ro=>exact⟨rfl,rfl⟩
   |own d=>exact⟨rfl,rfl⟩
   |pt=>simp[M.isPt]at hn0
 |(v,m)::q,rs,fp,hg,hn,⟨r,rs',f,f',e,e',x,y⟩=>by
  subst e;subst e'
  have hn':=List.nodup_append.1 hn
  have hm:=hg (v,m) (List.mem_cons_self ..)
  have hx:v.isAgg=false∧RM h g.ro m v [r] f:=by cases m<;>first|exact x|simp[M.gives]at hm
  obtain⟨fo,fi,p1,p2⟩:=RM.lower hm hn'.1 hx.2
  obtain⟨go,gi,q1,q2⟩:=CsR.lower hn0 (fun c hc=>hg c (List.mem_cons_of_mem _ hc)) hn'.2.1 y
  refine⟨fo++go,fi++gi,p1.app hn q1,fun ro' hr hi=> ?_⟩
  have a1:=p2 ro' hr (fun b hb=>hi b (by simp[hb]))
  have a2:=q2 ro' hr (fun b hb=>hi b (by simp[hb]))
  cases n with
  |pr=>
   obtain⟨b1,b2,b3⟩:=a1;obtain⟨c1,c2,c3⟩:=a2
   exact⟨by simp only[List.map_cons,V.plain,V.plains,Bool.and_eq_true]at c1 ⊢;exact⟨b1,c1⟩,⟨r,rs',rfl,hx.1,b2,c2⟩,by simp[b3,c3]⟩
  |ro=>
   obtain⟨b2,b3⟩:=a1;obtain⟨c2,c3⟩:=a2
   exact⟨⟨r,rs',rfl,hx.1,b2,c2⟩,by simp[b3,c3]⟩
  |own d=>exact⟨r,rs',fo,go,rfl,rfl,hx.1,a1,a2⟩
  |pt=>simp[M.isPt]at hn0
theorem evO_c{x:Operand}{k:Sl→Pg}(hp:PgR C S (evO x k) rm ws rm')(hx:∀t,x≠ .tmp t):
 ∃s rm1,PgR C S (k s) rm1 ws rm'∧∀(S':St) (tm:Array Value) (h:Hp) (g:Gh),SlR S' tm h g s (a.eval x) []:=by
 unfold evO at hp
 split at hp
 ·exact absurd rfl (hx _)
 ·split at hp
  ·rename_i s h1;exact⟨s,_,hp,fun _ _ _ _=>constSl_ok h1⟩
  ·exact hp.elim
 ·rename_i f;exact⟨_,_,hp,fun _ _ _ _=>⟨rfl,.inr ⟨f,[],#[],rfl,rfl,rfl⟩⟩⟩
 ·exact hp.elim
theorem Took.part{W fp fo fi}(h:Took fr S W a w g (fp++pool))(hp:Part fp fo fi):∃g',Took fr S W a w g' (fo++pool)∧Up g g'∧∀x∈fi,g'.ro x:=by
 have hn:=List.nodup_append.1 h.sim.plnd
 obtain⟨g',p1,p2,p3,p4⟩:=sim_freeze (fz:=fi) (pool':=fo++pool) h.sim (fun x hx=>List.mem_append.2 (.inl ((hp.mem x).2 (.inr hx))))
  (fun x hx=>by rcases List.mem_append.1 hx with hx|hx
                ·exact List.mem_append.2 (.inl ((hp.mem x).2 (.inl hx)))
                ·exact List.mem_append.2 (.inr hx))
  (List.nodup_append.2 ⟨hp.nd,hn.2.1,fun x hx y hy e=>hn.2.2 x ((hp.mem x).2 (.inl hx)) y hy e⟩)
  (fun x hx c=>by rcases List.mem_append.1 c with c|c
                  ·exact hp.dis x hx c
                  ·exact hn.2.2 x ((hp.mem x).2 (.inr hx)) x c rfl)
 exact⟨g',⟨h.tk,p4⟩,⟨fun x hx=>(p1 x).2 (.inl hx),fun b β hb=>by rw[p2];exact hb⟩,fun x hx=>(p1 x).2 (.inr hx)⟩
theorem not_hot_at{l v m ver}(h:S.at l=some (v,m,ver))(hm:m.isOwn=false):¬Hot S l:=by
 rintro(⟨v',d,ver',e⟩|⟨t,cs,ver',rfl,e⟩)
 ·rw[h]at e;cases e;simp[M.isOwn]at hm
 ·simp only[St.at,e]at h;cases h
theorem not_hot_sl{t s ver}(h:S.tmps[t]? =some (s,ver))(h1:∀v m,s≠ .one v m)(h2:∀cs,s≠ .many cs):¬Hot S (.s t):=by
 rintro(⟨v',d,ver',e⟩|⟨t,cs,ver',e0,e⟩)
 ·have:=at_s e;rw[h]at this;cases this;exact h1 _ _ rfl
 ·cases e0;rw[h]at e;cases e;exact h2 _ rfl
theorem nd_pool{W fp}(h:Took fr S W a w g (fp++pool)):fp.Nodup:=(List.nodup_append.1 h.sim.plnd).1
theorem sink_ok{take:Bool}{x:Operand}{k}(hp:PgR C S (sink take x k) rm ws rm'){W}(h:Took fr S W a w g pool):
 ∃w0 v m rm1,PgR C S (k w0 v m) rm1 ws rm'∧(Wr.clash w0 W=false→∃g' fp,Took fr S (W++w0) a w g' (fp++pool)∧Up g g'∧OneR w.heap g' v m (a.eval x) fp):=by
 have one:∀t v m ver,S.tmps[t]? =some (.one v m,ver)→x= .tmp t→m.isOwn=false→∃g' fp,Took fr S (W++[]) a w g' (fp++pool)∧Up g g'∧OneR w.heap g' v m (a.eval x) fp:=fun t v m ver h1 e hm=>by
  have hat:S.at (.s t)=some (v,m,ver):=by simp only[St.at,h1]
  have hg:=h.cold (not_hot_at hat hm)
  have h2:=h.sim.slot (Eq.trans hg h1)
  subst e
  have e:=OneR.fp_nil (m:=m) hm h2
  refine⟨g,[],by simpa using h,Up.refl g,?_⟩
  have h3:OneR w.heap g v m (a.eval (.tmp t)) (g.fp (.s t)):=h2
  rw[e]at h3;exact h3
 unfold sink at hp
 split at hp
 ·rename_i t
  have hp':PgR C S (match (S.sl t).1 with
   | .one v (.own d)=>k [.slot t .undef] v (.own d)
   | .one v m=>k [] v m
   | .many cs=>.chk (!cs.any (·.2.isPt)) (k [.slot t .undef] (.agg (cs.map (·.1))) (meets cs))
   | .ref l ver=>look l ver fun v m c f _=>match m with
     | .own d=>bif take then k [c] v (.own d)else k [f] v .ro
     |m=>k [] v m
   |_=>.fail) _ ws rm':=hp
  rcases sl_case S t with⟨ver,h1,_⟩|⟨_,h2⟩
  ·split at hp'
   ·rename_i v d hx
    rw[hx]at h1
    refine⟨_,_,_,_,hp',fun hc=> ?_⟩
    have hat:S.at (.s t)=some (v,.own d,ver):=by simp only[St.at,h1]
    have hg:=h.away (l:=.s t) hc (List.mem_singleton.2 rfl) rfl
    obtain⟨g',fp,r,k1,k2,k3,k4⟩:=take_at h hat hg
    refine⟨g',fp,k2,k3,?_⟩
    have:a.eval (.tmp t)=r:=by
     have k1:a.tmps[t]? =some r:=k1
     simp only[Act.eval];rw[Array.getD_eq_getD_getElem?,k1];rfl
    rw[this];exact k4
   ·rename_i v m hm hx
    rw[hx]at h1
    refine⟨_,_,_,_,hp',fun hc=>one t v m ver h1 rfl ?_⟩
    cases m<;>first|rfl|exact absurd rfl (hm _)
   ·rename_i cs hx
    rw[hx]at h1
    obtain⟨hpt,hp'⟩:=hp'
    refine⟨_,_,_,_,hp',fun hc=> ?_⟩
    have hg:=h.away (l:=.s t) hc (List.mem_singleton.2 rfl) rfl
    obtain⟨g',fp,rs,k1,k2,k3,k4⟩:=take_many h h1 hg
    have hpt':cs.any (·.2.isPt)=false:=by simpa using hpt
    obtain⟨m1,m2⟩:=meets_ok hpt'
    obtain⟨fo,fi,q1,q2⟩:=CsR.lower m1 m2 (nd_pool k2) k4
    obtain⟨g2,z1,z2,z3⟩:=k2.part q1
    refine⟨g2,fo,z1,k3.trans z2,?_⟩
    rw[k1]
    exact RW.one ⟨rs,rfl,q2 g2.ro z2.ro z3⟩
   ·rename_i l ver' hx
    rw[hx]at h1
    obtain⟨v,m,rm1,hat,hp'⟩:=look_ok hp'
    have hgs:=h.cold (l:=.s t) (not_hot_sl h1 (fun _ _ e=>by cases e) (fun _ e=>by cases e))
    have href:SlR (Wr.apps W S) a.tmps w.heap g (.ref l ver') (a.eval (.tmp t)) _:=h.sim.slot (Eq.trans hgs h1)
    split at hp'
    ·rename_i d
     cases take with
     |true=>
      refine⟨_,_,_,_,hp',fun hc=> ?_⟩
      have hg:=h.away (l:=l) hc (List.mem_singleton.2 rfl) (by cases l<;>rfl)
      obtain⟨e1,_,_⟩:=h.sim.ref href (hg.at.trans hat)
      obtain⟨g',fp,r,k1,k2,k3,k4⟩:=take_at h hat hg
      rw[e1]at k1;cases k1
      exact⟨g',fp,k2,k3,k4⟩
     |false=>
      refine⟨_,_,_,_,hp',fun hc=> ?_⟩
      have hg:=h.away (l:=l) hc (List.mem_singleton.2 rfl) (by cases l<;>rfl)
      obtain⟨e1,_,_⟩:=h.sim.ref href (hg.at.trans hat)
      obtain⟨g',r,k1,k2,k3,k4⟩:=freeze_at h hat hg
      rw[e1]at k1;cases k1
      exact⟨g',[],k2,k3,k4⟩
    ·rename_i m0 hm
     refine⟨_,_,_,_,hp',fun hc=> ?_⟩
     have hm':m.isOwn=false:=by cases m<;>first|rfl|exact absurd rfl (hm _)
     have hg:=h.cold (not_hot_at hat hm')
     obtain⟨e1,e2,_⟩:=h.sim.ref href (hg.at.trans hat)
     refine⟨g,[],by simpa using h,Up.refl g,?_⟩
     have e3:=e2.one
     rw[OneR.fp_nil hm' e3]at e3;exact e3
   ·exact hp'.elim
  ·rw[h2]at hp';exact hp'.elim
 ·rename_i hx
  obtain⟨s,rm1,hp',hr⟩:=evO_c (a:=a) hp (fun t e=>hx t e)
  cases s with
  |one v m=>exact⟨_,_,_,_,hp',fun _=>⟨g,[],by simpa using h,Up.refl g,hr S a.tmps w.heap g⟩⟩
  |many cs=>
   obtain⟨hpt,hp'⟩:=hp'
   refine⟨_,_,_,_,hp',fun _=> ?_⟩
   obtain⟨rs,e,y⟩:=hr S a.tmps w.heap g
   obtain⟨m1,m2⟩:=meets_ok (cs:=cs) (by simpa using hpt)
   obtain⟨fo,fi,q1,q2⟩:=CsR.lower m1 m2 (by simp) y
   have e1:fo=[]:=by cases fo with|nil=>rfl|cons x _=>exact absurd ((q1.mem x).2 (.inl (List.mem_cons_self ..))) (by simp)
   have e2:fi=[]:=by cases fi with|nil=>rfl|cons x _=>exact absurd ((q1.mem x).2 (.inr (List.mem_cons_self ..))) (by simp)
   subst e1;subst e2
   exact⟨g,[],by simpa using h,Up.refl g,by rw[e];exact RW.one ⟨rs,rfl,q2 g.ro (fun _ h=>h) (by simp)⟩⟩
  |_=>exact hp'.elim
end
section
variable {C : FuncId → List V → List V → Prop} {fr : Fr} {S : St} {a : Act} {w : World} {g : Gh} {pool : List Nat} {rm rm' : Nat} {ws : List Wr}
theorem REl.oneCell{h:Hp}{ro:Nat→Prop}{v:V}{r}(hv:v.isCell=true)(x:REl h ro v [r]):r.oneCell'=true:=by
 cases v with
 |bool b=>have e:[r]=[.bool b]:=x;cases e;rfl
 |int k n=>have e:[r]=[.int k n]:=x;cases e;rfl
 |str s=>have e:[r]=[.string s]:=x;cases e;rfl
 |sl z es=>obtain⟨ad,len,cap,e,_⟩:=x;cases e;rfl
 |nilp=>have e:[r]=[.pointer none]:=x;cases e;rfl
 |agg cs=>simp[V.isCell]at hv
 |undef=>simp[V.isCell]at hv
 |fn f c=>simp[V.isCell]at hv
 |ptr b o=>exact x.elim
 |mp es=>obtain⟨_,_,_,e,_⟩:=x;cases e;rfl
theorem RM.oneCell{h:Hp}{ro:Nat→Prop}{m:M}{v:V}{r fp}(hv:v.isCell=true)(x:RM h ro m v [r] fp):r.oneCell'=true:=
 REl.oneCell hv (x.toRO (fun _ _=>trivial) (fun _ _=>trivial)).1
theorem CV.oneCell{h:Hp}{m:M}{v:V}{r fp}(hv:v.isCell=true)(x:CV h g m v r fp):r.oneCell'=true:=by
 cases m with
 |pt=>obtain⟨_,b,off,β,_,_,e⟩:=x;subst e;rfl
 |_=>exact RM.oneCell hv x.2
theorem OneR.cell{h:Hp}{m:M}{v:V}{r fp}(hv:v.isCell=true)(x:OneR h g v m r fp):CV h g m v r fp:=
 x.cv (by cases v<;>first|rfl|simp[V.isCell]at hv) (fun f c e=>by subst e;simp[V.isCell]at hv)
theorem one_plain{h:Hp}{m:M}{v:V}{r fp}(hv:v.isCell=true)(hp:v.plain=true)(x:OneR h g v m r fp):CV h g .pr v r fp:=by
 have c:=x.cell hv
 cases m with
 |pt=>obtain⟨_,b,off,β,e,_⟩:=c;subst e;simp[V.plain]at hp
 |pr=>exact c
 |ro=>exact⟨c.1,hp,c.2.1.plain_any hp,c.2.2⟩
 |own d=>
  have:fp=[]:=by
   have y:=c.2
   cases v<;>first|exact y.2|(simp[V.plain]at hp;done)|(simp[V.isCell]at hv;done)|exact y.elim
  subst this
  exact⟨c.1,hp,(OEl.toRO (ro':=fun _=>True) (fun _ _=>trivial) (by simp) c.2).plain_any hp,rfl⟩
theorem prim_ok{u:UT}{v:V}{m:M}{k:V→M→Pg}(hp:PgR C S (prim u v m k) rm ws rm'):
 ∃v' m' rm1,PgR C S (k v' m') rm1 ws rm'∧v'.isCell=true∧∀{h:Hp} {g r fp},OneR h g v m r fp→CV h g m' v' r fp:=by
 unfold prim at hp
 split at hp
 ·obtain⟨k',n,rfl,hc,hp1⟩:=hp
  have:k'=_:=of_decide_eq_true hc
  subst this
  exact⟨_,_,_,hp1,rfl,fun x=>one_plain rfl rfl x⟩
 ·obtain⟨s,rfl,hp1⟩:=hp
  exact⟨_,_,_,hp1,rfl,fun x=>one_plain rfl rfl x⟩
 ·obtain⟨s,rfl,hp1⟩:=hp
  exact⟨_,_,_,hp1,rfl,fun x=>one_plain rfl rfl x⟩
 ·obtain⟨z,es,rfl,hp1⟩:=hp
  exact⟨_,_,_,hp1,rfl,fun x=>x.cell rfl⟩
 ·obtain⟨hc,hp1⟩:=hp
  exact⟨_,_,_,hp1,hc,fun x=>x.cell hc⟩
theorem normC_ok:∀{us:List UT} {cs:List (V×M)} {k:List (V×M)→Pg} {rm:Nat},PgR C S (normC us cs k) rm ws rm'→us.length=cs.length→
 ∃cs' rm1,PgR C S (k cs') rm1 ws rm'∧cs'.length=cs.length∧(∀c∈cs',c.1.isCell=true)∧∀{h:Hp} {g rs fp},CsR h g cs rs fp→CsR h g cs' rs fp∧∀r∈rs,r.oneCell'=true
 | [],[],k,rm,hp,_=>⟨[],rm,hp,rfl,by simp,fun x=>⟨x,by rw[x.1];simp⟩⟩
 | [],_::_,_,_,_,hl=>by simp at hl
 |_::_,[],_,_,_,hl=>by simp at hl
 |u::us,(v,m)::cs,k,rm,hp,hl=>by
  have hp1:PgR C S (prim u v m fun v m=>normC us cs fun q=>k ((v,m)::q)) rm ws rm':=hp
  obtain⟨v',m',rm2,hp2,hcell,hcv⟩:=prim_ok hp1
  obtain⟨cs',rm3,hp3,y2,y3,y4⟩:=normC_ok hp2 (by simpa using hl)
  refine⟨_,_,hp3,by simp[y2],?_,?_⟩
  ·intro c hc
   rcases List.mem_cons.1 hc with rfl|hc
   ·exact hcell
   ·exact y3 c hc
  ·rintro h g rs fp ⟨r,rs',f,f',e,e',x,y⟩
   have x1:=hcv (CV.one x)
   obtain⟨z1,z2⟩:=y4 y
   refine⟨⟨r,rs',f,f',e,e',x1,z1⟩,fun r0 hr=> ?_⟩
   rw[e]at hr
   rcases List.mem_cons.1 hr with rfl|hr
   ·exact x1.oneCell hcell
   ·exact z2 r0 hr
theorem CsR.len{h:Hp}:∀{cs:List (V×M)} {rs fp},CsR h g cs rs fp→rs.length=cs.length
 | [],_,_,x=>by rw[x.1];rfl
 |(v,m)::q,_,_,⟨r,rs',f,f',e,e',x,y⟩=>by rw[e];simp[CsR.len y]
theorem RCs.csR{h:Hp}{m:M}(hm:m= .ro):∀{l:List V} {rs},RCs h g.ro l rs→CsR h g (l.map fun v=>(v,m)) rs []
 | [],_,x=>⟨x,rfl⟩
 |v::l,_,⟨r,q,e,ha,x,y⟩=>⟨r,q,[],[],e,rfl,by subst hm;exact⟨ha,x,rfl⟩,RCs.csR hm y⟩
theorem RCs.csP{h:Hp}:∀{l:List V} {rs},V.plains l=true→RCs h (fun _=>False) l rs→CsR h g (l.map fun v=>(v,.pr)) rs []
 | [],_,_,x=>⟨x,rfl⟩
 |v::l,_,hp,⟨r,q,e,ha,x,y⟩=>by
  simp only[V.plains,Bool.and_eq_true]at hp
  exact⟨r,q,[],[],e,rfl,⟨ha,hp.1,x,rfl⟩,RCs.csP hp.2 y⟩
theorem OCs.csR{h:Hp}{d:Bool}:∀{l:List V} {rs fp},OCs h g.ro d l rs fp→CsR h g (l.map fun v=>(v,.own d)) rs fp
 | [],_,_,x=>x
 |v::l,_,_,⟨r,q,f,f',e,e',ha,x,y⟩=>⟨r,q,f,f',e,e',⟨ha,x⟩,OCs.csR y⟩
theorem OneR.csR{h:Hp}{m:M}{l:List V}{r fp}(x:OneR h g (.agg l) m r fp):∃rs,r= .agg rs∧CsR h g (l.map fun v=>(v,m)) rs.toList fp:=by
 cases m with
 |pt=>obtain⟨_,h|h⟩:=x
      ·obtain⟨b,o,β,e,_⟩:=h;cases e
      ·obtain⟨f,_,_,e,_⟩:=h;cases e
 |pr=>
  obtain⟨rs,e,x1,x2,x3⟩:=(show RW h g.ro .pr (.agg l) r fp from x)
  subst x3;exact⟨rs,e,RCs.csP x1 x2⟩
 |ro=>
  obtain⟨rs,e,x1,x3⟩:=(show RW h g.ro .ro (.agg l) r fp from x)
  subst x3;exact⟨rs,e,RCs.csR rfl x1⟩
 |own d=>
  obtain⟨rs,e,x1⟩:=(show RW h g.ro (.own d) (.agg l) r fp from x)
  exact⟨rs,e,OCs.csR x1⟩
theorem cells_one{r:Value}(h:r.oneCell'=true):r.cells= #[r]:=by cases r<;>first|rfl|simp[Value.oneCell']at h
theorem sinkC_ok{take:Bool}{d:TyD}{x:Operand}{k}(hp:PgR C S (sinkC take d x k) rm ws rm'){W}(h:Took fr S W a w g pool):
 ∃w0 cs rm1,PgR C S (k w0 cs) rm1 ws rm'∧cs.length=(if d.agg then d.size else 1)∧(∀c∈cs,c.1.isCell=true)∧
  (Wr.clash w0 W=false→∃g' fp,Took fr S (W++w0) a w g' (fp++pool)∧Up g g'∧CsR w.heap g' cs (a.eval x).cells.toList fp∧(∀r∈(a.eval x).cells,r.oneCell'=true)):=by
 unfold sinkC at hp
 cases hd:d.agg with
 |false=>
  rw[hd]at hp
  have hp':PgR C S (match nilZ x d with
   |some z=>k [] [(.sl z [],.own true)]
   |none=>sink (take||d.deep) x fun ws v m=>prim d.under v m fun v m=>k ws [(v,m)]) rm ws rm':=hp
  cases hz:nilZ x d with
  |some z=>
   rw[hz]at hp'
   have hx:x= .const (.slice none 0 0):=by
    unfold nilZ at hz
    split at hz
    ·rfl
    ·cases hz
   subst hx
   have e:(a.eval (.const (.slice none 0 0))).cells.toList=[.slice none 0 0]:=rfl
   refine⟨[],_,rm,hp',by simp,by intro c hc;simp at hc;subst hc;rfl,fun _=>⟨g,[],by simpa using h,Up.refl g,?_,?_⟩⟩
   ·rw[e]
    exact⟨_,[],[],[],rfl,rfl,⟨rfl,none,0,0,rfl,rfl,by decide,rfl,rfl⟩,rfl,rfl⟩
   ·intro r hr
    have:r∈[Value.slice none 0 0]:=by rw[←e];simpa using hr
    simp at this;subst this;rfl
  |none=>
  rw[hz]at hp'
  obtain⟨w0,v,m,rm1,hp1,H⟩:=sink_ok hp' h
  obtain⟨v',m',rm2,hp2,hcell,hcv⟩:=prim_ok hp1
  refine⟨w0,[(v',m')],rm2,hp2,by simp,by simpa using hcell,fun hc=> ?_⟩
  obtain⟨g',fp,k1,k2,k3⟩:=H hc
  have c:=hcv k3
  have hone:=c.oneCell hcell
  refine⟨g',fp,k1,k2,?_,?_⟩
  ·rw[cells_one hone];exact⟨_,[],fp,[],rfl,by simp,c,rfl,rfl⟩
  ·rw[cells_one hone];simpa using hone
 |true=>
  rw[hd]at hp
  simp only[cond_true]at hp
  have fin:∀{w0:List Wr} {cs:List (V×M)} {rm1:Nat},PgR C S (normC d.leafs cs fun cs=>k w0 cs) rm1 ws rm'→(cs.length==d.size&&d.leafs.length==d.size)=true→
   (Wr.clash w0 W=false→∃g' fp rs,a.eval x= .agg rs∧Took fr S (W++w0) a w g' (fp++pool)∧Up g g'∧CsR w.heap g' cs rs.toList fp)→
   ∃w0 cs rm1,PgR C S (k w0 cs) rm1 ws rm'∧cs.length=(if true then d.size else 1)∧(∀c∈cs,c.1.isCell=true)∧
    (Wr.clash w0 W=false→∃g' fp,Took fr S (W++w0) a w g' (fp++pool)∧Up g g'∧CsR w.heap g' cs (a.eval x).cells.toList fp∧(∀r∈(a.eval x).cells,r.oneCell'=true)):=fun{w0 cs rm1} hp hl H=>by
   simp only[Bool.and_eq_true,beq_iff_eq]at hl
   obtain⟨cs',rm2,hp2,l1,l2,l3⟩:=normC_ok hp (by rw[hl.1,hl.2])
   refine⟨w0,cs',rm2,hp2,by simp[l1,hl.1],l2,fun hc=> ?_⟩
   obtain⟨g',fp,rs,e,k1,k2,k3⟩:=H hc
   obtain⟨z1,z2⟩:=l3 k3
   refine⟨g',fp,k1,k2,by rw[e];exact z1,fun r hr=>z2 r ?_⟩
   rw[e]at hr;simpa [Value.cells]using hr
  split at hp
  ·rename_i t
   have hp':PgR C S (match (S.sl t).1 with
    | .many cs=>.chk (cs.length==d.size&&d.leafs.length==d.size) (normC d.leafs cs fun cs=>k [.slot t .undef] cs)
    | .one v m=>.cells d.size v fun l=>.chk (d.leafs.length==d.size) (normC d.leafs (l.map fun v=>(v,m)) fun cs=>k (bif m.isOwn then[.slot t .undef]else[]) cs)
    |_=>.fail) _ ws rm':=hp
   rcases sl_case S t with⟨ver,h1,_⟩|⟨_,h2⟩
   ·split at hp'
    ·rename_i cs hx
     rw[hx]at h1
     obtain⟨hl,hp'⟩:=hp'
     refine fin hp' hl fun hc=> ?_
     have hg:=h.away (l:=.s t) hc (List.mem_singleton.2 rfl) rfl
     obtain⟨g',fp,rs,k1,k2,k3,k4⟩:=take_many h h1 hg
     exact⟨g',fp,rs,k1,k2,k3,k4⟩
    ·rename_i v m hx
     rw[hx]at h1
     obtain⟨l,rfl,hl0,hl,hp'⟩:=hp'
     have hat:S.at (.s t)=some (.agg l,m,ver):=by simp only[St.at,h1]
     refine fin hp' (by simp[hl0];simpa using hl) fun hc=> ?_
     cases hm:m.isOwn with
     |true=>
      obtain⟨dd,rfl⟩:=isOwn_eq hm
      rw[hm]at hc
      have hg:=h.away (l:=.s t) hc (List.mem_singleton.2 rfl) rfl
      obtain⟨g',fp,r,k1,k2,k3,k4⟩:=take_at h hat hg
      have:a.eval (.tmp t)=r:=by
       have k1:a.tmps[t]? =some r:=k1
       simp only[Act.eval];rw[Array.getD_eq_getD_getElem?,k1];rfl
      obtain⟨rs,e,y⟩:=k4.csR
      exact⟨g',fp,rs,this.trans e,k2,k3,y⟩
     |false=>
      have hg:=h.cold (not_hot_at hat hm)
      have h2:OneR w.heap g (.agg l) m (a.eval (.tmp t)) _:=h.sim.slot (Eq.trans hg h1)
      have e:=h2.fp_nil hm
      obtain⟨rs,e2,y⟩:=h2.csR
      rw[e]at y
      exact⟨g,[],rs,e2,by simpa using h,Up.refl g,y⟩
    ·exact hp'.elim
   ·rw[h2]at hp';exact hp'.elim
  ·rename_i hx
   obtain⟨s,rm1,hp',hr⟩:=evO_c (a:=a) hp (fun t e=>hx t e)
   cases s with
   |many cs=>
    obtain⟨hl,hp'⟩:=hp'
    refine fin hp' hl fun hc=> ?_
    obtain⟨rs,e,y⟩:=hr S a.tmps w.heap g
    exact⟨g,[],rs,e,by simpa using h,Up.refl g,y⟩
   |_=>exact hp'.elim
theorem Sim.drop(hs:Sim fr S a w g pool):SimX fr S a w:=by
 obtain⟨g',_,_,_,h⟩:=sim_freeze (fz:=[]) (pool':=[]) hs (by simp) (by simp) (by simp) (by simp)
 exact⟨g',h⟩
theorem frz_cells{cs:List (V×M)}:(cs.map frzP).length=cs.length∧((∀c∈cs,c.1.isCell=true)→∀c∈cs.map frzP,c.1.isCell=true):=by
 refine⟨by simp,fun h c hc=> ?_⟩
 obtain⟨c0,h0,rfl⟩:=List.mem_map.1 hc
 have:=h c0 h0
 unfold frzP;split<;>exact this
theorem CV.frz{h:Hp}{g g2:Gh}(hr:∀x,g.ro x→g2.ro x)(hb:∀b β,g.bb b=some β→g2.bb b=some β){m:M}{v:V}{r:Value}{f:List Nat}(hf:∀x∈f,g2.ro x)(x:CV h g m v r f):CV h g2 (frzP (v,m)).2 v r []∧(frzP (v,m)).1=v:=by
 cases m with
 |own d=>exact⟨⟨x.1,RM.toRO hr hf x.2⟩,rfl⟩
 |pr=>exact⟨⟨x.1,x.2.1,x.2.2.1,rfl⟩,rfl⟩
 |ro=>exact⟨⟨x.1,(x.2.1).mono hr (fun _ _=>rfl),rfl⟩,rfl⟩
 |pt=>obtain⟨_,b,off,β,e1,e2,e3⟩:=x;exact⟨⟨rfl,b,off,β,e1,hb _ _ e2,e3⟩,rfl⟩
theorem CsR.frz{h:Hp}{g g2:Gh}(hr:∀x,g.ro x→g2.ro x)(hb:∀b β,g.bb b=some β→g2.bb b=some β):∀{cs:List (V×M)} {rs:List Value} {fp:List Nat},(∀x∈fp,g2.ro x)→CsR h g cs rs fp→CsR h g2 (cs.map frzP) rs []
 | [],_,_,_,x=>⟨x.1,rfl⟩
 |(v,m)::q,_,_,hf,⟨r,rs',f,f',e,e',x,y⟩=>by
  subst e'
  obtain⟨k1,k2⟩:=CV.frz hr hb (fun z hz=>hf z (by simp[hz])) x
  refine⟨r,rs',[],[],e,rfl,?_,CsR.frz hr hb (fun z hz=>hf z (by simp[hz])) y⟩
  show CV h g2 (frzP (v,m)).2 (frzP (v,m)).1 r []
  rw[k2];exact k1
theorem sinkF_ok{fz take:Bool}{d:TyD}{x:Operand}{k}(hp:PgR C S (sinkF fz take d x k) rm ws rm'){W}(h:Took fr S W a w g pool):
 ∃w0 cs rm1,PgR C S (k w0 cs) rm1 ws rm'∧cs.length=(if d.agg then d.size else 1)∧(∀c∈cs,c.1.isCell=true)∧
  (Wr.clash w0 W=false→∃g' fp,Took fr S (W++w0) a w g' (fp++pool)∧Up g g'∧CsR w.heap g' cs (a.eval x).cells.toList fp∧(∀r∈(a.eval x).cells,r.oneCell'=true)):=by
 unfold sinkF at hp
 obtain⟨w0,cs,rm1,hp1,l1,l2,H⟩:=sinkC_ok hp h
 cases fz with
 |false=>exact⟨w0,cs,rm1,hp1,l1,l2,H⟩
 |true=>
  refine⟨w0,cs.map frzP,rm1,hp1,by rw[frz_cells.1];exact l1,frz_cells.2 l2,fun hc=> ?_⟩
  obtain⟨g',fp,k1,k2,k3,k4⟩:=H hc
  obtain⟨g2,z1,z2,z3⟩:=k1.part (Part.all fp)
  exact⟨g2,[],z1,k2.trans z2,CsR.frz z2.ro z2.bb z3 k3,k4⟩
theorem sim_dst(hs:Sim fr S a w g pool){dst:Option Tmp}{s:Sl}{r:Value}{fp:List Nat}(hr:SlR S a.tmps w.heap g s r fp)(hfp:∀x∈fp,x∈pool)(hn:fp.Nodup):
 SimX fr (Wr.apps (wDst dst s) S) (a.put dst r) w:=by
 cases dst with
 |none=>exact hs.drop
 |some t=>
  by_cases ht:t<S.tmps.length
  ·have hsl:SlR S a.tmps w.heap {g with ro:=fun x=>g.ro x∨x∈[]} s r fp:=by
    have:({g with ro:=fun x=>g.ro x∨x∈[]}:Gh)=g:=by simp
    rw[this];exact hr
   obtain⟨g',_,_,_,_,h⟩:=sim_set (w':=w) (s:=s) (r:=r) (nv:=(S.sl t).2+1) (fp:=fp) (fz:=[]) (pool':=[]) hs ht (Same.refl w) (Nat.le_refl _) (fun _ _ _ _=>rfl) (Nat.le_succ _) (fun he=>by omega)
    (fun x hx=>.inl (hfp x hx)) hn (by simp) (by simp) (by simp) (by simp) (by simp) hsl
   exact⟨g',h⟩
  ·have e1:Wr.apps (wDst (some t) s) S=S:=by
    simp only[wDst,Wr.apps,Wr.app]
    rw[List.set_eq_of_length_le (Nat.not_lt.1 ht)]
   have e2:a.put (some t) r=a:=by
    obtain⟨tm,df⟩:=a
    have:¬t<tm.size:=fun c=>ht (by rw[←hs.size];exact c)
    simp only[Act.put]
    congr 1
    rw[Array.setIfInBounds];simp[this]
   rw[e1,e2];exact hs.drop
end
def lfEq:UT→Value→Value→Option Bool
 | .int k,.int k1 a,.int k2 b=>bif decide (k1=k)&&decide (k2=k)then some (a==b)else none
 | .bool,.bool a,.bool b=>some (a==b)
 | .string,.string a,.string b=>some (a.toList==b.toList)
 |_,_,_=>none
def lfsEq:List UT→List Value→List Value→Option Bool
 | [],[],[]=>some true
 |u::us,a::as,b::bs=>(lfEq u a b).bind fun r=>(lfsEq us as bs).bind fun q=>some (r&&q)
 |_,_,_=>none
theorem lfs_cons{u:UT}{us:List UT}{as bs:List Value}{b:Bool}(h:lfsEq (u::us) as bs=some b):∃x y as' bs' r q,as=x::as'∧bs=y::bs'∧lfEq u x y=some r∧lfsEq us as' bs'=some q∧b=(r&&q):=by
 cases as with
 |nil=>cases bs<;>cases h
 |cons x as=>cases bs with
  |nil=>cases h
  |cons y bs=>
   simp only[lfsEq,Option.bind_eq_some_iff,Option.some.injEq]at h
   obtain⟨r,h1,q,h2,h3⟩:=h
   exact⟨x,y,as,bs,r,q,rfl,rfl,h1,h2,h3.symm⟩
theorem lfs_nil{as bs:List Value}{b:Bool}(h:lfsEq [] as bs=some b):as=[]∧bs=[]∧b=true:=by
 cases as<;>cases bs<;>first|(cases h;done)|skip
 simp only[lfsEq,Option.some.injEq]at h
 exact⟨rfl,rfl,h.symm⟩
theorem lfs_app:∀{l1 l2:List UT} {as bs:List Value} {b:Bool},lfsEq (l1++l2) as bs=some b→
 ∃b1 b2,lfsEq l1 (as.take l1.length) (bs.take l1.length)=some b1∧lfsEq l2 (as.drop l1.length) (bs.drop l1.length)=some b2∧b=(b1&&b2)
 | [],l2,as,bs,b,h=>⟨true,b,by simp[lfsEq],by simpa using h,by simp⟩
 |u::l1,l2,as,bs,b,h=>by
  obtain⟨x,y,as',bs',r,q,rfl,rfl,h1,h2,h3⟩:=lfs_cons (us:=l1++l2) h
  obtain⟨b1,b2,k1,k2,k3⟩:=lfs_app h2
  exact⟨r&&b1,b2,by simp[lfsEq,h1,k1],by simpa using k2,by rw[h3,k3,Bool.and_assoc]⟩
def layFs(F:TypeId→Option (List UT))(c:TypeId→Nat):List Field→Nat→Option (List UT)
 | [],_=>some []
 |f::fs,off=>bif(f.name != "_")&&Nat.beq f.offset off then(match F f.type with
   |some l=>bif Nat.beq (c f.type) l.length then(match layFs F c fs (off+l.length)with|some q=>some (l++q)|none=>none)else none
   |none=>none)else none
def repU(l:List UT):Nat→List UT
 |0=>[]
 |n+1=>l++repU l n
def eqLay(P:Program):Nat→TypeId→Option (List UT)
 |0,_=>none
 |n+1,t=>match P.underlying t with
  |some .bool=>some [.bool]
  |some (.int k)=>some [.int k]
  |some .string=>some [.string]
  |some (.struct fs)=>bif P.stoodInHeld t then none else layFs (eqLay P n) P.cellsOf fs.toList 0
  |some (.array m e)=>(match eqLay P n e with|some l=>bif Nat.beq (P.cellsOf e) l.length&&(P.info? e).isSome then some (repU l m)else none|none=>none)
  |_=>none
def aggT(P:Program)(t:TypeId):Bool:=match P.underlying t with|some (.struct _)=>true|some (.array _ _)=>true|_=>false
section
variable {P : Program} {w : World}
def EqT(P:Program)(w:World)(n:Nat)(t:TypeId)(ls:List UT):Prop:=∀(as bs:List Value) (b:Bool),lfsEq ls as bs=some b→∀d,n≤d→
 if aggT P t then(Op.equalIn d t (.agg as.toArray) (.agg bs.toArray)).run P w= .ok b w else∃x y,as=[x]∧bs=[y]∧(Op.equalIn d t x y).run P w= .ok b w
theorem take_mid{xs:List Value}{off n:Nat}:(xs.toArray.extract off (off+n))=((xs.drop off).take n).toArray:=by
 rw[List.extract_toArray,List.extract_eq_take_drop,Nat.add_sub_cancel_left]
theorem part_at{t:TypeId}{ls:List UT}{u:TypeDesc}(hu:P.underlying t=some u)(hc:P.cellsOf t=ls.length){xs:List Value}{off:Nat}:
 (aggT P t=true→(part t xs.toArray off).run P w= .ok (.agg ((xs.drop off).take ls.length).toArray) w)∧
 (aggT P t=false→∀x,(xs.drop off).take ls.length=[x]→(part t xs.toArray off).run P w= .ok x w):=by
 obtain⟨i,hi⟩:=info_of_underlying hu
 constructor
 ·intro ha
  have hag:(isAgg t).run P w= .ok true w:=by
   simp only[isAgg,Sem.run_bind,run_underlying hu,Result.andThen_ok]
   unfold aggT at ha
   rw[hu]at ha
   cases u<;>first|(cases ha;done)|rfl
  simp only[part,Sem.run_bind,hag,Result.andThen_ok,if_true,run_sizeOf w hi,Sem.run_pure,hc,take_mid]
 ·intro ha x hx
  have hag:(isAgg t).run P w= .ok false w:=by
   simp only[isAgg,Sem.run_bind,run_underlying hu,Result.andThen_ok]
   unfold aggT at ha
   rw[hu]at ha
   cases u<;>first|(cases ha;done)|rfl
  have hx2:xs[off]? =some x:=by
   have h1:=congrArg (·[0]?) hx
   simp only[List.getElem?_cons_zero]at h1
   rw[List.getElem?_take]at h1
   split at h1
   ·simpa using h1
   ·cases h1
  simp only[part,Sem.run_bind,hag,Result.andThen_ok,Bool.false_eq_true,if_false]
  simp[hx2]
theorem eq_step{n d:Nat}{t:TypeId}{ls:List UT}{u:TypeDesc}(hu:P.underlying t=some u)(hc:P.cellsOf t=ls.length)(hE:EqT P w n t ls)(hd:n≤d){xs ys:List Value}{off:Nat}{b:Bool}
 (h:lfsEq ls ((xs.drop off).take ls.length) ((ys.drop off).take ls.length)=some b):
 ∃x y,(part t xs.toArray off).run P w= .ok x w∧(part t ys.toArray off).run P w= .ok y w∧(Op.equalIn d t x y).run P w= .ok b w:=by
 have h':=hE _ _ _ h d hd
 by_cases ha:aggT P t=true
 ·rw[if_pos ha]at h'
  exact⟨_,_,(part_at hu hc).1 ha,(part_at hu hc).1 ha,h'⟩
 ·rw[if_neg ha]at h'
  obtain⟨x,y,e1,e2,h'⟩:=h'
  have ha:aggT P t=false:=by simpa using ha
  exact⟨x,y,(part_at hu hc).2 ha x e1,(part_at hu hc).2 ha y e2,h'⟩
theorem lay_under{n:Nat}{t:TypeId}{ls:List UT}(h:eqLay P n t=some ls):∃u,P.underlying t=some u:=by
 cases n with
 |zero=>cases h
 |succ n=>
  unfold eqLay at h
  split at h<;>first|(rename_i hu;exact⟨_,hu⟩)|(rename_i fs hu;exact⟨_,hu⟩)|(cases h;done)
theorem fields_eq{n d:Nat}(hd:n≤d)(hE:∀t ls,eqLay P n t=some ls→EqT P w n t ls){xs ys:List Value}:∀{fs:List Field} {off:Nat} {ls:List UT} {b:Bool},layFs (eqLay P n) P.cellsOf fs off=some ls→
 lfsEq ls (xs.drop off) (ys.drop off)=some b→(Op.eqFields d xs.toArray ys.toArray fs).run P w= .ok b w
 | [],off,ls,b,h,hb=>by
   simp only[layFs,Option.some.injEq]at h
   subst h
   obtain⟨_,_,rfl⟩:=lfs_nil hb
   rfl
 |f::fs,off,ls,b,h,hb=>by
  unfold layFs at h
  cases hc:(f.name != "_")&&Nat.beq f.offset off with
  |false=>rw[hc]at h;cases h
  |true=>
  rw[hc]at h
  simp only[Bool.and_eq_true]at hc
  have ho:f.offset=off:=Nat.eq_of_beq_eq_true hc.2
  have hn:f.name≠ "_" :=by simpa using hc.1
  dsimp only[cond_true]at h
  cases hl:eqLay P n f.type with
  |none=>rw[hl]at h;cases h
  |some l=>
  rw[hl]at h
  dsimp only at h
  cases hz:Nat.beq (P.cellsOf f.type) l.length with
  |false=>rw[hz]at h;cases h
  |true=>
  rw[hz]at h
  dsimp only[cond_true]at h
  cases hq:layFs (eqLay P n) P.cellsOf fs (off+l.length)with
  |none=>rw[hq]at h;cases h
  |some q=>
  rw[hq]at h
  simp only[Option.some.injEq]at h
  subst h
  obtain⟨b1,b2,k1,k2,k3⟩:=lfs_app hb
  obtain⟨u,hu⟩:=lay_under hl
  obtain⟨x,y,p1,p2,p3⟩:=eq_step (P:=P) hu (Nat.eq_of_beq_eq_true hz) (hE _ _ hl) hd k1
  have rest:=fields_eq hd hE hq (by rw[List.drop_drop]at k2;rw[List.drop_drop]at k2;exact k2)
  simp only[Op.eqFields,hn,ne_eq,not_false_eq_true,if_true,Sem.run_bind,ho,p1,p2,p3,Result.andThen_ok]
  subst k3
  cases b1 with
  |true=>simpa using rest
  |false=>simp
theorem items_eq{n d:Nat}(hd:n≤d){e:TypeId}{l:List UT}{u:TypeDesc}(hu:P.underlying e=some u)(hc:P.cellsOf e=l.length)(hE:EqT P w n e l){xs ys:List Value}:∀{m i:Nat} {b:Bool},
 lfsEq (repU l m) (xs.drop (i*l.length)) (ys.drop (i*l.length))=some b→(Op.eqItems d e (P.cellsOf e) xs.toArray ys.toArray (List.range' i m)).run P w= .ok b w
 |0,i,b,hb=>by
  obtain⟨_,_,rfl⟩:=lfs_nil hb
  rfl
 |m+1,i,b,hb=>by
  obtain⟨b1,b2,k1,k2,k3⟩:=lfs_app (l1:=l) (l2:=repU l m) hb
  obtain⟨x,y,p1,p2,p3⟩:=eq_step (P:=P) hu hc hE hd k1
  have rest:=items_eq hd hu hc hE (m:=m) (i:=i+1) (b:=b2) (by
   rw[List.drop_drop,List.drop_drop]at k2
   rw[Nat.add_mul,Nat.one_mul];exact k2)
  rw[List.range'_succ]
  rw[←hc]at p1 p2
  simp only[Op.eqItems,Sem.run_bind,p1,p2,p3,Result.andThen_ok]
  subst k3
  cases b1 with
  |true=>simpa using rest
  |false=>simp
theorem one_leaf{u:UT}{as bs:List Value}{b:Bool}(h:lfsEq [u] as bs=some b):∃x y,as=[x]∧bs=[y]∧lfEq u x y=some b:=by
 obtain⟨x,y,as',bs',r,q,rfl,rfl,h1,h2,h3⟩:=lfs_cons h
 obtain⟨rfl,rfl,rfl⟩:=lfs_nil h2
 exact⟨x,y,rfl,rfl,by rw[h3,Bool.and_true];exact h1⟩
theorem lay_eq:∀(n:Nat) (t:TypeId) (ls:List UT),eqLay P n t=some ls→EqT P w n t ls
 |0,_,_,h=>by cases h
 |n+1,t,ls,h=>by
  intro as bs b hb d hd
  obtain⟨d,rfl⟩:∃d',d=d'+1:=⟨d-1,by omega⟩
  unfold eqLay at h
  split at h
  ·rename_i hu
   simp only[Option.some.injEq]at h
   subst h
   rw[if_neg (by unfold aggT;rw[hu];simp)]
   obtain⟨x,y,rfl,rfl,h1⟩:=one_leaf hb
   refine⟨x,y,rfl,rfl,?_⟩
   unfold lfEq at h1
   split at h1<;>first|(cases h1;done)|skip
   ·rename_i e1;cases e1
   ·simp only[Option.some.injEq]at h1;subst h1;exact run_equalIn_bool' w d t _ _ hu
   ·rename_i e1;cases e1
  ·rename_i kk hu
   simp only[Option.some.injEq]at h
   subst h
   rw[if_neg (by unfold aggT;rw[hu];simp)]
   obtain⟨x,y,rfl,rfl,h1⟩:=one_leaf hb
   refine⟨x,y,rfl,rfl,?_⟩
   unfold lfEq at h1
   split at h1<;>first|(cases h1;done)|skip
   ·rename_i k0 k1 a k2 b0 e1
    cases e1
    cases hk:decide (k1=kk)&&decide (k2=kk)with
    |false=>rw[hk]at h1;cases h1
    |true=>
     rw[hk]at h1
     simp only[Bool.and_eq_true,decide_eq_true_eq]at hk
     obtain⟨rfl,rfl⟩:=hk
     simp only[cond_true,Option.some.injEq]at h1
     subst h1
     exact run_equalIn_int w d t _ _ _ _ hu
   ·rename_i e1;cases e1
   ·rename_i e1;cases e1
  ·rename_i hu
   simp only[Option.some.injEq]at h
   subst h
   rw[if_neg (by unfold aggT;rw[hu];simp)]
   obtain⟨x,y,rfl,rfl,h1⟩:=one_leaf hb
   refine⟨x,y,rfl,rfl,?_⟩
   unfold lfEq at h1
   split at h1<;>first|(cases h1;done)|skip
   ·rename_i e1;cases e1
   ·rename_i e1;cases e1
   ·simp only[Option.some.injEq]at h1;subst h1;exact run_equalIn_string w d t _ _ hu
  ·rename_i fs hu
   cases hs:P.stoodInHeld t with
   |true=>rw[hs]at h;cases h
   |false=>
   rw[hs]at h
   dsimp only[cond_false]at h
   rw[if_pos (by unfold aggT;rw[hu])]
   have hF:P.fieldsOf t=fs:=by simp[Program.fieldsOf,hu]
   rw[run_equalIn_agg w d t _ _ (by rw[hF];exact hu) hs,hF]
   exact fields_eq (by omega) (fun t ls h=>lay_eq n t ls h) h (by simpa using hb)
  ·rename_i m e hu
   cases hl:eqLay P n e with
   |none=>rw[hl]at h;cases h
   |some l=>
   rw[hl]at h
   dsimp only at h
   cases hc:Nat.beq (P.cellsOf e) l.length&&(P.info? e).isSome with
   |false=>rw[hc]at h;cases h
   |true=>
   rw[hc]at h
   simp only[Bool.and_eq_true]at hc
   simp only[cond_true,Option.some.injEq]at h
   subst h
   rw[if_pos (by unfold aggT;rw[hu])]
   obtain⟨i,hi⟩:=Option.isSome_iff_exists.1 hc.2
   obtain⟨u,hue⟩:=lay_under hl
   rw[run_equalIn_array w d _ _ hu hi,List.range_eq_range']
   exact items_eq (by omega) hue (Nat.eq_of_beq_eq_true hc.1) (lay_eq n e l hl) (m:=m) (i:=0) (by simpa using hb)
  ·cases h
end
structure TyOK (P:Program) (t:TypeId) (d:TyD):Prop where
 under:∃u,P.underlying t=some u∧utOf u=d.under
 info:∃i z,P.info? t=some i∧i.size=d.size∧i.bytes=d.bytes∧i.zero=some z∧z.cells.size=d.size∧d.zv.length=d.size∧(∀r∈z.cells,r.oneCell'=true)∧d.zv.all (·.2.solid)=true∧∀h g,CsR h g d.zv z.cells.toList []
 one:d.agg=false→d.size=1
 fld:∀fs:Array Field,P.underlying t=some (.struct fs)→∀f∈fs,(P.info? f.type).isSome=true
 bz:P.underlying t=some .bool→∀w,(zeroValue t).run P w= .ok (.bool false) w
 cmp:d.cmp=true→eqLay P 200 t=some d.leafs∧aggT P t=true∧P.eqGuardType P.depth t=false
def EnvOK(P:Program)(E:Env):Prop:=∀t d,E.ty t=some d→TyOK P t d
theorem ut_int{u:TypeDesc}{k}(h:utOf u= .int k):u= .int k:=by cases u<;>simp[utOf]at h;rw[h]
theorem ut_bool{u:TypeDesc}(h:utOf u= .bool):u= .bool:=by cases u<;>simp[utOf]at h;rfl
theorem ut_string{u:TypeDesc}(h:utOf u= .string):u= .string:=by cases u<;>simp[utOf]at h;rfl
theorem ut_slice{u:TypeDesc}{e}(h:utOf u= .slice e):u= .slice e:=by cases u<;>simp[utOf]at h;rw[h]
theorem ut_map{u:TypeDesc}{k e}(h:utOf u= .map k e):u= .map k e:=by cases u<;>simp[utOf]at h;rw[h.1,h.2]
theorem ut_array{u:TypeDesc}{n e}(h:utOf u= .array n e):u= .array n e:=by cases u<;>simp[utOf]at h;rw[h.1,h.2]
theorem ut_struct{u:TypeDesc}{fs}(h:utOf u= .struct fs):∃f,u= .struct f∧fs=f.toList.map fun f=>(f.offset,f.type):=by cases u<;>simp[utOf]at h;exact⟨_,rfl,h.symm⟩
section
variable {P : Program} {C : FuncId → List V → List V → Prop} {E : Env} {fr : Fr} {S : St} {a : Act} {w w' : World} {g : Gh} {pool : List Nat} {rm rm' : Nat} {ws : List Wr}
variable {o : Oper} {K : Act → World → Prop} {Q : Exit → Act → World → Prop}
theorem wp_val{r:Value}(hrun:(execOp a.eval o).run P w= .ok (.value r) w')(h:SimX fr (Wr.apps ws S) (a.put o.dst r) w')(hK:∀a' w',SimX fr (Wr.apps ws S) a' w'→K a' w'):o.wp P a w K Q:=by
 unfold Oper.wp;rw[hrun];exact hK _ _ h
theorem wp_skip(hrun:(execOp a.eval o).run P w= .ok .skip w')(h:SimX fr (Wr.apps ws S) (a.put o.dst undef) w')(hK:∀a' w',SimX fr (Wr.apps ws S) a' w'→K a' w'):o.wp P a w K Q:=by
 unfold Oper.wp;rw[hrun];exact hK _ _ h
theorem Took.nil(hs:Sim fr S a w g pool):Took fr S [] a w g pool:=⟨by simp,hs⟩
theorem clash_nil{w0:List Wr}:Wr.clash w0 []=false:=by simp[Wr.clash]
theorem done_val(hs:Sim fr S a w g pool){v:V}{m:M}{r:Value}(hr:OneR w.heap g v m r []):SimX fr (Wr.apps ([]++wDst o.dst (.one v m)) S) (a.put o.dst r) w:=by
 simpa using sim_dst hs (s:=.one v m) (dst:=o.dst) hr (by simp) (by simp)
theorem done_sl(hs:Sim fr S a w g pool){s:Sl}{r:Value}(hr:SlR S a.tmps w.heap g s r []):SimX fr (Wr.apps ([]++wDst o.dst s) S) (a.put o.dst r) w:=by
 simpa using sim_dst hs (s:=s) (dst:=o.dst) hr (by simp) (by simp)
theorem rv_int{h:Hp}{k n r}(x:RV h (.int k n) r):r= .int k n:=by have y:[r]=[.int k n]:=x.1;cases y;rfl
theorem rv_bool{h:Hp}{b r}(x:RV h (.bool b) r):r= .bool b:=by have y:[r]=[.bool b]:=x.1;cases y;rfl
theorem rv_str{h:Hp}{s r}(x:RV h (.str s) r):r= .string s:=by have y:[r]=[.string s]:=x.1;cases y;rfl
theorem rv_sl{h:Hp}{z es r}(x:RV h (.sl z es) r):∃ad cap,r= .slice ad es.length cap∧es.length≤cap∧(match ad with
 |none=>cap=0
 |some ad=>0<es.length→ad.spot=none∧∃c ty fr,h[ad.block]? =some (.cells c ty fr)∧REs h (fun _=>True) es c ad.off z):=by
 obtain⟨ad,len,cap,e,hl,hc,y⟩:=x.1
 cases e;subst hl
 refine⟨ad,cap,rfl,hc,?_⟩
 cases ad with
 |none=>exact y
 |some ad=>exact fun hp=>⟨(y hp).1,(y hp).2.2⟩
theorem rv_mp{h:Hp}{es r}(x:RV h (.mp es) r):∃b l cl,r= .map (some b)∧h[b]? =some (.map l cl)∧EntR es l:=by
 obtain⟨b,l,cl,e,_,h1,h2⟩:=x.1
 cases e;exact⟨b,l,cl,rfl,h1,h2⟩
theorem rv_agg{h:Hp}{l r}(x:RV h (.agg l) r):∃rs,r= .agg rs∧RCs h (fun _=>True) l rs.toList:=by
 obtain⟨rs,e,y⟩:=x;exact⟨rs,e,y.1⟩
theorem one_int{h:Hp}{k n}:OneR h g (.int k n) .pr (.int k n) []:=⟨rfl,rfl,rfl⟩
theorem one_bool{h:Hp}{b}:OneR h g (.bool b) .pr (.bool b) []:=⟨rfl,rfl,rfl⟩
theorem one_str{h:Hp}{s}:OneR h g (.str s) .pr (.string s) []:=⟨rfl,rfl,rfl⟩
theorem binI_ok{op:BinOp}{k:IntKind}{x y:Int}{Kp:V→Pg}(hp:PgR C S (binI op k x y Kp) rm ws rm')(t:TypeId)(px py:Operand):
 ∃v r rm1,PgR C S (Kp v) rm1 ws rm'∧(do eqGuard op t px py (.int k x) (.int k y);binOp op t (.int k x) (.int k y):Sem Value).run P w= .ok r w∧∀h g,OneR h g v .pr r []:=by
 have nz:((!(y==0))=true)→¬y=0:=fun h=>by simpa using h
 cases op<;>simp only[binI]at hp<;>first
  |exact hp.elim
  |(refine⟨_,_,_,hp,?_,fun _ _=>one_int⟩;simp[eqGuard_at_int,binOp,Op.intArith,intBits_and,intBits_or,intBits_xor,intBits_andNot];done)
  |exact⟨_,_,_,hp,by simp[eqGuard_at_int,binOp,Op.intCmp],fun _ _=>one_bool⟩
  |exact⟨_,_,_,hp,by simp[eqGuard_at_int,binOp,intBits_and,intBits_or,intBits_xor,intBits_andNot],fun _ _=>one_int⟩
  |(obtain⟨h0,hp⟩:=hp;exact⟨_,_,_,hp,by simp[eqGuard_at_int,binOp,Op.intDiv,nz h0],fun _ _=>one_int⟩)
theorem eqPrim_ok{u:UT}{va vb:V}{Kp:Bool→Pg}(hp:PgR C S (eqPrim u va vb Kp) rm ws rm'){h:Hp}{ra rb:Value}(xa:REl h (fun _=>True) va [ra])(xb:REl h (fun _=>True) vb [rb]):
 ∃b rm1,PgR C S (Kp b) rm1 ws rm'∧lfEq u ra rb=some b:=by
 unfold eqPrim at hp
 split at hp
 ·obtain⟨ka,x,rfl,kb,y,rfl,hk,hp⟩:=hp
  have ea:[ra]=[.int _ x]:=xa
  have eb:[rb]=[.int _ y]:=xb
  cases ea;cases eb
  exact⟨_,_,hp,by show(bif _ then _ else _)=_;rw[hk];rfl⟩
 ·obtain⟨x,rfl,y,rfl,hp⟩:=hp
  have ea:[ra]=[.string x]:=xa
  have eb:[rb]=[.string y]:=xb
  cases ea;cases eb
  exact⟨_,_,hp,rfl⟩
 ·obtain⟨x,rfl,y,rfl,hp⟩:=hp
  have ea:[ra]=[.bool x]:=xa
  have eb:[rb]=[.bool y]:=xb
  cases ea;cases eb
  exact⟨_,_,hp,rfl⟩
 ·exact hp.elim
theorem eqLeafs_ok{h:Hp}:∀{ls:List UT} {as bs:List V} {Kp:Bool→Pg} {rm:Nat} {ra rb:List Value},PgR C S (eqLeafs ls as bs Kp) rm ws rm'→RCs h (fun _=>True) as ra→RCs h (fun _=>True) bs rb→
 ∃b rm1,PgR C S (Kp b) rm1 ws rm'∧lfsEq ls ra rb=some b
 | [],[],[],Kp,rm,ra,rb,hp,ha,hb=>by
   have ha:ra=[]:=ha
   have hb:rb=[]:=hb
   subst ha;subst hb
   exact⟨true,rm,hp,rfl⟩
 | [],a::as,[],_,_,_,_,hp,_,_=>hp.elim
 | [],[],_::_,_,_,_,_,hp,_,_=>hp.elim
 | [],_::_,_::_,_,_,_,_,hp,_,_=>hp.elim
 |d::ds,[],_,_,_,_,_,hp,_,_=>hp.elim
 |d::ds,_::_,[],_,_,_,_,hp,_,_=>hp.elim
 |d::ds,va::as,vb::bs,Kp,rm,ra,rb,hp,ha,hb=>by
  have hp':PgR C S (eqPrim d va vb fun r=>eqLeafs ds as bs fun q=>Kp (r&&q)) rm ws rm':=hp
  obtain⟨x,qa,rfl,_,xa,xa'⟩:=ha
  obtain⟨y,qb,rfl,_,xb,xb'⟩:=hb
  obtain⟨r,rm1,hp1,h1⟩:=eqPrim_ok hp' xa xb
  obtain⟨q,rm2,hp2,h2⟩:=eqLeafs_ok hp1 xa' xb'
  exact⟨r&&q,rm2,hp2,by simp[lfsEq,h1,h2]⟩
end
end Go.VM
