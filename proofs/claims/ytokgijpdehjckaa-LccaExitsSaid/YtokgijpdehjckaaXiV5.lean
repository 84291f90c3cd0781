/- The machine of values, told and shown true: a part. -/
import Derived.Test.YtokgijpdehjckaaXiV3
import Derived.Recover
import Derived.Laws.Cover3
set_option linter.unusedVariables false
set_option linter.unusedSimpArgs false
namespace Go.VM
def splitD(q:Oper→Bool):Code→Option (List Code×Nat×Array Oper×List Code)
 | .seq a b=>match splitD q a with
   |some (xs,r,ops,ys)=>some (xs,r,ops,ys++[b])
   |none=>match splitD q b with
    |some (xs,r,ops,ys)=>some (a::xs,r,ops,ys)
    |none=>none
 | .region id ops false=>match ops.back? with
   |some o=>bif q o then some ([],id,ops,[])else none
   |none=>none
 |_=>none
section
variable {P : Program} {Q : Exit → Act → World → Prop}
end
section
variable {R : Type}
def execL(E:Env)(G:FuncId→List V→(List V→Option R)→Option R)(L:Nat→St→(Ex→St→Option R)→Option R):List Code→St→(Ex→St→Option R)→Option R
 | [],S,K=>K .normal S
 |c::cs,S,K=>exec E G L c S fun e S=>match e with
  | .normal=>execL E G L cs S K
  |e=>K e S
variable {P : Program} {EE : FuncId → Env} {E : Env} {G : FuncId → List V → (List V → Option R) → Option R} {L : Nat → St → (Ex → St → Option R) → Option R}
end
def rec1(c:Array Value)(off:Nat)(n:Int):Array Value:=(c.toList.take off++[Value.int .i64 n]++c.toList.drop (off+1)).toArray
def recW(w:World)(β:Nat)(c:Array Value)(n:Int):World:=(w.setRow β (rec1 c 0 0)).setRow β (rec1 (rec1 c 0 0) 5 n)
structure Catches (P:Program) (gf:FuncId) (T:TypeId):Prop where
 fn:∃fn,P.funcs[gf]? =some fn∧(fn.name== "runtime.NumGoroutine")=false∧fn.body.isNone=false
 pan:∀(β:Nat) (c:Array Value) (ty:TypeId) (w:World) (n:Int),w.heap[β]? =some (.cells c ty (0,0))→c.size=6→CallsD P gf #[.pointer (some ⟨β,0,none⟩)] (.panicking (thrown T n)) w fun e u' w'=>(∃v,e= .returned v)∧u'= .panicking [{v:=.iface T (.int .i64 n),recovered:=true}]∧w'=recW w β c n
 idle:∀(β:Nat) (w:World),CallsD P gf #[.pointer (some ⟨β,0,none⟩)] .returning w fun e u' w'=>(∃v,e= .returned v)∧u'= .returning∧w'=w
def finD{R:Type}(E:Env)(f:Func)(g:Sig)(S:St)(K:List V→Option R):Option R:=match finish E f g S with|some o=>K o|none=>none
section
variable {P : Program} {fr : Fr} {S : St} {a : Act} {w : World} {g : Gh}
end
section
variable {R : Type} {P : Program} {EE : FuncId → Env} {G : FuncId → List V → (List V → Option R) → Option R} {L : Nat → St → (Ex → St → Option R) → Option R}
def isNil(o:Oper):Bool:=match o.guard,o.op,o.dst with
 |none,.binOp .eql _ (.tmp _) (.const (.slice none 0 0)) _,some _=>true
 |_,_,_=>false
def nilX(E:Env)(ops:Array Oper):Option (Tmp×Tmp):=match ops.back? with
 |some o=>match o.guard,o.op,o.dst with
  |none,.binOp .eql T (.tmp x) (.const (.slice none 0 0)) _,some t=>match E.ty T with
   |some d=>(match d.under with| .slice _=>some (x,t)|_=>none)
   |none=>none
  |_,_,_=>none
 |none=>none
def finN(E:Env)(f:Func)(g:Sig)(e:Ex)(S:St):Option (List V):=match e with
 | .normal=>finD E f g S some
 | .ret=>finD E f g S some
 |_=>none
def G0{R:Type}:FuncId→List V→(List V→Option R)→Option R:=fun _ _ _=>none
def L0{R:Type}:Nat→St→(Ex→St→Option R)→Option R:=fun _ _ _=>none
def callN(E:Env)(f:Func)(g:Sig)(vs:List V):Option (List V×Option (List V)):=
 match splitD isNil (bodyOf f)with
 |some (xs,rg,ops,ys)=>execL E G0 L0 xs (initSt g f.ntmps vs) fun e S=>match e with
  | .normal=>runSeq E G0 ops rg (List.range (ops.size-1)) S fun p S=>match p,nilX E ops with
    |none,some (x,t)=>(val1 (.tmp x) fun v=>.asSl v fun z l=>.ret [.slot t (.one (.sl z l) .pr)]).run G0 S 0 fun ws _=>match ws with
     | [.slot _ (.one (.sl _ l) _)]=>(execL E G0 L0 ys (Wr.apps [.slot t (.one (.bool false) .pr)] S) (finN E f g)).bind fun o0=>match l with
       | []=>(execL E G0 L0 ys (Wr.apps [.slot t (.one (.bool true) .pr)] S) (finN E f g)).bind fun o1=>some (o0,some o1)
       |_::_=>some (o0,none)
     |_=>none
    |_,_=>none
  |_=>none
 |none=>none
end
end Go.VM
