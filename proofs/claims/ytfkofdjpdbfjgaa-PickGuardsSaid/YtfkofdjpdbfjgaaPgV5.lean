/- The machine of values, told and shown true: a part. -/
import Derived.Test.YtfkofdjpdbfjgaaPgV3
import Derived.Recover
import Derived.Laws.Cover3
set_option linter.unusedVariables false
set_option linter.unusedSimpArgs false
namespace Go.VM
def splitD(q:Oper→Bool):Code→Option (List Code×Nat×Array Oper×List Code)
 | .seq a b=>match splitD q a with
   |some (xs,r,ops,ys)=>some (xs,r,ops,ys++[b])
   |none=>match splitD q b with
    |some (xs,r,ops,ys)=>some (a::xs,r,ops,ys)
    |none=>none
 | .region id ops false=>match ops.back? with
   |some o=>bif q o then some ([],id,ops,[])else none
   |none=>none
 |_=>none
def isDef(o:Oper):Bool:=match o.op with| .defer _=>true|_=>false
section
variable {P : Program} {Q : Exit → Act → World → Prop}
def wpL(P:Program):List Code→(Act→World→Prop)→(Exit→Act→World→Prop)→Act→World→Prop
 | [],N,Q,a,w=>N a w
 |c::cs,N,Q,a,w=>c.wp P (Exit.then (wpL P cs N Q) Q) a w
theorem then_then{M N:Act→World→Prop}:∀e a w,Exit.then M Q e a w→Exit.then M (Exit.then N Q) e a w:=by
 intro e a w h;cases e<;>exact h
theorem wpL_mono{Q:Exit→Act→World→Prop}:∀{cs:List Code} {N N':Act→World→Prop} {a:Act} {w:World},wpL P cs N Q a w→(∀a w,N a w→N' a w)→wpL P cs N' Q a w
 | [],N,N',a,w,h,hn=>hn _ _ h
 |c::cs,N,N',a,w,h,hn=>wp_mono h fun e a w q=>by
  cases e with
  |normal=>exact wpL_mono (cs:=cs) q hn
  |_=>exact q
theorem wpL_app:∀{xs ys:List Code} {N:Act→World→Prop} {a:Act} {w:World},wpL P (xs++ys) N Q a w→wpL P xs (wpL P ys N Q) Q a w
 | [],ys,N,a,w,h=>h
 |c::xs,ys,N,a,w,h=>wp_mono h fun e a w q=>by
  cases e with
  |normal=>exact wpL_app (xs:=xs) q
  |_=>exact q
theorem wp_split{q:Oper→Bool}:∀{c:Code} {xs ys:List Code} {r:Nat} {ops:Array Oper} {N:Act→World→Prop} {a:Act} {w:World},splitD q c=some (xs,r,ops,ys)→
 wpL P xs (fun a w=>(Code.region r ops false).wp P (Exit.then (wpL P ys N Q) Q) a w) Q a w→c.wp P (Exit.then N Q) a w:=by
 intro c
 induction c with
 |seq x y ihx ihy=>
  intro xs ys r ops N a w hs h
  unfold splitD at hs
  cases hx:splitD q x with
  |some qq=>
   obtain⟨xs',r',ops',ys'⟩:=qq
   rw[hx]at hs
   simp only[Option.some.injEq,Prod.mk.injEq]at hs
   obtain⟨rfl,rfl,rfl,rfl⟩:=hs
   refine wp_seq (wp_mono (ihx (N:=fun a w=>y.wp P (Exit.then N Q) a w) hx (wpL_mono h fun a w h=>wp_mono h fun e a w q=> ?_)) then_then)
   cases e with
   |normal=>exact wpL_app (xs:=ys') (ys:=[y]) q
   |_=>exact q
  |none=>
   rw[hx]at hs
   dsimp only at hs
   cases hy:splitD q y with
   |none=>rw[hy]at hs;cases hs
   |some qq=>
    obtain⟨xs',r',ops',ys'⟩:=qq
    rw[hy]at hs
    simp only[Option.some.injEq,Prod.mk.injEq]at hs
    obtain⟨rfl,rfl,rfl,rfl⟩:=hs
    refine wp_seq (wp_mono (wp_mono h fun e a w q=> ?_) then_then)
    cases e with
    |normal=>exact ihy hy q
    |_=>exact q
 |region id ops draw=>
  intro xs ys r ops' N a w hs h
  cases draw with
  |true=>cases hs
  |false=>
   unfold splitD at hs
   split at hs
   ·rename_i o ho
    cases hq:q o with
    |false=>rw[hq]at hs;cases hs
    |true=>
     rw[hq]at hs
     simp only[cond_true,Option.some.injEq,Prod.mk.injEq]at hs
     obtain⟨rfl,rfl,rfl,rfl⟩:=hs
     exact h
   ·cases hs
 |_=>intro xs ys r ops N a w hs h;cases hs
theorem upon_then{o:Oper}{a:Act}{next N:Act→World→Prop}(r:Result Next):o.upon P a next (Exit.then N Q) r=o.upon P a next Q r:=by
 cases r with
 |ok n w=>cases n<;>rfl
 |halt x w=>cases x<;>rfl
theorem wpOps_app{ops:Array Oper}:∀{L L2:List Nat} {a:Act} {w:World},wpOps P ops (Exit.then (wpOps P ops Q L2) Q) L a w→wpOps P ops Q (L++L2) a w
 | [],L2,a,w,h=>h
 |i::L,L2,a,w,h=>by
  rw[wpOps_cons]at h
  rw[List.cons_append,wpOps_cons]
  unfold wpOp at h ⊢
  cases ho:ops[i]? with
  |none=>rw[ho]at h;exact wpOps_app h
  |some o=>
   rw[ho]at h
   dsimp only at h ⊢
   split at h
   ·rename_i hw
    simp only[hw,if_true]
    rcases h with h|⟨h1,a',w',h2⟩
    ·refine .inl (Oper.wp_mono (K:=wpOps P ops (Exit.then (wpOps P ops Q L2) Q) L) (fun a w h=>wpOps_app h) ?_)
     unfold Oper.wp at h ⊢
     rw[upon_then]at h
     exact h
    ·exact .inr ⟨h1,a',w',h2⟩
   ·rename_i hw
    simp only[hw,if_false,Bool.false_eq_true]
    exact wpOps_app h
end
section
variable {R : Type}
def execL(E:Env)(G:FuncId→List V→(List V→Option R)→Option R)(L:Nat→St→(Ex→St→Option R)→Option R):List Code→St→(Ex→St→Option R)→Option R
 | [],S,K=>K .normal S
 |c::cs,S,K=>exec E G L c S fun e S=>match e with
  | .normal=>execL E G L cs S K
  |e=>K e S
variable {P : Program} {EE : FuncId → Env} {E : Env} {G : FuncId → List V → (List V → Option R) → Option R} {L : Nat → St → (Ex → St → Option R) → Option R}
theorem execL_sound(hE:EnvOK P E)(hEE:∀f,EnvOK P (EE f))(hsig:∀f,(EE f).sig=E.sig)(hpan:∀f,(EE f).panT=E.panT)(hmo:P.follows .mixedOrders=true)
 (hG:∀f args (K:List V→Option R) r,G f args K=some r→∃o,CallOK P EE f args o∧K o=some r):
 ∀{cs:List Code} {S:St} {K:Ex→St→Option R} {r:R},(∀c∈cs,LoopsAre E G L c)→execL E G L cs S K=some r→
  ∃e S',K e S'=some r∧∀(fr:Fr) (a:Act) (w:World) (N:Act→World→Prop) (Q:Exit→Act→World→Prop),fr.base=E.base→(∀b β,fr.bb0 b=some β→b∈E.kp)→SimX fr S a w→
   (∀a' w',e= .normal→SimX fr S' a' w'→N a' w')→(∀x a' w',x≠ .normal→EndX E.panT fr e S' x a' w'→Q x a' w')→wpL P cs N Q a w
 | [],S,K,r,hL,h=>⟨.normal,S,h,fun fr a w N Q _ _ hs hN _=>hN a w rfl hs⟩
 |c::cs,S,K,r,hL,h=>by
  obtain⟨e1,S1,h1,h2⟩:=(exec_some hG).1 (hL c List.mem_cons_self) h
  have hw:=(exec_sound hE hEE hsig hpan hmo h1).1
  have other:e1≠ .normal→K e1 S1=some r→∃e S',K e S'=some r∧∀(fr:Fr) (a:Act) (w:World) (N:Act→World→Prop) (Q:Exit→Act→World→Prop),fr.base=E.base→(∀b β,fr.bb0 b=some β→b∈E.kp)→SimX fr S a w→
   (∀a' w',e= .normal→SimX fr S' a' w'→N a' w')→(∀x a' w',x≠ .normal→EndX E.panT fr e S' x a' w'→Q x a' w')→wpL P (c::cs) N Q a w:=fun hne hk=>
   ⟨e1,S1,hk,fun fr a w N Q hb hbb hs hN hQ=>wp_mono (hw fr a w hb hbb hs) fun x a' w' q=>by
     cases x with
     |normal=>exact absurd q.1 hne
     |_=>exact hQ _ a' w' (by simp) q⟩
  cases e1 with
  |normal=>
   obtain⟨e,S',k1,k2⟩:=execL_sound hE hEE hsig hpan hmo hG (fun d hd=>hL d (List.mem_cons_of_mem _ hd)) h2
   refine⟨e,S',k1,fun fr a w N Q hb hbb hs hN hQ=>wp_mono (hw fr a w hb hbb hs) fun x a' w' q=> ?_⟩
   cases x with
   |normal=>exact k2 fr a' w' N Q hb hbb q.2 hN hQ
   |exit i=>exact absurd q.1 (by simp)
   |ret=>exact absurd q.1 (by simp)
   |panic ch=>obtain⟨n,e,_⟩:=q;cases e
   |_=>exact q.elim
  |exit i=>exact other (by simp) h2
  |ret=>exact other (by simp) h2
  |pan n=>exact other (by simp) h2
end
def defT(ops:Array Oper)(S:St):Option (FuncId×Nat):=
 match ops.back? with
 |some o=>match o.guard,o.dst,o.op with
  |none,none,.defer c=>match c.callee with
   | .value (.tmp t)=>bif c.args.isEmpty then(match (S.sl t).1 with| .one (.fn f [.ptr b 0]) _=>some (f,b)|_=>none)else none
   |_=>none
  |_,_,_=>none
 |none=>none
def recS(S:St)(b:Nat)(n:Int):Option St:=
 match S.bx b with
 |some cs=>bif decide (cs.length=6)&&(((cs.drop 0).take 1).all fun c=> !c.fix)&&(((cs.drop 5).take 1).all fun c=> !c.fix)then
   some ((S.setB b (some (setCells cs 0 [(.int .i64 0,.pr)]))).setB b (some (setCells (setCells cs 0 [(.int .i64 0,.pr)]) 5 [(.int .i64 n,.pr)])))else none
 |none=>none
def rec1(c:Array Value)(off:Nat)(n:Int):Array Value:=(c.toList.take off++[Value.int .i64 n]++c.toList.drop (off+1)).toArray
def recW(w:World)(β:Nat)(c:Array Value)(n:Int):World:=(w.setRow β (rec1 c 0 0)).setRow β (rec1 (rec1 c 0 0) 5 n)
structure Catches (P:Program) (gf:FuncId) (T:TypeId):Prop where
 fn:∃fn,P.funcs[gf]? =some fn∧(fn.name== "runtime.NumGoroutine")=false∧fn.body.isNone=false
 pan:∀(β:Nat) (c:Array Value) (ty:TypeId) (w:World) (n:Int),w.heap[β]? =some (.cells c ty (0,0))→c.size=6→CallsD P gf #[.pointer (some ⟨β,0,none⟩)] (.panicking (thrown T n)) w fun e u' w'=>(∃v,e= .returned v)∧u'= .panicking [{v:=.iface T (.int .i64 n),recovered:=true}]∧w'=recW w β c n
 idle:∀(β:Nat) (w:World),CallsD P gf #[.pointer (some ⟨β,0,none⟩)] .returning w fun e u' w'=>(∃v,e= .returned v)∧u'= .returning∧w'=w
def finD{R:Type}(E:Env)(f:Func)(g:Sig)(S:St)(K:List V→Option R):Option R:=match finish E f g S with|some o=>K o|none=>none
def callD{R:Type}(E:Env)(G:FuncId→List V→(List V→Option R)→Option R)(L:Nat→St→(Ex→St→Option R)→Option R)(gf:FuncId)(f:Func)(g:Sig)(vs:List V)(K:List V→Option R):Option R:=
 match splitD isDef (bodyOf f)with
 |some (xs,rg,ops,ys)=>execL E G L xs (initSt g f.ntmps vs) fun e S=>match e with
  | .normal=>runSeq E G ops rg (List.range (ops.size-1)) S fun p S=>match p,defT ops S with
    |none,some (f',b)=>bif Nat.beq f' gf&&E.kp.any (Nat.beq b)then execL E G L ys S fun e S=>match e with
      | .exit _=>none
      | .pan n=>match recS S b n with
        |some S=>finD E f g S K
        |none=>none
      |_=>finD E f g S K
     else none
    |_,_=>none
  |_=>none
 |none=>none
section
variable {P : Program} {fr : Fr} {S : St} {a : Act} {w : World} {g : Gh}
theorem int_cs{h:Hp}{n:Int}:CsR h g [(.int .i64 n,.pr)] [.int .i64 n] []:=⟨_,_,_,_,rfl,rfl,⟨rfl,rfl,rfl,rfl⟩,rfl,rfl⟩
theorem setB_bx{b:Nat}{x:Option Bx}(h:∃cs,S.bx b=some cs):(S.setB b x).bx b=x:=by
 obtain⟨cs,h⟩:=h
 have hb:b<S.boxes.length:=by
  rw[bx_eq]at h
  rcases Nat.lt_or_ge b S.boxes.length with k|k
  ·exact k
  ·rw[List.getElem?_eq_none k]at h;cases h
 rw[setB_get hb,if_pos rfl]
theorem rec_sim{b β:Nat}{n:Int}{S':St}(hs:Sim fr S a w g [])(hr:recS S b n=some S')(hβ:g.bb b=some β):∃c ty,w.heap[β]? =some (.cells c ty (0,0))∧c.size=6∧(fr.bb0 b=some β→SimX fr S' a (recW w β c n)):=by
 unfold recS at hr
 cases hb:S.bx b with
 |none=>rw[hb]at hr;cases hr
 |some cs=>
  rw[hb]at hr
  dsimp only at hr
  cases hc:decide (cs.length=6)&&(((cs.drop 0).take 1).all fun c=> !c.fix)&&(((cs.drop 5).take 1).all fun c=> !c.fix)with
  |false=>rw[hc]at hr;cases hr
  |true=>
   rw[hc]at hr
   simp only[cond_true,Option.some.injEq]at hr
   subst hr
   simp only[Bool.and_eq_true,decide_eq_true_eq]at hc
   obtain⟨⟨h6,hf0⟩,hf5⟩:=hc
   obtain⟨β',c,ty,q1,q2,q3,q4⟩:=hs.boxes b cs hb
   rw[hβ]at q1;cases q1
   refine⟨c,ty,q2,by rw[q3,h6],fun hb0=> ?_⟩
   have h1:=store_ptr (cs:=[(V.int .i64 0,M.pr)]) (rs:=([.int .i64 0],[])) (fp:=([],[])) (off:=0) hs hb hβ q2 (by simp[h6]) hf0 int_cs q3
   obtain⟨g1,h1⟩:=h1
   have e1:(c.toList.take 0++[Value.int .i64 0]++c.toList.drop (0+[(V.int .i64 0,M.pr)].length)).toArray=rec1 c 0 0:=rfl
   rw[e1]at h1
   have hβ1:g1.bb b=some β:=h1.bb0 b β hb0
   have hb1:=setB_bx (x:=some (setCells cs 0 [(.int .i64 0,.pr)])) ⟨cs,hb⟩
   obtain⟨β',c1,ty1,q1',q2',q3',q4'⟩:=h1.boxes b _ hb1
   rw[hβ1]at q1';cases q1'
   have hlt:β<w.heap.size:=(Array.getElem?_eq_some_iff.1 q2).1
   have hc1:c1=rec1 c 0 0:=by
    have hz:(w.setRow β (rec1 c 0 0)).heap[β]? =some (.cells (rec1 c 0 0) ty (0,0)):=by
     simp only[World.setRow,Array.getElem?_modify,if_true,q2,Option.map_some]
    rw[hz]at q2';cases q2';rfl
   subst hc1
   have hl1:=setCells_len (cs:=[(V.int .i64 0,M.pr)]) (old:=cs) (off:=0)
   have h2:=store_ptr (cs:=[(V.int .i64 n,M.pr)]) (rs:=([.int .i64 n],[])) (fp:=([],[])) (off:=5) h1 hb1 hβ1 q2' (by rw[hl1,h6];exact Nat.le_refl 6) (by
    rw[List.all_eq_true]at hf5 ⊢
    intro x hx
    have hx2:x∈(cs.drop 5).take 1:=by
     have:((setCells cs 0 [(.int .i64 0,.pr)]).drop 5).take 1=(cs.drop 5).take 1:=by
      apply List.ext_getElem?
      intro i
      rw[List.getElem?_take,List.getElem?_take,List.getElem?_drop,List.getElem?_drop,setCells_get]
      split
      ·rw[if_neg (by simp)]
      ·rfl
     simp only[List.length_singleton]at hx
     rw[this]at hx;exact hx
    exact hf5 x hx2) int_cs q3'
   exact h2
theorem Sim.turn{fr fr':Fr}{pool:List Nat}(h:Sim fr' S a w g pool)(e1:fr.w0=fr'.w0)(e2:fr.wr=fr'.wr)(e3:fr.ro0=fr'.ro0)(e4:fr.fixv=fr'.fixv)(e5:fr.base=fr'.base)(hb:∀b β,fr.bb0 b=some β→g.bb b=some β):
 Sim fr S {tmps:=a.tmps,defers:=fr.defs} w g pool:=by
 constructor
 ·rfl
 ·exact h.size
 ·exact h.slots
 ·rw[e4];exact h.boxes
 ·exact h.noBox
 ·exact h.own
 ·exact h.nd
 ·exact h.ownB
 ·exact h.pl
 ·exact h.plnd
 ·rw[e1,e2];exact h.free
 ·exact h.rolt
 ·rw[e3];exact h.ro0
 ·rw[e1,e2,e3];exact h.ro1
 ·rw[e1,e2];exact h.frame
 ·rw[e1];exact h.grow
 ·rw[e1];exact h.os
 ·rw[e1];exact h.tape
 ·rw[e1];exact h.output
 ·rw[e5];exact h.bl
 ·exact hb
theorem defT_some{ops:Array Oper}{S:St}{f:FuncId}{b:Nat}(h:defT ops S=some (f,b)):∃o c t m,ops.back?=some o∧o.guard=none∧o.dst=none∧o.op= .defer c∧c.callee= .value (.tmp t)∧c.args= #[]∧(S.sl t).1= .one (.fn f [.ptr b 0]) m:=by
 unfold defT at h
 split at h
 ·rename_i o ho
  split at h
  ·rename_i c hg hd hop
   split at h
   ·rename_i t hc
    cases he:c.args.isEmpty with
    |false=>rw[he]at h;cases h
    |true=>
     rw[he]at h
     simp only[cond_true]at h
     split at h
     ·rename_i f' b' m hx
      simp only[Option.some.injEq,Prod.mk.injEq]at h
      obtain⟨rfl,rfl⟩:=h
      exact⟨o,c,t,m,ho,hg,hd,hop,hc,by simpa using he,hx⟩
     ·cases h
   ·cases h
  ·cases h
 ·cases h
end
section
variable {R : Type} {P : Program} {EE : FuncId → Env} {G : FuncId → List V → (List V → Option R) → Option R} {L : Nat → St → (Ex → St → Option R) → Option R}
theorem loops_split{E:Env}{q:Oper→Bool}:∀{c:Code} {xs ys:List Code} {r:Nat} {ops:Array Oper},splitD q c=some (xs,r,ops,ys)→LoopsAre E G L c→(∀x∈xs,LoopsAre E G L x)∧∀y∈ys,LoopsAre E G L y:=by
 intro c
 induction c with
 |seq x y ihx ihy=>
  intro xs ys r ops hs hL
  unfold splitD at hs
  cases hx:splitD q x with
  |some qq=>
   obtain⟨xs',r',ops',ys'⟩:=qq
   rw[hx]at hs
   simp only[Option.some.injEq,Prod.mk.injEq]at hs
   obtain⟨rfl,rfl,rfl,rfl⟩:=hs
   obtain⟨k1,k2⟩:=ihx hx hL.1
   refine⟨k1,fun z hz=> ?_⟩
   rcases List.mem_append.1 hz with hz|hz
   ·exact k2 z hz
   ·rw[List.mem_singleton.1 hz];exact hL.2
  |none=>
   rw[hx]at hs
   dsimp only at hs
   cases hy:splitD q y with
   |none=>rw[hy]at hs;cases hs
   |some qq=>
    obtain⟨xs',r',ops',ys'⟩:=qq
    rw[hy]at hs
    simp only[Option.some.injEq,Prod.mk.injEq]at hs
    obtain⟨rfl,rfl,rfl,rfl⟩:=hs
    obtain⟨k1,k2⟩:=ihy hy hL.2
    refine⟨fun z hz=> ?_,k2⟩
    rcases List.mem_cons.1 hz with rfl|hz
    ·exact hL.1
    ·exact k1 z hz
 |region id ops draw=>
  intro xs ys r ops' hs hL
  cases draw with
  |true=>cases hs
  |false=>
   unfold splitD at hs
   split at hs
   ·rename_i o ho
    cases hq:q o with
    |false=>rw[hq]at hs;cases hs
    |true=>
     rw[hq]at hs
     simp only[cond_true,Option.some.injEq,Prod.mk.injEq]at hs
     obtain⟨rfl,rfl,rfl,rfl⟩:=hs
     exact⟨by simp,by simp⟩
   ·cases hs
 |_=>intro xs ys r ops hs;cases hs
theorem calld_ok{f gf:FuncId}{fn:Func}{sg:Sig}
 (hEE:∀f,EnvOK P (EE f)) (hsig:∀f g,(EE f).sig=(EE g).sig) (hpan:∀f g,(EE f).panT=(EE g).panT) (hkp:∀f b,b<(EE f).base→b∈(EE f).kp) (hmo:P.follows .mixedOrders=true) (hf:P.funcs[rf f]? =some fn) (hsg:(EE f).sig f=some sg) (hn:(fn.name== "runtime.NumGoroutine")=false) (hnt:sg.params.length≤fn.ntmps) (hio:sg.io=false) (hb:(EE f).base=sg.boxes.length) (hnp:sg.pan=false) (hbody:fn.body.isNone=false)
 (hcat:Catches P gf (EE f).panT)
 (hG:∀f args (K:List V→Option R) r,G f args K=some r→∃o,CallOK P EE f args o∧K o=some r) (hL:LoopsAre (EE f) G L (bodyOf fn)) {vs:List V} {K:List V→Option R} {r:R} (h:callD (EE f) G L gf fn sg vs K=some r):
 ∃o,CallOK P EE f vs o∧K o=some r:=by
 unfold callD at h
 cases hs:splitD isDef (bodyOf fn)with
 |none=>rw[hs]at h;cases h
 |some q=>
 obtain⟨xs,rg,ops,ys⟩:=q
 rw[hs]at h
 dsimp only at h
 obtain⟨hLx,hLy⟩:=loops_split hs hL
 have hsig':=fun f'=>hsig f' f
 have hpan':=fun f'=>hpan f' f
 obtain⟨e1,S1,h1,hw1⟩:=execL_sound (hEE f) hEE hsig' hpan' hmo hG hLx h
 cases e1 with
 |exit i=>cases h1
 |ret=>cases h1
 |pan n=>cases h1
 |normal=>
 dsimp only at h1
 obtain⟨p,S2,hrun,h2⟩:=runSeq_some hG h1
 cases p with
 |some n=>cases h2
 |none=>
 cases hd:defT ops S2 with
 |none=>rw[hd]at h2;cases h2
 |some fb=>
 obtain⟨f',b⟩:=fb
 rw[hd]at h2
 dsimp only at h2
 cases hck:Nat.beq f' gf&&(EE f).kp.any (Nat.beq b)with
 |false=>rw[hck]at h2;cases h2
 |true=>
 rw[hck]at h2
 simp only[Bool.and_eq_true]at hck
 obtain⟨hff,hkb⟩:=hck
 have hff:f'=gf:=Nat.eq_of_beq_eq_true hff
 subst hff
 obtain⟨bq,hbq,hbe⟩:=List.any_eq_true.1 hkb
 have hbe:b=bq:=Nat.eq_of_beq_eq_true hbe
 subst hbe
 simp only[cond_true]at h2
 obtain⟨e3,S3,h3,hw3⟩:=execL_sound (hEE f) hEE hsig' hpan' hmo hG hLy h2
 have hend:∃o,K o=some r∧((∃n S4,e3= .pan n∧recS S3 b n=some S4∧finish (EE f) fn sg S4=some o)∨((e3= .normal∨e3= .ret)∧finish (EE f) fn sg S3=some o)):=by
  have fin:∀S,finD (EE f) fn sg S K=some r→∃o,K o=some r∧finish (EE f) fn sg S=some o:=fun S hq=>by
   unfold finD at hq
   cases ho:finish (EE f) fn sg S with
   |none=>rw[ho]at hq;cases hq
   |some o=>rw[ho]at hq;exact⟨o,hq,rfl⟩
  cases e3 with
  |exit i=>cases h3
  |pan n=>
   dsimp only at h3
   cases hr:recS S3 b n with
   |none=>rw[hr]at h3;cases h3
   |some S4=>rw[hr]at h3;obtain⟨o,k1,k2⟩:=fin S4 h3;exact⟨o,k1,.inl ⟨n,S4,rfl,hr,k2⟩⟩
  |normal=>obtain⟨o,k1,k2⟩:=fin S3 h3;exact⟨o,k1,.inr ⟨.inl rfl,k2⟩⟩
  |ret=>obtain⟨o,k1,k2⟩:=fin S3 h3;exact⟨o,k1,.inr ⟨.inr rfl,k2⟩⟩
 obtain⟨o,hKo,hend⟩:=hend
 refine⟨o,⟨fn,sg,hf,hsg,hn,hbody,hnt,(fun h=>by rw[hio]at h;cases h),fun _ fr w g args hs0 hw0 hbase hsz=> ?_⟩,hKo⟩
 have hd0:fr.defs=[]:=hs0.defers.symm
 have hbb:∀b β,fr.bb0 b=some β→b∈(EE f).kp:=fun b β hb0=>by
  refine hkp f b ?_
  have h3:=hs0.bb0 b β hb0
  rw[hb]
  rcases Nat.lt_or_ge b sg.boxes.length with k|k
  ·exact k
  ·have:(initSt sg fn.ntmps vs).bx b=none:=by
    have e:initSt sg fn.ntmps vs=⟨(initP sg.params vs).1++List.replicate (fn.ntmps-(initP sg.params vs).1.length) (.undef,0),initB sg.boxes (initP sg.params vs).2++List.replicate fn.ntmps none⟩:=rfl
    rw[e,bx_eq]
    simp only
    rw[List.getElem?_append_right (by rw[initB_len];exact k),List.getElem?_replicate]
    split<;>rfl
   rw[hs0.noBox b this]at h3;cases h3
 cases hcb:fn.body with
 |none=>rw[hcb]at hbody;cases hbody
 |some c=>
 have hbo:bodyOf fn=c:=by simp[bodyOf,hcb]
 rw[hbo]at hs
 have hb1:fr.base=(EE f).base:=hbase.trans hb.symm
 refine calls_of_wp_defers hf hcb (wp_mono (wp_split (N:=bodyPostD P fn (CallPost P (EE f) fn sg fr o) .normal) (Q:=bodyPostD P fn (CallPost P (EE f) fn sg fr o)) hs ?_) fun e a w q=>by cases e<;>exact q)
 refine hw1 fr _ w _ _ hb1 hbb ⟨g,hs0⟩ (fun a1 w1 _ hs1=> ?_) (fun x a' w' hx q=> ?_)
 case _=>
  refine wp_region ?_
  obtain⟨od,cd,t,m,k1,k2,k3,k4,k5,k6,k7⟩:=defT_some hd
  have hn0:ops.size≠0:=fun hz=>by
   have:ops= #[]:=Array.eq_empty_of_size_eq_zero hz
   rw[this]at k1;cases k1
  obtain⟨nn,hnn⟩:∃nn,ops.size=nn+1:=⟨ops.size-1,by omega⟩
  rw[hnn]at hrun ⊢
  rw[Nat.add_sub_cancel]at hrun
  rw[List.range_succ]
  have hod:ops[nn]? =some od:=by rw[Array.back?]at k1;rw[hnn,Nat.add_sub_cancel]at k1;exact k1
  refine wpOps_app (wpOps_of_runP (hEE f) hEE hsig' hpan' hb1 hrun hs1 (fun _ a2 w2 hs2=> ?_) (fun n hp=>by cases hp))
  obtain⟨g2,hs2⟩:=hs2
  show wpOps P ops _ [nn] a2 w2
  rw[wpOps_cons]
  unfold wpOp
  rw[hod]
  have hwt:Region.wanted od (yielded ops a2.tmps)=true:=by simp[Region.wanted,k2]
  simp only[hwt,if_true]
  refine .inl ?_
  obtain⟨β,hβ,hev⟩:∃β,g2.bb b=some β∧a2.eval (.tmp t)= .func (.func f') #[] #[.pointer (some ⟨β,0,none⟩)]:=by
   rcases sl_case S2 t with⟨ver,q1,q2⟩|⟨q1,q2⟩
   ·rw[k7]at q1
    have hsl:OneR w2.heap g2 (.fn f' [.ptr b 0]) m (a2.eval (.tmp t)) (g2.fp (.s t)):=hs2.slot q1
    obtain⟨rs,er,hcap⟩:=fn_pt hsl
    obtain⟨b',of,β,rs',z1,z2,z3,z4⟩:=hcap
    simp only[V.ptr.injEq]at z1
    obtain⟨rfl,rfl⟩:=z1
    have z4:rs'=[]:=z4
    subst z4
    refine⟨β,z2,?_⟩
    have:rs= #[.pointer (some ⟨β,0,none⟩)]:=by apply Array.ext';simpa using z3
    rw[er,this]
   ·rw[q2]at k7;cases k7
  have hrun2:(execOp a2.eval od).run P w2= .ok (.defer {target:=.fn (.func f') #[.pointer (some ⟨β,0,none⟩)],args:= #[]}) w2:=by
   simp only[execOp,k4,resolve,k5,k6,hev,Deferred.ofValue,pure_bind,Array.map_empty,Array.append_empty]
   rfl
  unfold Oper.wp
  rw[hrun2,Oper.upon_defer,k3]
  let d:Deferred:={target:=.fn (.func f') #[.pointer (some ⟨β,0,none⟩)],args:= #[]}
  let fr':Fr:={fr with defs:=[d],bb0:=fun x=>if x=b then some β else fr.bb0 x}
  have hcons:∀β0,fr.bb0 b=some β0→β0=β:=fun β0 h0=>by have:=hs2.bb0 b β0 h0;rw[hβ]at this;cases this;rfl
  have hs2':Sim fr' S2 {tmps:=a2.tmps,defers:=fr'.defs} w2 g2 []:=Sim.turn hs2 rfl rfl rfl rfl rfl (fun x β0 h0=>by
   have h0:(if x=b then some β else fr.bb0 x)=some β0:=h0
   by_cases e:x=b
   ·rw[if_pos e]at h0
    injection h0 with h0
    rw[e,←h0];exact hβ
   ·rw[if_neg e]at h0
    exact hs2.bb0 x β0 h0)
  have hdf:a2.defers=[]:=hs2.defers.trans hd0
  show wpL P ys _ _ _ _
  have hact:({tmps:=a2.tmps,defers:=d::a2.defers}:Act).put none undef={tmps:=a2.tmps,defers:=fr'.defs}:=by rw[hdf];rfl
  have hact2:({a2 with defers:={target:=.fn (.func f') #[.pointer (some ⟨β,0,none⟩)],args:= #[]}::a2.defers}:Act).put none undef={tmps:=a2.tmps,defers:=fr'.defs}:=hact
  rw[hact2]
  obtain⟨gfn,gf1,gf2,gf3⟩:=hcat.fn
  have hinv:∀w:World,(invoke (.fn (.func f') #[.pointer (some ⟨β,0,none⟩)]) #[]).run P w= .ok (.enter f' #[.pointer (some ⟨β,0,none⟩)]) w:=fun w=>by
   simp only[invoke,Array.empty_append]
   exact run_callFunc gf1 gf2 gf3
  have post:∀(S:St) (tm:Array Value) (ds:List Deferred) (w':World),finish (EE f) fn sg S=some o→SimX fr' S {tmps:=tm,defers:=ds} w'→∃v,(results fn tm).run P w'= .ok v w'∧CallPost P (EE f) fn sg fr o (.returned v) w':=fun S tm ds w' hfin ⟨g4,hs4⟩=>by
   have hs5:Sim fr S {tmps:=tm,defers:=fr.defs} w' g4 []:=Sim.turn hs4 rfl rfl rfl rfl rfl (fun x β0 h0=>hs4.bb0 x β0 (by
    show(if x=b then some β else fr.bb0 x)=some β0
    by_cases e:x=b
    ·subst e;rw[if_pos rfl,hcons β0 h0]
    ·rw[if_neg e];exact h0))
   obtain⟨ov,ob,rv,fo,fi,fob,fib,_,hl⟩:=leave_ok (P:=P) (hEE f) hs5 hfin
   exact⟨rv,hl.run,S,_,g4,o,hs5,hfin,by unfold preO;rw[hnp];rfl,hl.run⟩
  have quiet:∀(a':Act) (w':World),(e3= .normal∨e3= .ret)→SimX fr' S3 a' w'→Leaves P fn a'.tmps (CallPost P (EE f) fn sg fr o) a'.defers .returning w':=fun a' w' he hs3=>by
   have hda:a'.defers=[d]:=by obtain⟨g3,k⟩:=hs3;exact k.defers
   rw[hda]
   refine leaves_cons (by simp) (hinv w') ((hcat.idle β w').mono ?_)
   rintro e u' w'' ⟨⟨v,rfl⟩,rfl,rfl⟩
   rcases hend with⟨n,S4,k,_⟩|⟨_,hfin⟩
   ·rcases he with he|he<;>(rw[he]at k;cases k)
   ·exact post S3 a'.tmps a'.defers _ hfin hs3
  refine hw3 fr' _ w2 _ _ hb1 (fun x β0 h0=> ?_) ⟨g2,hs2'⟩ (fun a' w' he hs3=>quiet a' w' (.inl he) hs3) (fun x a' w' hx q=> ?_)
  ·by_cases e:x=b
   ·rw[e];exact hbq
   ·have h0:(if x=b then some β else fr.bb0 x)=some β0:=h0
    rw[if_neg e]at h0
    exact hbb x β0 h0
  ·cases x with
   |normal=>exact absurd rfl hx
   |ret=>exact quiet a' w' (.inr q.1) q.2
   |exit i=>
    rcases hend with⟨n,S4,k,_⟩|⟨k,_⟩
    ·have:=q.1;rw[k]at this;cases this
    ·have:=q.1;rcases k with k|k<;>(rw[k]at this;cases this)
   |panic ch=>
    obtain⟨n,he,rfl,g3,hs3⟩:=q
    show Leaves P fn a'.tmps (CallPost P (EE f) fn sg fr o) a'.defers (.panicking (thrown (EE f).panT n)) w'
    rcases hend with⟨n',S4,k,hr,hfin⟩|⟨k,_⟩
    ·rw[he]at k;cases k
     have hda:a'.defers=[d]:=hs3.defers
     rw[hda]
     have hβ3:g3.bb b=some β:=hs3.bb0 b β (by show(if b=b then some β else fr.bb0 b)=some β;rw[if_pos rfl])
     obtain⟨c3,ty3,z1,z2,z3⟩:=rec_sim hs3 hr hβ3
     refine leaves_cons (by simp) (hinv w') ((hcat.pan β c3 ty3 w' n z1 z2).mono ?_)
     rintro e u' w'' ⟨⟨v,rfl⟩,rfl,rfl⟩
     exact post S4 a'.tmps a'.defers _ hfin (z3 (by show(if b=b then some β else fr.bb0 b)=some β;rw[if_pos rfl]))
    ·rcases k with k|k<;>(rw[he]at k;cases k)
   |_=>exact q.elim
 case _=>
  cases x with
  |normal=>exact absurd rfl hx
  |exit i=>have:=q.1;cases this
  |ret=>have:=q.1;cases this
  |panic ch=>obtain⟨n,k,_⟩:=q;cases k
  |_=>exact q.elim
theorem callD_sound{T:Tab}{f gf:FuncId}{fn:Func}{sg:Sig}(hcat:Catches P gf T.panT)(hT:T.chk P=true)(hmo:P.follows .mixedOrders=true)
 (hG:Sound P T G) (hf:P.funcs[rf f]? =some fn) (hsg:tlook T.sigs f=some sg) (hk:(fnChk fn sg&& !sg.pan&& !fn.body.isNone)=true) (hL:LoopsAre (T.env f) G L (bodyOf fn)) {vs:List V} {K:List V→Option R} {r:R} (h:callD (T.env f) G L gf fn sg vs K=some r):
 ∃o,CallOK P T.env f vs o∧K o=some r:=by
 simp only[fnChk,Bool.and_eq_true,Bool.not_eq_true',decide_eq_true_eq]at hk
 exact calld_ok (EE:=T.env) (fun f=>T.ok hT f) (fun _ _=>rfl) (fun _ _=>rfl) (fun _ b hb=>List.mem_append_left _ (List.mem_range.2 hb)) hmo hf hsg hk.1.1.1.1 hk.1.1.1.2 hk.1.1.2 (Tab.base hsg) hk.1.2 hk.2 hcat hG hL h
def isNil(o:Oper):Bool:=match o.guard,o.op,o.dst with
 |none,.binOp .eql _ (.tmp _) (.const (.slice none 0 0)) _,some _=>true
 |_,_,_=>false
def nilX(E:Env)(ops:Array Oper):Option (Tmp×Tmp):=match ops.back? with
 |some o=>match o.guard,o.op,o.dst with
  |none,.binOp .eql T (.tmp x) (.const (.slice none 0 0)) _,some t=>match E.ty T with
   |some d=>(match d.under with| .slice _=>some (x,t)|_=>none)
   |none=>none
  |_,_,_=>none
 |none=>none
def finN(E:Env)(f:Func)(g:Sig)(e:Ex)(S:St):Option (List V):=match e with
 | .normal=>finD E f g S some
 | .ret=>finD E f g S some
 |_=>none
def G0{R:Type}:FuncId→List V→(List V→Option R)→Option R:=fun _ _ _=>none
def L0{R:Type}:Nat→St→(Ex→St→Option R)→Option R:=fun _ _ _=>none
def callN(E:Env)(f:Func)(g:Sig)(vs:List V):Option (List V×Option (List V)):=
 match splitD isNil (bodyOf f)with
 |some (xs,rg,ops,ys)=>execL E G0 L0 xs (initSt g f.ntmps vs) fun e S=>match e with
  | .normal=>runSeq E G0 ops rg (List.range (ops.size-1)) S fun p S=>match p,nilX E ops with
    |none,some (x,t)=>(val1 (.tmp x) fun v=>.asSl v fun z l=>.ret [.slot t (.one (.sl z l) .pr)]).run G0 S 0 fun ws _=>match ws with
     | [.slot _ (.one (.sl _ l) _)]=>(execL E G0 L0 ys (Wr.apps [.slot t (.one (.bool false) .pr)] S) (finN E f g)).bind fun o0=>match l with
       | []=>(execL E G0 L0 ys (Wr.apps [.slot t (.one (.bool true) .pr)] S) (finN E f g)).bind fun o1=>some (o0,some o1)
       |_::_=>some (o0,none)
     |_=>none
    |_,_=>none
  |_=>none
 |none=>none
theorem nilX_some{E:Env}{ops:Array Oper}{x t:Tmp}(hE:EnvOK P E)(h:nilX E ops=some (x,t)):∃o T yt,ops.back?=some o∧o.guard=none∧o.op= .binOp .eql T (.tmp x) (.const (.slice none 0 0)) yt∧o.dst=some t∧∃e,P.underlying T=some (.slice e):=by
 unfold nilX at h
 split at h
 ·rename_i o ho
  split at h
  ·rename_i T x' yt t' hg hop hd
   split at h
   ·rename_i d hT
    split at h
    ·rename_i e hu
     simp only[Option.some.injEq,Prod.mk.injEq]at h
     obtain⟨rfl,rfl⟩:=h
     obtain⟨u,q1,q2⟩:=(hE _ _ hT).under
     exact⟨o,T,yt,ho,hg,hop,hd,e,by rw[q1,ut_slice (q2.trans hu)]⟩
    ·cases h
   ·cases h
  ·cases h
 ·cases h
theorem callN_ok{f:FuncId}{fn:Func}{sg:Sig}
 (hEE:∀f,EnvOK P (EE f)) (hsig:∀f g,(EE f).sig=(EE g).sig) (hpan:∀f g,(EE f).panT=(EE g).panT) (hkp:∀f b,b<(EE f).base→b∈(EE f).kp) (hmo:P.follows .mixedOrders=true) (hf:P.funcs[rf f]? =some fn) (hsg:(EE f).sig f=some sg) (hn:(fn.name== "runtime.NumGoroutine")=false) (hnt:sg.params.length≤fn.ntmps) (hio:sg.io=false) (hb:(EE f).base=sg.boxes.length) (hnp:sg.pan=false) (hbody:fn.body.isNone=false)
 (hL:∀{R:Type},LoopsAre (R:=R) (EE f) G0 L0 (bodyOf fn)) {vs o:List V} {q:Option (List V)} (h:callN (EE f) fn sg vs=some (o,q)) (hq:∀o1,q=some o1→o1=o):CallOK P EE f vs o:=by
 have hG:∀{R:Type} (f:FuncId) args (K:List V→Option R) r,G0 f args K=some r→∃o,CallOK P EE f args o∧K o=some r:=fun f args K r h=>by cases h
 have hsig':=fun f'=>hsig f' f
 have hpan':=fun f'=>hpan f' f
 unfold callN at h
 cases hs:splitD isNil (bodyOf fn)with
 |none=>rw[hs]at h;cases h
 |some qq=>
 obtain⟨xs,rg,ops,ys⟩:=qq
 rw[hs]at h
 dsimp only at h
 obtain⟨hLx,_⟩:=loops_split hs (hL (R:=List V×Option (List V)))
 obtain⟨_,hLy⟩:=loops_split hs (hL (R:=List V))
 obtain⟨e1,S1,h1,hw1⟩:=execL_sound (hEE f) hEE hsig' hpan' hmo hG hLx h
 cases e1 with
 |exit i=>cases h1
 |ret=>cases h1
 |pan n=>cases h1
 |normal=>
 dsimp only at h1
 obtain⟨p,S2,hrun,h2⟩:=runSeq_some hG h1
 cases p with
 |some n=>cases h2
 |none=>
 cases hd:nilX (EE f) ops with
 |none=>rw[hd]at h2;cases h2
 |some xt=>
 obtain⟨x,t⟩:=xt
 rw[hd]at h2
 dsimp only at h2
 obtain⟨ws,rm,hp,h3⟩:=run_rel hG S2 _ _ _ _ h2
 have ends:∀(b:Bool) (o':List V),execL (EE f) G0 L0 ys (Wr.apps [.slot t (.one (.bool b) .pr)] S2) (finN (EE f) fn sg)=some o'→
  ∃e3 S3,(e3= .normal∨e3= .ret)∧finish (EE f) fn sg S3=some o'∧∀(fr:Fr) (a:Act) (w:World) (N:Act→World→Prop) (Q:Exit→Act→World→Prop),fr.base=(EE f).base→(∀b β,fr.bb0 b=some β→b∈(EE f).kp)→SimX fr (Wr.apps [.slot t (.one (.bool b) .pr)] S2) a w→
   (∀a' w',e3= .normal→SimX fr S3 a' w'→N a' w')→(∀x a' w',x≠ .normal→EndX (EE f).panT fr e3 S3 x a' w'→Q x a' w')→wpL P ys N Q a w:=fun b o' hx=>by
  obtain⟨e3,S3,k1,k2⟩:=execL_sound (hEE f) hEE hsig' hpan' hmo hG hLy hx
  refine⟨e3,S3,?_⟩
  have fin:finD (EE f) fn sg S3 some=some o'→finish (EE f) fn sg S3=some o':=fun hq=>by
   unfold finD at hq
   cases ho:finish (EE f) fn sg S3 with
   |none=>rw[ho]at hq;cases hq
   |some o=>rw[ho]at hq;exact hq
  cases e3 with
  |exit i=>cases k1
  |pan n=>cases k1
  |normal=>exact⟨.inl rfl,fin k1,k2⟩
  |ret=>exact⟨.inr rfl,fin k1,k2⟩
 obtain⟨od,T,yt,y1,y2,y3,y4,e,y5⟩:=nilX_some (hEE f) hd
 have hbo:∃c,fn.body=some c∧bodyOf fn=c:=by
  cases hcb:fn.body with
  |none=>rw[hcb]at hbody;cases hbody
  |some c=>exact⟨c,rfl,by simp[bodyOf,hcb]⟩
 obtain⟨c,hcb,hbo⟩:=hbo
 rw[hbo]at hs
 refine⟨fn,sg,hf,hsg,hn,hbody,hnt,(fun h=>by rw[hio]at h;cases h),fun _ fr w g args hs0 hw0 hbase hsz=> ?_⟩
 have hd0:fr.defs=[]:=hs0.defers.symm
 have hbb:∀b β,fr.bb0 b=some β→b∈(EE f).kp:=fun b β hb0=>by
  refine hkp f b ?_
  have h3:=hs0.bb0 b β hb0
  rw[hb]
  rcases Nat.lt_or_ge b sg.boxes.length with k|k
  ·exact k
  ·have:(initSt sg fn.ntmps vs).bx b=none:=by
    have e:initSt sg fn.ntmps vs=⟨(initP sg.params vs).1++List.replicate (fn.ntmps-(initP sg.params vs).1.length) (.undef,0),initB sg.boxes (initP sg.params vs).2++List.replicate fn.ntmps none⟩:=rfl
    rw[e,bx_eq]
    simp only
    rw[List.getElem?_append_right (by rw[initB_len];exact k),List.getElem?_replicate]
    split<;>rfl
   rw[hs0.noBox b this]at h3;cases h3
 have hb1:fr.base=(EE f).base:=hbase.trans hb.symm
 refine calls_of_wp_defers hf hcb (wp_mono (wp_split (N:=bodyPostD P fn (CallPost P (EE f) fn sg fr o) .normal) (Q:=bodyPostD P fn (CallPost P (EE f) fn sg fr o)) hs ?_) fun e a w q=>by cases e<;>exact q)
 refine hw1 fr _ w _ _ hb1 hbb ⟨g,hs0⟩ (fun a1 w1 _ hs1=> ?_) (fun x a' w' hx q=> ?_)
 case _=>
  refine wp_region ?_
  have hn0:ops.size≠0:=fun hz=>by
   have:ops= #[]:=Array.eq_empty_of_size_eq_zero hz
   rw[this]at y1;cases y1
  obtain⟨nn,hnn⟩:∃nn,ops.size=nn+1:=⟨ops.size-1,by omega⟩
  rw[hnn]at hrun ⊢
  rw[Nat.add_sub_cancel]at hrun
  rw[List.range_succ]
  have hod:ops[nn]? =some od:=by rw[Array.back?]at y1;rw[hnn,Nat.add_sub_cancel]at y1;exact y1
  refine wpOps_app (wpOps_of_runP (hEE f) hEE hsig' hpan' hb1 hrun hs1 (fun _ a2 w2 hs2=> ?_) (fun n hp=>by cases hp))
  obtain⟨g2,hs2⟩:=hs2
  show wpOps P ops _ [nn] a2 w2
  rw[wpOps_cons]
  unfold wpOp
  rw[hod]
  have hwt:Region.wanted od (yielded ops a2.tmps)=true:=by simp[Region.wanted,y2]
  simp only[hwt,if_true]
  refine .inl ?_
  obtain⟨v,rm1,hp1,hv⟩:=val1_ok hp hs2
  obtain⟨z,l,rfl,hws,_⟩:=hp1
  subst hws
  obtain⟨ad,cap,er,hcap,hcells⟩:=rv_sl hv
  have hrun2:(execOp a2.eval od).run P w2= .ok (.value (.bool ad.isNone)) w2:=by
   simp only[execOp,y3,er]
   have:(Act.eval a2 (.const (.slice none 0 0)))= .slice none 0 0:=rfl
   rw[this]
   have h10:=run_equalIn_slice_nil (P:=P) w2 9999 T e ad l.length cap y5
   simp[eqGuard,binOp,Op.equal,Op.maxDepth,h10,run_program]
  unfold Oper.wp
  rw[hrun2,Oper.upon_value,y4]
  show wpL P ys _ _ _ _
  have hs3:=sim_dst hs2 (dst:=some t) (s:=.one (.bool ad.isNone) .pr) (fp:=[]) (r:=.bool ad.isNone) (one_bool (g:=g2)) (by simp) (by simp)
  have done:∀e3 S3,(e3= .normal∨e3= .ret)→finish (EE f) fn sg S3=some o→(∀(fr:Fr) (a:Act) (w:World) (N:Act→World→Prop) (Q:Exit→Act→World→Prop),fr.base=(EE f).base→(∀b β,fr.bb0 b=some β→b∈(EE f).kp)→SimX fr (Wr.apps [.slot t (.one (.bool ad.isNone) .pr)] S2) a w→
   (∀a' w',e3= .normal→SimX fr S3 a' w'→N a' w')→(∀x a' w',x≠ .normal→EndX (EE f).panT fr e3 S3 x a' w'→Q x a' w')→wpL P ys N Q a w)→
   wpL P ys (bodyPostD P fn (CallPost P (EE f) fn sg fr o) .normal) (bodyPostD P fn (CallPost P (EE f) fn sg fr o)) (a2.put (some t) (.bool ad.isNone)) w2:=fun e3 S3 he hfin hw3=>by
   have quiet:∀(a':Act) (w':World),SimX fr S3 a' w'→Leaves P fn a'.tmps (CallPost P (EE f) fn sg fr o) a'.defers .returning w':=fun a' w' ⟨g3,hs3⟩=>by
    rw[hs3.defers,hd0]
    obtain⟨ov,ob,rv,fo,fi,fob,fib,_,hl⟩:=leave_ok (P:=P) (hEE f) hs3 hfin
    exact⟨rv,hl.run,S3,a',g3,o,hs3,hfin,by unfold preO;rw[hnp];rfl,hl.run⟩
   refine hw3 fr _ w2 _ _ hb1 hbb hs3 (fun a' w' _ k=>quiet a' w' k) (fun x a' w' hx q=> ?_)
   cases x with
   |normal=>exact absurd rfl hx
   |ret=>exact quiet a' w' q.2
   |exit i=>have:=q.1;rcases he with k|k<;>(rw[k]at this;cases this)
   |panic ch=>obtain⟨n,k',_⟩:=q;rcases he with k|k<;>(rw[k]at k';cases k')
   |_=>exact q.elim
  dsimp only at h3
  cases hA:execL (EE f) G0 L0 ys (Wr.apps [.slot t (.one (.bool false) .pr)] S2) (finN (EE f) fn sg)with
  |none=>rw[hA]at h3;cases h3
  |some o0=>
  rw[hA]at h3
  simp only[Option.bind_some]at h3
  cases had:ad with
  |some ad'=>
   rw[had]at done hs3
   have ho:o0=o:=by
    cases l with
    |nil=>
     dsimp only at h3
     cases hB:execL (EE f) G0 L0 ys (Wr.apps [.slot t (.one (.bool true) .pr)] S2) (finN (EE f) fn sg)with
     |none=>rw[hB]at h3;cases h3
     |some o1=>rw[hB]at h3;simp only[Option.bind_some,Option.some.injEq,Prod.mk.injEq]at h3;exact h3.1
    |cons y l=>simp only[Option.some.injEq,Prod.mk.injEq]at h3;exact h3.1
   subst ho
   obtain⟨e3,S3,q1,q2,q3⟩:=ends false o0 hA
   exact done e3 S3 q1 q2 q3
  |none=>
   rw[had]at done hs3 hcells
   have hl0:l=[]:=by
    have h0:cap=0:=hcells
    rw[h0]at hcap
    exact List.eq_nil_of_length_eq_zero (by omega)
   subst hl0
   dsimp only at h3
   cases hB:execL (EE f) G0 L0 ys (Wr.apps [.slot t (.one (.bool true) .pr)] S2) (finN (EE f) fn sg)with
   |none=>rw[hB]at h3;cases h3
   |some o1=>
    rw[hB]at h3
    simp only[Option.bind_some,Option.some.injEq,Prod.mk.injEq]at h3
    obtain⟨rfl,rfl⟩:=h3
    have:=hq o1 rfl
    subst this
    obtain⟨e3,S3,q1,q2,q3⟩:=ends true o1 hB
    exact done e3 S3 q1 q2 q3
 case _=>
  cases x with
  |normal=>exact absurd rfl hx
  |exit i=>have:=q.1;cases this
  |ret=>have:=q.1;cases this
  |panic ch=>obtain⟨n,k,_⟩:=q;cases k
  |_=>exact q.elim
theorem callN_sound{T:Tab}{f:FuncId}{fn:Func}{sg:Sig}(hT:T.chk P=true)(hmo:P.follows .mixedOrders=true)
 (hf:P.funcs[rf f]? =some fn) (hsg:tlook T.sigs f=some sg) (hk:(fnChk fn sg&& !sg.pan&& !fn.body.isNone)=true) (hL:∀{R:Type},LoopsAre (R:=R) (T.env f) G0 L0 (bodyOf fn)) {vs o:List V} {q:Option (List V)} (h:callN (T.env f) fn sg vs=some (o,q)) (hq:∀o1,q=some o1→o1=o):CallOK P T.env f vs o:=by
 simp only[fnChk,Bool.and_eq_true,Bool.not_eq_true',decide_eq_true_eq]at hk
 exact callN_ok (EE:=T.env) (fun f=>T.ok hT f) (fun _ _=>rfl) (fun _ _=>rfl) (fun _ b hb=>List.mem_append_left _ (List.mem_range.2 hb)) hmo hf hsg hk.1.1.1.1 hk.1.1.1.2 hk.1.1.2 (Tab.base hsg) hk.1.2 hk.2 hL h hq
end
end Go.VM
