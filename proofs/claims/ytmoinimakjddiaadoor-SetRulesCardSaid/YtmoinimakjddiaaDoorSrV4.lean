/- The machine of values, told and shown true: a part. -/
import Derived.Test.YtmoinimakjddiaaDoorSrV3
import Derived.Below
set_option linter.unusedVariables false
set_option linter.unusedSimpArgs false
namespace Go.VM
def ArgsL(w:World):List PS→List Value→List V→Prop
 | [],rs,vs=>rs=[]∧vs=[]
 | .val m _::ps,rs,vs=>∃r rs' v vs',rs=r::rs'∧vs=v::vs'∧m.isPt=false∧RW w.heap (fun x=>x<w.heap.size) m v r []∧ArgsL w ps rs' vs'
 |_,_,_=>False
theorem ArgsL.get{w:World}:∀{ps:List PS} {rs:List Value} {vs:List V},ArgsL w ps rs vs→rs.length=ps.length∧(initP ps vs).1.length=ps.length∧(initP ps vs).2=[]∧
 ∀(i:Nat) (t:Sl×Nat),(initP ps vs).1[i]? =some t→∃r v m,rs[i]? =some r∧t.1= .one v m∧m.isPt=false∧RW w.heap (fun x=>x<w.heap.size) m v r []
 | [],rs,vs,h=>by rw[h.1,h.2];exact⟨rfl,rfl,rfl,by simp[initP]⟩
 | .val m kd::ps,rs,vs,⟨r,rs',v,vs',e1,e2,h1,h2,h⟩=>by
   subst e1;subst e2
   obtain⟨k1,k2,k3,k4⟩:=ArgsL.get h
   refine⟨by simp[k1],by simp[initP,k2],by simpa [initP]using k3,fun i t ht=> ?_⟩
   cases i with
   |zero=>
    simp only[initP,List.getElem?_cons_zero,Option.some.injEq]at ht
    subst ht
    exact⟨r,v,m,rfl,rfl,h1,h2⟩
   |succ i=>
    obtain⟨r1,v1,m1,q1,q2⟩:=k4 i t (by simpa [initP]using ht)
    exact⟨r1,v1,m1,by simpa using q1,q2⟩
 | .ptr _ _::_,_,_,h=>h.elim
 | .fix _::_,_,_,h=>h.elim
theorem law_calls{P:Program}{T:Tab}(hT:T.chk P=true){f:FuncId}{sg:Sig}(hsg:tlook T.sigs f=some sg)(hbx:sg.boxes=[]){kd:Kd}(hpn:sg.pan=false)(ho:sg.outs=[(.pr,kd)]){vs:List V}(hc:CallOK P T.env f vs [.bool true]){w:World}{args:Array Value}(ha:ArgsL w sg.params args.toList vs)(hio:sg.io=false:=by rfl)(htab:∀b o,T.tab=some (b,o)→TabH w.heap b o:=by intro _ _ h;cases h):
 Calls P (rf f) args w fun e w'=>e= .returned (.bool true)∧RowKit.Below w.heap.size w w':=by
 obtain⟨fn,sg',hf,hsg',hn1,hn2,hnt,_,hcalls⟩:=hc
 have hsg':tlook T.sigs f=some sg':=hsg'
 rw[hsg]at hsg';cases hsg'
 have hcalls:=hcalls hio
 obtain⟨k1,k2,k3,k4⟩:=ha.get
 have est:initSt sg fn.ntmps vs=⟨(initP sg.params vs).1++List.replicate (fn.ntmps-(initP sg.params vs).1.length) (.undef,0),initB sg.boxes (initP sg.params vs).2++List.replicate fn.ntmps none⟩:=rfl
 rw[hbx]at est
 have eb:initB [] (initP sg.params vs).2=[]:=rfl
 rw[eb,List.nil_append]at est
 have hlen:(args++Array.replicate (fn.ntmps-args.size) undef).size=fn.ntmps:=by
  have:args.size=sg.params.length:=by simpa using k1
  simp only[Array.size_append,Array.size_replicate];omega
 have hst:Start (initSt sg fn.ntmps vs) ⟨args++Array.replicate (fn.ntmps-args.size) undef,[]⟩ w (fun x=>x<w.heap.size) (fun _=>[]) (fun _=>none) 0:=by
  rw[est]
  constructor
  ·rfl
  ·show(args++_).size=_
   rw[hlen];simp only[List.length_append,List.length_replicate,k2];omega
  ·intro t x hx
   simp only at hx
   by_cases ht:t<sg.params.length
   ·rw[List.getElem?_append_left (by rw[k2];exact ht)]at hx
    obtain⟨r,v,m,q1,q2,q3,q4⟩:=k4 t x hx
    refine⟨r,?_,.inr ⟨v,m,q2,RW.one (g:=⟨_,_,_,_⟩) q4⟩⟩
    have hlt:t<args.size:=by have:args.size=sg.params.length:=by simpa using k1
                             omega
    show(args++_)[t]? =_
    rw[Array.getElem?_append_left hlt]
    simpa using q1
   ·rw[List.getElem?_append_right (by rw[k2];omega),List.getElem?_replicate]at hx
    split at hx
    ·rename_i hlt
     cases hx
     refine⟨undef,?_,.inl ⟨rfl,rfl⟩⟩
     have hsz:args.size=sg.params.length:=by simpa using k1
     show(args++_)[t]? =_
     rw[Array.getElem?_append_right (by omega),Array.getElem?_replicate,if_pos]
     rw[k2]at hlt;omega
    ·cases hx
  ·intro b cs hb
   rw[bx_eq]at hb
   simp only[List.getElem?_replicate]at hb
   split at hb<;>simp at hb
  ·exact fun _ _=>rfl
  ·exact fun _=>by simp
  ·exact fun _ _ _ h=>by cases h
  ·exact fun _ _ _ h=>by cases h
  ·exact fun _ _ _ h=>by cases h
  ·exact fun _ _ h=>by cases h
  ·exact fun _ _ h=>by cases h
  ·exact fun _ h=>h
  ·simp only[List.length_append,List.length_replicate,k2];omega
 obtain⟨fr,g,h0,hbase,hwr,hro0,hbb0,_,_,_,_,hs⟩:=sim_start hst
 refine(hcalls fr w g args hs h0 (by rw[hbase,hbx];rfl) (by simpa using k1) (fun _ b o e=>⟨by rw[h0];exact htab b o e,fun k=>by rcases(hwr b).1 k with⟨_,k⟩|⟨_,k⟩<;>simp at k⟩)).mono fun e w' hpost=> ?_
 cases e with
 |panicked ch=>obtain⟨_,_,_,_,_,_,k,_⟩:=hpost;rw[hpn]at k;cases k
 |outgrown=>exact hpost.elim
 |returned rv=>
  obtain⟨S',a',g',o1,hs',hfin,hpre,hres⟩:=hpost
  have hpre:[V.bool true]=o1:=by rw[hpre];unfold preO;rw[hpn];rfl
  subst hpre
  obtain⟨ov,ob,rv',fo,fi,fob,fib,e,hl⟩:=leave_ok (P:=P) (T.ok hT f) hs' hfin
  have e2:rv'=rv:=by have:=hl.run;rw[hres]at this;injection this with h1 _;exact h1.symm
  subst e2
  have hov:ov=[.bool true]:=by
   have:=hl.len
   rw[ho]at this
   match ov,this with
   | [v],_=>injection e with e1 _;rw[e1]
  have hr:=hl.res (fun x=>g'.ro x∨x∈fi) (fun _ h=>.inl h) (fun _ h=>.inr h)
  rw[ho,hov]at hr
  have hr:ResR w'.heap _ [(.bool true,.pr)] rv' fo:=hr
  obtain⟨_,hr⟩:=hr
  have hr2:[rv']=[.bool true]:=hr.2.1
  refine⟨by injection hr2 with hr2;rw[hr2],?_⟩
  refine⟨by rw[hs'.os,h0],by rw[hs'.tape,h0],by rw[hs'.output,h0],by have:=hs'.grow;rw[h0]at this;exact this,fun k hk=> ?_⟩
  have:=hs'.frame k (by rw[h0];exact hk) (fun hw=>by
   rcases(hwr k).1 hw with⟨l,hl⟩|⟨b,hb⟩
   ·cases hl
   ·cases hb)
  rw[this,h0]
def IsRow(k:IntKind)(w:World)(a:Option Addr)(len cap:Nat)(zs:List Int):Prop:=
 (a=none∧len=0∧cap=0∧zs=[])∨
 ∃x,a=some x∧len≤cap∧zs.length=cap∧∀i,i<zs.length→w.cell? (x.add i)=some (.int k (zs.getD i 0))
theorem row_cells{k:IntKind}{h:Hp}{ro:Nat→Prop}{c:Array Value}:∀{zs:List Int} {off:Nat},(∀i,i<zs.length→c[off+i]? =some (.int k (zs.getD i 0)))→REs h ro (zs.map fun n=>.int k n) c off 1
 | [],_,_=>trivial
 |z::zs,off,hz=>by
  have h0:=hz 0 (by simp)
  simp only[Nat.add_zero,List.getD_cons_zero]at h0
  have hs:seg c off 1=[.int k z]:=by
   apply List.ext_getElem?
   intro i
   rw[seg_getElem]
   cases i with
   |zero=>simp only[Nat.lt_add_one,if_true,Nat.add_zero];simpa using h0
   |succ i=>rw[if_neg (by omega)];simp
  refine⟨by rw[hs];rfl,by rw[hs];rfl,row_cells fun i hi=> ?_⟩
  have:=hz (i+1) (by simpa using hi)
  rw[show off+1+i=off+(i+1)by omega]
  simpa using this
theorem row_rw{k:IntKind}{w:World}{a:Option Addr}{len cap:Nat}{zs:List Int}(h:IsRow k w a len cap zs):RW w.heap (fun x=>x<w.heap.size) .ro (.sl 1 ((zs.take len).map fun n=>.int k n)) (.slice a len cap) []:=by
 rcases h with⟨rfl,rfl,rfl,rfl⟩|⟨x,rfl,hl,hz,hc⟩
 ·exact⟨⟨none,0,0,rfl,rfl,Nat.le_refl _,rfl⟩,rfl⟩
 ·refine⟨⟨some x,len,cap,rfl,by simp;omega,hl,fun hp=> ?_⟩,rfl⟩
  have hp:0<zs.length:=by simp at hp;omega
  have h0:=hc 0 hp
  obtain⟨b,o,s⟩:=x
  have hspot:s=none:=by
   cases s with
   |none=>rfl
   |some q=>
    exfalso
    have e:((⟨b,o,some q⟩:Addr).add 0).spot.isSome=true:=by unfold Addr.add;split<;>simp_all
    simp only[World.cell?]at h0
    split at h0
    ·rw[e]at h0;simp at h0
    ·cases h0
  subst hspot
  have hadd:∀i,(⟨b,o,none⟩:Addr).add i=⟨b,o+i,none⟩:=fun i=>by unfold Addr.add;split<;>simp_all
  rw[hadd]at h0
  cases hb:w.heap[b]? with
  |none=>simp[World.cell?,hb]at h0
  |some ob=>
   cases ob with
   |cells c ty fr=>
    refine⟨rfl,(Array.getElem?_eq_some_iff.1 hb).1,c,ty,fr,rfl,row_cells fun i hi=> ?_⟩
    have hi2:i<zs.length:=by simp at hi;omega
    have:=hc i hi2
    rw[hadd]at this
    simp only[World.cell?,hb]at this
    have e:(zs.take len).getD i 0=zs.getD i 0:=by
     rw[List.getD_eq_getElem?_getD,List.getD_eq_getElem?_getD,List.getElem?_take,if_pos (by simp at hi;omega)]
    rw[e];simpa using this
   |_=>simp[World.cell?,hb]at h0
theorem argsL_nil{w:World}:ArgsL w [] [] []:=⟨rfl,rfl⟩
theorem argsL_row{w:World}{ps:List PS}{kd:Kd}{k:IntKind}{a:Option Addr}{len cap:Nat}{zs:List Int}{rs:List Value}{vs:List V}(hr:IsRow k w a len cap zs)(h:ArgsL w ps rs vs):ArgsL w (.val .ro kd::ps) (.slice a len cap::rs) (.sl 1 ((zs.take len).map fun n=>.int k n)::vs):=⟨_,_,_,_,rfl,rfl,rfl,row_rw hr,h⟩
section
variable {R : Type} {Q : List V → Prop} {K : List V → Option R}
def W(Q:List V→Prop)(K:List V→Option R)(x:Option R):Prop:=∃o,Q o∧x=K o
theorem W_ret{o:List V}(h:Q o):W Q K (K o):=⟨o,h,rfl⟩
theorem W_dec{p:Prop}[Decidable p]{A B:Option R}(h1:p→W Q K A)(h2:¬p→W Q K B):W Q K (bif decide p then A else B):=by
 by_cases h:p
 ·rw[decide_eq_true h];exact h1 h
 ·rw[decide_eq_false h];exact h2 h
theorem W_eqY{a b:Int}{A B:Option R}(h:a=b)(h1:W Q K A):W Q K (bif a==b then A else B):=by rw[beq_iff_eq.2 h];exact h1
theorem W_not{c:Bool}{A B:Option R}(h:W Q K (bif c then B else A)):W Q K (bif !c then A else B):=by cases c<;>exact h
theorem W_and{c d:Bool}{A B:Option R}(h:W Q K (bif c then(bif d then A else B)else B)):W Q K (bif c&&d then A else B):=by cases c<;>exact h
theorem W_chk{c:Bool}{A B:Option R}(h:c=true)(h1:W Q K A):W Q K (bif c then A else B):=by rw[h];exact h1
theorem W_yes{p:Prop}[Decidable p]{A B:Option R}(h:p)(h1:W Q K A):W Q K (bif decide p then A else B):=by rw[decide_eq_true h];exact h1
theorem W_kd{k:IntKind}{A B:Option R}(h1:W Q K A):W Q K (bif decide (k=k)then A else B):=by rw[decide_eq_true rfl];exact h1
theorem W_asInt{k:IntKind}{n:Int}{F:IntKind→Int→Option R}(h:W Q K (F k n)):W Q K (V.asInt (.int k n) F):=h
theorem W_aI{k:IntKind}{n:Int}{F:Int→Option R}(h:W Q K (F n)):W Q K (aI k (.int k n) F):=W_asInt (F:=fun k' n=>bif decide (k'=k)then F n else none) (W_kd h)
theorem W_at{l:List V}{i:Int}{v:V}{F:V→Option R}{E:Option R}(h0:0≤i)(hv:l[i.toNat]? =some v)(h:W Q K (F v)):W Q K (bif(decide (0≤i)&&decide (i<((List.length l:Nat):Int)))then nthK l i.toNat F else E):=by
 have hi:=(List.getElem?_eq_some_iff.1 hv).1
 rw[decide_eq_true h0,decide_eq_true (show i<((l.length:Nat):Int)by omega)]
 show W Q K (nthK l i.toNat F)
 unfold nthK;rw[hv];exact h
theorem W_call{Q':List V→Prop}{F:List V→Option R}{x:Option R}(h:W Q' F x)(h1:∀o,Q' o→W Q K (F o)):W Q K x:=by
 obtain⟨o,q,e⟩:=h
 rw[e];exact h1 o q
end
def I64(n:Int):Prop:= -9223372036854775808≤n∧n≤9223372036854775807
theorem wrap_id{n:Int}(h: -9223372036854775808≤n∧n≤9223372036854775807):IntKind.i64.wrap n=n:=by
 unfold IntKind.wrap;simp[IntKind.signed,IntKind.bits];omega
def IntsS(l:List V):Prop:=∀v∈l,∃n,v= .int .i64 n∧I64 n
theorem ints_of{zs:List Int}{len:Nat}(hz:∀n∈zs,(Lit.int .i64 n).wf=true):IntsS ((zs.take len).map fun n=>.int .i64 n):=by
 intro v hv
 obtain⟨n,hn,rfl⟩:=List.mem_map.1 hv
 have:=hz n (List.mem_of_mem_take hn)
 simp[Lit.wf,IntKind.min,IntKind.max,IntKind.signed,IntKind.bits]at this
 exact⟨n,rfl,by unfold I64;omega⟩
def StrS(s:ByteArray):Prop:=s.size≤100
def ExprS:Nat→V→Prop
 |0,_=>False
 |d+1,v=>∃kind n nm kids,v= .agg [.int .i64 kind,.int .i64 n,.str nm,.sl 5 kids,.int .i64 0]∧I64 n∧StrS nm∧1≤kind∧kind≤19∧kids.length≤2∧(∀e∈kids,ExprS d e)∧
   (kind≤4∨(kind≤6∧kids.length=1)∨(7≤kind∧kids.length=2))
theorem ExprS.mono:∀{d:Nat} {v:V},ExprS d v→ExprS (d+1) v
 |0,v,h=>h.elim
 |d+1,v,⟨kind,n,nm,kids,h1,h2,h3,h4,h5,h6,h7,h8⟩=>⟨kind,n,nm,kids,h1,h2,h3,h4,h5,h6,fun e he=>ExprS.mono (h7 e he),h8⟩
def ActN(kind n:Int):Prop:=I64 n∧(kind=7→1≤n∧n≤16)
def ActS:Nat→V→Prop
 |0,_=>False
 |d+1,v=>∃kind nm ev x n th el,v= .agg [.int .i64 kind,.str nm,.str ev,.sl 5 x,.int .i64 n,.sl 8 th,.sl 8 el,.int .i64 0]∧ActN kind n∧StrS nm∧StrS ev∧1≤kind∧kind≤7∧x.length≤1∧(∀e∈x,ExprS 3 e)∧(kind=6→x.length=1)∧
   th.length≤2∧el.length≤2∧(∀a∈th,ActS d a)∧(∀a∈el,ActS d a)
theorem ActS.mono:∀{d:Nat} {v:V},ActS d v→ActS (d+1) v
 |0,v,h=>h.elim
 |d+1,v,⟨kind,nm,ev,x,n,th,el,h1,h2,h3,h4,h5,h6,h7,h8,h9,h10,h11,h12,h13⟩=>
  ⟨kind,nm,ev,x,n,th,el,h1,h2,h3,h4,h5,h6,h7,h8,h9,h10,h11,fun a ha=>ActS.mono (h12 a ha),fun a ha=>ActS.mono (h13 a ha)⟩
def BlockS(d:Nat)(l:List V):Prop:=l.length≤2∧∀a∈l,ActS d a
theorem BlockS.mono{d:Nat}{l:List V}(h:BlockS d l):BlockS (d+1) l:=⟨h.1,fun a ha=>(h.2 a ha).mono⟩
def TransS(v:V):Prop:=∃ev gd tg acts,v= .agg [.str ev,.sl 5 gd,.str tg,.sl 8 acts,.int .i64 0]∧StrS ev∧StrS tg∧gd.length≤1∧(∀e∈gd,ExprS 3 e)∧BlockS 3 acts
def kindV:V→Int
 | .agg (.int _ n::_)=>n
 |_=>0
def StateS(m:Nat):Nat→V→Prop
 |0,_=>False
 |d+1,v=>∃kind nm en ex tr kids,v= .agg [.int .i64 kind,.str nm,.sl 8 en,.sl 8 ex,.sl 5 tr,.sl 7 kids,.int .i64 0]∧StrS nm∧0<nm.size∧1≤kind∧kind≤4∧BlockS 2 en∧BlockS 2 ex∧tr.length≤m∧(∀t∈tr,TransS t)∧kids.length≤4∧(∀s∈kids,StateS m d s)∧
   (2<kind→kids=[]∧en=[]∧ex=[]∧tr=[])∧(∀s r,kids=s::r→kindV s≤2)∧(kind=2→kids≠[])
def stKids:V→List V
 | .agg [_,_,_,_,_,.sl _ k,_]=>k
 |_=>[]
def nsz:Nat→V→Nat
 |0,_=>0
 |d+1,v=>1+((stKids v).map (nsz d)).sum
def nszL(d:Nat)(l:List V):Nat:=(l.map (nsz d)).sum
structure Nd where
 kind:Int
 parent:Int
 last:Int
 init:Int
 entry:Int
 exit:Int
 name:ByteArray
def Nd.v(n:Nd):V:=.agg [.int .i64 n.kind,.int .i64 n.parent,.int .i64 n.last,.int .i64 n.init,.int .i64 n.entry,.int .i64 n.exit,.str n.name]
def stName:V→ByteArray
 | .agg [_,.str s,_,_,_,_,_]=>s
 |_=>⟨#[]⟩
def ndKind(v:V):Int:=if kindV v=3 then 4 else if kindV v=4 then 5 else if kindV v=2 then 3 else if(stKids v).length=0 then 1 else 2
def forest:Nat→Int→Nat→List V→List Nd
 |0,_,_,_=>[]
 |_+1,_,_,[]=>[]
 |d+1,up,at_,s::r=>⟨ndKind s,up,(at_:Int)+nszL d (stKids s),if ndKind s=2 then(at_:Int)+1 else-1,-1,-1,stName s⟩::(forest d at_ (at_+1) (stKids s)++forest (d+1) up (at_+1+nszL d (stKids s)) r)
termination_by d _ _ l=>(d,l.length)
def inN(l:List Nd)(a b:Int):Bool:=decide (0≤a∧a<l.length∧0≤b∧b<l.length∧a≥b)&&(match l[b.toNat]? with|some n=>decide (a≤n.last)|none=>false)
def findGo(s:ByteArray):List Nd→Nat→Int
 | [],_=> -1
 |n::r,i=>if n.name.toList=s.toList then i else findGo s r (i+1)
def findN(l:List Nd)(s:ByteArray):Int:=findGo s (l.drop 1) 1
theorem findGo_has{s:ByteArray}:∀{r:List Nd} {i:Nat},(∃n∈r,n.name=s)→findGo s r i≠ -1
 | [],i,h=>by obtain⟨_,h,_⟩:=h;cases h
 |n::r,i,⟨m,hm,e⟩=>by
  unfold findGo
  by_cases h:n.name.toList=s.toList
  ·rw[if_pos h];omega
  ·rw[if_neg h]
   refine findGo_has ⟨m,?_,e⟩
   rcases List.mem_cons.1 hm with rfl|hm
   ·rw[e]at h;exact absurd rfl h
   ·exact hm
section
variable {R : Type} {Q : List V → Prop} {K : List V → Option R}
end
def Nd.core(n:Nd):Nd:={n with entry:= -1,exit:= -1}
def CoreEq(a b:List Nd):Prop:=a.map Nd.core=b.map Nd.core
theorem CoreEq.len{a b:List Nd}(h:CoreEq a b):a.length=b.length:=by have:=congrArg List.length h;simpa using this
theorem forest_kid{d:Nat}{s:V}:∀{l:List V} {up:Int} {at_:Nat},s∈l→∃up' at',(∃n∈forest (d+1) up at_ l,n.name=stName s)∧∀n∈forest d up' at' (stKids s),n∈forest (d+1) up at_ l
 | [],up,at_,h=>by cases h
 |a::r,up,at_,h=>by
  rw[forest]
  rcases List.mem_cons.1 h with rfl|h
  ·exact⟨at_,at_+1,⟨_,List.mem_cons_self,rfl⟩,fun n hn=>List.mem_cons_of_mem _ (List.mem_append_left _ hn)⟩
  ·obtain⟨up',at',⟨n,h1,h2⟩,h3⟩:=forest_kid (up:=up) (at_:=at_+1+nszL d (stKids a)) h
   exact⟨up',at',⟨n,List.mem_cons_of_mem _ (List.mem_append_right _ h1),h2⟩,fun m hm=>List.mem_cons_of_mem _ (List.mem_append_right _ (h3 m hm))⟩
def NamesIn(ns:List Nd)(d:Nat)(l:List V):Prop:=∃up at_,∀n∈forest d up at_ l,∃m∈ns.drop 1,m.name=n.name
theorem NamesIn.mem{ns:List Nd}{d:Nat}{l:List V}{s:V}(h:NamesIn ns (d+1) l)(hs:s∈l):findN ns (stName s)≠ -1∧NamesIn ns d (stKids s):=by
 obtain⟨up,at_,h⟩:=h
 obtain⟨up',at',⟨n,h1,h2⟩,h3⟩:=forest_kid (up:=up) (at_:=at_) hs
 refine⟨?_,up',at',fun n hn=>h n (h3 n hn)⟩
 obtain⟨m,m1,m2⟩:=h n h1
 exact findGo_has ⟨m,m1,by rw[m2,h2]⟩
class Un {R:Type} (x:Option R) (y:outParam (Option R)):Prop where
 eq:x=y
theorem U1{R:Type}{Q:List V→Prop}{K:List V→Option R}{x y:Option R}[h:Un x y](k:W Q K y):W Q K x:=by rw[h.eq];exact k
section
variable {R : Type} {k : IntKind} {n : Int} {r l : List V} {s : ByteArray} {z : Nat} {b : Bool} {a b' c d e f g h : V}
instance {F:Int→List V→Option R}:Un (uI k (.int k n::r) F) (F n r):=⟨by unfold uI V.asInt;simp[unCons]⟩
instance {F:ByteArray→List V→Option R}:Un (uS (.str s::r) F) (F s r):=⟨rfl⟩
instance {F:List V→List V→Option R}:Un (uL z (.sl z l::r) F) (F l r):=⟨by unfold uL V.asSl;simp[unCons]⟩
instance {F:List V→List V→Option R}:Un (uA (.agg l::r) F) (F l r):=⟨rfl⟩
instance {F:Bool→List V→Option R}:Un (uB (.bool b::r) F) (F b r):=⟨rfl⟩
instance {F:Int→Option R}:Un (aI k (.int k n) F) (F n):=⟨by unfold aI V.asInt;simp⟩
instance {F:List V→Option R}:Un (aL z (.sl z l) F) (F l):=⟨by unfold aL V.asSl;simp⟩
instance {F:V→V→V→Option R}:Un (ca3 (.agg [a,b',c]) F) (F a b' c):=⟨rfl⟩
instance {F:V→V→V→Option R}:Un (ce3 [a,b',c] F) (F a b' c):=⟨rfl⟩
instance {F:V→V→V→V→Option R}:Un (ca4 (.agg [a,b',c,d]) F) (F a b' c d):=⟨rfl⟩
instance {F:V→V→V→V→Option R}:Un (ce4 [a,b',c,d] F) (F a b' c d):=⟨rfl⟩
instance {F:V→V→V→V→V→Option R}:Un (ca5 (.agg [a,b',c,d,e]) F) (F a b' c d e):=⟨rfl⟩
instance {F:V→V→V→V→V→Option R}:Un (ce5 [a,b',c,d,e] F) (F a b' c d e):=⟨rfl⟩
instance {F:V→V→V→V→V→V→Option R}:Un (ca6 (.agg [a,b',c,d,e,f]) F) (F a b' c d e f):=⟨rfl⟩
instance {F:V→V→V→V→V→V→Option R}:Un (ce6 [a,b',c,d,e,f] F) (F a b' c d e f):=⟨rfl⟩
instance {F:V→V→V→V→V→V→V→Option R}:Un (ca7 (.agg [a,b',c,d,e,f,g]) F) (F a b' c d e f g):=⟨rfl⟩
instance {F:V→V→V→V→V→V→V→Option R}:Un (ce7 [a,b',c,d,e,f,g] F) (F a b' c d e f g):=⟨rfl⟩
instance {F:V→V→V→V→V→V→V→V→Option R}:Un (ca8 (.agg [a,b',c,d,e,f,g,h]) F) (F a b' c d e f g h):=⟨rfl⟩
instance {F:V→V→V→V→V→V→V→V→Option R}:Un (ce8 [a,b',c,d,e,f,g,h] F) (F a b' c d e f g h):=⟨rfl⟩
instance {n:Nd} {F:V→V→V→V→V→V→V→Option R}:Un (ca7 n.v F) (F (.int .i64 n.kind) (.int .i64 n.parent) (.int .i64 n.last) (.int .i64 n.init) (.int .i64 n.entry) (.int .i64 n.exit) (.str n.name)):=⟨rfl⟩
instance {F:V→List V→Option R}:Un (unCons (a::r) F) (F a r):=⟨rfl⟩
instance {x:Option R}:Un (unNil [] x) x:=⟨rfl⟩
instance {F:IntKind→Int→Option R}:Un (V.asInt (.int k n) F) (F k n):=⟨rfl⟩
instance {F:Bool→Option R}:Un (V.asBool (.bool b) F) (F b):=⟨rfl⟩
instance {F:ByteArray→Option R}:Un (V.asStr (.str s) F) (F s):=⟨rfl⟩
instance {F:Nat→List V→Option R}:Un (V.asSl (.sl z l) F) (F z l):=⟨rfl⟩
instance {F:List V→Option R}:Un (V.asAgg (.agg l) F) (F l):=⟨rfl⟩
instance {A B:Option R}:Un (bif decide (k=k)then A else B) A:=⟨by simp⟩
instance {A B:Option R}:Un (bif z==z then A else B) A:=⟨by simp⟩
end
structure Seg (up:Int) (at_:Nat) (F:List Nd):Prop where
 par:∀(j:Nat) n,F[j]? =some n→n.parent=up∨((at_:Int)≤n.parent∧n.parent<at_+j)
 last:∀(j:Nat) n,F[j]? =some n→(at_+j:Int)≤n.last∧n.last<at_+F.length
 lam:∀(i j:Nat) n m,F[i]? =some n→F[j]? =some m→i<j→((at_+j:Int)≤n.last↔(at_+i:Int)≤m.parent∧m.parent≤n.last)
 kid:∀(j:Nat) m,F[j]? =some m→m.parent≠up→∃p,F[(m.parent-at_).toNat]? =some p∧(p.kind=2∨p.kind=3)
 first:∀(i:Nat) n,F[i]? =some n→(n.kind=2∨n.kind=3)→∃m,F[i+1]? =some m∧m.parent=at_+i∧m.kind≤3
 init:∀(i:Nat) n,F[i]? =some n→n.init=if n.kind=2 then(at_+i:Int)+1 else-1
 kinds:∀(i:Nat) n,F[i]? =some n→1≤n.kind∧n.kind≤5
theorem StateS.kids{m d:Nat}{v:V}(h:StateS m (d+1) v):(∀s∈stKids v,StateS m d s)∧(∀s r,stKids v=s::r→kindV s≤2)∧1≤ndKind v∧ndKind v≤5∧((ndKind v=2∨ndKind v=3)→stKids v≠[])∧(¬(ndKind v=2∨ndKind v=3)→stKids v=[]):=by
 obtain⟨kind,nm,en,ex,tr,kids,rfl,x1,x2,x3,x4,x5,x6,x7,x8,x9,x10,x11,x12,x13⟩:=h
 have e:ndKind (.agg [.int .i64 kind,.str nm,.sl 8 en,.sl 8 ex,.sl 5 tr,.sl 7 kids,.int .i64 0])=if kind=3 then 4 else if kind=4 then 5 else if kind=2 then 3 else if kids.length=0 then 1 else 2:=rfl
 rw[e]
 refine⟨x10,x12,?_,?_,fun h=> ?_,fun h=> ?_⟩
 ·repeat' split
  all_goals omega
 ·repeat' split
  all_goals omega
 ·show kids≠[]
  intro hk
  by_cases h3:kind=3
  ·simp[h3]at h
  by_cases h4:kind=4
  ·simp[h4]at h
  by_cases h2:kind=2
  ·exact x13 h2 hk
  ·simp[h2,h3,h4,hk]at h
 ·show kids=[]
  by_cases h3:kind=3
  ·exact(x11 (by omega)).1
  by_cases h4:kind=4
  ·exact(x11 (by omega)).1
  by_cases h2:kind=2
  ·simp[h2]at h
  ·rw[if_neg h3,if_neg h4,if_neg h2]at h
   by_cases hk:kids.length=0
   ·exact List.eq_nil_of_length_eq_zero hk
   ·rw[if_neg hk]at h;simp at h
structure Tree (ns:List Nd):Prop where
 seg:Seg (-1) 0 ns
 pos:1<ns.length
 par0:∀(j:Nat) n,ns[j]? =some n→0<j→0≤n.parent
 root:∀n,ns[0]? =some n→n.parent= -1∧n.kind=2∧n.last=(ns.length:Int)-1
def ivs(l:List Int):List V:=l.map fun n=>.int .i64 n
theorem ivs_len{a:List Int}:(ivs a).length=a.length:=by simp[ivs]
theorem Tree.lt{ns:List Nd}{i:Nat}{n:Nd}(h:ns[i]? =some n):i<ns.length:=(List.getElem?_eq_some_iff.1 h).1
theorem ivs_at{l:List Int}{i:Nat}{n:Int}(h:l[i]? =some n):(ivs l)[i]? =some (.int .i64 n):=by unfold ivs;rw[List.getElem?_map,h];rfl
end Go.VM
