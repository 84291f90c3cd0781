/- The machine of values, told and shown true: a part. -/
import Derived.Test.YtnimfaaefdlepaaGreatTeV3
import Derived.Below
set_option linter.unusedVariables false
set_option linter.unusedSimpArgs false
namespace Go.VM
def ArgsL(w:World):List PS→List Value→List V→Prop
 | [],rs,vs=>rs=[]∧vs=[]
 | .val m _::ps,rs,vs=>∃r rs' v vs',rs=r::rs'∧vs=v::vs'∧m.isPt=false∧RW w.heap (fun x=>x<w.heap.size) m v r []∧ArgsL w ps rs' vs'
 |_,_,_=>False
theorem ArgsL.get{w:World}:∀{ps:List PS} {rs:List Value} {vs:List V},ArgsL w ps rs vs→rs.length=ps.length∧(initP ps vs).1.length=ps.length∧(initP ps vs).2=[]∧
 ∀(i:Nat) (t:Sl×Nat),(initP ps vs).1[i]? =some t→∃r v m,rs[i]? =some r∧t.1= .one v m∧m.isPt=false∧RW w.heap (fun x=>x<w.heap.size) m v r []
 | [],rs,vs,h=>by rw[h.1,h.2];exact⟨rfl,rfl,rfl,by simp[initP]⟩
 | .val m kd::ps,rs,vs,⟨r,rs',v,vs',e1,e2,h1,h2,h⟩=>by
   subst e1;subst e2
   obtain⟨k1,k2,k3,k4⟩:=ArgsL.get h
   refine⟨by simp[k1],by simp[initP,k2],by simpa [initP]using k3,fun i t ht=> ?_⟩
   cases i with
   |zero=>
    simp only[initP,List.getElem?_cons_zero,Option.some.injEq]at ht
    subst ht
    exact⟨r,v,m,rfl,rfl,h1,h2⟩
   |succ i=>
    obtain⟨r1,v1,m1,q1,q2⟩:=k4 i t (by simpa [initP]using ht)
    exact⟨r1,v1,m1,by simpa using q1,q2⟩
 | .ptr _ _::_,_,_,h=>h.elim
 | .fix _::_,_,_,h=>h.elim
theorem law_calls{P:Program}{T:Tab}(hT:T.chk P=true){f:FuncId}{sg:Sig}(hsg:tlook T.sigs f=some sg)(hbx:sg.boxes=[]){kd:Kd}(hpn:sg.pan=false)(ho:sg.outs=[(.pr,kd)]){vs:List V}(hc:CallOK P T.env f vs [.bool true]){w:World}{args:Array Value}(ha:ArgsL w sg.params args.toList vs)(hio:sg.io=false:=by rfl):
 Calls P (rf f) args w fun e w'=>e= .returned (.bool true)∧RowKit.Below w.heap.size w w':=by
 obtain⟨fn,sg',hf,hsg',hn1,hn2,hnt,_,hcalls⟩:=hc
 have hsg':tlook T.sigs f=some sg':=hsg'
 rw[hsg]at hsg';cases hsg'
 have hcalls:=hcalls hio
 obtain⟨k1,k2,k3,k4⟩:=ha.get
 have est:initSt sg fn.ntmps vs=⟨(initP sg.params vs).1++List.replicate (fn.ntmps-(initP sg.params vs).1.length) (.undef,0),initB sg.boxes (initP sg.params vs).2++List.replicate fn.ntmps none⟩:=rfl
 rw[hbx]at est
 have eb:initB [] (initP sg.params vs).2=[]:=rfl
 rw[eb,List.nil_append]at est
 have hlen:(args++Array.replicate (fn.ntmps-args.size) undef).size=fn.ntmps:=by
  have:args.size=sg.params.length:=by simpa using k1
  simp only[Array.size_append,Array.size_replicate];omega
 have hst:Start (initSt sg fn.ntmps vs) ⟨args++Array.replicate (fn.ntmps-args.size) undef,[]⟩ w (fun x=>x<w.heap.size) (fun _=>[]) (fun _=>none) 0:=by
  rw[est]
  constructor
  ·rfl
  ·show(args++_).size=_
   rw[hlen];simp only[List.length_append,List.length_replicate,k2];omega
  ·intro t x hx
   simp only at hx
   by_cases ht:t<sg.params.length
   ·rw[List.getElem?_append_left (by rw[k2];exact ht)]at hx
    obtain⟨r,v,m,q1,q2,q3,q4⟩:=k4 t x hx
    refine⟨r,?_,.inr ⟨v,m,q2,RW.one (g:=⟨_,_,_,_⟩) q4⟩⟩
    have hlt:t<args.size:=by have:args.size=sg.params.length:=by simpa using k1
                             omega
    show(args++_)[t]? =_
    rw[Array.getElem?_append_left hlt]
    simpa using q1
   ·rw[List.getElem?_append_right (by rw[k2];omega),List.getElem?_replicate]at hx
    split at hx
    ·rename_i hlt
     cases hx
     refine⟨undef,?_,.inl ⟨rfl,rfl⟩⟩
     have hsz:args.size=sg.params.length:=by simpa using k1
     show(args++_)[t]? =_
     rw[Array.getElem?_append_right (by omega),Array.getElem?_replicate,if_pos]
     rw[k2]at hlt;omega
    ·cases hx
  ·intro b cs hb
   rw[bx_eq]at hb
   simp only[List.getElem?_replicate]at hb
   split at hb<;>simp at hb
  ·exact fun _ _=>rfl
  ·exact fun _=>by simp
  ·exact fun _ _ _ h=>by cases h
  ·exact fun _ _ _ h=>by cases h
  ·exact fun _ _ _ h=>by cases h
  ·exact fun _ _ h=>by cases h
  ·exact fun _ _ h=>by cases h
  ·exact fun _ h=>h
  ·simp only[List.length_append,List.length_replicate,k2];omega
 obtain⟨fr,g,h0,hbase,hwr,hro0,hbb0,_,_,_,_,hs⟩:=sim_start hst
 refine(hcalls fr w g args hs h0 (by rw[hbase,hbx];rfl) (by simpa using k1)).mono fun e w' hpost=> ?_
 cases e with
 |panicked ch=>obtain⟨_,_,_,_,_,_,k,_⟩:=hpost;rw[hpn]at k;cases k
 |outgrown=>exact hpost.elim
 |returned rv=>
  obtain⟨S',a',g',o1,hs',hfin,hpre,hres⟩:=hpost
  have hpre:[V.bool true]=o1:=by rw[hpre];unfold preO;rw[hpn];rfl
  subst hpre
  obtain⟨ov,ob,rv',fo,fi,fob,fib,e,hl⟩:=leave_ok (P:=P) (T.ok hT f) hs' hfin
  have e2:rv'=rv:=by have:=hl.run;rw[hres]at this;injection this with h1 _;exact h1.symm
  subst e2
  have hov:ov=[.bool true]:=by
   have:=hl.len
   rw[ho]at this
   match ov,this with
   | [v],_=>injection e with e1 _;rw[e1]
  have hr:=hl.res (fun x=>g'.ro x∨x∈fi) (fun _ h=>.inl h) (fun _ h=>.inr h)
  rw[ho,hov]at hr
  have hr:ResR w'.heap _ [(.bool true,.pr)] rv' fo:=hr
  obtain⟨_,hr⟩:=hr
  have hr2:[rv']=[.bool true]:=hr.2.1
  refine⟨by injection hr2 with hr2;rw[hr2],?_⟩
  refine⟨by rw[hs'.os,h0],by rw[hs'.tape,h0],by rw[hs'.output,h0],by have:=hs'.grow;rw[h0]at this;exact this,fun k hk=> ?_⟩
  have:=hs'.frame k (by rw[h0];exact hk) (fun hw=>by
   rcases(hwr k).1 hw with⟨l,hl⟩|⟨b,hb⟩
   ·cases hl
   ·cases hb)
  rw[this,h0]
def IsRow(k:IntKind)(w:World)(a:Option Addr)(len cap:Nat)(zs:List Int):Prop:=
 (a=none∧len=0∧cap=0∧zs=[])∨
 ∃x,a=some x∧len≤cap∧zs.length=cap∧∀i,i<zs.length→w.cell? (x.add i)=some (.int k (zs.getD i 0))
theorem row_cells{k:IntKind}{h:Hp}{ro:Nat→Prop}{c:Array Value}:∀{zs:List Int} {off:Nat},(∀i,i<zs.length→c[off+i]? =some (.int k (zs.getD i 0)))→REs h ro (zs.map fun n=>.int k n) c off 1
 | [],_,_=>trivial
 |z::zs,off,hz=>by
  have h0:=hz 0 (by simp)
  simp only[Nat.add_zero,List.getD_cons_zero]at h0
  have hs:seg c off 1=[.int k z]:=by
   apply List.ext_getElem?
   intro i
   rw[seg_getElem]
   cases i with
   |zero=>simp only[Nat.lt_add_one,if_true,Nat.add_zero];simpa using h0
   |succ i=>rw[if_neg (by omega)];simp
  refine⟨by rw[hs];rfl,by rw[hs];rfl,row_cells fun i hi=> ?_⟩
  have:=hz (i+1) (by simpa using hi)
  rw[show off+1+i=off+(i+1)by omega]
  simpa using this
theorem row_rw{k:IntKind}{w:World}{a:Option Addr}{len cap:Nat}{zs:List Int}(h:IsRow k w a len cap zs):RW w.heap (fun x=>x<w.heap.size) .ro (.sl 1 ((zs.take len).map fun n=>.int k n)) (.slice a len cap) []:=by
 rcases h with⟨rfl,rfl,rfl,rfl⟩|⟨x,rfl,hl,hz,hc⟩
 ·exact⟨⟨none,0,0,rfl,rfl,Nat.le_refl _,rfl⟩,rfl⟩
 ·refine⟨⟨some x,len,cap,rfl,by simp;omega,hl,fun hp=> ?_⟩,rfl⟩
  have hp:0<zs.length:=by simp at hp;omega
  have h0:=hc 0 hp
  obtain⟨b,o,s⟩:=x
  have hspot:s=none:=by
   cases s with
   |none=>rfl
   |some q=>
    exfalso
    have e:((⟨b,o,some q⟩:Addr).add 0).spot.isSome=true:=by unfold Addr.add;split<;>simp_all
    simp only[World.cell?]at h0
    split at h0
    ·rw[e]at h0;simp at h0
    ·cases h0
  subst hspot
  have hadd:∀i,(⟨b,o,none⟩:Addr).add i=⟨b,o+i,none⟩:=fun i=>by unfold Addr.add;split<;>simp_all
  rw[hadd]at h0
  cases hb:w.heap[b]? with
  |none=>simp[World.cell?,hb]at h0
  |some ob=>
   cases ob with
   |cells c ty fr=>
    refine⟨rfl,(Array.getElem?_eq_some_iff.1 hb).1,c,ty,fr,rfl,row_cells fun i hi=> ?_⟩
    have hi2:i<zs.length:=by simp at hi;omega
    have:=hc i hi2
    rw[hadd]at this
    simp only[World.cell?,hb]at this
    have e:(zs.take len).getD i 0=zs.getD i 0:=by
     rw[List.getD_eq_getElem?_getD,List.getD_eq_getElem?_getD,List.getElem?_take,if_pos (by simp at hi;omega)]
    rw[e];simpa using this
   |_=>simp[World.cell?,hb]at h0
def IsTxs(w:World)(a:Option Addr)(len cap:Nat)(ss:List ByteArray):Prop:=
 (a=none∧len=0∧cap=0∧ss=[])∨
 ∃x,a=some x∧len≤cap∧ss.length=cap∧∀i,i<ss.length→w.cell? (x.add i)=some (.string (ss.getD i ByteArray.empty))
theorem txs_cells{h:Hp}{ro:Nat→Prop}{c:Array Value}:∀{ss:List ByteArray} {off:Nat},(∀i,i<ss.length→c[off+i]? =some (.string (ss.getD i ByteArray.empty)))→REs h ro (ss.map V.str) c off 1
 | [],_,_=>trivial
 |z::ss,off,hz=>by
  have h0:=hz 0 (by simp)
  simp only[Nat.add_zero,List.getD_cons_zero]at h0
  have hs:seg c off 1=[.string z]:=by
   apply List.ext_getElem?
   intro i
   rw[seg_getElem]
   cases i with
   |zero=>simp only[Nat.lt_add_one,if_true,Nat.add_zero];simpa using h0
   |succ i=>rw[if_neg (by omega)];simp
  refine⟨by rw[hs];rfl,by rw[hs];rfl,txs_cells fun i hi=> ?_⟩
  have:=hz (i+1) (by simpa using hi)
  rw[show off+1+i=off+(i+1)by omega]
  simpa using this
theorem txs_rw{w:World}{a:Option Addr}{len cap:Nat}{ss:List ByteArray}(h:IsTxs w a len cap ss):RW w.heap (fun x=>x<w.heap.size) .ro (.sl 1 ((ss.take len).map V.str)) (.slice a len cap) []:=by
 rcases h with⟨rfl,rfl,rfl,rfl⟩|⟨x,rfl,hl,hz,hc⟩
 ·exact⟨⟨none,0,0,rfl,rfl,Nat.le_refl _,rfl⟩,rfl⟩
 ·refine⟨⟨some x,len,cap,rfl,by simp;omega,hl,fun hp=> ?_⟩,rfl⟩
  have hp:0<ss.length:=by simp at hp;omega
  have h0:=hc 0 hp
  obtain⟨b,o,s⟩:=x
  have hspot:s=none:=by
   cases s with
   |none=>rfl
   |some q=>
    exfalso
    have e:((⟨b,o,some q⟩:Addr).add 0).spot.isSome=true:=by unfold Addr.add;split<;>simp_all
    simp only[World.cell?]at h0
    split at h0
    ·rw[e]at h0;simp at h0
    ·cases h0
  subst hspot
  have hadd:∀i,(⟨b,o,none⟩:Addr).add i=⟨b,o+i,none⟩:=fun i=>by unfold Addr.add;split<;>simp_all
  rw[hadd]at h0
  cases hb:w.heap[b]? with
  |none=>simp[World.cell?,hb]at h0
  |some ob=>
   cases ob with
   |cells c ty fr=>
    refine⟨rfl,(Array.getElem?_eq_some_iff.1 hb).1,c,ty,fr,rfl,txs_cells fun i hi=> ?_⟩
    have hi2:i<ss.length:=by simp at hi;omega
    have:=hc i hi2
    rw[hadd]at this
    simp only[World.cell?,hb]at this
    have e:(ss.take len).getD i ByteArray.empty=ss.getD i ByteArray.empty:=by
     rw[List.getD_eq_getElem?_getD,List.getD_eq_getElem?_getD,List.getElem?_take,if_pos (by simp at hi;omega)]
    rw[e];simpa using this
   |_=>simp[World.cell?,hb]at h0
theorem int_rw{k:IntKind}{n:Int}{w:World}:RW w.heap (fun x=>x<w.heap.size) .pr (.int k n) (.int k n) []:=⟨rfl,rfl,rfl⟩
theorem argsL_nil{w:World}:ArgsL w [] [] []:=⟨rfl,rfl⟩
theorem argsL_int{w:World}{ps:List PS}{kd:Kd}{k:IntKind}{n:Int}{rs:List Value}{vs:List V}(h:ArgsL w ps rs vs):ArgsL w (.val .pr kd::ps) (.int k n::rs) (.int k n::vs):=⟨_,_,_,_,rfl,rfl,rfl,int_rw,h⟩
theorem argsL_bool{w:World}{ps:List PS}{kd:Kd}{b:Bool}{rs:List Value}{vs:List V}(h:ArgsL w ps rs vs):ArgsL w (.val .pr kd::ps) (.bool b::rs) (.bool b::vs):=⟨_,_,_,_,rfl,rfl,rfl,⟨rfl,rfl,rfl⟩,h⟩
theorem argsL_row{w:World}{ps:List PS}{kd:Kd}{k:IntKind}{a:Option Addr}{len cap:Nat}{zs:List Int}{rs:List Value}{vs:List V}(hr:IsRow k w a len cap zs)(h:ArgsL w ps rs vs):ArgsL w (.val .ro kd::ps) (.slice a len cap::rs) (.sl 1 ((zs.take len).map fun n=>.int k n)::vs):=⟨_,_,_,_,rfl,rfl,rfl,row_rw hr,h⟩
theorem argsL_txs{w:World}{ps:List PS}{kd:Kd}{a:Option Addr}{len cap:Nat}{ss:List ByteArray}{rs:List Value}{vs:List V}(hr:IsTxs w a len cap ss)(h:ArgsL w ps rs vs):ArgsL w (.val .ro kd::ps) (.slice a len cap::rs) (.sl 1 ((ss.take len).map .str)::vs):=⟨_,_,_,_,rfl,rfl,rfl,txs_rw hr,h⟩
section
variable {R : Type} {Q : List V → Prop} {K : List V → Option R}
def W(Q:List V→Prop)(K:List V→Option R)(x:Option R):Prop:=∃o,Q o∧x=K o
theorem W_ret{o:List V}(h:Q o):W Q K (K o):=⟨o,h,rfl⟩
theorem W_dec{p:Prop}[Decidable p]{A B:Option R}(h1:p→W Q K A)(h2:¬p→W Q K B):W Q K (bif decide p then A else B):=by
 by_cases h:p
 ·rw[decide_eq_true h];exact h1 h
 ·rw[decide_eq_false h];exact h2 h
theorem W_beqI{a b:Int}{A B:Option R}(h1:a=b→W Q K A)(h2:a≠b→W Q K B):W Q K (bif a==b then A else B):=by
 by_cases h:a=b
 ·rw[beq_iff_eq.2 h];exact h1 h
 ·rw[beq_eq_false_iff_ne.2 h];exact h2 h
theorem W_eqY{a b:Int}{A B:Option R}(h:a=b)(h1:W Q K A):W Q K (bif a==b then A else B):=by rw[beq_iff_eq.2 h];exact h1
theorem W_eqN{a b:Int}{A B:Option R}(h:a≠b)(h1:W Q K B):W Q K (bif a==b then A else B):=by rw[beq_eq_false_iff_ne.2 h];exact h1
theorem W_bool{c:Bool}{A B:Option R}(h1:c=true→W Q K A)(h2:c=false→W Q K B):W Q K (bif c then A else B):=by
 cases c
 ·exact h2 rfl
 ·exact h1 rfl
theorem W_not{c:Bool}{A B:Option R}(h:W Q K (bif c then B else A)):W Q K (bif !c then A else B):=by cases c<;>exact h
theorem W_and{c d:Bool}{A B:Option R}(h:W Q K (bif c then(bif d then A else B)else B)):W Q K (bif c&&d then A else B):=by cases c<;>exact h
theorem W_chk{c:Bool}{A B:Option R}(h:c=true)(h1:W Q K A):W Q K (bif c then A else B):=by rw[h];exact h1
theorem W_chk'{c:Bool}{A B:Option R}(h:c=false)(h1:W Q K B):W Q K (bif c then A else B):=by rw[h];exact h1
theorem W_yes{p:Prop}[Decidable p]{A B:Option R}(h:p)(h1:W Q K A):W Q K (bif decide p then A else B):=by rw[decide_eq_true h];exact h1
theorem W_no{p:Prop}[Decidable p]{A B:Option R}(h:¬p)(h1:W Q K B):W Q K (bif decide p then A else B):=by rw[decide_eq_false h];exact h1
theorem W_kd{k:IntKind}{A B:Option R}(h1:W Q K A):W Q K (bif decide (k=k)then A else B):=by rw[decide_eq_true rfl];exact h1
theorem W_z{z:Nat}{A B:Option R}(h1:W Q K A):W Q K (bif z==z then A else B):=by rw[beq_self_eq_true];exact h1
theorem W_unCons{v:V}{r:List V}{F:V→List V→Option R}(h:W Q K (F v r)):W Q K (unCons (v::r) F):=h
theorem W_unNil{x:Option R}(h:W Q K x):W Q K (unNil [] x):=h
theorem W_asInt{k:IntKind}{n:Int}{F:IntKind→Int→Option R}(h:W Q K (F k n)):W Q K (V.asInt (.int k n) F):=h
theorem W_asStr{s:ByteArray}{F:ByteArray→Option R}(h:W Q K (F s)):W Q K (V.asStr (.str s) F):=h
theorem W_asSl{z:Nat}{l:List V}{F:Nat→List V→Option R}(h:W Q K (F z l)):W Q K (V.asSl (.sl z l) F):=h
theorem W_asAgg{l:List V}{F:List V→Option R}(h:W Q K (F l)):W Q K (V.asAgg (.agg l) F):=h
theorem W_aI{k:IntKind}{n:Int}{F:Int→Option R}(h:W Q K (F n)):W Q K (aI k (.int k n) F):=W_asInt (F:=fun k' n=>bif decide (k'=k)then F n else none) (W_kd h)
theorem W_aL{z:Nat}{l:List V}{F:List V→Option R}(h:W Q K (F l)):W Q K (aL z (.sl z l) F):=W_asSl (F:=fun z' l=>bif z'==z then F l else none) (W_z h)
theorem W_uI{k:IntKind}{n:Int}{r:List V}{F:Int→List V→Option R}(h:W Q K (F n r)):W Q K (uI k (.int k n::r) F):=W_asInt (F:=fun k' n=>bif decide (k'=k)then F n r else none) (W_kd h)
theorem W_uB{b:Bool}{r:List V}{F:Bool→List V→Option R}(h:W Q K (F b r)):W Q K (uB (.bool b::r) F):=h
theorem W_uS{s:ByteArray}{r:List V}{F:ByteArray→List V→Option R}(h:W Q K (F s r)):W Q K (uS (.str s::r) F):=h
theorem W_uL{z:Nat}{l r:List V}{F:List V→List V→Option R}(h:W Q K (F l r)):W Q K (uL z (.sl z l::r) F):=W_asSl (F:=fun z' l=>bif z'==z then F l r else none) (W_z h)
theorem W_uA{l r:List V}{F:List V→List V→Option R}(h:W Q K (F l r)):W Q K (uA (.agg l::r) F):=h
theorem W_ce3{a1 a2 a3:V}{F:V→V→V→Option R}(h:W Q K (F a1 a2 a3)):W Q K (ce3 [a1,a2,a3] F):=h
theorem W_ca3{a1 a2 a3:V}{F:V→V→V→Option R}(h:W Q K (F a1 a2 a3)):W Q K (ca3 (.agg [a1,a2,a3]) F):=h
theorem W_ce4{a1 a2 a3 a4:V}{F:V→V→V→V→Option R}(h:W Q K (F a1 a2 a3 a4)):W Q K (ce4 [a1,a2,a3,a4] F):=h
theorem W_ca4{a1 a2 a3 a4:V}{F:V→V→V→V→Option R}(h:W Q K (F a1 a2 a3 a4)):W Q K (ca4 (.agg [a1,a2,a3,a4]) F):=h
theorem W_ce5{a1 a2 a3 a4 a5:V}{F:V→V→V→V→V→Option R}(h:W Q K (F a1 a2 a3 a4 a5)):W Q K (ce5 [a1,a2,a3,a4,a5] F):=h
theorem W_ca5{a1 a2 a3 a4 a5:V}{F:V→V→V→V→V→Option R}(h:W Q K (F a1 a2 a3 a4 a5)):W Q K (ca5 (.agg [a1,a2,a3,a4,a5]) F):=h
theorem W_ce6{a1 a2 a3 a4 a5 a6:V}{F:V→V→V→V→V→V→Option R}(h:W Q K (F a1 a2 a3 a4 a5 a6)):W Q K (ce6 [a1,a2,a3,a4,a5,a6] F):=h
theorem W_ca6{a1 a2 a3 a4 a5 a6:V}{F:V→V→V→V→V→V→Option R}(h:W Q K (F a1 a2 a3 a4 a5 a6)):W Q K (ca6 (.agg [a1,a2,a3,a4,a5,a6]) F):=h
theorem W_ce7{a1 a2 a3 a4 a5 a6 a7:V}{F:V→V→V→V→V→V→V→Option R}(h:W Q K (F a1 a2 a3 a4 a5 a6 a7)):W Q K (ce7 [a1,a2,a3,a4,a5,a6,a7] F):=h
theorem W_ca7{a1 a2 a3 a4 a5 a6 a7:V}{F:V→V→V→V→V→V→V→Option R}(h:W Q K (F a1 a2 a3 a4 a5 a6 a7)):W Q K (ca7 (.agg [a1,a2,a3,a4,a5,a6,a7]) F):=h
theorem W_ce8{a1 a2 a3 a4 a5 a6 a7 a8:V}{F:V→V→V→V→V→V→V→V→Option R}(h:W Q K (F a1 a2 a3 a4 a5 a6 a7 a8)):W Q K (ce8 [a1,a2,a3,a4,a5,a6,a7,a8] F):=h
theorem W_ca8{a1 a2 a3 a4 a5 a6 a7 a8:V}{F:V→V→V→V→V→V→V→V→Option R}(h:W Q K (F a1 a2 a3 a4 a5 a6 a7 a8)):W Q K (ca8 (.agg [a1,a2,a3,a4,a5,a6,a7,a8]) F):=h
theorem W_nth{l:List V}{i:Nat}{F:V→Option R}(hi:i<l.length)(h:∀v,l[i]? =some v→v∈l→W Q K (F v)):W Q K (nthK l i F):=by
 have e:=List.getElem?_eq_getElem hi
 unfold nthK
 rw[e]
 exact h _ e (List.getElem_mem hi)
theorem W_at{l:List V}{i:Int}{v:V}{F:V→Option R}{E:Option R}(h0:0≤i)(hv:l[i.toNat]? =some v)(h:W Q K (F v)):W Q K (bif(decide (0≤i)&&decide (i<((List.length l:Nat):Int)))then nthK l i.toNat F else E):=by
 have hi:=(List.getElem?_eq_some_iff.1 hv).1
 rw[decide_eq_true h0,decide_eq_true (show i<((l.length:Nat):Int)by omega)]
 show W Q K (nthK l i.toNat F)
 unfold nthK;rw[hv];exact h
theorem W_call{Q':List V→Prop}{F:List V→Option R}{x:Option R}(h:W Q' F x)(h1:∀o,Q' o→W Q K (F o)):W Q K x:=by
 obtain⟨o,q,e⟩:=h
 rw[e];exact h1 o q
end
def I64(n:Int):Prop:= -9223372036854775808≤n∧n≤9223372036854775807
theorem wrap_id{n:Int}(h: -9223372036854775808≤n∧n≤9223372036854775807):IntKind.i64.wrap n=n:=by
 unfold IntKind.wrap;simp[IntKind.signed,IntKind.bits];omega
theorem tmod_lt{v n:Int}(hn:0<n): -n<Int.tmod v n∧Int.tmod v n<n:=by
 have h1:=Int.tmod_lt_of_pos v hn
 refine⟨?_,h1⟩
 rcases Int.le_total 0 v with h|h
 ·have:=Int.tmod_nonneg n h;omega
 ·have h3:=Int.neg_tmod v n
  have h4:=Int.tmod_lt_of_pos (-v) hn
  omega
def IntsS(l:List V):Prop:=∀v∈l,∃n,v= .int .i64 n∧I64 n
theorem ints_of{zs:List Int}{len:Nat}(hz:∀n∈zs,(Lit.int .i64 n).wf=true):IntsS ((zs.take len).map fun n=>.int .i64 n):=by
 intro v hv
 obtain⟨n,hn,rfl⟩:=List.mem_map.1 hv
 have:=hz n (List.mem_of_mem_take hn)
 simp[Lit.wf,IntKind.min,IntKind.max,IntKind.signed,IntKind.bits]at this
 exact⟨n,rfl,by unfold I64;omega⟩
def StrS(s:ByteArray):Prop:=s.size≤100
def StrsS(m:Nat)(l:List V):Prop:=l.length≤m∧∀v∈l,∃s,v= .str s∧StrS s
def ExprS:Nat→V→Prop
 |0,_=>False
 |d+1,v=>∃kind n nm kids,v= .agg [.int .i64 kind,.int .i64 n,.str nm,.sl 5 kids,.int .i64 0]∧I64 n∧StrS nm∧1≤kind∧kind≤19∧kids.length≤2∧(∀e∈kids,ExprS d e)∧
   (kind≤4∨(kind≤6∧kids.length=1)∨(7≤kind∧kids.length=2))
theorem ExprS.mono:∀{d:Nat} {v:V},ExprS d v→ExprS (d+1) v
 |0,v,h=>h.elim
 |d+1,v,⟨kind,n,nm,kids,h1,h2,h3,h4,h5,h6,h7,h8⟩=>⟨kind,n,nm,kids,h1,h2,h3,h4,h5,h6,fun e he=>ExprS.mono (h7 e he),h8⟩
theorem ExprS.le{d d':Nat}{v:V}(h:ExprS d v)(hd:d≤d'):ExprS d' v:=by
 induction hd with
 |refl=>exact h
 |step _ ih=>exact ih.mono
def ActN(kind n:Int):Prop:=I64 n∧(kind=7→1≤n∧n≤16)
def ActS:Nat→V→Prop
 |0,_=>False
 |d+1,v=>∃kind nm ev x n th el,v= .agg [.int .i64 kind,.str nm,.str ev,.sl 5 x,.int .i64 n,.sl 8 th,.sl 8 el,.int .i64 0]∧ActN kind n∧StrS nm∧StrS ev∧1≤kind∧kind≤7∧x.length≤1∧(∀e∈x,ExprS 3 e)∧(kind=6→x.length=1)∧
   th.length≤2∧el.length≤2∧(∀a∈th,ActS d a)∧(∀a∈el,ActS d a)
theorem ActS.mono:∀{d:Nat} {v:V},ActS d v→ActS (d+1) v
 |0,v,h=>h.elim
 |d+1,v,⟨kind,nm,ev,x,n,th,el,h1,h2,h3,h4,h5,h6,h7,h8,h9,h10,h11,h12,h13⟩=>
  ⟨kind,nm,ev,x,n,th,el,h1,h2,h3,h4,h5,h6,h7,h8,h9,h10,h11,fun a ha=>ActS.mono (h12 a ha),fun a ha=>ActS.mono (h13 a ha)⟩
def BlockS(d:Nat)(l:List V):Prop:=l.length≤2∧∀a∈l,ActS d a
theorem BlockS.mono{d:Nat}{l:List V}(h:BlockS d l):BlockS (d+1) l:=⟨h.1,fun a ha=>(h.2 a ha).mono⟩
def TransS(v:V):Prop:=∃ev gd tg acts,v= .agg [.str ev,.sl 5 gd,.str tg,.sl 8 acts,.int .i64 0]∧StrS ev∧StrS tg∧gd.length≤1∧(∀e∈gd,ExprS 3 e)∧BlockS 3 acts
def kindV:V→Int
 | .agg (.int _ n::_)=>n
 |_=>0
def StateS(m:Nat):Nat→V→Prop
 |0,_=>False
 |d+1,v=>∃kind nm en ex tr kids,v= .agg [.int .i64 kind,.str nm,.sl 8 en,.sl 8 ex,.sl 5 tr,.sl 7 kids,.int .i64 0]∧StrS nm∧0<nm.size∧1≤kind∧kind≤4∧BlockS 2 en∧BlockS 2 ex∧tr.length≤m∧(∀t∈tr,TransS t)∧kids.length≤4∧(∀s∈kids,StateS m d s)∧
   (2<kind→kids=[]∧en=[]∧ex=[]∧tr=[])∧(∀s r,kids=s::r→kindV s≤2)∧(kind=2→kids≠[])
def NmsS(l:List V):Prop:=∀v∈l,∃s,v= .str s∧StrS s∧0<s.size
theorem StateS.le{m m':Nat}(hm:m≤m'):∀{d:Nat} {v:V},StateS m d v→StateS m' d v
 |0,v,h=>h.elim
 |d+1,v,⟨kind,nm,en,ex,tr,kids,h1,h2,h3,h4,h5,h6,h7,h8,h9,h10,h11,h12,h13,h14⟩=>
  ⟨kind,nm,en,ex,tr,kids,h1,h2,h3,h4,h5,h6,h7,Nat.le_trans h8 hm,h9,h10,fun s hs=>StateS.le hm (h11 s hs),h12,h13,h14⟩
def RowS(L:List V)(at_:Int):Prop:=IntsS L∧L.length≤100000∧0≤at_∧at_≤(L.length:Int)
def NamedS(m:Nat)(l:List V):Prop:=l.length≤m∧∀v∈l,∃s n,v= .agg [.str s,.int .i64 n,.int .i64 0]∧StrS s∧I64 n
def stKids:V→List V
 | .agg [_,_,_,_,_,.sl _ k,_]=>k
 |_=>[]
def nsz:Nat→V→Nat
 |0,_=>0
 |d+1,v=>1+((stKids v).map (nsz d)).sum
def nszL(d:Nat)(l:List V):Nat:=(l.map (nsz d)).sum
theorem nszL_cons{d:Nat}{s:V}{r:List V}:nszL (d+1) (s::r)=1+nszL d (stKids s)+nszL (d+1) r:=by simp[nszL,nsz]
theorem nszL_app{d:Nat}{a b:List V}:nszL d (a++b)=nszL d a+nszL d b:=by simp[nszL]
def dg(n:Nat):ByteArray:=⟨#[(48+n).toUInt8]⟩
def decD:Nat→Nat→ByteArray
 |0,_=>⟨#[]⟩
 |d+1,n=>if n<10 then dg n else decD d (n/10)++dg (n % 10)
def digB(n:Nat):ByteArray:=decD 3 n
theorem decD_size:∀{d n:Nat},(decD d n).size≤d
 |0,n=>Nat.le_refl 0
 |d+1,n=>by
  unfold decD
  have h1:∀m,(dg m).size=1:=fun _=>rfl
  split
  ·rw[h1];omega
  ·rw[ByteArray.size_append,h1];have:=decD_size (d:=d) (n:=n/10);omega
def nmV:Nat→V→List V
 |0,_=>[]
 |d+1,v=>.str (match v with| .agg [_,.str s,_,_,_,_,_]=>s|_=>⟨#[]⟩)::(stKids v).flatMap (nmV d)
def nmVL(d:Nat)(l:List V):List V:=l.flatMap (nmV d)
theorem nmVL_app{d:Nat}{a b:List V}:nmVL d (a++b)=nmVL d a++nmVL d b:=by simp[nmVL]
theorem nmVL_len:∀{d:Nat} {l:List V},(nmVL d l).length=nszL d l
 |0,[]=>rfl
 |0,a::l=>by have:=nmVL_len (d:=0) (l:=l);simp[nmVL,nszL,nmV,nsz]at this ⊢
 |d+1,[]=>rfl
 |d+1,a::l=>by
  have h1:=nmVL_len (d:=d+1) (l:=l)
  have h2:=nmVL_len (d:=d) (l:=stKids a)
  rw[nszL_cons,←h1,←h2]
  simp only[nmVL,List.flatMap_cons,List.length_append,nmV,List.length_cons]
  omega
termination_by d l=>(d,l.length)
def NmI(all:List V):Prop:=∀(i:Nat) (v:V),all[i]? =some v→∃c:UInt8,(c=115∨c=104)∧v= .str (⟨#[c]⟩++digB i)
theorem nmI_snoc{l:List V}{c:UInt8}(h:NmI l)(hc:c=115∨c=104):NmI (l++[.str (⟨#[c]⟩++digB l.length)]):=fun i v hv=>by
 rcases Nat.lt_trichotomy i l.length with k|k|k
 ·rw[List.getElem?_append_left k]at hv;exact h i v hv
 ·subst k;rw[List.getElem?_append_right (Nat.le_refl _)]at hv;simp at hv;exact⟨c,hc,hv.symm⟩
 ·rw[List.getElem?_eq_none (by simp;omega)]at hv;cases hv
def ChartS(v:V):Prop:=∃nm st fu vars ports timers states,v= .agg [.str nm,.int .i64 st,.int .i64 fu,.sl 3 vars,.sl 3 ports,.sl 3 timers,.sl 7 states,.int .i64 0]∧StrS nm∧2≤st∧st≤6∧4≤fu∧fu≤200∧NamedS 100 vars∧NamedS 100 ports∧NamedS 100 timers∧
 states.length≤2∧states≠[]∧(∀s∈states,StateS 2 3 s∧kindV s≤2)∧nszL 3 states≤9∧NmI (nmVL 3 states)
structure Nd where
 kind:Int
 parent:Int
 last:Int
 init:Int
 entry:Int
 exit:Int
 name:ByteArray
def Nd.v(n:Nd):V:=.agg [.int .i64 n.kind,.int .i64 n.parent,.int .i64 n.last,.int .i64 n.init,.int .i64 n.entry,.int .i64 n.exit,.str n.name]
def stName:V→ByteArray
 | .agg [_,.str s,_,_,_,_,_]=>s
 |_=>⟨#[]⟩
def ndKind(v:V):Int:=if kindV v=3 then 4 else if kindV v=4 then 5 else if kindV v=2 then 3 else if(stKids v).length=0 then 1 else 2
def forest:Nat→Int→Nat→List V→List Nd
 |0,_,_,_=>[]
 |_+1,_,_,[]=>[]
 |d+1,up,at_,s::r=>⟨ndKind s,up,(at_:Int)+nszL d (stKids s),if ndKind s=2 then(at_:Int)+1 else-1,-1,-1,stName s⟩::(forest d at_ (at_+1) (stKids s)++forest (d+1) up (at_+1+nszL d (stKids s)) r)
termination_by d _ _ l=>(d,l.length)
theorem nszL_len{d:Nat}:∀{l:List V},l.length≤nszL (d+1) l
 | []=>by simp
 |a::r=>by have:=nszL_len (d:=d) (l:=r);rw[nszL_cons,List.length_cons];omega
theorem nszL_zero{l:List V}:nszL 0 l=0:=by
 induction l with
 |nil=>rfl
 |cons a l ih=>simp[nszL,nsz]at ih ⊢;exact ih
theorem forest_len:∀(d:Nat) (up:Int) (at_:Nat) (l:List V),(forest d up at_ l).length=nszL d l
 |0,up,at_,l=>by rw[nszL_zero,forest];rfl
 |d+1,up,at_,[]=>by rw[forest];rfl
 |d+1,up,at_,s::r=>by
  rw[forest,nszL_cons,List.length_cons,List.length_append,forest_len d at_ (at_+1) (stKids s),forest_len (d+1) up (at_+1+nszL d (stKids s)) r]
  omega
termination_by d _ _ l=>(d,l.length)
theorem forest_app:∀(d:Nat) (up:Int) (at_:Nat) (a b:List V),forest d up at_ (a++b)=forest d up at_ a++forest d up (at_+nszL d a) b
 |0,up,at_,a,b=>by simp[forest]
 |d+1,up,at_,[],b=>by simp[forest,nszL]
 |d+1,up,at_,s::a,b=>by
  rw[List.cons_append,forest,forest_app (d+1) up _ a b,forest,nszL_cons]
  simp only[List.cons_append,List.append_assoc]
  congr 4
  omega
def fixup(l:List Nd)(up:Nat)(at_:Nat)(kids:List V):List Nd:=
 match kids,l[up]? with
 |_::_,some n=>if n.init<0∧n.kind=2 then l.set up {n with init:=at_}else l
 |_,_=>l
theorem fixup_len{l:List Nd}{up at_:Nat}{kids:List V}:(fixup l up at_ kids).length=l.length:=by
 unfold fixup;split
 ·split<;>simp
 ·rfl
theorem fixup_nil{l:List Nd}{up at_:Nat}:fixup l up at_ []=l:=by unfold fixup;rfl
def ndsOf(states:List V):List Nd:=⟨2,-1,nszL 3 states,if states=[]then-1 else 1,-1,-1,⟨#[]⟩⟩::forest 3 0 1 states
theorem ba_loop(bs:ByteArray):∀(n i:Nat) (r:List UInt8),bs.size-i=n→ByteArray.toList.loop bs i r=r.reverse++bs.data.toList.drop i
 |0,i,r,h=>by
  rw[ByteArray.toList.loop,if_neg (by omega),List.drop_eq_nil_of_le,List.append_nil]
  show bs.data.toList.length≤i
  have:bs.size=bs.data.toList.length:=Array.length_toList.symm
  omega
 |n+1,i,r,h=>by
  have hs:bs.size=bs.data.toList.length:=Array.length_toList.symm
  rw[ByteArray.toList.loop,if_pos (by omega),ba_loop bs n (i+1) _ (by omega),List.drop_eq_getElem_cons (show i<bs.data.toList.length by omega)]
  simp[ByteArray.get!,getElem!_pos bs.data i (show i<bs.data.size by simpa using(show i<bs.data.toList.length by omega))]
theorem ba_toList(bs:ByteArray):bs.toList=bs.data.toList:=by
 rw[ByteArray.toList,ba_loop bs _ 0 [] rfl];rfl
theorem ba_len(a:ByteArray):a.toList.length=a.size:=by rw[ba_toList];exact Array.length_toList
def inN(l:List Nd)(a b:Int):Bool:=decide (0≤a∧a<l.length∧0≤b∧b<l.length∧a≥b)&&(match l[b.toNat]? with|some n=>decide (a≤n.last)|none=>false)
def domAt(l:List Nd)(a b:Int)(i:Nat):Bool:=(match l[i]? with|some n=>decide (n.kind=2)|none=>false)&&decide ((i:Int)≠a)&&decide ((i:Int)≠b)&&inN l a i&&inN l b i
def domGo(l:List Nd)(a b:Int):Nat→Int
 |0=> -1
 |i+1=>if domAt l a b i then i else domGo l a b i
def domN(l:List Nd)(a b:Int):Int:=domGo l a b l.length
def findGo(s:ByteArray):List Nd→Nat→Int
 | [],_=> -1
 |n::r,i=>if n.name.toList=s.toList then i else findGo s r (i+1)
def findN(l:List Nd)(s:ByteArray):Int:=findGo s (l.drop 1) 1
theorem findGo_at{s:ByteArray}:∀{r:List Nd} {i:Nat},findGo s r i= -1∨∃j,i≤j∧j<i+r.length∧findGo s r i=(j:Int)
 | [],i=>.inl rfl
 |n::r,i=>by
  unfold findGo
  by_cases h:n.name.toList=s.toList
  ·rw[if_pos h];exact .inr ⟨i,by omega,by simp,rfl⟩
  ·rw[if_neg h]
   rcases findGo_at (s:=s) (r:=r) (i:=i+1)with h1|⟨j,h1,h2,h3⟩
   ·exact .inl h1
   ·exact .inr ⟨j,by omega,by simp;omega,h3⟩
theorem findGo_has{s:ByteArray}:∀{r:List Nd} {i:Nat},(∃n∈r,n.name=s)→findGo s r i≠ -1
 | [],i,h=>by obtain⟨_,h,_⟩:=h;cases h
 |n::r,i,⟨m,hm,e⟩=>by
  unfold findGo
  by_cases h:n.name.toList=s.toList
  ·rw[if_pos h];omega
  ·rw[if_neg h]
   refine findGo_has ⟨m,?_,e⟩
   rcases List.mem_cons.1 hm with rfl|hm
   ·rw[e]at h;exact absurd rfl h
   ·exact hm
section
variable {R : Type} {Q : List V → Prop} {K : List V → Option R}
theorem W_nd{n:Nd}{F:List V→Option R}(h:W Q K (F [.int .i64 n.kind,.int .i64 n.parent,.int .i64 n.last,.int .i64 n.init,.int .i64 n.entry,.int .i64 n.exit,.str n.name])):W Q K (V.asAgg n.v F):=h
theorem W_nd7{n:Nd}{F:V→V→V→V→V→V→V→Option R}(h:W Q K (F (.int .i64 n.kind) (.int .i64 n.parent) (.int .i64 n.last) (.int .i64 n.init) (.int .i64 n.entry) (.int .i64 n.exit) (.str n.name))):W Q K (ca7 n.v F):=h
theorem W_nthN{l:List Nd}{i:Nat}{F:V→Option R}(hi:i<l.length)(h:∀n,l[i]? =some n→W Q K (F n.v)):W Q K (nthK (l.map Nd.v) i F):=by
 have e:l[i]? =some l[i]:=List.getElem?_eq_getElem hi
 have e2:(l.map Nd.v)[i]? =some l[i].v:=by rw[List.getElem?_map,e];rfl
 unfold nthK
 rw[e2]
 exact h _ e
end
def Nd.core(n:Nd):Nd:={n with entry:= -1,exit:= -1}
def CoreEq(a b:List Nd):Prop:=a.map Nd.core=b.map Nd.core
theorem CoreEq.len{a b:List Nd}(h:CoreEq a b):a.length=b.length:=by have:=congrArg List.length h;simpa using this
theorem findGo_core{s:ByteArray}:∀{l:List Nd} {i:Nat},findGo s (l.map Nd.core) i=findGo s l i
 | [],i=>rfl
 |n::r,i=>by
  rw[List.map_cons,findGo,findGo,findGo_core (l:=r)]
  rfl
theorem findN_core{a b:List Nd}{s:ByteArray}(h:CoreEq a b):findN a s=findN b s:=by
 have e:∀l:List Nd,findN l s=findGo s ((l.map Nd.core).drop 1) 1:=fun l=>by unfold findN;rw[←List.map_drop,findGo_core]
 rw[e,e,show a.map Nd.core=b.map Nd.core from h]
theorem get_core{a b:List Nd}(h:CoreEq a b)(i:Nat):(a[i]?).map Nd.core=(b[i]?).map Nd.core:=by rw[←List.getElem?_map,←List.getElem?_map,show a.map Nd.core=b.map Nd.core from h]
theorem inN_core{a b:List Nd}{x y:Int}(h:CoreEq a b):inN a x y=inN b x y:=by
 unfold inN
 rw[h.len]
 congr 1
 have e:=get_core h y.toNat
 cases h1:a[y.toNat]? with
 |none=>rw[h1]at e;cases h2:b[y.toNat]? with
  |none=>rfl
  |some m=>rw[h2]at e;cases e
 |some n=>rw[h1]at e;cases h2:b[y.toNat]? with
  |none=>rw[h2]at e;cases e
  |some m=>
   rw[h2]at e
   have:n.last=m.last:=by have:=congrArg (fun o:Option Nd=>o.map Nd.last) e;simpa [Nd.core]using this
   simp only[this]
theorem domAt_core{a b:List Nd}{x y:Int}{i:Nat}(h:CoreEq a b):domAt a x y i=domAt b x y i:=by
 unfold domAt
 rw[inN_core h,inN_core h]
 congr 4
 have e:=get_core h i
 cases h1:a[i]? with
 |none=>rw[h1]at e;cases h2:b[i]? with
  |none=>rfl
  |some m=>rw[h2]at e;cases e
 |some n=>rw[h1]at e;cases h2:b[i]? with
  |none=>rw[h2]at e;cases e
  |some m=>
   rw[h2]at e
   have:n.kind=m.kind:=by have:=congrArg (fun o:Option Nd=>o.map Nd.kind) e;simpa [Nd.core]using this
   simp only[this]
theorem domN_core{a b:List Nd}{x y:Int}(h:CoreEq a b):domN a x y=domN b x y:=by
 have e:∀i,domGo a x y i=domGo b x y i:=by
  intro i
  induction i with
  |zero=>rfl
  |succ i ih=>unfold domGo;rw[domAt_core h,ih]
 unfold domN
 rw[h.len];exact e _
theorem core_set{a b:List Nd}{i:Nat}{n m:Nd}(h:CoreEq a b)(hi:a[i]? =some n)(hm:m.core=n.core):CoreEq (a.set i m) b:=by
 unfold CoreEq
 rw[List.map_set,hm,←show a.map Nd.core=b.map Nd.core from h]
 apply List.ext_getElem?
 intro j
 by_cases hj:i=j
 ·subst hj
  have hl:i<a.length:=by
   rcases Nat.lt_or_ge i a.length with h'|h'
   ·exact h'
   ·rw[List.getElem?_eq_none h']at hi;cases hi
  rw[List.getElem?_set_self (by simpa using hl),List.getElem?_map,hi];rfl
 ·rw[List.getElem?_set_ne hj]
theorem forest_kid{d:Nat}{s:V}:∀{l:List V} {up:Int} {at_:Nat},s∈l→∃up' at',(∃n∈forest (d+1) up at_ l,n.name=stName s)∧∀n∈forest d up' at' (stKids s),n∈forest (d+1) up at_ l
 | [],up,at_,h=>by cases h
 |a::r,up,at_,h=>by
  rw[forest]
  rcases List.mem_cons.1 h with rfl|h
  ·exact⟨at_,at_+1,⟨_,List.mem_cons_self,rfl⟩,fun n hn=>List.mem_cons_of_mem _ (List.mem_append_left _ hn)⟩
  ·obtain⟨up',at',⟨n,h1,h2⟩,h3⟩:=forest_kid (up:=up) (at_:=at_+1+nszL d (stKids a)) h
   exact⟨up',at',⟨n,List.mem_cons_of_mem _ (List.mem_append_right _ h1),h2⟩,fun m hm=>List.mem_cons_of_mem _ (List.mem_append_right _ (h3 m hm))⟩
def NamesIn(ns:List Nd)(d:Nat)(l:List V):Prop:=∃up at_,∀n∈forest d up at_ l,∃m∈ns.drop 1,m.name=n.name
theorem NamesIn.mem{ns:List Nd}{d:Nat}{l:List V}{s:V}(h:NamesIn ns (d+1) l)(hs:s∈l):findN ns (stName s)≠ -1∧NamesIn ns d (stKids s):=by
 obtain⟨up,at_,h⟩:=h
 obtain⟨up',at',⟨n,h1,h2⟩,h3⟩:=forest_kid (up:=up) (at_:=at_) hs
 refine⟨?_,up',at',fun n hn=>h n (h3 n hn)⟩
 obtain⟨m,m1,m2⟩:=h n h1
 exact findGo_has ⟨m,m1,by rw[m2,h2]⟩
theorem namesIn_ndsOf{states:List V}:NamesIn (ndsOf states) 3 states:=⟨0,1,fun n hn=>⟨n,hn,rfl⟩⟩
theorem findN_at{l:List Nd}{s:ByteArray}:findN l s= -1∨(1≤findN l s∧findN l s<l.length):=by
 unfold findN
 rcases findGo_at (s:=s) (r:=l.drop 1) (i:=1)with h|⟨j,h1,h2,h3⟩
 ·exact .inl h
 ·rw[List.length_drop]at h2;exact .inr ⟨by omega,by omega⟩
def EdgeS(ns:List Nd)(v:V):Prop:=∃fr to dom gd ac ev,v= .agg [.int .i64 fr,.int .i64 to,.int .i64 dom,.int .i64 gd,.int .i64 ac,.str ev]∧1≤fr∧fr<ns.length∧StrS ev∧
 ((to= -1∧dom= -1)∨(1≤to∧to<ns.length∧dom=domN ns fr to))∧ -1≤gd∧ -1≤ac
def InsS(v:V):Prop:=∃op a n s,v= .agg [.int .i64 op,.int .i64 a,.int .i64 n,.str s]
def AllI(l:List V):Prop:=∀v∈l,InsS v
theorem allI_cons{v:V}{l:List V}(h:InsS v)(h1:AllI l):AllI (v::l):=fun w hw=>by
 rcases List.mem_cons.1 hw with rfl|hw
 ·exact h
 ·exact h1 w hw
def ce:Nat→Nat
 |0=>0
 |d+1=>2*ce d+8
theorem set_map{l:List Nd}{i:Nat}{n:Nd}:(l.map Nd.v).set i n.v=(l.set i n).map Nd.v:=by rw[List.map_set]
class Un {R:Type} (x:Option R) (y:outParam (Option R)):Prop where
 eq:x=y
theorem U1{R:Type}{Q:List V→Prop}{K:List V→Option R}{x y:Option R}[h:Un x y](k:W Q K y):W Q K x:=by rw[h.eq];exact k
section
variable {R : Type} {k : IntKind} {n : Int} {r l : List V} {s : ByteArray} {z : Nat} {b : Bool} {a b' c d e f g h : V}
instance {F:Int→List V→Option R}:Un (uI k (.int k n::r) F) (F n r):=⟨by unfold uI V.asInt;simp[unCons]⟩
instance {F:ByteArray→List V→Option R}:Un (uS (.str s::r) F) (F s r):=⟨rfl⟩
instance {F:List V→List V→Option R}:Un (uL z (.sl z l::r) F) (F l r):=⟨by unfold uL V.asSl;simp[unCons]⟩
instance {F:List V→List V→Option R}:Un (uA (.agg l::r) F) (F l r):=⟨rfl⟩
instance {F:Bool→List V→Option R}:Un (uB (.bool b::r) F) (F b r):=⟨rfl⟩
instance {F:Int→Option R}:Un (aI k (.int k n) F) (F n):=⟨by unfold aI V.asInt;simp⟩
instance {F:List V→Option R}:Un (aL z (.sl z l) F) (F l):=⟨by unfold aL V.asSl;simp⟩
instance {F:V→V→V→Option R}:Un (ca3 (.agg [a,b',c]) F) (F a b' c):=⟨rfl⟩
instance {F:V→V→V→Option R}:Un (ce3 [a,b',c] F) (F a b' c):=⟨rfl⟩
instance {F:V→V→V→V→Option R}:Un (ca4 (.agg [a,b',c,d]) F) (F a b' c d):=⟨rfl⟩
instance {F:V→V→V→V→Option R}:Un (ce4 [a,b',c,d] F) (F a b' c d):=⟨rfl⟩
instance {F:V→V→V→V→V→Option R}:Un (ca5 (.agg [a,b',c,d,e]) F) (F a b' c d e):=⟨rfl⟩
instance {F:V→V→V→V→V→Option R}:Un (ce5 [a,b',c,d,e] F) (F a b' c d e):=⟨rfl⟩
instance {F:V→V→V→V→V→V→Option R}:Un (ca6 (.agg [a,b',c,d,e,f]) F) (F a b' c d e f):=⟨rfl⟩
instance {F:V→V→V→V→V→V→Option R}:Un (ce6 [a,b',c,d,e,f] F) (F a b' c d e f):=⟨rfl⟩
instance {F:V→V→V→V→V→V→V→Option R}:Un (ca7 (.agg [a,b',c,d,e,f,g]) F) (F a b' c d e f g):=⟨rfl⟩
instance {F:V→V→V→V→V→V→V→Option R}:Un (ce7 [a,b',c,d,e,f,g] F) (F a b' c d e f g):=⟨rfl⟩
instance {F:V→V→V→V→V→V→V→V→Option R}:Un (ca8 (.agg [a,b',c,d,e,f,g,h]) F) (F a b' c d e f g h):=⟨rfl⟩
instance {F:V→V→V→V→V→V→V→V→Option R}:Un (ce8 [a,b',c,d,e,f,g,h] F) (F a b' c d e f g h):=⟨rfl⟩
instance {n:Nd} {F:V→V→V→V→V→V→V→Option R}:Un (ca7 n.v F) (F (.int .i64 n.kind) (.int .i64 n.parent) (.int .i64 n.last) (.int .i64 n.init) (.int .i64 n.entry) (.int .i64 n.exit) (.str n.name)):=⟨rfl⟩
instance {F:V→List V→Option R}:Un (unCons (a::r) F) (F a r):=⟨rfl⟩
instance {x:Option R}:Un (unNil [] x) x:=⟨rfl⟩
instance {F:IntKind→Int→Option R}:Un (V.asInt (.int k n) F) (F k n):=⟨rfl⟩
instance {F:Bool→Option R}:Un (V.asBool (.bool b) F) (F b):=⟨rfl⟩
instance {F:ByteArray→Option R}:Un (V.asStr (.str s) F) (F s):=⟨rfl⟩
instance {F:Nat→List V→Option R}:Un (V.asSl (.sl z l) F) (F z l):=⟨rfl⟩
instance {F:List V→Option R}:Un (V.asAgg (.agg l) F) (F l):=⟨rfl⟩
instance {A B:Option R}:Un (bif decide (k=k)then A else B) A:=⟨by simp⟩
instance {A B:Option R}:Un (bif z==z then A else B) A:=⟨by simp⟩
end
structure Seg (up:Int) (at_:Nat) (F:List Nd):Prop where
 par:∀(j:Nat) n,F[j]? =some n→n.parent=up∨((at_:Int)≤n.parent∧n.parent<at_+j)
 last:∀(j:Nat) n,F[j]? =some n→(at_+j:Int)≤n.last∧n.last<at_+F.length
 lam:∀(i j:Nat) n m,F[i]? =some n→F[j]? =some m→i<j→((at_+j:Int)≤n.last↔(at_+i:Int)≤m.parent∧m.parent≤n.last)
 kid:∀(j:Nat) m,F[j]? =some m→m.parent≠up→∃p,F[(m.parent-at_).toNat]? =some p∧(p.kind=2∨p.kind=3)
 first:∀(i:Nat) n,F[i]? =some n→(n.kind=2∨n.kind=3)→∃m,F[i+1]? =some m∧m.parent=at_+i∧m.kind≤3
 init:∀(i:Nat) n,F[i]? =some n→n.init=if n.kind=2 then(at_+i:Int)+1 else-1
 kinds:∀(i:Nat) n,F[i]? =some n→1≤n.kind∧n.kind≤5
theorem get3{h:Nd}{A B:List Nd}{j:Nat}{n:Nd}(e:(h::(A++B))[j]? =some n):
 (j=0∧n=h)∨(∃a,j=a+1∧A[a]? =some n∧a<A.length)∨∃b,j=b+1+A.length∧B[b]? =some n∧b<B.length:=by
 cases j with
 |zero=>simp at e;exact .inl ⟨rfl,e.symm⟩
 |succ j=>
  rw[List.getElem?_cons_succ]at e
  by_cases hj:j<A.length
  ·rw[List.getElem?_append_left hj]at e;exact .inr (.inl ⟨j,rfl,e,hj⟩)
  ·rw[List.getElem?_append_right (by omega)]at e
   exact .inr (.inr ⟨j-A.length,by omega,e,(List.getElem?_eq_some_iff.1 e).1⟩)
theorem getA{h:Nd}{A B:List Nd}{a:Nat}{n:Nd}(e:A[a]? =some n):(h::(A++B))[a+1]? =some n:=by
 rw[List.getElem?_cons_succ,List.getElem?_append_left (List.getElem?_eq_some_iff.1 e).1];exact e
theorem getB{h:Nd}{A B:List Nd}{b:Nat}{n:Nd}(e:B[b]? =some n):(h::(A++B))[b+1+A.length]? =some n:=by
 rw[show b+1+A.length=(b+A.length)+1 by omega,List.getElem?_cons_succ,List.getElem?_append_right (by omega),show b+A.length-A.length=b by omega];exact e
theorem seg_cons{up:Int}{at_:Nat}{h:Nd}{A B:List Nd}(hup:up<at_)(hp:h.parent=up)(hl:h.last=at_+A.length)(hi:h.init=if h.kind=2 then(at_:Int)+1 else-1)(hk:1≤h.kind∧h.kind≤5)
 (hA:Seg at_ (at_+1) A) (hB:Seg up (at_+1+A.length) B) (hf:(h.kind=2∨h.kind=3)→∃m:Nd,A[0]? =some m∧m.parent=(at_:Int)∧m.kind≤3) (hn:¬(h.kind=2∨h.kind=3)→A=[]):Seg up at_ (h::(A++B)):=by
 have ln:(h::(A++B)).length=A.length+B.length+1:=by simp
 constructor
 ·intro j n e
  rcases get3 e with⟨rfl,rfl⟩|⟨a,rfl,ea,la⟩|⟨b,rfl,eb,lb⟩
  ·exact .inl hp
  ·rcases hA.par a n ea with k|k<;>omega
  ·rcases hB.par b n eb with k|k<;>omega
 ·intro j n e
  rw[ln]
  rcases get3 e with⟨rfl,rfl⟩|⟨a,rfl,ea,la⟩|⟨b,rfl,eb,lb⟩
  ·omega
  ·have:=hA.last a n ea;omega
  ·have:=hB.last b n eb;omega
 ·intro i j n m ei ej hij
  rcases get3 ei with⟨rfl,rfl⟩|⟨a,rfl,ea,la⟩|⟨b,rfl,eb,lb⟩<;>rcases get3 ej with⟨rfl,rfl⟩|⟨a',rfl,ea',la'⟩|⟨b',rfl,eb',lb'⟩
  ·omega
  ·have:=hA.par a' m ea';rcases this with k|k<;>omega
  ·have:=hB.par b' m eb';rcases this with k|k<;>omega
  ·omega
  ·have:=hA.lam a a' n m ea ea' (by omega);omega
  ·have k1:=hA.last a n ea;have:=hB.par b' m eb';rcases this with k|k<;>omega
  ·omega
  ·omega
  ·have:=hB.lam b b' n m eb eb' (by omega);omega
 ·intro j m e hm
  rcases get3 e with⟨rfl,rfl⟩|⟨a,rfl,ea,la⟩|⟨b,rfl,eb,lb⟩
  ·exact absurd hp hm
  ·by_cases h1:m.parent=at_
   ·refine⟨h,by rw[h1];simp,?_⟩
    by_cases h2:h.kind=2∨h.kind=3
    ·exact h2
    ·rw[hn h2]at la;simp at la
   ·obtain⟨p,k1,k2⟩:=hA.kid a m ea h1
    have k3:=hA.par a m ea
    refine⟨p,?_,k2⟩
    have:=getA (h:=h) (B:=B) k1
    rwa[show(m.parent-((at_+1:Nat):Int)).toNat+1=(m.parent-at_).toNat by omega]at this
  ·obtain⟨p,k1,k2⟩:=hB.kid b m eb hm
   have k3:=hB.par b m eb
   refine⟨p,?_,k2⟩
   have:=getB (h:=h) (A:=A) k1
   rwa[show(m.parent-((at_+1+A.length:Nat):Int)).toNat+1+A.length=(m.parent-at_).toNat by omega]at this
 ·intro i n e hk2
  rcases get3 e with⟨rfl,rfl⟩|⟨a,rfl,ea,la⟩|⟨b,rfl,eb,lb⟩
  ·obtain⟨m,k1,k2,k3⟩:=hf hk2
   exact⟨m,getA k1,by simpa using k2,k3⟩
  ·obtain⟨m,k1,k2,k3⟩:=hA.first a n ea hk2
   exact⟨m,getA k1,by omega,k3⟩
  ·obtain⟨m,k1,k2,k3⟩:=hB.first b n eb hk2
   exact⟨m,by have:=getB (h:=h) (A:=A) k1;rwa[show b+1+1+A.length=b+1+A.length+1 by omega]at this,by omega,k3⟩
 ·intro i n e
  rcases get3 e with⟨rfl,rfl⟩|⟨a,rfl,ea,la⟩|⟨b,rfl,eb,lb⟩
  ·simpa using hi
  ·have:=hA.init a n ea;rw[this];split<;>omega
  ·have:=hB.init b n eb;rw[this];split<;>omega
 ·intro i n e
  rcases get3 e with⟨rfl,rfl⟩|⟨a,rfl,ea,la⟩|⟨b,rfl,eb,lb⟩
  ·exact hk
  ·exact hA.kinds a n ea
  ·exact hB.kinds b n eb
theorem seg_nil{up:Int}{at_:Nat}:Seg up at_ []:=by constructor<;>intro i<;>simp
theorem StateS.kids{m d:Nat}{v:V}(h:StateS m (d+1) v):(∀s∈stKids v,StateS m d s)∧(∀s r,stKids v=s::r→kindV s≤2)∧1≤ndKind v∧ndKind v≤5∧((ndKind v=2∨ndKind v=3)→stKids v≠[])∧(¬(ndKind v=2∨ndKind v=3)→stKids v=[]):=by
 obtain⟨kind,nm,en,ex,tr,kids,rfl,x1,x2,x3,x4,x5,x6,x7,x8,x9,x10,x11,x12,x13⟩:=h
 have e:ndKind (.agg [.int .i64 kind,.str nm,.sl 8 en,.sl 8 ex,.sl 5 tr,.sl 7 kids,.int .i64 0])=if kind=3 then 4 else if kind=4 then 5 else if kind=2 then 3 else if kids.length=0 then 1 else 2:=rfl
 rw[e]
 refine⟨x10,x12,?_,?_,fun h=> ?_,fun h=> ?_⟩
 ·repeat' split
  all_goals omega
 ·repeat' split
  all_goals omega
 ·show kids≠[]
  intro hk
  by_cases h3:kind=3
  ·simp[h3]at h
  by_cases h4:kind=4
  ·simp[h4]at h
  by_cases h2:kind=2
  ·exact x13 h2 hk
  ·simp[h2,h3,h4,hk]at h
 ·show kids=[]
  by_cases h3:kind=3
  ·exact(x11 (by omega)).1
  by_cases h4:kind=4
  ·exact(x11 (by omega)).1
  by_cases h2:kind=2
  ·simp[h2]at h
  ·rw[if_neg h3,if_neg h4,if_neg h2]at h
   by_cases hk:kids.length=0
   ·exact List.eq_nil_of_length_eq_zero hk
   ·rw[if_neg hk]at h;simp at h
theorem ndKind_le{m d:Nat}{v:V}(h:StateS m d v)(hk:kindV v≤2):ndKind v≤3:=by
 unfold ndKind
 have h3:¬kindV v=3:=by omega
 have h4:¬kindV v=4:=by omega
 rw[if_neg h3,if_neg h4]
 repeat' split
 all_goals omega
theorem forest_head{d:Nat}{up:Int}{at_:Nat}{l:List V}(hl:l≠[])(hs:∀s∈l,StateS 2 (d+1) s)(hh:∀s r,l=s::r→kindV s≤2):∃m,(forest (d+1) up at_ l)[0]? =some m∧m.parent=up∧m.kind≤3:=by
 cases l with
 |nil=>exact absurd rfl hl
 |cons s r=>rw[forest];exact⟨_,rfl,rfl,ndKind_le (hs s List.mem_cons_self) (hh s r rfl)⟩
theorem forest_seg:∀(d:Nat) (up:Int) (at_:Nat) (l:List V),(∀s∈l,StateS 2 d s)→up<at_→Seg up at_ (forest d up at_ l)
 |0,up,at_,l,hs,hup=>by rw[forest];exact seg_nil
 |d+1,up,at_,[],hs,hup=>by rw[forest];exact seg_nil
 |d+1,up,at_,s::r,hs,hup=>by
  rw[forest]
  have h1:=hs s List.mem_cons_self
  obtain⟨k1,k2,k3,k4,k5,k6⟩:=h1.kids
  have hB:=forest_seg (d+1) up (at_+1+nszL d (stKids s)) r (fun x hx=>hs x (List.mem_cons_of_mem _ hx)) (by omega)
  rw[←forest_len d at_ (at_+1) (stKids s)]at hB ⊢
  refine seg_cons hup rfl rfl rfl ⟨k3,k4⟩ (forest_seg d at_ (at_+1) (stKids s) k1 (by omega)) hB (fun hk=> ?_) (fun hk=> ?_)
  ·cases d with
   |zero=>
    cases hk0:stKids s with
    |nil=>exact absurd hk0 (k5 hk)
    |cons x y=>exact(k1 x (by rw[hk0];simp)).elim
   |succ d=>exact forest_head (k5 hk) k1 k2
  ·rw[k6 hk];cases d<;>simp[forest]
termination_by d _ _ l=>(d,l.length)
structure Tree (ns:List Nd):Prop where
 seg:Seg (-1) 0 ns
 pos:1<ns.length
 par0:∀(j:Nat) n,ns[j]? =some n→0<j→0≤n.parent
 root:∀n,ns[0]? =some n→n.parent= -1∧n.kind=2∧n.last=(ns.length:Int)-1
theorem tree_nds{states:List V}(hs:∀s∈states,StateS 2 3 s∧kindV s≤2)(hne:states≠[]):Tree (ndsOf states):=by
 have hF:=forest_seg 3 0 1 states (fun s h=>(hs s h).1) (by omega)
 have hl:=forest_len 3 0 1 states
 obtain⟨m,m1,m2,m3⟩:=forest_head (d:=2) (up:=0) (at_:=1) hne (fun s h=>(hs s h).1) (fun s r e=>(hs s (by rw[e];simp)).2)
 have hm:=(List.getElem?_eq_some_iff.1 m1).1
 have e:ndsOf states=(⟨2,-1,nszL 3 states,if states=[]then-1 else 1,-1,-1,⟨#[]⟩⟩:Nd)::(forest 3 0 1 states++[]):=by rw[List.append_nil];rfl
 refine⟨?_,?_,?_,?_⟩
 ·rw[e]
  refine seg_cons (by omega) rfl (by rw[hl];simp) (by simp[hne]) (by simp) hF seg_nil (fun _=>⟨m,m1,m2,m3⟩) (fun h=>by simp at h)
 ·rw[e];simp;omega
 ·intro j n hn hj
  rw[e]at hn
  rcases get3 hn with⟨rfl,rfl⟩|⟨a,rfl,ea,la⟩|⟨b,rfl,eb,lb⟩
  ·omega
  ·rcases hF.par a n ea with k|k<;>omega
  ·simp at eb
 ·intro n hn
  rw[e]at hn ⊢
  simp at hn;subst hn
  refine⟨rfl,rfl,?_⟩
  simp[hl]
def isK(l:List Nd)(i:Int)(k:Nat):Bool:=decide (0≤i∧i<l.length)&&(match l[k]? with|some n=>decide (n.parent=i)|none=>false)
def kidsGo(l:List Nd)(i:Int):Nat→List Int
 |0=>[]
 |m+1=>kidsGo l i m++if isK l i m then[(m:Int)]else[]
def kidsN(l:List Nd)(i:Int):List Int:=kidsGo l i l.length
def ivs(l:List Int):List V:=l.map fun n=>.int .i64 n
theorem ivs_app{a b:List Int}:ivs (a++b)=ivs a++ivs b:=by simp[ivs]
theorem ivs_len{a:List Int}:(ivs a).length=a.length:=by simp[ivs]
theorem kidsGo_len{l:List Nd}{i:Int}:∀{m:Nat},(kidsGo l i m).length≤m
 |0=>Nat.le_refl 0
 |m+1=>by have:=kidsGo_len (l:=l) (i:=i) (m:=m);unfold kidsGo;split<;>simp<;>omega
theorem mem_kidsGo{l:List Nd}{i x:Int}:∀{m:Nat},x∈kidsGo l i m↔∃k:Nat,k<m∧x=k∧isK l i k=true
 |0=>by simp[kidsGo]
 |m+1=>by
  unfold kidsGo
  rw[List.mem_append,mem_kidsGo (m:=m)]
  constructor
  ·rintro(⟨k,h1,h2,h3⟩|h)
   ·exact⟨k,by omega,h2,h3⟩
   ·split at h
    ·rename_i hk;simp at h;exact⟨m,by omega,h,hk⟩
    ·simp at h
  ·rintro⟨k,h1,h2,h3⟩
   by_cases hk:k=m
   ·subst hk;right;rw[if_pos h3];simp[h2]
   ·left;exact⟨k,by omega,h2,h3⟩
theorem mem_kidsN{l:List Nd}{i x:Int}:x∈kidsN l i↔∃(k:Nat) (n:Nd),x=k∧l[k]? =some n∧n.parent=i∧0≤i∧i<l.length:=by
 unfold kidsN
 rw[mem_kidsGo]
 constructor
 ·rintro⟨k,h1,h2,h3⟩
  unfold isK at h3
  simp only[Bool.and_eq_true,decide_eq_true_eq]at h3
  cases hn:l[k]? with
  |none=>rw[hn]at h3;simp at h3
  |some n=>rw[hn]at h3;simp at h3;exact⟨k,n,h2,hn,h3.2,h3.1.1,h3.1.2⟩
 ·rintro⟨k,n,h1,h2,h3,h4,h5⟩
  exact⟨k,(List.getElem?_eq_some_iff.1 h2).1,h1,by unfold isK;rw[h2];simp[h3,h4,h5]⟩
theorem Tree.lt{ns:List Nd}{i:Nat}{n:Nd}(h:ns[i]? =some n):i<ns.length:=(List.getElem?_eq_some_iff.1 h).1
theorem nd_get{l:List Nd}{i:Nat}{n:Nd}(h:l[i]? =some n):(l.map Nd.v)[i]? =some n.v:=by rw[List.getElem?_map,h];rfl
theorem ivs_at{l:List Int}{i:Nat}{n:Int}(h:l[i]? =some n):(ivs l)[i]? =some (.int .i64 n):=by unfold ivs;rw[List.getElem?_map,h];rfl
theorem forest_names:∀(d:Nat) (up:Int) (at_:Nat) (l:List V),(∀s∈l,StateS 2 d s)→(forest d up at_ l).map (fun n=>V.str n.name)=nmVL d l
 |0,up,at_,l,hs=>by
  rw[forest]
  cases l with
  |nil=>rfl
  |cons a r=>exact(hs a List.mem_cons_self).elim
 |d+1,up,at_,[],hs=>by rw[forest];rfl
 |d+1,up,at_,s::r,hs=>by
  rw[forest,List.map_cons,List.map_append,forest_names d at_ (at_+1) (stKids s) (hs s List.mem_cons_self).kids.1,forest_names (d+1) up _ r (fun x hx=>hs x (List.mem_cons_of_mem _ hx))]
  simp only[nmVL,List.flatMap_cons]
  rfl
termination_by d _ _ l=>(d,l.length)
def nmOf(c:UInt8)(i:Nat):ByteArray:=⟨#[c]⟩++digB i
theorem names_nds{states:List V}(hs:∀s∈states,StateS 2 3 s∧kindV s≤2)(hn:NmI (nmVL 3 states)){j:Nat}{n:Nd}(h:(ndsOf states)[j]? =some n):(j=0∧n.name=⟨#[]⟩)∨(0<j∧∃c:UInt8,(c=115∨c=104)∧n.name=nmOf c (j-1)):=by
 cases j with
 |zero=>left;unfold ndsOf at h;simp at h;subst h;exact⟨rfl,rfl⟩
 |succ j=>
  right
  refine⟨by omega,?_⟩
  unfold ndsOf at h
  rw[List.getElem?_cons_succ]at h
  have e:(nmVL 3 states)[j]? =some (.str n.name):=by
   rw[←forest_names 3 0 1 states (fun s h=>(hs s h).1),List.getElem?_map,h];rfl
  obtain⟨c,hc,e2⟩:=hn j _ e
  injection e2 with e2
  exact⟨c,hc,e2⟩
end Go.VM
