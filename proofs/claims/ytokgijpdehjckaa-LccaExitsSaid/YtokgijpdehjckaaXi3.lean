/- Functions of the program, told by the machine of values, and what they answer: a part. -/
import Derived.Test.YtokgijpdehjckaaXi2
import Derived.Test.YtokgijpdehjckaaXi1
import Derived.Test.YtokgijpdehjckaaXiV4
open Go Go.VM
set_option linter.unusedVariables false
set_option maxRecDepth 100000
set_option maxHeartbeats 8000000
namespace Go.Proofs.Ytokgijpdehjckaa.Vm
section
variable {R : Type} {G : ORC R} {k : Nat} {K : LV → OV R}
def KindOK(G:ORC R):Prop:=∀(v:V) (m d:Nat) (K:LV→OV R),StateS m d v→W (fun o=>o=[.int .i64 (ndKind v)]) K (G 68 [v] K)
theorem kind_ok:KindOK (fun _ args (K:LV→OV R)=>g68 G k args K):=by
 intro v m d K hv
 cases d with
 |zero=>exact hv.elim
 |succ d=>
 obtain⟨kind,nm,en,ex,tr,kids,rfl,_⟩:=hv
 show W _ K (f68 G k kind nm en ex tr kids 0 K)
 unfold f68
 have e:ndKind (.agg [.int .i64 kind,.str nm,.sl 8 en,.sl 8 ex,.sl 5 tr,.sl 7 kids,.int .i64 0])=if kind=3 then 4 else if kind=4 then 5 else if kind=2 then 3 else if kids.length=0 then 1 else 2:=rfl
 rw[e]
 refine W_beqI (fun h=> ?_) (fun h=> ?_)
 ·exact W_ret (by rw[if_pos h])
 refine W_beqI (fun h1=> ?_) (fun h1=> ?_)
 ·exact W_ret (by rw[if_neg h,if_pos h1])
 refine W_beqI (fun h2=> ?_) (fun h2=> ?_)
 ·exact W_ret (by rw[if_neg h,if_neg h1,if_pos h2])
 refine W_beqI (fun h3=> ?_) (fun h3=> ?_)
 ·exact W_ret (by rw[if_neg h,if_neg h1,if_neg h2,if_pos (by omega)])
 ·exact W_ret (by rw[if_neg h,if_neg h1,if_neg h2,if_neg (by omega)])
def IsStOK(G:ORC R):Prop:=∀(n:Nd) (K:LV→OV R),W (fun o=>o=[.bool (decide (n.kind≤3))]) K (G 27 [n.v] K)
theorem isst_ok:IsStOK (fun _ args (K:LV→OV R)=>g27 G k args K):=by
 intro n K
 show W _ K (f27 G k n.kind n.parent n.last n.init n.entry n.exit n.name K)
 unfold f27
 exact W_ret rfl
def PutOK(d:Nat)(G:ORC R):Prop:=∀(l:List Nd) (kids:LV) (up:Nat) (K:LV→OV R),(∀s∈kids,StateS 2 d s)→(∀s r,kids=s::r→kindV s≤2)→up<l.length→l.length+nszL d kids≤1000→
 W (fun o=>o=[.sl 7 ((fixup l up l.length kids++forest d up l.length kids).map Nd.v)]) K (G 52 [.sl 7 (l.map Nd.v),.sl 7 kids,.int .i64 up] K)
theorem fixup_one{P:List Nd}{nd:Nd}{n:Nat}{s:V}{kids:LV}(hn:P.length=n)(hi:nd.init= -1)(hk:nd.kind=ndKind s)(hs:stKids s=kids):
 fixup (P++[nd]) n (n+1) kids=P++[{nd with init:=if ndKind s=2 then(n:Int)+1 else-1}]:=by
 subst hn
 unfold fixup
 cases kids with
 |nil=>
  have h2:ndKind s≠2:=by unfold ndKind;rw[hs];simp;omega
  simp only[if_neg h2]
  rw[←hi]
 |cons a r=>
  simp only[List.getElem?_append_right (Nat.le_refl _),Nat.sub_self,List.getElem?_cons_zero]
  by_cases h2:ndKind s=2
  ·rw[if_pos ⟨by omega,by omega⟩,if_pos h2];simp
  ·rw[if_neg (by omega),if_neg h2,←hi]
theorem put_loop{d:Nat}(hKd:KindOK G)(hSt:IsStOK G)(hP:∀d',d=d'+1→PutOK d' G){Q:LV→Prop}{K:LV→OV R}{Ko:LV→OV R}{l0:List Nd}{kids:LV}{up:Nat}
 (hk:∀s∈kids,StateS 2 d s) (hh:∀s r,kids=s::r→kindV s≤2) (hup:up<l0.length) (hsz:l0.length+nszL d kids≤1000)
 (hKo:W Q K (Ko ((fixup l0 up l0.length kids++forest d up l0.length kids).map Nd.v))):
 ∀(B A:LV) (j:Nat),kids=A++B→B.length<j→W Q K (l52_0g G k Ko j ((fixup l0 up l0.length A++forest d up l0.length A).map Nd.v) (A++B) up A.length)
 |B,A,0,h1,h2=>by omega
 | [],A,j+1,h1,h2=>by
   show W Q K (b52_0 G k (l52_0g G k Ko j) Ko ((fixup l0 up l0.length A++forest d up l0.length A).map Nd.v) (A++[]) up A.length)
   unfold b52_0
   refine W_no (by simp) ?_
   rw[List.append_nil]at h1
   rw[←h1];exact hKo
 |b::B,A,j+1,h1,h2=>by
  show W Q K (b52_0 G k (l52_0g G k Ko j) Ko ((fixup l0 up l0.length A++forest d up l0.length A).map Nd.v) (A++b::B) up A.length)
  unfold b52_0
  have hb:StateS 2 d b:=hk b (by rw[h1];simp)
  have hbk:=hb
  cases d with
  |zero=>exact hb.elim
  |succ d=>
  simp only[List.length_cons]at h2
  have hAl:=nszL_len (d:=d) (l:=A)
  have hnsz:nszL (d+1) kids=nszL (d+1) A+(1+nszL d (stKids b)+nszL (d+1) B):=by rw[h1,nszL_app,nszL_cons]
  obtain⟨kind,nm,en,ex,tr,kb,rfl,x1,x2,x3,x4,x5,x6,x7,x8,x9,x10,x11,x12,x13⟩:=hb
  have hkb:stKids (.agg [.int .i64 kind,.str nm,.sl 8 en,.sl 8 ex,.sl 5 tr,.sl 7 kb,.int .i64 0])=kb:=rfl
  have hnb:stName (.agg [.int .i64 kind,.str nm,.sl 8 en,.sl 8 ex,.sl 5 tr,.sl 7 kb,.int .i64 0])=nm:=rfl
  have hkk:kindV (.agg [.int .i64 kind,.str nm,.sl 8 en,.sl 8 ex,.sl 5 tr,.sl 7 kb,.int .i64 0])=kind:=rfl
  generalize hbe:(V.agg [.int .i64 kind,.str nm,.sl 8 en,.sl 8 ex,.sl 5 tr,.sl 7 kb,.int .i64 0])=b at*
  have hcl:(fixup l0 up l0.length A++forest (d+1) up l0.length A).length=l0.length+nszL (d+1) A:=by rw[List.length_append,fixup_len,forest_len]
  have hlt:(A.length:Int)<(((A++b::B).length:Nat):Int):=by simp;omega
  have hnthb:∀v,(A++b::B)[Int.toNat (A.length:Int)]? =some v→v=b:=fun v hv=>by simp at hv;exact hv.symm
  refine W_yes hlt (W_and (W_yes (by omega) (W_yes hlt ?_)))
  refine W_nth (by omega) (fun v hv _=> ?_)
  rw[hnthb v hv,←hbe]
  refine W_asAgg ?_
  rw[hbe]
  refine W_call (hKd b 2 (d+1) _ hbk) ?_
  rintro _ rfl
  refine W_uI (W_unNil ?_)
  refine W_and (W_yes (by omega) (W_yes hlt ?_))
  refine W_nth (by omega) (fun v hv _=> ?_)
  rw[hnthb v hv,←hbe]
  refine W_ca7 (W_asStr ?_)
  rw[hbe]
  generalize hcur:fixup l0 up l0.length A++forest (d+1) up l0.length A=cur at*
  generalize hn0:cur.length=n at*
  have hnd:List.map Nd.v cur++[.agg [.int .i64 (ndKind b),.int .i64 (up:Int),.int .i64 0,.int .i64 (-1),.int .i64 (-1),.int .i64 (-1),.str nm]]=(cur++[(⟨ndKind b,up,0,-1,-1,-1,nm⟩:Nd)]).map Nd.v:=by rw[List.map_append];rfl
  rw[hnd]
  refine W_yes (by rw[List.length_map];omega) ?_
  simp only[List.length_map,hn0,List.length_append,List.length_cons,List.length_nil]
  have hupn:up<n:=by omega
  refine W_and (W_yes (by omega) (W_yes (by omega) ?_))
  refine W_nthN (by simp;omega) (fun n1 hn1=>W_nd ?_)
  refine W_ce7 (W_aI ?_)
  have hn1':cur[up]? =some n1:=by
   rw[Int.toNat_natCast,List.getElem?_append_left (by omega)]at hn1;exact hn1
  have hcur1:A=[]→cur=l0:=fun h=>by rw[←hcur,h,fixup_nil];simp[forest]
  have hcur2:A≠[]→¬(n1.init<0∧n1.kind=2):=by
   intro hA hc
   rw[←hcur,List.getElem?_append_left (by rw[fixup_len];exact hup)]at hn1'
   cases A with
   |nil=>exact hA rfl
   |cons a r=>
    have e0:l0[up]? =some l0[up]:=List.getElem?_eq_getElem hup
    unfold fixup at hn1'
    simp only[e0]at hn1'
    by_cases hq:l0[up].init<0∧l0[up].kind=2
    ·rw[if_pos hq,List.getElem?_set_self hup]at hn1'
     cases hn1'
     have:=hc.1
     simp at this;omega
    ·rw[if_neg hq,e0]at hn1'
     cases hn1';exact hq hc
  have hfx:fixup l0 up l0.length (A++[b])++forest (d+1) up l0.length A=if n1.init<0∧n1.kind=2 then cur.set up {n1 with init:=n}else cur:=by
   by_cases hA:A=[]
   ·have hc:=hcur1 hA
    subst hA
    have hn00:n=l0.length:=by rw[←hn0,hc]
    rw[←hn00]
    rw[hc]at hn1' ⊢
    unfold fixup
    simp only[List.nil_append,hn1']
    rw[show forest (d+1) (up:Int) n []=[]by rw[forest],List.append_nil]
   ·rw[if_neg (hcur2 hA),←hcur]
    congr 1
    unfold fixup
    cases A with
    |nil=>exact absurd rfl hA
    |cons a r=>cases l0[up]? <;>rfl
  have fin:∀L2:List Nd,L2=(fixup l0 up l0.length (A++[b])++forest (d+1) up l0.length A)++[(⟨ndKind b,up,0,-1,-1,-1,nm⟩:Nd)]→∀(n2:Nd) (len:Int),len=((fixup L2 n (n+1) kb++forest d n (n+1) kb).length:Int)-1→(fixup L2 n (n+1) kb++forest d n (n+1) kb)[n]? =some n2→
   (fixup L2 n (n+1) kb++forest d n (n+1) kb).set n {n2 with last:=len}=fixup l0 up l0.length (A++[b])++forest (d+1) up l0.length (A++[b]):=by
   intro L2 hL2 n2 len hlen hn2
   have hPl:(fixup l0 up l0.length (A++[b])++forest (d+1) up l0.length A).length=n:=by rw[List.length_append,fixup_len,forest_len];omega
   generalize hPe:fixup l0 up l0.length (A++[b])++forest (d+1) up l0.length A=P at*
   rw[hL2]at hn2 hlen ⊢
   rw[fixup_one hPl rfl rfl hkb]at hn2 hlen ⊢
   rw[List.append_assoc,List.getElem?_append_right (by omega)]at hn2
   rw[hPl,Nat.sub_self]at hn2
   simp only[List.cons_append,List.nil_append,List.getElem?_cons_zero,Option.some.injEq]at hn2
   rw[List.append_assoc,←hPl,List.set_append_right _ _ (Nat.le_refl _),Nat.sub_self]
   simp only[List.cons_append,List.nil_append,List.set_cons_zero]
   rw[forest_app,←List.append_assoc,hPe]
   congr 1
   rw[forest,hkb,hnb,show forest (d+1) (up:Int) (l0.length+nszL (d+1) A+1+nszL d kb) []=[]by rw[forest],List.append_nil]
   have hnn:l0.length+nszL (d+1) A=n:=by omega
   rw[hnn,←hn2,hPl]
   congr 1
   rw[hlen]
   simp only[List.length_append,List.length_cons,List.length_nil,forest_len,hPl]
   congr 1
   omega
  have rest:∀(L2:List Nd),L2=(fixup l0 up l0.length (A++[b])++forest (d+1) up l0.length A)++[(⟨ndKind b,up,0,-1,-1,-1,nm⟩:Nd)]→∀F:LV→OV R,
   (∀n2:Nd,(fixup L2 n (n+1) kb++forest d n (n+1) kb)[n]? =some n2→W Q K (F [.sl 7 ((fixup L2 n (n+1) kb++forest d n (n+1) kb).map Nd.v)]))→W Q K (G 52 [.sl 7 (L2.map Nd.v),.sl 7 kb,.int .i64 (n:Int)] F):=by
   intro L2 hL2 F hF
   have hPl:(fixup l0 up l0.length (A++[b])++forest (d+1) up l0.length A).length=n:=by rw[List.length_append,fixup_len,forest_len];omega
   have hL2l:L2.length=n+1:=by rw[hL2,List.length_append,hPl];rfl
   have hsz2:n+1+nszL d kb≤1000:=by rw[hkb]at hnsz;omega
   refine W_call (hP d rfl L2 kb n F x10 x12 (by omega) (by omega)) ?_
   rintro _ rfl
   rw[hL2l]
   have hl:n<(fixup L2 n (n+1) kb++forest d n (n+1) kb).length:=by rw[List.length_append,fixup_len];omega
   exact hF _ (List.getElem?_eq_getElem hl)
  have hnm1:∀m:Nd,(cur++[(⟨ndKind b,up,0,-1,-1,-1,nm⟩:Nd)])[Int.toNat (up:Int)]? =some m→m=n1:=fun m hm=>by rw[hn1]at hm;cases hm;rfl
  generalize hPe:fixup l0 up l0.length (A++[b])++forest (d+1) up l0.length A=P at hfx rest fin
  refine W_dec (fun hi=> ?_) (fun hi=> ?_)
  ·refine W_and (W_yes (by omega) (W_yes (by omega) ?_))
   refine W_nthN (by simp;omega) (fun m hm=>W_nd ?_)
   rw[hnm1 m hm]
   refine W_ce7 (W_aI ?_)
   refine W_beqI (fun hk2=> ?_) (fun hk2=> ?_)
   ·have hA:A=[]:=Classical.byContradiction fun h=>hcur2 h ⟨hi,hk2⟩
    have hbk2:kindV b≤2:=hh b B (by rw[h1,hA];rfl)
    have hnk:ndKind b≤3:=by unfold ndKind;split;omega;split;omega;split;omega;split<;>omega
    rw[if_pos ⟨hi,hk2⟩]at hfx
    refine W_and (W_yes (by omega) (W_yes (by omega) ?_))
    refine W_nthN (by simp;omega) (fun m hm=>W_nd ?_)
    have hm2:m=⟨ndKind b,up,0,-1,-1,-1,nm⟩:=by
     rw[Int.toNat_natCast,List.getElem?_append_right (by omega),hn0,Nat.sub_self]at hm
     simp at hm;exact hm.symm
    subst hm2
    refine W_ce7 (W_aI (W_aI (W_aI (W_aI (W_aI (W_aI (W_asStr ?_)))))))
    refine W_call (hSt ⟨ndKind b,up,0,-1,-1,-1,nm⟩ _) ?_
    rintro _ rfl
    refine W_uB (W_unNil (W_yes hnk ?_))
    refine W_and (W_yes (by omega) (W_yes (by omega) ?_))
    refine W_nthN (by simp;omega) (fun m hm=>W_nd ?_)
    rw[hnm1 m hm]
    refine W_ce7 ?_
    have hset:List.set (List.map Nd.v (cur++[(⟨ndKind b,up,0,-1,-1,-1,nm⟩:Nd)])) (Int.toNat (up:Int)) (V.agg [.int .i64 n1.kind,.int .i64 n1.parent,.int .i64 n1.last,.int .i64 (n:Int),.int .i64 n1.entry,.int .i64 n1.exit,.str n1.name])=(P++[(⟨ndKind b,up,0,-1,-1,-1,nm⟩:Nd)]).map Nd.v:=by
     rw[Int.toNat_natCast,show V.agg [.int .i64 n1.kind,.int .i64 n1.parent,.int .i64 n1.last,.int .i64 (n:Int),.int .i64 n1.entry,.int .i64 n1.exit,.str n1.name]=({n1 with init:=n}:Nd).v from rfl,set_map,List.set_append_left _ _ (by omega),hfx]
    rw[hset]
    refine W_and (W_yes (by omega) (W_yes (by omega) ?_))
    refine W_nth (by omega) (fun v hv _=> ?_)
    rw[hnthb v hv,←hbe]
    refine W_ca7 (W_asSl ?_)
    rw[hbe]
    refine rest _ rfl _ (fun n2 hn2=> ?_)
    refine W_uL (W_unNil ?_)
    have hlen2:(fixup (P++[(⟨ndKind b,up,0,-1,-1,-1,nm⟩:Nd)]) n (n+1) kb++forest d n (n+1) kb).length=n+1+nszL d kb:=by
     have hPl:P.length=n:=by rw[←hPe,List.length_append,fixup_len,forest_len];omega
     rw[List.length_append,fixup_len,forest_len,List.length_append,hPl];rfl
    refine W_and (W_yes (by omega) (W_yes (by rw[List.length_map];omega) ?_))
    refine W_nthN (by rw[Int.toNat_natCast];omega) (fun m hm=>W_nd ?_)
    rw[Int.toNat_natCast]at hm
    refine W_ce7 ?_
    rw[hkb]at hnsz
    have hw:IntKind.i64.wrap (((List.map Nd.v (fixup (P++[(⟨ndKind b,up,0,-1,-1,-1,nm⟩:Nd)]) n (n+1) kb++forest d n (n+1) kb)).length:Int)-1)=((fixup (P++[(⟨ndKind b,up,0,-1,-1,-1,nm⟩:Nd)]) n (n+1) kb++forest d n (n+1) kb).length:Int)-1:=by
     rw[List.length_map];exact wrap_id (by omega)
    rw[hw,wrap_id (n:=(A.length:Int)+1) (by omega)]
    have hset2:∀len:Int,len=((fixup (P++[(⟨ndKind b,up,0,-1,-1,-1,nm⟩:Nd)]) n (n+1) kb++forest d n (n+1) kb).length:Int)-1→List.set (List.map Nd.v (fixup (P++[(⟨ndKind b,up,0,-1,-1,-1,nm⟩:Nd)]) n (n+1) kb++forest d n (n+1) kb)) (Int.toNat (n:Int)) (V.agg [.int .i64 m.kind,.int .i64 m.parent,.int .i64 len,.int .i64 m.init,.int .i64 m.entry,.int .i64 m.exit,.str m.name])=(fixup l0 up l0.length (A++[b])++forest (d+1) up l0.length (A++[b])).map Nd.v:=by
     intro len hlen
     rw[Int.toNat_natCast,show V.agg [.int .i64 m.kind,.int .i64 m.parent,.int .i64 len,.int .i64 m.init,.int .i64 m.entry,.int .i64 m.exit,.str m.name]=({m with last:=len}:Nd).v from rfl,set_map,fin _ rfl m len hlen hm]
    rw[hset2 _ rfl]
    have e:=put_loop hKd hSt hP hk hh hup hsz hKo B (A++[b]) j (by rw[h1];simp) (by omega)
    simp only[List.append_assoc,List.singleton_append,List.length_append,List.length_cons,List.length_nil,Nat.zero_add,Int.natCast_add,Int.natCast_one]at e
    exact e
   ·rw[if_neg (by rintro⟨_,h⟩;exact hk2 h)]at hfx
    rw[←hfx]
    refine W_and (W_yes (by omega) (W_yes (by omega) ?_))
    refine W_nth (by omega) (fun v hv _=> ?_)
    rw[hnthb v hv,←hbe]
    refine W_ca7 (W_asSl ?_)
    rw[hbe]
    refine rest _ rfl _ (fun n2 hn2=> ?_)
    refine W_uL (W_unNil ?_)
    have hlen2:(fixup (P++[(⟨ndKind b,up,0,-1,-1,-1,nm⟩:Nd)]) n (n+1) kb++forest d n (n+1) kb).length=n+1+nszL d kb:=by
     have hPl:P.length=n:=by rw[←hPe,List.length_append,fixup_len,forest_len];omega
     rw[List.length_append,fixup_len,forest_len,List.length_append,hPl];rfl
    refine W_and (W_yes (by omega) (W_yes (by rw[List.length_map];omega) ?_))
    refine W_nthN (by rw[Int.toNat_natCast];omega) (fun m hm=>W_nd ?_)
    rw[Int.toNat_natCast]at hm
    refine W_ce7 ?_
    rw[hkb]at hnsz
    have hw:IntKind.i64.wrap (((List.map Nd.v (fixup (P++[(⟨ndKind b,up,0,-1,-1,-1,nm⟩:Nd)]) n (n+1) kb++forest d n (n+1) kb)).length:Int)-1)=((fixup (P++[(⟨ndKind b,up,0,-1,-1,-1,nm⟩:Nd)]) n (n+1) kb++forest d n (n+1) kb).length:Int)-1:=by
     rw[List.length_map];exact wrap_id (by omega)
    rw[hw,wrap_id (n:=(A.length:Int)+1) (by omega)]
    have hset2:∀len:Int,len=((fixup (P++[(⟨ndKind b,up,0,-1,-1,-1,nm⟩:Nd)]) n (n+1) kb++forest d n (n+1) kb).length:Int)-1→List.set (List.map Nd.v (fixup (P++[(⟨ndKind b,up,0,-1,-1,-1,nm⟩:Nd)]) n (n+1) kb++forest d n (n+1) kb)) (Int.toNat (n:Int)) (V.agg [.int .i64 m.kind,.int .i64 m.parent,.int .i64 len,.int .i64 m.init,.int .i64 m.entry,.int .i64 m.exit,.str m.name])=(fixup l0 up l0.length (A++[b])++forest (d+1) up l0.length (A++[b])).map Nd.v:=by
     intro len hlen
     rw[Int.toNat_natCast,show V.agg [.int .i64 m.kind,.int .i64 m.parent,.int .i64 len,.int .i64 m.init,.int .i64 m.entry,.int .i64 m.exit,.str m.name]=({m with last:=len}:Nd).v from rfl,set_map,fin _ rfl m len hlen hm]
    rw[hset2 _ rfl]
    have e:=put_loop hKd hSt hP hk hh hup hsz hKo B (A++[b]) j (by rw[h1];simp) (by omega)
    simp only[List.append_assoc,List.singleton_append,List.length_append,List.length_cons,List.length_nil,Nat.zero_add,Int.natCast_add,Int.natCast_one]at e
    exact e
  ·rw[if_neg (by rintro⟨h,_⟩;exact hi h)]at hfx
   rw[←hfx]
   refine W_and (W_yes (by omega) (W_yes (by omega) ?_))
   refine W_nth (by omega) (fun v hv _=> ?_)
   rw[hnthb v hv,←hbe]
   refine W_ca7 (W_asSl ?_)
   rw[hbe]
   refine rest _ rfl _ (fun n2 hn2=> ?_)
   refine W_uL (W_unNil ?_)
   have hlen2:(fixup (P++[(⟨ndKind b,up,0,-1,-1,-1,nm⟩:Nd)]) n (n+1) kb++forest d n (n+1) kb).length=n+1+nszL d kb:=by
    have hPl:P.length=n:=by rw[←hPe,List.length_append,fixup_len,forest_len];omega
    rw[List.length_append,fixup_len,forest_len,List.length_append,hPl];rfl
   refine W_and (W_yes (by omega) (W_yes (by rw[List.length_map];omega) ?_))
   refine W_nthN (by rw[Int.toNat_natCast];omega) (fun m hm=>W_nd ?_)
   rw[Int.toNat_natCast]at hm
   refine W_ce7 ?_
   rw[hkb]at hnsz
   have hw:IntKind.i64.wrap (((List.map Nd.v (fixup (P++[(⟨ndKind b,up,0,-1,-1,-1,nm⟩:Nd)]) n (n+1) kb++forest d n (n+1) kb)).length:Int)-1)=((fixup (P++[(⟨ndKind b,up,0,-1,-1,-1,nm⟩:Nd)]) n (n+1) kb++forest d n (n+1) kb).length:Int)-1:=by
    rw[List.length_map];exact wrap_id (by omega)
   rw[hw,wrap_id (n:=(A.length:Int)+1) (by omega)]
   have hset2:∀len:Int,len=((fixup (P++[(⟨ndKind b,up,0,-1,-1,-1,nm⟩:Nd)]) n (n+1) kb++forest d n (n+1) kb).length:Int)-1→List.set (List.map Nd.v (fixup (P++[(⟨ndKind b,up,0,-1,-1,-1,nm⟩:Nd)]) n (n+1) kb++forest d n (n+1) kb)) (Int.toNat (n:Int)) (V.agg [.int .i64 m.kind,.int .i64 m.parent,.int .i64 len,.int .i64 m.init,.int .i64 m.entry,.int .i64 m.exit,.str m.name])=(fixup l0 up l0.length (A++[b])++forest (d+1) up l0.length (A++[b])).map Nd.v:=by
    intro len hlen
    rw[Int.toNat_natCast,show V.agg [.int .i64 m.kind,.int .i64 m.parent,.int .i64 len,.int .i64 m.init,.int .i64 m.entry,.int .i64 m.exit,.str m.name]=({m with last:=len}:Nd).v from rfl,set_map,fin _ rfl m len hlen hm]
   rw[hset2 _ rfl]
   have e:=put_loop hKd hSt hP hk hh hup hsz hKo B (A++[b]) j (by rw[h1];simp) (by omega)
   simp only[List.append_assoc,List.singleton_append,List.length_append,List.length_cons,List.length_nil,Nat.zero_add,Int.natCast_add,Int.natCast_one]at e
   exact e
theorem put_ok{d:Nat}(hk:10000≤k)(hKd:KindOK G)(hSt:IsStOK G)(hP:∀d',d=d'+1→PutOK d' G):PutOK d (fun _ args (K:LV→OV R)=>g52 G k args K):=by
 intro l kids up K h1 h2 h3 h4
 show W _ K (f52 G k (l.map Nd.v) kids up K)
 unfold f52 l52_0
 have hlen:kids.length≤nszL d kids∨kids=[]:=by
  cases d with
  |zero=>
   cases kids with
   |nil=>exact .inr rfl
   |cons a r=>exact(h1 a (by simp)).elim
  |succ d=>exact .inl nszL_len
 have hl2:kids.length<k:=by
  rcases hlen with h|h
  ·omega
  ·rw[h];simp;omega
 have e:=put_loop (Q:=fun o=>o=[.sl 7 ((fixup l up l.length kids++forest d up l.length kids).map Nd.v)]) (K:=K) (k:=k) (Ko:=fun yl=>K [.sl 7 yl]) hKd hSt hP h1 h2 h3 h4 (W_ret rfl) kids [] k rfl hl2
 rw[fixup_nil,List.nil_append]at e
 have hf:forest d (up:Int) l.length []=[]:=by cases d<;>rw[forest]
 rw[hf,List.append_nil]at e
 exact e
def NodesOK(G:ORC R):Prop:=∀(nm:ByteArray) (x y:Int) (a b c states:LV) (z:Int) (K:LV→OV R),(∀s∈states,StateS 2 3 s∧kindV s≤2)→nszL 3 states≤900→
 W (fun o=>o=[.sl 7 ((ndsOf states).map Nd.v)]) K (G 22 [.agg [.str nm,.int .i64 x,.int .i64 y,.sl 3 a,.sl 3 b,.sl 3 c,.sl 7 states,.int .i64 z]] K)
theorem nodes_ok(hP:PutOK 3 G):NodesOK (fun _ args (K:LV→OV R)=>g22 G k args K):=by
 intro nm x y a b c states z K h1 h2
 show W _ K (f22 G k nm x y a b c states z K)
 unfold f22
 refine W_call (hP [(⟨2,-1,0,-1,-1,-1,⟨#[]⟩⟩:Nd)] states 0 _ (fun s hs=>(h1 s hs).1) (fun s r e=>(h1 s (by rw[e];simp)).2) (by simp) (by simp;omega)) ?_
 rintro _ rfl
 refine W_uL (W_unNil ?_)
 have hl:(fixup [(⟨2,-1,0,-1,-1,-1,⟨#[]⟩⟩:Nd)] 0 1 states++forest 3 (0:Nat) 1 states).length=1+nszL 3 states:=by rw[List.length_append,fixup_len,forest_len];rfl
 simp only[List.length_cons,List.length_nil,Nat.zero_add,List.length_map,hl]
 have hl0:(0:Int)<((1+nszL 3 states:Nat):Int):=by omega
 refine W_yes (by omega) ?_
 refine W_nthN (by rw[hl];omega) (fun n hn=>W_nd ?_)
 refine W_ce7 ?_
 rw[wrap_id (by omega)]
 refine W_ret ?_
 have e:(fixup [(⟨2,-1,0,-1,-1,-1,⟨#[]⟩⟩:Nd)] 0 1 states++forest 3 (0:Nat) 1 states).set 0 {n with last:=((1+nszL 3 states:Nat):Int)-1}=ndsOf states:=by
  have hq:((1+nszL 3 states:Nat):Int)-1=(nszL 3 states:Nat):=by omega
  rw[hq]
  unfold ndsOf
  cases states with
  |nil=>
   rw[fixup_nil]at hn ⊢
   simp at hn;subst hn;rfl
  |cons s r=>
   have hf:fixup [(⟨2,-1,0,-1,-1,-1,⟨#[]⟩⟩:Nd)] 0 1 (s::r)=[⟨2,-1,0,1,-1,-1,⟨#[]⟩⟩]:=by unfold fixup;simp
   rw[hf]at hn ⊢
   simp at hn;subst hn;simp
 rw[←e,←set_map];rfl
end
section
variable {R : Type} {G : ORC R} {k : Nat} {K : LV → OV R}
def IsOK(G:ORC R):Prop:=∀(l:LV) (i:Int) (K:LV→OV R),W (fun o=>o=[.bool (decide (0≤i∧i<l.length))]) K (G 30 [.sl 7 l,.int .i64 i] K)
theorem is_ok:IsOK (fun _ args (K:LV→OV R)=>g30 G k args K):=by
 intro l i K
 show W _ K (f30 G k l i K)
 unfold f30
 refine W_dec (fun h=> ?_) (fun h=> ?_)
 ·exact W_ret (by congr 3;simp;omega)
 ·exact W_ret (by congr 2;symm;rw[decide_eq_false];omega)
def InOK(G:ORC R):Prop:=∀(l:List Nd) (a b:Int) (K:LV→OV R),W (fun o=>o=[.bool (inN l a b)]) K (G 29 [.sl 7 (l.map Nd.v),.int .i64 a,.int .i64 b] K)
theorem in_ok(hI:IsOK G):InOK (fun _ args (K:LV→OV R)=>g29 G k args K):=by
 intro l a b K
 show W _ K (f29 G k (l.map Nd.v) a b K)
 unfold f29
 unfold IsOK at hI
 have no:¬(0≤a∧a<l.length∧0≤b∧b<l.length∧a≥b)→inN l a b=false:=fun h=>by unfold inN;rw[decide_eq_false h];rfl
 refine W_call (hI _ _ _) ?_
 rintro _ rfl
 refine W_uB (W_unNil ?_)
 simp only[List.length_map]
 refine W_dec (fun h1=> ?_) (fun h1=>W_ret (by rw[no (by omega)]))
 refine W_call (hI _ _ _) ?_
 rintro _ rfl
 refine W_uB (W_unNil ?_)
 simp only[List.length_map]
 refine W_dec (fun h2=> ?_) (fun h2=>W_ret (by rw[no (by omega)]))
 refine W_dec (fun h3=> ?_) (fun h3=>W_ret (by rw[no (by omega)]))
 refine W_and (W_yes h2.1 (W_yes h2.2 ?_))
 refine W_nthN (by omega) (fun n hn=>W_nd ?_)
 refine W_ce7 (W_aI ?_)
 have e:inN l a b=decide (a≤n.last):=by
  unfold inN
  rw[decide_eq_true (show 0≤a∧a<l.length∧0≤b∧b<l.length∧a≥b from⟨h1.1,h1.2,h2.1,h2.2,h3⟩),hn];rfl
 exact W_ret (by rw[e])
end
def xiB(k:Nat)(G:ORC (List V)):ORC (List V):=fun f args K=>match f with
    |5=>g5 G k args K
    |6=>g6 G k args K
    |7=>g7 G k args K
    |8=>g8 G k args K
    |10=>g10 G k args K
    |12=>g12 G k args K
    |13=>g13 G k args K
    |15=>g15 G k args K
    |18=>g18 G k args K
    |21=>g21 G k args K
    |22=>g22 G k args K
    |23=>g23 G k args K
    |24=>g24 G k args K
    |25=>g25 G k args K
    |26=>g26 G k args K
    |27=>g27 G k args K
    |29=>g29 G k args K
    |30=>g30 G k args K
    |31=>g31 G k args K
    |32=>g32 G k args K
    |33=>g33 G k args K
    |34=>g34 G k args K
    |35=>g35 G k args K
    |40=>g40 G k args K
    |42=>g42 G k args K
    |43=>g43 G k args K
    |46=>g46 G k args K
    |48=>g48 G k args K
    |49=>g49 G k args K
    |50=>g50 G k args K
    |51=>g51 G k args K
    |52=>g52 G k args K
    |53=>g53 G k args K
    |54=>g54 G k args K
    |55=>g55 G k args K
    |56=>g56 G k args K
    |57=>g57 G k args K
    |58=>g58 G k args K
    |59=>g59 G k args K
    |60=>g60 G k args K
    |61=>g61 G k args K
    |64=>g64 G k args K
    |66=>g66 G k args K
    |67=>g67 G k args K
    |68=>g68 G k args K
    |69=>g69 G k args K
    |70=>g70 G k args K
    |71=>g71 G k args K
    |72=>g72 G k args K
    |73=>g73 G k args K
    |74=>g74 G k args K
    |76=>g76 G k args K
    |78=>g78 G k args K
    |84=>g84 G k args K
    |88=>g88 G k args K
    |89=>g89 G k args K
    |95=>g95 G k args K
    |65583=>g65583 G k args K
    |65601=>g65601 G k args K
    |65611=>g65611 G k args K
    |131137=>g131137 G k args K
    |_=>none
def xi(k:Nat):Nat→ORC (List V)
 |0=>fun _ _ _=>none
 |j+1=>fun f args K=>(xiB k (xi k j) f args (@some (List V))).bind K
theorem xi_sound(k:Nat):∀j,Sound Try.prog TAB (xi k j)
 |0=>fun f args K r h=>by cases h
 |j+1=>fun f args K r h=>by
  have ih:=xi_sound k j
  have h:(xiB k (xi k j) f args (@some (List V))).bind K=some r:=h
  cases hb:xiB k (xi k j) f args (@some (List V))with
  |none=>rw[hb]at h;cases h
  |some o=>
  rw[hb]at h
  have key:∃o',CallOK Try.prog TAB.env f args o'∧some o'=some o:=by
   unfold xiB at hb
   split at hb
   ·exact s5 ih args (@some (List V)) o hb
   ·exact s6 ih args (@some (List V)) o hb
   ·exact s7 ih args (@some (List V)) o hb
   ·exact s8 ih args (@some (List V)) o hb
   ·exact s10 ih args (@some (List V)) o hb
   ·exact s12 ih args (@some (List V)) o hb
   ·exact s13 ih args (@some (List V)) o hb
   ·exact s15 ih args (@some (List V)) o hb
   ·exact s18 ih args (@some (List V)) o hb
   ·exact s21 ih args (@some (List V)) o hb
   ·exact s22 ih args (@some (List V)) o hb
   ·exact s23 ih args (@some (List V)) o hb
   ·exact s24 ih args (@some (List V)) o hb
   ·exact s25 ih args (@some (List V)) o hb
   ·exact s26 ih args (@some (List V)) o hb
   ·exact s27 ih args (@some (List V)) o hb
   ·exact s29 ih args (@some (List V)) o hb
   ·exact s30 ih args (@some (List V)) o hb
   ·exact s31 ih args (@some (List V)) o hb
   ·exact s32 ih args (@some (List V)) o hb
   ·exact s33 ih args (@some (List V)) o hb
   ·exact s34 ih args (@some (List V)) o hb
   ·exact s35 ih args (@some (List V)) o hb
   ·exact s40 ih args (@some (List V)) o hb
   ·exact s42 ih args (@some (List V)) o hb
   ·exact s43 ih args (@some (List V)) o hb
   ·exact s46 ih args (@some (List V)) o hb
   ·exact s48 ih args (@some (List V)) o hb
   ·exact s49 ih args (@some (List V)) o hb
   ·exact s50 ih args (@some (List V)) o hb
   ·exact s51 ih args (@some (List V)) o hb
   ·exact s52 ih args (@some (List V)) o hb
   ·exact s53 ih args (@some (List V)) o hb
   ·exact s54 ih args (@some (List V)) o hb
   ·exact s55 ih args (@some (List V)) o hb
   ·exact s56 ih args (@some (List V)) o hb
   ·exact s57 ih args (@some (List V)) o hb
   ·exact s58 ih args (@some (List V)) o hb
   ·exact s59 ih args (@some (List V)) o hb
   ·exact s60 ih args (@some (List V)) o hb
   ·exact s61 ih args (@some (List V)) o hb
   ·exact s64 ih args (@some (List V)) o hb
   ·exact s66 ih args (@some (List V)) o hb
   ·exact s67 ih args (@some (List V)) o hb
   ·exact s68 ih args (@some (List V)) o hb
   ·exact s69 ih args (@some (List V)) o hb
   ·exact s70 ih args (@some (List V)) o hb
   ·exact s71 ih args (@some (List V)) o hb
   ·exact s72 ih args (@some (List V)) o hb
   ·exact s73 ih args (@some (List V)) o hb
   ·exact s74 ih args (@some (List V)) o hb
   ·exact s76 ih args (@some (List V)) o hb
   ·exact s78 ih args (@some (List V)) o hb
   ·exact s84 ih args (@some (List V)) o hb
   ·exact s88 ih args (@some (List V)) o hb
   ·exact s89 ih args (@some (List V)) o hb
   ·exact s95 ih args (@some (List V)) o hb
   ·exact s65583 ih args (@some (List V)) o hb
   ·exact s65601 ih args (@some (List V)) o hb
   ·exact s65611 ih args (@some (List V)) o hb
   ·exact s131137 ih args (@some (List V)) o hb
   ·cases hb
  obtain⟨o',h1,h2⟩:=key
  cases h2
  exact⟨o,h1,h⟩
theorem xi_U{k j:Nat}{f:FuncId}{args:List V}{Q:List V→Prop}(h:W Q (@some (List V)) (xiB k (xi k j) f args (@some (List V)))):∃o,Q o∧∀K,xi k (j+1) f args K=K o:=by
 obtain⟨o,q,e⟩:=h
 exact⟨o,q,fun K=>by show(xiB k (xi k j) f args (@some (List V))).bind K=_;rw[e];rfl⟩
theorem xi_W{k j:Nat}{f:FuncId}{args:List V}{Q:List V→Prop}{K:List V→Option (List V)}(h:W Q (@some (List V)) (xiB k (xi k j) f args (@some (List V)))):W Q K (xi k (j+1) f args K):=by
 obtain⟨o,q,e⟩:=xi_U h
 exact⟨o,q,e K⟩
set_option linter.unusedSimpArgs false
section
def Ev(P:ORC (List V)→Prop):Prop:=∃N,∀j,N≤j→P (xi 10000 j)
theorem ev0{P:ORC (List V)→Prop}(h:∀j,P (xi 10000 (j+1))):Ev P:=⟨1,fun j hj=>by obtain⟨j',rfl⟩:∃j',j=j'+1:=⟨j-1,by omega⟩;exact h j'⟩
theorem evS{A P:ORC (List V)→Prop}(hA:Ev A)(h:∀j,A (xi 10000 j)→P (xi 10000 (j+1))):Ev P:=by
 obtain⟨N,hN⟩:=hA
 refine⟨N+1,fun j hj=> ?_⟩
 obtain⟨j',rfl⟩:∃j',j=j'+1:=⟨j-1,by omega⟩
 exact h j' (hN j' (by omega))
theorem evA{A B:ORC (List V)→Prop}(hA:Ev A)(hB:Ev B):Ev fun G=>A G∧B G:=by
 obtain⟨N,hN⟩:=hA
 obtain⟨M,hM⟩:=hB
 exact⟨N+M,fun j hj=>⟨hN j (by omega),hM j (by omega)⟩⟩
theorem evT{P:ORC (List V)→Prop}(h:∀G,P G):Ev P:=⟨0,fun j _=>h _⟩
theorem evPlace:Ev PlaceS:=ev0 fun j=>by have e:=place_ok (G:=xi 10000 j) (k:=10000);unfold PlaceS at e ⊢;(intros;refine xi_W ?_;apply e<;>assumption)
theorem evNext:Ev NextS:=evS evPlace fun j h=>by have e:=next_ok (G:=xi 10000 j) (k:=10000) h;unfold NextS at e ⊢;(intros;refine xi_W ?_;apply e<;>assumption)
theorem evPick:Ev PickS:=evS evNext fun j h=>by have e:=pick_ok (G:=xi 10000 j) (k:=10000) h;unfold PickS at e ⊢;(intros;refine xi_W ?_;apply e<;>assumption)
theorem evExpr:∀d,d≤20→Ev (ExprOK d)
 |0,_=>evS (evA evNext evPick) fun j h=>by have e:=expr_ok (G:=xi 10000 j) (k:=10000) (d:=0) (by omega) h.1 h.2 (fun d' e=>by omega);unfold ExprOK at e ⊢;(intros;refine xi_W ?_;apply e<;>assumption)
 |d+1,hd=>evS (evA (evA evNext evPick) (evExpr d (by omega))) fun j h=>by have e:=expr_ok (G:=xi 10000 j) (k:=10000) (d:=d+1) hd h.1.1 h.1.2 (fun d' e=>by cases e;exact h.2);unfold ExprOK at e ⊢;(intros;refine xi_W ?_;apply e<;>assumption)
end
theorem evEvent:Ev EventS:=evS evPlace fun j h=>by have e:=event_ok (G:=xi 10000 j) (k:=10000) h;unfold EventS at e ⊢;(intros;refine xi_W ?_;apply e<;>assumption)
theorem evBlock:∀d,d≤3→Ev (BlockOK d)
 |0,_=>evS (evA (evA evNext evPick) (evA evEvent (evExpr 2 (by omega)))) fun j h=>by have e:=block_ok (G:=xi 10000 j) (k:=10000) (d:=0) (by omega) (by omega) h.1.1 h.1.2 h.2.1 h.2.2 (fun d' e=>by omega);unfold BlockOK at e ⊢;(intros;refine xi_W ?_;apply e<;>assumption)
 |d+1,hd=>evS (evA (evA (evA evNext evPick) (evA evEvent (evExpr 2 (by omega)))) (evBlock d (by omega))) fun j h=>by have e:=block_ok (G:=xi 10000 j) (k:=10000) (d:=d+1) (by omega) hd h.1.1.1 h.1.1.2 h.1.2.1 h.1.2.2 (fun d' e=>by cases e;exact h.2);unfold BlockOK at e ⊢;(intros;refine xi_W ?_;apply e<;>assumption)
section
theorem evDec1:Ev (DecS 1):=ev0 fun j=>by have e:=dec_step (G:=xi 10000 j) (k:=10000) (d:=0) (by omega) (.inl rfl);unfold DecS at e ⊢;(intros;refine xi_W ?_;apply e<;>assumption)
theorem evDec2:Ev (DecS 2):=evS evDec1 fun j h=>by have e:=dec_step (G:=xi 10000 j) (k:=10000) (d:=1) (by omega) (.inr h);unfold DecS at e ⊢;(intros;refine xi_W ?_;apply e<;>assumption)
theorem evDec3:Ev (DecS 3):=evS evDec2 fun j h=>by have e:=dec_step (G:=xi 10000 j) (k:=10000) (d:=2) (by omega) (.inr h);unfold DecS at e ⊢;(intros;refine xi_W ?_;apply e<;>assumption)
theorem evDig:Ev DigS:=evS evDec3 fun j h=>by have e:=dig_ok (G:=xi 10000 j) (k:=10000) h;unfold DigS at e ⊢;(intros;refine xi_W ?_;apply e<;>assumption)
theorem evNames:Ev NamesS:=evS evDig fun j h=>by have e:=names_ok (G:=xi 10000 j) (k:=10000) (by omega) h;unfold NamesS at e ⊢;(intros;refine xi_W ?_;apply e<;>assumption)
theorem evNumd:Ev NumdS:=evS evNext fun j h=>by have e:=named_ok (G:=xi 10000 j) (k:=10000) (by omega) h;unfold NumdS at e ⊢;(intros;refine xi_W ?_;apply e<;>assumption)
theorem evPlain:Ev PlainS:=ev0 fun j=>by have e:=plain_ok (G:=xi 10000 j) (k:=10000) (by omega);unfold PlainS at e ⊢;(intros;refine xi_W ?_;apply e<;>assumption)
theorem evSt:∀d,d≤2→Ev (StOK d)
 |0,_=>evS (evA evNext evDig) fun j h=>by have e:=st_ok (G:=xi 10000 j) (k:=10000) (d:=0) (by omega) (by omega) h.1 h.2 (fun d' e=>by omega);unfold StOK at e ⊢;(intros;refine xi_W ?_;apply e<;>assumption)
 |d+1,hd=>evS (evA (evA evNext evDig) (evSt d (by omega))) fun j h=>by have e:=st_ok (G:=xi 10000 j) (k:=10000) (d:=d+1) (by omega) (by omega) h.1.1 h.1.2 (fun d' e=>by cases e;exact h.2);unfold StOK at e ⊢;(intros;refine xi_W ?_;apply e<;>assumption)
theorem evFill:∀d,Ev (FillOK d)
 |0=>evT fun G x a p c s all L left i K h=>h.elim
 |d+1=>evS (evA (evA (evA evNext evPick) (evA evEvent (evExpr 2 (by omega)))) (evA (evA (evBlock 2 (by omega)) (evBlock 1 (by omega))) (evFill d))) fun j h=>by have e:=fill_ok (G:=xi 10000 j) (k:=10000) (d:=d+1) (by omega) h.1.1.1 h.1.1.2 h.1.2.1 h.1.2.2 h.2.1.1 h.2.1.2 (fun d' e=>by cases e;exact h.2.2);unfold FillOK at e ⊢;(intros;refine xi_W ?_;apply e<;>assumption)
theorem evChart:Ev ChartOK:=evS (evA (evA (evA evNext evNames) (evA evNumd evPlain)) (evA (evSt 2 (by omega)) (evFill 3))) fun j h=>by have e:=chart_ok (G:=xi 10000 j) (k:=10000) (by omega) h.1.1.1 h.1.1.2 h.1.2.1 h.1.2.2 h.2.1 h.2.2;unfold ChartOK at e ⊢;(intros;refine xi_W ?_;apply e<;>assumption)
theorem evKind:Ev KindOK:=ev0 fun j=>by have e:=kind_ok (G:=xi 10000 j) (k:=10000);unfold KindOK at e ⊢;(intros;refine xi_W ?_;apply e<;>assumption)
theorem evIsSt:Ev IsStOK:=ev0 fun j=>by have e:=isst_ok (G:=xi 10000 j) (k:=10000);unfold IsStOK at e ⊢;(intros;refine xi_W ?_;apply e<;>assumption)
theorem evPut:∀d,Ev (PutOK d)
 |0=>evS (evA evKind evIsSt) fun j h=>by have e:=put_ok (G:=xi 10000 j) (k:=10000) (d:=0) (by omega) h.1 h.2 (fun d' e=>by omega);unfold PutOK at e ⊢;(intros;refine xi_W ?_;apply e<;>assumption)
 |d+1=>evS (evA (evA evKind evIsSt) (evPut d)) fun j h=>by have e:=put_ok (G:=xi 10000 j) (k:=10000) (d:=d+1) (by omega) h.1.1 h.1.2 (fun d' e=>by cases e;exact h.2);unfold PutOK at e ⊢;(intros;refine xi_W ?_;apply e<;>assumption)
theorem evNodes:Ev NodesOK:=evS (evPut 3) fun j h=>by have e:=nodes_ok (G:=xi 10000 j) (k:=10000) h;unfold NodesOK at e ⊢;(intros;refine xi_W ?_;apply e<;>assumption)
theorem evIs:Ev IsOK:=ev0 fun j=>by have e:=is_ok (G:=xi 10000 j) (k:=10000);unfold IsOK at e ⊢;(intros;refine xi_W ?_;apply e<;>assumption)
theorem evIn:Ev InOK:=evS evIs fun j h=>by have e:=in_ok (G:=xi 10000 j) (k:=10000) h;unfold InOK at e ⊢;(intros;refine xi_W ?_;apply e<;>assumption)
end
section
variable {R : Type} {G : ORC R} {k : Nat} {K : LV → OV R}
def CIsOK(G:ORC R):Prop:=∀(l:LV) (i:Int) (K:LV→OV R),W (fun o=>o=[.bool (decide (0≤i∧i<l.length))]) K (G 40 [.sl 7 l,.int .i64 i] K)
theorem cis_ok:CIsOK (fun _ args (K:LV→OV R)=>g40 G k args K):=by
 intro l i K
 show W _ K (f40 G k l i K)
 unfold f40
 refine W_dec (fun h=> ?_) (fun h=> ?_)
 ·exact W_ret (by congr 3;simp;omega)
 ·exact W_ret (by congr 2;symm;rw[decide_eq_false];omega)
def CInOK(G:ORC R):Prop:=∀(l:List Nd) (a b:Int) (K:LV→OV R),W (fun o=>o=[.bool (inN l a b)]) K (G 64 [.sl 7 (l.map Nd.v),.int .i64 a,.int .i64 b] K)
theorem cin_ok(hI:CIsOK G):CInOK (fun _ args (K:LV→OV R)=>g64 G k args K):=by
 intro l a b K
 show W _ K (f64 G k (l.map Nd.v) a b K)
 unfold f64
 unfold CIsOK at hI
 have no:¬(0≤a∧a<l.length∧0≤b∧b<l.length∧a≥b)→inN l a b=false:=fun h=>by unfold inN;rw[decide_eq_false h];rfl
 refine W_call (hI _ _ _) ?_
 rintro _ rfl
 (repeat(with_reducible apply U1))
 simp only[List.length_map]
 refine W_dec (fun h1=> ?_) (fun h1=>W_ret (by rw[no (by omega)]))
 refine W_call (hI _ _ _) ?_
 rintro _ rfl
 (repeat(with_reducible apply U1))
 simp only[List.length_map]
 refine W_dec (fun h2=> ?_) (fun h2=>W_ret (by rw[no (by omega)]))
 refine W_dec (fun h3=> ?_) (fun h3=>W_ret (by rw[no (by omega)]))
 refine W_and (W_yes h2.1 (W_yes h2.2 ?_))
 refine W_nthN (by omega) (fun n hn=>W_nd ?_)
 (repeat(with_reducible apply U1))
 have e:inN l a b=decide (a≤n.last):=by
  unfold inN
  rw[decide_eq_true (show 0≤a∧a<l.length∧0≤b∧b<l.length∧a≥b from⟨h1.1,h1.2,h2.1,h2.2,h3⟩),hn];rfl
 exact W_ret (by rw[e])
end
section
variable {R : Type} {G : ORC R} {k : Nat} {K : LV → OV R}
def insN(l:List Nd)(a b:Int):Bool:=decide (a≠b)&&inN l a b
def InsOK(G:ORC R):Prop:=∀(l:List Nd) (a b:Int) (K:LV→OV R),W (fun o=>o=[.bool (insN l a b)]) K (G 46 [.sl 7 (l.map Nd.v),.int .i64 a,.int .i64 b] K)
theorem ins_ok(hI:CInOK G):InsOK (fun _ args (K:LV→OV R)=>g46 G k args K):=by
 intro l a b K
 show W _ K (f46 G k (l.map Nd.v) a b K)
 unfold f46
 unfold CInOK at hI
 by_cases h:a=b
 ·exact W_chk' (by simp[h]) (W_ret (by unfold insN;simp[h]))
 ·refine W_chk (by simp[h]) ?_
  refine W_call (hI _ _ _ _) ?_
  rintro _ rfl
  (repeat(with_reducible apply U1))
  exact W_ret (by unfold insN;simp[h])
def ChN(ns:List Nd):Prop:=∃states,ns=ndsOf states∧(∀s∈states,StateS 2 3 s∧kindV s≤2)∧states≠[]∧nszL 3 states≤9∧NmI (nmVL 3 states)
theorem ChN.len{ns:List Nd}(h:ChN ns):ns.length≤10:=by
 obtain⟨states,rfl,_,_,h,_⟩:=h
 unfold ndsOf;rw[List.length_cons,forest_len];omega
theorem ChN.tree{ns:List Nd}(h:ChN ns):Tree ns:=by
 obtain⟨states,rfl,h1,h2,_⟩:=h
 exact tree_nds h1 h2
def NdsOK(G:ORC R):Prop:=∀(v:LV) (K:LV→OV R),IntsS v→v.length≤200→W (fun o=>∃ns,o=[.sl 7 (ns.map Nd.v)]∧ChN ns) K (G 7 [.sl 1 v] K)
theorem nds_ok(hC:ChartOK G)(hN:NodesOK G):NdsOK (fun _ args (K:LV→OV R)=>g7 G k args K):=by
 intro v K h1 h2
 show W _ K (f7 G k v K)
 unfold f7
 unfold ChartOK at hC;unfold NodesOK at hN
 refine W_call (hC _ _ v 0 _ (by unfold StrS;decide) (by omega) (by omega) ⟨h1,by omega,by omega,by omega⟩) ?_
 rintro _ ⟨c,j,rfl,hc,hj⟩
 obtain⟨nm,st,fu,vars,ports,timers,states,rfl,x1,x2,x3,x4,x5,x6,x7,x8,x9,x10,x11,x12,x13⟩:=hc
 (repeat(with_reducible apply U1))
 refine W_call (hN _ _ _ _ _ _ _ _ _ x11 (by omega)) ?_
 rintro _ rfl
 (repeat(with_reducible apply U1))
 exact W_ret ⟨_,rfl,states,rfl,x11,x10,x12,x13⟩
def KnLOK(G:ORC R):Prop:=∀K:LV→OV R,G 6 [] K=K [.bool true]
theorem knl_go(hKn:KnLOK G):W (fun o=>o=[.bool true]) K (G 6 [] fun o=>uB o fun b r=>unNil r (K [.bool b])):=by
 rw[hKn];exact W_uB (W_unNil (W_ret rfl))
end
end Go.Proofs.Ytokgijpdehjckaa.Vm
namespace Go.VM
def hasL(l:List Int)(i:Int):Bool:=decide (i∈l)
def notL(a b:List Int):List Int:=a.filter fun x=> !hasL b x
def andL(a b:List Int):List Int:=notL a (notL a b)
theorem hasL_iff{l:List Int}{i:Int}:hasL l i=true↔i∈l:=by simp[hasL]
theorem andL_eq{a b:List Int}:andL a b=a.filter (hasL b):=by
 unfold andL notL
 apply List.filter_congr
 intro x hx
 simp[hasL,hx]
def ofGo(l:List Int):Nat→List Int
 |0=>[]
 |m+1=>ofGo l m++if hasL l m then[(m:Int)]else[]
theorem ofGo_len{l:List Int}:∀{m:Nat},(ofGo l m).length≤m
 |0=>Nat.le_refl 0
 |m+1=>by have:=ofGo_len (l:=l) (m:=m);unfold ofGo;split<;>simp<;>omega
def isSt(ns:List Nd)(k:Int):Bool:=match ns[k.toNat]? with|some n=>decide (n.kind≤3)|none=>false
def statesN(ns:List Nd)(i:Int):List Int:=(kidsN ns i).filter (isSt ns)
theorem take_snoc{l:List Int}{m:Nat}{c:Int}(h:l[m]? =some c):l.take (m+1)=l.take m++[c]:=by
 rw[List.take_add_one,h];rfl
def chainF(ns:List Nd):Nat→Int→List Int
 |0,_=>[]
 |f+1,c=>if 0≤c then(match ns[c.toNat]? with|some n=>c::chainF ns f n.parent|none=>[])else[]
def chainN(ns:List Nd)(c:Int):List Int:=chainF ns (ns.length+1) c
theorem chainF_neg{ns:List Nd}{f:Nat}{c:Int}(h:c<0):chainF ns f c=[]:=by
 cases f with
 |zero=>rfl
 |succ f=>unfold chainF;rw[if_neg (by omega)]
theorem chainF_stable{ns:List Nd}(T:Tree ns):∀(f f':Nat) (c:Int),c<f→c<f'→chainF ns f c=chainF ns f' c
 |0,f',c,h1,h2=>by rw[chainF_neg (by omega),chainF_neg (by omega)]
 |f+1,0,c,h1,h2=>by rw[chainF_neg (by omega),chainF_neg (by omega)]
 |f+1,f'+1,c,h1,h2=>by
  unfold chainF
  by_cases h0:0≤c
  ·rw[if_pos h0,if_pos h0]
   cases hn:ns[c.toNat]? with
   |none=>rfl
   |some n=>
    have:=T.seg.par c.toNat n hn
    show c::_=c::_
    rw[chainF_stable T f f' n.parent (by omega) (by omega)]
  ·rw[if_neg h0,if_neg h0]
theorem chain_neg{ns:List Nd}{c:Int}(h:c<0):chainN ns c=[]:=chainF_neg h
theorem chain_cons{ns:List Nd}(T:Tree ns){c:Int}{n:Nd}(h0:0≤c)(hn:ns[c.toNat]? =some n):chainN ns c=c::chainN ns n.parent:=by
 have:=T.seg.par c.toNat n hn
 have hl:=(List.getElem?_eq_some_iff.1 hn).1
 unfold chainN
 conv=>lhs;unfold chainF
 rw[if_pos h0,hn]
 show c::_=c::_
 rw[chainF_stable T ns.length (ns.length+1) n.parent (by omega) (by omega)]
theorem chain_all{ns:List Nd}(T:Tree ns):∀(f:Nat) (c:Int),c<f→c<ns.length→(chainN ns c).length≤f∧∀x∈chainN ns c,(0≤x∧x≤c)∧(x=c∨∃n,ns[x.toNat]? =some n∧(n.kind=2∨n.kind=3))∧∀y∈chainN ns x,y∈chainN ns c
 |f,c,h1,h2=>by
  rcases Int.lt_or_le c 0 with h0|h0
  ·rw[chain_neg h0];simp
  ·cases f with
   |zero=>omega
   |succ f=>
   obtain⟨n,hn⟩:∃n,ns[c.toNat]? =some n:=⟨_,List.getElem?_eq_getElem (by omega)⟩
   have hp:=T.seg.par c.toNat n hn
   have ec:=chain_cons T h0 hn
   obtain⟨k1,k2⟩:=chain_all T f n.parent (by omega) (by omega)
   refine⟨by rw[ec,List.length_cons];omega,?_⟩
   intro x hx
   rw[ec]at hx
   rcases List.mem_cons.1 hx with rfl|hx
   ·exact⟨⟨h0,Int.le_refl _⟩,.inl rfl,fun y hy=>hy⟩
   ·obtain⟨⟨a1,a2⟩,a3,a4⟩:=k2 x hx
    refine⟨⟨a1,by omega⟩,.inr ?_,fun y hy=>by rw[ec];exact List.mem_cons_of_mem _ (a4 y hy)⟩
    rcases a3 with rfl|a3
    ·obtain⟨p,p1,p2⟩:=T.seg.kid c.toNat n hn (by omega)
     exact⟨p,by simpa using p1,p2⟩
    ·exact a3
theorem chain_mem{ns:List Nd}(T:Tree ns){c x:Int}(hc:c<ns.length)(hx:x∈chainN ns c):(0≤x∧x≤c)∧(x=c∨∃n,ns[x.toNat]? =some n∧(n.kind=2∨n.kind=3))∧∀y∈chainN ns x,y∈chainN ns c:=
 (chain_all T (c.toNat+1) c (by omega) hc).2 x hx
def atomAt(ns:List Nd)(c:Int):Bool:=decide (0≤c∧c<ns.length)&&(match ns[c.toNat]? with|some n=>decide (n.kind=1)|none=>false)
theorem atomAt_iff{ns:List Nd}{c:Int}:atomAt ns c=true↔0≤c∧c<ns.length∧∃n,ns[c.toNat]? =some n∧n.kind=1:=by
 unfold atomAt
 rw[Bool.and_eq_true,decide_eq_true_eq]
 constructor
 ·rintro⟨⟨h1,h2⟩,h3⟩
  cases hn:ns[c.toNat]? with
  |none=>rw[hn]at h3;simp at h3
  |some n=>rw[hn]at h3;exact⟨h1,h2,n,rfl,by simpa using h3⟩
 ·rintro⟨h1,h2,n,h3,h4⟩
  rw[h3];exact⟨⟨h1,h2⟩,by simpa using h4⟩
def Asc(l:List Int):Prop:=l.Pairwise fun a b=>a<b
theorem mem_statesN{ns:List Nd}{a:Nat}{x:Int}(ha:a<ns.length):x∈statesN ns a↔∃(q:Nat) (m:Nd),x=q∧ns[q]? =some m∧m.parent=a∧m.kind≤3:=by
 unfold statesN
 rw[List.mem_filter,mem_kidsN]
 constructor
 ·rintro⟨⟨q,m,h1,h2,h3,_⟩,h4⟩
  refine⟨q,m,h1,h2,h3,?_⟩
  unfold isSt at h4
  rw[h1,Int.toNat_natCast,h2]at h4
  exact of_decide_eq_true h4
 ·rintro⟨q,m,h1,h2,h3,h4⟩
  refine⟨⟨q,m,h1,h2,h3,by omega,by omega⟩,?_⟩
  unfold isSt
  rw[h1,Int.toNat_natCast,h2]
  exact decide_eq_true h4
theorem kidsGo_asc{l:List Nd}{i:Int}:∀{m:Nat},Asc (kidsGo l i m)
 |0=>List.Pairwise.nil
 |m+1=>by
  unfold kidsGo
  refine List.pairwise_append.2 ⟨kidsGo_asc (m:=m),by split<;>simp,fun x hx y hy=> ?_⟩
  obtain⟨q,h1,h2,_⟩:=mem_kidsGo.1 hx
  split at hy
  ·rw[List.mem_singleton]at hy;omega
  ·simp at hy
theorem statesN_asc{ns:List Nd}{i:Int}:Asc (statesN ns i):=List.Pairwise.filter _ kidsGo_asc
theorem asc_one:∀{l:List Int} {x:Int},Asc l→x∈l→(l.filter fun y=>decide (y=x)).length=1
 | [],x,_,h=>by simp at h
 |a::r,x,h,hx=>by
  obtain⟨h1,h2⟩:=List.pairwise_cons.1 h
  rw[List.filter_cons]
  by_cases e:a=x
  ·rw[if_pos (decide_eq_true e),List.length_cons,List.filter_eq_nil_iff.2]
   ·rfl
   ·intro y hy
    have:=h1 y hy
    simp;omega
  ·rw[if_neg (by simpa using e)]
   rcases List.mem_cons.1 hx with h3|h3
   ·exact absurd h3.symm e
   ·exact asc_one h2 h3
theorem kid_in{ns:List Nd}(T:Tree ns){a k:Nat}{n m:Nd}(ha:ns[a]? =some n)(hk:ns[k]? =some m)(hp:m.parent=a):a<k∧(k:Int)≤n.last∧m.last≤n.last:=by
 have h0:=T.seg.par k m hk
 have h1:=T.seg.lam a k n m ha hk (by omega)
 have hal:=T.seg.last a n ha
 refine⟨by omega,by omega,?_⟩
 have hkl:=T.seg.last k m hk
 have key:∀d j:Nat,j<d→k≤j→(j:Int)≤m.last→(j:Int)≤n.last:=by
  intro d
  induction d with
  |zero=>intro j h;omega
  |succ d ih=>
   intro j hj h2 h3
   by_cases e:j=k
   ·subst e;omega
   ·obtain⟨x,hx⟩:∃x,ns[j]? =some x:=⟨_,List.getElem?_eq_getElem (by omega)⟩
    have l1:=T.seg.lam k j m x hk hx (by omega)
    have l2:=T.seg.lam a j n x ha hx (by omega)
    have l3:=T.seg.par j x hx
    have:=ih x.parent.toNat (by omega) (by omega) (by omega)
    omega
 have:=key (m.last.toNat+1) m.last.toNat (by omega) (by omega) (by omega)
 omega
theorem kid_apart{ns:List Nd}(T:Tree ns){a k k':Nat}{m m':Nd}(hk:ns[k]? =some m)(hp:m.parent=a)(hk':ns[k']? =some m')(hp':m'.parent=a)(h:k<k'):m.last<k':=by
 have l1:=T.seg.lam k k' m m' hk hk' h
 have l2:=T.seg.par k m hk
 omega
def EachS(ns:List Nd)(C:List Int)(x:Int):Prop:=
 ∃n,ns[x.toNat]? =some n∧n.kind≤3∧(n.kind=2→(andL (statesN ns x) C).length=1)∧(n.kind=3→∀y∈statesN ns x,y∈C)
def ParS(ns:List Nd)(C:List Int)(x:Int):Prop:=∀n,ns[x.toNat]? =some n→n.parent∈C
def AtomS(ns:List Nd)(C:List Int)(x:Int):Prop:=∃y∈C,atomAt ns y=true∧x∈chainN ns y
structure Sub (ns:List Nd) (a:Nat) (n:Nd) (C:List Int):Prop where
 head:(a:Int)∈C
 asc:Asc C
 rng:∀x∈C,(a:Int)≤x∧x≤n.last
 each:∀x∈C,EachS ns C x
 par:∀x∈C,x≠a→ParS ns C x
 atom:∀x∈C,AtomS ns C x
theorem each_more{ns:List Nd}{C D:List Int}{x:Int}(hx:x∈C)(h:EachS ns C x)(hsub:∀y∈C,y∈D)(hno:∀y∈statesN ns x,y∈D→y∈C):EachS ns D x:=by
 obtain⟨n,h1,h2,h3,h4⟩:=h
 refine⟨n,h1,h2,fun e=> ?_,fun e y hy=>hsub y (h4 e y hy)⟩
 rw[←h3 e,andL_eq,andL_eq]
 congr 1
 refine List.filter_congr fun y hy=> ?_
 by_cases hC:y∈C
 ·rw[hasL_iff.2 hC,hasL_iff.2 (hsub y hC)]
 ·unfold hasL;rw[decide_eq_false hC,decide_eq_false (fun h=>hC (hno y hy h))]
theorem atom_more{ns:List Nd}{C D:List Int}{x:Int}(h:AtomS ns C x)(hsub:∀y∈C,y∈D):AtomS ns D x:=by
 obtain⟨y,h1,h2⟩:=h;exact⟨y,hsub y h1,h2⟩
theorem atom_up{ns:List Nd}(T:Tree ns){C:List Int}{a k:Nat}{n m:Nd}(ha:ns[a]? =some n)(hk:ns[k]? =some m)(hp:m.parent=a)(h:AtomS ns C k):AtomS ns C a:=by
 obtain⟨y,h1,h2,h3⟩:=h
 refine⟨y,h1,h2,(chain_mem T (atomAt_iff.1 h2).2.1 h3).2.2 _ ?_⟩
 rw[chain_cons T (by omega) (by rw[Int.toNat_natCast];exact hk),hp]
 refine List.mem_cons_of_mem _ ?_
 rw[chain_cons T (by omega) (by rw[Int.toNat_natCast];exact ha)]
 exact List.mem_cons_self
theorem states_gt{ns:List Nd}(T:Tree ns){x y:Int}(h0:0≤x)(hy:y∈statesN ns x):x<y∧∃m,ns[y.toNat]? =some m∧m.parent=x:=by
 have hy':=(List.mem_filter.1 hy).1
 obtain⟨q,m,h1,h2,h3,_⟩:=mem_kidsN.1 hy'
 have:=T.seg.par q m h2
 exact⟨by omega,m,by rw[h1,Int.toNat_natCast];exact h2,h3⟩
theorem sub_atom{ns:List Nd}(T:Tree ns){a:Nat}{n:Nd}(ha:ns[a]? =some n)(hk:n.kind=1):Sub ns a n [(a:Int)]:=by
 have hal:=T.seg.last a n ha
 have hl:=Tree.lt ha
 refine⟨by simp,List.pairwise_singleton _ _,fun x hx=> ?_,fun x hx=> ?_,fun x hx h=>absurd (List.mem_singleton.1 hx) h,fun x hx=> ?_⟩
 ·rw[List.mem_singleton]at hx;omega
 ·rw[List.mem_singleton]at hx;subst hx
  exact⟨n,by rw[Int.toNat_natCast];exact ha,by omega,fun e=>by omega,fun e=>by omega⟩
 ·rw[List.mem_singleton]at hx;subst hx
  refine⟨a,by simp,atomAt_iff.2 ⟨by omega,by omega,n,by rw[Int.toNat_natCast];exact ha,hk⟩,?_⟩
  rw[chain_cons T (by omega) (by rw[Int.toNat_natCast];exact ha)];exact List.mem_cons_self
structure Par (ns:List Nd) (a:Nat) (A D:List Int):Prop where
 head:(a:Int)∈D
 asc:Asc D
 rng:∀x∈D,x=a∨∃(k:Nat) (m:Nd),(k:Int)∈A∧ns[k]? =some m∧m.parent=a∧(k:Int)≤x∧x≤m.last
 kids:∀k∈A,k∈D
 each:∀x∈D,x≠a→EachS ns D x
 par:∀x∈D,x≠a→ParS ns D x
 atom:∀x∈D,x≠a→AtomS ns D x
theorem par_nil{ns:List Nd}{a:Nat}:Par ns a [] [(a:Int)]:=
 ⟨by simp,List.pairwise_singleton _ _,fun x hx=>.inl (List.mem_singleton.1 hx),fun k hk=>by simp at hk,fun x hx h=>absurd (List.mem_singleton.1 hx) h,fun x hx h=>absurd (List.mem_singleton.1 hx) h,fun x hx h=>absurd (List.mem_singleton.1 hx) h⟩
theorem par_snoc{ns:List Nd}(T:Tree ns){a k:Nat}{m:Nd}{A C D:List Int}(hk:ns[k]? =some m)(hp:m.parent=a)(hlt:∀x∈A,x<k)(h:Par ns a A D)(hC:Sub ns k m C):Par ns a (A++[(k:Int)]) (D++C):=by
 have hak:a<k:=by have:=T.seg.par k m hk;omega
 have hml:=T.seg.last k m hk
 have hDk:∀x∈D,(0≤x∧x<k):=fun x hx=>by
  rcases h.rng x hx with rfl|⟨k',m',h1,h2,h3,h4,h5⟩
  ·omega
  ·have:=kid_apart T h2 h3 hk hp (by have:=hlt _ h1;omega)
   omega
 have hCk:∀x∈C,(k:Int)≤x∧x<ns.length:=fun x hx=>by have:=hC.rng x hx;omega
 have sD:∀y∈D,y∈D++C:=fun y h=>List.mem_append_left _ h
 have sC:∀y∈C,y∈D++C:=fun y h=>List.mem_append_right _ h
 refine⟨sD _ h.head,List.pairwise_append.2 ⟨h.asc,hC.asc,fun x hx y hy=> ?_⟩,fun x hx=> ?_,fun x hx=> ?_,fun x hx hne=> ?_,fun x hx hne=> ?_,fun x hx hne=> ?_⟩
 ·have:=hDk x hx;have:=hCk y hy;omega
 ·rcases List.mem_append.1 hx with hx|hx
  ·rcases h.rng x hx with e|⟨k',m',h1,h2,h3,h4,h5⟩
   ·exact .inl e
   ·exact .inr ⟨k',m',List.mem_append_left _ h1,h2,h3,h4,h5⟩
  ·have:=hC.rng x hx
   exact .inr ⟨k,m,by simp,hk,hp,this.1,this.2⟩
 ·rcases List.mem_append.1 hx with hx|hx
  ·exact sD _ (h.kids x hx)
  ·rw[List.mem_singleton]at hx;subst hx;exact sC _ hC.head
 ·rcases List.mem_append.1 hx with hx|hx
  ·refine each_more (C:=D) hx (h.each x hx hne) sD fun y hy hyD=> ?_
   rcases List.mem_append.1 hyD with hyD|hyC
   ·exact hyD
   ·exfalso
    obtain⟨g1,m2,g2,g3⟩:=states_gt T (hDk x hx).1 hy
    rcases h.rng x hx with e|⟨k',m',h1,h2,h3,h4,h5⟩
    ·exact hne e
    ·have l1:=T.seg.lam k' y.toNat m' m2 h2 g2 (by omega)
     have:=kid_apart T h2 h3 hk hp (by have:=hlt _ h1;omega)
     have:=hCk y hyC
     omega
  ·refine each_more (C:=C) hx (hC.each x hx) sC fun y hy hyD=> ?_
   rcases List.mem_append.1 hyD with hyD|hyC
   ·exfalso
    have:=hCk x hx
    obtain⟨g1,_⟩:=states_gt T (by omega) hy
    have:=hDk y hyD
    omega
   ·exact hyC
 ·rcases List.mem_append.1 hx with hx|hx
  ·exact fun n hn=>sD _ (h.par x hx hne n hn)
  ·by_cases e:x=k
   ·subst e
    intro n hn
    rw[Int.toNat_natCast,hk]at hn;cases hn
    rw[hp];exact sD _ h.head
   ·exact fun n hn=>sC _ (hC.par x hx e n hn)
 ·rcases List.mem_append.1 hx with hx|hx
  ·exact atom_more (h.atom x hx hne) sD
  ·exact atom_more (hC.atom x hx) sC
theorem par_rng{ns:List Nd}(T:Tree ns){a:Nat}{n:Nd}{A D:List Int}(ha:ns[a]? =some n)(h:Par ns a A D):∀x∈D,(a:Int)≤x∧x≤n.last:=by
 intro x hx
 have hal:=T.seg.last a n ha
 rcases h.rng x hx with rfl|⟨k,m,h1,h2,h3,h4,h5⟩
 ·omega
 ·have:=kid_in T ha h2 h3;omega
theorem sub_comp{ns:List Nd}(T:Tree ns){a k:Nat}{n m:Nd}{C:List Int}(ha:ns[a]? =some n)(hkd:n.kind=2)(hk:ns[k]? =some m)(hp:m.parent=a)(hm:m.kind≤3)(hC:Sub ns k m C):Sub ns a n ((a:Int)::C):=by
 have P:=par_snoc T hk hp (fun x hx=>by simp at hx) (par_nil (ns:=ns) (a:=a)) hC
 have hla:=Tree.lt ha
 have hkC:(k:Int)∈(a:Int)::C:=List.mem_cons_of_mem _ hC.head
 have hak:=(kid_in T ha hk hp).1
 refine⟨P.head,P.asc,par_rng T ha P,fun x hx=> ?_,P.par,fun x hx=> ?_⟩
 ·by_cases e:x=a
  ·subst e
   refine⟨n,by rw[Int.toNat_natCast];exact ha,by omega,fun _=> ?_,fun e=>by omega⟩
   have hks:(k:Int)∈statesN ns a:=(mem_statesN hla).2 ⟨k,m,rfl,hk,hp,hm⟩
   rw[andL_eq,←asc_one statesN_asc hks]
   congr 1
   refine List.filter_congr fun y hy=> ?_
   obtain⟨q,m2,rfl,g1,g2,g3⟩:=(mem_statesN hla).1 hy
   by_cases e:q=k
   ·subst e;rw[hasL_iff.2 hkC];simp
   ·have:(q:Int)∉(a:Int)::C:=by
     intro hm
     have gq:=T.seg.par q m2 g1
     rcases List.mem_cons.1 hm with h1|h1
     ·omega
     ·have h2:=hC.rng _ h1
      have:=kid_apart T hk hp g1 g2 (by omega)
      omega
    unfold hasL
    rw[decide_eq_false this,decide_eq_false (by omega)]
  ·exact P.each x hx e
 ·by_cases e:x=a
  ·subst e
   exact atom_up T ha hk hp (P.atom k hkC (by omega))
  ·exact P.atom x hx e
theorem sub_par{ns:List Nd}(T:Tree ns){a:Nat}{n:Nd}{D:List Int}(ha:ns[a]? =some n)(hkd:n.kind=3)(P:Par ns a (statesN ns a) D):Sub ns a n D:=by
 have hla:=Tree.lt ha
 refine⟨P.head,P.asc,par_rng T ha P,fun x hx=> ?_,P.par,fun x hx=> ?_⟩
 ·by_cases e:x=a
  ·subst e
   exact⟨n,by rw[Int.toNat_natCast];exact ha,by omega,fun e=>by omega,fun _=>P.kids⟩
  ·exact P.each x hx e
 ·by_cases e:x=a
  ·subst e
   obtain⟨m,h1,h2,h3⟩:=T.seg.first a n ha (.inr hkd)
   have h4:((a+1:Nat):Int)∈statesN ns a:=(mem_statesN hla).2 ⟨a+1,m,rfl,h1,by omega,h3⟩
   exact atom_up T ha h1 (by omega) (P.atom _ (P.kids _ h4) (by omega))
  ·exact P.atom x hx e
theorem filt_next:∀{l:List Int} {m:Nat},Asc l→l.filter (fun x=>decide (x<((m+1:Nat):Int)))=l.filter (fun x=>decide (x<(m:Int)))++if hasL l m then[(m:Int)]else[]
 | [],m,_=>by simp[hasL]
 |a::r,m,h=>by
  obtain⟨h1,h2⟩:=List.pairwise_cons.1 h
  have ih:=filt_next (m:=m) h2
  rw[List.filter_cons,List.filter_cons]
  by_cases e:a<(m:Int)
  ·rw[if_pos (decide_eq_true (by omega)),if_pos (decide_eq_true e),ih]
   have:hasL (a::r) m=hasL r m:=by
    unfold hasL
    by_cases hr:(m:Int)∈r
    ·rw[decide_eq_true hr,decide_eq_true (List.mem_cons_of_mem _ hr)]
    ·rw[decide_eq_false hr,decide_eq_false]
     intro hh
     rcases List.mem_cons.1 hh with h3|h3
     ·omega
     ·exact hr h3
   rw[this];rfl
  ·have nil1:∀b:Int,b≤m+1→(m:Int)≤a→r.filter (fun x=>decide (x<b))=[]:=fun b hb ha=>List.filter_eq_nil_iff.2 fun y hy=>by have:=h1 y hy;simp;omega
   rw[if_neg (show¬decide (a<(m:Int))=true by simp;omega),nil1 m (by omega) (by omega),nil1 ((m+1:Nat):Int) (by omega) (by omega)]
   by_cases e2:a=m
   ·subst e2
    rw[if_pos (decide_eq_true (show(m:Int)<((m+1:Nat):Int)by omega)),if_pos (hasL_iff.2 List.mem_cons_self)];rfl
   ·rw[if_neg (show¬decide (a<((m+1:Nat):Int))=true by simp;omega),if_neg]
    ·rfl
    ·intro hh
     rcases List.mem_cons.1 (hasL_iff.1 hh)with h3|h3
     ·omega
     ·have:=h1 _ h3;omega
theorem ofGo_asc{l:List Int}(h:Asc l)(h0:∀x∈l,0≤x):∀m:Nat,ofGo l m=l.filter fun x=>decide (x<(m:Int))
 |0=>by symm;exact List.filter_eq_nil_iff.2 fun y hy=>by have:=h0 y hy;simp;omega
 |m+1=>by rw[ofGo,ofGo_asc h h0 m,filt_next h]
theorem ofGo_self{l:List Int}{m:Nat}(h:Asc l)(h0:∀x∈l,0≤x∧x<m):ofGo l m=l:=by
 rw[ofGo_asc h (fun x hx=>(h0 x hx).1),List.filter_eq_self]
 intro x hx;exact decide_eq_true (h0 x hx).2
section
variable {ns : List Nd} {n : Nd} {C : List Int}
end
end Go.VM
namespace Go.Proofs.Ytokgijpdehjckaa.Vm
section
variable {R : Type} {G : ORC R} {k : Nat} {K : LV → OV R}
def KidsOK(f:FuncId)(G:ORC R):Prop:=∀(l:List Nd) (i:Int) (K:LV→OV R),l.length≤1000→W (fun o=>o=[.sl 1 (ivs (kidsN l i))]) K (G f [.sl 7 (l.map Nd.v),.int .i64 i] K)
theorem rkids_loop(hI:IsOK G){Q:LV→Prop}{K:LV→OV R}{Ko:LV→OV R}{l:List Nd}{i:Int}(hl:l.length≤1000)(hKo:W Q K (Ko (ivs (kidsN l i)))):
 ∀(j m:Nat),l.length-m<j→m≤l.length→W Q K (l58_0g G k Ko j (l.map Nd.v) i (ivs (kidsGo l i m)) m)
 |0,m,h1,h2=>by omega
 |j+1,m,h1,h2=>by
  show W Q K (b58_0 G k (l58_0g G k Ko j) Ko (l.map Nd.v) i (ivs (kidsGo l i m)) m)
  unfold b58_0
  have hgl:=kidsGo_len (l:=l) (i:=i) (m:=m)
  simp only[List.length_map]
  refine W_dec (fun h=> ?_) (fun h=>by rw[show m=l.length by omega];exact hKo)
  unfold IsOK at hI
  refine W_call (hI _ _ _) ?_
  rintro _ rfl
  (repeat(with_reducible apply U1))
  simp only[List.length_map]
  refine W_dec (fun hi=> ?_) (fun hi=> ?_)
  ·refine W_and (W_yes (by omega) (W_yes (by omega) ?_))
   refine W_nthN (by omega) (fun n hn=> ?_)
   rw[Int.toNat_natCast]at hn
   (repeat(with_reducible apply U1))
   have next:∀a,a=ivs (kidsGo l i (m+1))→W Q K (l58_0g G k Ko j (l.map Nd.v) i a (IntKind.i64.wrap ((m:Int)+1))):=fun a ha=>by
    rw[wrap_id (n:=(m:Int)+1) (by omega),ha]
    exact rkids_loop hI hl hKo j (m+1) (by omega) (by omega)
   have hk:isK l i m=(decide (0≤i∧i<l.length)&&decide (n.parent=i)):=by unfold isK;rw[hn]
   refine W_beqI (fun hp=> ?_) (fun hp=>next _ (by rw[kidsGo,hk,decide_eq_false hp];simp))
   refine W_yes (by rw[ivs_len];omega) (next _ (by rw[kidsGo,hk,decide_eq_true hi,decide_eq_true hp];simp[ivs]))
  ·have e0:∀m,kidsGo l i m=[]:=by
    intro m
    induction m with
    |zero=>rfl
    |succ m ih=>unfold kidsGo;rw[ih];unfold isK;rw[decide_eq_false hi];simp
   have:kidsN l i=kidsGo l i m:=by unfold kidsN;rw[e0,e0]
   rw[←this];exact hKo
theorem rkids_ok(hk:10000≤k)(hI:IsOK G):KidsOK 58 (fun _ args (K:LV→OV R)=>g58 G k args K):=by
 intro l i K hl
 show W _ K (f58 G k (l.map Nd.v) i K)
 unfold f58 l58_0
 exact rkids_loop (Q:=fun o=>o=[.sl 1 (ivs (kidsN l i))]) (K:=K) (Ko:=fun x=>K [.sl 1 x]) hI hl (W_ret rfl) k 0 (by omega) (by omega)
end
section
variable {R : Type} {G : ORC R} {k : Nat} {K : LV → OV R}
theorem ivs_atZ{l:List Int}{i:Nat}{n:Int}(h:l[i]? =some n):(ivs l)[((i:Nat):Int).toNat]? =some (.int .i64 n):=by rw[Int.toNat_natCast];exact ivs_at h
theorem get_ex{l:List Int}{m:Nat}(h:m<l.length):∃x,l[m]? =some x:=⟨_,List.getElem?_eq_getElem h⟩
def StatesOK(G:ORC R):Prop:=∀(ns:List Nd) (i:Int) (K:LV→OV R),ns.length≤1000→W (fun o=>o=[.sl 1 (ivs (statesN ns i))]) K (G 25 [.sl 7 (ns.map Nd.v),.int .i64 i] K)
theorem filt_snoc{l:List Int}{p:Int→Bool}{x:Int}:(l++[x]).filter p=l.filter p++if p x then[x]else[]:=by
 rw[List.filter_append,List.filter_cons];cases p x<;>simp
theorem kid_at{ns:List Nd}{i x:Int}{m:Nat}(h:(kidsN ns i)[m]? =some x):∃(q:Nat) (n:Nd),x=q∧ns[q]? =some n∧q<ns.length∧isSt ns x=decide (n.kind≤3):=by
 obtain⟨q,n,h1,h2,h3,_⟩:=mem_kidsN.1 (List.mem_of_getElem? h)
 exact⟨q,n,h1,h2,(List.getElem?_eq_some_iff.1 h2).1,by unfold isSt;rw[h1,Int.toNat_natCast,h2]⟩
theorem states_loop(hS:IsStOK G){Q:LV→Prop}{K:LV→OV R}{Ko:LV→OV R}{ns:List Nd}{i:Int}(hl:ns.length≤1000)(hKo:W Q K (Ko (ivs (statesN ns i)))):
 ∀(j m:Nat),(kidsN ns i).length-m<j→m≤(kidsN ns i).length→W Q K (l25_0g G k Ko j (ns.map Nd.v) (ivs (((kidsN ns i).take m).filter (isSt ns))) (ivs (kidsN ns i)) m)
 |0,m,h1,h2=>by omega
 |j+1,m,h1,h2=>by
  show W Q K (b25_0 G k (l25_0g G k Ko j) Ko (ns.map Nd.v) (ivs (((kidsN ns i).take m).filter (isSt ns))) (ivs (kidsN ns i)) m)
  unfold b25_0
  have hkl:(kidsN ns i).length≤ns.length:=kidsGo_len
  refine W_dec (fun h=> ?_) (fun h=>by rw[ivs_len]at h;rw[List.take_of_length_le (by omega)];exact hKo)
  rw[ivs_len]at h
  obtain⟨x,hx⟩:=get_ex (l:=kidsN ns i) (m:=m) (by omega)
  obtain⟨q,n,rfl,hn,hq,hst⟩:=kid_at hx
  have hfl:=List.length_filter_le (isSt ns) ((kidsN ns i).take m)
  rw[List.length_take]at hfl
  unfold IsStOK at hS
  refine W_at (by omega) (ivs_atZ hx) (W_aI ?_)
  refine W_at (by omega) (by rw[Int.toNat_natCast];exact nd_get hn) (W_asAgg ?_)
  refine W_call (hS n _) ?_
  rintro _ rfl
  (repeat(with_reducible apply U1))
  have next:∀c,c=ivs (((kidsN ns i).take (m+1)).filter (isSt ns))→W Q K (l25_0g G k Ko j (ns.map Nd.v) c (ivs (kidsN ns i)) (IntKind.i64.wrap ((m:Int)+1))):=fun c hc=>by
   rw[wrap_id (n:=(m:Int)+1) (by omega),hc]
   exact states_loop hS hl hKo j (m+1) (by omega) (by omega)
  rw[←hst]
  refine W_bool (fun hb=> ?_) (fun hb=>next _ (by rw[take_snoc hx,filt_snoc,hb];simp))
  refine W_at (by omega) (ivs_atZ hx) (W_aI ?_)
  exact W_yes (by rw[ivs_len];omega) (next _ (by rw[take_snoc hx,filt_snoc,hb];simp[ivs]))
theorem states_ok(hk:10000≤k)(hK:KidsOK 58 G)(hS:IsStOK G):StatesOK (fun _ args (K:LV→OV R)=>g25 G k args K):=by
 intro ns i K hl
 show W _ K (f25 G k (ns.map Nd.v) i K)
 unfold f25
 unfold KidsOK at hK
 refine W_call (hK _ _ _ hl) ?_
 rintro _ rfl
 (repeat(with_reducible apply U1))
 unfold l25_0
 have hkl:(kidsN ns i).length≤ns.length:=kidsGo_len
 exact states_loop (Q:=fun o=>o=[.sl 1 (ivs (statesN ns i))]) (K:=K) (Ko:=fun x=>K [.sl 1 x]) hS hl (W_ret rfl) k 0 (by omega) (by omega)
theorem statesN_len{ns:List Nd}{i:Int}:(statesN ns i).length≤ns.length:=Nat.le_trans (List.length_filter_le _ _) kidsGo_len
end
section
variable {R : Type} {G : ORC R} {k : Nat} {K : LV → OV R}
theorem asc_len{l:List Int}{m:Nat}(h:Asc l)(h0:∀x∈l,0≤x∧x<m):l.length≤m:=by
 rw[←ofGo_self h h0];exact ofGo_len
theorem asc_lt{l:List Int}(h:Asc l){m:Nat}{x:Int}(hx:l[m]? =some x):∀y∈l.take m,y<x:=by
 intro y hy
 obtain⟨i,hi,e⟩:=List.mem_iff_getElem.1 hy
 rw[List.length_take]at hi
 rw[List.getElem_take]at e
 obtain⟨hm,e2⟩:=List.getElem?_eq_some_iff.1 hx
 have:=List.pairwise_iff_getElem.1 h i m (by omega) hm (by omega)
 rw[e,e2]at this;exact this
def SomeOK(d:Nat)(G:ORC R):Prop:=∀(ns:List Nd) (a:Nat) (n:Nd) (b:LV) (i:Int) (K:LV→OV R),Tree ns→ns.length≤100→ns[a]? =some n→n.kind≤3→n.last-a<d→RowS b i→
 W (fun o=>∃C j,o=[.sl 1 (ivs C),.int .i64 j]∧Sub ns a n C∧RowS b j) K (G 8 [.sl 7 (ns.map Nd.v),.int .i64 a,.sl 1 b,.int .i64 i] K)
theorem some_loop{d:Nat}(hS:SomeOK d G){Q:LV→Prop}{K:LV→OV R}{Ko:LV→LV→Int→OV R}{ns:List Nd}{a:Nat}{n:Nd}{b:LV}(T:Tree ns)(hl:ns.length≤100)(ha:ns[a]? =some n)(hd:n.last-a<(d+1:Nat))
 (hKo:∀D j,Par ns a (statesN ns a) D→RowS b j→W Q K (Ko (ivs D) b j)):
 ∀(j m:Nat) (D:List Int) (i:Int),(statesN ns a).length-m<j→m≤(statesN ns a).length→Par ns a ((statesN ns a).take m) D→RowS b i→W Q K (l8_1g G k Ko j (ns.map Nd.v) (ivs D) (ivs (statesN ns a)) m b i)
 |0,m,D,i,h1,h2,h3,h4=>by omega
 |j+1,m,D,i,h1,h2,h3,h4=>by
  show W Q K (b8_1 G k (l8_1g G k Ko j) Ko (ns.map Nd.v) (ivs D) (ivs (statesN ns a)) m b i)
  unfold b8_1
  have hsl:(statesN ns a).length≤ns.length:=statesN_len
  refine W_dec (fun h=> ?_) (fun h=>by rw[ivs_len]at h;rw[List.take_of_length_le (by omega)]at h3;exact hKo D i h3 h4)
  rw[ivs_len]at h
  obtain⟨x,hx⟩:=get_ex (l:=statesN ns a) (m:=m) (by omega)
  obtain⟨q,m2,rfl,g1,g2,g3⟩:=(mem_statesN (Tree.lt ha)).1 (List.mem_of_getElem? hx)
  have hki:=kid_in T ha g1 g2
  refine W_at (by omega) (ivs_atZ hx) (W_aI ?_)
  have hS':=hS
  unfold SomeOK at hS'
  refine W_call (hS' ns q m2 b i _ T hl g1 g3 (by omega) h4) ?_
  rintro _ ⟨C,j2,rfl,hC,hj2⟩
  (repeat(with_reducible apply U1))
  have hal:=T.seg.last a n ha
  have hql:=T.seg.last q m2 g1
  have l1:D.length≤ns.length:=asc_len h3.asc fun x hx=>by have:=par_rng T ha h3 x hx;omega
  have l2:C.length≤ns.length:=asc_len hC.asc fun x hx=>by have:=hC.rng x hx;omega
  refine W_yes (by rw[ivs_len,ivs_len];omega) ?_
  rw[wrap_id (n:=(m:Int)+1) (by omega),←ivs_app]
  refine some_loop hS T hl ha hd hKo j (m+1) (D++C) j2 (by omega) (by omega) ?_ hj2
  rw[take_snoc hx]
  exact par_snoc T g1 g2 (asc_lt statesN_asc hx) h3 hC
theorem some_ok{d:Nat}(hk:10000≤k)(hSt:StatesOK G)(hN:NextS G)(hS:∀d',d=d'+1→SomeOK d' G):SomeOK d (fun _ args (K:LV→OV R)=>g8 G k args K):=by
 intro ns a n b i K T hl ha hk3 hd hr
 show W _ K (f8 G k (ns.map Nd.v) a b i K)
 have hal:=T.seg.last a n ha
 cases d with
 |zero=>omega
 |succ d=>
 have hS:=hS d rfl
 unfold f8
 unfold StatesOK at hSt;unfold NextS at hN
 have hkinds:=T.seg.kinds a n ha
 have hla:=Tree.lt ha
 refine W_call (hSt _ _ _ (by omega)) ?_
 rintro _ rfl
 (repeat(with_reducible apply U1))
 refine W_at (by omega) (by rw[Int.toNat_natCast];exact nd_get ha) (W_nd7 (W_aI ?_))
 refine W_beqI (fun h2=> ?_) (fun h2=> ?_)
 ·obtain⟨m,m1,m2,m3⟩:=T.seg.first a n ha (.inl h2)
  have hne:0<(statesN ns a).length:=List.length_pos_of_mem ((mem_statesN hla).2 ⟨a+1,m,rfl,m1,by omega,m3⟩)
  have hsl:(statesN ns a).length≤ns.length:=statesN_len
  refine W_call (hN _ _ _ _ (by rw[ivs_len];omega) (by rw[ivs_len];omega) hr) ?_
  rintro _ ⟨x,j,rfl,x0,x1,hj⟩
  (repeat(with_reducible apply U1))
  rw[ivs_len]at x1
  obtain⟨y,hy⟩:=get_ex (l:=statesN ns a) (m:=x.toNat) (by omega)
  obtain⟨q,m2,rfl,g1,g2,g3⟩:=(mem_statesN hla).1 (List.mem_of_getElem? hy)
  have hki:=kid_in T ha g1 g2
  refine W_at x0 (ivs_at hy) (W_aI ?_)
  have hS':=hS
  unfold SomeOK at hS'
  refine W_call (hS' ns q m2 b j _ T hl g1 g3 (by omega) hj) ?_
  rintro _ ⟨C,j2,rfl,hC,hj2⟩
  (repeat(with_reducible apply U1))
  have hql:=T.seg.last q m2 g1
  have l2:C.length≤ns.length:=asc_len hC.asc fun x hx=>by have:=hC.rng x hx;omega
  refine W_yes (by rw[ivs_len];omega) (W_ret ⟨(a:Int)::C,j2,rfl,sub_comp T ha h2 g1 g2 g3 hC,hj2⟩)
 ·refine W_beqI (fun h4=> ?_) (fun h4=>W_ret ⟨[(a:Int)],i,rfl,sub_atom T ha (by omega),hr⟩)
  have hsl:(statesN ns a).length≤ns.length:=statesN_len
  unfold l8_1
  exact some_loop (Ko:=fun x y z=>K [.sl 1 x,.int .i64 z]) hS T hl ha hd (fun D j hD hj=>W_ret ⟨D,j,rfl,sub_par T ha h4 hD,hj⟩) k 0 [(a:Int)] i (by omega) (by omega) par_nil hr
end
section
variable {R : Type} {G : ORC R} {k : Nat} {K : LV → OV R} {Q : LV → Prop}
end
section
variable {R : Type} {G : ORC R} {k : Nat} {K : LV → OV R} {Q : LV → Prop}
theorem ivs_snoc{l:List Int}{x:Int}:ivs l++[.int .i64 x]=ivs (l++[x]):=by rw[ivs_app];rfl
theorem get_exA{α:Type}{l:List α}{m:Nat}(h:m<l.length):∃x,l[m]? =some x:=⟨_,List.getElem?_eq_getElem h⟩
end
section
variable {R : Type} {G : ORC R} {k : Nat} {K : LV → OV R}
def SameOK(G:ORC R):Prop:=∀(a b:List Int) (K:LV→OV R),a.length≤9000→W (fun o=>o=[.bool (decide (a=b))]) K (G 12 [.sl 1 (ivs a),.sl 1 (ivs b)] K)
theorem ivs_get{l:List Int}{i:Nat}{n:Int}(h:l[i]? =some n):(ivs l)[i]? =some (.int .i64 n):=by unfold ivs;rw[List.getElem?_map,h];rfl
theorem same_loop{Q:LV→Prop}{K:LV→OV R}{Ko:Unit→OV R}{Kr:Bool→OV R}{a b:List Int}(hl:a.length=b.length)(h9:a.length≤9000)(hKo:a=b→W Q K (Ko ()))(hKr:a≠b→W Q K (Kr false)):
 ∀(j m:Nat),a.length-m<j→m≤a.length→(∀i,i<m→a[i]? =b[i]?)→W Q K (l12_0g G k Ko Kr j (ivs a) (ivs b) m)
 |0,m,h1,h2,h3=>by omega
 |j+1,m,h1,h2,h3=>by
  show W Q K (b12_0 G k (l12_0g G k Ko Kr j) Ko Kr (ivs a) (ivs b) m)
  unfold b12_0
  simp only[ivs_len]
  refine W_dec (fun h=> ?_) (fun h=>hKo (List.ext_getElem? fun i=> ?_))
  ·obtain⟨x,hx⟩:∃x,a[m]? =some x:=⟨_,List.getElem?_eq_getElem (by omega)⟩
   obtain⟨y,hy⟩:∃y,b[m]? =some y:=⟨_,List.getElem?_eq_getElem (by omega)⟩
   refine W_and (W_yes (by omega) (W_yes (by omega) (W_nth (by rw[ivs_len];omega) (fun v hv _=> ?_))))
   rw[Int.toNat_natCast,ivs_get hx,Option.some.injEq]at hv;rw[←hv]
   refine W_aI (W_and (W_yes (by omega) (W_yes (by omega) (W_nth (by rw[ivs_len];omega) (fun v hv _=> ?_)))))
   rw[Int.toNat_natCast,ivs_get hy,Option.some.injEq]at hv;rw[←hv]
   refine W_aI ?_
   by_cases e:x=y
   ·subst e
    refine W_chk' (by simp) ?_
    rw[wrap_id (n:=(m:Int)+1) (by omega)]
    refine same_loop hl h9 hKo hKr j (m+1) (by omega) (by omega) (fun i hi=> ?_)
    by_cases hm:i=m
    ·rw[hm,hx,hy]
    ·exact h3 i (by omega)
   ·refine W_chk (by simp[e]) (hKr fun he=> ?_)
    rw[he,hy]at hx;injection hx with hx;exact e hx.symm
  ·by_cases hi:i<m
   ·exact h3 i hi
   ·rw[List.getElem?_eq_none (by omega),List.getElem?_eq_none (by omega)]
theorem same_ok(hk:10000≤k):SameOK (fun _ args (K:LV→OV R)=>g12 G k args K):=by
 intro a b K h9
 show W _ K (f12 G k (ivs a) (ivs b) K)
 unfold f12
 simp only[ivs_len]
 by_cases hl:a.length=b.length
 ·refine W_chk' (by simp[hl]) ?_
  unfold l12_0
  exact same_loop (Q:=fun o=>o=[.bool (decide (a=b))]) (K:=K) (Ko:=fun _=>K [.bool true]) (Kr:=fun x=>K [.bool x]) hl h9 (fun e=>W_ret (by rw[decide_eq_true e])) (fun e=>W_ret (by rw[decide_eq_false e])) k 0 (by omega) (by omega) (fun i hi=>by omega)
 ·refine W_chk (by simp;omega) (W_ret ?_)
  rw[decide_eq_false (fun h=>hl (by rw[h]))]
end
section
variable {R : Type} {G : ORC R} {k : Nat} {K : LV → OV R} {Q : LV → Prop}
def isEx(ns:List Nd)(c d:Int):Bool:= !(c==d)&&inN ns c d
def exitN(ns:List Nd)(C D:List Int):List Int:=(C.filter fun c=>D.any (isEx ns c)).reverse
def ExitOK(G:ORC R):Prop:=∀(ns:List Nd) (C D:List Int) (K:LV→OV R),C.length≤9000→D.length≤9000→W (fun o=>o=[.sl 1 (ivs (exitN ns C D))]) K (G 18 [.sl 7 (ns.map Nd.v),.sl 1 (ivs C),.sl 1 (ivs D)] K)
theorem exit_in(hI:InOK G){Ko:LV→LV→LV→LV→Int→Bool→OV R}{ns:List Nd}{C D:List Int}{out:LV}{i:Nat}{c:Int}(hc:C[i]? =some c)(hdl:D.length≤9000)
 (hKo:W Q K (Ko (ns.map Nd.v) (ivs C) (ivs D) out i (D.any (isEx ns c)))):∀(j m:Nat),D.length-m<j→m≤D.length→W Q K (l18_2g G k Ko j (ns.map Nd.v) (ivs C) (ivs D) out i ((D.take m).any (isEx ns c)) m)
 |0,m,h1,h2=>by omega
 |j+1,m,h1,h2=>by
  show W Q K (b18_2 G k (l18_2g G k Ko j) Ko (ns.map Nd.v) (ivs C) (ivs D) out i ((D.take m).any (isEx ns c)) m)
  unfold b18_2
  refine W_dec (fun h=> ?_) (fun h=>by rw[ivs_len]at h;rw[List.take_of_length_le (by omega)];exact hKo)
  rw[ivs_len]at h
  obtain⟨d,hd⟩:=get_ex (l:=D) (m:=m) (by omega)
  have hs:(D.take (m+1)).any (isEx ns c)=((D.take m).any (isEx ns c)||isEx ns c d):=by rw[take_snoc hd,List.any_append];simp
  have next:∀b,b=(D.take (m+1)).any (isEx ns c)→W Q K (l18_2g G k Ko j (ns.map Nd.v) (ivs C) (ivs D) out i b (IntKind.i64.wrap ((m:Int)+1))):=fun b hb=>by
   rw[wrap_id (n:=(m:Int)+1) (by omega),hb]
   exact exit_in hI hc hdl hKo j (m+1) (by omega) (by omega)
  unfold InOK at hI
  refine W_bool (fun hb=>next _ (by rw[hs,hb];rfl)) (fun hb=> ?_)
  rw[hb,Bool.false_or]at hs
  refine W_at (by omega) (ivs_atZ hc) (W_aI ?_)
  refine W_at (by omega) (ivs_atZ hd) (W_aI ?_)
  by_cases e:c=d
  ·refine W_chk' (by simp[e]) (next _ (by rw[hs];simp[isEx,e]))
  ·refine W_chk (by simp[e]) ?_
   refine W_at (by omega) (ivs_atZ hc) (W_aI ?_)
   refine W_at (by omega) (ivs_atZ hd) (W_aI ?_)
   refine W_call (hI _ _ _ _) ?_
   rintro _ rfl
   (repeat(with_reducible apply U1))
   exact next _ (by rw[hs];simp[isEx,e])
theorem exit_loop(hk:10000≤k)(hI:InOK G){Ko:LV→OV R}{ns:List Nd}{C D:List Int}(hcl:C.length≤9000)(hdl:D.length≤9000)(hKo:W Q K (Ko (ivs (exitN ns C D)))):
 ∀(j i:Nat),i<j→i≤C.length→W Q K (l18_0g G k Ko j (ns.map Nd.v) (ivs C) (ivs D) (ivs ((C.drop i).filter (fun c=>D.any (isEx ns c))).reverse) ((i:Int)-1))
 |0,i,h1,h2=>by omega
 |j+1,i,h1,h2=>by
  show W Q K (b18_0 G k (l18_0g G k Ko j) Ko (ns.map Nd.v) (ivs C) (ivs D) (ivs ((C.drop i).filter (fun c=>D.any (isEx ns c))).reverse) ((i:Int)-1))
  unfold b18_0
  refine W_dec (fun h=> ?_) (fun h=>by rw[show i=0 by omega,List.drop_zero];exact hKo)
  obtain⟨i,rfl⟩:∃i',i=i'+1:=⟨i-1,by omega⟩
  rw[show((i+1:Nat):Int)-1=i by omega]
  obtain⟨c,hc⟩:=get_ex (l:=C) (m:=i) (by omega)
  have hdr:C.drop i=c::C.drop (i+1):=by
   obtain⟨hi,e⟩:=List.getElem?_eq_some_iff.1 hc
   rw[List.drop_eq_getElem_cons hi,e]
  have hfl:((C.drop (i+1)).filter (fun c=>D.any (isEx ns c))).reverse.length≤9000:=by rw[List.length_reverse];exact Nat.le_trans (List.length_filter_le _ _) (by rw[List.length_drop];omega)
  have next:∀a,a=ivs ((C.drop i).filter (fun c=>D.any (isEx ns c))).reverse→W Q K (l18_0g G k Ko j (ns.map Nd.v) (ivs C) (ivs D) a (IntKind.i64.wrap ((i:Int)-1))):=fun a ha=>by
   rw[wrap_id (n:=(i:Int)-1) (by omega),ha]
   exact exit_loop hk hI hcl hdl hKo j i (by omega) (by omega)
  rw[hdr,List.filter_cons]at next
  unfold l18_2
  have:=exit_in (Q:=Q) (K:=K) (k:=k) hI (ns:=ns) (D:=D) (out:=ivs ((C.drop (i+1)).filter (fun c=>D.any (isEx ns c))).reverse) (Ko:=fun yl9 yl10 yl11 yl12 yi13 yb14=>bif yb14 then(bif((decide (0≤yi13))&&(decide (yi13<(yl10.length:Int))))then(nthK yl10 (Int.toNat yi13) fun e15=>(aI .i64 e15 fun n16=>(bif(decide (List.length yl12+1≤1073741824))then(l18_0g G k Ko j yl9 yl10 yl11 (yl12++[(.int .i64 n16)]) (IntKind.i64.wrap (yi13-1)))else none)))else none)else(l18_0g G k Ko j yl9 yl10 yl11 yl12 (IntKind.i64.wrap (yi13-1)))) hc hdl ?_ k 0 (by omega) (by omega)
  ·exact this
  refine W_bool (fun hb=> ?_) (fun hb=>next _ (by rw[hb];rfl))
  refine W_at (by omega) (ivs_atZ hc) (W_aI ?_)
  exact W_yes (by rw[ivs_len];omega) (next _ (by rw[hb,if_pos rfl,List.reverse_cons,ivs_app];rfl))
theorem exit_ok(hk:10000≤k)(hI:InOK G):ExitOK (fun _ args (K:LV→OV R)=>g18 G k args K):=by
 intro ns C D K hcl hdl
 show W _ K (f18 G k (ns.map Nd.v) (ivs C) (ivs D) K)
 unfold f18 l18_0
 rw[ivs_len,wrap_id (n:=(C.length:Int)-1) (by omega)]
 have e:ivs ((C.drop C.length).filter (fun c=>D.any (isEx ns c))).reverse=[]:=by rw[List.drop_length];rfl
 have:=exit_loop (Q:=fun o=>o=[.sl 1 (ivs (exitN ns C D))]) (K:=K) (Ko:=fun x=>K [.sl 1 x]) hk hI hcl hdl (W_ret rfl) k C.length (by omega) (Nat.le_refl _)
 rw[e]at this
 exact this
theorem exitN_len{ns:List Nd}{C D:List Int}:(exitN ns C D).length≤C.length:=by unfold exitN;rw[List.length_reverse];exact List.length_filter_le _ _
end
section
variable {R : Type} {G : ORC R} {k : Nat} {K : LV → OV R} {Q : LV → Prop}
theorem insN_is{ns:List Nd}{c:Int}:insN ns c=isEx ns c:=by
 funext d
 unfold insN isEx
 by_cases h:c=d<;>simp[h]
def XClsX(G:ORC R):Prop:=∀(ns:List Nd) (x c:Int) (K:LV→OV R),W (fun o=>o=[.bool (isEx ns c x),.int .i64 c]) K (G 48 [.int .i64 x,.sl 7 (ns.map Nd.v),.int .i64 c] K)
theorem xcls_ok(hI:InsOK G):XClsX (fun _ args (K:LV→OV R)=>g48 G k args K):=by
 intro ns x c K
 show W _ K (f48 G k x (ns.map Nd.v) c K)
 unfold f48
 unfold InsOK at hI
 refine W_call (hI _ _ _ _) ?_
 rintro _ rfl
 (repeat(with_reducible apply U1))
 exact W_ret (by rw[insN_is])
def XIdxX(G:ORC R):Prop:=∀(ns:List Nd) (l:List Int) (c:Int) (K:LV→OV R),l.length≤1000→
 W (fun o=>∃i:Int,o=[.int .i64 i,.int .i64 c]∧decide (i≥0)=l.any (isEx ns c)) K (G 65601 [.sl 1 (ivs l),.sl 7 (ns.map Nd.v),.int .i64 c] K)
theorem xidx_loop(hC:XClsX G){Ko:LV→Int→OV R}{Kr:Int→LV→Int→OV R}{ns:List Nd}{l:List Int}{c:Int}(hll:l.length≤1000)(hKo:l.any (isEx ns c)=false→W Q K (Ko (ns.map Nd.v) c))
 (hKr:∀(p:Nat),l.any (isEx ns c)=true→W Q K (Kr p (ns.map Nd.v) c)):
 ∀(j i:Nat),l.length-i<j→i≤l.length→(l.take i).any (isEx ns c)=false→W Q K (l65601_0g G k Ko Kr j (ivs l) l.length i (ns.map Nd.v) c)
 |0,i,h1,h2,h3=>by omega
 |j+1,i,h1,h2,h3=>by
  show W Q K (b65601_0 G k (l65601_0g G k Ko Kr j) Ko Kr (ivs l) l.length i (ns.map Nd.v) c)
  unfold b65601_0
  refine W_dec (fun h=> ?_) (fun h=>hKo (by rw[List.take_of_length_le (by omega)]at h3;exact h3))
  obtain⟨x,hx⟩:=get_ex (l:=l) (m:=i) (by omega)
  refine W_at (by omega) (ivs_atZ hx) (W_aI ?_)
  have hC':=hC
  unfold XClsX at hC'
  refine W_call (hC' ns x c _) ?_
  rintro _ rfl
  (repeat(with_reducible apply U1))
  refine W_bool (fun hb=>hKr i (List.any_eq_true.2 ⟨x,List.mem_of_getElem? hx,hb⟩)) (fun hb=> ?_)
  rw[wrap_id (n:=(i:Int)+1) (by omega)]
  refine xidx_loop hC hll hKo hKr j (i+1) (by omega) (by omega) ?_
  rw[take_snoc hx,List.any_append,h3,Bool.false_or,List.any_cons,hb]
  rfl
theorem xidx_ok(hk:10000≤k)(hC:XClsX G):XIdxX (fun _ args (K:LV→OV R)=>g65601 G k args K):=by
 intro ns l c K hll
 show W _ K (f65601 G k (ivs l) (ns.map Nd.v) c K)
 unfold f65601 l65601_0
 rw[ivs_len]
 exact xidx_loop (Ko:=fun _ c=>K [.int .i64 (-1),.int .i64 c]) (Kr:=fun i _ c=>K [.int .i64 i,.int .i64 c]) hC hll (fun h=>W_ret ⟨_,rfl,by rw[h];rfl⟩) (fun p h=>W_ret ⟨_,rfl,by rw[h];simp⟩) k 0 (by omega) (by omega) (by simp)
def XConX(G:ORC R):Prop:=∀(ns:List Nd) (l:List Int) (c:Int) (K:LV→OV R),l.length≤1000→
 W (fun o=>o=[.bool (l.any (isEx ns c)),.int .i64 c]) K (G 65583 [.sl 1 (ivs l),.sl 7 (ns.map Nd.v),.int .i64 c] K)
theorem xcon_ok(hI:XIdxX G):XConX (fun _ args (K:LV→OV R)=>g65583 G k args K):=by
 intro ns l c K hll
 show W _ K (f65583 G k (ivs l) (ns.map Nd.v) c K)
 unfold f65583
 unfold XIdxX at hI
 refine W_call (hI ns l c _ hll) ?_
 rintro _ ⟨i,rfl,hi⟩
 (repeat(with_reducible apply U1))
 exact W_ret (by rw[hi])
def NanX(G:ORC R):Prop:=∀(n:Int) (K:LV→OV R),W (fun o=>o=[.bool false]) K (G 95 [.int .i64 n] K)
theorem nan_ok:NanX (fun _ args (K:LV→OV R)=>g95 G k args K):=by
 intro n K
 show W _ K (f95 G k n K)
 unfold f95
 exact W_ret (by simp)
def CmpX(G:ORC R):Prop:=∀(a b:Int) (K:LV→OV R),W (fun o=>o=[.bool (decide (a<b))]) K (G 84 [.int .i64 a,.int .i64 b] K)
theorem cmp_ok(hN:NanX G):CmpX (fun _ args (K:LV→OV R)=>g84 G k args K):=by
 intro a b K
 show W _ K (f84 G k a b K)
 unfold f84
 unfold NanX at hN
 refine W_call (hN a _) ?_
 rintro _ rfl
 (repeat(with_reducible apply U1))
 exact W_chk' rfl (W_ret rfl)
theorem asc_get{l:List Int}(h:Asc l){i:Nat}{a b:Int}(ha:l[i]? =some a)(hb:l[i+1]? =some b):a<b:=by
 obtain⟨h1,rfl⟩:=List.getElem?_eq_some_iff.1 ha
 obtain⟨h2,rfl⟩:=List.getElem?_eq_some_iff.1 hb
 exact List.pairwise_iff_getElem.1 h i (i+1) h1 h2 (by omega)
def InsSX(G:ORC R):Prop:=∀(l:List Int) (K:LV→OV R),l.length≤12→Asc l→W (fun o=>o=[]) K (G 78 [.sl 1 (ivs l),.int .i64 0,.int .i64 (l.length:Int)] K)
theorem inss_in(hC:CmpX G){Ko:LV→Int→Int→Int→OV R}{l:List Int}(hl:l.length≤12)(ha:Asc l){i:Nat}(hi:i+1<l.length)(hKo:W Q K (Ko (ivs l) 0 l.length (i+1:Nat))):
 ∀j:Nat,0<j→W Q K (l78_2g G k Ko j (ivs l) 0 l.length (i+1:Nat) (i+1:Nat))
 |0,h=>by omega
 |j+1,_=>by
  show W Q K (b78_2 G k (l78_2g G k Ko j) Ko (ivs l) 0 l.length (i+1:Nat) (i+1:Nat))
  unfold b78_2
  refine W_yes (by omega) ?_
  obtain⟨x,hx⟩:=get_ex (l:=l) (m:=i+1) (by omega)
  obtain⟨y,hy⟩:=get_ex (l:=l) (m:=i) (by omega)
  have hxy:=asc_get ha hy hx
  rw[wrap_id (n:=((i+1:Nat):Int)-1) (by omega),show((i+1:Nat):Int)-1=(i:Int)by omega]
  refine W_at (by omega) (ivs_atZ hx) (W_aI ?_)
  refine W_at (by omega) (ivs_atZ hy) (W_aI ?_)
  unfold CmpX at hC
  refine W_call (hC x y _) ?_
  rintro _ rfl
  (repeat(with_reducible apply U1))
  exact W_chk' (by simp;omega) hKo
theorem inss_loop(hk:10000≤k)(hC:CmpX G){Ko:Unit→OV R}{l:List Int}(hl:l.length≤12)(ha:Asc l)(hKo:W Q K (Ko ())):
 ∀(j i:Nat),l.length-i<j→1≤i→W Q K (l78_0g G k Ko j (ivs l) 0 l.length i)
 |0,i,h1,h2=>by omega
 |j+1,i,h1,h2=>by
  show W Q K (b78_0 G k (l78_0g G k Ko j) Ko (ivs l) 0 l.length i)
  unfold b78_0
  refine W_dec (fun h=> ?_) (fun h=>hKo)
  unfold l78_2
  obtain⟨i,rfl⟩:∃i',i=i'+1:=⟨i-1,by omega⟩
  refine inss_in hC hl ha (by omega) ?_ k (by omega)
  rw[wrap_id (n:=((i+1:Nat):Int)+1) (by omega),show((i+1:Nat):Int)+1=((i+1+1:Nat):Int)by omega]
  exact inss_loop hk hC hl ha hKo j (i+1+1) (by omega) (by omega)
theorem inss_ok(hk:10000≤k)(hC:CmpX G):InsSX (fun _ args (K:LV→OV R)=>g78 G k args K):=by
 intro l K hl ha
 show W _ K (f78 G k (ivs l) 0 l.length K)
 unfold f78 l78_0
 rw[show IntKind.i64.wrap (0+1)=((1:Nat):Int)by rw[wrap_id (by omega)];rfl]
 exact inss_loop (Q:=fun o=>o=[]) (Ko:=fun _=>K []) hk hC hl ha (W_ret rfl) k 1 (by omega) (by omega)
def PdqX(G:ORC R):Prop:=∀(l:List Int) (z:Int) (K:LV→OV R),l.length≤12→Asc l→W (fun o=>o=[]) K (G 66 [.sl 1 (ivs l),.int .i64 0,.int .i64 (l.length:Int),.int .i64 z] K)
theorem pdq_ok(hk:10000≤k)(hI:InsSX G):PdqX (fun _ args (K:LV→OV R)=>g66 G k args K):=by
 intro l z K hl ha
 show W _ K (f66 G k (ivs l) 0 l.length z K)
 unfold f66 l66_0
 obtain⟨k',rfl⟩:∃k',k=k'+1:=⟨k-1,by omega⟩
 show W _ K (b66_0 G (k'+1) (l66_0g G (k'+1) _ k') _ (ivs l) 0 l.length z true true)
 unfold b66_0
 refine W_yes (by rw[wrap_id (by omega)];omega) ?_
 unfold InsSX at hI
 refine W_call (hI l _ hl ha) ?_
 rintro _ rfl
 (repeat(with_reducible apply U1))
 exact W_ret rfl
def L64X(f:Nat)(G:ORC R):Prop:=∀(n:Nat) (K:LV→OV R),n≤12→W (fun o=>∃z:Int,o=[.int .i64 z]) K (G f [.int .u64 (n:Int)] K)
theorem l64_ok:L64X 88 (fun _ args (K:LV→OV R)=>g88 G k args K):=by
 intro n K hn
 have hh:∃z:Int,f88 G k (n:Int) K=K [.int .i64 z]:=by
  match n,hn with
  |0,_=>exact⟨0,by kernel_rfl⟩
  |1,_=>exact⟨1,by kernel_rfl⟩
  |2,_=>exact⟨2,by kernel_rfl⟩
  |3,_=>exact⟨2,by kernel_rfl⟩
  |4,_=>exact⟨3,by kernel_rfl⟩
  |5,_=>exact⟨3,by kernel_rfl⟩
  |6,_=>exact⟨3,by kernel_rfl⟩
  |7,_=>exact⟨3,by kernel_rfl⟩
  |8,_=>exact⟨4,by kernel_rfl⟩
  |9,_=>exact⟨4,by kernel_rfl⟩
  |10,_=>exact⟨4,by kernel_rfl⟩
  |11,_=>exact⟨4,by kernel_rfl⟩
  |12,_=>exact⟨4,by kernel_rfl⟩
  |n+13,h=>omega
 obtain⟨z,e⟩:=hh
 show W _ K (f88 G k (n:Int) K)
 rw[e]
 exact W_ret ⟨z,rfl⟩
theorem len_ok(hL:L64X 88 G):L64X 67 (fun _ args (K:LV→OV R)=>g67 G k args K):=by
 intro n K hn
 show W _ K (f67 G k (n:Int) K)
 unfold f67
 unfold L64X at hL
 refine W_call (hL n _ hn) ?_
 rintro _ ⟨z,rfl⟩
 (repeat(with_reducible apply U1))
 exact W_ret ⟨z,rfl⟩
def SortX(G:ORC R):Prop:=∀(l:List Int) (K:LV→OV R),l.length≤12→Asc l→W (fun o=>o=[]) K (G 49 [.sl 1 (ivs l)] K)
theorem sort_ok(hP:PdqX G)(hL:L64X 67 G):SortX (fun _ args (K:LV→OV R)=>g49 G k args K):=by
 intro l K hl ha
 show W _ K (f49 G k (ivs l) K)
 unfold f49
 unfold PdqX at hP;unfold L64X at hL
 rw[ivs_len,show IntKind.u64.wrap (l.length:Int)=(l.length:Int)by unfold IntKind.wrap;simp[IntKind.signed,IntKind.bits];omega]
 refine W_call (hL l.length _ hl) ?_
 rintro _ ⟨z,rfl⟩
 (repeat(with_reducible apply U1))
 refine W_call (hP l z _ hl ha) ?_
 rintro _ rfl
 (repeat(with_reducible apply U1))
 exact W_ret rfl
def CompX(G:ORC R):Prop:=∀(l:List Int) (K:LV→OV R),l.length≤1000→Asc l→W (fun o=>o=[.sl 1 (ivs l)]) K (G 50 [.sl 1 (ivs l)] K)
theorem comp_loop{Ko:LV→OV R}{l:List Int}(hl:l.length≤1000)(ha:Asc l)(hKo:W Q K (Ko (ivs l))):
 ∀(j i:Nat),l.length-i<j→1≤i→W Q K (l50_0g G k Ko j (ivs l) i)
 |0,i,h1,h2=>by omega
 |j+1,i,h1,h2=>by
  show W Q K (b50_0 G k (l50_0g G k Ko j) Ko (ivs l) i)
  unfold b50_0
  refine W_dec (fun h=> ?_) (fun h=>hKo)
  rw[ivs_len]at h
  obtain⟨i,rfl⟩:∃i',i=i'+1:=⟨i-1,by omega⟩
  obtain⟨x,hx⟩:=get_ex (l:=l) (m:=i+1) (by omega)
  obtain⟨y,hy⟩:=get_ex (l:=l) (m:=i) (by omega)
  have hxy:=asc_get ha hy hx
  refine W_at (by omega) (ivs_atZ hx) (W_aI ?_)
  rw[wrap_id (n:=((i+1:Nat):Int)-1) (by omega),show((i+1:Nat):Int)-1=(i:Int)by omega]
  refine W_at (by omega) (ivs_atZ hy) (W_aI ?_)
  refine W_chk' (by simp;omega) ?_
  rw[wrap_id (n:=((i+1:Nat):Int)+1) (by omega),show((i+1:Nat):Int)+1=((i+1+1:Nat):Int)by omega]
  exact comp_loop hl ha hKo j (i+1+1) (by omega) (by omega)
theorem comp_ok(hk:10000≤k):CompX (fun _ args (K:LV→OV R)=>g50 G k args K):=by
 intro l K hl ha
 show W _ K (f50 G k (ivs l) K)
 unfold f50 l50_0
 refine W_dec (fun h=>W_ret rfl) (fun h=> ?_)
 exact comp_loop (Q:=fun o=>o=[.sl 1 (ivs l)]) (Ko:=fun x=>K [.sl 1 x]) hl ha (W_ret rfl) k 1 (by omega) (by omega)
def RevX(G:ORC R):Prop:=∀(l:List Int) (K:LV→OV R),l.length≤1000→W (fun o=>o=[.sl 1 (ivs l.reverse)]) K (G 51 [.sl 1 (ivs l)] K)
theorem rev_ok:RevX (fun _ args (K:LV→OV R)=>g51 G k args K):=by
 intro l K hl
 have e:intsB (ivs l)=true:=by unfold intsB ivs;rw[List.all_map];exact List.all_eq_true.2 fun _ _=>rfl
 have e2:ivs l.reverse=(ivs l).reverse:=by unfold ivs;rw[List.map_reverse]
 show W _ K (bif decide ((ivs l).length≤1000000)then(bif intsB (ivs l)then K [.sl 1 (ivs l).reverse]else none)else none)
 rw[e2]
 exact W_yes (by rw[ivs_len];omega) (W_chk e (W_ret rfl))
def XExitOK(G:ORC R):Prop:=∀(ns:List Nd) (C D:List Int) (K:LV→OV R),C.length≤12→D.length≤1000→Asc C→W (fun o=>o=[.sl 1 (ivs (exitN ns C D))]) K (G 21 [.sl 7 (ns.map Nd.v),.sl 1 (ivs C),.sl 1 (ivs D)] K)
theorem xexit_loop(hI:XConX G){Ko:LV→OV R}{ns:List Nd}{C D:List Int}(hcl:C.length≤12)(hdl:D.length≤1000)(hKo:W Q K (Ko (ivs (C.filter fun c=>D.any (isEx ns c))))):
 ∀(j i:Nat),C.length-i<j→i≤C.length→W Q K (l21_0g G k Ko j (ivs D) (ivs ((C.take i).filter fun c=>D.any (isEx ns c))) (ivs C) C.length i (ns.map Nd.v))
 |0,i,h1,h2=>by omega
 |j+1,i,h1,h2=>by
  show W Q K (b21_0 G k (l21_0g G k Ko j) Ko (ivs D) (ivs ((C.take i).filter fun c=>D.any (isEx ns c))) (ivs C) C.length i (ns.map Nd.v))
  unfold b21_0
  refine W_dec (fun h=> ?_) (fun h=>by rw[List.take_of_length_le (by omega)];exact hKo)
  obtain⟨c,hc⟩:=get_ex (l:=C) (m:=i) (by omega)
  refine W_at (by omega) (ivs_atZ hc) (W_aI ?_)
  have hI':=hI
  unfold XConX at hI'
  refine W_call (hI' ns D c _ hdl) ?_
  rintro _ rfl
  (repeat(with_reducible apply U1))
  have hfl:((C.take i).filter fun c=>D.any (isEx ns c)).length≤12:=Nat.le_trans (List.length_filter_le _ _) (by rw[List.length_take];omega)
  have next:∀a,a=ivs ((C.take (i+1)).filter fun c=>D.any (isEx ns c))→W Q K (l21_0g G k Ko j (ivs D) a (ivs C) C.length (IntKind.i64.wrap ((i:Int)+1)) (ns.map Nd.v)):=fun a ha=>by
   rw[wrap_id (n:=(i:Int)+1) (by omega),ha]
   exact xexit_loop hI hcl hdl hKo j (i+1) (by omega) (by omega)
  rw[take_snoc hc,List.filter_append]at next
  refine W_bool (fun hb=> ?_) (fun hb=>next _ ?_)
  ·exact W_yes (by rw[ivs_len];omega) (next _ (by rw[List.filter_cons,if_pos hb,ivs_snoc];rfl))
  ·rw[List.filter_cons,if_neg (by rw[hb];decide),List.filter_nil,List.append_nil]
theorem xexit_ok(hk:10000≤k)(hI:XConX G)(hS:SortX G)(hC:CompX G)(hR:RevX G):XExitOK (fun _ args (K:LV→OV R)=>g21 G k args K):=by
 intro ns C D K hcl hdl ha
 show W _ K (f21 G k (ns.map Nd.v) (ivs C) (ivs D) K)
 unfold f21 l21_0
 unfold SortX at hS;unfold CompX at hC;unfold RevX at hR
 rw[ivs_len]
 have hfl:(C.filter fun c=>D.any (isEx ns c)).length≤12:=Nat.le_trans (List.length_filter_le _ _) hcl
 have hfa:Asc (C.filter fun c=>D.any (isEx ns c)):=List.Pairwise.filter _ ha
 refine xexit_loop hI hcl hdl ?_ k 0 (by omega) (by omega)
 refine W_call (hS _ _ hfl hfa) ?_
 rintro _ rfl
 (repeat(with_reducible apply U1))
 refine W_call (hC _ _ (by omega) hfa) ?_
 rintro _ rfl
 (repeat(with_reducible apply U1))
 refine W_call (hR _ _ (by omega)) ?_
 rintro _ rfl
 (repeat(with_reducible apply U1))
 exact W_ret rfl
def ExitsOK(G:ORC R):Prop:=∀(v w doms:LV) (K:LV→OV R),IntsS v→IntsS w→IntsS doms→W (fun o=>o=[.bool true]) K (G 5 [.sl 1 v,.sl 1 w,.sl 1 doms] K)
theorem xnear_loop(hP:PlaceS G){Ko:LV→LV→LV→LV→OV R}{doms ns c:LV}(hd:IntsS doms)(hdl:doms.length≤20)(hn0:0<ns.length)(hnl:ns.length≤1000)
 (hKo:∀D:List Int,D.length≤20→W Q K (Ko doms ns c (ivs D))):
 ∀(j m:Nat) (D:List Int),doms.length-m<j→m≤doms.length→D.length=m→W Q K (l5_0g G k Ko j doms ns c (ivs D) m)
 |0,m,D,h1,h2,h3=>by omega
 |j+1,m,D,h1,h2,h3=>by
  show W Q K (b5_0 G k (l5_0g G k Ko j) Ko doms ns c (ivs D) m)
  unfold b5_0
  refine W_dec (fun hl=> ?_) (fun hl=>hKo D (by omega))
  obtain⟨e,he⟩:=get_exA (l:=doms) (m:=m) (by omega)
  obtain⟨n,rfl,hn⟩:=hd e (List.mem_of_getElem? he)
  have hP':=hP
  unfold PlaceS at hP'
  refine W_at (by omega) (by rw[Int.toNat_natCast];exact he) (W_aI ?_)
  refine W_call (hP' _ _ _ (by omega) (by omega)) ?_
  rintro _ ⟨y,rfl,_,_⟩
  (repeat(with_reducible apply U1))
  refine W_yes (by rw[ivs_len];omega) ?_
  rw[wrap_id (n:=(m:Int)+1) (by omega),ivs_snoc]
  exact xnear_loop hP hd hdl hn0 hnl hKo j (m+1) (D++[y]) (by omega) (by omega) (by rw[List.length_append,h3];rfl)
theorem down_loop{Ko:LV→LV→LV→LV→LV→OV R}{Kr:Bool→OV R}{a b c d:LV}{E:List Int}(hl:E.length≤1000)(hE:E.Pairwise fun x y=>y<x)(hKo:W Q K (Ko a b c d (ivs E))):
 ∀(j i:Nat),E.length-i<j→1≤i→W Q K (l5_2g G k Ko Kr j a b c d (ivs E) i)
 |0,i,h1,h2=>by omega
 |j+1,i,h1,h2=>by
  show W Q K (b5_2 G k (l5_2g G k Ko Kr j) Ko Kr a b c d (ivs E) i)
  unfold b5_2
  refine W_dec (fun h=> ?_) (fun h=>hKo)
  rw[ivs_len]at h
  obtain⟨i,rfl⟩:∃i',i=i'+1:=⟨i-1,by omega⟩
  obtain⟨x,hx⟩:=get_ex (l:=E) (m:=i+1) (by omega)
  obtain⟨y,hy⟩:=get_ex (l:=E) (m:=i) (by omega)
  have hxy:x<y:=by
   obtain⟨h1,rfl⟩:=List.getElem?_eq_some_iff.1 hx
   obtain⟨h2,rfl⟩:=List.getElem?_eq_some_iff.1 hy
   exact List.pairwise_iff_getElem.1 hE i (i+1) h2 h1 (by omega)
  refine W_at (by omega) (ivs_atZ hx) (W_aI ?_)
  rw[wrap_id (n:=((i+1:Nat):Int)-1) (by omega),show((i+1:Nat):Int)-1=(i:Int)by omega]
  refine W_at (by omega) (ivs_atZ hy) (W_aI ?_)
  refine W_chk' (by simp;omega) ?_
  rw[wrap_id (n:=((i+1:Nat):Int)+1) (by omega),show((i+1:Nat):Int)+1=((i+1+1:Nat):Int)by omega]
  exact down_loop hl hE hKo j (i+1+1) (by omega) (by omega)
theorem ints_row:∀{v:LV},IntsS v→∃l:List Int,v=ivs l
 | [],_=>⟨[],rfl⟩
 |a::r,h=>by
  obtain⟨n,rfl,_⟩:=h a List.mem_cons_self
  obtain⟨l,rfl⟩:=ints_row (v:=r) fun e he=>h e (List.mem_cons_of_mem _ he)
  exact⟨n::l,rfl⟩
theorem exits_law(hk:10000≤k)(hKn:KnLOK G)(hN:NdsOK G)(hP:PlaceS G)(hSo:SomeOK 200 G)(hE:ExitOK G)(hX:XExitOK G)(hS:SameOK G):ExitsOK (fun _ args (K:LV→OV R)=>g5 G k args K):=by
 intro v w doms K hv hw hd
 show W _ K (f5 G k v w doms K)
 unfold f5
 unfold NdsOK at hN;unfold SomeOK at hSo;unfold ExitOK at hE;unfold XExitOK at hX;unfold SameOK at hS
 refine W_dec (fun _=>knl_go hKn) (fun g1=> ?_)
 refine W_dec (fun _=>knl_go hKn) (fun g2=> ?_)
 refine W_dec (fun _=>knl_go hKn) (fun g3=> ?_)
 refine W_call (hN v _ hv (by omega)) ?_
 rintro _ ⟨ns,rfl,hns⟩
 (repeat(with_reducible apply U1))
 have T:=hns.tree
 have hl:=hns.len
 have hpos:=T.pos
 obtain⟨n0,h0⟩:∃n,ns[0]? =some n:=⟨_,List.getElem?_eq_getElem (by omega)⟩
 obtain⟨r1,r2,r3⟩:=T.root n0 h0
 refine W_call (hSo ns 0 n0 w 0 _ T (by omega) h0 (by omega) (by omega) ⟨hw,by omega,by omega,by omega⟩) ?_
 rintro _ ⟨A,j1,rfl,hA,_⟩
 (repeat(with_reducible apply U1))
 have lA:A.length≤ns.length:=asc_len hA.asc fun x hx=>by have:=hA.rng x hx;omega
 unfold l5_0
 refine xnear_loop hP hd (by omega) (by rw[List.length_map];omega) (by rw[List.length_map];omega) (fun D hD=> ?_) k 0 [] (by omega) (by omega) rfl
 refine W_call (hX ns A D _ (by omega) (by omega) hA.asc) ?_
 rintro _ rfl
 (repeat(with_reducible apply U1))
 have lE:=exitN_len (ns:=ns) (C:=A) (D:=D)
 unfold l5_2
 refine down_loop (by omega) (by unfold exitN;rw[List.pairwise_reverse];exact List.Pairwise.filter _ hA.asc) ?_ k 1 (by omega) (by omega)
 refine W_call (hE ns A D _ (by omega) (by omega)) ?_
 rintro _ rfl
 (repeat(with_reducible apply U1))
 refine W_call (hS _ _ _ (by omega)) ?_
 rintro _ rfl
 (repeat(with_reducible apply U1))
 refine W_chk (by simp) ?_
 obtain⟨dd,rfl⟩:=ints_row hd
 rw[ivs_len]at g3
 refine W_call (hX ns A dd _ (by omega) (by omega) hA.asc) ?_
 rintro _ rfl
 (repeat(with_reducible apply U1))
 refine W_call (hE ns A dd _ (by omega) (by omega)) ?_
 rintro _ rfl
 (repeat(with_reducible apply U1))
 have lE2:=exitN_len (ns:=ns) (C:=A) (D:=dd)
 refine W_call (hS _ _ _ (by omega)) ?_
 rintro _ rfl
 (repeat(with_reducible apply U1))
 exact W_chk (by simp) (knl_go hKn)
end
end Go.Proofs.Ytokgijpdehjckaa.Vm
