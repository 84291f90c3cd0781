/- Functions of the program, told by the machine of values, and what they answer: a part. -/
import Derived.Test.YtokgijpdehjckaaXe2
import Derived.Test.YtokgijpdehjckaaXe1
import Derived.Test.YtokgijpdehjckaaXeV4
open Go Go.VM
set_option linter.unusedVariables false
set_option maxRecDepth 100000
set_option maxHeartbeats 8000000
namespace Go.Proofs.Ytokgijpdehjckaa.Vm
section
variable {R : Type} {G : ORC R} {k : Nat} {K : LV → OV R}
def IsOK(G:ORC R):Prop:=∀(l:LV) (i:Int) (K:LV→OV R),W (fun o=>o=[.bool (decide (0≤i∧i<l.length))]) K (G 30 [.sl 7 l,.int .i64 i] K)
theorem is_ok:IsOK (fun _ args (K:LV→OV R)=>g30 G k args K):=by
 intro l i K
 show W _ K (f30 G k l i K)
 unfold f30
 refine W_dec (fun h=> ?_) (fun h=> ?_)
 ·exact W_ret (by congr 3;simp;omega)
 ·exact W_ret (by congr 2;symm;rw[decide_eq_false];omega)
def InOK(G:ORC R):Prop:=∀(l:List Nd) (a b:Int) (K:LV→OV R),W (fun o=>o=[.bool (inN l a b)]) K (G 29 [.sl 7 (l.map Nd.v),.int .i64 a,.int .i64 b] K)
theorem in_ok(hI:IsOK G):InOK (fun _ args (K:LV→OV R)=>g29 G k args K):=by
 intro l a b K
 show W _ K (f29 G k (l.map Nd.v) a b K)
 unfold f29
 unfold IsOK at hI
 have no:¬(0≤a∧a<l.length∧0≤b∧b<l.length∧a≥b)→inN l a b=false:=fun h=>by unfold inN;rw[decide_eq_false h];rfl
 refine W_call (hI _ _ _) ?_
 rintro _ rfl
 refine W_uB (W_unNil ?_)
 simp only[List.length_map]
 refine W_dec (fun h1=> ?_) (fun h1=>W_ret (by rw[no (by omega)]))
 refine W_call (hI _ _ _) ?_
 rintro _ rfl
 refine W_uB (W_unNil ?_)
 simp only[List.length_map]
 refine W_dec (fun h2=> ?_) (fun h2=>W_ret (by rw[no (by omega)]))
 refine W_dec (fun h3=> ?_) (fun h3=>W_ret (by rw[no (by omega)]))
 refine W_and (W_yes h2.1 (W_yes h2.2 ?_))
 refine W_nthN (by omega) (fun n hn=>W_nd ?_)
 refine W_ce7 (W_aI ?_)
 have e:inN l a b=decide (a≤n.last):=by
  unfold inN
  rw[decide_eq_true (show 0≤a∧a<l.length∧0≤b∧b<l.length∧a≥b from⟨h1.1,h1.2,h2.1,h2.2,h3⟩),hn];rfl
 exact W_ret (by rw[e])
def DomOK(G:ORC R):Prop:=∀(l:List Nd) (a b:Int) (K:LV→OV R),l.length≤1000→W (fun o=>o=[.int .i64 (domN l a b)]) K (G 11 [.sl 7 (l.map Nd.v),.int .i64 a,.int .i64 b] K)
theorem dom_no{l:List Nd}{a b:Int}(h:¬(0≤a∧a<l.length)∨¬(0≤b∧b<l.length)):∀i,domGo l a b i= -1
 |0=>rfl
 |i+1=>by
  unfold domGo
  have e:domAt l a b i=false:=by
   unfold domAt
   rcases h with h|h
   ·rw[show inN l a i=false by unfold inN;rw[decide_eq_false (by omega)];rfl];simp
   ·rw[show inN l b i=false by unfold inN;rw[decide_eq_false (by omega)];rfl];simp
  rw[if_neg (by rw[e];simp)]
  exact dom_no h i
theorem dom_loop(hI:InOK G){Q:LV→Prop}{K:LV→OV R}{Ko:Int→OV R}{l:List Nd}{a b:Int}(hl:l.length≤1000)
 (hKo:W Q K (Ko (domN l a b))):
 ∀(j i:Nat),l.length-i<j→i≤l.length→W Q K (l11_0g G k Ko j (l.map Nd.v) a b (domGo l a b i) i)
 |0,i,h1,h2=>by omega
 |j+1,i,h1,h2=>by
  show W Q K (b11_0 G k (l11_0g G k Ko j) Ko (l.map Nd.v) a b (domGo l a b i) i)
  unfold b11_0
  simp only[List.length_map]
  unfold InOK at hI
  refine W_dec (fun h=> ?_) (fun h=> ?_)
  ·have hi:i<l.length:=by omega
   have hgo:∀d,domGo l a b (i+1)=d→W Q K (l11_0g G k Ko j (l.map Nd.v) a b d (IntKind.i64.wrap ((i:Int)+1))):=by
    intro d hd
    rw[wrap_id (n:=(i:Int)+1) (by omega),←hd]
    exact dom_loop hI hl hKo j (i+1) (by omega) (by omega)
   have hN:domAt l a b i=false→domGo l a b (i+1)=domGo l a b i:=fun e=>by
    show(if domAt l a b i=true then(i:Int)else domGo l a b i)=_
    rw[if_neg (by rw[e];simp)]
   have hY:domAt l a b i=true→domGo l a b (i+1)=i:=fun e=>by
    show(if domAt l a b i=true then(i:Int)else domGo l a b i)=_
    rw[if_pos e]
   refine W_and (W_yes (by omega) (W_yes h ?_))
   refine W_nthN (by omega) (fun n hn=>W_nd ?_)
   rw[Int.toNat_natCast]at hn
   have hat:domAt l a b i=(decide (n.kind=2)&&decide ((i:Int)≠a)&&decide ((i:Int)≠b)&&inN l a i&&inN l b i):=by unfold domAt;rw[hn]
   refine W_ce7 (W_aI ?_)
   refine W_beqI (fun e1=> ?_) (fun e1=>hgo _ (hN (by rw[hat,decide_eq_false e1];rfl)))
   refine W_bool (fun e2=> ?_) (fun e2=>hgo _ (hN (by rw[hat];simp at e2;simp[e2])))
   refine W_bool (fun e3=> ?_) (fun e3=>hgo _ (hN (by rw[hat];simp at e3;simp[e3])))
   refine W_call (hI _ _ _ _) ?_
   rintro _ rfl
   refine W_uB (W_unNil ?_)
   refine W_bool (fun e4=> ?_) (fun e4=>hgo _ (hN (by rw[hat,e4];simp)))
   refine W_call (hI _ _ _ _) ?_
   rintro _ rfl
   refine W_uB (W_unNil ?_)
   refine W_bool (fun e5=> ?_) (fun e5=>hgo _ (hN (by rw[hat,e5];simp)))
   refine hgo _ (hY ?_)
   rw[hat,e4,e5,decide_eq_true e1]
   simp at e2 e3
   simp[e2,e3]
  ·have he:i=l.length:=by omega
   subst he
   exact hKo
theorem dom_ok(hk:10000≤k)(hIs:IsOK G)(hI:InOK G):DomOK (fun _ args (K:LV→OV R)=>g11 G k args K):=by
 intro l a b K hl
 show W _ K (f11 G k (l.map Nd.v) a b K)
 unfold f11
 unfold IsOK at hIs
 refine W_call (hIs _ _ _) ?_
 rintro _ rfl
 refine W_uB (W_unNil (W_not ?_))
 simp only[List.length_map]
 refine W_dec (fun h1=> ?_) (fun h1=>W_ret (by unfold domN;rw[dom_no (.inl h1)]))
 refine W_call (hIs _ _ _) ?_
 rintro _ rfl
 refine W_uB (W_unNil (W_not ?_))
 simp only[List.length_map]
 refine W_dec (fun h2=> ?_) (fun h2=>W_ret (by unfold domN;rw[dom_no (.inr h2)]))
 unfold l11_0
 exact dom_loop (Q:=fun o=>o=[.int .i64 (domN l a b)]) (K:=K) (Ko:=fun d=>K [.int .i64 d]) hI hl (W_ret rfl) k 0 (by omega) (by omega)
end
set_option linter.unusedSimpArgs false
section
variable {R : Type} {G : ORC R} {k : Nat} {K : LV → OV R}
def KidsOK(f:FuncId)(G:ORC R):Prop:=∀(l:List Nd) (i:Int) (K:LV→OV R),l.length≤1000→W (fun o=>o=[.sl 1 (ivs (kidsN l i))]) K (G f [.sl 7 (l.map Nd.v),.int .i64 i] K)
theorem rkids_loop(hI:IsOK G){Q:LV→Prop}{K:LV→OV R}{Ko:LV→OV R}{l:List Nd}{i:Int}(hl:l.length≤1000)(hKo:W Q K (Ko (ivs (kidsN l i)))):
 ∀(j m:Nat),l.length-m<j→m≤l.length→W Q K (l58_0g G k Ko j (l.map Nd.v) i (ivs (kidsGo l i m)) m)
 |0,m,h1,h2=>by omega
 |j+1,m,h1,h2=>by
  show W Q K (b58_0 G k (l58_0g G k Ko j) Ko (l.map Nd.v) i (ivs (kidsGo l i m)) m)
  unfold b58_0
  have hgl:=kidsGo_len (l:=l) (i:=i) (m:=m)
  simp only[List.length_map]
  refine W_dec (fun h=> ?_) (fun h=>by rw[show m=l.length by omega];exact hKo)
  unfold IsOK at hI
  refine W_call (hI _ _ _) ?_
  rintro _ rfl
  (repeat(with_reducible apply U1))
  simp only[List.length_map]
  refine W_dec (fun hi=> ?_) (fun hi=> ?_)
  ·refine W_and (W_yes (by omega) (W_yes (by omega) ?_))
   refine W_nthN (by omega) (fun n hn=> ?_)
   rw[Int.toNat_natCast]at hn
   (repeat(with_reducible apply U1))
   have next:∀a,a=ivs (kidsGo l i (m+1))→W Q K (l58_0g G k Ko j (l.map Nd.v) i a (IntKind.i64.wrap ((m:Int)+1))):=fun a ha=>by
    rw[wrap_id (n:=(m:Int)+1) (by omega),ha]
    exact rkids_loop hI hl hKo j (m+1) (by omega) (by omega)
   have hk:isK l i m=(decide (0≤i∧i<l.length)&&decide (n.parent=i)):=by unfold isK;rw[hn]
   refine W_beqI (fun hp=> ?_) (fun hp=>next _ (by rw[kidsGo,hk,decide_eq_false hp];simp))
   refine W_yes (by rw[ivs_len];omega) (next _ (by rw[kidsGo,hk,decide_eq_true hi,decide_eq_true hp];simp[ivs]))
  ·have e0:∀m,kidsGo l i m=[]:=by
    intro m
    induction m with
    |zero=>rfl
    |succ m ih=>unfold kidsGo;rw[ih];unfold isK;rw[decide_eq_false hi];simp
   have:kidsN l i=kidsGo l i m:=by unfold kidsN;rw[e0,e0]
   rw[←this];exact hKo
theorem rkids_ok(hk:10000≤k)(hI:IsOK G):KidsOK 58 (fun _ args (K:LV→OV R)=>g58 G k args K):=by
 intro l i K hl
 show W _ K (f58 G k (l.map Nd.v) i K)
 unfold f58 l58_0
 exact rkids_loop (Q:=fun o=>o=[.sl 1 (ivs (kidsN l i))]) (K:=K) (Ko:=fun x=>K [.sl 1 x]) hI hl (W_ret rfl) k 0 (by omega) (by omega)
end
section
variable {R : Type} {G : ORC R} {k : Nat} {K : LV → OV R}
theorem ivs_atZ{l:List Int}{i:Nat}{n:Int}(h:l[i]? =some n):(ivs l)[((i:Nat):Int).toNat]? =some (.int .i64 n):=by rw[Int.toNat_natCast];exact ivs_at h
theorem get_ex{l:List Int}{m:Nat}(h:m<l.length):∃x,l[m]? =some x:=⟨_,List.getElem?_eq_getElem h⟩
def HasOK(G:ORC R):Prop:=∀(l:List Int) (i:Int) (K:LV→OV R),l.length≤9000→W (fun o=>o=[.bool (hasL l i)]) K (G 28 [.sl 1 (ivs l),.int .i64 i] K)
theorem has_loop{Q:LV→Prop}{K:LV→OV R}{Ko:Unit→OV R}{Kr:Bool→OV R}{l:List Int}{i:Int}(hl:l.length≤9000)(hKo:i∉l→W Q K (Ko ()))(hKr:i∈l→W Q K (Kr true)):
 ∀(j m:Nat),l.length-m<j→m≤l.length→i∉l.take m→W Q K (l28_0g G k Ko Kr j (ivs l) i m)
 |0,m,h1,h2,h3=>by omega
 |j+1,m,h1,h2,h3=>by
  show W Q K (b28_0 G k (l28_0g G k Ko Kr j) Ko Kr (ivs l) i m)
  unfold b28_0
  refine W_dec (fun h=> ?_) (fun h=>hKo (by rw[ivs_len]at h;rwa[List.take_of_length_le (by omega)]at h3))
  rw[ivs_len]at h
  obtain⟨x,hx⟩:=get_ex (l:=l) (m:=m) (by omega)
  refine W_at (by omega) (ivs_atZ hx) (W_aI ?_)
  refine W_beqI (fun e=>hKr (by subst e;exact List.mem_of_getElem? hx)) (fun e=> ?_)
  rw[wrap_id (n:=(m:Int)+1) (by omega)]
  exact has_loop hl hKo hKr j (m+1) (by omega) (by omega) (by rw[take_snoc hx,List.mem_append,List.mem_singleton];rintro(h|h);exact h3 h;exact e h.symm)
theorem has_ok(hk:10000≤k):HasOK (fun _ args (K:LV→OV R)=>g28 G k args K):=by
 intro l i K hl
 show W _ K (f28 G k (ivs l) i K)
 unfold f28 l28_0
 exact has_loop (Q:=fun o=>o=[.bool (hasL l i)]) (K:=K) hl (fun h=>W_ret (by unfold hasL;rw[decide_eq_false h])) (fun h=>W_ret (by unfold hasL;rw[decide_eq_true h])) k 0 (by omega) (by omega) (by simp)
def StatesOK(G:ORC R):Prop:=∀(ns:List Nd) (i:Int) (K:LV→OV R),ns.length≤1000→W (fun o=>o=[.sl 1 (ivs (statesN ns i))]) K (G 25 [.sl 7 (ns.map Nd.v),.int .i64 i] K)
theorem filt_snoc{l:List Int}{p:Int→Bool}{x:Int}:(l++[x]).filter p=l.filter p++if p x then[x]else[]:=by
 rw[List.filter_append,List.filter_cons];cases p x<;>simp
theorem kid_at{ns:List Nd}{i x:Int}{m:Nat}(h:(kidsN ns i)[m]? =some x):∃(q:Nat) (n:Nd),x=q∧ns[q]? =some n∧q<ns.length∧isSt ns x=decide (n.kind≤3):=by
 obtain⟨q,n,h1,h2,h3,_⟩:=mem_kidsN.1 (List.mem_of_getElem? h)
 exact⟨q,n,h1,h2,(List.getElem?_eq_some_iff.1 h2).1,by unfold isSt;rw[h1,Int.toNat_natCast,h2]⟩
theorem states_loop(hS:IsStOK G){Q:LV→Prop}{K:LV→OV R}{Ko:LV→OV R}{ns:List Nd}{i:Int}(hl:ns.length≤1000)(hKo:W Q K (Ko (ivs (statesN ns i)))):
 ∀(j m:Nat),(kidsN ns i).length-m<j→m≤(kidsN ns i).length→W Q K (l25_0g G k Ko j (ns.map Nd.v) (ivs (((kidsN ns i).take m).filter (isSt ns))) (ivs (kidsN ns i)) m)
 |0,m,h1,h2=>by omega
 |j+1,m,h1,h2=>by
  show W Q K (b25_0 G k (l25_0g G k Ko j) Ko (ns.map Nd.v) (ivs (((kidsN ns i).take m).filter (isSt ns))) (ivs (kidsN ns i)) m)
  unfold b25_0
  have hkl:(kidsN ns i).length≤ns.length:=kidsGo_len
  refine W_dec (fun h=> ?_) (fun h=>by rw[ivs_len]at h;rw[List.take_of_length_le (by omega)];exact hKo)
  rw[ivs_len]at h
  obtain⟨x,hx⟩:=get_ex (l:=kidsN ns i) (m:=m) (by omega)
  obtain⟨q,n,rfl,hn,hq,hst⟩:=kid_at hx
  have hfl:=List.length_filter_le (isSt ns) ((kidsN ns i).take m)
  rw[List.length_take]at hfl
  unfold IsStOK at hS
  refine W_at (by omega) (ivs_atZ hx) (W_aI ?_)
  refine W_at (by omega) (by rw[Int.toNat_natCast];exact nd_get hn) (W_asAgg ?_)
  refine W_call (hS n _) ?_
  rintro _ rfl
  (repeat(with_reducible apply U1))
  have next:∀c,c=ivs (((kidsN ns i).take (m+1)).filter (isSt ns))→W Q K (l25_0g G k Ko j (ns.map Nd.v) c (ivs (kidsN ns i)) (IntKind.i64.wrap ((m:Int)+1))):=fun c hc=>by
   rw[wrap_id (n:=(m:Int)+1) (by omega),hc]
   exact states_loop hS hl hKo j (m+1) (by omega) (by omega)
  rw[←hst]
  refine W_bool (fun hb=> ?_) (fun hb=>next _ (by rw[take_snoc hx,filt_snoc,hb];simp))
  refine W_at (by omega) (ivs_atZ hx) (W_aI ?_)
  exact W_yes (by rw[ivs_len];omega) (next _ (by rw[take_snoc hx,filt_snoc,hb];simp[ivs]))
theorem states_ok(hk:10000≤k)(hK:KidsOK 58 G)(hS:IsStOK G):StatesOK (fun _ args (K:LV→OV R)=>g25 G k args K):=by
 intro ns i K hl
 show W _ K (f25 G k (ns.map Nd.v) i K)
 unfold f25
 unfold KidsOK at hK
 refine W_call (hK _ _ _ hl) ?_
 rintro _ rfl
 (repeat(with_reducible apply U1))
 unfold l25_0
 have hkl:(kidsN ns i).length≤ns.length:=kidsGo_len
 exact states_loop (Q:=fun o=>o=[.sl 1 (ivs (statesN ns i))]) (K:=K) (Ko:=fun x=>K [.sl 1 x]) hS hl (W_ret rfl) k 0 (by omega) (by omega)
theorem statesN_len{ns:List Nd}{i:Int}:(statesN ns i).length≤ns.length:=Nat.le_trans (List.length_filter_le _ _) kidsGo_len
end
section
variable {R : Type} {G : ORC R} {k : Nat} {K : LV → OV R} {Q : LV → Prop}
def AnyOK(G:ORC R):Prop:=∀(ns:List Nd) (s:Int) (hv:LV) (e:List Int) (K:LV→OV R),e.length≤9900→
 W (fun o=>o=[.bool (anyN ns e s),.sl 1 (ivs e)]) K (G 77 [.int .i64 s,.sl 7 (ns.map Nd.v),.sl 1 hv,.sl 1 (ivs e)] K)
theorem any_snoc{ns:List Nd}{s x:Int}{e:List Int}:anyN ns (e++[x]) s=(anyN ns e s||inN ns x s):=by unfold anyN;rw[List.any_append];simp
theorem any_loop(hI:InOK G){Ko:LV→LV→LV→OV R}{Kr:Bool→LV→LV→LV→OV R}{ns:List Nd}{s:Int}{hv:LV}{e:List Int}(hl:e.length≤9900)
 (hKo:anyN ns e s=false→W Q K (Ko (ns.map Nd.v) hv (ivs e))) (hKr:anyN ns e s=true→W Q K (Kr true (ns.map Nd.v) hv (ivs e))):
 ∀(j m:Nat),e.length-m<j→m≤e.length→anyN ns (e.take m) s=false→W Q K (l77_0g G k Ko Kr j s m (ns.map Nd.v) hv (ivs e))
 |0,m,h1,h2,h3=>by omega
 |j+1,m,h1,h2,h3=>by
  show W Q K (b77_0 G k (l77_0g G k Ko Kr j) Ko Kr s m (ns.map Nd.v) hv (ivs e))
  unfold b77_0
  refine W_dec (fun h=> ?_) (fun h=>by rw[ivs_len]at h;rw[List.take_of_length_le (by omega)]at h3;exact hKo h3)
  rw[ivs_len]at h
  obtain⟨x,hx⟩:=get_ex (l:=e) (m:=m) (by omega)
  refine W_at (by omega) (ivs_atZ hx) (W_aI ?_)
  have hI':=hI
  unfold InOK at hI'
  refine W_call (hI' _ _ _ _) ?_
  rintro _ rfl
  (repeat(with_reducible apply U1))
  have hs:=any_snoc (ns:=ns) (s:=s) (x:=x) (e:=e.take m)
  rw[←take_snoc hx,h3,Bool.false_or]at hs
  refine W_bool (fun hb=>hKr ?_) (fun hb=> ?_)
  ·unfold anyN
   exact List.any_eq_true.2 ⟨x,List.mem_of_getElem? hx,hb⟩
  ·rw[wrap_id (n:=(m:Int)+1) (by omega)]
   exact any_loop hI hl hKo hKr j (m+1) (by omega) (by omega) (by rw[hs,hb])
theorem any_ok(hk:10000≤k)(hI:InOK G):AnyOK (fun _ args (K:LV→OV R)=>g77 G k args K):=by
 intro ns s hv e K hl
 show W _ K (f77 G k s (ns.map Nd.v) hv (ivs e) K)
 unfold f77 l77_0
 exact any_loop (Q:=fun o=>o=[.bool (anyN ns e s),.sl 1 (ivs e)]) (Ko:=fun _ _ y=>K [.bool false,.sl 1 y]) (Kr:=fun b _ _ y=>K [.bool b,.sl 1 y]) hI hl (fun h=>W_ret (by rw[h])) (fun h=>W_ret (by rw[h])) k 0 (by omega) (by omega) rfl
def DnOK(d:Nat)(G:ORC R):Prop:=∀(ns:List Nd) (a:Nat) (n:Nd) (hv:LV) (e:List Int) (K:LV→OV R),Tree ns→ns.length≤100→ns[a]? =some n→n.kind≤3→n.last-a<d→e.length+(n.last-a+1).toNat≤9700→
 W (fun o=>o=[.sl 1 (ivs (dnN ns a e))]) K (G 36 [.int .i64 a,.sl 7 (ns.map Nd.v),.sl 1 hv,.sl 1 (ivs e)] K)
def RegOK(d:Nat)(G:ORC R):Prop:=∀(ns:List Nd) (a:Nat) (n:Nd) (hv:LV) (e:List Int) (K:LV→OV R),Tree ns→ns.length≤100→ns[a]? =some n→n.last-a≤d→e.length+(n.last-a).toNat≤9700→
 W (fun o=>o=[.sl 1 (ivs (regF ns (dnN ns) (statesN ns a) e))]) K (G 62 [.int .i64 a,.sl 7 (ns.map Nd.v),.sl 1 hv,.sl 1 (ivs e)] K)
theorem reg_loop{d:Nat}(hA:AnyOK G)(hD:DnOK d G){Ko:LV→LV→LV→OV R}{ns:List Nd}{a:Nat}{n:Nd}{hv:LV}(T:Tree ns)(hl:ns.length≤100)(ha:ns[a]? =some n)(hd:n.last-a≤d){D:List Int}:
 ∀(j m:Nat) (e:List Int) (lo:Int),(statesN ns a).length-m<j→m≤(statesN ns a).length→(∀k∈(statesN ns a).drop m,lo≤k)→a<lo→e.length+(n.last+1-lo).toNat≤9700→D=regF ns (dnN ns) ((statesN ns a).drop m) e→
  W Q K (Ko (ns.map Nd.v) hv (ivs D))→W Q K (l62_0g G k Ko j (ivs (statesN ns a)) m (ns.map Nd.v) hv (ivs e))
 |0,m,e,lo,h1,h2,h3,h4,h5,h6,hKo=>by omega
 |j+1,m,e,lo,h1,h2,h3,h4,h5,h6,hKo=>by
  show W Q K (b62_0 G k (l62_0g G k Ko j) Ko (ivs (statesN ns a)) m (ns.map Nd.v) hv (ivs e))
  unfold b62_0
  have hsl:(statesN ns a).length≤ns.length:=statesN_len
  refine W_dec (fun h=> ?_) (fun h=>by
   rw[ivs_len]at h
   rw[List.drop_of_length_le (by omega)]at h6
   rw[show D=e from h6]at hKo
   exact hKo)
  rw[ivs_len]at h
  obtain⟨x,hx⟩:=get_ex (l:=statesN ns a) (m:=m) (by omega)
  have hdr:(statesN ns a).drop m=x::(statesN ns a).drop (m+1):=by
   obtain⟨hm,e1⟩:=List.getElem?_eq_some_iff.1 hx
   rw[List.drop_eq_getElem_cons hm,e1]
  obtain⟨q,m2,rfl,g1,g2,g3⟩:=(mem_statesN (Tree.lt ha)).1 (List.mem_of_getElem? hx)
  have hki:=kid_in T ha g1 g2
  have hql:=T.seg.last q m2 g1
  have hlo:=h3 q (by rw[hdr];exact List.mem_cons_self)
  have hnext:∀k∈(statesN ns a).drop (m+1),m2.last+1≤k:=fun k hk=>by
   have hA:Asc ((statesN ns a).drop m):=List.Pairwise.sublist (List.drop_sublist _ _) statesN_asc
   rw[hdr]at hA
   have h7:=(List.pairwise_cons.1 hA).1 k hk
   obtain⟨q',m',rfl,k1,k2,k3⟩:=(mem_statesN (Tree.lt ha)).1 (List.mem_of_mem_drop hk)
   have:=kid_apart T g1 g2 k1 k2 (by omega)
   omega
  rw[hdr,regF]at h6
  refine W_at (by omega) (ivs_atZ hx) (W_aI ?_)
  have hA':=hA
  have hD':=hD
  unfold AnyOK at hA';unfold DnOK at hD'
  refine W_call (hA' _ _ _ _ _ (by omega)) ?_
  rintro _ rfl
  (repeat(with_reducible apply U1))
  have next:∀e':List Int,e'.length≤e.length+(m2.last-q+1).toNat→D=regF ns (dnN ns) ((statesN ns a).drop (m+1)) e'→W Q K (l62_0g G k Ko j (ivs (statesN ns a)) (IntKind.i64.wrap ((m:Int)+1)) (ns.map Nd.v) hv (ivs e')):=fun e' q1 q2=>by
   rw[wrap_id (n:=(m:Int)+1) (by omega)]
   exact reg_loop hA hD T hl ha hd j (m+1) e' (m2.last+1) (by omega) (by omega) hnext (by omega) (by omega) q2 hKo
  refine W_not (W_bool (fun hb=> ?_) (fun hb=> ?_))
  ·rw[hb,if_pos rfl]at h6
   exact next e (by omega) h6
  ·rw[hb,if_neg (by simp)]at h6
   refine W_at (by omega) (ivs_atZ hx) (W_aI ?_)
   refine W_call (hD' ns q m2 hv e _ T hl g1 g3 (by omega) (by omega)) ?_
   rintro _ rfl
   (repeat(with_reducible apply U1))
   exact next _ (dnN_len T (m2.last-q+1).toNat q m2 e g1 (by omega)) h6
theorem reg_ok{d:Nat}(hk:10000≤k)(hS:StatesOK G)(hA:AnyOK G)(hD:DnOK d G):RegOK d (fun _ args (K:LV→OV R)=>g62 G k args K):=by
 intro ns a n hv e K T hl ha hd he
 show W _ K (f62 G k a (ns.map Nd.v) hv (ivs e) K)
 unfold f62
 unfold StatesOK at hS
 refine W_call (hS _ _ _ (by omega)) ?_
 rintro _ rfl
 (repeat(with_reducible apply U1))
 unfold l62_0
 have hsl:(statesN ns a).length≤ns.length:=statesN_len
 have hal:=T.seg.last a n ha
 exact reg_loop (Q:=fun o=>o=[.sl 1 (ivs (regF ns (dnN ns) (statesN ns a) e))]) (Ko:=fun _ _ y=>K [.sl 1 y]) hA hD T hl ha hd k 0 e (a+1) (by omega) (by omega) (fun k hk=>by
  have:=(states_gt T (by omega) (List.mem_of_mem_drop hk)).1
  omega) (by omega) (by omega) rfl (W_ret rfl)
theorem dn_ok{d:Nat}(hIs:IsStOK G)(hD:∀d',d=d'+1→DnOK d' G∧RegOK d' G):DnOK d (fun _ args (K:LV→OV R)=>g36 G k args K):=by
 intro ns a n hv e K T hl ha h3 hd he
 show W _ K (f36 G k a (ns.map Nd.v) hv (ivs e) K)
 have hal:=T.seg.last a n ha
 have hla:=Tree.lt ha
 cases d with
 |zero=>omega
 |succ d=>
 obtain⟨hD,hR⟩:=hD d rfl
 unfold f36
 unfold IsStOK at hIs;unfold DnOK at hD;unfold RegOK at hR
 have hat:(ns.map Nd.v)[((a:Nat):Int).toNat]? =some n.v:=by rw[Int.toNat_natCast];exact nd_get ha
 rw[dnN_at T ha]
 refine W_at (by omega) hat (W_asAgg ?_)
 refine W_call (hIs n _) ?_
 rintro _ rfl
 (repeat(with_reducible apply U1))
 refine W_not (W_chk (decide_eq_true h3) ?_)
 refine W_yes (by rw[ivs_len];omega) ?_
 have es:ivs e++[V.int .i64 (a:Int)]=ivs (e++[(a:Int)]):=by rw[ivs_app];rfl
 have el:(e++[(a:Int)]).length=e.length+1:=by simp
 rw[es]
 refine W_at (by omega) hat (W_nd7 (W_aI ?_))
 refine W_beqI (fun hk=> ?_) (fun hk=> ?_)
 ·obtain⟨i1,m,m1,m2,m3,m4⟩:=init_at T ha hk
  refine W_at (by omega) hat (W_nd7 (W_aI ?_))
  rw[if_pos hk,i1]
  refine W_call (hD ns (a+1) m hv _ _ T hl m1 m3 (by omega) (by omega)) ?_
  rintro _ rfl
  (repeat(with_reducible apply U1))
  refine W_at (by omega) hat (W_nd7 (W_aI ?_))
  exact W_eqN (by omega) (W_ret rfl)
 ·refine W_at (by omega) hat (W_nd7 (W_aI ?_))
  rw[if_neg hk]
  refine W_beqI (fun h4=> ?_) (fun h4=> ?_)
  ·rw[if_pos h4]
   refine W_call (hR ns a n hv _ _ T hl ha (by omega) (by omega)) ?_
   rintro _ rfl
   (repeat(with_reducible apply U1))
   exact W_ret rfl
  ·rw[if_neg h4]
   exact W_ret rfl
end
end Go.Proofs.Ytokgijpdehjckaa.Vm
namespace Go.VM
def meansN(ns:List Nd)(H:List (List Int))(s:Nat)(n:Nd):List Int:=
 if n.kind≤3 then[(s:Int)]else match H[s]? with
  |some (x::r)=>x::r
  |_=>match ns[n.parent.toNat]? with
   |some p=>if p.kind=2 then[p.init]else statesN ns n.parent
   |none=>[]
def upF(ns:List Nd)(a:Int):Nat→Int→List Int→List Int
 |0,_,e=>e
 |f+1,k,e=>if 0≤k∧k≠a∧inN ns k a=true then match ns[k.toNat]? with
   |some n=>upF ns a f n.parent (if n.kind=3 then regF ns (dnN ns) (statesN ns k) (e++[k])else e++[k])
   |none=>e
  else e
def upN(ns:List Nd)(s a:Int)(e:List Int):List Int:=match ns[s.toNat]? with
 |some n=>upF ns a ns.length n.parent e
 |none=>e
def dnsN(ns:List Nd)(m e:List Int):List Int:=m.foldl (fun e x=>dnN ns x e) e
def upsN(ns:List Nd)(a:Int)(m e:List Int):List Int:=m.foldl (fun e x=>upN ns x a e) e
def entN(ns:List Nd)(H:List (List Int))(s:Nat)(n:Nd)(e:List Int):List Int:=
 if n.kind≤3 then dnN ns s e else upsN ns n.parent (meansN ns H s n) (dnsN ns (meansN ns H s n) e)
def isN(ns:List Nd)(i:Int):Bool:=decide (0≤i∧i<ns.length)
def wayN(ns:List Nd)(H:List (List Int))(e:List Int)(w:Int×Int):List Int:=
 if isN ns w.1=true∧isN ns w.2=true then match ns[w.1.toNat]? with
  |some n=>upsN ns w.2 (meansN ns H w.1.toNat n) (entN ns H w.1.toNat n e)
  |none=>e
 else e
def enterN(ns:List Nd)(H:List (List Int))(ws:List (Int×Int)):List Int:=ws.foldl (wayN ns H) []
def InP(ns:List Nd)(p:Nat)(q:Nd)(x:Int):Prop:=∃(k:Nat) (m:Nd),x=k∧ns[k]? =some m∧m.kind≤3∧(p:Int)<k∧(k:Int)≤q.last
def HistW(ns:List Nd)(H:List (List Int)):Prop:=∀(s:Nat) (n:Nd) (p:Nat) (q:Nd) (r:List Int),ns[s]? =some n→4≤n.kind→n.parent=p→ns[p]? =some q→H[s]? =some r→(∀x∈r,InP ns p q x)∧r.length≤ns.length
theorem par_at{ns:List Nd}(T:Tree ns){s:Nat}{n:Nd}(hs:ns[s]? =some n)(h0:0<s):∃(p:Nat) (q:Nd),n.parent=p∧ns[p]? =some q∧(q.kind=2∨q.kind=3)∧p<s∧(s:Int)≤q.last:=by
 have h1:=T.par0 s n hs h0
 have h2:=T.seg.par s n hs
 obtain⟨q,hq,hk⟩:=T.seg.kid s n hs (by omega)
 refine⟨n.parent.toNat,q,by omega,by rw[show n.parent.toNat=(n.parent-((0:Nat):Int)).toNat by simp];exact hq,hk,by omega,?_⟩
 have hq':ns[n.parent.toNat]? =some q:=by rw[show n.parent.toNat=(n.parent-((0:Nat):Int)).toNat by simp];exact hq
 have:=kid_in T hq' hs (by omega)
 omega
theorem hist_pos{ns:List Nd}(T:Tree ns){s:Nat}{n:Nd}(hs:ns[s]? =some n)(h4:4≤n.kind):0<s:=by
 cases s with
 |zero=>have:=(T.root n hs).2.1;omega
 |succ s=>omega
theorem means_in{ns:List Nd}(T:Tree ns){H:List (List Int)}(hH:HistW ns H){s:Nat}{n:Nd}(hs:ns[s]? =some n)(h4:4≤n.kind):
 ∃(p:Nat) (q:Nd),n.parent=p∧ns[p]? =some q∧(q.kind=2∨q.kind=3)∧p<s∧(s:Int)≤q.last∧(∀x∈meansN ns H s n,InP ns p q x)∧(meansN ns H s n).length≤ns.length:=by
 obtain⟨p,q,e1,e2,e3,e4,e5⟩:=par_at T hs (hist_pos T hs h4)
 refine⟨p,q,e1,e2,e3,e4,e5,?_⟩
 have ht:ns[n.parent.toNat]? =some q:=by rw[e1,Int.toNat_natCast];exact e2
 have dflt:(∀x∈(if q.kind=2 then[q.init]else statesN ns n.parent),InP ns p q x)∧(if q.kind=2 then[q.init]else statesN ns n.parent).length≤ns.length:=by
  split
  ·rename_i hk
   obtain⟨i1,m,m1,m2,m3,m4⟩:=init_at T e2 hk
   have:=kid_in T e2 m1 (by omega)
   refine⟨fun x hx=>⟨p+1,m,by rw[List.mem_singleton.1 hx,i1],m1,m3,by omega,by omega⟩,?_⟩
   have:=T.pos;simp;omega
  ·refine⟨fun x hx=> ?_,Nat.le_trans (List.length_filter_le _ _) kidsGo_len⟩
   rw[e1]at hx
   obtain⟨k,m,rfl,m1,m2,m3⟩:=(mem_statesN (Tree.lt e2)).1 hx
   have:=kid_in T e2 m1 m2
   exact⟨k,m,rfl,m1,m3,by omega,by omega⟩
 unfold meansN
 rw[if_neg (by omega)]
 split
 ·rename_i x r hr
  exact hH s n p q _ hs h4 e1 e2 hr
 ·rw[ht];exact dflt
theorem reg_le{ns:List Nd}(T:Tree ns){a:Nat}{n:Nd}{e:List Int}(ha:ns[a]? =some n):(regF ns (dnN ns) (statesN ns a) e).length≤e.length+(n.last-a).toNat:=by
 have hl:=T.seg.last a n ha
 have:=regF_len T ha (dn:=dnN ns) (fun q m m1 m2 m3 e=>dnN_len T (m.last-q+1).toNat q m e m1 (by have:=T.seg.last q m m1;omega)) (statesN ns a) (a+1) e (fun k hk=>⟨hk,by
  have:=(states_gt T (by omega) hk).1
  omega⟩) statesN_asc (by omega)
 omega
theorem upF_at{ns:List Nd}{a:Int}{f k:Nat}{n:Nd}{e:List Int}(hk:ns[k]? =some n)(h:(k:Int)≠a∧inN ns k a=true):
 upF ns a (f+1) k e=upF ns a f n.parent (if n.kind=3 then regF ns (dnN ns) (statesN ns k) (e++[(k:Int)])else e++[(k:Int)]):=by
 show(if 0≤(k:Int)∧(k:Int)≠a∧inN ns k a=true then(match ns[((k:Nat):Int).toNat]? with|some n=>_|none=>_)else e)=_
 rw[if_pos ⟨by omega,h⟩,Int.toNat_natCast,hk]
theorem upF_no{ns:List Nd}{a:Int}{f:Nat}{k:Int}{e:List Int}(h:¬(0≤k∧k≠a∧inN ns k a=true)):upF ns a f k e=e:=by
 cases f with
 |zero=>rfl
 |succ f=>rw[upF,if_neg h]
theorem inN_rng{ns:List Nd}{x y:Int}(h:inN ns x y=true):0≤x∧x<ns.length∧0≤y∧y<ns.length∧y≤x:=by
 unfold inN at h
 simp only[Bool.and_eq_true,decide_eq_true_eq]at h
 omega
theorem upF_len{ns:List Nd}(T:Tree ns){a:Int}:∀{f:Nat} {k:Int} {e:List Int},(upF ns a f k e).length≤e.length+f*ns.length
 |0,k,e=>by rw[upF];omega
 |f+1,k,e=>by
  by_cases h:0≤k∧k≠a∧inN ns k a=true
  ·have hr:=inN_rng h.2.2
   obtain⟨n,hn⟩:∃n,ns[k.toNat]? =some n:=⟨_,List.getElem?_eq_getElem (by omega)⟩
   have ek:k=((k.toNat:Nat):Int):=by omega
   have h2:=h.2
   rw[ek]at h2
   rw[ek,upF_at hn h2]
   refine Nat.le_trans (upF_len T) ?_
   have hl:=T.seg.last _ n hn
   rw[Nat.succ_mul]
   split
   ·have:=reg_le T (e:=e++[((k.toNat:Nat):Int)]) hn
    rw[List.length_append,List.length_singleton]at this
    omega
   ·rw[List.length_append,List.length_singleton];omega
  ·rw[upF_no h];omega
theorem upN_len{ns:List Nd}(T:Tree ns){s a:Int}{e:List Int}:(upN ns s a e).length≤e.length+ns.length*ns.length:=by
 unfold upN
 split
 ·exact upF_len T
 ·omega
theorem ups_len{ns:List Nd}(T:Tree ns){a:Int}:∀{m e:List Int},(upsN ns a m e).length≤e.length+m.length*(ns.length*ns.length)
 | [],e=>by simp[upsN]
 |x::r,e=>by
  have h1:=upN_len T (s:=x) (a:=a) (e:=e)
  have h2:=ups_len T (a:=a) (m:=r) (e:=upN ns x a e)
  show(upsN ns a r (upN ns x a e)).length≤_
  rw[List.length_cons,Nat.succ_mul];omega
theorem dns_len{ns:List Nd}(T:Tree ns):∀{m e:List Int},(∀x∈m,∃(k:Nat) (n:Nd),x=k∧ns[k]? =some n)→(dnsN ns m e).length≤e.length+m.length*ns.length
 | [],e,_=>by simp[dnsN]
 |x::r,e,h=>by
  obtain⟨k,n,rfl,hn⟩:=h x List.mem_cons_self
  have h1:=dnN_le T (e:=e) hn
  have h2:=dns_len T (m:=r) (e:=dnN ns k e) fun y hy=>h y (List.mem_cons_of_mem _ hy)
  show(dnsN ns r (dnN ns k e)).length≤_
  rw[List.length_cons,Nat.succ_mul];omega
theorem InP.nd{ns:List Nd}{p:Nat}{q:Nd}{x:Int}(h:InP ns p q x):∃(k:Nat) (n:Nd),x=k∧ns[k]? =some n:=by
 obtain⟨k,m,e,h1,_⟩:=h;exact⟨k,m,e,h1⟩
theorem dns_le{ns:List Nd}(T:Tree ns)(hl:ns.length≤10){m e:List Int}(hm:m.length≤10)(h:∀x∈m,∃(k:Nat) (n:Nd),x=k∧ns[k]? =some n):(dnsN ns m e).length≤e.length+100:=by
 have h1:=dns_len T (e:=e) h
 have h2:m.length*ns.length≤10*10:=Nat.mul_le_mul hm hl
 omega
theorem ups_le{ns:List Nd}(T:Tree ns)(hl:ns.length≤10){a:Int}{m e:List Int}(hm:m.length≤10):(upsN ns a m e).length≤e.length+1000:=by
 have h1:=ups_len T (a:=a) (m:=m) (e:=e)
 have h2:ns.length*ns.length≤10*10:=Nat.mul_le_mul hl hl
 have h3:m.length*(ns.length*ns.length)≤10*(10*10):=Nat.mul_le_mul hm h2
 omega
theorem means_one{ns:List Nd}{H:List (List Int)}{s:Nat}{n:Nd}(h:n.kind≤3):meansN ns H s n=[(s:Int)]:=by unfold meansN;rw[if_pos h]
theorem ent_le{ns:List Nd}(T:Tree ns)(hl:ns.length≤10){H:List (List Int)}(hH:HistW ns H){s:Nat}{n:Nd}{e:List Int}(hs:ns[s]? =some n):(entN ns H s n e).length≤e.length+1100:=by
 unfold entN
 split
 ·have:=dnN_le T (e:=e) hs;omega
 ·obtain⟨p,q,_,_,_,_,_,h6,h7⟩:=means_in T hH hs (by omega)
  have h1:=dns_le T hl (e:=e) (Nat.le_trans h7 hl) (fun x hx=>(h6 x hx).nd)
  have h2:=ups_le T hl (a:=n.parent) (m:=meansN ns H s n) (e:=dnsN ns (meansN ns H s n) e) (Nat.le_trans h7 hl)
  omega
theorem means_nd{ns:List Nd}(T:Tree ns){H:List (List Int)}(hH:HistW ns H){s:Nat}{n:Nd}(hs:ns[s]? =some n):(∀x∈meansN ns H s n,∃(k:Nat) (n:Nd),x=k∧ns[k]? =some n)∧(meansN ns H s n).length≤ns.length:=by
 by_cases h:n.kind≤3
 ·rw[means_one h]
  refine⟨fun x hx=>⟨s,n,List.mem_singleton.1 hx,hs⟩,?_⟩
  have:=T.pos;simp;omega
 ·obtain⟨p,q,_,_,_,_,_,h6,h7⟩:=means_in T hH hs (by omega)
  exact⟨fun x hx=>(h6 x hx).nd,h7⟩
theorem way_le{ns:List Nd}(T:Tree ns)(hl:ns.length≤10){H:List (List Int)}(hH:HistW ns H){w:Int×Int}{e:List Int}:(wayN ns H e w).length≤e.length+2100:=by
 unfold wayN
 split
 ·split
  ·rename_i n hn
   obtain⟨h1,h2⟩:=means_nd T hH hn
   have h3:=ent_le T hl hH (e:=e) hn
   have h4:=ups_le T hl (a:=w.2) (m:=meansN ns H w.1.toNat n) (e:=entN ns H w.1.toNat n e) (Nat.le_trans h2 hl)
   omega
  ·omega
 ·omega
theorem regF_mem{ns:List Nd}{dn:Int→List Int→List Int}{P:Int→Prop}:∀{l e:List Int},(∀k∈l,∀e,∀x∈dn k e,x∈e∨P x)→∀x∈regF ns dn l e,x∈e∨P x
 | [],e,_,x,hx=>.inl hx
 |k::r,e,h,x,hx=>by
  rw[regF]at hx
  rcases regF_mem (fun j hj=>h j (List.mem_cons_of_mem _ hj)) x hx with hx|hx
  ·split at hx
   ·exact .inl hx
   ·exact h k List.mem_cons_self e x hx
  ·exact .inr hx
theorem dnN_mem{ns:List Nd}(T:Tree ns):∀(f:Nat) (a:Nat) (n:Nd) (e:List Int),ns[a]? =some n→n.last-a<f→∀x∈dnN ns a e,x∈e∨((a:Int)≤x∧x≤n.last)
 |0,a,n,e,h,h1,x,hx=>by have:=T.seg.last a n h;omega
 |f+1,a,n,e,h,h1,x,hx=>by
  have hl:=T.seg.last a n h
  rw[dnN_at T h]at hx
  have app:x∈e++[(a:Int)]→x∈e∨((a:Int)≤x∧x≤n.last):=fun hx=>by
   rcases List.mem_append.1 hx with hx|hx
   ·exact .inl hx
   ·rw[List.mem_singleton]at hx;right;omega
  split at hx
  ·rename_i hk
   obtain⟨i1,m,m1,m2,m3,m4⟩:=init_at T h hk
   rw[i1]at hx
   rcases dnN_mem T f (a+1) m _ m1 (by omega) x hx with hx|hx
   ·exact app hx
   ·right;omega
  ·split at hx
   ·rcases regF_mem (P:=fun x=>(a:Int)≤x∧x≤n.last) (fun k hk e x hx=>by
     obtain⟨q,m,rfl,m1,m2,m3⟩:=(mem_statesN (Tree.lt h)).1 hk
     have:=kid_in T h m1 m2
     rcases dnN_mem T f q m e m1 (by omega) x hx with hx|hx
     ·exact .inl hx
     ·right;omega) x hx with hx|hx
    ·exact app hx
    ·exact .inr hx
   ·exact app hx
theorem reg_mem{ns:List Nd}(T:Tree ns){a:Nat}{n:Nd}{e:List Int}(ha:ns[a]? =some n):∀x∈regF ns (dnN ns) (statesN ns a) e,x∈e∨((a:Int)<x∧x≤n.last):=
 regF_mem fun k hk e x hx=>by
  obtain⟨q,m,rfl,m1,m2,m3⟩:=(mem_statesN (Tree.lt ha)).1 hk
  have:=kid_in T ha m1 m2
  rcases dnN_mem T (m.last-q+1).toNat q m e m1 (by have:=T.seg.last q m m1;omega) x hx with hx|hx
  ·exact .inl hx
  ·right;omega
theorem upF_mem{ns:List Nd}(T:Tree ns){a:Int}:∀{f:Nat} {k:Int} {e:List Int},∀x∈upF ns a f k e,x∈e∨(a<x∧x<ns.length)
 |0,k,e,x,hx=>.inl hx
 |f+1,k,e,x,hx=>by
  by_cases h:0≤k∧k≠a∧inN ns k a=true
  ·have hr:=inN_rng h.2.2
   obtain⟨n,hn⟩:∃n,ns[k.toNat]? =some n:=⟨_,List.getElem?_eq_getElem (by omega)⟩
   have ek:k=((k.toNat:Nat):Int):=by omega
   have h2:=h.2
   rw[ek]at h2
   rw[ek,upF_at hn h2]at hx
   have hl:=T.seg.last _ n hn
   rcases upF_mem T x hx with hx|hx
   ·have app:x∈e++[((k.toNat:Nat):Int)]→x∈e∨(a<x∧x<ns.length):=fun hx=>by
     rcases List.mem_append.1 hx with hx|hx
     ·exact .inl hx
     ·rw[List.mem_singleton]at hx;right;omega
    split at hx
    ·rcases reg_mem T hn x hx with hx|hx
     ·exact app hx
     ·right;omega
    ·exact app hx
   ·exact .inr hx
  ·rw[upF_no h]at hx;exact .inl hx
theorem upN_mem{ns:List Nd}(T:Tree ns){s a:Int}{e:List Int}:∀x∈upN ns s a e,x∈e∨(a<x∧x<ns.length):=fun x hx=>by
 unfold upN at hx
 split at hx
 ·exact upF_mem T x hx
 ·exact .inl hx
def RngL(ns:List Nd)(e:List Int):Prop:=∀x∈e,0≤x∧x<ns.length
theorem ups_rng{ns:List Nd}(T:Tree ns){a:Int}(h0: -1≤a):∀{m e:List Int},RngL ns e→RngL ns (upsN ns a m e)
 | [],e,h=>h
 |x::r,e,h=>by
  show RngL ns (upsN ns a r (upN ns x a e))
  refine ups_rng T h0 fun y hy=> ?_
  rcases upN_mem T y hy with hy|hy
  ·exact h y hy
  ·omega
theorem dns_rng{ns:List Nd}(T:Tree ns):∀{m e:List Int},(∀x∈m,∃(k:Nat) (n:Nd),x=k∧ns[k]? =some n)→RngL ns e→RngL ns (dnsN ns m e)
 | [],e,_,h=>h
 |x::r,e,hm,h=>by
  obtain⟨k,n,rfl,hn⟩:=hm x List.mem_cons_self
  have hl:=T.seg.last k n hn
  refine dns_rng T (m:=r) (e:=dnN ns k e) (fun y hy=>hm y (List.mem_cons_of_mem _ hy)) fun y hy=> ?_
  rcases dnN_mem T (n.last-k+1).toNat k n e hn (by omega) y hy with hy|hy
  ·exact h y hy
  ·omega
theorem ent_rng{ns:List Nd}(T:Tree ns){H:List (List Int)}(hH:HistW ns H){s:Nat}{n:Nd}{e:List Int}(hs:ns[s]? =some n)(h:RngL ns e):RngL ns (entN ns H s n e):=by
 unfold entN
 split
 ·have hl:=T.seg.last s n hs
  intro y hy
  rcases dnN_mem T (n.last-s+1).toNat s n e hs (by omega) y hy with hy|hy
  ·exact h y hy
  ·omega
 ·obtain⟨p,q,e1,_⟩:=means_in T hH hs (by omega)
  exact ups_rng T (by omega) (dns_rng T (means_nd T hH hs).1 h)
theorem way_rng{ns:List Nd}(T:Tree ns){H:List (List Int)}(hH:HistW ns H){w:Int×Int}{e:List Int}(h:RngL ns e):RngL ns (wayN ns H e w):=by
 unfold wayN
 split
 ·rename_i hw
  split
  ·rename_i n hn
   have h2:=hw.2
   unfold isN at h2
   rw[decide_eq_true_eq]at h2
   exact ups_rng T (by omega) (ent_rng T hH hn h)
  ·exact h
 ·exact h
theorem enter_rng{ns:List Nd}(T:Tree ns){H:List (List Int)}(hH:HistW ns H):∀{ws:List (Int×Int)} {e:List Int},RngL ns e→RngL ns (ws.foldl (wayN ns H) e)
 | [],e,h=>h
 |w::r,e,h=>enter_rng T hH (ws:=r) (way_rng T hH h)
end Go.VM
namespace Go.Proofs.Ytokgijpdehjckaa.Vm
section
variable {R : Type} {G : ORC R} {k : Nat} {K : LV → OV R}
def CIsOK(G:ORC R):Prop:=∀(l:LV) (i:Int) (K:LV→OV R),W (fun o=>o=[.bool (decide (0≤i∧i<l.length))]) K (G 40 [.sl 7 l,.int .i64 i] K)
theorem cis_ok:CIsOK (fun _ args (K:LV→OV R)=>g40 G k args K):=by
 intro l i K
 show W _ K (f40 G k l i K)
 unfold f40
 refine W_dec (fun h=> ?_) (fun h=> ?_)
 ·exact W_ret (by congr 3;simp;omega)
 ·exact W_ret (by congr 2;symm;rw[decide_eq_false];omega)
def CInOK(G:ORC R):Prop:=∀(l:List Nd) (a b:Int) (K:LV→OV R),W (fun o=>o=[.bool (inN l a b)]) K (G 64 [.sl 7 (l.map Nd.v),.int .i64 a,.int .i64 b] K)
theorem cin_ok(hI:CIsOK G):CInOK (fun _ args (K:LV→OV R)=>g64 G k args K):=by
 intro l a b K
 show W _ K (f64 G k (l.map Nd.v) a b K)
 unfold f64
 unfold CIsOK at hI
 have no:¬(0≤a∧a<l.length∧0≤b∧b<l.length∧a≥b)→inN l a b=false:=fun h=>by unfold inN;rw[decide_eq_false h];rfl
 refine W_call (hI _ _ _) ?_
 rintro _ rfl
 (repeat(with_reducible apply U1))
 simp only[List.length_map]
 refine W_dec (fun h1=> ?_) (fun h1=>W_ret (by rw[no (by omega)]))
 refine W_call (hI _ _ _) ?_
 rintro _ rfl
 (repeat(with_reducible apply U1))
 simp only[List.length_map]
 refine W_dec (fun h2=> ?_) (fun h2=>W_ret (by rw[no (by omega)]))
 refine W_dec (fun h3=> ?_) (fun h3=>W_ret (by rw[no (by omega)]))
 refine W_and (W_yes h2.1 (W_yes h2.2 ?_))
 refine W_nthN (by omega) (fun n hn=>W_nd ?_)
 (repeat(with_reducible apply U1))
 have e:inN l a b=decide (a≤n.last):=by
  unfold inN
  rw[decide_eq_true (show 0≤a∧a<l.length∧0≤b∧b<l.length∧a≥b from⟨h1.1,h1.2,h2.1,h2.2,h3⟩),hn];rfl
 exact W_ret (by rw[e])
end
section
variable {R : Type} {G : ORC R} {k : Nat} {K : LV → OV R}
def insN(l:List Nd)(a b:Int):Bool:=decide (a≠b)&&inN l a b
def InsOK(G:ORC R):Prop:=∀(l:List Nd) (a b:Int) (K:LV→OV R),W (fun o=>o=[.bool (insN l a b)]) K (G 46 [.sl 7 (l.map Nd.v),.int .i64 a,.int .i64 b] K)
theorem ins_ok(hI:CInOK G):InsOK (fun _ args (K:LV→OV R)=>g46 G k args K):=by
 intro l a b K
 show W _ K (f46 G k (l.map Nd.v) a b K)
 unfold f46
 unfold CInOK at hI
 by_cases h:a=b
 ·exact W_chk' (by simp[h]) (W_ret (by unfold insN;simp[h]))
 ·refine W_chk (by simp[h]) ?_
  refine W_call (hI _ _ _ _) ?_
  rintro _ rfl
  (repeat(with_reducible apply U1))
  exact W_ret (by unfold insN;simp[h])
def ChN(ns:List Nd):Prop:=∃states,ns=ndsOf states∧(∀s∈states,StateS 2 3 s∧kindV s≤2)∧states≠[]∧nszL 3 states≤9∧NmI (nmVL 3 states)
theorem ChN.len{ns:List Nd}(h:ChN ns):ns.length≤10:=by
 obtain⟨states,rfl,_,_,h,_⟩:=h
 unfold ndsOf;rw[List.length_cons,forest_len];omega
theorem ChN.tree{ns:List Nd}(h:ChN ns):Tree ns:=by
 obtain⟨states,rfl,h1,h2,_⟩:=h
 exact tree_nds h1 h2
theorem dom_of{ns:List Nd}{a b:Int}(h:0≤domN ns a b):∃(i:Nat) (n:Nd),domN ns a b=i∧ns[i]? =some n∧n.kind=2∧(i:Int)<a∧(i:Int)<b∧inN ns a i=true∧inN ns b i=true:=by
 rcases domGo_at (l:=ns) (a:=a) (b:=b) (i:=ns.length)with e|⟨i,h1,h2,h3⟩
 ·have:domN ns a b= -1:=e
  omega
 ·obtain⟨n,hn⟩:∃n,ns[i]? =some n:=⟨_,List.getElem?_eq_getElem h1⟩
  unfold domAt at h3
  rw[hn]at h3
  simp only[Bool.and_eq_true,decide_eq_true_eq]at h3
  obtain⟨⟨⟨⟨k1,k2⟩,k3⟩,k4⟩,k5⟩:=h3
  have k4':=k4;have k5':=k5
  unfold inN at k4' k5'
  simp only[Bool.and_eq_true,decide_eq_true_eq]at k4' k5'
  exact⟨i,n,h2,hn,k1,by omega,by omega,k4,k5⟩
def NdsOK(G:ORC R):Prop:=∀(v:LV) (K:LV→OV R),IntsS v→v.length≤200→W (fun o=>∃ns,o=[.sl 7 (ns.map Nd.v)]∧ChN ns) K (G 7 [.sl 1 v] K)
theorem nds_ok(hC:ChartOK G)(hN:NodesOK G):NdsOK (fun _ args (K:LV→OV R)=>g7 G k args K):=by
 intro v K h1 h2
 show W _ K (f7 G k v K)
 unfold f7
 unfold ChartOK at hC;unfold NodesOK at hN
 refine W_call (hC _ _ v 0 _ (by unfold StrS;decide) (by omega) (by omega) ⟨h1,by omega,by omega,by omega⟩) ?_
 rintro _ ⟨c,j,rfl,hc,hj⟩
 obtain⟨nm,st,fu,vars,ports,timers,states,rfl,x1,x2,x3,x4,x5,x6,x7,x8,x9,x10,x11,x12,x13⟩:=hc
 (repeat(with_reducible apply U1))
 refine W_call (hN _ _ _ _ _ _ _ _ _ x11 (by omega)) ?_
 rintro _ rfl
 (repeat(with_reducible apply U1))
 exact W_ret ⟨_,rfl,states,rfl,x11,x10,x12,x13⟩
def KnLOK(G:ORC R):Prop:=∀K:LV→OV R,G 6 [] K=K [.bool true]
theorem knl_go(hKn:KnLOK G):W (fun o=>o=[.bool true]) K (G 6 [] fun o=>uB o fun b r=>unNil r (K [.bool b])):=by
 rw[hKn];exact W_uB (W_unNil (W_ret rfl))
end
section
variable {R : Type} {G : ORC R} {k : Nat} {K : LV → OV R}
theorem asc_len{l:List Int}{m:Nat}(h:Asc l)(h0:∀x∈l,0≤x∧x<m):l.length≤m:=by
 rw[←ofGo_self h h0];exact ofGo_len
theorem asc_lt{l:List Int}(h:Asc l){m:Nat}{x:Int}(hx:l[m]? =some x):∀y∈l.take m,y<x:=by
 intro y hy
 obtain⟨i,hi,e⟩:=List.mem_iff_getElem.1 hy
 rw[List.length_take]at hi
 rw[List.getElem_take]at e
 obtain⟨hm,e2⟩:=List.getElem?_eq_some_iff.1 hx
 have:=List.pairwise_iff_getElem.1 h i m (by omega) hm (by omega)
 rw[e,e2]at this;exact this
def SomeOK(d:Nat)(G:ORC R):Prop:=∀(ns:List Nd) (a:Nat) (n:Nd) (b:LV) (i:Int) (K:LV→OV R),Tree ns→ns.length≤100→ns[a]? =some n→n.kind≤3→n.last-a<d→RowS b i→
 W (fun o=>∃C j,o=[.sl 1 (ivs C),.int .i64 j]∧Sub ns a n C∧RowS b j) K (G 8 [.sl 7 (ns.map Nd.v),.int .i64 a,.sl 1 b,.int .i64 i] K)
theorem some_loop{d:Nat}(hS:SomeOK d G){Q:LV→Prop}{K:LV→OV R}{Ko:LV→LV→Int→OV R}{ns:List Nd}{a:Nat}{n:Nd}{b:LV}(T:Tree ns)(hl:ns.length≤100)(ha:ns[a]? =some n)(hd:n.last-a<(d+1:Nat))
 (hKo:∀D j,Par ns a (statesN ns a) D→RowS b j→W Q K (Ko (ivs D) b j)):
 ∀(j m:Nat) (D:List Int) (i:Int),(statesN ns a).length-m<j→m≤(statesN ns a).length→Par ns a ((statesN ns a).take m) D→RowS b i→W Q K (l8_1g G k Ko j (ns.map Nd.v) (ivs D) (ivs (statesN ns a)) m b i)
 |0,m,D,i,h1,h2,h3,h4=>by omega
 |j+1,m,D,i,h1,h2,h3,h4=>by
  show W Q K (b8_1 G k (l8_1g G k Ko j) Ko (ns.map Nd.v) (ivs D) (ivs (statesN ns a)) m b i)
  unfold b8_1
  have hsl:(statesN ns a).length≤ns.length:=statesN_len
  refine W_dec (fun h=> ?_) (fun h=>by rw[ivs_len]at h;rw[List.take_of_length_le (by omega)]at h3;exact hKo D i h3 h4)
  rw[ivs_len]at h
  obtain⟨x,hx⟩:=get_ex (l:=statesN ns a) (m:=m) (by omega)
  obtain⟨q,m2,rfl,g1,g2,g3⟩:=(mem_statesN (Tree.lt ha)).1 (List.mem_of_getElem? hx)
  have hki:=kid_in T ha g1 g2
  refine W_at (by omega) (ivs_atZ hx) (W_aI ?_)
  have hS':=hS
  unfold SomeOK at hS'
  refine W_call (hS' ns q m2 b i _ T hl g1 g3 (by omega) h4) ?_
  rintro _ ⟨C,j2,rfl,hC,hj2⟩
  (repeat(with_reducible apply U1))
  have hal:=T.seg.last a n ha
  have hql:=T.seg.last q m2 g1
  have l1:D.length≤ns.length:=asc_len h3.asc fun x hx=>by have:=par_rng T ha h3 x hx;omega
  have l2:C.length≤ns.length:=asc_len hC.asc fun x hx=>by have:=hC.rng x hx;omega
  refine W_yes (by rw[ivs_len,ivs_len];omega) ?_
  rw[wrap_id (n:=(m:Int)+1) (by omega),←ivs_app]
  refine some_loop hS T hl ha hd hKo j (m+1) (D++C) j2 (by omega) (by omega) ?_ hj2
  rw[take_snoc hx]
  exact par_snoc T g1 g2 (asc_lt statesN_asc hx) h3 hC
theorem some_ok{d:Nat}(hk:10000≤k)(hSt:StatesOK G)(hN:NextS G)(hS:∀d',d=d'+1→SomeOK d' G):SomeOK d (fun _ args (K:LV→OV R)=>g8 G k args K):=by
 intro ns a n b i K T hl ha hk3 hd hr
 show W _ K (f8 G k (ns.map Nd.v) a b i K)
 have hal:=T.seg.last a n ha
 cases d with
 |zero=>omega
 |succ d=>
 have hS:=hS d rfl
 unfold f8
 unfold StatesOK at hSt;unfold NextS at hN
 have hkinds:=T.seg.kinds a n ha
 have hla:=Tree.lt ha
 refine W_call (hSt _ _ _ (by omega)) ?_
 rintro _ rfl
 (repeat(with_reducible apply U1))
 refine W_at (by omega) (by rw[Int.toNat_natCast];exact nd_get ha) (W_nd7 (W_aI ?_))
 refine W_beqI (fun h2=> ?_) (fun h2=> ?_)
 ·obtain⟨m,m1,m2,m3⟩:=T.seg.first a n ha (.inl h2)
  have hne:0<(statesN ns a).length:=List.length_pos_of_mem ((mem_statesN hla).2 ⟨a+1,m,rfl,m1,by omega,m3⟩)
  have hsl:(statesN ns a).length≤ns.length:=statesN_len
  refine W_call (hN _ _ _ _ (by rw[ivs_len];omega) (by rw[ivs_len];omega) hr) ?_
  rintro _ ⟨x,j,rfl,x0,x1,hj⟩
  (repeat(with_reducible apply U1))
  rw[ivs_len]at x1
  obtain⟨y,hy⟩:=get_ex (l:=statesN ns a) (m:=x.toNat) (by omega)
  obtain⟨q,m2,rfl,g1,g2,g3⟩:=(mem_statesN hla).1 (List.mem_of_getElem? hy)
  have hki:=kid_in T ha g1 g2
  refine W_at x0 (ivs_at hy) (W_aI ?_)
  have hS':=hS
  unfold SomeOK at hS'
  refine W_call (hS' ns q m2 b j _ T hl g1 g3 (by omega) hj) ?_
  rintro _ ⟨C,j2,rfl,hC,hj2⟩
  (repeat(with_reducible apply U1))
  have hql:=T.seg.last q m2 g1
  have l2:C.length≤ns.length:=asc_len hC.asc fun x hx=>by have:=hC.rng x hx;omega
  refine W_yes (by rw[ivs_len];omega) (W_ret ⟨(a:Int)::C,j2,rfl,sub_comp T ha h2 g1 g2 g3 hC,hj2⟩)
 ·refine W_beqI (fun h4=> ?_) (fun h4=>W_ret ⟨[(a:Int)],i,rfl,sub_atom T ha (by omega),hr⟩)
  have hsl:(statesN ns a).length≤ns.length:=statesN_len
  unfold l8_1
  exact some_loop (Ko:=fun x y z=>K [.sl 1 x,.int .i64 z]) hS T hl ha hd (fun D j hD hj=>W_ret ⟨D,j,rfl,sub_par T ha h4 hD,hj⟩) k 0 [(a:Int)] i (by omega) (by omega) par_nil hr
end
section
variable {R : Type} {G : ORC R} {k : Nat} {K : LV → OV R} {Q : LV → Prop}
theorem ivs_plains{l:List Int}:flats (ivs l)=true:=by
 unfold flats ivs
 rw[List.all_eq_true]
 intro v hv
 obtain⟨n,_,rfl⟩:=List.mem_map.1 hv
 rfl
def rws(l:List (List Int)):LV:=l.map fun r=>.sl 1 (ivs r)
theorem rws_len{l:List (List Int)}:(rws l).length=l.length:=by simp[rws]
theorem rws_at{l:List (List Int)}{i:Nat}{r:List Int}(h:l[i]? =some r):(rws l)[i]? =some (.sl 1 (ivs r)):=by unfold rws;rw[List.getElem?_map,h];rfl
def LisX(G:ORC R):Prop:=∀(l:LV) (i:Int) (K:LV→OV R),W (fun o=>o=[.bool (decide (0≤i∧i<l.length))]) K (G 31 [.sl 7 l,.int .i64 i] K)
theorem lis_ok:LisX (fun _ args (K:LV→OV R)=>g31 G k args K):=by
 intro l i K
 show W _ K (f31 G k l i K)
 unfold f31
 refine W_dec (fun h=>W_ret ?_) (fun h=>W_ret ?_)
 ·simp[h]
 ·rw[decide_eq_false (by omega)]
def keepC(ns:List Nd)(h:Nd)(c:Int):Bool:=match ns[c.toNat]? with
 |some m=>(decide (h.kind=4)&&decide (m.parent=h.parent))||(decide (h.kind=5)&&decide (m.kind=1)&&decide (c≠h.parent)&&inN ns c h.parent)
 |none=>false
def remR(ns:List Nd)(C E:List Int)(H:List (List Int))(i:Nat):List Int:=match ns[i]? with
 |some h=>if h.kind≤3 then[]else if h.parent∈E then C.filter (keepC ns h)else(H[i]?).getD []
 |none=>[]
def remN(ns:List Nd)(C E:List Int)(H:List (List Int)):List (List Int):=(List.range ns.length).map (remR ns C E H)
def mids(ns:List Nd)(C E:List Int)(H:List (List Int))(i:Nat)(r:List Int):LV:=rws ((List.range i).map (remR ns C E H))++ .sl 1 (ivs r)::List.replicate (ns.length-i-1) (.sl 1 [])
def pres(ns:List Nd)(C E:List Int)(H:List (List Int))(i:Nat):LV:=rws ((List.range i).map (remR ns C E H))++List.replicate (ns.length-i) (.sl 1 [])
theorem pres_mid{ns C E H}{i:Nat}(h:i<ns.length):pres ns C E H i=mids ns C E H i []:=by
 unfold pres mids
 rw[show ns.length-i=(ns.length-i-1)+1 by omega,List.replicate_succ];rfl
theorem mids_pres{ns C E H}{i:Nat}(h:i<ns.length):mids ns C E H i (remR ns C E H i)=pres ns C E H (i+1):=by
 unfold pres mids
 rw[List.range_succ,List.map_append]
 unfold rws
 rw[List.map_append,List.append_assoc,show ns.length-i-1=ns.length-(i+1)by omega];rfl
theorem pre_len{ns C E H}{i:Nat}:(rws ((List.range i).map (remR ns C E H))).length=i:=by rw[rws_len];simp
theorem mids_get{ns C E H}{i:Nat}{r}:(mids ns C E H i r)[((i:Nat):Int).toNat]? =some (.sl 1 (ivs r)):=by
 unfold mids;rw[Int.toNat_natCast,List.getElem?_append_right (by rw[pre_len];omega),pre_len];simp
theorem mids_set{ns C E H}{i:Nat}{r r'}:(mids ns C E H i r).set ((i:Nat):Int).toNat (.sl 1 (ivs r'))=mids ns C E H i r':=by
 unfold mids;rw[Int.toNat_natCast,List.set_append_right _ _ (by rw[pre_len];omega),pre_len];simp
theorem mids_set2{ns C E H}{i:Nat}{r r'}{v:V}:((mids ns C E H i r).set ((i:Nat):Int).toNat v).set ((i:Nat):Int).toNat (.sl 1 (ivs r'))=mids ns C E H i r':=by
 rw[List.set_set];exact mids_set
theorem mids_getU{ns C E H}{i:Nat}{r}{v:V}:((mids ns C E H i r).set ((i:Nat):Int).toNat v)[((i:Nat):Int).toNat]? =some v:=by
 unfold mids;rw[Int.toNat_natCast,List.set_append_right _ _ (by rw[pre_len];omega),pre_len,List.getElem?_append_right (by rw[pre_len];omega),pre_len];simp
theorem pres0{ns C E H}:pres ns C E H 0=List.replicate ns.length (.sl 1 []):=rfl
theorem presN{ns C E H}:pres ns C E H ns.length=rws (remN ns C E H):=by
 unfold pres remN;simp
end
section
variable {R : Type} {G : ORC R} {k : Nat} {K : LV → OV R}
def OfOK(G:ORC R):Prop:=∀(l:List Int) (K:LV→OV R),l.length≤9000→W (fun o=>o=[.sl 1 (ivs (ofL l))]) K (G 39 [.sl 1 (ivs l)] K)
theorem of_loop(hH:HasOK G){Q:LV→Prop}{K:LV→OV R}{Ko:LV→OV R}{l:List Int}(hl:l.length≤9000)(hKo:W Q K (Ko (ivs (ofL l)))):
 ∀(j m:Nat),128-m<j→m≤128→W Q K (l39_0g G k Ko j (ivs l) (ivs (ofGo l m)) m)
 |0,m,h1,h2=>by omega
 |j+1,m,h1,h2=>by
  show W Q K (b39_0 G k (l39_0g G k Ko j) Ko (ivs l) (ivs (ofGo l m)) m)
  unfold b39_0
  refine W_dec (fun h=> ?_) (fun h=>by rw[show m=128 by omega];exact hKo)
  unfold HasOK at hH
  refine W_call (hH _ _ _ hl) ?_
  rintro _ rfl
  (repeat(with_reducible apply U1))
  have hgl:=ofGo_len (l:=l) (m:=m)
  have next:∀a,a=ivs (ofGo l (m+1))→W Q K (l39_0g G k Ko j (ivs l) a (IntKind.i64.wrap ((m:Int)+1))):=fun a ha=>by
   rw[wrap_id (n:=(m:Int)+1) (by omega),ha]
   exact of_loop hH hl hKo j (m+1) (by omega) (by omega)
  refine W_bool (fun hb=>W_yes (by rw[ivs_len];omega) (next _ (by rw[ofGo,hb];simp[ivs]))) (fun hb=>next _ (by rw[ofGo,hb];simp))
theorem of_ok(hk:10000≤k)(hH:HasOK G):OfOK (fun _ args (K:LV→OV R)=>g39 G k args K):=by
 intro l K hl
 show W _ K (f39 G k (ivs l) K)
 unfold f39 l39_0
 exact of_loop (Q:=fun o=>o=[.sl 1 (ivs (ofL l))]) (K:=K) (Ko:=fun x=>K [.sl 1 x]) hH hl (W_ret rfl) k 0 (by omega) (by omega)
end
section
variable {R : Type} {G : ORC R} {k : Nat} {K : LV → OV R} {Q : LV → Prop}
theorem nd_atZ{ns:List Nd}{i:Nat}{n:Nd}(h:ns[i]? =some n):(ns.map Nd.v)[((i:Nat):Int).toNat]? =some n.v:=by rw[Int.toNat_natCast];exact nd_get h
theorem drop_at{α:Type}{l:List α}{m:Nat}{x:α}(h:l[m]? =some x):l.drop m=x::l.drop (m+1):=by
 obtain⟨hm,e1⟩:=List.getElem?_eq_some_iff.1 h
 rw[List.drop_eq_getElem_cons hm,e1]
def MeansOK(G:ORC R):Prop:=∀(ns:List Nd) (s:Nat) (n:Nd) (H:List (List Int)) (e:List Int) (K:LV→OV R),Tree ns→ns.length≤1000→ns[s]? =some n→HistW ns H→
 W (fun o=>o=[.sl 1 (ivs (meansN ns H s n)),.sl 1 (ivs e)]) K (G 37 [.int .i64 s,.sl 7 (ns.map Nd.v),.sl 1 (rws H),.sl 1 (ivs e)] K)
theorem means_ok(hIs:IsStOK G)(hS:StatesOK G):MeansOK (fun _ args (K:LV→OV R)=>g37 G k args K):=by
 intro ns s n H e K T hl hs hH
 show W _ K (f37 G k s (ns.map Nd.v) (rws H) (ivs e) K)
 unfold f37
 unfold IsStOK at hIs;unfold StatesOK at hS
 refine W_at (by omega) (nd_atZ hs) (W_nd ?_)
 (repeat(with_reducible apply U1))
 refine W_call (hIs n _) ?_
 rintro _ rfl
 (repeat(with_reducible apply U1))
 refine W_dec (fun h3=>by rw[means_one h3];exact W_ret rfl) (fun h3=> ?_)
 obtain⟨p,q,e1,e2,e3,e4,e5,_⟩:=means_in T hH hs (by omega)
 have hpt:(ns.map Nd.v)[n.parent.toNat]? =some q.v:=by rw[e1];exact nd_atZ e2
 have hpt2:ns[n.parent.toNat]? =some q:=by rw[e1,Int.toNat_natCast];exact e2
 rw[rws_len]
 refine W_dec (fun hsl=> ?_) (fun hsl=> ?_)
 ·obtain⟨r,hr⟩:∃r,H[s]? =some r:=⟨_,List.getElem?_eq_getElem (by omega)⟩
  have hrz:(rws H)[((s:Nat):Int).toNat]? =some (.sl 1 (ivs r)):=by rw[Int.toNat_natCast];exact rws_at hr
  have W_atr:∀{F:V→OV R} {E:OV R},W (fun o=>o=[V.sl 1 (ivs (meansN ns H s n)),.sl 1 (ivs e)]) K (F (.sl 1 (ivs r)))→W (fun o=>o=[V.sl 1 (ivs (meansN ns H s n)),.sl 1 (ivs e)]) K (bif(decide (0≤((s:Nat):Int))&&decide (((s:Nat):Int)<((H.length:Nat):Int)))then nthK (rws H) ((s:Nat):Int).toNat F else E):=fun{F E} h=>by
   have:=W_at (E:=E) (show(0:Int)≤((s:Nat):Int)by omega) hrz h
   rw[rws_len]at this;exact this
  refine W_atr ?_
  (repeat(with_reducible apply U1))
  refine W_dec (fun hp=> ?_) (fun hp=> ?_)
  ·refine W_atr ?_
   (repeat(with_reducible apply U1))
   refine W_ret ?_
   have:meansN ns H s n=r:=by
    unfold meansN
    rw[if_neg h3,hr]
    cases r with
    |nil=>rw[ivs_len]at hp;simp at hp
    |cons x r=>rfl
   rw[this]
  ·have hm:meansN ns H s n=if q.kind=2 then[q.init]else statesN ns n.parent:=by
    unfold meansN
    rw[if_neg h3,hr]
    cases r with
    |nil=>simp only[hpt2]
    |cons x r=>rw[ivs_len]at hp;simp at hp
   refine W_at (by omega) hpt (W_nd7 (W_aI ?_))
   refine W_beqI (fun hk=> ?_) (fun hk=> ?_)
   ·refine W_at (by omega) hpt (W_nd7 (W_aI ?_))
    exact W_ret (by rw[hm,if_pos hk];rfl)
   ·refine W_call (hS _ _ _ (by omega)) ?_
    rintro _ rfl
    (repeat(with_reducible apply U1))
    exact W_ret (by rw[hm,if_neg hk])
 ·have hr:H[s]? =none:=List.getElem?_eq_none (by omega)
  have hm:meansN ns H s n=if q.kind=2 then[q.init]else statesN ns n.parent:=by
   unfold meansN
   rw[if_neg h3,hr]
   simp only[hpt2]
  refine W_at (by omega) hpt (W_nd7 (W_aI ?_))
  refine W_beqI (fun hk=> ?_) (fun hk=> ?_)
  ·refine W_at (by omega) hpt (W_nd7 (W_aI ?_))
   exact W_ret (by rw[hm,if_pos hk];rfl)
  ·refine W_call (hS _ _ _ (by omega)) ?_
   rintro _ rfl
   (repeat(with_reducible apply U1))
   exact W_ret (by rw[hm,if_neg hk])
def UpOK(G:ORC R):Prop:=∀(ns:List Nd) (s:Nat) (n:Nd) (a:Int) (hv:LV) (e:List Int) (K:LV→OV R),Tree ns→ns.length≤10→ns[s]? =some n→e.length≤9500→
 W (fun o=>o=[.sl 1 (ivs (upN ns s a e))]) K (G 38 [.int .i64 s,.int .i64 a,.sl 7 (ns.map Nd.v),.sl 1 hv,.sl 1 (ivs e)] K)
theorem up_loop(hI:InOK G)(hR:RegOK 200 G){Ko:LV→LV→LV→OV R}{ns:List Nd}{a:Int}{hv:LV}{D:List Int}(T:Tree ns)(hl:ns.length≤10)(hKo:W Q K (Ko (ns.map Nd.v) hv (ivs D))):
 ∀(j f:Nat) (x:Int) (e:List Int),x<f→x+1<j→ -1≤x→x<ns.length→e.length+f*10≤9620→D=upF ns a f x e→W Q K (l38_0g G k Ko j a x (ns.map Nd.v) hv (ivs e))
 |0,f,x,e,h1,h2,h3,h4,h5,h6=>by omega
 |j+1,f,x,e,h1,h2,h3,h4,h5,h6=>by
  show W Q K (b38_0 G k (l38_0g G k Ko j) Ko a x (ns.map Nd.v) hv (ivs e))
  unfold b38_0
  have stop:¬(0≤x∧x≠a∧inN ns x a=true)→W Q K (Ko (ns.map Nd.v) hv (ivs e)):=fun h=>by
   rw[upF_no h]at h6
   rw[←h6];exact hKo
  refine W_dec (fun h=> ?_) (fun h=>stop (fun c=>h c.1))
  obtain⟨q,rfl⟩:∃q:Nat,x=q:=⟨x.toNat,by omega⟩
  obtain⟨n,hn⟩:∃n,ns[q]? =some n:=⟨_,List.getElem?_eq_getElem (by omega)⟩
  by_cases hqa:(q:Int)=a
  ·exact W_chk' (by simp[hqa]) (stop (fun c=>c.2.1 hqa))
  refine W_chk (by simp[hqa]) ?_
  have hI':=hI
  have hR':=hR
  unfold InOK at hI';unfold RegOK at hR'
  refine W_call (hI' _ _ _ _) ?_
  rintro _ rfl
  (repeat(with_reducible apply U1))
  refine W_bool (fun hb=> ?_) (fun hb=>stop (fun c=>by rw[hb]at c;cases c.2.2))
  obtain⟨f',rfl⟩:∃f',f=f'+1:=⟨f-1,by omega⟩
  rw[upF_at hn ⟨hqa,hb⟩]at h6
  have hla:=T.seg.last q n hn
  have hpar:=T.seg.par q n hn
  rw[Nat.succ_mul]at h5
  refine W_yes (by rw[ivs_len];omega) ?_
  have es:ivs e++[V.int .i64 (q:Int)]=ivs (e++[(q:Int)]):=by rw[ivs_app];rfl
  have el:(e++[(q:Int)]).length=e.length+1:=by simp
  rw[es]
  have next:∀e':List Int,e'.length≤e.length+10→D=upF ns a f' n.parent e'→W Q K (l38_0g G k Ko j a n.parent (ns.map Nd.v) hv (ivs e')):=fun e' g1 g2=>
   up_loop hI hR T hl hKo j f' n.parent e' (by omega) (by omega) (by omega) (by omega) (by omega) g2
  refine W_at (by omega) (nd_atZ hn) (W_nd7 (W_aI ?_))
  refine W_beqI (fun hk=> ?_) (fun hk=> ?_)
  ·rw[if_pos hk]at h6
   refine W_call (hR' ns q n hv _ _ T (by omega) hn (by omega) (by omega)) ?_
   rintro _ rfl
   (repeat(with_reducible apply U1))
   refine W_at (by omega) (nd_atZ hn) (W_nd7 (W_aI ?_))
   have:=reg_le T (e:=e++[(q:Int)]) hn
   exact next _ (by omega) h6
  ·rw[if_neg hk]at h6
   refine W_at (by omega) (nd_atZ hn) (W_nd7 (W_aI ?_))
   exact next _ (by omega) h6
theorem up_ok(hk:10000≤k)(hI:InOK G)(hR:RegOK 200 G):UpOK (fun _ args (K:LV→OV R)=>g38 G k args K):=by
 intro ns s n a hv e K T hl hs he
 show W _ K (f38 G k s a (ns.map Nd.v) hv (ivs e) K)
 unfold f38
 have hpar:=T.seg.par s n hs
 have hsl:=Tree.lt hs
 refine W_at (by omega) (nd_atZ hs) (W_nd7 (W_aI ?_))
 unfold l38_0
 have eD:upN ns s a e=upF ns a ns.length n.parent e:=by unfold upN;rw[Int.toNat_natCast,hs]
 exact up_loop (Q:=fun o=>o=[.sl 1 (ivs (upN ns s a e))]) (Ko:=fun _ _ y=>K [.sl 1 y]) hI hR T hl (W_ret rfl) k ns.length n.parent e (by omega) (by omega) (by omega) (by omega) (by omega) eD
def DnHOK(G:ORC R):Prop:=∀(ns:List Nd) (s:Nat) (n:Nd) (H:List (List Int)) (e:List Int) (K:LV→OV R),Tree ns→ns.length≤10→ns[s]? =some n→HistW ns H→e.length≤8300→
 W (fun o=>o=[.sl 1 (ivs (entN ns H s n e))]) K (G 36 [.int .i64 s,.sl 7 (ns.map Nd.v),.sl 1 (rws H),.sl 1 (ivs e)] K)
theorem ups_loop(hU:UpOK G){Ko:LV→LV→LV→OV R}{ns:List Nd}{s:Nat}{n:Nd}{hv:LV}{m D:List Int}(T:Tree ns)(hl:ns.length≤10)(hs:ns[s]? =some n)(hml:m.length≤10)(hm:∀x∈m,∃(q:Nat) (n:Nd),x=q∧ns[q]? =some n)(hKo:W Q K (Ko (ns.map Nd.v) hv (ivs D))):
 ∀(j i:Nat) (e:List Int),m.length-i<j→i≤m.length→e.length+(m.length-i)*100≤9500→D=upsN ns n.parent (m.drop i) e→W Q K (l36_2g G k Ko j s (ivs m) i (ns.map Nd.v) hv (ivs e))
 |0,i,e,h1,h2,h3,h4=>by omega
 |j+1,i,e,h1,h2,h3,h4=>by
  show W Q K (b36_2 G k (l36_2g G k Ko j) Ko s (ivs m) i (ns.map Nd.v) hv (ivs e))
  unfold b36_2
  refine W_dec (fun h=> ?_) (fun h=>by
   rw[ivs_len]at h
   rw[List.drop_of_length_le (by omega)]at h4
   rw[show D=e from h4]at hKo
   exact hKo)
  rw[ivs_len]at h
  obtain⟨x,hx⟩:=get_ex (l:=m) (m:=i) (by omega)
  obtain⟨q,nq,rfl,hn⟩:=hm x (List.mem_of_getElem? hx)
  rw[drop_at hx]at h4
  refine W_at (by omega) (ivs_atZ hx) (W_aI ?_)
  refine W_at (by omega) (nd_atZ hs) (W_nd7 (W_aI ?_))
  have hU':=hU
  unfold UpOK at hU'
  refine W_call (hU' ns q nq n.parent hv e _ T hl hn (by omega)) ?_
  rintro _ rfl
  (repeat(with_reducible apply U1))
  rw[wrap_id (n:=(i:Int)+1) (by omega)]
  have hle:=upN_len T (s:=q) (a:=n.parent) (e:=e)
  have h10:ns.length*ns.length≤10*10:=Nat.mul_le_mul hl hl
  exact ups_loop hU T hl hs hml hm hKo j (i+1) _ (by omega) (by omega) (by omega) h4
theorem dnh_ok(hk:10000≤k)(hIs:IsStOK G)(hD:∀d,d≤200→DnOK d G∧RegOK d G)(hM:MeansOK G)(hU:UpOK G)(hS:∀(ns:List Nd) (s:Nat) (n:Nd) (H:List (List Int)) (e:List Int) (K:LV→OV R),Tree ns→ns.length≤10→ns[s]? =some n→n.kind≤3→HistW ns H→e.length≤9000→W (fun o=>o=[.sl 1 (ivs (dnN ns s e))]) K (G 36 [.int .i64 s,.sl 7 (ns.map Nd.v),.sl 1 (rws H),.sl 1 (ivs e)] K)):
 DnHOK (fun _ args (K:LV→OV R)=>g36 G k args K):=by
 intro ns s n H e K T hl hs hH he
 have hla:=T.seg.last s n hs
 have hsl:=Tree.lt hs
 by_cases h3:n.kind≤3
 ·have ee:entN ns H s n e=dnN ns s e:=by unfold entN;rw[if_pos h3]
  rw[ee]
  exact dn_ok (d:=200) hIs (fun d' e=>hD d' (by omega)) ns s n (rws H) e K T (by omega) hs h3 (by omega) (by omega)
 ·show W _ K (f36 G k s (ns.map Nd.v) (rws H) (ivs e) K)
  unfold f36
  have ee:entN ns H s n e=upsN ns n.parent (meansN ns H s n) (dnsN ns (meansN ns H s n) e):=by unfold entN;rw[if_neg h3]
  rw[ee]
  obtain⟨p,q,e1,e2,e3,e4,e5,m1,m2⟩:=means_in T hH hs (by omega)
  unfold IsStOK at hIs;unfold MeansOK at hM
  refine W_at (by omega) (nd_atZ hs) (W_nd ?_)
  refine W_call (hIs n _) ?_
  rintro _ rfl
  (repeat(with_reducible apply U1))
  refine W_not (W_no h3 ?_)
  refine W_call (hM ns s n H e _ T (by omega) hs hH) ?_
  rintro _ rfl
  (repeat(with_reducible apply U1))
  have hd:=dns_le T hl (e:=e) (Nat.le_trans m2 hl) (fun x hx=>(m1 x hx).nd)
  unfold l36_0 l36_2
  have gd:∀(j i:Nat) (e2:List Int),(meansN ns H s n).length-i<j→i≤(meansN ns H s n).length→e2.length+((meansN ns H s n).length-i)*10≤8500→dnsN ns (meansN ns H s n) e=dnsN ns ((meansN ns H s n).drop i) e2→
   W (fun o=>o=[.sl 1 (ivs (upsN ns n.parent (meansN ns H s n) (dnsN ns (meansN ns H s n) e)))]) K (l36_0g G k (fun yi26 yl27 yl28 yl29 yl30=>l36_2g G k (fun yl51 yl52 yl53=>K [(.sl 1 yl53)]) k yi26 yl27 0 yl28 yl29 yl30) j s (ivs (meansN ns H s n)) i (ns.map Nd.v) (rws H) (ivs e2)):=by
   intro j
   induction j with
   |zero=>intro i e2 h1;omega
   |succ j ih=>
    intro i e2 h1 h2 h3 h4
    show W _ K (b36_0 G k (l36_0g G k _ j) _ s (ivs (meansN ns H s n)) i (ns.map Nd.v) (rws H) (ivs e2))
    unfold b36_0
    refine W_dec (fun h=> ?_) (fun h=> ?_)
    ·rw[ivs_len]at h
     obtain⟨x,hx⟩:=get_ex (l:=meansN ns H s n) (m:=i) (by omega)
     obtain⟨q',m',rfl,hn,hk3,_⟩:=m1 x (List.mem_of_getElem? hx)
     rw[drop_at hx]at h4
     refine W_at (by omega) (ivs_atZ hx) (W_aI ?_)
     refine W_call (hS ns q' m' H e2 _ T hl hn hk3 hH (by omega)) ?_
     rintro _ rfl
     (repeat(with_reducible apply U1))
     rw[wrap_id (n:=(i:Int)+1) (by omega)]
     have hle:=dnN_le T (e:=e2) hn
     exact ih (i+1) _ (by omega) (by omega) (by omega) h4
    ·rw[ivs_len]at h
     rw[List.drop_of_length_le (by omega)]at h4
     have h4:dnsN ns (meansN ns H s n) e=e2:=h4
     rw[h4]
     exact ups_loop (Q:=fun o=>o=[.sl 1 (ivs (upsN ns n.parent (meansN ns H s n) e2))]) (Ko:=fun _ _ y=>K [.sl 1 y]) hU T hl hs (Nat.le_trans m2 hl) (fun x hx=>(m1 x hx).nd) (W_ret rfl) k 0 e2 (by omega) (by omega) (by rw[←h4];omega) rfl
  exact gd k 0 e (by omega) (by omega) (by omega) rfl
def wysV(l:List (Int×Int)):LV:=l.map fun w=>.agg [.int .i64 w.1,.int .i64 w.2]
theorem wys_len{l:List (Int×Int)}:(wysV l).length=l.length:=by simp[wysV]
theorem wys_at{l:List (Int×Int)}{i:Nat}{w:Int×Int}(h:l[i]? =some w):(wysV l)[i]? =some (.agg [.int .i64 w.1,.int .i64 w.2]):=by unfold wysV;rw[List.getElem?_map,h];rfl
def REnterOK(G:ORC R):Prop:=∀(ns:List Nd) (ws:List (Int×Int)) (H:List (List Int)) (K:LV→OV R),Tree ns→ns.length≤10→HistW ns H→ws.length≤4→
 W (fun o=>o=[.sl 1 (ivs (ofL (enterN ns H ws)))]) K (G 14 [.sl 7 (ns.map Nd.v),.sl 2 (wysV ws),.sl 1 (rws H)] K)
theorem rent_up(hU:UpOK G){Ko:LV→LV→Int→LV→LV→LV→OV R}{ns:List Nd}{d:Int}{hv q1 q2:LV}{z t:Int}{m D:List Int}(T:Tree ns)(hl:ns.length≤10)(hml:m.length≤10)(hm:∀x∈m,∃(q:Nat) (n:Nd),x=q∧ns[q]? =some n)(hKo:W Q K (Ko q1 q2 z (ns.map Nd.v) hv (ivs D))):
 ∀(j i:Nat) (e:List Int),m.length-i<j→i≤m.length→e.length+(m.length-i)*100≤9500→D=upsN ns d (m.drop i) e→W Q K (l14_2g G k Ko j q1 q2 z (ivs m) i t d (ns.map Nd.v) hv (ivs e))
 |0,i,e,h1,h2,h3,h4=>by omega
 |j+1,i,e,h1,h2,h3,h4=>by
  show W Q K (b14_2 G k (l14_2g G k Ko j) Ko q1 q2 z (ivs m) i t d (ns.map Nd.v) hv (ivs e))
  unfold b14_2
  refine W_dec (fun h=> ?_) (fun h=>by
   rw[ivs_len]at h
   rw[List.drop_of_length_le (by omega)]at h4
   rw[show D=e from h4]at hKo
   exact hKo)
  rw[ivs_len]at h
  obtain⟨x,hx⟩:=get_ex (l:=m) (m:=i) (by omega)
  obtain⟨q,nq,rfl,hn⟩:=hm x (List.mem_of_getElem? hx)
  rw[drop_at hx]at h4
  refine W_at (by omega) (ivs_atZ hx) (W_aI ?_)
  have hU':=hU
  unfold UpOK at hU'
  refine W_call (hU' ns q nq d hv e _ T hl hn (by omega)) ?_
  rintro _ rfl
  (repeat(with_reducible apply U1))
  rw[wrap_id (n:=(i:Int)+1) (by omega)]
  have hle:=upN_len T (s:=q) (a:=d) (e:=e)
  have h10:ns.length*ns.length≤10*10:=Nat.mul_le_mul hl hl
  exact rent_up hU T hl hml hm hKo j (i+1) _ (by omega) (by omega) (by omega) h4
theorem rent_loop(hk:10000≤k)(hIs:IsOK G)(hD:DnHOK G)(hM:MeansOK G)(hU:UpOK G){Ko:LV→LV→LV→OV R}{ns:List Nd}{H:List (List Int)}{ws:List (Int×Int)}{D:List Int}(T:Tree ns)(hl:ns.length≤10)(hH:HistW ns H)(hwl:ws.length≤4)(hKo:W Q K (Ko (ns.map Nd.v) (rws H) (ivs D))):
 ∀(j i:Nat) (e:List Int),ws.length-i<j→i≤ws.length→e.length≤i*2100→D=(ws.drop i).foldl (wayN ns H) e→W Q K (l14_0g G k Ko j (ns.map Nd.v) (wysV ws) i (ns.map Nd.v) (rws H) (ivs e))
 |0,i,e,h1,h2,h3,h4=>by omega
 |j+1,i,e,h1,h2,h3,h4=>by
  show W Q K (b14_0 G k (l14_0g G k Ko j) Ko (ns.map Nd.v) (wysV ws) i (ns.map Nd.v) (rws H) (ivs e))
  unfold b14_0
  refine W_dec (fun h=> ?_) (fun h=>by
   rw[wys_len]at h
   rw[List.drop_of_length_le (by omega)]at h4
   rw[show D=e from h4]at hKo
   exact hKo)
  rw[wys_len]at h
  obtain⟨w,hw⟩:∃w,ws[i]? =some w:=⟨_,List.getElem?_eq_getElem (by omega)⟩
  rw[drop_at hw,List.foldl_cons]at h4
  have hle:=way_le T hl hH (w:=w) (e:=e)
  have next:∀e',e'=wayN ns H e w→W Q K (l14_0g G k Ko j (ns.map Nd.v) (wysV ws) (IntKind.i64.wrap ((i:Int)+1)) (ns.map Nd.v) (rws H) (ivs e')):=fun e' he=>by
   rw[wrap_id (n:=(i:Int)+1) (by omega),he]
   exact rent_loop hk hIs hD hM hU T hl hH hwl hKo j (i+1) _ (by omega) (by omega) (by rw[Nat.succ_mul];omega) h4
  have hIs':=hIs
  unfold IsOK at hIs'
  refine W_at (by omega) (by rw[Int.toNat_natCast];exact wys_at hw) ?_
  (repeat(with_reducible apply U1))
  refine W_call (hIs' _ _ _) ?_
  rintro _ rfl
  (repeat(with_reducible apply U1))
  rw[List.length_map]
  refine W_not (W_dec (fun i1=> ?_) (fun i1=>next e (by unfold wayN;rw[if_neg (fun c=>i1 (by have:=c.1;unfold isN at this;exact of_decide_eq_true this))])))
  refine W_call (hIs' _ _ _) ?_
  rintro _ rfl
  (repeat(with_reducible apply U1))
  rw[List.length_map]
  refine W_not (W_dec (fun i2=> ?_) (fun i2=>next e (by unfold wayN;rw[if_neg (fun c=>i2 (by have:=c.2;unfold isN at this;exact of_decide_eq_true this))])))
  obtain⟨t,ht⟩:∃t:Nat,w.1=t:=⟨w.1.toNat,by omega⟩
  obtain⟨n,hn⟩:∃n,ns[t]? =some n:=⟨_,List.getElem?_eq_getElem (by omega)⟩
  have ew:wayN ns H e w=upsN ns w.2 (meansN ns H t n) (entN ns H t n e):=by
   unfold wayN isN
   rw[if_pos ⟨decide_eq_true i1,decide_eq_true i2⟩,ht,Int.toNat_natCast,hn]
  have hi3:i≤3:=by omega
  have he8:e.length≤6300:=by omega
  obtain⟨n1,n2⟩:=means_nd T hH hn
  have hen:=ent_le T hl hH (e:=e) hn
  have hD':=hD
  have hM':=hM
  unfold DnHOK at hD';unfold MeansOK at hM'
  rw[ht]
  refine W_call (hD' ns t n H e _ T hl hn hH (by omega)) ?_
  rintro _ rfl
  (repeat(with_reducible apply U1))
  refine W_call (hM' ns t n H _ _ T (by omega) hn hH) ?_
  rintro _ rfl
  (repeat(with_reducible apply U1))
  unfold l14_2
  exact rent_up (Ko:=fun a b z x y q=>l14_0g G k Ko j a b (IntKind.i64.wrap (z+1)) x y q) (z:=i) (t:=t) (m:=meansN ns H t n) (d:=w.2) (D:=upsN ns w.2 (meansN ns H t n) (entN ns H t n e)) hU T hl (Nat.le_trans n2 hl) n1 (next _ ew.symm) k 0 (entN ns H t n e) (by omega) (by omega) (by omega) rfl
theorem rent_ok(hk:10000≤k)(hIs:IsOK G)(hD:DnHOK G)(hM:MeansOK G)(hU:UpOK G)(hO:OfOK G):REnterOK (fun _ args (K:LV→OV R)=>g14 G k args K):=by
 intro ns ws H K T hl hH hwl
 show W _ K (f14 G k (ns.map Nd.v) (wysV ws) (rws H) K)
 unfold f14 l14_0
 have hen:∀{ws:List (Int×Int)} {e:List Int},(ws.foldl (wayN ns H) e).length≤e.length+ws.length*2100:=by
  intro ws
  induction ws with
  |nil=>intro e;simp
  |cons w r ih=>
   intro e
   have h1:=way_le T hl hH (w:=w) (e:=e)
   have h2:=ih (e:=wayN ns H e w)
   rw[List.foldl_cons,List.length_cons,Nat.succ_mul];omega
 have hel:=hen (ws:=ws) (e:=[])
 rw[List.length_nil]at hel
 unfold OfOK at hO
 refine rent_loop (Q:=fun o=>o=[.sl 1 (ivs (ofL (enterN ns H ws)))]) (D:=enterN ns H ws) hk hIs hD hM hU T hl hH hwl ?_ k 0 [] (by omega) (by omega) (by simp) rfl
 refine W_call (hO _ _ (by show(ws.foldl (wayN ns H) []).length≤9000;omega)) ?_
 rintro _ rfl
 (repeat(with_reducible apply U1))
 exact W_ret rfl
def RBegOK(G:ORC R):Prop:=∀(ns:List Nd) (K:LV→OV R),Tree ns→ns.length≤100→W (fun o=>o=[.sl 1 (ivs (dnN ns 0 []))]) K (G 16 [.sl 7 (ns.map Nd.v)] K)
theorem rbeg_ok(hD:DnOK 200 G)(hO:OfOK G):RBegOK (fun _ args (K:LV→OV R)=>g16 G k args K):=by
 intro ns K T hl
 show W _ K (f16 G k (ns.map Nd.v) K)
 unfold f16
 unfold DnOK at hD;unfold OfOK at hO
 have hpos:=T.pos
 obtain⟨n,hn⟩:∃n,ns[0]? =some n:=⟨_,List.getElem?_eq_getElem (by omega)⟩
 have hr:=T.root n hn
 refine W_call (hD ns 0 n [] [] _ T hl hn (by omega) (by omega) (by simp;omega)) ?_
 rintro _ rfl
 (repeat(with_reducible apply U1))
 have hlen:=dnN_le T (e:=[]) hn
 refine W_call (hO _ _ (by rw[List.length_nil]at hlen;omega)) ?_
 rintro _ rfl
 (repeat(with_reducible apply U1))
 rw[show(((0:Nat):Int))=0 from rfl,sub_of T (by omega) hn (begin_sub T hn)]
 exact W_ret rfl
end
section
variable {R : Type} {G : ORC R} {k : Nat} {K : LV → OV R}
theorem ckids_loop(hI:CIsOK G){Q:LV→Prop}{K:LV→OV R}{Ko:LV→OV R}{l:List Nd}{i:Int}(hl:l.length≤1000)(hKo:W Q K (Ko (ivs (kidsN l i)))):
 ∀(j m:Nat),l.length-m<j→m≤l.length→W Q K (l42_0g G k Ko j (l.map Nd.v) i (ivs (kidsGo l i m)) (l.map Nd.v) l.length m)
 |0,m,h1,h2=>by omega
 |j+1,m,h1,h2=>by
  show W Q K (b42_0 G k (l42_0g G k Ko j) Ko (l.map Nd.v) i (ivs (kidsGo l i m)) (l.map Nd.v) l.length m)
  unfold b42_0
  have hgl:=kidsGo_len (l:=l) (i:=i) (m:=m)
  have hKo':¬(m:Int)<l.length→W Q K (Ko (ivs (kidsGo l i m))):=fun h=>by
   rw[show m=l.length by omega];exact hKo
  refine W_dec (fun h=> ?_) hKo'
  simp only[List.length_map]
  refine W_and (W_yes (by omega) (W_yes (by omega) ?_))
  refine W_nthN (by omega) (fun n hn=> ?_)
  rw[Int.toNat_natCast]at hn
  unfold Nd.v
  (repeat(with_reducible apply U1))
  unfold CIsOK at hI
  refine W_call (hI _ _ _) ?_
  rintro _ rfl
  (repeat(with_reducible apply U1))
  simp only[List.length_map]
  have next:∀a,a=ivs (kidsGo l i (m+1))→W Q K (l42_0g G k Ko j (l.map Nd.v) i a (l.map Nd.v) l.length (IntKind.i64.wrap ((m:Int)+1))):=fun a ha=>by
   rw[wrap_id (n:=(m:Int)+1) (by omega),ha]
   exact ckids_loop hI hl hKo j (m+1) (by omega) (by omega)
  have hk:isK l i m=(decide (0≤i∧i<l.length)&&decide (n.parent=i)):=by unfold isK;rw[hn]
  refine W_dec (fun hi=> ?_) (fun hi=>next _ (by rw[kidsGo,hk,decide_eq_false hi];simp))
  refine W_beqI (fun hp=> ?_) (fun hp=>next _ (by rw[kidsGo,hk,decide_eq_false hp];simp))
  refine W_yes (by rw[ivs_len];omega) (next _ (by rw[kidsGo,hk,decide_eq_true hi,decide_eq_true hp];simp[ivs]))
theorem ckids_ok(hk:10000≤k)(hI:CIsOK G):KidsOK 42 (fun _ args (K:LV→OV R)=>g42 G k args K):=by
 intro l i K hl
 show W _ K (f42 G k (l.map Nd.v) i K)
 unfold f42 l42_0
 simp only[List.length_map]
 exact ckids_loop (Q:=fun o=>o=[.sl 1 (ivs (kidsN l i))]) (K:=K) (Ko:=fun x=>K [.sl 1 x]) hI hl (W_ret rfl) k 0 (by omega) (by omega)
end
section
variable {R : Type} {G : ORC R} {k : Nat} {K : LV → OV R} {Q : LV → Prop}
def HstX(G:ORC R):Prop:=∀(n:Nd) (K:LV→OV R),W (fun o=>o=[.bool (decide (n.kind=4∨n.kind=5))]) K (G 43 [n.v] K)
theorem hst_ok:HstX (fun _ args (K:LV→OV R)=>g43 G k args K):=by
 intro n K
 show W _ K (f43 G k n.kind n.parent n.last n.init n.entry n.exit n.name K)
 unfold f43
 refine W_beqI (fun h=>W_ret (by simp[h])) (fun h=>W_ret ?_)
 by_cases h5:n.kind=5
 ·simp[h5]
 ·simp[h,h5]
def hsB(ns:List Nd)(x:Int):Bool:=match ns[x.toNat]? with
 |some n=>decide (n.kind=4∨n.kind=5)
 |none=>false
def OkL(ns:List Nd)(l:List Int):Prop:=∀x∈l,0≤x∧x<ns.length
def ClsX(G:ORC R):Prop:=∀(ns:List Nd) (x:Int) (K:LV→OV R),0≤x→x<ns.length→W (fun o=>o=[.bool (hsB ns x)]) K (G 76 [.int .i64 x,.sl 7 (ns.map Nd.v)] K)
theorem cls_ok(hH:HstX G):ClsX (fun _ args (K:LV→OV R)=>g76 G k args K):=by
 intro ns x K h0 h1
 show W _ K (f76 G k x (ns.map Nd.v) K)
 unfold f76
 obtain⟨n,hn⟩:∃n,ns[x.toNat]? =some n:=⟨_,List.getElem?_eq_getElem (by omega)⟩
 have hv:(ns.map Nd.v)[x.toNat]? =some n.v:=nd_get hn
 have e:hsB ns x=decide (n.kind=4∨n.kind=5):=by unfold hsB;rw[hn]
 unfold HstX at hH
 refine W_at h0 hv (W_nd ?_)
 refine W_call (hH n _) ?_
 rintro _ rfl
 (repeat(with_reducible apply U1))
 exact W_ret (by rw[e])
def IdxX(G:ORC R):Prop:=∀(ns:List Nd) (l:List Int) (K:LV→OV R),OkL ns l→l.length≤1000→
 W (fun o=>∃i:Int,o=[.int .i64 i]∧((i= -1∧∀x∈l,hsB ns x=false)∨∃(p:Nat) (x:Int),i=p∧l[p]? =some x∧hsB ns x=true∧∀y∈l.take p,hsB ns y=false)) K (G 131137 [.sl 1 (ivs l),.sl 7 (ns.map Nd.v)] K)
theorem idx_loop(hC:ClsX G){Ko:LV→OV R}{Kr:Int→LV→OV R}{ns:List Nd}{l:List Int}(hl:OkL ns l)(hll:l.length≤1000)(hKo:(∀x∈l,hsB ns x=false)→W Q K (Ko (ns.map Nd.v)))
 (hKr:∀(p:Nat) (x:Int),l[p]? =some x→hsB ns x=true→(∀y∈l.take p,hsB ns y=false)→W Q K (Kr p (ns.map Nd.v))):
 ∀(j i:Nat),l.length-i<j→i≤l.length→(∀y∈l.take i,hsB ns y=false)→W Q K (l131137_0g G k Ko Kr j (ivs l) l.length i (ns.map Nd.v))
 |0,i,h1,h2,h3=>by omega
 |j+1,i,h1,h2,h3=>by
  show W Q K (b131137_0 G k (l131137_0g G k Ko Kr j) Ko Kr (ivs l) l.length i (ns.map Nd.v))
  unfold b131137_0
  refine W_dec (fun h=> ?_) (fun h=>hKo (by rw[List.take_of_length_le (by omega)]at h3;exact h3))
  obtain⟨x,hx⟩:=get_ex (l:=l) (m:=i) (by omega)
  obtain⟨x0,x1⟩:=hl x (List.mem_of_getElem? hx)
  refine W_at (by omega) (ivs_atZ hx) (W_aI ?_)
  have hC':=hC
  unfold ClsX at hC'
  refine W_call (hC' ns x _ x0 x1) ?_
  rintro _ rfl
  (repeat(with_reducible apply U1))
  refine W_bool (fun hb=>hKr i x hx hb h3) (fun hb=> ?_)
  rw[wrap_id (n:=(i:Int)+1) (by omega)]
  refine idx_loop hC hl hll hKo hKr j (i+1) (by omega) (by omega) fun y hy=> ?_
  rw[take_snoc hx]at hy
  rcases List.mem_append.1 hy with hy|hy
  ·exact h3 y hy
  ·rw[List.mem_singleton.1 hy];exact hb
theorem idx_ok(hk:10000≤k)(hC:ClsX G):IdxX (fun _ args (K:LV→OV R)=>g131137 G k args K):=by
 intro ns l K hl hll
 show W _ K (f131137 G k (ivs l) (ns.map Nd.v) K)
 unfold f131137 l131137_0
 rw[ivs_len]
 exact idx_loop (Ko:=fun _=>K [.int .i64 (-1)]) (Kr:=fun i _=>K [.int .i64 i]) hC hl hll (fun h=>W_ret ⟨_,rfl,.inl ⟨rfl,h⟩⟩) (fun p x h1 h2 h3=>W_ret ⟨_,rfl,.inr ⟨p,x,rfl,h1,h2,h3⟩⟩) k 0 (by omega) (by omega) (fun y hy=>by cases hy)
def DelX(G:ORC R):Prop:=∀(ns:List Nd) (l:List Int) (K:LV→OV R),OkL ns l→l.length≤1000→
 W (fun o=>o=[.sl 1 (ivs (l.filter fun x=> !hsB ns x))]) K (G 65611 [.sl 1 (ivs l),.sl 7 (ns.map Nd.v)] K)
theorem set_mid{α:Type}{A B:List α}{b x:α}:(A++b::B).set A.length x=A++x::B:=by
 rw[List.set_append_right _ _ (Nat.le_refl _),Nat.sub_self];rfl
theorem ivs_set{l:List Int}{i:Nat}{x:Int}:(ivs l).set i (.int .i64 x)=ivs (l.set i x):=by unfold ivs;rw[List.map_set]
theorem ivs_take{l:List Int}{i:Nat}:(ivs l).take i=ivs (l.take i):=by unfold ivs;rw[List.map_take]
theorem del_loop(hC:ClsX G){Ko:LV→Int→LV→OV R}{ns:List Nd}{l:List Int}(hl:OkL ns l)(hll:l.length≤1000)
 (hKo:∀(A B:List Int) (b:Int),A=l.filter (fun x=> !hsB ns x)→(A++b::B).length=l.length→W Q K (Ko (ivs (A++b::B)) A.length (ns.map Nd.v))):
 ∀(j m:Nat) (A B:List Int) (b:Int),l.length-m<j→m≤l.length→A=(l.take m).filter (fun x=> !hsB ns x)→A.length+B.length+1=m→W Q K (l65611_0g G k Ko j (ivs (A++b::(B++l.drop m))) A.length m (ns.map Nd.v))
 |0,m,A,B,b,h1,h2,h3,h4=>by omega
 |j+1,m,A,B,b,h1,h2,h3,h4=>by
  show W Q K (b65611_0 G k (l65611_0g G k Ko j) Ko (ivs (A++b::(B++l.drop m))) A.length m (ns.map Nd.v))
  unfold b65611_0
  have hlen:(A++b::(B++l.drop m)).length=l.length:=by
   rw[List.length_append,List.length_cons,List.length_append,List.length_drop];omega
  rw[ivs_len,hlen]
  refine W_dec (fun h=> ?_) (fun h=> ?_)
  ·obtain⟨x,hx⟩:=get_ex (l:=l) (m:=m) (by omega)
   obtain⟨x0,x1⟩:=hl x (List.mem_of_getElem? hx)
   have hdr:l.drop m=x::l.drop (m+1):=by
    obtain⟨hm,e1⟩:=List.getElem?_eq_some_iff.1 hx
    rw[List.drop_eq_getElem_cons hm,e1]
   have hat:(A++b::(B++l.drop m))[m]? =some x:=by
    rw[List.getElem?_append_right (by omega),show m-A.length=(m-A.length-1)+1 by omega,List.getElem?_cons_succ,List.getElem?_append_right (by omega),show m-A.length-1-B.length=0 by omega,hdr]
    rfl
   have W_r:∀{i:Nat} {y:Int} {F:V→OV R} {E:OV R},(A++b::(B++l.drop m))[i]? =some y→W Q K (F (.int .i64 y))→W Q K (bif(decide (0≤((i:Nat):Int))&&decide (((i:Nat):Int)<((l.length:Nat):Int)))then nthK (ivs (A++b::(B++l.drop m))) ((i:Nat):Int).toNat F else E):=fun{i y F E} hy h=>by
    have:=W_at (E:=E) (show(0:Int)≤((i:Nat):Int)by omega) (ivs_atZ hy) h
    rw[ivs_len,hlen]at this;exact this
   refine W_r hat (W_aI ?_)
   have hC':=hC
   unfold ClsX at hC'
   refine W_call (hC' ns x _ x0 x1) ?_
   rintro _ rfl
   (repeat(with_reducible apply U1))
   rw[wrap_id (n:=(m:Int)+1) (by omega)]
   refine W_not (W_bool (fun hb=> ?_) (fun hb=> ?_))
   ·have next:=del_loop hC hl hll hKo j (m+1) A (B++[x]) b (by omega) (by omega) (by rw[take_snoc hx,filt_snoc,←h3,hb];simp) (by rw[List.length_append,List.length_singleton];omega)
    rw[show A++b::(B++[x]++l.drop (m+1))=A++b::(B++l.drop m)by rw[hdr];simp]at next
    exact next
   ·have hb2:(A++b::(B++l.drop m))[A.length]? =some b:=by rw[List.getElem?_append_right (Nat.le_refl _),Nat.sub_self];rfl
    refine W_r hb2 ?_
    rw[wrap_id (n:=(A.length:Int)+1) (by omega),Int.toNat_natCast,ivs_set,set_mid]
    cases hB:B++[x]with
    |nil=>simp at hB
    |cons b' B'=>
     have hl2:B.length=B'.length:=by have:=congrArg List.length hB;simpa using this
     have next:=del_loop hC hl hll hKo j (m+1) (A++[x]) B' b' (by omega) (by omega) (by rw[take_snoc hx,filt_snoc,←h3,hb];simp) (by rw[List.length_append,List.length_singleton];omega)
     rw[show(A++[x])++b'::(B'++l.drop (m+1))=A++x::(B++l.drop m)by
      rw[hdr,show B++x::l.drop (m+1)=(B++[x])++l.drop (m+1)by simp,hB];simp,show(((A++[x]).length:Nat):Int)=(A.length:Int)+1 by simp]at next
     exact next
  ·have hm:m=l.length:=by omega
   have:=hKo A B b (by rw[h3,hm,List.take_length]) (by rw[hm,List.drop_length,List.append_nil]at hlen;exact hlen)
   rw[show A++b::(B++l.drop m)=A++b::B by rw[hm,List.drop_length,List.append_nil]]
   exact this
theorem del_ok(hk:10000≤k)(hI:IdxX G)(hC:ClsX G):DelX (fun _ args (K:LV→OV R)=>g65611 G k args K):=by
 intro ns l K hl hll
 show W _ K (f65611 G k (ivs l) (ns.map Nd.v) K)
 unfold f65611
 unfold IdxX at hI
 refine W_call (hI ns l _ hl hll) ?_
 rintro _ ⟨i,rfl,hi⟩
 (repeat(with_reducible apply U1))
 rcases hi with⟨rfl,hi⟩|⟨p,x,rfl,hx,hb,hno⟩
 ·refine W_eqY rfl (W_ret ?_)
  rw[List.filter_eq_self.2 fun x hx=>by rw[hi x hx];rfl]
 ·refine W_eqN (by omega) ?_
  have hp:=(List.getElem?_eq_some_iff.1 hx).1
  rw[wrap_id (n:=(p:Int)+1) (by omega)]
  unfold l65611_0
  have e1:(l.take p).filter (fun x=> !hsB ns x)=l.take p:=List.filter_eq_self.2 fun y hy=>by rw[hno y hy];rfl
  have e2:l=l.take p++x::([]++l.drop (p+1)):=by
   rw[List.nil_append]
   obtain⟨hm,e⟩:=List.getElem?_eq_some_iff.1 hx
   rw[←e,←List.drop_eq_getElem_cons hm,List.take_append_drop]
  have hlp:(l.take p).length=p:=by rw[List.length_take];omega
  have main:=del_loop (Q:=fun o=>o=[.sl 1 (ivs (l.filter fun x=> !hsB ns x))]) (K:=K) (k:=k) (Ko:=fun yl16 yi17 yl18=>(bif((decide (0≤yi17))&&(decide (yi17<(yl16.length:Int))))then(bif(decide ((Int.toNat yi17)≤(List.length yl16)))then(bif((decide (0≤yi17))&&(decide (yi17≤((List.length ((List.take (Int.toNat yi17) yl16)++(List.replicate ((List.length yl16)-(Int.toNat yi17)) (V.int .i64 0))):Nat):Int))))then(K [(.sl 1 (List.take (Int.toNat yi17) ((List.take (Int.toNat yi17) yl16)++(List.replicate ((List.length yl16)-(Int.toNat yi17)) (V.int .i64 0)))))])else none)else none)else none))
   hC hl hll (fun A B b hA hlen=>by
    rw[List.length_append,List.length_cons]at hlen
    refine W_and (W_yes (by omega) (W_yes (by rw[ivs_len,List.length_append,List.length_cons];omega) ?_))
    refine W_yes (by rw[ivs_len,List.length_append,List.length_cons];omega) ?_
    rw[Int.toNat_natCast,ivs_take,List.take_left' rfl]
    refine W_and (W_yes (by omega) (W_yes (by rw[List.length_append,ivs_len];omega) ?_))
    rw[List.take_left' (ivs_len)]
    exact W_ret (by rw[hA])) k (p+1) (l.take p) [] x (by omega) (by omega) (by rw[take_snoc hx,filt_snoc,e1,hb];simp) (by rw[hlp];rfl)
  rw[←e2,hlp]at main
  exact main
def LStX(G:ORC R):Prop:=∀(ns:List Nd) (i:Int) (K:LV→OV R),Tree ns→ns.length≤1000→W (fun o=>o=[.sl 1 (ivs (statesN ns i))]) K (G 61 [.sl 7 (ns.map Nd.v),.int .i64 i] K)
theorem lst_ok(hK:KidsOK 42 G)(hD:DelX G):LStX (fun _ args (K:LV→OV R)=>g61 G k args K):=by
 intro ns i K T hl
 show W _ K (f61 G k (ns.map Nd.v) i K)
 unfold f61
 unfold KidsOK at hK;unfold DelX at hD
 refine W_call (hK _ _ _ hl) ?_
 rintro _ rfl
 (repeat(with_reducible apply U1))
 have hok:OkL ns (kidsN ns i):=fun x hx=>by
  obtain⟨q,m,rfl,m1,_⟩:=mem_kidsN.1 hx
  have:=Tree.lt m1
  omega
 have hlen:(kidsN ns i).length≤ns.length:=kidsGo_len
 refine W_call (hD ns _ _ hok (by omega)) ?_
 rintro _ rfl
 (repeat(with_reducible apply U1))
 refine W_ret ?_
 congr 3
 refine List.filter_congr fun x hx=> ?_
 obtain⟨q,m,rfl,m1,_⟩:=mem_kidsN.1 hx
 have:=T.seg.kinds q m m1
 unfold hsB isSt
 rw[Int.toNat_natCast,m1]
 show(!decide (m.kind=4∨m.kind=5))=decide (m.kind≤3)
 by_cases h:m.kind≤3
 ·rw[decide_eq_true h,decide_eq_false (by omega)];rfl
 ·rw[decide_eq_false h,decide_eq_true (by omega)];rfl
end
section
variable {R : Type} {G : ORC R} {k : Nat} {K : LV → OV R} {Q : LV → Prop}
def Left(c:Int)(e:List Int):Prop:=20000≤c∧c≤65536∧e.length≤9900
def MoreX(G:ORC R):Prop:=∀(ns hv iv:LV) (l:Int) (K:LV→OV R),0<l→l≤100000→W (fun o=>o=[.bool true,.sl 1 iv,.int .i64 (l-1)]) K (G 59 [.sl 7 ns,.sl 1 hv,.sl 1 iv,.int .i64 l] K)
theorem more_ok:MoreX (fun _ args (K:LV→OV R)=>g59 G k args K):=by
 intro ns hv iv l K h0 h1
 show W _ K (f59 G k ns hv iv l K)
 unfold f59
 rw[wrap_id (n:=l-1) (by omega),decide_eq_true (show l-1≥0 by omega)]
 exact W_ret rfl
def EmpX(G:ORC R):Prop:=∀(ns:List Nd) (s:Int) (hv:LV) (e:List Int) (l:Int) (K:LV→OV R),ns.length≤1000→
 W (fun o=>o=[.bool (!anyN ns e s),.sl 1 (actV ns.length e),.int .i64 l]) K (G 74 [.int .i64 s,.sl 7 (ns.map Nd.v),.sl 1 hv,.sl 1 (actV ns.length e),.int .i64 l] K)
theorem emp_loop(hI:CInOK G){Ko:LV→LV→LV→Int→OV R}{Kr:Bool→LV→LV→LV→Int→OV R}{ns:List Nd}{s l:Int}{hv:LV}{e:List Int}(hl:ns.length≤1000)
 (hKo:anyN ns e s=false→W Q K (Ko (ns.map Nd.v) hv (actV ns.length e) l)) (hKr:anyN ns e s=true→W Q K (Kr false (ns.map Nd.v) hv (actV ns.length e) l)):
 ∀(j i:Nat),ns.length-i<j→i≤ns.length→(∀q:Nat,q<i→(q:Int)∈e→inN ns q s=false)→W Q K (l74_0g G k Ko Kr j s ns.length i (ns.map Nd.v) hv (actV ns.length e) l)
 |0,i,h1,h2,h3=>by omega
 |j+1,i,h1,h2,h3=>by
  show W Q K (b74_0 G k (l74_0g G k Ko Kr j) Ko Kr s ns.length i (ns.map Nd.v) hv (actV ns.length e) l)
  unfold b74_0
  refine W_dec (fun h=> ?_) (fun h=>hKo ?_)
  ·refine W_at (by omega) (by rw[Int.toNat_natCast];exact actV_get (by omega)) ?_
   (repeat(with_reducible apply U1))
   have next:(∀q:Nat,q<i+1→(q:Int)∈e→inN ns q s=false)→W Q K (l74_0g G k Ko Kr j s ns.length (IntKind.i64.wrap ((i:Int)+1)) (ns.map Nd.v) hv (actV ns.length e) l):=fun h4=>by
    rw[wrap_id (n:=(i:Int)+1) (by omega)]
    exact emp_loop hI hl hKo hKr j (i+1) (by omega) (by omega) h4
   refine W_bool (fun hb=> ?_) (fun hb=>next fun q hq hm=> ?_)
   ·have hI':=hI
    unfold CInOK at hI'
    refine W_call (hI' _ _ _ _) ?_
    rintro _ rfl
    (repeat(with_reducible apply U1))
    refine W_bool (fun hc=>hKr (List.any_eq_true.2 ⟨i,hasL_iff.1 hb,hc⟩)) (fun hc=>next fun q hq hm=> ?_)
    by_cases e1:q=i
    ·rw[e1];exact hc
    ·exact h3 q (by omega) hm
   ·by_cases e1:q=i
    ·subst e1;rw[hasL_iff.2 hm]at hb;cases hb
    ·exact h3 q (by omega) hm
  ·unfold anyN
   rw[List.any_eq_false]
   intro x hx hc
   have hr:=inN_rng hc
   have:=h3 x.toNat (by omega) (by rw[show((x.toNat:Nat):Int)=x by omega];exact hx)
   rw[show((x.toNat:Nat):Int)=x by omega,hc]at this
   cases this
theorem emp_ok(hk:10000≤k)(hI:CInOK G):EmpX (fun _ args (K:LV→OV R)=>g74 G k args K):=by
 intro ns s hv e l K hl
 show W _ K (f74 G k s (ns.map Nd.v) hv (actV ns.length e) l K)
 unfold f74 l74_0
 rw[actV_len]
 exact emp_loop (Q:=fun o=>o=[.bool (!anyN ns e s),.sl 1 (actV ns.length e),.int .i64 l]) (Ko:=fun _ _ a b=>K [.bool true,.sl 1 a,.int .i64 b]) (Kr:=fun c _ _ a b=>K [.bool c,.sl 1 a,.int .i64 b]) hI hl (fun h=>W_ret (by rw[h];rfl)) (fun h=>W_ret (by rw[h];rfl)) k 0 (by omega) (by omega) (fun q hq=>by omega)
def mkV(ns:List Nd)(c:Int)(e:List Int):LV:=[.sl 1 (actV ns.length e),.int .i64 (c-e.length)]
def CDnOK(d:Nat)(G:ORC R):Prop:=∀(ns:List Nd) (a:Nat) (n:Nd) (hv:LV) (e:List Int) (c:Int) (K:LV→OV R),Tree ns→ns.length≤100→ns[a]? =some n→n.kind≤3→n.last-a<d→20000≤c→c≤65536→e.length+(n.last-a+1).toNat≤9700→
 W (fun o=>o=mkV ns c (dnN ns a e)) K (G 32 [.int .i64 a,.sl 7 (ns.map Nd.v),.sl 1 hv,.sl 1 (actV ns.length e),.int .i64 (c-e.length)] K)
def CRegOK(d:Nat)(G:ORC R):Prop:=∀(ns:List Nd) (a:Nat) (n:Nd) (hv:LV) (e:List Int) (c:Int) (K:LV→OV R),Tree ns→ns.length≤100→ns[a]? =some n→n.last-a≤d→20000≤c→c≤65536→e.length+(if n.kind=3 then(n.last-a).toNat else 0)≤9700→
 W (fun o=>o=mkV ns c (if n.kind=3 then regF ns (dnN ns) (statesN ns a) e else e)) K (G 60 [.int .i64 a,.sl 7 (ns.map Nd.v),.sl 1 hv,.sl 1 (actV ns.length e),.int .i64 (c-e.length)] K)
theorem creg_loop{d:Nat}(hA:EmpX G)(hD:CDnOK d G){Ko:LV→LV→LV→Int→OV R}{ns:List Nd}{a:Nat}{n:Nd}{hv:LV}{c:Int}(T:Tree ns)(hl:ns.length≤100)(ha:ns[a]? =some n)(hd:n.last-a≤d)(hc0:20000≤c)(hc1:c≤65536){D:List Int}:
 ∀(j m:Nat) (e:List Int) (lo:Int),(statesN ns a).length-m<j→m≤(statesN ns a).length→(∀k∈(statesN ns a).drop m,lo≤k)→a<lo→e.length+(n.last+1-lo).toNat≤9700→D=regF ns (dnN ns) ((statesN ns a).drop m) e→
  W Q K (Ko (ns.map Nd.v) hv (actV ns.length D) (c-D.length))→W Q K (l60_0g G k Ko j (ivs (statesN ns a)) (statesN ns a).length m (ns.map Nd.v) hv (actV ns.length e) (c-e.length))
 |0,m,e,lo,h1,h2,h3,h4,h5,h6,hKo=>by omega
 |j+1,m,e,lo,h1,h2,h3,h4,h5,h6,hKo=>by
  show W Q K (b60_0 G k (l60_0g G k Ko j) Ko (ivs (statesN ns a)) (statesN ns a).length m (ns.map Nd.v) hv (actV ns.length e) (c-e.length))
  unfold b60_0
  have hsl:(statesN ns a).length≤ns.length:=statesN_len
  refine W_dec (fun h=> ?_) (fun h=>by
   rw[List.drop_of_length_le (by omega)]at h6
   rw[show D=e from h6]at hKo
   exact hKo)
  obtain⟨x,hx⟩:=get_ex (l:=statesN ns a) (m:=m) (by omega)
  obtain⟨q,m2,rfl,g1,g2,g3⟩:=(mem_statesN (Tree.lt ha)).1 (List.mem_of_getElem? hx)
  have hki:=kid_in T ha g1 g2
  have hql:=T.seg.last q m2 g1
  have hlo:=h3 q (by rw[drop_at hx];exact List.mem_cons_self)
  have hnext:∀k∈(statesN ns a).drop (m+1),m2.last+1≤k:=fun k hk=>by
   have hA:Asc ((statesN ns a).drop m):=List.Pairwise.sublist (List.drop_sublist _ _) statesN_asc
   rw[drop_at hx]at hA
   have h7:=(List.pairwise_cons.1 hA).1 k hk
   obtain⟨q',m',rfl,k1,k2,k3⟩:=(mem_statesN (Tree.lt ha)).1 (List.mem_of_mem_drop hk)
   have:=kid_apart T g1 g2 k1 k2 (by omega)
   omega
  rw[drop_at hx,regF]at h6
  refine W_at (by omega) (ivs_atZ hx) (W_aI ?_)
  have hA':=hA
  have hD':=hD
  unfold EmpX at hA';unfold CDnOK at hD'
  refine W_call (hA' _ _ _ _ _ _ (by omega)) ?_
  rintro _ rfl
  (repeat(with_reducible apply U1))
  have next:∀e':List Int,e'.length≤e.length+(m2.last-q+1).toNat→D=regF ns (dnN ns) ((statesN ns a).drop (m+1)) e'→W Q K (l60_0g G k Ko j (ivs (statesN ns a)) (statesN ns a).length (IntKind.i64.wrap ((m:Int)+1)) (ns.map Nd.v) hv (actV ns.length e') (c-e'.length)):=fun e' q1 q2=>by
   rw[wrap_id (n:=(m:Int)+1) (by omega)]
   exact creg_loop hA hD T hl ha hd hc0 hc1 j (m+1) e' (m2.last+1) (by omega) (by omega) hnext (by omega) (by omega) q2 hKo
  refine W_not (W_bool (fun hb=> ?_) (fun hb=> ?_))
  ·rw[hb,if_pos rfl]at h6
   exact next e (by omega) h6
  ·rw[hb,if_neg (by simp)]at h6
   refine W_call (hD' ns q m2 hv e c _ T hl g1 g3 (by omega) hc0 hc1 (by omega)) ?_
   rintro _ rfl
   unfold mkV
   (repeat(with_reducible apply U1))
   exact next _ (dnN_len T (m2.last-q+1).toNat q m2 e g1 (by omega)) h6
theorem creg_ok{d:Nat}(hk:10000≤k)(hS:LStX G)(hA:EmpX G)(hD:CDnOK d G):CRegOK d (fun _ args (K:LV→OV R)=>g60 G k args K):=by
 intro ns a n hv e c K T hl ha hd hc0 hc1 he
 show W _ K (f60 G k a (ns.map Nd.v) hv (actV ns.length e) (c-e.length) K)
 unfold f60
 unfold LStX at hS
 refine W_at (by omega) (nd_atZ ha) (W_nd7 (W_aI ?_))
 by_cases h3:n.kind=3
 ·rw[if_pos h3]at he
  refine W_chk' (by simp[h3]) ?_
  rw[if_pos h3]
  refine W_call (hS _ _ _ T (by omega)) ?_
  rintro _ rfl
  (repeat(with_reducible apply U1))
  unfold l60_0
  have hsl:(statesN ns a).length≤ns.length:=statesN_len
  have hal:=T.seg.last a n ha
  rw[ivs_len]
  exact creg_loop (Q:=fun o=>o=mkV ns c (regF ns (dnN ns) (statesN ns a) e)) (Ko:=fun _ _ x y=>K [.sl 1 x,.int .i64 y]) hA hD T hl ha hd hc0 hc1 k 0 e (a+1) (by omega) (by omega) (fun k hk=>by
   have:=(states_gt T (by omega) (List.mem_of_mem_drop hk)).1
   omega) (by omega) (by omega) rfl (W_ret rfl)
 ·refine W_chk (by simp[h3]) ?_
  rw[if_neg h3]
  exact W_ret rfl
theorem cdn_ok{d:Nat}(hLi:LisX G)(hMo:MoreX G)(hHs:HstX G)(hD:∀d',d=d'+1→CDnOK d' G∧CRegOK d' G):CDnOK d (fun _ args (K:LV→OV R)=>g32 G k args K):=by
 intro ns a n hv e c K T hl ha h3 hd hc0 hc1 he
 show W _ K (f32 G k a (ns.map Nd.v) hv (actV ns.length e) (c-e.length) K)
 have hal:=T.seg.last a n ha
 have hla:=Tree.lt ha
 cases d with
 |zero=>omega
 |succ d=>
 obtain⟨hD,hR⟩:=hD d rfl
 unfold f32
 unfold LisX at hLi;unfold MoreX at hMo;unfold HstX at hHs;unfold CDnOK at hD;unfold CRegOK at hR
 have hkinds:=T.seg.kinds a n ha
 rw[dnN_at T ha]
 refine W_call (hLi _ _ _) ?_
 rintro _ rfl
 (repeat(with_reducible apply U1))
 refine W_not (W_yes (by rw[List.length_map];omega) ?_)
 refine W_call (hMo _ _ _ _ _ (by omega) (by omega)) ?_
 rintro _ rfl
 (repeat(with_reducible apply U1))
 refine W_not (W_chk rfl ?_)
 refine W_at (by omega) (nd_atZ ha) (W_nd ?_)
 refine W_call (hHs n _) ?_
 rintro _ rfl
 (repeat(with_reducible apply U1))
 refine W_no (by omega) ?_
 have hm:(actV ns.length e)[((a:Nat):Int).toNat]? =some (.bool (hasL e a)):=by rw[Int.toNat_natCast];exact actV_get hla
 have W_m:∀{F:V→OV R} {E:OV R} {Q:LV→Prop},W Q K (F (.bool (hasL e a)))→W Q K (bif(decide (0≤((a:Nat):Int))&&decide (((a:Nat):Int)<(((actV ns.length e).length:Nat):Int)))then nthK (actV ns.length e) ((a:Nat):Int).toNat F else E):=fun{F E Q} h=>W_at (by omega) hm h
 refine W_m ?_
 refine W_at (by omega) (nd_atZ ha) (W_nd7 (W_aI ?_))
 have eset:(actV ns.length e).set ((a:Nat):Int).toNat (.bool true)=actV ns.length (e++[(a:Int)]):=actV_set (by omega) (by omega)
 have el:(e++[(a:Int)]).length=e.length+1:=by simp
 have ec:c-(e.length:Int)-1=c-((e++[(a:Int)]).length:Int):=by rw[el];omega
 rw[eset,ec]
 refine W_beqI (fun hk=> ?_) (fun hk=> ?_)
 ·obtain⟨i1,m,m1,m2,m3,m4⟩:=init_at T ha hk
  refine W_at (by omega) (nd_atZ ha) (W_nd7 (W_aI ?_))
  rw[if_pos hk,i1]
  refine W_call (hD ns (a+1) m hv _ c _ T hl m1 m3 (by omega) hc0 hc1 (by omega)) ?_
  rintro _ rfl
  unfold mkV
  (repeat(with_reducible apply U1))
  have hle:=dnN_len T (m.last-(a+1:Nat)+1).toNat (a+1) m (e++[(a:Int)]) m1 (by have:=T.seg.last (a+1) m m1;omega)
  refine W_call (hR ns a n hv _ c _ T hl ha (by omega) hc0 hc1 (by rw[if_neg (by omega)];omega)) ?_
  rintro _ rfl
  unfold mkV
  (repeat(with_reducible apply U1))
  rw[if_neg (by omega)]
  exact W_ret rfl
 ·rw[if_neg hk]
  refine W_call (hR ns a n hv _ c _ T hl ha (by omega) hc0 hc1 (by split<;>omega)) ?_
  rintro _ rfl
  unfold mkV
  (repeat(with_reducible apply U1))
  exact W_ret rfl
end
section
variable {R : Type} {G : ORC R} {k : Nat} {K : LV → OV R} {Q : LV → Prop}
theorem ins_iff{ns:List Nd}{a b:Nat}{n:Nd}(hb:ns[b]? =some n)(ha:a<ns.length):insN ns a b=true↔b<a∧(a:Int)≤n.last:=by
 have:=Tree.lt hb
 unfold insN inN
 rw[Int.toNat_natCast,hb]
 simp only[Bool.and_eq_true,decide_eq_true_eq]
 omega
theorem anc_par{ns:List Nd}(T:Tree ns){x s:Nat}{n m:Nd}(hx:ns[x]? =some n)(hs:ns[s]? =some m)(h:x<s)(hl:(s:Int)≤n.last):(x:Int)≤m.parent∧m.parent≤n.last:=by
 have:=T.seg.lam x s n m hx hs h
 omega
def CUpOK(G:ORC R):Prop:=∀(ns:List Nd) (s:Nat) (n:Nd) (a:Nat) (A:Nd) (hv:LV) (e:List Int) (c:Int) (K:LV→OV R),Tree ns→ns.length≤10→ns[s]? =some n→ns[a]? =some A→a<s→(s:Int)≤A.last→20000≤c→c≤65536→e.length≤9500→
 W (fun o=>o=mkV ns c (upN ns s a e)) K (G 34 [.int .i64 s,.int .i64 a,.sl 7 (ns.map Nd.v),.sl 1 hv,.sl 1 (actV ns.length e),.int .i64 (c-e.length)] K)
theorem cup_loop(hLi:LisX G)(hIn:InsOK G)(hMo:MoreX G)(hR:CRegOK 200 G){Ko:LV→LV→LV→Int→OV R}{ns:List Nd}{s a:Nat}{n A:Nd}{hv:LV}{c:Int}{D:List Int}(T:Tree ns)(hl:ns.length≤10)(hs:ns[s]? =some n)(ha:ns[a]? =some A)(has:a<s)(hsA:(s:Int)≤A.last)(hc0:20000≤c)(hc1:c≤65536)
 (hKo:W Q K (Ko (ns.map Nd.v) hv (actV ns.length D) (c-D.length))):
 ∀(j f i x:Nat) (e:List Int),i<s→a≤x→x≤i→i-a<j→x<f→(∀(y:Nat) m,x<y→y≤i→ns[y]? =some m→¬(s:Int)≤m.last)→(∀m,a<x→ns[x]? =some m→(s:Int)≤m.last∧(x:Int)≤A.last)→e.length+f*10≤9620→D=upF ns a f x e→
  W Q K (l34_0g G k Ko j s a i (ns.map Nd.v) hv (actV ns.length e) (c-e.length))
 |0,f,i,x,e,h1,h2,h3,h4,h5,h6,h7,h8,h9=>by omega
 |j+1,f,i,x,e,h1,h2,h3,h4,h5,h6,h7,h8,h9=>by
  show W Q K (b34_0 G k (l34_0g G k Ko j) Ko s a i (ns.map Nd.v) hv (actV ns.length e) (c-e.length))
  unfold b34_0
  have hsl:=Tree.lt hs
  refine W_dec (fun h=> ?_) (fun h=>by
   have:x=a:=by omega
   subst this
   rw[upF_no (fun c=>c.2.1 rfl)]at h9
   rw[h9]at hKo
   exact hKo)
  have hLi':=hLi;have hIn':=hIn;have hMo':=hMo;have hR':=hR
  unfold LisX at hLi';unfold InsOK at hIn';unfold MoreX at hMo';unfold CRegOK at hR'
  refine W_call (hLi' _ _ _) ?_
  rintro _ rfl
  (repeat(with_reducible apply U1))
  refine W_yes (by rw[List.length_map];omega) ?_
  refine W_call (hIn' _ _ _ _) ?_
  rintro _ rfl
  (repeat(with_reducible apply U1))
  obtain⟨m,hm⟩:∃m,ns[i]? =some m:=⟨_,List.getElem?_eq_getElem (by omega)⟩
  have eii:IntKind.i64.wrap ((i:Int)-1)=((i-1:Nat):Int):=by rw[wrap_id (n:=(i:Int)-1) (by omega)];omega
  rw[eii]
  by_cases hix:i=x
  ·subst hix
   obtain⟨q1,q2⟩:=h7 m (by omega) hm
   have hins:insN ns s i=true:=(ins_iff hm hsl).2 ⟨h1,q1⟩
   have hins2:insN ns i a=true:=(ins_iff ha (by omega)).2 ⟨by omega,q2⟩
   refine W_chk hins ?_
   refine W_call (hIn' _ _ _ _) ?_
   rintro _ rfl
   (repeat(with_reducible apply U1))
   refine W_chk hins2 ?_
   obtain⟨f',rfl⟩:∃f',f=f'+1:=⟨f-1,by omega⟩
   have hin2:(i:Int)≠a∧inN ns i a=true:=by
    unfold insN at hins2
    simp only[Bool.and_eq_true,decide_eq_true_eq]at hins2
    exact hins2
   rw[upF_at hm hin2]at h9
   rw[Nat.succ_mul]at h8
   refine W_call (hMo' _ _ _ _ _ (by omega) (by omega)) ?_
   rintro _ rfl
   (repeat(with_reducible apply U1))
   refine W_chk rfl ?_
   have hmk:(actV ns.length e)[((i:Nat):Int).toNat]? =some (.bool (hasL e i)):=by rw[Int.toNat_natCast];exact actV_get (by omega)
   refine W_at (by omega) hmk ?_
   have eset:(actV ns.length e).set ((i:Nat):Int).toNat (.bool true)=actV ns.length (e++[(i:Int)]):=actV_set (by omega) (by omega)
   have el:(e++[(i:Int)]).length=e.length+1:=by simp
   have ec:c-(e.length:Int)-1=c-((e++[(i:Int)]).length:Int):=by rw[el];omega
   rw[eset,ec]
   have hml:=T.seg.last i m hm
   refine W_call (hR' ns i m hv _ c _ T (by omega) hm (by omega) hc0 hc1 (by split<;>omega)) ?_
   rintro _ rfl
   unfold mkV
   (repeat(with_reducible apply U1))
   obtain⟨p,q,e1,e2,e3,e4,e5⟩:=par_at T hm (by omega)
   have hap:=anc_par T ha hm (by omega) q2
   have hle:(if m.kind=3 then regF ns (dnN ns) (statesN ns i) (e++[(i:Int)])else e++[(i:Int)]).length≤e.length+10:=by
    split
    ·have:=reg_le T (e:=e++[(i:Int)]) hm;omega
    ·omega
   rw[e1]at h9
   have hq:=kid_in T e2 hm e1
   exact cup_loop hLi hIn hMo hR T hl hs ha has hsA hc0 hc1 hKo j f' (i-1) p _ (by omega) (by omega) (by omega) (by omega) (by omega)
    (fun y m2 y1 y2 hy hc=>by
      have:=anc_par T hy hm (by omega) (by omega)
      omega)
    (fun m2 y1 hy=>by
      rw[e2]at hy;injection hy with hy;subst hy
      exact⟨by omega,by omega⟩) (by omega) h9
  ·have hno:insN ns s i=false:=by
    cases hb:insN ns s i with
    |false=>rfl
    |true=>exact absurd ((ins_iff hm hsl).1 hb).2 (h6 i m (by omega) (Nat.le_refl _) hm)
   refine W_chk' hno ?_
   exact cup_loop hLi hIn hMo hR T hl hs ha has hsA hc0 hc1 hKo j f (i-1) x e (by omega) h2 (by omega) (by omega) h5 (fun y m2 y1 y2 hy=>h6 y m2 y1 (by omega) hy) h7 h8 h9
theorem cup_ok(hk:10000≤k)(hLi:LisX G)(hIn:InsOK G)(hMo:MoreX G)(hR:CRegOK 200 G):CUpOK (fun _ args (K:LV→OV R)=>g34 G k args K):=by
 intro ns s n a A hv e c K T hl hs ha has hsA hc0 hc1 he
 show W _ K (f34 G k s a (ns.map Nd.v) hv (actV ns.length e) (c-e.length) K)
 unfold f34 l34_0
 have hsl:=Tree.lt hs
 obtain⟨p,q,e1,e2,e3,e4,e5⟩:=par_at T hs (by omega)
 have hap:=anc_par T ha hs has hsA
 have eii:IntKind.i64.wrap ((s:Int)-1)=((s-1:Nat):Int):=by rw[wrap_id (n:=(s:Int)-1) (by omega)];omega
 rw[eii]
 have eD:upN ns s a e=upF ns a ns.length p e:=by unfold upN;rw[Int.toNat_natCast,hs,←e1]
 have hpl:=Tree.lt e2
 refine cup_loop (Q:=fun o=>o=mkV ns c (upN ns s a e)) (Ko:=fun _ _ x y=>K [.sl 1 x,.int .i64 y]) hLi hIn hMo hR T hl hs ha has hsA hc0 hc1 (W_ret rfl) k ns.length (s-1) p e (by omega) (by omega) (by omega) (by omega) (by omega)
  (fun y m y1 y2 hy hc=> ?_) (fun m y1 hm=> ?_) (by omega) eD
 ·have:=anc_par T hy hs (by omega) hc
  omega
 ·rw[e2]at hm;injection hm with hm;subst hm
  exact⟨e5,by omega⟩
def CMeansOK(G:ORC R):Prop:=∀(ns:List Nd) (s:Nat) (n:Nd) (H:List (List Int)) (iv:LV) (l:Int) (K:LV→OV R),Tree ns→ns.length≤1000→ns[s]? =some n→HistW ns H→
 W (fun o=>o=[.sl 1 (ivs (meansN ns H s n)),.sl 1 iv,.int .i64 l]) K (G 33 [.int .i64 s,.sl 7 (ns.map Nd.v),.sl 1 (rws H),.sl 1 iv,.int .i64 l] K)
theorem cmeans_ok(hLi:LisX G)(hHs:HstX G)(hS:LStX G):CMeansOK (fun _ args (K:LV→OV R)=>g33 G k args K):=by
 intro ns s n H iv l K T hl hs hH
 show W _ K (f33 G k s (ns.map Nd.v) (rws H) iv l K)
 unfold f33
 unfold LisX at hLi;unfold HstX at hHs;unfold LStX at hS
 have hkinds:=T.seg.kinds s n hs
 refine W_at (by omega) (nd_atZ hs) (W_nd ?_)
 refine W_call (hHs n _) ?_
 rintro _ rfl
 (repeat(with_reducible apply U1))
 refine W_not (W_dec (fun h4=> ?_) (fun h4=>by rw[means_one (by omega)];exact W_ret rfl))
 have h3:¬n.kind≤3:=by omega
 obtain⟨p,q,e1,e2,e3,e4,e5,_⟩:=means_in T hH hs (by omega)
 have hpt:(ns.map Nd.v)[n.parent.toNat]? =some q.v:=by rw[e1];exact nd_atZ e2
 have hpt2:ns[n.parent.toNat]? =some q:=by rw[e1,Int.toNat_natCast];exact e2
 have hpl:=Tree.lt e2
 rw[rws_len]
 refine W_dec (fun hsl=> ?_) (fun hsl=> ?_)
 ·obtain⟨r,hr⟩:∃r,H[s]? =some r:=⟨_,List.getElem?_eq_getElem (by omega)⟩
  have hrz:(rws H)[((s:Nat):Int).toNat]? =some (.sl 1 (ivs r)):=by rw[Int.toNat_natCast];exact rws_at hr
  have W_atr:∀{F:V→OV R} {E:OV R},W (fun o=>o=[V.sl 1 (ivs (meansN ns H s n)),.sl 1 iv,.int .i64 l]) K (F (.sl 1 (ivs r)))→W (fun o=>o=[V.sl 1 (ivs (meansN ns H s n)),.sl 1 iv,.int .i64 l]) K (bif(decide (0≤((s:Nat):Int))&&decide (((s:Nat):Int)<((H.length:Nat):Int)))then nthK (rws H) ((s:Nat):Int).toNat F else E):=fun{F E} h=>by
   have:=W_at (E:=E) (show(0:Int)≤((s:Nat):Int)by omega) hrz h
   rw[rws_len]at this;exact this
  refine W_atr ?_
  (repeat(with_reducible apply U1))
  refine W_dec (fun hp=> ?_) (fun hp=> ?_)
  ·refine W_atr ?_
   (repeat(with_reducible apply U1))
   refine W_ret ?_
   have:meansN ns H s n=r:=by
    unfold meansN
    rw[if_neg h3,hr]
    cases r with
    |nil=>rw[ivs_len]at hp;simp at hp
    |cons x r=>rfl
   rw[this]
  ·have hm:meansN ns H s n=if q.kind=2 then[q.init]else statesN ns n.parent:=by
    unfold meansN
    rw[if_neg h3,hr]
    cases r with
    |nil=>simp only[hpt2]
    |cons x r=>rw[ivs_len]at hp;simp at hp
   refine W_at (by omega) (nd_atZ hs) (W_nd7 (W_aI ?_))
   refine W_call (hLi _ _ _) ?_
   rintro _ rfl
   (repeat(with_reducible apply U1))
   refine W_not (W_yes (by rw[List.length_map];omega) ?_)
   refine W_at (by omega) hpt (W_nd7 (W_aI ?_))
   refine W_beqI (fun hk=> ?_) (fun hk=> ?_)
   ·refine W_at (by omega) hpt (W_nd7 (W_aI ?_))
    exact W_ret (by rw[hm,if_pos hk];rfl)
   ·refine W_call (hS _ _ _ T (by omega)) ?_
    rintro _ rfl
    (repeat(with_reducible apply U1))
    exact W_ret (by rw[hm,if_neg hk])
 ·have hr:H[s]? =none:=List.getElem?_eq_none (by omega)
  have hm:meansN ns H s n=if q.kind=2 then[q.init]else statesN ns n.parent:=by
   unfold meansN
   rw[if_neg h3,hr]
   simp only[hpt2]
  refine W_at (by omega) (nd_atZ hs) (W_nd7 (W_aI ?_))
  refine W_call (hLi _ _ _) ?_
  rintro _ rfl
  (repeat(with_reducible apply U1))
  refine W_not (W_yes (by rw[List.length_map];omega) ?_)
  refine W_at (by omega) hpt (W_nd7 (W_aI ?_))
  refine W_beqI (fun hk=> ?_) (fun hk=> ?_)
  ·refine W_at (by omega) hpt (W_nd7 (W_aI ?_))
   exact W_ret (by rw[hm,if_pos hk];rfl)
  ·refine W_call (hS _ _ _ T (by omega)) ?_
   rintro _ rfl
   (repeat(with_reducible apply U1))
   exact W_ret (by rw[hm,if_neg hk])
def cst(n:Nd)(c:Int):Int:=if n.kind≤3 then c else c-1
def CDnHOK(G:ORC R):Prop:=∀(ns:List Nd) (s:Nat) (n:Nd) (H:List (List Int)) (e:List Int) (c:Int) (K:LV→OV R),Tree ns→ns.length≤10→ns[s]? =some n→HistW ns H→20001≤c→c≤65536→e.length≤8300→
 W (fun o=>o=mkV ns (cst n c) (entN ns H s n e)) K (G 32 [.int .i64 s,.sl 7 (ns.map Nd.v),.sl 1 (rws H),.sl 1 (actV ns.length e),.int .i64 (c-e.length)] K)
theorem cups_loop(hU:CUpOK G){Ko:LV→LV→LV→Int→OV R}{ns:List Nd}{s p:Nat}{n P:Nd}{hv:LV}{m D:List Int}{c:Int}(T:Tree ns)(hl:ns.length≤10)(hs:ns[s]? =some n)(hp:n.parent=p)(hP:ns[p]? =some P)(hml:m.length≤10)(hm:∀x∈m,InP ns p P x)(hc0:20000≤c)(hc1:c≤65536)(hKo:W Q K (Ko (ns.map Nd.v) hv (actV ns.length D) (c-D.length))):
 ∀(j i:Nat) (e:List Int),m.length-i<j→i≤m.length→e.length+(m.length-i)*100≤9500→D=upsN ns n.parent (m.drop i) e→W Q K (l32_2g G k Ko j s (ivs m) m.length i (ns.map Nd.v) hv (actV ns.length e) (c-e.length))
 |0,i,e,h1,h2,h3,h4=>by omega
 |j+1,i,e,h1,h2,h3,h4=>by
  show W Q K (b32_2 G k (l32_2g G k Ko j) Ko s (ivs m) m.length i (ns.map Nd.v) hv (actV ns.length e) (c-e.length))
  unfold b32_2
  refine W_dec (fun h=> ?_) (fun h=>by
   rw[List.drop_of_length_le (by omega)]at h4
   rw[show D=e from h4]at hKo
   exact hKo)
  obtain⟨x,hx⟩:=get_ex (l:=m) (m:=i) (by omega)
  obtain⟨q,nq,rfl,hn,_,g1,g2⟩:=hm x (List.mem_of_getElem? hx)
  rw[drop_at hx]at h4
  refine W_at (by omega) (ivs_atZ hx) (W_aI ?_)
  refine W_at (by omega) (nd_atZ hs) (W_nd7 (W_aI ?_))
  have hU':=hU
  unfold CUpOK at hU'
  rw[hp]
  refine W_call (hU' ns q nq p P hv e c _ T hl hn hP (by omega) g2 hc0 hc1 (by omega)) ?_
  rintro _ rfl
  unfold mkV
  (repeat(with_reducible apply U1))
  rw[wrap_id (n:=(i:Int)+1) (by omega)]
  have hle:=upN_len T (s:=q) (a:=p) (e:=e)
  have h10:ns.length*ns.length≤10*10:=Nat.mul_le_mul hl hl
  exact cups_loop hU T hl hs hp hP hml hm hc0 hc1 hKo j (i+1) _ (by omega) (by omega) (by omega) (by rw[hp]at h4;rw[hp];exact h4)
theorem cdns_loop(hD:CDnOK 200 G){Ko:Int→LV→LV→LV→LV→Int→OV R}{ns:List Nd}{s p:Nat}{P:Nd}{hv:LV}{m D:List Int}{c:Int}(T:Tree ns)(hl:ns.length≤10)(hml:m.length≤10)(hm:∀x∈m,InP ns p P x)(hc0:20000≤c)(hc1:c≤65536)(hKo:W Q K (Ko s (ivs m) (ns.map Nd.v) hv (actV ns.length D) (c-D.length))):
 ∀(j i:Nat) (e:List Int),m.length-i<j→i≤m.length→e.length+(m.length-i)*10≤8500→D=dnsN ns (m.drop i) e→W Q K (l32_0g G k Ko j s (ivs m) (ivs m) m.length i (ns.map Nd.v) hv (actV ns.length e) (c-e.length))
 |0,i,e,h1,h2,h3,h4=>by omega
 |j+1,i,e,h1,h2,h3,h4=>by
  show W Q K (b32_0 G k (l32_0g G k Ko j) Ko s (ivs m) (ivs m) m.length i (ns.map Nd.v) hv (actV ns.length e) (c-e.length))
  unfold b32_0
  refine W_dec (fun h=> ?_) (fun h=>by
   rw[List.drop_of_length_le (by omega)]at h4
   rw[show D=e from h4]at hKo
   exact hKo)
  obtain⟨x,hx⟩:=get_ex (l:=m) (m:=i) (by omega)
  obtain⟨q,nq,rfl,hn,hk3,g1,g2⟩:=hm x (List.mem_of_getElem? hx)
  rw[drop_at hx]at h4
  refine W_at (by omega) (ivs_atZ hx) (W_aI ?_)
  have hD':=hD
  unfold CDnOK at hD'
  have hql:=T.seg.last q nq hn
  refine W_call (hD' ns q nq hv e c _ T (by omega) hn hk3 (by omega) hc0 hc1 (by omega)) ?_
  rintro _ rfl
  unfold mkV
  (repeat(with_reducible apply U1))
  rw[wrap_id (n:=(i:Int)+1) (by omega)]
  have hle:=dnN_le T (e:=e) hn
  exact cdns_loop hD T hl hml hm hc0 hc1 hKo j (i+1) _ (by omega) (by omega) (by omega) h4
theorem cdnh_ok(hk:10000≤k)(hLi:LisX G)(hMo:MoreX G)(hHs:HstX G)(hD:∀d,d≤200→CDnOK d G∧CRegOK d G)(hM:CMeansOK G)(hU:CUpOK G):CDnHOK (fun _ args (K:LV→OV R)=>g32 G k args K):=by
 intro ns s n H e c K T hl hs hH hc0 hc1 he
 have hla:=T.seg.last s n hs
 have hsl:=Tree.lt hs
 have hkinds:=T.seg.kinds s n hs
 by_cases h3:n.kind≤3
 ·have ee:entN ns H s n e=dnN ns s e:=by unfold entN;rw[if_pos h3]
  have ec:cst n c=c:=by unfold cst;rw[if_pos h3]
  rw[ee,ec]
  exact cdn_ok (d:=200) hLi hMo hHs (fun d' e=>hD d' (by omega)) ns s n (rws H) e c K T (by omega) hs h3 (by omega) (by omega) hc1 (by omega)
 ·show W _ K (f32 G k s (ns.map Nd.v) (rws H) (actV ns.length e) (c-e.length) K)
  unfold f32
  have ee:entN ns H s n e=upsN ns n.parent (meansN ns H s n) (dnsN ns (meansN ns H s n) e):=by unfold entN;rw[if_neg h3]
  have ec:cst n c=c-1:=by unfold cst;rw[if_neg h3]
  rw[ee,ec]
  obtain⟨p,q,e1,e2,e3,e4,e5,m1,m2⟩:=means_in T hH hs (by omega)
  unfold LisX at hLi;unfold MoreX at hMo;unfold HstX at hHs;unfold CMeansOK at hM
  refine W_call (hLi _ _ _) ?_
  rintro _ rfl
  (repeat(with_reducible apply U1))
  refine W_not (W_yes (by rw[List.length_map];omega) ?_)
  refine W_call (hMo _ _ _ _ _ (by omega) (by omega)) ?_
  rintro _ rfl
  (repeat(with_reducible apply U1))
  refine W_not (W_chk rfl ?_)
  refine W_at (by omega) (nd_atZ hs) (W_nd ?_)
  refine W_call (hHs n _) ?_
  rintro _ rfl
  (repeat(with_reducible apply U1))
  refine W_yes (by omega) ?_
  refine W_call (hM ns s n H _ _ _ T (by omega) hs hH) ?_
  rintro _ rfl
  (repeat(with_reducible apply U1))
  have ec2:c-(e.length:Int)-1=(c-1)-(e.length:Int):=by omega
  rw[ec2,ivs_len]
  have hd:=dns_le T hl (e:=e) (Nat.le_trans m2 hl) (fun x hx=>(m1 x hx).nd)
  unfold l32_0 l32_2
  refine cdns_loop (Ko:=fun yi44 yl45 yl46 yl47 yl48 yi49=>l32_2g G k (fun yl74 yl75 yl76 yi77=>K [(.sl 1 yl76),(.int .i64 yi77)]) k yi44 yl45 (yl45.length:Int) 0 yl46 yl47 yl48 yi49) (hD 200 (Nat.le_refl _)).1 T hl (Nat.le_trans m2 hl) m1 (by omega) (by omega) ?_ k 0 e (by omega) (by omega) (by omega) rfl
  rw[ivs_len]
  exact cups_loop (Q:=fun o=>o=mkV ns (c-1) (upsN ns n.parent (meansN ns H s n) (dnsN ns (meansN ns H s n) e))) (Ko:=fun _ _ x y=>K [.sl 1 x,.int .i64 y]) hU T hl hs e1 e2 (Nat.le_trans m2 hl) m1 (by omega) (by omega) (W_ret rfl) k 0 (dnsN ns (meansN ns H s n) e) (by omega) (by omega) (by omega) rfl
def ListX(G:ORC R):Prop:=∀(ns:List Nd) (hv:LV) (e:List Int) (l:Int) (K:LV→OV R),ns.length≤1000→
 W (fun o=>o=[.sl 1 (ivs (ofGo e ns.length)),.sl 1 (actV ns.length e),.int .i64 l]) K (G 35 [.sl 7 (ns.map Nd.v),.sl 1 hv,.sl 1 (actV ns.length e),.int .i64 l] K)
theorem list_loop{Ko:LV→LV→LV→LV→Int→OV R}{ns:List Nd}{hv:LV}{e:List Int}{l:Int}(hl:ns.length≤1000)(hKo:W Q K (Ko (ivs (ofGo e ns.length)) (ns.map Nd.v) hv (actV ns.length e) l)):
 ∀(j i:Nat),ns.length-i<j→i≤ns.length→W Q K (l35_0g G k Ko j (ivs (ofGo e i)) ns.length i (ns.map Nd.v) hv (actV ns.length e) l)
 |0,i,h1,h2=>by omega
 |j+1,i,h1,h2=>by
  show W Q K (b35_0 G k (l35_0g G k Ko j) Ko (ivs (ofGo e i)) ns.length i (ns.map Nd.v) hv (actV ns.length e) l)
  unfold b35_0
  refine W_dec (fun h=> ?_) (fun h=>by rw[show i=ns.length by omega];exact hKo)
  refine W_at (by omega) (by rw[Int.toNat_natCast];exact actV_get (by omega)) ?_
  (repeat(with_reducible apply U1))
  have hgl:=ofGo_len (l:=e) (m:=i)
  have next:∀a,a=ivs (ofGo e (i+1))→W Q K (l35_0g G k Ko j a ns.length (IntKind.i64.wrap ((i:Int)+1)) (ns.map Nd.v) hv (actV ns.length e) l):=fun a ha=>by
   rw[wrap_id (n:=(i:Int)+1) (by omega),ha]
   exact list_loop hl hKo j (i+1) (by omega) (by omega)
  refine W_bool (fun hb=>W_yes (by rw[ivs_len];omega) (next _ (by rw[ofGo,hb];simp[ivs]))) (fun hb=>next _ (by rw[ofGo,hb];simp))
theorem list_ok(hk:10000≤k):ListX (fun _ args (K:LV→OV R)=>g35 G k args K):=by
 intro ns hv e l K hl
 show W _ K (f35 G k (ns.map Nd.v) hv (actV ns.length e) l K)
 unfold f35 l35_0
 rw[actV_len]
 exact list_loop (Q:=fun o=>o=[.sl 1 (ivs (ofGo e ns.length)),.sl 1 (actV ns.length e),.int .i64 l]) (Ko:=fun a _ _ b c=>K [.sl 1 a,.sl 1 b,.int .i64 c]) hl (W_ret rfl) k 0 (by omega) (by omega)
theorem ofGo_ofL{ns:List Nd}{e:List Int}(hl:ns.length≤128)(h:RngL ns e):ofGo e ns.length=ofL e:=by
 have:=ofGo_more (l:=e) (m:=ns.length) (fun x hx=>(h x hx).2) (d:=128-ns.length)
 unfold ofL
 rw[show 128=ns.length+(128-ns.length)by omega,this]
def WayOK(ns:List Nd)(w:Int×Int):Prop:=isN ns w.1=true→isN ns w.2=true→∃A,ns[w.2.toNat]? =some A∧w.2<w.1∧w.1≤A.last
def CEnterOK(G:ORC R):Prop:=∀(ns:List Nd) (ws:List (Int×Int)) (H:List (List Int)) (K:LV→OV R),Tree ns→ns.length≤10→HistW ns H→ws.length≤4→(∀w∈ws,WayOK ns w)→
 W (fun o=>o=[.sl 1 (ivs (ofL (enterN ns H ws)))]) K (G 13 [.sl 7 (ns.map Nd.v),.sl 2 (wysV ws),.sl 1 (rws H)] K)
theorem cent_up(hU:CUpOK G){Ko:LV→LV→Int→Int→LV→LV→LV→Int→OV R}{ns:List Nd}{d:Nat}{A:Nd}{hv q1 q2:LV}{z1 z2 t:Int}{m D:List Int}{c:Int}(T:Tree ns)(hl:ns.length≤10)(hA:ns[d]? =some A)(hml:m.length≤10)(hm:∀x∈m,∃(q:Nat) (n:Nd),x=q∧ns[q]? =some n∧d<q∧(q:Int)≤A.last)(hc0:20000≤c)(hc1:c≤65536)(hKo:W Q K (Ko q1 q2 z1 z2 (ns.map Nd.v) hv (actV ns.length D) (c-D.length))):
 ∀(j i:Nat) (e:List Int),m.length-i<j→i≤m.length→e.length+(m.length-i)*100≤9500→D=upsN ns d (m.drop i) e→W Q K (l13_2g G k Ko j q1 q2 z1 z2 (ivs m) m.length i t d (ns.map Nd.v) hv (actV ns.length e) (c-e.length))
 |0,i,e,h1,h2,h3,h4=>by omega
 |j+1,i,e,h1,h2,h3,h4=>by
  show W Q K (b13_2 G k (l13_2g G k Ko j) Ko q1 q2 z1 z2 (ivs m) m.length i t d (ns.map Nd.v) hv (actV ns.length e) (c-e.length))
  unfold b13_2
  refine W_dec (fun h=> ?_) (fun h=>by
   rw[List.drop_of_length_le (by omega)]at h4
   rw[show D=e from h4]at hKo
   exact hKo)
  obtain⟨x,hx⟩:=get_ex (l:=m) (m:=i) (by omega)
  obtain⟨q,nq,rfl,hn,g1,g2⟩:=hm x (List.mem_of_getElem? hx)
  rw[drop_at hx]at h4
  refine W_at (by omega) (ivs_atZ hx) (W_aI ?_)
  have hU':=hU
  unfold CUpOK at hU'
  refine W_call (hU' ns q nq d A hv e c _ T hl hn hA g1 g2 hc0 hc1 (by omega)) ?_
  rintro _ rfl
  unfold mkV
  (repeat(with_reducible apply U1))
  rw[wrap_id (n:=(i:Int)+1) (by omega)]
  have hle:=upN_len T (s:=q) (a:=d) (e:=e)
  have h10:ns.length*ns.length≤10*10:=Nat.mul_le_mul hl hl
  exact cent_up hU T hl hA hml hm hc0 hc1 hKo j (i+1) _ (by omega) (by omega) (by omega) h4
theorem means_dom{ns:List Nd}(T:Tree ns){H:List (List Int)}(hH:HistW ns H){t d:Nat}{n A:Nd}(ht:ns[t]? =some n)(hA:ns[d]? =some A)(h1:d<t)(h2:(t:Int)≤A.last):∀x∈meansN ns H t n,∃(q:Nat) (m:Nd),x=q∧ns[q]? =some m∧d<q∧(q:Int)≤A.last:=by
 by_cases h3:n.kind≤3
 ·rw[means_one h3]
  exact fun x hx=>⟨t,n,List.mem_singleton.1 hx,ht,h1,h2⟩
 ·obtain⟨p,q,e1,e2,e3,e4,e5,m1,m2⟩:=means_in T hH ht (by omega)
  intro x hx
  obtain⟨r,m,rfl,r1,r2,r3,r4⟩:=m1 x hx
  have hap:=anc_par T hA ht h1 h2
  refine⟨r,m,rfl,r1,by omega,?_⟩
  by_cases hpd:p=d
  ·subst hpd;rw[hA]at e2;injection e2 with e2;rw[e2];exact r4
  ·have hp2:=T.seg.lam d r A m hA r1 (by omega)
   have hp3:p≤r:=by omega
   have hlast:=T.seg.last p q e2
   obtain⟨z,hz⟩:∃z,ns[q.last.toNat]? =some z:=⟨_,List.getElem?_eq_getElem (by omega)⟩
   rcases Int.lt_or_le A.last q.last with k1|k1
   ·exfalso
    have hAl:=T.seg.last d A hA
    obtain⟨y,hy⟩:∃y,ns[(A.last+1).toNat]? =some y:=⟨_,List.getElem?_eq_getElem (by omega)⟩
    have l1:=T.seg.lam p (A.last+1).toNat q y e2 hy (by omega)
    have l2:=T.seg.lam d (A.last+1).toNat A y hA hy (by omega)
    have l3:=T.seg.par (A.last+1).toNat y hy
    omega
   ·omega
theorem cent_loop(hk:10000≤k)(hLi:LisX G)(hD:CDnHOK G)(hM:CMeansOK G)(hU:CUpOK G){Ko:LV→LV→LV→Int→OV R}{ns:List Nd}{H:List (List Int)}{ws:List (Int×Int)}{D:List Int}(T:Tree ns)(hl:ns.length≤10)(hH:HistW ns H)(hwl:ws.length≤4)(hws:∀w∈ws,WayOK ns w)(hKo:∀c:Int,W Q K (Ko (ns.map Nd.v) (rws H) (actV ns.length D) c)):
 ∀(j i:Nat) (e:List Int) (c:Int),ws.length-i<j→i≤ws.length→e.length≤i*2100→65536-(i:Int)≤c→c≤65536→D=(ws.drop i).foldl (wayN ns H) e→W Q K (l13_0g G k Ko j (ns.map Nd.v) (wysV ws) ws.length i (ns.map Nd.v) (rws H) (actV ns.length e) (c-e.length))
 |0,i,e,c,h1,h2,h3,h4,h5,h6=>by omega
 |j+1,i,e,c,h1,h2,h3,h4,h5,h6=>by
  show W Q K (b13_0 G k (l13_0g G k Ko j) Ko (ns.map Nd.v) (wysV ws) ws.length i (ns.map Nd.v) (rws H) (actV ns.length e) (c-e.length))
  unfold b13_0
  refine W_dec (fun h=> ?_) (fun h=>by
   rw[List.drop_of_length_le (by omega)]at h6
   rw[←show D=e from h6]
   exact hKo _)
  obtain⟨w,hw⟩:∃w,ws[i]? =some w:=⟨_,List.getElem?_eq_getElem (by omega)⟩
  rw[drop_at hw,List.foldl_cons]at h6
  have hle:=way_le T hl hH (w:=w) (e:=e)
  have next:∀e' (c':Int),c-1≤c'→c'≤c→e'=wayN ns H e w→W Q K (l13_0g G k Ko j (ns.map Nd.v) (wysV ws) ws.length (IntKind.i64.wrap ((i:Int)+1)) (ns.map Nd.v) (rws H) (actV ns.length e') (c'-e'.length)):=fun e' c' g1 g2 he=>by
   rw[wrap_id (n:=(i:Int)+1) (by omega),he]
   exact cent_loop hk hLi hD hM hU T hl hH hwl hws hKo j (i+1) _ c' (by omega) (by omega) (by rw[Nat.succ_mul];omega) (by omega) (by omega) h6
  have hLi':=hLi
  unfold LisX at hLi'
  refine W_at (by omega) (by rw[Int.toNat_natCast];exact wys_at hw) ?_
  (repeat(with_reducible apply U1))
  refine W_call (hLi' _ _ _) ?_
  rintro _ rfl
  (repeat(with_reducible apply U1))
  rw[List.length_map]
  refine W_not (W_dec (fun i1=> ?_) (fun i1=>next e c (by omega) (Int.le_refl _) (by unfold wayN;rw[if_neg (fun c=>i1 (by have:=c.1;unfold isN at this;exact of_decide_eq_true this))])))
  refine W_call (hLi' _ _ _) ?_
  rintro _ rfl
  (repeat(with_reducible apply U1))
  rw[List.length_map]
  refine W_not (W_dec (fun i2=> ?_) (fun i2=>next e c (by omega) (Int.le_refl _) (by unfold wayN;rw[if_neg (fun c=>i2 (by have:=c.2;unfold isN at this;exact of_decide_eq_true this))])))
  obtain⟨t,ht⟩:∃t:Nat,w.1=t:=⟨w.1.toNat,by omega⟩
  obtain⟨d,hd⟩:∃d:Nat,w.2=d:=⟨w.2.toNat,by omega⟩
  obtain⟨n,hn⟩:∃n,ns[t]? =some n:=⟨_,List.getElem?_eq_getElem (by omega)⟩
  obtain⟨A,a1,a2,a3⟩:=hws w (List.mem_of_getElem? hw) (by unfold isN;exact decide_eq_true i1) (by unfold isN;exact decide_eq_true i2)
  rw[hd,Int.toNat_natCast]at a1
  have ew:wayN ns H e w=upsN ns d (meansN ns H t n) (entN ns H t n e):=by
   unfold wayN isN
   rw[if_pos ⟨decide_eq_true i1,decide_eq_true i2⟩,ht,Int.toNat_natCast,hn,hd]
  have hi3:i≤3:=by omega
  have he8:e.length≤6300:=by omega
  obtain⟨n1,n2⟩:=means_nd T hH hn
  have hen:=ent_le T hl hH (e:=e) hn
  have hD':=hD
  have hM':=hM
  unfold CDnHOK at hD';unfold CMeansOK at hM'
  rw[ht,hd]
  refine W_call (hD' ns t n H e c _ T hl hn hH (by omega) (by omega) (by omega)) ?_
  rintro _ rfl
  unfold mkV
  (repeat(with_reducible apply U1))
  refine W_call (hM' ns t n H _ _ _ T (by omega) hn hH) ?_
  rintro _ rfl
  (repeat(with_reducible apply U1))
  have hcs:c-1≤cst n c∧cst n c≤c:=by unfold cst;split<;>omega
  unfold l13_2
  rw[ivs_len]
  exact cent_up (Ko:=fun a b y z x q g l=>l13_0g G k Ko j a b y (IntKind.i64.wrap (z+1)) x q g l) (z1:=ws.length) (z2:=i) (t:=t) (m:=meansN ns H t n) (D:=upsN ns d (meansN ns H t n) (entN ns H t n e)) hU T hl a1 (Nat.le_trans n2 hl) (means_dom T hH hn a1 (by omega) (by omega)) (by omega) (by omega) (next _ _ hcs.1 hcs.2 ew.symm) k 0 (entN ns H t n e) (by omega) (by omega) (by omega) rfl
theorem cent_ok(hk:10000≤k)(hLi:LisX G)(hD:CDnHOK G)(hM:CMeansOK G)(hU:CUpOK G)(hL:ListX G):CEnterOK (fun _ args (K:LV→OV R)=>g13 G k args K):=by
 intro ns ws H K T hl hH hwl hws
 show W _ K (f13 G k (ns.map Nd.v) (wysV ws) (rws H) K)
 unfold f13 l13_0
 simp only[List.length_map]
 refine W_chk (by simp;omega) ?_
 rw[Int.toNat_natCast,actV_nil,wys_len]
 unfold ListX at hL
 have main:=cent_loop (Q:=fun o=>o=[.sl 1 (ivs (ofL (enterN ns H ws)))]) (K:=K) (k:=k) (D:=enterN ns H ws) (Ko:=fun yl47 yl48 yl49 yi50=>(G 35 [(.sl 7 yl47),(.sl 1 yl48),(.sl 1 yl49),(.int .i64 yi50)] fun o51=>(uL 1 o51 fun l53 r52=>(uL 1 r52 fun l55 r54=>(uI .i64 r54 fun n57 r56=>(unNil r56 (K [(.sl 1 l53)]))))))) hk hLi hD hM hU T hl hH hwl hws (fun c=>by
  refine W_call (hL ns _ _ _ _ (by omega)) ?_
  rintro _ rfl
  (repeat(with_reducible apply U1))
  have hr:RngL ns (enterN ns H ws):=enter_rng T hH (ws:=ws) (e:=[]) (fun x hx=>by cases hx)
  exact W_ret (by rw[ofGo_ofL (by omega) hr])) k 0 [] 65536 (by omega) (by omega) (by simp) (by omega) (by omega) rfl
 exact main
def CBegOK(G:ORC R):Prop:=∀(ns:List Nd) (K:LV→OV R),Tree ns→ns.length≤100→W (fun o=>o=[.sl 1 (ivs (dnN ns 0 []))]) K (G 15 [.sl 7 (ns.map Nd.v)] K)
theorem cbeg_ok(hD:CDnOK 200 G)(hL:ListX G):CBegOK (fun _ args (K:LV→OV R)=>g15 G k args K):=by
 intro ns K T hl
 show W _ K (f15 G k (ns.map Nd.v) K)
 unfold f15
 unfold CDnOK at hD;unfold ListX at hL
 have hpos:=T.pos
 obtain⟨n,hn⟩:∃n,ns[0]? =some n:=⟨_,List.getElem?_eq_getElem (by omega)⟩
 have hr:=T.root n hn
 simp only[List.length_map]
 refine W_chk (by simp;omega) ?_
 rw[Int.toNat_natCast,actV_nil]
 refine W_call (hD ns 0 n [] [] 65536 _ T hl hn (by omega) (by omega) (by omega) (by omega) (by simp;omega)) ?_
 rintro _ rfl
 unfold mkV
 (repeat(with_reducible apply U1))
 refine W_call (hL ns _ _ _ _ (by omega)) ?_
 rintro _ rfl
 (repeat(with_reducible apply U1))
 have hS:=begin_sub T hn
 refine W_ret ?_
 rw[show(((0:Nat):Int))=0 from rfl,ofGo_ofL (by omega) (fun x hx=>sub_rng T hn hS x hx),sub_of T (by omega) hn hS]
end
section
variable {R : Type} {G : ORC R} {k : Nat} {K : LV → OV R} {Q : LV → Prop}
def InsC(ns:List Nd)(C:List Int):Prop:=∀c∈C,∃(q:Nat) (m:Nd),c=q∧ns[q]? =some m
def RemOK(f:FuncId)(G:ORC R):Prop:=∀(ns:List Nd) (C E:List Int) (H:List (List Int)) (K:LV→OV R),Tree ns→ns.length≤1000→C.length≤9000→InsC ns C→E.length≤9000→(∀r∈H,r.length≤9000)→
 W (fun o=>o=[.sl 1 (rws (remN ns C E H))]) K (G f [.sl 7 (ns.map Nd.v),.sl 1 (ivs C),.sl 1 (ivs E),.sl 1 (rws H)] K)
theorem keepC_at{ns:List Nd}{h:Nd}{q:Nat}{m:Nd}(hm:ns[q]? =some m):keepC ns h q=((decide (h.kind=4)&&decide (m.parent=h.parent))||(decide (h.kind=5)&&decide (m.kind=1)&&decide ((q:Int)≠h.parent)&&inN ns q h.parent)):=by
 unfold keepC;rw[Int.toNat_natCast,hm]
theorem ivs_snoc{l:List Int}{x:Int}:ivs l++[.int .i64 x]=ivs (l++[x]):=by rw[ivs_app];rfl
theorem filt_step{ns:List Nd}{h:Nd}{C:List Int}{m:Nat}{c:Int}(hc:C[m]? =some c):(C.take (m+1)).filter (keepC ns h)=(C.take m).filter (keepC ns h)++if keepC ns h c then[c]else[]:=by
 rw[take_snoc hc,filt_snoc]
theorem filt_le{ns:List Nd}{h:Nd}{C:List Int}{m:Nat}:((C.take m).filter (keepC ns h)).length≤C.length:=Nat.le_trans (List.length_filter_le _ _) (by rw[List.length_take];omega)
theorem rrem_in(hI:InOK G){Ko:LV→LV→LV→LV→LV→Int→OV R}{ns:List Nd}{C E:List Int}{H:List (List Int)}{i:Nat}{h:Nd}(hi:ns[i]? =some h)(hC:InsC ns C)(hcl:C.length≤9000)
 (hKo:W Q K (Ko (ns.map Nd.v) (ivs C) (ivs E) (rws H) (mids ns C E H i (C.filter (keepC ns h))) i)):
 ∀(j m:Nat),C.length-m<j→m≤C.length→W Q K (l9_2g G k Ko j (ns.map Nd.v) (ivs C) (ivs E) (rws H) (mids ns C E H i ((C.take m).filter (keepC ns h))) i h.parent m)
 |0,m,h1,h2=>by omega
 |j+1,m,h1,h2=>by
  show W Q K (b9_2 G k (l9_2g G k Ko j) Ko (ns.map Nd.v) (ivs C) (ivs E) (rws H) (mids ns C E H i ((C.take m).filter (keepC ns h))) i h.parent m)
  unfold b9_2
  refine W_dec (fun hl=> ?_) (fun hl=>by rw[ivs_len]at hl;rw[List.take_of_length_le (by omega)];exact hKo)
  rw[ivs_len]at hl
  obtain⟨c,hc⟩:=get_ex (l:=C) (m:=m) (by omega)
  obtain⟨q,n,rfl,hn⟩:=hC c (List.mem_of_getElem? hc)
  have hil:=(List.getElem?_eq_some_iff.1 hi).1
  have hfl:=filt_le (ns:=ns) (h:=h) (C:=C) (m:=m)
  have hst:=filt_step (ns:=ns) (h:=h) hc
  have next:W Q K (l9_2g G k Ko j (ns.map Nd.v) (ivs C) (ivs E) (rws H) (mids ns C E H i ((C.take (m+1)).filter (keepC ns h))) i h.parent (IntKind.i64.wrap ((m:Int)+1))):=by
   rw[wrap_id (n:=(m:Int)+1) (by omega)]
   exact rrem_in hI hi hC hcl hKo j (m+1) (by omega) (by omega)
  have hk:=keepC_at (h:=h) hn
  have stay:keepC ns h q=false→W Q K (l9_2g G k Ko j (ns.map Nd.v) (ivs C) (ivs E) (rws H) (mids ns C E H i ((C.take m).filter (keepC ns h))) i h.parent (IntKind.i64.wrap ((m:Int)+1))):=fun e=>by
   rw[hst,e]at next;simpa using next
  have hset:keepC ns h q=true→((mids ns C E H i ((C.take m).filter (keepC ns h))).set ((i:Nat):Int).toNat .undef).set ((i:Nat):Int).toNat (.sl 1 (ivs ((C.take m).filter (keepC ns h))++[.int .i64 q]))=mids ns C E H i ((C.take (m+1)).filter (keepC ns h)):=fun e=>by
   rw[ivs_snoc,mids_set2,hst,e];rfl
  unfold InOK at hI
  refine W_at (by omega) (ivs_atZ hc) (W_aI ?_)
  refine W_at (by omega) (by rw[Int.toNat_natCast];exact nd_get hi) (W_nd7 (W_aI ?_))
  refine W_beqI (fun k4=> ?_) (fun k4=> ?_)
  ·refine W_at (by omega) (by rw[Int.toNat_natCast];exact nd_get hn) (W_nd7 (W_aI ?_))
   refine W_beqI (fun hp=> ?_) (fun hp=> ?_)
   ·have e:keepC ns h q=true:=by rw[hk];simp[k4,hp]
    refine W_at (by omega) mids_get ?_
    (repeat(with_reducible apply U1))
    refine W_yes (by rw[ivs_len];omega) ?_
    refine W_at (by omega) mids_getU ?_
    rw[hset e];exact next
   ·have e:keepC ns h q=false:=by rw[hk];simp[k4,hp]
    refine W_at (by omega) (by rw[Int.toNat_natCast];exact nd_get hi) (W_nd7 (W_aI ?_))
    exact W_eqN (by omega) (stay e)
  ·refine W_at (by omega) (by rw[Int.toNat_natCast];exact nd_get hi) (W_nd7 (W_aI ?_))
   refine W_beqI (fun k5=> ?_) (fun k5=>stay (by rw[hk];simp[k4,k5]))
   refine W_at (by omega) (by rw[Int.toNat_natCast];exact nd_get hn) (W_nd7 (W_aI ?_))
   refine W_beqI (fun ka=> ?_) (fun ka=>stay (by rw[hk];simp[k4,ka]))
   by_cases hq:(q:Int)=h.parent
   ·exact W_chk' (by simp[hq]) (stay (by rw[hk];simp[k4,hq]))
   ·refine W_chk (by simp[hq]) ?_
    refine W_call (hI _ _ _ _) ?_
    rintro _ rfl
    (repeat(with_reducible apply U1))
    refine W_bool (fun hb=> ?_) (fun hb=>stay (by rw[hk];simp[k4,hb]))
    have e:keepC ns h q=true:=by rw[hk];simp[k5,ka,hq,hb]
    refine W_at (by omega) mids_get ?_
    (repeat(with_reducible apply U1))
    refine W_yes (by rw[ivs_len];omega) ?_
    refine W_at (by omega) mids_getU ?_
    rw[hset e];exact next
theorem get_exA{α:Type}{l:List α}{m:Nat}(h:m<l.length):∃x,l[m]? =some x:=⟨_,List.getElem?_eq_getElem h⟩
theorem remR_at{ns:List Nd}{C E:List Int}{H:List (List Int)}{i:Nat}{h:Nd}(hi:ns[i]? =some h):remR ns C E H i=if h.kind≤3 then[]else if h.parent∈E then C.filter (keepC ns h)else(H[i]?).getD []:=by unfold remR;rw[hi]
theorem has_dec{l:List Int}{x:Int}:hasL l x=decide (x∈l):=by
 by_cases h:x∈l
 ·rw[decide_eq_true h,hasL_iff.2 h]
 ·rw[decide_eq_false h]
  cases e:hasL l x with
  |false=>rfl
  |true=>exact absurd (hasL_iff.1 e) h
theorem rrem_loop(hk:10000≤k)(hI:InOK G)(hS:IsStOK G)(hH:HasOK G){Ko:LV→OV R}{ns:List Nd}{C E:List Int}{H:List (List Int)}(T:Tree ns)(hnl:ns.length≤1000)(hC:InsC ns C)(hcl:C.length≤9000)(hel:E.length≤9000)(hhl:∀r∈H,r.length≤9000)
 (hKo:W Q K (Ko (rws (remN ns C E H)))):
 ∀(j i:Nat),ns.length-i<j→i≤ns.length→W Q K (l9_0g G k Ko j (ns.map Nd.v) (ivs C) (ivs E) (rws H) (pres ns C E H i) i)
 |0,i,h1,h2=>by omega
 |j+1,i,h1,h2=>by
  show W Q K (b9_0 G k (l9_0g G k Ko j) Ko (ns.map Nd.v) (ivs C) (ivs E) (rws H) (pres ns C E H i) i)
  unfold b9_0
  refine W_dec (fun hl=> ?_) (fun hl=>by rw[List.length_map]at hl;rw[show i=ns.length by omega,presN];exact hKo)
  rw[List.length_map]at hl
  obtain⟨h,hi⟩:=get_exA (l:=ns) (m:=i) (by omega)
  have hr:=remR_at (C:=C) (E:=E) (H:=H) hi
  have next:W Q K (l9_0g G k Ko j (ns.map Nd.v) (ivs C) (ivs E) (rws H) (mids ns C E H i (remR ns C E H i)) (IntKind.i64.wrap ((i:Int)+1))):=by
   rw[wrap_id (n:=(i:Int)+1) (by omega),mids_pres (by omega)]
   exact rrem_loop hk hI hS hH T hnl hC hcl hel hhl hKo j (i+1) (by omega) (by omega)
  rw[pres_mid (by omega)]
  have hI':=hI
  unfold IsStOK at hS;unfold HasOK at hH
  refine W_at (by omega) (by rw[Int.toNat_natCast];exact nd_get hi) (W_asAgg ?_)
  refine W_call (hS h _) ?_
  rintro _ rfl
  (repeat(with_reducible apply U1))
  refine W_dec (fun k3=>by rw[hr,if_pos k3]at next;exact next) (fun k3=> ?_)
  rw[if_neg k3]at hr
  refine W_at (by omega) (by rw[Int.toNat_natCast];exact nd_get hi) (W_nd7 (W_aI ?_))
  refine W_call (hH _ _ _ hel) ?_
  rintro _ rfl
  (repeat(with_reducible apply U1))
  rw[has_dec]
  refine W_not (W_dec (fun hp=> ?_) (fun hp=> ?_))
  ·rw[if_pos hp]at hr
   rw[hr]at next
   unfold l9_2
   exact rrem_in (Ko:=fun a b c d e f=>l9_0g G k Ko j a b c d e (IntKind.i64.wrap (f+1))) hI' hi hC hcl next k 0 (by omega) (by omega)
  ·rw[if_neg hp]at hr
   refine W_dec (fun hh=> ?_) (fun hh=> ?_)
   ·rw[rws_len]at hh
    obtain⟨r,hrr⟩:=get_exA (l:=H) (m:=i) (by omega)
    have hrl:=hhl r (List.mem_of_getElem? hrr)
    rw[hr,hrr]at next
    refine W_at (by omega) (by rw[Int.toNat_natCast];exact rws_at hrr) ?_
    (repeat(with_reducible apply U1))
    refine W_chk (by rw[ivs_len];simp;omega) (W_chk ivs_plains ?_)
    refine W_at (by omega) mids_get ?_
    rw[List.nil_append,mids_set]
    exact next
   ·rw[rws_len]at hh
    rw[hr,List.getElem?_eq_none (by omega)]at next
    exact next
theorem rrem_ok(hk:10000≤k)(hI:InOK G)(hS:IsStOK G)(hH:HasOK G):RemOK 9 (fun _ args (K:LV→OV R)=>g9 G k args K):=by
 intro ns C E H K T hnl hcl hC hel hhl
 show W _ K (f9 G k (ns.map Nd.v) (ivs C) (ivs E) (rws H) K)
 unfold f9 l9_0
 simp only[List.length_map]
 refine W_chk (by simp;omega) ?_
 rw[Int.toNat_natCast,←pres0 (C:=C) (E:=E) (H:=H)]
 exact rrem_loop (Q:=fun o=>o=[.sl 1 (rws (remN ns C E H))]) (Ko:=fun x=>K [.sl 1 x]) hk hI hS hH T hnl hC hcl hel hhl (W_ret rfl) k 0 (by omega) (by omega)
end
section
variable {R : Type} {G : ORC R} {k : Nat} {K : LV → OV R}
def SameOK(G:ORC R):Prop:=∀(a b:List Int) (K:LV→OV R),a.length≤9000→W (fun o=>o=[.bool (decide (a=b))]) K (G 12 [.sl 1 (ivs a),.sl 1 (ivs b)] K)
theorem ivs_get{l:List Int}{i:Nat}{n:Int}(h:l[i]? =some n):(ivs l)[i]? =some (.int .i64 n):=by unfold ivs;rw[List.getElem?_map,h];rfl
theorem same_loop{Q:LV→Prop}{K:LV→OV R}{Ko:Unit→OV R}{Kr:Bool→OV R}{a b:List Int}(hl:a.length=b.length)(h9:a.length≤9000)(hKo:a=b→W Q K (Ko ()))(hKr:a≠b→W Q K (Kr false)):
 ∀(j m:Nat),a.length-m<j→m≤a.length→(∀i,i<m→a[i]? =b[i]?)→W Q K (l12_0g G k Ko Kr j (ivs a) (ivs b) m)
 |0,m,h1,h2,h3=>by omega
 |j+1,m,h1,h2,h3=>by
  show W Q K (b12_0 G k (l12_0g G k Ko Kr j) Ko Kr (ivs a) (ivs b) m)
  unfold b12_0
  simp only[ivs_len]
  refine W_dec (fun h=> ?_) (fun h=>hKo (List.ext_getElem? fun i=> ?_))
  ·obtain⟨x,hx⟩:∃x,a[m]? =some x:=⟨_,List.getElem?_eq_getElem (by omega)⟩
   obtain⟨y,hy⟩:∃y,b[m]? =some y:=⟨_,List.getElem?_eq_getElem (by omega)⟩
   refine W_and (W_yes (by omega) (W_yes (by omega) (W_nth (by rw[ivs_len];omega) (fun v hv _=> ?_))))
   rw[Int.toNat_natCast,ivs_get hx,Option.some.injEq]at hv;rw[←hv]
   refine W_aI (W_and (W_yes (by omega) (W_yes (by omega) (W_nth (by rw[ivs_len];omega) (fun v hv _=> ?_)))))
   rw[Int.toNat_natCast,ivs_get hy,Option.some.injEq]at hv;rw[←hv]
   refine W_aI ?_
   by_cases e:x=y
   ·subst e
    refine W_chk' (by simp) ?_
    rw[wrap_id (n:=(m:Int)+1) (by omega)]
    refine same_loop hl h9 hKo hKr j (m+1) (by omega) (by omega) (fun i hi=> ?_)
    by_cases hm:i=m
    ·rw[hm,hx,hy]
    ·exact h3 i (by omega)
   ·refine W_chk (by simp[e]) (hKr fun he=> ?_)
    rw[he,hy]at hx;injection hx with hx;exact e hx.symm
  ·by_cases hi:i<m
   ·exact h3 i hi
   ·rw[List.getElem?_eq_none (by omega),List.getElem?_eq_none (by omega)]
theorem same_ok(hk:10000≤k):SameOK (fun _ args (K:LV→OV R)=>g12 G k args K):=by
 intro a b K h9
 show W _ K (f12 G k (ivs a) (ivs b) K)
 unfold f12
 simp only[ivs_len]
 by_cases hl:a.length=b.length
 ·refine W_chk' (by simp[hl]) ?_
  unfold l12_0
  exact same_loop (Q:=fun o=>o=[.bool (decide (a=b))]) (K:=K) (Ko:=fun _=>K [.bool true]) (Kr:=fun x=>K [.bool x]) hl h9 (fun e=>W_ret (by rw[decide_eq_true e])) (fun e=>W_ret (by rw[decide_eq_false e])) k 0 (by omega) (by omega) (fun i hi=>by omega)
 ·refine W_chk (by simp;omega) (W_ret ?_)
  rw[decide_eq_false (fun h=>hl (by rw[h]))]
end
section
variable {R : Type} {G : ORC R} {k : Nat} {K : LV → OV R}
def LegalOK(f:FuncId)(G:ORC R):Prop:=∀(ns:List Nd) (conf:List Int) (K:LV→OV R),Tree ns→ns.length≤1000→conf.length≤9000→W (fun o=>∃b,o=[.bool b]∧(b=true↔LegalP ns conf)) K (G f [.sl 7 (ns.map Nd.v),.sl 1 (ivs conf)] K)
end
section
variable {R : Type} {G : ORC R} {k : Nat} {K : LV → OV R}
def HistOK(G:ORC R):Prop:=∀(n:Int) (K:LV→OV R),W (fun o=>o=[.bool (decide (n=4∨n=5))]) K (G 41 [.int .i64 n] K)
theorem hist_ok:HistOK (fun _ args (K:LV→OV R)=>g41 G k args K):=by
 intro n K
 show W _ K (f41 G k n K)
 unfold f41
 refine W_beqI (fun h=>W_ret (by subst h;rfl)) (fun h=>W_ret ?_)
 by_cases h5:n=5
 ·subst h5;rfl
 ·rw[beq_eq_false_iff_ne.2 h5,decide_eq_false (by omega)]
end
section
variable {R : Type} {G : ORC R} {k : Nat} {K : LV → OV R}
theorem act_at{n:Nat}{s:List Int}{i:Int}(h0:0≤i)(h:i<n):(actV n s)[i.toNat]? =some (.bool (hasL s i)):=by
 rw[actV_get (by omega),show((i.toNat:Nat):Int)=i by omega]
theorem clegal_loop0(hI:CIsOK G)(hH:HistOK G){Q:LV→Prop}{K:LV→OV R}{Ko:LV→LV→LV→OV R}{Kr:Bool→OV R}{ns:List Nd}{conf:List Int}(T:Tree ns)(hl:ns.length≤1000)(hcl:conf.length≤9000)
 (hKo:(∀(i:Nat) c,conf[i]? =some c→StepA ns conf i c)→W Q K (Ko (ns.map Nd.v) (ivs conf) (actV ns.length conf))) (hKr:¬LegalP ns conf→W Q K (Kr false)):
 ∀(j m:Nat),conf.length-m<j→m≤conf.length→(∀(i:Nat) c,i<m→conf[i]? =some c→StepA ns conf i c)→W Q K (l17_0g G k Ko Kr j (ns.map Nd.v) (ivs conf) (actV ns.length (conf.take m)) (ivs conf) conf.length m)
 |0,m,h1,h2,h3=>by omega
 |j+1,m,h1,h2,h3=>by
  show W Q K (b17_0 G k (l17_0g G k Ko Kr j) Ko Kr (ns.map Nd.v) (ivs conf) (actV ns.length (conf.take m)) (ivs conf) conf.length m)
  unfold b17_0
  refine W_dec (fun h=> ?_) (fun h=>by rw[List.take_of_length_le (by omega)];exact hKo fun i c hc=>h3 i c (by have:=(List.getElem?_eq_some_iff.1 hc).1;omega) hc)
  obtain⟨c,hc⟩:=get_ex (l:=conf) (m:=m) (by omega)
  unfold CIsOK at hI;unfold HistOK at hH
  have bad:(LegalP ns conf→False)→W Q K (Kr false):=hKr
  refine W_at (by omega) (ivs_atZ hc) (W_aI ?_)
  refine W_call (hI _ _ _) ?_
  rintro _ rfl
  (repeat(with_reducible apply U1))
  refine W_not (W_dec (fun hr=> ?_) (fun hr=>bad fun hh=>hr (by rw[List.length_map];exact(hh.2 m c hc).1.1)))
  rw[List.length_map]at hr
  obtain⟨n,hn⟩:∃n,ns[c.toNat]? =some n:=⟨_,List.getElem?_eq_getElem (by omega)⟩
  have hg:(ns.map Nd.v)[c.toNat]? =some n.v:=nd_get hn
  have hkinds:=T.seg.kinds _ n hn
  have hpar:=T.seg.par _ n hn
  have next:StepA ns conf m c→W Q K (l17_0g G k Ko Kr j (ns.map Nd.v) (ivs conf) (List.set (actV ns.length (conf.take m)) c.toNat (.bool true)) (ivs conf) conf.length (IntKind.i64.wrap ((m:Int)+1))):=fun hsa=>by
   rw[wrap_id (n:=(m:Int)+1) (by omega),actV_set hr.1 (by omega),←take_snoc hc]
   refine clegal_loop0 hI hH T hl hcl hKo hKr j (m+1) (by omega) (by omega) fun i c' hi hc'=> ?_
   by_cases e:i=m
   ·subst e;rw[hc]at hc';cases hc';exact hsa
   ·exact h3 i c' (by omega) hc'
  have hact:(actV ns.length (conf.take m))[c.toNat]? =some (.bool (hasL (conf.take m) c)):=act_at hr.1 hr.2
  refine W_dec (fun h0=> ?_) (fun h0=> ?_)
  ·obtain⟨p,hp⟩:=get_ex (l:=conf) (m:=m-1) (by omega)
   rw[wrap_id (n:=(m:Int)-1) (by omega)]
   refine W_at (by omega) (by rw[show((m:Int)-1).toNat=m-1 by omega];exact ivs_at hp) (W_aI ?_)
   refine W_dec (fun hle=>bad fun hh=> ?_) (fun hle=> ?_)
   ·have:=(hh.2 m c hc).1.2.1 p (by omega) hp;omega
   have hasc:∀q,0<m→conf[m-1]? =some q→q<c:=fun q _ hq=>by rw[hp]at hq;cases hq;omega
   refine W_at (by omega) hg (W_nd7 (W_aI ?_))
   refine W_call (hH n.kind _) ?_
   rintro _ rfl
   (repeat(with_reducible apply U1))
   refine W_dec (fun hk3=>bad fun hh=> ?_) (fun hk3=> ?_)
   ·have:=((hh.2 m c hc).1.2.2 n hn).1;omega
   refine W_dec (fun hc0=> ?_) (fun hc0=> ?_)
   ·have hp0:=T.par0 _ n hn (by omega)
    refine W_at (by omega) hg (W_nd7 (W_aI ?_))
    refine W_call (hI _ _ _) ?_
    rintro _ rfl
    (repeat(with_reducible apply U1))
    refine W_not (W_yes (by rw[List.length_map];omega) ?_)
    refine W_at (by omega) hg (W_nd7 (W_aI ?_))
    refine W_at (by omega) (act_at (by omega) (by omega)) (W_asBool ?_)
    refine W_not (W_bool (fun hb=> ?_) (fun hb=>bad fun hh=> ?_))
    ·refine W_at (by omega) hact ?_
     exact next ⟨hr,hasc,fun n' hn'=>by rw[hn]at hn';cases hn';exact⟨by omega,fun _=>List.mem_of_mem_take (hasL_iff.1 hb)⟩⟩
    ·have:=asc_take (fun i c hc=>(hh.2 i c hc).1) hc (((hh.2 m c hc).1.2.2 n hn).2 (by omega)) (by omega)
     rw[←hasL_iff,hb]at this;cases this
   ·refine W_at (by omega) hact ?_
    exact next ⟨hr,hasc,fun n' hn'=>by rw[hn]at hn';cases hn';exact⟨by omega,fun h=>absurd h hc0⟩⟩
  ·have hasc:∀q,0<m→conf[m-1]? =some q→q<c:=fun q h _=>by omega
   refine W_at (by omega) hg (W_nd7 (W_aI ?_))
   refine W_call (hH n.kind _) ?_
   rintro _ rfl
   (repeat(with_reducible apply U1))
   refine W_dec (fun hk3=>bad fun hh=> ?_) (fun hk3=> ?_)
   ·have:=((hh.2 m c hc).1.2.2 n hn).1;omega
   refine W_dec (fun hc0=> ?_) (fun hc0=> ?_)
   ·have hp0:=T.par0 _ n hn (by omega)
    refine W_at (by omega) hg (W_nd7 (W_aI ?_))
    refine W_call (hI _ _ _) ?_
    rintro _ rfl
    (repeat(with_reducible apply U1))
    refine W_not (W_yes (by rw[List.length_map];omega) ?_)
    refine W_at (by omega) hg (W_nd7 (W_aI ?_))
    refine W_at (by omega) (act_at (by omega) (by omega)) (W_asBool ?_)
    refine W_not (W_bool (fun hb=> ?_) (fun hb=>bad fun hh=> ?_))
    ·refine W_at (by omega) hact ?_
     exact next ⟨hr,hasc,fun n' hn'=>by rw[hn]at hn';cases hn';exact⟨by omega,fun _=>List.mem_of_mem_take (hasL_iff.1 hb)⟩⟩
    ·have:=asc_take (fun i c hc=>(hh.2 i c hc).1) hc (((hh.2 m c hc).1.2.2 n hn).2 (by omega)) (by omega)
     rw[←hasL_iff,hb]at this;cases this
   ·refine W_at (by omega) hact ?_
    exact next ⟨hr,hasc,fun n' hn'=>by rw[hn]at hn';cases hn';exact⟨by omega,fun h=>absurd h hc0⟩⟩
theorem clegal_loop4(hH:HistOK G){Q:LV→Prop}{K:LV→OV R}{Ko:LV→LV→Int→Int→Bool→LV→Int→Int→OV R}{ns:List Nd}{conf:List Int}{c:Int}{x1 x2:Int}(T:Tree ns)(hl:ns.length≤1000)(hcl:conf.length≤9000)
 (hKo:W Q K (Ko (ns.map Nd.v) (actV ns.length conf) c (((statesN ns c).filter (hasL conf)).length:Nat) ((statesN ns c).all (hasL conf)) (ivs conf) x1 x2)):
 ∀(j m:Nat),(kidsN ns c).length-m<j→m≤(kidsN ns c).length→
  W Q K (l17_4g G k Ko j (ns.map Nd.v) (actV ns.length conf) c (((((kidsN ns c).take m).filter (isSt ns)).filter (hasL conf)).length:Nat) ((((kidsN ns c).take m).filter (isSt ns)).all (hasL conf)) (ivs conf) x1 x2 (ivs (kidsN ns c)) (kidsN ns c).length m)
 |0,m,h1,h2=>by omega
 |j+1,m,h1,h2=>by
  show W Q K (b17_4 G k (l17_4g G k Ko j) Ko (ns.map Nd.v) (actV ns.length conf) c (((((kidsN ns c).take m).filter (isSt ns)).filter (hasL conf)).length:Nat) ((((kidsN ns c).take m).filter (isSt ns)).all (hasL conf)) (ivs conf) x1 x2 (ivs (kidsN ns c)) (kidsN ns c).length m)
  unfold b17_4
  have hkl:(kidsN ns c).length≤ns.length:=kidsGo_len
  refine W_dec (fun h=> ?_) (fun h=>by rw[List.take_of_length_le (by omega)];exact hKo)
  obtain⟨x,hx⟩:=get_ex (l:=kidsN ns c) (m:=m) (by omega)
  obtain⟨q,n,rfl,hn,hq,hst⟩:=kid_at hx
  have hkinds:=T.seg.kinds _ n hn
  unfold HistOK at hH
  have hcnt:((((kidsN ns c).take m).filter (isSt ns)).filter (hasL conf)).length≤1000:=Nat.le_trans (List.length_filter_le _ _) (Nat.le_trans (List.length_filter_le _ _) (by rw[List.length_take];omega))
  have next:∀(a:Int) (b:Bool),a=(((((kidsN ns c).take (m+1)).filter (isSt ns)).filter (hasL conf)).length:Nat)→b=((((kidsN ns c).take (m+1)).filter (isSt ns)).all (hasL conf))→W Q K (l17_4g G k Ko j (ns.map Nd.v) (actV ns.length conf) c a b (ivs conf) x1 x2 (ivs (kidsN ns c)) (kidsN ns c).length (IntKind.i64.wrap ((m:Int)+1))):=fun a b ha hb=>by
   rw[wrap_id (n:=(m:Int)+1) (by omega),ha,hb]
   exact clegal_loop4 hH T hl hcl hKo j (m+1) (by omega) (by omega)
  have hg:(ns.map Nd.v)[((q:Nat):Int).toNat]? =some n.v:=by rw[Int.toNat_natCast];exact nd_get hn
  have hact:(actV ns.length conf)[((q:Nat):Int).toNat]? =some (.bool (hasL conf q)):=act_at (by omega) (by omega)
  refine W_at (by omega) (ivs_atZ hx) (W_aI ?_)
  refine W_at (by omega) hg (W_nd7 (W_aI ?_))
  refine W_call (hH n.kind _) ?_
  rintro _ rfl
  (repeat(with_reducible apply U1))
  rw[take_snoc hx,filt_snoc,hst]at next
  refine W_dec (fun hh=> ?_) (fun hh=> ?_)
  ·rw[decide_eq_false (show¬n.kind≤3 by omega)]at next
   exact next _ _ (by simp) (by simp)
  rw[decide_eq_true (show n.kind≤3 by omega)]at next
  refine W_at (by omega) hact (W_asBool ?_)
  have e1:∀l:List Int,(if true=true then[(q:Int)]else l)=[(q:Int)]:=fun l=>rfl
  rw[e1]at next
  refine W_bool (fun hb=> ?_) (fun hb=> ?_)
  ·rw[wrap_id (n:=(((((kidsN ns c).take m).filter (isSt ns)).filter (hasL conf)).length:Int)+1) (by omega)]
   refine W_bool (fun ha=> ?_) (fun ha=> ?_)
   ·refine W_at (by omega) hact (W_asBool ?_)
    exact next _ _ (by rw[List.filter_append];simp[hb]) (by rw[List.all_append,ha];simp)
   ·exact next _ _ (by rw[List.filter_append];simp[hb]) (by rw[List.all_append,ha];simp)
  ·refine W_bool (fun ha=> ?_) (fun ha=> ?_)
   ·refine W_at (by omega) hact (W_asBool ?_)
    exact next _ _ (by rw[List.filter_append];simp[hb]) (by rw[List.all_append,ha];simp)
   ·exact next _ _ (by rw[List.filter_append];simp[hb]) (by rw[List.all_append,ha];simp)
theorem clegal_loop2(hk:10000≤k)(hH:HistOK G)(hK:KidsOK 42 G){Q:LV→Prop}{K:LV→OV R}{Ko:Unit→OV R}{Kr:Bool→OV R}{ns:List Nd}{conf:List Int}(T:Tree ns)(hl:ns.length≤1000)(hcl:conf.length≤9000)
 (hsa:∀(i:Nat) c,conf[i]? =some c→StepA ns conf i c)
 (hKo:(∀(i:Nat) c,conf[i]? =some c→StepB ns conf c)→W Q K (Ko ())) (hKr:¬LegalP ns conf→W Q K (Kr false)):
 ∀(j m:Nat),conf.length-m<j→m≤conf.length→(∀(i:Nat) c,i<m→conf[i]? =some c→StepB ns conf c)→W Q K (l17_2g G k Ko Kr j (ns.map Nd.v) (actV ns.length conf) (ivs conf) conf.length m)
 |0,m,h1,h2,h3=>by omega
 |j+1,m,h1,h2,h3=>by
  show W Q K (b17_2 G k (l17_2g G k Ko Kr j) Ko Kr (ns.map Nd.v) (actV ns.length conf) (ivs conf) conf.length m)
  unfold b17_2
  refine W_dec (fun h=> ?_) (fun h=>hKo fun i c hc=>h3 i c (by have:=(List.getElem?_eq_some_iff.1 hc).1;omega) hc)
  obtain⟨c,hc⟩:=get_ex (l:=conf) (m:=m) (by omega)
  have hr:=(hsa m c hc).1
  obtain⟨n,hn⟩:∃n,ns[c.toNat]? =some n:=⟨_,List.getElem?_eq_getElem (by omega)⟩
  have hg:(ns.map Nd.v)[c.toNat]? =some n.v:=nd_get hn
  have hKK:=hK
  unfold KidsOK at hKK
  refine W_at (by omega) (ivs_atZ hc) (W_aI ?_)
  refine W_call (hKK _ _ _ hl) ?_
  rintro _ rfl
  (repeat(with_reducible apply U1))
  unfold l17_4
  have hkl:(kidsN ns c).length≤ns.length:=kidsGo_len
  rw[ivs_len]
  refine clegal_loop4 hH T hl hcl ?_ k 0 (by omega) (by omega)
  have next:StepB ns conf c→W Q K (l17_2g G k Ko Kr j (ns.map Nd.v) (actV ns.length conf) (ivs conf) conf.length (IntKind.i64.wrap ((m:Int)+1))):=fun hsb=>by
   rw[wrap_id (n:=(m:Int)+1) (by omega)]
   refine clegal_loop2 hk hH hK T hl hcl hsa hKo hKr j (m+1) (by omega) (by omega) fun i c' hi hc'=> ?_
   by_cases e:i=m
   ·subst e;rw[hc]at hc';cases hc';exact hsb
   ·exact h3 i c' (by omega) hc'
  have hall:(statesN ns c).all (hasL conf)=true↔(andL (statesN ns c) conf).length=(statesN ns c).length:=by
   rw[andL_eq,List.all_eq_true,List.length_filter_eq_length_iff]
  have bad:¬StepB ns conf c→W Q K (Kr false):=fun h=>hKr fun hh=>h (hh.2 m c hc).2
  refine W_at (by omega) hg (W_nd7 (W_aI ?_))
  refine W_beqI (fun h2=> ?_) (fun h2=> ?_)
  ·refine W_not (W_beqI (fun e1=> ?_) (fun e1=>bad fun hh=>e1 (by rw[←andL_eq,(hh n hn).1 h2];rfl)))
   refine W_at (by omega) hg (W_nd7 (W_aI ?_))
   exact W_eqN (by omega) (next fun n' hn'=>by rw[hn]at hn';cases hn';exact⟨fun _=>by rw[andL_eq];omega,fun e=>by omega⟩)
  ·refine W_at (by omega) hg (W_nd7 (W_aI ?_))
   refine W_beqI (fun h4=> ?_) (fun h4=>next fun n' hn'=>by rw[hn]at hn';cases hn';exact⟨fun e=>absurd e h2,fun e=>absurd e h4⟩)
   refine W_not (W_bool (fun hb=>next fun n' hn'=>by rw[hn]at hn';cases hn';exact⟨fun e=>absurd e h2,fun _=>hall.1 hb⟩) (fun hb=>bad fun hh=> ?_))
   have:=hall.2 ((hh n hn).2 h4)
   rw[hb]at this;cases this
theorem clegal_ok(hk:10000≤k)(hI:CIsOK G)(hH:HistOK G)(hK:KidsOK 42 G):LegalOK 17 (fun _ args (K:LV→OV R)=>g17 G k args K):=by
 intro ns conf K T hl hcl
 show W _ K (f17 G k (ns.map Nd.v) (ivs conf) K)
 unfold f17
 refine W_beqI (fun h=>W_ret ⟨false,rfl,by simp;intro hh;have:=legal_head hh;have:=(List.getElem?_eq_some_iff.1 this).1;rw[ivs_len]at h;omega⟩) (fun h=> ?_)
 rw[ivs_len]at h
 obtain⟨x,hx⟩:=get_ex (l:=conf) (m:=0) (by omega)
 refine W_yes (by rw[ivs_len];omega) ?_
 refine W_nth (by rw[ivs_len];omega) (fun v hv _=> ?_)
 rw[ivs_at hx]at hv
 cases hv
 refine W_aI ?_
 refine W_not (W_beqI (fun h0=> ?_) (fun h0=>W_ret ⟨false,rfl,by simp;intro hh;have:=legal_head hh;rw[hx]at this;cases this;exact h0 rfl⟩))
 subst h0
 rw[List.length_map,Int.toNat_natCast,actV_nil]
 refine W_chk (by simp;omega) ?_
 unfold l17_0
 rw[ivs_len]
 refine clegal_loop0 hI hH T hl hcl (fun hsa=> ?_) (fun h=>W_ret ⟨false,rfl,by simp;exact h⟩) k 0 (by omega) (by omega) (fun i c hi=>by omega)
 unfold l17_2
 rw[ivs_len]
 exact clegal_loop2 hk hH hK T hl hcl hsa (fun hsb=>W_ret ⟨true,rfl,by simp;exact⟨List.mem_of_getElem? hx,fun i c hc=>⟨hsa i c hc,hsb i c hc⟩⟩⟩) (fun h=>W_ret ⟨false,rfl,by simp;exact h⟩) k 0 (by omega) (by omega) (fun i c hi=>by omega)
end
section
variable {R : Type} {G : ORC R} {k : Nat} {K : LV → OV R} {Q : LV → Prop}
theorem rem_hist{ns:List Nd}(T:Tree ns){n0:Nd}(h0:ns[0]? =some n0){C E:List Int}{H:List (List Int)}(hC:Sub ns 0 n0 C)(hH:HistW ns H):HistW ns (remN ns C E H):=by
 intro s n p q r hs h4 hp hq hr
 have hsl:=Tree.lt hs
 unfold remN at hr
 rw[List.getElem?_map,List.getElem?_range hsl,Option.map_some]at hr
 injection hr with hr
 unfold remR at hr
 simp only[hs]at hr
 rw[if_neg (by omega)]at hr
 split at hr
 ·subst hr
  have hCl:C.length≤ns.length:=asc_len hC.asc fun x hx=>by have:=hC.rng x hx;have:=T.seg.last 0 n0 h0;omega
  refine⟨fun x hx=> ?_,Nat.le_trans (List.length_filter_le _ _) hCl⟩
  obtain⟨hxC,hk⟩:=List.mem_filter.1 hx
  have hrx:=hC.rng x hxC
  obtain⟨m,hm,hm3,_⟩:=hC.each x hxC
  obtain⟨z,rfl⟩:∃z:Nat,x=z:=⟨x.toNat,by omega⟩
  rw[Int.toNat_natCast]at hm
  rw[keepC_at hm]at hk
  simp only[Bool.or_eq_true,Bool.and_eq_true,decide_eq_true_eq]at hk
  refine⟨z,m,rfl,hm,hm3,?_⟩
  rcases hk with⟨_,hk⟩|⟨⟨⟨_,_⟩,hk1⟩,hk2⟩
  ·have:=kid_in T hq hm (by omega)
   omega
  ·have hr2:=inN_rng hk2
   rw[hp]at hk2 hk1
   unfold inN at hk2
   rw[Int.toNat_natCast,hq]at hk2
   simp only[Bool.and_eq_true,decide_eq_true_eq]at hk2
   omega
 ·cases e:H[s]? with
  |none=>rw[e]at hr;subst hr;exact⟨fun x hx=>(by cases hx),Nat.zero_le _⟩
  |some r'=>
   rw[e]at hr
   subst hr
   exact hH s n p q _ hs h4 hp hq e
theorem hist_nil{ns:List Nd}:HistW ns []:=fun s n p q r _ _ _ _ hr=>by simp at hr
theorem wys_snoc{l:List (Int×Int)}{a b:Int}:wysV l++[.agg [.int .i64 a,.int .i64 b]]=wysV (l++[(a,b)]):=by simp[wysV]
theorem dom_way{ns:List Nd}{f t:Int}:WayOK ns (t,domN ns f t):=fun _ h2=>by
 unfold isN at h2
 rw[decide_eq_true_eq]at h2
 obtain⟨i,n,e,hn,q1,q2,q3,q4,q5⟩:=dom_of (a:=f) (b:=t) h2.1
 refine⟨n,by show ns[(domN ns f t).toNat]? =_;rw[e,Int.toNat_natCast];exact hn,by show domN ns f t<t;omega,?_⟩
 unfold inN at q5
 rw[Int.toNat_natCast,hn]at q5
 simp only[Bool.and_eq_true,decide_eq_true_eq]at q5
 exact q5.2
theorem ways_loop(hP:PlaceS G)(hD:DomOK G){Ko:LV→LV→LV→LV→OV R}{ns:List Nd}{h to:LV}(hto:IntsS to)(htl:to.length≤8)(hn0:0<ns.length)(hnl:ns.length≤1000)
 (hKo:∀ws:List (Int×Int),ws.length≤4→(∀w∈ws,WayOK ns w)→W Q K (Ko (ns.map Nd.v) h (wysV ws) (wysV ws))):
 ∀(j i:Nat) (ws:List (Int×Int)),to.length+2-i<j→i≤to.length+1→2*ws.length=i→(∀w∈ws,WayOK ns w)→W Q K (l3_0g G k Ko j to (ns.map Nd.v) h (wysV ws) (wysV ws) i)
 |0,i,ws,h1,h2,h3,h4=>by omega
 |j+1,i,ws,h1,h2,h3,h4=>by
  show W Q K (b3_0 G k (l3_0g G k Ko j) Ko to (ns.map Nd.v) h (wysV ws) (wysV ws) i)
  unfold b3_0
  rw[wrap_id (n:=(i:Int)+1) (by omega)]
  refine W_dec (fun hl=> ?_) (fun hl=>hKo ws (by omega) h4)
  obtain⟨v1,hv1⟩:=get_exA (l:=to) (m:=i) (by omega)
  obtain⟨v2,hv2⟩:=get_exA (l:=to) (m:=i+1) (by omega)
  obtain⟨a,rfl,_⟩:=hto v1 (List.mem_of_getElem? hv1)
  obtain⟨b,rfl,_⟩:=hto v2 (List.mem_of_getElem? hv2)
  have hP':=hP
  have hD':=hD
  unfold PlaceS at hP';unfold DomOK at hD'
  refine W_at (by omega) (by rw[Int.toNat_natCast];exact hv1) (W_aI ?_)
  refine W_call (hP' _ _ _ (by rw[List.length_map];omega) (by rw[List.length_map];omega)) ?_
  rintro _ ⟨f,rfl,_,_⟩
  (repeat(with_reducible apply U1))
  refine W_at (by omega) (by rw[show((i:Int)+1).toNat=i+1 by omega];exact hv2) (W_aI ?_)
  refine W_call (hP' _ _ _ (by rw[List.length_map];omega) (by rw[List.length_map];omega)) ?_
  rintro _ ⟨t,rfl,_,_⟩
  (repeat(with_reducible apply U1))
  refine W_call (hD' _ _ _ _ hnl) ?_
  rintro _ rfl
  (repeat(with_reducible apply U1))
  refine W_yes (by rw[wys_len];omega) (W_yes (by rw[wys_len];omega) ?_)
  rw[wrap_id (n:=(i:Int)+2) (by omega),wys_snoc]
  refine ways_loop hP hD hto htl hn0 hnl hKo j (i+2) _ (by omega) (by omega) (by rw[List.length_append,List.length_singleton];omega) fun w hw=> ?_
  rcases List.mem_append.1 hw with hw|hw
  ·exact h4 w hw
  ·rw[List.mem_singleton.1 hw];exact dom_way
def EntersOK(G:ORC R):Prop:=∀(v w x to:LV) (K:LV→OV R),IntsS v→IntsS w→IntsS x→IntsS to→W (fun o=>o=[.bool true]) K (G 3 [.sl 1 v,.sl 1 w,.sl 1 x,.sl 1 to] K)
theorem enters_law(hk:10000≤k)(hKn:KnLOK G)(hN:NdsOK G)(hP:PlaceS G)(hD:DomOK G)(hSo:SomeOK 200 G)(hR:RemOK 9 G)(hCE:CEnterOK G)(hRE:REnterOK G)(hCB:CBegOK G)(hRB:RBegOK G)(hS:SameOK G)(hL:LegalOK 17 G):EntersOK (fun _ args (K:LV→OV R)=>g3 G k args K):=by
 intro v w x to K hv hw hx ht
 show W _ K (f3 G k v w x to K)
 unfold f3
 unfold NdsOK at hN;unfold SomeOK at hSo;unfold RemOK at hR;unfold CEnterOK at hCE;unfold REnterOK at hRE;unfold CBegOK at hCB;unfold RBegOK at hRB;unfold SameOK at hS;unfold LegalOK at hL
 refine W_dec (fun _=>knl_go hKn) (fun g1=> ?_)
 refine W_dec (fun _=>knl_go hKn) (fun g2=> ?_)
 refine W_dec (fun _=>knl_go hKn) (fun g3=> ?_)
 refine W_dec (fun _=>knl_go hKn) (fun g4=> ?_)
 refine W_call (hN v _ hv (by omega)) ?_
 rintro _ ⟨ns,rfl,hns⟩
 (repeat(with_reducible apply U1))
 have T:=hns.tree
 have hl:=hns.len
 have hpos:=T.pos
 obtain⟨n0,h0⟩:∃n,ns[0]? =some n:=⟨_,List.getElem?_eq_getElem (by omega)⟩
 obtain⟨r1,r2,r3⟩:=T.root n0 h0
 refine W_call (hSo ns 0 n0 w 0 _ T (by omega) h0 (by omega) (by omega) ⟨hw,by omega,by omega,by omega⟩) ?_
 rintro _ ⟨A,j1,rfl,hA,_⟩
 (repeat(with_reducible apply U1))
 have lA:A.length≤ns.length:=asc_len hA.asc fun x hx=>by have:=hA.rng x hx;omega
 have iA:InsC ns A:=fun c hc=>by
  have h1:=hA.rng c hc
  have hx:c.toNat<ns.length:=by omega
  exact⟨c.toNat,ns[c.toNat],by omega,List.getElem?_eq_getElem hx⟩
 have hS0:=begin_sub T h0
 have hS0l:(dnN ns 0 []).length≤ns.length:=asc_len hS0.asc fun x hx=>by have:=hS0.rng x hx;omega
 have tl:∀(H:List (List Int)) (ws:List (Int×Int)),HistW ns H→ws.length≤4→(∀w∈ws,WayOK ns w)→W (fun o=>o=[.bool true]) K
  (G 13 [(.sl 7 (ns.map Nd.v)),(.sl 2 (wysV ws)),(.sl 1 (rws H))] fun o51=>(uL 1 o51 fun l53 r52=>(unNil r52 (G 14 [(.sl 7 (ns.map Nd.v)),(.sl 2 (wysV ws)),(.sl 1 (rws H))] fun o54=>(uL 1 o54 fun l56 r55=>(unNil r55 (G 12 [(.sl 1 l53),(.sl 1 l56)] fun o57=>(uB o57 fun b59 r58=>(unNil r58 (bif b59 then(G 15 [(.sl 7 (ns.map Nd.v))] fun o60=>(uL 1 o60 fun l62 r61=>(unNil r61 (G 16 [(.sl 7 (ns.map Nd.v))] fun o63=>(uL 1 o63 fun l65 r64=>(unNil r64 (G 12 [(.sl 1 l62),(.sl 1 l65)] fun o66=>(uB o66 fun b68 r67=>(unNil r67 (bif b68 then(G 15 [(.sl 7 (ns.map Nd.v))] fun o69=>(uL 1 o69 fun l71 r70=>(unNil r70 (G 17 [(.sl 7 (ns.map Nd.v)),(.sl 1 l71)] fun o72=>(uB o72 fun b74 r73=>(unNil r73 (bif b74 then(G 6 [] fun o75=>(uB o75 fun b77 r76=>(unNil r76 (K [(.bool b77)]))))else(K [(.bool false)]))))))))else(K [(.bool false)])))))))))))else(K [(.bool false)]))))))))))):=fun H ws hH hwl hws=>by
  refine W_call (hCE ns ws H _ T hl hH hwl hws) ?_
  rintro _ rfl
  (repeat(with_reducible apply U1))
  refine W_call (hRE ns ws H _ T hl hH hwl) ?_
  rintro _ rfl
  (repeat(with_reducible apply U1))
  have ofl:(ofL (enterN ns H ws)).length≤9000:=Nat.le_trans ofGo_len (by omega)
  refine W_call (hS _ _ _ ofl) ?_
  rintro _ rfl
  (repeat(with_reducible apply U1))
  refine W_yes rfl ?_
  refine W_call (hCB ns _ T (by omega)) ?_
  rintro _ rfl
  (repeat(with_reducible apply U1))
  refine W_call (hRB ns _ T (by omega)) ?_
  rintro _ rfl
  (repeat(with_reducible apply U1))
  refine W_call (hS _ _ _ (by omega)) ?_
  rintro _ rfl
  (repeat(with_reducible apply U1))
  refine W_yes rfl ?_
  refine W_call (hCB ns _ T (by omega)) ?_
  rintro _ rfl
  (repeat(with_reducible apply U1))
  refine W_call (hL ns _ _ T (by omega) (by omega)) ?_
  rintro _ ⟨b,rfl,hb⟩
  (repeat(with_reducible apply U1))
  refine W_chk (hb.2 (sub_legal T h0 hS0)) ?_
  exact knl_go hKn
 unfold l3_0
 refine W_dec (fun _=> ?_) (fun _=> ?_)
 ·refine W_call (hR ns A A [] _ T (by omega) (by omega) iA (by omega) (by simp)) ?_
  rintro _ rfl
  (repeat(with_reducible apply U1))
  exact ways_loop hP hD ht (by omega) (by omega) (by omega) (fun ws h1 h2=>tl (remN ns A A []) ws (rem_hist T h0 hA hist_nil) h1 h2) k 0 [] (by omega) (by omega) rfl (fun w hw=>by cases hw)
 ·exact ways_loop hP hD ht (by omega) (by omega) (by omega) (fun ws h1 h2=>tl [] ws hist_nil h1 h2) k 0 [] (by omega) (by omega) rfl (fun w hw=>by cases hw)
end
def xeB(k:Nat)(G:ORC (List V)):ORC (List V):=fun f args K=>match f with
    |3=>g3 G k args K
    |6=>g6 G k args K
    |7=>g7 G k args K
    |8=>g8 G k args K
    |9=>g9 G k args K
    |10=>g10 G k args K
    |11=>g11 G k args K
    |12=>g12 G k args K
    |13=>g13 G k args K
    |14=>g14 G k args K
    |15=>g15 G k args K
    |16=>g16 G k args K
    |17=>g17 G k args K
    |22=>g22 G k args K
    |23=>g23 G k args K
    |24=>g24 G k args K
    |25=>g25 G k args K
    |26=>g26 G k args K
    |27=>g27 G k args K
    |28=>g28 G k args K
    |29=>g29 G k args K
    |30=>g30 G k args K
    |31=>g31 G k args K
    |32=>g32 G k args K
    |33=>g33 G k args K
    |34=>g34 G k args K
    |35=>g35 G k args K
    |36=>g36 G k args K
    |37=>g37 G k args K
    |38=>g38 G k args K
    |39=>g39 G k args K
    |40=>g40 G k args K
    |41=>g41 G k args K
    |42=>g42 G k args K
    |43=>g43 G k args K
    |46=>g46 G k args K
    |52=>g52 G k args K
    |53=>g53 G k args K
    |54=>g54 G k args K
    |55=>g55 G k args K
    |56=>g56 G k args K
    |57=>g57 G k args K
    |58=>g58 G k args K
    |59=>g59 G k args K
    |60=>g60 G k args K
    |61=>g61 G k args K
    |62=>g62 G k args K
    |64=>g64 G k args K
    |68=>g68 G k args K
    |69=>g69 G k args K
    |70=>g70 G k args K
    |71=>g71 G k args K
    |72=>g72 G k args K
    |73=>g73 G k args K
    |74=>g74 G k args K
    |76=>g76 G k args K
    |77=>g77 G k args K
    |89=>g89 G k args K
    |65611=>g65611 G k args K
    |131137=>g131137 G k args K
    |_=>none
def xe(k:Nat):Nat→ORC (List V)
 |0=>fun _ _ _=>none
 |j+1=>fun f args K=>(xeB k (xe k j) f args (@some (List V))).bind K
theorem xe_sound(k:Nat):∀j,Sound Try.prog TAB (xe k j)
 |0=>fun f args K r h=>by cases h
 |j+1=>fun f args K r h=>by
  have ih:=xe_sound k j
  have h:(xeB k (xe k j) f args (@some (List V))).bind K=some r:=h
  cases hb:xeB k (xe k j) f args (@some (List V))with
  |none=>rw[hb]at h;cases h
  |some o=>
  rw[hb]at h
  have key:∃o',CallOK Try.prog TAB.env f args o'∧some o'=some o:=by
   unfold xeB at hb
   split at hb
   ·exact s3 ih args (@some (List V)) o hb
   ·exact s6 ih args (@some (List V)) o hb
   ·exact s7 ih args (@some (List V)) o hb
   ·exact s8 ih args (@some (List V)) o hb
   ·exact s9 ih args (@some (List V)) o hb
   ·exact s10 ih args (@some (List V)) o hb
   ·exact s11 ih args (@some (List V)) o hb
   ·exact s12 ih args (@some (List V)) o hb
   ·exact s13 ih args (@some (List V)) o hb
   ·exact s14 ih args (@some (List V)) o hb
   ·exact s15 ih args (@some (List V)) o hb
   ·exact s16 ih args (@some (List V)) o hb
   ·exact s17 ih args (@some (List V)) o hb
   ·exact s22 ih args (@some (List V)) o hb
   ·exact s23 ih args (@some (List V)) o hb
   ·exact s24 ih args (@some (List V)) o hb
   ·exact s25 ih args (@some (List V)) o hb
   ·exact s26 ih args (@some (List V)) o hb
   ·exact s27 ih args (@some (List V)) o hb
   ·exact s28 ih args (@some (List V)) o hb
   ·exact s29 ih args (@some (List V)) o hb
   ·exact s30 ih args (@some (List V)) o hb
   ·exact s31 ih args (@some (List V)) o hb
   ·exact s32 ih args (@some (List V)) o hb
   ·exact s33 ih args (@some (List V)) o hb
   ·exact s34 ih args (@some (List V)) o hb
   ·exact s35 ih args (@some (List V)) o hb
   ·exact s36 ih args (@some (List V)) o hb
   ·exact s37 ih args (@some (List V)) o hb
   ·exact s38 ih args (@some (List V)) o hb
   ·exact s39 ih args (@some (List V)) o hb
   ·exact s40 ih args (@some (List V)) o hb
   ·exact s41 ih args (@some (List V)) o hb
   ·exact s42 ih args (@some (List V)) o hb
   ·exact s43 ih args (@some (List V)) o hb
   ·exact s46 ih args (@some (List V)) o hb
   ·exact s52 ih args (@some (List V)) o hb
   ·exact s53 ih args (@some (List V)) o hb
   ·exact s54 ih args (@some (List V)) o hb
   ·exact s55 ih args (@some (List V)) o hb
   ·exact s56 ih args (@some (List V)) o hb
   ·exact s57 ih args (@some (List V)) o hb
   ·exact s58 ih args (@some (List V)) o hb
   ·exact s59 ih args (@some (List V)) o hb
   ·exact s60 ih args (@some (List V)) o hb
   ·exact s61 ih args (@some (List V)) o hb
   ·exact s62 ih args (@some (List V)) o hb
   ·exact s64 ih args (@some (List V)) o hb
   ·exact s68 ih args (@some (List V)) o hb
   ·exact s69 ih args (@some (List V)) o hb
   ·exact s70 ih args (@some (List V)) o hb
   ·exact s71 ih args (@some (List V)) o hb
   ·exact s72 ih args (@some (List V)) o hb
   ·exact s73 ih args (@some (List V)) o hb
   ·exact s74 ih args (@some (List V)) o hb
   ·exact s76 ih args (@some (List V)) o hb
   ·exact s77 ih args (@some (List V)) o hb
   ·exact s89 ih args (@some (List V)) o hb
   ·exact s65611 ih args (@some (List V)) o hb
   ·exact s131137 ih args (@some (List V)) o hb
   ·cases hb
  obtain⟨o',h1,h2⟩:=key
  cases h2
  exact⟨o,h1,h⟩
theorem xe_U{k j:Nat}{f:FuncId}{args:List V}{Q:List V→Prop}(h:W Q (@some (List V)) (xeB k (xe k j) f args (@some (List V)))):∃o,Q o∧∀K,xe k (j+1) f args K=K o:=by
 obtain⟨o,q,e⟩:=h
 exact⟨o,q,fun K=>by show(xeB k (xe k j) f args (@some (List V))).bind K=_;rw[e];rfl⟩
theorem xe_W{k j:Nat}{f:FuncId}{args:List V}{Q:List V→Prop}{K:List V→Option (List V)}(h:W Q (@some (List V)) (xeB k (xe k j) f args (@some (List V)))):W Q K (xe k (j+1) f args K):=by
 obtain⟨o,q,e⟩:=xe_U h
 exact⟨o,q,e K⟩
section
def Ev(P:ORC (List V)→Prop):Prop:=∃N,∀j,N≤j→P (xe 10000 j)
theorem ev0{P:ORC (List V)→Prop}(h:∀j,P (xe 10000 (j+1))):Ev P:=⟨1,fun j hj=>by obtain⟨j',rfl⟩:∃j',j=j'+1:=⟨j-1,by omega⟩;exact h j'⟩
theorem evS{A P:ORC (List V)→Prop}(hA:Ev A)(h:∀j,A (xe 10000 j)→P (xe 10000 (j+1))):Ev P:=by
 obtain⟨N,hN⟩:=hA
 refine⟨N+1,fun j hj=> ?_⟩
 obtain⟨j',rfl⟩:∃j',j=j'+1:=⟨j-1,by omega⟩
 exact h j' (hN j' (by omega))
theorem evA{A B:ORC (List V)→Prop}(hA:Ev A)(hB:Ev B):Ev fun G=>A G∧B G:=by
 obtain⟨N,hN⟩:=hA
 obtain⟨M,hM⟩:=hB
 exact⟨N+M,fun j hj=>⟨hN j (by omega),hM j (by omega)⟩⟩
theorem evT{P:ORC (List V)→Prop}(h:∀G,P G):Ev P:=⟨0,fun j _=>h _⟩
theorem evPlace:Ev PlaceS:=ev0 fun j=>by have e:=place_ok (G:=xe 10000 j) (k:=10000);unfold PlaceS at e ⊢;(intros;refine xe_W ?_;apply e<;>assumption)
theorem evNext:Ev NextS:=evS evPlace fun j h=>by have e:=next_ok (G:=xe 10000 j) (k:=10000) h;unfold NextS at e ⊢;(intros;refine xe_W ?_;apply e<;>assumption)
theorem evPick:Ev PickS:=evS evNext fun j h=>by have e:=pick_ok (G:=xe 10000 j) (k:=10000) h;unfold PickS at e ⊢;(intros;refine xe_W ?_;apply e<;>assumption)
theorem evExpr:∀d,d≤20→Ev (ExprOK d)
 |0,_=>evS (evA evNext evPick) fun j h=>by have e:=expr_ok (G:=xe 10000 j) (k:=10000) (d:=0) (by omega) h.1 h.2 (fun d' e=>by omega);unfold ExprOK at e ⊢;(intros;refine xe_W ?_;apply e<;>assumption)
 |d+1,hd=>evS (evA (evA evNext evPick) (evExpr d (by omega))) fun j h=>by have e:=expr_ok (G:=xe 10000 j) (k:=10000) (d:=d+1) hd h.1.1 h.1.2 (fun d' e=>by cases e;exact h.2);unfold ExprOK at e ⊢;(intros;refine xe_W ?_;apply e<;>assumption)
end
theorem evEvent:Ev EventS:=evS evPlace fun j h=>by have e:=event_ok (G:=xe 10000 j) (k:=10000) h;unfold EventS at e ⊢;(intros;refine xe_W ?_;apply e<;>assumption)
theorem evBlock:∀d,d≤3→Ev (BlockOK d)
 |0,_=>evS (evA (evA evNext evPick) (evA evEvent (evExpr 2 (by omega)))) fun j h=>by have e:=block_ok (G:=xe 10000 j) (k:=10000) (d:=0) (by omega) (by omega) h.1.1 h.1.2 h.2.1 h.2.2 (fun d' e=>by omega);unfold BlockOK at e ⊢;(intros;refine xe_W ?_;apply e<;>assumption)
 |d+1,hd=>evS (evA (evA (evA evNext evPick) (evA evEvent (evExpr 2 (by omega)))) (evBlock d (by omega))) fun j h=>by have e:=block_ok (G:=xe 10000 j) (k:=10000) (d:=d+1) (by omega) hd h.1.1.1 h.1.1.2 h.1.2.1 h.1.2.2 (fun d' e=>by cases e;exact h.2);unfold BlockOK at e ⊢;(intros;refine xe_W ?_;apply e<;>assumption)
section
theorem evDec1:Ev (DecS 1):=ev0 fun j=>by have e:=dec_step (G:=xe 10000 j) (k:=10000) (d:=0) (by omega) (.inl rfl);unfold DecS at e ⊢;(intros;refine xe_W ?_;apply e<;>assumption)
theorem evDec2:Ev (DecS 2):=evS evDec1 fun j h=>by have e:=dec_step (G:=xe 10000 j) (k:=10000) (d:=1) (by omega) (.inr h);unfold DecS at e ⊢;(intros;refine xe_W ?_;apply e<;>assumption)
theorem evDec3:Ev (DecS 3):=evS evDec2 fun j h=>by have e:=dec_step (G:=xe 10000 j) (k:=10000) (d:=2) (by omega) (.inr h);unfold DecS at e ⊢;(intros;refine xe_W ?_;apply e<;>assumption)
theorem evDig:Ev DigS:=evS evDec3 fun j h=>by have e:=dig_ok (G:=xe 10000 j) (k:=10000) h;unfold DigS at e ⊢;(intros;refine xe_W ?_;apply e<;>assumption)
theorem evNames:Ev NamesS:=evS evDig fun j h=>by have e:=names_ok (G:=xe 10000 j) (k:=10000) (by omega) h;unfold NamesS at e ⊢;(intros;refine xe_W ?_;apply e<;>assumption)
theorem evNumd:Ev NumdS:=evS evNext fun j h=>by have e:=named_ok (G:=xe 10000 j) (k:=10000) (by omega) h;unfold NumdS at e ⊢;(intros;refine xe_W ?_;apply e<;>assumption)
theorem evPlain:Ev PlainS:=ev0 fun j=>by have e:=plain_ok (G:=xe 10000 j) (k:=10000) (by omega);unfold PlainS at e ⊢;(intros;refine xe_W ?_;apply e<;>assumption)
theorem evSt:∀d,d≤2→Ev (StOK d)
 |0,_=>evS (evA evNext evDig) fun j h=>by have e:=st_ok (G:=xe 10000 j) (k:=10000) (d:=0) (by omega) (by omega) h.1 h.2 (fun d' e=>by omega);unfold StOK at e ⊢;(intros;refine xe_W ?_;apply e<;>assumption)
 |d+1,hd=>evS (evA (evA evNext evDig) (evSt d (by omega))) fun j h=>by have e:=st_ok (G:=xe 10000 j) (k:=10000) (d:=d+1) (by omega) (by omega) h.1.1 h.1.2 (fun d' e=>by cases e;exact h.2);unfold StOK at e ⊢;(intros;refine xe_W ?_;apply e<;>assumption)
theorem evFill:∀d,Ev (FillOK d)
 |0=>evT fun G x a p c s all L left i K h=>h.elim
 |d+1=>evS (evA (evA (evA evNext evPick) (evA evEvent (evExpr 2 (by omega)))) (evA (evA (evBlock 2 (by omega)) (evBlock 1 (by omega))) (evFill d))) fun j h=>by have e:=fill_ok (G:=xe 10000 j) (k:=10000) (d:=d+1) (by omega) h.1.1.1 h.1.1.2 h.1.2.1 h.1.2.2 h.2.1.1 h.2.1.2 (fun d' e=>by cases e;exact h.2.2);unfold FillOK at e ⊢;(intros;refine xe_W ?_;apply e<;>assumption)
theorem evChart:Ev ChartOK:=evS (evA (evA (evA evNext evNames) (evA evNumd evPlain)) (evA (evSt 2 (by omega)) (evFill 3))) fun j h=>by have e:=chart_ok (G:=xe 10000 j) (k:=10000) (by omega) h.1.1.1 h.1.1.2 h.1.2.1 h.1.2.2 h.2.1 h.2.2;unfold ChartOK at e ⊢;(intros;refine xe_W ?_;apply e<;>assumption)
theorem evKind:Ev KindOK:=ev0 fun j=>by have e:=kind_ok (G:=xe 10000 j) (k:=10000);unfold KindOK at e ⊢;(intros;refine xe_W ?_;apply e<;>assumption)
theorem evIsSt:Ev IsStOK:=ev0 fun j=>by have e:=isst_ok (G:=xe 10000 j) (k:=10000);unfold IsStOK at e ⊢;(intros;refine xe_W ?_;apply e<;>assumption)
theorem evPut:∀d,Ev (PutOK d)
 |0=>evS (evA evKind evIsSt) fun j h=>by have e:=put_ok (G:=xe 10000 j) (k:=10000) (d:=0) (by omega) h.1 h.2 (fun d' e=>by omega);unfold PutOK at e ⊢;(intros;refine xe_W ?_;apply e<;>assumption)
 |d+1=>evS (evA (evA evKind evIsSt) (evPut d)) fun j h=>by have e:=put_ok (G:=xe 10000 j) (k:=10000) (d:=d+1) (by omega) h.1.1 h.1.2 (fun d' e=>by cases e;exact h.2);unfold PutOK at e ⊢;(intros;refine xe_W ?_;apply e<;>assumption)
theorem evNodes:Ev NodesOK:=evS (evPut 3) fun j h=>by have e:=nodes_ok (G:=xe 10000 j) (k:=10000) h;unfold NodesOK at e ⊢;(intros;refine xe_W ?_;apply e<;>assumption)
theorem evIs:Ev IsOK:=ev0 fun j=>by have e:=is_ok (G:=xe 10000 j) (k:=10000);unfold IsOK at e ⊢;(intros;refine xe_W ?_;apply e<;>assumption)
theorem evIn:Ev InOK:=evS evIs fun j h=>by have e:=in_ok (G:=xe 10000 j) (k:=10000) h;unfold InOK at e ⊢;(intros;refine xe_W ?_;apply e<;>assumption)
end
end Go.Proofs.Ytokgijpdehjckaa.Vm
