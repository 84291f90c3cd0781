/- Functions of the program, told by the machine of values, and what they answer: a part. -/
import Derived.Test.YtkommgiklkcclaaGr3
import Derived.Test.YtkommgiklkcclaaGr2
import Derived.Test.YtkommgiklkcclaaGrV4
import Derived.Test.YtkommgiklkcclaaGr1
open Go Go.VM
set_option linter.unusedVariables false
set_option linter.unusedSimpArgs false
set_option maxRecDepth 100000
set_option maxHeartbeats 8000000
namespace Go.Proofs.Ytkommgiklkcclaa.Vm
section
variable {R : Type} {G : ORC R} {k : Nat} {K : LV → OV R}
def TextsOK(G:ORC R):Prop:=∀(l:LV) (K:LV→OV R),NamedS 100 l→W (fun o=>∃q,o=[.sl 1 q]∧StrsS 100 q) K (G 30 [.sl 3 l] K)
theorem texts_loop{Q:LV→Prop}{K:LV→OV R}{Ko:LV→OV R}{l:LV}(hl:NamedS 100 l)(hKo:∀q,StrsS 100 q→W Q K (Ko q)):
 ∀(j:Nat) (acc:LV) (i:Int),0≤i→i≤(l.length:Int)→(l.length:Int)-i<j→StrsS i.toNat acc→W Q K (l30_0g G k Ko j l acc i)
 |0,acc,i,h1,h2,h3,h4=>by omega
 |j+1,acc,i,h1,h2,h3,h4=>by
  show W Q K (b30_0 G k (l30_0g G k Ko j) Ko l acc i)
  unfold b30_0
  have hll:=hl.1
  have hla:=h4.1
  refine W_dec (fun h=> ?_) (fun h=>hKo acc ⟨by omega,h4.2⟩)
  refine W_and (W_yes h1 (W_yes h ?_))
  refine W_nth (by omega) (fun v _ hv=> ?_)
  obtain⟨t,n,rfl,ht,hn⟩:=hl.2 v hv
  refine W_ca3 (W_asStr (W_yes (by omega) ?_))
  rw[wrap_id (n:=i+1) (by omega)]
  refine texts_loop hl hKo j _ (i+1) (by omega) (by omega) (by omega) ?_
  rw[show(i+1).toNat=i.toNat+1 by omega]
  exact strs_snoc h4 ht
theorem texts_ok(hk:1000≤k):TextsOK (fun _ args (K:LV→OV R)=>g30 G k args K):=by
 intro l K hl
 show W _ K (f30 G k l K)
 unfold f30 l30_0
 exact texts_loop hl (fun q hq=>W_ret ⟨_,rfl,hq⟩) k [] 0 (by omega) (by omega) (by have:=hl.1;omega) ⟨by simp,by simp⟩
def NamesC(G:ORC R):Prop:=∀(nm:ByteArray) (x y z:Int) (a b c states:LV) (K:LV→OV R),NamedS 100 a→NamedS 100 b→NamedS 100 c→(∀s∈states,StateS 2 3 s∧kindV s≤2)→nszL 3 states≤900→NmI (nmVL 3 states)→
 W (fun o=>∃p q t,o=[namV p q t (ndsOf states)]∧NamS p q t (ndsOf states)) K (G 29 [.agg [.str nm,.int .i64 x,.int .i64 y,.sl 3 a,.sl 3 b,.sl 3 c,.sl 7 states,.int .i64 z]] K)
theorem ndsOf_len{states:LV}:(ndsOf states).length=1+nszL 3 states:=by unfold ndsOf;rw[List.length_cons,forest_len];omega
theorem names_c(hT:TextsOK G)(hN:NodesOK G):NamesC (fun _ args (K:LV→OV R)=>g29 G k args K):=by
 intro nm x y z a b c states K ha hb hc hs hl hnm
 show W _ K (f29 G k nm x y a b c states z K)
 unfold f29
 unfold TextsOK at hT
 refine W_call (hT _ _ ha) ?_
 rintro _ ⟨q1,rfl,hq1⟩
 refine W_uL (W_unNil (W_call (hT _ _ hb) ?_))
 rintro _ ⟨q2,rfl,hq2⟩
 refine W_uL (W_unNil (W_call (hT _ _ hc) ?_))
 rintro _ ⟨q3,rfl,hq3⟩
 refine W_uL (W_unNil (W_call (hN nm x y a b c states z _ hs hl) ?_))
 rintro _ rfl
 exact W_uL (W_unNil (W_ret ⟨_,_,_,rfl,hq1,hq2,hq3,by show(ndsOf states).length≤1000;rw[ndsOf_len];omega,namesNE_nds hs hnm⟩))
def LbOK(G:ORC R):Prop:=∀(l:LV) (nm:ByteArray) (x y:Int) (v1 v2 v3 ns es codes a p t:LV) (nd:List Nd) (K:LV→OV R),BlockS 3 l→NamS a p t nd→CodesG codes→codes.length≤1000000→
 W (fun o=>∃r codes',o=[.int .i64 r,.str nm,.int .i64 x,.int .i64 y,.sl 1 codes']∧ -1≤r∧CodesG codes'∧codes'.length≤codes.length+1) K
   (G 53 [.sl 8 l,.str nm,.int .i64 x,.int .i64 y,.sl 1 v1,.sl 1 v2,.sl 1 v3,.sl 7 ns,.sl 6 es,.sl 1 codes,.sl 1 a,.sl 1 p,.sl 1 t,.sl 7 (nd.map Nd.v)] K)
theorem lb_ok(hB:BlkOK 3 G):LbOK (fun _ args (K:LV→OV R)=>g53 G k args K):=by
 intro l nm x y v1 v2 v3 ns es codes a p t nd K hl hn hc hcl
 show W _ K (f53 G k l nm x y v1 v2 v3 ns es codes a p t (nd.map Nd.v) K)
 unfold f53
 unfold BlkOK namV at hB
 refine W_beqI (fun _=>W_ret ⟨_,_,rfl,by omega,hc,by omega⟩) (fun _=> ?_)
 refine W_call (hB l a p t nd _ hl hn) ?_
 rintro _ ⟨c1,rfl,a1,b1,b2⟩
 refine W_uL (W_unNil (W_yes (by omega) (W_ret ⟨_,_,rfl,?_,codesG_snoc hc a1,by simp⟩)))
 simp only[List.length_append,List.length_cons,List.length_nil]
 rw[wrap_id (by omega)];omega
def StsOK(d:Nat)(G:ORC R):Prop:=∀(l:LV) (nm:ByteArray) (x y:Int) (v1 v2 v3 es codes a p t:LV) (ns ns0 nd:List Nd) (K:LV→OV R),(∀s∈l,StateS 2 d s)→NamesIn ns0 d l→CoreEq ns ns0→ns0.length≤1000→(∀e∈es,EdgeS ns0 e)→es.length+2*nszL d l≤100000→CodesG codes→codes.length+6*nszL d l≤100000→NamS a p t nd→l.length≤4→
 W (fun o=>∃ns' es' codes',o=[.str nm,.int .i64 x,.int .i64 y,.sl 7 (ns'.map Nd.v),.sl 6 es',.sl 1 codes']∧CoreEq ns' ns0∧(∀e∈es',EdgeS ns0 e)∧es'.length≤es.length+2*nszL d l∧CodesG codes'∧codes'.length≤codes.length+6*nszL d l) K
   (G 32 [.sl 7 l,.str nm,.int .i64 x,.int .i64 y,.sl 1 v1,.sl 1 v2,.sl 1 v3,.sl 7 (ns.map Nd.v),.sl 6 es,.sl 1 codes,.sl 1 a,.sl 1 p,.sl 1 t,.sl 7 (nd.map Nd.v)] K)
theorem edge_snoc{ns:List Nd}{es:LV}{fr to dom gd ac:Int}{ev:ByteArray}(h:∀e∈es,EdgeS ns e)(h1:1≤fr)(h2:fr<ns.length)(h3:StrS ev)(h4:(to= -1∧dom= -1)∨(1≤to∧to<ns.length∧dom=domN ns fr to))(h5: -1≤gd)(h6: -1≤ac):
 ∀e∈es++[.agg [.int .i64 fr,.int .i64 to,.int .i64 dom,.int .i64 gd,.int .i64 ac,.str ev]],EdgeS ns e:=mem_snoc h ⟨fr,to,dom,gd,ac,ev,rfl,h1,h2,h3,h4,h5,h6⟩
theorem st_trans(hF:FindOK G)(hD:DomOK G)(hLb:LbOK G)(hG:GdOK G){Q:LV→Prop}{K:LV→OV R}{l v1 v2 v3 a p t tr:LV}{i fr z kind:Int}{nm sn:ByteArray}{x y:Int}{e1 e2 e4:V}{ns ns0 nd:List Nd}{Ko:LV→Int→ByteArray→Int→Int→LV→LV→LV→LV→LV→LV→LV→LV→LV→LV→Int→ByteArray→V→V→V→V→Int→OV R}
 (hc:CoreEq ns ns0) (hl0:ns0.length≤1000) (hn:NamS a p t nd) (hfr:1≤fr∧fr<ns0.length) (htr:tr.length≤2) (htt:∀w∈tr,TransS w) {m1 m2:Nat} (hm1:m1≤100000) (hm2:m2≤100000)
 (hKo:∀es codes,(∀e∈es,EdgeS ns0 e)→es.length≤m1→CodesG codes→codes.length≤m2→W Q K (Ko l i nm x y v1 v2 v3 (ns.map Nd.v) es codes a p t (nd.map Nd.v) kind sn e1 e2 (.sl 5 tr) e4 z)):
 ∀(j:Nat) (q:Int) (es codes:LV),tr.length-q<j→0≤q→q≤tr.length→(∀e∈es,EdgeS ns0 e)→es.length+(tr.length-q)≤m1→CodesG codes→codes.length+2*(tr.length-q)≤m2→
  W Q K (l32_2g G k Ko j l i fr q nm x y v1 v2 v3 (ns.map Nd.v) es codes a p t (nd.map Nd.v) kind sn e1 e2 (.sl 5 tr) e4 z)
 |0,q,es,codes,h1,h2,h3,h4,h5,h6,h7=>by omega
 |j+1,q,es,codes,h1,h2,h3,h4,h5,h6,h7=>by
  show W Q K (b32_2 G k (l32_2g G k Ko j) Ko l i fr q nm x y v1 v2 v3 (ns.map Nd.v) es codes a p t (nd.map Nd.v) kind sn e1 e2 (.sl 5 tr) e4 z)
  unfold b32_2
  refine W_asSl (W_dec (fun h=> ?_) (fun h=>hKo es codes h4 (by omega) h6 (by omega)))
  refine W_asSl (W_and (W_and (W_z (W_yes h2 (W_yes h ?_)))))
  refine W_nth (by omega) (fun v _ hv=> ?_)
  obtain⟨ev,gd,tg,acts,rfl,t1,t2,t3,t4,t5⟩:=htt v hv
  refine W_ca5 (W_asStr (W_asSl (W_asStr (W_asSl (W_aI ?_)))))
  have hnl:ns.length=ns0.length:=hc.len
  unfold FindOK at hF;unfold DomOK at hD;unfold LbOK at hLb;unfold GdOK namV at hG
  refine W_call (hF ns tg _ (by omega)) ?_
  rintro _ rfl
  refine W_uI (W_unNil ?_)
  rw[findN_core hc]
  rw[wrap_id (n:=q+1) (by omega)]
  have next:∀(to dom gdn ac:Int) (codes':LV),((to= -1∧dom= -1)∨(1≤to∧to<ns0.length∧dom=domN ns0 fr to))→ -1≤gdn→ -1≤ac→CodesG codes'→codes'.length≤codes.length+2→
   W Q K (l32_2g G k Ko j l i fr (q+1) nm x y v1 v2 v3 (ns.map Nd.v) (es++[.agg [.int .i64 fr,.int .i64 to,.int .i64 dom,.int .i64 gdn,.int .i64 ac,.str ev]]) codes' a p t (nd.map Nd.v) kind sn e1 e2 (.sl 5 tr) e4 z):=by
   intro to dom gdn ac codes' k1 k2 k3 k4 k5
   exact st_trans hF hD hLb hG hc hl0 hn hfr htr htt hm1 hm2 hKo j (q+1) _ codes' (by omega) (by omega) (by omega) (edge_snoc h4 hfr.1 hfr.2 t1 k1 k2 k3) (by simp;omega) k4 (by omega)
  have guard:∀(to dom:Int),((to= -1∧dom= -1)∨(1≤to∧to<ns0.length∧dom=domN ns0 fr to))→∀F:LV→OV R,
   (∀c1,CodeG c1→W Q K (F [.sl 4 c1]))→gd.length>0→W Q K (nthK gd 0 fun e=>V.asAgg e fun l=>G 55 [.agg l,.agg [.sl 1 a,.sl 1 p,.sl 1 t,.sl 7 (nd.map Nd.v)]] F):=by
   intro to dom _ F hFc hg
   refine W_nth hg (fun v _ hv=> ?_)
   have h1:=t4 v hv
   have h1':=h1
   obtain⟨_,_,_,_,rfl,_⟩:=h1
   refine W_asAgg (W_call (hG _ a p t nd _ h1' hn) ?_)
   rintro _ ⟨c1,rfl,a1,_⟩
   exact hFc c1 a1
  have hcl:codes.length≤100000:=by omega
  refine W_dec (fun hge=> ?_) (fun hlt=> ?_)
  ·have hto:1≤findN ns0 tg∧findN ns0 tg<ns0.length:=by rcases findN_at (l:=ns0) (s:=tg)with e|e<;>omega
   refine W_call (hD ns fr _ _ (by omega)) ?_
   rintro _ rfl
   rw[domN_core hc]
   refine W_uI (W_unNil ?_)
   refine W_dec (fun hg=> ?_) (fun hg=> ?_)
   ·refine W_and (W_and (W_z (W_chk rfl (W_yes (by omega) ?_))))
    refine guard _ _ (.inr ⟨hto.1,hto.2,rfl⟩) _ (fun c1 a1=> ?_) (by omega)
    refine W_uL (W_unNil (W_yes (by omega) ?_))
    refine W_call (hLb acts nm x y v1 v2 v3 _ _ _ a p t nd _ t5 hn (codesG_snoc h6 a1) (by simp;omega)) ?_
    rintro _ ⟨r,codes',rfl,r1,r2,r3⟩
    simp only[List.length_append,List.length_cons,List.length_nil]at r3
    refine W_uI (W_uS (W_uI (W_uI (W_uL (W_unNil (W_yes (by omega) ?_))))))
    exact next _ _ _ _ _ (.inr ⟨hto.1,hto.2,rfl⟩) (by simp only[List.length_append,List.length_cons,List.length_nil];rw[wrap_id (by omega)];omega) r1 r2 (by omega)
   ·refine W_call (hLb acts nm x y v1 v2 v3 _ _ _ a p t nd _ t5 hn h6 (by omega)) ?_
    rintro _ ⟨r,codes',rfl,r1,r2,r3⟩
    refine W_uI (W_uS (W_uI (W_uI (W_uL (W_unNil (W_yes (by omega) ?_))))))
    exact next _ _ _ _ _ (.inr ⟨hto.1,hto.2,rfl⟩) (by omega) r1 r2 (by omega)
  ·have hto:findN ns0 tg= -1:=by rcases findN_at (l:=ns0) (s:=tg)with e|e<;>omega
   refine W_dec (fun hg=> ?_) (fun hg=> ?_)
   ·refine W_and (W_and (W_z (W_chk rfl (W_yes (by omega) ?_))))
    refine guard _ _ (.inl ⟨hto,rfl⟩) _ (fun c1 a1=> ?_) (by omega)
    refine W_uL (W_unNil (W_yes (by omega) ?_))
    refine W_call (hLb acts nm x y v1 v2 v3 _ _ _ a p t nd _ t5 hn (codesG_snoc h6 a1) (by simp;omega)) ?_
    rintro _ ⟨r,codes',rfl,r1,r2,r3⟩
    simp only[List.length_append,List.length_cons,List.length_nil]at r3
    refine W_uI (W_uS (W_uI (W_uI (W_uL (W_unNil (W_yes (by omega) ?_))))))
    exact next _ _ _ _ _ (.inl ⟨hto,rfl⟩) (by simp only[List.length_append,List.length_cons,List.length_nil];rw[wrap_id (by omega)];omega) r1 r2 (by omega)
   ·refine W_call (hLb acts nm x y v1 v2 v3 _ _ _ a p t nd _ t5 hn h6 (by omega)) ?_
    rintro _ ⟨r,codes',rfl,r1,r2,r3⟩
    refine W_uI (W_uS (W_uI (W_uI (W_uL (W_unNil (W_yes (by omega) ?_))))))
    exact next _ _ _ _ _ (.inl ⟨hto,rfl⟩) (by omega) r1 r2 (by omega)
theorem sts_loop{d:Nat}(hk:1000≤k)(hF:FindOK G)(hD:DomOK G)(hLb:LbOK G)(hG:GdOK G)(hS:∀d',d=d'+1→StsOK d' G){Q:LV→Prop}{K:LV→OV R}{l v1 v2 v3 a p t:LV}{nm:ByteArray}{x y:Int}{ns0 nd:List Nd}{Ko:ByteArray→Int→Int→LV→LV→LV→LV→LV→LV→LV→LV→LV→LV→OV R}
 (hl:∀s∈l,StateS 2 d s) (hnm:NamesIn ns0 d l) (hl0:ns0.length≤1000) (hn:NamS a p t nd) (hll:l.length≤4) {M1 M2:Nat} (hM1:M1≤100000) (hM2:M2≤100000)
 (hKo:∀ns es codes,CoreEq ns ns0→(∀e∈es,EdgeS ns0 e)→es.length≤M1→CodesG codes→codes.length≤M2→W Q K (Ko nm x y v1 v2 v3 (ns.map Nd.v) es codes a p t (nd.map Nd.v))):
 ∀(B A:LV) (j:Nat) (ns:List Nd) (es codes:LV),l=A++B→B.length<j→CoreEq ns ns0→(∀e∈es,EdgeS ns0 e)→es.length+2*nszL d B≤M1→CodesG codes→codes.length+6*nszL d B≤M2→
  W Q K (l32_0g G k Ko j l A.length nm x y v1 v2 v3 (ns.map Nd.v) es codes a p t (nd.map Nd.v))
 |B,A,0,ns,es,codes,h1,h2,h3,h4,h5,h6,h7=>by omega
 | [],A,j+1,ns,es,codes,h1,h2,h3,h4,h5,h6,h7=>by
   show W Q K (b32_0 G k (l32_0g G k Ko j) Ko l A.length nm x y v1 v2 v3 (ns.map Nd.v) es codes a p t (nd.map Nd.v))
   unfold b32_0
   refine W_no (by rw[h1];simp) ?_
   exact hKo ns es codes h3 h4 (by omega) h6 (by omega)
 |b::B,A,j+1,ns,es,codes,h1,h2,h3,h4,h5,h6,h7=>by
  show W Q K (b32_0 G k (l32_0g G k Ko j) Ko l A.length nm x y v1 v2 v3 (ns.map Nd.v) es codes a p t (nd.map Nd.v))
  unfold b32_0
  have hbl:b∈l:=by rw[h1];simp
  have hb:=hl b hbl
  cases d with
  |zero=>exact hb.elim
  |succ d=>
  have hbn:=hnm.mem hbl
  rw[nszL_cons]at h5 h7
  have hA4:A.length+(B.length+1)≤4:=by rw[h1]at hll;simpa using hll
  obtain⟨kind,sn,en,ex,tr,kids,rfl,x1,x2,x3,x4,x5,x6,x7,x8,x9,x10,x11,x12,x13⟩:=hb
  have hkb:stKids (.agg [.int .i64 kind,.str sn,.sl 8 en,.sl 8 ex,.sl 5 tr,.sl 7 kids,.int .i64 0])=kids:=rfl
  have hsn:stName (.agg [.int .i64 kind,.str sn,.sl 8 en,.sl 8 ex,.sl 5 tr,.sl 7 kids,.int .i64 0])=sn:=rfl
  rw[hkb]at h5 h7 hbn
  rw[hsn]at hbn
  have hlt:(A.length:Int)<((l.length:Nat):Int):=by rw[h1];simp;omega
  refine W_yes hlt (W_and (W_yes (by omega) (W_yes hlt ?_)))
  refine W_nth (by omega) (fun v hv _=> ?_)
  rw[h1]at hv
  have hvb:v= .agg [.int .i64 kind,.str sn,.sl 8 en,.sl 8 ex,.sl 5 tr,.sl 7 kids,.int .i64 0]:=by simp at hv;exact hv.symm
  subst hvb
  (repeat(with_reducible apply U1))
  have hnl:ns.length=ns0.length:=h3.len
  have hS':=hS d rfl
  have hF0:=hF;have hD0:=hD;have hLb0:=hLb;have hG0:=hG
  unfold FindOK at hF;unfold LbOK at hLb
  refine W_call (hF ns sn _ (by omega)) ?_
  rintro _ rfl
  rw[findN_core h3]
  (repeat(with_reducible apply U1))
  have hat:1≤findN ns0 sn∧findN ns0 sn<ns0.length:=by rcases findN_at (l:=ns0) (s:=sn)with e|e;exact absurd e hbn.1;exact e
  refine W_call (hLb en nm x y v1 v2 v3 _ _ _ a p t nd _ x5.mono hn h6 (by omega)) ?_
  rintro _ ⟨r1,codes1,rfl,r11,r12,r13⟩
  (repeat(with_reducible apply U1))
  refine W_call (hLb ex nm x y v1 v2 v3 _ _ _ a p t nd _ x6.mono hn r12 (by omega)) ?_
  rintro _ ⟨r2,codes2,rfl,r21,r22,r23⟩
  (repeat(with_reducible apply U1))
  generalize hate:findN ns0 sn=at_ at*
  refine W_and (W_yes (by omega) (W_yes (by rw[List.length_map];omega) ?_))
  refine W_nthN (by omega) (fun n1 hn1=>W_nd ?_)
  (repeat(with_reducible apply U1))
  have e1:List.set (ns.map Nd.v) (Int.toNat at_) (V.agg [.int .i64 n1.kind,.int .i64 n1.parent,.int .i64 n1.last,.int .i64 n1.init,.int .i64 r1,.int .i64 n1.exit,.str n1.name])=(ns.set (Int.toNat at_) {n1 with entry:=r1}).map Nd.v:=by
   rw[show V.agg [.int .i64 n1.kind,.int .i64 n1.parent,.int .i64 n1.last,.int .i64 n1.init,.int .i64 r1,.int .i64 n1.exit,.str n1.name]=({n1 with entry:=r1}:Nd).v from rfl,set_map]
  rw[e1]
  have c1:CoreEq (ns.set (Int.toNat at_) {n1 with entry:=r1}) ns0:=core_set h3 hn1 rfl
  generalize hns1:ns.set (Int.toNat at_) {n1 with entry:=r1}=ns1 at*
  have hnl1:ns1.length=ns0.length:=c1.len
  refine W_and (W_yes (by omega) (W_yes (by rw[List.length_map];omega) ?_))
  refine W_nthN (by omega) (fun n2 hn2=>W_nd ?_)
  (repeat(with_reducible apply U1))
  have e2:List.set (ns1.map Nd.v) (Int.toNat at_) (V.agg [.int .i64 n2.kind,.int .i64 n2.parent,.int .i64 n2.last,.int .i64 n2.init,.int .i64 n2.entry,.int .i64 r2,.str n2.name])=(ns1.set (Int.toNat at_) {n2 with exit:=r2}).map Nd.v:=by
   rw[show V.agg [.int .i64 n2.kind,.int .i64 n2.parent,.int .i64 n2.last,.int .i64 n2.init,.int .i64 n2.entry,.int .i64 r2,.str n2.name]=({n2 with exit:=r2}:Nd).v from rfl,set_map]
  rw[e2]
  have c2:CoreEq (ns1.set (Int.toNat at_) {n2 with exit:=r2}) ns0:=core_set c1 hn2 rfl
  generalize hns2:ns1.set (Int.toNat at_) {n2 with exit:=r2}=ns2 at*
  unfold l32_2
  refine st_trans (m1:=es.length+2) (m2:=codes2.length+4) hF0 hD0 hLb0 hG0 c2 hl0 hn hat x7 x8 (by omega) (by omega) ?_ k 0 es codes2 (by omega) (by omega) (by omega) h4 (by omega) r22 (by omega)
  intro es3 codes3 s1 s2 s3 s4
  refine W_asSl ?_
  refine W_call (hS' kids nm x y v1 v2 v3 es3 codes3 a p t ns2 ns0 nd _ x10 hbn.2 c2 hl0 s1 (by omega) s3 (by omega) hn x9) ?_
  rintro _ ⟨ns4,es4,codes4,rfl,u1,u2,u3,u4,u5⟩
  (repeat(with_reducible apply U1))
  rw[wrap_id (n:=(A.length:Int)+1) (by omega)]
  have e:=sts_loop hk hF0 hD0 hLb0 hG0 hS hl hnm hl0 hn hll hM1 hM2 hKo B (A++[.agg [.int .i64 kind,.str sn,.sl 8 en,.sl 8 ex,.sl 5 tr,.sl 7 kids,.int .i64 0]]) j ns4 es4 codes4 (by rw[h1];simp) (by simp at h2;omega) u1 u2 (by omega) u4 (by omega)
  simp only[List.length_append,List.length_cons,List.length_nil,Nat.zero_add,Int.natCast_add,Int.natCast_one]at e
  exact e
theorem sts_ok{d:Nat}(hk:1000≤k)(hF:FindOK G)(hD:DomOK G)(hLb:LbOK G)(hG:GdOK G)(hS:∀d',d=d'+1→StsOK d' G):StsOK d (fun _ args (K:LV→OV R)=>g32 G k args K):=by
 intro l nm x y v1 v2 v3 es codes a p t ns ns0 nd K h1 h2 h3 h4 h5 h6 h7 h8 h9 h10
 show W _ K (f32 G k l nm x y v1 v2 v3 (ns.map Nd.v) es codes a p t (nd.map Nd.v) K)
 unfold f32 l32_0
 exact sts_loop (M1:=es.length+2*nszL d l) (M2:=codes.length+6*nszL d l) hk hF hD hLb hG hS h1 h2 h4 h9 h10 h6 h8 (fun ns' es' codes' k1 k2 k3 k4 k5=>W_ret ⟨_,_,_,rfl,k1,k2,k3,k4,k5⟩) l [] k ns es codes rfl (by omega) h3 h5 (Nat.le_refl _) h7 (Nat.le_refl _)
def TableS(v:V):Prop:=∃nm st fu vars ports timers ns ns0 es codes,v= .agg [.str nm,.int .i64 st,.int .i64 fu,.sl 1 vars,.sl 1 ports,.sl 1 timers,.sl 7 (ns.map Nd.v),.sl 6 es,.sl 1 codes]∧IntsS vars∧StrsS 100 ports∧StrsS 100 timers∧
 CoreEq ns ns0∧(∃states,ns0=ndsOf states∧states≠[]∧(∀s∈states,StateS 2 3 s∧kindV s≤2))∧ns0.length≤10∧(∀e∈es,EdgeS ns0 e)∧es.length≤18∧CodesG codes∧codes.length≤54
def TabOK(G:ORC R):Prop:=∀(c:V) (K:LV→OV R),ChartS c→W (fun o=>∃v,o=[v]∧TableS v) K (G 15 [c] K)
theorem vars_loop{Q:LV→Prop}{K:LV→OV R}{Ko:ByteArray→Int→Int→LV→LV→LV→LV→Int→ByteArray→Int→Int→LV→LV→LV→LV→LV→LV→ByteArray→Int→Int→LV→LV→LV→LV→LV→LV→LV→LV→LV→LV→OV R}
 {s1 s2 s3:ByteArray} {z1 z2 z3 z4 z5 z6 z7:Int} {l q1 q2 q3 q4 q5 q6 q7 q8 q9 r1 r2 r3 r4 r5 r6 r7 r8 r9:LV} (hl:NamedS 100 l)
 (hKo:∀vs,IntsS vs→W Q K (Ko s1 z1 z2 l q1 q2 q3 z3 s2 z4 z5 q4 q5 q6 q7 q8 q9 s3 z6 z7 vs r1 r2 r3 r4 r5 r6 r7 r8 r9)):
 ∀(j:Nat) (i:Int) (vs:LV),0≤i→l.length-i<j→i≤l.length→vs.length=i.toNat→IntsS vs→W Q K (l15_0g G k Ko j i s1 z1 z2 l q1 q2 q3 z3 s2 z4 z5 q4 q5 q6 q7 q8 q9 s3 z6 z7 vs r1 r2 r3 r4 r5 r6 r7 r8 r9)
 |0,i,vs,h1,h2,h3,h4,h5=>by omega
 |j+1,i,vs,h1,h2,h3,h4,h5=>by
  show W Q K (b15_0 G k (l15_0g G k Ko j) Ko i s1 z1 z2 l q1 q2 q3 z3 s2 z4 z5 q4 q5 q6 q7 q8 q9 s3 z6 z7 vs r1 r2 r3 r4 r5 r6 r7 r8 r9)
  unfold b15_0
  have hll:=hl.1
  refine W_dec (fun h=> ?_) (fun h=>hKo vs h5)
  refine W_and (W_yes h1 (W_yes h (W_nth (by omega) (fun v _ hv=> ?_))))
  obtain⟨s,n,rfl,_,hn⟩:=hl.2 v hv
  refine W_ca3 (W_aI (W_yes (by omega) ?_))
  rw[wrap_id (n:=i+1) (by omega)]
  exact vars_loop hl hKo j (i+1) _ (by omega) (by omega) (by omega) (by simp;omega) (mem_snoc h5 ⟨n,rfl,hn⟩)
theorem tab_ok(hk:1000≤k)(hNm:NamesC G)(hT:TextsOK G)(hN:NodesOK G)(hS:StsOK 3 G):TabOK (fun _ args (K:LV→OV R)=>g15 G k args K):=by
 intro c K hc
 obtain⟨nm,st,fu,vars,ports,timers,states,rfl,x1,x2,x3,x4,x5,x6,x7,x8,x9,x10,x11,x12,x13⟩:=hc
 show W _ K (f15 G k nm st fu vars ports timers states 0 K)
 unfold f15
 unfold TextsOK at hT
 refine W_call (hNm nm st fu 0 vars ports timers states _ x6 x7 x8 x11 (by omega) x13) ?_
 rintro _ ⟨p,q,t,rfl,hn⟩
 (repeat(with_reducible apply U1))
 refine W_call (hT _ _ x7) ?_
 rintro _ ⟨q2,rfl,hq2⟩
 (repeat(with_reducible apply U1))
 refine W_call (hT _ _ x8) ?_
 rintro _ ⟨q3,rfl,hq3⟩
 (repeat(with_reducible apply U1))
 refine W_call (hN nm st fu vars ports timers states 0 _ x11 (by omega)) ?_
 rintro _ rfl
 (repeat(with_reducible apply U1))
 unfold l15_0
 refine vars_loop x6 ?_ k 0 [] (by omega) (by have:=x6.1;omega) (by omega) rfl (by intro v hv;cases hv)
 intro vs hvs
 have hlen:=ndsOf_len (states:=states)
 refine W_call (hS states nm st fu vs q2 q3 [] [] p q t (ndsOf states) (ndsOf states) (ndsOf states) _ (fun s hs=>(x11 s hs).1) namesIn_ndsOf rfl (by omega) (by intro e he;cases he) (by simp;omega) (by intro e he;cases he) (by simp;omega) hn (by omega)) ?_
 rintro _ ⟨ns,es,codes,rfl,u1,u2,u3,u4,u5⟩
 simp only[List.length_nil,Nat.zero_add]at u3 u5
 (repeat(with_reducible apply U1))
 exact W_ret ⟨_,rfl,nm,st,fu,vs,q2,q3,ns,ndsOf states,es,codes,rfl,hvs,hq2,hq3,u1,⟨states,rfl,x10,x11⟩,by omega,u2,by omega,u4,by omega⟩
end
section
variable {R : Type} {G : ORC R} {k : Nat} {K : LV → OV R}
def TblOK(G:ORC R):Prop:=∀(v:LV) (K:LV→OV R),IntsS v→v.length≤200→W (fun o=>∃t,o=[t]∧TableS t) K (G 5 [.sl 1 v] K)
theorem tbl_ok(hC:ChartOK G)(hT:TabOK G):TblOK (fun _ args (K:LV→OV R)=>g5 G k args K):=by
 intro v K hv hl
 show W _ K (f5 G k v K)
 unfold f5
 unfold ChartOK at hC;unfold TabOK at hT
 refine W_call (hC _ 2 v 0 _ (by unfold StrS;decide) (by omega) (by omega) ⟨hv,by omega,by omega,by omega⟩) ?_
 rintro _ ⟨c,j,rfl,hc,_⟩
 have hc':=hc
 obtain⟨_,_,_,_,_,_,_,rfl,_⟩:=hc
 (repeat(with_reducible apply U1))
 refine W_call (hT _ _ hc') ?_
 rintro _ ⟨t,rfl,ht⟩
 have ht':=ht
 obtain⟨_,_,_,_,_,_,_,_,_,_,rfl,_⟩:=ht
 (repeat(with_reducible apply U1))
 exact W_ret ⟨_,rfl,ht'⟩
end
end Go.Proofs.Ytkommgiklkcclaa.Vm
namespace Go.VM
theorem core_at{a b:List Nd}(h:CoreEq a b){i:Nat}{n:Nd}(hn:a[i]? =some n):∃m,b[i]? =some m∧n.kind=m.kind∧n.parent=m.parent∧n.last=m.last∧n.init=m.init:=by
 have e:=get_core h i
 rw[hn]at e
 cases hm:b[i]? with
 |none=>rw[hm]at e;simp at e
 |some m=>
  rw[hm]at e
  simp only[Option.map_some,Option.some.injEq]at e
  unfold Nd.core at e
  injection e with e1 e2 e3 e4
  exact⟨m,rfl,e1,e2,e3,e4⟩
theorem CoreEq.symm{a b:List Nd}(h:CoreEq a b):CoreEq b a:=Eq.symm (show a.map Nd.core=b.map Nd.core from h)
theorem tree_core{a b:List Nd}(h:CoreEq a b)(T:Tree b):Tree a:=by
 have hl:=h.len
 refine⟨⟨?_,?_,?_,?_,?_,?_,?_⟩,by have:=T.pos;omega,?_,?_⟩
 ·intro j n hn
  obtain⟨m,m1,m2,m3,m4,m5⟩:=core_at h hn
  rw[m3];exact T.seg.par j m m1
 ·intro j n hn
  obtain⟨m,m1,m2,m3,m4,m5⟩:=core_at h hn
  rw[m4,hl];exact T.seg.last j m m1
 ·intro i j n m hn hm hij
  obtain⟨n',n1,n2,n3,n4,n5⟩:=core_at h hn
  obtain⟨m',m1,m2,m3,m4,m5⟩:=core_at h hm
  rw[n4,m3];exact T.seg.lam i j n' m' n1 m1 hij
 ·intro j n hn hp
  obtain⟨m,m1,m2,m3,m4,m5⟩:=core_at h hn
  rw[m3]at hp ⊢
  obtain⟨p,p1,p2⟩:=T.seg.kid j m m1 hp
  obtain⟨q,q1,q2,q3,q4,q5⟩:=core_at h.symm p1
  exact⟨q,q1,by rw[←q2];exact p2⟩
 ·intro i n hn hk
  obtain⟨m,m1,m2,m3,m4,m5⟩:=core_at h hn
  obtain⟨p,p1,p2,p3⟩:=T.seg.first i m m1 (by rw[←m2];exact hk)
  obtain⟨q,q1,q2,q3,q4,q5⟩:=core_at h.symm p1
  exact⟨q,q1,by rw[←q3];exact p2,by rw[←q2];exact p3⟩
 ·intro i n hn
  obtain⟨m,m1,m2,m3,m4,m5⟩:=core_at h hn
  rw[m5,m2];exact T.seg.init i m m1
 ·intro i n hn
  obtain⟨m,m1,m2,m3,m4,m5⟩:=core_at h hn
  rw[m2];exact T.seg.kinds i m m1
 ·intro j n hn hj
  obtain⟨m,m1,m2,m3,m4,m5⟩:=core_at h hn
  rw[m3];exact T.par0 j m m1 hj
 ·intro n hn
  obtain⟨m,m1,m2,m3,m4,m5⟩:=core_at h hn
  rw[m3,m2,m4,hl];exact T.root m m1
def Asc(l:List Int):Prop:=l.Pairwise fun a b=>a<b
theorem mem_statesN{ns:List Nd}{a:Nat}{x:Int}(ha:a<ns.length):x∈statesN ns a↔∃(q:Nat) (m:Nd),x=q∧ns[q]? =some m∧m.parent=a∧m.kind≤3:=by
 unfold statesN
 rw[List.mem_filter,mem_kidsN]
 constructor
 ·rintro⟨⟨q,m,h1,h2,h3,_⟩,h4⟩
  refine⟨q,m,h1,h2,h3,?_⟩
  unfold isSt at h4
  rw[h1,Int.toNat_natCast,h2]at h4
  exact of_decide_eq_true h4
 ·rintro⟨q,m,h1,h2,h3,h4⟩
  refine⟨⟨q,m,h1,h2,h3,by omega,by omega⟩,?_⟩
  unfold isSt
  rw[h1,Int.toNat_natCast,h2]
  exact decide_eq_true h4
theorem kidsGo_asc{l:List Nd}{i:Int}:∀{m:Nat},Asc (kidsGo l i m)
 |0=>List.Pairwise.nil
 |m+1=>by
  unfold kidsGo
  refine List.pairwise_append.2 ⟨kidsGo_asc (m:=m),by split<;>simp,fun x hx y hy=> ?_⟩
  obtain⟨q,h1,h2,_⟩:=mem_kidsGo.1 hx
  split at hy
  ·rw[List.mem_singleton]at hy;omega
  ·simp at hy
theorem statesN_asc{ns:List Nd}{i:Int}:Asc (statesN ns i):=List.Pairwise.filter _ kidsGo_asc
theorem asc_one:∀{l:List Int} {x:Int},Asc l→x∈l→(l.filter fun y=>decide (y=x)).length=1
 | [],x,_,h=>by simp at h
 |a::r,x,h,hx=>by
  obtain⟨h1,h2⟩:=List.pairwise_cons.1 h
  rw[List.filter_cons]
  by_cases e:a=x
  ·rw[if_pos (decide_eq_true e),List.length_cons,List.filter_eq_nil_iff.2]
   ·rfl
   ·intro y hy
    have:=h1 y hy
    simp;omega
  ·rw[if_neg (by simpa using e)]
   rcases List.mem_cons.1 hx with h3|h3
   ·exact absurd h3.symm e
   ·exact asc_one h2 h3
theorem kid_in{ns:List Nd}(T:Tree ns){a k:Nat}{n m:Nd}(ha:ns[a]? =some n)(hk:ns[k]? =some m)(hp:m.parent=a):a<k∧(k:Int)≤n.last∧m.last≤n.last:=by
 have h0:=T.seg.par k m hk
 have h1:=T.seg.lam a k n m ha hk (by omega)
 have hal:=T.seg.last a n ha
 refine⟨by omega,by omega,?_⟩
 have hkl:=T.seg.last k m hk
 have key:∀d j:Nat,j<d→k≤j→(j:Int)≤m.last→(j:Int)≤n.last:=by
  intro d
  induction d with
  |zero=>intro j h;omega
  |succ d ih=>
   intro j hj h2 h3
   by_cases e:j=k
   ·subst e;omega
   ·obtain⟨x,hx⟩:∃x,ns[j]? =some x:=⟨_,List.getElem?_eq_getElem (by omega)⟩
    have l1:=T.seg.lam k j m x hk hx (by omega)
    have l2:=T.seg.lam a j n x ha hx (by omega)
    have l3:=T.seg.par j x hx
    have:=ih x.parent.toNat (by omega) (by omega) (by omega)
    omega
 have:=key (m.last.toNat+1) m.last.toNat (by omega) (by omega) (by omega)
 omega
theorem kid_apart{ns:List Nd}(T:Tree ns){a k k':Nat}{m m':Nd}(hk:ns[k]? =some m)(hp:m.parent=a)(hk':ns[k']? =some m')(hp':m'.parent=a)(h:k<k'):m.last<k':=by
 have l1:=T.seg.lam k k' m m' hk hk' h
 have l2:=T.seg.par k m hk
 omega
def EachS(ns:List Nd)(C:List Int)(x:Int):Prop:=
 ∃n,ns[x.toNat]? =some n∧n.kind≤3∧(n.kind=2→(andL (statesN ns x) C).length=1)∧(n.kind=3→∀y∈statesN ns x,y∈C)
def ParS(ns:List Nd)(C:List Int)(x:Int):Prop:=∀n,ns[x.toNat]? =some n→n.parent∈C
def AtomS(ns:List Nd)(C:List Int)(x:Int):Prop:=∃y∈C,atomAt ns y=true∧x∈chainN ns y
structure Sub (ns:List Nd) (a:Nat) (n:Nd) (C:List Int):Prop where
 head:(a:Int)∈C
 asc:Asc C
 rng:∀x∈C,(a:Int)≤x∧x≤n.last
 each:∀x∈C,EachS ns C x
 par:∀x∈C,x≠a→ParS ns C x
 atom:∀x∈C,AtomS ns C x
theorem each_more{ns:List Nd}{C D:List Int}{x:Int}(hx:x∈C)(h:EachS ns C x)(hsub:∀y∈C,y∈D)(hno:∀y∈statesN ns x,y∈D→y∈C):EachS ns D x:=by
 obtain⟨n,h1,h2,h3,h4⟩:=h
 refine⟨n,h1,h2,fun e=> ?_,fun e y hy=>hsub y (h4 e y hy)⟩
 rw[←h3 e,andL_eq,andL_eq]
 congr 1
 refine List.filter_congr fun y hy=> ?_
 by_cases hC:y∈C
 ·rw[hasL_iff.2 hC,hasL_iff.2 (hsub y hC)]
 ·unfold hasL;rw[decide_eq_false hC,decide_eq_false (fun h=>hC (hno y hy h))]
theorem atom_more{ns:List Nd}{C D:List Int}{x:Int}(h:AtomS ns C x)(hsub:∀y∈C,y∈D):AtomS ns D x:=by
 obtain⟨y,h1,h2⟩:=h;exact⟨y,hsub y h1,h2⟩
theorem atom_up{ns:List Nd}(T:Tree ns){C:List Int}{a k:Nat}{n m:Nd}(ha:ns[a]? =some n)(hk:ns[k]? =some m)(hp:m.parent=a)(h:AtomS ns C k):AtomS ns C a:=by
 obtain⟨y,h1,h2,h3⟩:=h
 refine⟨y,h1,h2,(chain_mem T (atomAt_iff.1 h2).2.1 h3).2.2 _ ?_⟩
 rw[chain_cons T (by omega) (by rw[Int.toNat_natCast];exact hk),hp]
 refine List.mem_cons_of_mem _ ?_
 rw[chain_cons T (by omega) (by rw[Int.toNat_natCast];exact ha)]
 exact List.mem_cons_self
theorem states_gt{ns:List Nd}(T:Tree ns){x y:Int}(h0:0≤x)(hy:y∈statesN ns x):x<y∧∃m,ns[y.toNat]? =some m∧m.parent=x:=by
 have hy':=(List.mem_filter.1 hy).1
 obtain⟨q,m,h1,h2,h3,_⟩:=mem_kidsN.1 hy'
 have:=T.seg.par q m h2
 exact⟨by omega,m,by rw[h1,Int.toNat_natCast];exact h2,h3⟩
theorem sub_atom{ns:List Nd}(T:Tree ns){a:Nat}{n:Nd}(ha:ns[a]? =some n)(hk:n.kind=1):Sub ns a n [(a:Int)]:=by
 have hal:=T.seg.last a n ha
 have hl:=Tree.lt ha
 refine⟨by simp,List.pairwise_singleton _ _,fun x hx=> ?_,fun x hx=> ?_,fun x hx h=>absurd (List.mem_singleton.1 hx) h,fun x hx=> ?_⟩
 ·rw[List.mem_singleton]at hx;omega
 ·rw[List.mem_singleton]at hx;subst hx
  exact⟨n,by rw[Int.toNat_natCast];exact ha,by omega,fun e=>by omega,fun e=>by omega⟩
 ·rw[List.mem_singleton]at hx;subst hx
  refine⟨a,by simp,atomAt_iff.2 ⟨by omega,by omega,n,by rw[Int.toNat_natCast];exact ha,hk⟩,?_⟩
  rw[chain_cons T (by omega) (by rw[Int.toNat_natCast];exact ha)];exact List.mem_cons_self
structure Par (ns:List Nd) (a:Nat) (A D:List Int):Prop where
 head:(a:Int)∈D
 asc:Asc D
 rng:∀x∈D,x=a∨∃(k:Nat) (m:Nd),(k:Int)∈A∧ns[k]? =some m∧m.parent=a∧(k:Int)≤x∧x≤m.last
 kids:∀k∈A,k∈D
 each:∀x∈D,x≠a→EachS ns D x
 par:∀x∈D,x≠a→ParS ns D x
 atom:∀x∈D,x≠a→AtomS ns D x
theorem par_nil{ns:List Nd}{a:Nat}:Par ns a [] [(a:Int)]:=
 ⟨by simp,List.pairwise_singleton _ _,fun x hx=>.inl (List.mem_singleton.1 hx),fun k hk=>by simp at hk,fun x hx h=>absurd (List.mem_singleton.1 hx) h,fun x hx h=>absurd (List.mem_singleton.1 hx) h,fun x hx h=>absurd (List.mem_singleton.1 hx) h⟩
theorem par_snoc{ns:List Nd}(T:Tree ns){a k:Nat}{m:Nd}{A C D:List Int}(hk:ns[k]? =some m)(hp:m.parent=a)(hlt:∀x∈A,x<k)(h:Par ns a A D)(hC:Sub ns k m C):Par ns a (A++[(k:Int)]) (D++C):=by
 have hak:a<k:=by have:=T.seg.par k m hk;omega
 have hml:=T.seg.last k m hk
 have hDk:∀x∈D,(0≤x∧x<k):=fun x hx=>by
  rcases h.rng x hx with rfl|⟨k',m',h1,h2,h3,h4,h5⟩
  ·omega
  ·have:=kid_apart T h2 h3 hk hp (by have:=hlt _ h1;omega)
   omega
 have hCk:∀x∈C,(k:Int)≤x∧x<ns.length:=fun x hx=>by have:=hC.rng x hx;omega
 have sD:∀y∈D,y∈D++C:=fun y h=>List.mem_append_left _ h
 have sC:∀y∈C,y∈D++C:=fun y h=>List.mem_append_right _ h
 refine⟨sD _ h.head,List.pairwise_append.2 ⟨h.asc,hC.asc,fun x hx y hy=> ?_⟩,fun x hx=> ?_,fun x hx=> ?_,fun x hx hne=> ?_,fun x hx hne=> ?_,fun x hx hne=> ?_⟩
 ·have:=hDk x hx;have:=hCk y hy;omega
 ·rcases List.mem_append.1 hx with hx|hx
  ·rcases h.rng x hx with e|⟨k',m',h1,h2,h3,h4,h5⟩
   ·exact .inl e
   ·exact .inr ⟨k',m',List.mem_append_left _ h1,h2,h3,h4,h5⟩
  ·have:=hC.rng x hx
   exact .inr ⟨k,m,by simp,hk,hp,this.1,this.2⟩
 ·rcases List.mem_append.1 hx with hx|hx
  ·exact sD _ (h.kids x hx)
  ·rw[List.mem_singleton]at hx;subst hx;exact sC _ hC.head
 ·rcases List.mem_append.1 hx with hx|hx
  ·refine each_more (C:=D) hx (h.each x hx hne) sD fun y hy hyD=> ?_
   rcases List.mem_append.1 hyD with hyD|hyC
   ·exact hyD
   ·exfalso
    obtain⟨g1,m2,g2,g3⟩:=states_gt T (hDk x hx).1 hy
    rcases h.rng x hx with e|⟨k',m',h1,h2,h3,h4,h5⟩
    ·exact hne e
    ·have l1:=T.seg.lam k' y.toNat m' m2 h2 g2 (by omega)
     have:=kid_apart T h2 h3 hk hp (by have:=hlt _ h1;omega)
     have:=hCk y hyC
     omega
  ·refine each_more (C:=C) hx (hC.each x hx) sC fun y hy hyD=> ?_
   rcases List.mem_append.1 hyD with hyD|hyC
   ·exfalso
    have:=hCk x hx
    obtain⟨g1,_⟩:=states_gt T (by omega) hy
    have:=hDk y hyD
    omega
   ·exact hyC
 ·rcases List.mem_append.1 hx with hx|hx
  ·exact fun n hn=>sD _ (h.par x hx hne n hn)
  ·by_cases e:x=k
   ·subst e
    intro n hn
    rw[Int.toNat_natCast,hk]at hn;cases hn
    rw[hp];exact sD _ h.head
   ·exact fun n hn=>sC _ (hC.par x hx e n hn)
 ·rcases List.mem_append.1 hx with hx|hx
  ·exact atom_more (h.atom x hx hne) sD
  ·exact atom_more (hC.atom x hx) sC
theorem par_rng{ns:List Nd}(T:Tree ns){a:Nat}{n:Nd}{A D:List Int}(ha:ns[a]? =some n)(h:Par ns a A D):∀x∈D,(a:Int)≤x∧x≤n.last:=by
 intro x hx
 have hal:=T.seg.last a n ha
 rcases h.rng x hx with rfl|⟨k,m,h1,h2,h3,h4,h5⟩
 ·omega
 ·have:=kid_in T ha h2 h3;omega
theorem sub_comp{ns:List Nd}(T:Tree ns){a k:Nat}{n m:Nd}{C:List Int}(ha:ns[a]? =some n)(hkd:n.kind=2)(hk:ns[k]? =some m)(hp:m.parent=a)(hm:m.kind≤3)(hC:Sub ns k m C):Sub ns a n ((a:Int)::C):=by
 have P:=par_snoc T hk hp (fun x hx=>by simp at hx) (par_nil (ns:=ns) (a:=a)) hC
 have hla:=Tree.lt ha
 have hkC:(k:Int)∈(a:Int)::C:=List.mem_cons_of_mem _ hC.head
 have hak:=(kid_in T ha hk hp).1
 refine⟨P.head,P.asc,par_rng T ha P,fun x hx=> ?_,P.par,fun x hx=> ?_⟩
 ·by_cases e:x=a
  ·subst e
   refine⟨n,by rw[Int.toNat_natCast];exact ha,by omega,fun _=> ?_,fun e=>by omega⟩
   have hks:(k:Int)∈statesN ns a:=(mem_statesN hla).2 ⟨k,m,rfl,hk,hp,hm⟩
   rw[andL_eq,←asc_one statesN_asc hks]
   congr 1
   refine List.filter_congr fun y hy=> ?_
   obtain⟨q,m2,rfl,g1,g2,g3⟩:=(mem_statesN hla).1 hy
   by_cases e:q=k
   ·subst e;rw[hasL_iff.2 hkC];simp
   ·have:(q:Int)∉(a:Int)::C:=by
     intro hm
     have gq:=T.seg.par q m2 g1
     rcases List.mem_cons.1 hm with h1|h1
     ·omega
     ·have h2:=hC.rng _ h1
      have:=kid_apart T hk hp g1 g2 (by omega)
      omega
    unfold hasL
    rw[decide_eq_false this,decide_eq_false (by omega)]
  ·exact P.each x hx e
 ·by_cases e:x=a
  ·subst e
   exact atom_up T ha hk hp (P.atom k hkC (by omega))
  ·exact P.atom x hx e
theorem sub_par{ns:List Nd}(T:Tree ns){a:Nat}{n:Nd}{D:List Int}(ha:ns[a]? =some n)(hkd:n.kind=3)(P:Par ns a (statesN ns a) D):Sub ns a n D:=by
 have hla:=Tree.lt ha
 refine⟨P.head,P.asc,par_rng T ha P,fun x hx=> ?_,P.par,fun x hx=> ?_⟩
 ·by_cases e:x=a
  ·subst e
   exact⟨n,by rw[Int.toNat_natCast];exact ha,by omega,fun e=>by omega,fun _=>P.kids⟩
  ·exact P.each x hx e
 ·by_cases e:x=a
  ·subst e
   obtain⟨m,h1,h2,h3⟩:=T.seg.first a n ha (.inr hkd)
   have h4:((a+1:Nat):Int)∈statesN ns a:=(mem_statesN hla).2 ⟨a+1,m,rfl,h1,by omega,h3⟩
   exact atom_up T ha h1 (by omega) (P.atom _ (P.kids _ h4) (by omega))
  ·exact P.atom x hx e
theorem filt_next:∀{l:List Int} {m:Nat},Asc l→l.filter (fun x=>decide (x<((m+1:Nat):Int)))=l.filter (fun x=>decide (x<(m:Int)))++if hasL l m then[(m:Int)]else[]
 | [],m,_=>by simp[hasL]
 |a::r,m,h=>by
  obtain⟨h1,h2⟩:=List.pairwise_cons.1 h
  have ih:=filt_next (m:=m) h2
  rw[List.filter_cons,List.filter_cons]
  by_cases e:a<(m:Int)
  ·rw[if_pos (decide_eq_true (by omega)),if_pos (decide_eq_true e),ih]
   have:hasL (a::r) m=hasL r m:=by
    unfold hasL
    by_cases hr:(m:Int)∈r
    ·rw[decide_eq_true hr,decide_eq_true (List.mem_cons_of_mem _ hr)]
    ·rw[decide_eq_false hr,decide_eq_false]
     intro hh
     rcases List.mem_cons.1 hh with h3|h3
     ·omega
     ·exact hr h3
   rw[this];rfl
  ·have nil1:∀b:Int,b≤m+1→(m:Int)≤a→r.filter (fun x=>decide (x<b))=[]:=fun b hb ha=>List.filter_eq_nil_iff.2 fun y hy=>by have:=h1 y hy;simp;omega
   rw[if_neg (show¬decide (a<(m:Int))=true by simp;omega),nil1 m (by omega) (by omega),nil1 ((m+1:Nat):Int) (by omega) (by omega)]
   by_cases e2:a=m
   ·subst e2
    rw[if_pos (decide_eq_true (show(m:Int)<((m+1:Nat):Int)by omega)),if_pos (hasL_iff.2 List.mem_cons_self)];rfl
   ·rw[if_neg (show¬decide (a<((m+1:Nat):Int))=true by simp;omega),if_neg]
    ·rfl
    ·intro hh
     rcases List.mem_cons.1 (hasL_iff.1 hh)with h3|h3
     ·omega
     ·have:=h1 _ h3;omega
theorem ofGo_asc{l:List Int}(h:Asc l)(h0:∀x∈l,0≤x):∀m:Nat,ofGo l m=l.filter fun x=>decide (x<(m:Int))
 |0=>by symm;exact List.filter_eq_nil_iff.2 fun y hy=>by have:=h0 y hy;simp;omega
 |m+1=>by rw[ofGo,ofGo_asc h h0 m,filt_next h]
theorem ofGo_self{l:List Int}{m:Nat}(h:Asc l)(h0:∀x∈l,0≤x∧x<m):ofGo l m=l:=by
 rw[ofGo_asc h (fun x hx=>(h0 x hx).1),List.filter_eq_self]
 intro x hx;exact decide_eq_true (h0 x hx).2
section
variable {ns : List Nd} {n : Nd} {C : List Int}
theorem sub_rng(T:Tree ns)(h0:ns[0]? =some n)(h:Sub ns 0 n C):∀x∈C,0≤x∧x<ns.length:=fun x hx=>by
 have:=h.rng x hx
 have:=T.seg.last 0 n h0
 omega
theorem sub_of(T:Tree ns)(hl:ns.length≤128)(h0:ns[0]? =some n)(h:Sub ns 0 n C):ofL C=C:=ofGo_self h.asc fun x hx=>by have:=sub_rng T h0 h x hx;omega
end
def anyN(ns:List Nd)(e:List Int)(k:Int):Bool:=e.any fun x=>inN ns x k
def regF(ns:List Nd)(dn:Int→List Int→List Int):List Int→List Int→List Int
 | [],e=>e
 |k::r,e=>regF ns dn r (if anyN ns e k then e else dn k e)
def dnF(ns:List Nd):Nat→Int→List Int→List Int
 |0,_,e=>e
 |f+1,s,e=>match ns[s.toNat]? with
  |some n=>if n.kind=2 then dnF ns f n.init (e++[s])else if n.kind=3 then regF ns (dnF ns f) (statesN ns s) (e++[s])else e++[s]
  |none=>e
def dnN(ns:List Nd)(s:Int)(e:List Int):List Int:=dnF ns (ns.length+1) s e
theorem regF_congr{ns:List Nd}{p q:Int→List Int→List Int}:∀{l:List Int} {e:List Int},(∀k∈l,∀e,p k e=q k e)→regF ns p l e=regF ns q l e
 | [],e,_=>rfl
 |k::r,e,h=>by
  rw[regF,regF,h k List.mem_cons_self,regF_congr fun j hj=>h j (List.mem_cons_of_mem _ hj)]
theorem dnF_at{ns:List Nd}{f:Nat}{a:Nat}{n:Nd}{e:List Int}(h:ns[a]? =some n):dnF ns (f+1) a e=if n.kind=2 then dnF ns f n.init (e++[(a:Int)])else if n.kind=3 then regF ns (dnF ns f) (statesN ns a) (e++[(a:Int)])else e++[(a:Int)]:=by
 show(match ns[((a:Nat):Int).toNat]? with|some n=>_|none=>_)=_
 rw[Int.toNat_natCast,h]
theorem init_at{ns:List Nd}(T:Tree ns){a:Nat}{n:Nd}(h:ns[a]? =some n)(hk:n.kind=2):n.init=((a+1:Nat):Int)∧∃m,ns[a+1]? =some m∧m.parent=a∧m.kind≤3∧m.last≤n.last:=by
 have h1:=T.seg.init a n h
 obtain⟨m,m1,m2,m3⟩:=T.seg.first a n h (.inl hk)
 rw[if_pos hk]at h1
 refine⟨by omega,m,m1,by omega,m3,?_⟩
 exact(kid_in T h m1 (by omega)).2.2
theorem dnF_same{ns:List Nd}(T:Tree ns):∀(f f':Nat) (a:Nat) (n:Nd) (e:List Int),ns[a]? =some n→n.last-a<f→n.last-a<f'→dnF ns f a e=dnF ns f' a e
 |0,f',a,n,e,h,h1,h2=>by have:=T.seg.last a n h;omega
 |f+1,0,a,n,e,h,h1,h2=>by have:=T.seg.last a n h;omega
 |f+1,f'+1,a,n,e,h,h1,h2=>by
  rw[dnF_at h,dnF_at h]
  split
  ·rename_i hk
   obtain⟨i1,m,m1,m2,m3,m4⟩:=init_at T h hk
   rw[i1]
   exact dnF_same T f f' (a+1) m _ m1 (by omega) (by omega)
  ·split
   ·refine regF_congr fun k hk e'=> ?_
    obtain⟨q,m,rfl,m1,m2,m3⟩:=(mem_statesN (Tree.lt h)).1 hk
    have:=kid_in T h m1 m2
    exact dnF_same T f f' q m e' m1 (by omega) (by omega)
   ·rfl
theorem dnN_at{ns:List Nd}(T:Tree ns){a:Nat}{n:Nd}{e:List Int}(h:ns[a]? =some n):dnN ns a e=if n.kind=2 then dnN ns n.init (e++[(a:Int)])else if n.kind=3 then regF ns (dnN ns) (statesN ns a) (e++[(a:Int)])else e++[(a:Int)]:=by
 have hl:=T.seg.last a n h
 have ha:=Tree.lt h
 unfold dnN
 rw[dnF_at h]
 split
 ·rename_i hk
  obtain⟨i1,m,m1,m2,m3,m4⟩:=init_at T h hk
  rw[i1]
  exact dnF_same T _ _ (a+1) m _ m1 (by omega) (by omega)
 ·split
  ·refine regF_congr fun k hk e'=> ?_
   obtain⟨q,m,rfl,m1,m2,m3⟩:=(mem_statesN (Tree.lt h)).1 hk
   have:=kid_in T h m1 m2
   exact dnF_same T _ _ q m e' m1 (by omega) (by omega)
  ·rfl
theorem regF_len{ns:List Nd}(T:Tree ns){dn:Int→List Int→List Int}{a:Nat}{n:Nd}(ha:ns[a]? =some n)(hd:∀(q:Nat) (m:Nd),ns[q]? =some m→m.parent=a→m.kind≤3→∀e,(dn q e).length≤e.length+(m.last-q+1).toNat):
 ∀(l:List Int) (lo:Int) (e:List Int),(∀k∈l,k∈statesN ns a∧lo≤k)→Asc l→lo≤n.last+1→(regF ns dn l e).length≤e.length+(n.last+1-lo).toNat
 | [],lo,e,_,_,h=>by rw[regF];omega
 |k::r,lo,e,hl,hA,h=>by
  obtain⟨hk,hlo⟩:=hl k List.mem_cons_self
  obtain⟨q,m,rfl,m1,m2,m3⟩:=(mem_statesN (Tree.lt ha)).1 hk
  have h1:=hd q m m1 m2 m3 e
  have h2:=kid_in T ha m1 m2
  have h3:=T.seg.last q m m1
  obtain⟨a1,a2⟩:=List.pairwise_cons.1 hA
  have ih:=regF_len T ha hd r (m.last+1) (if anyN ns e q then e else dn q e) (fun j hj=> ?_) a2 (by omega)
  ·rw[regF]
   refine Nat.le_trans ih ?_
   split<;>omega
  ·have hj2:=(hl j (List.mem_cons_of_mem _ hj)).1
   obtain⟨q',m',rfl,g1,g2,g3⟩:=(mem_statesN (Tree.lt ha)).1 hj2
   have:=a1 _ hj
   have:=kid_apart T m1 m2 g1 g2 (by omega)
   exact⟨hj2,by omega⟩
theorem dnN_len{ns:List Nd}(T:Tree ns):∀(f:Nat) (a:Nat) (n:Nd) (e:List Int),ns[a]? =some n→n.last-a<f→(dnN ns a e).length≤e.length+(n.last-a+1).toNat
 |0,a,n,e,h,h1=>by have:=T.seg.last a n h;omega
 |f+1,a,n,e,h,h1=>by
  have hl:=T.seg.last a n h
  rw[dnN_at T h]
  split
  ·rename_i hk
   obtain⟨i1,m,m1,m2,m3,m4⟩:=init_at T h hk
   rw[i1]
   have:=dnN_len T f (a+1) m (e++[(a:Int)]) m1 (by omega)
   rw[List.length_append,List.length_singleton]at this
   have:=T.seg.last (a+1) m m1
   omega
  ·split
   ·have:=regF_len T h (dn:=dnN ns) (fun q m m1 m2 m3 e=>by
     have:=kid_in T h m1 m2
     exact dnN_len T f q m e m1 (by omega)) (statesN ns a) (a+1) (e++[(a:Int)]) (fun k hk=>⟨hk,by
      have:=(states_gt T (by omega) hk).1
      omega⟩) statesN_asc (by omega)
    rw[List.length_append,List.length_singleton]at this
    omega
   ·rw[List.length_append,List.length_singleton];omega
theorem dnN_le{ns:List Nd}(T:Tree ns){a:Nat}{n:Nd}{e:List Int}(h:ns[a]? =some n):(dnN ns a e).length≤e.length+ns.length:=by
 have:=dnN_len T (n.last-a+1).toNat a n e h (by have:=T.seg.last a n h;omega)
 have:=T.seg.last a n h
 omega
def Free(ns:List Nd)(a:Nat)(n:Nd)(e:List Int):Prop:=∀x∈e,x<(a:Int)∨n.last<x
theorem any_free{ns:List Nd}{a:Nat}{n:Nd}{e:List Int}(h:ns[a]? =some n)(hf:Free ns a n e):anyN ns e a=false:=by
 unfold anyN
 rw[List.any_eq_false]
 intro x hx
 unfold inN
 rw[Int.toNat_natCast,h]
 have:=hf x hx
 simp only[Bool.and_eq_true,decide_eq_true_eq]
 omega
theorem reg_sub{ns:List Nd}(T:Tree ns){a:Nat}{n:Nd}(ha:ns[a]? =some n)
 (hd:∀(q:Nat) (m:Nd),ns[q]? =some m→m.parent=a→m.kind≤3→∀e,Free ns q m e→∃C,dnN ns q e=e++C∧Sub ns q m C) {e:List Int} (he:Free ns a n e):
 ∀(r A D:List Int),statesN ns a=A++r→Par ns a A D→∃D',regF ns (dnN ns) r (e++D)=e++D'∧Par ns a (statesN ns a) D'
 | [],A,D,hA,hP=>⟨D,rfl,by rw[hA,List.append_nil];exact hP⟩
 |k::r,A,D,hA,hP=>by
  have hk:k∈statesN ns a:=by rw[hA];simp
  obtain⟨q,m,rfl,m1,m2,m3⟩:=(mem_statesN (Tree.lt ha)).1 hk
  have hki:=kid_in T ha m1 m2
  have hS:Asc (A++(q:Int)::r):=by rw[←hA];exact statesN_asc
  have hlt:∀x∈A,x<(q:Int):=fun x hx=>(List.pairwise_append.1 hS).2.2 x hx _ List.mem_cons_self
  have hfr:Free ns q m (e++D):=fun x hx=>by
   rcases List.mem_append.1 hx with hx|hx
   ·have:=he x hx;omega
   ·rcases hP.rng x hx with h|⟨k',m',hk',g1,g2,g3,g4⟩
    ·omega
    ·have:=hlt _ hk'
     have:=kid_apart T g1 g2 m1 m2 (by omega)
     omega
  obtain⟨C,c1,c2⟩:=hd q m m1 m2 m3 (e++D) hfr
  obtain⟨D',d1,d2⟩:=reg_sub T ha hd he r (A++[(q:Int)]) (D++C) (by rw[hA];simp) (par_snoc T m1 m2 hlt hP c2)
  refine⟨D',?_,d2⟩
  rw[regF,any_free m1 hfr,if_neg (by simp),c1,List.append_assoc]
  exact d1
theorem dnN_sub{ns:List Nd}(T:Tree ns):∀(f:Nat) (a:Nat) (n:Nd) (e:List Int),ns[a]? =some n→n.kind≤3→n.last-a<f→Free ns a n e→∃C,dnN ns a e=e++C∧Sub ns a n C
 |0,a,n,e,h,_,h1,_=>by have:=T.seg.last a n h;omega
 |f+1,a,n,e,h,h3,h1,hf=>by
  have hl:=T.seg.last a n h
  have hkinds:=T.seg.kinds a n h
  rw[dnN_at T h]
  split
  ·rename_i hk
   obtain⟨i1,m,m1,m2,m3,m4⟩:=init_at T h hk
   rw[i1]
   obtain⟨C,c1,c2⟩:=dnN_sub T f (a+1) m (e++[(a:Int)]) m1 m3 (by omega) (fun x hx=>by
    rcases List.mem_append.1 hx with hx|hx
    ·have:=hf x hx;omega
    ·rw[List.mem_singleton]at hx;omega)
   refine⟨(a:Int)::C,by rw[c1,List.append_assoc];rfl,sub_comp T h hk m1 m2 m3 c2⟩
  ·split
   ·rename_i hk
    obtain⟨D,d1,d2⟩:=reg_sub T h (fun q m m1 m2 m3 e he=>by
     have:=kid_in T h m1 m2
     exact dnN_sub T f q m e m1 m3 (by omega) he) hf (statesN ns a) [] [(a:Int)] rfl par_nil
    exact⟨D,d1,sub_par T h hk d2⟩
   ·exact⟨_,rfl,sub_atom T h (by omega)⟩
theorem begin_sub{ns:List Nd}(T:Tree ns){n:Nd}(h:ns[0]? =some n):Sub ns 0 n (dnN ns 0 []):=by
 obtain⟨C,c1,c2⟩:=dnN_sub T (n.last+1).toNat 0 n [] h (by have:=T.root n h;omega) (by have:=T.seg.last 0 n h;omega) (fun x hx=>by cases hx)
 rw[show dnN ns 0 []=C from c1]
 exact c2
theorem begin_two{ns:List Nd}(T:Tree ns){n:Nd}(h:ns[0]? =some n):1<(dnN ns 0 []).length:=by
 have hS:=begin_sub T h
 obtain⟨n',e1,e2,e3,e4⟩:=hS.each _ hS.head
 rw[show((0:Nat):Int).toNat=0 from rfl,h]at e1
 injection e1 with e1
 subst e1
 have h5:=e3 (T.root n h).2.1
 obtain⟨y,hy⟩:∃y,y∈andL (statesN ns ((0:Nat):Int)) (dnN ns 0 []):=by
  cases hl:andL (statesN ns ((0:Nat):Int)) (dnN ns 0 [])with
  |nil=>rw[hl]at h5;cases h5
  |cons y r=>exact⟨y,List.mem_cons_self⟩
 rw[andL_eq,List.mem_filter]at hy
 have hy2:=hasL_iff.1 hy.2
 have hy1:=(states_gt T (by omega) hy.1).1
 have h0:=hS.head
 cases hl:dnN ns 0 []with
 |nil=>rw[hl]at h0;cases h0
 |cons x r=>
  cases r with
  |nil=>
   rw[hl]at h0 hy2
   rw[List.mem_singleton]at h0 hy2
   omega
  |cons=>simp
end Go.VM
namespace Go.Proofs.Ytkommgiklkcclaa.Vm
section
variable {R : Type} {G : ORC R} {k : Nat} {K : LV → OV R}
def KidsOK(f:FuncId)(G:ORC R):Prop:=∀(l:List Nd) (i:Int) (K:LV→OV R),l.length≤1000→W (fun o=>o=[.sl 1 (ivs (kidsN l i))]) K (G f [.sl 7 (l.map Nd.v),.int .i64 i] K)
theorem rkids_loop(hI:IsOK G){Q:LV→Prop}{K:LV→OV R}{Ko:LV→OV R}{l:List Nd}{i:Int}(hl:l.length≤1000)(hKo:W Q K (Ko (ivs (kidsN l i)))):
 ∀(j m:Nat),l.length-m<j→m≤l.length→W Q K (l74_0g G k Ko j (l.map Nd.v) i (ivs (kidsGo l i m)) m)
 |0,m,h1,h2=>by omega
 |j+1,m,h1,h2=>by
  show W Q K (b74_0 G k (l74_0g G k Ko j) Ko (l.map Nd.v) i (ivs (kidsGo l i m)) m)
  unfold b74_0
  have hgl:=kidsGo_len (l:=l) (i:=i) (m:=m)
  simp only[List.length_map]
  refine W_dec (fun h=> ?_) (fun h=>by rw[show m=l.length by omega];exact hKo)
  unfold IsOK at hI
  refine W_call (hI _ _ _) ?_
  rintro _ rfl
  (repeat(with_reducible apply U1))
  simp only[List.length_map]
  refine W_dec (fun hi=> ?_) (fun hi=> ?_)
  ·refine W_and (W_yes (by omega) (W_yes (by omega) ?_))
   refine W_nthN (by omega) (fun n hn=> ?_)
   rw[Int.toNat_natCast]at hn
   (repeat(with_reducible apply U1))
   have next:∀a,a=ivs (kidsGo l i (m+1))→W Q K (l74_0g G k Ko j (l.map Nd.v) i a (IntKind.i64.wrap ((m:Int)+1))):=fun a ha=>by
    rw[wrap_id (n:=(m:Int)+1) (by omega),ha]
    exact rkids_loop hI hl hKo j (m+1) (by omega) (by omega)
   have hk:isK l i m=(decide (0≤i∧i<l.length)&&decide (n.parent=i)):=by unfold isK;rw[hn]
   refine W_beqI (fun hp=> ?_) (fun hp=>next _ (by rw[kidsGo,hk,decide_eq_false hp];simp))
   refine W_yes (by rw[ivs_len];omega) (next _ (by rw[kidsGo,hk,decide_eq_true hi,decide_eq_true hp];simp[ivs]))
  ·have e0:∀m,kidsGo l i m=[]:=by
    intro m
    induction m with
    |zero=>rfl
    |succ m ih=>unfold kidsGo;rw[ih];unfold isK;rw[decide_eq_false hi];simp
   have:kidsN l i=kidsGo l i m:=by unfold kidsN;rw[e0,e0]
   rw[←this];exact hKo
theorem rkids_ok(hk:10000≤k)(hI:IsOK G):KidsOK 74 (fun _ args (K:LV→OV R)=>g74 G k args K):=by
 intro l i K hl
 show W _ K (f74 G k (l.map Nd.v) i K)
 unfold f74 l74_0
 exact rkids_loop (Q:=fun o=>o=[.sl 1 (ivs (kidsN l i))]) (K:=K) (Ko:=fun x=>K [.sl 1 x]) hI hl (W_ret rfl) k 0 (by omega) (by omega)
end
section
variable {R : Type} {G : ORC R} {k : Nat} {K : LV → OV R}
theorem ivs_atZ{l:List Int}{i:Nat}{n:Int}(h:l[i]? =some n):(ivs l)[((i:Nat):Int).toNat]? =some (.int .i64 n):=by rw[Int.toNat_natCast];exact ivs_at h
theorem get_ex{l:List Int}{m:Nat}(h:m<l.length):∃x,l[m]? =some x:=⟨_,List.getElem?_eq_getElem h⟩
def HasOK(G:ORC R):Prop:=∀(l:List Int) (i:Int) (K:LV→OV R),l.length≤9000→W (fun o=>o=[.bool (hasL l i)]) K (G 19 [.sl 1 (ivs l),.int .i64 i] K)
theorem has_loop{Q:LV→Prop}{K:LV→OV R}{Ko:Unit→OV R}{Kr:Bool→OV R}{l:List Int}{i:Int}(hl:l.length≤9000)(hKo:i∉l→W Q K (Ko ()))(hKr:i∈l→W Q K (Kr true)):
 ∀(j m:Nat),l.length-m<j→m≤l.length→i∉l.take m→W Q K (l19_0g G k Ko Kr j (ivs l) i m)
 |0,m,h1,h2,h3=>by omega
 |j+1,m,h1,h2,h3=>by
  show W Q K (b19_0 G k (l19_0g G k Ko Kr j) Ko Kr (ivs l) i m)
  unfold b19_0
  refine W_dec (fun h=> ?_) (fun h=>hKo (by rw[ivs_len]at h;rwa[List.take_of_length_le (by omega)]at h3))
  rw[ivs_len]at h
  obtain⟨x,hx⟩:=get_ex (l:=l) (m:=m) (by omega)
  refine W_at (by omega) (ivs_atZ hx) (W_aI ?_)
  refine W_beqI (fun e=>hKr (by subst e;exact List.mem_of_getElem? hx)) (fun e=> ?_)
  rw[wrap_id (n:=(m:Int)+1) (by omega)]
  exact has_loop hl hKo hKr j (m+1) (by omega) (by omega) (by rw[take_snoc hx,List.mem_append,List.mem_singleton];rintro(h|h);exact h3 h;exact e h.symm)
theorem has_ok(hk:10000≤k):HasOK (fun _ args (K:LV→OV R)=>g19 G k args K):=by
 intro l i K hl
 show W _ K (f19 G k (ivs l) i K)
 unfold f19 l19_0
 exact has_loop (Q:=fun o=>o=[.bool (hasL l i)]) (K:=K) hl (fun h=>W_ret (by unfold hasL;rw[decide_eq_false h])) (fun h=>W_ret (by unfold hasL;rw[decide_eq_true h])) k 0 (by omega) (by omega) (by simp)
def StatesOK(G:ORC R):Prop:=∀(ns:List Nd) (i:Int) (K:LV→OV R),ns.length≤1000→W (fun o=>o=[.sl 1 (ivs (statesN ns i))]) K (G 64 [.sl 7 (ns.map Nd.v),.int .i64 i] K)
theorem filt_snoc{l:List Int}{p:Int→Bool}{x:Int}:(l++[x]).filter p=l.filter p++if p x then[x]else[]:=by
 rw[List.filter_append,List.filter_cons];cases p x<;>simp
theorem kid_at{ns:List Nd}{i x:Int}{m:Nat}(h:(kidsN ns i)[m]? =some x):∃(q:Nat) (n:Nd),x=q∧ns[q]? =some n∧q<ns.length∧isSt ns x=decide (n.kind≤3):=by
 obtain⟨q,n,h1,h2,h3,_⟩:=mem_kidsN.1 (List.mem_of_getElem? h)
 exact⟨q,n,h1,h2,(List.getElem?_eq_some_iff.1 h2).1,by unfold isSt;rw[h1,Int.toNat_natCast,h2]⟩
theorem states_loop(hS:IsStOK G){Q:LV→Prop}{K:LV→OV R}{Ko:LV→OV R}{ns:List Nd}{i:Int}(hl:ns.length≤1000)(hKo:W Q K (Ko (ivs (statesN ns i)))):
 ∀(j m:Nat),(kidsN ns i).length-m<j→m≤(kidsN ns i).length→W Q K (l64_0g G k Ko j (ns.map Nd.v) (ivs (((kidsN ns i).take m).filter (isSt ns))) (ivs (kidsN ns i)) m)
 |0,m,h1,h2=>by omega
 |j+1,m,h1,h2=>by
  show W Q K (b64_0 G k (l64_0g G k Ko j) Ko (ns.map Nd.v) (ivs (((kidsN ns i).take m).filter (isSt ns))) (ivs (kidsN ns i)) m)
  unfold b64_0
  have hkl:(kidsN ns i).length≤ns.length:=kidsGo_len
  refine W_dec (fun h=> ?_) (fun h=>by rw[ivs_len]at h;rw[List.take_of_length_le (by omega)];exact hKo)
  rw[ivs_len]at h
  obtain⟨x,hx⟩:=get_ex (l:=kidsN ns i) (m:=m) (by omega)
  obtain⟨q,n,rfl,hn,hq,hst⟩:=kid_at hx
  have hfl:=List.length_filter_le (isSt ns) ((kidsN ns i).take m)
  rw[List.length_take]at hfl
  unfold IsStOK at hS
  refine W_at (by omega) (ivs_atZ hx) (W_aI ?_)
  refine W_at (by omega) (by rw[Int.toNat_natCast];exact nd_get hn) (W_asAgg ?_)
  refine W_call (hS n _) ?_
  rintro _ rfl
  (repeat(with_reducible apply U1))
  have next:∀c,c=ivs (((kidsN ns i).take (m+1)).filter (isSt ns))→W Q K (l64_0g G k Ko j (ns.map Nd.v) c (ivs (kidsN ns i)) (IntKind.i64.wrap ((m:Int)+1))):=fun c hc=>by
   rw[wrap_id (n:=(m:Int)+1) (by omega),hc]
   exact states_loop hS hl hKo j (m+1) (by omega) (by omega)
  rw[←hst]
  refine W_bool (fun hb=> ?_) (fun hb=>next _ (by rw[take_snoc hx,filt_snoc,hb];simp))
  refine W_at (by omega) (ivs_atZ hx) (W_aI ?_)
  exact W_yes (by rw[ivs_len];omega) (next _ (by rw[take_snoc hx,filt_snoc,hb];simp[ivs]))
theorem states_ok(hk:10000≤k)(hK:KidsOK 74 G)(hS:IsStOK G):StatesOK (fun _ args (K:LV→OV R)=>g64 G k args K):=by
 intro ns i K hl
 show W _ K (f64 G k (ns.map Nd.v) i K)
 unfold f64
 unfold KidsOK at hK
 refine W_call (hK _ _ _ hl) ?_
 rintro _ rfl
 (repeat(with_reducible apply U1))
 unfold l64_0
 have hkl:(kidsN ns i).length≤ns.length:=kidsGo_len
 exact states_loop (Q:=fun o=>o=[.sl 1 (ivs (statesN ns i))]) (K:=K) (Ko:=fun x=>K [.sl 1 x]) hS hl (W_ret rfl) k 0 (by omega) (by omega)
theorem statesN_len{ns:List Nd}{i:Int}:(statesN ns i).length≤ns.length:=Nat.le_trans (List.length_filter_le _ _) kidsGo_len
end
section
variable {R : Type} {G : ORC R} {k : Nat} {K : LV → OV R} {Q : LV → Prop}
def AnyOK(G:ORC R):Prop:=∀(ns:List Nd) (s:Int) (hv:LV) (e:List Int) (K:LV→OV R),e.length≤9900→
 W (fun o=>o=[.bool (anyN ns e s),.sl 1 (ivs e)]) K (G 66 [.int .i64 s,.sl 7 (ns.map Nd.v),.sl 1 hv,.sl 1 (ivs e)] K)
theorem any_snoc{ns:List Nd}{s x:Int}{e:List Int}:anyN ns (e++[x]) s=(anyN ns e s||inN ns x s):=by unfold anyN;rw[List.any_append];simp
theorem any_loop(hI:InOK G){Ko:LV→LV→LV→OV R}{Kr:Bool→LV→LV→LV→OV R}{ns:List Nd}{s:Int}{hv:LV}{e:List Int}(hl:e.length≤9900)
 (hKo:anyN ns e s=false→W Q K (Ko (ns.map Nd.v) hv (ivs e))) (hKr:anyN ns e s=true→W Q K (Kr true (ns.map Nd.v) hv (ivs e))):
 ∀(j m:Nat),e.length-m<j→m≤e.length→anyN ns (e.take m) s=false→W Q K (l66_0g G k Ko Kr j s m (ns.map Nd.v) hv (ivs e))
 |0,m,h1,h2,h3=>by omega
 |j+1,m,h1,h2,h3=>by
  show W Q K (b66_0 G k (l66_0g G k Ko Kr j) Ko Kr s m (ns.map Nd.v) hv (ivs e))
  unfold b66_0
  refine W_dec (fun h=> ?_) (fun h=>by rw[ivs_len]at h;rw[List.take_of_length_le (by omega)]at h3;exact hKo h3)
  rw[ivs_len]at h
  obtain⟨x,hx⟩:=get_ex (l:=e) (m:=m) (by omega)
  refine W_at (by omega) (ivs_atZ hx) (W_aI ?_)
  have hI':=hI
  unfold InOK at hI'
  refine W_call (hI' _ _ _ _) ?_
  rintro _ rfl
  (repeat(with_reducible apply U1))
  have hs:=any_snoc (ns:=ns) (s:=s) (x:=x) (e:=e.take m)
  rw[←take_snoc hx,h3,Bool.false_or]at hs
  refine W_bool (fun hb=>hKr ?_) (fun hb=> ?_)
  ·unfold anyN
   exact List.any_eq_true.2 ⟨x,List.mem_of_getElem? hx,hb⟩
  ·rw[wrap_id (n:=(m:Int)+1) (by omega)]
   exact any_loop hI hl hKo hKr j (m+1) (by omega) (by omega) (by rw[hs,hb])
theorem any_ok(hk:10000≤k)(hI:InOK G):AnyOK (fun _ args (K:LV→OV R)=>g66 G k args K):=by
 intro ns s hv e K hl
 show W _ K (f66 G k s (ns.map Nd.v) hv (ivs e) K)
 unfold f66 l66_0
 exact any_loop (Q:=fun o=>o=[.bool (anyN ns e s),.sl 1 (ivs e)]) (Ko:=fun _ _ y=>K [.bool false,.sl 1 y]) (Kr:=fun b _ _ y=>K [.bool b,.sl 1 y]) hI hl (fun h=>W_ret (by rw[h])) (fun h=>W_ret (by rw[h])) k 0 (by omega) (by omega) rfl
def DnOK(d:Nat)(G:ORC R):Prop:=∀(ns:List Nd) (a:Nat) (n:Nd) (hv:LV) (e:List Int) (K:LV→OV R),Tree ns→ns.length≤100→ns[a]? =some n→n.kind≤3→n.last-a<d→e.length+(n.last-a+1).toNat≤9700→
 W (fun o=>o=[.sl 1 (ivs (dnN ns a e))]) K (G 21 [.int .i64 a,.sl 7 (ns.map Nd.v),.sl 1 hv,.sl 1 (ivs e)] K)
def RegOK(d:Nat)(G:ORC R):Prop:=∀(ns:List Nd) (a:Nat) (n:Nd) (hv:LV) (e:List Int) (K:LV→OV R),Tree ns→ns.length≤100→ns[a]? =some n→n.last-a≤d→e.length+(n.last-a).toNat≤9700→
 W (fun o=>o=[.sl 1 (ivs (regF ns (dnN ns) (statesN ns a) e))]) K (G 49 [.int .i64 a,.sl 7 (ns.map Nd.v),.sl 1 hv,.sl 1 (ivs e)] K)
theorem reg_loop{d:Nat}(hA:AnyOK G)(hD:DnOK d G){Ko:LV→LV→LV→OV R}{ns:List Nd}{a:Nat}{n:Nd}{hv:LV}(T:Tree ns)(hl:ns.length≤100)(ha:ns[a]? =some n)(hd:n.last-a≤d){D:List Int}:
 ∀(j m:Nat) (e:List Int) (lo:Int),(statesN ns a).length-m<j→m≤(statesN ns a).length→(∀k∈(statesN ns a).drop m,lo≤k)→a<lo→e.length+(n.last+1-lo).toNat≤9700→D=regF ns (dnN ns) ((statesN ns a).drop m) e→
  W Q K (Ko (ns.map Nd.v) hv (ivs D))→W Q K (l49_0g G k Ko j (ivs (statesN ns a)) m (ns.map Nd.v) hv (ivs e))
 |0,m,e,lo,h1,h2,h3,h4,h5,h6,hKo=>by omega
 |j+1,m,e,lo,h1,h2,h3,h4,h5,h6,hKo=>by
  show W Q K (b49_0 G k (l49_0g G k Ko j) Ko (ivs (statesN ns a)) m (ns.map Nd.v) hv (ivs e))
  unfold b49_0
  have hsl:(statesN ns a).length≤ns.length:=statesN_len
  refine W_dec (fun h=> ?_) (fun h=>by
   rw[ivs_len]at h
   rw[List.drop_of_length_le (by omega)]at h6
   rw[show D=e from h6]at hKo
   exact hKo)
  rw[ivs_len]at h
  obtain⟨x,hx⟩:=get_ex (l:=statesN ns a) (m:=m) (by omega)
  have hdr:(statesN ns a).drop m=x::(statesN ns a).drop (m+1):=by
   obtain⟨hm,e1⟩:=List.getElem?_eq_some_iff.1 hx
   rw[List.drop_eq_getElem_cons hm,e1]
  obtain⟨q,m2,rfl,g1,g2,g3⟩:=(mem_statesN (Tree.lt ha)).1 (List.mem_of_getElem? hx)
  have hki:=kid_in T ha g1 g2
  have hql:=T.seg.last q m2 g1
  have hlo:=h3 q (by rw[hdr];exact List.mem_cons_self)
  have hnext:∀k∈(statesN ns a).drop (m+1),m2.last+1≤k:=fun k hk=>by
   have hA:Asc ((statesN ns a).drop m):=List.Pairwise.sublist (List.drop_sublist _ _) statesN_asc
   rw[hdr]at hA
   have h7:=(List.pairwise_cons.1 hA).1 k hk
   obtain⟨q',m',rfl,k1,k2,k3⟩:=(mem_statesN (Tree.lt ha)).1 (List.mem_of_mem_drop hk)
   have:=kid_apart T g1 g2 k1 k2 (by omega)
   omega
  rw[hdr,regF]at h6
  refine W_at (by omega) (ivs_atZ hx) (W_aI ?_)
  have hA':=hA
  have hD':=hD
  unfold AnyOK at hA';unfold DnOK at hD'
  refine W_call (hA' _ _ _ _ _ (by omega)) ?_
  rintro _ rfl
  (repeat(with_reducible apply U1))
  have next:∀e':List Int,e'.length≤e.length+(m2.last-q+1).toNat→D=regF ns (dnN ns) ((statesN ns a).drop (m+1)) e'→W Q K (l49_0g G k Ko j (ivs (statesN ns a)) (IntKind.i64.wrap ((m:Int)+1)) (ns.map Nd.v) hv (ivs e')):=fun e' q1 q2=>by
   rw[wrap_id (n:=(m:Int)+1) (by omega)]
   exact reg_loop hA hD T hl ha hd j (m+1) e' (m2.last+1) (by omega) (by omega) hnext (by omega) (by omega) q2 hKo
  refine W_not (W_bool (fun hb=> ?_) (fun hb=> ?_))
  ·rw[hb,if_pos rfl]at h6
   exact next e (by omega) h6
  ·rw[hb,if_neg (by simp)]at h6
   refine W_at (by omega) (ivs_atZ hx) (W_aI ?_)
   refine W_call (hD' ns q m2 hv e _ T hl g1 g3 (by omega) (by omega)) ?_
   rintro _ rfl
   (repeat(with_reducible apply U1))
   exact next _ (dnN_len T (m2.last-q+1).toNat q m2 e g1 (by omega)) h6
theorem reg_ok{d:Nat}(hk:10000≤k)(hS:StatesOK G)(hA:AnyOK G)(hD:DnOK d G):RegOK d (fun _ args (K:LV→OV R)=>g49 G k args K):=by
 intro ns a n hv e K T hl ha hd he
 show W _ K (f49 G k a (ns.map Nd.v) hv (ivs e) K)
 unfold f49
 unfold StatesOK at hS
 refine W_call (hS _ _ _ (by omega)) ?_
 rintro _ rfl
 (repeat(with_reducible apply U1))
 unfold l49_0
 have hsl:(statesN ns a).length≤ns.length:=statesN_len
 have hal:=T.seg.last a n ha
 exact reg_loop (Q:=fun o=>o=[.sl 1 (ivs (regF ns (dnN ns) (statesN ns a) e))]) (Ko:=fun _ _ y=>K [.sl 1 y]) hA hD T hl ha hd k 0 e (a+1) (by omega) (by omega) (fun k hk=>by
  have:=(states_gt T (by omega) (List.mem_of_mem_drop hk)).1
  omega) (by omega) (by omega) rfl (W_ret rfl)
theorem dn_ok{d:Nat}(hIs:IsStOK G)(hD:∀d',d=d'+1→DnOK d' G∧RegOK d' G):DnOK d (fun _ args (K:LV→OV R)=>g21 G k args K):=by
 intro ns a n hv e K T hl ha h3 hd he
 show W _ K (f21 G k a (ns.map Nd.v) hv (ivs e) K)
 have hal:=T.seg.last a n ha
 have hla:=Tree.lt ha
 cases d with
 |zero=>omega
 |succ d=>
 obtain⟨hD,hR⟩:=hD d rfl
 unfold f21
 unfold IsStOK at hIs;unfold DnOK at hD;unfold RegOK at hR
 have hat:(ns.map Nd.v)[((a:Nat):Int).toNat]? =some n.v:=by rw[Int.toNat_natCast];exact nd_get ha
 rw[dnN_at T ha]
 refine W_at (by omega) hat (W_asAgg ?_)
 refine W_call (hIs n _) ?_
 rintro _ rfl
 (repeat(with_reducible apply U1))
 refine W_not (W_chk (decide_eq_true h3) ?_)
 refine W_yes (by rw[ivs_len];omega) ?_
 have es:ivs e++[V.int .i64 (a:Int)]=ivs (e++[(a:Int)]):=by rw[ivs_app];rfl
 have el:(e++[(a:Int)]).length=e.length+1:=by simp
 rw[es]
 refine W_at (by omega) hat (W_nd7 (W_aI ?_))
 refine W_beqI (fun hk=> ?_) (fun hk=> ?_)
 ·obtain⟨i1,m,m1,m2,m3,m4⟩:=init_at T ha hk
  refine W_at (by omega) hat (W_nd7 (W_aI ?_))
  rw[if_pos hk,i1]
  refine W_call (hD ns (a+1) m hv _ _ T hl m1 m3 (by omega) (by omega)) ?_
  rintro _ rfl
  (repeat(with_reducible apply U1))
  refine W_at (by omega) hat (W_nd7 (W_aI ?_))
  exact W_eqN (by omega) (W_ret rfl)
 ·refine W_at (by omega) hat (W_nd7 (W_aI ?_))
  rw[if_neg hk]
  refine W_beqI (fun h4=> ?_) (fun h4=> ?_)
  ·rw[if_pos h4]
   refine W_call (hR ns a n hv _ _ T hl ha (by omega) (by omega)) ?_
   rintro _ rfl
   (repeat(with_reducible apply U1))
   exact W_ret rfl
  ·rw[if_neg h4]
   exact W_ret rfl
end
section
variable {R : Type} {G : ORC R} {k : Nat} {K : LV → OV R}
def OfOK(G:ORC R):Prop:=∀(l:List Int) (K:LV→OV R),l.length≤9000→W (fun o=>o=[.sl 1 (ivs (ofL l))]) K (G 22 [.sl 1 (ivs l)] K)
theorem of_loop(hH:HasOK G){Q:LV→Prop}{K:LV→OV R}{Ko:LV→OV R}{l:List Int}(hl:l.length≤9000)(hKo:W Q K (Ko (ivs (ofL l)))):
 ∀(j m:Nat),128-m<j→m≤128→W Q K (l22_0g G k Ko j (ivs l) (ivs (ofGo l m)) m)
 |0,m,h1,h2=>by omega
 |j+1,m,h1,h2=>by
  show W Q K (b22_0 G k (l22_0g G k Ko j) Ko (ivs l) (ivs (ofGo l m)) m)
  unfold b22_0
  refine W_dec (fun h=> ?_) (fun h=>by rw[show m=128 by omega];exact hKo)
  unfold HasOK at hH
  refine W_call (hH _ _ _ hl) ?_
  rintro _ rfl
  (repeat(with_reducible apply U1))
  have hgl:=ofGo_len (l:=l) (m:=m)
  have next:∀a,a=ivs (ofGo l (m+1))→W Q K (l22_0g G k Ko j (ivs l) a (IntKind.i64.wrap ((m:Int)+1))):=fun a ha=>by
   rw[wrap_id (n:=(m:Int)+1) (by omega),ha]
   exact of_loop hH hl hKo j (m+1) (by omega) (by omega)
  refine W_bool (fun hb=>W_yes (by rw[ivs_len];omega) (next _ (by rw[ofGo,hb];simp[ivs]))) (fun hb=>next _ (by rw[ofGo,hb];simp))
theorem of_ok(hk:10000≤k)(hH:HasOK G):OfOK (fun _ args (K:LV→OV R)=>g22 G k args K):=by
 intro l K hl
 show W _ K (f22 G k (ivs l) K)
 unfold f22 l22_0
 exact of_loop (Q:=fun o=>o=[.sl 1 (ivs (ofL l))]) (K:=K) (Ko:=fun x=>K [.sl 1 x]) hH hl (W_ret rfl) k 0 (by omega) (by omega)
end
section
variable {R : Type} {G : ORC R} {k : Nat} {K : LV → OV R}
def NotOK(G:ORC R):Prop:=∀(a b:List Int) (K:LV→OV R),a.length≤9000→b.length≤9000→W (fun o=>o=[.sl 1 (ivs (notL a b))]) K (G 8 [.sl 1 (ivs a),.sl 1 (ivs b)] K)
theorem notL_len{a b:List Int}:(notL a b).length≤a.length:=List.length_filter_le _ _
theorem notL_snoc{a b:List Int}{x:Int}:notL (a++[x]) b=notL a b++if hasL b x then[]else[x]:=by
 unfold notL;rw[List.filter_append,List.filter_cons];cases hasL b x<;>simp
theorem not_loop(hH:HasOK G){Q:LV→Prop}{K:LV→OV R}{Ko:LV→OV R}{a b:List Int}(ha:a.length≤9000)(hb:b.length≤9000)(hKo:W Q K (Ko (ivs (notL a b)))):
 ∀(j m:Nat),a.length-m<j→m≤a.length→W Q K (l8_0g G k Ko j (ivs a) (ivs b) (ivs (notL (a.take m) b)) m)
 |0,m,h1,h2=>by omega
 |j+1,m,h1,h2=>by
  show W Q K (b8_0 G k (l8_0g G k Ko j) Ko (ivs a) (ivs b) (ivs (notL (a.take m) b)) m)
  unfold b8_0
  refine W_dec (fun h=> ?_) (fun h=>by rw[ivs_len]at h;rw[List.take_of_length_le (by omega)];exact hKo)
  rw[ivs_len]at h
  obtain⟨x,hx⟩:=get_ex (l:=a) (m:=m) (by omega)
  have hnl:=notL_len (a:=a.take m) (b:=b)
  rw[List.length_take]at hnl
  unfold HasOK at hH
  refine W_at (by omega) (ivs_atZ hx) (W_aI ?_)
  refine W_call (hH _ _ _ hb) ?_
  rintro _ rfl
  (repeat(with_reducible apply U1))
  have next:∀c,c=ivs (notL (a.take (m+1)) b)→W Q K (l8_0g G k Ko j (ivs a) (ivs b) c (IntKind.i64.wrap ((m:Int)+1))):=fun c hc=>by
   rw[wrap_id (n:=(m:Int)+1) (by omega),hc]
   exact not_loop hH ha hb hKo j (m+1) (by omega) (by omega)
  refine W_not (W_bool (fun hb=>next _ (by rw[take_snoc hx,notL_snoc,hb];simp)) (fun hb=> ?_))
  refine W_at (by omega) (ivs_atZ hx) (W_aI ?_)
  exact W_yes (by rw[ivs_len];omega) (next _ (by rw[take_snoc hx,notL_snoc,hb];simp[ivs]))
theorem not_ok(hk:10000≤k)(hH:HasOK G):NotOK (fun _ args (K:LV→OV R)=>g8 G k args K):=by
 intro a b K ha hb
 show W _ K (f8 G k (ivs a) (ivs b) K)
 unfold f8 l8_0
 exact not_loop (Q:=fun o=>o=[.sl 1 (ivs (notL a b))]) (K:=K) (Ko:=fun x=>K [.sl 1 x]) hH ha hb (W_ret rfl) k 0 (by omega) (by omega)
end
section
variable {R : Type} {G : ORC R} {k : Nat} {K : LV → OV R} {Q : LV → Prop}
def RBegOK(G:ORC R):Prop:=∀(ns:List Nd) (K:LV→OV R),Tree ns→ns.length≤100→W (fun o=>o=[.sl 1 (ivs (dnN ns 0 []))]) K (G 10 [.sl 7 (ns.map Nd.v)] K)
theorem rbeg_ok(hD:DnOK 200 G)(hO:OfOK G):RBegOK (fun _ args (K:LV→OV R)=>g10 G k args K):=by
 intro ns K T hl
 show W _ K (f10 G k (ns.map Nd.v) K)
 unfold f10
 unfold DnOK at hD;unfold OfOK at hO
 have hpos:=T.pos
 obtain⟨n,hn⟩:∃n,ns[0]? =some n:=⟨_,List.getElem?_eq_getElem (by omega)⟩
 have hr:=T.root n hn
 refine W_call (hD ns 0 n [] [] _ T hl hn (by omega) (by omega) (by simp;omega)) ?_
 rintro _ rfl
 (repeat(with_reducible apply U1))
 have hlen:=dnN_le T (e:=[]) hn
 refine W_call (hO _ _ (by rw[List.length_nil]at hlen;omega)) ?_
 rintro _ rfl
 (repeat(with_reducible apply U1))
 rw[show(((0:Nat):Int))=0 from rfl,sub_of T (by omega) hn (begin_sub T hn)]
 exact W_ret rfl
def KnR2(G:ORC R):Prop:=∀K:LV→OV R,G 4 [] K=K [.bool true]
theorem knr_go(hKn:KnR2 G):W (fun o=>o=[.bool true]) K (G 4 [] fun o=>uB o fun b r=>unNil r (K [.bool b])):=by
 rw[hKn];exact W_uB (W_unNil (W_ret rfl))
theorem few_loop(hE:EventS G){Ko:LV→LV→LV→ByteArray→Int→Int→LV→LV→LV→LV→LV→LV→OV R}{a b m0:LV}{nm:ByteArray}{st fu:Int}{q1 q2 q3 q4 q5 q6:LV}(ha:IntsS a)(hal:a.length≤20)
 (hKo:∀few:List ByteArray,few.length≤20→W Q K (Ko b (sv few) m0 nm st fu q1 q2 q3 q4 q5 q6)):
 ∀(j m:Nat) (few:List ByteArray),a.length-m<j→m≤a.length→few.length≤m→W Q K (l3_0g G k Ko j a b (sv few) m0 m nm st fu q1 q2 q3 q4 q5 q6)
 |0,m,few,h1,h2,h3=>by omega
 |j+1,m,few,h1,h2,h3=>by
  show W Q K (b3_0 G k (l3_0g G k Ko j) Ko a b (sv few) m0 m nm st fu q1 q2 q3 q4 q5 q6)
  unfold b3_0
  refine W_dec (fun h=> ?_) (fun h=>hKo few (by omega))
  obtain⟨v,hv⟩:∃v,a[m]? =some v:=⟨_,List.getElem?_eq_getElem (by omega)⟩
  obtain⟨n,rfl,_⟩:=ha v (List.mem_of_getElem? hv)
  refine W_at (by omega) (by rw[Int.toNat_natCast];exact hv) (W_aI ?_)
  have hE':=hE
  unfold EventS at hE'
  refine W_call (hE' n _) ?_
  rintro _ ⟨s,rfl,_⟩
  (repeat(with_reducible apply U1))
  refine W_yes (by rw[sv_len];omega) ?_
  rw[wrap_id (n:=(m:Int)+1) (by omega),sv_snoc]
  exact few_loop hE ha hal hKo j (m+1) _ (by omega) (by omega) (by rw[List.length_append];simp;omega)
theorem more_loop2(hE:EventS G){Ko:LV→LV→ByteArray→Int→Int→LV→LV→LV→LV→LV→LV→OV R}{b f0:LV}{A:List ByteArray}(hA:A.length≤20){nm:ByteArray}{st fu:Int}{q1 q2 q3 q4 q5 q6:LV}(hb:IntsS b)(hbl:b.length≤20)
 (hKo:∀B:List ByteArray,B.length≤20→W Q K (Ko f0 (sv (A++B)) nm st fu q1 q2 q3 q4 q5 q6)):
 ∀(j m:Nat) (B:List ByteArray),b.length-m<j→m≤b.length→B.length≤m→W Q K (l3_2g G k Ko j b f0 (sv (A++B)) m nm st fu q1 q2 q3 q4 q5 q6)
 |0,m,B,h1,h2,h3=>by omega
 |j+1,m,B,h1,h2,h3=>by
  show W Q K (b3_2 G k (l3_2g G k Ko j) Ko b f0 (sv (A++B)) m nm st fu q1 q2 q3 q4 q5 q6)
  unfold b3_2
  refine W_dec (fun h=> ?_) (fun h=>hKo B (by omega))
  obtain⟨v,hv⟩:∃v,b[m]? =some v:=⟨_,List.getElem?_eq_getElem (by omega)⟩
  obtain⟨n,rfl,_⟩:=hb v (List.mem_of_getElem? hv)
  refine W_at (by omega) (by rw[Int.toNat_natCast];exact hv) (W_aI ?_)
  have hE':=hE
  unfold EventS at hE'
  refine W_call (hE' n _) ?_
  rintro _ ⟨s,rfl,_⟩
  (repeat(with_reducible apply U1))
  refine W_yes (by rw[sv_len,List.length_append];omega) ?_
  rw[wrap_id (n:=(m:Int)+1) (by omega),sv_snoc,List.append_assoc]
  exact more_loop2 hE hA hb hbl hKo j (m+1) _ (by omega) (by omega) (by rw[List.length_append];simp;omega)
theorem hasS_app{A B:List ByteArray}{s:ByteArray}(h:hasS A s=true):hasS (A++B) s=true:=by unfold hasS at h ⊢;rw[List.any_append,h];rfl
theorem Clo.any{es cs:LV}{ns:List Nd}{any':Bool}{ev ev':List ByteArray}{E C:List Int}(h:Clo es cs ns true ev E C):Clo es cs ns any' ev' E C:=
 ⟨fun i a b c d f s hi _=>h.edges i a b c d f s hi (.inl rfl),h.codes⟩
theorem not_none{n:Nat}{A B:List Int}(h:∀y∈A,y∈B):notL (memN n A) (memN n B)=[]:=by
 unfold notL
 rw[List.filter_eq_nil_iff]
 intro x hx
 have hx:=mem_memN.1 hx
 rw[hasL_iff.2 (mem_memN.2 ⟨hx.1,h x hx.2⟩)]
 simp
theorem memN_full{n:Nat}{s:List Int}(h:∀j:Nat,j<n→(j:Int)∈s):(memN n s).length=n:=by
 unfold memN
 rw[List.length_map,List.filter_eq_self.2 (fun j hj=>hasL_iff.2 (h j (List.mem_range.1 hj))),List.length_range]
theorem late_any{es cs:LV}{A B E F:List Int}{T U:List ByteArray}(hes:EdsS es)(hT:∀s,hasS T s=true↔RaisedBy cs (memN cs.length A) s)(hU:∀s,hasS U s=true↔RaisedBy cs (memN cs.length B) s)(hAB:∀y∈A,y∈B)(hEF:∀y∈E,y∈F)
 (h:(memN es.length E).any (lateAt es T)=true):(memN es.length F).any (lateAt es U)=true:=by
 obtain⟨i,hi,hl⟩:=List.any_eq_true.1 h
 obtain⟨⟨i0,i1⟩,i2⟩:=mem_memN.1 hi
 obtain⟨e,he⟩:∃e,es[i.toNat]? =some e:=⟨_,List.getElem?_eq_getElem (by omega)⟩
 obtain⟨a,b,c,d,f,s,rfl⟩:=hes e (List.mem_of_getElem? he)
 rw[lateAt_eq he]at hl
 refine List.any_eq_true.2 ⟨i,mem_memN.2 ⟨⟨i0,i1⟩,hEF i i2⟩,?_⟩
 rw[lateAt_eq he]
 exact(late_iff hU).2 (late_mono hAB ((late_iff hT).1 hl))
theorem seg_of{cs:LV}(h:CodesG cs){C:List Int}:∀c∈memN cs.length C,0≤c∧c<cs.length∧∃code t,SegC cs c code t:=fun c hc=>by
 obtain⟨⟨h0,h1⟩,_⟩:=mem_memN.1 hc
 obtain⟨v,hv⟩:∃v,cs[c.toNat]? =some v:=⟨_,List.getElem?_eq_getElem (by omega)⟩
 obtain⟨code,rfl,a1,a2,t,a3,a4⟩:=h v (List.mem_of_getElem? hv)
 exact⟨h0,h1,code,t,hv,a1,a2,a3,a4⟩
theorem port_loop(hS:SendsX G){x:Srch}(hG:CodesG x.cs)(hcl:x.cs.length≤54){A B C:List Int}(hAB:∀y∈A,y∈B)(hBC:∀y∈B,y∈C){e1 t1 e2 t2 e3 t3:LV}{b1 b2 b3:Bool}
 {Ko:ByteArray→Int→Int→LV→LV→LV→LV→LV→LV→LV→LV→LV→Bool→OV R} {Kr:Bool→OV R}
 (hKo:W Q K (Ko x.nm x.st x.fu x.vars x.ports x.timers (x.ns.map Nd.v) x.es x.cs e3 (ivs (memN x.cs.length C)) t3 b3)):
 ∀(j m:Nat),2-m<j→m≤2→W Q K (l3_4g G k Ko Kr j m x.nm x.st x.fu x.vars x.ports x.timers (x.ns.map Nd.v) x.es x.cs e1 (ivs (memN x.cs.length A)) t1 b1 e2 (ivs (memN x.cs.length B)) t2 b2 e3 (ivs (memN x.cs.length C)) t3 b3)
 |0,m,h1,h2=>by omega
 |j+1,m,h1,h2=>by
  show W Q K (b3_4 G k (l3_4g G k Ko Kr j) Ko Kr m x.nm x.st x.fu x.vars x.ports x.timers (x.ns.map Nd.v) x.es x.cs e1 (ivs (memN x.cs.length A)) t1 b1 e2 (ivs (memN x.cs.length B)) t2 b2 e3 (ivs (memN x.cs.length C)) t3 b3)
  unfold b3_4
  refine W_dec (fun h=> ?_) (fun h=>hKo)
  have hS':=hS
  unfold SendsX at hS'
  have l:∀{D:List Int},(memN x.cs.length D).length≤90:=fun{D}=>Nat.le_trans memN_len (by omega)
  refine W_call (hS' x _ _ _ (seg_of hG) l) ?_
  rintro _ rfl
  (repeat(with_reducible apply U1))
  refine W_call (hS' x _ _ _ (seg_of hG) l) ?_
  rintro _ rfl
  (repeat(with_reducible apply U1))
  have s1:=sum_less (f:=sC x.cs m) (fun c=>sC_bd.1) hAB (n:=x.cs.length)
  have s2:=sum_less (f:=sC x.cs m) (fun c=>sC_bd.1) hBC (n:=x.cs.length)
  refine W_no (by omega) ?_
  refine W_call (hS' x _ _ _ (seg_of hG) l) ?_
  rintro _ rfl
  (repeat(with_reducible apply U1))
  refine W_call (hS' x _ _ _ (seg_of hG) l) ?_
  rintro _ rfl
  (repeat(with_reducible apply U1))
  refine W_no (by omega) ?_
  rw[wrap_id (n:=(m:Int)+1) (by omega)]
  exact port_loop hS hG hcl hAB hBC hKo j (m+1) (by omega) (by omega)
def GrowsOK(G:ORC R):Prop:=∀(v a b:LV) (K:LV→OV R),IntsS v→IntsS a→IntsS b→W (fun o=>o=[.bool true]) K (G 3 [.sl 1 v,.sl 1 a,.sl 1 b] K)
theorem grow_law(hk:10000≤k)(hKn:KnR2 G)(hT:TblOK G)(hE:EventS G)(hO:OfX G)(hN:NotOK G)(hS:SendsX G)(hB:RBegOK G):GrowsOK (fun _ args (K:LV→OV R)=>g3 G k args K):=by
 intro v a b K hv ha hb
 show W _ K (f3 G k v a b K)
 unfold f3
 refine W_dec (fun _=>knr_go hKn) (fun h1=> ?_)
 refine W_dec (fun _=>knr_go hKn) (fun h2=> ?_)
 refine W_dec (fun _=>knr_go hKn) (fun h3=> ?_)
 unfold TblOK at hT;unfold OfX at hO;unfold NotOK at hN;unfold RBegOK at hB
 refine W_call (hT v _ hv (by omega)) ?_
 rintro _ ⟨_,rfl,nm,st,fu,vars,ports,timers,ns,ns0,es,cs,rfl,_,_,_,hc,⟨states,rfl,t1,t2⟩,hnl,hes,hel,hG,hcl⟩
 have T:=tree_core hc (tree_nds t2 t1)
 have hnl2:=hc.len
 have hEd:EdsS es:=fun e he=>by
  obtain⟨fr,to,dom,gd,ac,ev,rfl,_⟩:=hes e he
  exact⟨_,_,_,_,_,_,rfl⟩
 have hCA:CodesA cs:=fun v hv=>by
  obtain⟨c,rfl,a1,a2,_⟩:=hG v hv
  exact⟨c,rfl,a1,a2⟩
 (repeat(with_reducible apply U1))
 unfold l3_0
 refine few_loop (m0:=[]) hE ha (by omega) (fun A hA=> ?_) k 0 [] (by omega) (by omega) (Nat.le_refl 0)
 refine W_yes (by rw[sv_len];simp;omega) ?_
 rw[show([]:LV)++sv A=sv (A++[])by simp]
 unfold l3_2
 refine more_loop2 hE hA hb (by omega) (fun B hB2=> ?_) k 0 [] (by omega) (by omega) (Nat.le_refl 0)
 refine W_call (hO ⟨nm,st,fu,vars,ports,timers,ns,es,cs,false,sv A⟩ A _ rfl (by omega) hEd (by show es.length≤_;omega) (by show ns.length≤_;omega) hCA (by show cs.length≤_;omega)) ?_
 rintro _ ⟨E1,C1,T1,rfl,L1,hT1⟩
 (repeat(with_reducible apply U1))
 refine W_call (hO ⟨nm,st,fu,vars,ports,timers,ns,es,cs,false,sv (A++B)⟩ (A++B) _ rfl (by rw[List.length_append];omega) hEd (by show es.length≤_;omega) (by show ns.length≤_;omega) hCA (by show cs.length≤_;omega)) ?_
 rintro _ ⟨E2,C2,T2,rfl,L2,hT2⟩
 (repeat(with_reducible apply U1))
 refine W_call (hO ⟨nm,st,fu,vars,ports,timers,ns,es,cs,true,[]⟩ [] _ rfl (Nat.zero_le _) hEd (by show es.length≤_;omega) (by show ns.length≤_;omega) hCA (by show cs.length≤_;omega)) ?_
 rintro _ ⟨E3,C3,T3,rfl,L3,hT3⟩
 (repeat(with_reducible apply U1))
 have L1:Lst es cs ns false A E1 C1:=L1
 have L2:Lst es cs ns false (A++B) E2 C2:=L2
 have L3:Lst es cs ns true [] E3 C3:=L3
 have hT1:∀s,hasS T1 s=true↔RaisedBy cs (memN cs.length C1) s:=hT1
 have hT2:∀s,hasS T2 s=true↔RaisedBy cs (memN cs.length C2) s:=hT2
 have hT3:∀s,hasS T3 s=true↔RaisedBy cs (memN cs.length C3) s:=hT3
 obtain⟨e12,c12⟩:=L1.least E2 C2 (L2.clo.less (fun h=>h) (fun s h=>hasS_app h))
 obtain⟨e23,c23⟩:=L2.least E3 C3 L3.clo.any
 have m12:=late_any hEd hT1 hT2 c12 e12
 have m23:=late_any hEd hT2 hT3 c23 e23
 have full:(memN es.length E3).length=es.length:=memN_full fun j hj=>by
  obtain⟨e,he⟩:∃e,es[j]? =some e:=⟨_,List.getElem?_eq_getElem hj⟩
  obtain⟨a,b,c,d,f,s,rfl⟩:=hEd e (List.mem_of_getElem? he)
  exact L3.clo.edges j a b c d f s he (.inl rfl)
 have l1:=memN_len (n:=es.length) (s:=E1)
 have l2:=memN_len (n:=es.length) (s:=E2)
 have l3:=memN_len (n:=es.length) (s:=E3)
 refine W_call (hN _ _ _ (Nat.le_trans memN_len (by show es.length≤9000;omega)) (Nat.le_trans memN_len (by show es.length≤9000;omega))) ?_
 rintro _ rfl
 (repeat(with_reducible apply U1))
 rw[not_none e12]
 refine W_no (by simp[ivs]) ?_
 refine W_call (hN _ _ _ (Nat.le_trans memN_len (by show es.length≤9000;omega)) (Nat.le_trans memN_len (by show es.length≤9000;omega))) ?_
 rintro _ rfl
 (repeat(with_reducible apply U1))
 rw[not_none e23]
 refine W_no (by simp[ivs]) ?_
 have hpos:=T.pos
 obtain⟨n0,hn0⟩:∃n,ns[0]? =some n:=⟨_,List.getElem?_eq_getElem (by omega)⟩
 have two:=begin_two T hn0
 have tl:∀{e:LV},W (fun o=>o=[.bool true]) K (bif(((ivs (memN es.length E3)).length:Int)==(es.length:Int))then(G 10 [(.sl 7 (ns.map Nd.v))] fun o180=>(uL 1 o180 fun l182 r181=>(unNil r181 (bif(decide ((l182.length:Int)>1))then(G 4 [] fun o183=>(uB o183 fun b185 r184=>(unNil r184 (K [(.bool b185)]))))else(K [(.bool false)])))))else(K [(.bool false)])):=fun{e}=>by
  refine W_eqY (by rw[ivs_len];omega) ?_
  refine W_call (hB ns _ T (by omega)) ?_
  rintro _ rfl
  (repeat(with_reducible apply U1))
  refine W_yes (by rw[ivs_len];omega) ?_
  exact knr_go hKn
 refine W_bool (fun b1=> ?_) (fun b1=> ?_)
 ·have b2:=m12 b1
  have b3:=m23 b2
  refine W_not (W_chk b2 ?_)
  refine W_chk b2 (W_not (W_chk b3 ?_))
  unfold l3_4
  exact port_loop (x:=⟨nm,st,fu,vars,ports,timers,ns,es,cs,true,[]⟩) hS hG hcl c12 c23 (tl (e:=[])) k 0 (by omega) (by omega)
 ·refine W_bool (fun b2=> ?_) (fun b2=> ?_)
  ·have b3:=m23 b2
   refine W_not (W_chk b3 ?_)
   unfold l3_4
   exact port_loop (x:=⟨nm,st,fu,vars,ports,timers,ns,es,cs,true,[]⟩) hS hG hcl c12 c23 (tl (e:=[])) k 0 (by omega) (by omega)
  ·unfold l3_4
   exact port_loop (x:=⟨nm,st,fu,vars,ports,timers,ns,es,cs,true,[]⟩) hS hG hcl c12 c23 (tl (e:=[])) k 0 (by omega) (by omega)
end
def grB(k:Nat)(G:ORC (List V)):ORC (List V):=fun f args K=>match f with
    |3=>g3 G k args K
    |4=>g4 G k args K
    |5=>g5 G k args K
    |6=>g6 G k args K
    |7=>g7 G k args K
    |8=>g8 G k args K
    |9=>g9 G k args K
    |10=>g10 G k args K
    |11=>g11 G k args K
    |12=>g12 G k args K
    |13=>g13 G k args K
    |14=>g14 G k args K
    |15=>g15 G k args K
    |16=>g16 G k args K
    |17=>g17 G k args K
    |18=>g18 G k args K
    |19=>g19 G k args K
    |20=>g20 G k args K
    |21=>g21 G k args K
    |22=>g22 G k args K
    |23=>g23 G k args K
    |24=>g24 G k args K
    |26=>g26 G k args K
    |27=>g27 G k args K
    |28=>g28 G k args K
    |29=>g29 G k args K
    |30=>g30 G k args K
    |31=>g31 G k args K
    |32=>g32 G k args K
    |33=>g33 G k args K
    |34=>g34 G k args K
    |35=>g35 G k args K
    |36=>g36 G k args K
    |37=>g37 G k args K
    |38=>g38 G k args K
    |40=>g40 G k args K
    |41=>g41 G k args K
    |42=>g42 G k args K
    |43=>g43 G k args K
    |44=>g44 G k args K
    |45=>g45 G k args K
    |46=>g46 G k args K
    |47=>g47 G k args K
    |48=>g48 G k args K
    |49=>g49 G k args K
    |50=>g50 G k args K
    |51=>g51 G k args K
    |52=>g52 G k args K
    |53=>g53 G k args K
    |54=>g54 G k args K
    |55=>g55 G k args K
    |56=>g56 G k args K
    |57=>g57 G k args K
    |58=>g58 G k args K
    |59=>g59 G k args K
    |60=>g60 G k args K
    |61=>g61 G k args K
    |62=>g62 G k args K
    |63=>g63 G k args K
    |64=>g64 G k args K
    |65=>g65 G k args K
    |66=>g66 G k args K
    |67=>g67 G k args K
    |68=>g68 G k args K
    |69=>g69 G k args K
    |70=>g70 G k args K
    |71=>g71 G k args K
    |72=>g72 G k args K
    |73=>g73 G k args K
    |74=>g74 G k args K
    |75=>g75 G k args K
    |76=>g76 G k args K
    |77=>g77 G k args K
    |78=>g78 G k args K
    |79=>g79 G k args K
    |80=>g80 G k args K
    |81=>g81 G k args K
    |65561=>g65561 G k args K
    |65575=>g65575 G k args K
    |131111=>g131111 G k args K
    |_=>none
def gr(k:Nat):Nat→ORC (List V)
 |0=>fun _ _ _=>none
 |j+1=>fun f args K=>(grB k (gr k j) f args (@some (List V))).bind K
theorem gr_sound(k:Nat):∀j,Sound Try.prog TAB (gr k j)
 |0=>fun f args K r h=>by cases h
 |j+1=>fun f args K r h=>by
  have ih:=gr_sound k j
  have h:(grB k (gr k j) f args (@some (List V))).bind K=some r:=h
  cases hb:grB k (gr k j) f args (@some (List V))with
  |none=>rw[hb]at h;cases h
  |some o=>
  rw[hb]at h
  have key:∃o',CallOK Try.prog TAB.env f args o'∧some o'=some o:=by
   unfold grB at hb
   split at hb
   ·exact s3 ih args (@some (List V)) o hb
   ·exact s4 ih args (@some (List V)) o hb
   ·exact s5 ih args (@some (List V)) o hb
   ·exact s6 ih args (@some (List V)) o hb
   ·exact s7 ih args (@some (List V)) o hb
   ·exact s8 ih args (@some (List V)) o hb
   ·exact s9 ih args (@some (List V)) o hb
   ·exact s10 ih args (@some (List V)) o hb
   ·exact s11 ih args (@some (List V)) o hb
   ·exact s12 ih args (@some (List V)) o hb
   ·exact s13 ih args (@some (List V)) o hb
   ·exact s14 ih args (@some (List V)) o hb
   ·exact s15 ih args (@some (List V)) o hb
   ·exact s16 ih args (@some (List V)) o hb
   ·exact s17 ih args (@some (List V)) o hb
   ·exact s18 ih args (@some (List V)) o hb
   ·exact s19 ih args (@some (List V)) o hb
   ·exact s20 ih args (@some (List V)) o hb
   ·exact s21 ih args (@some (List V)) o hb
   ·exact s22 ih args (@some (List V)) o hb
   ·exact s23 ih args (@some (List V)) o hb
   ·exact s24 ih args (@some (List V)) o hb
   ·exact s26 ih args (@some (List V)) o hb
   ·exact s27 ih args (@some (List V)) o hb
   ·exact s28 ih args (@some (List V)) o hb
   ·exact s29 ih args (@some (List V)) o hb
   ·exact s30 ih args (@some (List V)) o hb
   ·exact s31 ih args (@some (List V)) o hb
   ·exact s32 ih args (@some (List V)) o hb
   ·exact s33 ih args (@some (List V)) o hb
   ·exact s34 ih args (@some (List V)) o hb
   ·exact s35 ih args (@some (List V)) o hb
   ·exact s36 ih args (@some (List V)) o hb
   ·exact s37 ih args (@some (List V)) o hb
   ·exact s38 ih args (@some (List V)) o hb
   ·exact s40 ih args (@some (List V)) o hb
   ·exact s41 ih args (@some (List V)) o hb
   ·exact s42 ih args (@some (List V)) o hb
   ·exact s43 ih args (@some (List V)) o hb
   ·exact s44 ih args (@some (List V)) o hb
   ·exact s45 ih args (@some (List V)) o hb
   ·exact s46 ih args (@some (List V)) o hb
   ·exact s47 ih args (@some (List V)) o hb
   ·exact s48 ih args (@some (List V)) o hb
   ·exact s49 ih args (@some (List V)) o hb
   ·exact s50 ih args (@some (List V)) o hb
   ·exact s51 ih args (@some (List V)) o hb
   ·exact s52 ih args (@some (List V)) o hb
   ·exact s53 ih args (@some (List V)) o hb
   ·exact s54 ih args (@some (List V)) o hb
   ·exact s55 ih args (@some (List V)) o hb
   ·exact s56 ih args (@some (List V)) o hb
   ·exact s57 ih args (@some (List V)) o hb
   ·exact s58 ih args (@some (List V)) o hb
   ·exact s59 ih args (@some (List V)) o hb
   ·exact s60 ih args (@some (List V)) o hb
   ·exact s61 ih args (@some (List V)) o hb
   ·exact s62 ih args (@some (List V)) o hb
   ·exact s63 ih args (@some (List V)) o hb
   ·exact s64 ih args (@some (List V)) o hb
   ·exact s65 ih args (@some (List V)) o hb
   ·exact s66 ih args (@some (List V)) o hb
   ·exact s67 ih args (@some (List V)) o hb
   ·exact s68 ih args (@some (List V)) o hb
   ·exact s69 ih args (@some (List V)) o hb
   ·exact s70 ih args (@some (List V)) o hb
   ·exact s71 ih args (@some (List V)) o hb
   ·exact s72 ih args (@some (List V)) o hb
   ·exact s73 ih args (@some (List V)) o hb
   ·exact s74 ih args (@some (List V)) o hb
   ·exact s75 ih args (@some (List V)) o hb
   ·exact s76 ih args (@some (List V)) o hb
   ·exact s77 ih args (@some (List V)) o hb
   ·exact s78 ih args (@some (List V)) o hb
   ·exact s79 ih args (@some (List V)) o hb
   ·exact s80 ih args (@some (List V)) o hb
   ·exact s81 ih args (@some (List V)) o hb
   ·exact s65561 ih args (@some (List V)) o hb
   ·exact s65575 ih args (@some (List V)) o hb
   ·exact s131111 ih args (@some (List V)) o hb
   ·cases hb
  obtain⟨o',h1,h2⟩:=key
  cases h2
  exact⟨o,h1,h⟩
theorem gr_U{k j:Nat}{f:FuncId}{args:List V}{Q:List V→Prop}(h:W Q (@some (List V)) (grB k (gr k j) f args (@some (List V)))):∃o,Q o∧∀K,gr k (j+1) f args K=K o:=by
 obtain⟨o,q,e⟩:=h
 exact⟨o,q,fun K=>by show(grB k (gr k j) f args (@some (List V))).bind K=_;rw[e];rfl⟩
theorem gr_W{k j:Nat}{f:FuncId}{args:List V}{Q:List V→Prop}{K:List V→Option (List V)}(h:W Q (@some (List V)) (grB k (gr k j) f args (@some (List V)))):W Q K (gr k (j+1) f args K):=by
 obtain⟨o,q,e⟩:=gr_U h
 exact⟨o,q,e K⟩
section
def Ev(P:ORC (List V)→Prop):Prop:=∃N,∀j,N≤j→P (gr 1100000 j)
theorem ev0{P:ORC (List V)→Prop}(h:∀j,P (gr 1100000 (j+1))):Ev P:=⟨1,fun j hj=>by obtain⟨j',rfl⟩:∃j',j=j'+1:=⟨j-1,by omega⟩;exact h j'⟩
theorem evS{A P:ORC (List V)→Prop}(hA:Ev A)(h:∀j,A (gr 1100000 j)→P (gr 1100000 (j+1))):Ev P:=by
 obtain⟨N,hN⟩:=hA
 refine⟨N+1,fun j hj=> ?_⟩
 obtain⟨j',rfl⟩:∃j',j=j'+1:=⟨j-1,by omega⟩
 exact h j' (hN j' (by omega))
theorem evA{A B:ORC (List V)→Prop}(hA:Ev A)(hB:Ev B):Ev fun G=>A G∧B G:=by
 obtain⟨N,hN⟩:=hA
 obtain⟨M,hM⟩:=hB
 exact⟨N+M,fun j hj=>⟨hN j (by omega),hM j (by omega)⟩⟩
theorem evT{P:ORC (List V)→Prop}(h:∀G,P G):Ev P:=⟨0,fun j _=>h _⟩
theorem evPlace:Ev PlaceS:=ev0 fun j=>by have e:=place_ok (G:=gr 1100000 j) (k:=1100000);unfold PlaceS at e ⊢;(intros;refine gr_W ?_;apply e<;>assumption)
theorem evNext:Ev NextS:=evS evPlace fun j h=>by have e:=next_ok (G:=gr 1100000 j) (k:=1100000) h;unfold NextS at e ⊢;(intros;refine gr_W ?_;apply e<;>assumption)
theorem evPick:Ev PickS:=evS evNext fun j h=>by have e:=pick_ok (G:=gr 1100000 j) (k:=1100000) h;unfold PickS at e ⊢;(intros;refine gr_W ?_;apply e<;>assumption)
theorem evExpr:∀d,d≤20→Ev (ExprOK d)
 |0,_=>evS (evA evNext evPick) fun j h=>by have e:=expr_ok (G:=gr 1100000 j) (k:=1100000) (d:=0) (by omega) h.1 h.2 (fun d' e=>by omega);unfold ExprOK at e ⊢;(intros;refine gr_W ?_;apply e<;>assumption)
 |d+1,hd=>evS (evA (evA evNext evPick) (evExpr d (by omega))) fun j h=>by have e:=expr_ok (G:=gr 1100000 j) (k:=1100000) (d:=d+1) hd h.1.1 h.1.2 (fun d' e=>by cases e;exact h.2);unfold ExprOK at e ⊢;(intros;refine gr_W ?_;apply e<;>assumption)
end
theorem evEvent:Ev EventS:=evS evPlace fun j h=>by have e:=event_ok (G:=gr 1100000 j) (k:=1100000) h;unfold EventS at e ⊢;(intros;refine gr_W ?_;apply e<;>assumption)
theorem evBlock:∀d,d≤3→Ev (BlockOK d)
 |0,_=>evS (evA (evA evNext evPick) (evA evEvent (evExpr 2 (by omega)))) fun j h=>by have e:=block_ok (G:=gr 1100000 j) (k:=1100000) (d:=0) (by omega) (by omega) h.1.1 h.1.2 h.2.1 h.2.2 (fun d' e=>by omega);unfold BlockOK at e ⊢;(intros;refine gr_W ?_;apply e<;>assumption)
 |d+1,hd=>evS (evA (evA (evA evNext evPick) (evA evEvent (evExpr 2 (by omega)))) (evBlock d (by omega))) fun j h=>by have e:=block_ok (G:=gr 1100000 j) (k:=1100000) (d:=d+1) (by omega) hd h.1.1.1 h.1.1.2 h.1.2.1 h.1.2.2 (fun d' e=>by cases e;exact h.2);unfold BlockOK at e ⊢;(intros;refine gr_W ?_;apply e<;>assumption)
section
theorem evDec1:Ev (DecS 1):=ev0 fun j=>by have e:=dec_step (G:=gr 1100000 j) (k:=1100000) (d:=0) (by omega) (.inl rfl);unfold DecS at e ⊢;(intros;refine gr_W ?_;apply e<;>assumption)
theorem evDec2:Ev (DecS 2):=evS evDec1 fun j h=>by have e:=dec_step (G:=gr 1100000 j) (k:=1100000) (d:=1) (by omega) (.inr h);unfold DecS at e ⊢;(intros;refine gr_W ?_;apply e<;>assumption)
theorem evDec3:Ev (DecS 3):=evS evDec2 fun j h=>by have e:=dec_step (G:=gr 1100000 j) (k:=1100000) (d:=2) (by omega) (.inr h);unfold DecS at e ⊢;(intros;refine gr_W ?_;apply e<;>assumption)
theorem evDig:Ev DigS:=evS evDec3 fun j h=>by have e:=dig_ok (G:=gr 1100000 j) (k:=1100000) h;unfold DigS at e ⊢;(intros;refine gr_W ?_;apply e<;>assumption)
theorem evNames:Ev NamesS:=evS evDig fun j h=>by have e:=names_ok (G:=gr 1100000 j) (k:=1100000) (by omega) h;unfold NamesS at e ⊢;(intros;refine gr_W ?_;apply e<;>assumption)
theorem evNumd:Ev NumdS:=evS evNext fun j h=>by have e:=named_ok (G:=gr 1100000 j) (k:=1100000) (by omega) h;unfold NumdS at e ⊢;(intros;refine gr_W ?_;apply e<;>assumption)
theorem evPlain:Ev PlainS:=ev0 fun j=>by have e:=plain_ok (G:=gr 1100000 j) (k:=1100000) (by omega);unfold PlainS at e ⊢;(intros;refine gr_W ?_;apply e<;>assumption)
theorem evSt:∀d,d≤2→Ev (StOK d)
 |0,_=>evS (evA evNext evDig) fun j h=>by have e:=st_ok (G:=gr 1100000 j) (k:=1100000) (d:=0) (by omega) (by omega) h.1 h.2 (fun d' e=>by omega);unfold StOK at e ⊢;(intros;refine gr_W ?_;apply e<;>assumption)
 |d+1,hd=>evS (evA (evA evNext evDig) (evSt d (by omega))) fun j h=>by have e:=st_ok (G:=gr 1100000 j) (k:=1100000) (d:=d+1) (by omega) (by omega) h.1.1 h.1.2 (fun d' e=>by cases e;exact h.2);unfold StOK at e ⊢;(intros;refine gr_W ?_;apply e<;>assumption)
theorem evFill:∀d,Ev (FillOK d)
 |0=>evT fun G x a p c s all L left i K h=>h.elim
 |d+1=>evS (evA (evA (evA evNext evPick) (evA evEvent (evExpr 2 (by omega)))) (evA (evA (evBlock 2 (by omega)) (evBlock 1 (by omega))) (evFill d))) fun j h=>by have e:=fill_ok (G:=gr 1100000 j) (k:=1100000) (d:=d+1) (by omega) h.1.1.1 h.1.1.2 h.1.2.1 h.1.2.2 h.2.1.1 h.2.1.2 (fun d' e=>by cases e;exact h.2.2);unfold FillOK at e ⊢;(intros;refine gr_W ?_;apply e<;>assumption)
theorem evChart:Ev ChartOK:=evS (evA (evA (evA evNext evNames) (evA evNumd evPlain)) (evA (evSt 2 (by omega)) (evFill 3))) fun j h=>by have e:=chart_ok (G:=gr 1100000 j) (k:=1100000) (by omega) h.1.1.1 h.1.1.2 h.1.2.1 h.1.2.2 h.2.1 h.2.2;unfold ChartOK at e ⊢;(intros;refine gr_W ?_;apply e<;>assumption)
theorem evKind:Ev KindOK:=ev0 fun j=>by have e:=kind_ok (G:=gr 1100000 j) (k:=1100000);unfold KindOK at e ⊢;(intros;refine gr_W ?_;apply e<;>assumption)
theorem evIsSt:Ev IsStOK:=ev0 fun j=>by have e:=isst_ok (G:=gr 1100000 j) (k:=1100000);unfold IsStOK at e ⊢;(intros;refine gr_W ?_;apply e<;>assumption)
theorem evPut:∀d,Ev (PutOK d)
 |0=>evS (evA evKind evIsSt) fun j h=>by have e:=put_ok (G:=gr 1100000 j) (k:=1100000) (d:=0) (by omega) h.1 h.2 (fun d' e=>by omega);unfold PutOK at e ⊢;(intros;refine gr_W ?_;apply e<;>assumption)
 |d+1=>evS (evA (evA evKind evIsSt) (evPut d)) fun j h=>by have e:=put_ok (G:=gr 1100000 j) (k:=1100000) (d:=d+1) (by omega) h.1.1 h.1.2 (fun d' e=>by cases e;exact h.2);unfold PutOK at e ⊢;(intros;refine gr_W ?_;apply e<;>assumption)
theorem evNodes:Ev NodesOK:=evS (evPut 3) fun j h=>by have e:=nodes_ok (G:=gr 1100000 j) (k:=1100000) h;unfold NodesOK at e ⊢;(intros;refine gr_W ?_;apply e<;>assumption)
theorem evIs:Ev IsOK:=ev0 fun j=>by have e:=is_ok (G:=gr 1100000 j) (k:=1100000);unfold IsOK at e ⊢;(intros;refine gr_W ?_;apply e<;>assumption)
theorem evIn:Ev InOK:=evS evIs fun j h=>by have e:=in_ok (G:=gr 1100000 j) (k:=1100000) h;unfold InOK at e ⊢;(intros;refine gr_W ?_;apply e<;>assumption)
end
theorem evFind:Ev FindOK:=ev0 fun j=>by have e:=find_ok (G:=gr 1100000 j) (k:=1100000) (by omega);unfold FindOK at e ⊢;(intros;refine gr_W ?_;apply e<;>assumption)
theorem evPlX:Ev (PlX 76):=ev0 fun j=>by have e:=plx_ok (G:=gr 1100000 j) (k:=1100000) (by omega);unfold PlX at e ⊢;(intros;refine gr_W ?_;apply e<;>assumption)
theorem evOpX:Ev (OpX 77):=ev0 fun j=>by have e:=opx_ok (G:=gr 1100000 j) (k:=1100000);unfold OpX at e ⊢;(intros;refine gr_W ?_;apply e<;>assumption)
theorem evRX:∀d,Ev (RX d)
 |0=>evT fun G c e N K h=>h.elim
 |d+1=>evS (evA (evA evPlX evFind) (evA (evA evOpX (evRX d)) (evA (P1 d) (P2 d)))) fun j h=>by have e:=rexprx_ok (G:=gr 1100000 j) (k:=1100000) h.1.1 h.1.2 h.2.1.1 h.2.1.2 h.2.2.1 h.2.2.2;unfold RX at e ⊢;(intros;refine gr_W ?_;apply e<;>assumption)
where
 P1 (d:Nat):Ev (RBX 78 andX 1 d):=evS (evRX d) fun j h=>by have e:=randx_ok (G:=gr 1100000 j) (k:=1100000) h;unfold RBX at e ⊢;(intros;refine gr_W ?_;apply e<;>assumption)
 P2 (d:Nat):Ev (RBX 79 orX 3 d):=evS (evRX d) fun j h=>by have e:=rorx_ok (G:=gr 1100000 j) (k:=1100000) h;unfold RBX at e ⊢;(intros;refine gr_W ?_;apply e<;>assumption)
theorem evRArg:Ev RArg:=evS (evRX 3) fun j h=>by have e:=rarg_ok (G:=gr 1100000 j) (k:=1100000) h;unfold RArg at e ⊢;(intros;refine gr_W ?_;apply e<;>assumption)
theorem evRAct:∀d,Ev (RAct d)
 |0=>evT fun G c a N K h=>h.elim
 |d+1=>evS (evA (evA evPlX (evRX 3)) (evA evRArg (evS (P:=RBlk d) (evRAct d) fun j h=>by have e:=rblk_ok (G:=gr 1100000 j) (k:=1100000) (by omega) h;unfold RBlk at e ⊢;(intros;refine gr_W ?_;apply e<;>assumption)))) fun j h=>by have e:=ract_ok (G:=gr 1100000 j) (k:=1100000) h.1.1 h.1.2 h.2.1 h.2.2;unfold RAct at e ⊢;(intros;refine gr_W ?_;apply e<;>assumption)
theorem evRBlk{d:Nat}:Ev (RBlk d):=evS (evRAct d) fun j h=>by have e:=rblk_ok (G:=gr 1100000 j) (k:=1100000) (by omega) h;unfold RBlk at e ⊢;(intros;refine gr_W ?_;apply e<;>assumption)
theorem evRBl{d:Nat}(hd:2*ca d≤1000000):Ev (BlX 69 d):=evS evRBlk fun j h=>by have e:=rblx_ok (G:=gr 1100000 j) (k:=1100000) hd h;unfold BlX at e ⊢;(intros;refine gr_W ?_;apply e<;>assumption)
theorem evDom:Ev DomOK:=evS (evA evIs evIn) fun j h=>by have e:=dom_ok (G:=gr 1100000 j) (k:=1100000) (by omega) h.1 h.2;unfold DomOK at e ⊢;(intros;refine gr_W ?_;apply e<;>assumption)
theorem evRGd3:Ev (GdX 55 3):=evS (evRX 3) fun j h=>by have e:=rgdx_ok (G:=gr 1100000 j) (k:=1100000) (by decide) h;unfold GdX at e ⊢;(intros;refine gr_W ?_;apply e<;>assumption)
theorem evBlk:Ev (BlkOK 3):=by
 obtain⟨N,h⟩:=evRBl (d:=3) (by decide)
 exact⟨N,fun j hj=>blk_of (h j hj)⟩
theorem evGd:Ev GdOK:=by
 obtain⟨N,h⟩:=evRGd3
 exact⟨N,fun j hj=>gd_of (h j hj)⟩
theorem evTexts:Ev TextsOK:=ev0 fun j=>by have e:=texts_ok (G:=gr 1100000 j) (k:=1100000) (by omega);unfold TextsOK at e ⊢;(intros;refine gr_W ?_;apply e<;>assumption)
theorem evNamesC:Ev NamesC:=evS (evA evTexts evNodes) fun j h=>by have e:=names_c (G:=gr 1100000 j) (k:=1100000) h.1 h.2;unfold NamesC at e ⊢;(intros;refine gr_W ?_;apply e<;>assumption)
theorem evLb:Ev LbOK:=evS evBlk fun j h=>by have e:=lb_ok (G:=gr 1100000 j) (k:=1100000) h;unfold LbOK at e ⊢;(intros;refine gr_W ?_;apply e<;>assumption)
theorem evSts:∀d,Ev (StsOK d)
 |0=>evS (evA (evA evFind evDom) (evA evLb evGd)) fun j h=>by have e:=sts_ok (G:=gr 1100000 j) (k:=1100000) (d:=0) (by omega) h.1.1 h.1.2 h.2.1 h.2.2 (fun d' e=>by omega);unfold StsOK at e ⊢;(intros;refine gr_W ?_;apply e<;>assumption)
 |d+1=>evS (evA (evA (evA evFind evDom) (evA evLb evGd)) (evSts d)) fun j h=>by have e:=sts_ok (G:=gr 1100000 j) (k:=1100000) (d:=d+1) (by omega) h.1.1.1 h.1.1.2 h.1.2.1 h.1.2.2 (fun d' e=>by cases e;exact h.2);unfold StsOK at e ⊢;(intros;refine gr_W ?_;apply e<;>assumption)
theorem evTab:Ev TabOK:=evS (evA (evA evNamesC evTexts) (evA evNodes (evSts 3))) fun j h=>by have e:=tab_ok (G:=gr 1100000 j) (k:=1100000) (by omega) h.1.1 h.1.2 h.2.1 h.2.2;unfold TabOK at e ⊢;(intros;refine gr_W ?_;apply e<;>assumption)
theorem evTbl:Ev TblOK:=evS (evA evChart evTab) fun j h=>by have e:=tbl_ok (G:=gr 1100000 j) (k:=1100000) h.1 h.2;unfold TblOK at e ⊢;(intros;refine gr_W ?_;apply e<;>assumption)
theorem evCIs:Ev CIsOK:=ev0 fun j=>by have e:=cis_ok (G:=gr 1100000 j) (k:=1100000);unfold CIsOK at e ⊢;(intros;refine gr_W ?_;apply e<;>assumption)
theorem evCIn:Ev CInOK:=evS evCIs fun j h=>by have e:=cin_ok (G:=gr 1100000 j) (k:=1100000) h;unfold CInOK at e ⊢;(intros;refine gr_W ?_;apply e<;>assumption)
theorem evPlaces:Ev PlacesOK:=ev0 fun j=>by have e:=places_ok (G:=gr 1100000 j) (k:=1100000) (by omega);unfold PlacesOK at e ⊢;(intros;refine gr_W ?_;apply e<;>assumption)
theorem evCode:Ev CodeOK:=ev0 fun j=>by have e:=code_ok (G:=gr 1100000 j) (k:=1100000);unfold CodeOK at e ⊢;(intros;refine gr_W ?_;apply e<;>assumption)
theorem evEdge:Ev EdgeOK:=evS (evA evCIn evCode) fun j h=>by have e:=edge_ok (G:=gr 1100000 j) (k:=1100000) (by omega) h.1 h.2;unfold EdgeOK at e ⊢;(intros;refine gr_W ?_;apply e<;>assumption)
theorem evSiS:Ev SiS:=ev0 fun j=>by have e:=sis_ok (G:=gr 1100000 j) (k:=1100000) (by omega);unfold SiS at e ⊢;(intros;refine gr_W ?_;apply e<;>assumption)
theorem evCoS:Ev CoS:=evS evSiS fun j h=>by have e:=cos_ok (G:=gr 1100000 j) (k:=1100000) h;unfold CoS at e ⊢;(intros;refine gr_W ?_;apply e<;>assumption)
theorem evRaises:Ev RaisesX:=ev0 fun j=>by have e:=raises_ok (G:=gr 1100000 j) (k:=1100000);unfold RaisesX at e ⊢;(intros;refine gr_W ?_;apply e<;>assumption)
theorem evTold:Ev ToldOK:=evS (evA evRaises evCoS) fun j h=>by have e:=told_ok (G:=gr 1100000 j) (k:=1100000) (by omega) h.1 h.2;unfold ToldOK at e ⊢;(intros;refine gr_W ?_;apply e<;>assumption)
theorem evLater:Ev LaterX:=evS evCoS fun j h=>by have e:=later_ok (G:=gr 1100000 j) (k:=1100000) h;unfold LaterX at e ⊢;(intros;refine gr_W ?_;apply e<;>assumption)
theorem evAll:Ev AllX:=evS (evA (evA evPlaces evTold) (evA evEdge (evA evLater evCoS))) fun j h=>by have e:=all_ok (G:=gr 1100000 j) (k:=1100000) (by omega) h.1.1 h.1.2 h.2.1 h.2.2.1 h.2.2.2;unfold AllX at e ⊢;(intros;refine gr_W ?_;apply e<;>assumption)
theorem evOf:Ev OfX:=evS evAll fun j h=>by have e:=ofx_ok (G:=gr 1100000 j) (k:=1100000) h;unfold OfX at e ⊢;(intros;refine gr_W ?_;apply e<;>assumption)
theorem evTm:Ev (TmX 20):=ev0 fun j=>by have e:=ctx_ok (G:=gr 1100000 j) (k:=1100000) (by omega);unfold TmX at e ⊢;(intros;refine gr_W ?_;apply e<;>assumption)
theorem evSends:Ev SendsX:=evS evTm fun j h=>by have e:=sends_ok (G:=gr 1100000 j) (k:=1100000) (by omega) h;unfold SendsX at e ⊢;(intros;refine gr_W ?_;apply e<;>assumption)
end Go.Proofs.Ytkommgiklkcclaa.Vm
