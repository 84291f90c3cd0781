/- Functions of the program, told by the machine of values, and what they answer: a part. -/
import Derived.Test.YtnimfaaefdlepaaGreatTe2
import Derived.Test.YtnimfaaefdlepaaGreatTe1
import Derived.Test.YtnimfaaefdlepaaGreatTeV4
open Go Go.VM
set_option linter.unusedVariables false
set_option linter.unusedSimpArgs false
set_option maxRecDepth 100000
set_option maxHeartbeats 8000000
namespace Go.Proofs.YtnimfaaefdlepaaGreat.Vm
section
variable {R : Type} {G : ORC R} {k : Nat} {K : LV → OV R} {Q : LV → Prop}
structure LstF (es cs:LV) (ns:List Nd) (any:Bool) (ev:List ByteArray) (F E C:List Int):Prop where
 clo:Clo es cs ns any ev E C
 first:∀y∈F,0≤y→y<cs.length→y∈C
 least:∀E' C',Clo es cs ns any ev E' C'→(∀y∈F,0≤y→y<cs.length→y∈C')→(∀y∈E,0≤y→y<es.length→y∈E')∧∀y∈C,0≤y→y<cs.length→y∈C'
theorem memN_congr{n:Nat}{A B:List Int}(h:∀y:Int,0≤y→y<n→(y∈A↔y∈B)):memN n A=memN n B:=by
 unfold memN
 congr 1
 refine List.filter_congr fun j hj=> ?_
 have:=List.mem_range.1 hj
 unfold hasL
 exact decide_eq_decide.2 (h j (by omega) (by omega))
theorem LstF.same{es cs:LV}{ns:List Nd}{any:Bool}{ev:List ByteArray}{F E C F' E' C':List Int}(hF:∀y:Int,0≤y→y<cs.length→(y∈F↔y∈F'))(h:LstF es cs ns any ev F E C)(h':LstF es cs ns any ev F' E' C'):
 memN es.length E=memN es.length E'∧memN cs.length C=memN cs.length C':=by
 have a:=h.least E' C' h'.clo fun y hy h0 h1=>h'.first y ((hF y h0 h1).1 hy) h0 h1
 have b:=h'.least E C h.clo fun y hy h0 h1=>h.first y ((hF y h0 h1).2 hy) h0 h1
 exact⟨memN_congr fun y h0 h1=>⟨fun q=>a.1 y q h0 h1,fun q=>b.1 y q h0 h1⟩,memN_congr fun y h0 h1=>⟨fun q=>a.2 y q h0 h1,fun q=>b.2 y q h0 h1⟩⟩
theorem Lst.toF{es cs:LV}{ns:List Nd}{any:Bool}{ev:List ByteArray}{E C:List Int}(h:Lst es cs ns any ev E C):LstF es cs ns any ev [] E C:=
 ⟨h.clo,fun y hy=>(by cases hy),fun E' C' hc _=>⟨fun y hy _ _=>(h.least E' C' hc).1 y hy,fun y hy _ _=>(h.least E' C' hc).2 y hy⟩⟩
def sel(n:Nat)(p:Nat→Bool):List Int:=((List.range n).filter p).map fun j:Nat=>(j:Int)
theorem sel_succ{n:Nat}{p:Nat→Bool}:sel (n+1) p=sel n p++if p n then[(n:Int)]else[]:=by
 unfold sel
 rw[List.range_succ,List.filter_append,List.map_append]
 congr 1
 cases h:p n<;>simp[h]
theorem sel_len{n:Nat}{p:Nat→Bool}:(sel n p).length≤n:=by
 unfold sel;rw[List.length_map];exact Nat.le_trans (List.length_filter_le _ _) (by simp)
theorem mem_sel{n:Nat}{p:Nat→Bool}{x:Int}:x∈sel n p↔(0≤x∧x<n)∧p x.toNat=true:=by
 unfold sel
 rw[List.mem_map]
 constructor
 ·rintro⟨j,hj,rfl⟩
  obtain⟨h1,h2⟩:=List.mem_filter.1 hj
  have:=List.mem_range.1 h1
  exact⟨⟨by omega,by omega⟩,by rw[Int.toNat_natCast];exact h2⟩
 ·rintro⟨⟨h0,h1⟩,h2⟩
  exact⟨x.toNat,List.mem_filter.2 ⟨List.mem_range.2 (by omega),h2⟩,by omega⟩
theorem sel_eq{n:Nat}{p q:Nat→Bool}(h:∀i,i<n→p i=true→q i=true)(hl:(sel n q).length=(sel n p).length):sel n q=sel n p:=by
 have e:(List.range n).filter p=((List.range n).filter q).filter p:=by
  rw[List.filter_filter]
  refine List.filter_congr fun i hi=> ?_
  have:=h i (List.mem_range.1 hi)
  cases hp:p i with
  |true=>rw[this hp];rfl
  |false=>rfl
 have hs:List.Sublist ((List.range n).filter p) ((List.range n).filter q):=by rw[e];exact List.filter_sublist
 unfold sel at hl ⊢
 rw[List.length_map,List.length_map]at hl
 rw[hs.eq_of_length hl.symm]
theorem sel_le{n:Nat}{p q:Nat→Bool}(h:∀i,i<n→p i=true→q i=true):(sel n p).length≤(sel n q).length:=by
 have e:(List.range n).filter p=((List.range n).filter q).filter p:=by
  rw[List.filter_filter]
  refine List.filter_congr fun i hi=> ?_
  have:=h i (List.mem_range.1 hi)
  cases hp:p i with
  |true=>rw[this hp];rfl
  |false=>rfl
 unfold sel
 rw[List.length_map,List.length_map,e]
 exact List.length_filter_le _ _
theorem sel_memN{n:Nat}{p:Nat→Bool}:memN n (sel n p)=sel n p:=by
 unfold memN
 show _=((List.range n).filter p).map _
 congr 1
 refine List.filter_congr fun j hj=> ?_
 have:=List.mem_range.1 hj
 unfold hasL
 cases h:p j with
 |true=>exact decide_eq_true (mem_sel.2 ⟨⟨by omega,by omega⟩,by rw[Int.toNat_natCast];exact h⟩)
 |false=>exact decide_eq_false fun q=>by have:=(mem_sel.1 q).2;rw[Int.toNat_natCast,h]at this;cases this
def wantR(any:Bool)(ev T:List ByteArray)(s:ByteArray):Bool:=any||((s.toList==ByteArray.toList ⟨#[]⟩)||((s.toList==ByteArray.toList ⟨#[101,114,114,111,114]⟩)||(hasS ev s||hasS T s)))
def wantI(es:LV)(any:Bool)(ev T:List ByteArray)(i:Nat):Bool:=match es[i]? with
 |some (.agg [_,_,_,_,_,.str s])=>wantR any ev T s
 |_=>false
theorem wantI_at{es:LV}{any:Bool}{ev T:List ByteArray}{i:Nat}{a b c d f:Int}{s:ByteArray}(h:es[i]? =some (edV a b c d f s)):wantI es any ev T i=wantR any ev T s:=by
 unfold wantI;rw[h];rfl
theorem want_iff{cs:LV}{C:List Int}{any:Bool}{ev T:List ByteArray}{s:ByteArray}(h:TellP cs (memN cs.length C) T):wantR any ev T s=true↔any=true∨LateP cs C s∨hasS ev s=true:=by
 rw[←late_iff h]
 unfold wantR lateB
 simp only[Bool.or_eq_true]
 constructor
 ·rintro(q|q|q|q|q)
  ·exact .inl q
  ·exact .inr (.inl (.inl q))
  ·exact .inr (.inl (.inr (.inl q)))
  ·exact .inr (.inr q)
  ·exact .inr (.inl (.inr (.inr q)))
 ·rintro(q|(q|q|q)|q)
  ·exact .inl q
  ·exact .inr (.inl q)
  ·exact .inr (.inr (.inl q))
  ·exact .inr (.inr (.inr (.inr q)))
  ·exact .inr (.inr (.inr (.inl q)))
structure ClI (es cs:LV) (ns:List Nd) (any:Bool) (ev:List ByteArray) (F:List Int) (p:Nat→Bool) (C:List Int):Prop where
 want:∀(i:Nat) a b c d f s,es[i]? =some (edV a b c d f s)→p i=true→any=true∨LateP cs C s∨hasS ev s=true
 mem:∀y:Int,0≤y→y<cs.length→(y∈C↔y∈rawL es ns (sel es.length p)∨y∈F)
 least:∀E' C',Clo es cs ns any ev E' C'→(∀y∈F,0≤y→y<cs.length→y∈C')→(∀y∈sel es.length p,y∈E')∧∀y∈C,0≤y→y<cs.length→y∈C'
theorem late_monoR{cs:LV}{A B:List Int}{s:ByteArray}(h:∀y∈A,0≤y→y<cs.length→y∈B):LateP cs A s→LateP cs B s:=by
 rintro(q|q|⟨c,h1,h2⟩)
 ·exact .inl q
 ·exact .inr (.inl q)
 ·obtain⟨q1,q2⟩:=mem_memN.1 h1
  exact .inr (.inr ⟨c,mem_memN.2 ⟨q1,h c q2 q1.1 q1.2⟩,h2⟩)
theorem sel_rng{n:Nat}{p:Nat→Bool}:∀i∈sel n p,0≤i∧i<n:=fun i hi=>(mem_sel.1 hi).1
theorem ClI.first{es cs:LV}{ns:List Nd}{any:Bool}{ev:List ByteArray}{F:List Int}:ClI es cs ns any ev F (fun _=>false) F:=by
 have e:sel es.length (fun _=>false)=[]:=by unfold sel;rw[List.filter_eq_nil_iff.2 (fun _ _=>by simp)];rfl
 refine⟨fun i _ _ _ _ _ _ _ q=>(by cases q),fun y h0 h1=> ?_,fun E' C' hc hf=>⟨fun y hy=> ?_,hf⟩⟩
 ·rw[e];exact⟨.inr,fun q=>q.elim (fun q=>(by cases q)) id⟩
 ·rw[e]at hy;cases hy
theorem ClI.more{es cs:LV}{ns:List Nd}{any:Bool}{ev T:List ByteArray}{F C:List Int}{p:Nat→Bool}(hes:EdsS es)(hT:TellP cs (memN cs.length C) T)(h:ClI es cs ns any ev F p C):∀i,i<es.length→p i=true→wantI es any ev T i=true:=fun i hi hp=>by
 obtain⟨e,he⟩:∃e,es[i]? =some e:=⟨_,List.getElem?_eq_getElem hi⟩
 obtain⟨a,b,c,d,f,s,rfl⟩:=hes e (List.mem_of_getElem? he)
 rw[wantI_at he]
 exact(want_iff hT).2 (h.want i a b c d f s he hp)
theorem ClI.next{es cs:LV}{ns:List Nd}{any:Bool}{ev T:List ByteArray}{F C D:List Int}{p:Nat→Bool}(hes:EdsS es)(hT:TellP cs (memN cs.length C) T)(h:ClI es cs ns any ev F p C)
 (hD:∀y:Int,0≤y→y<cs.length→(y∈D↔y∈rawL es ns (sel es.length (wantI es any ev T))∨y∈F)):ClI es cs ns any ev F (wantI es any ev T) D:=by
 have hpq:∀i,i<es.length→p i=true→wantI es any ev T i=true:=fun i hi hp=>by
  obtain⟨e,he⟩:∃e,es[i]? =some e:=⟨_,List.getElem?_eq_getElem hi⟩
  obtain⟨a,b,c,d,f,s,rfl⟩:=hes e (List.mem_of_getElem? he)
  rw[wantI_at he]
  exact(want_iff hT).2 (h.want i a b c d f s he hp)
 have hCD:∀y∈C,0≤y→y<cs.length→y∈D:=fun y hy h0 h1=>by
  rcases(h.mem y h0 h1).1 hy with q|q
  ·refine(hD y h0 h1).2 (.inl ?_)
   obtain⟨i,h2,h3⟩:=(mem_rawL hes h0 h1 sel_rng).1 q
   refine(mem_rawL hes h0 h1 sel_rng).2 ⟨i,?_,h3⟩
   obtain⟨h4,h5⟩:=mem_sel.1 h2
   exact mem_sel.2 ⟨h4,hpq _ (by omega) h5⟩
  ·exact(hD y h0 h1).2 (.inr q)
 refine⟨fun i a b c d f s he hp=> ?_,hD,fun E' C' hc hf=> ?_⟩
 ·rw[wantI_at he]at hp
  rcases(want_iff hT).1 hp with q|q|q
  ·exact .inl q
  ·exact .inr (.inl (late_monoR hCD q))
  ·exact .inr (.inr q)
 ·obtain⟨l1,l2⟩:=h.least E' C' hc hf
  have hE:∀y∈sel es.length (wantI es any ev T),y∈E':=fun y hy=>by
   obtain⟨⟨h0,h1⟩,h2⟩:=mem_sel.1 hy
   obtain⟨e,he⟩:∃e,es[y.toNat]? =some e:=⟨_,List.getElem?_eq_getElem (by omega)⟩
   obtain⟨a,b,c,d,f,s,rfl⟩:=hes e (List.mem_of_getElem? he)
   rw[wantI_at he]at h2
   have:=hc.edges y.toNat a b c d f s he ?_
   ·rw[show((y.toNat:Nat):Int)=y by omega]at this;exact this
   ·rcases(want_iff hT).1 h2 with q|q|q
    ·exact .inl q
    ·exact .inr (.inl (late_monoR l2 q))
    ·exact .inr (.inr q)
  refine⟨hE,fun y hy h0 h1=> ?_⟩
  rcases(hD y h0 h1).1 hy with q|q
  ·obtain⟨i,h2,a,b,c,d,f,s,h3,h4⟩:=(mem_rawL hes h0 h1 sel_rng).1 q
   have:=(mem_sel.1 h2).1
   refine hc.codes i.toNat a b c d f s h3 ?_ y h4
   rw[show((i.toNat:Nat):Int)=i by omega]
   exact hE i h2
  ·exact hf y q h0 h1
theorem edgC_rng{ns:List Nd}{N:Nat}{dom acts y:Int}:y∈edgC ns N dom acts []→0≤y∧y<N:=by
 have hn:∀(i:Nat) (C:List Int),(∀z∈C,0≤z∧z<N)→∀z∈nodC ns N dom i C,0≤z∧z<N:=fun i=>by
  induction i with
  |zero=>exact fun C h=>h
  |succ i ih=>
   intro C h z hz
   cases e:ns[i]? with
   |none=>
    have e2:nodC ns N dom (i+1) C=nodC ns N dom i C:=by
     show(match ns[i]? with|some n=>_|none=>_)=_
     rw[e]
    rw[e2]at hz;exact ih C h z hz
   |some n=>
    rw[nodC_at e]at hz
    split at hz
    ·rw[mem_putC,mem_putC]at hz
     rcases hz with(q|⟨rfl,q⟩)|⟨rfl,q⟩
     ·exact ih C h z q
     ·exact q
     ·exact q
    ·exact ih C h z hz
 refine fun h=>hn ns.length _ (fun z hz=> ?_) y h
 rw[mem_putC]at hz
 rcases hz with q|⟨rfl,q⟩
 ·cases q
 ·exact q
theorem ClI.last{es cs:LV}{ns:List Nd}{any:Bool}{ev T:List ByteArray}{F C:List Int}{p:Nat→Bool}(hes:EdsS es)(hT:TellP cs (memN cs.length C) T)(h:ClI es cs ns any ev F p C)
 (hl:(sel es.length (wantI es any ev T)).length=(sel es.length p).length):LstF es cs ns any ev F (sel es.length p) C:=by
 have hpq:∀i,i<es.length→p i=true→wantI es any ev T i=true:=fun i hi hp=>by
  obtain⟨e,he⟩:∃e,es[i]? =some e:=⟨_,List.getElem?_eq_getElem hi⟩
  obtain⟨a,b,c,d,f,s,rfl⟩:=hes e (List.mem_of_getElem? he)
  rw[wantI_at he]
  exact(want_iff hT).2 (h.want i a b c d f s he hp)
 have heq:=sel_eq hpq hl
 refine⟨⟨fun i a b c d f s he hw=> ?_,fun i a b c d f s he hi y hy=> ?_⟩,fun y hy h0 h1=>(h.mem y h0 h1).2 (.inr hy),fun E' C' hc hf=> ?_⟩
 ·rw[←heq]
  have:=(List.getElem?_eq_some_iff.1 he).1
  refine mem_sel.2 ⟨⟨by omega,by omega⟩,?_⟩
  rw[Int.toNat_natCast,wantI_at he]
  exact(want_iff hT).2 hw
 ·obtain⟨h0,h1⟩:=edgC_rng hy
  refine(h.mem y h0 h1).2 (.inl ((mem_rawL hes h0 h1 sel_rng).2 ⟨i,hi,a,b,c,d,f,s,by rw[Int.toNat_natCast];exact he,hy⟩))
 ·obtain⟨l1,l2⟩:=h.least E' C' hc hf
  exact⟨fun y hy _ _=>l1 y hy,l2⟩
end
section
variable {R : Type} {G : ORC R} {k : Nat} {K : LV → OV R} {Q : LV → Prop}
theorem clo_in(hH:HasR G){x:Srch}{ev T:List ByteArray}(hevl:ev.length≤1000000)(hT:T.length≤1000000)(hes:EdsS x.es)(hel:x.es.length≤100){Fv EL CL z1 z2 z3:LV}{b4 bb:Bool}
 {Ko:Bool→LV→LV→LV→ByteArray→Int→Int→LV→LV→LV→LV→LV→LV→LV→LV→LV→Bool→LV→LV→LV→Bool→OV R}
 (hKo:W Q K (Ko x.any (sv ev) Fv (ivs (sel x.es.length (wantI x.es x.any ev T))) x.nm x.st x.fu x.vars x.ports x.timers (x.ns.map Nd.v) x.es x.cs z1 z2 z3 b4 EL CL (sv T) bb)):
 ∀(j m:Nat),x.es.length-m<j→m≤x.es.length→W Q K (l27_2g G k Ko j x.any (sv ev) Fv (ivs (sel m (wantI x.es x.any ev T))) m x.nm x.st x.fu x.vars x.ports x.timers (x.ns.map Nd.v) x.es x.cs z1 z2 z3 b4 EL CL (sv T) bb)
 |0,m,h1,h2=>by omega
 |j+1,m,h1,h2=>by
  show W Q K (b27_2 G k (l27_2g G k Ko j) Ko x.any (sv ev) Fv (ivs (sel m (wantI x.es x.any ev T))) m x.nm x.st x.fu x.vars x.ports x.timers (x.ns.map Nd.v) x.es x.cs z1 z2 z3 b4 EL CL (sv T) bb)
  unfold b27_2
  refine W_dec (fun h=> ?_) (fun h=>by rw[show m=x.es.length by omega];exact hKo)
  obtain⟨e,he⟩:∃e,x.es[m]? =some e:=⟨_,List.getElem?_eq_getElem (by omega)⟩
  obtain⟨a,b,c,d,f,s,rfl⟩:=hes e (List.mem_of_getElem? he)
  have hw:=wantI_at (any:=x.any) (ev:=ev) (T:=T) he
  have hsl:=sel_len (n:=m) (p:=wantI x.es x.any ev T)
  have next:∀A,A=ivs (sel (m+1) (wantI x.es x.any ev T))→W Q K (l27_2g G k Ko j x.any (sv ev) Fv A (IntKind.i64.wrap ((m:Int)+1)) x.nm x.st x.fu x.vars x.ports x.timers (x.ns.map Nd.v) x.es x.cs z1 z2 z3 b4 EL CL (sv T) bb):=fun A hA=>by
   rw[wrap_id (n:=(m:Int)+1) (by omega),hA]
   exact clo_in hH hevl hT hes hel hKo j (m+1) (by omega) (by omega)
  rw[sel_succ,hw]at next
  have yes:wantR x.any ev T s=true→W Q K (bif decide ((ivs (sel m (wantI x.es x.any ev T))).length+1≤1073741824)then(l27_2g G k Ko j x.any (sv ev) Fv (ivs (sel m (wantI x.es x.any ev T))++[.int .i64 (m:Int)]) (IntKind.i64.wrap ((m:Int)+1)) x.nm x.st x.fu x.vars x.ports x.timers (x.ns.map Nd.v) x.es x.cs z1 z2 z3 b4 EL CL (sv T) bb)else none):=fun q=>
   W_yes (by rw[ivs_len];omega) (next _ (by rw[q,if_pos rfl,ivs_app];rfl))
  unfold edV at he
  unfold HasR at hH
  refine W_at (by omega) (by rw[Int.toNat_natCast];exact he) ?_
  (repeat(with_reducible apply U1))
  refine W_bool (fun ga=>yes (by unfold wantR;rw[ga];rfl)) (fun ga=> ?_)
  refine W_bool (fun gb=>yes (by unfold wantR;rw[gb];simp)) (fun gb=> ?_)
  refine W_bool (fun gc=>yes (by unfold wantR;rw[gc];simp)) (fun gc=> ?_)
  refine W_call (hH _ _ _ hevl) ?_
  rintro _ rfl
  (repeat(with_reducible apply U1))
  refine W_bool (fun gd=>yes (by unfold wantR;rw[gd];simp)) (fun gd=> ?_)
  refine W_call (hH _ _ _ hT) ?_
  rintro _ rfl
  (repeat(with_reducible apply U1))
  refine W_bool (fun ge=>yes (by unfold wantR;rw[ge];simp)) (fun ge=>next _ ?_)
  have:wantR x.any ev T s=false:=by unfold wantR;rw[ga,gb,gc,gd,ge];rfl
  rw[this,if_neg (by simp),List.append_nil]
theorem clo_loop(hk:10000≤k)(hH:HasR G)(hSa:SaidOK G)(hRi:RisOK G)(hCo:CodsOK G){x:Srch}{ev:List ByteArray}(hevl:ev.length≤1000000)(hes:EdsS x.es)(hel:x.es.length≤100)(hnl:x.ns.length≤30)(hcs:CodesA x.cs)(hcl:x.cs.length≤90)
 {F:List Int} (hF:F.length≤8000) {z1 z2 z3:LV} {b4 bb:Bool} {Kr:LV→LV→LV→Bool→OV R}
 (hKr:∀p C,LstF x.es x.cs x.ns x.any ev F (sel x.es.length p) C→W Q K (Kr (ivs (sel x.es.length p)) (ivs (memN x.cs.length C)) (sv (tellL x.cs (opP 19) (memN x.cs.length C))) bb)):
 ∀(j:Nat) (p:Nat→Bool) (C:List Int),ClI x.es x.cs x.ns x.any ev F p C→x.es.length-(sel x.es.length p).length<j→
  W Q K (l27_0g G k Kr j x.any (sv ev) (ivs F) x.nm x.st x.fu x.vars x.ports x.timers (x.ns.map Nd.v) x.es x.cs z1 z2 z3 b4 (ivs (sel x.es.length p)) (ivs (memN x.cs.length C)) (sv (tellL x.cs (opP 19) (memN x.cs.length C))) bb)
 |0,p,C,h1,h2=>by omega
 |j+1,p,C,h1,h2=>by
  show W Q K (b27_0 G k (l27_0g G k Kr j) Kr x.any (sv ev) (ivs F) x.nm x.st x.fu x.vars x.ports x.timers (x.ns.map Nd.v) x.es x.cs z1 z2 z3 b4 (ivs (sel x.es.length p)) (ivs (memN x.cs.length C)) (sv (tellL x.cs (opP 19) (memN x.cs.length C))) bb)
  unfold b27_0 l27_2
  have hrg:∀c∈memN x.cs.length C,0≤c∧c<x.cs.length:=fun c hc=>(mem_memN.1 hc).1
  have hml:=memN_len (n:=x.cs.length) (s:=C)
  have hTl:=tellL_len (p:=opP 19) hcs hrg _ (Nat.le_refl _)
  rw[List.take_length]at hTl
  have hTP:=tellL_is hcs hrg
  refine clo_in hH hevl (by omega) hes hel ?_ k 0 (by omega) (by omega)
  have hs1:=sel_len (n:=x.es.length) (p:=wantI x.es x.any ev (tellL x.cs (opP 19) (memN x.cs.length C)))
  have hs2:=sel_len (n:=x.es.length) (p:=p)
  have hle:=sel_le (h1.more hes hTP)
  rw[ivs_len,ivs_len]
  refine W_beqI (fun h=> ?_) (fun h=> ?_)
  ·exact hKr p C (h1.last hes hTP (by omega))
  unfold CodsOK at hCo;unfold RisOK at hRi;unfold SaidOK at hSa
  refine W_call (hCo x _ _ hes hnl (by omega) sel_rng hcl) ?_
  rintro _ rfl
  (repeat(with_reducible apply U1))
  have hm2:=memN_len (n:=x.cs.length) (s:=rawL x.es x.ns (sel x.es.length (wantI x.es x.any ev (tellL x.cs (opP 19) (memN x.cs.length C)))))
  refine W_yes (by rw[ivs_len,ivs_len];omega) ?_
  rw[←ivs_app]
  refine W_call (hRi x _ _ (by rw[List.length_append];omega) hcl) ?_
  rintro _ rfl
  (repeat(with_reducible apply U1))
  have hm3:=memN_len (n:=x.cs.length) (s:=memN x.cs.length (rawL x.es x.ns (sel x.es.length (wantI x.es x.any ev (tellL x.cs (opP 19) (memN x.cs.length C)))))++F)
  have hrg3:∀c∈memN x.cs.length (memN x.cs.length (rawL x.es x.ns (sel x.es.length (wantI x.es x.any ev (tellL x.cs (opP 19) (memN x.cs.length C)))))++F),0≤c∧c<x.cs.length:=fun c hc=>(mem_memN.1 hc).1
  refine W_call (hSa x _ _ _ _ hcs (by omega) hrg3) ?_
  rintro _ rfl
  (repeat(with_reducible apply U1))
  rw[tellL_congr (p:=saidP 19 0) (q:=opP 19) hcs hrg3 (fun op a n s=>by show(op==19&&((19:Int)==19||a==0))=(op==19);simp)]
  refine clo_loop hk hH hSa hRi hCo hevl hes hel hnl hcs hcl hF hKr j _ _ (h1.next hes hTP fun y h0 hy=> ?_) (by omega)
  rw[List.mem_append,mem_memN]
  exact⟨fun q=>q.elim (fun q=>.inl q.2) .inr,fun q=>q.elim (fun q=>.inl ⟨⟨h0,hy⟩,q⟩) .inr⟩
def ClsOK(G:ORC R):Prop:=∀(x:Srch) (ev:List ByteArray) (F:List Int) (K:LV→OV R),ev.length≤1000000→EdsS x.es→x.es.length≤100→x.ns.length≤30→CodesA x.cs→x.cs.length≤90→F.length≤8000→
 W (fun o=>∃p C,o=[.agg [.sl 1 (ivs (sel x.es.length p)),.sl 1 (ivs (memN x.cs.length C)),.sl 1 (sv (tellL x.cs (opP 19) (memN x.cs.length C))),.bool false]]∧LstF x.es x.cs x.ns x.any ev F (sel x.es.length p) C) K
   (G 27 [.agg [.str x.nm,.int .i64 x.st,.int .i64 x.fu,.sl 1 x.vars,.sl 1 x.ports,.sl 1 x.timers,.sl 7 (x.ns.map Nd.v),.sl 6 x.es,.sl 1 x.cs],.bool x.any,.sl 1 (sv ev),.sl 1 (ivs F)] K)
theorem cls_okR(hk:10000≤k)(hH:HasR G)(hSa:SaidOK G)(hRi:RisOK G)(hCo:CodsOK G):ClsOK (fun _ args (K:LV→OV R)=>g27 G k args K):=by
 intro x ev F K hevl hes hel hnl hcs hcl hF
 show W _ K (f27 G k x.nm x.st x.fu x.vars x.ports x.timers (x.ns.map Nd.v) x.es x.cs x.any (sv ev) (ivs F) K)
 unfold f27 l27_0
 have hRi':=hRi
 have hSa':=hSa
 unfold RisOK at hRi';unfold SaidOK at hSa'
 have hrg:∀c∈memN x.cs.length F,0≤c∧c<x.cs.length:=fun c hc=>(mem_memN.1 hc).1
 have hml:=memN_len (n:=x.cs.length) (s:=F)
 refine W_call (hRi' x _ _ (by omega) hcl) ?_
 rintro _ rfl
 (repeat(with_reducible apply U1))
 refine W_call (hSa' x _ _ _ _ hcs (by omega) hrg) ?_
 rintro _ rfl
 (repeat(with_reducible apply U1))
 rw[tellL_congr (p:=saidP 19 0) (q:=opP 19) hcs hrg (fun op a n s=>by show(op==19&&((19:Int)==19||a==0))=(op==19);simp)]
 have e:sel x.es.length (fun _=>false)=[]:=by unfold sel;rw[List.filter_eq_nil_iff.2 (fun _ _=>by simp)];rfl
 have:=clo_loop (K:=K) (Q:=fun o=>∃p C,o=[.agg [.sl 1 (ivs (sel x.es.length p)),.sl 1 (ivs (memN x.cs.length C)),.sl 1 (sv (tellL x.cs (opP 19) (memN x.cs.length C))),.bool false]]∧LstF x.es x.cs x.ns x.any ev F (sel x.es.length p) C)
  (Kr:=fun a b c d=>K [.agg [.sl 1 a,.sl 1 b,.sl 1 c,.bool d]]) (z1:=[]) (z2:=[]) (z3:=[]) (b4:=false) (bb:=false) hk hH hSa hRi hCo hevl hes hel hnl hcs hcl hF (fun p C h=>W_ret ⟨p,C,rfl,h⟩) k (fun _=>false) F ClI.first (by omega)
 rw[e]at this
 exact this
def ROfX(G:ORC R):Prop:=∀(x:Srch) (ev:List ByteArray) (K:LV→OV R),ev.length≤1000000→EdsS x.es→x.es.length≤100→x.ns.length≤30→CodesA x.cs→x.cs.length≤90→
 W (fun o=>∃(E C:List Int),o=[.agg [.sl 1 (ivs (memN x.es.length E)),.sl 1 (ivs (memN x.cs.length C)),.sl 1 (sv (tellL x.cs (opP 19) (memN x.cs.length C))),.bool ((memN x.es.length E).any (lateAt x.es (tellL x.cs (opP 19) (memN x.cs.length C))))]]∧LstF x.es x.cs x.ns x.any ev [] E C) K
   (G 10 [.agg [.str x.nm,.int .i64 x.st,.int .i64 x.fu,.sl 1 x.vars,.sl 1 x.ports,.sl 1 x.timers,.sl 7 (x.ns.map Nd.v),.sl 6 x.es,.sl 1 x.cs],.bool x.any,.sl 1 (sv ev)] K)
theorem rof_loop(hH:HasR G){x:Srch}{T:List ByteArray}(hT:T.length≤1000000)(hes:EdsS x.es)(hel:x.es.length≤100){E:List Int}(hE:∀i∈E,0≤i∧i<x.es.length)(hEl:E.length≤1000){CL z1 z2 z3:LV}{b4:Bool}
 {Ko:LV→LV→LV→Bool→LV→LV→LV→Bool→OV R} (hKo:W Q K (Ko z1 z2 z3 b4 (ivs E) CL (sv T) (E.any (lateAt x.es T)))):
 ∀(j m:Nat),E.length-m<j→m≤E.length→W Q K (l10_0g G k Ko j m x.nm x.st x.fu x.vars x.ports x.timers (x.ns.map Nd.v) x.es x.cs z1 z2 z3 b4 (ivs E) CL (sv T) ((E.take m).any (lateAt x.es T)))
 |0,m,h1,h2=>by omega
 |j+1,m,h1,h2=>by
  show W Q K (b10_0 G k (l10_0g G k Ko j) Ko m x.nm x.st x.fu x.vars x.ports x.timers (x.ns.map Nd.v) x.es x.cs z1 z2 z3 b4 (ivs E) CL (sv T) ((E.take m).any (lateAt x.es T)))
  unfold b10_0
  refine W_dec (fun h=> ?_) (fun h=>by rw[ivs_len]at h;rw[List.take_of_length_le (by omega)];exact hKo)
  rw[ivs_len]at h
  obtain⟨i,hi⟩:∃i,E[m]? =some i:=⟨_,List.getElem?_eq_getElem (by omega)⟩
  obtain⟨i0,i1⟩:=hE i (List.mem_of_getElem? hi)
  obtain⟨e,he⟩:∃e,x.es[i.toNat]? =some e:=⟨_,List.getElem?_eq_getElem (by omega)⟩
  obtain⟨a,b,c,d,f,s,rfl⟩:=hes e (List.mem_of_getElem? he)
  have hs:(E.take (m+1)).any (lateAt x.es T)=((E.take m).any (lateAt x.es T)||lateB T s):=by rw[takeS hi,List.any_append];simp[lateAt_eq he]
  have next:∀b',b'=(E.take (m+1)).any (lateAt x.es T)→W Q K (l10_0g G k Ko j (IntKind.i64.wrap ((m:Int)+1)) x.nm x.st x.fu x.vars x.ports x.timers (x.ns.map Nd.v) x.es x.cs z1 z2 z3 b4 (ivs E) CL (sv T) b'):=fun b' hb=>by
   rw[wrap_id (n:=(m:Int)+1) (by omega),hb]
   exact rof_loop hH hT hes hel hE hEl hKo j (m+1) (by omega) (by omega)
  rw[hs]at next
  unfold HasR at hH
  unfold edV at he
  refine W_at (by omega) (by rw[Int.toNat_natCast];exact ivs_at hi) (W_aI ?_)
  refine W_at i0 he ?_
  (repeat(with_reducible apply U1))
  refine W_bool (fun ga=>next _ (by rw[ga];rfl)) (fun ga=> ?_)
  refine W_bool (fun gb=>next _ (by unfold lateB;rw[gb];simp)) (fun gb=> ?_)
  refine W_bool (fun gc=>next _ (by unfold lateB;rw[gc];simp)) (fun gc=> ?_)
  refine W_call (hH _ _ _ hT) ?_
  rintro _ rfl
  (repeat(with_reducible apply U1))
  exact next _ (by unfold lateB;rw[ga,gb,gc];simp)
theorem rof_ok(hk:10000≤k)(hH:HasR G)(hC:ClsOK G):ROfX (fun _ args (K:LV→OV R)=>g10 G k args K):=by
 intro x ev K hevl hes hel hnl hcs hcl
 show W _ K (f10 G k x.nm x.st x.fu x.vars x.ports x.timers (x.ns.map Nd.v) x.es x.cs x.any (sv ev) K)
 unfold f10
 unfold ClsOK at hC
 refine W_call (hC x ev [] _ hevl hes hel hnl hcs hcl (by simp)) ?_
 rintro _ ⟨p,C,rfl,hL⟩
 (repeat(with_reducible apply U1))
 unfold l10_0
 have hrg:∀c∈memN x.cs.length C,0≤c∧c<x.cs.length:=fun c hc=>(mem_memN.1 hc).1
 have hml:=memN_len (n:=x.cs.length) (s:=C)
 have hTl:=tellL_len (p:=opP 19) hcs hrg _ (Nat.le_refl _)
 rw[List.take_length]at hTl
 have hsl:=sel_len (n:=x.es.length) (p:=p)
 exact rof_loop (Ko:=fun yl54 yl55 yl56 yb57 yl58 yl59 yl60 yb61=>K [.agg [.sl 1 yl58,.sl 1 yl59,.sl 1 yl60,.bool yb61]]) hH (by omega) hes hel sel_rng (by omega) (W_ret ⟨sel x.es.length p,C,by rw[sel_memN],hL⟩) k 0 (by omega) (by omega)
end
section
variable {R : Type} {G : ORC R} {k : Nat} {K : LV → OV R} {Q : LV → Prop}
def nonE:List Int→Bool
 | []=>false
 |_=>true
theorem memN_le{n:Nat}{s:List Int}{i:Nat}(h:i<n)(hb:hasL s i=true):nonE (memN n s)=true:=by
 have:(i:Int)∈memN n s:=mem_memN.2 ⟨⟨by omega,by omega⟩,hasL_iff.1 hb⟩
 cases e:memN n s with
 |nil=>rw[e]at this;cases this
 |cons=>rfl
def IxB(G:ORC R):Prop:=∀(n:Nat) (s:List Int) (K:LV→OV R),n≤1000→W (fun o=>∃i:Int,o=[.int .i64 i]∧decide (i≥0)=nonE (memN n s)) K (G 77 [.sl 1 (actV n s),.bool true] K)
theorem ixb_loop{Ko:Unit→OV R}{Kr:Int→OV R}{n:Nat}{s:List Int}(hn:n≤1000)(hKo:nonE (memN n s)=false→W Q K (Ko ()))(hKr:∀i:Nat,nonE (memN n s)=true→W Q K (Kr i)):
 ∀(j i:Nat),n-i<j→i≤n→memN i s=[]→W Q K (l77_0g G k Ko Kr j (actV n s) true n i)
 |0,i,h1,h2,h3=>by omega
 |j+1,i,h1,h2,h3=>by
  show W Q K (b77_0 G k (l77_0g G k Ko Kr j) Ko Kr (actV n s) true n i)
  unfold b77_0
  refine W_dec (fun h=> ?_) (fun h=>hKo (by rw[show n=i by omega,h3];rfl))
  refine W_at (by omega) (by rw[Int.toNat_natCast];exact actV_get (by omega)) ?_
  (repeat(with_reducible apply U1))
  cases hb:hasL s i with
  |true=>exact W_chk rfl (hKr i (memN_le (by omega) hb))
  |false=>
   refine W_chk' rfl ?_
   rw[wrap_id (n:=(i:Int)+1) (by omega)]
   exact ixb_loop hn hKo hKr j (i+1) (by omega) (by omega) (by rw[memN_succ,h3,hb];rfl)
theorem ixb_ok(hk:10000≤k):IxB (fun _ args (K:LV→OV R)=>g77 G k args K):=by
 intro n s K hn
 show W _ K (f77 G k (actV n s) true K)
 unfold f77 l77_0
 rw[actV_len]
 exact ixb_loop (Ko:=fun _=>K [.int .i64 (-1)]) (Kr:=fun i=>K [.int .i64 i]) hn (fun h=>W_ret ⟨_,rfl,by rw[h];rfl⟩) (fun i h=>W_ret ⟨_,rfl,by rw[h];simp⟩) k 0 (by omega) (by omega) rfl
def CoB(G:ORC R):Prop:=∀(n:Nat) (s:List Int) (K:LV→OV R),n≤1000→W (fun o=>o=[.bool (nonE (memN n s))]) K (G 60 [.sl 1 (actV n s),.bool true] K)
theorem cob_ok(hI:IxB G):CoB (fun _ args (K:LV→OV R)=>g60 G k args K):=by
 intro n s K hn
 show W _ K (f60 G k (actV n s) true K)
 unfold f60
 unfold IxB at hI
 refine W_call (hI n s _ hn) ?_
 rintro _ ⟨i,rfl,hi⟩
 (repeat(with_reducible apply U1))
 exact W_ret (by rw[hi])
theorem more_loopB{x:Srch}{EL:List Int}(hll:EL.length≤1000){er cr ra r1 r2 r3 CL RL:LV}{b4 bb:Bool}
 {Ko:ByteArray→Int→Int→LV→LV→LV→LV→LV→LV→Bool→LV→LV→LV→LV→LV→LV→LV→Bool→LV→LV→LV→Bool→OV R}
 (hKo:W Q K (Ko x.nm x.st x.fu x.vars x.ports x.timers (x.ns.map Nd.v) x.es x.cs x.any x.ev er cr ra r1 r2 r3 b4 (ivs EL) CL RL bb)):
 ∀(j m:Nat),EL.length-m<j→m≤EL.length→W Q K (l26_4g G k Ko j true EL.length m x.nm x.st x.fu x.vars x.ports x.timers (x.ns.map Nd.v) x.es x.cs x.any x.ev er cr ra r1 r2 r3 b4 (ivs EL) CL RL bb)
 |0,m,h1,h2=>by omega
 |j+1,m,h1,h2=>by
  show W Q K (b26_4 G k (l26_4g G k Ko j) Ko true EL.length m x.nm x.st x.fu x.vars x.ports x.timers (x.ns.map Nd.v) x.es x.cs x.any x.ev er cr ra r1 r2 r3 b4 (ivs EL) CL RL bb)
  unfold b26_4
  refine W_dec (fun h=> ?_) (fun h=>hKo)
  obtain⟨i,hi⟩:∃i,EL[m]? =some i:=⟨_,List.getElem?_eq_getElem (by omega)⟩
  refine W_at (by omega) (by rw[Int.toNat_natCast];exact ivs_at hi) (W_aI ?_)
  rw[wrap_id (n:=(m:Int)+1) (by omega)]
  have ih:=more_loopB (x:=x) hll hKo j (m+1) (by omega) (by omega)
  refine W_bool (fun hb=>by rw[hb]at ih;exact ih) (fun hb=> ?_)
  refine W_not (W_chk rfl ?_)
  rw[hb]at ih
  exact ih
def AllB(G:ORC R):Prop:=∀(x:Srch) (ev:List ByteArray) (C0:List Int) (Inv:List Int→List Int→Prop) (ra:LV) (K:LV→OV R),x.ev=sv ev→ev.length≤1000000→EdsS x.es→x.es.length≤1000→x.ns.length≤1000→CodesA x.cs→x.cs.length≤90→Inv [] C0→(∀E C,Inv E C→E.length≤x.es.length)→
 (∀(T:List ByteArray) E0 C0,Inv E0 C0→(TellP x.cs (memN x.cs.length C0) T)→∀E C (i:Nat) a b c d f s,x.es[i]? =some (edV a b c d f s)→Inv E C→hasL E i=false→wantB x ev T s=true→Inv (E++[(i:Int)]) (edgC x.ns x.cs.length c f C))→
 W (fun o=>∃(E C:List Int) (T:List ByteArray) (r1 r2 r3:LV),o=[.agg [.sl 1 (ivs (memN x.es.length E)),.sl 1 (ivs (memN x.cs.length C)),.sl 1 (sv T),.bool (nonE (memN x.es.length E))],.str x.nm,.int .i64 x.st,.int .i64 x.fu,.bool x.any,.sl 1 r1,.sl 1 r2,.sl 1 r3]∧
     Inv E C∧(TellP x.cs (memN x.cs.length C) T)∧∀(i:Nat) a b c d f s,x.es[i]? =some (edV a b c d f s)→hasL E i=true∨wantB x ev T s=false) K
   (G 26 [.bool true,.str x.nm,.int .i64 x.st,.int .i64 x.fu,.sl 1 x.vars,.sl 1 x.ports,.sl 1 x.timers,.sl 7 (x.ns.map Nd.v),.sl 6 x.es,.sl 1 x.cs,.bool x.any,.sl 1 x.ev,.sl 1 (actV x.es.length []),.sl 1 (actV x.cs.length C0),.sl 1 ra] K)
theorem allb_ok(hk:10000≤k)(hP:PlacesOK G)(hTo:ToldOK G)(hE:EdgeOK G)(hL:LaterX G)(hC:CoS G)(hB:CoB G):AllB (fun _ args (K:LV→OV R)=>g26 G k args K):=by
 intro x ev C0 Inv ra K hev hevl hes hel hnl hcs hcl h0 hbd hstep
 show W _ K (f26 G k true x.nm x.st x.fu x.vars x.ports x.timers (x.ns.map Nd.v) x.es x.cs x.any x.ev (actV x.es.length []) (actV x.cs.length C0) ra K)
 unfold f26 l26_0
 have hP':=hP
 unfold PlacesOK at hP'
 unfold CoB at hB
 refine search_loop hk hP hTo hE hL hC hev hevl hes hel hnl hcs hcl Inv hbd hstep (fun E C T i1 t1 t2 q3=> ?_) k [] C0 ra h0 (by simp;omega)
 refine W_call (hP' _ _ _ hel) ?_
 rintro _ rfl
 (repeat(with_reducible apply U1))
 refine W_call (hP' _ _ _ (by omega)) ?_
 rintro _ rfl
 (repeat(with_reducible apply U1))
 refine W_chk rfl ?_
 refine W_call (hB _ _ _ hel) ?_
 rintro _ rfl
 (repeat(with_reducible apply U1))
 unfold l26_4
 have hml:=memN_len (n:=x.es.length) (s:=E)
 rw[ivs_len]
 exact more_loopB (Ko:=fun ys130 yi131 yi132 yl133 yl134 yl135 yl136 yl137 yl138 yb139 yl140 yl141 yl142 yl143 yl144 yl145 yl146 yb147 yl148 yl149 yl150 yb151=>(K [(.agg [(.sl 1 yl148),(.sl 1 yl149),(.sl 1 yl150),(.bool yb151)]),(.str ys130),(.int .i64 yi131),(.int .i64 yi132),(.bool yb139),(.sl 1 yl141),(.sl 1 yl142),(.sl 1 yl143)])) (by omega) (W_ret ⟨E,C,T,_,_,_,rfl,i1,t2,q3⟩) k 0 (by omega) (by omega)
end
end Go.Proofs.YtnimfaaefdlepaaGreat.Vm
namespace Go.VM
def Asc(l:List Int):Prop:=l.Pairwise fun a b=>a<b
theorem mem_statesN{ns:List Nd}{a:Nat}{x:Int}(ha:a<ns.length):x∈statesN ns a↔∃(q:Nat) (m:Nd),x=q∧ns[q]? =some m∧m.parent=a∧m.kind≤3:=by
 unfold statesN
 rw[List.mem_filter,mem_kidsN]
 constructor
 ·rintro⟨⟨q,m,h1,h2,h3,_⟩,h4⟩
  refine⟨q,m,h1,h2,h3,?_⟩
  unfold isSt at h4
  rw[h1,Int.toNat_natCast,h2]at h4
  exact of_decide_eq_true h4
 ·rintro⟨q,m,h1,h2,h3,h4⟩
  refine⟨⟨q,m,h1,h2,h3,by omega,by omega⟩,?_⟩
  unfold isSt
  rw[h1,Int.toNat_natCast,h2]
  exact decide_eq_true h4
theorem kidsGo_asc{l:List Nd}{i:Int}:∀{m:Nat},Asc (kidsGo l i m)
 |0=>List.Pairwise.nil
 |m+1=>by
  unfold kidsGo
  refine List.pairwise_append.2 ⟨kidsGo_asc (m:=m),by split<;>simp,fun x hx y hy=> ?_⟩
  obtain⟨q,h1,h2,_⟩:=mem_kidsGo.1 hx
  split at hy
  ·rw[List.mem_singleton]at hy;omega
  ·simp at hy
theorem statesN_asc{ns:List Nd}{i:Int}:Asc (statesN ns i):=List.Pairwise.filter _ kidsGo_asc
theorem asc_one:∀{l:List Int} {x:Int},Asc l→x∈l→(l.filter fun y=>decide (y=x)).length=1
 | [],x,_,h=>by simp at h
 |a::r,x,h,hx=>by
  obtain⟨h1,h2⟩:=List.pairwise_cons.1 h
  rw[List.filter_cons]
  by_cases e:a=x
  ·rw[if_pos (decide_eq_true e),List.length_cons,List.filter_eq_nil_iff.2]
   ·rfl
   ·intro y hy
    have:=h1 y hy
    simp;omega
  ·rw[if_neg (by simpa using e)]
   rcases List.mem_cons.1 hx with h3|h3
   ·exact absurd h3.symm e
   ·exact asc_one h2 h3
theorem kid_in{ns:List Nd}(T:Tree ns){a k:Nat}{n m:Nd}(ha:ns[a]? =some n)(hk:ns[k]? =some m)(hp:m.parent=a):a<k∧(k:Int)≤n.last∧m.last≤n.last:=by
 have h0:=T.seg.par k m hk
 have h1:=T.seg.lam a k n m ha hk (by omega)
 have hal:=T.seg.last a n ha
 refine⟨by omega,by omega,?_⟩
 have hkl:=T.seg.last k m hk
 have key:∀d j:Nat,j<d→k≤j→(j:Int)≤m.last→(j:Int)≤n.last:=by
  intro d
  induction d with
  |zero=>intro j h;omega
  |succ d ih=>
   intro j hj h2 h3
   by_cases e:j=k
   ·subst e;omega
   ·obtain⟨x,hx⟩:∃x,ns[j]? =some x:=⟨_,List.getElem?_eq_getElem (by omega)⟩
    have l1:=T.seg.lam k j m x hk hx (by omega)
    have l2:=T.seg.lam a j n x ha hx (by omega)
    have l3:=T.seg.par j x hx
    have:=ih x.parent.toNat (by omega) (by omega) (by omega)
    omega
 have:=key (m.last.toNat+1) m.last.toNat (by omega) (by omega) (by omega)
 omega
theorem kid_apart{ns:List Nd}(T:Tree ns){a k k':Nat}{m m':Nd}(hk:ns[k]? =some m)(hp:m.parent=a)(hk':ns[k']? =some m')(hp':m'.parent=a)(h:k<k'):m.last<k':=by
 have l1:=T.seg.lam k k' m m' hk hk' h
 have l2:=T.seg.par k m hk
 omega
def EachS(ns:List Nd)(C:List Int)(x:Int):Prop:=
 ∃n,ns[x.toNat]? =some n∧n.kind≤3∧(n.kind=2→(andL (statesN ns x) C).length=1)∧(n.kind=3→∀y∈statesN ns x,y∈C)
def ParS(ns:List Nd)(C:List Int)(x:Int):Prop:=∀n,ns[x.toNat]? =some n→n.parent∈C
def AtomS(ns:List Nd)(C:List Int)(x:Int):Prop:=∃y∈C,atomAt ns y=true∧x∈chainN ns y
structure Sub (ns:List Nd) (a:Nat) (n:Nd) (C:List Int):Prop where
 head:(a:Int)∈C
 asc:Asc C
 rng:∀x∈C,(a:Int)≤x∧x≤n.last
 each:∀x∈C,EachS ns C x
 par:∀x∈C,x≠a→ParS ns C x
 atom:∀x∈C,AtomS ns C x
theorem each_more{ns:List Nd}{C D:List Int}{x:Int}(hx:x∈C)(h:EachS ns C x)(hsub:∀y∈C,y∈D)(hno:∀y∈statesN ns x,y∈D→y∈C):EachS ns D x:=by
 obtain⟨n,h1,h2,h3,h4⟩:=h
 refine⟨n,h1,h2,fun e=> ?_,fun e y hy=>hsub y (h4 e y hy)⟩
 rw[←h3 e,andL_eq,andL_eq]
 congr 1
 refine List.filter_congr fun y hy=> ?_
 by_cases hC:y∈C
 ·rw[hasL_iff.2 hC,hasL_iff.2 (hsub y hC)]
 ·unfold hasL;rw[decide_eq_false hC,decide_eq_false (fun h=>hC (hno y hy h))]
theorem atom_more{ns:List Nd}{C D:List Int}{x:Int}(h:AtomS ns C x)(hsub:∀y∈C,y∈D):AtomS ns D x:=by
 obtain⟨y,h1,h2⟩:=h;exact⟨y,hsub y h1,h2⟩
theorem atom_up{ns:List Nd}(T:Tree ns){C:List Int}{a k:Nat}{n m:Nd}(ha:ns[a]? =some n)(hk:ns[k]? =some m)(hp:m.parent=a)(h:AtomS ns C k):AtomS ns C a:=by
 obtain⟨y,h1,h2,h3⟩:=h
 refine⟨y,h1,h2,(chain_mem T (atomAt_iff.1 h2).2.1 h3).2.2 _ ?_⟩
 rw[chain_cons T (by omega) (by rw[Int.toNat_natCast];exact hk),hp]
 refine List.mem_cons_of_mem _ ?_
 rw[chain_cons T (by omega) (by rw[Int.toNat_natCast];exact ha)]
 exact List.mem_cons_self
theorem states_gt{ns:List Nd}(T:Tree ns){x y:Int}(h0:0≤x)(hy:y∈statesN ns x):x<y∧∃m,ns[y.toNat]? =some m∧m.parent=x:=by
 have hy':=(List.mem_filter.1 hy).1
 obtain⟨q,m,h1,h2,h3,_⟩:=mem_kidsN.1 hy'
 have:=T.seg.par q m h2
 exact⟨by omega,m,by rw[h1,Int.toNat_natCast];exact h2,h3⟩
theorem sub_atom{ns:List Nd}(T:Tree ns){a:Nat}{n:Nd}(ha:ns[a]? =some n)(hk:n.kind=1):Sub ns a n [(a:Int)]:=by
 have hal:=T.seg.last a n ha
 have hl:=Tree.lt ha
 refine⟨by simp,List.pairwise_singleton _ _,fun x hx=> ?_,fun x hx=> ?_,fun x hx h=>absurd (List.mem_singleton.1 hx) h,fun x hx=> ?_⟩
 ·rw[List.mem_singleton]at hx;omega
 ·rw[List.mem_singleton]at hx;subst hx
  exact⟨n,by rw[Int.toNat_natCast];exact ha,by omega,fun e=>by omega,fun e=>by omega⟩
 ·rw[List.mem_singleton]at hx;subst hx
  refine⟨a,by simp,atomAt_iff.2 ⟨by omega,by omega,n,by rw[Int.toNat_natCast];exact ha,hk⟩,?_⟩
  rw[chain_cons T (by omega) (by rw[Int.toNat_natCast];exact ha)];exact List.mem_cons_self
structure Par (ns:List Nd) (a:Nat) (A D:List Int):Prop where
 head:(a:Int)∈D
 asc:Asc D
 rng:∀x∈D,x=a∨∃(k:Nat) (m:Nd),(k:Int)∈A∧ns[k]? =some m∧m.parent=a∧(k:Int)≤x∧x≤m.last
 kids:∀k∈A,k∈D
 each:∀x∈D,x≠a→EachS ns D x
 par:∀x∈D,x≠a→ParS ns D x
 atom:∀x∈D,x≠a→AtomS ns D x
theorem par_nil{ns:List Nd}{a:Nat}:Par ns a [] [(a:Int)]:=
 ⟨by simp,List.pairwise_singleton _ _,fun x hx=>.inl (List.mem_singleton.1 hx),fun k hk=>by simp at hk,fun x hx h=>absurd (List.mem_singleton.1 hx) h,fun x hx h=>absurd (List.mem_singleton.1 hx) h,fun x hx h=>absurd (List.mem_singleton.1 hx) h⟩
theorem par_snoc{ns:List Nd}(T:Tree ns){a k:Nat}{m:Nd}{A C D:List Int}(hk:ns[k]? =some m)(hp:m.parent=a)(hlt:∀x∈A,x<k)(h:Par ns a A D)(hC:Sub ns k m C):Par ns a (A++[(k:Int)]) (D++C):=by
 have hak:a<k:=by have:=T.seg.par k m hk;omega
 have hml:=T.seg.last k m hk
 have hDk:∀x∈D,(0≤x∧x<k):=fun x hx=>by
  rcases h.rng x hx with rfl|⟨k',m',h1,h2,h3,h4,h5⟩
  ·omega
  ·have:=kid_apart T h2 h3 hk hp (by have:=hlt _ h1;omega)
   omega
 have hCk:∀x∈C,(k:Int)≤x∧x<ns.length:=fun x hx=>by have:=hC.rng x hx;omega
 have sD:∀y∈D,y∈D++C:=fun y h=>List.mem_append_left _ h
 have sC:∀y∈C,y∈D++C:=fun y h=>List.mem_append_right _ h
 refine⟨sD _ h.head,List.pairwise_append.2 ⟨h.asc,hC.asc,fun x hx y hy=> ?_⟩,fun x hx=> ?_,fun x hx=> ?_,fun x hx hne=> ?_,fun x hx hne=> ?_,fun x hx hne=> ?_⟩
 ·have:=hDk x hx;have:=hCk y hy;omega
 ·rcases List.mem_append.1 hx with hx|hx
  ·rcases h.rng x hx with e|⟨k',m',h1,h2,h3,h4,h5⟩
   ·exact .inl e
   ·exact .inr ⟨k',m',List.mem_append_left _ h1,h2,h3,h4,h5⟩
  ·have:=hC.rng x hx
   exact .inr ⟨k,m,by simp,hk,hp,this.1,this.2⟩
 ·rcases List.mem_append.1 hx with hx|hx
  ·exact sD _ (h.kids x hx)
  ·rw[List.mem_singleton]at hx;subst hx;exact sC _ hC.head
 ·rcases List.mem_append.1 hx with hx|hx
  ·refine each_more (C:=D) hx (h.each x hx hne) sD fun y hy hyD=> ?_
   rcases List.mem_append.1 hyD with hyD|hyC
   ·exact hyD
   ·exfalso
    obtain⟨g1,m2,g2,g3⟩:=states_gt T (hDk x hx).1 hy
    rcases h.rng x hx with e|⟨k',m',h1,h2,h3,h4,h5⟩
    ·exact hne e
    ·have l1:=T.seg.lam k' y.toNat m' m2 h2 g2 (by omega)
     have:=kid_apart T h2 h3 hk hp (by have:=hlt _ h1;omega)
     have:=hCk y hyC
     omega
  ·refine each_more (C:=C) hx (hC.each x hx) sC fun y hy hyD=> ?_
   rcases List.mem_append.1 hyD with hyD|hyC
   ·exfalso
    have:=hCk x hx
    obtain⟨g1,_⟩:=states_gt T (by omega) hy
    have:=hDk y hyD
    omega
   ·exact hyC
 ·rcases List.mem_append.1 hx with hx|hx
  ·exact fun n hn=>sD _ (h.par x hx hne n hn)
  ·by_cases e:x=k
   ·subst e
    intro n hn
    rw[Int.toNat_natCast,hk]at hn;cases hn
    rw[hp];exact sD _ h.head
   ·exact fun n hn=>sC _ (hC.par x hx e n hn)
 ·rcases List.mem_append.1 hx with hx|hx
  ·exact atom_more (h.atom x hx hne) sD
  ·exact atom_more (hC.atom x hx) sC
theorem par_rng{ns:List Nd}(T:Tree ns){a:Nat}{n:Nd}{A D:List Int}(ha:ns[a]? =some n)(h:Par ns a A D):∀x∈D,(a:Int)≤x∧x≤n.last:=by
 intro x hx
 have hal:=T.seg.last a n ha
 rcases h.rng x hx with rfl|⟨k,m,h1,h2,h3,h4,h5⟩
 ·omega
 ·have:=kid_in T ha h2 h3;omega
theorem sub_comp{ns:List Nd}(T:Tree ns){a k:Nat}{n m:Nd}{C:List Int}(ha:ns[a]? =some n)(hkd:n.kind=2)(hk:ns[k]? =some m)(hp:m.parent=a)(hm:m.kind≤3)(hC:Sub ns k m C):Sub ns a n ((a:Int)::C):=by
 have P:=par_snoc T hk hp (fun x hx=>by simp at hx) (par_nil (ns:=ns) (a:=a)) hC
 have hla:=Tree.lt ha
 have hkC:(k:Int)∈(a:Int)::C:=List.mem_cons_of_mem _ hC.head
 have hak:=(kid_in T ha hk hp).1
 refine⟨P.head,P.asc,par_rng T ha P,fun x hx=> ?_,P.par,fun x hx=> ?_⟩
 ·by_cases e:x=a
  ·subst e
   refine⟨n,by rw[Int.toNat_natCast];exact ha,by omega,fun _=> ?_,fun e=>by omega⟩
   have hks:(k:Int)∈statesN ns a:=(mem_statesN hla).2 ⟨k,m,rfl,hk,hp,hm⟩
   rw[andL_eq,←asc_one statesN_asc hks]
   congr 1
   refine List.filter_congr fun y hy=> ?_
   obtain⟨q,m2,rfl,g1,g2,g3⟩:=(mem_statesN hla).1 hy
   by_cases e:q=k
   ·subst e;rw[hasL_iff.2 hkC];simp
   ·have:(q:Int)∉(a:Int)::C:=by
     intro hm
     have gq:=T.seg.par q m2 g1
     rcases List.mem_cons.1 hm with h1|h1
     ·omega
     ·have h2:=hC.rng _ h1
      have:=kid_apart T hk hp g1 g2 (by omega)
      omega
    unfold hasL
    rw[decide_eq_false this,decide_eq_false (by omega)]
  ·exact P.each x hx e
 ·by_cases e:x=a
  ·subst e
   exact atom_up T ha hk hp (P.atom k hkC (by omega))
  ·exact P.atom x hx e
theorem sub_par{ns:List Nd}(T:Tree ns){a:Nat}{n:Nd}{D:List Int}(ha:ns[a]? =some n)(hkd:n.kind=3)(P:Par ns a (statesN ns a) D):Sub ns a n D:=by
 have hla:=Tree.lt ha
 refine⟨P.head,P.asc,par_rng T ha P,fun x hx=> ?_,P.par,fun x hx=> ?_⟩
 ·by_cases e:x=a
  ·subst e
   exact⟨n,by rw[Int.toNat_natCast];exact ha,by omega,fun e=>by omega,fun _=>P.kids⟩
  ·exact P.each x hx e
 ·by_cases e:x=a
  ·subst e
   obtain⟨m,h1,h2,h3⟩:=T.seg.first a n ha (.inr hkd)
   have h4:((a+1:Nat):Int)∈statesN ns a:=(mem_statesN hla).2 ⟨a+1,m,rfl,h1,by omega,h3⟩
   exact atom_up T ha h1 (by omega) (P.atom _ (P.kids _ h4) (by omega))
  ·exact P.atom x hx e
theorem filt_next:∀{l:List Int} {m:Nat},Asc l→l.filter (fun x=>decide (x<((m+1:Nat):Int)))=l.filter (fun x=>decide (x<(m:Int)))++if hasL l m then[(m:Int)]else[]
 | [],m,_=>by simp[hasL]
 |a::r,m,h=>by
  obtain⟨h1,h2⟩:=List.pairwise_cons.1 h
  have ih:=filt_next (m:=m) h2
  rw[List.filter_cons,List.filter_cons]
  by_cases e:a<(m:Int)
  ·rw[if_pos (decide_eq_true (by omega)),if_pos (decide_eq_true e),ih]
   have:hasL (a::r) m=hasL r m:=by
    unfold hasL
    by_cases hr:(m:Int)∈r
    ·rw[decide_eq_true hr,decide_eq_true (List.mem_cons_of_mem _ hr)]
    ·rw[decide_eq_false hr,decide_eq_false]
     intro hh
     rcases List.mem_cons.1 hh with h3|h3
     ·omega
     ·exact hr h3
   rw[this];rfl
  ·have nil1:∀b:Int,b≤m+1→(m:Int)≤a→r.filter (fun x=>decide (x<b))=[]:=fun b hb ha=>List.filter_eq_nil_iff.2 fun y hy=>by have:=h1 y hy;simp;omega
   rw[if_neg (show¬decide (a<(m:Int))=true by simp;omega),nil1 m (by omega) (by omega),nil1 ((m+1:Nat):Int) (by omega) (by omega)]
   by_cases e2:a=m
   ·subst e2
    rw[if_pos (decide_eq_true (show(m:Int)<((m+1:Nat):Int)by omega)),if_pos (hasL_iff.2 List.mem_cons_self)];rfl
   ·rw[if_neg (show¬decide (a<((m+1:Nat):Int))=true by simp;omega),if_neg]
    ·rfl
    ·intro hh
     rcases List.mem_cons.1 (hasL_iff.1 hh)with h3|h3
     ·omega
     ·have:=h1 _ h3;omega
theorem ofGo_asc{l:List Int}(h:Asc l)(h0:∀x∈l,0≤x):∀m:Nat,ofGo l m=l.filter fun x=>decide (x<(m:Int))
 |0=>by symm;exact List.filter_eq_nil_iff.2 fun y hy=>by have:=h0 y hy;simp;omega
 |m+1=>by rw[ofGo,ofGo_asc h h0 m,filt_next h]
theorem ofGo_self{l:List Int}{m:Nat}(h:Asc l)(h0:∀x∈l,0≤x∧x<m):ofGo l m=l:=by
 rw[ofGo_asc h (fun x hx=>(h0 x hx).1),List.filter_eq_self]
 intro x hx;exact decide_eq_true (h0 x hx).2
section
variable {ns : List Nd} {n : Nd} {C : List Int}
theorem sub_rng(T:Tree ns)(h0:ns[0]? =some n)(h:Sub ns 0 n C):∀x∈C,0≤x∧x<ns.length:=fun x hx=>by
 have:=h.rng x hx
 have:=T.seg.last 0 n h0
 omega
theorem sub_of(T:Tree ns)(hl:ns.length≤128)(h0:ns[0]? =some n)(h:Sub ns 0 n C):ofL C=C:=ofGo_self h.asc fun x hx=>by have:=sub_rng T h0 h x hx;omega
end
def anyN(ns:List Nd)(e:List Int)(k:Int):Bool:=e.any fun x=>inN ns x k
def regF(ns:List Nd)(dn:Int→List Int→List Int):List Int→List Int→List Int
 | [],e=>e
 |k::r,e=>regF ns dn r (if anyN ns e k then e else dn k e)
def dnF(ns:List Nd):Nat→Int→List Int→List Int
 |0,_,e=>e
 |f+1,s,e=>match ns[s.toNat]? with
  |some n=>if n.kind=2 then dnF ns f n.init (e++[s])else if n.kind=3 then regF ns (dnF ns f) (statesN ns s) (e++[s])else e++[s]
  |none=>e
def dnN(ns:List Nd)(s:Int)(e:List Int):List Int:=dnF ns (ns.length+1) s e
theorem regF_congr{ns:List Nd}{p q:Int→List Int→List Int}:∀{l:List Int} {e:List Int},(∀k∈l,∀e,p k e=q k e)→regF ns p l e=regF ns q l e
 | [],e,_=>rfl
 |k::r,e,h=>by
  rw[regF,regF,h k List.mem_cons_self,regF_congr fun j hj=>h j (List.mem_cons_of_mem _ hj)]
theorem dnF_at{ns:List Nd}{f:Nat}{a:Nat}{n:Nd}{e:List Int}(h:ns[a]? =some n):dnF ns (f+1) a e=if n.kind=2 then dnF ns f n.init (e++[(a:Int)])else if n.kind=3 then regF ns (dnF ns f) (statesN ns a) (e++[(a:Int)])else e++[(a:Int)]:=by
 show(match ns[((a:Nat):Int).toNat]? with|some n=>_|none=>_)=_
 rw[Int.toNat_natCast,h]
theorem init_at{ns:List Nd}(T:Tree ns){a:Nat}{n:Nd}(h:ns[a]? =some n)(hk:n.kind=2):n.init=((a+1:Nat):Int)∧∃m,ns[a+1]? =some m∧m.parent=a∧m.kind≤3∧m.last≤n.last:=by
 have h1:=T.seg.init a n h
 obtain⟨m,m1,m2,m3⟩:=T.seg.first a n h (.inl hk)
 rw[if_pos hk]at h1
 refine⟨by omega,m,m1,by omega,m3,?_⟩
 exact(kid_in T h m1 (by omega)).2.2
theorem dnF_same{ns:List Nd}(T:Tree ns):∀(f f':Nat) (a:Nat) (n:Nd) (e:List Int),ns[a]? =some n→n.last-a<f→n.last-a<f'→dnF ns f a e=dnF ns f' a e
 |0,f',a,n,e,h,h1,h2=>by have:=T.seg.last a n h;omega
 |f+1,0,a,n,e,h,h1,h2=>by have:=T.seg.last a n h;omega
 |f+1,f'+1,a,n,e,h,h1,h2=>by
  rw[dnF_at h,dnF_at h]
  split
  ·rename_i hk
   obtain⟨i1,m,m1,m2,m3,m4⟩:=init_at T h hk
   rw[i1]
   exact dnF_same T f f' (a+1) m _ m1 (by omega) (by omega)
  ·split
   ·refine regF_congr fun k hk e'=> ?_
    obtain⟨q,m,rfl,m1,m2,m3⟩:=(mem_statesN (Tree.lt h)).1 hk
    have:=kid_in T h m1 m2
    exact dnF_same T f f' q m e' m1 (by omega) (by omega)
   ·rfl
theorem dnN_at{ns:List Nd}(T:Tree ns){a:Nat}{n:Nd}{e:List Int}(h:ns[a]? =some n):dnN ns a e=if n.kind=2 then dnN ns n.init (e++[(a:Int)])else if n.kind=3 then regF ns (dnN ns) (statesN ns a) (e++[(a:Int)])else e++[(a:Int)]:=by
 have hl:=T.seg.last a n h
 have ha:=Tree.lt h
 unfold dnN
 rw[dnF_at h]
 split
 ·rename_i hk
  obtain⟨i1,m,m1,m2,m3,m4⟩:=init_at T h hk
  rw[i1]
  exact dnF_same T _ _ (a+1) m _ m1 (by omega) (by omega)
 ·split
  ·refine regF_congr fun k hk e'=> ?_
   obtain⟨q,m,rfl,m1,m2,m3⟩:=(mem_statesN (Tree.lt h)).1 hk
   have:=kid_in T h m1 m2
   exact dnF_same T _ _ q m e' m1 (by omega) (by omega)
  ·rfl
theorem regF_len{ns:List Nd}(T:Tree ns){dn:Int→List Int→List Int}{a:Nat}{n:Nd}(ha:ns[a]? =some n)(hd:∀(q:Nat) (m:Nd),ns[q]? =some m→m.parent=a→m.kind≤3→∀e,(dn q e).length≤e.length+(m.last-q+1).toNat):
 ∀(l:List Int) (lo:Int) (e:List Int),(∀k∈l,k∈statesN ns a∧lo≤k)→Asc l→lo≤n.last+1→(regF ns dn l e).length≤e.length+(n.last+1-lo).toNat
 | [],lo,e,_,_,h=>by rw[regF];omega
 |k::r,lo,e,hl,hA,h=>by
  obtain⟨hk,hlo⟩:=hl k List.mem_cons_self
  obtain⟨q,m,rfl,m1,m2,m3⟩:=(mem_statesN (Tree.lt ha)).1 hk
  have h1:=hd q m m1 m2 m3 e
  have h2:=kid_in T ha m1 m2
  have h3:=T.seg.last q m m1
  obtain⟨a1,a2⟩:=List.pairwise_cons.1 hA
  have ih:=regF_len T ha hd r (m.last+1) (if anyN ns e q then e else dn q e) (fun j hj=> ?_) a2 (by omega)
  ·rw[regF]
   refine Nat.le_trans ih ?_
   split<;>omega
  ·have hj2:=(hl j (List.mem_cons_of_mem _ hj)).1
   obtain⟨q',m',rfl,g1,g2,g3⟩:=(mem_statesN (Tree.lt ha)).1 hj2
   have:=a1 _ hj
   have:=kid_apart T m1 m2 g1 g2 (by omega)
   exact⟨hj2,by omega⟩
theorem dnN_len{ns:List Nd}(T:Tree ns):∀(f:Nat) (a:Nat) (n:Nd) (e:List Int),ns[a]? =some n→n.last-a<f→(dnN ns a e).length≤e.length+(n.last-a+1).toNat
 |0,a,n,e,h,h1=>by have:=T.seg.last a n h;omega
 |f+1,a,n,e,h,h1=>by
  have hl:=T.seg.last a n h
  rw[dnN_at T h]
  split
  ·rename_i hk
   obtain⟨i1,m,m1,m2,m3,m4⟩:=init_at T h hk
   rw[i1]
   have:=dnN_len T f (a+1) m (e++[(a:Int)]) m1 (by omega)
   rw[List.length_append,List.length_singleton]at this
   have:=T.seg.last (a+1) m m1
   omega
  ·split
   ·have:=regF_len T h (dn:=dnN ns) (fun q m m1 m2 m3 e=>by
     have:=kid_in T h m1 m2
     exact dnN_len T f q m e m1 (by omega)) (statesN ns a) (a+1) (e++[(a:Int)]) (fun k hk=>⟨hk,by
      have:=(states_gt T (by omega) hk).1
      omega⟩) statesN_asc (by omega)
    rw[List.length_append,List.length_singleton]at this
    omega
   ·rw[List.length_append,List.length_singleton];omega
theorem dnN_le{ns:List Nd}(T:Tree ns){a:Nat}{n:Nd}{e:List Int}(h:ns[a]? =some n):(dnN ns a e).length≤e.length+ns.length:=by
 have:=dnN_len T (n.last-a+1).toNat a n e h (by have:=T.seg.last a n h;omega)
 have:=T.seg.last a n h
 omega
def Free(ns:List Nd)(a:Nat)(n:Nd)(e:List Int):Prop:=∀x∈e,x<(a:Int)∨n.last<x
theorem any_free{ns:List Nd}{a:Nat}{n:Nd}{e:List Int}(h:ns[a]? =some n)(hf:Free ns a n e):anyN ns e a=false:=by
 unfold anyN
 rw[List.any_eq_false]
 intro x hx
 unfold inN
 rw[Int.toNat_natCast,h]
 have:=hf x hx
 simp only[Bool.and_eq_true,decide_eq_true_eq]
 omega
theorem reg_sub{ns:List Nd}(T:Tree ns){a:Nat}{n:Nd}(ha:ns[a]? =some n)
 (hd:∀(q:Nat) (m:Nd),ns[q]? =some m→m.parent=a→m.kind≤3→∀e,Free ns q m e→∃C,dnN ns q e=e++C∧Sub ns q m C) {e:List Int} (he:Free ns a n e):
 ∀(r A D:List Int),statesN ns a=A++r→Par ns a A D→∃D',regF ns (dnN ns) r (e++D)=e++D'∧Par ns a (statesN ns a) D'
 | [],A,D,hA,hP=>⟨D,rfl,by rw[hA,List.append_nil];exact hP⟩
 |k::r,A,D,hA,hP=>by
  have hk:k∈statesN ns a:=by rw[hA];simp
  obtain⟨q,m,rfl,m1,m2,m3⟩:=(mem_statesN (Tree.lt ha)).1 hk
  have hki:=kid_in T ha m1 m2
  have hS:Asc (A++(q:Int)::r):=by rw[←hA];exact statesN_asc
  have hlt:∀x∈A,x<(q:Int):=fun x hx=>(List.pairwise_append.1 hS).2.2 x hx _ List.mem_cons_self
  have hfr:Free ns q m (e++D):=fun x hx=>by
   rcases List.mem_append.1 hx with hx|hx
   ·have:=he x hx;omega
   ·rcases hP.rng x hx with h|⟨k',m',hk',g1,g2,g3,g4⟩
    ·omega
    ·have:=hlt _ hk'
     have:=kid_apart T g1 g2 m1 m2 (by omega)
     omega
  obtain⟨C,c1,c2⟩:=hd q m m1 m2 m3 (e++D) hfr
  obtain⟨D',d1,d2⟩:=reg_sub T ha hd he r (A++[(q:Int)]) (D++C) (by rw[hA];simp) (par_snoc T m1 m2 hlt hP c2)
  refine⟨D',?_,d2⟩
  rw[regF,any_free m1 hfr,if_neg (by simp),c1,List.append_assoc]
  exact d1
theorem dnN_sub{ns:List Nd}(T:Tree ns):∀(f:Nat) (a:Nat) (n:Nd) (e:List Int),ns[a]? =some n→n.kind≤3→n.last-a<f→Free ns a n e→∃C,dnN ns a e=e++C∧Sub ns a n C
 |0,a,n,e,h,_,h1,_=>by have:=T.seg.last a n h;omega
 |f+1,a,n,e,h,h3,h1,hf=>by
  have hl:=T.seg.last a n h
  have hkinds:=T.seg.kinds a n h
  rw[dnN_at T h]
  split
  ·rename_i hk
   obtain⟨i1,m,m1,m2,m3,m4⟩:=init_at T h hk
   rw[i1]
   obtain⟨C,c1,c2⟩:=dnN_sub T f (a+1) m (e++[(a:Int)]) m1 m3 (by omega) (fun x hx=>by
    rcases List.mem_append.1 hx with hx|hx
    ·have:=hf x hx;omega
    ·rw[List.mem_singleton]at hx;omega)
   refine⟨(a:Int)::C,by rw[c1,List.append_assoc];rfl,sub_comp T h hk m1 m2 m3 c2⟩
  ·split
   ·rename_i hk
    obtain⟨D,d1,d2⟩:=reg_sub T h (fun q m m1 m2 m3 e he=>by
     have:=kid_in T h m1 m2
     exact dnN_sub T f q m e m1 m3 (by omega) he) hf (statesN ns a) [] [(a:Int)] rfl par_nil
    exact⟨D,d1,sub_par T h hk d2⟩
   ·exact⟨_,rfl,sub_atom T h (by omega)⟩
theorem begin_sub{ns:List Nd}(T:Tree ns){n:Nd}(h:ns[0]? =some n):Sub ns 0 n (dnN ns 0 []):=by
 obtain⟨C,c1,c2⟩:=dnN_sub T (n.last+1).toNat 0 n [] h (by have:=T.root n h;omega) (by have:=T.seg.last 0 n h;omega) (fun x hx=>by cases hx)
 rw[show dnN ns 0 []=C from c1]
 exact c2
end Go.VM
namespace Go.Proofs.YtnimfaaefdlepaaGreat.Vm
section
variable {R : Type} {G : ORC R} {k : Nat} {K : LV → OV R} {Q : LV → Prop}
def AnyOK(G:ORC R):Prop:=∀(ns:List Nd) (s:Int) (hv:LV) (e:List Int) (K:LV→OV R),e.length≤9900→
 W (fun o=>o=[.bool (anyN ns e s),.sl 1 (ivs e)]) K (G 110 [.int .i64 s,.sl 7 (ns.map Nd.v),.sl 1 hv,.sl 1 (ivs e)] K)
theorem any_snoc{ns:List Nd}{s x:Int}{e:List Int}:anyN ns (e++[x]) s=(anyN ns e s||inN ns x s):=by unfold anyN;rw[List.any_append];simp
theorem any_loop(hI:InOK G){Ko:LV→LV→LV→OV R}{Kr:Bool→LV→LV→LV→OV R}{ns:List Nd}{s:Int}{hv:LV}{e:List Int}(hl:e.length≤9900)
 (hKo:anyN ns e s=false→W Q K (Ko (ns.map Nd.v) hv (ivs e))) (hKr:anyN ns e s=true→W Q K (Kr true (ns.map Nd.v) hv (ivs e))):
 ∀(j m:Nat),e.length-m<j→m≤e.length→anyN ns (e.take m) s=false→W Q K (l110_0g G k Ko Kr j s m (ns.map Nd.v) hv (ivs e))
 |0,m,h1,h2,h3=>by omega
 |j+1,m,h1,h2,h3=>by
  show W Q K (b110_0 G k (l110_0g G k Ko Kr j) Ko Kr s m (ns.map Nd.v) hv (ivs e))
  unfold b110_0
  refine W_dec (fun h=> ?_) (fun h=>by rw[ivs_len]at h;rw[List.take_of_length_le (by omega)]at h3;exact hKo h3)
  rw[ivs_len]at h
  obtain⟨x,hx⟩:=get_ex (l:=e) (m:=m) (by omega)
  refine W_at (by omega) (ivs_atZ hx) (W_aI ?_)
  have hI':=hI
  unfold InOK at hI'
  refine W_call (hI' _ _ _ _) ?_
  rintro _ rfl
  (repeat(with_reducible apply U1))
  have hs:=any_snoc (ns:=ns) (s:=s) (x:=x) (e:=e.take m)
  rw[←take_snoc hx,h3,Bool.false_or]at hs
  refine W_bool (fun hb=>hKr ?_) (fun hb=> ?_)
  ·unfold anyN
   exact List.any_eq_true.2 ⟨x,List.mem_of_getElem? hx,hb⟩
  ·rw[wrap_id (n:=(m:Int)+1) (by omega)]
   exact any_loop hI hl hKo hKr j (m+1) (by omega) (by omega) (by rw[hs,hb])
theorem any_ok(hk:10000≤k)(hI:InOK G):AnyOK (fun _ args (K:LV→OV R)=>g110 G k args K):=by
 intro ns s hv e K hl
 show W _ K (f110 G k s (ns.map Nd.v) hv (ivs e) K)
 unfold f110 l110_0
 exact any_loop (Q:=fun o=>o=[.bool (anyN ns e s),.sl 1 (ivs e)]) (Ko:=fun _ _ y=>K [.bool false,.sl 1 y]) (Kr:=fun b _ _ y=>K [.bool b,.sl 1 y]) hI hl (fun h=>W_ret (by rw[h])) (fun h=>W_ret (by rw[h])) k 0 (by omega) (by omega) rfl
def DnOK(d:Nat)(G:ORC R):Prop:=∀(ns:List Nd) (a:Nat) (n:Nd) (hv:LV) (e:List Int) (K:LV→OV R),Tree ns→ns.length≤100→ns[a]? =some n→n.kind≤3→n.last-a<d→e.length+(n.last-a+1).toNat≤9700→
 W (fun o=>o=[.sl 1 (ivs (dnN ns a e))]) K (G 86 [.int .i64 a,.sl 7 (ns.map Nd.v),.sl 1 hv,.sl 1 (ivs e)] K)
def RegOK(d:Nat)(G:ORC R):Prop:=∀(ns:List Nd) (a:Nat) (n:Nd) (hv:LV) (e:List Int) (K:LV→OV R),Tree ns→ns.length≤100→ns[a]? =some n→n.last-a≤d→e.length+(n.last-a).toNat≤9700→
 W (fun o=>o=[.sl 1 (ivs (regF ns (dnN ns) (statesN ns a) e))]) K (G 100 [.int .i64 a,.sl 7 (ns.map Nd.v),.sl 1 hv,.sl 1 (ivs e)] K)
theorem reg_loop{d:Nat}(hA:AnyOK G)(hD:DnOK d G){Ko:LV→LV→LV→OV R}{ns:List Nd}{a:Nat}{n:Nd}{hv:LV}(T:Tree ns)(hl:ns.length≤100)(ha:ns[a]? =some n)(hd:n.last-a≤d){D:List Int}:
 ∀(j m:Nat) (e:List Int) (lo:Int),(statesN ns a).length-m<j→m≤(statesN ns a).length→(∀k∈(statesN ns a).drop m,lo≤k)→a<lo→e.length+(n.last+1-lo).toNat≤9700→D=regF ns (dnN ns) ((statesN ns a).drop m) e→
  W Q K (Ko (ns.map Nd.v) hv (ivs D))→W Q K (l100_0g G k Ko j (ivs (statesN ns a)) m (ns.map Nd.v) hv (ivs e))
 |0,m,e,lo,h1,h2,h3,h4,h5,h6,hKo=>by omega
 |j+1,m,e,lo,h1,h2,h3,h4,h5,h6,hKo=>by
  show W Q K (b100_0 G k (l100_0g G k Ko j) Ko (ivs (statesN ns a)) m (ns.map Nd.v) hv (ivs e))
  unfold b100_0
  have hsl:(statesN ns a).length≤ns.length:=statesN_len
  refine W_dec (fun h=> ?_) (fun h=>by
   rw[ivs_len]at h
   rw[List.drop_of_length_le (by omega)]at h6
   rw[show D=e from h6]at hKo
   exact hKo)
  rw[ivs_len]at h
  obtain⟨x,hx⟩:=get_ex (l:=statesN ns a) (m:=m) (by omega)
  have hdr:(statesN ns a).drop m=x::(statesN ns a).drop (m+1):=by
   obtain⟨hm,e1⟩:=List.getElem?_eq_some_iff.1 hx
   rw[List.drop_eq_getElem_cons hm,e1]
  obtain⟨q,m2,rfl,g1,g2,g3⟩:=(mem_statesN (Tree.lt ha)).1 (List.mem_of_getElem? hx)
  have hki:=kid_in T ha g1 g2
  have hql:=T.seg.last q m2 g1
  have hlo:=h3 q (by rw[hdr];exact List.mem_cons_self)
  have hnext:∀k∈(statesN ns a).drop (m+1),m2.last+1≤k:=fun k hk=>by
   have hA:Asc ((statesN ns a).drop m):=List.Pairwise.sublist (List.drop_sublist _ _) statesN_asc
   rw[hdr]at hA
   have h7:=(List.pairwise_cons.1 hA).1 k hk
   obtain⟨q',m',rfl,k1,k2,k3⟩:=(mem_statesN (Tree.lt ha)).1 (List.mem_of_mem_drop hk)
   have:=kid_apart T g1 g2 k1 k2 (by omega)
   omega
  rw[hdr,regF]at h6
  refine W_at (by omega) (ivs_atZ hx) (W_aI ?_)
  have hA':=hA
  have hD':=hD
  unfold AnyOK at hA';unfold DnOK at hD'
  refine W_call (hA' _ _ _ _ _ (by omega)) ?_
  rintro _ rfl
  (repeat(with_reducible apply U1))
  have next:∀e':List Int,e'.length≤e.length+(m2.last-q+1).toNat→D=regF ns (dnN ns) ((statesN ns a).drop (m+1)) e'→W Q K (l100_0g G k Ko j (ivs (statesN ns a)) (IntKind.i64.wrap ((m:Int)+1)) (ns.map Nd.v) hv (ivs e')):=fun e' q1 q2=>by
   rw[wrap_id (n:=(m:Int)+1) (by omega)]
   exact reg_loop hA hD T hl ha hd j (m+1) e' (m2.last+1) (by omega) (by omega) hnext (by omega) (by omega) q2 hKo
  refine W_not (W_bool (fun hb=> ?_) (fun hb=> ?_))
  ·rw[hb,if_pos rfl]at h6
   exact next e (by omega) h6
  ·rw[hb,if_neg (by simp)]at h6
   refine W_at (by omega) (ivs_atZ hx) (W_aI ?_)
   refine W_call (hD' ns q m2 hv e _ T hl g1 g3 (by omega) (by omega)) ?_
   rintro _ rfl
   (repeat(with_reducible apply U1))
   exact next _ (dnN_len T (m2.last-q+1).toNat q m2 e g1 (by omega)) h6
theorem reg_ok{d:Nat}(hk:10000≤k)(hS:StatesOK G)(hA:AnyOK G)(hD:DnOK d G):RegOK d (fun _ args (K:LV→OV R)=>g100 G k args K):=by
 intro ns a n hv e K T hl ha hd he
 show W _ K (f100 G k a (ns.map Nd.v) hv (ivs e) K)
 unfold f100
 unfold StatesOK at hS
 refine W_call (hS _ _ _ (by omega)) ?_
 rintro _ rfl
 (repeat(with_reducible apply U1))
 unfold l100_0
 have hsl:(statesN ns a).length≤ns.length:=statesN_len
 have hal:=T.seg.last a n ha
 exact reg_loop (Q:=fun o=>o=[.sl 1 (ivs (regF ns (dnN ns) (statesN ns a) e))]) (Ko:=fun _ _ y=>K [.sl 1 y]) hA hD T hl ha hd k 0 e (a+1) (by omega) (by omega) (fun k hk=>by
  have:=(states_gt T (by omega) (List.mem_of_mem_drop hk)).1
  omega) (by omega) (by omega) rfl (W_ret rfl)
theorem dn_ok{d:Nat}(hIs:IsStOK G)(hD:∀d',d=d'+1→DnOK d' G∧RegOK d' G):DnOK d (fun _ args (K:LV→OV R)=>g86 G k args K):=by
 intro ns a n hv e K T hl ha h3 hd he
 show W _ K (f86 G k a (ns.map Nd.v) hv (ivs e) K)
 have hal:=T.seg.last a n ha
 have hla:=Tree.lt ha
 cases d with
 |zero=>omega
 |succ d=>
 obtain⟨hD,hR⟩:=hD d rfl
 unfold f86
 unfold IsStOK at hIs;unfold DnOK at hD;unfold RegOK at hR
 have hat:(ns.map Nd.v)[((a:Nat):Int).toNat]? =some n.v:=by rw[Int.toNat_natCast];exact nd_get ha
 rw[dnN_at T ha]
 refine W_at (by omega) hat (W_asAgg ?_)
 refine W_call (hIs n _) ?_
 rintro _ rfl
 (repeat(with_reducible apply U1))
 refine W_not (W_chk (decide_eq_true h3) ?_)
 refine W_yes (by rw[ivs_len];omega) ?_
 have es:ivs e++[V.int .i64 (a:Int)]=ivs (e++[(a:Int)]):=by rw[ivs_app];rfl
 have el:(e++[(a:Int)]).length=e.length+1:=by simp
 rw[es]
 refine W_at (by omega) hat (W_nd7 (W_aI ?_))
 refine W_beqI (fun hk=> ?_) (fun hk=> ?_)
 ·obtain⟨i1,m,m1,m2,m3,m4⟩:=init_at T ha hk
  refine W_at (by omega) hat (W_nd7 (W_aI ?_))
  rw[if_pos hk,i1]
  refine W_call (hD ns (a+1) m hv _ _ T hl m1 m3 (by omega) (by omega)) ?_
  rintro _ rfl
  (repeat(with_reducible apply U1))
  refine W_at (by omega) hat (W_nd7 (W_aI ?_))
  exact W_eqN (by omega) (W_ret rfl)
 ·refine W_at (by omega) hat (W_nd7 (W_aI ?_))
  rw[if_neg hk]
  refine W_beqI (fun h4=> ?_) (fun h4=> ?_)
  ·rw[if_pos h4]
   refine W_call (hR ns a n hv _ _ T hl ha (by omega) (by omega)) ?_
   rintro _ rfl
   (repeat(with_reducible apply U1))
   exact W_ret rfl
  ·rw[if_neg h4]
   exact W_ret rfl
end
section
variable {R : Type} {G : ORC R} {k : Nat} {K : LV → OV R}
def OfOK(G:ORC R):Prop:=∀(l:List Int) (K:LV→OV R),l.length≤9000→W (fun o=>o=[.sl 1 (ivs (ofL l))]) K (G 87 [.sl 1 (ivs l)] K)
theorem of_loop(hH:HasOK G){Q:LV→Prop}{K:LV→OV R}{Ko:LV→OV R}{l:List Int}(hl:l.length≤9000)(hKo:W Q K (Ko (ivs (ofL l)))):
 ∀(j m:Nat),128-m<j→m≤128→W Q K (l87_0g G k Ko j (ivs l) (ivs (ofGo l m)) m)
 |0,m,h1,h2=>by omega
 |j+1,m,h1,h2=>by
  show W Q K (b87_0 G k (l87_0g G k Ko j) Ko (ivs l) (ivs (ofGo l m)) m)
  unfold b87_0
  refine W_dec (fun h=> ?_) (fun h=>by rw[show m=128 by omega];exact hKo)
  unfold HasOK at hH
  refine W_call (hH _ _ _ hl) ?_
  rintro _ rfl
  (repeat(with_reducible apply U1))
  have hgl:=ofGo_len (l:=l) (m:=m)
  have next:∀a,a=ivs (ofGo l (m+1))→W Q K (l87_0g G k Ko j (ivs l) a (IntKind.i64.wrap ((m:Int)+1))):=fun a ha=>by
   rw[wrap_id (n:=(m:Int)+1) (by omega),ha]
   exact of_loop hH hl hKo j (m+1) (by omega) (by omega)
  refine W_bool (fun hb=>W_yes (by rw[ivs_len];omega) (next _ (by rw[ofGo,hb];simp[ivs]))) (fun hb=>next _ (by rw[ofGo,hb];simp))
theorem of_ok(hk:10000≤k)(hH:HasOK G):OfOK (fun _ args (K:LV→OV R)=>g87 G k args K):=by
 intro l K hl
 show W _ K (f87 G k (ivs l) K)
 unfold f87 l87_0
 exact of_loop (Q:=fun o=>o=[.sl 1 (ivs (ofL l))]) (K:=K) (Ko:=fun x=>K [.sl 1 x]) hH hl (W_ret rfl) k 0 (by omega) (by omega)
end
section
variable {R : Type} {G : ORC R} {k : Nat} {K : LV → OV R} {Q : LV → Prop}
def RBegOK(G:ORC R):Prop:=∀(ns:List Nd) (K:LV→OV R),Tree ns→ns.length≤100→W (fun o=>o=[.sl 1 (ivs (dnN ns 0 []))]) K (G 65 [.sl 7 (ns.map Nd.v)] K)
theorem rbeg_ok(hD:DnOK 200 G)(hO:OfOK G):RBegOK (fun _ args (K:LV→OV R)=>g65 G k args K):=by
 intro ns K T hl
 show W _ K (f65 G k (ns.map Nd.v) K)
 unfold f65
 unfold DnOK at hD;unfold OfOK at hO
 have hpos:=T.pos
 obtain⟨n,hn⟩:∃n,ns[0]? =some n:=⟨_,List.getElem?_eq_getElem (by omega)⟩
 have hr:=T.root n hn
 refine W_call (hD ns 0 n [] [] _ T hl hn (by omega) (by omega) (by simp;omega)) ?_
 rintro _ rfl
 (repeat(with_reducible apply U1))
 have hlen:=dnN_le T (e:=[]) hn
 refine W_call (hO _ _ (by rw[List.length_nil]at hlen;omega)) ?_
 rintro _ rfl
 (repeat(with_reducible apply U1))
 rw[show(((0:Nat):Int))=0 from rfl,sub_of T (by omega) hn (begin_sub T hn)]
 exact W_ret rfl
end
end Go.Proofs.YtnimfaaefdlepaaGreat.Vm
namespace Go.VM
def InP(ns:List Nd)(p:Nat)(q:Nd)(x:Int):Prop:=∃(k:Nat) (m:Nd),x=k∧ns[k]? =some m∧m.kind≤3∧(p:Int)<k∧(k:Int)≤q.last
theorem drop_at{α:Type}{l:List α}{m:Nat}{x:α}(h:l[m]? =some x):l.drop m=x::l.drop (m+1):=by
 obtain⟨hm,e1⟩:=List.getElem?_eq_some_iff.1 h
 rw[List.drop_eq_getElem_cons hm,e1]
theorem nd_atZ{ns:List Nd}{i:Nat}{n:Nd}(h:ns[i]? =some n):(ns.map Nd.v)[((i:Nat):Int).toNat]? =some n.v:=by rw[Int.toNat_natCast];exact nd_get h
theorem inN_rng{ns:List Nd}{x y:Int}(h:inN ns x y=true):0≤x∧x<ns.length∧0≤y∧y<ns.length∧y≤x:=by
 unfold inN at h
 simp only[Bool.and_eq_true,decide_eq_true_eq]at h
 omega
theorem InP.nd{ns:List Nd}{p:Nat}{q:Nd}{x:Int}(h:InP ns p q x):∃(k:Nat) (n:Nd),x=k∧ns[k]? =some n:=by
 obtain⟨k,m,e,h1,_⟩:=h;exact⟨k,m,e,h1⟩
def RngL(ns:List Nd)(e:List Int):Prop:=∀x∈e,0≤x∧x<ns.length
end Go.VM
namespace Go.Proofs.YtnimfaaefdlepaaGreat.Vm
section
variable {R : Type} {G : ORC R} {k : Nat} {K : LV → OV R}
theorem ckids_loop(hI:CIsOK G){Q:LV→Prop}{K:LV→OV R}{Ko:LV→OV R}{l:List Nd}{i:Int}(hl:l.length≤1000)(hKo:W Q K (Ko (ivs (kidsN l i)))):
 ∀(j m:Nat),l.length-m<j→m≤l.length→W Q K (l107_0g G k Ko j (l.map Nd.v) i (ivs (kidsGo l i m)) (l.map Nd.v) l.length m)
 |0,m,h1,h2=>by omega
 |j+1,m,h1,h2=>by
  show W Q K (b107_0 G k (l107_0g G k Ko j) Ko (l.map Nd.v) i (ivs (kidsGo l i m)) (l.map Nd.v) l.length m)
  unfold b107_0
  have hgl:=kidsGo_len (l:=l) (i:=i) (m:=m)
  have hKo':¬(m:Int)<l.length→W Q K (Ko (ivs (kidsGo l i m))):=fun h=>by
   rw[show m=l.length by omega];exact hKo
  refine W_dec (fun h=> ?_) hKo'
  simp only[List.length_map]
  refine W_and (W_yes (by omega) (W_yes (by omega) ?_))
  refine W_nthN (by omega) (fun n hn=> ?_)
  rw[Int.toNat_natCast]at hn
  unfold Nd.v
  (repeat(with_reducible apply U1))
  unfold CIsOK at hI
  refine W_call (hI _ _ _) ?_
  rintro _ rfl
  (repeat(with_reducible apply U1))
  simp only[List.length_map]
  have next:∀a,a=ivs (kidsGo l i (m+1))→W Q K (l107_0g G k Ko j (l.map Nd.v) i a (l.map Nd.v) l.length (IntKind.i64.wrap ((m:Int)+1))):=fun a ha=>by
   rw[wrap_id (n:=(m:Int)+1) (by omega),ha]
   exact ckids_loop hI hl hKo j (m+1) (by omega) (by omega)
  have hk:isK l i m=(decide (0≤i∧i<l.length)&&decide (n.parent=i)):=by unfold isK;rw[hn]
  refine W_dec (fun hi=> ?_) (fun hi=>next _ (by rw[kidsGo,hk,decide_eq_false hi];simp))
  refine W_beqI (fun hp=> ?_) (fun hp=>next _ (by rw[kidsGo,hk,decide_eq_false hp];simp))
  refine W_yes (by rw[ivs_len];omega) (next _ (by rw[kidsGo,hk,decide_eq_true hi,decide_eq_true hp];simp[ivs]))
theorem ckids_ok(hk:10000≤k)(hI:CIsOK G):KidsOK 107 (fun _ args (K:LV→OV R)=>g107 G k args K):=by
 intro l i K hl
 show W _ K (f107 G k (l.map Nd.v) i K)
 unfold f107 l107_0
 simp only[List.length_map]
 exact ckids_loop (Q:=fun o=>o=[.sl 1 (ivs (kidsN l i))]) (K:=K) (Ko:=fun x=>K [.sl 1 x]) hI hl (W_ret rfl) k 0 (by omega) (by omega)
end
section
variable {R : Type} {G : ORC R} {k : Nat} {K : LV → OV R} {Q : LV → Prop}
def HstX(G:ORC R):Prop:=∀(n:Nd) (K:LV→OV R),W (fun o=>o=[.bool (decide (n.kind=4∨n.kind=5))]) K (G 82 [n.v] K)
theorem hst_ok:HstX (fun _ args (K:LV→OV R)=>g82 G k args K):=by
 intro n K
 show W _ K (f82 G k n.kind n.parent n.last n.init n.entry n.exit n.name K)
 unfold f82
 refine W_beqI (fun h=>W_ret (by simp[h])) (fun h=>W_ret ?_)
 by_cases h5:n.kind=5
 ·simp[h5]
 ·simp[h,h5]
def hsB(ns:List Nd)(x:Int):Bool:=match ns[x.toNat]? with
 |some n=>decide (n.kind=4∨n.kind=5)
 |none=>false
def OkL(ns:List Nd)(l:List Int):Prop:=∀x∈l,0≤x∧x<ns.length
def ClsX(G:ORC R):Prop:=∀(ns:List Nd) (x:Int) (K:LV→OV R),0≤x→x<ns.length→W (fun o=>o=[.bool (hsB ns x)]) K (G 108 [.int .i64 x,.sl 7 (ns.map Nd.v)] K)
theorem cls_ok(hH:HstX G):ClsX (fun _ args (K:LV→OV R)=>g108 G k args K):=by
 intro ns x K h0 h1
 show W _ K (f108 G k x (ns.map Nd.v) K)
 unfold f108
 obtain⟨n,hn⟩:∃n,ns[x.toNat]? =some n:=⟨_,List.getElem?_eq_getElem (by omega)⟩
 have hv:(ns.map Nd.v)[x.toNat]? =some n.v:=nd_get hn
 have e:hsB ns x=decide (n.kind=4∨n.kind=5):=by unfold hsB;rw[hn]
 unfold HstX at hH
 refine W_at h0 hv (W_nd ?_)
 refine W_call (hH n _) ?_
 rintro _ rfl
 (repeat(with_reducible apply U1))
 exact W_ret (by rw[e])
def IdxX(G:ORC R):Prop:=∀(ns:List Nd) (l:List Int) (K:LV→OV R),OkL ns l→l.length≤1000→
 W (fun o=>∃i:Int,o=[.int .i64 i]∧((i= -1∧∀x∈l,hsB ns x=false)∨∃(p:Nat) (x:Int),i=p∧l[p]? =some x∧hsB ns x=true∧∀y∈l.take p,hsB ns y=false)) K (G 65648 [.sl 1 (ivs l),.sl 7 (ns.map Nd.v)] K)
theorem idx_loop(hC:ClsX G){Ko:LV→OV R}{Kr:Int→LV→OV R}{ns:List Nd}{l:List Int}(hl:OkL ns l)(hll:l.length≤1000)(hKo:(∀x∈l,hsB ns x=false)→W Q K (Ko (ns.map Nd.v)))
 (hKr:∀(p:Nat) (x:Int),l[p]? =some x→hsB ns x=true→(∀y∈l.take p,hsB ns y=false)→W Q K (Kr p (ns.map Nd.v))):
 ∀(j i:Nat),l.length-i<j→i≤l.length→(∀y∈l.take i,hsB ns y=false)→W Q K (l65648_0g G k Ko Kr j (ivs l) l.length i (ns.map Nd.v))
 |0,i,h1,h2,h3=>by omega
 |j+1,i,h1,h2,h3=>by
  show W Q K (b65648_0 G k (l65648_0g G k Ko Kr j) Ko Kr (ivs l) l.length i (ns.map Nd.v))
  unfold b65648_0
  refine W_dec (fun h=> ?_) (fun h=>hKo (by rw[List.take_of_length_le (by omega)]at h3;exact h3))
  obtain⟨x,hx⟩:=get_ex (l:=l) (m:=i) (by omega)
  obtain⟨x0,x1⟩:=hl x (List.mem_of_getElem? hx)
  refine W_at (by omega) (ivs_atZ hx) (W_aI ?_)
  have hC':=hC
  unfold ClsX at hC'
  refine W_call (hC' ns x _ x0 x1) ?_
  rintro _ rfl
  (repeat(with_reducible apply U1))
  refine W_bool (fun hb=>hKr i x hx hb h3) (fun hb=> ?_)
  rw[wrap_id (n:=(i:Int)+1) (by omega)]
  refine idx_loop hC hl hll hKo hKr j (i+1) (by omega) (by omega) fun y hy=> ?_
  rw[take_snoc hx]at hy
  rcases List.mem_append.1 hy with hy|hy
  ·exact h3 y hy
  ·rw[List.mem_singleton.1 hy];exact hb
theorem idx_ok(hk:10000≤k)(hC:ClsX G):IdxX (fun _ args (K:LV→OV R)=>g65648 G k args K):=by
 intro ns l K hl hll
 show W _ K (f65648 G k (ivs l) (ns.map Nd.v) K)
 unfold f65648 l65648_0
 rw[ivs_len]
 exact idx_loop (Ko:=fun _=>K [.int .i64 (-1)]) (Kr:=fun i _=>K [.int .i64 i]) hC hl hll (fun h=>W_ret ⟨_,rfl,.inl ⟨rfl,h⟩⟩) (fun p x h1 h2 h3=>W_ret ⟨_,rfl,.inr ⟨p,x,rfl,h1,h2,h3⟩⟩) k 0 (by omega) (by omega) (fun y hy=>by cases hy)
def DelX(G:ORC R):Prop:=∀(ns:List Nd) (l:List Int) (K:LV→OV R),OkL ns l→l.length≤1000→
 W (fun o=>o=[.sl 1 (ivs (l.filter fun x=> !hsB ns x))]) K (G 65642 [.sl 1 (ivs l),.sl 7 (ns.map Nd.v)] K)
theorem set_mid{α:Type}{A B:List α}{b x:α}:(A++b::B).set A.length x=A++x::B:=by
 rw[List.set_append_right _ _ (Nat.le_refl _),Nat.sub_self];rfl
theorem ivs_set{l:List Int}{i:Nat}{x:Int}:(ivs l).set i (.int .i64 x)=ivs (l.set i x):=by unfold ivs;rw[List.map_set]
theorem ivs_take{l:List Int}{i:Nat}:(ivs l).take i=ivs (l.take i):=by unfold ivs;rw[List.map_take]
theorem del_loop(hC:ClsX G){Ko:LV→Int→LV→OV R}{ns:List Nd}{l:List Int}(hl:OkL ns l)(hll:l.length≤1000)
 (hKo:∀(A B:List Int) (b:Int),A=l.filter (fun x=> !hsB ns x)→(A++b::B).length=l.length→W Q K (Ko (ivs (A++b::B)) A.length (ns.map Nd.v))):
 ∀(j m:Nat) (A B:List Int) (b:Int),l.length-m<j→m≤l.length→A=(l.take m).filter (fun x=> !hsB ns x)→A.length+B.length+1=m→W Q K (l65642_0g G k Ko j (ivs (A++b::(B++l.drop m))) A.length m (ns.map Nd.v))
 |0,m,A,B,b,h1,h2,h3,h4=>by omega
 |j+1,m,A,B,b,h1,h2,h3,h4=>by
  show W Q K (b65642_0 G k (l65642_0g G k Ko j) Ko (ivs (A++b::(B++l.drop m))) A.length m (ns.map Nd.v))
  unfold b65642_0
  have hlen:(A++b::(B++l.drop m)).length=l.length:=by
   rw[List.length_append,List.length_cons,List.length_append,List.length_drop];omega
  rw[ivs_len,hlen]
  refine W_dec (fun h=> ?_) (fun h=> ?_)
  ·obtain⟨x,hx⟩:=get_ex (l:=l) (m:=m) (by omega)
   obtain⟨x0,x1⟩:=hl x (List.mem_of_getElem? hx)
   have hdr:l.drop m=x::l.drop (m+1):=by
    obtain⟨hm,e1⟩:=List.getElem?_eq_some_iff.1 hx
    rw[List.drop_eq_getElem_cons hm,e1]
   have hat:(A++b::(B++l.drop m))[m]? =some x:=by
    rw[List.getElem?_append_right (by omega),show m-A.length=(m-A.length-1)+1 by omega,List.getElem?_cons_succ,List.getElem?_append_right (by omega),show m-A.length-1-B.length=0 by omega,hdr]
    rfl
   have W_r:∀{i:Nat} {y:Int} {F:V→OV R} {E:OV R},(A++b::(B++l.drop m))[i]? =some y→W Q K (F (.int .i64 y))→W Q K (bif(decide (0≤((i:Nat):Int))&&decide (((i:Nat):Int)<((l.length:Nat):Int)))then nthK (ivs (A++b::(B++l.drop m))) ((i:Nat):Int).toNat F else E):=fun{i y F E} hy h=>by
    have:=W_at (E:=E) (show(0:Int)≤((i:Nat):Int)by omega) (ivs_atZ hy) h
    rw[ivs_len,hlen]at this;exact this
   refine W_r hat (W_aI ?_)
   have hC':=hC
   unfold ClsX at hC'
   refine W_call (hC' ns x _ x0 x1) ?_
   rintro _ rfl
   (repeat(with_reducible apply U1))
   rw[wrap_id (n:=(m:Int)+1) (by omega)]
   refine W_not (W_bool (fun hb=> ?_) (fun hb=> ?_))
   ·have next:=del_loop hC hl hll hKo j (m+1) A (B++[x]) b (by omega) (by omega) (by rw[take_snoc hx,filt_snoc,←h3,hb];simp) (by rw[List.length_append,List.length_singleton];omega)
    rw[show A++b::(B++[x]++l.drop (m+1))=A++b::(B++l.drop m)by rw[hdr];simp]at next
    exact next
   ·have hb2:(A++b::(B++l.drop m))[A.length]? =some b:=by rw[List.getElem?_append_right (Nat.le_refl _),Nat.sub_self];rfl
    refine W_r hb2 ?_
    rw[wrap_id (n:=(A.length:Int)+1) (by omega),Int.toNat_natCast,ivs_set,set_mid]
    cases hB:B++[x]with
    |nil=>simp at hB
    |cons b' B'=>
     have hl2:B.length=B'.length:=by have:=congrArg List.length hB;simpa using this
     have next:=del_loop hC hl hll hKo j (m+1) (A++[x]) B' b' (by omega) (by omega) (by rw[take_snoc hx,filt_snoc,←h3,hb];simp) (by rw[List.length_append,List.length_singleton];omega)
     rw[show(A++[x])++b'::(B'++l.drop (m+1))=A++x::(B++l.drop m)by
      rw[hdr,show B++x::l.drop (m+1)=(B++[x])++l.drop (m+1)by simp,hB];simp,show(((A++[x]).length:Nat):Int)=(A.length:Int)+1 by simp]at next
     exact next
  ·have hm:m=l.length:=by omega
   have:=hKo A B b (by rw[h3,hm,List.take_length]) (by rw[hm,List.drop_length,List.append_nil]at hlen;exact hlen)
   rw[show A++b::(B++l.drop m)=A++b::B by rw[hm,List.drop_length,List.append_nil]]
   exact this
theorem del_ok(hk:10000≤k)(hI:IdxX G)(hC:ClsX G):DelX (fun _ args (K:LV→OV R)=>g65642 G k args K):=by
 intro ns l K hl hll
 show W _ K (f65642 G k (ivs l) (ns.map Nd.v) K)
 unfold f65642
 unfold IdxX at hI
 refine W_call (hI ns l _ hl hll) ?_
 rintro _ ⟨i,rfl,hi⟩
 (repeat(with_reducible apply U1))
 rcases hi with⟨rfl,hi⟩|⟨p,x,rfl,hx,hb,hno⟩
 ·refine W_eqY rfl (W_ret ?_)
  rw[List.filter_eq_self.2 fun x hx=>by rw[hi x hx];rfl]
 ·refine W_eqN (by omega) ?_
  have hp:=(List.getElem?_eq_some_iff.1 hx).1
  rw[wrap_id (n:=(p:Int)+1) (by omega)]
  unfold l65642_0
  have e1:(l.take p).filter (fun x=> !hsB ns x)=l.take p:=List.filter_eq_self.2 fun y hy=>by rw[hno y hy];rfl
  have e2:l=l.take p++x::([]++l.drop (p+1)):=by
   rw[List.nil_append]
   obtain⟨hm,e⟩:=List.getElem?_eq_some_iff.1 hx
   rw[←e,←List.drop_eq_getElem_cons hm,List.take_append_drop]
  have hlp:(l.take p).length=p:=by rw[List.length_take];omega
  have main:=del_loop (Q:=fun o=>o=[.sl 1 (ivs (l.filter fun x=> !hsB ns x))]) (K:=K) (k:=k) (Ko:=fun yl16 yi17 yl18=>(bif((decide (0≤yi17))&&(decide (yi17<(yl16.length:Int))))then(bif(decide ((Int.toNat yi17)≤(List.length yl16)))then(bif((decide (0≤yi17))&&(decide (yi17≤((List.length ((List.take (Int.toNat yi17) yl16)++(List.replicate ((List.length yl16)-(Int.toNat yi17)) (V.int .i64 0))):Nat):Int))))then(K [(.sl 1 (List.take (Int.toNat yi17) ((List.take (Int.toNat yi17) yl16)++(List.replicate ((List.length yl16)-(Int.toNat yi17)) (V.int .i64 0)))))])else none)else none)else none))
   hC hl hll (fun A B b hA hlen=>by
    rw[List.length_append,List.length_cons]at hlen
    refine W_and (W_yes (by omega) (W_yes (by rw[ivs_len,List.length_append,List.length_cons];omega) ?_))
    refine W_yes (by rw[ivs_len,List.length_append,List.length_cons];omega) ?_
    rw[Int.toNat_natCast,ivs_take,List.take_left' rfl]
    refine W_and (W_yes (by omega) (W_yes (by rw[List.length_append,ivs_len];omega) ?_))
    rw[List.take_left' (ivs_len)]
    exact W_ret (by rw[hA])) k (p+1) (l.take p) [] x (by omega) (by omega) (by rw[take_snoc hx,filt_snoc,e1,hb];simp) (by rw[hlp];rfl)
  rw[←e2,hlp]at main
  exact main
def LStX(G:ORC R):Prop:=∀(ns:List Nd) (i:Int) (K:LV→OV R),Tree ns→ns.length≤1000→W (fun o=>o=[.sl 1 (ivs (statesN ns i))]) K (G 95 [.sl 7 (ns.map Nd.v),.int .i64 i] K)
theorem lst_ok(hK:KidsOK 107 G)(hD:DelX G):LStX (fun _ args (K:LV→OV R)=>g95 G k args K):=by
 intro ns i K T hl
 show W _ K (f95 G k (ns.map Nd.v) i K)
 unfold f95
 unfold KidsOK at hK;unfold DelX at hD
 refine W_call (hK _ _ _ hl) ?_
 rintro _ rfl
 (repeat(with_reducible apply U1))
 have hok:OkL ns (kidsN ns i):=fun x hx=>by
  obtain⟨q,m,rfl,m1,_⟩:=mem_kidsN.1 hx
  have:=Tree.lt m1
  omega
 have hlen:(kidsN ns i).length≤ns.length:=kidsGo_len
 refine W_call (hD ns _ _ hok (by omega)) ?_
 rintro _ rfl
 (repeat(with_reducible apply U1))
 refine W_ret ?_
 congr 3
 refine List.filter_congr fun x hx=> ?_
 obtain⟨q,m,rfl,m1,_⟩:=mem_kidsN.1 hx
 have:=T.seg.kinds q m m1
 unfold hsB isSt
 rw[Int.toNat_natCast,m1]
 show(!decide (m.kind=4∨m.kind=5))=decide (m.kind≤3)
 by_cases h:m.kind≤3
 ·rw[decide_eq_true h,decide_eq_false (by omega)];rfl
 ·rw[decide_eq_false h,decide_eq_true (by omega)];rfl
end
section
variable {R : Type} {G : ORC R} {k : Nat} {K : LV → OV R} {Q : LV → Prop}
def LisX(G:ORC R):Prop:=∀(l:LV) (i:Int) (K:LV→OV R),W (fun o=>o=[.bool (decide (0≤i∧i<l.length))]) K (G 80 [.sl 7 l,.int .i64 i] K)
theorem lis_ok:LisX (fun _ args (K:LV→OV R)=>g80 G k args K):=by
 intro l i K
 show W _ K (f80 G k l i K)
 unfold f80
 refine W_dec (fun h=>W_ret ?_) (fun h=>W_ret ?_)
 ·simp[h]
 ·rw[decide_eq_false (by omega)]
end
section
variable {R : Type} {G : ORC R} {k : Nat} {K : LV → OV R} {Q : LV → Prop}
def Left(c:Int)(e:List Int):Prop:=20000≤c∧c≤65536∧e.length≤9900
def MoreX(G:ORC R):Prop:=∀(ns hv iv:LV) (l:Int) (K:LV→OV R),0<l→l≤100000→W (fun o=>o=[.bool true,.sl 1 iv,.int .i64 (l-1)]) K (G 81 [.sl 7 ns,.sl 1 hv,.sl 1 iv,.int .i64 l] K)
theorem more_ok:MoreX (fun _ args (K:LV→OV R)=>g81 G k args K):=by
 intro ns hv iv l K h0 h1
 show W _ K (f81 G k ns hv iv l K)
 unfold f81
 rw[wrap_id (n:=l-1) (by omega),decide_eq_true (show l-1≥0 by omega)]
 exact W_ret rfl
def EmpX(G:ORC R):Prop:=∀(ns:List Nd) (s:Int) (hv:LV) (e:List Int) (l:Int) (K:LV→OV R),ns.length≤1000→
 W (fun o=>o=[.bool (!anyN ns e s),.sl 1 (actV ns.length e),.int .i64 l]) K (G 97 [.int .i64 s,.sl 7 (ns.map Nd.v),.sl 1 hv,.sl 1 (actV ns.length e),.int .i64 l] K)
theorem emp_loop(hI:CInOK G){Ko:LV→LV→LV→Int→OV R}{Kr:Bool→LV→LV→LV→Int→OV R}{ns:List Nd}{s l:Int}{hv:LV}{e:List Int}(hl:ns.length≤1000)
 (hKo:anyN ns e s=false→W Q K (Ko (ns.map Nd.v) hv (actV ns.length e) l)) (hKr:anyN ns e s=true→W Q K (Kr false (ns.map Nd.v) hv (actV ns.length e) l)):
 ∀(j i:Nat),ns.length-i<j→i≤ns.length→(∀q:Nat,q<i→(q:Int)∈e→inN ns q s=false)→W Q K (l97_0g G k Ko Kr j s ns.length i (ns.map Nd.v) hv (actV ns.length e) l)
 |0,i,h1,h2,h3=>by omega
 |j+1,i,h1,h2,h3=>by
  show W Q K (b97_0 G k (l97_0g G k Ko Kr j) Ko Kr s ns.length i (ns.map Nd.v) hv (actV ns.length e) l)
  unfold b97_0
  refine W_dec (fun h=> ?_) (fun h=>hKo ?_)
  ·refine W_at (by omega) (by rw[Int.toNat_natCast];exact actV_get (by omega)) ?_
   (repeat(with_reducible apply U1))
   have next:(∀q:Nat,q<i+1→(q:Int)∈e→inN ns q s=false)→W Q K (l97_0g G k Ko Kr j s ns.length (IntKind.i64.wrap ((i:Int)+1)) (ns.map Nd.v) hv (actV ns.length e) l):=fun h4=>by
    rw[wrap_id (n:=(i:Int)+1) (by omega)]
    exact emp_loop hI hl hKo hKr j (i+1) (by omega) (by omega) h4
   refine W_bool (fun hb=> ?_) (fun hb=>next fun q hq hm=> ?_)
   ·have hI':=hI
    unfold CInOK at hI'
    refine W_call (hI' _ _ _ _) ?_
    rintro _ rfl
    (repeat(with_reducible apply U1))
    refine W_bool (fun hc=>hKr (List.any_eq_true.2 ⟨i,hasL_iff.1 hb,hc⟩)) (fun hc=>next fun q hq hm=> ?_)
    by_cases e1:q=i
    ·rw[e1];exact hc
    ·exact h3 q (by omega) hm
   ·by_cases e1:q=i
    ·subst e1;rw[hasL_iff.2 hm]at hb;cases hb
    ·exact h3 q (by omega) hm
  ·unfold anyN
   rw[List.any_eq_false]
   intro x hx hc
   have hr:=inN_rng hc
   have:=h3 x.toNat (by omega) (by rw[show((x.toNat:Nat):Int)=x by omega];exact hx)
   rw[show((x.toNat:Nat):Int)=x by omega,hc]at this
   cases this
theorem emp_ok(hk:10000≤k)(hI:CInOK G):EmpX (fun _ args (K:LV→OV R)=>g97 G k args K):=by
 intro ns s hv e l K hl
 show W _ K (f97 G k s (ns.map Nd.v) hv (actV ns.length e) l K)
 unfold f97 l97_0
 rw[actV_len]
 exact emp_loop (Q:=fun o=>o=[.bool (!anyN ns e s),.sl 1 (actV ns.length e),.int .i64 l]) (Ko:=fun _ _ a b=>K [.bool true,.sl 1 a,.int .i64 b]) (Kr:=fun c _ _ a b=>K [.bool c,.sl 1 a,.int .i64 b]) hI hl (fun h=>W_ret (by rw[h];rfl)) (fun h=>W_ret (by rw[h];rfl)) k 0 (by omega) (by omega) (fun q hq=>by omega)
def mkV(ns:List Nd)(c:Int)(e:List Int):LV:=[.sl 1 (actV ns.length e),.int .i64 (c-e.length)]
def CDnOK(d:Nat)(G:ORC R):Prop:=∀(ns:List Nd) (a:Nat) (n:Nd) (hv:LV) (e:List Int) (c:Int) (K:LV→OV R),Tree ns→ns.length≤100→ns[a]? =some n→n.kind≤3→n.last-a<d→20000≤c→c≤65536→e.length+(n.last-a+1).toNat≤9700→
 W (fun o=>o=mkV ns c (dnN ns a e)) K (G 63 [.int .i64 a,.sl 7 (ns.map Nd.v),.sl 1 hv,.sl 1 (actV ns.length e),.int .i64 (c-e.length)] K)
def CRegOK(d:Nat)(G:ORC R):Prop:=∀(ns:List Nd) (a:Nat) (n:Nd) (hv:LV) (e:List Int) (c:Int) (K:LV→OV R),Tree ns→ns.length≤100→ns[a]? =some n→n.last-a≤d→20000≤c→c≤65536→e.length+(if n.kind=3 then(n.last-a).toNat else 0)≤9700→
 W (fun o=>o=mkV ns c (if n.kind=3 then regF ns (dnN ns) (statesN ns a) e else e)) K (G 85 [.int .i64 a,.sl 7 (ns.map Nd.v),.sl 1 hv,.sl 1 (actV ns.length e),.int .i64 (c-e.length)] K)
theorem creg_loop{d:Nat}(hA:EmpX G)(hD:CDnOK d G){Ko:LV→LV→LV→Int→OV R}{ns:List Nd}{a:Nat}{n:Nd}{hv:LV}{c:Int}(T:Tree ns)(hl:ns.length≤100)(ha:ns[a]? =some n)(hd:n.last-a≤d)(hc0:20000≤c)(hc1:c≤65536){D:List Int}:
 ∀(j m:Nat) (e:List Int) (lo:Int),(statesN ns a).length-m<j→m≤(statesN ns a).length→(∀k∈(statesN ns a).drop m,lo≤k)→a<lo→e.length+(n.last+1-lo).toNat≤9700→D=regF ns (dnN ns) ((statesN ns a).drop m) e→
  W Q K (Ko (ns.map Nd.v) hv (actV ns.length D) (c-D.length))→W Q K (l85_0g G k Ko j (ivs (statesN ns a)) (statesN ns a).length m (ns.map Nd.v) hv (actV ns.length e) (c-e.length))
 |0,m,e,lo,h1,h2,h3,h4,h5,h6,hKo=>by omega
 |j+1,m,e,lo,h1,h2,h3,h4,h5,h6,hKo=>by
  show W Q K (b85_0 G k (l85_0g G k Ko j) Ko (ivs (statesN ns a)) (statesN ns a).length m (ns.map Nd.v) hv (actV ns.length e) (c-e.length))
  unfold b85_0
  have hsl:(statesN ns a).length≤ns.length:=statesN_len
  refine W_dec (fun h=> ?_) (fun h=>by
   rw[List.drop_of_length_le (by omega)]at h6
   rw[show D=e from h6]at hKo
   exact hKo)
  obtain⟨x,hx⟩:=get_ex (l:=statesN ns a) (m:=m) (by omega)
  obtain⟨q,m2,rfl,g1,g2,g3⟩:=(mem_statesN (Tree.lt ha)).1 (List.mem_of_getElem? hx)
  have hki:=kid_in T ha g1 g2
  have hql:=T.seg.last q m2 g1
  have hlo:=h3 q (by rw[drop_at hx];exact List.mem_cons_self)
  have hnext:∀k∈(statesN ns a).drop (m+1),m2.last+1≤k:=fun k hk=>by
   have hA:Asc ((statesN ns a).drop m):=List.Pairwise.sublist (List.drop_sublist _ _) statesN_asc
   rw[drop_at hx]at hA
   have h7:=(List.pairwise_cons.1 hA).1 k hk
   obtain⟨q',m',rfl,k1,k2,k3⟩:=(mem_statesN (Tree.lt ha)).1 (List.mem_of_mem_drop hk)
   have:=kid_apart T g1 g2 k1 k2 (by omega)
   omega
  rw[drop_at hx,regF]at h6
  refine W_at (by omega) (ivs_atZ hx) (W_aI ?_)
  have hA':=hA
  have hD':=hD
  unfold EmpX at hA';unfold CDnOK at hD'
  refine W_call (hA' _ _ _ _ _ _ (by omega)) ?_
  rintro _ rfl
  (repeat(with_reducible apply U1))
  have next:∀e':List Int,e'.length≤e.length+(m2.last-q+1).toNat→D=regF ns (dnN ns) ((statesN ns a).drop (m+1)) e'→W Q K (l85_0g G k Ko j (ivs (statesN ns a)) (statesN ns a).length (IntKind.i64.wrap ((m:Int)+1)) (ns.map Nd.v) hv (actV ns.length e') (c-e'.length)):=fun e' q1 q2=>by
   rw[wrap_id (n:=(m:Int)+1) (by omega)]
   exact creg_loop hA hD T hl ha hd hc0 hc1 j (m+1) e' (m2.last+1) (by omega) (by omega) hnext (by omega) (by omega) q2 hKo
  refine W_not (W_bool (fun hb=> ?_) (fun hb=> ?_))
  ·rw[hb,if_pos rfl]at h6
   exact next e (by omega) h6
  ·rw[hb,if_neg (by simp)]at h6
   refine W_call (hD' ns q m2 hv e c _ T hl g1 g3 (by omega) hc0 hc1 (by omega)) ?_
   rintro _ rfl
   unfold mkV
   (repeat(with_reducible apply U1))
   exact next _ (dnN_len T (m2.last-q+1).toNat q m2 e g1 (by omega)) h6
theorem creg_ok{d:Nat}(hk:10000≤k)(hS:LStX G)(hA:EmpX G)(hD:CDnOK d G):CRegOK d (fun _ args (K:LV→OV R)=>g85 G k args K):=by
 intro ns a n hv e c K T hl ha hd hc0 hc1 he
 show W _ K (f85 G k a (ns.map Nd.v) hv (actV ns.length e) (c-e.length) K)
 unfold f85
 unfold LStX at hS
 refine W_at (by omega) (nd_atZ ha) (W_nd7 (W_aI ?_))
 by_cases h3:n.kind=3
 ·rw[if_pos h3]at he
  refine W_chk' (by simp[h3]) ?_
  rw[if_pos h3]
  refine W_call (hS _ _ _ T (by omega)) ?_
  rintro _ rfl
  (repeat(with_reducible apply U1))
  unfold l85_0
  have hsl:(statesN ns a).length≤ns.length:=statesN_len
  have hal:=T.seg.last a n ha
  rw[ivs_len]
  exact creg_loop (Q:=fun o=>o=mkV ns c (regF ns (dnN ns) (statesN ns a) e)) (Ko:=fun _ _ x y=>K [.sl 1 x,.int .i64 y]) hA hD T hl ha hd hc0 hc1 k 0 e (a+1) (by omega) (by omega) (fun k hk=>by
   have:=(states_gt T (by omega) (List.mem_of_mem_drop hk)).1
   omega) (by omega) (by omega) rfl (W_ret rfl)
 ·refine W_chk (by simp[h3]) ?_
  rw[if_neg h3]
  exact W_ret rfl
theorem cdn_ok{d:Nat}(hLi:LisX G)(hMo:MoreX G)(hHs:HstX G)(hD:∀d',d=d'+1→CDnOK d' G∧CRegOK d' G):CDnOK d (fun _ args (K:LV→OV R)=>g63 G k args K):=by
 intro ns a n hv e c K T hl ha h3 hd hc0 hc1 he
 show W _ K (f63 G k a (ns.map Nd.v) hv (actV ns.length e) (c-e.length) K)
 have hal:=T.seg.last a n ha
 have hla:=Tree.lt ha
 cases d with
 |zero=>omega
 |succ d=>
 obtain⟨hD,hR⟩:=hD d rfl
 unfold f63
 unfold LisX at hLi;unfold MoreX at hMo;unfold HstX at hHs;unfold CDnOK at hD;unfold CRegOK at hR
 have hkinds:=T.seg.kinds a n ha
 rw[dnN_at T ha]
 refine W_call (hLi _ _ _) ?_
 rintro _ rfl
 (repeat(with_reducible apply U1))
 refine W_not (W_yes (by rw[List.length_map];omega) ?_)
 refine W_call (hMo _ _ _ _ _ (by omega) (by omega)) ?_
 rintro _ rfl
 (repeat(with_reducible apply U1))
 refine W_not (W_chk rfl ?_)
 refine W_at (by omega) (nd_atZ ha) (W_nd ?_)
 refine W_call (hHs n _) ?_
 rintro _ rfl
 (repeat(with_reducible apply U1))
 refine W_no (by omega) ?_
 have hm:(actV ns.length e)[((a:Nat):Int).toNat]? =some (.bool (hasL e a)):=by rw[Int.toNat_natCast];exact actV_get hla
 have W_m:∀{F:V→OV R} {E:OV R} {Q:LV→Prop},W Q K (F (.bool (hasL e a)))→W Q K (bif(decide (0≤((a:Nat):Int))&&decide (((a:Nat):Int)<(((actV ns.length e).length:Nat):Int)))then nthK (actV ns.length e) ((a:Nat):Int).toNat F else E):=fun{F E Q} h=>W_at (by omega) hm h
 refine W_m ?_
 refine W_at (by omega) (nd_atZ ha) (W_nd7 (W_aI ?_))
 have eset:(actV ns.length e).set ((a:Nat):Int).toNat (.bool true)=actV ns.length (e++[(a:Int)]):=actV_set (by omega) (by omega)
 have el:(e++[(a:Int)]).length=e.length+1:=by simp
 have ec:c-(e.length:Int)-1=c-((e++[(a:Int)]).length:Int):=by rw[el];omega
 rw[eset,ec]
 refine W_beqI (fun hk=> ?_) (fun hk=> ?_)
 ·obtain⟨i1,m,m1,m2,m3,m4⟩:=init_at T ha hk
  refine W_at (by omega) (nd_atZ ha) (W_nd7 (W_aI ?_))
  rw[if_pos hk,i1]
  refine W_call (hD ns (a+1) m hv _ c _ T hl m1 m3 (by omega) hc0 hc1 (by omega)) ?_
  rintro _ rfl
  unfold mkV
  (repeat(with_reducible apply U1))
  have hle:=dnN_len T (m.last-(a+1:Nat)+1).toNat (a+1) m (e++[(a:Int)]) m1 (by have:=T.seg.last (a+1) m m1;omega)
  refine W_call (hR ns a n hv _ c _ T hl ha (by omega) hc0 hc1 (by rw[if_neg (by omega)];omega)) ?_
  rintro _ rfl
  unfold mkV
  (repeat(with_reducible apply U1))
  rw[if_neg (by omega)]
  exact W_ret rfl
 ·rw[if_neg hk]
  refine W_call (hR ns a n hv _ c _ T hl ha (by omega) hc0 hc1 (by split<;>omega)) ?_
  rintro _ rfl
  unfold mkV
  (repeat(with_reducible apply U1))
  exact W_ret rfl
end
section
variable {R : Type} {G : ORC R} {k : Nat} {K : LV → OV R} {Q : LV → Prop}
def ListX(G:ORC R):Prop:=∀(ns:List Nd) (hv:LV) (e:List Int) (l:Int) (K:LV→OV R),ns.length≤1000→
 W (fun o=>o=[.sl 1 (ivs (ofGo e ns.length)),.sl 1 (actV ns.length e),.int .i64 l]) K (G 64 [.sl 7 (ns.map Nd.v),.sl 1 hv,.sl 1 (actV ns.length e),.int .i64 l] K)
theorem list_loop{Ko:LV→LV→LV→LV→Int→OV R}{ns:List Nd}{hv:LV}{e:List Int}{l:Int}(hl:ns.length≤1000)(hKo:W Q K (Ko (ivs (ofGo e ns.length)) (ns.map Nd.v) hv (actV ns.length e) l)):
 ∀(j i:Nat),ns.length-i<j→i≤ns.length→W Q K (l64_0g G k Ko j (ivs (ofGo e i)) ns.length i (ns.map Nd.v) hv (actV ns.length e) l)
 |0,i,h1,h2=>by omega
 |j+1,i,h1,h2=>by
  show W Q K (b64_0 G k (l64_0g G k Ko j) Ko (ivs (ofGo e i)) ns.length i (ns.map Nd.v) hv (actV ns.length e) l)
  unfold b64_0
  refine W_dec (fun h=> ?_) (fun h=>by rw[show i=ns.length by omega];exact hKo)
  refine W_at (by omega) (by rw[Int.toNat_natCast];exact actV_get (by omega)) ?_
  (repeat(with_reducible apply U1))
  have hgl:=ofGo_len (l:=e) (m:=i)
  have next:∀a,a=ivs (ofGo e (i+1))→W Q K (l64_0g G k Ko j a ns.length (IntKind.i64.wrap ((i:Int)+1)) (ns.map Nd.v) hv (actV ns.length e) l):=fun a ha=>by
   rw[wrap_id (n:=(i:Int)+1) (by omega),ha]
   exact list_loop hl hKo j (i+1) (by omega) (by omega)
  refine W_bool (fun hb=>W_yes (by rw[ivs_len];omega) (next _ (by rw[ofGo,hb];simp[ivs]))) (fun hb=>next _ (by rw[ofGo,hb];simp))
theorem list_ok(hk:10000≤k):ListX (fun _ args (K:LV→OV R)=>g64 G k args K):=by
 intro ns hv e l K hl
 show W _ K (f64 G k (ns.map Nd.v) hv (actV ns.length e) l K)
 unfold f64 l64_0
 rw[actV_len]
 exact list_loop (Q:=fun o=>o=[.sl 1 (ivs (ofGo e ns.length)),.sl 1 (actV ns.length e),.int .i64 l]) (Ko:=fun a _ _ b c=>K [.sl 1 a,.sl 1 b,.int .i64 c]) hl (W_ret rfl) k 0 (by omega) (by omega)
theorem ofGo_ofL{ns:List Nd}{e:List Int}(hl:ns.length≤128)(h:RngL ns e):ofGo e ns.length=ofL e:=by
 have:=ofGo_more (l:=e) (m:=ns.length) (fun x hx=>(h x hx).2) (d:=128-ns.length)
 unfold ofL
 rw[show 128=ns.length+(128-ns.length)by omega,this]
def CBegOK(G:ORC R):Prop:=∀(ns:List Nd) (K:LV→OV R),Tree ns→ns.length≤100→W (fun o=>o=[.sl 1 (ivs (dnN ns 0 []))]) K (G 29 [.sl 7 (ns.map Nd.v)] K)
theorem cbeg_ok(hD:CDnOK 200 G)(hL:ListX G):CBegOK (fun _ args (K:LV→OV R)=>g29 G k args K):=by
 intro ns K T hl
 show W _ K (f29 G k (ns.map Nd.v) K)
 unfold f29
 unfold CDnOK at hD;unfold ListX at hL
 have hpos:=T.pos
 obtain⟨n,hn⟩:∃n,ns[0]? =some n:=⟨_,List.getElem?_eq_getElem (by omega)⟩
 have hr:=T.root n hn
 simp only[List.length_map]
 refine W_chk (by simp;omega) ?_
 rw[Int.toNat_natCast,actV_nil]
 refine W_call (hD ns 0 n [] [] 65536 _ T hl hn (by omega) (by omega) (by omega) (by omega) (by simp;omega)) ?_
 rintro _ rfl
 unfold mkV
 (repeat(with_reducible apply U1))
 refine W_call (hL ns _ _ _ _ (by omega)) ?_
 rintro _ rfl
 (repeat(with_reducible apply U1))
 have hS:=begin_sub T hn
 refine W_ret ?_
 rw[show(((0:Nat):Int))=0 from rfl,ofGo_ofL (by omega) (fun x hx=>sub_rng T hn hS x hx),sub_of T (by omega) hn hS]
end
section
variable {R : Type} {G : ORC R} {k : Nat} {K : LV → OV R} {Q : LV → Prop}
def entA(ns:List Nd)(i:Int):Int:=match ns[i.toNat]? with
 |some n=>n.entry
 |none=> -1
theorem entA_at{ns:List Nd}{i:Int}{n:Nd}(h:ns[i.toNat]? =some n):entA ns i=n.entry:=by unfold entA;rw[h]
def BunOK(G:ORC R):Prop:=∀(x:Srch) (K:LV→OV R),Tree x.ns→x.ns.length≤30→x.cs.length≤90→W (fun o=>o=[.sl 1 (ivs (memN x.cs.length ((dnN x.ns 0 []).map (entA x.ns))))]) K
    (G 31 [.agg [.str x.nm,.int .i64 x.st,.int .i64 x.fu,.sl 1 x.vars,.sl 1 x.ports,.sl 1 x.timers,.sl 7 (x.ns.map Nd.v),.sl 6 x.es,.sl 1 x.cs]] K)
theorem bun_loop{x:Srch}{L:List Int}(hl:L.length≤1000)(hL:∀i∈L,0≤i∧i<x.ns.length){Ko:LV→ByteArray→Int→Int→LV→LV→LV→LV→LV→LV→OV R}
 (hKo:W Q K (Ko (ivs (L.map (entA x.ns))) x.nm x.st x.fu x.vars x.ports x.timers (x.ns.map Nd.v) x.es x.cs)):
 ∀(j m:Nat),L.length-m<j→m≤L.length→W Q K (l31_0g G k Ko j (ivs ((L.take m).map (entA x.ns))) (ivs L) m x.nm x.st x.fu x.vars x.ports x.timers (x.ns.map Nd.v) x.es x.cs)
 |0,m,h1,h2=>by omega
 |j+1,m,h1,h2=>by
  show W Q K (b31_0 G k (l31_0g G k Ko j) Ko (ivs ((L.take m).map (entA x.ns))) (ivs L) m x.nm x.st x.fu x.vars x.ports x.timers (x.ns.map Nd.v) x.es x.cs)
  unfold b31_0
  refine W_dec (fun h=> ?_) (fun h=>by rw[ivs_len]at h;rw[List.take_of_length_le (by omega)];exact hKo)
  rw[ivs_len]at h
  obtain⟨i,hi⟩:∃i,L[m]? =some i:=⟨_,List.getElem?_eq_getElem (by omega)⟩
  obtain⟨i0,i1⟩:=hL i (List.mem_of_getElem? hi)
  obtain⟨n,hn⟩:∃n,x.ns[i.toNat]? =some n:=⟨_,List.getElem?_eq_getElem (by omega)⟩
  refine W_at (by omega) (by rw[Int.toNat_natCast];exact ivs_at hi) (W_aI ?_)
  refine W_at i0 (by rw[List.getElem?_map,hn];rfl) (W_nd7 ?_)
  (repeat(with_reducible apply U1))
  refine W_yes (by rw[ivs_len,List.length_map,List.length_take];omega) ?_
  have ih:=bun_loop hl hL hKo j (m+1) (by omega) (by omega)
  rw[takeS hi,List.map_append,ivs_app,List.map_cons,entA_at hn]at ih
  rw[wrap_id (n:=(m:Int)+1) (by omega)]
  exact ih
theorem begin_rng{ns:List Nd}(T:Tree ns):∀i∈dnN ns 0 [],0≤i∧i<ns.length:=fun i hi=>by
 have hpos:=T.pos
 obtain⟨n,h⟩:∃n,ns[0]? =some n:=⟨_,List.getElem?_eq_getElem (by omega)⟩
 have h1:=(begin_sub T h).rng i hi
 have h2:=T.seg.last 0 n h
 omega
theorem begin_len{ns:List Nd}(T:Tree ns):(dnN ns 0 []).length≤ns.length:=by
 have hpos:=T.pos
 obtain⟨n,h⟩:∃n,ns[0]? =some n:=⟨_,List.getElem?_eq_getElem (by omega)⟩
 have:=dnN_le T h (e:=[])
 simpa using this
theorem bun_ok(hk:10000≤k)(hB:RBegOK G)(hR:RisOK G):BunOK (fun _ args (K:LV→OV R)=>g31 G k args K):=by
 intro x K T hn hcl
 show W _ K (f31 G k x.nm x.st x.fu x.vars x.ports x.timers (x.ns.map Nd.v) x.es x.cs K)
 unfold f31 l31_0
 have hl:=begin_len T
 unfold RBegOK at hB;unfold RisOK at hR
 refine W_call (hB _ _ T (by omega)) ?_
 rintro _ rfl
 (repeat(with_reducible apply U1))
 refine bun_loop (by omega) (begin_rng T) ?_ k 0 (by omega) (by omega)
 refine W_call (hR x _ _ (by rw[List.length_map];omega) hcl) ?_
 rintro _ rfl
 (repeat(with_reducible apply U1))
 exact W_ret rfl
theorem nonE_len{l:List Int}:decide ((l.length:Int)>0)=nonE l:=by
 cases l with
 |nil=>rfl
 |cons a l=>rw[List.length_cons];exact decide_eq_true (by omega)
def BegX(f:Nat)(G:ORC R):Prop:=∀(x:Srch) (K:LV→OV R),Tree x.ns→x.any=false→EdsS x.es→x.es.length≤100→x.ns.length≤30→CodesA x.cs→x.cs.length≤90→
 W (fun o=>∃(E C:List Int),o=[.agg [.sl 1 (ivs (memN x.es.length E)),.sl 1 (ivs (memN x.cs.length C)),.sl 1 (sv (tellL x.cs (opP 19) (memN x.cs.length C))),.bool (nonE (memN x.es.length E))]]∧LstF x.es x.cs x.ns false [] ((dnN x.ns 0 []).map (entA x.ns)) E C) K
   (G f [.agg [.str x.nm,.int .i64 x.st,.int .i64 x.fu,.sl 1 x.vars,.sl 1 x.ports,.sl 1 x.timers,.sl 7 (x.ns.map Nd.v),.sl 6 x.es,.sl 1 x.cs]] K)
theorem rbegx_ok(hB:BunOK G)(hC:ClsOK G):BegX 12 (fun _ args (K:LV→OV R)=>g12 G k args K):=by
 intro x K T ha hes hel hn hcs hcl
 show W _ K (f12 G k x.nm x.st x.fu x.vars x.ports x.timers (x.ns.map Nd.v) x.es x.cs K)
 unfold f12
 unfold BunOK at hB;unfold ClsOK at hC
 refine W_call (hB x _ T hn hcl) ?_
 rintro _ rfl
 (repeat(with_reducible apply U1))
 have hm:=memN_len (n:=x.cs.length) (s:=(dnN x.ns 0 []).map (entA x.ns))
 have hC':=hC x [] (memN x.cs.length ((dnN x.ns 0 []).map (entA x.ns)))
 rw[ha]at hC'
 refine W_call (hC' _ (by simp) hes hel hn hcs hcl (by omega)) ?_
 rintro _ ⟨p,C,rfl,hL⟩
 (repeat(with_reducible apply U1))
 refine W_ret ⟨sel x.es.length p,C,by rw[ivs_len,sel_memN,nonE_len],hL.clo,fun y hy h0 h1=>hL.first y (mem_memN.2 ⟨⟨h0,h1⟩,hy⟩) h0 h1,fun E' C' hc hf=>hL.least E' C' hc fun y hy h0 h1=>hf y (mem_memN.1 hy).2 h0 h1⟩
def putL(N:Nat)(L:List Int):List Int:=L.foldl (putC N) []
theorem putL_snoc{N:Nat}{L:List Int}{c:Int}:putL N (L++[c])=putC N (putL N L) c:=by unfold putL;rw[List.foldl_append];rfl
theorem mem_putL{N:Nat}{y:Int}(h0:0≤y)(h1:y<N)(L:List Int):y∈putL N L↔y∈L:=by
 have:=take_all (l:=L) (fun m=>y∈putL N (L.take m)↔y∈L.take m) (by simp[putL]) (fun m c hc ih=> ?_) L.length (Nat.le_refl _)
 ·rw[List.take_length]at this;exact this
 rw[takeS hc,putL_snoc,mem_putC,ih,List.mem_append,List.mem_singleton]
 exact⟨fun q=>q.elim .inl fun q=>.inr q.1,fun q=>q.elim .inl fun q=>.inr ⟨q,by omega,by omega⟩⟩
theorem beg_loop(hC:CodeOK G){x:Srch}{L:List Int}(hl:L.length≤1000)(hL:∀i∈L,0≤i∧i<x.ns.length){er ra z1 z2 z3:LV}{b4:Bool}{N:Nat}
 {Ko:LV→LV→LV→Bool→ByteArray→Int→Int→LV→LV→LV→LV→LV→LV→Bool→LV→LV→LV→LV→OV R}
 (hKo:W Q K (Ko z1 z2 z3 b4 x.nm x.st x.fu x.vars x.ports x.timers (x.ns.map Nd.v) x.es x.cs x.any x.ev er (actV N (putL N (L.map (entA x.ns)))) ra)):
 ∀(j m:Nat),L.length-m<j→m≤L.length→W Q K (l11_0g G k Ko j (ivs L) L.length m x.nm x.st x.fu x.vars x.ports x.timers (x.ns.map Nd.v) x.es x.cs z1 z2 z3 b4 x.nm x.st x.fu x.vars x.ports x.timers (x.ns.map Nd.v) x.es x.cs x.any x.ev er (actV N (putL N ((L.take m).map (entA x.ns)))) ra)
 |0,m,h1,h2=>by omega
 |j+1,m,h1,h2=>by
  show W Q K (b11_0 G k (l11_0g G k Ko j) Ko (ivs L) L.length m x.nm x.st x.fu x.vars x.ports x.timers (x.ns.map Nd.v) x.es x.cs z1 z2 z3 b4 x.nm x.st x.fu x.vars x.ports x.timers (x.ns.map Nd.v) x.es x.cs x.any x.ev er (actV N (putL N ((L.take m).map (entA x.ns)))) ra)
  unfold b11_0
  refine W_dec (fun h=> ?_) (fun h=>by rw[List.take_of_length_le (by omega)];exact hKo)
  obtain⟨i,hi⟩:∃i,L[m]? =some i:=⟨_,List.getElem?_eq_getElem (by omega)⟩
  obtain⟨i0,i1⟩:=hL i (List.mem_of_getElem? hi)
  obtain⟨n,hn⟩:∃n,x.ns[i.toNat]? =some n:=⟨_,List.getElem?_eq_getElem (by omega)⟩
  have hC':=hC
  unfold CodeOK at hC'
  refine W_at (by omega) (by rw[Int.toNat_natCast];exact ivs_at hi) (W_aI ?_)
  refine W_at i0 (by rw[List.getElem?_map,hn];rfl) (W_nd7 ?_)
  (repeat(with_reducible apply U1))
  refine W_call (hC' x n.entry er ra N _ _) ?_
  rintro _ rfl
  (repeat(with_reducible apply U1))
  have ih:=beg_loop hC hl hL hKo j (m+1) (by omega) (by omega)
  rw[takeS hi,List.map_append,List.map_cons,entA_at hn,List.map_nil,putL_snoc]at ih
  rw[wrap_id (n:=(m:Int)+1) (by omega)]
  exact ih
theorem begx_ok(hk:10000≤k)(hB:CBegOK G)(hC:CodeOK G)(hA:AllB G):BegX 11 (fun _ args (K:LV→OV R)=>g11 G k args K):=by
 intro x K T ha hes hel hnl hcs hcl
 show W _ K (f11 G k x.nm x.st x.fu x.vars x.ports x.timers (x.ns.map Nd.v) x.es x.cs K)
 unfold f11 l11_0
 have hl:=begin_len T
 unfold CBegOK at hB;unfold AllB at hA
 refine W_chk (by simp;omega) (W_chk (by simp;omega) ?_)
 refine W_call (hB _ _ T (by omega)) ?_
 rintro _ rfl
 (repeat(with_reducible apply U1))
 rw[Int.toNat_natCast,Int.toNat_natCast,actV_nil,actV_nil,ivs_len]
 refine beg_loop (x:={x with any:=false,ev:=[]}) (L:=dnN x.ns 0 []) hC (by omega) (begin_rng T) ?_ k 0 (by omega) (by omega)
 have hF:∀y:Int,0≤y→y<x.cs.length→(y∈putL x.cs.length ((dnN x.ns 0 []).map (entA x.ns))↔y∈(dnN x.ns 0 []).map (entA x.ns)):=fun y h0 h1=>mem_putL h0 h1 _
 refine W_call (hA {x with any:=false,ev:=[]} [] (putL x.cs.length ((dnN x.ns 0 []).map (entA x.ns))) (fun E C=>(∀E' C',Clo x.es x.cs x.ns false [] E' C'→(∀y∈(dnN x.ns 0 []).map (entA x.ns),0≤y→y<x.cs.length→y∈C')→(∀y∈E,y∈E')∧∀y∈C,0≤y→y<x.cs.length→y∈C')∧E.Nodup∧(∀y∈E,0≤y∧y<x.es.length)∧(∀y∈(dnN x.ns 0 []).map (entA x.ns),0≤y→y<x.cs.length→y∈C)∧∀(i:Nat) a b c d f s,x.es[i]? =some (edV a b c d f s)→(i:Int)∈E→∀y∈edgC x.ns x.cs.length c f [],y∈C) [] _ rfl (by simp) hes (by show x.es.length≤1000;omega) (by show x.ns.length≤1000;omega) hcs hcl
  ⟨fun E' C' h hf=>⟨fun y hy=>(by cases hy),fun y hy h0 h1=>hf y ((hF y h0 h1).1 hy) h0 h1⟩,List.nodup_nil,fun y hy=>(by cases hy),fun y hy h0 h1=>(hF y h0 h1).2 hy,fun i _ _ _ _ _ _ _ hi=>(by cases hi)⟩ (fun E C h=>nodup_rng h.2.1 h.2.2.1) (fun T E0 C0 h0 hT E C i a b c d f s hi h1 hno hw=> ?_)) ?_
 ·obtain⟨l1,n1,r1,f1,c1⟩:=h1
  have hi:x.es[i]? =some (edV a b c d f s):=hi
  have hni:(i:Int)∉E:=fun q=>by rw[hasL_iff.2 q]at hno;cases hno
  refine⟨fun E' C' hc hf=> ?_,?_,?_,fun y hy h0 h1=>mem_edgC.2 (.inl (f1 y hy h0 h1)),?_⟩
  ·obtain⟨m1,m2⟩:=l1 E' C' hc hf
   obtain⟨_,m3⟩:=h0.1 E' C' hc hf
   have hiE:(i:Int)∈E':=by
    refine hc.edges i a b c d f s hi ?_
    have hw:((false||(lateB T s||hasS [] s))=true):=hw
    rw[Bool.or_eq_true,Bool.or_eq_true]at hw
    rcases hw with q|q|q
    ·exact .inl q
    ·exact .inr (.inl (late_monoR m3 ((late_iff hT).1 q)))
    ·exact .inr (.inr q)
   refine⟨fun y hy=> ?_,fun y hy h0 h1=> ?_⟩
   ·rcases List.mem_append.1 hy with hy|hy
    ·exact m1 y hy
    ·rw[List.mem_singleton.1 hy];exact hiE
   ·rcases mem_edgC.1 hy with hy|hy
    ·exact m2 y hy h0 h1
    ·exact hc.codes i a b c d f s hi hiE y hy
  ·exact List.nodup_append.2 ⟨n1,by simp,fun p hp q hq e=>hni (by rw[List.mem_singleton]at hq;rw[←hq,←e];exact hp)⟩
  ·intro y hy
   rcases List.mem_append.1 hy with hy|hy
   ·exact r1 y hy
   ·rw[List.mem_singleton.1 hy]
    have:=(List.getElem?_eq_some_iff.1 hi).1
    omega
  ·intro i' a' b' c' d' f' s' hi' hm y hy
   rcases List.mem_append.1 hm with hm|hm
   ·exact mem_edgC.2 (.inl (c1 i' a' b' c' d' f' s' hi' hm y hy))
   ·rw[List.mem_singleton]at hm
    have e:i'=i:=by omega
    subst e
    rw[hi]at hi'
    injection hi' with hi'
    unfold edV at hi'
    injection hi' with hi'
    injection hi' with _ hi'
    injection hi' with _ hi'
    injection hi' with e3 hi'
    injection hi' with _ hi'
    injection hi' with e5 _
    injection e3 with _ e3
    injection e5 with _ e5
    rw[←e3,←e5]at hy
    exact mem_edgC.2 (.inr hy)
 rintro _ ⟨E,C,T,r1,r2,r3,rfl,⟨q1,q2,q3,q4,q5⟩,hT,hcl2⟩
 (repeat(with_reducible apply U1))
 refine W_ret ⟨E,C,by rw[hT.1],⟨fun i a b c d f s hi hw=> ?_,q5⟩,q4,fun E' C' hc hf=>⟨fun y hy _ _=>(q1 E' C' hc hf).1 y hy,(q1 E' C' hc hf).2⟩⟩
 rcases hcl2 i a b c d f s hi with h|h
 ·exact hasL_iff.1 h
 ·have h:(false||(lateB T s||hasS [] s))=false:=h
  rw[Bool.or_eq_false_iff,Bool.or_eq_false_iff]at h
  rcases hw with q|q|q
  ·cases q
  ·rw[(late_iff hT).2 q]at h;cases h.2.1
  ·rw[q]at h;cases h.2.2
end
section
variable {R : Type} {G : ORC R} {k : Nat} {K : LV → OV R} {Q : LV → Prop}
def IntsE(G:ORC R):Prop:=∀(a:List Int) (K:LV→OV R),a.length≤1000→W (fun o=>o=[.bool true]) K (G 25 [.sl 1 (ivs a),.sl 1 (ivs a)] K)
theorem intse_loop{Ko:Unit→OV R}{Kr:Bool→OV R}{a:List Int}(hl:a.length≤1000)(hKo:W Q K (Ko ())):
 ∀(j m:Nat),a.length-m<j→m≤a.length→W Q K (l25_0g G k Ko Kr j (ivs a) (ivs a) m)
 |0,m,h1,h2=>by omega
 |j+1,m,h1,h2=>by
  show W Q K (b25_0 G k (l25_0g G k Ko Kr j) Ko Kr (ivs a) (ivs a) m)
  unfold b25_0
  refine W_dec (fun h=> ?_) (fun h=>hKo)
  rw[ivs_len]at h
  obtain⟨x,hx⟩:∃x,a[m]? =some x:=⟨_,List.getElem?_eq_getElem (by omega)⟩
  have hv:(ivs a)[(m:Int).toNat]? =some (.int .i64 x):=by rw[Int.toNat_natCast];exact ivs_at hx
  refine W_at (by omega) hv (W_aI ?_)
  refine W_at (by omega) hv (W_aI ?_)
  refine W_chk' (by simp) ?_
  rw[wrap_id (n:=(m:Int)+1) (by omega)]
  exact intse_loop hl hKo j (m+1) (by omega) (by omega)
theorem intse_ok(hk:10000≤k):IntsE (fun _ args (K:LV→OV R)=>g25 G k args K):=by
 intro a K hl
 show W _ K (f25 G k (ivs a) (ivs a) K)
 unfold f25 l25_0
 refine W_chk' (by simp) ?_
 exact intse_loop (Q:=fun o=>o=[.bool true]) (Ko:=fun _=>K [.bool true]) (Kr:=fun b=>K [.bool b]) hl (W_ret rfl) k 0 (by omega) (by omega)
def TxsE(f:Nat)(G:ORC R):Prop:=∀(a:List ByteArray) (K:LV→OV R),a.length≤900000→W (fun o=>o=[.bool true]) K (G f [.sl 1 (sv a),.sl 1 (sv a)] K)
theorem txse_loop{Ko:Unit→OV R}{Kr:Bool→OV R}{a:List ByteArray}(hl:a.length≤900000)(hKo:W Q K (Ko ())):
 ∀(j m:Nat),a.length-m<j→m≤a.length→W Q K (l32_0g G k Ko Kr j (sv a) (sv a) m)
 |0,m,h1,h2=>by omega
 |j+1,m,h1,h2=>by
  show W Q K (b32_0 G k (l32_0g G k Ko Kr j) Ko Kr (sv a) (sv a) m)
  unfold b32_0
  refine W_dec (fun h=> ?_) (fun h=>hKo)
  rw[sv_len]at h
  obtain⟨x,hx⟩:∃x,a[m]? =some x:=⟨_,List.getElem?_eq_getElem (by omega)⟩
  have hv:(sv a)[(m:Int).toNat]? =some (.str x):=by rw[Int.toNat_natCast];exact sv_at hx
  refine W_at (by omega) hv ?_
  (repeat(with_reducible apply U1))
  refine W_at (by omega) hv ?_
  (repeat(with_reducible apply U1))
  refine W_chk' (by simp) ?_
  rw[wrap_id (n:=(m:Int)+1) (by omega)]
  exact txse_loop hl hKo j (m+1) (by omega) (by omega)
theorem txse_ok(hk:1000002≤k):TxsE 32 (fun _ args (K:LV→OV R)=>g32 G k args K):=by
 intro a K hl
 show W _ K (f32 G k (sv a) (sv a) K)
 unfold f32 l32_0
 refine W_chk' (by simp) ?_
 exact txse_loop (Q:=fun o=>o=[.bool true]) (Ko:=fun _=>K [.bool true]) (Kr:=fun b=>K [.bool b]) hl (W_ret rfl) k 0 (by omega) (by omega)
theorem txsE_ok(h:TxsE 32 G):TxsE 13 (fun _ args (K:LV→OV R)=>g13 G k args K):=by
 intro a K hl
 show W _ K (f13 G k (sv a) (sv a) K)
 unfold f13
 unfold TxsE at h
 refine W_call (h a _ hl) ?_
 rintro _ rfl
 (repeat(with_reducible apply U1))
 exact W_ret rfl
def SamE(G:ORC R):Prop:=∀(a b:List Int) (c:List ByteArray) (d:Bool) (K:LV→OV R),a.length≤1000→b.length≤1000→c.length≤900000→W (fun o=>o=[.bool true]) K
 (G 8 [.agg [.sl 1 (ivs a),.sl 1 (ivs b),.sl 1 (sv c),.bool d],.agg [.sl 1 (ivs a),.sl 1 (ivs b),.sl 1 (sv c),.bool d]] K)
theorem same_okE(hI:IntsE G)(hT:TxsE 13 G):SamE (fun _ args (K:LV→OV R)=>g8 G k args K):=by
 intro a b c d K h1 h2 h3
 show W _ K (f8 G k (ivs a) (ivs b) (sv c) d (ivs a) (ivs b) (sv c) d K)
 unfold f8
 unfold IntsE at hI;unfold TxsE at hT
 refine W_call (hI a _ h1) ?_
 rintro _ rfl
 (repeat(with_reducible apply U1))
 refine W_chk rfl ?_
 refine W_call (hI b _ h2) ?_
 rintro _ rfl
 (repeat(with_reducible apply U1))
 refine W_chk rfl ?_
 refine W_call (hT c _ h3) ?_
 rintro _ rfl
 (repeat(with_reducible apply U1))
 exact W_chk rfl (W_ret (by simp))
end
section
variable {R : Type} {G : ORC R} {k : Nat} {K : LV → OV R} {Q : LV → Prop}
def SayI(G:ORC R):Prop:=∀(op a n p:Int) (s:ByteArray) (K:LV→OV R),W (fun o=>o=[.bool (saidP 20 p (.agg [.int .i64 op,.int .i64 a,.int .i64 n,.str s])),.int .i64 p]) K (G 34 [.agg [.int .i64 op,.int .i64 a,.int .i64 n,.str s],.int .i64 p] K)
theorem sayi_ok:SayI (fun _ args (K:LV→OV R)=>g34 G k args K):=by
 intro op a n p s K
 show W _ K (f34 G k op a n s p K)
 unfold f34
 have e:saidP 20 p (.agg [.int .i64 op,.int .i64 a,.int .i64 n,.str s])=(op==20&&((20:Int)==19||a==p)):=rfl
 refine W_bool (fun h=>W_ret ?_) (fun h=>W_ret ?_)
 ·rw[e,h];simp
 ·rw[e,h];rfl
theorem tolds_in(hR:SayI G)(hC:CoS G){code:LV}(hA:AllI code)(hcl:code.length≤9900){L cs:LV}{n i p:Int}{T0:List ByteArray}{x:Srch}(hT:T0.length≤900000)
 {Ko:LV→LV→Int→Int→Int→ByteArray→Int→Int→LV→LV→LV→LV→LV→LV→OV R}
 (hKo:W Q K (Ko (sv (tellC (saidP 20 p) T0 code)) L n i p x.nm x.st x.fu x.vars x.ports x.timers (x.ns.map Nd.v) x.es cs)):
 ∀(j m:Nat),code.length-m<j→m≤code.length→
  W Q K (l65569_2g G k Ko j (sv (tellC (saidP 20 p) T0 (code.take m))) L n i (.sl 4 code) code.length m p x.nm x.st x.fu x.vars x.ports x.timers (x.ns.map Nd.v) x.es cs)
 |0,m,h1,h2=>by omega
 |j+1,m,h1,h2=>by
  show W Q K (b65569_2 G k (l65569_2g G k Ko j) Ko (sv (tellC (saidP 20 p) T0 (code.take m))) L n i (.sl 4 code) code.length m p x.nm x.st x.fu x.vars x.ports x.timers (x.ns.map Nd.v) x.es cs)
  unfold b65569_2
  refine W_dec (fun h=> ?_) (fun h=>by rw[List.take_of_length_le (by omega)];exact hKo)
  obtain⟨v,hv⟩:∃v,code[m]? =some v:=⟨_,List.getElem?_eq_getElem (by omega)⟩
  obtain⟨op,a,n',s,rfl⟩:=hA v (List.mem_of_getElem? hv)
  have hlen:=tellC_len (p:=saidP 20 p) (l:=code.take m) (T:=T0)
  rw[List.length_take]at hlen
  have step:tellC (saidP 20 p) T0 (code.take (m+1))=if(saidP 20 p (.agg [.int .i64 op,.int .i64 a,.int .i64 n',.str s])&& !hasS (tellC (saidP 20 p) T0 (code.take m)) s)=true then tellC (saidP 20 p) T0 (code.take m)++[s]else tellC (saidP 20 p) T0 (code.take m):=by rw[takeS hv,tellC_snoc];rfl
  have next:∀T':List ByteArray,T'=tellC (saidP 20 p) T0 (code.take (m+1))→
   W Q K (l65569_2g G k Ko j (sv T') L n i (.sl 4 code) code.length (IntKind.i64.wrap ((m:Int)+1)) p x.nm x.st x.fu x.vars x.ports x.timers (x.ns.map Nd.v) x.es cs):=fun T' q1=>by
   rw[wrap_id (n:=(m:Int)+1) (by omega),q1]
   exact tolds_in hR hC hA hcl hT hKo j (m+1) (by omega) (by omega)
  unfold SayI at hR;unfold CoS at hC
  (repeat(with_reducible apply U1))
  refine W_and (W_and (W_chk rfl (W_yes (by omega) (W_yes (by omega) ?_))))
  refine W_nk (by rw[Int.toNat_natCast];exact hv) ?_
  (repeat(with_reducible apply U1))
  refine W_call (hR _ _ _ _ _ _) ?_
  rintro _ rfl
  (repeat(with_reducible apply U1))
  refine W_bool (fun e=> ?_) (fun e=>next _ (by rw[step,e];rfl))
  refine W_call (hC _ _ _ (by omega)) ?_
  rintro _ rfl
  (repeat(with_reducible apply U1))
  refine W_not (W_bool (fun hb=>next _ (by rw[step,e,hb];rfl)) (fun hb=> ?_))
  refine W_yes (by rw[sv_len];omega) ?_
  rw[sv_snoc]
  exact next _ (by rw[step,e,hb];rfl)
def ToldsOK(G:ORC R):Prop:=∀(x:Srch) (L:List Int) (p:Int) (K:LV→OV R),CodesA x.cs→L.length≤90→(∀c∈L,0≤c∧c<x.cs.length)→
 W (fun o=>o=[.sl 1 (sv (tellL x.cs (saidP 20 p) L)),.int .i64 p]) K
   (G 65569 [.agg [.str x.nm,.int .i64 x.st,.int .i64 x.fu,.sl 1 x.vars,.sl 1 x.ports,.sl 1 x.timers,.sl 7 (x.ns.map Nd.v),.sl 6 x.es,.sl 1 x.cs],.sl 1 (ivs L),.int .i64 p] K)
theorem tolds_loop(hk:10000≤k)(hR:SayI G)(hC:CoS G){x:Srch}{L:List Int}{p:Int}(hA:CodesA x.cs)(hl:L.length≤90)(hL:∀c∈L,0≤c∧c<x.cs.length)
 {Ko:LV→Int→OV R} (hKo:W Q K (Ko (sv (tellL x.cs (saidP 20 p) L)) p)):
 ∀(j m:Nat),L.length-m<j→m≤L.length→
  W Q K (l65569_0g G k Ko j (sv (tellL x.cs (saidP 20 p) (L.take m))) (ivs L) L.length m p x.nm x.st x.fu x.vars x.ports x.timers (x.ns.map Nd.v) x.es x.cs)
 |0,m,h1,h2=>by omega
 |j+1,m,h1,h2=>by
  show W Q K (b65569_0 G k (l65569_0g G k Ko j) Ko (sv (tellL x.cs (saidP 20 p) (L.take m))) (ivs L) L.length m p x.nm x.st x.fu x.vars x.ports x.timers (x.ns.map Nd.v) x.es x.cs)
  unfold b65569_0
  refine W_dec (fun h=> ?_) (fun h=>by rw[List.take_of_length_le (by omega)];exact hKo)
  obtain⟨c,hc⟩:∃c,L[m]? =some c:=⟨_,List.getElem?_eq_getElem (by omega)⟩
  obtain⟨c0,c1⟩:=hL c (List.mem_of_getElem? hc)
  obtain⟨v,hv⟩:∃v,x.cs[c.toNat]? =some v:=⟨_,List.getElem?_eq_getElem (by omega)⟩
  obtain⟨code,rfl,a1,a2⟩:=hA v (List.mem_of_getElem? hv)
  have hlen:=tellL_len (p:=saidP 20 p) hA hL m h2
  refine W_at (by omega) (by rw[Int.toNat_natCast];exact ivs_at hc) (W_aI ?_)
  refine W_at c0 hv ?_
  (repeat(with_reducible apply U1))
  unfold l65569_2
  refine tolds_in (Ko:=fun yl31 yl32 yi33 yi34 yi35 ys36 yi37 yi38 yl39 yl40 yl41 yl42 yl43 yl44=>l65569_0g G k Ko j yl31 yl32 yi33 (IntKind.i64.wrap (yi34+1)) yi35 ys36 yi37 yi38 yl39 yl40 yl41 yl42 yl43 yl44) hR hC a1 a2 (T0:=tellL x.cs (saidP 20 p) (L.take m)) (by omega) ?_ k 0 (by omega) (by omega)
  show W Q K (l65569_0g G k Ko j (sv (tellC (saidP 20 p) (tellL x.cs (saidP 20 p) (L.take m)) code)) (ivs L) L.length (IntKind.i64.wrap ((m:Int)+1)) p x.nm x.st x.fu x.vars x.ports x.timers (x.ns.map Nd.v) x.es x.cs)
  rw[wrap_id (n:=(m:Int)+1) (by omega),←tellL_snoc hv,←takeS hc]
  exact tolds_loop hk hR hC hA hl hL hKo j (m+1) (by omega) (by omega)
theorem tolds_ok(hk:10000≤k)(hR:SayI G)(hC:CoS G):ToldsOK (fun _ args (K:LV→OV R)=>g65569 G k args K):=by
 intro x L p K hA hl hL
 show W _ K (f65569 G k x.nm x.st x.fu x.vars x.ports x.timers (x.ns.map Nd.v) x.es x.cs (ivs L) p K)
 unfold f65569 l65569_0
 rw[ivs_len]
 exact tolds_loop (Q:=fun o=>o=[.sl 1 (sv (tellL x.cs (saidP 20 p) L)),.int .i64 p]) (Ko:=fun y z=>K [.sl 1 y,.int .i64 z]) hk hR hC hA hl hL (W_ret rfl) k 0 (by omega) (by omega)
def upTo(n:Nat):List Int:=(List.range n).map fun j:Nat=>(j:Int)
theorem upTo_succ{n:Nat}:upTo (n+1)=upTo n++[(n:Int)]:=by unfold upTo;rw[List.range_succ,List.map_append];rfl
theorem upTo_len{n:Nat}:(upTo n).length=n:=by simp[upTo]
theorem upTo_rng{n:Nat}:∀c∈upTo n,0≤c∧c<n:=fun c hc=>by
 obtain⟨j,hj,rfl⟩:=List.mem_map.1 hc
 have:=List.mem_range.1 hj
 omega
def SaysX(f:Nat)(G:ORC R):Prop:=∀(x:Srch) (p:Int) (K:LV→OV R),CodesA x.cs→x.cs.length≤90→W (fun o=>o=[.sl 1 (sv (tellL x.cs (saidP 20 p) (upTo x.cs.length)))]) K
    (G f [.agg [.str x.nm,.int .i64 x.st,.int .i64 x.fu,.sl 1 x.vars,.sl 1 x.ports,.sl 1 x.timers,.sl 7 (x.ns.map Nd.v),.sl 6 x.es,.sl 1 x.cs],.int .i64 p] K)
theorem rsays_loop{x:Srch}{p:Int}(hcl:x.cs.length≤90){Ko:Int→LV→ByteArray→Int→Int→LV→LV→LV→LV→LV→LV→OV R}(hKo:W Q K (Ko p (ivs (upTo x.cs.length)) x.nm x.st x.fu x.vars x.ports x.timers (x.ns.map Nd.v) x.es x.cs)):
 ∀(j m:Nat),x.cs.length-m<j→m≤x.cs.length→W Q K (l15_0g G k Ko j p (ivs (upTo m)) m x.nm x.st x.fu x.vars x.ports x.timers (x.ns.map Nd.v) x.es x.cs)
 |0,m,h1,h2=>by omega
 |j+1,m,h1,h2=>by
  show W Q K (b15_0 G k (l15_0g G k Ko j) Ko p (ivs (upTo m)) m x.nm x.st x.fu x.vars x.ports x.timers (x.ns.map Nd.v) x.es x.cs)
  unfold b15_0
  refine W_dec (fun h=> ?_) (fun h=>by rw[show m=x.cs.length by omega];exact hKo)
  refine W_yes (by rw[ivs_len,upTo_len];omega) ?_
  have ih:=rsays_loop hcl hKo j (m+1) (by omega) (by omega)
  rw[upTo_succ,ivs_app]at ih
  rw[wrap_id (n:=(m:Int)+1) (by omega)]
  exact ih
theorem rsays_ok(hk:10000≤k)(hS:SaidOK G):SaysX 15 (fun _ args (K:LV→OV R)=>g15 G k args K):=by
 intro x p K hA hcl
 show W _ K (f15 G k x.nm x.st x.fu x.vars x.ports x.timers (x.ns.map Nd.v) x.es x.cs p K)
 unfold f15 l15_0
 refine rsays_loop hcl ?_ k 0 (by omega) (by omega)
 unfold SaidOK at hS
 refine W_call (hS x _ _ _ _ hA (by rw[upTo_len];omega) upTo_rng) ?_
 rintro _ rfl
 (repeat(with_reducible apply U1))
 exact W_ret rfl
def fillU(n m:Nat):LV:=ivs (upTo m)++List.replicate (n-m) (V.int .i64 0)
theorem fillU_len{n m:Nat}(h:m≤n):(fillU n m).length=n:=by unfold fillU;rw[List.length_append,ivs_len,upTo_len,List.length_replicate];omega
theorem fillU_set{n m:Nat}(h:m<n):(fillU n m).set m (.int .i64 (m:Int))=fillU n (m+1):=by
 unfold fillU
 rw[upTo_succ,ivs_app,show n-m=(n-(m+1))+1 by omega,List.replicate_succ,List.append_assoc]
 have:=List.set_append_right (s:=ivs (upTo m)) (t:=V.int .i64 0::List.replicate (n-(m+1)) (V.int .i64 0)) m (.int .i64 (m:Int)) (by rw[ivs_len,upTo_len];omega)
 rw[this,ivs_len,upTo_len,Nat.sub_self]
 rfl
theorem says_loop{x:Srch}{p:Int}(hcl:x.cs.length≤90){Ko:LV→ByteArray→Int→Int→LV→LV→LV→LV→LV→LV→Int→OV R}(hKo:W Q K (Ko (ivs (upTo x.cs.length)) x.nm x.st x.fu x.vars x.ports x.timers (x.ns.map Nd.v) x.es x.cs p)):
 ∀(j m:Nat),x.cs.length-m<j→m≤x.cs.length→W Q K (l14_0g G k Ko j (fillU x.cs.length m) x.cs.length m x.nm x.st x.fu x.vars x.ports x.timers (x.ns.map Nd.v) x.es x.cs p)
 |0,m,h1,h2=>by omega
 |j+1,m,h1,h2=>by
  show W Q K (b14_0 G k (l14_0g G k Ko j) Ko (fillU x.cs.length m) x.cs.length m x.nm x.st x.fu x.vars x.ports x.timers (x.ns.map Nd.v) x.es x.cs p)
  unfold b14_0
  refine W_dec (fun h=> ?_) (fun h=> ?_)
  ·have hL:=fillU_len h2
   obtain⟨v,hv⟩:∃v,(fillU x.cs.length m)[m]? =some v:=⟨_,List.getElem?_eq_getElem (by omega)⟩
   refine W_at (by omega) (by rw[Int.toNat_natCast];exact hv) ?_
   rw[Int.toNat_natCast,fillU_set (by omega),wrap_id (n:=(m:Int)+1) (by omega)]
   exact says_loop hcl hKo j (m+1) (by omega) (by omega)
  ·have e:fillU x.cs.length m=ivs (upTo x.cs.length):=by unfold fillU;rw[show m=x.cs.length by omega,Nat.sub_self];simp
   rw[e];exact hKo
theorem says_ok(hk:10000≤k)(hT:ToldsOK G):SaysX 14 (fun _ args (K:LV→OV R)=>g14 G k args K):=by
 intro x p K hA hcl
 show W _ K (f14 G k x.nm x.st x.fu x.vars x.ports x.timers (x.ns.map Nd.v) x.es x.cs p K)
 unfold f14 l14_0
 refine W_chk (by simp;omega) ?_
 rw[Int.toNat_natCast,List.length_replicate]
 refine says_loop hcl ?_ k 0 (by omega) (by omega)
 unfold ToldsOK at hT
 refine W_call (hT x _ _ _ hA (by rw[upTo_len];omega) upTo_rng) ?_
 rintro _ rfl
 (repeat(with_reducible apply U1))
 exact W_ret rfl
end
section
variable {R : Type} {G : ORC R} {k : Nat} {K : LV → OV R}
def NamesNE(l:List Nd):Prop:=(∀n,l[0]? =some n→n.name.toList=[])∧∀(j:Nat) n,l[j]? =some n→0<j→n.name.toList≠[]
def FindOK(G:ORC R):Prop:=∀(l:List Nd) (s:ByteArray) (K:LV→OV R),l.length≤1000→W (fun o=>o=[.int .i64 (findN l s)]) K (G 67 [.sl 7 (l.map Nd.v),.str s] K)
theorem find_loop{Q:LV→Prop}{K:LV→OV R}{Ko:Unit→OV R}{Kr:Int→OV R}{l:List Nd}{s:ByteArray}(hl:l.length≤1000)
 (hKo:findN l s= -1→W Q K (Ko ())) (hKr:∀i,i=findN l s→W Q K (Kr i)):
 ∀(j i:Nat),l.length-i<j→findGo s (l.drop i) i=findN l s→W Q K (l67_0g G k Ko Kr j (l.map Nd.v) s i)
 |0,i,h1,h2=>by omega
 |j+1,i,h1,h2=>by
  show W Q K (b67_0 G k (l67_0g G k Ko Kr j) Ko Kr (l.map Nd.v) s i)
  unfold b67_0
  simp only[List.length_map]
  refine W_dec (fun h=> ?_) (fun h=> ?_)
  ·refine W_and (W_yes (by omega) (W_yes h ?_))
   refine W_nthN (by omega) (fun n hn=>W_nd ?_)
   rw[Int.toNat_natCast]at hn
   have hd:l.drop i=n::l.drop (i+1):=by
    have hi:i<l.length:=by omega
    rw[List.drop_eq_getElem_cons hi]
    rw[List.getElem?_eq_getElem hi]at hn;cases hn;rfl
   refine W_ce7 (W_asStr ?_)
   rw[hd]at h2
   unfold findGo at h2
   refine W_bool (fun e=> ?_) (fun e=> ?_)
   ·rw[if_pos (beq_iff_eq.1 e)]at h2
    exact hKr _ h2
   ·rw[if_neg (fun e'=>by rw[e',beq_self_eq_true]at e;cases e)]at h2
    rw[wrap_id (n:=(i:Int)+1) (by omega)]
    exact find_loop hl hKo hKr j (i+1) (by omega) h2
  ·refine hKo ?_
   rw[←h2,List.drop_eq_nil_of_le (by omega)];rfl
theorem find_ok(hk:10000≤k):FindOK (fun _ args (K:LV→OV R)=>g67 G k args K):=by
 intro l s K hl
 show W _ K (f67 G k (l.map Nd.v) s K)
 unfold f67 l67_0
 exact find_loop (Q:=fun o=>o=[.int .i64 (findN l s)]) (K:=K) (Ko:=fun _=>K [.int .i64 (-1)]) (Kr:=fun i=>K [.int .i64 i]) hl (fun e=>W_ret (by rw[e])) (fun i e=>W_ret (by rw[e])) k 1 (by omega) rfl
end
section
variable {R : Type} {G : ORC R} {k : Nat} {K : LV → OV R}
def ins(op a n:Int):V:=.agg [.int .i64 op,.int .i64 a,.int .i64 n,.str ⟨#[]⟩]
def insS(op a n:Int)(s:ByteArray):V:=.agg [.int .i64 op,.int .i64 a,.int .i64 n,.str s]
structure Nms where
 a:LV
 p:LV
 t:LV
 nd:List Nd
def Nms.v(N:Nms):V:=.agg [.sl 1 N.a,.sl 1 N.p,.sl 1 N.t,.sl 7 (N.nd.map Nd.v)]
def Nms.ok(N:Nms):Prop:=StrsS 100 N.a∧StrsS 100 N.p∧StrsS 100 N.t∧N.nd.length≤1000∧NamesNE N.nd
def plGo(s:ByteArray):LV→Int→Int
 | .str t::r,i=>if t.toList=s.toList then i else plGo s r (i+1)
 |_,_=> -1
def plN(l:LV)(s:ByteArray):Int:=plGo s l 0
def andX(at_:Nat)(E0 E1:LV):LV:=
 E0++ins 24 (at_+E0.length+1+E1.length+3) 0::(E1++[ins 24 (at_+E0.length+1+E1.length+3) 0,ins 1 0 1,ins 23 (at_+E0.length+1+E1.length+4) 0,ins 1 0 0])
def orX(at_:Nat)(E0 E1:LV):LV:=
 E0++[ins 24 (at_+E0.length+3) 0,ins 1 0 1,ins 23 (at_+E0.length+3+E1.length+4) 0]++(E1++[ins 24 (at_+E0.length+3+E1.length+3) 0,ins 1 0 1,ins 23 (at_+E0.length+3+E1.length+4) 0,ins 1 0 0])
def cE(N:Nms):Nat→Nat→V→LV
 |d+1,at_,.agg [.int _ kind,.int _ n,.str nm,.sl _ kids,_]=>
  if kind=1 then[ins 1 0 n]else if kind=2 then[ins 2 (plN N.a nm) 0]else if kind=3 then[ins 3 0 0]else if kind=4 then[ins 4 (findN N.nd nm) 0]
  else match kids with
   | [a]=>cE N d at_ a++[ins kind 0 0]
   | [a,b]=>let E0:=cE N d at_ a
     if kind=18 then andX at_ E0 (cE N d (at_+E0.length+1) b)
     else if kind=19 then orX at_ E0 (cE N d (at_+E0.length+3) b)
     else E0++cE N d (at_+E0.length) b++[ins kind 0 0]
   |_=>[]
 |_,_,_=>[]
theorem andX_len{a:Nat}{E0 E1:LV}:(andX a E0 E1).length=E0.length+E1.length+5:=by simp[andX];omega
theorem orX_len{a:Nat}{E0 E1:LV}:(orX a E0 E1).length=E0.length+E1.length+7:=by simp[orX];omega
theorem cE_len{N:Nms}:∀{d at_:Nat} {e:V},ExprS d e→(cE N d at_ e).length≤ce d
 |0,_,_,h=>h.elim
 |d+1,at_,e,h=>by
  obtain⟨kind,n,nm,kids,rfl,x1,x2,x3,x4,x5,x6,x7⟩:=h
  have hce:ce (d+1)=2*ce d+8:=rfl
  unfold cE
  split
  ·simp;omega
  split
  ·simp;omega
  split
  ·simp;omega
  split
  ·simp;omega
  split
  ·rename_i a
   have:=cE_len (N:=N) (at_:=at_) (x6 a (by simp))
   simp;omega
  ·rename_i a b
   have h1:=cE_len (N:=N) (at_:=at_) (x6 a (by simp))
   have h2:=fun q=>cE_len (N:=N) (at_:=q) (x6 b (by simp))
   dsimp only
   split
   ·rw[andX_len];have:=h2 (at_+(cE N d at_ a).length+1);omega
   split
   ·rw[orX_len];have:=h2 (at_+(cE N d at_ a).length+3);omega
   ·simp;have:=h2 (at_+(cE N d at_ a).length);omega
  ·simp
theorem set_at{L Q:LV}{x v:V}{i:Nat}(h:i=L.length):(L++x::Q).set i v=L++v::Q:=by subst h;simp
theorem get_at{L Q:LV}{x:V}{i:Nat}(h:i=L.length):(L++x::Q)[i]? =some x:=by subst h;simp
theorem W_nth0{Q:LV→Prop}{a:V}{l:LV}{F:V→OV R}(h:W Q K (F a)):W Q K (nthK (a::l) 0 F):=h
theorem W_nth1{Q:LV→Prop}{a b:V}{l:LV}{F:V→OV R}(h:W Q K (F b)):W Q K (nthK (a::b::l) 1 F):=h
def PlX(f:FuncId)(G:ORC R):Prop:=∀(l:LV) (s:ByteArray) (K:LV→OV R),StrsS 100 l→W (fun o=>o=[.int .i64 (plN l s)]) K (G f [.sl 1 l,.str s] K)
theorem pl_go{s:ByteArray}:∀{l:LV} {m:Nat} {i:Int},StrsS 100 l→m≤l.length→(∀j t,j<m→l[j]? =some (.str t)→t.toList≠s.toList)→plGo s l i=plGo s (l.drop m) (i+m)
 |l,0,i,h,h1,h2=>by simp
 | [],m+1,i,h,h1,h2=>by simp at h1
 |v::r,m+1,i,h,h1,h2=>by
  obtain⟨t,rfl,ht⟩:=h.2 v List.mem_cons_self
  have hne:=h2 0 t (by omega) rfl
  rw[plGo,if_neg hne,List.drop_succ_cons]
  rw[pl_go (m:=m) (i:=i+1) ⟨by have:=h.1;simp at this;omega,fun v hv=>h.2 v (List.mem_cons_of_mem _ hv)⟩ (by simp at h1;omega) (fun j t hj e=>h2 (j+1) t (by omega) (by simpa using e))]
  congr 1;omega
theorem pl_hit{s t:ByteArray}{l:LV}{m:Nat}(h:StrsS 100 l)(h2:∀j t,j<m→l[j]? =some (.str t)→t.toList≠s.toList)(hm:l[m]? =some (.str t))(he:t.toList=s.toList):plN l s=m:=by
 obtain⟨hl,e⟩:=List.getElem?_eq_some_iff.1 hm
 unfold plN
 rw[pl_go h (Nat.le_of_lt hl) h2,List.drop_eq_getElem_cons hl,e,plGo,if_pos he];omega
theorem pl_none{s:ByteArray}{l:LV}(h:StrsS 100 l)(h2:∀j t,j<l.length→l[j]? =some (.str t)→t.toList≠s.toList):plN l s= -1:=by
 unfold plN
 rw[pl_go h (Nat.le_refl _) h2,List.drop_length];rfl
theorem plx_loop{Q:LV→Prop}{K:LV→OV R}{Ko:Unit→OV R}{Kr:Int→OV R}{l:LV}{s:ByteArray}(hl:StrsS 100 l)(hKo:plN l s= -1→W Q K (Ko ()))(hKr:∀i,plN l s=i→W Q K (Kr i)):
 ∀(j m:Nat),l.length-m<j→m≤l.length→(∀j t,j<m→l[j]? =some (.str t)→t.toList≠s.toList)→W Q K (l102_0g G k Ko Kr j l s m)
 |0,m,h1,h2,h3=>by omega
 |j+1,m,h1,h2,h3=>by
  show W Q K (b102_0 G k (l102_0g G k Ko Kr j) Ko Kr l s m)
  unfold b102_0
  have hll:=hl.1
  refine W_dec (fun h=> ?_) (fun h=>hKo (pl_none hl (by rw[show l.length=m by omega];exact h3)))
  obtain⟨v,hv⟩:∃v,l[m]? =some v:=⟨_,List.getElem?_eq_getElem (by omega)⟩
  obtain⟨t,rfl,ht⟩:=hl.2 v (List.mem_of_getElem? hv)
  refine W_at (by omega) (by rw[Int.toNat_natCast];exact hv) (W_asStr (W_bool (fun he=>hKr m (pl_hit hl h3 hv (by simpa using he))) (fun he=> ?_)))
  rw[wrap_id (n:=(m:Int)+1) (by omega)]
  refine plx_loop hl hKo hKr j (m+1) (by omega) (by omega) (fun i u hi hu=> ?_)
  by_cases e:i=m
  ·subst e;rw[hv]at hu;cases hu;intro c;rw[c]at he;simp at he
  ·exact h3 i u (by omega) hu
theorem plx_ok(hk:10000≤k):PlX 102 (fun _ args (K:LV→OV R)=>g102 G k args K):=by
 intro l s K hl
 show W _ K (f102 G k l s K)
 unfold f102 l102_0
 have hll:=hl.1
 exact plx_loop (Q:=fun o=>o=[.int .i64 (plN l s)]) (K:=K) hl (fun e=>W_ret (by rw[e])) (fun i e=>W_ret (by rw[e])) k 0 (by omega) (by omega) (fun j t h=>by omega)
def OpX(f:FuncId)(G:ORC R):Prop:=∀(n:Int) (K:LV→OV R),5≤n→n≤17→W (fun o=>o=[.int .i64 n]) K (G f [.int .i64 n] K)
theorem opx_ok:OpX 103 (fun _ args (K:LV→OV R)=>g103 G k args K):=by
 intro n K h1 h2
 show W _ K (f103 G k n K)
 unfold f103
 refine W_beqI (fun e=>W_ret (by rw[e])) (fun _=> ?_)
 refine W_beqI (fun e=>W_ret (by rw[e])) (fun _=>W_ret ?_)
 rw[wrap_id (n:=7+n) (by omega),wrap_id (n:=7+n-7) (by omega),show 7+n-7=n by omega]
def RX(d:Nat)(G:ORC R):Prop:=∀(c:LV) (e:V) (N:Nms) (K:LV→OV R),ExprS d e→N.ok→c.length+ce d≤1000000→W (fun o=>o=[.sl 4 (c++cE N d c.length e)]) K (G 92 [.sl 4 c,e,N.v] K)
def RBX(f:FuncId)(X:Nat→LV→LV→LV)(q:Nat)(d:Nat)(G:ORC R):Prop:=∀(c:LV) (kind n x:Int) (nm:ByteArray) (a b:V) (N:Nms) (K:LV→OV R),ExprS d a→ExprS d b→N.ok→c.length+ce (d+1)≤1000000→
 W (fun o=>o=[.sl 4 (c++X c.length (cE N d c.length a) (cE N d (c.length+(cE N d c.length a).length+q) b))]) K (G f [.sl 4 c,.agg [.int .i64 kind,.int .i64 n,.str nm,.sl 5 [a,b],.int .i64 x],N.v] K)
theorem randx_ok{d:Nat}(hE:RX d G):RBX 104 andX 1 d (fun _ args (K:LV→OV R)=>g104 G k args K):=by
 intro c kind n x nm a b N K ha hb hN hm
 show W _ K (f104 G k c kind n nm [a,b] x N.a N.p N.t (N.nd.map Nd.v) K)
 unfold f104
 have hce:ce (d+1)=2*ce d+8:=rfl
 unfold RX at hE
 cases d with
 |zero=>exact ha.elim
 |succ d=>
 have l0:=cE_len (N:=N) (at_:=c.length) ha
 have l1:=fun q=>cE_len (N:=N) (at_:=q) hb
 have ha':=ha
 have hb':=hb
 obtain⟨_,_,_,_,rfl,_⟩:=ha
 obtain⟨_,_,_,_,rfl,_⟩:=hb
 refine W_yes (by simp) (W_nth0 (W_asAgg ?_))
 refine W_call (hE c _ N _ ha' hN (by omega)) ?_
 rintro _ rfl
 generalize hE0:cE N (d+1) c.length _=E0 at l0 ⊢
 refine W_uL (W_unNil (W_yes (by simp;omega) (W_yes (by simp) (W_nth1 (W_asAgg ?_)))))
 refine W_call (hE _ _ N _ hb' hN (by simp;omega)) ?_
 rintro _ rfl
 have hl:(c++E0++[V.agg [.int .i64 24,.int .i64 0,.int .i64 0,.str ⟨#[]⟩]]).length=c.length+E0.length+1:=by simp;omega
 rw[hl]
 have l1:=l1 (c.length+E0.length+1)
 generalize hE1:cE N (d+1) (c.length+E0.length+1) _=E1 at l1 ⊢
 refine W_uL (W_unNil (W_yes (by simp;omega) ?_))
 have e1:c++E0++[V.agg [.int .i64 24,.int .i64 0,.int .i64 0,.str ⟨#[]⟩]]++E1++[V.agg [.int .i64 24,.int .i64 0,.int .i64 0,.str ⟨#[]⟩],.agg [.int .i64 1,.int .i64 0,.int .i64 1,.str ⟨#[]⟩],.agg [.int .i64 23,.int .i64 0,.int .i64 0,.str ⟨#[]⟩]]=(c++E0)++ins 24 0 0::(E1++[ins 24 0 0,ins 1 0 1,ins 23 0 0]):=by simp[ins]
 have hy:(c++E0++[V.agg [.int .i64 24,.int .i64 0,.int .i64 0,.str ⟨#[]⟩]]++E1).length=c.length+E0.length+1+E1.length:=by simp;omega
 rw[e1,hy]
 refine W_at (by omega) (get_at (by(first|(simp only[Int.toNat_natCast,List.length_append,List.length_cons,List.length_nil,List.length_set];done)|(simp only[Int.toNat_natCast,List.length_append,List.length_cons,List.length_nil,List.length_set];omega)))) (W_ca4 ?_)
 rw[set_at (L:=c++E0) (by(first|(simp only[Int.toNat_natCast,List.length_append,List.length_cons,List.length_nil,List.length_set];done)|(simp only[Int.toNat_natCast,List.length_append,List.length_cons,List.length_nil,List.length_set];omega)))]
 have e2:∀z:V,(c++E0)++z::(E1++[ins 24 0 0,ins 1 0 1,ins 23 0 0])=(c++E0++z::E1)++ins 24 0 0::[ins 1 0 1,ins 23 0 0]:=fun z=>by simp
 rw[e2]
 refine W_at (by omega) (get_at (by(first|(simp only[Int.toNat_natCast,List.length_append,List.length_cons,List.length_nil,List.length_set];done)|(simp only[Int.toNat_natCast,List.length_append,List.length_cons,List.length_nil,List.length_set];omega)))) (W_ca4 ?_)
 rw[set_at (L:=c++E0++_::E1) (by(first|(simp only[Int.toNat_natCast,List.length_append,List.length_cons,List.length_nil,List.length_set];done)|(simp only[Int.toNat_natCast,List.length_append,List.length_cons,List.length_nil,List.length_set];omega)))]
 refine W_yes (by(first|(simp only[Int.toNat_natCast,List.length_append,List.length_cons,List.length_nil,List.length_set];done)|(simp only[Int.toNat_natCast,List.length_append,List.length_cons,List.length_nil,List.length_set];omega))) ?_
 rw[wrap_id (n:=((c.length+E0.length+1+E1.length:Nat):Int)+2) (by omega)]
 have e3:∀z y w:V,(c++E0++z::E1++[y,ins 1 0 1,ins 23 0 0])++[w]=(c++E0++z::E1++[y,ins 1 0 1])++ins 23 0 0::[w]:=fun z y w=>by simp
 rw[e3]
 have hi:(((c.length+E0.length+1+E1.length:Nat):Int)+2).toNat=c.length+E0.length+1+E1.length+2:=by omega
 refine W_at (by omega) (get_at (by rw[hi];(first|(simp only[Int.toNat_natCast,List.length_append,List.length_cons,List.length_nil,List.length_set];done)|(simp only[Int.toNat_natCast,List.length_append,List.length_cons,List.length_nil,List.length_set];omega)))) (W_ca4 ?_)
 rw[hi,set_at (L:=c++E0++_::E1++[_,ins 1 0 1]) (by(first|(simp only[Int.toNat_natCast,List.length_append,List.length_cons,List.length_nil,List.length_set];done)|(simp only[Int.toNat_natCast,List.length_append,List.length_cons,List.length_nil,List.length_set];omega)))]
 refine W_ret ?_
 simp[andX,ins]
 omega
theorem rorx_ok{d:Nat}(hE:RX d G):RBX 105 orX 3 d (fun _ args (K:LV→OV R)=>g105 G k args K):=by
 intro c kind n x nm a b N K ha hb hN hm
 show W _ K (f105 G k c kind n nm [a,b] x N.a N.p N.t (N.nd.map Nd.v) K)
 unfold f105
 have hce:ce (d+1)=2*ce d+8:=rfl
 unfold RX at hE
 cases d with
 |zero=>exact ha.elim
 |succ d=>
 have l0:=cE_len (N:=N) (at_:=c.length) ha
 have l1:=fun q=>cE_len (N:=N) (at_:=q) hb
 have ha':=ha
 have hb':=hb
 obtain⟨_,_,_,_,rfl,_⟩:=ha
 obtain⟨_,_,_,_,rfl,_⟩:=hb
 refine W_yes (by simp) (W_nth0 (W_asAgg ?_))
 refine W_call (hE c _ N _ ha' hN (by omega)) ?_
 rintro _ rfl
 generalize hE0:cE N (d+1) c.length _=E0 at l0 ⊢
 refine W_uL (W_unNil (W_yes (by simp;omega) ?_))
 have e1:c++E0++[V.agg [.int .i64 24,.int .i64 0,.int .i64 0,.str ⟨#[]⟩],.agg [.int .i64 1,.int .i64 0,.int .i64 1,.str ⟨#[]⟩],.agg [.int .i64 23,.int .i64 0,.int .i64 0,.str ⟨#[]⟩]]=(c++E0)++ins 24 0 0::[ins 1 0 1,ins 23 0 0]:=by simp[ins]
 rw[e1]
 refine W_at (by omega) (get_at (by(first|(simp only[Int.toNat_natCast,List.length_append,List.length_cons,List.length_nil,List.length_set];done)|(simp only[Int.toNat_natCast,List.length_append,List.length_cons,List.length_nil,List.length_set];omega)))) (W_ca4 ?_)
 rw[set_at (L:=c++E0) (by(first|(simp only[Int.toNat_natCast,List.length_append,List.length_cons,List.length_nil,List.length_set];done)|(simp only[Int.toNat_natCast,List.length_append,List.length_cons,List.length_nil,List.length_set];omega)))]
 have hl:∀z:V,(c++E0++z::[ins 1 0 1,ins 23 0 0]).length=c.length+E0.length+3:=fun z=>by simp;omega
 rw[hl]
 refine W_yes (by simp) (W_nth1 (W_asAgg ?_))
 refine W_call (hE _ _ N _ hb' hN (by rw[hl];omega)) ?_
 rintro _ rfl
 rw[hl]
 have l1:=l1 (c.length+E0.length+3)
 generalize hE1:cE N (d+1) (c.length+E0.length+3) _=E1 at l1 ⊢
 refine W_uL (W_unNil (W_yes (by(first|(simp only[Int.toNat_natCast,List.length_append,List.length_cons,List.length_nil,List.length_set];done)|(simp only[Int.toNat_natCast,List.length_append,List.length_cons,List.length_nil,List.length_set];omega))) ?_))
 have e2:∀z:V,c++E0++z::[ins 1 0 1,ins 23 0 0]++E1++[V.agg [.int .i64 24,.int .i64 0,.int .i64 0,.str ⟨#[]⟩],.agg [.int .i64 1,.int .i64 0,.int .i64 1,.str ⟨#[]⟩],.agg [.int .i64 23,.int .i64 0,.int .i64 0,.str ⟨#[]⟩]]=(c++E0++z::[ins 1 0 1,ins 23 0 0]++E1)++ins 24 0 0::[ins 1 0 1,ins 23 0 0]:=fun z=>by simp[ins]
 rw[e2]
 refine W_at (by omega) (get_at (by(first|(simp only[Int.toNat_natCast,List.length_append,List.length_cons,List.length_nil,List.length_set];done)|(simp only[Int.toNat_natCast,List.length_append,List.length_cons,List.length_nil,List.length_set];omega)))) (W_ca4 ?_)
 rw[set_at (L:=c++E0++_::[ins 1 0 1,ins 23 0 0]++E1) (by(first|(simp only[Int.toNat_natCast,List.length_append,List.length_cons,List.length_nil,List.length_set];done)|(simp only[Int.toNat_natCast,List.length_append,List.length_cons,List.length_nil,List.length_set];omega)))]
 refine W_yes (by(first|(simp only[Int.toNat_natCast,List.length_append,List.length_cons,List.length_nil,List.length_set];done)|(simp only[Int.toNat_natCast,List.length_append,List.length_cons,List.length_nil,List.length_set];omega))) ?_
 have hx:((c++E0).length:Int)=(c.length+E0.length:Nat):=by simp
 have hy:∀z:V,((c++E0++z::[ins 1 0 1,ins 23 0 0]++E1).length:Int)=(c.length+E0.length+3+E1.length:Nat):=fun z=>by simp;omega
 rw[hx,hy]
 rw[wrap_id (n:=((c.length+E0.length:Nat):Int)+2) (by omega),wrap_id (n:=((c.length+E0.length+3+E1.length:Nat):Int)+2) (by omega)]
 have e3:∀z y w:V,c++E0++z::[ins 1 0 1,ins 23 0 0]++E1++y::[ins 1 0 1,ins 23 0 0]++[w]=(c++E0++[z,ins 1 0 1])++ins 23 0 0::(E1++y::[ins 1 0 1,ins 23 0 0,w]):=fun z y w=>by simp
 rw[e3]
 have hi:(((c.length+E0.length:Nat):Int)+2).toNat=c.length+E0.length+2:=by omega
 have hj:(((c.length+E0.length+3+E1.length:Nat):Int)+2).toNat=c.length+E0.length+3+E1.length+2:=by omega
 refine W_at (by omega) (get_at (by rw[hi];(first|(simp only[Int.toNat_natCast,List.length_append,List.length_cons,List.length_nil,List.length_set];done)|(simp only[Int.toNat_natCast,List.length_append,List.length_cons,List.length_nil,List.length_set];omega)))) (W_ca4 ?_)
 rw[hi,set_at (L:=c++E0++[_,ins 1 0 1]) (by(first|(simp only[Int.toNat_natCast,List.length_append,List.length_cons,List.length_nil,List.length_set];done)|(simp only[Int.toNat_natCast,List.length_append,List.length_cons,List.length_nil,List.length_set];omega)))]
 have e4:∀z u y w:V,(c++E0++[z,ins 1 0 1])++u::(E1++y::[ins 1 0 1,ins 23 0 0,w])=(c++E0++[z,ins 1 0 1]++u::E1++[y,ins 1 0 1])++ins 23 0 0::[w]:=fun z u y w=>by simp
 rw[e4]
 refine W_at (by omega) (get_at (by rw[hj];(first|(simp only[Int.toNat_natCast,List.length_append,List.length_cons,List.length_nil,List.length_set];done)|(simp only[Int.toNat_natCast,List.length_append,List.length_cons,List.length_nil,List.length_set];omega)))) (W_ca4 ?_)
 rw[hj,set_at (L:=c++E0++[_,ins 1 0 1]++_::E1++[_,ins 1 0 1]) (by(first|(simp only[Int.toNat_natCast,List.length_append,List.length_cons,List.length_nil,List.length_set];done)|(simp only[Int.toNat_natCast,List.length_append,List.length_cons,List.length_nil,List.length_set];omega)))]
 refine W_ret ?_
 simp[orX,ins]
 omega
theorem rexprx_ok{d:Nat}(hPl:PlX 102 G)(hF:FindOK G)(hOp:OpX 103 G)(hE:RX d G)(hA:RBX 104 andX 1 d G)(hO:RBX 105 orX 3 d G):RX (d+1) (fun _ args (K:LV→OV R)=>g92 G k args K):=by
 intro c e N K he hN hm
 have hlen:=cE_len (N:=N) (at_:=c.length) he
 obtain⟨kind,n,nm,kids,rfl,x1,x2,x3,x4,x5,x6,x7⟩:=he
 show W _ K (f92 G k c kind n nm kids 0 N.a N.p N.t (N.nd.map Nd.v) K)
 unfold f92
 have hce:ce (d+1)=2*ce d+8:=rfl
 unfold RX at hE;unfold RBX at hA hO;unfold PlX at hPl;unfold FindOK at hF;unfold OpX at hOp
 have hc1:c.length+1≤1073741824:=by omega
 refine W_beqI (fun h=>W_yes hc1 (W_ret (by unfold cE;rw[if_pos h];rfl))) (fun h1=> ?_)
 refine W_beqI (fun h=> ?_) (fun h2=> ?_)
 ·refine W_call (hPl _ _ _ hN.1) ?_
  rintro _ rfl
  (repeat(with_reducible apply U1))
  exact W_yes hc1 (W_ret (by unfold cE;rw[if_neg h1,if_pos h];rfl))
 refine W_beqI (fun h=>W_yes hc1 (W_ret (by unfold cE;rw[if_neg h1,if_neg h2,if_pos h];rfl))) (fun h3=> ?_)
 refine W_beqI (fun h=> ?_) (fun h4=> ?_)
 ·refine W_call (hF _ _ _ hN.2.2.2.1) ?_
  rintro _ rfl
  (repeat(with_reducible apply U1))
  exact W_yes hc1 (W_ret (by unfold cE;rw[if_neg h1,if_neg h2,if_neg h3,if_pos h];rfl))
 have unary:(kind=5∨kind=6)→W (fun o=>o=[.sl 4 (c++cE N (d+1) c.length (.agg [.int .i64 kind,.int .i64 n,.str nm,.sl 5 kids,.int .i64 0]))]) K
  (bif decide (0<((List.length kids:Nat):Int))then nthK kids 0 fun e17=>V.asAgg e17 fun l18=>G 92 [.sl 4 c,.agg l18,.agg [.sl 1 N.a,.sl 1 N.p,.sl 1 N.t,.sl 7 (N.nd.map Nd.v)]] fun o19=>uL 4 o19 fun l21 r20=>unNil r20 (G 103 [.int .i64 kind] fun o22=>uI .i64 o22 fun n24 r23=>unNil r23 (bif decide (List.length l21+1≤1073741824)then K [.sl 4 (l21++[.agg [.int .i64 n24,.int .i64 0,.int .i64 0,.str ⟨#[]⟩]])]else none))else none):=fun h=>by
  have hk1:kids.length=1:=by omega
  obtain⟨a,rfl⟩:∃a,kids=[a]:=by
   match kids,hk1 with
   | [a],_=>exact⟨a,rfl⟩
  have ha:=x6 a (by simp)
  have la:=cE_len (N:=N) (at_:=c.length) ha
  have ha':=ha
  cases d with
  |zero=>exact ha.elim
  |succ d=>
  obtain⟨_,_,_,_,rfl,_⟩:=ha
  refine W_yes (by simp) (W_nth0 (W_asAgg ?_))
  refine W_call (hE c _ N _ ha' hN (by omega)) ?_
  rintro _ rfl
  refine W_uL (W_unNil ?_)
  refine W_call (hOp _ _ (by omega) (by omega)) ?_
  rintro _ rfl
  refine W_uI (W_unNil (W_yes (by simp;omega) (W_ret ?_)))
  conv=>rhs;unfold cE
  rw[if_neg h1,if_neg h2,if_neg h3,if_neg h4,List.append_assoc]
  rfl
 refine W_beqI (fun h5=> ?_) (fun h5=> ?_)
 ·exact W_eqY h5 (unary (.inl h5))
 refine W_beqI (fun h6=>unary (.inr h6)) (fun h6=> ?_)
 have hk2:kids.length=2:=by omega
 obtain⟨a,b,rfl⟩:∃a b,kids=[a,b]:=by
  match kids,hk2 with
  | [a,b],_=>exact⟨a,b,rfl⟩
 have ha:=x6 a (by simp)
 have hb:=x6 b (by simp)
 refine W_beqI (fun h18=> ?_) (fun h18=> ?_)
 ·refine W_call (hA c kind n 0 nm a b N _ ha hb hN hm) ?_
  rintro _ rfl
  refine W_uL (W_unNil (W_ret ?_))
  conv=>rhs;unfold cE
  rw[if_neg h1,if_neg h2,if_neg h3,if_neg h4]
  dsimp only
  rw[if_pos h18]
 refine W_beqI (fun h19=> ?_) (fun h19=> ?_)
 ·refine W_call (hO c kind n 0 nm a b N _ ha hb hN hm) ?_
  rintro _ rfl
  refine W_uL (W_unNil (W_ret ?_))
  conv=>rhs;unfold cE
  rw[if_neg h1,if_neg h2,if_neg h3,if_neg h4]
  dsimp only
  rw[if_neg h18,if_pos h19]
 cases d with
 |zero=>exact ha.elim
 |succ d=>
 have l0:=cE_len (N:=N) (at_:=c.length) ha
 have l1:=fun q=>cE_len (N:=N) (at_:=q) hb
 have ha':=ha
 have hb':=hb
 have fin:∀E0 E1:LV,E0=cE N (d+1) c.length a→E1=cE N (d+1) (c.length+E0.length) b→[V.sl 4 (c++E0++E1++[ins kind 0 0])]=[V.sl 4 (c++cE N (d+1+1) c.length (.agg [.int .i64 kind,.int .i64 n,.str nm,.sl 5 [a,b],.int .i64 0]))]:=fun E0 E1 q0 q1=>by
  conv=>rhs;unfold cE
  rw[if_neg h1,if_neg h2,if_neg h3,if_neg h4]
  dsimp only
  rw[if_neg h18,if_neg h19,←q0,←q1]
  simp
 obtain⟨_,_,_,_,rfl,_⟩:=ha
 obtain⟨_,_,_,_,rfl,_⟩:=hb
 refine W_yes (by simp) (W_nth0 (W_asAgg ?_))
 refine W_call (hE c _ N _ ha' hN (by omega)) ?_
 rintro _ rfl
 generalize q0:cE N (d+1) c.length _=E0 at l0 ⊢
 refine W_uL (W_unNil (W_yes (by simp) (W_nth1 (W_asAgg ?_))))
 refine W_call (hE _ _ N _ hb' hN (by simp;omega)) ?_
 rintro _ rfl
 rw[List.length_append]
 have l1:=l1 (c.length+E0.length)
 generalize q1:cE N (d+1) (c.length+E0.length) _=E1 at l1 ⊢
 refine W_uL (W_unNil ?_)
 refine W_call (hOp _ _ (by omega) (by omega)) ?_
 rintro _ rfl
 exact W_uI (W_unNil (W_yes (by simp;omega) (W_ret (fin _ _ q0.symm q1.symm))))
end
section
variable {R : Type} {G : ORC R} {k : Nat} {K : LV → OV R}
theorem allI_ins{op a n:Int}:InsS (ins op a n):=⟨op,a,n,⟨#[]⟩,rfl⟩
theorem andX_all{q:Nat}{E0 E1:LV}(h0:AllI E0)(h1:AllI E1):AllI (andX q E0 E1):=by
 intro v hv
 simp only[andX,List.mem_append,List.mem_cons,List.not_mem_nil,or_false]at hv
 rcases hv with h|h|h|h|h|h|h
 ·exact h0 v h
 ·rw[h];exact allI_ins
 ·exact h1 v h
 ·rw[h];exact allI_ins
 ·rw[h];exact allI_ins
 ·rw[h];exact allI_ins
 ·rw[h];exact allI_ins
theorem orX_all{q:Nat}{E0 E1:LV}(h0:AllI E0)(h1:AllI E1):AllI (orX q E0 E1):=by
 intro v hv
 simp only[orX,List.mem_append,List.mem_cons,List.not_mem_nil,or_false]at hv
 rcases hv with(h|h|h|h)|h|h|h|h|h
 ·exact h0 v h
 ·rw[h];exact allI_ins
 ·rw[h];exact allI_ins
 ·rw[h];exact allI_ins
 ·exact h1 v h
 ·rw[h];exact allI_ins
 ·rw[h];exact allI_ins
 ·rw[h];exact allI_ins
 ·rw[h];exact allI_ins
theorem allI_one{op a n:Int}:AllI [ins op a n]:=fun v hv=>by rw[List.mem_singleton]at hv;rw[hv];exact allI_ins
theorem allI_ap{a b:LV}(ha:AllI a)(hb:AllI b):AllI (a++b):=fun v hv=>(List.mem_append.1 hv).elim (ha v) (hb v)
theorem cE_all{N:Nms}:∀{d at_:Nat} {e:V},ExprS d e→AllI (cE N d at_ e)
 |0,_,_,h=>h.elim
 |d+1,at_,e,h=>by
  obtain⟨kind,n,nm,kids,rfl,x1,x2,x3,x4,x5,x6,x7⟩:=h
  unfold cE
  split
  ·exact allI_one
  split
  ·exact allI_one
  split
  ·exact allI_one
  split
  ·exact allI_one
  split
  ·rename_i a
   exact allI_ap (cE_all (x6 a (by simp))) allI_one
  ·rename_i a b
   have h1:=cE_all (N:=N) (at_:=at_) (x6 a (by simp))
   have h2:=fun q=>cE_all (N:=N) (at_:=q) (x6 b (by simp))
   dsimp only
   split
   ·exact andX_all h1 (h2 _)
   split
   ·exact orX_all h1 (h2 _)
   ·exact allI_ap (allI_ap h1 (h2 _)) allI_one
  ·intro v hv;simp at hv
end
section
def cX(N:Nms)(at_:Nat):LV→LV
 | []=>[ins 1 0 0]
 |e::_=>cE N 3 at_ e
def cR(F:Nat→V→LV):Nat→LV→LV
 |_,[]=>[]
 |at_,a::r=>F at_ a++cR F (at_+(F at_ a).length) r
def loopX(at_:Nat)(n:Int)(B:LV):LV:=ins 25 (at_+B.length+2:Nat) n::(B++[ins 26 at_ 0])
def ifX(at_:Nat)(E B:LV):LV:=E++ins 24 (at_+E.length+1+B.length:Nat) 0::B
def elX(at_:Nat)(E B C:LV):LV:=E++ins 24 (at_+E.length+1+B.length+1:Nat) 0::(B++ins 23 (at_+E.length+1+B.length+1+C.length:Nat) 0::C)
def chX(F:Nat→V→LV)(at_:Nat)(E th:LV):LV→LV
 | []=>ifX at_ E (cR F (at_+E.length+1) th)
 |e::r=>elX at_ E (cR F (at_+E.length+1) th) (cR F (at_+E.length+1+(cR F (at_+E.length+1) th).length+1) (e::r))
def cA(N:Nms):Nat→Nat→V→LV
 |d+1,at_,.agg [.int _ kind,.str nm,.str ev,.sl _ x,.int _ n,.sl _ th,.sl _ el,_]=>
  if kind=1 then cX N at_ x++[ins 18 (plN N.a nm) 0]else if kind=2 then cX N at_ x++[insS 19 0 0 ev]else if kind=3 then cX N at_ x++[insS 20 (plN N.p nm) 0 ev]
  else if kind=4 then cX N at_ x++[ins 21 (plN N.t nm) 0]else if kind=5 then[ins 22 (plN N.t nm) 0]
  else if kind=7 then loopX at_ n (cR (cA N d) (at_+1) th)
  else chX (cA N d) at_ (cX N at_ x) th el
 |_,_,_=>[]
def ca:Nat→Nat
 |0=>0
 |d+1=>ce 3+2+4*ca d
theorem loopX_len{a:Nat}{n:Int}{B:LV}:(loopX a n B).length=B.length+2:=by simp[loopX]
theorem ifX_len{a:Nat}{E B:LV}:(ifX a E B).length=E.length+B.length+1:=by simp[ifX];omega
theorem elX_len{a:Nat}{E B C:LV}:(elX a E B C).length=E.length+B.length+C.length+2:=by simp[elX];omega
theorem ce3:1≤ce 3:=by decide
theorem cX_len{N:Nms}{at_:Nat}{x:LV}(h:∀e∈x,ExprS 3 e):(cX N at_ x).length≤ce 3:=by
 cases x with
 |nil=>exact ce3
 |cons e r=>exact cE_len (h e List.mem_cons_self)
theorem cR_len{F:Nat→V→LV}{m:Nat}:∀{l:LV} {at_:Nat},(∀q,∀a∈l,(F q a).length≤m)→(cR F at_ l).length≤l.length*m
 | [],_,_=>by simp[cR]
 |a::r,at_,h=>by
  have h1:=h at_ a List.mem_cons_self
  have h2:=cR_len (F:=F) (l:=r) (at_:=at_+(F at_ a).length) fun q a ha=>h q a (List.mem_cons_of_mem _ ha)
  rw[cR,List.length_append,List.length_cons,Nat.succ_mul];omega
theorem cA_len{N:Nms}:∀{d at_:Nat} {a:V},ActS d a→(cA N d at_ a).length≤ca d
 |0,_,_,h=>h.elim
 |d+1,at_,a,h=>by
  obtain⟨kind,nm,ev,x,n,th,el,rfl,x1,x2,x3,x4,x5,x6,x7,x8,x9,x10,x11,x12⟩:=h
  have hca:ca (d+1)=ce 3+2+4*ca d:=rfl
  have lx:=cX_len (N:=N) (at_:=at_) x7
  have lt:=fun q=>cR_len (F:=cA N d) (m:=ca d) (l:=th) (at_:=q) fun q a ha=>cA_len (x11 a ha)
  have le:=fun q=>cR_len (F:=cA N d) (m:=ca d) (l:=el) (at_:=q) fun q a ha=>cA_len (x12 a ha)
  have mt:th.length*ca d≤2*ca d:=Nat.mul_le_mul_right _ x9
  have me:el.length*ca d≤2*ca d:=Nat.mul_le_mul_right _ x10
  have:=ce3
  unfold cA
  split
  ·simp;omega
  split
  ·simp;omega
  split
  ·simp;omega
  split
  ·simp;omega
  split
  ·simp;omega
  split
  ·rw[loopX_len];have:=lt (at_+1);omega
  have l1:=lt (at_+(cX N at_ x).length+1)
  have l2:=le (at_+(cX N at_ x).length+1+(cR (cA N d) (at_+(cX N at_ x).length+1) th).length+1)
  cases el with
  |nil=>rw[chX,ifX_len];omega
  |cons e r=>rw[chX,elX_len];omega
theorem cBl_len{N:Nms}{d at_:Nat}{l:LV}(h:BlockS d l):(cR (cA N d) at_ l).length≤2*ca d:=
 Nat.le_trans (cR_len (m:=ca d) fun q a ha=>cA_len (h.2 a ha)) (Nat.mul_le_mul_right _ h.1)
theorem allS_one{op a n:Int}{s:ByteArray}:AllI [insS op a n s]:=fun v hv=>by rw[List.mem_singleton]at hv;rw[hv];exact⟨op,a,n,s,rfl⟩
theorem cX_all{N:Nms}{at_:Nat}{x:LV}(h:∀e∈x,ExprS 3 e):AllI (cX N at_ x):=by
 cases x with
 |nil=>exact allI_one
 |cons e r=>exact cE_all (h e List.mem_cons_self)
theorem cR_all{F:Nat→V→LV}:∀{l:LV} {at_:Nat},(∀q,∀a∈l,AllI (F q a))→AllI (cR F at_ l)
 | [],_,_=>fun v hv=>by simp[cR]at hv
 |a::r,at_,h=>allI_ap (h at_ a List.mem_cons_self) (cR_all fun q a ha=>h q a (List.mem_cons_of_mem _ ha))
theorem cA_all{N:Nms}:∀{d at_:Nat} {a:V},ActS d a→AllI (cA N d at_ a)
 |0,_,_,h=>h.elim
 |d+1,at_,a,h=>by
  obtain⟨kind,nm,ev,x,n,th,el,rfl,x1,x2,x3,x4,x5,x6,x7,x8,x9,x10,x11,x12⟩:=h
  have ax:=cX_all (N:=N) (at_:=at_) x7
  have at1:=fun q=>cR_all (F:=cA N d) (l:=th) (at_:=q) fun q a ha=>cA_all (x11 a ha)
  have ae1:=fun q=>cR_all (F:=cA N d) (l:=el) (at_:=q) fun q a ha=>cA_all (x12 a ha)
  unfold cA
  split
  ·exact allI_ap ax allI_one
  split
  ·exact allI_ap ax allS_one
  split
  ·exact allI_ap ax allS_one
  split
  ·exact allI_ap ax allI_one
  split
  ·exact allI_one
  split
  ·exact allI_cons allI_ins (allI_ap (at1 _) allI_one)
  cases el with
  |nil=>exact allI_ap ax (allI_cons allI_ins (at1 _))
  |cons e r=>exact allI_ap ax (allI_cons allI_ins (allI_ap (at1 _) (allI_cons allI_ins (ae1 _))))
theorem cBl_all{N:Nms}{d at_:Nat}{l:LV}(h:BlockS d l):AllI (cR (cA N d) at_ l):=cR_all fun q a ha=>cA_all (h.2 a ha)
end
section
inductive Seg (e:Nat):Nat→LV→List Int→Prop
 |nil {p:Nat}:Seg e p [] []
 |one {p:Nat} {op a n:Int} {s:ByteArray} {c:LV} {t:List Int}:op≠25→op≠26→(op=23∨op=24→(p:Int)<a∧a≤e)→Seg e (p+1) c t→Seg e p (insS op a n s::c) (1::t)
 |loop {p:Nat} {n:Int} {B c:LV} {tb t:List Int}:1≤n→n≤16→Seg e (p+1) B tb→p+B.length+2≤e→Seg e (p+B.length+2) c t→
   Seg e p (ins 25 (p+B.length+2:Nat) n::(B++ins 26 p 0::c)) (1::(tb.map (n* ·)++n::t))
theorem seg_app{e:Nat}{p q:Nat}{c c':LV}{t t':List Int}(h:Seg e p c t)(hq:q=p+c.length)(h':Seg e q c' t'):Seg e p (c++c') (t++t'):=by
 induction h with
 |nil=>rw[List.length_nil,Nat.add_zero]at hq;subst hq;exact h'
 |one h1 h2 h3 h4 ih=>exact .one h1 h2 h3 (ih (by rw[List.length_cons]at hq;omega))
 | @loop p n B c tb t h1 h2 h3 h4 h5 ih1 ih2=>
   have:=Seg.loop h1 h2 h3 h4 (ih2 (by simp at hq;omega))
   simpa using this
theorem seg_one{e p:Nat}{op a n:Int}{s:ByteArray}(h1:op≠25)(h2:op≠26)(h3:op=23∨op=24→(p:Int)<a∧a≤e):Seg e p [insS op a n s] [1]:=.one h1 h2 h3 .nil
theorem seg_len{e p:Nat}{c:LV}{t:List Int}(h:Seg e p c t):c.length=t.length:=by
 induction h with
 |nil=>rfl
 |one _ _ _ _ ih=>simp[ih]
 |loop _ _ _ _ _ ih1 ih2=>simp[ih1,ih2]
def Sh(F:Nat→LV)(t:List Int)(m:Int):Prop:=(∀q e,q+t.length≤e→Seg e q (F q) t)∧∀x∈t,1≤x∧x≤m
theorem sh_len{F:Nat→LV}{t:List Int}{m:Int}(h:Sh F t m)(q:Nat):(F q).length=t.length:=seg_len (h.1 q (q+t.length) (Nat.le_refl _))
theorem sh_mono{F:Nat→LV}{t:List Int}{m m':Int}(h:Sh F t m)(hm:m≤m'):Sh F t m':=⟨h.1,fun x hx=>⟨(h.2 x hx).1,Int.le_trans (h.2 x hx).2 hm⟩⟩
theorem sh_nil{m:Int}:Sh (fun _=>[]) [] m:=⟨fun q e h=>.nil,fun x hx=>by cases hx⟩
theorem sh_eq{F F':Nat→LV}{t:List Int}{m:Int}(h:Sh F t m)(he:∀q,F' q=F q):Sh F' t m:=⟨fun q e hq=>by rw[he];exact h.1 q e hq,h.2⟩
theorem sh_app{F F':Nat→LV}{t t':List Int}{m:Int}(h:Sh F t m)(h':Sh F' t' m):Sh (fun q=>F q++F' (q+(F q).length)) (t++t') m:=by
 refine⟨fun q e hq=> ?_,fun x hx=> ?_⟩
 ·rw[List.length_append]at hq
  exact seg_app (h.1 q e (by omega)) rfl (by rw[sh_len h q];exact h'.1 _ e (by omega))
 ·rcases List.mem_append.1 hx with hx|hx
  ·exact h.2 x hx
  ·exact h'.2 x hx
theorem sh_one{op a n:Int}{s:ByteArray}{m:Int}(hm:1≤m)(h1:op≤22):Sh (fun _=>[insS op a n s]) [1] m:=
 ⟨fun q e hq=>seg_one (by omega) (by omega) (fun h=>by omega),fun x hx=>by rw[List.mem_singleton.1 hx];omega⟩
theorem sh_loop{F:Nat→LV}{t:List Int}{m n:Int}(h1:1≤n)(h2:n≤16)(hm:1≤m)(h:Sh F t m):Sh (fun q=>loopX q n (F (q+1))) (1::(t.map (n* ·)++[n])) (16*m):=by
 refine⟨fun q e hq=> ?_,fun x hx=> ?_⟩
 ·simp only[List.length_cons,List.length_append,List.length_map,List.length_nil]at hq
  exact .loop h1 h2 (h.1 _ e (by omega)) (by rw[sh_len h];omega) .nil
 ·simp only[List.mem_cons,List.mem_append,List.mem_map,List.not_mem_nil,or_false]at hx
  rcases hx with rfl|⟨y,hy,rfl⟩|rfl
  ·omega
  ·obtain⟨y1,y2⟩:=h.2 y hy
   have e1:1*1≤n*y:=Int.mul_le_mul h1 y1 (by omega) (by omega)
   have e2:n*y≤16*m:=Int.mul_le_mul h2 y2 (by omega) (by omega)
   omega
  ·omega
theorem sh_and{F F':Nat→LV}{t t':List Int}{m:Int}(hm:1≤m)(h:Sh F t m)(h':Sh F' t' m):Sh (fun q=>andX q (F q) (F' (q+(F q).length+1))) (t++(1::(t'++[1,1,1,1]))) m:=by
 refine⟨fun q e hq=> ?_,fun x hx=> ?_⟩
 ·simp only[List.length_append,List.length_cons,List.length_nil]at hq
  have l:=sh_len h q
  have l':=sh_len h' (q+(F q).length+1)
  refine seg_app (h.1 q e (by omega)) rfl (.one (by omega) (by omega) (fun _=>by omega) (seg_app (h'.1 _ e (by omega)) rfl ?_))
  exact .one (by omega) (by omega) (fun _=>by omega) (.one (by omega) (by omega) (fun _=>by omega) (.one (by omega) (by omega) (fun _=>by omega) (seg_one (by omega) (by omega) (fun _=>by omega))))
 ·simp only[List.mem_append,List.mem_cons,List.not_mem_nil,or_false]at hx
  rcases hx with hx|rfl|hx|rfl|rfl|rfl|rfl
  ·exact h.2 x hx
  ·omega
  ·exact h'.2 x hx
  all_goals omega
theorem sh_or{F F':Nat→LV}{t t':List Int}{m:Int}(hm:1≤m)(h:Sh F t m)(h':Sh F' t' m):Sh (fun q=>orX q (F q) (F' (q+(F q).length+3))) (t++(1::1::1::(t'++[1,1,1,1]))) m:=by
 refine⟨fun q e hq=> ?_,fun x hx=> ?_⟩
 ·simp only[List.length_append,List.length_cons,List.length_nil]at hq
  have l:=sh_len h q
  have l':=sh_len h' (q+(F q).length+3)
  have ho:∀(q:Nat) (A B:LV),orX q A B=A++ins 24 (q+A.length+3) 0::ins 1 0 1::ins 23 (q+A.length+3+B.length+4) 0::(B++[ins 24 (q+A.length+3+B.length+3) 0,ins 1 0 1,ins 23 (q+A.length+3+B.length+4) 0,ins 1 0 0]):=fun q A B=>by simp[orX]
  show Seg e q (orX q (F q) (F' (q+(F q).length+3))) _
  rw[ho]
  refine seg_app (h.1 q e (by omega)) rfl (.one (by omega) (by omega) (fun _=>by omega) (.one (by omega) (by omega) (fun _=>by omega) (.one (by omega) (by omega) (fun _=>by omega) (seg_app (h'.1 _ e (by omega)) rfl ?_))))
  exact .one (by omega) (by omega) (fun _=>by omega) (.one (by omega) (by omega) (fun _=>by omega) (.one (by omega) (by omega) (fun _=>by omega) (seg_one (by omega) (by omega) (fun _=>by omega))))
 ·simp only[List.mem_append,List.mem_cons,List.not_mem_nil,or_false]at hx
  rcases hx with hx|rfl|rfl|rfl|hx|rfl|rfl|rfl|rfl
  ·exact h.2 x hx
  ·omega
  ·omega
  ·omega
  ·exact h'.2 x hx
  all_goals omega
theorem cE_sh{N:Nms}:∀{d:Nat} {x:V},ExprS d x→∃t,Sh (fun q=>cE N d q x) t 1
 |0,_,h=>h.elim
 |d+1,x,h=>by
  obtain⟨kind,n,nm,kids,rfl,x1,x2,x3,x4,x5,x6,x7⟩:=h
  by_cases h1:kind=1
  ·exact⟨[1],sh_eq (sh_one (op:=1) (a:=0) (n:=n) (s:=⟨#[]⟩) (by omega) (by omega)) fun q=>by(conv=>lhs;unfold cE);rw[if_pos h1];rfl⟩
  by_cases h2:kind=2
  ·exact⟨[1],sh_eq (sh_one (op:=2) (a:=plN N.a nm) (n:=0) (s:=⟨#[]⟩) (by omega) (by omega)) fun q=>by(conv=>lhs;unfold cE);rw[if_neg h1,if_pos h2];rfl⟩
  by_cases h3:kind=3
  ·exact⟨[1],sh_eq (sh_one (op:=3) (a:=0) (n:=0) (s:=⟨#[]⟩) (by omega) (by omega)) fun q=>by(conv=>lhs;unfold cE);rw[if_neg h1,if_neg h2,if_pos h3];rfl⟩
  by_cases h4:kind=4
  ·exact⟨[1],sh_eq (sh_one (op:=4) (a:=findN N.nd nm) (n:=0) (s:=⟨#[]⟩) (by omega) (by omega)) fun q=>by(conv=>lhs;unfold cE);rw[if_neg h1,if_neg h2,if_neg h3,if_pos h4];rfl⟩
  have hk:kids.length=1∨kids.length=2:=by omega
  match kids,hk,x6 with
  | [a],_,x6=>
    obtain⟨t,ht⟩:=cE_sh (N:=N) (x6 a (by simp))
    exact⟨t++[1],sh_eq (sh_app ht (sh_one (op:=kind) (a:=0) (n:=0) (s:=⟨#[]⟩) (by omega) (by omega))) fun q=>by(conv=>lhs;unfold cE);rw[if_neg h1,if_neg h2,if_neg h3,if_neg h4];rfl⟩
  | [a,b],_,x6=>
    obtain⟨t,ht⟩:=cE_sh (N:=N) (x6 a (by simp))
    obtain⟨t',ht'⟩:=cE_sh (N:=N) (x6 b (by simp))
    by_cases h18:kind=18
    ·exact⟨_,sh_eq (sh_and (by omega) ht ht') fun q=>by(conv=>lhs;unfold cE);rw[if_neg h1,if_neg h2,if_neg h3,if_neg h4];dsimp only;rw[if_pos h18]⟩
    by_cases h19:kind=19
    ·exact⟨_,sh_eq (sh_or (by omega) ht ht') fun q=>by(conv=>lhs;unfold cE);rw[if_neg h1,if_neg h2,if_neg h3,if_neg h4];dsimp only;rw[if_neg h18,if_pos h19]⟩
    ·exact⟨_,sh_eq (sh_app (sh_app ht ht') (sh_one (op:=kind) (a:=0) (n:=0) (s:=⟨#[]⟩) (by omega) (by omega))) fun q=>by(conv=>lhs;unfold cE);rw[if_neg h1,if_neg h2,if_neg h3,if_neg h4];dsimp only;rw[if_neg h18,if_neg h19];rfl⟩
theorem cX_sh{N:Nms}{x:LV}(h:∀e∈x,ExprS 3 e):∃t,Sh (fun q=>cX N q x) t 1:=by
 cases x with
 |nil=>exact⟨[1],sh_one (op:=1) (a:=0) (n:=0) (s:=⟨#[]⟩) (by omega) (by omega)⟩
 |cons e r=>exact cE_sh (N:=N) (h e List.mem_cons_self)
theorem cR_sh{F:Nat→V→LV}{m:Int}:∀{l:LV},(∀a∈l,∃t,Sh (fun q=>F q a) t m)→∃t,Sh (fun q=>cR F q l) t m
 | [],_=>⟨[],sh_nil⟩
 |a::r,h=>by
  obtain⟨t,ht⟩:=h a List.mem_cons_self
  obtain⟨t',ht'⟩:=cR_sh fun a ha=>h a (List.mem_cons_of_mem _ ha)
  exact⟨t++t',sh_app ht ht'⟩
theorem sh_if{F F':Nat→LV}{t t':List Int}{m:Int}(hm:1≤m)(h:Sh F t m)(h':Sh F' t' m):Sh (fun q=>ifX q (F q) (F' (q+(F q).length+1))) (t++1::t') m:=by
 refine⟨fun q e hq=> ?_,fun x hx=> ?_⟩
 ·simp only[List.length_append,List.length_cons]at hq
  have l:=sh_len h q
  have l':=sh_len h' (q+(F q).length+1)
  exact seg_app (h.1 q e (by omega)) rfl (.one (by omega) (by omega) (fun _=>by omega) (h'.1 _ e (by omega)))
 ·simp only[List.mem_append,List.mem_cons]at hx
  rcases hx with hx|rfl|hx
  ·exact h.2 x hx
  ·omega
  ·exact h'.2 x hx
theorem sh_el{F F' F'':Nat→LV}{t t' t'':List Int}{m:Int}(hm:1≤m)(h:Sh F t m)(h':Sh F' t' m)(h'':Sh F'' t'' m):
 Sh (fun q=>elX q (F q) (F' (q+(F q).length+1)) (F'' (q+(F q).length+1+(F' (q+(F q).length+1)).length+1))) (t++1::(t'++1::t'')) m:=by
 refine⟨fun q e hq=> ?_,fun x hx=> ?_⟩
 ·simp only[List.length_append,List.length_cons]at hq
  have l:=sh_len h q
  have l':=sh_len h' (q+(F q).length+1)
  have l'':=sh_len h'' (q+(F q).length+1+(F' (q+(F q).length+1)).length+1)
  exact seg_app (h.1 q e (by omega)) rfl (.one (by omega) (by omega) (fun _=>by omega) (seg_app (h'.1 _ e (by omega)) rfl (.one (by omega) (by omega) (fun _=>by omega) (h''.1 _ e (by omega)))))
 ·simp only[List.mem_append,List.mem_cons]at hx
  rcases hx with hx|rfl|hx|rfl|hx
  ·exact h.2 x hx
  ·omega
  ·exact h'.2 x hx
  ·omega
  ·exact h''.2 x hx
def cm:Nat→Int
 |0=>1
 |d+1=>16*cm d
theorem cm_pos:∀d,1≤cm d
 |0=>by decide
 |d+1=>by have:=cm_pos d;show 1≤16*cm d;omega
theorem cA_sh{N:Nms}:∀{d:Nat} {a:V},ActS d a→∃t,Sh (fun q=>cA N d q a) t (cm d)
 |0,_,h=>h.elim
 |d+1,a,h=>by
  obtain⟨kind,nm,ev,x,n,th,el,rfl,x1,x2,x3,x4,x5,x6,x7,x8,x9,x10,x11,x12⟩:=h
  have hp:=cm_pos d
  have hc:cm (d+1)=16*cm d:=rfl
  obtain⟨tx,hx1⟩:=cX_sh (N:=N) x7
  have hx:=sh_mono hx1 (m':=cm d) (by omega)
  have hx':=sh_mono hx1 (m':=cm (d+1)) (by omega)
  obtain⟨tt,ht⟩:=cR_sh (F:=cA N d) (m:=cm d) (l:=th) fun a ha=>cA_sh (N:=N) (x11 a ha)
  obtain⟨te,he⟩:=cR_sh (F:=cA N d) (m:=cm d) (l:=el) fun a ha=>cA_sh (N:=N) (x12 a ha)
  by_cases h1:kind=1
  ·exact⟨_,sh_eq (sh_app hx' (sh_one (op:=18) (a:=plN N.a nm) (n:=0) (s:=⟨#[]⟩) (by omega) (by omega))) fun q=>by(conv=>lhs;unfold cA);rw[if_pos h1];rfl⟩
  by_cases h2:kind=2
  ·exact⟨_,sh_eq (sh_app hx' (sh_one (op:=19) (a:=0) (n:=0) (s:=ev) (by omega) (by omega))) fun q=>by(conv=>lhs;unfold cA);rw[if_neg h1,if_pos h2]⟩
  by_cases h3:kind=3
  ·exact⟨_,sh_eq (sh_app hx' (sh_one (op:=20) (a:=plN N.p nm) (n:=0) (s:=ev) (by omega) (by omega))) fun q=>by(conv=>lhs;unfold cA);rw[if_neg h1,if_neg h2,if_pos h3]⟩
  by_cases h4:kind=4
  ·exact⟨_,sh_eq (sh_app hx' (sh_one (op:=21) (a:=plN N.t nm) (n:=0) (s:=⟨#[]⟩) (by omega) (by omega))) fun q=>by(conv=>lhs;unfold cA);rw[if_neg h1,if_neg h2,if_neg h3,if_pos h4];rfl⟩
  by_cases h5:kind=5
  ·exact⟨_,sh_eq (sh_one (op:=22) (a:=plN N.t nm) (n:=0) (s:=⟨#[]⟩) (by omega) (by omega)) fun q=>by(conv=>lhs;unfold cA);rw[if_neg h1,if_neg h2,if_neg h3,if_neg h4,if_pos h5];rfl⟩
  by_cases h7:kind=7
  ·obtain⟨n1,n2⟩:=x1.2 h7
   exact⟨_,sh_eq (sh_loop n1 n2 hp ht) fun q=>by(conv=>lhs;unfold cA);rw[if_neg h1,if_neg h2,if_neg h3,if_neg h4,if_neg h5,if_pos h7]⟩
  have hch:∀q,cA N (d+1) q (.agg [.int .i64 kind,.str nm,.str ev,.sl 5 x,.int .i64 n,.sl 8 th,.sl 8 el,.int .i64 0])=chX (cA N d) q (cX N q x) th el:=fun q=>by(conv=>lhs;unfold cA);rw[if_neg h1,if_neg h2,if_neg h3,if_neg h4,if_neg h5,if_neg h7]
  cases el with
  |nil=>exact⟨_,sh_mono (sh_eq (sh_if hp hx ht) fun q=>hch q) (by omega)⟩
  |cons e r=>exact⟨_,sh_mono (sh_eq (sh_el hp hx ht he) fun q=>hch q) (by omega)⟩
theorem cBl_sh{N:Nms}{d:Nat}{l:LV}(h:BlockS d l):∃t,Sh (fun q=>cR (cA N d) q l) t (cm d):=cR_sh fun a ha=>cA_sh (N:=N) (h.2 a ha)
end
section
variable {R : Type} {G : ORC R} {k : Nat} {K : LV → OV R}
def fac(at_:Int):V→Int
 | .agg [.int _ op,.int _ a,.int _ n,_]=>if op=25∧at_<a then n else 1
 |_=>1
def tpr(at_:Int):LV→Int
 | []=>1
 |v::r=>fac at_ v*tpr at_ r
theorem tpr_app{q:Int}:∀{a b:LV},tpr q (a++b)=tpr q a*tpr q b
 | [],b=>by simp[tpr]
 |v::a,b=>by rw[List.cons_append,tpr,tpr,tpr_app,Int.mul_assoc]
theorem fac_ne{q op a n:Int}{s:ByteArray}(h:op≠25):fac q (insS op a n s)=1:=by unfold fac insS;exact if_neg fun h'=>h h'.1
theorem fac_no{q a n:Int}{s:ByteArray}(h:a≤q):fac q (insS 25 a n s)=1:=by unfold fac insS;exact if_neg fun h'=>by omega
theorem fac_in{q a n:Int}{s:ByteArray}(h:q<a):fac q (insS 25 a n s)=n:=by unfold fac insS;exact if_pos ⟨rfl,h⟩
theorem seg_out{e p:Nat}{c:LV}{t:List Int}(h:Seg e p c t):∀q:Int,((p+c.length:Nat):Int)≤q→tpr q c=1:=by
 induction h with
 |nil=>intro q _;rfl
 |one h1 h2 h3 h4 ih=>intro q hq;rw[tpr,fac_ne h1,ih q (by rw[List.length_cons]at hq;omega)];rfl
 | @loop p n B c tb t h1 h2 h3 h4 h5 ih1 ih2=>
   intro q hq
   simp only[List.length_cons,List.length_append]at hq
   rw[tpr,show ins 25 (p+B.length+2:Nat) n=insS 25 (p+B.length+2:Nat) n ⟨#[]⟩from rfl,fac_no (by omega),tpr_app,ih1 q (by omega),tpr,show ins 26 (p:Int) 0=insS 26 p 0 ⟨#[]⟩from rfl,fac_ne (by omega),ih2 q (by omega)];rfl
theorem seg_in{e p:Nat}{c:LV}{t:List Int}(h:Seg e p c t):∀i:Nat,i<c.length→t[i]? =some (tpr ((p+i:Nat):Int) (c.take i)):=by
 induction h with
 |nil=>intro i hi;simp at hi
 | @one p op a n s c t h1 h2 h3 h4 ih=>
   intro i hi
   cases i with
   |zero=>rfl
   |succ i=>
    rw[List.getElem?_cons_succ,ih i (by simpa using hi),List.take_succ_cons,tpr,fac_ne h1,Int.one_mul,show p+1+i=p+(i+1)by omega]
 | @loop p n B c tb t h1 h2 h3 h4 h5 ih1 ih2=>
   intro i hi
   cases i with
   |zero=>rfl
   |succ i=>
    have lb:=seg_len h3
    simp only[List.length_cons,List.length_append]at hi
    rw[List.getElem?_cons_succ,List.take_succ_cons,tpr,show ins 25 (p+B.length+2:Nat) n=insS 25 (p+B.length+2:Nat) n ⟨#[]⟩from rfl]
    by_cases hb:i<B.length
    ·rw[fac_in (by omega),List.take_append_of_le_length (by omega),List.getElem?_append_left (by simp;omega),List.getElem?_map,ih1 i hb,show p+(i+1)=p+1+i by omega];rfl
    ·by_cases he:i=B.length
     ·subst he
      rw[fac_in (by omega),List.take_append_of_le_length (Nat.le_refl _),List.take_length,seg_out h3 _ (by omega),List.getElem?_append_right (by simp;omega)]
      simp[lb]
     ·obtain⟨m,rfl⟩:∃m,i=B.length+1+m:=⟨i-B.length-1,by omega⟩
      rw[fac_no (by omega),List.getElem?_append_right (by simp;omega)]
      have e1:B.length+1+m-(tb.map (n* ·)).length=m+1:=by simp;omega
      have e2:(B++ins 26 (p:Int) 0::c).take (B.length+1+m)=B++ins 26 (p:Int) 0::c.take m:=by
       rw[List.take_append,List.take_of_length_le (by omega),show B.length+1+m-B.length=m+1 by omega,List.take_succ_cons]
      rw[e1,e2,List.getElem?_cons_succ,tpr_app,seg_out h3 _ (by omega),tpr,show ins 26 (p:Int) 0=insS 26 p 0 ⟨#[]⟩from rfl,fac_ne (by omega),ih2 m (by omega),show p+B.length+2+m=p+(B.length+1+m+1)by omega]
      simp
def Ok25(l:LV):Prop:=∀v∈l,∃op a n s,v=insS op a n s∧(op=25→1≤n∧n≤16)
theorem seg_ok{e p:Nat}{c:LV}{t:List Int}(h:Seg e p c t):Ok25 c:=by
 induction h with
 |nil=>intro v hv;cases hv
 | @one p op a n s c t h1 h2 h3 h4 ih=>
   intro v hv
   rcases List.mem_cons.1 hv with rfl|hv
   ·exact⟨op,a,n,s,rfl,fun h=>absurd h h1⟩
   ·exact ih v hv
 | @loop p n B c tb t h1 h2 h3 h4 h5 ih1 ih2=>
   intro v hv
   simp only[List.mem_cons,List.mem_append]at hv
   rcases hv with rfl|hv|rfl|hv
   ·exact⟨25,_,n,⟨#[]⟩,rfl,fun _=>⟨h1,h2⟩⟩
   ·exact ih1 v hv
   ·exact⟨26,_,0,⟨#[]⟩,rfl,fun h=>by omega⟩
   ·exact ih2 v hv
theorem ok25_take{l:LV}{m:Nat}(h:Ok25 l):Ok25 (l.take m):=fun v hv=>h v (List.mem_of_mem_take hv)
theorem tpr_pos{q:Int}:∀{l:LV},Ok25 l→1≤tpr q l
 | [],_=>by simp[tpr]
 |v::r,h=>by
  obtain⟨op,a,n,s,rfl,hn⟩:=h v List.mem_cons_self
  have h2:=tpr_pos (q:=q) (l:=r) fun u hu=>h u (List.mem_cons_of_mem _ hu)
  have h1:1≤fac q (insS op a n s):=by
   unfold fac insS
   dsimp only
   split
   ·rename_i h';exact(hn h'.1).1
   ·omega
  have:1*1≤fac q (insS op a n s)*tpr q r:=Int.mul_le_mul h1 h2 (by omega) (by omega)
  rw[tpr];omega
theorem tpr_le{q:Int}{l:LV}{m:Nat}(h:Ok25 l):tpr q (l.take m)≤tpr q l:=by
 have h1:=tpr_pos (q:=q) (ok25_take (m:=m) h)
 have h2:=tpr_pos (q:=q) (l:=l.drop m) fun v hv=>h v (List.mem_of_mem_drop hv)
 have e:tpr q l=tpr q (l.take m)*tpr q (l.drop m):=by rw[←tpr_app,List.take_append_drop]
 have:tpr q (l.take m)*1≤tpr q (l.take m)*tpr q (l.drop m):=Int.mul_le_mul_of_nonneg_left h2 (by omega)
 rw[e];omega
theorem tpr_snoc{q:Int}{l:LV}{v:V}{m:Nat}(h:l[m]? =some v):tpr q (l.take (m+1))=tpr q (l.take m)*fac q v:=by
 rw[List.take_add_one,h,tpr_app]
 simp[tpr]
def tmAt(t:List Int)(q:Int):Int:=if 0≤q∧q<t.length then t.getD q.toNat 0 else 0
theorem tmAt_in{t:List Int}{i:Nat}{x:Int}(h:t[i]? =some x):tmAt t (i:Int)=x:=by
 obtain⟨hl,e⟩:=List.getElem?_eq_some_iff.1 h
 unfold tmAt
 rw[if_pos ⟨by omega,by omega⟩,Int.toNat_natCast,List.getD_eq_getElem?_getD,h];rfl
def TmX(f:FuncId)(G:ORC R):Prop:=∀(c:LV) (t:List Int) (e:Nat) (q:Int) (K:LV→OV R),Seg e 0 c t→(∀x∈t,1≤x∧x≤1099511627776)→c.length≤9999→W (fun o=>o=[.int .i64 (tmAt t q)]) K (G f [.sl 4 c,.int .i64 q] K)
theorem ct_loop{Q:LV→Prop}{K:LV→OV R}{Ko:Int→OV R}{L:LV}{q:Int}(hL:Ok25 L)(hq:(L.length:Int)≤q)(hl:L.length≤9999)(hm:tpr q L≤1099511627776)(hKo:W Q K (Ko (tpr q L))):
 ∀(j m:Nat),L.length-m<j→m≤L.length→W Q K (l36_0g G k Ko j q (tpr q (L.take m)) L L.length m)
 |0,m,h1,h2=>by omega
 |j+1,m,h1,h2=>by
  show W Q K (b36_0 G k (l36_0g G k Ko j) Ko q (tpr q (L.take m)) L L.length m)
  unfold b36_0
  refine W_dec (fun h=> ?_) (fun h=>by rw[show m=L.length by omega,List.take_length];exact hKo)
  obtain⟨v,hv⟩:∃v,L[m]? =some v:=⟨_,List.getElem?_eq_getElem (by omega)⟩
  have hs:=tpr_snoc (q:=q) hv
  have hle:=Int.le_trans (tpr_le (q:=q) (m:=m+1) hL) hm
  have hps:=tpr_pos (q:=q) (ok25_take (m:=m+1) hL)
  have next:=ct_loop hL hq hl hm hKo j (m+1) (by omega) (by omega)
  obtain⟨op,a,n,s,rfl,hn⟩:=hL v (List.mem_of_getElem? hv)
  refine W_at (by omega) (by rw[Int.toNat_natCast];exact hv) ?_
  unfold insS
  (repeat(with_reducible apply U1))
  rw[wrap_id (n:=(m:Int)+1) (by omega)]
  refine W_beqI (fun h25=> ?_) (fun h25=> ?_)
  ·subst h25
   refine W_yes (by omega) ?_
   refine W_dec (fun ha=> ?_) (fun ha=> ?_)
   ·rw[fac_in ha]at hs
    rw[←hs,wrap_id (by omega)];exact next
   ·rw[fac_no (by omega),Int.mul_one]at hs
    rw[←hs];exact next
  ·rw[fac_ne h25,Int.mul_one]at hs
   rw[←hs];exact next
theorem ctx_ok(hk:10000≤k):TmX 36 (fun _ args (K:LV→OV R)=>g36 G k args K):=by
 intro c t e q K hc ht hl
 show W _ K (f36 G k c q K)
 unfold f36
 have lt:=seg_len hc
 refine W_dec (fun h=>W_ret (by rw[tmAt,if_neg (by omega)])) (fun h=> ?_)
 refine W_dec (fun h=>W_ret (by rw[tmAt,if_neg (by omega)])) (fun h'=> ?_)
 obtain⟨i,rfl⟩:∃i:Nat,q=i:=⟨q.toNat,by omega⟩
 have hi:=seg_in hc i (by omega)
 rw[Nat.zero_add]at hi
 have hx:=ht _ (List.mem_of_getElem? hi)
 refine W_and (W_yes (by omega) (W_yes (by omega) ?_))
 rw[Int.toNat_natCast]
 unfold l36_0
 have:=ct_loop (G:=G) (k:=k) (Q:=fun o=>o=[.int .i64 (tmAt t i)]) (K:=K) (Ko:=fun y=>K [.int .i64 y]) (L:=c.take i) (q:=(i:Int)) (ok25_take (seg_ok hc)) (by simp;omega) (by simp;omega) (by omega) (W_ret (by rw[tmAt_in hi])) k 0 (by simp;omega) (by omega)
 exact this
end
section
variable {R : Type} {G : ORC R} {k : Nat} {K : LV → OV R} {Q : LV → Prop}
def sdV(p:Int):V→Bool
 | .agg (.int _ op:: .int _ a::_)=>op==20&&a==p
 |_=>false
def sdS(p:Int):LV→List Int→Int
 |v::c,x::t=>(if sdV p v then x else 0)+sdS p c t
 |_,_=>0
theorem sdS_app{p:Int}:∀{a b:LV} {t t':List Int},a.length=t.length→sdS p (a++b) (t++t')=sdS p a t+sdS p b t'
 | [],b,[],t',_=>by simp[sdS]
 |v::a,b,x::t,t',h=>by rw[List.cons_append,List.cons_append,sdS,sdS,sdS_app (by simpa using h)];omega
theorem sdS_bd{p:Int}:∀{a:LV} {t:List Int},(∀x∈t,1≤x∧x≤65536)→0≤sdS p a t∧sdS p a t≤a.length*65536
 | [],t,_=>by simp[sdS]
 |v::a,[],_=>by simp[sdS];omega
 |v::a,x::t,h=>by
  have h1:=h x List.mem_cons_self
  have h2:=sdS_bd (p:=p) (a:=a) fun y hy=>h y (List.mem_cons_of_mem _ hy)
  rw[sdS,List.length_cons];split<;>omega
theorem sdS_snoc{p:Int}{c:LV}{t:List Int}{m:Nat}{v:V}{x:Int}(hl:c.length=t.length)(hv:c[m]? =some v)(h:t[m]? =some x):sdS p (c.take (m+1)) (t.take (m+1))=sdS p (c.take m) (t.take m)+if sdV p v then x else 0:=by
 rw[List.take_add_one,List.take_add_one,h,hv,sdS_app (by simp[hl])]
 simp[sdS]
theorem sends_in(hT:TmX 36 G){x:Srch}{code:LV}{t:List Int}(hA:AllI code)(hS:Seg t.length 0 code t)(ht:∀y∈t,1≤y∧y≤65536)(hl:code.length≤9900){p s0 c n i:Int}{L:LV}(h0:0≤s0)(h9:s0≤1000000000000000)(hc0:0≤c)(hc:x.cs[c.toNat]? =some (.sl 4 code))
 {Ko:Int→Int→LV→Int→Int→ByteArray→Int→Int→LV→LV→LV→LV→LV→LV→OV R} (hKo:W Q K (Ko p (s0+sdS p code t) L n i x.nm x.st x.fu x.vars x.ports x.timers (x.ns.map Nd.v) x.es x.cs)):
 ∀(j m:Nat),code.length-m<j→m≤code.length→W Q K (l16_2g G k Ko j p (s0+sdS p (code.take m) (t.take m)) c L n i (.sl 4 code) code.length m x.nm x.st x.fu x.vars x.ports x.timers (x.ns.map Nd.v) x.es x.cs)
 |0,m,h1,h2=>by omega
 |j+1,m,h1,h2=>by
  show W Q K (b16_2 G k (l16_2g G k Ko j) Ko p (s0+sdS p (code.take m) (t.take m)) c L n i (.sl 4 code) code.length m x.nm x.st x.fu x.vars x.ports x.timers (x.ns.map Nd.v) x.es x.cs)
  unfold b16_2
  have lt:=seg_len hS
  refine W_dec (fun h=> ?_) (fun h=>by
   have e:m=code.length:=by omega
   rw[show t.take m=t by rw[e,lt,List.take_length],show code.take m=code by rw[e,List.take_length]];exact hKo)
  obtain⟨y,hy⟩:∃y,t[m]? =some y:=⟨_,List.getElem?_eq_getElem (by omega)⟩
  have hy1:=ht y (List.mem_of_getElem? hy)
  obtain⟨v,hv⟩:∃v,code[m]? =some v:=⟨_,List.getElem?_eq_getElem (by omega)⟩
  obtain⟨op,a,n',s,rfl⟩:=hA v (List.mem_of_getElem? hv)
  have next:=sends_in hT hA hS ht hl (Ko:=Ko) (L:=L) (n:=n) (i:=i) (c:=c) h0 h9 hc0 hc hKo j (m+1) (by omega) (by omega)
  rw[sdS_snoc lt hv hy]at next
  have bd:=sdS_bd (p:=p) (a:=code.take m) (t:=t.take m) fun z hz=>ht z (List.mem_of_mem_take hz)
  have bl:(code.take m).length≤9900:=by simp;omega
  have ht':∀z∈t,1≤z∧z≤1099511627776:=fun z hz=>by have:=ht z hz;omega
  have hT':=hT
  unfold TmX at hT'
  (repeat(with_reducible apply U1))
  refine W_and (W_and (W_chk rfl (W_yes (by omega) (W_yes (by omega) ?_))))
  refine W_nk (by rw[Int.toNat_natCast];exact hv) ?_
  (repeat(with_reducible apply U1))
  rw[wrap_id (n:=(m:Int)+1) (by omega)]
  refine W_beqI (fun e1=> ?_) (fun e1=> ?_)
  ·refine W_beqI (fun e2=> ?_) (fun e2=> ?_)
   ·refine W_at hc0 hc ?_
    (repeat(with_reducible apply U1))
    refine W_call (hT' code t t.length m _ hS ht' (by omega)) ?_
    rintro _ rfl
    (repeat(with_reducible apply U1))
    rw[tmAt_in hy,wrap_id (by omega)]
    rw[if_pos (by simp[sdV,e1,e2]),←Int.add_assoc]at next
    exact next
   ·rw[if_neg (by simp[sdV,e2]),Int.add_zero]at next
    exact next
  ·rw[if_neg (by simp[sdV,e1]),Int.add_zero]at next
   exact next
def SegC(cs:LV)(c:Int)(code:LV)(t:List Int):Prop:=cs[c.toNat]? =some (.sl 4 code)∧AllI code∧code.length≤9900∧Seg t.length 0 code t∧∀y∈t,1≤y∧y≤65536
open Classical in
noncomputable def sC(cs:LV)(p c:Int):Int:=if h:∃code t,SegC cs c code t then sdS p (Classical.choose h) (Classical.choose (Classical.choose_spec h))else 0
theorem sC_bd{cs:LV}{p c:Int}:0≤sC cs p c∧sC cs p c≤648806400:=by
 unfold sC
 split
 ·rename_i h
  obtain⟨h1,h2,h3,h4,h5⟩:=Classical.choose_spec (Classical.choose_spec h)
  have:=sdS_bd (p:=p) (a:=Classical.choose h) h5
  omega
 ·omega
theorem sC_at{cs:LV}{p c:Int}(h:∃code t,SegC cs c code t):∃code t,SegC cs c code t∧sC cs p c=sdS p code t:=by
 refine⟨_,_,Classical.choose_spec (Classical.choose_spec h),?_⟩
 unfold sC
 rw[dif_pos h]
def sumL(f:Int→Int):List Int→Int
 | []=>0
 |c::L=>f c+sumL f L
theorem sumL_snoc{f:Int→Int}{c:Int}:∀{L:List Int},sumL f (L++[c])=sumL f L+f c
 | []=>by simp[sumL]
 |a::L=>by rw[List.cons_append,sumL,sumL,sumL_snoc];omega
theorem sumL_bd{f:Int→Int}{b:Int}(h:∀c,0≤f c∧f c≤b):∀{L:List Int},0≤sumL f L∧sumL f L≤L.length*b
 | []=>by simp[sumL]
 |a::L=>by
  have h1:=h a
  have h2:=sumL_bd h (L:=L)
  rw[sumL,List.length_cons,Int.natCast_succ,Int.add_mul];omega
end
section
variable {R : Type} {G : ORC R} {k : Nat} {K : LV → OV R}
theorem rt_loop{Q:LV→Prop}{K:LV→OV R}{Ko:Int→OV R}{c:LV}{i:Nat}(hL:Ok25 c)(hi:i<c.length)(hl:c.length≤9999)(hm:tpr i (c.take i)≤1099511627776)(hKo:W Q K (Ko (tpr i (c.take i)))):
 ∀(j m:Nat),i-m<j→m≤i→W Q K (l37_0g G k Ko j c i (tpr i (c.take m)) m)
 |0,m,h1,h2=>by omega
 |j+1,m,h1,h2=>by
  show W Q K (b37_0 G k (l37_0g G k Ko j) Ko c i (tpr i (c.take m)) m)
  unfold b37_0
  refine W_dec (fun h=> ?_) (fun h=>by rw[show m=i by omega];exact hKo)
  obtain⟨v,hv⟩:∃v,c[m]? =some v:=⟨_,List.getElem?_eq_getElem (by omega)⟩
  have hs:=tpr_snoc (q:=(i:Int)) hv
  have e:(c.take i).take (m+1)=c.take (m+1):=by rw[List.take_take,Nat.min_eq_left (by omega)]
  have hle:=Int.le_trans (tpr_le (q:=(i:Int)) (m:=m+1) (ok25_take (m:=i) hL)) hm
  rw[e]at hle
  have hps:=tpr_pos (q:=(i:Int)) (ok25_take (m:=m+1) hL)
  have next:=rt_loop hL hi hl hm hKo j (m+1) (by omega) (by omega)
  obtain⟨op,a,n,s,rfl,hn⟩:=hL v (List.mem_of_getElem? hv)
  refine W_at (by omega) (by rw[Int.toNat_natCast];exact hv) ?_
  unfold insS at hv ⊢
  (repeat(with_reducible apply U1))
  rw[wrap_id (n:=(m:Int)+1) (by omega)]
  refine W_beqI (fun h25=> ?_) (fun h25=> ?_)
  ·subst h25
   refine W_at (by omega) (by rw[Int.toNat_natCast];exact hv) ?_
   (repeat(with_reducible apply U1))
   refine W_dec (fun ha=> ?_) (fun ha=> ?_)
   ·refine W_at (by omega) (by rw[Int.toNat_natCast];exact hv) ?_
    (repeat(with_reducible apply U1))
    rw[fac_in ha]at hs
    rw[←hs,wrap_id (by omega)];exact next
   ·rw[fac_no (by omega),Int.mul_one]at hs
    rw[←hs];exact next
  ·rw[fac_ne h25,Int.mul_one]at hs
   rw[←hs];exact next
theorem rtx_ok(hk:10000≤k):TmX 37 (fun _ args (K:LV→OV R)=>g37 G k args K):=by
 intro c t e q K hc ht hl
 show W _ K (f37 G k c q K)
 unfold f37
 have lt:=seg_len hc
 refine W_dec (fun h=>W_ret (by rw[tmAt,if_neg (by omega)])) (fun h=> ?_)
 refine W_dec (fun h=>W_ret (by rw[tmAt,if_neg (by omega)])) (fun h'=> ?_)
 obtain⟨i,rfl⟩:∃i:Nat,q=i:=⟨q.toNat,by omega⟩
 have hi:=seg_in hc i (by omega)
 rw[Nat.zero_add]at hi
 have hx:=ht _ (List.mem_of_getElem? hi)
 unfold l37_0
 have:=rt_loop (G:=G) (k:=k) (Q:=fun o=>o=[.int .i64 (tmAt t i)]) (K:=K) (Ko:=fun y=>K [.int .i64 y]) (c:=c) (i:=i) (seg_ok hc) (by omega) hl (by omega) (W_ret (by rw[tmAt_in hi])) k 0 (by omega) (by omega)
 exact this
end
section
variable {R : Type} {G : ORC R} {k : Nat} {K : LV → OV R} {Q : LV → Prop}
noncomputable def fS(cs:LV)(p c:Int):Int:=if 0≤c∧c<cs.length then sC cs p c else 0
theorem fS_bd{cs:LV}{p c:Int}:0≤fS cs p c∧fS cs p c≤648806400:=by
 unfold fS;split
 ·exact sC_bd
 ·omega
def AllSeg(cs:LV):Prop:=∀c:Int,0≤c→c<cs.length→∃code t,SegC cs c code t
def SendsG(f:Nat)(G:ORC R):Prop:=∀(x:Srch) (L:List Int) (p:Int) (K:LV→OV R),AllSeg x.cs→L.length≤90→W (fun o=>o=[.int .i64 (sumL (fS x.cs p) L)]) K
 (G f [.agg [.str x.nm,.int .i64 x.st,.int .i64 x.fu,.sl 1 x.vars,.sl 1 x.ports,.sl 1 x.timers,.sl 7 (x.ns.map Nd.v),.sl 6 x.es,.sl 1 x.cs],.sl 1 (ivs L),.int .i64 p] K)
theorem sendsg_loop(hk:10000≤k)(hT:TmX 36 G){x:Srch}{L:List Int}{p:Int}(hL:AllSeg x.cs)(hl:L.length≤90){Ko:Int→OV R}(hKo:W Q K (Ko (sumL (fS x.cs p) L))):
 ∀(j m:Nat),L.length-m<j→m≤L.length→W Q K (l16_0g G k Ko j p (sumL (fS x.cs p) (L.take m)) (ivs L) L.length m x.nm x.st x.fu x.vars x.ports x.timers (x.ns.map Nd.v) x.es x.cs)
 |0,m,h1,h2=>by omega
 |j+1,m,h1,h2=>by
  show W Q K (b16_0 G k (l16_0g G k Ko j) Ko p (sumL (fS x.cs p) (L.take m)) (ivs L) L.length m x.nm x.st x.fu x.vars x.ports x.timers (x.ns.map Nd.v) x.es x.cs)
  unfold b16_0
  refine W_dec (fun h=> ?_) (fun h=>by rw[List.take_of_length_le (by omega)];exact hKo)
  obtain⟨c,hc⟩:∃c,L[m]? =some c:=⟨_,List.getElem?_eq_getElem (by omega)⟩
  have next:=sendsg_loop hk hT hL hl hKo j (m+1) (by omega) (by omega)
  rw[takeS hc,sumL_snoc]at next
  refine W_at (by omega) (by rw[Int.toNat_natCast];exact ivs_at hc) (W_aI ?_)
  refine W_dec (fun g=> ?_) (fun g=> ?_)
  ·rw[wrap_id (n:=(m:Int)+1) (by omega)]
   unfold fS at next ⊢
   rw[if_neg (by omega),Int.add_zero]at next;exact next
  refine W_dec (fun g2=> ?_) (fun g2=> ?_)
  ·rw[wrap_id (n:=(m:Int)+1) (by omega)]
   unfold fS at next ⊢
   rw[if_neg (by omega),Int.add_zero]at next;exact next
  obtain⟨code,t,⟨g1,g2',g3,g4,g5⟩,hsC⟩:=sC_at (p:=p) (hL c (by omega) (by omega))
  have bd:=sumL_bd (f:=fS x.cs p) (fun c=>fS_bd) (L:=L.take m)
  have bl:(L.take m).length≤90:=by simp;omega
  have e1:fS x.cs p c=sdS p code t:=by unfold fS;rw[if_pos ⟨by omega,by omega⟩,hsC]
  rw[e1]at next
  refine W_at (by omega) g1 ?_
  (repeat(with_reducible apply U1))
  unfold l16_2
  have:=sends_in (Q:=Q) (K:=K) (k:=k) hT g2' g4 g5 g3 (p:=p) (s0:=sumL (fS x.cs p) (L.take m)) (c:=c) (n:=L.length) (i:=m) (L:=ivs L) (Ko:=fun yi31 yi32 yl33 yi34 yi35 ys36 yi37 yi38 yl39 yl40 yl41 yl42 yl43 yl44=>l16_0g G k Ko j yi31 yi32 yl33 yi34 (IntKind.i64.wrap (yi35+1)) ys36 yi37 yi38 yl39 yl40 yl41 yl42 yl43 yl44) bd.1 (by omega) (by omega) g1 (by
   show W Q K (l16_0g G k Ko j p _ (ivs L) L.length (IntKind.i64.wrap ((m:Int)+1)) x.nm x.st x.fu x.vars x.ports x.timers (x.ns.map Nd.v) x.es x.cs)
   rw[wrap_id (n:=(m:Int)+1) (by omega)]
   exact next) k 0 (by omega) (by omega)
  have e0:sdS p (code.take 0) (t.take 0)=0:=by simp[sdS]
  rw[e0,Int.add_zero]at this
  exact this
theorem sendsg_ok(hk:10000≤k)(hT:TmX 36 G):SendsG 16 (fun _ args (K:LV→OV R)=>g16 G k args K):=by
 intro x L p K hL hl
 show W _ K (f16 G k x.nm x.st x.fu x.vars x.ports x.timers (x.ns.map Nd.v) x.es x.cs (ivs L) p K)
 unfold f16 l16_0
 rw[ivs_len]
 exact sendsg_loop (Q:=fun o=>o=[.int .i64 (sumL (fS x.cs p) L)]) (Ko:=fun y=>K [.int .i64 y]) hk hT hL hl (W_ret rfl) k 0 (by omega) (by omega)
theorem rsends_in(hT:TmX 37 G){x:Srch}{code:LV}{t:List Int}(hA:AllI code)(hS:Seg t.length 0 code t)(ht:∀y∈t,1≤y∧y≤65536)(hl:code.length≤9900){p s0 i:Int}{L:LV}(h0:0≤s0)(h9:s0≤1000000000000000)
 {Ko:LV→Int→Int→Int→ByteArray→Int→Int→LV→LV→LV→LV→LV→LV→OV R} (hKo:W Q K (Ko L p (s0+sdS p code t) i x.nm x.st x.fu x.vars x.ports x.timers (x.ns.map Nd.v) x.es x.cs)):
 ∀(j m:Nat),code.length-m<j→m≤code.length→W Q K (l17_2g G k Ko j L p (s0+sdS p (code.take m) (t.take m)) i (.sl 4 code) m x.nm x.st x.fu x.vars x.ports x.timers (x.ns.map Nd.v) x.es x.cs)
 |0,m,h1,h2=>by omega
 |j+1,m,h1,h2=>by
  show W Q K (b17_2 G k (l17_2g G k Ko j) Ko L p (s0+sdS p (code.take m) (t.take m)) i (.sl 4 code) m x.nm x.st x.fu x.vars x.ports x.timers (x.ns.map Nd.v) x.es x.cs)
  unfold b17_2
  have lt:=seg_len hS
  (repeat(with_reducible apply U1))
  refine W_dec (fun h=> ?_) (fun h=>by
   have e:m=code.length:=by omega
   rw[show t.take m=t by rw[e,lt,List.take_length],show code.take m=code by rw[e,List.take_length]];exact hKo)
  obtain⟨y,hy⟩:∃y,t[m]? =some y:=⟨_,List.getElem?_eq_getElem (by omega)⟩
  have hy1:=ht y (List.mem_of_getElem? hy)
  obtain⟨v,hv⟩:∃v,code[m]? =some v:=⟨_,List.getElem?_eq_getElem (by omega)⟩
  obtain⟨op,a,n',s,rfl⟩:=hA v (List.mem_of_getElem? hv)
  have hv':code[(m:Int).toNat]? =some (.agg [.int .i64 op,.int .i64 a,.int .i64 n',.str s]):=by rw[Int.toNat_natCast];exact hv
  have next:=rsends_in hT hA hS ht hl (Ko:=Ko) (L:=L) (i:=i) h0 h9 hKo j (m+1) (by omega) (by omega)
  rw[sdS_snoc lt hv hy]at next
  have bd:=sdS_bd (p:=p) (a:=code.take m) (t:=t.take m) fun z hz=>ht z (List.mem_of_mem_take hz)
  have bl:(code.take m).length≤9900:=by simp;omega
  have ht':∀z∈t,1≤z∧z≤1099511627776:=fun z hz=>by have:=ht z hz;omega
  have hT':=hT
  unfold TmX at hT'
  (repeat(with_reducible apply U1))
  rw[wrap_id (n:=(m:Int)+1) (by omega)]
  refine W_and (W_and (W_chk rfl (W_yes (by omega) (W_yes (by omega) ?_))))
  refine W_nk hv' ?_
  (repeat(with_reducible apply U1))
  refine W_beqI (fun e1=> ?_) (fun e1=> ?_)
  ·(repeat(with_reducible apply U1))
   refine W_and (W_and (W_chk rfl (W_yes (by omega) (W_yes (by omega) ?_))))
   refine W_nk hv' ?_
   (repeat(with_reducible apply U1))
   refine W_beqI (fun e2=> ?_) (fun e2=> ?_)
   ·refine W_call (hT' code t t.length m _ hS ht' (by omega)) ?_
    rintro _ rfl
    (repeat(with_reducible apply U1))
    rw[tmAt_in hy,wrap_id (by omega)]
    rw[if_pos (by simp[sdV,e1,e2]),←Int.add_assoc]at next
    exact next
   ·rw[if_neg (by simp[sdV,e2]),Int.add_zero]at next
    exact next
  ·rw[if_neg (by simp[sdV,e1]),Int.add_zero]at next
   exact next
theorem rsends_loop(hk:10000≤k)(hT:TmX 37 G){x:Srch}{L:List Int}{p:Int}(hL:AllSeg x.cs)(hl:L.length≤90){Ko:Int→OV R}(hKo:W Q K (Ko (sumL (fS x.cs p) L))):
 ∀(j m:Nat),L.length-m<j→m≤L.length→W Q K (l17_0g G k Ko j (ivs L) p (sumL (fS x.cs p) (L.take m)) m x.nm x.st x.fu x.vars x.ports x.timers (x.ns.map Nd.v) x.es x.cs)
 |0,m,h1,h2=>by omega
 |j+1,m,h1,h2=>by
  show W Q K (b17_0 G k (l17_0g G k Ko j) Ko (ivs L) p (sumL (fS x.cs p) (L.take m)) m x.nm x.st x.fu x.vars x.ports x.timers (x.ns.map Nd.v) x.es x.cs)
  unfold b17_0
  refine W_dec (fun h=> ?_) (fun h=>by rw[ivs_len]at h;rw[List.take_of_length_le (by omega)];exact hKo)
  rw[ivs_len]at h
  obtain⟨c,hc⟩:∃c,L[m]? =some c:=⟨_,List.getElem?_eq_getElem (by omega)⟩
  have hcv:(ivs L)[(m:Int).toNat]? =some (.int .i64 c):=by rw[Int.toNat_natCast];exact ivs_at hc
  have next:=rsends_loop hk hT hL hl hKo j (m+1) (by omega) (by omega)
  rw[takeS hc,sumL_snoc]at next
  refine W_at (by omega) hcv (W_aI ?_)
  refine W_dec (fun g=> ?_) (fun g=> ?_)
  ·rw[wrap_id (n:=(m:Int)+1) (by omega)]
   unfold fS at next ⊢
   rw[if_neg (by omega),Int.add_zero]at next;exact next
  refine W_at (by omega) hcv (W_aI ?_)
  refine W_dec (fun g2=> ?_) (fun g2=> ?_)
  ·rw[wrap_id (n:=(m:Int)+1) (by omega)]
   unfold fS at next ⊢
   rw[if_neg (by omega),Int.add_zero]at next;exact next
  refine W_at (by omega) hcv (W_aI ?_)
  obtain⟨code,t,⟨g1,g2',g3,g4,g5⟩,hsC⟩:=sC_at (p:=p) (hL c (by omega) (by omega))
  have bd:=sumL_bd (f:=fS x.cs p) (fun c=>fS_bd) (L:=L.take m)
  have bl:(L.take m).length≤90:=by simp;omega
  have e1:fS x.cs p c=sdS p code t:=by unfold fS;rw[if_pos ⟨by omega,by omega⟩,hsC]
  rw[e1]at next
  refine W_at (by omega) g1 ?_
  (repeat(with_reducible apply U1))
  unfold l17_2
  have:=rsends_in (Q:=Q) (K:=K) (k:=k) (x:=x) hT g2' g4 g5 g3 (p:=p) (s0:=sumL (fS x.cs p) (L.take m)) (i:=m) (L:=ivs L) (Ko:=fun yl34 yi35 yi36 yi37 ys38 yi39 yi40 yl41 yl42 yl43 yl44 yl45 yl46=>l17_0g G k Ko j yl34 yi35 yi36 (IntKind.i64.wrap (yi37+1)) ys38 yi39 yi40 yl41 yl42 yl43 yl44 yl45 yl46) bd.1 (by omega) (by
   show W Q K (l17_0g G k Ko j (ivs L) p _ (IntKind.i64.wrap ((m:Int)+1)) x.nm x.st x.fu x.vars x.ports x.timers (x.ns.map Nd.v) x.es x.cs)
   rw[wrap_id (n:=(m:Int)+1) (by omega)]
   exact next) k 0 (by omega) (by omega)
  have e0:sdS p (code.take 0) (t.take 0)=0:=by simp[sdS]
  rw[e0,Int.add_zero]at this
  exact this
theorem rsends_ok(hk:10000≤k)(hT:TmX 37 G):SendsG 17 (fun _ args (K:LV→OV R)=>g17 G k args K):=by
 intro x L p K hL hl
 show W _ K (f17 G k x.nm x.st x.fu x.vars x.ports x.timers (x.ns.map Nd.v) x.es x.cs (ivs L) p K)
 unfold f17 l17_0
 exact rsends_loop (Q:=fun o=>o=[.int .i64 (sumL (fS x.cs p) L)]) (Ko:=fun y=>K [.int .i64 y]) hk hT hL hl (W_ret rfl) k 0 (by omega) (by omega)
end
section
variable {R : Type} {G : ORC R} {k : Nat} {K : LV → OV R}
def sm:List Int→Int
 | []=>0
 |x::r=>x+sm r
theorem sm_app:∀{a b:List Int},sm (a++b)=sm a+sm b
 | [],b=>by simp[sm]
 |x::a,b=>by rw[List.cons_append,sm,sm,sm_app];omega
theorem sm_mul{n:Int}:∀{a:List Int},sm (a.map (n* ·))=n*sm a
 | []=>by simp[sm]
 |x::a=>by rw[List.map_cons,sm,sm,sm_mul,Int.mul_add]
theorem sm_pos:∀{a:List Int},(∀x∈a,1≤x)→0≤sm a
 | [],_=>by simp[sm]
 |x::a,h=>by have:=h x List.mem_cons_self;have:=sm_pos fun y hy=>h y (List.mem_cons_of_mem _ hy);rw[sm];omega
theorem sm_le{m:Int}:∀{a:List Int},(∀x∈a,x≤m)→sm a≤a.length*m
 | [],_=>by simp[sm]
 |x::a,h=>by
  have h1:=h x List.mem_cons_self
  have h2:=sm_le fun y hy=>h y (List.mem_cons_of_mem _ hy)
  have:((x::a).length:Int)*m=(a.length:Int)*m+m:=by rw[List.length_cons,Int.natCast_add,Int.add_mul];simp
  rw[sm,this];omega
def Above(q:Nat)(E:LV):Prop:=E=[]∨∃E' z,E=E'++[.int .i64 z]∧(q:Int)<z
theorem above_le{q q':Nat}{E:LV}(h:Above q E)(hq:q'≤q):Above q' E:=by
 rcases h with h|⟨E',z,h,hz⟩
 ·exact .inl h
 ·exact .inr ⟨E',z,h,by omega⟩
inductive Pops (q:Nat):Int→LV→LV→Int→LV→LV→Prop
 |done {tm:Int} {E W:LV}:Above q E→Pops q tm E W tm E W
 |pop {tm' a w:Int} {E W:LV} {tm:Int} {E0 W0:LV}:a≤q→Pops q w E W tm E0 W0→Pops q tm' (E++[.int .i64 a]) (W++[.int .i64 w]) tm E0 W0
theorem pops_len{q:Nat}{tm0:Int}{E W:LV}{tm:Int}{E0 W0:LV}(h:Pops q tm0 E W tm E0 W0)(hl:E.length=W.length):E0.length=W0.length∧E0.length≤E.length:=by
 induction h with
 |done _=>exact⟨hl,Nat.le_refl _⟩
 |pop _ _ ih=>have:=ih (by simpa using hl);exact⟨this.1,by simp;omega⟩
theorem get_last{E:LV}{v:V}:(E++[v])[((E.length:Nat):Int).toNat]? =some v:=by rw[Int.toNat_natCast];simp
theorem take_last{E:LV}{v:V}:(E++[v]).take ((E.length:Nat):Int).toNat=E:=by rw[Int.toNat_natCast];simp
theorem wrap_last{E:LV}{v:V}(h:E.length≤10000):IntKind.i64.wrap ((((E++[v]).length:Nat):Int)-1)=E.length:=by
 rw[List.length_append,List.length_singleton,wrap_id (by omega)];omega
theorem pop_loop{Q:LV→Prop}{K:LV→OV R}{sum:Int}{q:Nat}{L:LV}{len idx op A N:Int}{s:ByteArray}{Ko:Int→Int→LV→LV→LV→Int→Int→Int→Int→Int→ByteArray→OV R}{tm0:Int}{E W:LV}{tm:Int}{E0 W0:LV}(h:Pops q tm0 E W tm E0 W0)(hl:E.length=W.length)(hl2:E.length≤10000)
 (hKo:Go.VM.W Q K (Ko sum tm E0 W0 L len idx op A N s)):∀j:Nat,E.length<j→Go.VM.W Q K (l38_2g G k Ko j sum tm0 E W q L len idx op A N s):=by
 induction h with
 | @done tm E W h=>
   intro j hj
   obtain⟨j,rfl⟩:∃j',j=j'+1:=⟨j-1,by omega⟩
   show Go.VM.W Q K (b38_2 G k (l38_2g G k Ko j) Ko sum tm E W q L len idx op A N s)
   unfold b38_2
   rcases h with rfl|⟨E',z,rfl,hz⟩
   ·exact W_no (by simp) hKo
   ·have h1:E'.length≤10000:=by simp at hl2;omega
    refine W_yes (by simp) ?_
    rw[wrap_last h1]
    refine W_at (by omega) get_last ?_
    (repeat(with_reducible apply U1))
    exact W_no (by omega) hKo
 | @pop tm' a w E W tm E0 W0 ha h ih=>
   intro j hj
   have hl':E.length=W.length:=by simpa using hl
   have h1:E.length≤10000:=by simp at hl2;omega
   obtain⟨j,rfl⟩:∃j',j=j'+1:=⟨j-1,by omega⟩
   show Go.VM.W Q K (b38_2 G k (l38_2g G k Ko j) Ko sum tm' (E++[.int .i64 a]) (W++[.int .i64 w]) q L len idx op A N s)
   unfold b38_2
   refine W_yes (by simp) ?_
   rw[wrap_last h1,wrap_last (by omega)]
   refine W_at (by omega) get_last ?_
   (repeat(with_reducible apply U1))
   refine W_yes ha ?_
   refine W_at (by omega) get_last ?_
   (repeat(with_reducible apply U1))
   refine W_and (W_yes (by omega) (W_yes (by rw[List.length_append];omega) ?_))
   refine W_and (W_yes (by omega) (W_yes (by rw[List.length_append];omega) ?_))
   rw[take_last,take_last]
   exact ih hl' h1 hKo j (by simp at hj;omega)
theorem most_round{Q:LV→Prop}{K:LV→OV R}{X:Int→Int→LV→LV→LV→Int→Int→OV R}{Ko:Int→OV R}{L:LV}{p:Nat}{op a n:Int}{s:ByteArray}{sum tm0:Int}{E W:LV}{tm:Int}{E0 W0:LV}
 (hk:10000≤k) (hp:L[p]? =some (insS op a n s)) (hL:L.length≤9900) (h:Pops p tm0 E W tm E0 W0) (hl:E.length=W.length) (hl2:E.length≤p) (h0:0≤sum) (ht:1≤tm) (hs:sum+tm≤1152921504606846976)
 (h25:op=25→0≤tm*n∧tm*n≤1099511627776) (hX:op=25→Go.VM.W Q K (X (sum+tm) (tm*n) (E0++[.int .i64 a]) (W0++[.int .i64 tm]) L L.length (p+1:Nat))) (hX':op≠25→Go.VM.W Q K (X (sum+tm) tm E0 W0 L L.length (p+1:Nat))):
 Go.VM.W Q K (b38_0 G k X Ko sum tm0 E W L L.length p):=by
 unfold b38_0
 have hpl:p<L.length:=(List.getElem?_eq_some_iff.1 hp).1
 have hle:=pops_len h hl
 refine W_yes (by omega) (W_at (by omega) (by rw[Int.toNat_natCast];exact hp) ?_)
 unfold insS
 (repeat(with_reducible apply U1))
 unfold l38_2
 refine pop_loop h hl (by omega) ?_ k (by omega)
 have e1:IntKind.i64.wrap ((p:Int)+1)=(p+1:Nat):=by rw[wrap_id (by omega)];rfl
 rw[e1,wrap_id (n:=sum+tm) (by omega)]
 refine W_beqI (fun e=> ?_) (fun e=>hX' e)
 have:=h25 e
 refine W_yes (by omega) (W_yes (by omega) ?_)
 rw[wrap_id (n:=tm*n) (by omega)]
 exact hX e
theorem at_mid{A c D:LV}{v:V}{p:Nat}(h:A.length=p):(A++(v::c++D))[p]? =some v:=by subst h;simp
theorem most_seg{Q:LV→Prop}{K:LV→OV R}{Ko:Int→OV R}{L:LV}{e:Nat}(hk:10000≤k)(hL:L.length≤9900){p:Nat}{c:LV}{t:List Int}(h:Seg e p c t):
 ∀(A D:LV) (j:Nat) (sum tm0:Int) (E W:LV) (tm:Int) (E0 W0:LV),L=A++(c++D)→A.length=p→Pops p tm0 E W tm E0 W0→E.length=W.length→E.length≤p→Above (p+c.length) E0→1≤tm→(∀x∈t,1≤x∧tm*x≤1099511627776)→0≤sum→sum+tm*sm t≤1152921504606846976→
  (∀tm1 E1 W1,Pops (p+c.length) tm1 E1 W1 tm E0 W0→E1.length=W1.length→E1.length≤p+c.length→Go.VM.W Q K (l38_0g G k Ko j (sum+tm*sm t) tm1 E1 W1 L L.length (p+c.length:Nat)))→
  Go.VM.W Q K (l38_0g G k Ko (c.length+j) sum tm0 E W L L.length p):=by
 induction h with
 | @nil p=>
   intro A D j sum tm0 E W tm E0 W0 hA hp hP hl hl2 hab ht hx h0 hs hK
   have:=hK tm0 E W hP hl hl2
   simpa [sm]using this
 | @one p op a n s c t h1 h2 h3 h4 ih=>
   intro A D j sum tm0 E W tm E0 W0 hA hp hP hl hl2 hab ht hx h0 hs hK
   have hst:0≤sm t:=sm_pos fun x hx'=>(hx x (List.mem_cons_of_mem _ hx')).1
   have hmt:0≤tm*sm t:=Int.mul_nonneg (by omega) hst
   have hle:=pops_len hP hl
   have e1:tm*sm (1::t)=tm+tm*sm t:=by rw[sm,Int.mul_add,Int.mul_one]
   rw[e1]at hs hK
   rw[List.length_cons]at hab
   rw[show(insS op a n s::c).length+j=(c.length+j)+1 by rw[List.length_cons];omega]
   show Go.VM.W Q K (b38_0 G k (l38_0g G k Ko (c.length+j)) Ko sum tm0 E W L L.length p)
   refine most_round hk (by rw[hA];exact at_mid hp) hL hP hl hl2 h0 ht (by omega) (fun h=>absurd h h1) (fun h=>absurd h h1) (fun _=> ?_)
   refine ih (A++[insS op a n s]) D j (sum+tm) tm E0 W0 tm E0 W0 (by rw[hA];simp) (by simp[hp]) (.done (above_le hab (by omega))) hle.1 (by omega) (above_le hab (by omega)) ht (fun x hx'=>hx x (List.mem_cons_of_mem _ hx')) (by omega) (by omega) ?_
   intro tm1 E1 W1 g1 g2 g3
   have:=hK tm1 E1 W1 (by rw[List.length_cons,show p+(c.length+1)=p+1+c.length by omega];exact g1) g2 (by rw[List.length_cons];omega)
   rw[List.length_cons,show p+(c.length+1)=p+1+c.length by omega]at this
   rw[show sum+tm+tm*sm t=sum+(tm+tm*sm t)by omega];exact this
 | @loop p n B c tb t h1 h2 h3 h4 h5 ih1 ih2=>
   intro A D j sum tm0 E W tm E0 W0 hA hp hP hl hl2 hab ht hx h0 hs hK
   have hxb:∀x∈tb,1≤x∧tm*n*x≤1099511627776:=fun x hx'=>by
    have hm:n*x∈(1:Int)::(tb.map (n* ·)++n::t):=List.mem_cons_of_mem _ (List.mem_append_left _ (List.mem_map.2 ⟨x,hx',rfl⟩))
    have h':=hx _ hm
    refine⟨?_,by rw[Int.mul_assoc];exact h'.2⟩
    by_cases hx1:1≤x
    ·exact hx1
    ·have:n*x≤n*0:=Int.mul_le_mul_of_nonneg_left (by omega) (by omega)
     omega
   have hxn:=hx n (List.mem_cons_of_mem _ (List.mem_append_right _ List.mem_cons_self))
   have hxt:∀x∈t,1≤x∧tm*x≤1099511627776:=fun x hx'=>hx x (List.mem_cons_of_mem _ (List.mem_append_right _ (List.mem_cons_of_mem _ hx')))
   have hsb:0≤sm tb:=sm_pos fun x hx'=>(hxb x hx').1
   have hst:0≤sm t:=sm_pos fun x hx'=>(hxt x hx').1
   have htn1:1*1≤tm*n:=Int.mul_le_mul ht h1 (by omega) (by omega)
   have hmb:0≤tm*n*sm tb:=Int.mul_nonneg (by omega) hsb
   have hmt:0≤tm*sm t:=Int.mul_nonneg (by omega) hst
   have hle:=pops_len hP hl
   have e1:tm*sm (1::(tb.map (n* ·)++n::t))=tm+(tm*n*sm tb+(tm*n+tm*sm t)):=by
    rw[sm,sm_app,sm_mul,sm,Int.mul_add,Int.mul_add,Int.mul_add,Int.mul_one,Int.mul_assoc]
   rw[e1]at hs hK
   have hlen:(ins 25 (p+B.length+2:Nat) n::(B++ins 26 p 0::c)).length=B.length+(c.length+2):=by simp;omega
   rw[hlen]at hab hK ⊢
   rw[show B.length+(c.length+2)+j=(B.length+((c.length+j)+1))+1 by omega]
   show Go.VM.W Q K (b38_0 G k (l38_0g G k Ko (B.length+((c.length+j)+1))) Ko sum tm0 E W L L.length p)
   refine most_round (op:=25) (a:=(p+B.length+2:Nat)) (n:=n) (s:=⟨#[]⟩) hk (by rw[hA];exact at_mid hp) hL hP hl hl2 h0 ht (by omega) (fun _=>⟨by omega,hxn.2⟩) (fun _=> ?_) (fun h=>absurd rfl h)
   refine ih1 (A++[ins 25 (p+B.length+2:Nat) n]) (ins 26 p 0::c++D) ((c.length+j)+1) (sum+tm) (tm*n) _ _ (tm*n) _ _ (by rw[hA];simp) (by simp[hp]) (.done (.inr ⟨E0,_,rfl,by omega⟩)) (by simp[hle.1]) (by simp;omega) (.inr ⟨E0,_,rfl,by omega⟩) (by omega) hxb (by omega) (by omega) ?_
   intro tm1 E1 W1 g1 g2 g3
   show Go.VM.W Q K (b38_0 G k (l38_0g G k Ko (c.length+j)) Ko (sum+tm+tm*n*sm tb) tm1 E1 W1 L L.length (p+1+B.length:Nat))
   refine most_round (op:=26) (a:=(p:Int)) (n:=0) (s:=⟨#[]⟩) hk ?_ hL g1 g2 g3 (by omega) (by omega) (by omega) (fun h=>by omega) (fun h=>by omega) (fun _=> ?_)
   ·rw[hA,show A++(ins 25 (p+B.length+2:Nat) n::(B++ins 26 p 0::c)++D)=(A++ins 25 (p+B.length+2:Nat) n::B)++(insS 26 p 0 ⟨#[]⟩::c++D)by simp[ins,insS]]
    exact at_mid (by simp[hp];omega)
   have hq:p+1+B.length+1=p+B.length+2:=by omega
   rw[hq]
   refine ih2 (A++ins 25 (p+B.length+2:Nat) n::B++[ins 26 p 0]) D j (sum+tm+tm*n*sm tb+tm*n) (tm*n) (E0++[.int .i64 (p+B.length+2:Nat)]) (W0++[.int .i64 tm]) tm E0 W0 (by rw[hA];simp) (by simp[hp];omega) (.pop (Int.le_refl _) (.done (above_le hab (by omega)))) (by simp[hle.1]) (by simp;omega) (above_le hab (by omega)) ht hxt (by omega) (by omega) ?_
   intro tm2 E2 W2 g4 g5 g6
   rw[show p+(B.length+(c.length+2))=p+B.length+2+c.length by omega]at hK
   have:=hK tm2 E2 W2 g4 g5 g6
   rw[show sum+tm+tm*n*sm tb+tm*n+tm*sm t=sum+(tm+(tm*n*sm tb+(tm*n+tm*sm t)))by omega];exact this
def MoX(G:ORC R):Prop:=∀(c:LV) (t:List Int) (e:Nat) (K:LV→OV R),Seg e 0 c t→(∀x∈t,1≤x∧x≤1099511627776)→c.length≤9900→W (fun o=>o=[.int .i64 (sm t)]) K (G 38 [.sl 4 c] K)
theorem mox_ok(hk:10000≤k):MoX (fun _ args (K:LV→OV R)=>g38 G k args K):=by
 intro c t e K hc ht hl
 show W _ K (f38 G k c K)
 unfold f38 l38_0
 have lt:=seg_len hc
 have hs:sm t≤t.length*1099511627776:=sm_le fun x hx=>(ht x hx).2
 obtain⟨j,rfl⟩:∃j,k=c.length+(j+1):=⟨k-c.length-1,by omega⟩
 refine most_seg (Q:=fun o=>o=[.int .i64 (sm t)]) (K:=K) (Ko:=fun y=>K [.int .i64 y]) (by omega) hl hc [] [] (j+1) 0 1 [] [] 1 [] [] (by simp) rfl (.done (.inl rfl)) rfl (by simp) (.inl rfl) (by omega) (fun x hx=>by have:=ht x hx;omega) (by omega) (by omega) ?_
 intro tm1 E1 W1 h1 h2 h3
 show W _ K (b38_0 G (c.length+(j+1)) (l38_0g G (c.length+(j+1)) (fun y=>K [.int .i64 y]) j) (fun y=>K [.int .i64 y]) (0+1*sm t) tm1 E1 W1 c c.length (0+c.length:Nat))
 unfold b38_0
 refine W_no (by omega) (W_ret ?_)
 rw[Int.one_mul,Int.zero_add]
end
section
variable {R : Type} {G : ORC R} {k : Nat} {K : LV → OV R} {Q : LV → Prop}
theorem sm_app2:∀{a b:List Int},sm (a++b)=sm a+sm b
 | [],b=>by simp[sm]
 |x::a,b=>by rw[List.cons_append,sm,sm,sm_app2];omega
theorem sm_bd:∀{t:List Int},(∀x∈t,1≤x∧x≤65536)→0≤sm t∧sm t≤t.length*65536
 | [],_=>by simp[sm]
 |x::t,h=>by
  have h1:=h x List.mem_cons_self
  have h2:=sm_bd fun y hy=>h y (List.mem_cons_of_mem _ hy)
  rw[sm,List.length_cons];omega
def MostG(f:Nat)(G:ORC R):Prop:=∀(c:LV) (t:List Int) (e:Nat) (K:LV→OV R),Seg e 0 c t→(∀x∈t,1≤x∧x≤65536)→c.length≤9900→W (fun o=>o=[.int .i64 (sm t)]) K (G f [.sl 4 c] K)
theorem cmostg(h:MoX G):MostG 38 G:=fun c t e K hS ht hl=>h c t e K hS (fun x hx=>by have:=ht x hx;omega) hl
theorem rmost_loop(hT:TmX 37 G){Ko:Int→OV R}{L:LV}{t:List Int}{e:Nat}(hS:Seg e 0 L t)(ht:∀x∈t,1≤x∧x≤65536)(hL:L.length≤9900)(hKo:W Q K (Ko (sm t))):
 ∀(j m:Nat),L.length-m<j→m≤L.length→W Q K (l39_0g G k Ko j L (sm (t.take m)) m)
 |0,m,h1,h2=>by omega
 |j+1,m,h1,h2=>by
  show W Q K (b39_0 G k (l39_0g G k Ko j) Ko L (sm (t.take m)) m)
  unfold b39_0
  have lt:=seg_len hS
  refine W_dec (fun h=> ?_) (fun h=>by rw[show m=t.length by omega,List.take_length];exact hKo)
  have next:=rmost_loop hT hS ht hL hKo j (m+1) (by omega) (by omega)
  unfold TmX at hT
  have ht':∀x∈t,1≤x∧x≤1099511627776:=fun x hx=>by have:=ht x hx;omega
  obtain⟨x,hx⟩:∃x,t[m]? =some x:=⟨_,List.getElem?_eq_getElem (by omega)⟩
  have hx1:=ht x (List.mem_of_getElem? hx)
  refine W_call (hT L t e m _ hS ht' (by omega)) ?_
  rintro _ rfl
  (repeat(with_reducible apply U1))
  rw[tmAt_in hx]
  have p0:=sm_bd (t:=t.take m) fun y hy=>ht y (List.mem_of_mem_take hy)
  have p2:(t.take m).length≤9900:=by simp;omega
  have e1:sm (t.take (m+1))=sm (t.take m)+x:=by rw[takeS hx,sm_app2];simp[sm]
  rw[wrap_id (n:=(m:Int)+1) (by omega),wrap_id (n:=sm (t.take m)+x) (by omega),←e1]
  exact next
theorem rmost_ok(hk:10000≤k)(hT:TmX 37 G):MostG 39 (fun _ args (K:LV→OV R)=>g39 G k args K):=by
 intro c t e K hS ht hl
 show W _ K (f39 G k c K)
 unfold f39 l39_0
 exact rmost_loop (Q:=fun o=>o=[.int .i64 (sm t)]) (Ko:=fun x=>K [.int .i64 x]) hT hS ht hl (W_ret rfl) k 0 (by omega) (by omega)
open Classical in
noncomputable def mC(cs:LV)(c:Int):Int:=if h:∃code t,SegC cs c code t then sm (Classical.choose (Classical.choose_spec h))else 0
theorem mC_at{cs:LV}{c:Int}(h:∃code t,SegC cs c code t):∃code t,SegC cs c code t∧mC cs c=sm t:=by
 refine⟨_,_,Classical.choose_spec (Classical.choose_spec h),?_⟩
 unfold mC
 rw[dif_pos h]
noncomputable def costF(cs:LV)(fu:Int):Nat→Int
 |0=>1
 |m+1=>IntKind.i64.wrap (costF cs fu m+min (mC cs m) fu)
def CostG(f:Nat)(G:ORC R):Prop:=∀(x:Srch) (K:LV→OV R),AllSeg x.cs→x.cs.length≤90→W (fun o=>o=[.int .i64 (IntKind.i64.wrap (IntKind.i64.wrap (x.st+1)*costF x.cs x.fu x.cs.length))]) K
 (G f [.agg [.str x.nm,.int .i64 x.st,.int .i64 x.fu,.sl 1 x.vars,.sl 1 x.ports,.sl 1 x.timers,.sl 7 (x.ns.map Nd.v),.sl 6 x.es,.sl 1 x.cs]] K)
theorem min_a{n f:Int}:(bif decide (f<n)then f else n)=min n f:=by by_cases h:f<n<;>simp[h]<;>omega
theorem min_b{n f:Int}:(bif decide (n<f)then n else f)=min n f:=by by_cases h:n<f<;>simp[h]<;>omega
theorem cost_loop(hM:MostG 38 G){x:Srch}(hL:AllSeg x.cs)(hl:x.cs.length≤90){Ko:Int→ByteArray→Int→Int→LV→LV→LV→LV→LV→LV→OV R}(hKo:W Q K (Ko (costF x.cs x.fu x.cs.length) x.nm x.st x.fu x.vars x.ports x.timers (x.ns.map Nd.v) x.es x.cs)):
 ∀(j m:Nat),x.cs.length-m<j→m≤x.cs.length→W Q K (l18_0g G k Ko j (costF x.cs x.fu m) x.cs x.cs.length m x.nm x.st x.fu x.vars x.ports x.timers (x.ns.map Nd.v) x.es x.cs)
 |0,m,h1,h2=>by omega
 |j+1,m,h1,h2=>by
  show W Q K (b18_0 G k (l18_0g G k Ko j) Ko (costF x.cs x.fu m) x.cs x.cs.length m x.nm x.st x.fu x.vars x.ports x.timers (x.ns.map Nd.v) x.es x.cs)
  unfold b18_0
  refine W_dec (fun h=> ?_) (fun h=>by rw[show m=x.cs.length by omega];exact hKo)
  obtain⟨code,t,⟨g1,g2,g3,g4,g5⟩,e⟩:=mC_at (hL m (by omega) (by omega))
  unfold MostG at hM
  refine W_at (by omega) g1 ?_
  (repeat(with_reducible apply U1))
  refine W_call (hM code t t.length _ g4 g5 g3) ?_
  rintro _ rfl
  (repeat(with_reducible apply U1))
  rw[min_a,←e,wrap_id (n:=(m:Int)+1) (by omega)]
  exact cost_loop hM hL hl hKo j (m+1) (by omega) (by omega)
theorem cost_ok(hk:10000≤k)(hM:MostG 38 G):CostG 18 (fun _ args (K:LV→OV R)=>g18 G k args K):=by
 intro x K hL hl
 show W _ K (f18 G k x.nm x.st x.fu x.vars x.ports x.timers (x.ns.map Nd.v) x.es x.cs K)
 unfold f18 l18_0
 exact cost_loop (Q:=fun o=>o=[.int .i64 (IntKind.i64.wrap (IntKind.i64.wrap (x.st+1)*costF x.cs x.fu x.cs.length))]) (Ko:=fun y _ z _ _ _ _ _ _ _=>K [V.int .i64 (IntKind.i64.wrap (IntKind.i64.wrap (z+1)*y))]) hM hL hl (W_ret rfl) k 0 (by omega) (by omega)
theorem rcost_loop(hM:MostG 39 G){x:Srch}(hL:AllSeg x.cs)(hl:x.cs.length≤90){Ko:Int→ByteArray→Int→Int→LV→LV→LV→LV→LV→LV→OV R}(hKo:W Q K (Ko (costF x.cs x.fu x.cs.length) x.nm x.st x.fu x.vars x.ports x.timers (x.ns.map Nd.v) x.es x.cs)):
 ∀(j m:Nat),x.cs.length-m<j→m≤x.cs.length→W Q K (l19_0g G k Ko j (costF x.cs x.fu m) m x.nm x.st x.fu x.vars x.ports x.timers (x.ns.map Nd.v) x.es x.cs)
 |0,m,h1,h2=>by omega
 |j+1,m,h1,h2=>by
  show W Q K (b19_0 G k (l19_0g G k Ko j) Ko (costF x.cs x.fu m) m x.nm x.st x.fu x.vars x.ports x.timers (x.ns.map Nd.v) x.es x.cs)
  unfold b19_0
  refine W_dec (fun h=> ?_) (fun h=>by rw[show m=x.cs.length by omega];exact hKo)
  obtain⟨code,t,⟨g1,g2,g3,g4,g5⟩,e⟩:=mC_at (hL m (by omega) (by omega))
  unfold MostG at hM
  refine W_at (by omega) g1 ?_
  (repeat(with_reducible apply U1))
  refine W_call (hM code t t.length _ g4 g5 g3) ?_
  rintro _ rfl
  (repeat(with_reducible apply U1))
  rw[min_b,←e,wrap_id (n:=(m:Int)+1) (by omega)]
  exact rcost_loop hM hL hl hKo j (m+1) (by omega) (by omega)
theorem rcost_ok(hk:10000≤k)(hM:MostG 39 G):CostG 19 (fun _ args (K:LV→OV R)=>g19 G k args K):=by
 intro x K hL hl
 show W _ K (f19 G k x.nm x.st x.fu x.vars x.ports x.timers (x.ns.map Nd.v) x.es x.cs K)
 unfold f19 l19_0
 exact rcost_loop (Q:=fun o=>o=[.int .i64 (IntKind.i64.wrap (IntKind.i64.wrap (x.st+1)*costF x.cs x.fu x.cs.length))]) (Ko:=fun y _ z _ _ _ _ _ _ _=>K [V.int .i64 (IntKind.i64.wrap (IntKind.i64.wrap (z+1)*y))]) hM hL hl (W_ret rfl) k 0 (by omega) (by omega)
end
section
variable {R : Type} {G : ORC R} {k : Nat} {K : LV → OV R}
def RArg(G:ORC R):Prop:=∀(c x:LV) (N:Nms) (K:LV→OV R),(∀e∈x,ExprS 3 e)→N.ok→c.length+ce 3≤1000000→W (fun o=>o=[.sl 4 (c++cX N c.length x)]) K (G 114 [.sl 4 c,.sl 5 x,N.v] K)
theorem rarg_ok(hE:RX 3 G):RArg (fun _ args (K:LV→OV R)=>g114 G k args K):=by
 intro c x N K hx hN hm
 show W _ K (f114 G k c x N.a N.p N.t (N.nd.map Nd.v) K)
 unfold f114
 unfold RX at hE
 cases x with
 |nil=>exact W_eqY rfl (W_yes (by omega) (W_ret rfl))
 |cons e r=>
  have he:=hx e List.mem_cons_self
  have he':=he
  obtain⟨_,_,_,_,rfl,_⟩:=he
  refine W_eqN (by simp;omega) (W_yes (by simp) (W_nth0 (W_asAgg ?_)))
  refine W_call (hE c _ N _ he' hN hm) ?_
  rintro _ rfl
  exact W_uL (W_unNil (W_ret rfl))
def RAct(d:Nat)(G:ORC R):Prop:=∀(c:LV) (a:V) (N:Nms) (K:LV→OV R),ActS d a→N.ok→c.length+ca d≤1000000→W (fun o=>o=[.sl 4 (c++cA N d c.length a)]) K (G 111 [.sl 4 c,a,N.v] K)
def RBlk(d:Nat)(G:ORC R):Prop:=∀(c l:LV) (N:Nms) (K:LV→OV R),BlockS d l→N.ok→c.length+2*ca d≤1000000→W (fun o=>o=[.sl 4 (c++cR (cA N d) c.length l)]) K (G 101 [.sl 4 c,.sl 8 l,N.v] K)
theorem rblk_loop{d:Nat}(hA:RAct d G){Q:LV→Prop}{K:LV→OV R}{Ko:LV→OV R}{N:Nms}{l:LV}(hN:N.ok)(hl:BlockS d l){out:LV}(hKo:W Q K (Ko out)):
 ∀(B A:LV) (j:Nat) (c:LV),l=A++B→B.length<j→out=c++cR (cA N d) c.length B→c.length+B.length*ca d≤1000000→W Q K (l101_0g G k Ko j c l A.length N.a N.p N.t (N.nd.map Nd.v))
 |B,A,0,c,h1,h2,h3,h4=>by omega
 | [],A,j+1,c,h1,h2,h3,h4=>by
   show W Q K (b101_0 G k (l101_0g G k Ko j) Ko c l A.length N.a N.p N.t (N.nd.map Nd.v))
   unfold b101_0
   rw[List.append_nil]at h1
   subst h1
   refine W_no (by omega) ?_
   rw[h3]at hKo
   simpa [cR]using hKo
 |b::B,A,j+1,c,h1,h2,h3,h4=>by
  show W Q K (b101_0 G k (l101_0g G k Ko j) Ko c l A.length N.a N.p N.t (N.nd.map Nd.v))
  unfold b101_0
  have hb:=hl.2 b (by rw[h1];simp)
  have lb:=cA_len (N:=N) (at_:=c.length) hb
  have hlen:l.length=A.length+(B.length+1):=by rw[h1];simp
  have h2l:=hl.1
  have hget:l[((A.length:Nat):Int).toNat]? =some b:=by rw[Int.toNat_natCast,h1];simp
  have hA':=hA
  unfold RAct at hA'
  have hb':=hb
  cases d with
  |zero=>exact hb.elim
  |succ d=>
  obtain⟨kind,nm,ev,x,n,th,el,rfl,_⟩:=hb
  rw[List.length_cons,Nat.succ_mul]at h4
  refine W_yes (by omega) (W_at (by omega) hget (W_asAgg ?_))
  refine W_call (hA' c _ N _ hb' hN (by omega)) ?_
  rintro _ rfl
  refine W_uL (W_unNil ?_)
  rw[wrap_id (n:=(A.length:Int)+1) (by omega)]
  have:=rblk_loop hA hN hl hKo B (A++[V.agg [.int .i64 kind,.str nm,.str ev,.sl 5 x,.int .i64 n,.sl 8 th,.sl 8 el,.int .i64 0]]) j (c++cA N (d+1) c.length (V.agg [.int .i64 kind,.str nm,.str ev,.sl 5 x,.int .i64 n,.sl 8 th,.sl 8 el,.int .i64 0])) (by rw[h1];simp) (by simp at h2;omega) (by rw[h3,cR,List.length_append,List.append_assoc]) (by rw[List.length_append];omega)
  simpa using this
theorem rblk_ok{d:Nat}(hk:1000≤k)(hA:RAct d G):RBlk d (fun _ args (K:LV→OV R)=>g101 G k args K):=by
 intro c l N K hl hN hm
 show W _ K (f101 G k c l N.a N.p N.t (N.nd.map Nd.v) K)
 unfold f101 l101_0
 have h2l:=hl.1
 exact rblk_loop (Q:=fun o=>o=[.sl 4 (c++cR (cA N d) c.length l)]) (K:=K) (Ko:=fun yl=>K [.sl 4 yl]) (out:=c++cR (cA N d) c.length l) hA hN hl (W_ret rfl) l [] k c rfl (by omega) rfl (by have:l.length*ca d≤2*ca d:=Nat.mul_le_mul_right _ hl.1;omega)
theorem ract_ok{d:Nat}(hPl:PlX 102 G)(hE:RX 3 G)(hA:RArg G)(hB:RBlk d G):RAct (d+1) (fun _ args (K:LV→OV R)=>g111 G k args K):=by
 intro c a N K ha hN hm
 have hlen:=cA_len (N:=N) (at_:=c.length) ha
 obtain⟨kind,nm,ev,x,n,th,el,rfl,x1,x2,x3,x4,x5,x6,x7,x8,x9,x10,x11,x12⟩:=ha
 show W _ K (f111 G k c kind nm ev x n th el 0 N.a N.p N.t (N.nd.map Nd.v) K)
 unfold f111
 have hca:ca (d+1)=ce 3+2+4*ca d:=rfl
 have hth:BlockS d th:=⟨x9,x11⟩
 have hel:BlockS d el:=⟨x10,x12⟩
 unfold PlX at hPl;unfold RX at hE;unfold RArg at hA;unfold RBlk at hB
 have lx:=cX_len (N:=N) (at_:=c.length) x7
 have lt:=fun q=>cBl_len (N:=N) (at_:=q) hth
 have le:=fun q=>cBl_len (N:=N) (at_:=q) hel
 refine W_beqI (fun h=> ?_) (fun h1=> ?_)
 ·refine W_call (hA c x N _ x7 hN (by omega)) ?_
  rintro _ rfl
  refine W_uL (W_unNil ?_)
  refine W_call (hPl _ _ _ hN.1) ?_
  rintro _ rfl
  refine W_uI (W_unNil (W_yes (by(first|(simp only[List.length_append,List.length_cons,List.length_nil];done)|(simp only[List.length_append,List.length_cons,List.length_nil];omega))) (W_ret ?_)))
  conv=>rhs;unfold cA
  rw[if_pos h,List.append_assoc];rfl
 refine W_beqI (fun h=> ?_) (fun h2=> ?_)
 ·refine W_call (hA c x N _ x7 hN (by omega)) ?_
  rintro _ rfl
  refine W_uL (W_unNil (W_yes (by(first|(simp only[List.length_append,List.length_cons,List.length_nil];done)|(simp only[List.length_append,List.length_cons,List.length_nil];omega))) (W_ret ?_)))
  conv=>rhs;unfold cA
  rw[if_neg h1,if_pos h,List.append_assoc];rfl
 refine W_beqI (fun h=> ?_) (fun h3=> ?_)
 ·refine W_call (hA c x N _ x7 hN (by omega)) ?_
  rintro _ rfl
  refine W_uL (W_unNil ?_)
  refine W_call (hPl _ _ _ hN.2.1) ?_
  rintro _ rfl
  refine W_uI (W_unNil (W_yes (by(first|(simp only[List.length_append,List.length_cons,List.length_nil];done)|(simp only[List.length_append,List.length_cons,List.length_nil];omega))) (W_ret ?_)))
  conv=>rhs;unfold cA
  rw[if_neg h1,if_neg h2,if_pos h,List.append_assoc];rfl
 refine W_beqI (fun h=> ?_) (fun h4=> ?_)
 ·refine W_call (hA c x N _ x7 hN (by omega)) ?_
  rintro _ rfl
  refine W_uL (W_unNil ?_)
  refine W_call (hPl _ _ _ hN.2.2.1) ?_
  rintro _ rfl
  refine W_uI (W_unNil (W_yes (by(first|(simp only[List.length_append,List.length_cons,List.length_nil];done)|(simp only[List.length_append,List.length_cons,List.length_nil];omega))) (W_ret ?_)))
  conv=>rhs;unfold cA
  rw[if_neg h1,if_neg h2,if_neg h3,if_pos h,List.append_assoc];rfl
 refine W_beqI (fun h=> ?_) (fun h5=> ?_)
 ·refine W_call (hPl _ _ _ hN.2.2.1) ?_
  rintro _ rfl
  refine W_uI (W_unNil (W_yes (by omega) (W_ret ?_)))
  conv=>rhs;unfold cA
  rw[if_neg h1,if_neg h2,if_neg h3,if_neg h4,if_pos h];rfl
 refine W_beqI (fun h=> ?_) (fun h7=> ?_)
 ·refine W_yes (by omega) ?_
  refine W_call (hB _ th N _ hth hN (by(first|(simp only[List.length_append,List.length_cons,List.length_nil];done)|(simp only[List.length_append,List.length_cons,List.length_nil];omega)))) ?_
  rintro _ rfl
  have hl:∀z:V,(c++[z]).length=c.length+1:=fun z=>by simp
  rw[hl]
  have lt:=lt (c.length+1)
  generalize hBe:cR (cA N d) (c.length+1) th=B at lt ⊢
  refine W_uL (W_unNil (W_yes (by(first|(simp only[List.length_append,List.length_cons,List.length_nil];done)|(simp only[List.length_append,List.length_cons,List.length_nil];omega))) ?_))
  have e1:∀z w:V,c++[z]++B++[w]=c++z::(B++[w]):=fun z w=>by simp
  rw[e1]
  refine W_at (by omega) (get_at (by(first|(simp only[Int.toNat_natCast,List.length_append,List.length_cons,List.length_nil,List.length_set];done)|(simp only[Int.toNat_natCast,List.length_append,List.length_cons,List.length_nil,List.length_set];omega)))) (W_ca4 ?_)
  rw[set_at (by(first|(simp only[Int.toNat_natCast,List.length_append,List.length_cons,List.length_nil,List.length_set];done)|(simp only[Int.toNat_natCast,List.length_append,List.length_cons,List.length_nil,List.length_set];omega)))]
  refine W_ret ?_
  conv=>rhs;unfold cA
  rw[if_neg h1,if_neg h2,if_neg h3,if_neg h4,if_neg h5,if_pos h,hBe]
  have e2:∀z w:V,(c++z::(B++[w])).length=c.length+B.length+2:=fun z w=>by simp;omega
  rw[e2];rfl
 have h6:kind=6:=by omega
 have hx1:=x8 h6
 obtain⟨e,rfl⟩:∃e,x=[e]:=by
  match x,hx1 with
  | [e],_=>exact⟨e,rfl⟩
 have he:=x7 e (by simp)
 have he':=he
 refine W_yes (by simp) (W_nth0 ?_)
 have fin:cA N (d+1) c.length (V.agg [.int .i64 kind,.str nm,.str ev,.sl 5 [e],.int .i64 n,.sl 8 th,.sl 8 el,.int .i64 0])=chX (cA N d) c.length (cE N 3 c.length e) th el:=by
  conv=>lhs;unfold cA
  rw[if_neg h1,if_neg h2,if_neg h3,if_neg h4,if_neg h5,if_neg h7];rfl
 have lx':(cE N 3 c.length e).length≤ce 3:=cE_len he
 rw[fin]
 obtain⟨_,_,_,_,rfl,_⟩:=he
 refine W_asAgg ?_
 refine W_call (hE c _ N _ he' hN (by omega)) ?_
 rintro _ rfl
 generalize hE0:cE N 3 c.length _=E at lx' ⊢
 refine W_uL (W_unNil (W_yes (by(first|(simp only[List.length_append,List.length_cons,List.length_nil];done)|(simp only[List.length_append,List.length_cons,List.length_nil];omega))) ?_))
 refine W_call (hB _ th N _ hth hN (by(first|(simp only[List.length_append,List.length_cons,List.length_nil];done)|(simp only[List.length_append,List.length_cons,List.length_nil];omega)))) ?_
 rintro _ rfl
 have hl:∀z:V,(c++E++[z]).length=c.length+E.length+1:=fun z=>by simp;omega
 rw[hl]
 have lt:=lt (c.length+E.length+1)
 generalize hBe:cR (cA N d) (c.length+E.length+1) th=B at lt ⊢
 refine W_uL (W_unNil ?_)
 cases el with
 |nil=>
  refine W_no (by simp) ?_
  have e1:∀z:V,c++E++[z]++B=(c++E)++z::B:=fun z=>by simp
  rw[e1]
  refine W_at (by omega) (get_at (by(first|(simp only[Int.toNat_natCast,List.length_append,List.length_cons,List.length_nil,List.length_set];done)|(simp only[Int.toNat_natCast,List.length_append,List.length_cons,List.length_nil,List.length_set];omega)))) (W_ca4 ?_)
  rw[set_at (L:=c++E) (by(first|(simp only[Int.toNat_natCast,List.length_append,List.length_cons,List.length_nil,List.length_set];done)|(simp only[Int.toNat_natCast,List.length_append,List.length_cons,List.length_nil,List.length_set];omega)))]
  refine W_ret ?_
  have e2:∀z:V,((c++E)++z::B).length=c.length+E.length+1+B.length:=fun z=>by simp;omega
  rw[e2]
  rw[chX,hBe,ifX,List.append_assoc];rfl
 |cons e0 r0=>
  have le:=le (c.length+E.length+1+B.length+1)
  rw[chX,hBe]
  refine W_yes (by simp) ?_
  refine W_yes (by(first|(simp only[List.length_append,List.length_cons,List.length_nil];done)|(simp only[List.length_append,List.length_cons,List.length_nil];omega))) ?_
  have e1:∀z w:V,c++E++[z]++B++[w]=(c++E)++z::(B++[w]):=fun z w=>by simp
  rw[e1]
  refine W_at (by omega) (get_at (by(first|(simp only[Int.toNat_natCast,List.length_append,List.length_cons,List.length_nil,List.length_set];done)|(simp only[Int.toNat_natCast,List.length_append,List.length_cons,List.length_nil,List.length_set];omega)))) (W_ca4 ?_)
  rw[set_at (L:=c++E) (by(first|(simp only[Int.toNat_natCast,List.length_append,List.length_cons,List.length_nil,List.length_set];done)|(simp only[Int.toNat_natCast,List.length_append,List.length_cons,List.length_nil,List.length_set];omega)))]
  have e2:∀z w:V,((c++E)++z::(B++[w])).length=c.length+E.length+1+B.length+1:=fun z w=>by simp;omega
  rw[e2]
  refine W_call (hB _ (e0::r0) N _ hel hN (by rw[e2];omega)) ?_
  rintro _ rfl
  rw[e2]
  generalize hCe:cR (cA N d) (c.length+E.length+1+B.length+1) (e0::r0)=C at le ⊢
  refine W_uL (W_unNil ?_)
  have e3:∀z w:V,(c++E)++z::(B++[w])++C=(c++E++z::B)++w::C:=fun z w=>by simp
  rw[e3]
  have e4:((c++E++[V.agg [.int .i64 24,.int .i64 0,.int .i64 0,.str ⟨#[]⟩]]++B).length:Int)=((c++E++V.agg [.int .i64 24,.int .i64 0,.int .i64 0,.str ⟨#[]⟩]::B).length:Nat):=by simp
  first
   |rw[e4]
   |skip
  refine W_at (by omega) (get_at (by(first|(simp only[Int.toNat_natCast,List.length_append,List.length_cons,List.length_nil,List.length_set];done)|(simp only[Int.toNat_natCast,List.length_append,List.length_cons,List.length_nil,List.length_set];omega)))) (W_ca4 ?_)
  rw[set_at (L:=c++E++_::B) (by(first|(simp only[Int.toNat_natCast,List.length_append,List.length_cons,List.length_nil,List.length_set];done)|(simp only[Int.toNat_natCast,List.length_append,List.length_cons,List.length_nil,List.length_set];omega)))]
  refine W_ret ?_
  have e5:∀z w:V,((c++E++z::B)++w::C).length=c.length+E.length+1+B.length+1+C.length:=fun z w=>by simp;omega
  rw[e5,elX]
  simp[ins]
def BlX(f:FuncId)(d:Nat)(G:ORC R):Prop:=∀(l:LV) (N:Nms) (K:LV→OV R),BlockS d l→N.ok→W (fun o=>o=[.sl 4 (cR (cA N d) 0 l)]) K (G f [.sl 8 l,N.v] K)
theorem rblx_ok{d:Nat}(hd:2*ca d≤1000000)(hB:RBlk d G):BlX 90 d (fun _ args (K:LV→OV R)=>g90 G k args K):=by
 intro l N K hl hN
 show W _ K (f90 G k l N.a N.p N.t (N.nd.map Nd.v) K)
 unfold f90
 unfold RBlk at hB
 refine W_call (hB [] l N _ hl hN (by simpa using hd)) ?_
 rintro _ rfl
 exact W_uL (W_unNil (W_ret rfl))
end
section
variable {R : Type} {G : ORC R} {k : Nat} {K : LV → OV R}
def GdX(f:FuncId)(d:Nat)(G:ORC R):Prop:=∀(e:V) (N:Nms) (K:LV→OV R),ExprS d e→N.ok→W (fun o=>o=[.sl 4 (cE N d 0 e)]) K (G f [e,N.v] K)
theorem rgdx_ok{d:Nat}(hd:ce d≤1000000)(hE:RX d G):GdX 70 d (fun _ args (K:LV→OV R)=>g70 G k args K):=by
 intro e N K he hN
 have he':=he
 cases d with
 |zero=>exact he.elim
 |succ d=>
 obtain⟨kind,n,nm,kids,rfl,_⟩:=he
 show W _ K (f70 G k kind n nm kids 0 N.a N.p N.t (N.nd.map Nd.v) K)
 unfold f70
 unfold RX at hE
 refine W_call (hE [] _ N _ he' hN (by simpa using hd)) ?_
 rintro _ rfl
 exact W_uL (W_unNil (W_ret rfl))
end
section
variable {R : Type} {G : ORC R} {k : Nat} {K : LV → OV R}
theorem namesNE_nds{states:LV}(hs:∀s∈states,StateS 2 3 s∧kindV s≤2)(hn:NmI (nmVL 3 states)):NamesNE (ndsOf states):=by
 refine⟨fun n h=> ?_,fun j n h hj=> ?_⟩
 ·rcases names_nds hs hn h with⟨_,e⟩|⟨h0,_⟩
  ·rw[e,ba_toList]
  ·omega
 ·rcases names_nds hs hn h with⟨h0,_⟩|⟨_,c,hc,e⟩
  ·omega
  ·rw[e]
   intro e2
   have e3:(nmOf c (j-1)).size=0:=by rw[←ba_len,e2];rfl
   have e4:(nmOf c (j-1)).size=1+(digB (j-1)).size:=by unfold nmOf;rw[ByteArray.size_append];rfl
   omega
def namV(a p t:LV)(nd:List Nd):V:=.agg [.sl 1 a,.sl 1 p,.sl 1 t,.sl 7 (nd.map Nd.v)]
def NamS(a p t:LV)(nd:List Nd):Prop:=Nms.ok ⟨a,p,t,nd⟩
def CodeG(c:LV):Prop:=AllI c∧c.length≤9900∧∃t,Seg t.length 0 c t∧∀x∈t,1≤x∧x≤65536
def CodesG(l:LV):Prop:=∀v∈l,∃c,v= .sl 4 c∧CodeG c
theorem codesG_snoc{l c:LV}(h:CodesG l)(hc:CodeG c):CodesG (l++[.sl 4 c]):=fun v hv=>by
 rcases List.mem_append.1 hv with hv|hv
 ·exact h v hv
 ·rw[List.mem_singleton.1 hv];exact⟨c,rfl,hc⟩
def CodeQ(o:LV):Prop:=∃c',o=[.sl 4 c']∧CodeG c'∧True∧True
def BlkOK(d:Nat)(G:ORC R):Prop:=∀(l a p t:LV) (nd:List Nd) (K:LV→OV R),BlockS d l→NamS a p t nd→W CodeQ K (G 90 [.sl 8 l,namV a p t nd] K)
def GdOK(G:ORC R):Prop:=∀(e:V) (a p t:LV) (nd:List Nd) (K:LV→OV R),ExprS 3 e→NamS a p t nd→W CodeQ K (G 70 [e,namV a p t nd] K)
theorem blk_of(hB:BlX 90 3 G):BlkOK 3 G:=by
 intro l a p t nd K hl hn
 unfold BlX at hB
 refine W_call (hB l ⟨a,p,t,nd⟩ _ hl hn) ?_
 rintro _ rfl
 obtain⟨u,hu⟩:=cBl_sh (N:=⟨a,p,t,nd⟩) hl
 have hs:=sh_len hu 0
 have hlen:=cBl_len (N:=⟨a,p,t,nd⟩) (at_:=0) hl
 have e1:2*ca 3≤9900:=by decide
 have e2:cm 3≤65536:=by decide
 exact W_ret ⟨_,rfl,⟨cBl_all hl,by omega,u,hu.1 0 u.length (by omega),fun x hx=>by have:=hu.2 x hx;omega⟩,trivial,trivial⟩
theorem gd_of(hG:GdX 70 3 G):GdOK G:=by
 intro e a p t nd K he hn
 unfold GdX at hG
 refine W_call (hG e ⟨a,p,t,nd⟩ _ he hn) ?_
 rintro _ rfl
 obtain⟨u,hu⟩:=cE_sh (N:=⟨a,p,t,nd⟩) he
 have hs:=sh_len hu 0
 have hlen:=cE_len (N:=⟨a,p,t,nd⟩) (at_:=0) he
 have e1:ce 3≤9900:=by decide
 exact W_ret ⟨_,rfl,⟨cE_all he,by omega,u,hu.1 0 u.length (by omega),fun x hx=>by have:=hu.2 x hx;omega⟩,trivial,trivial⟩
end
section
variable {R : Type} {G : ORC R} {k : Nat} {K : LV → OV R}
def TextsOK(G:ORC R):Prop:=∀(l:LV) (K:LV→OV R),NamedS 100 l→W (fun o=>∃q,o=[.sl 1 q]∧StrsS 100 q) K (G 46 [.sl 3 l] K)
theorem texts_loop{Q:LV→Prop}{K:LV→OV R}{Ko:LV→OV R}{l:LV}(hl:NamedS 100 l)(hKo:∀q,StrsS 100 q→W Q K (Ko q)):
 ∀(j:Nat) (acc:LV) (i:Int),0≤i→i≤(l.length:Int)→(l.length:Int)-i<j→StrsS i.toNat acc→W Q K (l46_0g G k Ko j l acc i)
 |0,acc,i,h1,h2,h3,h4=>by omega
 |j+1,acc,i,h1,h2,h3,h4=>by
  show W Q K (b46_0 G k (l46_0g G k Ko j) Ko l acc i)
  unfold b46_0
  have hll:=hl.1
  have hla:=h4.1
  refine W_dec (fun h=> ?_) (fun h=>hKo acc ⟨by omega,h4.2⟩)
  refine W_and (W_yes h1 (W_yes h ?_))
  refine W_nth (by omega) (fun v _ hv=> ?_)
  obtain⟨t,n,rfl,ht,hn⟩:=hl.2 v hv
  refine W_ca3 (W_asStr (W_yes (by omega) ?_))
  rw[wrap_id (n:=i+1) (by omega)]
  refine texts_loop hl hKo j _ (i+1) (by omega) (by omega) (by omega) ?_
  rw[show(i+1).toNat=i.toNat+1 by omega]
  exact strs_snoc h4 ht
theorem texts_ok(hk:1000≤k):TextsOK (fun _ args (K:LV→OV R)=>g46 G k args K):=by
 intro l K hl
 show W _ K (f46 G k l K)
 unfold f46 l46_0
 exact texts_loop hl (fun q hq=>W_ret ⟨_,rfl,hq⟩) k [] 0 (by omega) (by omega) (by have:=hl.1;omega) ⟨by simp,by simp⟩
def NamesC(G:ORC R):Prop:=∀(nm:ByteArray) (x y z:Int) (a b c states:LV) (K:LV→OV R),NamedS 100 a→NamedS 100 b→NamedS 100 c→(∀s∈states,StateS 2 3 s∧kindV s≤2)→nszL 3 states≤900→NmI (nmVL 3 states)→
 W (fun o=>∃p q t,o=[namV p q t (ndsOf states)]∧NamS p q t (ndsOf states)) K (G 45 [.agg [.str nm,.int .i64 x,.int .i64 y,.sl 3 a,.sl 3 b,.sl 3 c,.sl 7 states,.int .i64 z]] K)
theorem ndsOf_len{states:LV}:(ndsOf states).length=1+nszL 3 states:=by unfold ndsOf;rw[List.length_cons,forest_len];omega
theorem names_c(hT:TextsOK G)(hN:NodesOK G):NamesC (fun _ args (K:LV→OV R)=>g45 G k args K):=by
 intro nm x y z a b c states K ha hb hc hs hl hnm
 show W _ K (f45 G k nm x y a b c states z K)
 unfold f45
 unfold TextsOK at hT
 refine W_call (hT _ _ ha) ?_
 rintro _ ⟨q1,rfl,hq1⟩
 refine W_uL (W_unNil (W_call (hT _ _ hb) ?_))
 rintro _ ⟨q2,rfl,hq2⟩
 refine W_uL (W_unNil (W_call (hT _ _ hc) ?_))
 rintro _ ⟨q3,rfl,hq3⟩
 refine W_uL (W_unNil (W_call (hN nm x y a b c states z _ hs hl) ?_))
 rintro _ rfl
 exact W_uL (W_unNil (W_ret ⟨_,_,_,rfl,hq1,hq2,hq3,by show(ndsOf states).length≤1000;rw[ndsOf_len];omega,namesNE_nds hs hnm⟩))
def LbOK(G:ORC R):Prop:=∀(l:LV) (nm:ByteArray) (x y:Int) (v1 v2 v3 ns es codes a p t:LV) (nd:List Nd) (K:LV→OV R),BlockS 3 l→NamS a p t nd→CodesG codes→codes.length≤1000000→
 W (fun o=>∃r codes',o=[.int .i64 r,.str nm,.int .i64 x,.int .i64 y,.sl 1 codes']∧ -1≤r∧CodesG codes'∧codes'.length≤codes.length+1) K
   (G 68 [.sl 8 l,.str nm,.int .i64 x,.int .i64 y,.sl 1 v1,.sl 1 v2,.sl 1 v3,.sl 7 ns,.sl 6 es,.sl 1 codes,.sl 1 a,.sl 1 p,.sl 1 t,.sl 7 (nd.map Nd.v)] K)
theorem lb_ok(hB:BlkOK 3 G):LbOK (fun _ args (K:LV→OV R)=>g68 G k args K):=by
 intro l nm x y v1 v2 v3 ns es codes a p t nd K hl hn hc hcl
 show W _ K (f68 G k l nm x y v1 v2 v3 ns es codes a p t (nd.map Nd.v) K)
 unfold f68
 unfold BlkOK namV at hB
 refine W_beqI (fun _=>W_ret ⟨_,_,rfl,by omega,hc,by omega⟩) (fun _=> ?_)
 refine W_call (hB l a p t nd _ hl hn) ?_
 rintro _ ⟨c1,rfl,a1,b1,b2⟩
 refine W_uL (W_unNil (W_yes (by omega) (W_ret ⟨_,_,rfl,?_,codesG_snoc hc a1,by simp⟩)))
 simp only[List.length_append,List.length_cons,List.length_nil]
 rw[wrap_id (by omega)];omega
def StsOK(d:Nat)(G:ORC R):Prop:=∀(l:LV) (nm:ByteArray) (x y:Int) (v1 v2 v3 es codes a p t:LV) (ns ns0 nd:List Nd) (K:LV→OV R),(∀s∈l,StateS 2 d s)→NamesIn ns0 d l→CoreEq ns ns0→ns0.length≤1000→(∀e∈es,EdgeS ns0 e)→es.length+2*nszL d l≤100000→CodesG codes→codes.length+6*nszL d l≤100000→NamS a p t nd→l.length≤4→
 W (fun o=>∃ns' es' codes',o=[.str nm,.int .i64 x,.int .i64 y,.sl 7 (ns'.map Nd.v),.sl 6 es',.sl 1 codes']∧CoreEq ns' ns0∧(∀e∈es',EdgeS ns0 e)∧es'.length≤es.length+2*nszL d l∧CodesG codes'∧codes'.length≤codes.length+6*nszL d l) K
   (G 48 [.sl 7 l,.str nm,.int .i64 x,.int .i64 y,.sl 1 v1,.sl 1 v2,.sl 1 v3,.sl 7 (ns.map Nd.v),.sl 6 es,.sl 1 codes,.sl 1 a,.sl 1 p,.sl 1 t,.sl 7 (nd.map Nd.v)] K)
theorem edge_snoc{ns:List Nd}{es:LV}{fr to dom gd ac:Int}{ev:ByteArray}(h:∀e∈es,EdgeS ns e)(h1:1≤fr)(h2:fr<ns.length)(h3:StrS ev)(h4:(to= -1∧dom= -1)∨(1≤to∧to<ns.length∧dom=domN ns fr to))(h5: -1≤gd)(h6: -1≤ac):
 ∀e∈es++[.agg [.int .i64 fr,.int .i64 to,.int .i64 dom,.int .i64 gd,.int .i64 ac,.str ev]],EdgeS ns e:=mem_snoc h ⟨fr,to,dom,gd,ac,ev,rfl,h1,h2,h3,h4,h5,h6⟩
theorem st_trans(hF:FindOK G)(hD:DomOK G)(hLb:LbOK G)(hG:GdOK G){Q:LV→Prop}{K:LV→OV R}{l v1 v2 v3 a p t tr:LV}{i fr z kind:Int}{nm sn:ByteArray}{x y:Int}{e1 e2 e4:V}{ns ns0 nd:List Nd}{Ko:LV→Int→ByteArray→Int→Int→LV→LV→LV→LV→LV→LV→LV→LV→LV→LV→Int→ByteArray→V→V→V→V→Int→OV R}
 (hc:CoreEq ns ns0) (hl0:ns0.length≤1000) (hn:NamS a p t nd) (hfr:1≤fr∧fr<ns0.length) (htr:tr.length≤2) (htt:∀w∈tr,TransS w) {m1 m2:Nat} (hm1:m1≤100000) (hm2:m2≤100000)
 (hKo:∀es codes,(∀e∈es,EdgeS ns0 e)→es.length≤m1→CodesG codes→codes.length≤m2→W Q K (Ko l i nm x y v1 v2 v3 (ns.map Nd.v) es codes a p t (nd.map Nd.v) kind sn e1 e2 (.sl 5 tr) e4 z)):
 ∀(j:Nat) (q:Int) (es codes:LV),tr.length-q<j→0≤q→q≤tr.length→(∀e∈es,EdgeS ns0 e)→es.length+(tr.length-q)≤m1→CodesG codes→codes.length+2*(tr.length-q)≤m2→
  W Q K (l48_2g G k Ko j l i fr q nm x y v1 v2 v3 (ns.map Nd.v) es codes a p t (nd.map Nd.v) kind sn e1 e2 (.sl 5 tr) e4 z)
 |0,q,es,codes,h1,h2,h3,h4,h5,h6,h7=>by omega
 |j+1,q,es,codes,h1,h2,h3,h4,h5,h6,h7=>by
  show W Q K (b48_2 G k (l48_2g G k Ko j) Ko l i fr q nm x y v1 v2 v3 (ns.map Nd.v) es codes a p t (nd.map Nd.v) kind sn e1 e2 (.sl 5 tr) e4 z)
  unfold b48_2
  refine W_asSl (W_dec (fun h=> ?_) (fun h=>hKo es codes h4 (by omega) h6 (by omega)))
  refine W_asSl (W_and (W_and (W_z (W_yes h2 (W_yes h ?_)))))
  refine W_nth (by omega) (fun v _ hv=> ?_)
  obtain⟨ev,gd,tg,acts,rfl,t1,t2,t3,t4,t5⟩:=htt v hv
  refine W_ca5 (W_asStr (W_asSl (W_asStr (W_asSl (W_aI ?_)))))
  have hnl:ns.length=ns0.length:=hc.len
  unfold FindOK at hF;unfold DomOK at hD;unfold LbOK at hLb;unfold GdOK namV at hG
  refine W_call (hF ns tg _ (by omega)) ?_
  rintro _ rfl
  refine W_uI (W_unNil ?_)
  rw[findN_core hc]
  rw[wrap_id (n:=q+1) (by omega)]
  have next:∀(to dom gdn ac:Int) (codes':LV),((to= -1∧dom= -1)∨(1≤to∧to<ns0.length∧dom=domN ns0 fr to))→ -1≤gdn→ -1≤ac→CodesG codes'→codes'.length≤codes.length+2→
   W Q K (l48_2g G k Ko j l i fr (q+1) nm x y v1 v2 v3 (ns.map Nd.v) (es++[.agg [.int .i64 fr,.int .i64 to,.int .i64 dom,.int .i64 gdn,.int .i64 ac,.str ev]]) codes' a p t (nd.map Nd.v) kind sn e1 e2 (.sl 5 tr) e4 z):=by
   intro to dom gdn ac codes' k1 k2 k3 k4 k5
   exact st_trans hF hD hLb hG hc hl0 hn hfr htr htt hm1 hm2 hKo j (q+1) _ codes' (by omega) (by omega) (by omega) (edge_snoc h4 hfr.1 hfr.2 t1 k1 k2 k3) (by simp;omega) k4 (by omega)
  have guard:∀(to dom:Int),((to= -1∧dom= -1)∨(1≤to∧to<ns0.length∧dom=domN ns0 fr to))→∀F:LV→OV R,
   (∀c1,CodeG c1→W Q K (F [.sl 4 c1]))→gd.length>0→W Q K (nthK gd 0 fun e=>V.asAgg e fun l=>G 70 [.agg l,.agg [.sl 1 a,.sl 1 p,.sl 1 t,.sl 7 (nd.map Nd.v)]] F):=by
   intro to dom _ F hFc hg
   refine W_nth hg (fun v _ hv=> ?_)
   have h1:=t4 v hv
   have h1':=h1
   obtain⟨_,_,_,_,rfl,_⟩:=h1
   refine W_asAgg (W_call (hG _ a p t nd _ h1' hn) ?_)
   rintro _ ⟨c1,rfl,a1,_⟩
   exact hFc c1 a1
  have hcl:codes.length≤100000:=by omega
  refine W_dec (fun hge=> ?_) (fun hlt=> ?_)
  ·have hto:1≤findN ns0 tg∧findN ns0 tg<ns0.length:=by rcases findN_at (l:=ns0) (s:=tg)with e|e<;>omega
   refine W_call (hD ns fr _ _ (by omega)) ?_
   rintro _ rfl
   rw[domN_core hc]
   refine W_uI (W_unNil ?_)
   refine W_dec (fun hg=> ?_) (fun hg=> ?_)
   ·refine W_and (W_and (W_z (W_chk rfl (W_yes (by omega) ?_))))
    refine guard _ _ (.inr ⟨hto.1,hto.2,rfl⟩) _ (fun c1 a1=> ?_) (by omega)
    refine W_uL (W_unNil (W_yes (by omega) ?_))
    refine W_call (hLb acts nm x y v1 v2 v3 _ _ _ a p t nd _ t5 hn (codesG_snoc h6 a1) (by simp;omega)) ?_
    rintro _ ⟨r,codes',rfl,r1,r2,r3⟩
    simp only[List.length_append,List.length_cons,List.length_nil]at r3
    refine W_uI (W_uS (W_uI (W_uI (W_uL (W_unNil (W_yes (by omega) ?_))))))
    exact next _ _ _ _ _ (.inr ⟨hto.1,hto.2,rfl⟩) (by simp only[List.length_append,List.length_cons,List.length_nil];rw[wrap_id (by omega)];omega) r1 r2 (by omega)
   ·refine W_call (hLb acts nm x y v1 v2 v3 _ _ _ a p t nd _ t5 hn h6 (by omega)) ?_
    rintro _ ⟨r,codes',rfl,r1,r2,r3⟩
    refine W_uI (W_uS (W_uI (W_uI (W_uL (W_unNil (W_yes (by omega) ?_))))))
    exact next _ _ _ _ _ (.inr ⟨hto.1,hto.2,rfl⟩) (by omega) r1 r2 (by omega)
  ·have hto:findN ns0 tg= -1:=by rcases findN_at (l:=ns0) (s:=tg)with e|e<;>omega
   refine W_dec (fun hg=> ?_) (fun hg=> ?_)
   ·refine W_and (W_and (W_z (W_chk rfl (W_yes (by omega) ?_))))
    refine guard _ _ (.inl ⟨hto,rfl⟩) _ (fun c1 a1=> ?_) (by omega)
    refine W_uL (W_unNil (W_yes (by omega) ?_))
    refine W_call (hLb acts nm x y v1 v2 v3 _ _ _ a p t nd _ t5 hn (codesG_snoc h6 a1) (by simp;omega)) ?_
    rintro _ ⟨r,codes',rfl,r1,r2,r3⟩
    simp only[List.length_append,List.length_cons,List.length_nil]at r3
    refine W_uI (W_uS (W_uI (W_uI (W_uL (W_unNil (W_yes (by omega) ?_))))))
    exact next _ _ _ _ _ (.inl ⟨hto,rfl⟩) (by simp only[List.length_append,List.length_cons,List.length_nil];rw[wrap_id (by omega)];omega) r1 r2 (by omega)
   ·refine W_call (hLb acts nm x y v1 v2 v3 _ _ _ a p t nd _ t5 hn h6 (by omega)) ?_
    rintro _ ⟨r,codes',rfl,r1,r2,r3⟩
    refine W_uI (W_uS (W_uI (W_uI (W_uL (W_unNil (W_yes (by omega) ?_))))))
    exact next _ _ _ _ _ (.inl ⟨hto,rfl⟩) (by omega) r1 r2 (by omega)
theorem sts_loop{d:Nat}(hk:1000≤k)(hF:FindOK G)(hD:DomOK G)(hLb:LbOK G)(hG:GdOK G)(hS:∀d',d=d'+1→StsOK d' G){Q:LV→Prop}{K:LV→OV R}{l v1 v2 v3 a p t:LV}{nm:ByteArray}{x y:Int}{ns0 nd:List Nd}{Ko:ByteArray→Int→Int→LV→LV→LV→LV→LV→LV→LV→LV→LV→LV→OV R}
 (hl:∀s∈l,StateS 2 d s) (hnm:NamesIn ns0 d l) (hl0:ns0.length≤1000) (hn:NamS a p t nd) (hll:l.length≤4) {M1 M2:Nat} (hM1:M1≤100000) (hM2:M2≤100000)
 (hKo:∀ns es codes,CoreEq ns ns0→(∀e∈es,EdgeS ns0 e)→es.length≤M1→CodesG codes→codes.length≤M2→W Q K (Ko nm x y v1 v2 v3 (ns.map Nd.v) es codes a p t (nd.map Nd.v))):
 ∀(B A:LV) (j:Nat) (ns:List Nd) (es codes:LV),l=A++B→B.length<j→CoreEq ns ns0→(∀e∈es,EdgeS ns0 e)→es.length+2*nszL d B≤M1→CodesG codes→codes.length+6*nszL d B≤M2→
  W Q K (l48_0g G k Ko j l A.length nm x y v1 v2 v3 (ns.map Nd.v) es codes a p t (nd.map Nd.v))
 |B,A,0,ns,es,codes,h1,h2,h3,h4,h5,h6,h7=>by omega
 | [],A,j+1,ns,es,codes,h1,h2,h3,h4,h5,h6,h7=>by
   show W Q K (b48_0 G k (l48_0g G k Ko j) Ko l A.length nm x y v1 v2 v3 (ns.map Nd.v) es codes a p t (nd.map Nd.v))
   unfold b48_0
   refine W_no (by rw[h1];simp) ?_
   exact hKo ns es codes h3 h4 (by omega) h6 (by omega)
 |b::B,A,j+1,ns,es,codes,h1,h2,h3,h4,h5,h6,h7=>by
  show W Q K (b48_0 G k (l48_0g G k Ko j) Ko l A.length nm x y v1 v2 v3 (ns.map Nd.v) es codes a p t (nd.map Nd.v))
  unfold b48_0
  have hbl:b∈l:=by rw[h1];simp
  have hb:=hl b hbl
  cases d with
  |zero=>exact hb.elim
  |succ d=>
  have hbn:=hnm.mem hbl
  rw[nszL_cons]at h5 h7
  have hA4:A.length+(B.length+1)≤4:=by rw[h1]at hll;simpa using hll
  obtain⟨kind,sn,en,ex,tr,kids,rfl,x1,x2,x3,x4,x5,x6,x7,x8,x9,x10,x11,x12,x13⟩:=hb
  have hkb:stKids (.agg [.int .i64 kind,.str sn,.sl 8 en,.sl 8 ex,.sl 5 tr,.sl 7 kids,.int .i64 0])=kids:=rfl
  have hsn:stName (.agg [.int .i64 kind,.str sn,.sl 8 en,.sl 8 ex,.sl 5 tr,.sl 7 kids,.int .i64 0])=sn:=rfl
  rw[hkb]at h5 h7 hbn
  rw[hsn]at hbn
  have hlt:(A.length:Int)<((l.length:Nat):Int):=by rw[h1];simp;omega
  refine W_yes hlt (W_and (W_yes (by omega) (W_yes hlt ?_)))
  refine W_nth (by omega) (fun v hv _=> ?_)
  rw[h1]at hv
  have hvb:v= .agg [.int .i64 kind,.str sn,.sl 8 en,.sl 8 ex,.sl 5 tr,.sl 7 kids,.int .i64 0]:=by simp at hv;exact hv.symm
  subst hvb
  (repeat(with_reducible apply U1))
  have hnl:ns.length=ns0.length:=h3.len
  have hS':=hS d rfl
  have hF0:=hF;have hD0:=hD;have hLb0:=hLb;have hG0:=hG
  unfold FindOK at hF;unfold LbOK at hLb
  refine W_call (hF ns sn _ (by omega)) ?_
  rintro _ rfl
  rw[findN_core h3]
  (repeat(with_reducible apply U1))
  have hat:1≤findN ns0 sn∧findN ns0 sn<ns0.length:=by rcases findN_at (l:=ns0) (s:=sn)with e|e;exact absurd e hbn.1;exact e
  refine W_call (hLb en nm x y v1 v2 v3 _ _ _ a p t nd _ x5.mono hn h6 (by omega)) ?_
  rintro _ ⟨r1,codes1,rfl,r11,r12,r13⟩
  (repeat(with_reducible apply U1))
  refine W_call (hLb ex nm x y v1 v2 v3 _ _ _ a p t nd _ x6.mono hn r12 (by omega)) ?_
  rintro _ ⟨r2,codes2,rfl,r21,r22,r23⟩
  (repeat(with_reducible apply U1))
  generalize hate:findN ns0 sn=at_ at*
  refine W_and (W_yes (by omega) (W_yes (by rw[List.length_map];omega) ?_))
  refine W_nthN (by omega) (fun n1 hn1=>W_nd ?_)
  (repeat(with_reducible apply U1))
  have e1:List.set (ns.map Nd.v) (Int.toNat at_) (V.agg [.int .i64 n1.kind,.int .i64 n1.parent,.int .i64 n1.last,.int .i64 n1.init,.int .i64 r1,.int .i64 n1.exit,.str n1.name])=(ns.set (Int.toNat at_) {n1 with entry:=r1}).map Nd.v:=by
   rw[show V.agg [.int .i64 n1.kind,.int .i64 n1.parent,.int .i64 n1.last,.int .i64 n1.init,.int .i64 r1,.int .i64 n1.exit,.str n1.name]=({n1 with entry:=r1}:Nd).v from rfl,set_map]
  rw[e1]
  have c1:CoreEq (ns.set (Int.toNat at_) {n1 with entry:=r1}) ns0:=core_set h3 hn1 rfl
  generalize hns1:ns.set (Int.toNat at_) {n1 with entry:=r1}=ns1 at*
  have hnl1:ns1.length=ns0.length:=c1.len
  refine W_and (W_yes (by omega) (W_yes (by rw[List.length_map];omega) ?_))
  refine W_nthN (by omega) (fun n2 hn2=>W_nd ?_)
  (repeat(with_reducible apply U1))
  have e2:List.set (ns1.map Nd.v) (Int.toNat at_) (V.agg [.int .i64 n2.kind,.int .i64 n2.parent,.int .i64 n2.last,.int .i64 n2.init,.int .i64 n2.entry,.int .i64 r2,.str n2.name])=(ns1.set (Int.toNat at_) {n2 with exit:=r2}).map Nd.v:=by
   rw[show V.agg [.int .i64 n2.kind,.int .i64 n2.parent,.int .i64 n2.last,.int .i64 n2.init,.int .i64 n2.entry,.int .i64 r2,.str n2.name]=({n2 with exit:=r2}:Nd).v from rfl,set_map]
  rw[e2]
  have c2:CoreEq (ns1.set (Int.toNat at_) {n2 with exit:=r2}) ns0:=core_set c1 hn2 rfl
  generalize hns2:ns1.set (Int.toNat at_) {n2 with exit:=r2}=ns2 at*
  unfold l48_2
  refine st_trans (m1:=es.length+2) (m2:=codes2.length+4) hF0 hD0 hLb0 hG0 c2 hl0 hn hat x7 x8 (by omega) (by omega) ?_ k 0 es codes2 (by omega) (by omega) (by omega) h4 (by omega) r22 (by omega)
  intro es3 codes3 s1 s2 s3 s4
  refine W_asSl ?_
  refine W_call (hS' kids nm x y v1 v2 v3 es3 codes3 a p t ns2 ns0 nd _ x10 hbn.2 c2 hl0 s1 (by omega) s3 (by omega) hn x9) ?_
  rintro _ ⟨ns4,es4,codes4,rfl,u1,u2,u3,u4,u5⟩
  (repeat(with_reducible apply U1))
  rw[wrap_id (n:=(A.length:Int)+1) (by omega)]
  have e:=sts_loop hk hF0 hD0 hLb0 hG0 hS hl hnm hl0 hn hll hM1 hM2 hKo B (A++[.agg [.int .i64 kind,.str sn,.sl 8 en,.sl 8 ex,.sl 5 tr,.sl 7 kids,.int .i64 0]]) j ns4 es4 codes4 (by rw[h1];simp) (by simp at h2;omega) u1 u2 (by omega) u4 (by omega)
  simp only[List.length_append,List.length_cons,List.length_nil,Nat.zero_add,Int.natCast_add,Int.natCast_one]at e
  exact e
theorem sts_ok{d:Nat}(hk:1000≤k)(hF:FindOK G)(hD:DomOK G)(hLb:LbOK G)(hG:GdOK G)(hS:∀d',d=d'+1→StsOK d' G):StsOK d (fun _ args (K:LV→OV R)=>g48 G k args K):=by
 intro l nm x y v1 v2 v3 es codes a p t ns ns0 nd K h1 h2 h3 h4 h5 h6 h7 h8 h9 h10
 show W _ K (f48 G k l nm x y v1 v2 v3 (ns.map Nd.v) es codes a p t (nd.map Nd.v) K)
 unfold f48 l48_0
 exact sts_loop (M1:=es.length+2*nszL d l) (M2:=codes.length+6*nszL d l) hk hF hD hLb hG hS h1 h2 h4 h9 h10 h6 h8 (fun ns' es' codes' k1 k2 k3 k4 k5=>W_ret ⟨_,_,_,rfl,k1,k2,k3,k4,k5⟩) l [] k ns es codes rfl (by omega) h3 h5 (Nat.le_refl _) h7 (Nat.le_refl _)
def TableS(v:V):Prop:=∃nm st fu vars ports timers ns ns0 es codes,v= .agg [.str nm,.int .i64 st,.int .i64 fu,.sl 1 vars,.sl 1 ports,.sl 1 timers,.sl 7 (ns.map Nd.v),.sl 6 es,.sl 1 codes]∧IntsS vars∧StrsS 100 ports∧StrsS 100 timers∧
 CoreEq ns ns0∧(∃states,ns0=ndsOf states∧states≠[]∧(∀s∈states,StateS 2 3 s∧kindV s≤2))∧ns0.length≤10∧(∀e∈es,EdgeS ns0 e)∧es.length≤18∧CodesG codes∧codes.length≤54
def TabOK(G:ORC R):Prop:=∀(c:V) (K:LV→OV R),ChartS c→W (fun o=>∃v,o=[v]∧TableS v) K (G 23 [c] K)
theorem vars_loop{Q:LV→Prop}{K:LV→OV R}{Ko:ByteArray→Int→Int→LV→LV→LV→LV→Int→ByteArray→Int→Int→LV→LV→LV→LV→LV→LV→ByteArray→Int→Int→LV→LV→LV→LV→LV→LV→LV→LV→LV→LV→OV R}
 {s1 s2 s3:ByteArray} {z1 z2 z3 z4 z5 z6 z7:Int} {l q1 q2 q3 q4 q5 q6 q7 q8 q9 r1 r2 r3 r4 r5 r6 r7 r8 r9:LV} (hl:NamedS 100 l)
 (hKo:∀vs,IntsS vs→W Q K (Ko s1 z1 z2 l q1 q2 q3 z3 s2 z4 z5 q4 q5 q6 q7 q8 q9 s3 z6 z7 vs r1 r2 r3 r4 r5 r6 r7 r8 r9)):
 ∀(j:Nat) (i:Int) (vs:LV),0≤i→l.length-i<j→i≤l.length→vs.length=i.toNat→IntsS vs→W Q K (l23_0g G k Ko j i s1 z1 z2 l q1 q2 q3 z3 s2 z4 z5 q4 q5 q6 q7 q8 q9 s3 z6 z7 vs r1 r2 r3 r4 r5 r6 r7 r8 r9)
 |0,i,vs,h1,h2,h3,h4,h5=>by omega
 |j+1,i,vs,h1,h2,h3,h4,h5=>by
  show W Q K (b23_0 G k (l23_0g G k Ko j) Ko i s1 z1 z2 l q1 q2 q3 z3 s2 z4 z5 q4 q5 q6 q7 q8 q9 s3 z6 z7 vs r1 r2 r3 r4 r5 r6 r7 r8 r9)
  unfold b23_0
  have hll:=hl.1
  refine W_dec (fun h=> ?_) (fun h=>hKo vs h5)
  refine W_and (W_yes h1 (W_yes h (W_nth (by omega) (fun v _ hv=> ?_))))
  obtain⟨s,n,rfl,_,hn⟩:=hl.2 v hv
  refine W_ca3 (W_aI (W_yes (by omega) ?_))
  rw[wrap_id (n:=i+1) (by omega)]
  exact vars_loop hl hKo j (i+1) _ (by omega) (by omega) (by omega) (by simp;omega) (mem_snoc h5 ⟨n,rfl,hn⟩)
theorem tab_ok(hk:1000≤k)(hNm:NamesC G)(hT:TextsOK G)(hN:NodesOK G)(hS:StsOK 3 G):TabOK (fun _ args (K:LV→OV R)=>g23 G k args K):=by
 intro c K hc
 obtain⟨nm,st,fu,vars,ports,timers,states,rfl,x1,x2,x3,x4,x5,x6,x7,x8,x9,x10,x11,x12,x13⟩:=hc
 show W _ K (f23 G k nm st fu vars ports timers states 0 K)
 unfold f23
 unfold TextsOK at hT
 refine W_call (hNm nm st fu 0 vars ports timers states _ x6 x7 x8 x11 (by omega) x13) ?_
 rintro _ ⟨p,q,t,rfl,hn⟩
 (repeat(with_reducible apply U1))
 refine W_call (hT _ _ x7) ?_
 rintro _ ⟨q2,rfl,hq2⟩
 (repeat(with_reducible apply U1))
 refine W_call (hT _ _ x8) ?_
 rintro _ ⟨q3,rfl,hq3⟩
 (repeat(with_reducible apply U1))
 refine W_call (hN nm st fu vars ports timers states 0 _ x11 (by omega)) ?_
 rintro _ rfl
 (repeat(with_reducible apply U1))
 unfold l23_0
 refine vars_loop x6 ?_ k 0 [] (by omega) (by have:=x6.1;omega) (by omega) rfl (by intro v hv;cases hv)
 intro vs hvs
 have hlen:=ndsOf_len (states:=states)
 refine W_call (hS states nm st fu vs q2 q3 [] [] p q t (ndsOf states) (ndsOf states) (ndsOf states) _ (fun s hs=>(x11 s hs).1) namesIn_ndsOf rfl (by omega) (by intro e he;cases he) (by simp;omega) (by intro e he;cases he) (by simp;omega) hn (by omega)) ?_
 rintro _ ⟨ns,es,codes,rfl,u1,u2,u3,u4,u5⟩
 simp only[List.length_nil,Nat.zero_add]at u3 u5
 (repeat(with_reducible apply U1))
 exact W_ret ⟨_,rfl,nm,st,fu,vs,q2,q3,ns,ndsOf states,es,codes,rfl,hvs,hq2,hq3,u1,⟨states,rfl,x10,x11⟩,by omega,u2,by omega,u4,by omega⟩
end
section
variable {R : Type} {G : ORC R} {k : Nat} {K : LV → OV R}
def TblOK(G:ORC R):Prop:=∀(v:LV) (K:LV→OV R),IntsS v→v.length≤200→W (fun o=>∃t,o=[t]∧TableS t) K (G 5 [.sl 1 v] K)
theorem tbl_ok(hC:ChartOK G)(hT:TabOK G):TblOK (fun _ args (K:LV→OV R)=>g5 G k args K):=by
 intro v K hv hl
 show W _ K (f5 G k v K)
 unfold f5
 unfold ChartOK at hC;unfold TabOK at hT
 refine W_call (hC _ 2 v 0 _ (by unfold StrS;decide) (by omega) (by omega) ⟨hv,by omega,by omega,by omega⟩) ?_
 rintro _ ⟨c,j,rfl,hc,_⟩
 have hc':=hc
 obtain⟨_,_,_,_,_,_,_,rfl,_⟩:=hc
 (repeat(with_reducible apply U1))
 refine W_call (hT _ _ hc') ?_
 rintro _ ⟨t,rfl,ht⟩
 have ht':=ht
 obtain⟨_,_,_,_,_,_,_,_,_,_,rfl,_⟩:=ht
 (repeat(with_reducible apply U1))
 exact W_ret ⟨_,rfl,ht'⟩
end
end Go.Proofs.YtnimfaaefdlepaaGreat.Vm
namespace Go.VM
theorem core_at{a b:List Nd}(h:CoreEq a b){i:Nat}{n:Nd}(hn:a[i]? =some n):∃m,b[i]? =some m∧n.kind=m.kind∧n.parent=m.parent∧n.last=m.last∧n.init=m.init:=by
 have e:=get_core h i
 rw[hn]at e
 cases hm:b[i]? with
 |none=>rw[hm]at e;simp at e
 |some m=>
  rw[hm]at e
  simp only[Option.map_some,Option.some.injEq]at e
  unfold Nd.core at e
  injection e with e1 e2 e3 e4
  exact⟨m,rfl,e1,e2,e3,e4⟩
theorem CoreEq.symm{a b:List Nd}(h:CoreEq a b):CoreEq b a:=Eq.symm (show a.map Nd.core=b.map Nd.core from h)
theorem tree_core{a b:List Nd}(h:CoreEq a b)(T:Tree b):Tree a:=by
 have hl:=h.len
 refine⟨⟨?_,?_,?_,?_,?_,?_,?_⟩,by have:=T.pos;omega,?_,?_⟩
 ·intro j n hn
  obtain⟨m,m1,m2,m3,m4,m5⟩:=core_at h hn
  rw[m3];exact T.seg.par j m m1
 ·intro j n hn
  obtain⟨m,m1,m2,m3,m4,m5⟩:=core_at h hn
  rw[m4,hl];exact T.seg.last j m m1
 ·intro i j n m hn hm hij
  obtain⟨n',n1,n2,n3,n4,n5⟩:=core_at h hn
  obtain⟨m',m1,m2,m3,m4,m5⟩:=core_at h hm
  rw[n4,m3];exact T.seg.lam i j n' m' n1 m1 hij
 ·intro j n hn hp
  obtain⟨m,m1,m2,m3,m4,m5⟩:=core_at h hn
  rw[m3]at hp ⊢
  obtain⟨p,p1,p2⟩:=T.seg.kid j m m1 hp
  obtain⟨q,q1,q2,q3,q4,q5⟩:=core_at h.symm p1
  exact⟨q,q1,by rw[←q2];exact p2⟩
 ·intro i n hn hk
  obtain⟨m,m1,m2,m3,m4,m5⟩:=core_at h hn
  obtain⟨p,p1,p2,p3⟩:=T.seg.first i m m1 (by rw[←m2];exact hk)
  obtain⟨q,q1,q2,q3,q4,q5⟩:=core_at h.symm p1
  exact⟨q,q1,by rw[←q3];exact p2,by rw[←q2];exact p3⟩
 ·intro i n hn
  obtain⟨m,m1,m2,m3,m4,m5⟩:=core_at h hn
  rw[m5,m2];exact T.seg.init i m m1
 ·intro i n hn
  obtain⟨m,m1,m2,m3,m4,m5⟩:=core_at h hn
  rw[m2];exact T.seg.kinds i m m1
 ·intro j n hn hj
  obtain⟨m,m1,m2,m3,m4,m5⟩:=core_at h hn
  rw[m3];exact T.par0 j m m1 hj
 ·intro n hn
  obtain⟨m,m1,m2,m3,m4,m5⟩:=core_at h hn
  rw[m3,m2,m4,hl];exact T.root m m1
end Go.VM
namespace Go.Proofs.YtnimfaaefdlepaaGreat.Vm
section
variable {R : Type} {G : ORC R} {k : Nat} {K : LV → OV R} {Q : LV → Prop}
def KnR2(G:ORC R):Prop:=∀K:LV→OV R,G 4 [] K=K [.bool true]
theorem knr_go(hKn:KnR2 G):W (fun o=>o=[.bool true]) K (G 4 [] fun o=>uB o fun b r=>unNil r (K [.bool b])):=by
 rw[hKn];exact W_uB (W_unNil (W_ret rfl))
theorem tell_loop(hE:EventS G){Ko:Bool→LV→LV→Int→LV→ByteArray→Int→Int→LV→LV→LV→LV→LV→LV→OV R}{any:Bool}{a ev:LV}{p:Int}{nm:ByteArray}{st fu:Int}{q1 q2 q3 q4 q5 q6:LV}(ha:IntsS a)(hal:a.length≤30)
 (hKo:∀few:List ByteArray,few.length≤30→W Q K (Ko any ev a p (sv few) nm st fu q1 q2 q3 q4 q5 q6)):
 ∀(j m:Nat) (few:List ByteArray),a.length-m<j→m≤a.length→few.length≤m→W Q K (l3_0g G k Ko j any ev a p (sv few) m nm st fu q1 q2 q3 q4 q5 q6)
 |0,m,few,h1,h2,h3=>by omega
 |j+1,m,few,h1,h2,h3=>by
  show W Q K (b3_0 G k (l3_0g G k Ko j) Ko any ev a p (sv few) m nm st fu q1 q2 q3 q4 q5 q6)
  unfold b3_0
  refine W_dec (fun h=> ?_) (fun h=>hKo few (by omega))
  obtain⟨v,hv⟩:∃v,a[m]? =some v:=⟨_,List.getElem?_eq_getElem (by omega)⟩
  obtain⟨n,rfl,_⟩:=ha v (List.mem_of_getElem? hv)
  refine W_at (by omega) (by rw[Int.toNat_natCast];exact hv) (W_aI ?_)
  have hE':=hE
  unfold EventS at hE'
  refine W_call (hE' n _) ?_
  rintro _ ⟨s,rfl,_⟩
  (repeat(with_reducible apply U1))
  refine W_yes (by rw[sv_len];omega) ?_
  rw[wrap_id (n:=(m:Int)+1) (by omega),sv_snoc]
  exact tell_loop hE ha hal hKo j (m+1) _ (by omega) (by omega) (by rw[List.length_append];simp;omega)
theorem seg_all{cs:LV}(h:CodesG cs):AllSeg cs:=fun c h0 h1=>by
 obtain⟨v,hv⟩:∃v,cs[c.toNat]? =some v:=⟨_,List.getElem?_eq_getElem (by omega)⟩
 obtain⟨code,rfl,a1,a2,t,a3,a4⟩:=h v (List.mem_of_getElem? hv)
 exact⟨code,t,hv,a1,a2,a3,a4⟩
theorem ints_ivs:∀{l:LV},IntsS l→∃L,l=ivs L
 | [],_=>⟨[],rfl⟩
 |v::l,h=>by
  obtain⟨n,rfl,_⟩:=h v List.mem_cons_self
  obtain⟨L,rfl⟩:=ints_ivs (l:=l) fun w hw=>h w (List.mem_cons_of_mem _ hw)
  exact⟨n::L,rfl⟩
def TellsOK(G:ORC R):Prop:=∀(v:LV) (any:Bool) (ev:List ByteArray) (ks:LV) (p:Int) (K:LV→OV R),IntsS v→IntsS ks→W (fun o=>o=[.bool true]) K (G 3 [.sl 1 v,.bool any,.sl 1 (sv ev),.sl 1 ks,.int .i64 p] K)
theorem tell_law(hk:1100000≤k)(hKn:KnR2 G)(hT:TblOK G)(hE:EventS G)(hP:PlaceS G)(hO:OfX G)(hR:ROfX G)(hS:SamE G)(hB:BegX 11 G)(hRB:BegX 12 G)(hX:TxsE 13 G)
 (hY:SaysX 14 G) (hRY:SaysX 15 G) (hN:SendsG 16 G) (hRN:SendsG 17 G) (hC:CostG 18 G) (hRC:CostG 19 G):
 TellsOK (fun _ args (K:LV→OV R)=>g3 G k args K):=by
 intro v any ev ks p K hv hks
 obtain⟨ks,rfl⟩:=ints_ivs hks
 show W _ K (f3 G k v any (sv ev) (ivs ks) p K)
 unfold f3
 refine W_dec (fun _=>knr_go hKn) (fun h1=> ?_)
 refine W_dec (fun _=>knr_go hKn) (fun h2=> ?_)
 refine W_dec (fun _=>knr_go hKn) (fun h3=> ?_)
 unfold TblOK at hT;unfold OfX at hO;unfold ROfX at hR;unfold PlaceS at hP;unfold SamE at hS;unfold BegX at hB hRB;unfold TxsE at hX;unfold SaysX at hY hRY;unfold SendsG at hN hRN;unfold CostG at hC hRC
 rw[ivs_len]at h3
 rw[sv_len]at h2
 refine W_call (hT v _ hv (by omega)) ?_
 rintro _ ⟨_,rfl,nm,st,fu,vars,ports,timers,ns,ns0,es,cs,rfl,_,_,_,hc,⟨states,rfl,t1,t2⟩,hnl,hes,hel,hG,hcl⟩
 have T:=tree_core hc (tree_nds t2 t1)
 have hnl2:=hc.len
 have hEd:EdsS es:=fun e he=>by
  obtain⟨fr,to,dom,gd,ac,ev,rfl,_⟩:=hes e he
  exact⟨_,_,_,_,_,_,rfl⟩
 have hCA:CodesA cs:=fun v hv=>by
  obtain⟨c,rfl,a1,a2,_⟩:=hG v hv
  exact⟨c,rfl,a1,a2⟩
 have hSg:=seg_all hG
 (repeat(with_reducible apply U1))
 unfold l3_0
 refine tell_loop hE hks (by rw[ivs_len];omega) (fun more hml=> ?_) k 0 [] (by rw[ivs_len];omega) (by omega) (Nat.le_refl 0)
 refine W_call (hP p 2 _ (by omega) (by omega)) ?_
 rintro _ ⟨q,rfl,_⟩
 (repeat(with_reducible apply U1))
 have bd:∀{E:List Int},(memN es.length E).length≤1000:=fun{E}=>Nat.le_trans memN_len (by omega)
 have bc:∀{C:List Int},(memN cs.length C).length≤1000:=fun{C}=>Nat.le_trans memN_len (by omega)
 have tb:∀{pr:V→Bool} {L:List Int},L.length≤90→(∀c∈L,0≤c∧c<cs.length)→(tellL cs pr L).length≤900000:=fun{pr L} hl hr=>by
  have:=tellL_len (p:=pr) hCA hr _ (Nat.le_refl _)
  rw[List.take_length]at this
  omega
 have tbC:∀{C:List Int},(tellL cs (opP 19) (memN cs.length C)).length≤900000:=fun{C}=>tb (Nat.le_trans memN_len (by omega)) fun c hc=>(mem_memN.1 hc).1
 refine W_call (hO ⟨nm,st,fu,vars,ports,timers,ns,es,cs,any,sv ev⟩ ev _ rfl (by omega) hEd (by show es.length≤_;omega) (by show ns.length≤_;omega) hCA (by show cs.length≤_;omega)) ?_
 rintro _ ⟨E1,C1,T1,rfl,L1,hT1⟩
 (repeat(with_reducible apply U1))
 refine W_call (hR ⟨nm,st,fu,vars,ports,timers,ns,es,cs,any,sv ev⟩ ev _ (by omega) hEd (by show es.length≤_;omega) (by show ns.length≤_;omega) hCA (by show cs.length≤_;omega)) ?_
 rintro _ ⟨E2,C2,rfl,L2⟩
 (repeat(with_reducible apply U1))
 have L1:Lst es cs ns any ev E1 C1:=L1
 have L2:LstF es cs ns any ev [] E2 C2:=L2
 have hT1:TellP cs (memN cs.length C1) T1:=hT1
 obtain⟨s1,s2⟩:=L1.toF.same (fun y _ _=>Iff.rfl) L2
 rw[hT1.1,←s1,←s2]
 refine W_call (hS _ _ _ _ _ bd bc tbC) ?_
 rintro _ rfl
 (repeat(with_reducible apply U1))
 refine W_chk rfl ?_
 refine W_call (hO ⟨nm,st,fu,vars,ports,timers,ns,es,cs,false,sv more⟩ more _ rfl (by omega) hEd (by show es.length≤_;omega) (by show ns.length≤_;omega) hCA (by show cs.length≤_;omega)) ?_
 rintro _ ⟨E3,C3,T3,rfl,L3,hT3⟩
 (repeat(with_reducible apply U1))
 refine W_call (hR ⟨nm,st,fu,vars,ports,timers,ns,es,cs,false,sv more⟩ more _ (by omega) hEd (by show es.length≤_;omega) (by show ns.length≤_;omega) hCA (by show cs.length≤_;omega)) ?_
 rintro _ ⟨E4,C4,rfl,L4⟩
 (repeat(with_reducible apply U1))
 have L3:Lst es cs ns false more E3 C3:=L3
 have L4:LstF es cs ns false more [] E4 C4:=L4
 have hT3:TellP cs (memN cs.length C3) T3:=hT3
 obtain⟨s3,s4⟩:=L3.toF.same (fun y _ _=>Iff.rfl) L4
 rw[hT3.1,←s3,←s4]
 refine W_call (hS _ _ _ _ _ bd bc tbC) ?_
 rintro _ rfl
 (repeat(with_reducible apply U1))
 refine W_chk rfl ?_
 refine W_call (hB ⟨nm,st,fu,vars,ports,timers,ns,es,cs,false,[]⟩ _ T rfl hEd (by show es.length≤_;omega) (by show ns.length≤_;omega) hCA (by show cs.length≤_;omega)) ?_
 rintro _ ⟨E5,C5,rfl,L5⟩
 (repeat(with_reducible apply U1))
 refine W_call (hRB ⟨nm,st,fu,vars,ports,timers,ns,es,cs,false,[]⟩ _ T rfl hEd (by show es.length≤_;omega) (by show ns.length≤_;omega) hCA (by show cs.length≤_;omega)) ?_
 rintro _ ⟨E6,C6,rfl,L6⟩
 (repeat(with_reducible apply U1))
 have L5:LstF es cs ns false [] ((dnN ns 0 []).map (entA ns)) E5 C5:=L5
 have L6:LstF es cs ns false [] ((dnN ns 0 []).map (entA ns)) E6 C6:=L6
 obtain⟨s5,s6⟩:=L5.same (fun y _ _=>Iff.rfl) L6
 rw[←s5,←s6]
 refine W_call (hS _ _ _ _ _ bd bc tbC) ?_
 rintro _ rfl
 (repeat(with_reducible apply U1))
 refine W_chk rfl ?_
 have says:∀{p:Int},(tellL cs (saidP 20 p) (upTo cs.length)).length≤900000:=fun{p}=>tb (by rw[upTo_len];omega) upTo_rng
 have cl:cs.length≤90:=by omega
 refine W_call (hY ⟨nm,st,fu,vars,ports,timers,ns,es,cs,false,[]⟩ q _ hCA cl) ?_
 rintro _ rfl
 (repeat(with_reducible apply U1))
 refine W_call (hRY ⟨nm,st,fu,vars,ports,timers,ns,es,cs,false,[]⟩ q _ hCA cl) ?_
 rintro _ rfl
 (repeat(with_reducible apply U1))
 refine W_call (hX _ _ says) ?_
 rintro _ rfl
 (repeat(with_reducible apply U1))
 refine W_chk rfl ?_
 refine W_call (hY ⟨nm,st,fu,vars,ports,timers,ns,es,cs,false,[]⟩ p _ hCA cl) ?_
 rintro _ rfl
 (repeat(with_reducible apply U1))
 refine W_call (hRY ⟨nm,st,fu,vars,ports,timers,ns,es,cs,false,[]⟩ p _ hCA cl) ?_
 rintro _ rfl
 (repeat(with_reducible apply U1))
 refine W_call (hX _ _ says) ?_
 rintro _ rfl
 (repeat(with_reducible apply U1))
 refine W_chk rfl ?_
 refine W_call (hN ⟨nm,st,fu,vars,ports,timers,ns,es,cs,false,[]⟩ ks q _ hSg (by omega)) ?_
 rintro _ rfl
 (repeat(with_reducible apply U1))
 refine W_call (hRN ⟨nm,st,fu,vars,ports,timers,ns,es,cs,false,[]⟩ ks q _ hSg (by omega)) ?_
 rintro _ rfl
 (repeat(with_reducible apply U1))
 refine W_eqY rfl ?_
 refine W_call (hC ⟨nm,st,fu,vars,ports,timers,ns,es,cs,false,[]⟩ _ hSg cl) ?_
 rintro _ rfl
 (repeat(with_reducible apply U1))
 refine W_call (hRC ⟨nm,st,fu,vars,ports,timers,ns,es,cs,false,[]⟩ _ hSg cl) ?_
 rintro _ rfl
 (repeat(with_reducible apply U1))
 refine W_eqY rfl ?_
 exact knr_go hKn
end
end Go.Proofs.YtnimfaaefdlepaaGreat.Vm
