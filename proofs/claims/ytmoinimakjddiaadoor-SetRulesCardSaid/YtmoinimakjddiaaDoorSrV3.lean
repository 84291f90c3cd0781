/- The machine of values, told and shown true: a part. -/
import Derived.Test.YtmoinimakjddiaaDoorSrV2
import Derived.LoopN
set_option linter.unusedVariables false
set_option linter.unusedSimpArgs false
namespace Go.VM
section
variable {P : Program} {E : Env} {fr : Fr} {S : St} {a : Act} {w w' : World} {g : Gh} {pool : List Nat}
theorem RW.lower{h:Hp}{ro:Nat→Prop}{m n:M}{v:V}{r:Value}{fp}(hg:m.gives n=true)(hn:fp.Nodup)(x:RW h ro m v r fp):
 ∃fo fi,Part fp fo fi∧∀ro':Nat→Prop,(∀b,ro b→ro' b)→(∀b∈fi,ro' b)→RW h ro' n v r fo:=by
 cases v with
 |agg cs=>
  obtain⟨rs,e,y⟩:=x
  obtain⟨fo,fi,p1,p2⟩:=RM.lower hg hn y
  exact⟨fo,fi,p1,fun ro' h1 h2=>⟨rs,e,p2 ro' h1 h2⟩⟩
 |_=>exact RM.lower hg hn x
def fpAt(g:Gh):Nat×Nat→Nat→Prop
 |(0,t),x=>x∈g.fp (.s t)
 |(1,b),x=>∃j,x∈g.fp (.b b j)
 |_,_=>False
theorem fpAt_dj(hs:Sim fr S a w g pool){p q:Nat×Nat}{x:Nat}(h1:fpAt g p x)(h2:fpAt g q x):p=q:=by
 obtain⟨k,b⟩:=p
 obtain⟨k',b'⟩:=q
 match k,k',h1,h2 with
 |0,0,h1,h2=>
  have e:=hs.own _ x h1;rw[hs.own _ x h2]at e;injection e with e;injection e with e;rw[e]
 |0,1,h1,⟨j,h2⟩=>
  have e:=hs.own _ x h1;rw[hs.own _ x h2]at e;injection e with e;cases e
 |1,0,⟨j,h1⟩,h2=>
  have e:=hs.own _ x h1;rw[hs.own _ x h2]at e;injection e with e;cases e
 |1,1,⟨j,h1⟩,⟨j',h2⟩=>
  have e:=hs.own _ x h1;rw[hs.own _ x h2]at e;injection e with e;injection e with e _;rw[e]
 |0,k+2,_,h2=>exact h2.elim
 |1,k+2,_,h2=>exact h2.elim
 |k+2,_,h1,_=>exact h1.elim
def resSem(tmps:Array Value):ResultVar→Sem Value
 | .tmp t=>pure (tmps.getD t undef)
 | .cell p t=>do loadVar t (←asAddr (tmps.getD p undef))
theorem meet_pt_l{m:M}:(M.pt.meet m)= .pt:=by cases m<;>rfl
theorem meet_pt_r{m:M}:(m.meet .pt)= .pt:=by cases m<;>rfl
theorem meets_pt:∀{cs:List (V×M)},(meets cs).isPt=false→cs.any (·.2.isPt)=false
 | [],_=>rfl
 |c::cs,h=>by
  have e:meets (c::cs)=c.2.meet (meets cs):=rfl
  rw[e]at h
  simp only[List.any_cons,Bool.or_eq_false_iff]
  constructor
  ·cases hc:c.2<;>first|rfl|(rw[hc,meet_pt_l]at h;cases h)
  ·refine meets_pt ?_
   cases hm:meets cs<;>first|rfl|(rw[hm,meet_pt_r]at h;cases h)
theorem gives_npt{m n:M}(h:m.gives n=true):m.isPt=false∧n.isPt=false:=by cases m<;>cases n<;>simp[M.gives,M.isPt]at*
theorem CsR.lowerAll{h:Hp}{n:M}{cs:List (V×M)}{rs fp}(hg:(meets cs).gives n=true)(hn:fp.Nodup)(x:CsR h g cs rs fp):
 ∃fo fi,Part fp fo fi∧∀ro':Nat→Prop,(∀b,g.ro b→ro' b)→(∀b∈fi,ro' b)→RM h ro' n (.agg (cs.map (·.1))) rs fo:=by
 obtain⟨h1,h2⟩:=gives_npt hg
 obtain⟨m1,m2⟩:=meets_ok (meets_pt h1)
 exact CsR.lower h2 (fun c hc=>gives_trans (m2 c hc) hg) hn x
theorem resV_ok(hE:EnvOK P E)(hs:Sim fr S a w g pool){m:M}{rv:ResultVar}{v:V}(h:resV E S m rv=some v):
 ∃(r:Value) (fo fi:List Nat),(resSem a.tmps rv).run P w= .ok r w∧(∀x,(x∈fo∨x∈fi)→fpAt g (resPlace S rv) x)∧fo.Nodup∧(∀x∈fi,x∉fo)∧m.isPt=false∧
  ∀ro':Nat→Prop,(∀b,g.ro b→ro' b)→(∀b∈fi,ro' b)→RW w.heap ro' m v r fo:=by
 cases rv with
 |tmp t=>
  simp only[resV]at h
  rcases sl_case S t with⟨ver,h1,_⟩|⟨h1,h2⟩
  ·have hsl:=hs.slot h1
   cases hx:(S.sl t).1 with
   |one v' m'=>
    rw[hx]at h hsl
    simp only at h
    cases hg:m'.gives m with
    |false=>rw[hg]at h;cases h
    |true=>
     rw[hg]at h;cases h
     obtain⟨hn1,hn2⟩:=gives_npt hg
     obtain⟨fo,fi,p1,p2⟩:=RW.lower hg (hs.nd _) (OneR.rw hn1 hsl)
     exact⟨_,fo,fi,rfl,fun x hx=>(p1.mem x).2 hx,p1.nd,p1.dis,hn2,p2⟩
   |many cs=>
    rw[hx]at h hsl
    simp only at h
    cases hg:(meets cs).gives m with
    |false=>rw[hg]at h;cases h
    |true=>
     rw[hg]at h;cases h
     obtain⟨rs,e,y⟩:=hsl
     obtain⟨fo,fi,p1,p2⟩:=CsR.lowerAll hg (hs.nd _) y
     exact⟨_,fo,fi,rfl,fun x hx=>(p1.mem x).2 hx,p1.nd,p1.dis,(gives_npt hg).2,fun ro' k1 k2=>⟨rs,e,p2 ro' k1 k2⟩⟩
   |_=>rw[hx]at h;cases h
  ·rw[h2]at h;cases h
 |cell t ty=>
  simp only[resV]at h
  rcases sl_case S t with⟨ver,h1,_⟩|⟨h1,h2⟩
  ·have hsl:=hs.slot h1
   cases hx:(S.sl t).1 with
   |one v' m'=>
    rw[hx]at h hsl
    cases v' with
    |ptr b off=>
     cases ht:E.ty ty with
     |none=>rw[ht]at h;cases h
     |some d=>
     rw[ht]at h
     simp only at h
     obtain⟨_,_,β,hβ,er⟩:=ptr_pt hsl
     have hpl:resPlace S (.cell t ty)=(1,b):=by simp only[resPlace,hx]
     cases hb:S.bx b with
     |none=>rw[hb]at h;cases h
     |some cs=>
     rw[hb]at h
     simp only at h
     obtain⟨β',c,tyc,q1,q2,q3,q4⟩:=hs.boxes b cs hb
     rw[hβ]at q1;cases q1
     have er':a.tmps.getD t undef= .pointer (some ⟨β,off,none⟩):=er
     have hrun:∀r,(Instr.loadAt ty (.pointer (some ⟨β,off,none⟩))).run P w= .ok r w→(resSem a.tmps (.cell t ty)).run P w= .ok r w:=fun r hr=>by
      simp only[resSem,er',asAddr,pure_bind]
      simpa only[Instr.loadAt,Instr.sureAddr,pure_bind]using hr
     cases hd:d.agg with
     |false=>
      rw[hd]at h
      simp only[Bool.not_false,cond_true]at h
      cases hc:cs[off]? with
      |none=>rw[hc]at h;cases h
      |some x=>
      rw[hc]at h
      simp only at h
      cases hg:x.m.gives m with
      |false=>rw[hg]at h;cases h
      |true=>
       rw[hg]at h;cases h
       obtain⟨r,k1,k2,_⟩:=q4 off x hc
       obtain⟨hn1,hn2⟩:=gives_npt hg
       obtain⟨fo,fi,p1,p2⟩:=RW.lower hg (hs.nd _) (OneR.rw hn1 k2.one)
       exact⟨r,fo,fi,hrun r (run_load1 hE ht hd q2 k1),fun y hy=>by rw[hpl];exact⟨off,(p1.mem y).2 hy⟩,p1.nd,p1.dis,hn2,p2⟩
     |true=>
      rw[hd]at h
      simp only[Bool.not_true,cond_false]at h
      cases hg:(decide (off+d.size≤cs.length)&&(meets (((cs.drop off).take d.size).map Cell.pair)).gives m)with
      |false=>rw[hg]at h;cases h
      |true=>
       rw[hg]at h
       simp only[cond_true,Option.some.injEq]at h
       simp only[Bool.and_eq_true,decide_eq_true_eq]at hg
       obtain⟨hle,hg⟩:=hg
       have hpart:=box_part (b:=b) (g:=g) (w:=w) q3 (f:=fun j=>g.fp (.b b j)) (fun j x hx=>by obtain⟨r,k1,k2,_⟩:=q4 j x hx;exact⟨r,k1,k2⟩) hle
       have hnd:=nd_catF (f:=fun j=>g.fp (.b b j)) (fun j=>hs.nd _) (fun i j x=>hs.box_fp i j x) (n:=d.size) (s:=off)
       obtain⟨fo,fi,p1,p2⟩:=CsR.lowerAll hg hnd hpart
       have hl:(seg c off d.size).length=d.size:=by unfold seg;rw[List.length_take,List.length_drop];simp only[Array.length_toList];omega
       refine⟨_,fo,fi,hrun _ (run_loadN hE ht hd q2 hl),fun y hy=>by
        rw[hpl]
        obtain⟨j,_,_,hj⟩:=mem_catF.1 ((p1.mem y).2 hy)
        exact⟨j,hj⟩,p1.nd,p1.dis,(gives_npt hg).2,fun ro' k1 k2=> ?_⟩
       have:=p2 ro' k1 k2
       rw[←h]
       refine⟨_,rfl,?_⟩
       rw[List.map_map]at this
       exact this
    |_=>cases h
   |_=>rw[hx]at h;cases h
  ·rw[h2]at h;cases h
theorem TsR.cons{h:Hp}{m:M}{v:V}{cs:List (V×M)}{r:Value}{rs:List Value}{f f'}(hm:m.isPt=false)(x:RW h g.ro m v r f)(y:TsR h g cs rs f'):TsR h g ((v,m)::cs) (r::rs) (f++f'):=
 ⟨r,rs,f,f',rfl,rfl,by cases m<;>first|exact x|simp[M.isPt]at hm,y⟩
theorem resVs_ok(hE:EnvOK P E)(hs:Sim fr S a w g pool){n:Nat}:∀{ms:List (M×Kd)} {rvs:List ResultVar} {vs:List V},resVs E S ms rvs=some vs→placesOK n (rvs.map (resPlace S))=true→
 ∃(vals:List Value) (fo fi:List Nat),(rvs.mapM (resSem a.tmps)).run P w= .ok vals w∧vs.length=ms.length∧vals.length=ms.length∧(∀x,(x∈fo∨x∈fi)→∃rv∈rvs,fpAt g (resPlace S rv) x)∧fo.Nodup∧(∀x∈fi,x∉fo)∧
  ∀ro':Nat→Prop,(∀b,g.ro b→ro' b)→(∀b∈fi,ro' b)→TsR w.heap {g with ro:=ro'} (outsOf ms vs) vals fo
 | [],[],vs,h,_=>by
   simp only[resVs,Option.some.injEq]at h
   subst h
   exact⟨[],[],[],rfl,rfl,rfl,by simp,by simp,by simp,fun _ _ _=>⟨rfl,rfl⟩⟩
 |(m,kd)::ms,rv::rvs,vs,h,hpl=>by
  simp only[resVs]at h
  cases h1:resV E S m rv with
  |none=>rw[h1]at h;cases h
  |some v=>
  cases h2:resVs E S ms rvs with
  |none=>rw[h1,h2]at h;cases h
  |some l=>
  rw[h1,h2]at h
  cases h
  simp only[List.map_cons,placesOK,Bool.and_eq_true]at hpl
  obtain⟨r,fo,fi,a1,a2,a3,a4,a5,a6⟩:=resV_ok (P:=P) hE hs h1
  obtain⟨vals,go,gi,b1,b2,b3,b4,b5,b6,b7⟩:=resVs_ok hE hs h2 hpl.2
  have far:∀x,(x∈fo∨x∈fi)→(x∈go∨x∈gi)→False:=fun x hx hy=>by
   obtain⟨rv',k1,k2⟩:=b4 x hy
   have e:=fpAt_dj hs (a2 x hx) k2
   have:=List.all_eq_true.1 hpl.1.2 _ (List.mem_map.2 ⟨rv',k1,rfl⟩)
   rw[←e]at this
   simp at this
  refine⟨r::vals,fo++go,fi++gi,?_,by simp[b2],by simp[b3],fun x hx=> ?_,?_,fun x hx hy=> ?_,fun ro' k1 k2=> ?_⟩
  ·rw[List.mapM_cons]
   simp only[Sem.run_bind,a1,Result.andThen_ok,b1];rfl
  ·simp only[List.mem_append]at hx
   rcases hx with(hx|hx)|(hx|hx)
   ·exact⟨rv,List.mem_cons_self ..,a2 x (.inl hx)⟩
   ·obtain⟨rv',k1,k2⟩:=b4 x (.inl hx);exact⟨rv',List.mem_cons_of_mem _ k1,k2⟩
   ·exact⟨rv,List.mem_cons_self ..,a2 x (.inr hx)⟩
   ·obtain⟨rv',k1,k2⟩:=b4 x (.inr hx);exact⟨rv',List.mem_cons_of_mem _ k1,k2⟩
  ·exact List.nodup_append.2 ⟨a3,b5,fun x hx y hy e=>by subst e;exact far x (.inl hx) (.inl hy)⟩
  ·rcases List.mem_append.1 hx with hx|hx<;>rcases List.mem_append.1 hy with hy|hy
   ·exact a4 x hx hy
   ·exact far x (.inr hx) (.inl hy)
   ·exact far x (.inl hy) (.inr hx)
   ·exact b6 x hx hy
  ·have t1:=a6 ro' k1 (fun b hb=>k2 b (by simp[hb]))
   have t2:=b7 ro' k1 (fun b hb=>k2 b (by simp[hb]))
   exact TsR.cons (g:={g with ro:=ro'}) a5 t1 t2
 | [],_::_,vs,h,_=>by simp[resVs]at h
 |_::_,[],vs,h,_=>by simp[resVs]at h
def ResR(h:Hp)(ro:Nat→Prop)(l:List (V×M))(r:Value)(fp:List Nat):Prop:=
 match l with
 | [(v,m)]=>m.isPt=false∧RW h ro m v r fp
 |l=>∃rs,r= .tuple rs∧∀g:Gh,g.ro=ro→TsR h g l rs.toList fp
theorem results_eq(f:Func)(tmps:Array Value):results f tmps=(do
 let vs←f.results.mapM (resSem tmps)
 pure (if h:vs.size=1 then vs[0]else .tuple vs)):=by
 unfold results
 congr 1
theorem outB_len:∀{bss:List (List PS)} {bs:List (Option Bx)} {ob:List V} {n:Nat} {ps:List PS},outB bss bs=some ob→bss[n]? =some ps→∃b x,bs[n]? =some (some b)∧outC ps b=some x
 | [],_,_,n,_,_,hn=>by simp at hn
 |ps0::r,bs,ob,n,ps,h,hn=>by
  cases bs with
  |nil=>simp[outB]at h
  |cons b0 bs=>
   cases b0 with
   |none=>simp[outB]at h
   |some b=>
    simp only[outB]at h
    cases h1:outC ps0 b with
    |none=>rw[h1]at h;cases h
    |some x=>
    cases h2:outB r bs with
    |none=>rw[h1,h2]at h;cases h
    |some y=>
    cases n with
    |zero=>simp only[List.getElem?_cons_zero,Option.some.injEq]at hn;subst hn;exact⟨b,x,rfl,h1⟩
    |succ n=>
     obtain⟨b1,x1,k1,k2⟩:=outB_len (n:=n) h2 (by simpa using hn)
     exact⟨b1,x1,by simpa using k1,k2⟩
theorem outC_ok:∀{ps:List PS} {cs:Bx} {x:List V},outC ps cs=some x→cs.length=ps.length∧∀(j:Nat) (p:PS),ps[j]? =some p→∃c:Cell,cs[j]? =some c∧(match p with| .val m _=>c.m.gives m=true|_=>c.fix=true)
 | [],[],x,_=>⟨rfl,by simp⟩
 | [],_::_,x,h=>by simp[outC]at h
 |p0::ps,[],x,h=>by cases p0<;>simp[outC]at h
 |p0::ps,c::cs,x,h=>by
  cases p0 with
  |val m kd=>
   simp only[outC]at h
   cases hg:c.m.gives m with
   |false=>rw[hg]at h;cases h
   |true=>
    rw[hg]at h
    simp only[cond_true,Option.map_eq_some_iff]at h
    obtain⟨y,h1,_⟩:=h
    obtain⟨k1,k2⟩:=outC_ok h1
    refine⟨by simp[k1],fun j p hj=> ?_⟩
    cases j with
    |zero=>simp only[List.getElem?_cons_zero,Option.some.injEq]at hj;subst hj;exact⟨c,rfl,hg⟩
    |succ j=>obtain⟨c',h3,h4⟩:=k2 j p (by simpa using hj);exact⟨c',by simpa using h3,h4⟩
  |ptr b o=>
   simp only[outC]at h
   cases hg:c.fix with
   |false=>rw[hg]at h;cases h
   |true=>
    rw[hg]at h
    obtain⟨k1,k2⟩:=outC_ok (show outC ps cs=some x from h)
    refine⟨by simp[k1],fun j p hj=> ?_⟩
    cases j with
    |zero=>simp only[List.getElem?_cons_zero,Option.some.injEq]at hj;subst hj;exact⟨c,rfl,hg⟩
    |succ j=>obtain⟨c',h3,h4⟩:=k2 j p (by simpa using hj);exact⟨c',by simpa using h3,h4⟩
  |fix kd=>
   simp only[outC]at h
   cases hg:c.fix with
   |false=>rw[hg]at h;cases h
   |true=>
    rw[hg]at h
    obtain⟨k1,k2⟩:=outC_ok (show outC ps cs=some x from h)
    refine⟨by simp[k1],fun j p hj=> ?_⟩
    cases j with
    |zero=>simp only[List.getElem?_cons_zero,Option.some.injEq]at hj;subst hj;exact⟨c,rfl,hg⟩
    |succ j=>obtain⟨c',h3,h4⟩:=k2 j p (by simpa using hj);exact⟨c',by simpa using h3,h4⟩
  |clo f0 cs0=>
   simp only[outC]at h
   cases hg:c.fix with
   |false=>rw[hg]at h;cases h
   |true=>
    rw[hg]at h
    obtain⟨k1,k2⟩:=outC_ok (show outC ps cs=some x from h)
    refine⟨by simp[k1],fun j p hj=> ?_⟩
    cases j with
    |zero=>simp only[List.getElem?_cons_zero,Option.some.injEq]at hj;subst hj;exact⟨c,rfl,hg⟩
    |succ j=>obtain⟨c',h3,h4⟩:=k2 j p (by simpa using hj);exact⟨c',by simpa using h3,h4⟩
structure Left (P:Program) (f:Func) (sg:Sig) (fr:Fr) (S:St) (a:Act) (w:World) (g:Gh) (ov ob:List V) (rv:Value) (fo fi:List Nat) (fob fib:Nat→Nat→List Nat):Prop where
 len:ov.length=sg.outs.length
 run:(results f a.tmps).run P w= .ok rv w
 out:outB sg.boxes S.boxes=some ob
 far:∀x,(x∈fo∨x∈fi)→(∀n j,n<sg.boxes.length→x∉g.fp (.b n j))∧g.ow x≠ .none
 notBox:∀x,(x∈fo∨x∈fi)→∀n,g.bb n≠some x
 nd:fo.Nodup
 dis:∀x∈fi,x∉fo
 res:∀ro':Nat→Prop,(∀b,g.ro b→ro' b)→(∀b∈fi,ro' b)→ResR w.heap ro' (outsOf sg.outs ov) rv fo
 part:∀n j,Part (g.fp (.b n j)) (fob n j) (fib n j)
 box:∀(n:Nat) (ps:List PS),sg.boxes[n]? =some ps→∃(cs:Bx) (β:Nat) (c:Array Value) (ty:TypeId),S.bx n=some cs∧g.bb n=some β∧w.heap[β]? =some (.cells c ty (0,0))∧c.size=ps.length∧cs.length=ps.length∧
  ∀(j:Nat) (p:PS),ps[j]? =some p→∃(x:Cell) (r:Value),cs[j]? =some x∧c[j]? =some r∧(match p with
   | .val m _=>∀ro':Nat→Prop,(∀b,g.ro b→ro' b)→(∀b∈fib n j,ro' b)→CV w.heap {g with ro:=ro'} m x.v r (fob n j)
   |_=>fr.fixv n j=some r)
theorem leave_ok(hE:EnvOK P E)(hs:Sim fr S a w g pool){f:Func}{sg:Sig}{o:List V}(h:finish E f sg S=some o):
 ∃ov ob rv fo fi fob fib,o=ov++ob∧Left P f sg fr S a w g ov ob rv fo fi fob fib:=by
 unfold finish at h
 cases hpl:placesOK sg.boxes.length (f.results.toList.map (resPlace S))with
 |false=>rw[hpl]at h;cases h
 |true=>
 rw[hpl]at h
 simp only[Bool.not_true,cond_false]at h
 cases h1:resVs E S sg.outs f.results.toList with
 |none=>rw[h1]at h;cases h
 |some ov=>
 cases h2:outB sg.boxes S.boxes with
 |none=>rw[h1,h2]at h;cases h
 |some ob=>
 rw[h1,h2]at h
 cases h
 obtain⟨vals,fo,fi,a1,a2,a3,a4,a5,a6,a7⟩:=resVs_ok (P:=P) hE hs h1 hpl
 have cell:∀n j,∃fob fib:List Nat,Part (g.fp (.b n j)) fob fib∧∀(ps:List PS) (m:M) (kd:Kd) (cs:Bx) (x:Cell) (r:Value) (c:Array Value) (β:Nat) (ty:TypeId),sg.boxes[n]? =some ps→ps[j]? =some (.val m kd)→S.bx n=some cs→cs[j]? =some x→g.bb n=some β→w.heap[β]? =some (.cells c ty (0,0))→c[j]? =some r→
  ∀ro':Nat→Prop,(∀b,g.ro b→ro' b)→(∀b∈fib,ro' b)→CV w.heap {g with ro:=ro'} m x.v r fob:=by
  intro n j
  by_cases hc:∃ps m kd cs x,sg.boxes[n]? =some ps∧ps[j]? =some (.val m kd)∧S.bx n=some cs∧cs[j]? =some x
  ·obtain⟨ps,m,kd,cs,x,b1,b2,b3,b4⟩:=hc
   obtain⟨b,y,k1,k2⟩:=outB_len h2 b1
   have e:S.bx n=some b:=by rw[bx_eq,k1];rfl
   rw[b3]at e;cases e
   obtain⟨k3,k4⟩:=outC_ok k2
   obtain⟨c0,k5,k6⟩:=k4 j _ b2
   rw[b4]at k5;cases k5
   obtain⟨β,c,ty,q1,q2,q3,q4⟩:=hs.boxes n cs b3
   obtain⟨r,z1,z2,_⟩:=q4 j x b4
   obtain⟨hn1,hn2⟩:=gives_npt k6
   have z3:x.v.isAgg=false∧RM w.heap g.ro x.m x.v [r] (g.fp (.b n j)):=by
    revert z2 hn1
    cases x.m<;>intro z2 hn1<;>first|exact z2|simp[M.isPt]at hn1
   obtain⟨fo',fi',p1,p2⟩:=RM.lower k6 (hs.nd _) z3.2
   refine⟨fo',fi',p1,fun ps' m' kd' cs' x' r' c' β' ty' e1 e2 e3 e4 e5 e6 e7 ro' k1 k2=> ?_⟩
   rw[b1]at e1;cases e1
   rw[b2]at e2;cases e2
   rw[b3]at e3;cases e3
   rw[b4]at e4;cases e4
   rw[q1]at e5;cases e5
   rw[q2]at e6;cases e6
   rw[z1]at e7;cases e7
   have:=p2 ro' k1 k2
   cases m with
   |pt=>simp[M.isPt]at hn2
   |_=>exact⟨z3.1,this⟩
  ·exact⟨_,[],Part.none (hs.nd _),fun ps m kd cs x r c β ty e1 e2 e3 e4=>absurd ⟨ps,m,kd,cs,x,e1,e2,e3,e4⟩ hc⟩
 let fob:Nat→Nat→List Nat:=fun n j=>Classical.choose (cell n j)
 have cell2:=fun n j=>Classical.choose_spec (cell n j)
 let fib:Nat→Nat→List Nat:=fun n j=>Classical.choose (cell2 n j)
 have cell3:∀n j,Part (g.fp (.b n j)) (fob n j) (fib n j)∧_:=fun n j=>Classical.choose_spec (cell2 n j)
 have hrun:(f.results.mapM (resSem a.tmps)).run P w= .ok vals.toArray w:=by
  rw[Array.mapM_eq_mapM_toList]
  show((do let l←f.results.toList.mapM (resSem a.tmps);pure l.toArray):Sem (Array Value)).run P w=_
  simp only[Sem.run_bind,a1,Result.andThen_ok,Sem.run_pure]
 have hlen:(outsOf sg.outs ov).length=sg.outs.length:=by simp[outsOf,a2]
 refine⟨ov,ob,if vals.length=1 then vals.headD undef else .tuple vals.toArray,fo,fi,fob,fib,rfl,a2,?_,h2,fun x hx=> ?_,fun x hx n hbx=> ?_,a5,a6,fun ro' k1 k2=> ?_,fun n j=>(cell3 n j).1,fun n ps hn=> ?_⟩
 ·rw[results_eq]
  simp only[Sem.run_bind,hrun,Result.andThen_ok,Sem.run_pure]
  congr 1
  by_cases hv:vals.length=1
  ·have:vals.toArray.size=1:=by simpa using hv
   rw[dif_pos this,if_pos hv]
   cases vals with
   |nil=>simp at hv
   |cons v r=>rfl
  ·have:¬vals.toArray.size=1:=by simpa using hv
   rw[dif_neg this,if_neg hv]
 ·obtain⟨rv,k1,k2⟩:=a4 x hx
  have hown:g.ow x≠ .none:=by
   generalize resPlace S rv=p at k2
   obtain⟨k,b⟩:=p
   match k,k2 with
   |0,k2=>exact ow_ne_loc (hs.own _ x k2)
   |1,⟨j,k2⟩=>exact ow_ne_loc (hs.own _ x k2)
  refine⟨fun n j hn hx2=> ?_,hown⟩
  have e:=fpAt_dj hs k2 (show fpAt g (1,n) x from⟨j,hx2⟩)
  have pl:∀(l:List (Nat×Nat)) (p:Nat×Nat),placesOK sg.boxes.length l=true→p∈l→p.1=0∨sg.boxes.length≤p.2:=by
   intro l
   induction l with
   |nil=>intro p _ hp;cases hp
   |cons q r ih=>
    intro p hq hp
    obtain⟨qk,qb⟩:=q
    simp only[placesOK,Bool.and_eq_true,Bool.or_eq_true,beq_iff_eq,decide_eq_true_eq]at hq
    rcases List.mem_cons.1 hp with rfl|hp
    ·exact hq.1.1
    ·exact ih p hq.2 hp
  have:=pl _ _ hpl (List.mem_map.2 ⟨rv,k1,rfl⟩)
  rw[e]at this
  simp at this;omega
 ·obtain⟨rv,k1,k2⟩:=a4 x hx
  have e:=hs.ownB n x hbx
  generalize resPlace S rv=p at k2
  obtain⟨k,b⟩:=p
  match k,k2 with
  |0,k2=>rw[hs.own _ x k2]at e;cases e
  |1,⟨j,k2⟩=>rw[hs.own _ x k2]at e;cases e
 ·have t:=a7 ro' k1 k2
  have hvl:vals.length=(outsOf sg.outs ov).length:=by rw[hlen,a3]
  match ho:outsOf sg.outs ov,t with
  | [(v,m)],t=>
    rw[ho]at hvl
    have hv:vals.length=1:=by simpa using hvl
    obtain⟨r,rs',f',f'',e1,e2,x,y⟩:=t
    rw[if_pos hv]
    have hr:vals.headD undef=r:=by rw[e1];rfl
    have hf:fo=f':=by rw[e2,y.2];simp
    rw[hr,hf]
    have hm:m.isPt=false:=by
     have:(v,m)∈outsOf sg.outs ov:=by rw[ho];simp
     have h3:m∈sg.outs.map (·.1):=(List.of_mem_zip this).2
     cases hm:m with
     |pt=>
      exfalso
      rw[hm]at h3
      obtain⟨q,hq1,hq2⟩:=List.mem_map.1 h3
      have key:∀(ms:List (M×Kd)) (rvs:List ResultVar) (vs:List V),resVs E S ms rvs=some vs→∀q∈ms,q.1.isPt=false:=by
       intro ms
       induction ms with
       |nil=>intro _ _ _ q hq;cases hq
       |cons p ms ih=>
        intro rvs vs hv q hq
        cases rvs with
        |nil=>simp[resVs]at hv
        |cons rv rvs=>
         obtain⟨pm,pk⟩:=p
         simp only[resVs]at hv
         cases u1:resV E S pm rv with
         |none=>rw[u1]at hv;cases hv
         |some v1=>
         cases u2:resVs E S ms rvs with
         |none=>rw[u1,u2]at hv;cases hv
         |some v2=>
         rcases List.mem_cons.1 hq with rfl|hq
         ·obtain⟨_,_,_,_,_,_,_,hh,_⟩:=resV_ok (P:=P) hE hs u1;exact hh
         ·exact ih rvs v2 u2 q hq
      have:=key _ _ _ h1 q hq1
      rw[hq2]at this;cases this
     |_=>rfl
    refine⟨hm,?_⟩
    cases m with
    |pt=>cases hm
    |_=>exact x
  | [],t=>
    have hv:¬vals.length=1:=by rw[hvl,ho];simp
    rw[if_neg hv]
    exact⟨vals.toArray,rfl,fun g' hg'=>TsR.mono (g:={g with ro:=ro'}) (fun b hb=>by rw[hg'];exact hb) (fun _ _=>rfl) (fun _ _=>rfl) t⟩
  |p::q::l,t=>
   have hv:¬vals.length=1:=by rw[hvl,ho];simp
   rw[if_neg hv]
   exact⟨vals.toArray,rfl,fun g' hg'=>TsR.mono (g:={g with ro:=ro'}) (fun b hb=>by rw[hg'];exact hb) (fun _ _=>rfl) (fun _ _=>rfl) t⟩
 ·obtain⟨b,y,k1,k2⟩:=outB_len h2 hn
  have e:S.bx n=some b:=by rw[bx_eq,k1];rfl
  obtain⟨k3,k4⟩:=outC_ok k2
  obtain⟨β,c,ty,q1,q2,q3,q4⟩:=hs.boxes n b e
  refine⟨b,β,c,ty,e,q1,q2,by omega,k3,fun j p hj=> ?_⟩
  obtain⟨x,k5,k6⟩:=k4 j p hj
  obtain⟨r,z1,z2,z3⟩:=q4 j x k5
  refine⟨x,r,k5,z1,?_⟩
  cases p with
  |val m kd=>exact fun ro' u1 u2=>(cell3 n j).2 ps m kd b x r c β ty hn hj e k5 q1 q2 z1 ro' u1 u2
  |ptr b' o=>exact z3 k6
  |fix kd=>exact z3 k6
  |clo f0 cs0=>exact z3 k6
end
section
variable {P : Program} {C : FuncId → List V → List V → Prop} {E : Env} {fr : Fr} {S : St} {a : Act} {w w' : World} {g : Gh} {pool : List Nat} {rm rm' : Nat} {ws : List Wr}
def LentL(S:St)(a:Act)(w:World)(g:Gh)(ls:List (Nat×Nat)):List V→List Value→Prop
 | [],rs=>rs=[]
 |v::vs,rs=>∃r q,rs=r::q∧v.isAgg=false∧(∃(l:Lo) (m:M) (ver:Nat),l.spot∈ls∧S.at l=some (v,m,ver)∧m.isPt=false∧realAt a.tmps w.heap g l=some r)∧LentL S a w g ls vs q
theorem LentL.up{g g':Gh}{ls ls':List (Nat×Nat)}(hu:Up g g')(hl:∀x∈ls,x∈ls'):∀{vs:List V} {rs:List Value},LentL S a w g ls vs rs→LentL S a w g' ls' vs rs
 | [],_,h=>h
 |v::vs,_,⟨r,q,e,h1,⟨l,m,ver,k1,k2,k3,k4⟩,h2⟩=>⟨r,q,e,h1,⟨l,m,ver,hl _ k1,k2,k3,realAt_up hu k4⟩,LentL.up hu hl h2⟩
theorem lookAll_ok{ls:List (Nat×Nat)}:∀{ps:List (Lo×Nat)} {rs:List Value} {k} {rm:Nat},PgR C S (lookAll ps k) rm ws rm'→ArR S a.tmps w.heap g ps rs→(∀p∈ps,p.1.spot∈ls)→∃vs rm1,PgR C S (k vs) rm1 ws rm'∧LentL S a w g ls vs rs
 | [],rs,k,rm,hp,hr,_=>⟨[],_,hp,hr⟩
 |p::ps,_,k,rm,hp,⟨r,q,e,h1,h2,h3⟩,hl=>by
  unfold lookAll at hp
  obtain⟨v,m,rm1,hat,hc,hp⟩:=look_ok hp
  simp only[Bool.and_eq_true,Bool.not_eq_true']at hc
  obtain⟨vs,rm2,hp,hL⟩:=lookAll_ok hp h3 fun p' hp'=>hl p' (List.mem_cons_of_mem _ hp')
  have hver:S.verAt p.1=p.2:=by
   cases hp1:p.1 with
   |s t=>
    rw[hp1]at hat
    have:=at_s hat
    simp only[St.verAt];rw[sl_eq this]
   |b b j=>
    rw[hp1]at hat
    obtain⟨cs,c,q1,q2,_,_,q3⟩:=at_b hat
    simp only[St.verAt,q1,q2];exact q3
  exact⟨v::vs,rm2,hp,r,q,e,hc.2,⟨p.1,m,p.2,hl p List.mem_cons_self,hat,hc.1,h2 hver.symm⟩,hL⟩
def Lent(S:St)(a:Act)(w:World)(g:Gh)(ls:List (Nat×Nat))(v:V)(r:Value):Prop:=
 (∃l:Lo,l.spot∈ls∧((∃m ver,S.at l=some (v,m,ver)∧m.isPt=false∧realAt a.tmps w.heap g l=some r)∨
   (∃t cs ver,l= .s t∧S.tmps[t]? =some (.many cs,ver)∧v= .agg (cs.map (·.1))∧cs.any (·.2.isPt)=false∧r=a.eval (.tmp t))))∨
 ∃vs rs,v= .agg vs∧r= .agg rs∧LentL S a w g ls vs rs.toList
theorem Lent.up{g g':Gh}{ls ls':List (Nat×Nat)}{v:V}{r:Value}(h:Lent S a w g ls v r)(hu:Up g g')(hl:∀x∈ls,x∈ls'):Lent S a w g' ls' v r:=by
 refine h.imp ?_ ?_
 ·rintro⟨l,h1,h2⟩
  refine⟨l,hl _ h1,h2.imp ?_ id⟩
  rintro⟨m,ver,k1,k2,k3⟩
  exact⟨m,ver,k1,k2,realAt_up hu k3⟩
 ·rintro⟨vs,rs,e1,e2,h⟩
  exact⟨vs,rs,e1,e2,h.up hu hl⟩
def BsInv(bs:List (Nat×Nat)):Prop:=∀b b' x,bs.lookup b=some x→bs.lookup b'=some x→b=b'
def BsExt(bs bs':List (Nat×Nat)):Prop:=∀b x,bs.lookup b=some x→bs'.lookup b=some x
theorem BsExt.refl(bs:List (Nat×Nat)):BsExt bs bs:=fun _ _ h=>h
theorem BsExt.trans{b1 b2 b3:List (Nat×Nat)}(h:BsExt b1 b2)(k:BsExt b2 b3):BsExt b1 b3:=fun b x hx=>k b x (h b x hx)
theorem lookup_mem:∀{bs:List (Nat×Nat)} {b x:Nat},bs.lookup b=some x→(b,x)∈bs
 | [],b,x,h=>by simp at h
 |(c,y)::bs,b,x,h=>by
  rw[List.lookup_cons]at h
  cases e:b==c with
  |true=>rw[e]at h;simp only[Option.some.injEq]at h;rw[beq_iff_eq]at e;subst e;subst h;simp
  |false=>rw[e]at h;exact List.mem_cons_of_mem _ (lookup_mem h)
theorem lookup_app:∀{bs:List (Nat×Nat)} {b c x:Nat},(bs++[(c,x)]).lookup b=match bs.lookup b with|some y=>some y|none=>if b=c then some x else none
 | [],b,c,x=>by
   simp only[List.nil_append,List.lookup_cons,List.lookup_nil]
   cases e:b==c with
   |true=>rw[beq_iff_eq]at e;simp[e]
   |false=>have:b≠c:=by simpa using e
           simp[this]
 |(d,y)::bs,b,c,x=>by
  simp only[List.cons_append,List.lookup_cons]
  cases e:b==d with
  |true=>rfl
  |false=>exact lookup_app
theorem bs_more{bs:List (Nat×Nat)}{b x:Nat}(hi:BsInv bs)(hb:bs.lookup b=none)(hx:(bs.any fun p=>p.2==x)=false):BsInv (bs++[(b,x)])∧BsExt bs (bs++[(b,x)])∧(bs++[(b,x)]).lookup b=some x:=by
 have hn:∀c,bs.lookup c≠some x:=fun c h=>by
  have:=List.any_eq_false.1 hx _ (lookup_mem h)
  simp at this
 refine⟨fun c c' y h1 h2=> ?_,fun c y h=>by rw[lookup_app,h],by rw[lookup_app,hb];simp⟩
 rw[lookup_app]at h1 h2
 cases e1:bs.lookup c with
 |some y1=>
  rw[e1]at h1;simp only[Option.some.injEq]at h1;subst h1
  cases e2:bs.lookup c' with
  |some y2=>rw[e2]at h2;simp only[Option.some.injEq]at h2;subst h2;exact hi c c' _ e1 e2
  |none=>rw[e2]at h2;simp only at h2;split at h2
         ·cases h2;exact absurd e1 (hn c)
         ·cases h2
 |none=>
  rw[e1]at h1;simp only at h1;split at h1
  ·cases h1
   rename_i hc
   cases e2:bs.lookup c' with
   |some y2=>rw[e2]at h2;simp only[Option.some.injEq]at h2;subst h2;exact absurd e2 (hn c')
   |none=>rw[e2]at h2;simp only at h2;split at h2
          ·rename_i hc';rw[hc,hc']
          ·cases h2
  ·cases h1
def CapB(g:Gh)(bs:List (Nat×Nat)):List (Nat×Nat)→List Value→Prop
 | [],rs=>rs=[]
 |p::cs,rs=>∃b' β rs',rs= .pointer (some ⟨β,p.2,none⟩)::rs'∧bs.lookup p.1=some b'∧g.bb b'=some β∧CapB g bs cs rs'
theorem CapB.up{g g':Gh}{bs bs':List (Nat×Nat)}(hu:Up g g')(hb:BsExt bs bs'):∀{cs:List (Nat×Nat)} {rs:List Value},CapB g bs cs rs→CapB g' bs' cs rs
 | [],_,h=>h
 |p::cs,_,⟨b',β,rs',h1,h2,h3,h4⟩=>⟨b',β,rs',h1,hb _ _ h2,hu.bb _ _ h3,CapB.up hu hb h4⟩
theorem CapB.capR{g:Gh}{bs:List (Nat×Nat)}{ro ow fp}:∀{cs:List (Nat×Nat)} {rs:List Value},CapB g bs cs rs→CapR ⟨ro,ow,fp,fun n=>(bs.lookup n).bind g.bb⟩ (cs.map fun p=>.ptr p.1 p.2) rs
 | [],_,h=>h
 |p::cs,_,⟨b',β,rs',h1,h2,h3,h4⟩=>⟨p.1,p.2,β,rs',rfl,by show(bs.lookup p.1).bind g.bb=some β;rw[h2];exact h3,h1,CapB.capR h4⟩
theorem caps_ok:∀{cs:List (Nat×Nat)} {caps:List V} {rs:List Value} {bs:List (Nat×Nat)} {k},PgR C S (capsP cs caps bs k) rm ws rm'→CapR g caps rs→BsInv bs→
 ∃bs',PgR C S (k bs') rm ws rm'∧CapB g bs' cs rs∧BsInv bs'∧BsExt bs bs'
 | [],[],rs,bs,k,hp,hc,hi=>by
   unfold capsP at hp
   exact⟨bs,hp,hc,hi,BsExt.refl bs⟩
 |(b,off)::cs,v::caps,rs,bs,k,hp,hc,hi=>by
  unfold capsP at hp
  obtain⟨b',off',β,rs',rfl,hβ,rfl,hc⟩:=hc
  obtain⟨hoff,hp1⟩:=hp
  have hoff:off=off':=by simpa using hoff
  subst hoff
  have more:∀{bs1:List (Nat×Nat)},PgR C S (capsP cs caps bs1 k) rm ws rm'→BsInv bs1→BsExt bs bs1→bs1.lookup b=some b'→
   ∃bs',PgR C S (k bs') rm ws rm'∧CapB g bs' ((b,off)::cs) (.pointer (some ⟨β,off,none⟩)::rs')∧BsInv bs'∧BsExt bs bs':=by
   intro bs1 hp2 hi1 he1 hl
   obtain⟨bs',k1,k2,k3,k4⟩:=caps_ok hp2 hc hi1
   exact⟨bs',k1,⟨b',β,rs',rfl,k4 _ _ hl,hβ,k2⟩,k3,he1.trans k4⟩
  cases hl:bs.lookup b with
  |some c=>
   rw[hl]at hp1
   obtain⟨hcb,hp1⟩:=hp1
   have hcb:c=b':=by simpa using hcb
   subst hcb
   exact more hp1 hi (BsExt.refl bs) hl
  |none=>
   rw[hl]at hp1
   obtain⟨hcb,hp1⟩:=hp1
   obtain⟨m1,m2,m3⟩:=bs_more hi hl (by simpa using hcb)
   exact more hp1 m1 m2 m3
 | [],_::_,rs,bs,k,hp,hc,hi=>by unfold capsP at hp;exact hp.elim
 |_::_,[],rs,bs,k,hp,hc,hi=>by unfold capsP at hp;exact hp.elim
def ParOK(S:St)(a:Act)(w:World)(g:Gh)(bs ls:List (Nat×Nat)):List PS→List Operand→List V→List Nat→Prop
 | [],[],vs,fp=>vs=[]∧fp=[]
 | .clo f cs::ps,x::xs,vs,fp=>(∃rs,a.eval x= .func (.func f) #[] rs∧CapB g bs cs rs.toList)∧ParOK S a w g bs ls ps xs vs fp
 | .ptr b off::ps,x::xs,vs,fp=>(∃b' β,bs.lookup b=some b'∧g.bb b'=some β∧a.eval x= .pointer (some ⟨β,off,none⟩))∧ParOK S a w g bs ls ps xs vs fp
 | .val m _::ps,x::xs,vs,fp=>∃v vs' f f',vs=v::vs'∧fp=f'++f∧((RW w.heap g.ro m v (a.eval x) f∧m.isPt=false)∨(m= .ro∧f=[]∧Lent S a w g ls v (a.eval x)))∧ParOK S a w g bs ls ps xs vs' f'
 |_,_,_,_=>False
theorem ParOK.up{g g':Gh}{bs bs' ls ls':List (Nat×Nat)}(hu:Up g g')(hb:BsExt bs bs')(hl:∀x∈ls,x∈ls'):∀{ps:List PS} {xs:List Operand} {vs:List V} {fp:List Nat},ParOK S a w g bs ls ps xs vs fp→ParOK S a w g' bs' ls' ps xs vs fp
 | [],[],_,_,h=>h
 | .clo f cs::ps,x::xs,vs,fp,⟨⟨rs,h1,h2⟩,h⟩=>⟨⟨rs,h1,h2.up hu hb⟩,ParOK.up hu hb hl h⟩
 | .clo _ _::_,[],_,_,h=>h.elim
 | .ptr b off::ps,x::xs,vs,fp,⟨⟨b',β,h1,h2,h3⟩,h⟩=>⟨⟨b',β,hb _ _ h1,hu.bb _ _ h2,h3⟩,ParOK.up hu hb hl h⟩
 | .val m kd::ps,x::xs,vs,fp,⟨v,vs',f,f',e1,e2,h1,h⟩=>by
   refine⟨v,vs',f,f',e1,e2,?_,ParOK.up hu hb hl h⟩
   rcases h1 with⟨h1,h2⟩|⟨h1,h2,h3⟩
   ·exact .inl ⟨RW.mono hu.ro (fun _ _=>rfl) (fun _ _=>rfl) h1,h2⟩
   ·exact .inr ⟨h1,h2,h3.up hu hl⟩
 | .fix _::_,_::_,_,_,h=>h.elim
 | [],_::_,_,_,h=>h.elim
 | .ptr _ _::_,[],_,_,h=>h.elim
 | .val _ _::_,[],_,_,h=>h.elim
 | .fix _::_,[],_,_,h=>h.elim
theorem fn_pt{h:Hp}{f caps m r fp}(x:OneR h g (.fn f caps) m r fp):∃rs,r= .func (.func f) #[] rs∧CapR g caps rs.toList:=by
 cases m with
 |pt=>
  obtain⟨hf,h|h⟩:=x
  ·obtain⟨b',o',β,e1,e2,e3⟩:=h;cases e1
  ·obtain⟨f,c,rs,e,e2,e3⟩:=h;cases e;exact⟨rs,e2,e3⟩
 |pr=>exact((show RM h g.ro .pr (.fn f caps) [r] fp from x).2.1).elim
 |ro=>exact((show RM h g.ro .ro (.fn f caps) [r] fp from x).1).elim
 |own d=>exact(show RM h g.ro (.own d) (.fn f caps) [r] fp from x).elim
theorem args_nil{esc:Bool}{bs:List (Nat×Nat)}{ws0:List Wr}{ls:List (Nat×Nat)}{vs:List V}{k}:args esc [] [] bs ws0 ls vs k=k bs ws0 ls vs.reverse:=by unfold args;rfl
theorem lend_ok{x:Operand}{k:List (Nat×Nat)→V→Pg}(hp:PgR C S (lend x k) rm ws rm')(hs:Sim fr S a w g []):
 ∃l v rm1,PgR C S (k l v) rm1 ws rm'∧((RW w.heap g.ro .ro v (a.eval x) [])∨Lent S a w g l v (a.eval x)):=by
 unfold lend at hp
 obtain⟨s,rm1,fp,hp1,hr,hwhy⟩:=evO_ok hp hs
 clear hp
 have hp:=hp1
 clear hp1
 cases s with
 |one v m=>
  obtain⟨hpt,hp⟩:=hp
  have hpt:m.isPt=false:=by simpa using hpt
  split at hp
  ·rename_i t
   cases hm:m.isOwn with
   |true=>
    rw[hm]at hp
    rcases hwhy with⟨t',ver,e,h1,h2⟩|⟨h1,_⟩
    ·cases e
     refine⟨_,_,_,hp,.inr (.inl ⟨.s t,by simp[Lo.spot],.inl ⟨m,ver,by simp only[St.at,h1],hpt,?_⟩⟩)⟩
     obtain⟨r,k1,_⟩:=hs.slots t _ h1
     simp only[realAt,Act.eval]
     rw[Array.getD_eq_getD_getElem?,k1];rfl
    ·have:=h1 t rfl;cases this
   |false=>
    rw[hm]at hp
    have e:=OneR.fp_nil hm hr
    subst e
    exact⟨_,_,_,hp,.inl (RW.toRO (fun _ h=>h) (by simp) (OneR.rw hpt hr))⟩
  ·rename_i hx
   have hfp:fp=[]:=by
    rcases hwhy with⟨t',ver,e,h1,h2⟩|⟨_,h2⟩
    ·exact absurd e (hx t')
    ·exact h2
   subst hfp
   exact⟨_,_,_,hp,.inl (RW.toRO (fun _ h=>h) (by simp) (OneR.rw hpt hr))⟩
 |many cs=>
  obtain⟨hpt,hp⟩:=hp
  have hpt:cs.any (·.2.isPt)=false:=by simpa using hpt
  split at hp
  ·rename_i t
   rcases hwhy with⟨t',ver,e,h1,h2⟩|⟨h1,_⟩
   ·cases e
    exact⟨_,_,_,hp,.inr (.inl ⟨.s t,by simp[Lo.spot],.inr ⟨t,cs,ver,rfl,h1,rfl,hpt,rfl⟩⟩)⟩
   ·have:=h1 t rfl;cases this
  ·rename_i hx
   have hfp:fp=[]:=by
    rcases hwhy with⟨t',ver,e,h1,h2⟩|⟨_,h2⟩
    ·exact absurd e (hx t')
    ·exact h2
   subst hfp
   obtain⟨rs,e,y⟩:=hr
   obtain⟨m1,m2⟩:=meets_ok hpt
   obtain⟨fo,fi,q1,q2⟩:=CsR.lower m1 m2 (by simp) y
   have e1:fo=[]:=by cases fo with|nil=>rfl|cons x _=>exact absurd ((q1.mem x).2 (.inl (List.mem_cons_self ..))) (by simp)
   subst e1
   have e2:fi=[]:=by cases fi with|nil=>rfl|cons x _=>exact absurd ((q1.mem x).2 (.inr (List.mem_cons_self ..))) (by simp)
   subst e2
   refine⟨_,_,_,hp,.inl ?_⟩
   have:=q2 g.ro (fun _ h=>h) (by simp)
   exact RW.toRO (fun _ h=>h) (by simp) (show RW w.heap g.ro (meets cs) (.agg (cs.map (·.1))) (a.eval x) []from⟨rs,e,this⟩)
 |aref ps=>
  obtain⟨_,rs,er,y⟩:=hr
  obtain⟨vs,rm2,hp,hL⟩:=lookAll_ok (ls:=ps.map fun p=>p.1.spot) hp y fun p hp=>List.mem_map.2 ⟨p,hp,rfl⟩
  exact⟨_,_,_,hp,.inr (.inr ⟨vs,rs,rfl,er,hL⟩)⟩
 |ref l ver=>
  obtain⟨v,m,rm2,hat,hpt,hp⟩:=look_ok hp
  have hpt:m.isPt=false:=by simpa using hpt
  obtain⟨e1,e2,_⟩:=hs.ref hr hat
  cases hm:m.isOwn with
  |true=>
   rw[hm]at hp
   exact⟨_,_,_,hp,.inr (.inl ⟨l,by simp,.inl ⟨m,_,hat,hpt,e1⟩⟩)⟩
  |false=>
   rw[hm]at hp
   have e3:=e2.one
   rw[OneR.fp_nil hm e3]at e3
   exact⟨_,_,_,hp,.inl (RW.toRO (fun _ h=>h) (by simp) (OneR.rw hpt e3))⟩
 |_=>exact hp.elim
theorem nilAs_rw{h:Hp}{ro:Nat→Prop}{m:M}{kd:Kd}{x:Operand}{v:V}{f:List Nat}(hr:RW h ro m v (a.eval x) f):RW h ro m (nilAs kd x v) (a.eval x) f:=by
 unfold nilAs
 split
 ·rename_i z l c z0
  have e:a.eval (.const (.slice none l c))= .slice none l c:=rfl
  rw[e]at hr ⊢
  cases m with
  |pr=>have:=hr.1;simp[V.plain]at this
  |ro=>
   obtain⟨⟨ad,len,cap,e1,h1,h2,h3⟩,h4⟩:=hr
   cases e1
   exact⟨⟨_,_,_,rfl,h1,h2,h3⟩,h4⟩
  |own d=>
   obtain⟨ad,len,cap,e1,h1,h2,h3⟩:=hr
   cases e1
   exact⟨_,_,_,rfl,h1,h2,h3⟩
  |pt=>exact hr.elim
 ·exact hr
theorem lend_const{c:Value}{k:List (Nat×Nat)→V→Pg}(hp:PgR C S (lend (.const c) k) rm ws rm')(hs:Sim fr S a w g []):
 ∃v rm1,PgR C S (k [] v) rm1 ws rm'∧RW w.heap g.ro .ro v (a.eval (.const c)) []:=by
 obtain⟨l,v,rm1,hp1,h⟩:=lend_ok hp hs
 unfold lend at hp
 simp only[evO]at hp
 cases hc:constSl c with
 |none=>rw[hc]at hp;exact hp.elim
 |some s=>
  rw[hc]at hp
  have hr:=constSl_ok (g:=g) (S:=S) (tm:=a.tmps) (h:=w.heap) hc
  cases s with
  |one v m=>
   obtain⟨hpt,hp⟩:=hp
   have hpt:m.isPt=false:=by simpa using hpt
   exact⟨_,_,hp,RW.toRO (fun _ h=>h) (by simp) (OneR.rw hpt hr)⟩
  |many cs=>
   obtain⟨hpt,hp⟩:=hp
   have hpt:cs.any (·.2.isPt)=false:=by simpa using hpt
   obtain⟨rs,e,y⟩:=hr
   obtain⟨m1,m2⟩:=meets_ok hpt
   obtain⟨fo,fi,q1,q2⟩:=CsR.lower m1 m2 (by simp) y
   have e1:fo=[]:=by cases fo with|nil=>rfl|cons x _=>exact absurd ((q1.mem x).2 (.inl (List.mem_cons_self ..))) (by simp)
   subst e1
   have e2:fi=[]:=by cases fi with|nil=>rfl|cons x _=>exact absurd ((q1.mem x).2 (.inr (List.mem_cons_self ..))) (by simp)
   subst e2
   have:=q2 g.ro (fun _ h=>h) (by simp)
   exact⟨_,_,hp,RW.toRO (fun _ h=>h) (by simp) (show RW w.heap g.ro (meets cs) (.agg (cs.map (·.1))) (a.eval (.const c)) []from⟨rs,e,this⟩)⟩
  |_=>
   unfold constSl at hc
   split at hc
   ·split at hc<;>cases hc
   ·split at hc<;>cases hc
theorem args_ok{g0:Gh}(hs0:Sim fr S a w g0 []){esc:Bool}:∀{ps:List PS} {xs:List Operand} {bs:List (Nat×Nat)} {W:List Wr} {ls:List (Nat×Nat)} {vs:List V} {k} {rm:Nat} {g:Gh} {pool:List Nat},
 PgR C S (args esc ps xs bs W ls vs k) rm ws rm'→Took fr S W a w g pool→Up g0 g→BsInv bs→
 ∃bs' W' ls' vs' rm1 g' fp,PgR C S (k bs' (W++W') (ls'++ls) (vs.reverse++vs')) rm1 ws rm'∧Took fr S (W++W') a w g' (fp++pool)∧Up g g'∧ParOK S a w g' bs' (ls'++ls) ps xs vs' fp∧BsInv bs'∧BsExt bs bs'∧(esc=true→ls'=[])
 | [],[],bs,W,ls,vs,k,rm,g,pool,hp,T,hu,hi=>by
   rw[args_nil]at hp
   exact⟨bs,[],[],[],rm,g,[],by simpa using hp,by simpa using T,Up.refl g,⟨rfl,rfl⟩,hi,BsExt.refl bs,fun _=>rfl⟩
 | .ptr b off::ps,x::xs,bs,W,ls,vs,k,rm,g,pool,hp,T,hu,hi=>by
   unfold args at hp
   obtain⟨s,rm1,fp0,hp1,hr,hwhy⟩:=evO_ok hp hs0
   clear hp hwhy
   split at hp1
   ·rename_i b' off' m
    obtain⟨hoff,hp1⟩:=hp1
    have hoff:off=off':=by simpa using hoff
    subst hoff
    obtain⟨_,_,β,hβ,er⟩:=ptr_pt hr
    have more:∀{bs1:List (Nat×Nat)} {rm2:Nat},PgR C S (args esc ps xs bs1 W ls vs k) rm2 ws rm'→BsInv bs1→BsExt bs bs1→bs1.lookup b=some b'→
     ∃bs' W' ls' vs' rm1 g' fp,PgR C S (k bs' (W++W') (ls'++ls) (vs.reverse++vs')) rm1 ws rm'∧Took fr S (W++W') a w g' (fp++pool)∧Up g g'∧ParOK S a w g' bs' (ls'++ls) (.ptr b off::ps) (x::xs) vs' fp∧BsInv bs'∧BsExt bs bs'∧(esc=true→ls'=[]):=by
     intro bs1 rm2 hp2 hi1 he1 hl
     obtain⟨bs',W',ls',vs',rm1,g',fp,k1,k2,k3,k4,k5,k6,k7⟩:=args_ok hs0 hp2 T hu hi1
     exact⟨bs',W',ls',vs',rm1,g',fp,k1,k2,k3,⟨⟨b',β,k6 _ _ hl,k3.bb _ _ (hu.bb _ _ hβ),er⟩,k4⟩,k5,he1.trans k6,k7⟩
    cases hl:bs.lookup b with
    |some c=>
     rw[hl]at hp1
     obtain⟨hc,hp1⟩:=hp1
     have hc:c=b':=by simpa using hc
     subst hc
     exact more hp1 hi (BsExt.refl bs) hl
    |none=>
     rw[hl]at hp1
     obtain⟨hc,hp1⟩:=hp1
     obtain⟨m1,m2,m3⟩:=bs_more hi hl (by simpa using hc)
     exact more hp1 m1 m2 m3
   ·exact hp1.elim
 | .val m kd::ps,x::xs,bs,W,ls,vs,k,rm,g,pool,hp,T,hu,hi=>by
   have more:∀{w1:List Wr} {l1:List (Nat×Nat)} {v:V} {g1:Gh} {f:List Nat} {rm2:Nat},PgR C S (args esc ps xs bs (W++w1) (l1++ls) (v::vs) k) rm2 ws rm'→Took fr S (W++w1) a w g1 (f++pool)→Up g g1→
    ((RW w.heap g1.ro m v (a.eval x) f∧m.isPt=false)∨(m= .ro∧f=[]∧Lent S a w g1 l1 v (a.eval x)))→(esc=true→l1=[])→
    ∃bs' W' ls' vs' rm1 g' fp,PgR C S (k bs' (W++W') (ls'++ls) (vs.reverse++vs')) rm1 ws rm'∧Took fr S (W++W') a w g' (fp++pool)∧Up g g'∧ParOK S a w g' bs' (ls'++ls) (.val m kd::ps) (x::xs) vs' fp∧BsInv bs'∧BsExt bs bs'∧(esc=true→ls'=[]):=by
    intro w1 l1 v g1 f rm2 hp2 T1 hu1 hv hesc
    obtain⟨bs',W',ls',vs',rm1,g',fp,k1,k2,k3,k4,k5,k6,k7⟩:=args_ok hs0 hp2 T1 (hu.trans hu1) hi
    refine⟨bs',w1++W',ls'++l1,v::vs',rm1,g',fp++f,by simpa [List.append_assoc]using k1,by simpa [List.append_assoc]using k2,hu1.trans k3,?_,k5,k6,fun h=>by rw[k7 h,hesc h];rfl⟩
    refine⟨v,vs',f,fp,rfl,rfl,?_,by rw[List.append_assoc];exact k4⟩
    rcases hv with⟨h1,h2⟩|⟨h1,h2,h3⟩
    ·exact .inl ⟨RW.mono k3.ro (fun _ _=>rfl) (fun _ _=>rfl) h1,h2⟩
    ·exact .inr ⟨h1,h2,h3.up k3 (fun y hy=>by simp[hy])⟩
   cases m with
   |pr=>
    unfold args at hp
    obtain⟨s,rm1,fp0,hp1,hr,hwhy⟩:=evO_ok hp hs0
    clear hp hwhy
    split at hp1
    ·have e:=OneR.fp_nil (m:=.pr) rfl hr
     subst e
     exact more (w1:=[]) (l1:=[]) (f:=[]) (g1:=g) (by simpa using hp1) (by simpa using T) (Up.refl g) (.inl ⟨OneR.rw rfl (OneR.up hr hu),rfl⟩) (fun _=>rfl)
    ·rename_i l ver
     obtain⟨v,m,rm2,hat,hp2⟩:=look_ok hp1
     cases m with
     |pr=>
      obtain⟨_,e2,_⟩:=hs0.ref hr hat
      have e3:=e2.one
      rw[OneR.fp_nil rfl e3]at e3
      exact more (w1:=[]) (l1:=[]) (f:=[]) (g1:=g) (by simpa using hp2) (by simpa using T) (Up.refl g) (.inl ⟨OneR.rw rfl (OneR.up e3 hu),rfl⟩) (fun _=>rfl)
     |_=>exact hp2.elim
    ·exact hp1.elim
   |own d=>
    unfold args at hp
    obtain⟨w0,v,m,rm1,hp1,H⟩:=sink_ok hp T
    obtain⟨hc,hp2⟩:=hp1
    simp only[Bool.and_eq_true,Bool.not_eq_true']at hc
    obtain⟨hc1,hc2⟩:=hc
    obtain⟨g1,f,k1,k2,k3⟩:=H hc1
    have hg:m.gives (.own d)=true:=by
     cases m with
     |pr=>rfl
     |own b=>simpa [M.gives]using hc2
     |ro=>simp at hc2
     |pt=>simp at hc2
    have hn:=(List.nodup_append.1 k1.sim.plnd).1
    obtain⟨fo,fi,p1,p2⟩:=RW.lower hg hn (OneR.rw (gives_npt hg).1 k3)
    obtain⟨g2,z1,z2,z3⟩:=k1.part p1
    exact more (w1:=w0) (l1:=[]) (f:=fo) (g1:=g2) (by simpa using hp2) z1 (k2.trans z2) (.inl ⟨nilAs_rw (p2 g2.ro z2.ro z3),rfl⟩) (fun _=>rfl)
   |ro=>
    unfold args at hp
    cases esc with
    |true=>
     simp only[cond_true]at hp
     obtain⟨w0,v,m,rm1,hp1,H⟩:=sink_ok hp T
     obtain⟨hc,hp2⟩:=hp1
     simp only[Bool.and_eq_true,Bool.not_eq_true']at hc
     obtain⟨hc1,hc2⟩:=hc
     obtain⟨g1,f,k1,k2,k3⟩:=H hc1
     have hg:m.gives .ro=true:=by cases m<;>first|rfl|simp[M.isPt]at hc2
     have hn:=(List.nodup_append.1 k1.sim.plnd).1
     obtain⟨fo,fi,p1,p2⟩:=RW.lower hg hn (OneR.rw hc2 k3)
     obtain⟨g2,z1,z2,z3⟩:=k1.part p1
     exact more (w1:=w0) (l1:=[]) (f:=fo) (g1:=g2) (by simpa using hp2) z1 (k2.trans z2) (.inl ⟨nilAs_rw (p2 g2.ro z2.ro z3),rfl⟩) (fun _=>rfl)
    |false=>
     simp only[cond_false]at hp
     by_cases hxc:∃c,x= .const c
     ·obtain⟨c,rfl⟩:=hxc
      obtain⟨v,rm1,hp1,h⟩:=lend_const hp hs0
      exact more (w1:=[]) (l1:=[]) (f:=[]) (g1:=g) (by simpa using hp1) (by simpa using T) (Up.refl g) (.inl ⟨nilAs_rw (RW.mono hu.ro (fun _ _=>rfl) (fun _ _=>rfl) h),rfl⟩) (fun h=>by cases h)
     have hna:∀v,nilAs kd x v=v:=by
      intro v
      unfold nilAs
      split
      ·exact absurd ⟨_,rfl⟩ hxc
      ·rfl
     simp only[hna]at hp
     obtain⟨l,v,rm1,hp1,hv⟩:=lend_ok hp hs0
     refine more (w1:=[]) (l1:=l) (f:=[]) (g1:=g) (by simpa using hp1) (by simpa using T) (Up.refl g) ?_ (fun h=>by cases h)
     rcases hv with h|h
     ·exact .inl ⟨RW.mono hu.ro (fun _ _=>rfl) (fun _ _=>rfl) h,rfl⟩
     ·exact .inr ⟨rfl,rfl,h.up hu (fun _ h=>h)⟩
   |pt=>unfold args at hp;exact hp.elim
 | .clo f cs::ps,x::xs,bs,W,ls,vs,k,rm,g,pool,hp,T,hu,hi=>by
   unfold args at hp
   obtain⟨s,rm1,fp0,hp1,hr,hwhy⟩:=evO_ok hp hs0
   clear hp hwhy
   split at hp1
   ·rename_i f' caps m
    obtain⟨hf,hp1⟩:=hp1
    have hf:f=f':=by simpa using hf
    subst hf
    obtain⟨rs,er,hc⟩:=fn_pt hr
    obtain⟨bs1,hp2,hc1,hi1,he1⟩:=caps_ok hp1 hc hi
    obtain⟨bs',W',ls',vs',rm1,g',fp,k1,k2,k3,k4,k5,k6,k7⟩:=args_ok hs0 hp2 T hu hi1
    exact⟨bs',W',ls',vs',rm1,g',fp,k1,k2,k3,⟨⟨rs,er,hc1.up (hu.trans k3) k6⟩,k4⟩,k5,he1.trans k6,k7⟩
   ·exact hp1.elim
 | .clo _ _::_,[],bs,W,ls,vs,k,rm,g,pool,hp,T,hu,hi=>by unfold args at hp;exact hp.elim
 | .fix _::ps,x::xs,bs,W,ls,vs,k,rm,g,pool,hp,T,hu,hi=>by unfold args at hp;exact hp.elim
 | [],_::_,bs,W,ls,vs,k,rm,g,pool,hp,T,hu,hi=>by unfold args at hp;exact hp.elim
 | .ptr _ _::_,[],bs,W,ls,vs,k,rm,g,pool,hp,T,hu,hi=>by unfold args at hp;exact hp.elim
 | .fix _::_,[],bs,W,ls,vs,k,rm,g,pool,hp,T,hu,hi=>by unfold args at hp;exact hp.elim
 | .val m _::_,[],bs,W,ls,vs,k,rm,g,pool,hp,T,hu,hi=>by unfold args at hp;cases m<;>exact hp.elim
end
section
variable {P : Program} {C : FuncId → List V → List V → Prop} {E : Env} {fr : Fr} {S S1 : St} {a : Act} {w w' : World} {g : Gh} {pool : List Nat} {rm rm' : Nat} {ws : List Wr}
theorem lentL_ok{ls:List (Nat×Nat)}{ro':Nat→Prop}(hs:Sim fr S1 a w g pool)(hag:∀l:Lo,l.spot∈ls→Agree S S1 l)(hro:∀x,g.ro x→ro' x)(hl:∀l:Lo,l.spot∈ls→∀x∈g.fp l,ro' x):
 ∀{vs:List V} {rs:List Value},LentL S a w g ls vs rs→RCs w.heap ro' vs rs
 | [],_,h=>h
 |v::vs,_,⟨r,q,e,h1,⟨l,m,ver,k1,k2,k3,k4⟩,h2⟩=>by
  obtain⟨r',q1,q2,q3⟩:=hs.at ((hag l k1).at.trans k2)
  rw[k4]at q1;cases q1
  have x:=RW.toRO hro (hl l k1) (OneR.rw k3 q2.one)
  have x:REl w.heap ro' v [r]:=by
   cases v with
   |agg _=>cases h1
   |_=>exact x.1
  exact⟨r,q,e,h1,x,lentL_ok hs hag hro hl h2⟩
theorem lent_ok{ls:List (Nat×Nat)}{v:V}{r:Value}{ro':Nat→Prop}(hs:Sim fr S1 a w g pool)(hag:∀l:Lo,l.spot∈ls→Agree S S1 l)(hro:∀x,g.ro x→ro' x)(hl:∀l:Lo,l.spot∈ls→∀x∈g.fp l,ro' x)
 (h:Lent S a w g ls v r):RW w.heap ro' .ro v r []:=by
 rcases h with⟨l,h1,h2|h2⟩|⟨vs,rs,rfl,rfl,hL⟩
 ·obtain⟨m,ver,k1,k2,k3⟩:=h2
  obtain⟨r',q1,q2,q3⟩:=hs.at ((hag l h1).at.trans k1)
  rw[k3]at q1;cases q1
  exact RW.toRO hro (hl l h1) (OneR.rw k2 q2.one)
 ·obtain⟨t,cs,ver,rfl,k1,rfl,k2,rfl⟩:=h2
  have k1':S1.tmps[t]? =some (.many cs,ver):=(hag (.s t) h1).trans k1
  obtain⟨rs,e,y⟩:=hs.slot k1'
  obtain⟨m1,m2⟩:=meets_ok k2
  obtain⟨fo,fi,p1,p2⟩:=CsR.lower m1 m2 (hs.nd _) y
  have:=p2 (fun x=>g.ro x∨x∈fi) (fun _ h=>.inl h) (fun _ h=>.inr h)
  rw[e]
  exact⟨rs,rfl,RM.toRO (fun b hb=>hb.elim (hro b) (fun h=>hl _ h1 b ((p1.mem b).2 (.inr h)))) (fun b hb=>hl _ h1 b ((p1.mem b).2 (.inl hb))) this⟩
 ·exact⟨rs,rfl,lentL_ok hs hag hro hl hL,rfl⟩
theorem ParOK.split{bs ls:List (Nat×Nat)}:∀{ps:List PS} {xs:List Operand} {vs:List V} {fp:List Nat} (rest:List V),ParOK S a w g bs ls ps xs vs fp→fp.Nodup→
 ps.length=xs.length∧(initP ps (vs++rest)).2=rest∧(initP ps (vs++rest)).1.length=ps.length∧∃fpS:Nat→List Nat,(∀i,∀x∈fpS i,x∈fp)∧(∀i,(fpS i).Nodup)∧(∀i j x,x∈fpS i→x∈fpS j→i=j)∧(∀i,ps.length≤i→fpS i=[])∧
  ∀(i:Nat) (t:Sl×Nat),(initP ps (vs++rest)).1[i]? =some t→∃x,xs[i]? =some x∧
   ((∃b off b' β,t.1= .one (.ptr b off) .pt∧fpS i=[]∧bs.lookup b=some b'∧g.bb b'=some β∧a.eval x= .pointer (some ⟨β,off,none⟩))∨
    (∃v m,t.1= .one v m∧m.isPt=false∧(RW w.heap g.ro m v (a.eval x) (fpS i)∨(m= .ro∧fpS i=[]∧Lent S a w g ls v (a.eval x))))∨
    (∃f cs rs,t.1= .one (.fn f (cs.map fun p=>.ptr p.1 p.2)) .pt∧fpS i=[]∧a.eval x= .func (.func f) #[] rs∧CapB g bs cs rs.toList))
 | [],[],vs,fp,rest,h,hn=>by
   obtain⟨rfl,rfl⟩:=h
   exact⟨rfl,rfl,rfl,fun _=>[],by simp,by simp,by simp,by simp,by simp[initP]⟩
 | .ptr b off::ps,x::xs,vs,fp,rest,h,hn=>by
   obtain⟨⟨b',β,h1,h2,h3⟩,h⟩:=h
   obtain⟨k0,k1,k2,fpS,k3,k4,k5,k6,k7⟩:=ParOK.split rest h hn
   refine⟨by simp[k0],by simpa [initP]using k1,by simp[initP,k2],fun i=>match i with|0=>[]|i+1=>fpS i,fun i y hy=> ?_,fun i=> ?_,fun i j y hy hy'=> ?_,fun i hi=> ?_,fun i t ht=> ?_⟩
   ·cases i with
    |zero=>cases hy
    |succ i=>exact k3 i y hy
   ·cases i with
    |zero=>simp
    |succ i=>exact k4 i
   ·cases i with
    |zero=>cases hy
    |succ i=>cases j with
     |zero=>cases hy'
     |succ j=>rw[k5 i j y hy hy']
   ·cases i with
    |zero=>rfl
    |succ i=>exact k6 i (by simpa using hi)
   ·cases i with
    |zero=>
     simp only[initP,List.getElem?_cons_zero,Option.some.injEq]at ht
     subst ht
     exact⟨x,rfl,.inl ⟨b,off,b',β,rfl,rfl,h1,h2,h3⟩⟩
    |succ i=>
     obtain⟨x',e1,e2⟩:=k7 i t (by simpa [initP]using ht)
     exact⟨x',by simpa using e1,e2⟩
 | .clo f cs::ps,x::xs,vs,fp,rest,h,hn=>by
   obtain⟨⟨rs,h1,h2⟩,h⟩:=h
   obtain⟨k0,k1,k2,fpS,k3,k4,k5,k6,k7⟩:=ParOK.split rest h hn
   refine⟨by simp[k0],by simpa [initP]using k1,by simp[initP,k2],fun i=>match i with|0=>[]|i+1=>fpS i,fun i y hy=> ?_,fun i=> ?_,fun i j y hy hy'=> ?_,fun i hi=> ?_,fun i t ht=> ?_⟩
   ·cases i with
    |zero=>cases hy
    |succ i=>exact k3 i y hy
   ·cases i with
    |zero=>simp
    |succ i=>exact k4 i
   ·cases i with
    |zero=>cases hy
    |succ i=>cases j with
     |zero=>cases hy'
     |succ j=>rw[k5 i j y hy hy']
   ·cases i with
    |zero=>rfl
    |succ i=>exact k6 i (by simpa using hi)
   ·cases i with
    |zero=>
     simp only[initP,List.getElem?_cons_zero,Option.some.injEq]at ht
     subst ht
     exact⟨x,rfl,.inr (.inr ⟨f,cs,rs,rfl,rfl,h1,h2⟩)⟩
    |succ i=>
     obtain⟨x',e1,e2⟩:=k7 i t (by simpa [initP]using ht)
     exact⟨x',by simpa using e1,e2⟩
 | .clo _ _::_,[],_,_,_,h,_=>h.elim
 | .val m kd::ps,x::xs,vs,fp,rest,h,hn=>by
   obtain⟨v,vs',f,f',rfl,rfl,h1,h⟩:=h
   have hn':=List.nodup_append.1 hn
   obtain⟨k0,k1,k2,fpS,k3,k4,k5,k6,k7⟩:=ParOK.split rest h hn'.1
   refine⟨by simp[k0],by simpa [initP]using k1,by simp[initP,k2],fun i=>match i with|0=>f|i+1=>fpS i,fun i y hy=> ?_,fun i=> ?_,fun i j y hy hy'=> ?_,fun i hi=> ?_,fun i t ht=> ?_⟩
   ·cases i with
    |zero=>exact List.mem_append.2 (.inr hy)
    |succ i=>exact List.mem_append.2 (.inl (k3 i y hy))
   ·cases i with
    |zero=>exact hn'.2.1
    |succ i=>exact k4 i
   ·cases i with
    |zero=>cases j with
     |zero=>rfl
     |succ j=>exact absurd rfl (hn'.2.2 y (k3 j y hy') y hy)
    |succ i=>cases j with
     |zero=>exact absurd rfl (hn'.2.2 y (k3 i y hy) y hy')
     |succ j=>rw[k5 i j y hy hy']
   ·cases i with
    |zero=>simp at hi
    |succ i=>exact k6 i (by simpa using hi)
   ·cases i with
    |zero=>
     simp only[initP,List.cons_append,List.getElem?_cons_zero,Option.some.injEq]at ht
     subst ht
     refine⟨x,rfl,.inr (.inl ⟨v,m,rfl,?_,?_⟩)⟩
     ·rcases h1 with⟨_,h2⟩|⟨h2,_⟩
      ·exact h2
      ·rw[h2];rfl
     ·rcases h1 with⟨h2,_⟩|h2
      ·exact .inl h2
      ·exact .inr h2
    |succ i=>
     obtain⟨x',e1,e2⟩:=k7 i t (by simpa [initP]using ht)
     exact⟨x',by simpa using e1,e2⟩
 | .fix _::_,_::_,_,_,_,h,_=>h.elim
 | [],_::_,_,_,_,h,_=>h.elim
 | .ptr _ _::_,[],_,_,_,h,_=>h.elim
 | .val _ _::_,[],_,_,_,h,_=>h.elim
 | .fix _::_,[],_,_,_,h,_=>h.elim
def CellsOK(esc:Bool)(bs:List (Nat×Nat)):List PS→Bx→List V→Bx→Prop
 | [],[],vs,nb=>vs=[]∧nb=[]
 | .ptr b off::ps,c::cs,vs,nb=>∃nb',nb=c::nb'∧(∃b',bs.lookup b=some b'∧c.v= .ptr b' off)∧CellsOK esc bs ps cs vs nb'
 | .fix _::ps,c::cs,vs,nb=>∃vs' nb',vs=c.v::vs'∧nb=(bif esc then frz c else c)::nb'∧c.m.isPt=false∧CellsOK esc bs ps cs vs' nb'
 | .val m _::ps,c::cs,vs,nb=>∃vs' nb',vs=c.v::vs'∧nb=⟨.undef,m,c.ver+1,c.fix⟩::nb'∧c.m.gives m=true∧c.fix=false∧CellsOK esc bs ps cs vs' nb'
 |_,_,_,_=>False
theorem CellsOK.ext{esc:Bool}{bs bs':List (Nat×Nat)}(hb:BsExt bs bs'):∀{ps:List PS} {cs:Bx} {vs:List V} {nb:Bx},CellsOK esc bs ps cs vs nb→CellsOK esc bs' ps cs vs nb
 | [],[],_,_,h=>h
 | .ptr b off::ps,c::cs,vs,nb,⟨nb',e,⟨b',h1,h2⟩,h⟩=>⟨nb',e,⟨b',hb _ _ h1,h2⟩,CellsOK.ext hb h⟩
 | .fix _::ps,c::cs,vs,nb,⟨vs',nb',e1,e2,e3,h⟩=>⟨vs',nb',e1,e2,e3,CellsOK.ext hb h⟩
 | .val m _::ps,c::cs,vs,nb,⟨vs',nb',e1,e2,e3,e4,h⟩=>⟨vs',nb',e1,e2,e3,e4,CellsOK.ext hb h⟩
 | [],_::_,_,_,h=>h.elim
 | .ptr _ _::_,[],_,_,h=>h.elim
 | .val _ _::_,[],_,_,h=>h.elim
 | .fix _::_,[],_,_,h=>h.elim
theorem boxCells_ok{esc:Bool}:∀{ps:List PS} {cs:Bx} {bs:List (Nat×Nat)} {vs:List V} {nb:Bx} {k} {rm:Nat},PgR C S (boxCells esc ps cs bs vs nb k) rm ws rm'→BsInv bs→
 ∃bs' vs' nb' rm1,PgR C S (k bs' (vs'.reverse++vs) (nb.reverse++nb')) rm1 ws rm'∧CellsOK esc bs' ps cs vs' nb'∧BsInv bs'∧BsExt bs bs'
 | [],[],bs,vs,nb,k,rm,hp,hi=>by
   unfold boxCells at hp
   exact⟨bs,[],[],rm,by simpa using hp,⟨rfl,rfl⟩,hi,BsExt.refl bs⟩
 | .ptr b off::ps,c::cs,bs,vs,nb,k,rm,hp,hi=>by
   unfold boxCells at hp
   simp only at hp
   split at hp
   ·rename_i b' off' hv
    obtain⟨hoff,hp1⟩:=hp
    have hoff:off=off':=by simpa using hoff
    subst hoff
    have more:∀{bs1:List (Nat×Nat)} {rm2:Nat},PgR C S (boxCells esc ps cs bs1 vs (c::nb) k) rm2 ws rm'→BsInv bs1→BsExt bs bs1→bs1.lookup b=some b'→
     ∃bs' vs' nb' rm1,PgR C S (k bs' (vs'.reverse++vs) (nb.reverse++nb')) rm1 ws rm'∧CellsOK esc bs' (.ptr b off::ps) (c::cs) vs' nb'∧BsInv bs'∧BsExt bs bs':=by
     intro bs1 rm2 hp2 hi1 he1 hl
     obtain⟨bs',vs',nb',rm1,k1,k2,k3,k4⟩:=boxCells_ok hp2 hi1
     exact⟨bs',vs',c::nb',rm1,by simpa using k1,⟨nb',rfl,⟨b',k4 _ _ hl,hv⟩,k2⟩,k3,he1.trans k4⟩
    cases hl:bs.lookup b with
    |some x=>
     rw[hl]at hp1
     obtain⟨hc,hp1⟩:=hp1
     have hc:x=b':=by simpa using hc
     subst hc
     exact more hp1 hi (BsExt.refl bs) hl
    |none=>
     rw[hl]at hp1
     obtain⟨hc,hp1⟩:=hp1
     obtain⟨m1,m2,m3⟩:=bs_more hi hl (by simpa using hc)
     exact more hp1 m1 m2 m3
   ·exact hp.elim
 | .fix kd::ps,c::cs,bs,vs,nb,k,rm,hp,hi=>by
   unfold boxCells at hp
   obtain⟨hc,hp1⟩:=hp
   obtain⟨bs',vs',nb',rm1,k1,k2,k3,k4⟩:=boxCells_ok hp1 hi
   exact⟨bs',c.v::vs',_::nb',rm1,by simpa using k1,⟨vs',nb',rfl,rfl,by simpa using hc,k2⟩,k3,k4⟩
 | .val m kd::ps,c::cs,bs,vs,nb,k,rm,hp,hi=>by
   unfold boxCells at hp
   obtain⟨hc,hp1⟩:=hp
   simp only[Bool.and_eq_true,Bool.not_eq_true']at hc
   obtain⟨bs',vs',nb',rm1,k1,k2,k3,k4⟩:=boxCells_ok hp1 hi
   exact⟨bs',c.v::vs',_::nb',rm1,by simpa using k1,⟨vs',nb',rfl,rfl,hc.1,hc.2,k2⟩,k3,k4⟩
 | .clo _ _::_,_::_,bs,vs,nb,k,rm,hp,hi=>by unfold boxCells at hp;exact hp.elim
 | .clo _ _::_,[],bs,vs,nb,k,rm,hp,hi=>by unfold boxCells at hp;exact hp.elim
 | [],_::_,bs,vs,nb,k,rm,hp,hi=>by unfold boxCells at hp;exact hp.elim
 | .ptr _ _::_,[],bs,vs,nb,k,rm,hp,hi=>by unfold boxCells at hp;exact hp.elim
 | .val _ _::_,[],bs,vs,nb,k,rm,hp,hi=>by unfold boxCells at hp;exact hp.elim
 | .fix _::_,[],bs,vs,nb,k,rm,hp,hi=>by unfold boxCells at hp;exact hp.elim
def CellAt(esc:Bool)(bs:List (Nat×Nat))(p:PS)(c n x:Cell):Prop:=
 match p with
 | .ptr b off=>(∃b',bs.lookup b=some b'∧c.v= .ptr b' off)∧n=c∧x=⟨.ptr b off,.pt,0,true⟩
 | .clo _ _=>False
 | .fix _=>c.m.isPt=false∧n=(bif esc then frz c else c)∧x=⟨c.v,.ro,0,true⟩
 | .val m _=>c.m.gives m=true∧c.fix=false∧n=⟨.undef,m,c.ver+1,c.fix⟩∧x=⟨c.v,m,0,false⟩
theorem CellsOK.init{esc:Bool}{bs:List (Nat×Nat)}:∀{ps:List PS} {cs:Bx} {vs:List V} {nb:Bx} (rest:List V),CellsOK esc bs ps cs vs nb→
 (initC ps (vs++rest)).2=rest∧(initC ps (vs++rest)).1.length=ps.length∧cs.length=ps.length∧nb.length=ps.length∧
 ∀(j:Nat) (p:PS),ps[j]? =some p→∃c n x,cs[j]? =some c∧nb[j]? =some n∧(initC ps (vs++rest)).1[j]? =some x∧CellAt esc bs p c n x
 | [],[],_,_,rest,⟨e1,e2⟩=>by subst e1;subst e2;exact⟨rfl,rfl,rfl,rfl,by simp⟩
 | .ptr b off::ps,c::cs,vs,nb,rest,⟨nb',e,⟨b',h1,h2⟩,h⟩=>by
   subst e
   obtain⟨k1,k2,k3,k4,k5⟩:=CellsOK.init rest h
   refine⟨by simpa [initC]using k1,by simp[initC,k2],by simp[k3],by simp[k4],fun j p hj=> ?_⟩
   cases j with
   |zero=>
    simp only[List.getElem?_cons_zero,Option.some.injEq]at hj
    subst hj
    exact⟨c,c,_,rfl,rfl,by simp[initC],⟨⟨b',h1,h2⟩,rfl,rfl⟩⟩
   |succ j=>
    obtain⟨c1,n1,x1,q1,q2,q3,q4⟩:=k5 j p (by simpa using hj)
    exact⟨c1,n1,x1,by simpa using q1,by simpa using q2,by simpa [initC]using q3,q4⟩
 | .fix kd::ps,c::cs,vs,nb,rest,⟨vs',nb',e1,e2,e3,h⟩=>by
   subst e1;subst e2
   obtain⟨k1,k2,k3,k4,k5⟩:=CellsOK.init rest h
   refine⟨by simpa [initC]using k1,by simp[initC,k2],by simp[k3],by simp[k4],fun j p hj=> ?_⟩
   cases j with
   |zero=>
    simp only[List.getElem?_cons_zero,Option.some.injEq]at hj
    subst hj
    exact⟨c,_,_,rfl,rfl,by simp[initC],⟨e3,rfl,rfl⟩⟩
   |succ j=>
    obtain⟨c1,n1,x1,q1,q2,q3,q4⟩:=k5 j p (by simpa using hj)
    exact⟨c1,n1,x1,by simpa using q1,by simpa using q2,by simpa [initC]using q3,q4⟩
 | .val m kd::ps,c::cs,vs,nb,rest,⟨vs',nb',e1,e2,e3,e4,h⟩=>by
   subst e1;subst e2
   obtain⟨k1,k2,k3,k4,k5⟩:=CellsOK.init rest h
   refine⟨by simpa [initC]using k1,by simp[initC,k2],by simp[k3],by simp[k4],fun j p hj=> ?_⟩
   cases j with
   |zero=>
    simp only[List.getElem?_cons_zero,Option.some.injEq]at hj
    subst hj
    exact⟨c,_,_,rfl,rfl,by simp[initC],⟨e3,e4,rfl,rfl⟩⟩
   |succ j=>
    obtain⟨c1,n1,x1,q1,q2,q3,q4⟩:=k5 j p (by simpa using hj)
    exact⟨c1,n1,x1,by simpa using q1,by simpa using q2,by simpa [initC]using q3,q4⟩
 | .clo _ _::_,_::_,_,_,_,h=>h.elim
 | .clo _ _::_,[],_,_,_,h=>h.elim
 | [],_::_,_,_,_,h=>h.elim
 | .ptr _ _::_,[],_,_,_,h=>h.elim
 | .val _ _::_,[],_,_,_,h=>h.elim
 | .fix _::_,[],_,_,_,h=>h.elim
def BoxesOK(esc:Bool)(S:St)(bs:List (Nat×Nat)):Nat→List (List PS)→List V→List (Nat×Bx×List PS)→Prop
 |_,[],vs,nbs=>vs=[]∧nbs=[]
 |n,ps::r,vs,nbs=>∃b' cs vs1 vs2 nb nbs',bs.lookup n=some b'∧S.bx b'=some cs∧CellsOK esc bs ps cs vs1 nb∧vs=vs1++vs2∧nbs=(b',nb,ps)::nbs'∧BoxesOK esc S bs (n+1) r vs2 nbs'
theorem boxesIn_ok{esc:Bool}:∀{pss:List (List PS)} {n:Nat} {bs:List (Nat×Nat)} {vs:List V} {nbs:List (Nat×Bx×List PS)} {k} {rm:Nat},PgR C S (boxesIn esc n pss bs vs nbs k) rm ws rm'→BsInv bs→
 ∃bs' vs' nbs' rm1,PgR C S (k (vs++vs') (nbs.reverse++nbs')) rm1 ws rm'∧BoxesOK esc S bs' n pss vs' nbs'∧BsInv bs'∧BsExt bs bs'∧(∀p∈bs',p.1<n+pss.length)
 | [],n,bs,vs,nbs,k,rm,hp,hi=>by
   unfold boxesIn at hp
   obtain⟨hc,hp1⟩:=hp
   refine⟨bs,[],[],_,by simpa using hp1,⟨rfl,rfl⟩,hi,BsExt.refl bs,fun p hp=> ?_⟩
   have:=List.all_eq_true.1 hc p hp
   simpa using this
 |ps::r,n,bs,vs,nbs,k,rm,hp,hi=>by
  unfold boxesIn at hp
  cases hl:bs.lookup n with
  |none=>rw[hl]at hp;exact hp.elim
  |some b'=>
   rw[hl]at hp
   have hp':PgR C S (match S.bx b' with
    |none=>.fail
    |some cs=>boxCells esc ps cs bs [] [] fun bs vs' nb=>boxesIn esc (n+1) r bs (vs++vs'.reverse) ((b',nb,ps)::nbs) k) (rm|||(bbit b'|||bhbit b')) ws rm':=hp
   cases hb:S.bx b' with
   |none=>rw[hb]at hp';exact hp'.elim
   |some cs=>
    rw[hb]at hp'
    obtain⟨bs1,vs1,nb1,rm1,k1,k2,k3,k4⟩:=boxCells_ok hp' hi
    obtain⟨bs2,vs2,nbs2,rm2,q1,q2,q3,q4,q5⟩:=boxesIn_ok k1 k3
    refine⟨bs2,vs1++vs2,(b',nb1,ps)::nbs2,rm2,?_,⟨b',cs,vs1,vs2,nb1,nbs2,q4 _ _ (k4 _ _ hl),hb,k2.ext q4,rfl,rfl,q2⟩,q3,k4.trans q4,fun p hp=> ?_⟩
    ·simpa [List.append_assoc]using q1
    ·have:=q5 p hp;simp only[List.length_cons];omega
theorem BoxesOK.nth{esc:Bool}{bs:List (Nat×Nat)}:∀{pss:List (List PS)} {n0:Nat} {vs:List V} {nbs:List (Nat×Bx×List PS)} {n:Nat} {ps:List PS},BoxesOK esc S bs n0 pss vs nbs→pss[n]? =some ps→
 ∃b' cs vs1 nb rest,bs.lookup (n0+n)=some b'∧S.bx b'=some cs∧CellsOK esc bs ps cs vs1 nb∧nbs[n]? =some (b',nb,ps)∧(initB pss vs)[n]? =some (some (initC ps (vs1++rest)).1)
 | [],n0,vs,nbs,n,ps,h,hn=>by simp at hn
 |ps0::r,n0,vs,nbs,n,ps,⟨b',cs,vs1,vs2,nb,nbs',h1,h2,h3,h4,h5,h6⟩,hn=>by
  subst h4;subst h5
  cases n with
  |zero=>
   simp only[List.getElem?_cons_zero,Option.some.injEq]at hn
   subst hn
   exact⟨b',cs,vs1,nb,vs2,h1,h2,h3,rfl,by simp[initB]⟩
  |succ n=>
   obtain⟨b1,cs1,v1,nb1,rest,k1,k2,k3,k4,k5⟩:=BoxesOK.nth h6 (show r[n]? =some ps by simpa using hn)
   refine⟨b1,cs1,v1,nb1,rest,by rw[show n0+(n+1)=n0+1+n by omega];exact k1,k2,k3,by simpa using k4,?_⟩
   have e:=(CellsOK.init vs2 h3).1
   simp only[initB,e]
   simpa using k5
theorem initB_len:∀{pss:List (List PS)} {vs:List V},(initB pss vs).length=pss.length
 | [],_=>rfl
 |_::r,vs=>by simp[initB,initB_len (pss:=r)]
theorem BoxesOK.len{esc:Bool}{bs:List (Nat×Nat)}:∀{pss:List (List PS)} {n0:Nat} {vs:List V} {nbs:List (Nat×Bx×List PS)},BoxesOK esc S bs n0 pss vs nbs→nbs.length=pss.length
 | [],_,_,_,⟨_,e⟩=>by rw[e];rfl
 |_::r,_,_,_,⟨_,_,_,_,_,_,_,_,_,_,e,h⟩=>by rw[e];simp[BoxesOK.len h]
end
open Classical
section
variable {P : Program} {C : FuncId → List V → List V → Prop} {E : Env} {fr : Fr} {S S1 : St} {a : Act} {w w' : World} {g : Gh} {pool : List Nat} {rm rm' : Nat} {ws : List Wr}
theorem initP_app:∀(ps qs:List PS) (vs:List V),initP (ps++qs) vs=((initP ps vs).1++(initP qs (initP ps vs).2).1,(initP qs (initP ps vs).2).2)
 | [],qs,vs=>by simp[initP]
 | .ptr b o::ps,qs,vs=>by simp[initP,initP_app ps qs vs]
 | .clo f cs::ps,qs,vs=>by simp[initP,initP_app ps qs vs]
 | .fix k::ps,qs,vs=>by simp[initP,initP_app ps qs vs]
 | .val m k::ps,qs,v::vs=>by simp[initP,initP_app ps qs vs]
 | .val m k::ps,qs,[]=>by simp[initP,initP_app ps qs []]
theorem initP_ptrs:∀{qs:List PS} {cps:List (Nat×Nat)} {vs:List V},ptrsP qs=some cps→initP qs vs=(cps.map fun p=>(.one (.ptr p.1 p.2) .pt,0),vs)
 | [],cps,vs,h=>by cases h;rfl
 | .ptr b o::qs,cps,vs,h=>by
   simp only[ptrsP,Option.map_eq_some_iff]at h
   obtain⟨c,h1,rfl⟩:=h
   simp[initP,initP_ptrs h1]
 | .clo _ _::_,_,_,h=>by cases h
 | .fix _::_,_,_,h=>by cases h
 | .val _ _::_,_,_,h=>by cases h
theorem ptrsP_len:∀{qs:List PS} {cps:List (Nat×Nat)},ptrsP qs=some cps→cps.length=qs.length
 | [],cps,h=>by cases h;rfl
 | .ptr b o::qs,cps,h=>by
   simp only[ptrsP,Option.map_eq_some_iff]at h
   obtain⟨c,h1,rfl⟩:=h
   simp[ptrsP_len h1]
 | .clo _ _::_,_,h=>by cases h
 | .fix _::_,_,h=>by cases h
 | .val _ _::_,_,h=>by cases h
theorem CapB.get{bs:List (Nat×Nat)}:∀{cs:List (Nat×Nat)} {rs:List Value},CapB g bs cs rs→rs.length=cs.length∧∀(i:Nat) (p:Nat×Nat),cs[i]? =some p→∃b' β,rs[i]? =some (.pointer (some ⟨β,p.2,none⟩))∧bs.lookup p.1=some b'∧g.bb b'=some β
 | [],rs,h=>by subst h;exact⟨rfl,by simp⟩
 |p::cs,_,⟨b',β,rs',h1,h2,h3,h4⟩=>by
  subst h1
  obtain⟨k1,k2⟩:=CapB.get h4
  refine⟨by simp[k1],fun i q hq=> ?_⟩
  cases i with
  |zero=>simp only[List.getElem?_cons_zero,Option.some.injEq]at hq;subst hq;exact⟨b',β,rfl,h2,h3⟩
  |succ i=>obtain⟨b2,β2,z1,z2⟩:=k2 i q (by simpa using hq);exact⟨b2,β2,by simpa using z1,z2⟩
def Parted(S:St)(a:Act)(w:World)(g:Gh)(bs ls:List (Nat×Nat))(ps:List PS)(rv:List Value)(vs:List V)(fp:List Nat):Prop:=
 ∀rest:List V,rv.length=ps.length∧(initP ps (vs++rest)).2=rest∧(initP ps (vs++rest)).1.length=ps.length∧∃fpS:Nat→List Nat,(∀i,∀x∈fpS i,x∈fp)∧(∀i,(fpS i).Nodup)∧(∀i j x,x∈fpS i→x∈fpS j→i=j)∧(∀i,ps.length≤i→fpS i=[])∧
   ∀(i:Nat) (t:Sl×Nat),(initP ps (vs++rest)).1[i]? =some t→∃r,rv[i]? =some r∧
    ((∃b off b' β,t.1= .one (.ptr b off) .pt∧fpS i=[]∧bs.lookup b=some b'∧g.bb b'=some β∧r= .pointer (some ⟨β,off,none⟩))∨
     (∃v m,t.1= .one v m∧m.isPt=false∧(RW w.heap g.ro m v r (fpS i)∨(m= .ro∧fpS i=[]∧Lent S a w g ls v r)))∨
     (∃f cs rs,t.1= .one (.fn f (cs.map fun p=>.ptr p.1 p.2)) .pt∧fpS i=[]∧r= .func (.func f) #[] rs∧CapB g bs cs rs.toList))
theorem ParOK.parted{bs ls:List (Nat×Nat)}{ps qs:List PS}{xs:List Operand}{vs:List V}{fp:List Nat}{cps:List (Nat×Nat)}{rs:List Value}(h:ParOK S a w g bs ls ps xs vs fp)(hn:fp.Nodup)(hc:CapB g bs cps rs)(hq:ptrsP qs=some cps):
 Parted S a w g bs ls (ps++qs) (xs.map a.eval++rs) vs fp:=by
 intro rest
 obtain⟨k0,k1,k2,fpS,k3,k4,k5,k6,k7⟩:=ParOK.split rest h hn
 obtain⟨c1,c2⟩:=hc.get
 have hl:=ptrsP_len hq
 have hi:=initP_ptrs (vs:=rest) hq
 rw[initP_app,k1,hi]
 refine⟨by simp[k0,c1,hl],rfl,by simp[k2,hl],fpS,k3,k4,k5,fun i hi=>k6 i (by simp at hi;omega),fun i t ht=> ?_⟩
 simp only at ht
 by_cases hlt:i<ps.length
 ·rw[List.getElem?_append_left (by rw[k2];exact hlt)]at ht
  obtain⟨x,e1,e2⟩:=k7 i t ht
  exact⟨a.eval x,by rw[List.getElem?_append_left (by simp;omega)];simp[e1],e2⟩
 ·rw[List.getElem?_append_right (by rw[k2];omega),k2,List.getElem?_map]at ht
  cases hp:cps[i-ps.length]? with
  |none=>rw[hp]at ht;cases ht
  |some p=>
   rw[hp]at ht
   cases ht
   obtain⟨b',β,z1,z2,z3⟩:=c2 _ p hp
   refine⟨_,by rw[List.getElem?_append_right (by simp;omega)];simpa [←k0]using z1,.inl ⟨p.1,p.2,b',β,rfl,k6 i (by omega),z2,z3,rfl⟩⟩
structure Hand (fr:Fr) (esc:Bool) (sg:Sig) (S S1:St) (a:Act) (w:World) (g:Gh) (fp:List Nat) (bs ls:List (Nat×Nat)) (rv:List Value) (vp vb:List V) (nbs:List (Nat×Bx×List PS)):Prop where
 sim:Sim fr S1 a w g fp
 par:Parted S a w g bs ls sg.params rv vp fp
 box:BoxesOK esc S bs 0 sg.boxes vb nbs
 inv:BsInv bs
 rng:∀p∈bs,p.1<sg.boxes.length
 agree:∀l:Lo,l.spot∈ls→Agree S S1 l
 sameB:∀n b',bs.lookup n=some b'→S1.bx b'=S.bx b'
 notLent:∀n b',bs.lookup n=some b'→(1,b')∉ls
def roC(g:Gh)(ls bs:List (Nat×Nat))(sg:Sig)(fi:Nat→Nat→List Nat)(x:Nat):Prop:=
 g.ro x∨(∃l:Lo,l.spot∈ls∧x∈g.fp l)∨(∃n b' j ps kd,bs.lookup n=some b'∧sg.boxes[n]? =some ps∧ps[j]? =some (.fix kd)∧x∈g.fp (.b b' j))∨∃n j,x∈fi n j
variable {esc : Bool} {sg : Sig} {fp : List Nat} {bs ls : List (Nat × Nat)} {rv : List Value} {vp vb : List V} {nbs : List (Nat × Bx × List PS)}
theorem Hand.lt(h:Hand fr esc sg S S1 a w g fp bs ls rv vp vb nbs){n b':Nat}(hl:bs.lookup n=some b'):n<sg.boxes.length:=h.rng _ (lookup_mem hl)
theorem Hand.cell(h:Hand fr esc sg S S1 a w g fp bs ls rv vp vb nbs)(n j:Nat):∃fo fi:List Nat,
 (∀x,(x∈fo∨x∈fi)→∃b' ps m kd,bs.lookup n=some b'∧sg.boxes[n]? =some ps∧ps[j]? =some (.val m kd)∧x∈g.fp (.b b' j))∧fo.Nodup∧(∀x∈fi,x∉fo)∧
 ∀(ps:List PS) (m:M) (kd:Kd) (b' β:Nat) (cs:Bx) (c:Cell) (cc:Array Value) (ty:TypeId) (r:Value),sg.boxes[n]? =some ps→ps[j]? =some (.val m kd)→bs.lookup n=some b'→S.bx b'=some cs→cs[j]? =some c→c.m.gives m=true→g.bb b'=some β→w.heap[β]? =some (.cells cc ty (0,0))→cc[j]? =some r→
  ∀g':Gh,(∀x,g.ro x→g'.ro x)→(∀x∈fi,g'.ro x)→CV w.heap g' m c.v r fo:=by
 by_cases hc:∃ps m kd b' cs c,sg.boxes[n]? =some ps∧ps[j]? =some (.val m kd)∧bs.lookup n=some b'∧S.bx b'=some cs∧cs[j]? =some c∧c.m.gives m=true
 ·obtain⟨ps,m,kd,b',cs,c,h1,h2,h3,h4,h5,h6⟩:=hc
  obtain⟨β,cc,ty,q1,q2,q3,q4⟩:=h.sim.boxes b' cs ((h.sameB n b' h3).trans h4)
  obtain⟨r,z1,z2,_⟩:=q4 j c h5
  obtain⟨hn1,hn2⟩:=gives_npt h6
  have z3:c.v.isAgg=false∧RM w.heap g.ro c.m c.v [r] (g.fp (.b b' j)):=by
   revert z2 hn1
   cases c.m<;>intro z2 hn1<;>first|exact z2|simp[M.isPt]at hn1
  obtain⟨fo,fi,p1,p2⟩:=RM.lower h6 (h.sim.nd _) z3.2
  refine⟨fo,fi,fun x hx=>⟨b',ps,m,kd,h3,h1,h2,(p1.mem x).2 hx⟩,p1.nd,p1.dis,fun ps' m' kd' b2 β' cs' c' cc' ty' r' e1 e2 e3 e4 e5 e6 e7 e8 e9 g' k1 k2=> ?_⟩
  rw[h1]at e1;cases e1
  rw[h2]at e2;cases e2
  rw[h3]at e3;cases e3
  rw[h4]at e4;cases e4
  rw[h5]at e5;cases e5
  rw[q1]at e7;cases e7
  rw[q2]at e8;cases e8
  rw[z1]at e9;cases e9
  have:=p2 g'.ro k1 k2
  cases m with
  |pt=>simp[M.isPt]at hn2
  |_=>exact⟨z3.1,this⟩
 ·exact⟨[],[],by simp,by simp,by simp,fun ps m kd b' β cs c cc ty r e1 e2 e3 e4 e5 e6=>absurd ⟨ps,m,kd,b',cs,c,e1,e2,e3,e4,e5,e6⟩ hc⟩
theorem enter_ok(h:Hand fr esc sg S S1 a w g fp bs ls rv vp vb nbs){nt:Nat}(hnt:sg.params.length≤nt):
 ∃(fpS:Nat→List Nat) (fo fi:Nat→Nat→List Nat),
  (∀i,∀x∈fpS i,x∈fp)∧(∀n j x,(x∈fo n j∨x∈fi n j)→∃b' ps m kd,bs.lookup n=some b'∧sg.boxes[n]? =some ps∧ps[j]? =some (.val m kd)∧x∈g.fp (.b b' j))∧
  Start (initSt sg nt (vp++vb)) ⟨rv.toArray++Array.replicate (nt-rv.toArray.size) undef,[]⟩ w (roC g ls bs sg fi) (fun l=>match l with| .s t=>fpS t| .b n j=>fo n j) (fun n=>(bs.lookup n).bind g.bb) sg.boxes.length:=by
 have hs:=h.sim
 obtain⟨k0,k1,k2,fpS,k3,k4,k5,k6,k7⟩:=h.par vb
 have cell:=h.cell
 let fo:Nat→Nat→List Nat:=fun n j=>Classical.choose (cell n j)
 have cell2:=fun n j=>Classical.choose_spec (cell n j)
 let fi:Nat→Nat→List Nat:=fun n j=>Classical.choose (cell2 n j)
 have cell3:∀n j,(∀x,(x∈fo n j∨x∈fi n j)→_)∧(fo n j).Nodup∧(∀x∈fi n j,x∉fo n j)∧_:=fun n j=>Classical.choose_spec (cell2 n j)
 have est:initSt sg nt (vp++vb)=⟨(initP sg.params (vp++vb)).1++List.replicate (nt-(initP sg.params (vp++vb)).1.length) (.undef,0),initB sg.boxes vb++List.replicate nt none⟩:=by
  have e:initSt sg nt (vp++vb)=⟨(initP sg.params (vp++vb)).1++List.replicate (nt-(initP sg.params (vp++vb)).1.length) (.undef,0),initB sg.boxes (initP sg.params (vp++vb)).2++List.replicate nt none⟩:=rfl
  rw[e,k1]
 have hlen:(rv.toArray++Array.replicate (nt-rv.toArray.size) undef).size=nt:=by
  simp only[Array.size_append,List.size_toArray,List.length_map,Array.size_replicate];omega
 refine⟨fpS,fo,fi,k3,fun n j x hx=>(cell3 n j).1 x hx,?_⟩
 rw[est]
 let ro':=roC g ls bs sg fi
 let fpc:Lo→List Nat:=fun l=>match l with| .s t=>fpS t| .b n j=>fo n j
 let bbc:Nat→Option Nat:=fun n=>(bs.lookup n).bind g.bb
 have rosub:∀x,g.ro x→ro' x:=fun x hx=>.inl hx
 have valFar:∀n j x,(x∈fo n j∨x∈fi n j)→x∉fp∧g.ow x≠ .none∧¬g.ro x:=fun n j x hx=>by
  obtain⟨b',ps,m,kd,q1,q2,q3,q4⟩:=(cell3 n j).1 x hx
  exact⟨fp_pool hs x q4,ow_ne_loc (hs.own _ x q4),(hs.free x (ow_ne_loc (hs.own _ x q4))).1⟩
 have cellInj:∀n j n' j' x b b',bs.lookup n=some b→bs.lookup n'=some b'→x∈g.fp (.b b j)→x∈g.fp (.b b' j')→n=n'∧j=j':=fun n j n' j' x b b' q1 q2 q3 q4=>by
  have e:=hs.own _ x q3
  rw[hs.own _ x q4]at e
  injection e with e;injection e with e1 e2
  subst e1
  exact⟨h.inv _ _ _ q1 q2,e2.symm⟩
 have notro:∀l x,x∈fpc l→¬ro' x:=fun l x hx hr=>by
  have key:g.ow x≠ .none∧(g.ow x= .pool∨∃n j b' ps m kd,bs.lookup n=some b'∧sg.boxes[n]? =some ps∧ps[j]? =some (PS.val m kd)∧x∈g.fp (.b b' j)∧x∈fo n j):=by
   cases l with
   |s t=>exact⟨ow_ne_pool (hs.pl x (k3 t x hx)),.inl (hs.pl x (k3 t x hx))⟩
   |b n j=>
    obtain⟨b',ps,m,kd,q1,q2,q3,q4⟩:=(cell3 n j).1 x (.inl hx)
    exact⟨ow_ne_loc (hs.own _ x q4),.inr ⟨n,j,b',ps,m,kd,q1,q2,q3,q4,hx⟩⟩
  rcases hr with hr|⟨l',hl',hr⟩|⟨n',b2,j',ps',kd',q1',q2',q3',hr⟩|⟨n',j',hr⟩
  ·exact(hs.free x key.1).1 hr
  ·have e:=hs.own _ x hr
   rcases key.2 with e2|⟨n,j,b',ps,m,kd,q1,q2,q3,q4,_⟩
   ·rw[e2]at e;cases e
   ·rw[hs.own _ x q4]at e
    injection e with e
    subst e
    exact h.notLent n b' q1 hl'
  ·have e:=hs.own _ x hr
   rcases key.2 with e2|⟨n,j,b',ps,m,kd,q1,q2,q3,q4,_⟩
   ·rw[e2]at e;cases e
   ·obtain⟨e1,e2⟩:=cellInj _ _ _ _ x _ _ q1 q1' q4 hr
    subst e1;subst e2
    rw[q2]at q2';cases q2'
    rw[q3]at q3';cases q3'
  ·obtain⟨b2,ps',m',kd',q1',q2',q3',q4'⟩:=(cell3 n' j').1 x (.inr hr)
   rcases key.2 with e2|⟨n,j,b',ps,m,kd,q1,q2,q3,q4,q5⟩
   ·have e:=hs.own _ x q4';rw[e2]at e;cases e
   ·obtain⟨e1,e2⟩:=cellInj _ _ _ _ x _ _ q1 q1' q4 q4'
    subst e1;subst e2
    exact(cell3 n j).2.2.1 x hr q5
 constructor
 ·rfl
 ·show(rv.toArray++_).size=_
  rw[hlen]
  simp only[List.length_append,List.length_replicate,k2];omega
 ·intro t x hx
  simp only at hx
  by_cases ht:t<sg.params.length
  ·rw[List.getElem?_append_left (by rw[k2];exact ht)]at hx
   obtain⟨y,e1,e2⟩:=k7 t x hx
   refine⟨y,?_,.inr ?_⟩
   ·have hlt:t<rv.toArray.size:=by simp;omega
    show(rv.toArray++_)[t]? =_
    rw[Array.getElem?_append_left hlt]
    simp[e1]
   ·rcases e2 with⟨b,off,b',β,q1,q2,q3,q4,q5⟩|⟨v,m,q1,q2,q3⟩|⟨f0,cs0,rs0,q1,q2,q3,q4⟩
    ·refine⟨_,_,q1,q2,.inl ⟨b,off,β,rfl,?_,q5⟩⟩
     show(bs.lookup b).bind g.bb=some β
     rw[q3];exact q4
    ·refine⟨v,m,q1,RW.one (g:=⟨ro',fun _=>.none,fpc,bbc⟩) ?_⟩
     rcases q3 with q3|⟨q3,q4,q5⟩
     ·exact RW.mono rosub (fun _ _=>rfl) (fun _ _=>rfl) q3
     ·subst q3
      show RW w.heap ro' .ro v y (fpS t)
      rw[q4]
      exact lent_ok hs h.agree rosub (fun l hl x hx=>.inr (.inl ⟨l,hl,hx⟩)) q5
    ·exact⟨_,_,q1,q2,.inr ⟨f0,_,rs0,rfl,q3,q4.capR⟩⟩
  ·rw[List.getElem?_append_right (by rw[k2];omega),List.getElem?_replicate]at hx
   split at hx
   ·rename_i hlt
    cases hx
    refine⟨undef,?_,.inl ⟨rfl,k6 t (by omega)⟩⟩
    have hge:rv.toArray.size≤t:=by simp;omega
    show(rv.toArray++_)[t]? =_
    rw[Array.getElem?_append_right hge,Array.getElem?_replicate]
    rw[if_pos]
    simp only[List.size_toArray,List.length_map]
    rw[k2]at hlt
    omega
   ·cases hx
 ·intro n cs hb
  rw[bx_eq]at hb
  simp only at hb
  by_cases hn:n<sg.boxes.length
  ·rw[List.getElem?_append_left (by rw[initB_len];exact hn)]at hb
   have hps:sg.boxes[n]? =some sg.boxes[n]:=List.getElem?_eq_getElem hn
   obtain⟨b',cs0,vs1,nb,rest,q1,q2,q3,q4,q5⟩:=h.box.nth hps
   rw[Nat.zero_add]at q1
   rw[q5]at hb
   simp only[Option.getD_some,Option.some.injEq]at hb
   subst hb
   obtain⟨i1,i2,i3,i4,i5⟩:=q3.init rest
   obtain⟨β,cc,ty,p1,p2,p3,p4⟩:=hs.boxes b' cs0 ((h.sameB n b' q1).trans q2)
   refine⟨β,cc,ty,by show(bs.lookup n).bind g.bb=some β;rw[q1];exact p1,p2,by omega,fun j x hx=> ?_⟩
   have hj:j<(sg.boxes[n]).length:=by
    have:=(List.getElem?_eq_some_iff.1 hx).1;omega
   obtain⟨c,n1,x',z1,z2,z3,z4⟩:=i5 j _ (List.getElem?_eq_getElem hj)
   rw[hx]at z3;cases z3
   obtain⟨r,y1,y2,_⟩:=p4 j c z1
   refine⟨r,y1,?_⟩
   cases hp:(sg.boxes[n])[j]with
   |clo f0 cs0=>rw[hp]at z4;exact z4.elim
   |ptr b off=>
    rw[hp]at z4
    obtain⟨⟨b2,l1,l2⟩,_,rfl⟩:=z4
    rw[l2]at y2
    obtain⟨_,hf,β2,hβ2,er⟩:=ptr_pt y2.one
    have hfo:fo n j=[]:=by
     cases hfo:fo n j with
     |nil=>rfl
     |cons u _=>
      obtain⟨_,ps,m,kd,_,u2,u3,_⟩:=(cell3 n j).1 u (.inl (by rw[hfo];simp))
      rw[hps]at u2;cases u2
      rw[List.getElem?_eq_getElem hj,hp]at u3;cases u3
    refine⟨hfo,b,off,β2,rfl,?_,er⟩
    show(bs.lookup b).bind g.bb=some β2
    rw[l1];exact hβ2
   |fix kd=>
    rw[hp]at z4
    obtain⟨l1,_,rfl⟩:=z4
    have hfo:fo n j=[]:=by
     cases hfo:fo n j with
     |nil=>rfl
     |cons u _=>
      obtain⟨_,ps,m,kd,_,u2,u3,_⟩:=(cell3 n j).1 u (.inl (by rw[hfo];simp))
      rw[hps]at u2;cases u2
      rw[List.getElem?_eq_getElem hj,hp]at u3;cases u3
    have y3:c.v.isAgg=false∧RM w.heap g.ro c.m c.v [r] (g.fp (.b b' j)):=by
     revert y2 l1
     cases c.m<;>intro y2 l1<;>first|exact y2|simp[M.isPt]at l1
    show CV w.heap ⟨ro',fun _=>.none,fpc,bbc⟩ .ro c.v r (fo n j)
    rw[hfo]
    exact⟨y3.1,RM.toRO rosub (fun x hx=>.inr (.inr (.inl ⟨n,b',j,_,kd,q1,hps,by rw[List.getElem?_eq_getElem hj,hp],hx⟩))) y3.2⟩
   |val m kd=>
    rw[hp]at z4
    obtain⟨l1,_,_,rfl⟩:=z4
    exact(cell3 n j).2.2.2 _ m kd b' β cs0 c cc ty r hps (by rw[List.getElem?_eq_getElem hj,hp]) q1 q2 z1 l1 p1 p2 y1 ⟨ro',fun _=>.none,fpc,bbc⟩ rosub (fun x hx=>.inr (.inr (.inr ⟨n,j,hx⟩)))
  ·rw[List.getElem?_append_right (by rw[initB_len];omega),List.getElem?_replicate]at hb
   split at hb<;>simp at hb
 ·intro n hb
  rw[bx_eq]at hb
  simp only at hb
  by_cases hn:n<sg.boxes.length
  ·rw[List.getElem?_append_left (by rw[initB_len];exact hn)]at hb
   have hps:sg.boxes[n]? =some sg.boxes[n]:=List.getElem?_eq_getElem hn
   obtain⟨b',cs0,vs1,nb,rest,q1,q2,q3,q4,q5⟩:=h.box.nth hps
   rw[q5]at hb
   simp at hb
  ·show(bs.lookup n).bind g.bb=none
   cases hl:bs.lookup n with
   |none=>rfl
   |some b'=>exact absurd (h.lt hl) hn
 ·intro l
  cases l with
  |s t=>exact k4 t
  |b n j=>exact(cell3 n j).2.1
 ·intro l l' x hx hx'
  cases l with
  |s t=>cases l' with
   |s t'=>rw[k5 t t' x hx hx']
   |b n j=>exact absurd (k3 t x hx) (valFar n j x (.inl hx')).1
  |b n j=>cases l' with
   |s t'=>exact absurd (k3 t' x hx') (valFar n j x (.inl hx)).1
   |b n' j'=>
    obtain⟨b1,_,_,_,q1,_,_,q4⟩:=(cell3 n j).1 x (.inl hx)
    obtain⟨b2,_,_,_,q1',_,_,q4'⟩:=(cell3 n' j').1 x (.inl hx')
    obtain⟨e1,e2⟩:=cellInj _ _ _ _ x _ _ q1 q1' q4 q4'
    rw[e1,e2]
 ·intro n l x hb hx
  have hb:(bs.lookup n).bind g.bb=some x:=hb
  cases hl:bs.lookup n with
  |none=>rw[hl]at hb;cases hb
  |some b'=>
   rw[hl]at hb
   have e:=hs.ownB b' x hb
   cases l with
   |s t=>rw[hs.pl x (k3 t x hx)]at e;cases e
   |b n' j'=>
    obtain⟨b1,_,_,_,q1,_,_,q4⟩:=(cell3 n' j').1 x (.inl hx)
    rw[hs.own _ x q4]at e;cases e
 ·intro n n' x hb hb'
  have hb:(bs.lookup n).bind g.bb=some x:=hb
  have hb':(bs.lookup n').bind g.bb=some x:=hb'
  cases hl:bs.lookup n with
  |none=>rw[hl]at hb;cases hb
  |some b1=>
  cases hl':bs.lookup n' with
  |none=>rw[hl']at hb';cases hb'
  |some b2=>
   rw[hl]at hb;rw[hl']at hb'
   have e:=hs.ownB b1 x hb
   rw[hs.ownB b2 x hb']at e
   injection e with e
   subst e
   exact h.inv _ _ _ hl hl'
 ·intro l x hx
  refine⟨notro l x hx,?_⟩
  cases l with
  |s t=>exact hs.plLt (k3 t x hx)
  |b n j=>
   obtain⟨b1,_,_,_,q1,_,_,q4⟩:=(cell3 n j).1 x (.inl hx)
   exact hs.fpLt q4
 ·intro n x hb
  have hb:(bs.lookup n).bind g.bb=some x:=hb
  cases hl:bs.lookup n with
  |none=>rw[hl]at hb;cases hb
  |some b'=>
   rw[hl]at hb
   have e:=hs.ownB b' x hb
   refine⟨fun hr=> ?_,hs.boxLt hb⟩
   rcases hr with hr|⟨l',hl',hr⟩|⟨n',b2,j',ps',kd',q1',q2',q3',hr⟩|⟨n',j',hr⟩
   ·exact(hs.free x (ow_ne_box e)).1 hr
   ·rw[hs.own _ x hr]at e;cases e
   ·rw[hs.own _ x hr]at e;cases e
   ·obtain⟨b1,_,_,_,q1,_,_,q4⟩:=(cell3 n' j').1 x (.inr hr)
    rw[hs.own _ x q4]at e;cases e
 ·intro x hr
  rcases hr with hr|⟨l',hl',hr⟩|⟨n',b2,j',ps',kd',q1',q2',q3',hr⟩|⟨n',j',hr⟩
  ·exact hs.rolt x hr
  ·exact hs.fpLt hr
  ·exact hs.fpLt hr
  ·obtain⟨b1,_,_,_,q1,_,_,q4⟩:=(cell3 n' j').1 x (.inr hr)
   exact hs.fpLt q4
 ·simp only[List.length_append,List.length_replicate,initB_len,k2];omega
end
open Classical
section any
variable {h : Hp} {ro ro' : Nat → Prop}
mutual
theorem OEl.any:∀{v:V} {rs fp},OEl h ro true v rs fp→OEl h ro' true v rs fp
 | .bool _,_,_,x=>x
 | .int _ _,_,_,x=>x
 | .str _,_,_,x=>x
 | .sl z es,rs,fp,x=>by
   obtain⟨a,len,cap,e,hl,hc,x⟩:=x
   refine⟨a,len,cap,e,hl,hc,?_⟩
   cases a with
   |none=>exact x
   |some ad=>
    obtain⟨hs,c,ty,hb,ho,fp',hf,y⟩:=x
    simp only[if_true]at y
    exact⟨hs,c,ty,hb,ho,fp',hf,by simp only[if_true];exact OEs.any y⟩
 | .agg cs,_,_,x=>OCs.any (vs:=cs) x
 | .nilp,_,_,x=>x
 | .ptr _ _,_,_,x=>x
 | .fn _ _,_,_,x=>x
 | .mp _,_,_,x=>x
 | .undef,_,_,x=>x
theorem OCs.any:∀{vs:List V} {rs fp},OCs h ro true vs rs fp→OCs h ro' true vs rs fp
 | [],_,_,x=>x
 |v::vs,_,_,⟨r,q,f,g,e,e',ha,x,y⟩=>⟨r,q,f,g,e,e',ha,OEl.any x,OCs.any y⟩
theorem OEs.any:∀{es:List V} {c off z fp},OEs h ro true es c off z fp→OEs h ro' true es c off z fp
 | [],_,_,_,_,x=>x
 |e::es,_,_,_,_,⟨f,g,e',l,x,y⟩=>⟨f,g,e',l,OEl.any x,OEs.any y⟩
end
theorem RM.any{m:M}{v:V}{rs fp}(hm:m.solid=true)(x:RM h ro m v rs fp):RM h ro' m v rs fp:=by
 cases m with
 |pr=>exact x
 |own d=>cases d with
  |true=>exact OEl.any x
  |false=>simp[M.solid]at hm
 |_=>simp[M.solid]at hm
theorem RW.any{m:M}{v:V}{r fp}(hm:m.solid=true)(x:RW h ro m v r fp):RW h ro' m v r fp:=by
 cases v with
 |agg cs=>obtain⟨rs,e,y⟩:=x;exact⟨rs,e,y.any hm⟩
 |_=>exact RM.any hm x
theorem TsR.any{g g':Gh}:∀{cs:List (V×M)} {rs fp},(∀c∈cs,c.2.solid=true)→TsR h g cs rs fp→TsR h g' cs rs fp
 | [],_,_,_,x=>x
 |(v,m)::q,_,_,hm,⟨r,rs',f,f',e,e',x,y⟩=>by
  have h1:=hm (v,m) (List.mem_cons_self ..)
  refine⟨r,rs',f,f',e,e',?_,TsR.any (fun c hc=>hm c (List.mem_cons_of_mem _ hc)) y⟩
  cases m with
  |pt=>simp[M.solid]at h1
  |pr=>exact RW.any (m:=.pr) h1 x
  |ro=>simp[M.solid]at h1
  |own d=>exact RW.any (m:=.own d) h1 x
theorem ResR.any{l:List (V×M)}{r:Value}{fp}(hm:∀c∈l,c.2.solid=true)(x:ResR h ro l r fp):ResR h ro' l r fp:=by
 match l,x,hm with
 | [(v,m)],⟨h1,x⟩,hm=>exact⟨h1,RW.any (hm (v,m) (by simp)) x⟩
 | [],⟨rs,e,x⟩,hm=>exact⟨rs,e,fun g hg=>TsR.any hm (x ⟨ro,fun _=>.none,fun _=>[],fun _=>none⟩ rfl)⟩
 |p::q::l,⟨rs,e,x⟩,hm=>exact⟨rs,e,fun g hg=>TsR.any hm (x ⟨ro,fun _=>.none,fun _=>[],fun _=>none⟩ rfl)⟩
end any
section
variable {P : Program} {C : FuncId → List V → List V → Prop} {E : Env} {fr : Fr} {S S1 : St} {a : Act} {w w' : World} {g : Gh} {pool : List Nat}
theorem fillB_ok:∀{ps:List PS} {cs nb:Bx} {x:List V} (r:List V),outC ps cs=some x→nb.length=ps.length→
 (fillB ps nb (x++r)).2=r∧(fillB ps nb (x++r)).1.length=ps.length∧
 ∀(j:Nat) (p:PS),ps[j]? =some p→∃c n y,cs[j]? =some c∧nb[j]? =some n∧(fillB ps nb (x++r)).1[j]? =some y∧(match p with| .val _ _=>y={n with v:=c.v}|_=>y=n)
 | [],[],[],x,r,h,_=>by
   simp only[outC,Option.some.injEq]at h
   subst h
   exact⟨rfl,rfl,by simp⟩
 |p0::ps,c::cs,n::nb,x,r,h,hl=>by
  have hl':nb.length=ps.length:=by simpa using hl
  cases p0 with
  |val m kd=>
   simp only[outC]at h
   cases hg:c.m.gives m with
   |false=>rw[hg]at h;cases h
   |true=>
   rw[hg]at h
   simp only[cond_true,Option.map_eq_some_iff]at h
   obtain⟨y,h1,rfl⟩:=h
   obtain⟨k1,k2,k3⟩:=fillB_ok r h1 hl'
   refine⟨by simpa [fillB]using k1,by simp[fillB,k2],fun j p hj=> ?_⟩
   cases j with
   |zero=>
    simp only[List.getElem?_cons_zero,Option.some.injEq]at hj
    subst hj
    exact⟨c,n,_,rfl,rfl,by simp[fillB],rfl⟩
   |succ j=>
    obtain⟨c1,n1,y1,q1,q2,q3,q4⟩:=k3 j p (by simpa using hj)
    exact⟨c1,n1,y1,by simpa using q1,by simpa using q2,by simpa [fillB]using q3,q4⟩
  |clo f0 cs0=>
   simp only[outC]at h
   cases hg:c.fix with
   |false=>rw[hg]at h;cases h
   |true=>
   rw[hg]at h
   obtain⟨k1,k2,k3⟩:=fillB_ok r (show outC ps cs=some x from h) hl'
   refine⟨by simpa [fillB]using k1,by simp[fillB,k2],fun j p hj=> ?_⟩
   cases j with
   |zero=>
    simp only[List.getElem?_cons_zero,Option.some.injEq]at hj
    subst hj
    exact⟨c,n,_,rfl,rfl,by simp[fillB],rfl⟩
   |succ j=>
    obtain⟨c1,n1,y1,q1,q2,q3,q4⟩:=k3 j p (by simpa using hj)
    exact⟨c1,n1,y1,by simpa using q1,by simpa using q2,by simpa [fillB]using q3,q4⟩
  |ptr b o=>
   simp only[outC]at h
   cases hg:c.fix with
   |false=>rw[hg]at h;cases h
   |true=>
   rw[hg]at h
   obtain⟨k1,k2,k3⟩:=fillB_ok r (show outC ps cs=some x from h) hl'
   refine⟨by simpa [fillB]using k1,by simp[fillB,k2],fun j p hj=> ?_⟩
   cases j with
   |zero=>
    simp only[List.getElem?_cons_zero,Option.some.injEq]at hj
    subst hj
    exact⟨c,n,_,rfl,rfl,by simp[fillB],rfl⟩
   |succ j=>
    obtain⟨c1,n1,y1,q1,q2,q3,q4⟩:=k3 j p (by simpa using hj)
    exact⟨c1,n1,y1,by simpa using q1,by simpa using q2,by simpa [fillB]using q3,q4⟩
  |fix kd=>
   simp only[outC]at h
   cases hg:c.fix with
   |false=>rw[hg]at h;cases h
   |true=>
   rw[hg]at h
   obtain⟨k1,k2,k3⟩:=fillB_ok r (show outC ps cs=some x from h) hl'
   refine⟨by simpa [fillB]using k1,by simp[fillB,k2],fun j p hj=> ?_⟩
   cases j with
   |zero=>
    simp only[List.getElem?_cons_zero,Option.some.injEq]at hj
    subst hj
    exact⟨c,n,_,rfl,rfl,by simp[fillB],rfl⟩
   |succ j=>
    obtain⟨c1,n1,y1,q1,q2,q3,q4⟩:=k3 j p (by simpa using hj)
    exact⟨c1,n1,y1,by simpa using q1,by simpa using q2,by simpa [fillB]using q3,q4⟩
 | [],_::_,nb,x,r,h,_=>by simp[outC]at h
 |p0::ps,[],nb,x,r,h,_=>by cases p0<;>simp[outC]at h
 | [],[],_::_,x,r,h,hl=>by simp at hl
 |p0::ps,c::cs,[],x,r,h,hl=>by simp at hl
def FillAt(esc:Bool)(p:PS)(c x z:Cell):Prop:=
 match p with
 | .clo _ _=>False
 | .ptr b off=>z=c∧∃b',c.v= .ptr b' off
 | .fix _=>z=(bif esc then frz c else c)∧c.m.isPt=false
 | .val m _=>z=⟨x.v,m,c.ver+1,c.fix⟩∧c.fix=false∧c.m.gives m=true
theorem fill_ok{esc:Bool}{bs:List (Nat×Nat)}(hi:BsInv bs):∀{pss:List (List PS)} {n0:Nat} {vs:List V} {nbs:List (Nat×Bx×List PS)} {Bs:List (Option Bx)} {ob:List V} {S1:St},
 BoxesOK esc S bs n0 pss vs nbs→outB pss Bs=some ob→(∀n b',bs.lookup n=some b'→b'<S1.boxes.length)→
 (Wr.apps (fillBs nbs ob) S1).tmps=S1.tmps∧(Wr.apps (fillBs nbs ob) S1).boxes.length=S1.boxes.length∧(∀b,(∀n,n0≤n→n<n0+pss.length→bs.lookup n≠some b)→(Wr.apps (fillBs nbs ob) S1).bx b=S1.bx b)∧
 ∀(n:Nat) (ps:List PS),pss[n]? =some ps→∃b' cs csx y,bs.lookup (n0+n)=some b'∧S.bx b'=some cs∧cs.length=ps.length∧Bs[n]? =some (some csx)∧(Wr.apps (fillBs nbs ob) S1).bx b'=some y∧y.length=ps.length∧
  ∀(j:Nat) (p:PS),ps[j]? =some p→∃c x z,cs[j]? =some c∧csx[j]? =some x∧y[j]? =some z∧FillAt esc p c x z
 | [],n0,vs,nbs,Bs,ob,S1,h,ho,hl=>by
   rw[h.2]
   refine⟨rfl,rfl,fun _ _=>rfl,by simp⟩
 |ps0::r,n0,vs,nbs,Bs,ob,S1,⟨b',cs,vs1,vs2,nb,nbs',h1,h2,h3,h4,h5,h6⟩,ho,hl=>by
  subst h5
  cases Bs with
  |nil=>simp[outB]at ho
  |cons B0 Bs=>
  cases B0 with
  |none=>simp[outB]at ho
  |some B0=>
  simp only[outB]at ho
  cases e1:outC ps0 B0 with
  |none=>rw[e1]at ho;cases ho
  |some x0=>
  cases e2:outB r Bs with
  |none=>rw[e1,e2]at ho;cases ho
  |some y0=>
  rw[e1,e2]at ho
  cases ho
  obtain⟨i1,i2,i3,i4,i5⟩:=h3.init []
  obtain⟨f1,f2,f3⟩:=fillB_ok y0 e1 i4
  have hb:b'<S1.boxes.length:=hl n0 b' h1
  have hfill:fillBs ((b',nb,ps0)::nbs') (x0++y0)= .box b' (some (fillB ps0 nb (x0++y0)).1)::fillBs nbs' y0:=by
   have:fillBs ((b',nb,ps0)::nbs') (x0++y0)= .box b' (some (fillB ps0 nb (x0++y0)).1)::fillBs nbs' (fillB ps0 nb (x0++y0)).2:=rfl
   rw[this,f1]
  rw[hfill]
  have happ:Wr.apps (.box b' (some (fillB ps0 nb (x0++y0)).1)::fillBs nbs' y0) S1=Wr.apps (fillBs nbs' y0) (S1.setB b' (some (fillB ps0 nb (x0++y0)).1)):=rfl
  rw[happ]
  obtain⟨k1,k2,k3,k4⟩:=fill_ok hi (S1:=S1.setB b' (some (fillB ps0 nb (x0++y0)).1)) h6 e2 (fun n b2 hn=>by simpa [St.setB]using hl n b2 hn)
  refine⟨k1,by rw[k2];simp[St.setB],fun b hbn=> ?_,fun n ps hn=> ?_⟩
  ·rw[k3 b (fun n q1 q2=>hbn n (by omega) (by simp only[List.length_cons];omega)),setB_get hb]
   have:b≠b':=fun e=>hbn n0 (Nat.le_refl _) (by simp) (by rw[h1,e])
   rw[if_neg this]
  ·cases n with
   |zero=>
    simp only[List.getElem?_cons_zero,Option.some.injEq]at hn
    subst hn
    refine⟨b',cs,B0,(fillB ps0 nb (x0++y0)).1,h1,h2,i3,rfl,?_,f2,fun j p hj=> ?_⟩
    ·rw[k3 b' (fun n q1 q2 hc=>by have:=hi _ _ _ hc h1;omega),setB_get hb,if_pos rfl]
    ·obtain⟨c,n1,xx,q1,q2,q3,q4⟩:=i5 j p hj
     obtain⟨c2,n2,y2,z1,z2,z3,z4⟩:=f3 j p hj
     rw[q2]at z2;cases z2
     refine⟨c,c2,y2,q1,z1,z3,?_⟩
     cases p with
     |clo f0 cs0=>exact q4.elim
     |ptr b off=>
      obtain⟨⟨b2,_,l2⟩,l3,_⟩:=q4
      exact⟨by rw[show y2=n1 from z4,l3],b2,l2⟩
     |fix kd=>
      obtain⟨l1,l2,_⟩:=q4
      exact⟨by rw[show y2=n1 from z4,l2],l1⟩
     |val m kd=>
      obtain⟨l1,l2,l3,_⟩:=q4
      exact⟨by rw[show y2={n1 with v:=c2.v}from z4,l3],l2,l1⟩
   |succ n=>
    obtain⟨b2,cs2,csx,y,q1,q2,q3,q4,q5,q6,q7⟩:=k4 n ps (by simpa using hn)
    exact⟨b2,cs2,csx,y,by rw[show n0+(n+1)=n0+1+n by omega];exact q1,q2,q3,by simpa using q4,q5,q6,q7⟩
end
open Classical
section
variable {P : Program} {C : FuncId → List V → List V → Prop} {E : Env} {fr : Fr} {S S1 : St} {a : Act} {w w' : World} {g : Gh} {pool : List Nat}
variable {esc : Bool} {sg : Sig} {fp : List Nat} {bs ls : List (Nat × Nat)} {rv0 : List Value} {vp vb : List V} {nbs : List (Nat × Bx × List PS)}
theorem CV.rm{h:Hp}{m:M}{v:V}{r fp}(hm:m.isPt=false)(x:CV h g m v r fp):v.isAgg=false∧RM h g.ro m v [r] fp:=by
 cases m<;>first|exact x|simp[M.isPt]at hm
theorem RM.cv{h:Hp}{m:M}{v:V}{r fp}(hm:m.isPt=false)(x:v.isAgg=false∧RM h g.ro m v [r] fp):CV h g m v r fp:=by
 cases m<;>first|exact x|simp[M.isPt]at hm
def TabH(h:Hp)(b:Nat)(vs:List Value):Prop:=∃c ty fz,h[b]? =some (.cells c ty fz)∧∀(j:Nat) v,vs[j]? =some v→c[j]? =some v
def FrT(T:Option (Nat×List Value))(fr:Fr):Prop:=∀b o,T=some (b,o)→TabH fr.w0.heap b o∧¬fr.wr b
theorem FrT.call{T:Option (Nat×List Value)}{frc:Fr}{pool:List Nat}(h:FrT T fr)(hs:Sim fr S a w g pool)(h0:frc.w0=w)(hw:∀x,frc.wr x→g.ow x≠ .none):FrT T frc:=fun b o e=>by
 obtain⟨⟨c,ty,fz,h1,h3⟩,h2⟩:=h b o e
 have hlt:b<fr.w0.heap.size:=(Array.getElem?_eq_some_iff.1 h1).1
 refine⟨⟨c,ty,fz,by rw[h0,hs.frame b hlt h2];exact h1,h3⟩,fun k=> ?_⟩
 rcases(hs.free b (hw b k)).2.2 with q|q
 ·omega
 ·exact h2 q
theorem call_wr(h:Hand fr esc sg S S1 a w g fp bs ls rv0 vp vb nbs)
 {fpS:Nat→List Nat} {fo fi:Nat→Nat→List Nat} (hS:∀i,∀x∈fpS i,x∈fp) (hof:∀n j x,(x∈fo n j∨x∈fi n j)→∃b' ps m kd,bs.lookup n=some b'∧sg.boxes[n]? =some ps∧ps[j]? =some (.val m kd)∧x∈g.fp (.b b' j))
 {frc:Fr} (hwr:∀x,frc.wr x↔(∃l,x∈(fun l:Lo=>match l with| .s t=>fpS t| .b n j=>fo n j) l)∨∃n,(fun n=>(bs.lookup n).bind g.bb) n=some x):∀x,frc.wr x→g.ow x≠ .none:=fun x hx=>by
 rcases(hwr x).1 hx with⟨l,hx⟩|⟨n,hx⟩
 ·cases l with
  |s t=>rw[h.sim.pl x (hS t x hx)];exact fun e=>by cases e
  |b n j=>
   obtain⟨b',ps,m,kd,q1,q2,q3,q4⟩:=hof n j x (.inl hx)
   exact ow_ne_loc (h.sim.own _ _ q4)
 ·have hx:(bs.lookup n).bind g.bb=some x:=hx
  cases hn:bs.lookup n with
  |none=>rw[hn]at hx;cases hx
  |some b=>rw[hn]at hx;exact ow_ne_box (h.sim.ownB b x hx)
theorem call_done(h:Hand fr esc sg S S1 a w g fp bs ls rv0 vp vb nbs)(hesc:esc=true→ls=[])(hsol:esc=false→(∀m∈sg.outs,m.1.solid=true)∧∀ps∈sg.boxes,∀p∈ps,∀m kd,p= .val m kd→m.solid=true)
 {fpS:Nat→List Nat} {fo fi:Nat→Nat→List Nat} (hS:∀i,∀x∈fpS i,x∈fp) (hof:∀n j x,(x∈fo n j∨x∈fi n j)→∃b' ps m kd,bs.lookup n=some b'∧sg.boxes[n]? =some ps∧ps[j]? =some (.val m kd)∧x∈g.fp (.b b' j))
 {nt:Nat} {ac:Act} (hst:Start (initSt sg nt (vp++vb)) ac w (roC g ls bs sg fi) (fun l=>match l with| .s t=>fpS t| .b n j=>fo n j) (fun n=>(bs.lookup n).bind g.bb) sg.boxes.length)
 {frc:Fr} (h0:frc.w0=w) (hwr:∀x,frc.wr x↔(∃l,x∈(fun l:Lo=>match l with| .s t=>fpS t| .b n j=>fo n j) l)∨∃n,(fun n=>(bs.lookup n).bind g.bb) n=some x) (hro0:frc.ro0=roC g ls bs sg fi) (hbb0:frc.bb0=fun n=>(bs.lookup n).bind g.bb)
 (hfx:∀b β,(bs.lookup b).bind g.bb=some β→∀j,frc.fixv b j=(cellsAt w.heap β)[j]?)
 {S':St} {a':Act} {gc:Gh} (hc:Sim frc S' a' w' gc []) {fn:Func} {ov ob:List V} {rv:Value} {rfo rfi:List Nat} {fob fib:Nat→Nat→List Nat} (hl:Left P fn sg frc S' a' w' gc ov ob rv rfo rfi fob fib):
 ∃g2,Sim fr (Wr.apps (fillBs nbs ob) S1) a w' g2 rfo∧ResR w'.heap g2.ro (outsOf sg.outs ov) rv rfo:=by
 have hs:=h.sim
 let H:Nat→Prop:=fun b=>∃n,bs.lookup n=some b
 have boxOf:∀n b',bs.lookup n=some b'→∃ps,sg.boxes[n]? =some ps:=fun n b' hn=>⟨_,List.getElem?_eq_getElem (h.lt hn)⟩
 have okB:∀n b',bs.lookup n=some b'→∃ps cs,sg.boxes[n]? =some ps∧S1.bx b'=some cs∧S.bx b'=some cs:=fun n b' hn=>by
  obtain⟨ps,hps⟩:=boxOf n b' hn
  obtain⟨b2,cs,_,_,_,q1,q2,_⟩:=h.box.nth hps
  rw[Nat.zero_add,hn]at q1;cases q1
  exact⟨ps,cs,hps,(h.sameB n b' hn).trans q2,q2⟩
 obtain⟨t1,t2,t3,t4⟩:=fill_ok (S1:=S1) h.inv h.box hl.out (fun n b' hn=>by
  obtain⟨_,cs,_,q,_⟩:=okB n b' hn
  exact hs.boxIx q)
 have grow:w.heap.size≤w'.heap.size:=by have:=hc.grow;rw[h0]at this;exact this
 have wrGiv:∀x,frc.wr x→Giv g fp H x∨∃n b,bs.lookup n=some b∧g.bb b=some x:=fun x hx=>by
  rcases(hwr x).1 hx with⟨l,hx⟩|⟨n,hx⟩
  ·cases l with
   |s t=>exact .inl (.inl (hS t x hx))
   |b n j=>
    obtain⟨b',ps,m,kd,q1,q2,q3,q4⟩:=hof n j x (.inl hx)
    exact .inl (.inr ⟨b',j,⟨n,q1⟩,q4⟩)
  ·have hx:(bs.lookup n).bind g.bb=some x:=hx
   cases hn:bs.lookup n with
   |none=>rw[hn]at hx;cases hx
   |some b=>rw[hn]at hx;exact .inr ⟨n,b,hn,hx⟩
 have bbc:∀n b β,bs.lookup n=some b→g.bb b=some β→gc.bb n=some β:=fun n b β hn hb=>hc.bb0 n β (by rw[hbb0];show(bs.lookup n).bind g.bb=_;rw[hn];exact hb)
 have ownGiv:∀x l,gc.ow x= .loc l→Giv g fp H x∨w.heap.size≤x:=fun x l hx=>by
  rcases(hc.free x (ow_ne_loc hx)).2.2 with k|k
  ·rw[h0]at k;exact .inr k
  ·rcases wrGiv x k with k|⟨n,b,hn,hb⟩
   ·exact .inl k
   ·have e:=hc.ownB n x (bbc n b x hn hb)
    rw[hx]at e;cases e
 have roSub:∀x,roC g ls bs sg fi x→gc.ro x:=fun x hx=>hc.ro0 x (by rw[hro0];exact hx)
 have roHeap:∀x,roC g ls bs sg fi x→w'.heap[x]? =w.heap[x]? :=fun x hx=>by
  have:=hc.frame x (by rw[h0];exact hst.rolt x hx) (fun hw=>by
   rcases(hwr x).1 hw with⟨l,hl⟩|⟨n,hn⟩
   ·exact(hst.fr1 l x hl).1 hx
   ·exact(hst.fr2 n x hn).1 hx)
  rw[this,h0]
 have roGiv:esc=true→∀x,gc.ro x→g.ro x∨Giv g fp H x∨(w.heap.size≤x∧x<w'.heap.size):=fun he x hx=>by
  rcases hc.ro1 x hx with k|k|k
  ·rw[hro0]at k
   rcases k with k|⟨l,k1,_⟩|⟨n,b',j,ps,kd,q1,_,_,k⟩|⟨n,j,k⟩
   ·exact .inl k
   ·rw[hesc he]at k1;cases k1
   ·exact .inr (.inl (.inr ⟨b',j,⟨n,q1⟩,k⟩))
   ·obtain⟨b',ps,m,kd,q1,q2,q3,q4⟩:=hof n j x (.inr k)
    exact .inr (.inl (.inr ⟨b',j,⟨n,q1⟩,q4⟩))
  ·rcases wrGiv x k with k|⟨n,b,hn,hb⟩
   ·exact .inr (.inl k)
   ·exact absurd hx (hc.free x (ow_ne_box (hc.ownB n x (bbc n b x hn hb)))).1
  ·rw[h0]at k;exact .inr (.inr ⟨k,hc.rolt x hx⟩)
 let ro2:Nat→Prop:=fun x=>if esc=true then gc.ro x∨x∈rfi∨∃n j,n<sg.boxes.length∧x∈fib n j else g.ro x∨∃n j,x∈fi n j
 have ro2t:esc=true→∀x,ro2 x↔(gc.ro x∨x∈rfi∨∃n j,n<sg.boxes.length∧x∈fib n j):=fun he x=>by simp only[ro2,he,if_true]
 have ro2f:esc=false→∀x,ro2 x↔(g.ro x∨∃n j,x∈fi n j):=fun he x=>by simp only[ro2,he,Bool.false_eq_true,if_false]
 have ro2c:esc=false→∀x,ro2 x→gc.ro x:=fun he x hx=>by
  rcases(ro2f he x).1 hx with k|k
  ·exact roSub x (.inl k)
  ·exact roSub x (.inr (.inr (.inr k)))
 have fibLoc:∀n j x,x∈fib n j→gc.ow x= .loc (.b n j):=fun n j x hx=>hc.own _ x (((hl.part n j).mem x).2 (.inr hx))
 have fobLoc:∀n j x,x∈fob n j→gc.ow x= .loc (.b n j):=fun n j x hx=>hc.own _ x (((hl.part n j).mem x).2 (.inl hx))
 have resLoc:∀x,(x∈rfo∨x∈rfi)→∃l,gc.ow x= .loc l∨True:=fun x hx=>⟨.s 0,.inr trivial⟩
 have resGiv:∀x,(x∈rfo∨x∈rfi)→(Giv g fp H x∨w.heap.size≤x)∧x<w'.heap.size∧¬gc.ro x:=fun x hx=>by
  obtain⟨k1,k2⟩:=hl.far x hx
  obtain⟨k3,k4,k5⟩:=hc.free x k2
  refine⟨?_,k4,k3⟩
  rcases k5 with k|k
  ·rw[h0]at k;exact .inr k
  ·rcases wrGiv x k with k|⟨n,b,hn,hb⟩
   ·exact .inl k
   ·exfalso
    exact hl.notBox x hx n (bbc n b x hn hb)
 have hro:∀x,g.ro x→ro2 x:=fun x hx=>by
  cases he:esc with
  |true=>exact(ro2t he x).2 (.inl (roSub x (.inl hx)))
  |false=>exact(ro2f he x).2 (.inl hx)
 have notro:∀x n j,n<sg.boxes.length→x∈fob n j→¬ro2 x:=fun x n j hn hx hr=>by
  have hown:=fobLoc n j x hx
  have hnr:=(hc.free x (ow_ne_loc hown)).1
  cases he:esc with
  |false=>exact hnr (ro2c he x hr)
  |true=>
   rcases(ro2t he x).1 hr with k|k|⟨n',j',k1,k2⟩
   ·exact hnr k
   ·exact(hl.far x (.inr k)).1 n j hn (((hl.part n j).mem x).2 (.inl hx))
   ·have e:=fibLoc n' j' x k2
    rw[hown]at e
    injection e with e;injection e with e1 e2
    subst e1;subst e2
    exact(hl.part n j).dis x k2 hx
 have notroR:∀x,x∈rfo→¬ro2 x:=fun x hx hr=>by
  have hnr:=(resGiv x (.inl hx)).2.2
  cases he:esc with
  |false=>exact hnr (ro2c he x hr)
  |true=>
   rcases(ro2t he x).1 hr with k|k|⟨n',j',k1,k2⟩
   ·exact hnr k
   ·exact hl.dis x k hx
   ·exact(hl.far x (.inl hx)).1 n' j' k1 (((hl.part n' j').mem x).2 (.inr k2))
 let fpN:Nat→Nat→Nat→List Nat:=fun n b j=>match (sg.boxes.getD n [])[j]? with
  |some (.val _ _)=>fob n j
  |some (.fix _)=>if esc=true then[]else g.fp (.b b j)
  |_=>[]
 let fpn:Nat→Nat→List Nat:=fun b j=>if hb:∃n,bs.lookup n=some b then fpN (Classical.choose hb) b j else[]
 have fpn_eq:∀n b j,bs.lookup n=some b→fpn b j=fpN n b j:=fun n b j hn=>by
  have hb:∃n,bs.lookup n=some b:=⟨n,hn⟩
  have e:Classical.choose hb=n:=h.inv _ _ _ (Classical.choose_spec hb) hn
  simp only[fpn,hb,dif_pos,e]
 have fpn_cases:∀n b j x,bs.lookup n=some b→x∈fpn b j→(∃ps m kd,sg.boxes[n]? =some ps∧ps[j]? =some (.val m kd)∧x∈fob n j)∨(esc=false∧∃ps kd,sg.boxes[n]? =some ps∧ps[j]? =some (.fix kd)∧x∈g.fp (.b b j)):=fun n b j x hn hx=>by
  rw[fpn_eq n b j hn]at hx
  obtain⟨ps,hps⟩:=boxOf n b hn
  have hgd:sg.boxes.getD n []=ps:=by rw[List.getD_eq_getElem?_getD,hps];rfl
  simp only[fpN,hgd]at hx
  split at hx
  ·rename_i m kd hp;exact .inl ⟨ps,m,kd,hps,hp,hx⟩
  ·rename_i kd hp
   split at hx
   ·cases hx
   ·rename_i he;exact .inr ⟨by simpa using he,ps,kd,hps,hp,hx⟩
  ·cases hx
 have fixRo:∀n b j x ps kd,bs.lookup n=some b→sg.boxes[n]? =some ps→ps[j]? =some (.fix kd)→x∈g.fp (.b b j)→roC g ls bs sg fi x:=fun n b j x ps kd q1 q2 q3 q4=>.inr (.inr (.inl ⟨n,b,j,ps,kd,q1,q2,q3,q4⟩))
 obtain⟨g2,e1,e2,hsim⟩:=sim_many (S':=Wr.apps (fillBs nbs ob) S1) (w':=w') (H:=H) (fpn:=fpn) (ro':=ro2) (pool':=rfo) hs t1 t2
  (fun b hb=>t3 b (fun n _ _ hn=>hb ⟨n,hn⟩))
  ⟨by rw[hc.os,h0],by rw[hc.tape,h0],by rw[hc.output,h0]⟩ grow
  (fun x hx hg hb=>by
    have:=hc.frame x (by rw[h0];exact hx) (fun hw=>by
     rcases wrGiv x hw with k|⟨n,b,hn,hbb⟩
     ·exact hg k
     ·exact hb b ⟨n,hn⟩ hbb)
    rw[this,h0])
  hro
  (fun x hx=>by
    cases he:esc with
    |false=>
     rcases(ro2f he x).1 hx with k|⟨n,j,k⟩
     ·exact .inl k
     ·obtain⟨b',ps,m,kd,q1,q2,q3,q4⟩:=hof n j x (.inr k)
      exact .inr (.inl (.inr ⟨b',j,⟨n,q1⟩,q4⟩))
    |true=>
     rcases(ro2t he x).1 hx with k|k|⟨n,j,_,k⟩
     ·exact roGiv he x k
     ·obtain⟨k1,k2,_⟩:=resGiv x (.inr k)
      exact .inr (k1.imp id (fun k=>⟨k,k2⟩))
     ·have:=ownGiv x _ (fibLoc n j x k)
      have h2:=(hc.free x (ow_ne_loc (fibLoc n j x k))).2.1
      exact .inr (this.imp id (fun k=>⟨k,h2⟩)))
  (fun b ⟨n,hn⟩=>by
    obtain⟨ps,cs,hps,hb1,hb0⟩:=okB n b hn
    obtain⟨b2,cs2,csx,y,q1,q2,q3,q4,q5,q6,q7⟩:=t4 n ps hps
    rw[Nat.zero_add,hn]at q1;cases q1
    rw[hb0]at q2;cases q2
    obtain⟨β,c0,ty0,r1,r2,r3,r4⟩:=hs.boxes b cs hb1
    obtain⟨csl,β',cc,ty,l1,l2,l3,l4,l5,l6⟩:=hl.box n ps hps
    have eβ:β'=β:=by have:=bbc n b β hn r1;rw[l2]at this;injection this
    subst eβ
    have ecs:csl=csx:=by rw[bx_eq,q4]at l1;simpa using l1.symm
    subst ecs
    have hfix:∀j r,frc.fixv n j=some r→c0[j]? =some r:=fun j r hr=>by
     rw[hfx n β' (by rw[hn];exact r1) j]at hr
     simpa only[cellsAt,r2]using hr
    refine⟨cs,y,β',cc,ty,hb1,q5,by omega,r1,l3,by omega,fun j x x' hx hx'=> ?_,fun j x' hx'=> ?_⟩
    ·have hj:j<ps.length:=by have:=(List.getElem?_eq_some_iff.1 hx).1;omega
     obtain⟨c,xx,z,z1,z2,z3,z4⟩:=q7 j _ (List.getElem?_eq_getElem hj)
     rw[hx]at z1;cases z1
     rw[hx']at z3;cases z3
     obtain⟨x2,r,u1,u2,u3⟩:=l6 j _ (List.getElem?_eq_getElem hj)
     cases hp:ps[j]with
     |clo f0 cs0=>rw[hp]at z4;exact z4.elim
     |ptr b0 off=>
      rw[hp]at z4 u3
      obtain⟨rfl,_⟩:=z4
      refine⟨Nat.le_refl _,fun _=>⟨?_,fun z hz=>hz⟩⟩
      simp only[realAt,r1,r2]
      rw[u2,hfix j r u3]
     |fix kd=>
      rw[hp]at z4 u3
      obtain⟨rfl,_⟩:=z4
      have ev:(bif esc then frz x else x).ver=x.ver∧(bif esc then frz x else x).v=x.v:=by
       cases esc
       ·exact⟨rfl,rfl⟩
       ·simp only[cond_true,frz];split<;>exact⟨rfl,rfl⟩
      refine⟨by rw[ev.1];exact Nat.le_refl _,fun _=>⟨?_,fun z hz=>by rw[ev.2];exact hz⟩⟩
      simp only[realAt,r1,r2]
      rw[u2,hfix j r u3]
     |val m kd=>
      rw[hp]at z4
      obtain⟨rfl,_⟩:=z4
      exact⟨Nat.le_succ _,fun he=>by simp only at he;omega⟩
    ·have hj:j<ps.length:=by have:=(List.getElem?_eq_some_iff.1 hx').1;omega
     have hpj:ps[j]? =some ps[j]:=List.getElem?_eq_getElem hj
     obtain⟨c,xx,z,z1,z2,z3,z4⟩:=q7 j _ hpj
     rw[hx']at z3;cases z3
     obtain⟨x2,r,u1,u2,u3⟩:=l6 j _ hpj
     rw[z2]at u1;cases u1
     obtain⟨r0,v1,v2,v3⟩:=r4 j c z1
     have hgd:sg.boxes.getD n []=ps:=by rw[List.getD_eq_getElem?_getD,hps];rfl
     refine⟨r,u2,?_⟩
     rw[fpn_eq n b j hn]
     cases hp:ps[j]with
     |clo f0 cs0=>rw[hp]at z4;exact z4.elim
     |ptr b0 off=>
      rw[hp]at z4 u3
      obtain⟨rfl,b3,hv⟩:=z4
      have hr0:r0=r:=by have:=hfix j r u3;rw[v1]at this;injection this
      subst hr0
      refine⟨?_,v3⟩
      have hN:fpN n b j=[]:=by simp only[fpN,hgd,hpj,hp]
      rw[hN]
      rw[hv]at v2
      obtain⟨hm,hf,β2,hβ2,er⟩:=ptr_pt v2.one
      rw[hv,hm]
      exact⟨rfl,b3,_,β2,rfl,hβ2,er⟩
     |fix kd=>
      rw[hp]at z4 u3
      obtain⟨hz,hnp⟩:=z4
      have hr0:r0=r:=by have:=hfix j r u3;rw[v1]at this;injection this
      subst hr0
      have hrm:=CV.rm hnp v2
      have hcell:∀x∈g.fp (.b b j),roC g ls bs sg fi x:=fun x hx=>fixRo n b j x ps kd hn hps (by rw[hpj,hp]) hx
      have hrm':RM w'.heap g.ro c.m c.v [r0] (g.fp (.b b j)):=RM.mono (fun _ h=>h) (fun x hx=>roHeap x (.inl hx)) (fun x hx=>roHeap x (hcell x hx)) hrm.2
      cases he:esc with
      |false=>
       rw[he]at hz
       have hz:x'=c:=hz
       subst hz
       have hN:fpN n b j=g.fp (.b b j):=by simp only[fpN,hgd,hpj,hp,he,Bool.false_eq_true,if_false]
       rw[hN]
       exact⟨RM.cv hnp ⟨hrm.1,RM.mono hro (fun _ _=>rfl) (fun _ _=>rfl) hrm'⟩,v3⟩
      |true=>
       rw[he]at hz
       have hz:x'=frz c:=hz
       have hN:fpN n b j=[]:=by simp only[fpN,hgd,hpj,hp,he,if_true]
       rw[hN,hz]
       have hro2:∀x,roC g ls bs sg fi x→ro2 x:=fun x hx=>(ro2t he x).2 (.inl (roSub x hx))
       cases hm:c.m with
       |own d=>
        have hfz:frz c={c with m:=.ro}:=by simp only[frz,hm]
        rw[hfz]
        exact⟨⟨hrm.1,RM.toRO hro (fun x hx=>hro2 x (hcell x hx)) hrm'⟩,v3⟩
       |pr=>
        have hfz:frz c=c:=by simp only[frz,hm]
        rw[hfz,hm]
        rw[hm]at hrm'
        have e:=hrm'.2.2
        rw[e]at hrm'
        exact⟨⟨hrm.1,hrm'⟩,v3⟩
       |ro=>
        have hfz:frz c=c:=by simp only[frz,hm]
        rw[hfz,hm]
        rw[hm]at hrm'
        have e:=hrm'.2
        rw[e]at hrm'
        exact⟨⟨hrm.1,RM.mono hro (fun _ _=>rfl) (fun _ _=>rfl) hrm'⟩,v3⟩
       |pt=>rw[hm]at hnp;cases hnp
     |val m kd=>
      rw[hp]at z4 u3
      obtain⟨rfl,hfx2,hgv⟩:=z4
      have hN:fpN n b j=fob n j:=by simp only[fpN,hgd,hpj,hp]
      rw[hN]
      refine⟨?_,fun hf=>by simp only at hf;rw[hfx2]at hf;cases hf⟩
      have hnp:=(gives_npt hgv).2
      have hn':n<sg.boxes.length:=h.lt hn
      cases he:esc with
      |true=>
       have:=u3 ro2 (fun x hx=>(ro2t he x).2 (.inl hx)) (fun x hx=>(ro2t he x).2 (.inr (.inr ⟨n,j,hn',hx⟩)))
       have h2:=CV.rm hnp this
       exact RM.cv hnp h2
      |false=>
       have:=u3 (fun x=>gc.ro x∨x∈fib n j) (fun x hx=>.inl hx) (fun x hx=>.inr hx)
       have hsl:=(hsol he).2 ps (List.mem_of_getElem? hps) (.val m kd) (List.mem_of_getElem? (by rw[hpj,hp])) m kd rfl
       have h2:=CV.rm hnp this
       exact RM.cv hnp ⟨h2.1,RM.any hsl h2.2⟩)
  (fun b j x ⟨n,hn⟩ hx=>by
    rcases fpn_cases n b j x hn hx with⟨ps,m,kd,q1,q2,q3⟩|⟨he,ps,kd,q1,q2,q3⟩
    ·exact⟨ownGiv x _ (fobLoc n j x q3),(hc.free x (ow_ne_loc (fobLoc n j x q3))).2.1,notro x n j (h.lt hn) q3⟩
    ·refine⟨.inl (.inr ⟨b,j,⟨n,hn⟩,q3⟩),Nat.lt_of_lt_of_le (hs.fpLt q3) grow,fun hr=> ?_⟩
     rcases(ro2f he x).1 hr with k|⟨n',j',k⟩
     ·exact(hs.free x (ow_ne_loc (hs.own _ x q3))).1 k
     ·obtain⟨b',ps',m',kd',p1,p2,p3,p4⟩:=hof n' j' x (.inr k)
      have e:=hs.own _ x q3
      rw[hs.own _ x p4]at e
      injection e with e;injection e with e1 e2
      subst e1;subst e2
      have:=h.inv _ _ _ hn p1
      subst this
      rw[q1]at p2;cases p2
      rw[q2]at p3;cases p3)
  (fun b j ⟨n,hn⟩=>by
    rw[fpn_eq n b j hn]
    simp only[fpN]
    split
    ·exact(hl.part n j).nd
    ·split
     ·simp
     ·exact hs.nd _
    ·simp)
  (fun b j b' j' x ⟨n,hn⟩ ⟨n',hn'⟩ hx hx'=>by
    rcases fpn_cases n b j x hn hx with⟨ps,m,kd,q1,q2,q3⟩|⟨he,ps,kd,q1,q2,q3⟩<;>rcases fpn_cases n' b' j' x hn' hx' with⟨ps',m',kd',q1',q2',q3'⟩|⟨he',ps',kd',q1',q2',q3'⟩
    ·have e:=fobLoc n j x q3
     rw[fobLoc n' j' x q3']at e
     injection e with e;injection e with e1 e2
     subst e1;subst e2
     rw[hn]at hn';cases hn'
     exact⟨rfl,rfl⟩
    ·exact absurd (roSub x (fixRo n' b' j' x ps' kd' hn' q1' q2' q3')) (hc.free x (ow_ne_loc (fobLoc n j x q3))).1
    ·exact absurd (roSub x (fixRo n b j x ps kd hn q1 q2 q3)) (hc.free x (ow_ne_loc (fobLoc n' j' x q3'))).1
    ·have e:=hs.own _ x q3
     rw[hs.own _ x q3']at e
     injection e with e;injection e with e1 e2
     exact⟨e1.symm,e2.symm⟩)
  (fun x hx=>by
    obtain⟨k1,k2,k3⟩:=resGiv x (.inl hx)
    exact⟨k1,k2,notroR x hx⟩)
  hl.nd
  (fun b j x ⟨n,hn⟩ hx hxr=>by
    rcases fpn_cases n b j x hn hx with⟨ps,m,kd,q1,q2,q3⟩|⟨he,ps,kd,q1,q2,q3⟩
    ·exact(hl.far x (.inl hxr)).1 n j (h.lt hn) (((hl.part n j).mem x).2 (.inl q3))
    ·exact(resGiv x (.inl hxr)).2.2 (roSub x (fixRo n b j x ps kd hn q1 q2 q3)))
 refine⟨g2,hsim,?_⟩
 rw[e1]
 cases he:esc with
 |true=>exact hl.res ro2 (fun x hx=>(ro2t he x).2 (.inl hx)) (fun x hx=>(ro2t he x).2 (.inr (.inl hx)))
 |false=>
  refine ResR.any (fun c hcm=> ?_) (hl.res (fun x=>gc.ro x∨x∈rfi) (fun x hx=>.inl hx) (fun x hx=>.inr hx))
  have h3:c.2∈sg.outs.map (·.1):=(List.of_mem_zip (show(c.1,c.2)∈outsOf sg.outs ov from hcm)).2
  obtain⟨q,hq1,hq2⟩:=List.mem_map.1 h3
  rw[←hq2];exact(hsol he).1 q hq1
end
def thrown(T:TypeId)(n:Int):List PanicEntry:=[{v:=.iface T (.int .i64 n),recovered:=false}]
def CallPost(P:Program)(E:Env)(fn:Func)(sg:Sig)(fr:Fr)(outs:List V):Ending→World→Prop
 | .returned rv,w'=>∃S' a' g' o,Sim fr S' a' w' g' []∧finish E fn sg S'=some o∧outs=preO sg o∧(results fn a'.tmps).run P w'= .ok rv w'
 | .panicked ch,w'=>∃S' a' g' o n,Sim fr S' a' w' g' []∧sg.pan=true∧ch=thrown E.panT n∧finishX E fn sg S'=some o∧outs=panO sg n o
 |_,_=>False
def IoOK(P:Program)(f:FuncId)(vs outs:List V):Prop:=
 ∃es es',vs=[.sl 1 es]∧outs=[.sl 1 es']∧∀(w:World) (ro:Nat→Prop) (r:Value) (fp:List Nat),OEl w.heap ro true (.sl 1 es) [r] fp→fp.Nodup→(∀x∈fp,x<w.heap.size)→
  Calls P (rf f) #[r] w fun e w'=>e= .returned (.tuple #[])∧Same w w'∧w.heap.size≤w'.heap.size∧(∀x,x<w.heap.size→x∉fp→w'.heap[x]? =w.heap[x]?)∧OEl w'.heap ro true (.sl 1 es') [r] fp
def CallOK(P:Program)(EE:FuncId→Env)(f:FuncId)(vs outs:List V):Prop:=
 ∃fn sg,P.funcs[rf f]? =some fn∧(EE f).sig f=some sg∧(fn.name== "runtime.NumGoroutine")=false∧fn.body.isNone=false∧sg.params.length≤fn.ntmps∧
  (sg.io=true→IoOK P f vs outs)∧(sg.io=false→∀(fr:Fr) (w:World) (g:Gh) (args:Array Value),Sim fr (initSt sg fn.ntmps vs) ⟨args++Array.replicate (fn.ntmps-args.size) undef,[]⟩ w g []→fr.w0=w→fr.base=sg.boxes.length→args.size=sg.params.length→(∀f',FrT (EE f').tab fr)→
    Calls P (rf f) args w (CallPost P (EE f) fn sg fr outs))
section
variable {P : Program} {EE : FuncId → Env} {E : Env} {fr : Fr} {S : St} {a : Act} {w w' : World} {g : Gh} {pool : List Nat} {rm rm' : Nat} {ws : List Wr}
variable {o : Oper} {K : Act → World → Prop} {Q : Exit → Act → World → Prop} {C0 : FuncId → List V → List V → Prop}
theorem run_callFunc{f:FuncId}{fn:Func}{args:Array Value}(hf:P.funcs[f]? =some fn)(h1:(fn.name== "runtime.NumGoroutine")=false)(h2:fn.body.isNone=false):(callFunc f args).run P w= .ok (.enter f args) w:=by
 simp only[callFunc,Sem.run_bind,run_program,Result.andThen_ok,hf,h1,h2,Bool.false_eq_true,if_false,Sem.run_pure]
theorem cells_same{bs:List (Nat×Nat)}:∀{ps:List PS} {cs:Bx} {vs:List V} {nb:Bx},CellsOK false bs ps cs vs nb→ps.any PS.isVal=false→nb=cs∧∀x,fillB ps nb x=(nb,x)
 | [],[],_,_,h,_=>⟨h.2,fun x=>by rw[h.2];rfl⟩
 | .ptr b off::ps,c::cs,vs,_,⟨nb',e,_,h⟩,hv=>by
   obtain⟨h1,h2⟩:=cells_same h (by simpa [PS.isVal]using hv)
   subst e;subst h1
   exact⟨rfl,fun x=>by simp only[fillB,h2]⟩
 | .fix _::ps,c::cs,_,_,⟨vs',nb',_,e,_,h⟩,hv=>by
   obtain⟨h1,h2⟩:=cells_same h (by simpa [PS.isVal]using hv)
   subst e;subst h1
   exact⟨rfl,fun x=>by simp only[fillB,h2,cond_false]⟩
 | .val m _::ps,c::cs,vs,nb,_,hv=>by simp[PS.isVal]at hv
 | .clo _ _::ps,c::cs,vs,nb,h,_=>h.elim
 | [],_::_,_,_,h,_=>h.elim
 | .ptr _ _::_,[],_,_,h,_=>h.elim
 | .val _ _::_,[],_,_,h,_=>h.elim
 | .fix _::_,[],_,_,h,_=>h.elim
 | .clo _ _::_,[],_,_,h,_=>h.elim
theorem box_same{S1:St}{b:Nat}{nb:Bx}(h:S1.bx b=some nb):(Wr.box b (some nb)).app S1=S1:=by
 have e:S1.boxes.set b (some nb)=S1.boxes:=by
  apply List.ext_getElem?
  intro i
  rw[List.getElem?_set]
  split
  ·rename_i hb
   subst hb
   rw[bx_eq]at h
   cases hq:S1.boxes[b]? with
   |none=>rw[hq]at h;cases h
   |some y=>
    rw[hq]at h
    have hlt:=(List.getElem?_eq_some_iff.1 hq).1
    rw[if_pos hlt]
    exact congrArg some h.symm
  ·rfl
 show({S1 with boxes:=S1.boxes.set b (some nb)}:St)=S1
 rw[e]
theorem fill_keep{bs:List (Nat×Nat)}(inv:BsInv bs):∀{pss:List (List PS)} {n:Nat} {vs:List V} {nbs:List (Nat×Bx×List PS)} {S1:St} {x:List V},BoxesOK false S bs n pss vs nbs→
 (∀m b',n≤m→bs.lookup m=some b'→S1.bx b'=S.bx b')→Wr.apps (fillBs (keepB false nbs) x) S1=Wr.apps (fillBs nbs x) S1
 | [],n,vs,nbs,S1,x,h,_=>by rw[h.2];rfl
 |ps::r,n,vs,_,S1,x,⟨b',cs,vs1,vs2,nb,nbs',h1,h2,h3,h4,rfl,h5⟩,hS=>by
  have hk:keepB false ((b',nb,ps)::nbs')=if ps.any PS.isVal=true then(b',nb,ps)::keepB false nbs' else keepB false nbs':=by
   unfold keepB;simp only[cond_false,List.filter_cons]
  rw[hk]
  have next:∀{m b''},n+1≤m→bs.lookup m=some b''→b'≠b'':=fun{m b''} hm hl e=>by
   have:=inv n m b' h1 (by rw[e];exact hl);omega
  split
  ·have hb:∀m b'',n+1≤m→bs.lookup m=some b''→((Wr.box b' (some (fillB ps nb x).1)).app S1).bx b''=S.bx b'':=fun m b'' hm hl=>by
    rw[←hS m b'' (by omega) hl]
    exact getD_set_ne' (next hm hl)
   exact fill_keep inv h5 hb
  ·rename_i hv
   obtain⟨e1,e2⟩:=cells_same h3 (by simpa using hv)
   subst e1
   have hb:=hS n b' (Nat.le_refl _) h1
   rw[h2]at hb
   have:fillBs ((b',nb,ps)::nbs') x= .box b' (some nb)::fillBs nbs' x:=by
    show(match fillB ps nb x with|(y,q)=>Wr.box b' (some y)::fillBs nbs' q)=_
    rw[e2 x]
   rw[this]
   show _=Wr.apps (fillBs nbs' x) ((Wr.box b' (some nb)).app S1)
   rw[box_same hb]
   exact fill_keep inv h5 fun m b'' hm hl=>hS m b'' (by omega) hl
theorem op_callG(hEE:∀f,EnvOK P (EE f))(hft:∀f,FrT (EE f).tab fr)(hsig:∀f,(EE f).sig=E.sig){xs:List Operand}{caps:List V}{rs:List Value}{f:FuncId}(hcap:CapR g caps rs)
 (hrun:∀fn:Func,P.funcs[rf f]? =some fn→(fn.name== "runtime.NumGoroutine")=false→fn.body.isNone=false→(execOp a.eval o).run P w= .ok (.enter (rf f) (xs.map a.eval++rs).toArray) w)
 (hp:PgR (CallOK P EE) S (callP E f xs caps o.dst) rm ws rm') (hs:Sim fr S a w g [])
 (hK:∀a' w',SimX fr (Wr.apps ws S) a' w'→K a' w'):o.wp P a w K Q:=by
 unfold callP at hp
 cases hsg:E.sig f with
 |none=>rw[hsg]at hp;exact hp.elim
 |some sg=>
 cases hcps:ptrsP (sg.params.drop xs.length)with
 |none=>rw[hsg]at hp;simp only[Option.bind_some,hcps]at hp;exact hp.elim
 |some cps=>
 rw[hsg]at hp
 simp only[Option.bind_some,hcps]at hp
 obtain⟨hnp,hp⟩:=hp
 simp only[Bool.and_eq_true,Bool.not_eq_true']at hnp
 obtain⟨hnp,hio⟩:=hnp
 generalize hesc:(!((sg.outs.all fun m=>m.1.solid)&&sg.boxes.all fun ps=>ps.all fun p=>match p with| .val m _=>m.solid|_=>true))=esc at hp
 obtain⟨bs0,W,ls,vp,rm1,g1,fp,hp0,T,up1,par,inv0,_,hls⟩:=args_ok hs hp (Took.nil hs) (Up.refl g) (fun b b' x h=>by simp at h)
 simp only[List.nil_append,List.append_nil,List.reverse_nil]at hp0 T par
 obtain⟨bs1,hp1,hcb,inv1,ext1⟩:=caps_ok hp0 (CapR.up up1.bb hcap) inv0
 obtain⟨bs,vb,nbs,rm2,hp2,box,inv,ext,rng⟩:=boxesIn_ok hp1 inv1
 simp only[List.reverse_nil,List.nil_append,Nat.zero_add]at hp2 rng
 obtain⟨hck,outs,hcall,hlen,hws,_⟩:=hp2
 simp only[Bool.and_eq_true,Bool.not_eq_true']at hck
 obtain⟨hck1,hck2⟩:=hck
 have hA:∀u∈W,(∀p∈nbs,u.spot≠(1,p.1))∧u.spot∉ls:=fun u hu=>by
  have:=List.any_eq_false.1 hck1 u hu
  simp only[Bool.or_eq_true,not_or,Bool.not_eq_true]at this
  refine⟨fun p hp e=> ?_,fun hm=> ?_⟩
  ·have h2:=List.any_eq_false.1 this.1 p hp
   rw[e]at h2;exact h2 (beq_iff_eq.2 rfl)
  ·have h2:=this.2
   rw[List.contains_iff_mem.2 hm]at h2;cases h2
 have hB:∀p∈nbs,(1,p.1)∉ls:=fun p hp hm=>by
  have:=List.any_eq_false.1 hck2 p hp
  rw[List.contains_iff_mem.2 hm]at this;exact this rfl
 have inN:∀n b',bs.lookup n=some b'→∃nb ps,(b',nb,ps)∈nbs:=fun n b' hn=>by
  have hlt:=rng _ (lookup_mem hn)
  obtain⟨b2,cs,vs1,nb,rest,q1,q2,q3,q4,q5⟩:=box.nth (List.getElem?_eq_getElem hlt)
  rw[Nat.zero_add,hn]at q1;cases q1
  exact⟨nb,_,List.mem_of_getElem? q4⟩
 have hand:Hand fr esc sg S (Wr.apps W S) a w g1 fp bs ls (xs.map a.eval++rs) vp vb nbs:=
  {sim:=T.sim
   par:=by
    have:=(par.up (Up.refl g1) (ext1.trans ext) (fun _ h=>h)).parted (by simpa using T.sim.plnd) (hcb.up (Up.refl g1) ext) hcps
    rwa[List.take_append_drop]at this
   box:=box
   inv:=inv
   rng:=rng
   agree:=fun l hl=>Agree.apps (Agree.refl S l) fun u hu=>by
    obtain⟨l',h1,_⟩:=T.tk u hu
    refine⟨l',h1,fun e=>(hA u hu).2 ?_⟩
    rw[Wr.lo_spot h1,e];exact hl
   sameB:=fun n b' hn=>by
    obtain⟨nb,ps,hm⟩:=inN n b' hn
    exact apps_bx_same fun u hu=>⟨by obtain⟨l',h1,_⟩:=T.tk u hu;exact⟨l',h1⟩,(hA u hu).1 _ hm⟩
   notLent:=fun n b' hn=>by
    obtain⟨nb,ps,hm⟩:=inN n b' hn
    exact hB _ hm}
 obtain⟨fn,sg',hf,hsg',hn1,hn2,hnt,_,hcalls⟩:=hcall
 rw[hsig f,hsg]at hsg'
 cases hsg'
 have hcalls:=hcalls hio
 obtain⟨fpS,fo,fi,hS,hof,hst⟩:=enter_ok hand hnt
 obtain⟨frc,gc0,h0,hbase,hwr,hro0,hbb0,hfx,_,_,_,hsc⟩:=sim_start hst
 have hcl:=hcalls frc w gc0 (xs.map a.eval++rs).toArray hsc h0 hbase (by simpa using(hand.par []).1) (fun f'=>(hft f').call hand.sim h0 (call_wr hand hS hof hwr))
 unfold Oper.wp
 rw[hrun fn hf hn1 hn2,Oper.upon_enter]
 refine hcl.mono fun e w'' hpost=> ?_
 cases e with
 |panicked ch=>obtain⟨_,_,_,_,_,_,k,_⟩:=hpost;rw[hnp]at k;cases k
 |outgrown=>exact hpost.elim
 |returned rv=>
  obtain⟨S',a',g',o1,hS',hfin,hpre,hres⟩:=hpost
  have hpre:outs=o1:=by rw[hpre];unfold preO;rw[hnp];rfl
  subst hpre
  obtain⟨ov,ob,rv',rfo,rfi,fob,fib,rfl,hl⟩:=leave_ok (P:=P) (hEE f) hS' hfin
  have e:rv'=rv:=by have:=hl.run;rw[hres]at this;injection this with h1 _;exact h1.symm
  subst e
  obtain⟨g2,hsim,hresr⟩:=call_done hand (fun he=>hls he) (fun he=>by
   rw[he]at hesc
   have h1:((sg.outs.all fun m=>m.1.solid)&&sg.boxes.all fun ps=>ps.all fun p=>match p with| .val m _=>m.solid|_=>true)=true:=by simpa using hesc
   simp only[Bool.and_eq_true]at h1
   refine⟨fun m hm=>List.all_eq_true.1 h1.1 m hm,fun ps hps p hp m kd e=> ?_⟩
   have:=List.all_eq_true.1 (List.all_eq_true.1 h1.2 ps hps) p hp
   subst e;exact this) hS hof hst h0 hwr hro0 hbb0 hfx hS' hl
  refine hK _ _ ?_
  rw[hws]
  have hkb:∀x,Wr.apps (fillBs (keepB esc nbs) x) (Wr.apps W S)=Wr.apps (fillBs nbs x) (Wr.apps W S):=fun x=>by
   cases esc with
   |true=>rfl
   |false=>exact fill_keep inv box fun m b' _ hl=>hand.sameB m b' hl
  have et:(ov++ob).take sg.outs.length=ov:=by rw[←hl.len];exact List.take_left' rfl
  have ed:(ov++ob).drop sg.outs.length=ob:=by rw[←hl.len];exact List.drop_left' rfl
  rw[ed,et,apps_append,apps_append,hkb]
  cases hd:o.dst with
  |none=>exact hsim.drop
  |some t=>
   match hoo:outsOf sg.outs ov,hresr with
   | [],⟨rs,er,y⟩=>
     exact sim_dst hsim (dst:=some t) (s:=.undef) (fp:=[]) rfl (by simp) (by simp)
   | [(v,m)],⟨hm,y⟩=>
     exact sim_dst hsim (dst:=some t) (s:=.one v m) (RW.one y) (fun _ h=>h) hl.nd
   |p::q::l,⟨rs,er,y⟩=>
    exact sim_dst hsim (dst:=some t) (s:=.tup (p::q::l)) ⟨rs,er,y g2 rfl⟩ (fun _ h=>h) hl.nd
theorem op_callQ(hEE:∀f,EnvOK P (EE f))(hft:∀f,FrT (EE f).tab fr)(hsig:∀f,(EE f).sig=E.sig)(hpan:∀f,(EE f).panT=E.panT){xs:List Operand}{f:FuncId}
 (hrun:∀fn:Func,P.funcs[rf f]? =some fn→(fn.name== "runtime.NumGoroutine")=false→fn.body.isNone=false→(execOp a.eval o).run P w= .ok (.enter (rf f) (xs.map a.eval).toArray) w)
 (hp:PgR (CallOK P EE) S (callQ E f xs o.dst) rm ws rm') (hs:Sim fr S a w g [])
 (hK:∀t ws',ws= .slot t .undef::ws'→∀a' w',SimX fr (Wr.apps ws' S) a' w'→K a' w') (hQ:∀t k n m ws',ws= .slot t (.one (.int k n) m)::ws'→∀a' w',SimX fr (Wr.apps ws' S) a' w'→Q (.panic (thrown E.panT n)) a' w'):o.wp P a w K Q:=by
 have hcap:CapR g [] ([]:List Value):=rfl
 have hrun:∀fn:Func,P.funcs[rf f]? =some fn→(fn.name== "runtime.NumGoroutine")=false→fn.body.isNone=false→(execOp a.eval o).run P w= .ok (.enter (rf f) (xs.map a.eval++([]:List Value)).toArray) w:=by simpa using hrun
 generalize hrs:([]:List Value)=rs at hcap hrun
 unfold callQ at hp
 cases hsg:E.sig f with
 |none=>rw[hsg]at hp;exact hp.elim
 |some sg=>
 cases hcps:ptrsP (sg.params.drop xs.length)with
 |none=>rw[hsg]at hp;simp only[Option.bind_some,hcps]at hp;exact hp.elim
 |some cps=>
 rw[hsg]at hp
 simp only[Option.bind_some,hcps]at hp
 obtain⟨hnp,hp⟩:=hp
 simp only[Bool.and_eq_true,Bool.not_eq_true']at hnp
 obtain⟨hnp,hio⟩:=hnp
 generalize hesc:(!((sg.outs.all fun m=>m.1.solid)&&sg.boxes.all fun ps=>ps.all fun p=>match p with| .val m _=>m.solid|_=>true))=esc at hp
 obtain⟨bs0,W,ls,vp,rm1,g1,fp,hp0,T,up1,par,inv0,_,hls⟩:=args_ok hs hp (Took.nil hs) (Up.refl g) (fun b b' x h=>by simp at h)
 simp only[List.nil_append,List.append_nil,List.reverse_nil]at hp0 T par
 obtain⟨bs1,hp1,hcb,inv1,ext1⟩:=caps_ok hp0 (CapR.up up1.bb hcap) inv0
 obtain⟨bs,vb,nbs,rm2,hp2,box,inv,ext,rng⟩:=boxesIn_ok hp1 inv1
 simp only[List.reverse_nil,List.nil_append,Nat.zero_add]at hp2 rng
 obtain⟨hck,outs,hcall,hlen,hpo⟩:=hp2
 simp only[Bool.and_eq_true,Bool.not_eq_true']at hck
 obtain⟨hck1,hck2⟩:=hck
 have hA:∀u∈W,(∀p∈nbs,u.spot≠(1,p.1))∧u.spot∉ls:=fun u hu=>by
  have:=List.any_eq_false.1 hck1 u hu
  simp only[Bool.or_eq_true,not_or,Bool.not_eq_true]at this
  refine⟨fun p hp e=> ?_,fun hm=> ?_⟩
  ·have h2:=List.any_eq_false.1 this.1 p hp
   rw[e]at h2;exact h2 (beq_iff_eq.2 rfl)
  ·have h2:=this.2
   rw[List.contains_iff_mem.2 hm]at h2;cases h2
 have hB:∀p∈nbs,(1,p.1)∉ls:=fun p hp hm=>by
  have:=List.any_eq_false.1 hck2 p hp
  rw[List.contains_iff_mem.2 hm]at this;exact this rfl
 have inN:∀n b',bs.lookup n=some b'→∃nb ps,(b',nb,ps)∈nbs:=fun n b' hn=>by
  have hlt:=rng _ (lookup_mem hn)
  obtain⟨b2,cs,vs1,nb,rest,q1,q2,q3,q4,q5⟩:=box.nth (List.getElem?_eq_getElem hlt)
  rw[Nat.zero_add,hn]at q1;cases q1
  exact⟨nb,_,List.mem_of_getElem? q4⟩
 have hand:Hand fr esc sg S (Wr.apps W S) a w g1 fp bs ls (xs.map a.eval++rs) vp vb nbs:=
  {sim:=T.sim
   par:=by
    have:=(par.up (Up.refl g1) (ext1.trans ext) (fun _ h=>h)).parted (by simpa using T.sim.plnd) (hcb.up (Up.refl g1) ext) hcps
    rwa[List.take_append_drop]at this
   box:=box
   inv:=inv
   rng:=rng
   agree:=fun l hl=>Agree.apps (Agree.refl S l) fun u hu=>by
    obtain⟨l',h1,_⟩:=T.tk u hu
    refine⟨l',h1,fun e=>(hA u hu).2 ?_⟩
    rw[Wr.lo_spot h1,e];exact hl
   sameB:=fun n b' hn=>by
    obtain⟨nb,ps,hm⟩:=inN n b' hn
    exact apps_bx_same fun u hu=>⟨by obtain⟨l',h1,_⟩:=T.tk u hu;exact⟨l',h1⟩,(hA u hu).1 _ hm⟩
   notLent:=fun n b' hn=>by
    obtain⟨nb,ps,hm⟩:=inN n b' hn
    exact hB _ hm}
 obtain⟨fn,sg',hf,hsg',hn1,hn2,hnt,_,hcalls⟩:=hcall
 rw[hsig f,hsg]at hsg'
 cases hsg'
 have hcalls:=hcalls hio
 obtain⟨fpS,fo,fi,hS,hof,hst⟩:=enter_ok hand hnt
 obtain⟨frc,gc0,h0,hbase,hwr,hro0,hbb0,hfx,_,_,_,hsc⟩:=sim_start hst
 have hcl:=hcalls frc w gc0 (xs.map a.eval++rs).toArray hsc h0 hbase (by simpa using(hand.par []).1) (fun f'=>(hft f').call hand.sim h0 (call_wr hand hS hof hwr))
 unfold Oper.wp
 rw[hrun fn hf hn1 hn2,Oper.upon_enter]
 refine hcl.mono fun e w'' hpost=> ?_
 have sol:esc=false→∀sg':Sig,sg'.boxes=sg.boxes→(∀m∈sg'.outs,m∈sg.outs)→(∀m∈sg'.outs,m.1.solid=true)∧∀ps∈sg'.boxes,∀p∈ps,∀m kd,p= .val m kd→m.solid=true:=fun he sg' hb ho=>by
  rw[he]at hesc
  have h1:((sg.outs.all fun m=>m.1.solid)&&sg.boxes.all fun ps=>ps.all fun p=>match p with| .val m _=>m.solid|_=>true)=true:=by simpa using hesc
  simp only[Bool.and_eq_true]at h1
  refine⟨fun m hm=>List.all_eq_true.1 h1.1 m (ho m hm),fun ps hps p hp m kd e=> ?_⟩
  rw[hb]at hps
  have:=List.all_eq_true.1 (List.all_eq_true.1 h1.2 ps hps) p hp
  subst e;exact this
 cases e with
 |outgrown=>exact hpost.elim
 |panicked ch=>
  obtain⟨S',a',g',o1,n,hS',_,rfl,hfin,hpre⟩:=hpost
  subst hpre
  obtain⟨b,hb,kd,n',hn',hi⟩:=hpo
  cases hb;cases hn'
  rcases hi with⟨_,hws,_⟩|⟨hb,_⟩
  ·have hand':Hand fr esc {sg with outs:=[]} S (Wr.apps W S) a w g1 fp bs ls (xs.map a.eval++rs) vp vb nbs:=⟨hand.sim,hand.par,hand.box,hand.inv,hand.rng,hand.agree,hand.sameB,hand.notLent⟩
   obtain⟨ov,ob,rv',rfo,rfi,fob,fib,rfl,hl⟩:=leave_ok (P:=P) (hEE f) hS' hfin
   obtain⟨g2,hsim,hresr⟩:=call_done (sg:={sg with outs:=[]}) hand' (fun he=>hls he) (fun he=>sol he {sg with outs:=[]} rfl (by simp)) hS hof hst h0 hwr hro0 hbb0 hfx hS' hl
   have hov:ov=[]:=List.eq_nil_of_length_eq_zero hl.len
   subst hov
   have hq:=hQ _ _ n _ _ hws a w'' (by
    have ed:(sg.outs.map (fun p:M×Kd=>p.2.zero)++([]++ob)).drop sg.outs.length=ob:=by
     rw[List.nil_append];exact List.drop_left' (by simp)
    rw[ed,apps_append]
    exact hsim.drop)
   rw[hpan f];exact hq
  ·cases hb
 |returned rv=>
  obtain⟨S',a',g',o1,hS',hfin,hpre,hres⟩:=hpost
  have hpre:outs= .bool false:: .int .i64 0::o1:=by rw[hpre];unfold preO;rw[hnp];rfl
  subst hpre
  obtain⟨b,hb,kd,n',hn',hi⟩:=hpo
  cases hb;cases hn'
  rcases hi with⟨hb,_⟩|⟨_,hws,_⟩
  ·cases hb
  obtain⟨ov,ob,rv',rfo,rfi,fob,fib,rfl,hl⟩:=leave_ok (P:=P) (hEE f) hS' hfin
  have e:rv'=rv:=by have:=hl.run;rw[hres]at this;injection this with h1 _;exact h1.symm
  subst e
  obtain⟨g2,hsim,hresr⟩:=call_done hand (fun he=>hls he) (fun he=>sol he sg rfl (fun m h=>h)) hS hof hst h0 hwr hro0 hbb0 hfx hS' hl
  refine hK _ _ hws _ _ ?_
  have et:(ov++ob).take sg.outs.length=ov:=by rw[←hl.len];exact List.take_left' rfl
  have ed:(ov++ob).drop sg.outs.length=ob:=by rw[←hl.len];exact List.drop_left' rfl
  rw[ed,et,apps_append,apps_append]
  cases hd:o.dst with
  |none=>exact hsim.drop
  |some t=>
   match hoo:outsOf sg.outs ov,hresr with
   | [],⟨rs,er,y⟩=>
     exact sim_dst hsim (dst:=some t) (s:=.undef) (fp:=[]) rfl (by simp) (by simp)
   | [(v,m)],⟨hm,y⟩=>
     exact sim_dst hsim (dst:=some t) (s:=.one v m) (RW.one y) (fun _ h=>h) hl.nd
   |p::q::l,⟨rs,er,y⟩=>
    exact sim_dst hsim (dst:=some t) (s:=.tup (p::q::l)) ⟨rs,er,y g2 rfl⟩ (fun _ h=>h) hl.nd
theorem rf_add{f v:Nat}(h:Nat.blt f 65536=true):rf (f+65536*v)=f:=by
 have h:f<65536:=by rw[Nat.blt_eq]at h;exact h
 show(f+65536*v) % 65536=f
 omega
theorem capsO_ok(hs:Sim fr S a w g []):∀{xs:List Operand} {k:List V→Pg} {rm:Nat},PgR C0 S (capsO xs k) rm ws rm'→∃vs rm1,PgR C0 S (k vs) rm1 ws rm'∧CapR g vs (xs.map a.eval)
 | [],k,rm,hp=>⟨[],rm,hp,rfl⟩
 |x::xs,k,rm,hp=>by
  unfold capsO at hp
  obtain⟨s,rm1,fp0,hp1,hr,hwhy⟩:=evO_ok hp hs
  clear hp hwhy
  split at hp1
  ·rename_i b off m
   obtain⟨vs,rm2,k1,k2⟩:=capsO_ok hs hp1
   obtain⟨_,_,β,hβ,er⟩:=ptr_pt hr
   exact⟨_,rm2,k1,b,off,β,_,rfl,hβ,by rw[List.map_cons,er],k2⟩
  ·exact hp1.elim
theorem op_makeFunc{rid i fn fi cp}(ho:o.op= .makeFunc fn fi cp)(hp:PgR C0 S (opPg E rid i o) rm ws rm')(hs:Sim fr S a w g [])
 (hK:∀a' w',SimX fr (Wr.apps ws S) a' w'→K a' w'):o.wp P a w K Q:=by
 simp only[opPg,ho]at hp
 split at hp
 ·rename_i f
  obtain⟨hfi,hp⟩:=hp
  obtain⟨vs,rm1,hp1,hc⟩:=capsO_ok hs hp
  obtain⟨e,_⟩:=hp1
  subst e
  have hfi:fi= #[]:=by
   apply Array.ext'
   simpa using hfi
  subst hfi
  refine wp_val (r:=.func (.func f) #[] (cp.map a.eval)) (by simp only[execOp,ho,Instr.makeFunc,pure_bind];rw[Array.map_empty];rfl) (done_sl hs (s:=.one (.fn f vs) .pt) ⟨rfl,.inr ⟨f,vs,_,rfl,rfl,?_⟩⟩) hK
  simpa using hc
 ·exact hp.elim
theorem op_callIO(hsig:∀f,(EE f).sig=E.sig){xs:List Operand}{f:FuncId}{sg:Sig}(hsg:E.sig f=some sg)(hio:sg.io=true)
 (hrun:∀fn:Func,P.funcs[rf f]? =some fn→(fn.name== "runtime.NumGoroutine")=false→fn.body.isNone=false→(execOp a.eval o).run P w= .ok (.enter (rf f) (xs.map a.eval).toArray) w)
 (hp:PgR (CallOK P EE) S (callIO f xs o.dst) rm ws rm') (hs:Sim fr S a w g []) (hK:∀a' w',SimX fr (Wr.apps ws S) a' w'→K a' w'):o.wp P a w K Q:=by
 unfold callIO at hp
 have main:∀{t:Tmp} {l:Lo} {es:List V} {ver:Nat} {outs:List V} {kp:V→Wr} {rm1:Nat},xs=[.tmp t]→S.at l=some (.sl 1 es,.own true,ver)→realAt a.tmps w.heap g l=some (a.eval (.tmp t))→kp=valW l→CallOK P EE f [.sl 1 es] outs→
  PgR (CallOK P EE) S (match outs with
   | [v']=>.ret (kp v'::wDst o.dst .undef)
   |_=>.fail) rm1 ws rm'→o.wp P a w K Q:=fun{t l es ver outs kp rm1} hx hat hreal hkp hcall hp=>by
  subst hx;subst hkp
  obtain⟨fn,sg',hf,hsg',hn1,hn2,hnt,hio2,_⟩:=hcall
  rw[hsig f,hsg]at hsg'
  cases hsg'
  obtain⟨es1,es',e1,rfl,hc⟩:=hio2 hio
  injection e1 with e1 _
  injection e1 with _ e1
  subst e1
  obtain⟨e2,_⟩:=hp
  subst e2
  obtain⟨q,hq,hlr,_⟩:=hs.at hat
  rw[hreal]at hq
  injection hq with hq
  subst hq
  have hel:OEl w.heap g.ro true (.sl 1 es) [a.eval (.tmp t)] (g.fp l):=LR.one hlr
  unfold Oper.wp
  rw[hrun fn hf hn1 hn2,Oper.upon_enter]
  refine(hc w g.ro (a.eval (.tmp t)) (g.fp l) hel (hs.nd l) (fun x hx=>(hs.free x (ow_ne_loc (hs.own _ _ hx))).2.1)).mono fun e w'' hpost=> ?_
  obtain⟨rfl,h1,h2,h3,h4⟩:=hpost
  obtain⟨g2,hS⟩:=row_new hs hat hreal h1 h2 h3 (fun x hx=>hx) (hs.nd l) h4
  refine hK _ _ ?_
  exact sim_dst hS (s:=.undef) (fp:=[]) rfl (by simp) (by simp)
 split at hp
 ·rename_i t
  have hp':PgR (CallOK P EE) S (match (S.sl t).1 with
   | .one v (.own true)=>.asSl v fun z es=>.chk (z==1) (.call f [.sl 1 es] [.sl 1] fun o'=>match o' with
     | [v']=>.ret (.val t v'::wDst o.dst .undef)
     |_=>.fail)
   | .ref l ver=>look l ver fun v m _ _ kp=>match m with
     | .own true=>.asSl v fun z es=>.chk (z==1) (.call f [.sl 1 es] [.sl 1] fun o'=>match o' with
       | [v']=>.ret (kp v'::wDst o.dst .undef)
       |_=>.fail)
     |_=>.fail
   |_=>.fail) _ ws rm':=hp
  rcases sl_case S t with⟨ver,h1,h2⟩|⟨h1,h2⟩
  ·split at hp'
   ·rename_i v hx
    rw[hx]at h1
    obtain⟨z,es,rfl,hz,outs,hcall,_,hp'⟩:=hp'
    have hz:z=1:=by simpa using hz
    subst hz
    have hat:S.at (.s t)=some (.sl 1 es,.own true,ver):=by simp only[St.at,h1]
    obtain⟨q0,hq0,_⟩:=hs.slots _ _ h1
    have hq1:a.eval (.tmp t)=q0:=by simp only[Act.eval];rw[Array.getD_eq_getD_getElem?,hq0];rfl
    exact main rfl hat (by rw[hq1];exact hq0) rfl hcall hp'
   ·rename_i l ver' hx
    rw[hx]at h1
    obtain⟨v,m,rm2,hat,hp'⟩:=look_ok hp'
    obtain⟨k1,_,_⟩:=hs.ref (hs.slot h1) hat
    split at hp'
    ·obtain⟨z,es,rfl,hz,outs,hcall,_,hp'⟩:=hp'
     have hz:z=1:=by simpa using hz
     subst hz
     exact main rfl hat k1 rfl hcall hp'
    ·exact hp'.elim
   ·exact hp'.elim
  ·rw[h2]at hp';exact hp'.elim
 ·exact hp.elim
theorem op_callF(hEE:∀f,EnvOK P (EE f))(hft:∀f,FrT (EE f).tab fr)(hsig:∀f,(EE f).sig=E.sig){rid i}{c:Call}{f:FuncId}(ho:o.op= .call c)(hc:c.callee= .value (.func f))(hp:PgR (CallOK P EE) S (opPg E rid i o) rm ws rm')(hs:Sim fr S a w g [])
 (hK:∀a' w',SimX fr (Wr.apps ws S) a' w'→K a' w'):o.wp P a w K Q:=by
 simp only[opPg,ho,hc]at hp
 cases hv5:Nat.beq (E.vari rid i) 1005 with
 |true=>
  rw[hv5]at hp
  simp only[cond_true]at hp
  cases hsg:E.sig f with
  |none=>rw[hsg]at hp;exact hp.elim
  |some sg=>
  rw[hsg]at hp
  obtain⟨hio,hp⟩:=hp
  simp only[Bool.and_eq_true]at hio
  obtain⟨hio,hb⟩:=hio
  refine op_callIO hsig hsg hio (fun fn hf hn1 hn2=> ?_) hp hs hK
  have hrf:rf f=f:=by have:=rf_add (v:=0) hb;simpa using this
  rw[hrf]at hf ⊢
  have hargs:(c.args.toList.map a.eval).toArray=c.args.map a.eval:=by
   apply Array.ext';simp
  rw[hargs]
  simp only[execOp,ho,resolve,hc,Act.eval,Deferred.ofValue,pure_bind,invoke,Array.empty_append,Array.append_empty]
  exact run_callFunc hf hn1 hn2
 |false=>
 rw[hv5]at hp
 simp only[cond_false]at hp
 obtain⟨hb,hp⟩:=hp
 refine op_callG (caps:=[]) (rs:=[]) hEE hft hsig (show CapR g [] []from rfl) (fun fn hf hn1 hn2=> ?_) hp hs hK
 rw[rf_add hb]at hf ⊢
 have hargs:(c.args.toList.map a.eval++[]).toArray=c.args.map a.eval:=by
  apply Array.ext';simp
 rw[hargs]
 simp only[execOp,ho,resolve,hc,Act.eval,Deferred.ofValue,pure_bind,invoke,Array.empty_append,Array.append_empty]
 exact run_callFunc hf hn1 hn2
theorem op_callV(hEE:∀f,EnvOK P (EE f))(hft:∀f,FrT (EE f).tab fr)(hsig:∀f,(EE f).sig=E.sig){rid i}{c:Call}{t:Tmp}(ho:o.op= .call c)(hc:c.callee= .value (.tmp t))(hp:PgR (CallOK P EE) S (opPg E rid i o) rm ws rm')(hs:Sim fr S a w g [])
 (hK:∀a' w',SimX fr (Wr.apps ws S) a' w'→K a' w'):o.wp P a w K Q:=by
 simp only[opPg,ho,hc]at hp
 have hp':PgR (CallOK P EE) S (match (S.sl t).1 with
  | .one (.fn f caps) _=>.chk (Nat.blt f 65536) (callP E (f+65536*E.vari rid i) c.args.toList caps o.dst)
  |_=>.fail) _ ws rm':=hp
 rcases sl_case S t with⟨ver,h1,h2⟩|⟨h1,h2⟩
 ·split at hp'
  ·rename_i f caps m hx
   rw[hx]at h1
   have hsl:OneR w.heap g (.fn f caps) m (a.eval (.tmp t)) (g.fp (.s t)):=hs.slot h1
   obtain⟨rs,er,hcap⟩:=fn_pt hsl
   obtain⟨hb,hp'⟩:=hp'
   refine op_callG (rs:=rs.toList) hEE hft hsig hcap (fun fn hf hn1 hn2=> ?_) hp' hs hK
   rw[rf_add hb]at hf ⊢
   have hargs:(c.args.toList.map a.eval++rs.toList).toArray=c.args.map a.eval++rs:=by
    apply Array.ext';simp
   rw[hargs]
   simp only[execOp,ho,resolve,hc,er,Deferred.ofValue,pure_bind,invoke,Array.empty_append]
   exact run_callFunc hf hn1 hn2
  ·exact hp'.elim
 ·rw[h2]at hp';exact hp'.elim
end
section
variable {P : Program} {EE : FuncId → Env} {E : Env} {fr : Fr} {S : St} {a : Act} {w w' : World} {g : Gh} {rm rm' : Nat} {ws : List Wr}
variable {o : Oper} {K : Act → World → Prop} {Q : Exit → Act → World → Prop}
theorem op_all(hE:EnvOK P E)(hEE:∀f,EnvOK P (EE f))(hsig:∀f,(EE f).sig=E.sig)(hbase:fr.base=E.base∧∀f',FrT (EE f').tab fr){rid i}(hp:PgR (CallOK P EE) S (opPg E rid i o) rm ws rm')(hs:Sim fr S a w g [])
 (hK:∀a' w',SimX fr (Wr.apps ws S) a' w'→K a' w'):o.wp P a w K Q:=by
 cases ho:o.op with
 |move x=>exact op_move ho hp hs hK
 |assign x=>exact op_assign ho hp hs hK
 |alloc t=>exact op_alloc hE hbase.1 ho hp hs hK
 |box t x=>exact op_box hE hbase.1 ho hp hs hK
 |build t ps=>exact op_build hE ho hp hs hK
 |buildSlice t n ps=>exact op_buildSlice hE ho hp hs hK
 |load t x=>exact op_load hE ho hp hs hK
 |store t x y=>exact op_store hE ho hp hs hK
 |nilCheck x=>exact op_nilCheck ho hp hs hK
 |binOp op t x y yt=>exact op_binOp hE ho hp hs hK
 |unOp op t x=>exact op_unOp hE ho hp hs hK
 |convert s t x=>exact op_convert hE ho hp hs hK
 |fieldAddr t x n=>exact op_fieldAddr hE ho hp hs hK
 |indexAddr t x ix=>exact op_indexAddr hE ho hp hs hK
 |index t x ix=>exact op_index hE ho hp hs hK
 |slice t x lo hi mx=>exact op_slice hE ho hp hs hK
 |makeSlice t l c=>exact op_makeSlice hE ho hp hs hK
 |pick c x y=>exact op_pick ho hp hs hK
 |extract x n=>exact op_extract ho hp hs hK
 |field t x n=>exact op_field hE ho hp hs hK
 |makeMap t r=>exact op_makeMap ho hp hs hK
 |lookup t x ix ok=>exact op_lookup hE ho hp hs hK
 |mapUpdate t x ix y=>exact op_mapUpdate hE ho hp hs hK
 |makeFunc fn fi cp=>exact op_makeFunc ho hp hs hK
 |call c=>
  cases hc:c.callee with
  |builtin b=>
   cases b with
   |len=>exact op_len hE ho hc hp hs hK
   |append=>exact op_append hE ho hc hp hs hK
   |clear=>exact op_clear hE ho hc hp hs hK
   |min=>exact op_min ho hc hp hs hK
   |max=>exact op_max ho hc hp hs hK
   |_=>simp only[opPg,ho,hc]at hp;exact hp.elim
  |value x=>
   cases x with
   |func f=>exact op_callF hEE hbase.2 hsig ho hc hp hs hK
   |tmp t=>exact op_callV hEE hbase.2 hsig ho hc hp hs hK
   |_=>simp only[opPg,ho,hc]at hp;exact hp.elim
  |invoke r n=>simp only[opPg,ho,hc]at hp;exact hp.elim
 |_=>simp only[opPg,ho]at hp;exact hp.elim
theorem skip_ok{ops:Array Oper}(hs:Sim fr S a w g []):SimX fr (Wr.apps (wDst o.dst .none) S) (a.put o.dst undef) w:=
 sim_dst hs (s:=.none) (fp:=[]) ⟨rfl,rfl⟩ (by simp) (by simp)
theorem stepOK(hE:EnvOK P E)(hEE:∀f,EnvOK P (EE f))(hsig:∀f,(EE f).sig=E.sig)(hbase:fr.base=E.base∧∀f',FrT (EE f').tab fr){ops:Array Oper}{rid:Nat}:StepOK P (CallOK P EE) E ops rid Q fr:=by
 intro i o S ws rm a w K ho hr ⟨g,hs⟩ hK
 unfold wpOp
 rw[ho]
 unfold OpR at hr
 cases hg:o.guard with
 |none=>
  rw[hg]at hr
  have hw:Region.wanted o (yielded ops a.tmps)=true:=by simp[Region.wanted,hg]
  simp only[hw,if_true]
  exact .inl (op_all hE hEE hsig hbase hr hs hK)
 |some jw=>
  obtain⟨j,want⟩:=jw
  rw[hg]at hr
  obtain⟨t,ht,hr⟩:=hr
  have hwd:∀v,a.tmps[t]? =some v→Region.wanted o (yielded ops a.tmps)=((match v with| .bool b=>some b|_=>none)==some want):=fun v hv=>by
   simp only[Region.wanted,hg,yielded,ht,Option.bind_some,hv]
   cases v<;>rfl
  rcases hr with⟨h1,rfl,_⟩|⟨b,m,h1,hr⟩
  ·have hv:a.tmps[t]? =some undef:=by
    rcases sl_case S t with⟨ver,q1,_⟩|⟨q1,q2⟩
    ·obtain⟨r,k1,k2⟩:=hs.slots t _ q1
     rw[h1]at k2
     rw[k1];exact congrArg some k2.1
    ·rw[q2]at h1;cases h1
   have hw:=hwd _ hv
   have hw:Region.wanted o (yielded ops a.tmps)=false:=by rw[hw];rfl
   simp only[hw,Bool.false_eq_true,if_false]
   exact hK _ _ (skip_ok (ops:=ops) hs)
  ·have hv:a.tmps[t]? =some (.bool b):=by
    rcases sl_case S t with⟨ver,q1,_⟩|⟨q1,q2⟩
    ·obtain⟨r,k1,k2⟩:=hs.slots t _ q1
     rw[h1]at k2
     have k2:OneR w.heap g (.bool b) m r (g.fp (.s t)):=k2
     rw[k1]
     have hm:m.isPt=false:=by
      cases m with
      |pt=>obtain⟨_,k|⟨f,_,_,k,_⟩⟩:=k2
           ·obtain⟨_,_,_,k,_⟩:=k;cases k
           ·cases k
      |_=>rfl
     have:=rv_bool (k2.rv hm)
     rw[this]
    ·rw[q2]at h1;cases h1
   have hw:=hwd _ hv
   rcases hr with⟨rfl,hp⟩|⟨hne,rfl,_⟩
   ·have hw:Region.wanted o (yielded ops a.tmps)=true:=by rw[hw];simp
    simp only[hw,if_true]
    exact .inl (op_all hE hEE hsig hbase hp hs hK)
   ·have hw:Region.wanted o (yielded ops a.tmps)=false:=by rw[hw];simpa using hne
    simp only[hw,Bool.false_eq_true,if_false]
    exact hK _ _ (skip_ok (ops:=ops) hs)
end
section
variable {R : Type} {C : FuncId → List V → List V → Prop} {E : Env} {G : FuncId → List V → (List V → Option R) → Option R}
theorem forceM_eq{β:Type}(m:M)(K:M→β):forceM m K=K m:=by
 cases m with
 |own d=>cases d<;>rfl
 |_=>rfl
theorem forceCs_eq{β:Type}:∀(cs:List (V×M)) (K:List (V×M)→β),forceCs cs K=K cs
 | [],K=>rfl
 |(v,m)::r,K=>by simp only[forceCs,forceM_eq,forceCs_eq r]
theorem forceSl_eq{β:Type}(s:Sl)(K:Sl→β):forceSl s K=K s:=by cases s<;>simp only[forceSl,forceM_eq,forceCs_eq,forceN_eq]
theorem forceT_eq{β:Type}:∀(l:List (Sl×Nat)) (K:List (Sl×Nat)→β),forceT l K=K l
 | [],K=>rfl
 |(s,v)::r,K=>by simp only[forceT];rw[forceSl_eq,forceN_eq,forceT_eq]
theorem forceBx_eq{β:Type}:∀(b:Bx) (K:Bx→β),forceBx b K=K b
 | [],K=>rfl
 |⟨v,m,ver,fx⟩::r,K=>by
  simp only[forceBx,forceM_eq,forceN_eq]
  cases fx<;>simp only[forceB,forceBx_eq r]
theorem forceBs_eq{β:Type}:∀(l:List (Option Bx)) (K:List (Option Bx)→β),forceBs l K=K l
 | [],K=>rfl
 |none::r,K=>by simp only[forceBs];rw[forceBs_eq]
 |some b::r,K=>by simp only[forceBs];rw[forceBx_eq,forceBs_eq]
theorem force_eq{β:Type}(S:St)(K:St→β):S.force K=K S:=by
 unfold St.force;rw[forceT_eq,forceBs_eq]
theorem setK_eq{α β:Type}:∀(l:List α) (n:Nat) (x:α) (K:List α→β),setK l n x K=K (l.set n x)
 | [],_,_,K=>rfl
 |a::r,0,x,K=>rfl
 |a::r,n+1,x,K=>by rw[setK,setK_eq];rfl
theorem bxK_eq{β:Type}{S:St}{b:Nat}{x:Option Bx}{K:St→β}:bxK S b x K=K {S with boxes:=S.boxes.set b x}:=by
 unfold bxK;cases x<;>simp only[forceBx_eq,setK_eq]
theorem appK_eq{β:Type}{w:Wr}{S:St}{K:St→β}:w.appK S K=K (w.app S):=by
 cases w<;>simp only[Wr.appK,Wr.app,forceSl_eq,forceN_eq,setK_eq,bxK_eq]
theorem appsK_eq{β:Type}:∀(ws:List Wr) (S:St) (K:St→β),Wr.appsK ws S K=K (Wr.apps ws S)
 | [],S,K=>rfl
 |w::ws,S,K=>by rw[Wr.appsK,appK_eq,appsK_eq];rfl
theorem knowsK_eq{β:Type}{S:St}{t:Nat}{m:M}{b:Bool}{K:St→β}:S.knowsK t m b K=K (S.knows t m b):=by
 unfold St.knowsK St.knows;simp only[forceN_eq,setK_eq]
theorem oneOp_some(hG:∀f args (K:List V→Option R) r,G f args K=some r→∃o,C f args o∧K o=some r){rid i:Nat}{o:Oper}{run:Bool}{S:St}{rm:Nat}{K:St→Nat→Nat→Option R}{r:R}
 (h:oneOp E G rid i o run S rm K=some r):∃ws rm',((run=true∧PgR C S (opPg E rid i o) rm ws rm')∨(run=false∧ws=wDst o.dst .none∧rm'=rm))∧K (Wr.apps ws S) rm' (Wr.bits ws)=some r:=by
 unfold oneOp at h
 cases run with
 |true=>
  obtain⟨ws,rm',h1,h2⟩:=run_rel hG S _ _ _ _ h
  simp only[appsK_eq,forceN_eq]at h2
  exact⟨ws,rm',.inl ⟨rfl,h1⟩,h2⟩
 |false=>
  obtain⟨ws,rm',h1,h2⟩:=run_rel hG S _ _ _ _ h
  simp only[appsK_eq,forceN_eq]at h2
  exact⟨ws,rm',.inr ⟨rfl,h1.1,h1.2⟩,h2⟩
theorem knows_eq{S:St}{t:Nat}{m:M}{b:Bool}(h:(S.sl t).1= .one (.bool b) m):S.knows t m b=S:=by
 unfold St.knows
 have:S.tmps.set t (.one (.bool b) m,(S.sl t).2)=S.tmps:=by
  rcases sl_case S t with⟨ver,q1,q2⟩|⟨q1,q2⟩
  ·rw[h]at q1
   apply List.ext_getElem?
   intro i
   rw[List.getElem?_set]
   by_cases e:t=i
   ·subst e
    have:=(List.getElem?_eq_some_iff.1 q1).1
    rw[if_pos rfl,if_pos this,q2,q1]
   ·rw[if_neg e]
  ·rw[q2]at h;cases h
 rw[this]
theorem guardedOp_some(hG:∀f args (K:List V→Option R) r,G f args K=some r→∃o,C f args o∧K o=some r){ops:Array Oper}{rid i:Nat}{o:Oper}{S:St}{K:St→Nat→Nat→Option R}{r:R}
 (h:guardedOp E G ops rid i o S K=some r):∃ws rm,OpR C E ops rid i o S ws rm∧K (Wr.apps ws S) rm (Wr.bits ws)=some r:=by
 unfold guardedOp at h
 unfold OpR
 cases hg:o.guard with
 |none=>
  rw[hg]at h
  obtain⟨ws,rm,⟨_,h1⟩|⟨h1,_⟩,h2⟩:=oneOp_some hG h
  ·exact⟨ws,rm,h1,h2⟩
  ·cases h1
 |some jw=>
  obtain⟨j,want⟩:=jw
  rw[hg]at h
  cases ht:(ops[j]?).bind (·.dst)with
  |none=>simp only[ht]at h;cases h
  |some t=>
   simp only[ht]at h
   cases hx:(S.sl t).1 with
   |none=>
    rw[hx]at h
    obtain⟨ws,rm,⟨h1,_⟩|⟨_,h1,h3⟩,h2⟩:=oneOp_some hG h
    ·cases h1
    ·exact⟨ws,rm,⟨t,ht,.inl ⟨hx,h1,h3⟩⟩,h2⟩
   |one v m=>
    rw[hx]at h
    obtain⟨b,rfl,h1⟩:=asBool_some h
    cases b with
    |true=>
     simp only[cond_true]at h1
     rw[knowsK_eq,knows_eq hx]at h1
     obtain⟨ws,rm,h3,h2⟩:=oneOp_some hG h1
     refine⟨ws,rm,⟨t,ht,.inr ⟨true,m,hx,?_⟩⟩,h2⟩
     rcases h3 with⟨e,h3⟩|⟨e,h3,h4⟩
     ·exact .inl ⟨e.symm,h3⟩
     ·exact .inr ⟨by rw[e];simp,h3,h4⟩
    |false=>
     simp only[cond_false]at h1
     rw[knowsK_eq,knows_eq hx]at h1
     obtain⟨ws,rm,h3,h2⟩:=oneOp_some hG h1
     refine⟨ws,rm,⟨t,ht,.inr ⟨false,m,hx,?_⟩⟩,h2⟩
     rcases h3 with⟨e,h3⟩|⟨e,h3,h4⟩
     ·exact .inl ⟨by simpa using e.symm,h3⟩
     ·exact .inr ⟨by simpa using e,h3,h4⟩
   |_=>rw[hx]at h;cases h
theorem runOps_some(hG:∀f args (K:List V→Option R) r,G f args K=some r→∃o,C f args o∧K o=some r){ops:Array Oper}{rid:Nat}:∀{L:List Nat} {S:St} {tr:List (Nat×Nat×Nat)} {K:St→List (Nat×Nat×Nat)→Option R} {r:R},
 runOps E G ops rid L S tr K=some r→∃S2 tr2,RunR C E ops rid L S tr2 S2∧K S2 (tr2.reverse++tr)=some r
 | [],S,tr,K,r,h=>⟨S,[],⟨rfl,rfl⟩,h⟩
 |i::L,S,tr,K,r,h=>by
  simp only[runOps]at h
  cases ho:ops[i]? with
  |none=>rw[ho]at h;cases h
  |some o=>
   rw[ho]at h
   obtain⟨ws,rm,h1,h2⟩:=guardedOp_some hG h
   obtain⟨S2,tr2,h3,h4⟩:=runOps_some hG h2
   exact⟨S2,(i,rm,Wr.bits ws)::tr2,⟨o,ws,rm,tr2,ho,h1,rfl,h3⟩,by simpa using h4⟩
theorem RunR.pw{ops:Array Oper}{rid:Nat}:∀{L:List Nat} {S S2:St} {tr},RunR C E ops rid L S tr S2→tr.map (·.1)=L
 | [],_,_,_,h=>by rw[h.1];rfl
 |i::L,_,_,_,⟨o,ws,rm,tr',_,_,e,h⟩=>by rw[e];simp[RunR.pw h]
inductive RunP (C:FuncId→List V→List V→Prop) (E:Env) (ops:Array Oper) (rid:Nat):List Nat→St→Option Int→St→Prop
 |nil {S:St}:RunP C E ops rid [] S none S
 |norm {i:Nat} {L:List Nat} {S S2:St} {o:Oper} {ws:List Wr} {rm:Nat} {p:Option Int}:ops[i]? =some o→OpR C E ops rid i o S ws rm→RunP C E ops rid L (Wr.apps ws S) p S2→RunP C E ops rid (i::L) S p S2
 |callN {i:Nat} {L:List Nat} {S S2:St} {o:Oper} {ws:List Wr} {rm t:Nat} {p:Option Int} {f:FuncId} {xs:List Operand}:ops[i]? =some o→panF E o=some (f,xs)→PgR C S (callQ E f xs o.dst) 0 (.slot t .undef::ws) rm→RunP C E ops rid L (Wr.apps ws S) p S2→RunP C E ops rid (i::L) S p S2
 |callP {i:Nat} {L:List Nat} {S:St} {o:Oper} {ws:List Wr} {rm t:Nat} {k:IntKind} {n:Int} {m:M} {f:FuncId} {xs:List Operand}:ops[i]? =some o→panF E o=some (f,xs)→PgR C S (callQ E f xs o.dst) 0 (.slot t (.one (.int k n) m)::ws) rm→RunP C E ops rid (i::L) S (some n) (Wr.apps ws S)
 |throw {i j:Nat} {L:List Nat} {S:St} {o o2:Oper} {ws:List Wr} {rm t':Nat} {k:IntKind} {n:Int} {m:M} {x:Operand} {t:Nat}:ops[i]? =some o→ops[j]? =some o2→mkP E o (some o2)=some (x,t)→t<S.tmps.length→PgR C S (throwP x t) 0 (.slot t' (.one (.int k n) m)::ws) rm→RunP C E ops rid (i::j::L) S (some n) (Wr.apps ws S)
theorem marked_some{ws:List Wr}{S:St}{K:Option Int→St→Option R}{r:R}(h:marked ws S K=some r):
 (∃t k n m ws',ws= .slot t (.one (.int k n) m)::ws'∧K (some n) (Wr.apps ws' S)=some r)∨(∃t ws',ws= .slot t .undef::ws'∧K none (Wr.apps ws' S)=some r):=by
 unfold marked at h
 split at h
 ·rw[appsK_eq]at h;exact .inl ⟨_,_,_,_,_,rfl,h⟩
 ·rw[appsK_eq]at h;exact .inr ⟨_,_,rfl,h⟩
 ·cases h
theorem mkP_some{o:Oper}{q:Option Oper}{y:Operand×Nat}(h:mkP E o q=some y):∃o2,q=some o2:=by
 cases q with
 |some o2=>exact⟨o2,rfl⟩
 |none=>unfold mkP at h;split at h<;>first|(cases h;done)|(rename_i hq;cases hq)
theorem runSeq_some(hG:∀f args (K:List V→Option R) r,G f args K=some r→∃o,C f args o∧K o=some r){ops:Array Oper}{rid:Nat}:∀{L:List Nat} {S:St} {K:Option Int→St→Option R} {r:R},
 runSeq E G ops rid L S K=some r→∃p S2,RunP C E ops rid L S p S2∧K p S2=some r
 | [],S,K,r,h=>⟨none,S,.nil,h⟩
 |i::L,S,K,r,h=>by
  simp only[runSeq]at h
  cases ho:ops[i]? with
  |none=>rw[ho]at h;cases h
  |some o=>
   rw[ho]at h
   dsimp only at h
   cases hp:panF E o with
   |some fx=>
    obtain⟨f,xs⟩:=fx
    rw[hp]at h
    dsimp only at h
    obtain⟨ws,rm',h1,h2⟩:=run_rel hG S _ _ _ _ h
    rcases marked_some h2 with⟨t,k,n,m,ws',rfl,h3⟩|⟨t,ws',rfl,h3⟩
    ·exact⟨_,_,.callP ho hp h1,h3⟩
    ·obtain⟨p,S2,h4,h5⟩:=runSeq_some hG h3
     exact⟨p,S2,.callN ho hp h1 h4,h5⟩
   |none=>
    rw[hp]at h
    dsimp only at h
    cases hm:mkP E o (L.head?.bind fun j=>ops[j]?)with
    |some xt=>
     obtain⟨x,t⟩:=xt
     rw[hm]at h
     dsimp only at h
     obtain⟨o2,hq⟩:=mkP_some hm
     cases hlt:Nat.blt t S.tmps.length with
     |false=>rw[hlt]at h;cases h
     |true=>
     rw[hlt]at h
     have hlt:t<S.tmps.length:=by rw[Nat.blt_eq]at hlt;exact hlt
     simp only[Bool.not_true,cond_false]at h
     obtain⟨ws,rm',h1,h2⟩:=run_rel hG S _ _ _ _ h
     cases L with
     |nil=>cases hq
     |cons j L=>
      have hj:ops[j]? =some o2:=by simpa using hq
      rw[hq]at hm
      rcases marked_some h2 with⟨t',k,n,m,ws',rfl,h3⟩|⟨t',ws',rfl,h3⟩
      ·exact⟨_,_,.throw ho hj hm hlt h1,h3⟩
      ·cases h3
    |none=>
     rw[hm]at h
     dsimp only at h
     obtain⟨ws,rm,h1,h2⟩:=guardedOp_some hG h
     obtain⟨p,S2,h3,h4⟩:=runSeq_some hG h2
     exact⟨p,S2,.norm ho h1 h3,h4⟩
end
section
variable {P : Program} {EE : FuncId → Env} {E : Env} {fr : Fr} {Q : Exit → Act → World → Prop} {ops : Array Oper} {rid : Nat}
theorem panF_some{o:Oper}{f:FuncId}{xs:List Operand}(h:panF E o=some (f,xs)):o.guard=none∧∃c:Call,o.op= .call c∧c.callee= .value (.func f)∧xs=c.args.toList∧Nat.blt f 65536=true:=by
 unfold panF at h
 split at h
 ·rename_i c hg ho
  refine⟨hg,c,ho,?_⟩
  split at h
  ·rename_i f' hc
   split at h
   ·rename_i g hs
    cases hp:g.pan&&Nat.blt f' 65536 with
    |false=>rw[hp]at h;cases h
    |true=>
     rw[hp]at h
     simp only[cond_true,Option.some.injEq,Prod.mk.injEq]at h
     obtain⟨rfl,rfl⟩:=h
     simp only[Bool.and_eq_true]at hp
     exact⟨hc,rfl,hp.2⟩
   ·cases h
  ·cases h
 ·cases h
theorem call_run{o:Oper}{c:Call}{f:FuncId}{a:Act}{w:World}(ho:o.op= .call c)(hc:c.callee= .value (.func f))(hb:Nat.blt f 65536=true):
 ∀fn:Func,P.funcs[rf f]? =some fn→(fn.name== "runtime.NumGoroutine")=false→fn.body.isNone=false→(execOp a.eval o).run P w= .ok (.enter (rf f) (c.args.toList.map a.eval).toArray) w:=by
 intro fn hf hn1 hn2
 have e:rf f=f:=by
  have h:f<65536:=by rw[Nat.blt_eq]at hb;exact hb
  exact Nat.mod_eq_of_lt h
 rw[e]at hf ⊢
 have hargs:(c.args.toList.map a.eval).toArray=c.args.map a.eval:=by apply Array.ext';simp
 rw[hargs]
 simp only[execOp,ho,resolve,hc,Act.eval,Deferred.ofValue,pure_bind,invoke,Array.empty_append,Array.append_empty]
 exact run_callFunc hf hn1 hn2
theorem throwOK_ok(hE:EnvOK P E){t t':Nat}{T:TypeId}(h:throwOK E t t' T=true):t=t'∧T=E.panT∧P.underlying E.panT=some (.int .i64):=by
 unfold throwOK at h
 simp only[Bool.and_eq_true]at h
 obtain⟨⟨e1,e2⟩,e3⟩:=h
 have e1:t=t':=Nat.eq_of_beq_eq_true e1
 have e2:T=E.panT:=Nat.eq_of_beq_eq_true e2
 subst e1;subst e2
 refine⟨rfl,rfl,?_⟩
 cases ht:E.ty E.panT with
 |none=>rw[ht]at e3;cases e3
 |some d=>
  rw[ht]at e3
  dsimp only at e3
  obtain⟨u,q1,q2⟩:=(hE _ _ ht).under
  rw[q1]
  split at e3
  ·rename_i hd';rw[ut_int (q2.trans hd')]
  ·cases e3
theorem wpOps_of_runP(hE:EnvOK P E)(hEE:∀f,EnvOK P (EE f))(hsig:∀f,(EE f).sig=E.sig)(hpan:∀f,(EE f).panT=E.panT)(hbase:fr.base=E.base∧∀f',FrT (EE f').tab fr){L:List Nat}{S S2:St}{p:Option Int}(h:RunP (CallOK P EE) E ops rid L S p S2):
 ∀{a:Act} {w:World},SimX fr S a w→(p=none→∀a' w',SimX fr S2 a' w'→Q .normal a' w')→(∀n,p=some n→∀a' w',SimX fr S2 a' w'→Q (.panic (thrown E.panT n)) a' w')→wpOps P ops Q L a w:=by
 induction h with
 |nil=>intro a w hs hq hqp;exact hq rfl a w hs
 |norm h1 h2 h3 ih=>
  intro a w hs hq hqp
  rw[wpOps_cons]
  exact stepOK hE hEE hsig hbase _ _ _ _ _ a w _ h1 h2 hs fun a' w' hs'=>ih hs' hq hqp
 | @callN i L S S2 o ws rm t p f xs h1 h2 h3 h4 ih=>
   intro a w hs hq hqp
   rw[wpOps_cons]
   obtain⟨hg,c,ho,hc,rfl,hb⟩:=panF_some h2
   obtain⟨g,hs⟩:=hs
   unfold wpOp
   rw[h1]
   have hw:Region.wanted o (yielded ops a.tmps)=true:=by simp[Region.wanted,hg]
   simp only[hw,if_true]
   refine .inl (op_callQ hEE hbase.2 hsig hpan (call_run ho hc hb) h3 hs (fun t' ws' e a' w' hs'=> ?_) (fun t' k n m ws' e=> ?_))
   ·simp only[List.cons.injEq]at e
    obtain⟨_,rfl⟩:=e
    exact ih hs' hq hqp
   ·simp only[List.cons.injEq,Wr.slot.injEq]at e;exact absurd e.1.2 (by simp)
 | @callP i L S o ws rm t k n m f xs h1 h2 h3=>
   intro a w hs hq hqp
   rw[wpOps_cons]
   obtain⟨hg,c,ho,hc,rfl,hb⟩:=panF_some h2
   obtain⟨g,hs⟩:=hs
   unfold wpOp
   rw[h1]
   have hw:Region.wanted o (yielded ops a.tmps)=true:=by simp[Region.wanted,hg]
   simp only[hw,if_true]
   refine .inl (op_callQ hEE hbase.2 hsig hpan (call_run ho hc hb) h3 hs (fun t' ws' e=> ?_) (fun t' k n m ws' e a' w' hs'=> ?_))
   ·simp only[List.cons.injEq,Wr.slot.injEq]at e;exact absurd e.1.2 (by simp)
   ·simp only[List.cons.injEq,Wr.slot.injEq,Sl.one.injEq,V.int.injEq]at e
    obtain⟨⟨_,⟨_,rfl⟩,_⟩,rfl⟩:=e
    exact hqp _ rfl a' w' hs'
 | @throw i j L S o o2 ws rm t' k n m x t h1 h2 h3 hlt h4=>
   intro a w hs hq hqp
   obtain⟨g,hs⟩:=hs
   rw[wpOps_cons]
   unfold mkP at h3
   split at h3
   ·rename_i T x' t2 p hg hop hdst hp
    cases hp
    split at h3
    ·rename_i t3 hg2 hop2
     cases hck:throwOK E t2 t3 T with
     |false=>rw[hck]at h3;cases h3
     |true=>
      rw[hck]at h3
      simp only[cond_true,Option.some.injEq,Prod.mk.injEq]at h3
      obtain⟨rfl,rfl⟩:=h3
      obtain⟨rfl,rfl,hu⟩:=throwOK_ok (P:=P) hE hck
      unfold throwP at h4
      obtain⟨v,rm1,h4,hv⟩:=val1_ok h4 hs
      obtain⟨kd,n',rfl,hk,h4,_⟩:=h4
      have hk:kd= .i64:=by simpa using hk
      subst hk
      simp only[panW,List.cons.injEq,Wr.slot.injEq,Sl.one.injEq,V.int.injEq]at h4
      obtain⟨⟨_,⟨_,rfl⟩,_⟩,rfl⟩:=h4
      have hx:=rv_int hv
      unfold wpOp
      rw[h1]
      have hw:Region.wanted o (yielded ops a.tmps)=true:=by simp[Region.wanted,hg]
      simp only[hw,if_true]
      refine .inl ?_
      have hs1:=sim_dst hs (dst:=some t2) (s:=.undef) (fp:=[]) (r:=.iface E.panT (.int .i64 n)) rfl (by simp) (by simp)
      have hrun:(execOp a.eval o).run P w= .ok (.value (.iface E.panT (.int .i64 n))) w:=by
       simp only[execOp,hop,Instr.makeInterface];rw[hx];simp[run_underlying hu]
      unfold Oper.wp
      rw[hrun,Oper.upon_value,hdst,wpOps_cons]
      have hw2:Region.wanted o2 (yielded ops (a.put (some t2) (.iface E.panT (.int .i64 n))).tmps)=true:=by simp[Region.wanted,hg2]
      unfold wpOp
      rw[h2]
      simp only[hw2,if_true]
      refine .inl ?_
      have hev:(a.put (some t2) (.iface E.panT (.int .i64 n))).eval (.tmp t2)= .iface E.panT (.int .i64 n):=by
       have hsz:=hs.size
       simp[Act.put,Act.eval,Array.getD,hsz,hlt]
      unfold Oper.wp
      have hrun2:(execOp (a.put (some t2) (.iface E.panT (.int .i64 n))).eval o2).run P w= .halt (.panic (.iface E.panT (.int .i64 n))) w:=by
       simp only[execOp,hop2];rw[hev];rfl
      rw[hrun2,Oper.upon_panic]
      exact hqp n rfl _ _ hs1
    ·cases h3
   ·cases h3
end
section
variable {R : Type} {C : FuncId → List V → List V → Prop} {E : Env} {G : FuncId → List V → (List V → Option R) → Option R}
theorem allApt_of{ops:List Oper}{tr:List (Nat×Nat×Nat)}(h:apart (befs ops []) tr=true)(hd:tr.Pairwise fun x y=>y.1<x.1):AllApt ops tr:=by
 have h1:=apart_all h
 have hdn:∀i j,((befs ops []).getD i 0).testBit j=true→Dn ops i j:=befs_dn ops [] [] rfl rfl (fun i j hb=>by simp at hb)
 intro x hx y hy hlt hnd
 obtain⟨l1,l2,rfl⟩:=List.append_of_mem hx
 rw[List.pairwise_append]at h1 hd
 rcases List.mem_append.1 hy with hy|hy
 ·have:=hd.2.2 y hy x (List.mem_cons_self ..);omega
 ·rcases List.mem_cons.1 hy with rfl|hy
  ·omega
  ·rcases(List.pairwise_cons.1 h1.2.1).1 y hy with k|k
   ·exact absurd (hdn _ _ k) hnd
   ·exact k
end
open Classical
def Pat.kept(p:Pat)(b:Nat):Bool:=match p.boxes.getD b none with|some _=>true|none=>false
def PSl.ok(p:Pat):PSl→Bool
 | .stat (.one (.ptr b _) _)=>p.kept b
 | .stat (.one (.fn _ cs) _)=>cs.all fun v=>match v with| .ptr b _=>p.kept b|_=>true
 | .stat (.ref (.b b _) _)=>p.kept b
 |_=>true
def PCell.ok(p:Pat):PCell→Bool
 | .stat c=>match c.v with| .ptr b _=>p.kept b|_=>true
 |_=>true
def Pat.okFor(kp0:List Nat)(p:Pat):Bool:=
 (kp0.all p.kept&&p.tmps.all (PSl.ok p)&&p.boxes.all fun b=>match b with|some cs=>cs.all (PCell.ok p)|none=>true)||
   (match p.tmps,p.boxes with| [],[]=>true|_,_=>false)
def SlW(kp:Nat→Prop)(S:St)(s y:Sl):Prop:=
 y= .undef∨(∃v m m',s= .one v m'∧m'.gives m=true∧y= .one v m)∨(∃l v,s= .ref l v∧v=S.verAt l∧y= .ref l 0∧∀b j,l= .b b j→kp b)∨
  (∃b o m',s= .one (.ptr b o) m'∧y= .one (.ptr b o) .pt∧kp b)∨(∃m m',s= .one .nilp m'∧m.isPt=false∧y= .one .nilp m)∨
  (∃f cs m',s= .one (.fn f cs) m'∧y= .one (.fn f cs) .pt∧∀v∈cs,∀b o,v= .ptr b o→kp b)
def CeW(kp:Nat→Prop)(c y:Cell):Prop:=
 y.fix=c.fix∧((y.v=c.v∧c.m.gives y.m=true)∨(y.v=c.v∧y.m= .pt∧∃b o,c.v= .ptr b o∧kp b)∨(y.v= .nilp∧c.v= .nilp∧y.m.isPt=false)∨(y.v= .undef∧y.m= .pr))
section
variable {R : Type}
theorem capsEq_ok:∀{a b:List V},capsEq a b=true→a=b
 | [],[],_=>rfl
 |v::vs,u::us,h=>by
  simp only[capsEq,Bool.and_eq_true]at h
  obtain⟨h1,h2⟩:=h
  have e:=capsEq_ok h2
  split at h1
  ·simp only[Bool.and_eq_true,beq_iff_eq]at h1
   rw[h1.1,h1.2,e]
  ·cases h1
 | [],_::_,h=>by simp[capsEq]at h
 |_::_,[],h=>by simp[capsEq]at h
theorem beqStat_ok{kp:Nat→Prop}{S:St}{p s:Sl}(h:p.beqStat (S.norm s)=true)(hk1:∀b o m,p= .one (.ptr b o) m→kp b)(hk2:∀b j v,p= .ref (.b b j) v→kp b)(hk3:∀f cs m,p= .one (.fn f cs) m→∀v∈cs,∀b o,v= .ptr b o→kp b):SlW kp S s p:=by
 cases p with
 |undef=>exact .inl rfl
 |one v m=>
  cases v with
  |ptr b o=>
   cases hs:S.norm s with
   |one v' m'=>
    rw[hs]at h
    cases v' with
    |ptr b' o'=>
     simp only[Sl.beqStat,Bool.and_eq_true,beq_iff_eq]at h
     obtain⟨⟨rfl,rfl⟩,hm⟩:=h
     have hm:m= .pt:=by cases m<;>simp[M.isPt]at hm;rfl
     subst hm
     have:s= .one (.ptr b o) m':=by
      cases s with
      |one v2 m2=>exact hs
      |ref l v2=>
       exfalso
       cases l with
       |s t=>simp only[St.norm]at hs;cases hq:(v2==(S.sl t).2)<;>rw[hq]at hs<;>cases hs
       |b b2 j2=>
        simp only[St.norm]at hs
        split at hs
        ·split at hs
         ·rename_i c _;cases hq:(v2==c.ver)<;>rw[hq]at hs<;>cases hs
         ·cases hs
        ·cases hs
      |_=>cases hs
     exact .inr (.inr (.inr (.inl ⟨b,o,m',this,rfl,hk1 b o _ rfl⟩)))
    |_=>cases h
   |_=>rw[hs]at h;cases h
  |nilp=>
   cases hs:S.norm s with
   |one v' m'=>
    rw[hs]at h
    cases v' with
    |nilp=>
     have hm:m.isPt=false:=by simpa [Sl.beqStat]using h
     have:s= .one .nilp m':=by
      cases s with
      |one v2 m2=>exact hs
      |ref l v2=>
       exfalso
       cases l with
       |s t=>simp only[St.norm]at hs;cases hq:(v2==(S.sl t).2)<;>rw[hq]at hs<;>cases hs
       |b b2 j2=>
        simp only[St.norm]at hs
        split at hs
        ·split at hs
         ·rename_i c _;cases hq:(v2==c.ver)<;>rw[hq]at hs<;>cases hs
         ·cases hs
        ·cases hs
      |_=>cases hs
     exact .inr (.inr (.inr (.inr (.inl ⟨m,m',this,hm,rfl⟩))))
    |_=>cases h
   |_=>rw[hs]at h;cases h
  |fn f cs=>
   cases hs:S.norm s with
   |one v' m'=>
    rw[hs]at h
    cases v' with
    |fn f' cs'=>
     simp only[Sl.beqStat,Bool.and_eq_true,beq_iff_eq]at h
     obtain⟨⟨⟨rfl,hc⟩,hm⟩,_⟩:=h
     have hc:=capsEq_ok hc
     subst hc
     have hm:m= .pt:=by cases m<;>simp[M.isPt]at hm;rfl
     subst hm
     have:s= .one (.fn f cs) m':=by
      cases s with
      |one v2 m2=>exact hs
      |ref l v2=>
       exfalso
       cases l with
       |s t=>simp only[St.norm]at hs;cases hq:(v2==(S.sl t).2)<;>rw[hq]at hs<;>cases hs
       |b b2 j2=>
        simp only[St.norm]at hs
        split at hs
        ·split at hs
         ·rename_i c _;cases hq:(v2==c.ver)<;>rw[hq]at hs<;>cases hs
         ·cases hs
        ·cases hs
      |_=>cases hs
     exact .inr (.inr (.inr (.inr (.inr ⟨f,cs,m',this,rfl,fun v hv b o e=>hk3 f cs _ rfl v hv b o e⟩))))
    |_=>simp only[Sl.beqStat]at h;cases h
   |_=>rw[hs]at h;simp only[Sl.beqStat]at h;cases h
  |_=>cases hs:S.norm s with
   |one v' m'=>rw[hs]at h;cases v'<;>cases h
   |_=>rw[hs]at h;cases h
 |ref l v=>
  cases s with
  |ref l' v'=>
   cases l' with
   |s t'=>
    simp only[St.norm]at h
    cases hq:(v'==(S.sl t').2)with
    |false=>rw[hq]at h;cases l<;>cases h
    |true=>
     rw[hq]at h
     cases l with
     |s t=>
      simp only[cond_true,Sl.beqStat,Bool.and_eq_true,beq_iff_eq]at h
      obtain⟨rfl,rfl⟩:=h
      exact .inr (.inr (.inl ⟨.s t,v',rfl,by simpa [St.verAt]using hq,rfl,fun b j e=>by cases e⟩))
     |b b j=>cases h
   |b b' j'=>
    simp only[St.norm]at h
    cases hb:S.bx b' with
    |none=>rw[hb]at h;cases l<;>cases h
    |some cs=>
    rw[hb]at h
    simp only at h
    cases hc:cs[j']? with
    |none=>rw[hc]at h;cases l<;>cases h
    |some c=>
    rw[hc]at h
    simp only at h
    cases hq:(v'==c.ver)with
    |false=>rw[hq]at h;cases l<;>cases h
    |true=>
     rw[hq]at h
     cases l with
     |s t=>cases h
     |b b j=>
      simp only[cond_true,Sl.beqStat,Bool.and_eq_true,beq_iff_eq]at h
      obtain⟨⟨rfl,rfl⟩,rfl⟩:=h
      refine .inr (.inr (.inl ⟨.b b j,v',rfl,?_,rfl,fun b2 j2 e=>by cases e;exact hk2 b j _ rfl⟩))
      simp only[St.verAt,hb,hc];simpa using hq
  |one v' m'=>cases l<;>cases h
  |_=>cases l<;>cases h
 |_=>simp only[Sl.beqStat]at h;cases h
theorem matchS_ok{kp:Nat→Prop}{S:St}{p:Pat}(hkp:∀b,p.kept b=true→kp b):∀{ps:List PSl} {ts:List (Sl×Nat)} {X:List V→Option R} {r:R},ps.all (PSl.ok p)=true→matchS S ps ts X=some r→
 ∃vs,X vs=some r∧ts.length=ps.length∧∀rest,(instS ps (vs++rest)).2=rest∧(instS ps (vs++rest)).1.length=ps.length∧∀(t:Nat) (x:Sl×Nat),ts[t]? =some x→∃y,(instS ps (vs++rest)).1[t]? =some (y,0)∧SlW kp S x.1 y
 | [],[],X,r,_,h=>⟨[],h,rfl,fun rest=>⟨rfl,rfl,by simp⟩⟩
 | .undef::ps,(s,v)::ts,X,r,hk,h=>by
   simp only[List.all_cons,Bool.and_eq_true]at hk
   obtain⟨vs,h1,h2,h3⟩:=matchS_ok hkp hk.2 (show matchS S ps ts X=some r from h)
   refine⟨vs,h1,by simp[h2],fun rest=> ?_⟩
   obtain⟨k1,k2,k3⟩:=h3 rest
   refine⟨by simpa [instS]using k1,by simp[instS,k2],fun t x hx=> ?_⟩
   cases t with
   |zero=>exact⟨.undef,by simp[instS],.inl rfl⟩
   |succ t=>obtain⟨y,q1,q2⟩:=k3 t x (by simpa using hx);exact⟨y,by simpa [instS]using q1,q2⟩
 | .stat q::ps,(s,v)::ts,X,r,hk,h=>by
   simp only[List.all_cons,Bool.and_eq_true]at hk
   simp only[matchS]at h
   cases hq:q.beqStat (S.norm s)with
   |false=>rw[hq]at h;cases h
   |true=>
   rw[hq]at h
   obtain⟨vs,h1,h2,h3⟩:=matchS_ok hkp hk.2 (show matchS S ps ts X=some r from h)
   refine⟨vs,h1,by simp[h2],fun rest=> ?_⟩
   obtain⟨k1,k2,k3⟩:=h3 rest
   refine⟨by simpa [instS]using k1,by simp[instS,k2],fun t x hx=> ?_⟩
   cases t with
   |zero=>
    simp only[List.getElem?_cons_zero,Option.some.injEq]at hx
    subst hx
    refine⟨q,by simp[instS],beqStat_ok hq (fun b o m e=>hkp b ?_) (fun b j v e=>hkp b ?_) (fun f cs m e v hv b o ev=>hkp b ?_)⟩
    ·have:=hk.1;rw[e]at this;exact this
    ·have:=hk.1;rw[e]at this;exact this
    ·have:=hk.1;rw[e]at this
     have:=List.all_eq_true.1 (show(cs.all fun v=>match v with| .ptr b _=>p.kept b|_=>true)=true from this) v hv
     rw[ev]at this;exact this
   |succ t=>obtain⟨y,q1,q2⟩:=k3 t x (by simpa using hx);exact⟨y,by simpa [instS]using q1,q2⟩
 | .var kd m::ps,(s,ver)::ts,X,r,hk,h=>by
   simp only[List.all_cons,Bool.and_eq_true]at hk
   simp only[matchS]at h
   cases s with
   |one v m'=>
    simp only at h
    cases hg:m'.gives m with
    |false=>rw[hg]at h;cases h
    |true=>
    rw[hg]at h
    have h0:=elim_some (show kd.elim v _=some r from h)
    obtain⟨vs,h1,h2,h3⟩:=matchS_ok hkp hk.2 h0
    refine⟨v::vs,h1,by simp[h2],fun rest=> ?_⟩
    obtain⟨k1,k2,k3⟩:=h3 rest
    refine⟨by simpa [instS]using k1,by simp[instS,k2],fun t x hx=> ?_⟩
    cases t with
    |zero=>
     simp only[List.getElem?_cons_zero,Option.some.injEq]at hx
     subst hx
     exact⟨.one v m,by simp[instS],.inr (.inl ⟨v,m,m',rfl,hg,rfl⟩)⟩
    |succ t=>obtain⟨y,q1,q2⟩:=k3 t x (by simpa using hx);exact⟨y,by simpa [instS]using q1,q2⟩
   |_=>cases h
 | [],_::_,X,r,_,h=>by cases h
 | .undef::_,[],X,r,_,h=>by cases h
 | .stat _::_,[],X,r,_,h=>by cases h
 | .var _ _::_,[],X,r,_,h=>by cases h
theorem cellStat_ok{kp:Nat→Prop}{p c:Cell}(h:p.beqStat c=true)(hf:p.fix=c.fix)(hk:∀b o,p.v= .ptr b o→kp b):CeW kp c p:=by
 refine⟨hf,?_⟩
 unfold Cell.beqStat at h
 split at h
 ·rename_i b o b' o' e1 e2
  simp only[Bool.and_eq_true,beq_iff_eq]at h
  obtain⟨⟨rfl,rfl⟩,hm⟩:=h
  have hm:p.m= .pt:=by cases hp:p.m<;>first|rfl|(rw[hp]at hm;simp[M.isPt]at hm)
  exact .inr (.inl ⟨by rw[e1,e2],hm,b,o,e2,hk b o e1⟩)
 ·rename_i e1 e2
  exact .inr (.inr (.inl ⟨e1,e2,by simpa using h⟩))
 ·rename_i e1
  have hm:p.m= .pr:=by cases hp:p.m<;>first|rfl|(rw[hp]at h;cases h)
  exact .inr (.inr (.inr ⟨e1,hm⟩))
 ·cases h
theorem matchC_ok{kp:Nat→Prop}{p:Pat}(hkp:∀b,p.kept b=true→kp b):∀{ps:List PCell} {cs:Bx} {X:List V→Option R} {r:R},ps.all (PCell.ok p)=true→matchC ps cs X=some r→
 ∃vs,X vs=some r∧cs.length=ps.length∧∀rest,(instC ps (vs++rest)).2=rest∧(instC ps (vs++rest)).1.length=ps.length∧∀(j:Nat) (c:Cell),cs[j]? =some c→∃y,(instC ps (vs++rest)).1[j]? =some y∧CeW kp c y
 | [],[],X,r,_,h=>⟨[],h,rfl,fun rest=>⟨rfl,rfl,by simp⟩⟩
 | .stat q::ps,c::cs,X,r,hk,h=>by
   simp only[List.all_cons,Bool.and_eq_true]at hk
   simp only[matchC]at h
   cases hq:(q.beqStat c&&(q.fix==c.fix))with
   |false=>rw[hq]at h;cases h
   |true=>
   rw[hq]at h
   simp only[Bool.and_eq_true,beq_iff_eq]at hq
   obtain⟨vs,h1,h2,h3⟩:=matchC_ok hkp hk.2 (show matchC ps cs X=some r from h)
   refine⟨vs,h1,by simp[h2],fun rest=> ?_⟩
   obtain⟨k1,k2,k3⟩:=h3 rest
   refine⟨by simpa [instC]using k1,by simp[instC,k2],fun t x hx=> ?_⟩
   cases t with
   |zero=>
    simp only[List.getElem?_cons_zero,Option.some.injEq]at hx
    subst hx
    refine⟨q,by simp[instC],cellStat_ok hq.1 hq.2 (fun b o e=>hkp b ?_)⟩
    have:=hk.1;simp only[PCell.ok,e]at this;exact this
   |succ t=>obtain⟨y,q1,q2⟩:=k3 t x (by simpa using hx);exact⟨y,by simpa [instC]using q1,q2⟩
 | .var kd m f::ps,c::cs,X,r,hk,h=>by
   simp only[List.all_cons,Bool.and_eq_true]at hk
   simp only[matchC]at h
   cases hg:(c.m.gives m&&(f==c.fix))with
   |false=>rw[hg]at h;cases h
   |true=>
   rw[hg]at h
   simp only[Bool.and_eq_true,beq_iff_eq]at hg
   have h0:=elim_some (show kd.elim c.v _=some r from h)
   obtain⟨vs,h1,h2,h3⟩:=matchC_ok hkp hk.2 h0
   refine⟨c.v::vs,h1,by simp[h2],fun rest=> ?_⟩
   obtain⟨k1,k2,k3⟩:=h3 rest
   refine⟨by simpa [instC]using k1,by simp[instC,k2],fun t x hx=> ?_⟩
   cases t with
   |zero=>
    simp only[List.getElem?_cons_zero,Option.some.injEq]at hx
    subst hx
    exact⟨⟨c.v,m,0,f⟩,by simp[instC],hg.2,.inl ⟨rfl,hg.1⟩⟩
   |succ t=>obtain⟨y,q1,q2⟩:=k3 t x (by simpa using hx);exact⟨y,by simpa [instC]using q1,q2⟩
 | [],_::_,X,r,_,h=>by cases h
 | .stat _::_,[],X,r,_,h=>by cases h
 | .var _ _ _::_,[],X,r,_,h=>by cases h
theorem matchB_ok{kp:Nat→Prop}{p:Pat}(hkp:∀b,p.kept b=true→kp b):∀{ps:List (Option (List PCell))} {bs:List (Option Bx)} {X:List V→Option R} {r:R},(ps.all fun b=>match b with|some cs=>cs.all (PCell.ok p)|none=>true)=true→matchB ps bs X=some r→
 ∃vs,X vs=some r∧bs.length=ps.length∧(instB ps vs).length=ps.length∧∀(b:Nat) (q:Option (List PCell)),ps[b]? =some q→((q=none∧(instB ps vs)[b]? =some none)∨
  (q.isSome=true∧∃cs cs',bs[b]? =some (some cs)∧(instB ps vs)[b]? =some (some cs')∧cs'.length=cs.length∧∀(j:Nat) (c:Cell),cs[j]? =some c→∃y,cs'[j]? =some y∧CeW kp c y))
 | [],[],X,r,_,h=>⟨[],h,rfl,rfl,by simp⟩
 |none::ps,b0::bs,X,r,hk,h=>by
  simp only[List.all_cons,Bool.and_eq_true]at hk
  obtain⟨vs,h1,h2,h3,h4⟩:=matchB_ok hkp hk.2 (show matchB ps bs X=some r from h)
  refine⟨vs,h1,by simp[h2],by simp[instB,h3],fun b q hq=> ?_⟩
  cases b with
  |zero=>
   simp only[List.getElem?_cons_zero,Option.some.injEq]at hq
   exact .inl ⟨hq.symm,by simp[instB]⟩
  |succ b=>
   rcases h4 b q (by simpa using hq)with⟨k1,k2⟩|⟨k0,cs,cs',k1,k2,k3⟩
   ·exact .inl ⟨k1,by simpa [instB]using k2⟩
   ·exact .inr ⟨k0,cs,cs',by simpa using k1,by simpa [instB]using k2,k3⟩
 |some pc::ps,some b0::bs,X,r,hk,h=>by
  simp only[List.all_cons,Bool.and_eq_true]at hk
  simp only[matchB]at h
  obtain⟨v1,g1,g2,g3⟩:=matchC_ok hkp hk.1 h
  obtain⟨v2,h1,h2,h3,h4⟩:=matchB_ok hkp hk.2 g1
  obtain⟨e1,e2,e3⟩:=g3 v2
  refine⟨v1++v2,h1,by simp[h2],by simp[instB,e1,h3],fun b q hq=> ?_⟩
  cases b with
  |zero=>
   simp only[List.getElem?_cons_zero,Option.some.injEq]at hq
   subst hq
   refine .inr ⟨rfl,b0,_,rfl,by simp only[instB,List.getElem?_cons_zero],by omega,fun j c hc=>e3 j c hc⟩
  |succ b=>
   rcases h4 b q (by simpa using hq)with⟨k1,k2⟩|⟨k0,cs,cs',k1,k2,k3⟩
   ·exact .inl ⟨k1,by simp only[instB,e1];simpa using k2⟩
   ·exact .inr ⟨k0,cs,cs',by simpa using k1,by simp only[instB,e1];simpa using k2,k3⟩
 |some _::_,none::_,X,r,_,h=>by cases h
 | [],_::_,X,r,_,h=>by cases h
 |none::_,[],X,r,_,h=>by cases h
 |some _::_,[],X,r,_,h=>by cases h
end
section
variable {P : Program} {fr : Fr} {S S' : St} {a : Act} {w w' : World} {g : Gh}
structure PatR (S S':St):Prop where
 tl:S'.tmps.length=S.tmps.length
 bl:S'.boxes.length=S.boxes.length
 sl:∀(t:Nat) (x:Sl×Nat),S.tmps[t]? =some x→∃y,S'.tmps[t]? =some (y,0)∧SlW (fun b=>∃cs,S'.bx b=some cs) S x.1 y
 bx:∀(b:Nat) (cs':Bx),S'.bx b=some cs'→∃cs,S.bx b=some cs∧cs'.length=cs.length∧∀(j:Nat) (c:Cell),cs[j]? =some c→∃y,cs'[j]? =some y∧CeW (fun b=>∃cs,S'.bx b=some cs) c y
theorem sim_pat(hs:Sim fr S a w g [])(h:PatR S S')(hb0:∀b β,fr.bb0 b=some β→∃cs,S'.bx b=some cs):SimX fr S' a w:=by
 let kp:Nat→Prop:=fun b=>∃cs,S'.bx b=some cs
 let bb':Nat→Option Nat:=fun b=>if kp b then g.bb b else none
 have bbk:∀b β,kp b→g.bb b=some β→bb' b=some β:=fun b β hk hb=>by simp only[bb',hk,if_true];exact hb
 have bbi:∀b β,bb' b=some β→kp b∧g.bb b=some β:=fun b β hb=>by
  by_cases hk:kp b
  ·simp only[bb',hk,if_true]at hb;exact⟨hk,hb⟩
  ·simp only[bb',hk,if_false]at hb;cases hb
 have place:∀l:Lo,∃fo fi:List Nat,(∀x,(x∈fo∨x∈fi)→x∈g.fp l)∧fo.Nodup∧(∀x∈fi,x∉fo)∧
  (∀t,l= .s t→∀x y r,S.tmps[t]? =some x→S'.tmps[t]? =some (y,0)→a.tmps[t]? =some r→∀ro' ow' fp',(∀x,g.ro x→ro' x)→(∀x∈fi,ro' x)→SlR S' a.tmps w.heap ⟨ro',ow',fp',bb'⟩ y r fo)∧
  (∀b j,l= .b b j→∀cs c y cs' r β cc ty,S.bx b=some cs→cs[j]? =some c→S'.bx b=some cs'→cs'[j]? =some y→g.bb b=some β→w.heap[β]? =some (.cells cc ty (0,0))→cc[j]? =some r→∀ro' ow' fp',(∀x,g.ro x→ro' x)→(∀x∈fi,ro' x)→CV w.heap ⟨ro',ow',fp',bb'⟩ y.m y.v r fo):=by
  intro l
  cases l with
  |s t=>
   have nob:∀b j,Lo.s t≠ .b b j:=fun _ _ e=>Lo.noConfusion e
   cases hx:S.tmps[t]? with
   |none=>exact⟨[],[],by simp,by simp,by simp,fun t' e x y r h1=>(by cases e;rw[hx]at h1;cases h1),fun b j e=>absurd e (nob b j)⟩
   |some x=>
    obtain⟨y,hy,hw⟩:=h.sl t x hx
    obtain⟨r,hr,hsl⟩:=hs.slots t x hx
    have wrap:∀fo fi:List Nat,(∀x,(x∈fo∨x∈fi)→x∈g.fp (.s t))→fo.Nodup→(∀x∈fi,x∉fo)→(∀ro' ow' fp',(∀x,g.ro x→ro' x)→(∀x∈fi,ro' x)→SlR S' a.tmps w.heap ⟨ro',ow',fp',bb'⟩ y r fo)→_:=fun fo fi p1 p2 p3 p4=>
     (⟨fo,fi,p1,p2,p3,fun t' e x' y' r' h1 h2 h3=>(by cases e;rw[hx]at h1;cases h1;rw[hy]at h2;cases h2;rw[hr]at h3;cases h3;exact p4),fun b j e=>absurd e (nob b j)⟩:∃fo fi:List Nat,(∀x,(x∈fo∨x∈fi)→x∈g.fp (.s t))∧fo.Nodup∧(∀x∈fi,x∉fo)∧(∀t',Lo.s t= .s t'→∀x y r,S.tmps[t']? =some x→S'.tmps[t']? =some (y,0)→a.tmps[t']? =some r→∀ro' ow' fp',(∀x,g.ro x→ro' x)→(∀x∈fi,ro' x)→SlR S' a.tmps w.heap ⟨ro',ow',fp',bb'⟩ y r fo)∧(∀b j,Lo.s t= .b b j→∀cs c y cs' r β cc ty,S.bx b=some cs→cs[j]? =some c→S'.bx b=some cs'→cs'[j]? =some y→g.bb b=some β→w.heap[β]? =some (.cells cc ty (0,0))→cc[j]? =some r→∀ro' ow' fp',(∀x,g.ro x→ro' x)→(∀x∈fi,ro' x)→CV w.heap ⟨ro',ow',fp',bb'⟩ y.m y.v r fo))
    rcases hw with rfl|⟨v,m,m',e1,hg,rfl⟩|⟨l,v,e1,hv,rfl,hk⟩|⟨b,of,m',e1,rfl,hk⟩|⟨m,m',e1,hm,rfl⟩|⟨f,cs,m',e1,rfl,hk⟩
    ·exact wrap [] [] (by simp) (by simp) (by simp) (fun _ _ _ _ _=>rfl)
    ·rw[e1]at hsl
     obtain⟨hn1,hn2⟩:=gives_npt hg
     obtain⟨fo,fi,p1,p2⟩:=RW.lower hg (hs.nd _) (OneR.rw hn1 hsl)
     exact wrap fo fi (fun x hx=>(p1.mem x).2 hx) p1.nd p1.dis (fun ro' ow' fp' k1 k2=>RW.one (g:=⟨ro',ow',fp',bb'⟩) (p2 ro' k1 k2))
    ·rw[e1]at hsl
     obtain⟨_,_,q⟩:=hsl
     refine wrap [] [] (by simp) (by simp) (by simp) (fun ro' ow' fp' _ _=>⟨rfl,Nat.zero_le _,fun _=> ?_⟩)
     have q:=q hv
     cases l with
     |s t'=>exact q
     |b b' j=>
      have hkb:=hk b' j rfl
      simp only[realAt]at q ⊢
      cases hb:g.bb b' with
      |none=>rw[hb]at q;cases q
      |some β=>rw[hb]at q;rw[bbk b' β hkb hb];exact q
    ·rw[e1]at hsl
     obtain⟨_,_,β,hβ,er⟩:=ptr_pt hsl
     exact wrap [] [] (by simp) (by simp) (by simp) (fun ro' ow' fp' _ _=>⟨rfl,.inl ⟨b,of,β,rfl,bbk b β hk hβ,er⟩⟩)
    ·rw[e1]at hsl
     have hnp:m'.isPt=false:=by
      cases m' with
      |pt=>obtain⟨_,k|⟨f,_,_,k,_⟩⟩:=hsl
           ·obtain⟨_,_,_,k,_⟩:=k;cases k
           ·cases k
      |_=>rfl
     have hrv:=(OneR.rw hnp hsl).toRO (ro':=fun _=>True) (fun _ _=>trivial) (fun _ _=>trivial)
     have er:[r]=[.pointer none]:=hrv.1
     refine wrap [] [] (by simp) (by simp) (by simp) (fun ro' ow' fp' _ _=> ?_)
     cases m with
     |pt=>cases hm
     |pr=>exact⟨rfl,er,rfl⟩
     |ro=>exact⟨er,rfl⟩
     |own d=>exact⟨er,rfl⟩
    ·rw[e1]at hsl
     obtain⟨rs,er,hc⟩:=fn_pt hsl
     refine wrap [] [] (by simp) (by simp) (by simp) (fun ro' ow' fp' _ _=>⟨rfl,.inr ⟨f,cs,rs,rfl,er,?_⟩⟩)
     exact CapR.keep (kp:=kp) (fun b β hkb hb=>bbk b β hkb hb) hk hc
  |b b j=>
   have nos:∀t,Lo.b b j≠ .s t:=fun _ e=>Lo.noConfusion e
   by_cases hex:∃cs c y cs',S.bx b=some cs∧cs[j]? =some c∧S'.bx b=some cs'∧cs'[j]? =some y
   ·obtain⟨cs,c,y,cs',h1,h2,h3,h4⟩:=hex
    obtain⟨cs2,q1,_,q3⟩:=h.bx b cs' h3
    rw[h1]at q1;cases q1
    obtain⟨y2,q4,hfx,hw⟩:=q3 j c h2
    rw[h4]at q4;cases q4
    obtain⟨β,cc,ty,z1,z2,z3,z4⟩:=hs.boxes b cs h1
    obtain⟨r,u1,u2,_⟩:=z4 j c h2
    have wrap:∀fo fi:List Nat,(∀x,(x∈fo∨x∈fi)→x∈g.fp (.b b j))→fo.Nodup→(∀x∈fi,x∉fo)→(∀ro' ow' fp',(∀x,g.ro x→ro' x)→(∀x∈fi,ro' x)→CV w.heap ⟨ro',ow',fp',bb'⟩ y.m y.v r fo)→
     ∃fo fi:List Nat,(∀x,(x∈fo∨x∈fi)→x∈g.fp (.b b j))∧fo.Nodup∧(∀x∈fi,x∉fo)∧(∀t,Lo.b b j= .s t→∀x y r,S.tmps[t]? =some x→S'.tmps[t]? =some (y,0)→a.tmps[t]? =some r→∀ro' ow' fp',(∀x,g.ro x→ro' x)→(∀x∈fi,ro' x)→SlR S' a.tmps w.heap ⟨ro',ow',fp',bb'⟩ y r fo)∧(∀b' j',Lo.b b j= .b b' j'→∀cs c y cs' r β cc ty,S.bx b'=some cs→cs[j']? =some c→S'.bx b'=some cs'→cs'[j']? =some y→g.bb b'=some β→w.heap[β]? =some (.cells cc ty (0,0))→cc[j']? =some r→∀ro' ow' fp',(∀x,g.ro x→ro' x)→(∀x∈fi,ro' x)→CV w.heap ⟨ro',ow',fp',bb'⟩ y.m y.v r fo):=fun fo fi p1 p2 p3 p4=>
     ⟨fo,fi,p1,p2,p3,fun t e=>absurd e (nos t),fun b' j' e cs2 c2 y2 cs2' r2 β2 cc2 ty2 e1 e2 e3 e4 e5 e6 e7=>by
       cases e
       rw[h1]at e1;cases e1
       rw[h2]at e2;cases e2
       rw[h3]at e3;cases e3
       rw[h4]at e4;cases e4
       rw[z1]at e5;cases e5
       rw[z2]at e6;cases e6
       rw[u1]at e7;cases e7
       exact p4⟩
    rcases hw with⟨e1,hg⟩|⟨e1,e2,b',of,e3,hk⟩|⟨e1,e2,hm⟩|⟨e1,e2⟩
    ·obtain⟨hn1,hn2⟩:=gives_npt hg
     have hrm:=CV.rm hn1 u2
     obtain⟨fo,fi,p1,p2⟩:=RM.lower hg (hs.nd _) hrm.2
     refine wrap fo fi (fun x hx=>(p1.mem x).2 hx) p1.nd p1.dis (fun ro' ow' fp' k1 k2=> ?_)
     rw[e1]
     exact RM.cv (g:=⟨ro',ow',fp',bb'⟩) hn2 ⟨hrm.1,p2 ro' k1 k2⟩
    ·rw[e3]at u2
     obtain⟨_,_,β2,hβ2,er⟩:=ptr_pt u2.one
     refine wrap [] [] (by simp) (by simp) (by simp) (fun ro' ow' fp' _ _=> ?_)
     rw[e2,e1,e3]
     exact⟨rfl,b',of,β2,rfl,bbk b' β2 hk hβ2,er⟩
    ·rw[e2]at u2
     have hnp:c.m.isPt=false:=by
      cases hcm:c.m with
      |pt=>rw[hcm]at u2;obtain⟨_,_,_,_,k,_⟩:=u2;cases k
      |_=>rfl
     have hrv:=RM.toRO (ro':=fun _=>True) (fun _ _=>trivial) (fun _ _=>trivial) (CV.rm hnp u2).2
     have er:[r]=[.pointer none]:=hrv.1
     refine wrap [] [] (by simp) (by simp) (by simp) (fun ro' ow' fp' _ _=> ?_)
     rw[e1]
     cases hym:y.m with
     |pt=>rw[hym]at hm;cases hm
     |pr=>exact⟨rfl,rfl,er,rfl⟩
     |ro=>exact⟨rfl,er,rfl⟩
     |own d=>exact⟨rfl,er,rfl⟩
    ·refine wrap [] [] (by simp) (by simp) (by simp) (fun ro' ow' fp' _ _=> ?_)
     rw[e1,e2]
     exact cv_undef rfl (CV.ones u2)
   ·exact⟨[],[],by simp,by simp,by simp,fun t e=>absurd e (nos t),fun b' j' e cs c y cs' r β cc ty e1 e2 e3 e4=>by cases e;exact absurd ⟨cs,c,y,cs',e1,e2,e3,e4⟩ hex⟩
 let fo:Lo→List Nat:=fun l=>Classical.choose (place l)
 have place2:=fun l=>Classical.choose_spec (place l)
 let fi:Lo→List Nat:=fun l=>Classical.choose (place2 l)
 have place3:∀l,(∀x,(x∈fo l∨x∈fi l)→x∈g.fp l)∧(fo l).Nodup∧(∀x∈fi l,x∉fo l)∧_:=fun l=>Classical.choose_spec (place2 l)
 let ro':Nat→Prop:=fun x=>g.ro x∨∃l,x∈fi l
 let live:Nat→Prop:=fun x=>(∃l,x∈fo l)∨∃b,bb' b=some x
 let g':Gh:=⟨ro',fun x=>if live x then g.ow x else .none,fo,bb'⟩
 have liveOw:∀x,live x→g.ow x≠ .none∧¬∃l,x∈fi l:=fun x hx=>by
  rcases hx with⟨l,hl⟩|⟨b,hb⟩
  ·have e:=hs.own l x ((place3 l).1 x (.inl hl))
   refine⟨ow_ne_loc e,fun⟨l',hl'⟩=> ?_⟩
   have e':=hs.own l' x ((place3 l').1 x (.inr hl'))
   rw[e]at e';injection e' with e';subst e'
   exact(place3 l).2.2.1 x hl' hl
  ·have e:=hs.ownB b x (bbi b x hb).2
   refine⟨ow_ne_box e,fun⟨l',hl'⟩=> ?_⟩
   have e':=hs.own l' x ((place3 l').1 x (.inr hl'))
   rw[e]at e';cases e'
 refine⟨g',?_⟩
 constructor
 ·exact hs.defers
 ·rw[h.tl];exact hs.size
 ·intro t x' hx'
  have ht:t<S.tmps.length:=by rw[←h.tl];exact(List.getElem?_eq_some_iff.1 hx').1
  have hx:S.tmps[t]? =some S.tmps[t]:=List.getElem?_eq_getElem ht
  obtain⟨y,hy,_⟩:=h.sl t _ hx
  obtain⟨r,hr,_⟩:=hs.slots t _ hx
  rw[hx']at hy;cases hy
  exact⟨r,hr,(place3 (.s t)).2.2.2.1 t rfl _ _ r hx hx' hr ro' _ _ (fun x hx=>.inl hx) (fun x hx=>.inr ⟨_,hx⟩)⟩
 ·intro b cs' hb
  obtain⟨cs,h1,h2,h3⟩:=h.bx b cs' hb
  obtain⟨β,cc,ty,z1,z2,z3,z4⟩:=hs.boxes b cs h1
  refine⟨β,cc,ty,bbk b β ⟨cs',hb⟩ z1,z2,by omega,fun j y hy=> ?_⟩
  have hj:j<cs.length:=by rw[←h2];exact(List.getElem?_eq_some_iff.1 hy).1
  obtain⟨y2,q1,q2⟩:=h3 j _ (List.getElem?_eq_getElem hj)
  rw[hy]at q1;cases q1
  obtain⟨r,u1,u2,u3⟩:=z4 j _ (List.getElem?_eq_getElem hj)
  exact⟨r,u1,(place3 (.b b j)).2.2.2.2 b j rfl cs _ y cs' r β cc ty h1 (List.getElem?_eq_getElem hj) hb hy z1 z2 u1 ro' _ _ (fun x hx=>.inl hx) (fun x hx=>.inr ⟨_,hx⟩),fun hf=>u3 (by rw[←q2.1];exact hf)⟩
 ·intro b hb
  have:¬kp b:=fun⟨cs,hc⟩=>by rw[hb]at hc;cases hc
  show(if kp b then g.bb b else none)=none
  rw[if_neg this]
 ·intro l x hx
  have hl:live x:=.inl ⟨l,hx⟩
  show(if live x then g.ow x else .none)=_
  rw[if_pos hl];exact hs.own l x ((place3 l).1 x (.inl hx))
 ·exact fun l=>(place3 l).2.1
 ·intro b x hb
  have hl:live x:=.inr ⟨b,hb⟩
  show(if live x then g.ow x else .none)=_
  rw[if_pos hl];exact hs.ownB b x (bbi b x hb).2
 ·simp
 ·simp
 ·intro x hx
  by_cases hl:live x
  ·obtain⟨k1,k2⟩:=liveOw x hl
   obtain⟨q1,q2,q3⟩:=hs.free x k1
   exact⟨fun c=>c.elim q1 k2,q2,q3⟩
  ·exact absurd (show(if live x then g.ow x else Ow.none)=Ow.none by rw[if_neg hl]) hx
 ·intro x hx
  rcases hx with hx|⟨l,hx⟩
  ·exact hs.rolt x hx
  ·exact hs.fpLt ((place3 l).1 x (.inr hx))
 ·exact fun x hx=>.inl (hs.ro0 x hx)
 ·intro x hx
  rcases hx with hx|⟨l,hx⟩
  ·exact hs.ro1 x hx
  ·rcases(hs.free x (ow_ne_loc (hs.own l x ((place3 l).1 x (.inr hx))))).2.2 with k|k
   ·exact .inr (.inr k)
   ·exact .inr (.inl k)
 ·exact hs.frame
 ·exact hs.grow
 ·exact hs.os
 ·exact hs.tape
 ·exact hs.output
 ·rw[h.tl,h.bl];exact hs.bl
 ·exact fun b β hb=>bbk b β (hb0 b β hb) (hs.bb0 b β hb)
theorem pat_ok{R:Type}{kp0:List Nat}{p:Pat}{X:List V→Option R}{r:R}(hok:p.okFor kp0=true)(h:p.mat S X=some r):
 ∃vs,X vs=some r∧∀(fr:Fr) (a:Act) (w:World),(∀b β,fr.bb0 b=some β→b∈kp0)→SimX fr S a w→SimX fr (p.inst vs) a w:=by
 unfold Pat.mat at h
 unfold Pat.okFor at hok
 rw[Bool.or_eq_true]at hok
 rcases hok with hok|hok
 ·simp only[Bool.and_eq_true]at hok
  obtain⟨⟨hk1,hk2⟩,hk3⟩:=hok
  obtain⟨vs,h1,h2,h3⟩:=matchS_ok (kp:=fun b=>p.kept b=true) (fun b hb=>hb) hk2 h
  obtain⟨us,h4,h5,h6,h7⟩:=matchB_ok (kp:=fun b=>p.kept b=true) (fun b hb=>hb) hk3 h1
  obtain⟨e1,e2,e3⟩:=h3 us
  refine⟨vs++us,h4,fun fr a w hb ⟨g,hs⟩=> ?_⟩
  have hinst:p.inst (vs++us)=⟨(instS p.tmps (vs++us)).1,instB p.boxes us⟩:=by
   have:p.inst (vs++us)=⟨(instS p.tmps (vs++us)).1,instB p.boxes (instS p.tmps (vs++us)).2⟩:=rfl
   rw[this,e1]
  have kept:∀b,p.kept b=true→∃cs,(p.inst (vs++us)).bx b=some cs:=fun b hb=>by
   rw[hinst,bx_eq]
   simp only
   unfold Pat.kept at hb
   rw[List.getD_eq_getElem?_getD]at hb
   cases hq:p.boxes[b]? with
   |none=>rw[hq]at hb;cases hb
   |some q=>
    rw[hq]at hb
    rcases h7 b q hq with⟨k1,_⟩|⟨_,cs,cs',_,k2,_⟩
    ·rw[k1]at hb;cases hb
    ·exact⟨cs',by rw[k2];rfl⟩
  have slw:∀{s y},SlW (fun b=>p.kept b=true) S s y→SlW (fun b=>∃cs,(p.inst (vs++us)).bx b=some cs) S s y:=fun hw=>by
   rcases hw with k|k|⟨l,v,k1,k2,k3,k4⟩|⟨b,of,m',k1,k2,k3⟩|k|⟨f,cs,m',k1,k2,k3⟩
   ·exact .inl k
   ·exact .inr (.inl k)
   ·exact .inr (.inr (.inl ⟨l,v,k1,k2,k3,fun b j e=>kept b (k4 b j e)⟩))
   ·exact .inr (.inr (.inr (.inl ⟨b,of,m',k1,k2,kept b k3⟩)))
   ·exact .inr (.inr (.inr (.inr (.inl k))))
   ·exact .inr (.inr (.inr (.inr (.inr ⟨f,cs,m',k1,k2,fun v hv b o e=>kept b (k3 v hv b o e)⟩))))
  have cew:∀{c y},CeW (fun b=>p.kept b=true) c y→CeW (fun b=>∃cs,(p.inst (vs++us)).bx b=some cs) c y:=fun⟨k0,hw⟩=>by
   refine⟨k0,?_⟩
   rcases hw with k|⟨k1,k2,b,of,k3,k4⟩|k|k
   ·exact .inl k
   ·exact .inr (.inl ⟨k1,k2,b,of,k3,kept b k4⟩)
   ·exact .inr (.inr (.inl k))
   ·exact .inr (.inr (.inr k))
  refine sim_pat hs ⟨?_,?_,fun t x hx=> ?_,fun b cs' hbx=> ?_⟩ (fun b β hbb=> ?_)
  ·rw[hinst];simp only;omega
  ·rw[hinst];simp only;omega
  ·obtain⟨y,q1,q2⟩:=e3 t x hx
   exact⟨y,by rw[hinst];exact q1,slw q2⟩
  ·have hbx0:=hbx
   rw[hinst,bx_eq]at hbx
   simp only at hbx
   have hlt:b<p.boxes.length:=by
    rw[←h6]
    rcases Nat.lt_or_ge b (instB p.boxes us).length with k|k
    ·exact k
    ·rw[List.getElem?_eq_none k]at hbx;cases hbx
   rcases h7 b _ (List.getElem?_eq_getElem hlt)with⟨_,k2⟩|⟨_,cs,cs2,k1,k2,k3,k4⟩
   ·rw[k2]at hbx;cases hbx
   ·rw[k2]at hbx;cases hbx
    exact⟨cs,by rw[bx_eq,k1];rfl,k3,fun j c hc=>by obtain⟨y,q1,q2⟩:=k4 j c hc;exact⟨y,q1,cew q2⟩⟩
  ·have hlt:=hb b β hbb
   exact kept b (List.all_eq_true.1 hk1 b hlt)
 ·have hnil:p.tmps=[]∧p.boxes=[]:=by
   split at hok
   ·rename_i e1 e2;exact⟨e1,e2⟩
   ·cases hok
  rw[hnil.1,hnil.2]at h
  cases htm:S.tmps with
  |cons x l=>rw[htm]at h;cases h
  |nil=>
  rw[htm]at h
  cases hbx:S.boxes with
  |cons x l=>rw[hbx]at h;cases h
  |nil=>
  rw[hbx]at h
  refine⟨[],h,fun fr a w hb ⟨g,hs⟩=> ?_⟩
  have e:p.inst []=S:=by
   obtain⟨pt,pb⟩:=p
   obtain⟨st,sb⟩:=S
   simp only at hnil htm hbx
   rw[hnil.1,hnil.2,htm,hbx];rfl
  rw[e];exact⟨g,hs⟩
end
def Weak(kp0:List Nat)(S S':St):Prop:=∀(fr:Fr) (a:Act) (w:World),(∀b β,fr.bb0 b=some β→b∈kp0)→SimX fr S a w→SimX fr S' a w
section
variable (C : FuncId → List V → List V → Prop) (E : Env)
def CondR(S:St)(c:Operand)(b:Bool):Prop:=
 match c with
 | .tmp t=>∃m,(S.sl t).1= .one (.bool b) m
 | .const v=>v= .bool b
 |_=>False
def exP:Option Int→Ex
 |none=>.normal
 |some n=>.pan n
inductive ExecR:Code→St→Ex→St→Prop
 |skip {S:St}:ExecR .skip S .normal S
 |region {id:Nat} {ops:Array Oper} {S S2:St} {tr:List (Nat×Nat×Nat)}:RunR C E ops id (List.range ops.size) S tr S2→edgesBack ops.toList=true→apart (befs ops.toList []) tr.reverse=true→ExecR (.region id ops true) S .normal S2
 |regS {id:Nat} {ops:Array Oper} {S S2:St} {p:Option Int}:RunP C E ops id (List.range ops.size) S p S2→ExecR (.region id ops false) S (exP p) S2
 |seqN {a b:Code} {S S1 S2:St} {e:Ex}:ExecR a S .normal S1→ExecR b S1 e S2→ExecR (.seq a b) S e S2
 |seqX {a b:Code} {S S1:St} {e:Ex}:ExecR a S e S1→e≠ .normal→ExecR (.seq a b) S e S1
 |cond {c:Operand} {x y:Code} {S S1:St} {e:Ex} {b:Bool}:CondR S c b→ExecR (if b then x else y) S e S1→ExecR (.cond c x y) S e S1
 |blockX {id:Nat} {c:Code} {S S1:St}:ExecR c S (.exit id) S1→ExecR (.block id c) S .normal S1
 |blockE {id:Nat} {c:Code} {S S1:St} {e:Ex}:ExecR c S e S1→e≠ .exit id→ExecR (.block id c) S e S1
 |exit {id:Nat} {S:St}:ExecR (.exit id) S (.exit id) S
 |ret {S:St}:ExecR .ret S .ret S
 |loopN {b:Code} {S S1 S2:St} {e:Ex}:ExecR b S .normal S1→ExecR (.loop b) S1 e S2→ExecR (.loop b) S e S2
 |loopX {b:Code} {S S1:St} {e:Ex}:ExecR b S e S1→e≠ .normal→ExecR (.loop b) S e S1
 |weakL {c:Code} {S S1 S2:St} {e:Ex}:Weak E.kp S S1→ExecR c S1 e S2→ExecR c S e S2
 |weakR {c:Code} {S S1 S2:St} {e:Ex}:ExecR c S e S1→Weak E.kp S1 S2→ExecR c S e S2
end
def EndX(T:TypeId)(fr:Fr)(e:Ex)(S:St):Exit→Act→World→Prop
 | .panic ch,a,w=>∃n,e= .pan n∧ch=thrown T n∧SimX fr S a w
 | .normal,a,w=>e= .normal∧SimX fr S a w
 | .exit i,a,w=>e= .exit i∧SimX fr S a w
 | .ret,a,w=>e= .ret∧SimX fr S a w
 |_,_,_=>False
section
variable {P : Program} {EE : FuncId → Env} {E : Env}
theorem edgesBack_ok{ops:Array Oper}(h:edgesBack ops.toList=true):∀i o,ops[i]? =some o→∀e∈o.after,Region.binds .any e=true→e.on<i:=fun i o ho e he hb=>by
 have hm:(o,i)∈ops.toList.zipIdx:=by
  rw[List.mem_iff_getElem?]
  exact⟨i,by rw[List.getElem?_zipIdx];simp[ho]⟩
 have h1:=List.all_eq_true.1 h (o,i) hm
 have h2:=List.all_eq_true.1 h1 e (by simpa using he)
 rw[hb]at h2
 simpa using h2
theorem cond_ok{fr:Fr}{S:St}{a:Act}{w:World}{c:Operand}{b:Bool}(h:CondR S c b)(hs:SimX fr S a w):a.eval c= .bool b:=by
 cases c with
 |tmp t=>
  obtain⟨m,hm⟩:=h
  obtain⟨g,hs⟩:=hs
  rcases sl_case S t with⟨ver,q1,_⟩|⟨q1,q2⟩
  ·have k2:=hs.slot q1
   rw[hm]at k2
   have k2:OneR w.heap g (.bool b) m (a.eval (.tmp t)) (g.fp (.s t)):=k2
   have hnp:m.isPt=false:=by
    cases m with
    |pt=>obtain⟨_,k|⟨f,_,_,k,_⟩⟩:=k2
         ·obtain⟨_,_,_,k,_⟩:=k;cases k
         ·cases k
    |_=>rfl
   exact rv_bool (k2.rv hnp)
  ·rw[q2]at hm;cases hm
 |const v=>have:v= .bool b:=h
           subst this;rfl
 |_=>exact h.elim
theorem exec_sound(hE:EnvOK P E)(hEE:∀f,EnvOK P (EE f))(hsig:∀f,(EE f).sig=E.sig)(hpan:∀f,(EE f).panT=E.panT)(hmo:P.follows .mixedOrders=true){c:Code}{S S':St}{e:Ex}(h:ExecR (CallOK P EE) E c S e S'):
 (∀(fr:Fr) (a:Act) (w:World),(fr.base=E.base∧∀f',FrT (EE f').tab fr)→(∀b β,fr.bb0 b=some β→b∈E.kp)→SimX fr S a w→c.wp P (EndX E.panT fr e S') a w)∧
 (∀b,c= .loop b→∃n,∀(fr:Fr) (a:Act) (w:World),(fr.base=E.base∧∀f',FrT (EE f').tab fr)→(∀b β,fr.bb0 b=some β→b∈E.kp)→SimX fr S a w→Code.rounds P b (EndX E.panT fr e S') n a w):=by
 induction h with
 |skip=>exact⟨fun fr a w _ _ hs=>Go.wp_skip ⟨rfl,hs⟩,fun b e=>by cases e⟩
 | @regS id ops S S2 p h1=>
   refine⟨fun fr a w hb hbb hs=> ?_,fun b e=>by cases e⟩
   refine wp_region (wpOps_of_runP hE hEE hsig hpan hb h1 hs (fun hp a' w' hs'=> ?_) (fun n hp a' w' hs'=> ?_))
   ·subst hp;exact⟨rfl,hs'⟩
   ·subst hp;exact⟨n,rfl,rfl,hs'⟩
 | @region id ops S S2 tr h1 h2 h3=>
   refine⟨fun fr a w hb hbb hs=> ?_,fun b e=>by cases e⟩
   have hst:StepOK P (CallOK P EE) E ops id (EndX E.panT fr .normal S2) fr:=stepOK hE hEE hsig hb
   refine wp_region_any hmo ?_
   have hpw:tr.reverse.Pairwise fun x y=>y.1<x.1:=by
    rw[List.pairwise_reverse]
    have e:=RunR.pw h1
    have hr:(List.range ops.size).Pairwise (· < ·):=List.pairwise_lt_range
    rw[←e,List.pairwise_map]at hr
    exact hr
   have hap:AllApt ops.toList tr:=fun x hx y hy=>allApt_of h3 hpw x (List.mem_reverse.2 hx) y (List.mem_reverse.2 hy)
   exact wpAny_of_run hst (edgesBack_ok h2) ops.size (L:=List.range ops.size) (by simp) List.pairwise_lt_range (by simp)
    (fun k hk=>by simp[hk,Array.getD]) (fun k hk=>by simpa using hk) (fun k o hk hkL=>by
      have:=(Array.getElem?_eq_some_iff.1 hk).1
      exact absurd (List.mem_range.2 this) hkL) h1 hap (hs.drew _) (fun a' w' hs'=>⟨rfl,hs'⟩)
 | @seqN a b S S1 S2 e h1 h2 ih1 ih2=>
   refine⟨fun fr ac w hb hbb hs=>wp_seq (wp_mono (ih1.1 fr ac w hb hbb hs) fun e1 a1 w1 q=> ?_),fun b e=>by cases e⟩
   cases e1 with
   |normal=>exact ih2.1 fr a1 w1 hb hbb q.2
   |exit i=>exact absurd q.1 (by simp)
   |ret=>exact absurd q.1 (by simp)
   |panic ch=>obtain⟨n,e,_⟩:=q;cases e
   |_=>exact q.elim
 | @seqX a b S S1 e h1 hne ih1=>
   refine⟨fun fr ac w hb hbb hs=>wp_seq (wp_mono (ih1.1 fr ac w hb hbb hs) fun e1 a1 w1 q=> ?_),fun b e=>by cases e⟩
   cases e1 with
   |normal=>exact absurd q.1 hne
   |exit i=>exact q
   |ret=>exact q
   |panic ch=>exact q
   |_=>exact q.elim
 | @cond c x y S S1 e b h1 h2 ih=>
   refine⟨fun fr ac w hb hbb hs=>wp_cond (cond_ok h1 hs) (ih.1 fr ac w hb hbb hs),fun b e=>by cases e⟩
 | @blockX id c S S1 h1 ih=>
   refine⟨fun fr ac w hb hbb hs=>wp_block (wp_mono (ih.1 fr ac w hb hbb hs) fun e1 a1 w1 q=> ?_),fun b e=>by cases e⟩
   cases e1 with
   |normal=>exact absurd q.1 (by simp)
   |exit i=>
    have:id=i:=by have:=q.1;injection this
    subst this
    simp only[Exit.inBlock,if_true]
    exact⟨rfl,q.2⟩
   |ret=>exact absurd q.1 (by simp)
   |panic ch=>obtain⟨n,e,_⟩:=q;cases e
   |_=>exact q.elim
 | @blockE id c S S1 e h1 hne ih=>
   refine⟨fun fr ac w hb hbb hs=>wp_block (wp_mono (ih.1 fr ac w hb hbb hs) fun e1 a1 w1 q=> ?_),fun b e=>by cases e⟩
   cases e1 with
   |normal=>exact q
   |exit i=>
    have hni:i≠id:=fun c=>hne (by rw[q.1,c])
    simp only[Exit.inBlock,hni,if_false]
    exact q
   |ret=>exact q
   |panic ch=>exact q
   |_=>exact q.elim
 |exit=>exact⟨fun fr a w _ _ hs=>wp_exit ⟨rfl,hs⟩,fun b e=>by cases e⟩
 |ret=>exact⟨fun fr a w _ _ hs=>wp_ret ⟨rfl,hs⟩,fun b e=>by cases e⟩
 | @loopN b S S1 S2 e h1 h2 ih1 ih2=>
   have key:∃n,∀(fr:Fr) (a:Act) (w:World),(fr.base=E.base∧∀f',FrT (EE f').tab fr)→(∀b β,fr.bb0 b=some β→b∈E.kp)→SimX fr S a w→Code.rounds P b (EndX E.panT fr e S2) n a w:=by
    obtain⟨n,hn⟩:=ih2.2 b rfl
    refine⟨n+1,fun fr ac w hb hbb hs=>wp_mono (ih1.1 fr ac w hb hbb hs) fun e1 a1 w1 q=> ?_⟩
    cases e1 with
    |normal=>exact hn fr a1 w1 hb hbb q.2
    |exit i=>exact absurd q.1 (by simp)
    |ret=>exact absurd q.1 (by simp)
    |panic ch=>obtain⟨n,e,_⟩:=q;cases e
    |_=>exact q.elim
   obtain⟨n,hn⟩:=key
   exact⟨fun fr ac w hb hbb hs=>wp_loop_rounds n (hn fr ac w hb hbb hs),fun b' e=>by cases e;exact⟨n,hn⟩⟩
 | @loopX b S S1 e h1 hne ih1=>
   have key:∀(fr:Fr) (a:Act) (w:World),(fr.base=E.base∧∀f',FrT (EE f').tab fr)→(∀b β,fr.bb0 b=some β→b∈E.kp)→SimX fr S a w→Code.rounds P b (EndX E.panT fr e S1) 1 a w:=by
    refine fun fr ac w hb hbb hs=>wp_mono (ih1.1 fr ac w hb hbb hs) fun e1 a1 w1 q=> ?_
    cases e1 with
    |normal=>exact absurd q.1 hne
    |exit i=>exact q
    |ret=>exact q
    |panic ch=>exact q
    |_=>exact q.elim
   exact⟨fun fr ac w hb hbb hs=>wp_loop_rounds 1 (key fr ac w hb hbb hs),fun b' e=>by cases e;exact⟨1,key⟩⟩
 | @weakL c S S1 S2 e hw h1 ih=>
   refine⟨fun fr ac w hb hbb hs=>ih.1 fr ac w hb hbb (hw fr ac w hbb hs),fun b e=> ?_⟩
   obtain⟨n,hn⟩:=ih.2 b e
   exact⟨n,fun fr ac w hb hbb hs=>hn fr ac w hb hbb (hw fr ac w hbb hs)⟩
 | @weakR c S S1 S2 e h1 hw ih=>
   have mono:∀(fr:Fr),(∀b β,fr.bb0 b=some β→b∈E.kp)→∀e1 a1 w1,EndX E.panT fr e S1 e1 a1 w1→EndX E.panT fr e S2 e1 a1 w1:=fun fr hbb e1 a1 w1 q=>by
    cases e1 with
    |normal=>exact⟨q.1,hw fr a1 w1 hbb q.2⟩
    |exit i=>exact⟨q.1,hw fr a1 w1 hbb q.2⟩
    |ret=>exact⟨q.1,hw fr a1 w1 hbb q.2⟩
    |panic ch=>obtain⟨n,e,h1,h2⟩:=q;exact⟨n,e,h1,hw fr a1 w1 hbb h2⟩
    |_=>exact q.elim
   refine⟨fun fr ac w hb hbb hs=>wp_mono (ih.1 fr ac w hb hbb hs) (mono fr hbb),fun b eb=> ?_⟩
   obtain⟨n,hn⟩:=ih.2 b eb
   refine⟨n,fun fr ac w hb hbb hs=> ?_⟩
   have rmono:∀(n:Nat) (a:Act) (w:World),Code.rounds P b (EndX E.panT fr e S1) n a w→Code.rounds P b (EndX E.panT fr e S2) n a w:=by
    intro n
    induction n with
    |zero=>intro a w h;exact h
    |succ n ihn=>
     intro a w h
     refine wp_mono h fun e1 a1 w1 q=> ?_
     cases e1 with
     |normal=>exact ihn a1 w1 q
     |exit i=>exact mono fr hbb (.exit i) a1 w1 q
     |ret=>exact mono fr hbb .ret a1 w1 q
     |panic ch=>exact mono fr hbb (.panic ch) a1 w1 q
     |goto l=>exact q
     |outgrown=>exact q
   exact rmono n ac w (hn fr ac w hb hbb hs)
end
section
variable {R : Type} {C : FuncId → List V → List V → Prop} {E : Env} {G : FuncId → List V → (List V → Option R) → Option R} {L : Nat → St → (Ex → St → Option R) → Option R}
theorem condV_some{S:St}{c:Operand}{K:Bool→Option R}{r:R}(h:condV S c K=some r):∃b,CondR S c b∧K b=some r:=by
 cases c with
 |tmp t=>
  simp only[condV]at h
  cases hx:(S.sl t).1 with
  |one v m=>
   rw[hx]at h
   obtain⟨b,rfl,h1⟩:=asBool_some h
   exact⟨b,⟨m,hx⟩,h1⟩
  |_=>rw[hx]at h;cases h
 |const v=>
  cases v with
  |bool b=>exact⟨b,rfl,h⟩
  |_=>cases h
 |_=>cases h
def LoopIs(E:Env)(G:FuncId→List V→(List V→Option R)→Option R)(L:Nat→St→(Ex→St→Option R)→Option R)(id:Nat)(b:Code):Prop:=
 ∃(d:LoopD) (rd:Nat→List V→(Ex→St→Option R)→Option R) (k:Nat),d.id=id∧d.body=b∧d.head.okFor E.kp=true∧d.out.okFor E.kp=true∧d.ret.okFor E.kp=true∧
  (∀vs K,rd 0 vs K=none)∧(∀j vs K r,rd (j+1) vs K=some r→roundOf E G L d (fun vs=>rd j vs K) K vs=some r)∧(∀S K r,L id S K=some r→d.head.mat S (fun vs=>rd k vs K)=some r)
def LoopsAre(E:Env)(G:FuncId→List V→(List V→Option R)→Option R)(L:Nat→St→(Ex→St→Option R)→Option R):Code→Prop
 | .block id c=>(match c with| .loop b=>LoopIs E G L id b|_=>True)∧LoopsAre E G L c
 | .loop b=>LoopsAre E G L b
 | .seq a b=>LoopsAre E G L a∧LoopsAre E G L b
 | .cond _ a b=>LoopsAre E G L a∧LoopsAre E G L b
 |_=>True
theorem weak_pat{base:List Nat}{S:St}{p:Pat}{X:List V→Option R}{r:R}(hok:p.okFor base=true)(h:p.mat S X=some r):∃vs,X vs=some r∧Weak base S (p.inst vs):=by
 obtain⟨vs,h1,h2⟩:=pat_ok hok h
 exact⟨vs,h1,fun fr a w hb hs=>h2 fr a w hb hs⟩
theorem exec_some(hG:∀f args (K:List V→Option R) r,G f args K=some r→∃o,C f args o∧K o=some r):∀{c:Code},(LoopsAre E G L c→∀{S:St} {K:Ex→St→Option R} {r:R},exec E G L c S K=some r→∃e S',ExecR C E c S e S'∧K e S'=some r)∧
 (∀b,c= .loop b→LoopsAre E G L b→∀{S:St} {K:Ex→St→Option R} {r:R},exec E G L b S K=some r→∃e S',ExecR C E b S e S'∧K e S'=some r):=by
 intro c
 induction c with
 |skip=>refine⟨?_,fun b e=>by cases e⟩;intro _ S K r h;exact⟨_,_,.skip,h⟩
 |region id ops draw=>
  refine⟨?_,fun b e=>by cases e⟩
  intro _ S K r h
  have h:=h
  rw[show exec E G L (.region id ops draw) S K=S.force (fun S=>bif draw then runOps E G ops id (List.range ops.size) S [] (fun S tr=>bif edgesBack ops.toList&&apart (befs ops.toList []) tr then K .normal S else none)else runSeq E G ops id (List.range ops.size) S (fun p S=>match p with
   |none=>K .normal S
   |some n=>K (.pan n) S))from rfl,force_eq]at h
  cases draw with
  |false=>
   obtain⟨p,S2,h1,h2⟩:=runSeq_some hG h
   cases p with
   |none=>exact⟨_,_,.regS h1,h2⟩
   |some n=>exact⟨_,_,.regS h1,h2⟩
  |true=>
   obtain⟨S2,tr2,h1,h2⟩:=runOps_some hG h
   rw[List.append_nil]at h2
   cases hc:(edgesBack ops.toList&&apart (befs ops.toList []) tr2.reverse)with
   |false=>rw[hc]at h2;cases h2
   |true=>
    rw[hc]at h2
    simp only[Bool.and_eq_true]at hc
    exact⟨_,_,.region h1 hc.1 hc.2,h2⟩
 |seq a b iha ihb=>
  refine⟨?_,fun b e=>by cases e⟩
  intro hL S K r h
  obtain⟨e,S1,h1,h2⟩:=iha.1 hL.1 h
  cases e with
  |normal=>
   obtain⟨e2,S2,h3,h4⟩:=ihb.1 hL.2 h2
   exact⟨e2,S2,.seqN h1 h3,h4⟩
  |exit i=>exact⟨_,_,.seqX h1 (by simp),h2⟩
  |ret=>exact⟨_,_,.seqX h1 (by simp),h2⟩
  |pan n=>exact⟨_,_,.seqX h1 (by simp),h2⟩
 |cond c x y ihx ihy=>
  refine⟨?_,fun b e=>by cases e⟩
  intro hL S K r h
  obtain⟨b,h1,h2⟩:=condV_some h
  cases b with
  |true=>obtain⟨e,S1,h3,h4⟩:=ihx.1 hL.1 h2;exact⟨e,S1,.cond h1 h3,h4⟩
  |false=>obtain⟨e,S1,h3,h4⟩:=ihy.1 hL.2 h2;exact⟨e,S1,.cond h1 h3,h4⟩
 |block id c ih=>
  refine⟨?_,fun b e=>by cases e⟩
  intro hL S K r h
  have other:exec E G L c S (fun e S=>match e with
   | .exit i=>bif i==id then K .normal S else K (.exit i) S
   |e=>K e S)=some r→∃e S',ExecR C E (.block id c) S e S'∧K e S'=some r:=by
   intro h
   obtain⟨e,S1,h1,h2⟩:=ih.1 hL.2 h
   cases e with
   |normal=>exact⟨_,_,.blockE h1 (by simp),h2⟩
   |exit i=>
    simp only at h2
    cases hi:i==id with
    |true=>
     rw[hi]at h2
     have:i=id:=by simpa using hi
     subst this
     exact⟨_,_,.blockX h1,h2⟩
    |false=>
     rw[hi]at h2
     have:i≠id:=by simpa using hi
     exact⟨_,_,.blockE h1 (by simpa using this),h2⟩
   |ret=>exact⟨_,_,.blockE h1 (by simp),h2⟩
   |pan n=>exact⟨_,_,.blockE h1 (by simp),h2⟩
  cases c with
  |loop b=>
   obtain⟨⟨d,rd,k,e1,e2,ok1,ok2,ok3,r0,r1,r2⟩,hb⟩:=hL
   have h:L id S K=some r:=h
   obtain⟨vs,h1,hw⟩:=weak_pat ok1 (r2 S K r h)
   have ihb:∀{S:St} {K:Ex→St→Option R} {r:R},exec E G L b S K=some r→∃e S',ExecR C E b S e S'∧K e S'=some r:=by
    intro S K r h
    exact ih.2 b rfl hb h
   have key:∀(k:Nat) (vs:List V),rd k vs K=some r→∃e S',ExecR C E (.loop b) (d.head.inst vs) e S'∧((e= .exit id∧K .normal S'=some r)∨((e= .ret∨∃n,e= .pan n)∧K e S'=some r)):=by
    intro k
    induction k with
    |zero=>intro vs h;rw[r0]at h;cases h
    |succ k ihk=>
     intro vs h
     have h:=r1 k vs K r h
     unfold roundOf at h
     rw[e2]at h
     obtain⟨e,S1,q1,q2⟩:=ihb h
     cases e with
     |normal=>
      obtain⟨vs',q3,q4⟩:=weak_pat ok1 q2
      obtain⟨e,S2,q5,q6⟩:=ihk vs' q3
      exact⟨e,S2,.loopN q1 (.weakL q4 q5),q6⟩
     |exit i=>
      simp only at q2
      cases hi:i==d.id with
      |false=>rw[hi]at q2;cases q2
      |true=>
       rw[hi]at q2
       have:i=id:=by rw[←e1];simpa using hi
       subst this
       simp only[cond_true]at q2
       obtain⟨vs',q3,q4⟩:=weak_pat ok2 q2
       exact⟨_,_,.weakR (.loopX q1 (by simp)) q4,.inl ⟨rfl,q3⟩⟩
     |ret=>
      obtain⟨vs',q3,q4⟩:=weak_pat ok3 q2
      exact⟨_,_,.weakR (.loopX q1 (by simp)) q4,.inr ⟨.inl rfl,q3⟩⟩
     |pan n=>
      obtain⟨vs',q3,q4⟩:=weak_pat ok3 q2
      exact⟨_,_,.weakR (.loopX q1 (by simp)) q4,.inr ⟨.inr ⟨n,rfl⟩,q3⟩⟩
   obtain⟨e,S',q1,q2⟩:=key k vs h1
   rcases q2 with⟨rfl,q2⟩|⟨rfl|⟨n,rfl⟩,q2⟩
   ·exact⟨_,_,.weakL hw (.blockX q1),q2⟩
   ·exact⟨_,_,.weakL hw (.blockE q1 (by simp)),q2⟩
   ·exact⟨_,_,.weakL hw (.blockE q1 (by simp)),q2⟩
  |_=>exact other h
 |exit id=>refine⟨?_,fun b e=>by cases e⟩;intro _ S K r h;exact⟨_,_,.exit,h⟩
 |ret=>refine⟨?_,fun b e=>by cases e⟩;intro _ S K r h;exact⟨_,_,.ret,h⟩
 |loop b ih=>refine⟨?_,fun b' e=>by cases e;exact ih.1⟩;intro _ S K r h;cases h
 |_=>refine⟨?_,fun b e=>by cases e⟩;intros;rename_i h;cases h
end
section
variable {P : Program} {EE : FuncId → Env}
theorem call_ok{R:Type}{G:FuncId→List V→(List V→Option R)→Option R}{L:Nat→St→(Ex→St→Option R)→Option R}{f:FuncId}{fn:Func}{sg:Sig}
 (hEE:∀f,EnvOK P (EE f)) (hsig:∀f g,(EE f).sig=(EE g).sig) (hpan:∀f g,(EE f).panT=(EE g).panT) (hkp:∀f b,b<(EE f).base→b∈(EE f).kp) (hmo:P.follows .mixedOrders=true) (hf:P.funcs[rf f]? =some fn) (hsg:(EE f).sig f=some sg) (hn:(fn.name== "runtime.NumGoroutine")=false) (hnt:sg.params.length≤fn.ntmps) (hio:sg.io=false) (hb:(EE f).base=sg.boxes.length)
 (hG:∀f args (K:List V→Option R) r,G f args K=some r→∃o,CallOK P EE f args o∧K o=some r) (hL:LoopsAre (EE f) G L (bodyOf fn)) {vs:List V} {K:List V→Option R} {r:R} (h:callF (EE f) G L fn sg vs K=some r):
 ∃o,CallOK P EE f vs o∧K o=some r:=by
 unfold callF at h
 cases hc:fn.body with
 |none=>rw[hc]at h;cases h
 |some c=>
  rw[hc]at h
  have hbo:bodyOf fn=c:=by simp[bodyOf,hc]
  rw[hbo]at hL
  obtain⟨e,S',h1,h2⟩:=(exec_some hG).1 hL h
  have hfin:∃o,K o=some r∧((∃o',finish (EE f) fn sg S'=some o'∧o=preO sg o'∧(e= .normal∨e= .ret))∨
   ∃n o',e= .pan n∧sg.pan=true∧finishX (EE f) fn sg S'=some o'∧o=panO sg n o'):=by
   cases e with
   |exit i=>cases h2
   |normal=>
    cases hq:finish (EE f) fn sg S' with
    |none=>simp only[hq]at h2;cases h2
    |some o=>simp only[hq]at h2;exact⟨_,h2,.inl ⟨o,rfl,rfl,.inl rfl⟩⟩
   |ret=>
    cases hq:finish (EE f) fn sg S' with
    |none=>simp only[hq]at h2;cases h2
    |some o=>simp only[hq]at h2;exact⟨_,h2,.inl ⟨o,rfl,rfl,.inr rfl⟩⟩
   |pan n=>
    cases hp:sg.pan with
    |false=>simp only[hp]at h2;cases h2
    |true=>
     simp only[hp,cond_true]at h2
     cases hq:finishX (EE f) fn sg S' with
     |none=>rw[hq]at h2;cases h2
     |some o=>rw[hq]at h2;exact⟨_,h2,.inr ⟨n,o,rfl,rfl,rfl,rfl⟩⟩
  obtain⟨o,q2,q1⟩:=hfin
  refine⟨o,⟨fn,sg,hf,hsg,hn,by rw[hc];rfl,hnt,(fun h=>by rw[hio]at h;cases h),fun _ fr w g args hs hw hbase _ hft=> ?_⟩,q2⟩
  have hbb:∀b β,fr.bb0 b=some β→b∈(EE f).kp:=fun b β hb0=>by
   refine hkp f b ?_
   have h3:=hs.bb0 b β hb0
   rw[hb]
   rcases Nat.lt_or_ge b sg.boxes.length with k|k
   ·exact k
   ·have:(initSt sg fn.ntmps vs).bx b=none:=by
     have e:initSt sg fn.ntmps vs=⟨(initP sg.params vs).1++List.replicate (fn.ntmps-(initP sg.params vs).1.length) (.undef,0),initB sg.boxes (initP sg.params vs).2++List.replicate fn.ntmps none⟩:=rfl
     rw[e,bx_eq]
     simp only
     rw[List.getElem?_append_right (by rw[initB_len];exact k),List.getElem?_replicate]
     split<;>rfl
    rw[hs.noBox b this]at h3;cases h3
  have hd0:fr.defs=[]:=hs.defers.symm
  have hwp:=(exec_sound (hEE f) hEE (fun f'=>hsig f' f) (fun f'=>hpan f' f) hmo h1).1 fr _ w ⟨hbase.trans hb.symm,hft⟩ hbb ⟨g,hs⟩
  refine calls_of_wp hf hc (wp_mono hwp fun e1 a1 w1 q=> ?_)
  have done:(e= .normal∨e= .ret)→SimX fr S' a1 w1→a1.defers=[]∧∃v,(results fn a1.tmps).run P w1= .ok v w1∧CallPost P (EE f) fn sg fr o (.returned v) w1:=fun he ⟨g1,hs1⟩=>by
   rcases q1 with⟨o',q1,rfl,_⟩|⟨n,o',k,_⟩
   ·obtain⟨ov,ob,rv,fo,fi,fob,fib,_,hl⟩:=leave_ok (P:=P) (hEE f) hs1 q1
    exact⟨hs1.defers.trans hd0,rv,hl.run,S',a1,g1,o',hs1,q1,rfl,hl.run⟩
   ·rcases he with he|he<;>(rw[he]at k;cases k)
  cases e1 with
  |normal=>exact done (.inl q.1) q.2
  |ret=>exact done (.inr q.1) q.2
  |panic ch=>
   obtain⟨n,he,hch,g1,hs1⟩:=q
   rcases q1 with⟨o',_,_,k⟩|⟨n',o',k,hp,q1,rfl⟩
   ·rcases k with k|k<;>(rw[he]at k;cases k)
   ·rw[he]at k;cases k
    exact⟨hs1.defers.trans hd0,S',a1,g1,o',n,hs1,hp,hch,q1,rfl⟩
  |exit i=>
   rcases q1 with⟨o',_,_,k⟩|⟨n',o',k,_⟩
   ·rcases k with k|k<;>(have:=q.1;rw[k]at this;cases this)
   ·have:=q.1;rw[k]at this;cases this
  |_=>exact q.elim
end
def tlook{α:Type}:List (Nat×α)→Nat→Option α
 | [],_=>none
 |(k,v)::r,t=>bif Nat.beq k t then some v else tlook r t
theorem tlook_mem{α:Type}:∀{l:List (Nat×α)} {t:Nat} {v:α},tlook l t=some v→(t,v)∈l
 | [],t,v,h=>by cases h
 |(k,x)::r,t,v,h=>by
  simp only[tlook]at h
  cases e:Nat.beq k t with
  |true=>
   rw[e]at h
   have:k=t:=Nat.eq_of_beq_eq_true e
   subst this;cases h;exact List.mem_cons_self ..
  |false=>rw[e]at h;exact List.mem_cons_of_mem _ (tlook_mem h)
structure Tab where
 tys:List (Nat×TyD)
 sigs:List (Nat×Sig)
 takes:List (Nat×Nat×Nat)
 varis:List (Nat×Nat×Nat×Nat):=[]
 panT:Nat:=0
 keeps:List (Nat×List Nat):=[]
 tab:Option (Nat×List Value):=none
def vlook:List (Nat×Nat×Nat×Nat)→Nat→Nat→Nat→Nat
 | [],_,_,_=>0
 |(f',r',o',v)::q,f,r,o=>bif Nat.beq f' f&&Nat.beq r' r&&Nat.beq o' o then v else vlook q f r o
def Tab.env(T:Tab)(f:FuncId):Env:=
 {ty:=tlook T.tys,sig:=tlook T.sigs,take:=fun r o=>T.takes.any fun x=>Nat.beq x.1 f&&Nat.beq x.2.1 r&&Nat.beq x.2.2 o
  vari:=vlook T.varis f
  panT:=T.panT
  tab:=T.tab
  kp:=List.range (match tlook T.sigs f with|some g=>g.boxes.length|none=>0)++((tlook T.keeps f).getD [])
  base:=match tlook T.sigs f with|some g=>g.boxes.length|none=>0}
def utEq:UT→UT→Bool
 | .int k,.int k'=>decide (k=k')
 | .bool,.bool| .string,.string| .pointer,.pointer| .other,.other=>true
 | .slice e,.slice e'=>Nat.beq e e'
 | .array n e,.array n' e'=>Nat.beq n n'&&Nat.beq e e'
 | .map n e,.map n' e'=>Nat.beq n n'&&Nat.beq e e'
 | .struct fs,.struct fs'=>fs==fs'
 |_,_=>false
theorem utEq_ok{a b:UT}(h:utEq a b=true):a=b:=by
 cases a<;>cases b<;>simp only[utEq]at h<;>first
  |rfl
  |(cases h;done)
  |(have:=of_decide_eq_true h;subst this;rfl)
  |(have:=Nat.eq_of_beq_eq_true h;subst this;rfl)
  |(simp only[Bool.and_eq_true]at h;have h1:=Nat.eq_of_beq_eq_true h.1;have h2:=Nat.eq_of_beq_eq_true h.2;subst h1;subst h2;rfl)
  |(have:=beq_iff_eq.1 h;subst this;rfl)
def zvOk1:V×M→Value→Bool
 |(.bool b,.pr),.bool b'=>b==b'
 |(.int k n,.pr),.int k' n'=>decide (k=k')&&n==n'
 |(.str s,.pr),.string s'=>s.data.toList==s'.data.toList
 |(.sl _ [],.own true),.slice none 0 0=>true
 |(.nilp,.pr),.pointer none=>true
 |(.undef,.pr),r=>r.oneCell'
 |_,_=>false
def zvOk:List (V×M)→List Value→Bool
 | [],[]=>true
 |c::cs,r::rs=>zvOk1 c r&&zvOk cs rs
 |_,_=>false
theorem zvOk1_ok{h:Hp}{g:Gh}{v:V}{m:M}{r:Value}(e:zvOk1 (v,m) r=true):CV h g m v r []:=by
 unfold zvOk1 at e
 split at e
 ·rename_i heq;cases heq;rename_i b b'
  have:=beq_iff_eq.1 e;subst this;exact⟨rfl,rfl,rfl,rfl⟩
 ·rename_i heq;cases heq
  simp only[Bool.and_eq_true,beq_iff_eq,decide_eq_true_eq]at e
  obtain⟨rfl,rfl⟩:=e;exact⟨rfl,rfl,rfl,rfl⟩
 ·rename_i heq;cases heq;rename_i s s'
  have h2:=beq_iff_eq.1 e
  have:s=s':=by
   cases s;cases s'
   simp only at h2
   congr
   exact Array.ext' h2
  subst this;exact⟨rfl,rfl,rfl,rfl⟩
 ·rename_i heq;cases heq;exact⟨rfl,none,0,0,rfl,rfl,by decide,rfl,rfl⟩
 ·rename_i heq;cases heq;exact⟨rfl,rfl,rfl,rfl⟩
 ·rename_i heq;cases heq;exact cv_undef rfl e
 ·cases e
theorem zvOk_ok{h:Hp}{g:Gh}:∀{cs:List (V×M)} {rs:List Value},zvOk cs rs=true→CsR h g cs rs []
 | [],[],_=>⟨rfl,rfl⟩
 |(v,m)::cs,r::rs,e=>by
  simp only[zvOk,Bool.and_eq_true]at e
  exact⟨r,rs,[],[],rfl,rfl,zvOk1_ok e.1,zvOk_ok e.2⟩
 | [],_::_,e=>by cases e
 |_::_,[],e=>by cases e
def utsEq:List UT→List UT→Bool
 | [],[]=>true
 |a::as,b::bs=>utEq a b&&utsEq as bs
 |_,_=>false
theorem utsEq_ok:∀{a b:List UT},utsEq a b=true→a=b
 | [],[],_=>rfl
 |a::as,b::bs,h=>by
  simp only[utsEq,Bool.and_eq_true]at h
  rw[utEq_ok h.1,utsEq_ok h.2]
 | [],_::_,h=>by cases h
 |_::_,[],h=>by cases h
def cmpChk(P:Program)(t:TypeId)(d:TyD):Bool:=(match eqLay P 200 t with|some l=>utsEq l d.leafs|none=>false)&&aggT P t&& !P.eqGuardType P.depth t
def tyChk(P:Program)(t:TypeId)(d:TyD):Bool:=
 match P.underlying t,P.info? t with
 |some u,some i=>utEq (utOf u) d.under&&(match i.zero with
   |some z=>Nat.beq i.size d.size&&Nat.beq i.bytes d.bytes&&Nat.beq z.cells.size d.size&&Nat.beq d.zv.length d.size&&zvOk d.zv z.cells.toList&&z.cells.toList.all Value.oneCell'
   |none=>false)&&d.zv.all (fun c=>c.2.solid)&&(d.agg||Nat.beq d.size 1)&&
   (match u with
   | .struct fs=>fs.toList.all (fun f=>(P.info? f.type).isSome)
   | .bool=>(match i.zero with|some (.bool false)=>true|_=>false)
   |_=>true)&&(!d.cmp||cmpChk P t d)
 |_,_=>false
theorem tyChk_ok{P:Program}{t:TypeId}{d:TyD}(h:tyChk P t d=true):TyOK P t d:=by
 unfold tyChk at h
 split at h
 ·rename_i u i hu hi
  simp only[Bool.and_eq_true]at h
  obtain⟨⟨⟨⟨⟨h1,h2⟩,h3⟩,h4⟩,h5⟩,h6⟩:=h
  split at h2
  ·rename_i z hz
   simp only[Bool.and_eq_true]at h2
   obtain⟨⟨⟨⟨⟨a1,a2⟩,a3⟩,a4⟩,a5⟩,a6⟩:=h2
   refine⟨⟨u,hu,utEq_ok h1⟩,⟨i,z,hi,Nat.eq_of_beq_eq_true a1,Nat.eq_of_beq_eq_true a2,hz,Nat.eq_of_beq_eq_true a3,Nat.eq_of_beq_eq_true a4,fun r hr=>List.all_eq_true.1 a6 r (by simpa using hr),h3,fun h g=>zvOk_ok a5⟩,fun hd=> ?_,fun fs hfs f hf=> ?_,fun hc w=> ?_,fun hc=> ?_⟩
   ·rw[hd]at h4;simp only[Bool.false_or]at h4;exact Nat.eq_of_beq_eq_true h4
   ·rw[hu]at hfs;cases hfs
    exact List.all_eq_true.1 h5 f (by simpa using hf)
   ·rw[hu]at hc;cases hc
    have h5:(match i.zero with|some (.bool false)=>true|_=>false)=true:=h5
    rw[hz]at h5
    have hzb:z= .bool false:=by
     cases z with
     |bool b=>cases b with
      |false=>rfl
      |true=>cases h5
     |_=>cases h5
    subst hzb
    simp only[zeroValue,typeInfo,Sem.run_bind,run_program,Result.andThen_ok,hi,hz,Sem.run_pure]
   ·rw[hc]at h6
    simp only[Bool.not_true,Bool.false_or,cmpChk,Bool.and_eq_true,Bool.not_eq_true']at h6
    obtain⟨⟨h7,h8⟩,h9⟩:=h6
    refine⟨?_,h8,h9⟩
    split at h7
    ·rename_i l hl
     rw[hl,utsEq_ok h7]
    ·cases h7
  ·cases h2
 ·cases h
def Tab.chk(T:Tab)(P:Program):Bool:=T.tys.all fun p=>tyChk P p.1 p.2
theorem Tab.ok{T:Tab}{P:Program}(h:T.chk P=true)(f:FuncId):EnvOK P (T.env f):=fun t d ht=>tyChk_ok (List.all_eq_true.1 h (t,d) (tlook_mem ht))
def Sound{R:Type}(P:Program)(T:Tab)(G:FuncId→List V→(List V→Option R)→Option R):Prop:=
 ∀f args (K:List V→Option R) r,G f args K=some r→∃o,CallOK P T.env f args o∧K o=some r
def fnChk(fn:Func)(sg:Sig):Bool:= !(fn.name== "runtime.NumGoroutine")&&decide (sg.params.length≤fn.ntmps)&& !sg.io
theorem Tab.base{T:Tab}{f:FuncId}{sg:Sig}(h:tlook T.sigs f=some sg):(T.env f).base=sg.boxes.length:=by
 unfold Tab.env;simp only[h]
theorem callF_sound{R:Type}{P:Program}{T:Tab}(hT:T.chk P=true)(hmo:P.follows .mixedOrders=true){G:FuncId→List V→(List V→Option R)→Option R}{L:Nat→St→(Ex→St→Option R)→Option R}{f:FuncId}{fn:Func}{sg:Sig}
 (hG:Sound P T G) (hf:P.funcs[rf f]? =some fn) (hsg:tlook T.sigs f=some sg) (hk:fnChk fn sg=true) (hL:LoopsAre (T.env f) G L (bodyOf fn)) {vs:List V} {K:List V→Option R} {r:R} (h:callF (T.env f) G L fn sg vs K=some r):
 ∃o,CallOK P T.env f vs o∧K o=some r:=by
 simp only[fnChk,Bool.and_eq_true,Bool.not_eq_true',decide_eq_true_eq]at hk
 exact call_ok (EE:=T.env) (fun f=>T.ok hT f) (fun _ _=>rfl) (fun _ _=>rfl) (fun _ b hb=>List.mem_append_left _ (List.mem_range.2 hb)) hmo hf hsg hk.1.1 hk.1.2 hk.2 (Tab.base hsg) hG hL h
def loopsOf:Code→List (Nat×Code)
 | .block id c=>(match c with| .loop b=>[(id,b)]|_=>[])++loopsOf c
 | .loop b=>loopsOf b
 | .seq a b=>loopsOf a++loopsOf b
 | .cond _ a b=>loopsOf a++loopsOf b
 |_=>[]
theorem loopsAre_of{R:Type}{E:Env}{G:FuncId→List V→(List V→Option R)→Option R}{L:Nat→St→(Ex→St→Option R)→Option R}:∀{c:Code},(∀p∈loopsOf c,LoopIs E G L p.1 p.2)→LoopsAre E G L c:=by
 intro c
 induction c with
 |block id c ih=>
  intro h
  refine⟨?_,ih fun p hp=>h p (List.mem_append.2 (.inr hp))⟩
  cases c with
  |loop b=>exact h (id,b) (List.mem_append.2 (.inl (by simp)))
  |_=>trivial
 |loop b ih=>exact fun h=>ih h
 |seq a b iha ihb=>exact fun h=>⟨iha fun p hp=>h p (List.mem_append.2 (.inl hp)),ihb fun p hp=>h p (List.mem_append.2 (.inr hp))⟩
 |cond c a b iha ihb=>exact fun h=>⟨iha fun p hp=>h p (List.mem_append.2 (.inl hp)),ihb fun p hp=>h p (List.mem_append.2 (.inr hp))⟩
 |_=>intro h;trivial
mutual
@[reducible] def CurK : Kd → Type → Type
  | .int _, A => Int → A
  | .bool, A => Bool → A
  | .str, A => ByteArray → A
  | .sl _, A => List V → A
  | .agg ks, A => CurL ks A
  | .any, A => V → A
@[reducible] def CurL : List Kd → Type → Type
  | [], A => A
  | k :: ks, A => CurK k (CurL ks A)
end
mutual
def cuK:(k:Kd)→{A:Type}→(V→A)→CurK k A
 | .int k,_,F=>fun n:Int=>F (.int k n)
 | .bool,_,F=>fun b:Bool=>F (.bool b)
 | .str,_,F=>fun s:ByteArray=>F (.str s)
 | .sl z,_,F=>fun l:List V=>F (.sl z l)
 | .agg ks,_,F=>cuL ks fun vs=>F (.agg vs)
 | .any,_,F=>fun v:V=>F v
def cuL:(ks:List Kd)→{A:Type}→(List V→A)→CurL ks A
 | [],_,F=>F []
 |k::ks,_,F=>cuK k fun v=>cuL ks fun vs=>F (v::vs)
end
mutual
def ucK:(k:Kd)→{A B:Type}→CurK k A→V→(A→B)→B→B
 | .int k,_,_,F,v,c,d=>match v with| .int k' n=>bif decide (k'=k)then c ((show Int→_ from F) n)else d|_=>d
 | .bool,_,_,F,v,c,d=>match v with| .bool b=>c ((show Bool→_ from F) b)|_=>d
 | .str,_,_,F,v,c,d=>match v with| .str s=>c ((show ByteArray→_ from F) s)|_=>d
 | .sl z,_,_,F,v,c,d=>match v with| .sl z' l=>bif Nat.beq z' z then c ((show List V→_ from F) l)else d|_=>d
 | .agg ks,_,_,F,v,c,d=>match v with| .agg vs=>ucL ks F vs c d|_=>d
 | .any,_,_,F,v,c,d=>c ((show V→_ from F) v)
def ucL:(ks:List Kd)→{A B:Type}→CurL ks A→List V→(A→B)→B→B
 | [],_,_,F,vs,c,d=>match vs with| []=>c F|_=>d
 |k::ks,_,_,F,vs,c,d=>match vs with|v::vs=>ucK k F v (fun F'=>ucL ks F' vs c d) d| []=>d
end
mutual
theorem ucK_cu:(k:Kd)→∀{A B:Type} (F:V→A) (v:V) (c:A→B) (d:B),ucK k (cuK k F) v c d=c (F v)∨ucK k (cuK k F) v c d=d
 | .int k,_,_,F,v,c,d=>by
   unfold ucK cuK
   split
   ·rename_i k' n
    by_cases h:k'=k
    ·subst h;simp
    ·simp[h]
   ·exact .inr rfl
 | .bool,_,_,F,v,c,d=>by
   unfold ucK cuK
   split
   ·exact .inl rfl
   ·exact .inr rfl
 | .str,_,_,F,v,c,d=>by
   unfold ucK cuK
   split
   ·exact .inl rfl
   ·exact .inr rfl
 | .sl z,_,_,F,v,c,d=>by
   unfold ucK cuK
   split
   ·rename_i z' l
    cases h:Nat.beq z' z with
    |true=>have e:=Nat.eq_of_beq_eq_true h;subst e;exact .inl rfl
    |false=>exact .inr rfl
   ·exact .inr rfl
 | .agg ks,_,_,F,v,c,d=>by
   unfold ucK cuK
   split
   ·exact ucL_cu ks _ _ c d
   ·exact .inr rfl
 | .any,_,_,F,v,c,d=>.inl rfl
theorem ucL_cu:(ks:List Kd)→∀{A B:Type} (F:List V→A) (vs:List V) (c:A→B) (d:B),ucL ks (cuL ks F) vs c d=c (F vs)∨ucL ks (cuL ks F) vs c d=d
 | [],_,_,F,vs,c,d=>by
   unfold ucL cuL
   split
   ·exact .inl rfl
   ·exact .inr rfl
 |k::ks,_,_,F,vs,c,d=>by
  unfold ucL cuL
  split
  ·rename_i v vs
   rcases ucK_cu k (fun v=>cuL ks fun vs=>F (v::vs)) v (fun F'=>ucL ks F' vs c d) d with h|h
   ·rw[h];exact ucL_cu ks (fun vs=>F (v::vs)) vs c d
   ·exact .inr h
  ·exact .inr rfl
end
mutual
theorem ucK_out:(k:Kd)→∀{A B:Type} {ks:List Kd} (F:CurK k A) (v:V) (g:A→List V→B) (d:B),(cuL ks fun vs=>ucK k F v (fun F'=>g F' vs) d)=ucK k F v (fun F'=>cuL ks (g F')) (cuL ks fun _=>d)
 | .int k,_,_,ks,F,v,g,d=>by
   cases v with
   |int k' n=>simp only[ucK];cases decide (k'=k)<;>rfl
   |_=>rfl
 | .bool,_,_,ks,F,v,g,d=>by cases v<;>rfl
 | .str,_,_,ks,F,v,g,d=>by cases v<;>rfl
 | .sl z,_,_,ks,F,v,g,d=>by
   cases v with
   |sl z' n=>simp only[ucK];cases Nat.beq z' z<;>rfl
   |_=>rfl
 | .agg js,_,_,ks,F,v,g,d=>by
   cases v with
   |agg vs=>exact ucL_out js F vs g d
   |_=>rfl
 | .any,_,_,ks,F,v,g,d=>rfl
theorem ucL_out:(js:List Kd)→∀{A B:Type} {ks:List Kd} (F:CurL js A) (us:List V) (g:A→List V→B) (d:B),(cuL ks fun vs=>ucL js F us (fun F'=>g F' vs) d)=ucL js F us (fun F'=>cuL ks (g F')) (cuL ks fun _=>d)
 | [],_,_,ks,F,us,g,d=>by cases us<;>rfl
 |j::js,_,_,ks,F,us,g,d=>by
  cases us with
  |nil=>rfl
  |cons u us=>
   refine(ucK_out j F u (fun F' vs=>ucL js F' us (fun F'=>g F' vs) d) d).trans ?_
   simp only[ucL,ucL_out js _ us g d]
end
mutual
theorem cuK_uc:(k:Kd)→∀{A:Type} (F:CurK k A) (d:A),(cuK k fun v=>ucK k F v (fun x=>x) d)=F
 | .int k,_,F,d=>by funext n;simp[cuK,ucK]
 | .bool,_,F,d=>rfl
 | .str,_,F,d=>rfl
 | .sl z,_,F,d=>by funext n;simp[cuK,ucK]
 | .agg ks,_,F,d=>cuL_uc ks F d
 | .any,_,F,d=>rfl
theorem cuL_uc:(ks:List Kd)→∀{A:Type} (F:CurL ks A) (d:A),(cuL ks fun vs=>ucL ks F vs (fun x=>x) d)=F
 | [],_,F,d=>rfl
 |k::ks,A,F,d=>by
  have h:∀v,(cuL ks fun vs=>ucL (k::ks) F (v::vs) (fun x=>x) d)=ucK k F v (fun F'=>F') (cuL ks fun _=>d):=fun v=>by
   refine(ucK_out k F v (fun F' vs=>ucL ks F' vs (fun x=>x) d) d).trans ?_
   simp only[cuL_uc ks _ d]
  show(cuK k fun v=>cuL ks fun vs=>ucL (k::ks) F (v::vs) (fun x=>x) d)=F
  simp only[h]
  exact cuK_uc k F _
end
@[reducible] def CU : List Kd → Type → Type
  | [], A => Unit → A
  | k :: ks, A => CurL (k :: ks) A
def cu:(ks:List Kd)→{A:Type}→(List V→A)→CU ks A
 | [],_,F=>fun _=>F []
 |k::ks,_,F=>cuL (k::ks) F
def uc:(ks:List Kd)→{A:Type}→CU ks A→List V→A→A
 | [],_,F,vs,d=>match vs with| []=>(show Unit→_ from F) ()|_=>d
 |k::ks,_,F,vs,d=>ucL (k::ks) F vs (fun x=>x) d
theorem uc_cu(ks:List Kd){A:Type}(F:List V→A)(vs:List V)(d:A):uc ks (cu ks F) vs d=F vs∨uc ks (cu ks F) vs d=d:=by
 cases ks with
 |nil=>
  cases vs
  ·exact .inl rfl
  ·exact .inr rfl
 |cons k ks=>exact ucL_cu (k::ks) F vs (fun x=>x) d
theorem cu_uc(ks:List Kd){A:Type}(F:CU ks A)(d:A):(cu ks fun vs=>uc ks F vs d)=F:=by
 cases ks with
 |nil=>rfl
 |cons k ks=>exact cuL_uc (k::ks) F d
abbrev ORC (R:Type):=FuncId→List V→(List V→Option R)→Option R
abbrev Cu (R:Type) (ks:List Kd):=CU ks (Option R)
def lup{R:Type}(ks:List Kd)(b:Cu R ks→Cu R ks):Nat→Cu R ks
 |0=>cu ks fun _=>none
 |j+1=>b (lup ks b j)
section
variable {R : Type}
def koX(ks:List Kd)(p:Pat)(K:Ex→St→Option R):Cu R ks:=cu ks fun vs=>K .normal (p.inst vs)
def koR(ks:List Kd)(p:Pat)(K:Ex→St→Option R):Cu R ks:=cu ks fun vs=>K .ret (p.inst vs)
theorem loopIs{E:Env}{G:ORC R}{L:Nat→St→(Ex→St→Option R)→Option R}{id:Nat}{c:Code}(ks:List Kd)(k:Nat)(b:(Ex→St→Option R)→Cu R ks→Cu R ks)(hd x r:Pat)
 (h1:hd.okFor E.kp=true) (h2:x.okFor E.kp=true) (h3:r.okFor E.kp=true)
 (h:∀K X,cu ks (roundOf E G L ⟨id,c,hd,x,r⟩ X K)=b K (cu ks X)) (hL:∀S K,L id S K=hd.mat S fun vs=>uc ks (lup ks (b K) k) vs none):LoopIs E G L id c:=by
 refine⟨⟨id,c,hd,x,r⟩,fun j vs K=>uc ks (lup ks (b K) j) vs none,k,rfl,rfl,h1,h2,h3,fun vs K=> ?_,fun j vs K r e=> ?_,fun S K r e=>by rw[hL]at e;exact e⟩
 ·rcases uc_cu ks (fun _=>(none:Option R)) vs none with h|h<;>exact h
 ·have e:uc ks (b K (lup ks (b K) j)) vs none=some r:=e
  rw[←cu_uc ks (lup ks (b K) j) none,←h]at e
  rcases uc_cu ks (roundOf E G L ⟨id,c,hd,x,_⟩ (fun vs=>uc ks (lup ks (b K) j) vs none) K) vs none with q|q
  ·rw[q]at e;exact e
  ·rw[q]at e;cases e
def AllW{α:Type}(p:α→Prop):List α→Prop
 | []=>True
 |a::l=>p a∧AllW p l
theorem AllW.mem{α:Type}{p:α→Prop}:∀{l:List α},AllW p l→∀a∈l,p a
 |a::l,h,b,hb=>by
  rcases List.mem_cons.1 hb with rfl|hb
  ·exact h.1
  ·exact h.2.mem b hb
theorem las{E:Env}{G:ORC R}{L:Nat→St→(Ex→St→Option R)→Option R}{c:Code}(ids:List Nat)(h:loopsOf c=ids.map fun i=>(i,loopAt i c))(hl:AllW (fun i=>LoopIs E G L i (loopAt i c)) ids):LoopsAre E G L c:=
 loopsAre_of (by
  rw[h]
  intro p hp
  obtain⟨i,hi,rfl⟩:=List.mem_map.1 hp
  exact hl.mem i hi)
abbrev pU:PSl:=.undef
abbrev pS (b:Nat):PSl:=.stat (.one (.ptr b 0) .pt)
abbrev pI:PSl:=.var (.int .i64) .pr
abbrev pL:PSl:=.var (.sl 1) .ro
abbrev gF (ks:List Kd) (f:CurL ks ((List V→Option R)→Option R)) (args:List V) (K:List V→Option R):Option R:=ucL ks f args (fun f=>f K) none
abbrev Tells (P:Program) (T:Tab) (f:FuncId) (g:List V→(List V→Option R)→Option R):Prop:=∀args (K:List V→Option R) r,g args K=some r→∃o,CallOK P T.env f args o∧K o=some r
theorem gG{P:Program}{T:Tab}{f:FuncId}(ks:List Kd){call:List V→(List V→Option R)→Option R}{g:CurL ks ((List V→Option R)→Option R)}(e:cuL ks (fun vs K=>call vs K)=g)
 (hc:∀{vs K r},call vs K=some r→∃o,CallOK P T.env f vs o∧K o=some r):Tells P T f (gF ks g):=by
 intro args K r h
 rw[←e]at h
 unfold gF at h
 rcases ucL_cu ks (fun vs K=>call vs K) args (fun f=>f K) none with q|q
 ·rw[q]at h;exact hc h
 ·rw[q]at h;cases h
end
end Go.VM
