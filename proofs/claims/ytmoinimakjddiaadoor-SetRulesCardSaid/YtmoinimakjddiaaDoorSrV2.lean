/- The machine of values, told and shown true: a part. -/
import Derived.Test.YtmoinimakjddiaaDoorSrV1
import Derived.Laws.Cells
import Derived.Laws.MakeOwn
import Derived.Laws.World
import Derived.Great.FillDense
import Derived.Laws.CopyRow
import Derived.Laws.Append
import Derived.Laws.AppendOwn
import Derived.MapKept
set_option linter.unusedVariables false
namespace Go.VM
section
variable {P : Program} {C : FuncId → List V → List V → Prop} {E : Env} {fr : Fr} {S : St} {a : Act} {w w' : World} {g : Gh} {pool : List Nat} {rm rm' : Nat} {ws : List Wr}
variable {o : Oper} {K : Act → World → Prop} {Q : Exit → Act → World → Prop}
theorem binV_ok(hE:EnvOK P E){op:BinOp}{t:TypeId}{d:TyD}(ht:E.ty t=some d){va vb:V}{Kp:V→Pg}(hp:PgR C S (binV op d va vb Kp) rm ws rm'){ra rb:Value}
 (xa:RV w.heap va ra) (xb:RV w.heap vb rb) (px py:Operand):
 ∃v r rm1,PgR C S (Kp v) rm1 ws rm'∧(do eqGuard op t px py ra rb;binOp op t ra rb:Sem Value).run P w= .ok r w∧∀h g,OneR h g v .pr r []:=by
 obtain⟨u,hu,he⟩:=(hE _ _ ht).under
 unfold binV at hp
 split at hp
 ·rename_i k hk
  obtain⟨ka,x,rfl,h0,hp⟩:=hp
  have:ka=k:=of_decide_eq_true h0
  subst this
  have ea:=rv_int xa
  subst ea
  split at hp
  ·obtain⟨kb,y,rfl,h1,hp⟩:=hp
   have eb:=rv_int xb
   subst eb
   have h1:(0:Int)≤y:=of_decide_eq_true h1
   exact⟨_,_,_,hp,by simp[eqGuard_at_int,binOp,Op.shift,Int.not_lt.2 h1],fun _ _=>one_int⟩
  ·obtain⟨kb,y,rfl,h1,hp⟩:=hp
   have eb:=rv_int xb
   subst eb
   have h1:(0:Int)≤y:=of_decide_eq_true h1
   exact⟨_,_,_,hp,by simp[eqGuard_at_int,binOp,Op.shift,Int.not_lt.2 h1],fun _ _=>one_int⟩
  ·obtain⟨kb,y,rfl,h1,hp⟩:=hp
   have eb:=rv_int xb
   subst eb
   have:kb=ka:=of_decide_eq_true h1
   subst this
   exact binI_ok hp t px py
 ·rename_i hk
  obtain⟨x,rfl,y,rfl,hp⟩:=hp
  have ea:=rv_str xa
  have eb:=rv_str xb
  subst ea;subst eb
  split at hp
  ·obtain⟨h1,hp⟩:=hp
   have h1:x.size+y.size≤4294967296:=of_decide_eq_true h1
   refine⟨_,_,_,hp,?_,fun _ _=>one_str⟩
   have:¬((x.size+y.size:Nat):Int)>9223372036854775807:=by omega
   simp only[eqGuard_at_string,binOp,pure_bind,Op.stringOp,IntKind.max_i64,this,if_false,Sem.run_pure]
  ·exact⟨_,_,_,hp,by simp[eqGuard_at_string,binOp,Op.stringOp],fun _ _=>one_bool⟩
  ·exact⟨_,_,_,hp,by simp[eqGuard_at_string,binOp,Op.stringOp],fun _ _=>one_bool⟩
  ·exact hp.elim
 ·rename_i hk
  obtain⟨x,rfl,y,rfl,hp⟩:=hp
  have ea:=rv_bool xa
  have eb:=rv_bool xb
  subst ea;subst eb
  have hub:P.underlying t=some .bool:=by rw[hu,ut_bool (he.trans hk)]
  split at hp
  ·exact⟨_,_,_,hp,by simp[eqGuard_at_bool,binOp,Op.equal,Op.maxDepth,run_equalIn_bool' w 9999 t x y hub],fun _ _=>one_bool⟩
  ·exact⟨_,_,_,hp,by simp[eqGuard_at_bool,binOp,Op.equal,Op.maxDepth,run_equalIn_bool' w 9999 t x y hub],fun _ _=>one_bool⟩
  ·exact hp.elim
 ·rename_i hk1 hk2 hk3
  obtain⟨hc,as,rfl,la,bs,rfl,lb,hp⟩:=hp
  obtain⟨hlay,hag,heg⟩:=(hE _ _ ht).cmp hc
  obtain⟨ra,rfl,xa'⟩:=rv_agg xa
  obtain⟨rb,rfl,xb'⟩:=rv_agg xb
  obtain⟨b,rm1,hp1,hrun⟩:=eqLeafs_ok hp xa' xb'
  have hq:=lay_eq (P:=P) (w:=w) 200 t _ hlay _ _ _ hrun 10000 (by omega)
  rw[if_pos hag]at hq
  have hq:(Op.equalIn 10000 t (.agg ra) (.agg rb)).run P w= .ok b w:=by simpa using hq
  split at hp1
  ·refine⟨_,_,_,hp1,?_,fun _ _=>one_bool⟩
   rw[Sem.run_bind,run_eqGuard_agg w _ t px py ra rb heg]
   simp only[Result.andThen_ok]
   rw[run_eql_struct,hq];rfl
  ·refine⟨_,_,_,hp1,?_,fun _ _=>one_bool⟩
   rw[Sem.run_bind,run_eqGuard_agg w _ t px py ra rb heg]
   simp only[Result.andThen_ok]
   rw[run_neq_struct,hq];rfl
  ·exact hp1.elim
theorem op_binOp(hE:EnvOK P E){rid i op t x y yt}(ho:o.op= .binOp op t x y yt)(hp:PgR C S (opPg E rid i o) rm ws rm')(hs:Sim fr S a w g [])
 (hK:∀a' w',SimX fr (Wr.apps ws S) a' w'→K a' w'):o.wp P a w K Q:=by
 simp only[opPg,ho]at hp
 split at hp
 ·rename_i d ht
  obtain⟨va,rm1,hp,xa⟩:=val1_ok hp hs
  obtain⟨vb,rm2,hp,xb⟩:=val1_ok hp hs
  obtain⟨v,r,rm3,hp,hrun,hr⟩:=binV_ok (P:=P) hE ht hp xa xb x y
  obtain⟨e,_⟩:=hp
  subst e
  exact wp_val (by simp only[execOp,ho];rw[Sem.run_bind,hrun];rfl) (done_val hs (hr _ _)) hK
 ·exact hp.elim
theorem op_unOp(hE:EnvOK P E){rid i op t x}(ho:o.op= .unOp op t x)(hp:PgR C S (opPg E rid i o) rm ws rm')(hs:Sim fr S a w g [])
 (hK:∀a' w',SimX fr (Wr.apps ws S) a' w'→K a' w'):o.wp P a w K Q:=by
 simp only[opPg,ho]at hp
 split at hp
 ·rename_i d ht
  obtain⟨va,rm1,hp,xa⟩:=val1_ok hp hs
  unfold unV at hp
  split at hp
  ·obtain⟨ka,n,rfl,hk,hp⟩:=hp
   have ea:=rv_int xa
   split at hp
   ·obtain⟨e,_⟩:=hp
    subst e
    have hk:=of_decide_eq_true hk
    subst hk
    exact wp_val (r:=.int _ _) (by simp only[execOp,ho];rw[ea];simp[Op.unary,Op.intArith]) (done_val hs one_int) hK
   ·exact hp.elim
  ·obtain⟨b,rfl,hp⟩:=hp
   have ea:=rv_bool xa
   split at hp
   ·obtain⟨e,_⟩:=hp
    subst e
    exact wp_val (r:=.bool _) (by simp only[execOp,ho];rw[ea];simp[Op.unary]) (done_val hs one_bool) hK
   ·exact hp.elim
  ·exact hp.elim
 ·exact hp.elim
theorem seg_one{c:Array Value}{off:Nat}{r:Value}(h:(seg c off 1).length=1)(e:seg c off 1=[r]):c[off]? =some r:=by
 unfold seg at e
 have h1:=congrArg (·[0]?) e
 simp only[List.getElem?_take,Nat.lt_add_one,if_true,List.getElem?_drop,Nat.add_zero,List.getElem?_cons_zero]at h1
 simpa using h1
theorem bytes_cells{h:Hp}{c:Array Value}:∀{es:List V} {l:List UInt8} {off:Nat},BytesR es l→REs h (fun _=>True) es c off 1→
 ∃ns:List Int,ns.length=es.length∧(∀(j:Nat) (v:Value),(ns.map (Value.int .u8))[j]? =some v→c[off+j]? =some v)∧l=ns.map fun n=>n.toNat.toUInt8
 | [],l,off,hb,_=>⟨[],rfl,by simp,by rw[show l=[]from hb];rfl⟩
 |v::es,l,off,⟨n,b,q,e1,e2,e3,hb⟩,⟨h1,h2,h3⟩=>by
  subst e1;subst e2;subst e3
  obtain⟨ns,k1,k2,k3⟩:=bytes_cells hb h3
  refine⟨n::ns,by simp[k1],fun j v hj=> ?_,by simp[k3]⟩
  cases j with
  |zero=>
   simp only[List.map_cons,List.getElem?_cons_zero,Option.some.injEq]at hj
   subst hj
   exact seg_one h1 (show seg c off 1=[.int .u8 n]from h2)
  |succ j=>
   simp only[List.map_cons,List.getElem?_cons_succ]at hj
   have:=k2 j v hj
   rw[show off+(j+1)=off+1+j by omega];exact this
theorem foldl_bytes:∀(ns:List Int) (s:ByteArray),ns.foldl (fun r n=>r.push (UInt8.ofNat n.toNat)) s=⟨s.data++(ns.map fun n=>n.toNat.toUInt8).toArray⟩
 | [],s=>by cases s;simp
 |n::ns,s=>by
  simp only[List.foldl_cons,foldl_bytes ns,List.map_cons]
  cases s with
  |mk d=>
   show(⟨_⟩:ByteArray)=⟨_⟩
   congr 1
   simp[ByteArray.push]
theorem cell_at{w:World}{ad:Addr}{c:Array Value}{ty fr}(h:w.heap[ad.block]? =some (.cells c ty fr))(hs:ad.spot=none)(j:Nat):w.cell? (ad.add j)=c[ad.off+j]? :=by
 obtain⟨b,o,sp⟩:=ad
 simp only at hs h
 subst hs
 rw[Addr.add_lit]
 simp[World.cell?,h]
theorem op_convert(hE:EnvOK P E){rid i s t x}(ho:o.op= .convert s t x)(hp:PgR C S (opPg E rid i o) rm ws rm')(hs:Sim fr S a w g [])
 (hK:∀a' w',SimX fr (Wr.apps ws S) a' w'→K a' w'):o.wp P a w K Q:=by
 simp only[opPg,ho]at hp
 split at hp
 ·rename_i ds d h1 h2
  obtain⟨va,rm1,hp,xa⟩:=val1_ok hp hs
  obtain⟨us,hus,hes⟩:=(hE _ _ h1).under
  obtain⟨ut,hut,het⟩:=(hE _ _ h2).under
  split at hp
  ·rename_i k0 k e1 e2
   obtain⟨ka,n,rfl,e,_⟩:=hp
   subst e
   have ea:=rv_int xa
   have hut:=hut.trans (congrArg some (ut_int (het.trans e2)))
   have hus:=hus.trans (congrArg some (ut_int (hes.trans e1)))
   exact wp_val (r:=.int _ _) (by simp only[execOp,ho];rw[ea];simp[convert,run_underlying hus,run_underlying hut,Conv.intToInt]) (done_val hs one_int) hK
  ·rename_i e0 e1 e2
   have hut:=hut.trans (congrArg some (ut_string (het.trans e2)))
   have hus:=hus.trans (congrArg some (ut_slice (hes.trans e1)))
   split at hp
   ·rename_i h3
    cases h4:E.ty e0 with
    |none=>simp[h4]at h3
    |some de=>
     simp only[h4,Option.map_some,Option.some.injEq]at h3
     obtain⟨ue,hue,hee⟩:=(hE _ _ h4).under
     have hue:=hue.trans (congrArg some (ut_int (hee.trans h3)))
     obtain⟨z,es,rfl,l,hb,e,_⟩:=hp
     subst e
     obtain⟨ad,cap,er,_,hx⟩:=rv_sl xa
     have hconv:∀r,(Conv.bytesToString (.slice ad es.length cap)).run P w= .ok r w→(execOp a.eval o).run P w= .ok (.value r) w:=fun r hr=>by
      simp only[execOp,ho]
      rw[er,Sem.run_bind,run_convert_bytes_string w s t e0 ad es.length cap hus hue hut,hr];rfl
     cases ad with
     |none=>
      have hz:es=[]:=by
       have:cap=0:=hx
       have:es.length≤cap:=by assumption
       cases es with
       |nil=>rfl
       |cons _ _=>simp at this;omega
      subst hz
      have:l=[]:=hb
      subst this
      exact wp_val (hconv (.string ByteArray.empty) (by simp[Conv.bytesToString])) (done_val hs one_str) hK
     |some ad=>
      cases es with
      |nil=>
       have:l=[]:=hb
       subst this
       exact wp_val (hconv (.string ByteArray.empty) (by
        have:=run_bytesToString (P:=P) w ad 0 cap [] (by simp[loadCells,loadCellsFrom])
        simpa using this)) (done_val hs one_str) hK
      |cons v es=>
       obtain⟨hsp,c,ty,fr',hb1,hr1⟩:=hx (by simp)
       have z1:z=1:=by
        obtain⟨n,b,q,e1,_⟩:=hb
        subst e1
        have:seg c ad.off z=[.int .u8 n]:=hr1.2.1
        have h2:=hr1.1;rw[this]at h2;simpa using h2.symm
       subst z1
       obtain⟨ns,k1,k2,k3⟩:=bytes_cells hb hr1
       have hload:=run_loadCells_list (P:=P) w ad (ns.map (Value.int .u8)) (fun j v hj=>by rw[cell_at hb1 hsp];exact k2 j v hj)
       rw[List.length_map,k1]at hload
       have:=run_bytesToString (P:=P) w ad (v::es).length cap ns hload
       rw[foldl_bytes]at this
       refine wp_val (hconv _ this) (done_val hs ?_) hK
       have e:(⟨ByteArray.empty.data++(ns.map fun n=>n.toNat.toUInt8).toArray⟩:ByteArray)=⟨l.toArray⟩:=by
        rw[k3];congr 1;exact Array.empty_append
       rw[e];exact one_str
   ·exact hp.elim
  ·exact hp.elim
 ·exact hp.elim
end
section
variable {P : Program} {C : FuncId → List V → List V → Prop} {E : Env} {fr : Fr} {S : St} {a : Act} {w w' : World} {g : Gh} {pool : List Nat} {rm rm' : Nat} {ws : List Wr}
variable {o : Oper} {K : Act → World → Prop} {Q : Exit → Act → World → Prop}
theorem CsR.fp_nil{h:Hp}:∀{cs:List (V×M)} {rs fp},cs.any (·.2.isOwn)=false→CsR h g cs rs fp→fp=[]
 | [],_,_,_,x=>x.2
 |(v,m)::q,_,_,hn,⟨r,rs',f,f',e,e',x,y⟩=>by
  simp only[List.any_cons,Bool.or_eq_false_iff]at hn
  rw[e',OneR.fp_nil hn.1 (CV.one x),CsR.fp_nil hn.2 y];rfl
theorem retype_ok{s:Sl}{r:Value}{t:TypeId}(hr:∀(S':St) (tm:Array Value) (h:Hp) (g:Gh),SlR S' tm h g s r []):∀(S':St) (tm:Array Value) (h:Hp) (g:Gh),SlR S' tm h g (retype E t s) r []:=by
 unfold retype
 split
 ·rename_i m
  split
  ·split
   ·rename_i d hd
    intro S' tm h g
    have x:OneR #[] g (.sl 0 []) m r []:=hr S' tm #[] g
    show OneR h g (.sl d.size []) m r []
    cases m with
    |pr=>have y:RM #[] g.ro .pr (.sl 0 []) [r] []:=x;simp[RM,V.plain]at y
    |ro=>
     obtain⟨ad,len,cap,e,hl,hc,y⟩:=(show RM _ _ .ro (.sl 0 []) [r] []from x).1
     refine⟨⟨ad,len,cap,e,hl,hc,?_⟩,rfl⟩
     cases ad with
     |none=>exact y
     |some ad=>exact fun hp=>absurd hp (by simp)
    |own dd=>
     obtain⟨ad,len,cap,e,hl,hc,y⟩:=(show OEl _ _ dd (.sl 0 []) [r] []from x)
     cases ad with
     |none=>exact⟨none,len,cap,e,hl,hc,y⟩
     |some ad=>obtain⟨_,c,ty,hb,_⟩:=y;simp at hb
    |pt=>obtain⟨_,h|h⟩:=x
         ·obtain⟨b,o,β,e,_⟩:=h;cases e
         ·obtain⟨f,_,_,e,_⟩:=h;cases e
   ·exact hr
  ·exact hr
 ·exact hr
theorem take_tup(hs:Sim fr S a w g []){t cs ver}(hat:S.tmps[t]? =some (.tup cs,ver)):
 ∃g' fp,Sim fr (Wr.apps [.slot t .undef] S) a w g' fp∧SlR (Wr.apps [.slot t .undef] S) a.tmps w.heap g' (.tup cs) (a.eval (.tmp t)) fp:=by
 obtain⟨rs,e,y⟩:=hs.slot hat
 obtain⟨r0,k1,_⟩:=hs.slots t _ hat
 have:=sim_set (w':=w) (s:=.undef) (r:=r0) (nv:=ver+1) (fp:=[]) (fz:=[]) (pool':=g.fp (.s t)) hs (hs.ix hat) (Same.refl w) (Nat.le_refl _) (fun _ _ _ _=>rfl) (by rw[sl_eq hat];exact Nat.le_succ _) (fun he=>by rw[sl_eq hat]at he;simp only at he;omega)
  (by simp) (by simp) (by simp) (fun x hx=>.inr hx) (hs.nd _) (by simp) (by simp) rfl
 obtain⟨g',p1,p2,p3,p4,p5⟩:=this
 rw[put_self k1]at p5
 have e2:Wr.apps [.slot t .undef] S=S.setT t .undef (ver+1):=by
  simp only[Wr.apps,Wr.app,St.setT];rw[sl_eq hat]
 exact⟨g',g.fp (.s t),by rw[e2];exact p5,rs,e,TsR.mono (fun x hx=>(p1 x).2 (.inl hx)) (fun _ _=>rfl) (fun _ _=>rfl) y⟩
theorem mv_ok{t:TypeId}{x:Operand}{k:List Wr→Sl→Pg}(hp:PgR C S (mv E t x k) rm ws rm')(hs:Sim fr S a w g []):
 ∃w0 s rm1,PgR C S (k w0 s) rm1 ws rm'∧∃g' fp,Sim fr (Wr.apps w0 S) a w g' fp∧SlR (Wr.apps w0 S) a.tmps w.heap g' s (a.eval x) fp:=by
 have base:∀s rm1,PgR C S (k [] s) rm1 ws rm'→SlR S a.tmps w.heap g s (a.eval x) []→∃w0 s rm1,PgR C S (k w0 s) rm1 ws rm'∧∃g' fp,Sim fr (Wr.apps w0 S) a w g' fp∧SlR (Wr.apps w0 S) a.tmps w.heap g' s (a.eval x) fp:=fun s rm1 h1 h2=>⟨[],s,rm1,h1,g,[],hs,h2⟩
 unfold mv at hp
 split at hp
 ·rename_i t
  have hp':PgR C S (bif(S.sl t).1.isOwn then k [] (.ref (.s t) (S.sl t).2)else .rdS t fun s _=>match s with
   | .one _ (.own _)=>.fail
   | .many cs=>bif cs.any (·.2.isOwn)then .fail else k [] (.many cs)
   | .tup vs=>k [.slot t .undef] (.tup vs)
   |s=>k [] s) _ ws rm':=hp
  rcases sl_case S t with⟨ver,h1,h2⟩|⟨h1,h2⟩
  ·cases ho:(S.sl t).1.isOwn with
   |true=>
    rw[ho]at hp'
    refine base _ _ hp' ⟨rfl,?_,fun _=> ?_⟩
    ·simp only[St.verAt];exact Nat.le_refl _
    ·obtain⟨r,k1,_⟩:=hs.slots t _ h1
     have:a.eval (.tmp t)=r:=by simp only[Act.eval];rw[Array.getD_eq_getD_getElem?,k1];rfl
     rw[this];exact k1
   |false=>
    rw[ho]at hp'
    have hr:=hs.slot h1
    have hp2:PgR C S (match (S.sl t).1 with
     | .one _ (.own _)=>.fail
     | .many cs=>bif cs.any (·.2.isOwn)then .fail else k [] (.many cs)
     | .tup vs=>k [.slot t .undef] (.tup vs)
     |s=>k [] s) _ ws rm':=hp'
    have htup:∀cs,(S.sl t).1= .tup cs→S.tmps[t]? =some (.tup cs,ver):=fun cs e=>by rw[←e];exact h1
    generalize(S.sl t).1=s at hp2 hr ho htup
    cases s with
    |undef=>exact base _ _ hp2 rfl
    |none=>exact base _ _ hp2 ⟨hr.1,rfl⟩
    |one v m=>
     have hm:m.isOwn=false:=ho
     have e:=OneR.fp_nil hm hr
     cases m with
     |own d=>simp[M.isOwn]at hm
     |_=>exact base _ _ hp2 (by rw[e]at hr;exact hr)
    |many cs=>
     have hp2:PgR C S (bif cs.any (·.2.isOwn)then .fail else k [] (.many cs)) _ ws rm':=hp2
     cases hc:cs.any (·.2.isOwn)with
     |true=>rw[hc]at hp2;exact hp2.elim
     |false=>
      rw[hc]at hp2
      obtain⟨rs,e,y⟩:=hr
      exact base _ _ hp2 ⟨rs,e,by rw[CsR.fp_nil hc y]at y;exact y⟩
    |tup cs=>
     obtain⟨g',fp,q1,q2⟩:=take_tup hs (htup cs rfl)
     exact⟨_,_,_,hp2,g',fp,q1,q2⟩
    |ref l ver=>exact base _ _ hp2 ⟨rfl,hr.2⟩
    |eref l ver i off=>exact base _ _ hp2 ⟨rfl,hr.2⟩
    |sref l ver lo=>exact base _ _ hp2 ⟨rfl,hr.2⟩
    |aref ps=>exact base _ _ hp2 ⟨rfl,hr.2⟩
    |rptr z e off=>exact base _ _ hp2 ⟨rfl,hr.2⟩
    |aptr b off n i=>exact base _ _ hp2 ⟨rfl,hr.2⟩
  ·simp only[h2,Sl.isOwn,cond_false]at hp'
   have hp2:PgR C S (match (S.sl t).1 with
    | .one _ (.own _)=>.fail
    | .many cs=>bif cs.any (·.2.isOwn)then .fail else k [] (.many cs)
    | .tup vs=>k [.slot t .undef] (.tup vs)
    |s=>k [] s) _ ws rm':=hp'
   rw[h2]at hp2
   exact base _ _ hp2 rfl
 ·rename_i hx
  obtain⟨s,rm1,hp',hr⟩:=evO_c (a:=a) hp (fun t e=>hx t e)
  exact base _ _ hp' (retype_ok hr _ _ _ _)
theorem done_sim{W:List Wr}{g':Gh}{fp:List Nat}(h:Sim fr (Wr.apps W S) a w g' fp){s:Sl}{r:Value}(hr:SlR (Wr.apps W S) a.tmps w.heap g' s r fp):SimX fr (Wr.apps (W++wDst o.dst s) S) (a.put o.dst r) w:=by
 rw[apps_append];exact sim_dst h hr (fun x h=>h) h.plnd
theorem op_move{rid i x}(ho:o.op= .move x)(hp:PgR C S (opPg E rid i o) rm ws rm')(hs:Sim fr S a w g [])
 (hK:∀a' w',SimX fr (Wr.apps ws S) a' w'→K a' w'):o.wp P a w K Q:=by
 simp only[opPg,ho]at hp
 obtain⟨w0,s,rm1,hp,g',fp,h,hr⟩:=mv_ok hp hs
 obtain⟨e,_⟩:=hp
 subst e
 exact wp_val (by simp only[execOp,ho];rfl) (done_sim h hr) hK
theorem op_pick{rid i c x y}(ho:o.op= .pick c x y)(hp:PgR C S (opPg E rid i o) rm ws rm')(hs:Sim fr S a w g [])
 (hK:∀a' w',SimX fr (Wr.apps ws S) a' w'→K a' w'):o.wp P a w K Q:=by
 simp only[opPg,ho]at hp
 obtain⟨vc,rm1,hp,xc⟩:=val1_ok hp hs
 obtain⟨q,rfl,hp⟩:=hp
 have ec:=rv_bool xc
 rcases hp with⟨rfl,hp⟩|⟨rfl,hp⟩
 ·obtain⟨w0,s,rm1,hp,g',fp,h,hr⟩:=mv_ok hp hs
  obtain⟨e,_⟩:=hp
  subst e
  exact wp_val (r:=a.eval x) (by simp only[execOp,ho];rw[ec];simp[asBool]) (done_sim h hr) hK
 ·obtain⟨w0,s,rm1,hp,g',fp,h,hr⟩:=mv_ok hp hs
  obtain⟨e,_⟩:=hp
  subst e
  exact wp_val (r:=a.eval y) (by simp only[execOp,ho];rw[ec];simp[asBool]) (done_sim h hr) hK
theorem done_took{W:List Wr}(h:Took fr S W a w g pool){s:Sl}{r:Value}{fp:List Nat}(hr:SlR (Wr.apps W S) a.tmps w.heap g s r fp)(hfp:∀x∈fp,x∈pool)(hn:fp.Nodup):
 SimX fr (Wr.apps (W++wDst o.dst s) S) (a.put o.dst r) w:=by
 rw[apps_append];exact sim_dst h.sim hr hfp hn
theorem asg_ok{take:Bool}{t:TypeId}{x:Operand}{k}(hp:PgR C S (asg E take t x k) rm ws rm')(hs:Sim fr S a w g []):
 ∃w0 s rm1,PgR C S (k w0 s) rm1 ws rm'∧∃g' fp,Took fr S w0 a w g' fp∧SlR (Wr.apps w0 S) a.tmps w.heap g' s (a.eval x) fp:=by
 have h0:=Took.nil hs
 unfold asg at hp
 split at hp
 ·rename_i t'
  have hp':PgR C S (match (S.sl t').1 with
   | .many cs=>k [.slot t' .undef] (.many cs)
   | .none=>k [] .none
   | .undef=>k [] .undef
   |_=>sink (take||((E.ty t).map TyD.deep).getD false) (.tmp t') fun ws v m=>k ws (.one v m)) _ ws rm':=hp
  rcases sl_case S t' with⟨ver,h1,h2⟩|⟨h1,h2⟩
  ·split at hp'
   ·rename_i cs hx
    rw[hx]at h1
    obtain⟨g',fp,rs,k1,k2,k3,k4⟩:=take_many h0 h1 (Agree.refl _ _)
    exact⟨_,_,_,hp',g',fp,by simpa using k2,rs,k1,k4⟩
   ·rename_i hx
    rw[hx]at h1
    have hr:=hs.slot h1
    exact⟨_,_,_,hp',g,[],h0,hr.1,rfl⟩
   ·exact⟨_,_,_,hp',g,[],h0,rfl⟩
   ·obtain⟨w0,v,m,rm1,hp1,H⟩:=sink_ok hp' h0
    obtain⟨g',fp,k1,k2,k3⟩:=H clash_nil
    exact⟨_,_,_,hp1,g',fp,by simpa using k1,k3⟩
  ·rw[h2]at hp'
   exact⟨_,_,_,hp',g,[],h0,rfl⟩
 ·rename_i hx
  obtain⟨s,rm1,hp',hr⟩:=evO_c (a:=a) hp (fun t e=>hx t e)
  exact⟨_,_,_,hp',g,[],h0,retype_ok hr _ _ _ _⟩
theorem op_assign{rid i x}(ho:o.op= .assign x)(hp:PgR C S (opPg E rid i o) rm ws rm')(hs:Sim fr S a w g [])
 (hK:∀a' w',SimX fr (Wr.apps ws S) a' w'→K a' w'):o.wp P a w K Q:=by
 simp only[opPg,ho]at hp
 cases hv2:Nat.beq (E.vari rid i) 2 with
 |true=>
  simp only[hv2,cond_true]at hp
  split at hp
  ·split at hp
   ·rename_i d hd z hz
    obtain⟨e,_⟩:=hp
    subst e
    have hx:x= .const (.slice none 0 0):=by
     unfold nilZ at hz
     split at hz
     ·rfl
     ·cases hz
    subst hx
    exact wp_val (by simp only[execOp,ho];rfl) (done_took (s:=.one (.sl z []) (.own true)) (fp:=[]) (Took.nil hs) ⟨none,0,0,rfl,rfl,by decide,rfl,rfl⟩ (by simp) (by simp)) hK
   ·exact hp.elim
  ·exact hp.elim
 |false=>
 simp only[hv2,cond_false]at hp
 obtain⟨w0,s,rm1,hp,g',fp,h,hr⟩:=asg_ok hp hs
 obtain⟨e,_⟩:=hp
 subst e
 cases hz:Nat.beq (E.vari rid i) 1 with
 |true=>
  simp only[hz,cond_true]at hK ⊢
  by_cases hs1:∃v d,s= .one v (.own d)
  ·obtain⟨v,d,rfl⟩:=hs1
   obtain⟨g2,z1,z2,z3⟩:=Took.part (pool:=[]) (fp:=fp) (by simpa using h) (Part.all fp)
   have hr1:OneR w.heap g' v (.own d) (a.eval x) fp:=hr
   have hr2:OneR w.heap g2 v .ro (a.eval x) []:=RW.one (RW.toRO z2.ro z3 (OneR.rw rfl hr1))
   exact wp_val (by simp only[execOp,ho];rfl) (done_took (s:=.one v .ro) (by simpa using z1) hr2 (by simp) (by simp)) hK
  ·have e:frzSl s=s:=by
    unfold frzSl;split
    ·rename_i v d;exact absurd ⟨v,d,rfl⟩ hs1
    ·rfl
   rw[e]at hK
   exact wp_val (by simp only[execOp,ho];rfl) (done_took h hr (fun x h=>h) h.sim.plnd) hK
 |false=>
 simp only[hz,cond_false]at hK ⊢
 exact wp_val (by simp only[execOp,ho];rfl) (done_took h hr (fun x h=>h) h.sim.plnd) hK
theorem ptr_pt{h:Hp}{b off m r fp}(x:OneR h g (.ptr b off) m r fp):m= .pt∧fp=[]∧∃β,g.bb b=some β∧r= .pointer (some ⟨β,off,none⟩):=by
 cases m with
 |pt=>
  obtain⟨hf,h|h⟩:=x
  ·obtain⟨b',o',β,e1,e2,e3⟩:=h;cases e1;exact⟨rfl,hf,β,e2,e3⟩
  ·obtain⟨f,_,_,e,_⟩:=h;cases e
 |pr=>exact((show RM h g.ro .pr (.ptr b off) [r] fp from x).2.1).elim
 |ro=>exact((show RM h g.ro .ro (.ptr b off) [r] fp from x).1).elim
 |own d=>exact(show RM h g.ro (.own d) (.ptr b off) [r] fp from x).elim
theorem curr_ok{l:Lo}{ver:Nat}{k:Pg}(hp:PgR C S (curr l ver k) rm ws rm'):∃rm1,PgR C S k rm1 ws rm'∧S.verAt l=ver:=by
 unfold curr at hp
 split at hp
 ·rename_i t
  obtain⟨h,hp⟩:=hp
  exact⟨_,hp,by simpa [St.verAt]using h⟩
 ·rename_i b j
  have hp':PgR C S (match S.hb b j with|some (_,v)=>.chk (v==ver) k|none=>.fail) _ ws rm':=hp
  cases h:S.hb b j with
  |none=>rw[h]at hp';exact hp'.elim
  |some x=>
   rw[h]at hp'
   obtain⟨h1,hp'⟩:=hp'
   refine⟨_,hp',?_⟩
   have h1:x.2=ver:=by simpa using h1
   rw[hb_eq]at h
   simp only[St.verAt]
   cases h2:S.bx b with
   |none=>simp[h2]at h
   |some cs=>
    simp only[h2,Option.bind_some]at h ⊢
    cases h3:cs[j]? with
    |none=>simp[h3]at h
    |some c=>simp only[h3,Option.map_some,Option.some.injEq]at h ⊢;rw[←h]at h1;exact h1
theorem op_nilCheck{rid i x}(ho:o.op= .nilCheck x)(hp:PgR C S (opPg E rid i o) rm ws rm')(hs:Sim fr S a w g [])
 (hK:∀a' w',SimX fr (Wr.apps ws S) a' w'→K a' w'):o.wp P a w K Q:=by
 simp only[opPg,ho]at hp
 obtain⟨s,rm1,fp,hp,hr,_⟩:=evO_ok hp hs
 have go:∀{ad s'},a.eval x= .pointer (some ad)→SlR S a.tmps w.heap g s' (a.eval x) []→ws=[]++wDst o.dst s'→o.wp P a w K Q:=fun e hr e2=>by
  subst e2
  exact wp_val (r:=a.eval x) (by simp only[execOp,ho];rw[e];rfl) (done_sl hs hr) hK
 split at hp
 ·rename_i b off m _
  obtain⟨rfl,hf,β,e2,e3⟩:=ptr_pt hr
  cases hv:Nat.ble 16 (E.vari rid i)with
  |false=>
   rw[hv]at hp
   obtain⟨e,_⟩:=hp
   exact go (s':=.one (.ptr _ _) .pt) e3 ⟨rfl,.inl ⟨_,_,β,rfl,e2,e3⟩⟩ e
  |true=>
   rw[hv]at hp
   have hp:PgR C S (match (S.bx b).bind (·[E.vari rid i-16]?)with
    |some c=>look (.b b (E.vari rid i-16)) c.ver fun v md _ f _=>match md with
     | .own _=>.ret ([f]++wDst o.dst (.one (.ptr b off) .pt))
     |_=>.fail
    |none=>.fail) _ ws rm':=hp
   split at hp
   ·obtain⟨v,md,rm2,hat,hp⟩:=look_ok hp
    split at hp
    ·obtain⟨e,_⟩:=hp
     obtain⟨g',r,_,T,U,_⟩:=freeze_at (Took.nil hs) hat (Agree.refl _ _)
     subst e
     refine wp_val (r:=a.eval x) (by simp only[execOp,ho];rw[e3];rfl) ?_ hK
     rw[apps_append]
     exact sim_dst T.sim (s:=.one (.ptr b off) .pt) (fp:=[]) ⟨rfl,.inl ⟨b,off,β,rfl,U.bb _ _ e2,e3⟩⟩ (by simp) (by simp)
    ·exact hp.elim
   ·exact hp.elim
 ·obtain⟨rm2,hp,hv⟩:=curr_ok hp
  obtain⟨e,_⟩:=hp
  obtain⟨hf,h1,h2⟩:=hr
  obtain⟨ad,len,cap,z,k1,k2,k3,k4⟩:=h2 hv.symm
  exact go (s':=.eref _ _ _ _) k4 ⟨rfl,h1,h2⟩ e
 ·obtain⟨e,_⟩:=hp
  obtain⟨hf,bl,q,c,ty,frz,e1,h2⟩:=hr
  exact go (s':=.rptr _ _ _) e1 ⟨rfl,bl,q,c,ty,frz,e1,h2⟩ e
 ·exact hp.elim
theorem op_fieldAddr(hE:EnvOK P E){rid i t x n}(ho:o.op= .fieldAddr t x n)(hp:PgR C S (opPg E rid i o) rm ws rm')(hs:Sim fr S a w g [])
 (hK:∀a' w',SimX fr (Wr.apps ws S) a' w'→K a' w'):o.wp P a w K Q:=by
 simp only[opPg,ho]at hp
 split at hp
 ·rename_i d hd
  split at hp
  ·rename_i f hf
   split at hp
   ·rename_i fd hfd
    obtain⟨hz,hp⟩:=hp
    obtain⟨s,rm1,fp,hp,hr,_⟩:=evO_ok hp hs
    obtain⟨u,hu,he⟩:=(hE _ _ hd).under
    obtain⟨i0,z0,q1,q2,_⟩:=(hE _ _ hfd).info
    have hfs:∃F:Array Field,u= .struct F∧∃f0,F[n]? =some f0∧f=(f0.offset,f0.type):=by
     unfold fieldsOf at hf
     split at hf
     ·rename_i fs hk
      obtain⟨F,e1,e2⟩:=ut_struct (he.trans hk)
      subst e2
      refine⟨F,e1,?_⟩
      rw[List.getElem?_map]at hf
      cases h:F.toList[n]? with
      |none=>simp[h]at hf
      |some f0=>simp only[h,Option.map_some,Option.some.injEq]at hf;exact⟨f0,by simpa using h,hf.symm⟩
     ·simp at hf
    obtain⟨F,rfl,f0,hf0,rfl⟩:=hfs
    have hrun:∀b q,a.eval x= .pointer (some ⟨b,q,none⟩)→(execOp a.eval o).run P w= .ok (.value (.pointer (some ⟨b,q+f0.offset,none⟩))) w:=fun b q e=>by
     have hz':¬fd.size=0:=by simpa using hz
     simp only[execOp,ho,Instr.fieldAt,e,Sem.run_bind,run_underlying hu,Result.andThen_ok,hf0,Instr.sureAddr,fieldPlace,sizeOf,typeInfo,run_program,q1,Sem.run_pure,q2,hz',if_false,Addr.add_lit]
    unfold fieldA at hp
    split at hp
    ·obtain⟨e,_⟩:=hp
     obtain⟨rfl,hf1,β,e2,e3⟩:=ptr_pt hr
     subst e
     exact wp_val (hrun _ _ e3) (done_sl hs (s:=.one (.ptr _ _) .pt) ⟨rfl,.inl ⟨_,_,β,rfl,e2,rfl⟩⟩) hK
    ·obtain⟨rm2,hp,hv⟩:=curr_ok hp
     obtain⟨e,_⟩:=hp
     subst e
     obtain⟨hf1,h1,h2⟩:=hr
     obtain⟨ad,len,cap,z,k1,k2,k3,k4⟩:=h2 hv.symm
     exact wp_val (hrun _ _ k4) (done_sl hs (s:=.eref _ _ _ _) ⟨rfl,h1,fun _=>⟨ad,len,cap,z,k1,k2,k3,by rw[Nat.add_assoc]⟩⟩) hK
    ·obtain⟨e,_⟩:=hp
     subst e
     obtain⟨hf1,bl,q,c,ty,frz,e1,h2⟩:=hr
     exact wp_val (hrun _ _ e1) (done_sl hs (s:=.rptr _ _ _) ⟨rfl,bl,q,c,ty,frz,by rw[Nat.add_assoc],h2⟩) hK
    ·exact hp.elim
   ·exact hp.elim
  ·exact hp.elim
 ·exact hp.elim
end
set_option linter.unusedSimpArgs false
section
variable {P : Program} {C : FuncId → List V → List V → Prop} {E : Env} {fr : Fr} {S : St} {a : Act} {w w' : World} {g : Gh} {pool : List Nat} {rm rm' : Nat} {ws : List Wr}
variable {o : Oper} {K : Act → World → Prop} {Q : Exit → Act → World → Prop}
theorem isAgg_run(hE:EnvOK P E){t d}(ht:E.ty t=some d):(isAgg t).run P w= .ok d.agg w:=by
 obtain⟨u,hu,he⟩:=(hE _ _ ht).under
 simp only[isAgg,Sem.run_bind,run_underlying hu,Result.andThen_ok]
 unfold TyD.agg
 rw[←he]
 cases u<;>rfl
theorem sizeOf_run(hE:EnvOK P E){t d}(ht:E.ty t=some d):(sizeOf t).run P w= .ok d.size w:=by
 obtain⟨i,z,q1,q2,_⟩:=(hE _ _ ht).info
 simp[sizeOf,typeInfo,q1,q2]
theorem TsR.get{h:Hp}:∀{vs:List (V×M)} {rs fp} {i:Nat} {v m},TsR h g vs rs fp→vs[i]? =some (v,m)→fp.Nodup→
 ∃r f fp',rs[i]? =some r∧(m.isPt=false→RW h g.ro m v r f)∧TsR h g (vs.set i (.undef,.pt)) rs fp'∧(∀x∈f,x∈fp)∧(∀x∈fp',x∈fp)∧f.Nodup∧fp'.Nodup∧(∀x∈f,x∉fp')∧(m.isOwn=false→f=[])
 | [],_,_,i,_,_,_,hv,_=>by simp at hv
 |(v0,m0)::q,_,_,0,v,m,⟨r,rs',f,f',e,e',x,y⟩,hv,hn=>by
  simp only[List.getElem?_cons_zero,Option.some.injEq,Prod.mk.injEq]at hv
  obtain⟨rfl,rfl⟩:=hv
  subst e'
  have hn':=List.nodup_append.1 hn
  have x':m0.isPt=false→RW h g.ro m0 v0 r f:=fun hm=>by cases m0<;>first|exact x|simp[M.isPt]at hm
  exact⟨r,f,f',by rw[e];rfl,x',⟨r,rs',[],f',e,rfl,rfl,y⟩,fun x hx=>by simp[hx],fun x hx=>by simp[hx],hn'.1,hn'.2.1,fun x hx hx'=>hn'.2.2 x hx x hx' rfl,fun hm=>by
   cases m0 with
   |pt=>exact x
   |_=>exact OneR.fp_nil hm (RW.one (x' rfl))⟩
 |(v0,m0)::q,_,_,i+1,v,m,⟨r,rs',f,f',e,e',x,y⟩,hv,hn=>by
  subst e'
  have hn':=List.nodup_append.1 hn
  obtain⟨r1,g1,g2,k1,k2,k3,k4,k5,k6,k7,k8,k9⟩:=TsR.get y (by simpa using hv) hn'.2.1
  refine⟨r1,g1,f++g2,by rw[e];simpa using k1,k2,⟨r,rs',f,g2,e,rfl,x,k3⟩,fun x hx=>by simp[k4 x hx],fun x hx=> ?_,k6,?_,fun x hx hx'=> ?_,k9⟩
  ·rcases List.mem_append.1 hx with hx|hx
   ·simp[hx]
   ·simp[k5 x hx]
  ·exact List.nodup_append.2 ⟨hn'.1,k7,fun x hx y hy=>hn'.2.2 x hx y (k5 y hy)⟩
  ·rcases List.mem_append.1 hx' with hx'|hx'
   ·exact hn'.2.2 x hx' x (k4 x hx) rfl
   ·exact k8 x hx hx'
theorem op_extract{rid i x n}(ho:o.op= .extract x n)(hp:PgR C S (opPg E rid i o) rm ws rm')(hs:Sim fr S a w g [])
 (hK:∀a' w',SimX fr (Wr.apps ws S) a' w'→K a' w'):o.wp P a w K Q:=by
 simp only[opPg,ho]at hp
 split at hp
 ·rename_i t
  have hp':PgR C S (match (S.sl t).1 with
   | .tup vs=>match vs[n]? with
     |some (v,m)=>bif m.isOwn then .ret ([.keep t (.tup (vs.set n (.undef,.pt)))]++wDst o.dst (.one v m))else .chk (!m.isPt) (.ret ([]++wDst o.dst (.one v m)))
     |none=>.fail
   |_=>.fail) _ ws rm':=hp
  rcases sl_case S t with⟨ver,h1,h2⟩|⟨h1,h2⟩
  ·split at hp'
   ·rename_i vs hx
    rw[hx]at h1
    obtain⟨rs,e0,y⟩:=hs.slot h1
    split at hp'
    ·rename_i v m hv
     obtain⟨r,f,fp',k1,k2,k3,k4,k5,k6,k7,k8,k9⟩:=TsR.get y hv (hs.nd _)
     have hrun:(execOp a.eval o).run P w= .ok (.value r) w:=by
      have:rs[n]? =some r:=by simpa using k1
      simp only[execOp,ho,e0,Instr.extract,this];rfl
     obtain⟨q0,hq0,_⟩:=hs.slots t _ h1
     have hq1:a.eval (.tmp t)=q0:=by simp only[Act.eval];rw[Array.getD_eq_getD_getElem?,hq0];rfl
     cases hm:m.isOwn with
     |true=>
      rw[hm]at hp'
      obtain⟨e,_⟩:=hp'
      subst e
      have hsl:SlR S a.tmps w.heap {g with ro:=fun x=>g.ro x∨x∈[]} (.tup (vs.set n (.undef,.pt))) q0 fp':=by
       have:({g with ro:=fun x=>g.ro x∨x∈[]}:Gh)=g:=by simp
       rw[this];exact⟨rs,hq1.symm.trans e0,k3⟩
      obtain⟨g',p1,p2,p3,p4,p5⟩:=sim_set (w':=w) (s:=.tup (vs.set n (.undef,.pt))) (r:=q0) (nv:=ver) (fp:=fp') (fz:=[]) (pool':=f) hs (hs.ix h1) (Same.refl w) (Nat.le_refl _) (fun _ _ _ _=>rfl)
       (by rw[sl_eq h1];exact Nat.le_refl _) (fun _=>⟨hq0,fun z hz=>by simp[St.zAt,St.at,h1]at hz⟩) (fun x hx=>.inr (k5 x hx)) k7 (by simp) (fun x hx=>.inr (k4 x hx)) k6 (fun x hx hx'=>k8 x hx' hx) (by simp) hsl
      rw[put_self hq0]at p5
      have e2:(S.setT t (.tup (vs.set n (.undef,.pt))) ver)=Wr.apps [.keep t (.tup (vs.set n (.undef,.pt)))] S:=by
       simp only[Wr.apps,Wr.app,St.setT];rw[sl_eq h1]
      rw[e2]at p5
      refine wp_val hrun ?_ hK
      rw[apps_append]
      have up:Up g g':=⟨fun x hx=>(p1 x).2 (.inl hx),fun b β hb=>by rw[p2];exact hb⟩
      exact sim_dst p5 (s:=.one v m) ((RW.one (k2 (by cases m<;>first|rfl|simp[M.isOwn]at hm))).up up) (fun x hx=>hx) k6
     |false=>
      rw[hm]at hp'
      obtain⟨hpt,e,_⟩:=hp'
      subst e
      have e3:=k9 hm
      subst e3
      exact wp_val hrun (done_val hs (RW.one (k2 (by simpa using hpt)))) hK
    ·exact hp'.elim
   ·exact hp'.elim
  ·rw[h2]at hp';exact hp'.elim
 ·exact hp.elim
theorem op_len(hE:EnvOK P E){rid i}{c:Call}(ho:o.op= .call c)(hc:c.callee= .builtin .len)(hp:PgR C S (opPg E rid i o) rm ws rm')(hs:Sim fr S a w g [])
 (hK:∀a' w',SimX fr (Wr.apps ws S) a' w'→K a' w'):o.wp P a w K Q:=by
 simp only[opPg,ho,hc]at hp
 split at hp
 ·rename_i x d hargs hty
  cases ht:c.argTypes[0]? with
  |none=>simp[ht]at hty
  |some t=>
   simp only[ht,Option.bind_some]at hty
   obtain⟨u,hu,he⟩:=(hE _ _ hty).under
   have hargs':c.args= #[x]:=by rw[←Array.toArray_toList (xs:=c.args),hargs]
   have hrun:∀r,(Builtin.len_ c.argTypes o.type #[a.eval x]).run P w= .ok r w→(execOp a.eval o).run P w= .ok (.value r) w:=fun r hr=>by
    simp only[execOp,ho,resolve,hc,hargs',pure_bind,invoke,builtin]
    simp only[List.map_toArray,List.map_cons,List.map_nil,Sem.run_bind,hr];rfl
   split at hp
   ·rename_i e1 hk
    obtain⟨v,rm1,hp,xv⟩:=val1_ok hp hs
    obtain⟨z,es,rfl,e,_⟩:=hp
    subst e
    obtain⟨ad,cap,er,_⟩:=rv_sl xv
    have hu:=hu.trans (congrArg some (ut_slice (he.trans hk)))
    exact wp_val (hrun (.int .i64 es.length) (by simp[Builtin.len_,ht,er,run_underlying hu,goInt])) (done_val hs one_int) hK
   ·rename_i hk
    obtain⟨v,rm1,hp,xv⟩:=val1_ok hp hs
    obtain⟨s,rfl,e,_⟩:=hp
    subst e
    have er:=rv_str xv
    have hu:=hu.trans (congrArg some (ut_string (he.trans hk)))
    exact wp_val (hrun (.int .i64 s.size) (by simp[Builtin.len_,ht,er,run_underlying hu,goInt])) (done_val hs one_int) hK
   ·rename_i n e1 hk
    obtain⟨e,_⟩:=hp
    subst e
    have hu:=hu.trans (congrArg some (ut_array (he.trans hk)))
    exact wp_val (hrun (.int .i64 n) (by simp[Builtin.len_,ht,run_underlying hu,goInt])) (done_val hs one_int) hK
   ·exact hp.elim
 ·exact hp.elim
theorem op_min{rid i}{c:Call}(ho:o.op= .call c)(hc:c.callee= .builtin .min)(hp:PgR C S (opPg E rid i o) rm ws rm')(hs:Sim fr S a w g [])
 (hK:∀a' w',SimX fr (Wr.apps ws S) a' w'→K a' w'):o.wp P a w K Q:=by
 simp only[opPg,ho,hc]at hp
 split at hp
 ·rename_i x y hargs
  have hargs':c.args= #[x,y]:=by rw[←Array.toArray_toList (xs:=c.args),hargs]
  obtain⟨va,rm1,hp,xa⟩:=val1_ok hp hs
  obtain⟨vb,rm1,hp,xb⟩:=val1_ok hp hs
  obtain⟨k,m,rfl,k',n,rfl,hk,e,_⟩:=hp
  have hk:=of_decide_eq_true hk
  subst hk;subst e
  have ea:=rv_int xa
  have eb:=rv_int xb
  refine wp_val (r:=.int k (bif decide (n<m)then n else m)) ?_ (done_val hs one_int) hK
  simp only[execOp,ho,resolve,hc,hargs',pure_bind,invoke,builtin,List.map_toArray,List.map_cons,List.map_nil,ea,eb,Builtin.min_,List.foldlM,Builtin.min2,Sem.run_bind,Sem.run_pure,Result.andThen_ok]
  by_cases h:n<m<;>simp[h]
 ·exact hp.elim
theorem op_max{rid i}{c:Call}(ho:o.op= .call c)(hc:c.callee= .builtin .max)(hp:PgR C S (opPg E rid i o) rm ws rm')(hs:Sim fr S a w g [])
 (hK:∀a' w',SimX fr (Wr.apps ws S) a' w'→K a' w'):o.wp P a w K Q:=by
 simp only[opPg,ho,hc]at hp
 split at hp
 ·rename_i x y hargs
  have hargs':c.args= #[x,y]:=by rw[←Array.toArray_toList (xs:=c.args),hargs]
  obtain⟨va,rm1,hp,xa⟩:=val1_ok hp hs
  obtain⟨vb,rm1,hp,xb⟩:=val1_ok hp hs
  obtain⟨k,m,rfl,k',n,rfl,hk,e,_⟩:=hp
  have hk:=of_decide_eq_true hk
  subst hk;subst e
  have ea:=rv_int xa
  have eb:=rv_int xb
  refine wp_val (r:=.int k (bif decide (m<n)then n else m)) ?_ (done_val hs one_int) hK
  simp only[execOp,ho,resolve,hc,hargs',pure_bind,invoke,builtin,List.map_toArray,List.map_cons,List.map_nil,ea,eb,Builtin.max_,List.foldlM,Builtin.max2,Sem.run_bind,Sem.run_pure,Result.andThen_ok]
  by_cases h:m<n<;>simp[h]
 ·exact hp.elim
theorem CsR.nth{h:Hp}:∀{cs:List (V×M)} {rs fp} {i:Nat} {v m},CsR h g cs rs fp→cs[i]? =some (v,m)→∃r f,rs[i]? =some r∧CV h g m v r f∧∀x∈f,x∈fp
 | [],_,_,i,_,_,_,hv=>by simp at hv
 |(v0,m0)::q,_,_,0,v,m,⟨r,rs',f,f',e,e',x,y⟩,hv=>by
  simp only[List.getElem?_cons_zero,Option.some.injEq,Prod.mk.injEq]at hv
  obtain⟨rfl,rfl⟩:=hv
  exact⟨r,f,by rw[e];rfl,x,fun x hx=>by simp[e',hx]⟩
 |(v0,m0)::q,_,_,i+1,v,m,⟨r,rs',f,f',e,e',x,y⟩,hv=>by
  obtain⟨r1,g1,k1,k2,k3⟩:=CsR.nth y (by simpa using hv)
  exact⟨r1,g1,by rw[e];simpa using k1,k2,fun x hx=>by simp[e',k3 x hx]⟩
theorem op_index(hE:EnvOK P E){rid i t x ix}(ho:o.op= .index t x ix)(hp:PgR C S (opPg E rid i o) rm ws rm')(hs:Sim fr S a w g [])
 (hK:∀a' w',SimX fr (Wr.apps ws S) a' w'→K a' w'):o.wp P a w K Q:=by
 simp only[opPg,ho]at hp
 split at hp
 ·rename_i d ht
  obtain⟨u,hu,he⟩:=(hE _ _ ht).under
  obtain⟨iv,rm1,hp,xi⟩:=val1_ok hp hs
  obtain⟨ki,n,rfl,hp⟩:=hp
  have ei:=rv_int xi
  split at hp
  ·rename_i hk
   have hu:=hu.trans (congrArg some (ut_string (he.trans hk)))
   obtain⟨v,rm2,hp,xv⟩:=val1_ok hp hs
   obtain⟨s,rfl,hb,e,_⟩:=hp
   subst e
   have er:=rv_str xv
   simp only[Bool.and_eq_true,decide_eq_true_eq]at hb
   obtain⟨h0,h1⟩:=hb
   have hlt:n.toNat<s.size:=by omega
   have hget:s[n.toNat]? =some (s.data.toList.getD n.toNat 0):=by
    have h2:n.toNat<s.data.toList.length:=by simpa using hlt
    rw[List.getD_eq_getElem?_getD,List.getElem?_eq_getElem h2]
    simp only[Option.getD_some]
    show(if h:n.toNat<s.size then some s[n.toNat]else none)=_
    rw[dif_pos hlt]
    rfl
   refine wp_val (r:=.int .u8 ((s.data.toList.getD n.toNat 0).toNat:Int)) ?_ (done_val hs one_int) hK
   simp only[execOp,ho,Instr.index,ei,er,asIntOf,pure_bind,Sem.run_bind,run_underlying hu,Result.andThen_ok,h0,if_true,hget];rfl
  ·rename_i len e1 hk
   have hu:=hu.trans (congrArg some (ut_array (he.trans hk)))
   split at hp
   ·rename_i ed hed
    obtain⟨s,rm2,fp,hp,hr,hwhy⟩:=evO_ok hp hs
    clear hwhy
    split at hp
    ·rename_i cs
     obtain⟨hb,v,hv,e,_⟩:=hp
     subst e
     simp only[Bool.and_eq_true,decide_eq_true_eq,beq_iff_eq]at hb
     obtain⟨⟨⟨⟨h1,h2⟩,h3⟩,h4⟩,h5⟩:=hb
     obtain⟨rs,er,y⟩:=hr
     have hcs:∃m,cs[n.toNat]? =some (v,m):=by
      rw[List.getElem?_map]at hv
      cases hq:cs[n.toNat]? with
      |none=>simp[hq]at hv
      |some c=>simp only[hq,Option.map_some,Option.some.injEq]at hv;exact⟨c.2,by rw[←hv]⟩
     obtain⟨m,hcs⟩:=hcs
     obtain⟨r,f,k1,k2,_⟩:=CsR.nth y hcs
     have hm:m= .pr:=by
      have:=List.all_eq_true.1 h3 _ (List.mem_of_getElem? hcs)
      cases m<;>first|rfl|simp at this
     subst hm
     have e0:=OneR.fp_nil rfl (CV.one k2)
     subst e0
     refine wp_val (r:=r) ?_ (done_val hs (CV.one k2)) hK
     have hag:=isAgg_run (w:=w) hE hed
     have h2':ed.agg=false:=by simpa using h2
     rw[h2']at hag
     have hrs:rs[n.toNat]? =some r:=by simpa using k1
     simp only[execOp,ho,Instr.index,ei,er,asIntOf,pure_bind,Sem.run_bind,run_underlying hu,Result.andThen_ok,h4,h5,and_self,if_true,sizeOf_run hE hed,h1,Nat.mul_one,part,hag,Bool.false_eq_true,if_false,hrs,Sem.run_pure]
    ·exact hp.elim
   ·exact hp.elim
  ·exact hp.elim
 ·exact hp.elim
end
section
variable {P : Program} {C : FuncId → List V → List V → Prop} {E : Env} {fr : Fr} {S : St} {a : Act} {w w' : World} {g : Gh} {pool : List Nat} {rm rm' : Nat} {ws : List Wr}
variable {o : Oper} {K : Act → World → Prop} {Q : Exit → Act → World → Prop}
theorem REs.nth{h:Hp}{ro:Nat→Prop}{c:Array Value}{z:Nat}:∀{es:List V} {off i:Nat} {e:V},REs h ro es c off z→es[i]? =some e→(seg c (off+i*z) z).length=z∧REl h ro e (seg c (off+i*z) z)
 | [],_,i,_,_,hv=>by simp at hv
 |e0::es,off,0,e,⟨h1,h2,h3⟩,hv=>by
  simp only[List.getElem?_cons_zero,Option.some.injEq]at hv
  subst hv;simp only[Nat.zero_mul,Nat.add_zero];exact⟨h1,h2⟩
 |e0::es,off,i+1,e,⟨h1,h2,h3⟩,hv=>by
  have:=REs.nth (i:=i) h3 (by simpa using hv)
  rw[show off+(i+1)*z=off+z+i*z by rw[Nat.succ_mul];omega];exact this
theorem sl_addr{h:Hp}{z es r}(x:RV h (.sl z es) r)(hn:0<es.length):∃ad cap,r= .slice (some ad) es.length cap∧es.length≤cap∧ad.spot=none:=by
 obtain⟨ad,cap,e,hc,y⟩:=rv_sl x
 cases ad with
 |none=>have:cap=0:=y;omega
 |some ad=>exact⟨ad,cap,e,hc,(y hn).1⟩
theorem elem_under(hE:EnvOK P E){t d}(ht:E.ty t=some d){ed:TyD}(he:d.elem?.bind E.ty=some ed):∃te,d.elem?=some te∧E.ty te=some ed:=by
 cases h:d.elem? with
 |none=>simp[h]at he
 |some te=>simp only[h,Option.bind_some]at he;exact⟨te,rfl,he⟩
theorem op_indexAddr(hE:EnvOK P E){rid i t x ix}(ho:o.op= .indexAddr t x ix)(hp:PgR C S (opPg E rid i o) rm ws rm')(hs:Sim fr S a w g [])
 (hK:∀a' w',SimX fr (Wr.apps ws S) a' w'→K a' w'):o.wp P a w K Q:=by
 simp only[opPg,ho]at hp
 split at hp
 ·rename_i d ht
  split at hp
  ·rename_i ed hed
   obtain⟨u,hu,he⟩:=(hE _ _ ht).under
   obtain⟨te,hte,hty⟩:=elem_under hE ht hed
   unfold indexA at hp
   obtain⟨iv,rm1,hp,xi⟩:=val1_ok hp hs
   obtain⟨ki,n,rfl,hp⟩:=hp
   have ei:=rv_int xi
   split at hp
   ·rename_i e1 hk
    have hte':te=e1:=by simp only[TyD.elem?,hk,Option.some.injEq]at hte;exact hte.symm
    subst hte'
    have hu:=hu.trans (congrArg some (ut_slice (he.trans hk)))
    cases x with
    |tmp t'=>
     have hrun:∀{ad:Addr} {len cap:Nat},a.eval (.tmp t')= .slice (some ad) len cap→ad.spot=none→0≤n→n<len→(execOp a.eval o).run P w= .ok (.value (.pointer (some ⟨ad.block,ad.off+n.toNat*ed.size,none⟩))) w:=fun{ad len cap} e hsp h0 h1=>by
      obtain⟨b,q,sp⟩:=ad
      simp only at hsp
      subst hsp
      simp only[execOp,ho,Instr.indexAt,ei,e,asIntOf,pure_bind,Sem.run_bind,run_underlying hu,Result.andThen_ok,h0,h1,and_self,if_true,sizeOf_run hE hty,Sem.run_pure,Addr.add_lit]
     have hp':PgR C S (match (S.sl t').1 with
      | .one v (.own _)=>.asSl v fun z es=>.chk (z==ed.size&&decide (0≤n)&&decide (n<es.length)) (.ret ([]++wDst o.dst (.eref (.s t') (S.sl t').2 n.toNat 0)))
      | .one v _=>.asSl v fun z es=>.chk (z==ed.size&&decide (0≤n)&&decide (n<es.length)) (.nth es n.toNat fun e=>.ret ([]++wDst o.dst (.rptr ed.size e 0)))
      | .ref l ver=>look l ver fun v m _ _ _=>.asSl v fun z es=>.chk (z==ed.size&&decide (0≤n)&&decide (n<es.length)) (match m with
        | .own _=>.ret ([]++wDst o.dst (.eref l ver n.toNat 0))
        |_=>.nth es n.toNat fun e=>.ret ([]++wDst o.dst (.rptr ed.size e 0)))
      |_=>.fail) _ ws rm':=hp
     have own:∀{l:Lo} {d':Bool} {z es ver},S.at l=some (.sl z es,.own d',ver)→realAt a.tmps w.heap g l=some (a.eval (.tmp t'))→OneR w.heap g (.sl z es) (.own d') (a.eval (.tmp t')) (g.fp l)→(z==ed.size&&decide (0≤n)&&decide (n<es.length))=true→
      ws=[]++wDst o.dst (.eref l ver n.toNat 0)→o.wp P a w K Q:=fun{l d' z es ver} hat hreal hr hb e=>by
      subst e
      simp only[Bool.and_eq_true,decide_eq_true_eq,beq_iff_eq]at hb
      obtain⟨⟨rfl,h0⟩,h1⟩:=hb
      obtain⟨ad,cap,er,hcap,hsp⟩:=sl_addr (hr.rv rfl) (by omega)
      obtain⟨_,_,_,hv⟩:=hs.at hat
      refine wp_val (hrun er hsp h0 h1) (done_sl hs (s:=.eref _ _ _ _) ⟨rfl,by omega,fun _=>⟨ad,es.length,cap,ed.size,by rw[←er];exact hreal,by omega,by simp[St.zAt,hat,zOf],rfl⟩⟩) hK
     have ron:∀{m:M} {z es e fp},m.isOwn=false→OneR w.heap g (.sl z es) m (a.eval (.tmp t')) fp→(z==ed.size&&decide (0≤n)&&decide (n<es.length))=true→es[n.toNat]? =some e→ws=[]++wDst o.dst (.rptr ed.size e 0)→o.wp P a w K Q:=fun{m z es e fp} hm hr hb hv e2=>by
      subst e2
      simp only[Bool.and_eq_true,decide_eq_true_eq,beq_iff_eq]at hb
      obtain⟨⟨rfl,h0⟩,h1⟩:=hb
      cases m with
      |own d=>simp[M.isOwn]at hm
      |pr=>exact absurd (show V.plain (.sl ed.size es)=true from(show RM w.heap g.ro .pr (.sl ed.size es) [_] _ from hr).1) (by simp[V.plain])
      |pt=>obtain⟨_,h|h⟩:=hr
           ·obtain⟨b,o,β,e,_⟩:=h;cases e
           ·obtain⟨f,_,_,e,_⟩:=h;cases e
      |ro=>
       obtain⟨ad,len,cap,er,hl,hc,y⟩:=(show RM w.heap g.ro .ro (.sl ed.size es) [_] _ from hr).1
       cases er':ad with
       |none=>rw[er']at y;have:cap=0:=y;omega
       |some ad'=>
        rw[er']at y er
        obtain⟨hsp,hro,c,ty,fr',hb,hes⟩:=y (by omega)
        obtain⟨k1,k2⟩:=hes.nth hv
        injection er with er
        exact wp_val (hrun er hsp h0 (by omega)) (done_sl hs (s:=.rptr _ _ _) ⟨rfl,ad'.block,ad'.off+n.toNat*ed.size,c,ty,fr',rfl,hro,hb,k1,k2⟩) hK
     rcases sl_case S t' with⟨ver,h1,h2⟩|⟨h1,h2⟩
     ·split at hp'
      ·rename_i v d' hx
       rw[hx]at h1
       obtain⟨z,es,rfl,hb,e,_⟩:=hp'
       rw[h2]at e
       have hat:S.at (.s t')=some (.sl z es,.own d',ver):=by simp only[St.at,h1]
       obtain⟨q0,hq0,_⟩:=hs.slots _ _ h1
       have hq1:a.eval (.tmp t')=q0:=by simp only[Act.eval];rw[Array.getD_eq_getD_getElem?,hq0];rfl
       exact own hat (by rw[hq1];exact hq0) (hs.slot h1) hb e
      ·rename_i v m hm hx
       rw[hx]at h1
       obtain⟨z,es,rfl,hb,el,hv,e,_⟩:=hp'
       have hm':m.isOwn=false:=by cases m<;>first|rfl|exact absurd rfl (hm _)
       exact ron hm' (hs.slot h1) hb hv e
      ·rename_i l ver' hx
       rw[hx]at h1
       obtain⟨v,m,rm2,hat,z,es,rfl,hb,hp'⟩:=look_ok hp'
       obtain⟨k1,k2,_⟩:=hs.ref (hs.slot h1) hat
       split at hp'
       ·obtain⟨e,_⟩:=hp'
        exact own hat k1 k2.one hb e
       ·rename_i m0 hm
        obtain⟨el,hv,e,_⟩:=hp'
        have hm':m.isOwn=false:=by cases m<;>first|rfl|exact absurd rfl (hm _)
        exact ron hm' k2.one hb hv e
      ·exact hp'.elim
     ·rw[h2]at hp';exact hp'.elim
    |_=>exact hp.elim
   ·rename_i len e1 hk
    have hte':te=e1:=by simp only[TyD.elem?,hk,Option.some.injEq]at hte;exact hte.symm
    subst hte'
    have hu:=hu.trans (congrArg some (ut_array (he.trans hk)))
    obtain⟨s,rm2,fp,hp,hr,hwhy⟩:=evO_ok hp hs
    clear hwhy
    split at hp
    ·rename_i b off m
     obtain⟨hb,e,_⟩:=hp
     subst e
     obtain⟨rfl,hf,β,e2,e3⟩:=ptr_pt hr
     simp only[Bool.and_eq_true,decide_eq_true_eq,beq_iff_eq]at hb
     obtain⟨⟨hz,h0⟩,h1⟩:=hb
     refine wp_val (r:=.pointer (some ⟨β,off+n.toNat,none⟩)) ?_ (done_sl hs (s:=.aptr _ _ _ _) ⟨rfl,by omega,β,e2,rfl⟩) hK
     simp only[execOp,ho,Instr.indexAt,ei,e3,asIntOf,Instr.sureAddr,pure_bind,Sem.run_bind,run_underlying hu,Result.andThen_ok,Sem.run_pure,h0,h1,and_self,if_true,sizeOf_run hE hty,hz,Nat.mul_one,Addr.add_lit]
    ·exact hp.elim
   ·exact hp.elim
  ·exact hp.elim
 ·exact hp.elim
end
section
variable {P : Program} {C : FuncId → List V → List V → Prop} {E : Env} {fr : Fr} {S : St} {a : Act} {w w' : World} {g : Gh} {pool : List Nat} {rm rm' : Nat} {ws : List Wr}
variable {o : Oper} {K : Act → World → Prop} {Q : Exit → Act → World → Prop}
theorem run_bounds(isS:Bool)(len cap:Nat)(low high:Option Value)(l h:Int)(hl:(low=none∧l=0)∨∃k,low=some (.int k l))(hh:(high=none∧h=len)∨∃k,high=some (.int k h))
 (h0:0≤l) (h1:l≤h) (h2:h≤cap):(Instr.sliceBounds isS len cap low high none).run P w= .ok (l.toNat,h.toNat,cap) w:=by
 have hh0:0≤h:=by omega
 have e:((h.toNat:Nat):Int)=h:=by omega
 rcases hl with⟨rfl,rfl⟩|⟨k,rfl⟩<;>rcases hh with⟨rfl,rfl⟩|⟨k',rfl⟩<;>
  simp[Instr.sliceBounds,Instr.sliceBound,asIntOf,h0,h1,h2,hh0,e]
theorem REs.take{h:Hp}{ro:Nat→Prop}{c:Array Value}{z:Nat}:∀{es:List V} {off n:Nat},REs h ro es c off z→REs h ro (es.take n) c off z
 | [],_,_,_=>by simp[REs]
 |e::es,off,0,_=>by simp[REs]
 |e::es,off,n+1,⟨h1,h2,h3⟩=>⟨h1,h2,REs.take h3⟩
theorem REs.drop{h:Hp}{ro:Nat→Prop}{c:Array Value}{z:Nat}:∀{es:List V} {off n:Nat},REs h ro es c off z→REs h ro (es.drop n) c (off+n*z) z
 | [],_,_,_=>by simp[REs]
 |e::es,off,0,x=>by simpa using x
 |e::es,off,n+1,⟨h1,h2,h3⟩=>by
  have:=REs.drop (n:=n) h3
  rw[show off+(n+1)*z=off+z+n*z by rw[Nat.succ_mul];omega]
  exact this
theorem OEs.take{h:Hp}{ro:Nat→Prop}{d:Bool}{c:Array Value}{z:Nat}:∀{es:List V} {off n:Nat} {fp},OEs h ro d es c off z fp→∃f,OEs h ro d (es.take n) c off z f∧f.Sublist fp
 | [],_,_,_,x=>⟨[],by simp[OEs],List.nil_sublist _⟩
 |e::es,off,0,_,_=>⟨[],by simp[OEs],List.nil_sublist _⟩
 |e::es,off,n+1,fp,⟨f,f',e1,h1,h2,h3⟩=>by
  obtain⟨q,k1,k2⟩:=OEs.take (n:=n) h3
  exact⟨f++q,⟨f,q,rfl,h1,h2,k1⟩,by rw[e1];exact List.Sublist.append (List.Sublist.refl _) k2⟩
theorem OEs.drop{h:Hp}{ro:Nat→Prop}{d:Bool}{c:Array Value}{z:Nat}:∀{es:List V} {off n:Nat} {fp},OEs h ro d es c off z fp→∃f,OEs h ro d (es.drop n) c (off+n*z) z f∧f.Sublist fp
 | [],_,_,_,x=>⟨[],by simp[OEs],List.nil_sublist _⟩
 |e::es,off,0,fp,x=>⟨fp,by simpa using x,List.Sublist.refl _⟩
 |e::es,off,n+1,fp,⟨f,f',e1,h1,h2,h3⟩=>by
  obtain⟨q,k1,k2⟩:=OEs.drop (n:=n) h3
  rw[show off+(n+1)*z=off+z+n*z by rw[Nat.succ_mul];omega]
  exact⟨q,k1,by rw[e1];exact k2.trans (List.sublist_append_right _ _)⟩
theorem cut_ok{h:Hp}{m:M}{z:Nat}{es:List V}{r:Value}{fp:List Nat}(x:OneR h g (.sl z es) m r fp){l k:Nat}(hl:l≤k)(hk:k≤es.length):
 ∃ad cap fp',r= .slice ad es.length cap∧es.length≤cap∧fp'.Sublist fp∧
  OneR h g (.sl z ((es.take k).drop l)) m (.slice (if cap=l then ad else ad.map (·.add (l*z))) (k-l) (cap-l)) fp':=by
 have hlen:((es.take k).drop l).length=k-l:=by simp[Nat.min_eq_left hk]
 cases m with
 |pr=>exact absurd (show V.plain (.sl z es)=true from(show RM h g.ro .pr (.sl z es) [r] fp from x).1) (by simp[V.plain])
 |pt=>obtain⟨_,h|h⟩:=x
      ·obtain⟨b,o,β,e,_⟩:=h;cases e
      ·obtain⟨f,_,_,e,_⟩:=h;cases e
 |ro=>
  obtain⟨⟨ad,len,cap,er,hl',hc,y⟩,hf⟩:=(show RM h g.ro .ro (.sl z es) [r] fp from x)
  injection er with er
  subst hl'
  refine⟨ad,cap,[],er,hc,List.nil_sublist _,?_⟩
  cases ad with
  |none=>
   have hc0:cap=0:=y
   refine⟨⟨none,k-l,cap-l,by simp,hlen.symm,by omega,by simp;omega⟩,rfl⟩
  |some ad=>
   by_cases e:cap=l
   ·refine⟨⟨some ad,k-l,cap-l,by simp[e],hlen.symm,by omega,fun hp=> ?_⟩,rfl⟩
    rw[hlen]at hp;omega
   ·refine⟨⟨some (ad.add (l*z)),k-l,cap-l,by simp[e],hlen.symm,by omega,fun hp=> ?_⟩,rfl⟩
    rw[hlen]at hp
    obtain⟨hsp,hro,c,ty,fr',hb,hes⟩:=y (by omega)
    obtain⟨b,q,sp⟩:=ad
    simp only at hsp
    subst hsp
    rw[Addr.add_lit]
    exact⟨rfl,hro,c,ty,fr',hb,hes.take.drop⟩
 |own d=>
  obtain⟨ad,len,cap,er,hl',hc,y⟩:=(show OEl h g.ro d (.sl z es) [r] fp from x)
  injection er with er
  subst hl'
  cases ad with
  |none=>
   obtain⟨hc0,hf⟩:=y
   refine⟨none,cap,[],er,hc.1,List.nil_sublist _,none,k-l,cap-l,by simp,hlen.symm,by omega,by simp;omega⟩
  |some ad=>
   obtain⟨hsp,c,ty,hb,ho,fp',e1,y⟩:=y
   obtain⟨b,q,sp⟩:=ad
   simp only at hsp hb ho e1 y
   subst hsp
   have sub:∃f,(if d then OEs h g.ro d ((es.take k).drop l) c (q+l*z) z f else(f=[]∧REs h g.ro ((es.take k).drop l) c (q+l*z) z))∧f.Sublist fp':=by
    cases d with
    |true=>
     simp only[if_true]at y ⊢
     obtain⟨f1,k1,k2⟩:=OEs.take (n:=k) y
     obtain⟨f2,k3,k4⟩:=OEs.drop (n:=l) k1
     exact⟨f2,k3,k4.trans k2⟩
    |false=>
     simp only[Bool.false_eq_true,if_false]at y ⊢
     exact⟨[],⟨rfl,y.2.take.drop⟩,List.nil_sublist _⟩
   obtain⟨f,hf,hsub⟩:=sub
   by_cases e:cap=l
   ·have hnil:(es.take k).drop l=[]:=by apply List.eq_nil_of_length_eq_zero;rw[hlen];omega
    refine⟨some ⟨b,q,none⟩,cap,[b],er,hc.1,by rw[e1];simp,some ⟨b,q,none⟩,k-l,cap-l,by simp[e],hlen.symm,by omega,rfl,c,ty,hb,?_,[],rfl,?_⟩
    ·have:cap-l=0:=by omega
     rw[this];simp only[Nat.zero_mul,Nat.add_zero];exact Nat.le_trans (Nat.le_add_right _ _) ho
    ·rw[hnil];cases d<;>simp[OEs,REs]
   ·refine⟨some ⟨b,q,none⟩,cap,b::f,er,hc.1,by rw[e1];exact hsub.cons_cons b,some ⟨b,q+l*z,none⟩,k-l,cap-l,by simp[e,Addr.add_lit],hlen.symm,by omega,rfl,c,ty,hb,?_,f,rfl,hf⟩
    have:l*z+(cap-l)*z=cap*z:=by rw[←Nat.add_mul];congr 1;omega
    simp only;omega
theorem low_ok{lo:Option Operand}{kp:Int→Pg}(hs:Sim fr S a w g pool)(hp:PgR C S (match lo with
 |some l=>val1 l fun lv=>.asInt lv fun _ l=>kp l
 |none=>kp 0) rm ws rm'):∃l rm2,PgR C S (kp l) rm2 ws rm'∧((lo.map a.eval=none∧l=0)∨∃k,lo.map a.eval=some (.int k l)):=by
 cases lo with
 |none=>exact⟨0,_,hp,.inl ⟨rfl,rfl⟩⟩
 |some l=>
  obtain⟨lv,rm2,hp,xl⟩:=val1_ok hp hs
  obtain⟨k,n,rfl,hp⟩:=hp
  exact⟨n,_,hp,.inr ⟨k,by rw[Option.map_some,rv_int xl]⟩⟩
theorem bounds_ok{lo hi:Option Operand}{full:Int}{kp:Int→Int→Pg}(hs:Sim fr S a w g pool)(hp:PgR C S (match hi with
        |some h=>val1 h fun hv=>.asInt hv fun _ h=>(match lo with
         |some l=>val1 l fun lv=>.asInt lv fun _ l=>kp l h
         |none=>kp 0 h)
        |none=>(match lo with
         |some l=>val1 l fun lv=>.asInt lv fun _ l=>kp l full
         |none=>kp 0 full)) rm ws rm'):
 ∃l h rm2,PgR C S (kp l h) rm2 ws rm'∧((lo.map a.eval=none∧l=0)∨∃k,lo.map a.eval=some (.int k l))∧((hi.map a.eval=none∧h=full)∨∃k,hi.map a.eval=some (.int k h)):=by
 cases hi with
 |none=>
  obtain⟨l,rm2,hp,h1⟩:=low_ok (kp:=fun l=>kp l full) hs hp
  exact⟨l,full,rm2,hp,h1,.inl ⟨rfl,rfl⟩⟩
 |some h=>
  obtain⟨hv,rm2,hp,xh⟩:=val1_ok hp hs
  obtain⟨k,n,rfl,hp⟩:=hp
  obtain⟨l,rm3,hp,h1⟩:=low_ok (kp:=fun l=>kp l n) hs hp
  exact⟨l,n,rm3,hp,h1,.inr ⟨k,by rw[Option.map_some,rv_int xh]⟩⟩
def cutStr(dst:Option Tmp)(s:ByteArray)(lo:Option Operand)(l h:Int):Pg:=
 match lo with
 |some _=>.chk (decide (0≤l)&&decide (l≤h)&&decide (h≤s.size)) (.ret ([]++wDst dst (.one (.str (s.extract l.toNat h.toNat)) .pr)))
 |none=>.chk (decide (0≤h)&&decide (h≤s.size)) (.ret ([]++wDst dst (.one (.str (s.extract 0 h.toNat)) .pr)))
def cutSl(dst:Option Tmp)(w0:List Wr)(z:Nat)(es:List V)(m:M)(lo:Option Operand)(l h:Int):Pg:=
 match lo with
 |some _=>.chk (decide (0≤l)&&decide (l≤h)&&decide (h≤es.length)) (.ret (w0++wDst dst (.one (.sl z ((es.take h.toNat).drop l.toNat)) m)))
 |none=>.chk (decide (0≤h)&&decide (h≤es.length)) (.ret (w0++wDst dst (.one (.sl z (es.take h.toNat)) m)))
theorem sref_op(hE:EnvOK P E){t x lo hi te}{ed:TyD}(ho:o.op= .slice t x lo hi none)(hu:P.underlying t=some (.slice te))(hed:E.ty te=some ed)(hp:PgR C S (srefP x lo hi ed fun s=>.ret ([]++wDst o.dst s)) rm ws rm')(hs:Sim fr S a w g [])
 (hK:∀a' w',SimX fr (Wr.apps ws S) a' w'→K a' w'):o.wp P a w K Q:=by
 unfold srefP at hp
 cases lo with
 |none=>exact hp.elim
 |some lo=>
 cases hi with
 |some hi=>exact hp.elim
 |none=>
 obtain⟨iv,rm1,hp,xi⟩:=val1_ok hp hs
 obtain⟨ki,n,rfl,hp⟩:=hp
 have ei:=rv_int xi
 cases x with
 |tmp t'=>
  have hp':PgR C S (match (S.sl t').1 with
   | .one v (.own _)=>.asSl v fun z es=>.chk (z==ed.size&&decide (0≤n)&&decide (n<es.length)) (.ret ([]++wDst o.dst (.sref (.s t') (S.sl t').2 n.toNat)))
   | .ref l ver=>look l ver fun v m _ _ _=>.asSl v fun z es=>.chk (z==ed.size&&decide (0≤n)&&decide (n<es.length)) (match m with
     | .own _=>.ret ([]++wDst o.dst (.sref l ver n.toNat))
     |_=>.fail)
   |_=>.fail) _ ws rm':=hp
  have own:∀{l:Lo} {d':Bool} {z es ver},S.at l=some (.sl z es,.own d',ver)→realAt a.tmps w.heap g l=some (a.eval (.tmp t'))→OneR w.heap g (.sl z es) (.own d') (a.eval (.tmp t')) (g.fp l)→(z==ed.size&&decide (0≤n)&&decide (n<es.length))=true→
   ws=[]++wDst o.dst (.sref l ver n.toNat)→o.wp P a w K Q:=fun{l d' z es ver} hat hreal hr hb e=>by
   subst e
   simp only[Bool.and_eq_true,decide_eq_true_eq,beq_iff_eq]at hb
   obtain⟨⟨rfl,h0⟩,h1⟩:=hb
   obtain⟨ad,cap,er,hcap,hsp⟩:=sl_addr (hr.rv rfl) (by omega)
   obtain⟨_,_,_,hv⟩:=hs.at hat
   have hne:¬cap=n.toNat:=by omega
   refine wp_val (r:=.slice (some (ad.add (n.toNat*ed.size))) (es.length-n.toNat) (cap-n.toNat)) ?_ (done_sl hs (s:=.sref _ _ _) ⟨rfl,by omega,fun _=>⟨ad,es.length,cap,ed.size,by rw[←er];exact hreal,by omega,hcap,by simp[St.zAt,hat,zOf],rfl⟩⟩) hK
   have hb:=run_bounds (P:=P) (w:=w) true es.length cap (some (a.eval lo)) none n es.length (.inr ⟨ki,by rw[ei]⟩) (.inl ⟨rfl,rfl⟩) h0 (by omega) (by omega)
   simp only[execOp,ho,Instr.sliceAt,er,Sem.run_bind,run_underlying hu,Result.andThen_ok,Instr.slice,Option.map_none,Option.map_some,hb,sizeOf_run hE hed,Sem.run_pure,if_neg hne,Int.toNat_natCast]
  rcases sl_case S t' with⟨ver,h1,h2⟩|⟨h1,h2⟩
  ·split at hp'
   ·rename_i v d' hx
    rw[hx]at h1
    obtain⟨z,es,rfl,hb,e,_⟩:=hp'
    rw[h2]at e
    have hat:S.at (.s t')=some (.sl z es,.own d',ver):=by simp only[St.at,h1]
    obtain⟨q0,hq0,_⟩:=hs.slots _ _ h1
    have hq1:a.eval (.tmp t')=q0:=by simp only[Act.eval];rw[Array.getD_eq_getD_getElem?,hq0];rfl
    exact own hat (by rw[hq1];exact hq0) (hs.slot h1) hb e
   ·rename_i l ver' hx
    rw[hx]at h1
    obtain⟨v,m,rm2,hat,z,es,rfl,hb,hp'⟩:=look_ok hp'
    obtain⟨k1,k2,_⟩:=hs.ref (hs.slot h1) hat
    split at hp'
    ·obtain⟨e,_⟩:=hp'
     exact own hat k1 k2.one hb e
    ·exact hp'.elim
   ·exact hp'.elim
  ·rw[h2]at hp';exact hp'.elim
 |_=>exact hp.elim
theorem op_slice(hE:EnvOK P E){rid i t x lo hi mx}(ho:o.op= .slice t x lo hi mx)(hp:PgR C S (opPg E rid i o) rm ws rm')(hs:Sim fr S a w g [])
 (hK:∀a' w',SimX fr (Wr.apps ws S) a' w'→K a' w'):o.wp P a w K Q:=by
 cases mx with
 |some mx=>simp only[opPg,ho]at hp;exact hp.elim
 |none=>
 simp only[opPg,ho]at hp
 split at hp
 ·rename_i d ht
  obtain⟨u,hu,he⟩:=(hE _ _ ht).under
  split at hp
  ·rename_i hk
   have hu:=hu.trans (congrArg some (ut_string (he.trans hk)))
   obtain⟨v,rm1,hp,xv⟩:=val1_ok hp hs
   obtain⟨s,rfl,hp⟩:=hp
   have er:=rv_str xv
   obtain⟨l,h,rm2,hp,hl,hh⟩:=bounds_ok (lo:=lo) (hi:=hi) hs (full:=s.size) (kp:=cutStr o.dst s lo) (by
    cases lo<;>cases hi<;>exact hp)
   have fin:0≤l∧l≤h∧h≤s.size∧ws=[]++wDst o.dst (.one (.str (s.extract l.toNat h.toNat)) .pr):=by
    cases lo with
    |none=>
     obtain⟨hb,e,_⟩:=hp
     simp only[Bool.and_eq_true,decide_eq_true_eq]at hb
     rcases hl with⟨_,rfl⟩|⟨k,hl⟩
     ·exact⟨by omega,hb.1,hb.2,e⟩
     ·simp at hl
    |some l0=>
     obtain⟨hb,e,_⟩:=hp
     simp only[Bool.and_eq_true,decide_eq_true_eq]at hb
     exact⟨hb.1.1,hb.1.2,hb.2,e⟩
   obtain⟨h0,h1,h2,e⟩:=fin
   subst e
   refine wp_val (r:=.string (s.extract l.toNat h.toNat)) ?_ (done_val hs one_str) hK
   simp only[execOp,ho,Instr.sliceAt,er,Sem.run_bind,run_underlying hu,Result.andThen_ok,Instr.slice,Option.map_none,Option.isSome_none,Bool.false_eq_true,if_false,pure_bind,run_bounds false s.size s.size _ _ l h hl hh h0 h1 h2,Sem.run_pure]
  ·rename_i e1 hk
   have hu:=hu.trans (congrArg some (ut_slice (he.trans hk)))
   split at hp
   ·exact hp.elim
   ·rename_i ed hed
    cases hv4:Nat.beq (E.vari rid i) 4 with
    |true=>rw[hv4]at hp;exact sref_op hE ho hu hed hp hs hK
    |false=>
    rw[hv4]at hp
    simp only[cond_false]at hp
    obtain⟨w0,v,m,rm1,hp,H⟩:=sink_ok hp (Took.nil hs)
    obtain⟨g',fp,k1,k2,k3⟩:=H clash_nil
    obtain⟨z,es,rfl,hz,hp⟩:=hp
    have hz:z=ed.size:=by simpa using hz
    obtain⟨l,h,rm2,hp,hl,hh⟩:=bounds_ok (lo:=lo) (hi:=hi) hs (full:=es.length) (kp:=cutSl o.dst w0 z es m lo) (by
     cases lo<;>cases hi<;>exact hp)
    have fin:0≤l∧l≤h∧h≤es.length∧ws=w0++wDst o.dst (.one (.sl z ((es.take h.toNat).drop l.toNat)) m):=by
     cases lo with
     |none=>
      obtain⟨hb,e,_⟩:=hp
      simp only[Bool.and_eq_true,decide_eq_true_eq]at hb
      rcases hl with⟨_,rfl⟩|⟨k,hl⟩
      ·exact⟨by omega,hb.1,hb.2,by simpa using e⟩
      ·simp at hl
     |some l0=>
      obtain⟨hb,e,_⟩:=hp
      simp only[Bool.and_eq_true,decide_eq_true_eq]at hb
      exact⟨hb.1.1,hb.1.2,hb.2,e⟩
    obtain⟨h0,h1,h2,e⟩:=fin
    subst e
    obtain⟨ad,cap,fp',er,hcap,hsub,hcut⟩:=cut_ok k3 (l:=l.toNat) (k:=h.toNat) (by omega) (by omega)
    simp only[List.nil_append,List.append_nil]at k1
    refine wp_val ?_ (done_took k1 (s:=.one (.sl z ((es.take h.toNat).drop l.toNat)) m) hcut (fun x hx=>hsub.subset hx) (hsub.nodup k1.sim.plnd)) hK
    simp only[execOp,ho,Instr.sliceAt,er,Sem.run_bind,run_underlying hu,Result.andThen_ok,Instr.slice,Option.map_none,run_bounds true es.length cap _ _ l h hl hh h0 h1 (by omega),sizeOf_run hE hed,Sem.run_pure,hz]
  ·exact hp.elim
 ·exact hp.elim
end
section
variable {P : Program} {C : FuncId → List V → List V → Prop} {E : Env} {fr : Fr} {S : St} {a : Act} {w w' : World} {g : Gh} {pool : List Nat} {rm rm' : Nat} {ws : List Wr}
variable {o : Oper} {K : Act → World → Prop} {Q : Exit → Act → World → Prop}
theorem alloc_get{w:World}{ob:Obj}{x:Nat}(h:x<w.heap.size):(w.alloc ob).heap[x]? =w.heap[x]? :=by
 simp only[World.alloc,Array.getElem?_push]
 rw[if_neg (by omega)]
theorem alloc_new{w:World}{ob:Obj}:(w.alloc ob).heap[w.heap.size]? =some ob:=by show(w.heap.push ob)[w.heap.size]? =some ob;simp
theorem alloc_size{w:World}{ob:Obj}:(w.alloc ob).heap.size=w.heap.size+1:=by show(w.heap.push ob).size=_;simp
theorem sim_alloc(hs:Sim fr S a w g pool)(ob:Obj):∃g',g'.ro=g.ro∧g'.bb=g.bb∧Sim fr S a (w.alloc ob) g' (w.heap.size::pool):=by
 obtain⟨g',h1,h2,_,h3⟩:=sim_world (w':=w.alloc ob) (new:=[w.heap.size]) (pool':=w.heap.size::pool) hs ⟨rfl,rfl,rfl⟩ (by rw[alloc_size];omega) (fun x hx _=>alloc_get hx)
  (by simp[alloc_size]) (by simp) (fun x hx=>by rcases List.mem_cons.1 hx with h|h<;>simp[h]) (List.nodup_cons.2 ⟨fun c=>by have:=hs.plLt c;omega,hs.plnd⟩)
 exact⟨g',h1,h2,h3⟩
theorem seg_made{z:Array Value}{m i:Nat}(hz:0<z.size)(hi:i<m):seg (madeCells z (m*z.size)) (i*z.size) z.size=z.toList:=by
 have hle:(i+1)*z.size≤m*z.size:=Nat.mul_le_mul_right _ hi
 rw[Nat.succ_mul]at hle
 apply List.ext_getElem?
 intro j
 unfold seg
 rw[List.getElem?_take]
 by_cases hj:j<z.size
 ·rw[if_pos hj,List.getElem?_drop]
  have hlt:i*z.size+j<m*z.size:=by omega
  have e1:(i*z.size+j) % z.size=j:=by rw[Nat.mul_comm,Nat.mul_add_mod,Nat.mod_eq_of_lt hj]
  simp only[madeCells,Array.toList_map,Array.toList_range,List.getElem?_map,List.getElem?_range hlt,Option.map_some,e1]
  rw[getElem!_pos z j hj]
  simp[hj]
 ·rw[if_neg hj,List.getElem?_eq_none (by simpa using hj)]
theorem OEs.rep{h:Hp}{ro:Nat→Prop}{d:Bool}{c:Array Value}{z:Nat}{e:V}{zs:List Value}(hz:zs.length=z)(he:OEl h ro d e zs []):∀{n off:Nat},(∀i,i<n→seg c (off+i*z) z=zs)→OEs h ro d (List.replicate n e) c off z []
 |0,_,_=>by simp[OEs]
 |n+1,off,hs=>by
  have h0:=hs 0 (by omega)
  simp only[Nat.zero_mul,Nat.add_zero]at h0
  refine⟨[],[],rfl,by rw[h0,hz],by rw[h0];exact he,OEs.rep hz he fun i hi=> ?_⟩
  have:=hs (i+1) (by omega)
  rw[Nat.succ_mul]at this
  rw[←this];congr 1;omega
theorem zero_own(hE:EnvOK P E){t d}(ht:E.ty t=some d):∃i z,P.info? t=some i∧i.size=d.size∧i.bytes=d.bytes∧i.zero=some z∧z.cells.size=d.size∧d.zv.length=d.size∧(∀r∈z.cells,r.oneCell'=true)∧(∀h g,CsR h g d.zv z.cells.toList [])∧
 ∀h ro,OEl h ro true (bif d.agg then .agg (d.zv.map (·.1))else(d.zv.map (·.1)).headD .undef) z.cells.toList []:=by
 obtain⟨i,z,q1,q2,q3,q4,q5,q6,q7,q8,q9⟩:=(hE _ _ ht).info
 refine⟨i,z,q1,q2,q3,q4,q5,q6,q7,q9,fun h ro=> ?_⟩
 have sol:∀c∈d.zv,c.2.gives (.own true)=true:=fun c hc=>by
  have:=List.all_eq_true.1 q8 c hc
  cases hm:c.2 with
  |own b=>rw[hm]at this;cases b<;>simp[M.solid]at this;rfl
  |pr=>rfl
  |_=>rw[hm]at this;simp[M.solid]at this
 let g:Gh:=⟨ro,fun _=>.none,fun _=>[],fun _=>none⟩
 cases hd:d.agg with
 |true=>
  obtain⟨fo,fi,p1,p2⟩:=CsR.lower (n:=.own true) rfl sol (by simp) (q9 h g)
  have e1:fo=[]:=by cases fo with|nil=>rfl|cons x _=>exact absurd ((p1.mem x).2 (.inl (List.mem_cons_self ..))) (by simp)
  have e2:fi=[]:=by cases fi with|nil=>rfl|cons x _=>exact absurd ((p1.mem x).2 (.inr (List.mem_cons_self ..))) (by simp)
  subst e1;subst e2
  exact p2 ro (fun _ h=>h) (by simp)
 |false=>
  have h1:=(hE _ _ ht).one hd
  have hl:d.zv.length=1:=by rw[q6,h1]
  cases hzv:d.zv with
  |nil=>rw[hzv]at hl;simp at hl
  |cons c cs=>
   have:cs=[]:=by rw[hzv]at hl;simpa using hl
   subst this
   obtain⟨v,m⟩:=c
   have q9':=q9 h g
   rw[hzv]at q9'
   obtain⟨r,rs',f,f',e,e',x,y⟩:=q9'
   have hf:f=[]:=by cases f with|nil=>rfl|cons _ _=>simp at e'
   subst hf
   have hrs:rs'=[]:=y.1
   subst hrs
   have hm:=sol (v,m) (by rw[hzv];simp)
   have hx:RM h ro m v [r] []:=by cases m<;>first|exact x.2|simp[M.gives]at hm
   obtain⟨fo,fi,p1,p2⟩:=RM.lower hm (by simp) hx
   have e1:fo=[]:=by cases fo with|nil=>rfl|cons x _=>exact absurd ((p1.mem x).2 (.inl (List.mem_cons_self ..))) (by simp)
   have e2:fi=[]:=by cases fi with|nil=>rfl|cons x _=>exact absurd ((p1.mem x).2 (.inr (List.mem_cons_self ..))) (by simp)
   subst e1;subst e2
   rw[e]
   exact p2 ro (fun _ h=>h) (by simp)
theorem slE_ok(hE:EnvOK P E){t d}(ht:E.ty t=some d){ed:TyD}(he:d.slE?.bind E.ty=some ed):∃te,d.under= .slice te∧E.ty te=some ed:=by
 unfold TyD.slE? at he
 split at he
 ·rename_i te hk;exact⟨te,hk,he⟩
 ·simp at he
theorem op_makeSlice(hE:EnvOK P E){rid i t l c}(ho:o.op= .makeSlice t l c)(hp:PgR C S (opPg E rid i o) rm ws rm')(hs:Sim fr S a w g [])
 (hK:∀a' w',SimX fr (Wr.apps ws S) a' w'→K a' w'):o.wp P a w K Q:=by
 simp only[opPg,ho]at hp
 split at hp
 ·rename_i d ht
  split at hp
  ·rename_i ed hed
   obtain⟨u,hu,he⟩:=(hE _ _ ht).under
   obtain⟨lv,rm1,hp,xl⟩:=val1_ok hp hs
   obtain⟨kl,n,rfl,hp⟩:=hp
   obtain⟨cv,rm1,hp,xc⟩:=val1_ok hp hs
   obtain⟨kc,m,rfl,hb,e,_⟩:=hp
   subst e
   have el:=rv_int xl
   have ec:=rv_int xc
   simp only[Bool.and_eq_true,decide_eq_true_eq]at hb
   obtain⟨⟨⟨⟨hz,hby⟩,h0⟩,h1⟩,h2⟩:=hb
   obtain⟨te,hte,hty⟩:=slE_ok hE ht hed
   obtain⟨i,z,q1,q2,q3,q4,q5,q6,q7,q8,q9⟩:=zero_own hE hty
   have hz':0<z.cells.size:=by rw[q5];simp at hz;omega
   have hu:=hu.trans (congrArg some (ut_slice (he.trans hte)))
   have hrun:=run_make (P:=P) w t te i z hu q1 q4 kl kc n m h0 h1 (by
    rw[q3]
    have:(ed.bytes:Int)*m≤4096*1073741824:=Int.mul_le_mul (by omega) h2 (by omega) (by omega)
    omega) (by omega)
   obtain⟨g',e1,e2,hs'⟩:=sim_alloc hs (.cells (madeCells z.cells (m.toNat*i.size)) te)
   refine wp_val (r:=.slice (some ⟨w.heap.size,0,none⟩) n.toNat m.toNat) (by simp only[execOp,ho,el,ec];rw[Sem.run_bind,hrun];rfl) ?_ hK
   simp only[List.nil_append]
   refine sim_dst hs' (s:=.one _ (.own true)) (fp:=[w.heap.size]) ?_ (by simp) (by simp)
   refine⟨some ⟨w.heap.size,0,none⟩,n.toNat,m.toNat,rfl,by simp,by omega,rfl,_,te,alloc_new,?_,[],rfl,?_⟩
   ·rw[size_madeCells,q2];simp
   ·simp only[if_true]
    refine OEs.rep (zs:=z.cells.toList) (by simp[q5]) (q9 _ _) fun i hi=> ?_
    rw[q2,←q5]
    simp only[Nat.zero_add]
    exact seg_made hz' (by omega)
  ·exact hp.elim
 ·exact hp.elim
theorem dst_out(hs:Sim fr S a w g pool){t:Tmp}{s:Sl}{r:Value}(ht:¬t<S.tmps.length):Wr.apps (wDst (some t) s) S=S∧a.put (some t) r=a:=by
 constructor
 ·simp only[wDst,Wr.apps,Wr.app]
  rw[List.set_eq_of_length_le (Nat.not_lt.1 ht)]
 ·obtain⟨tm,df⟩:=a
  have:¬t<tm.size:=fun c=>ht (by rw[←hs.size];exact c)
  simp only[Act.put]
  congr 1
  rw[Array.setIfInBounds];simp[this]
theorem CsR.split{h:Hp}:∀{cs:List (V×M)} {rs fp},CsR h g cs rs fp→fp.Nodup→∃fpb:Nat→List Nat,
 (∀j v m,cs[j]? =some (v,m)→∃r,rs[j]? =some r∧CV h g m v r (fpb j))∧(∀j,∀x∈fpb j,x∈fp)∧(∀j,(fpb j).Nodup)∧(∀i j x,x∈fpb i→x∈fpb j→i=j)
 | [],rs,fp,_,_=>⟨fun _=>[],by simp,by simp,by simp,by simp⟩
 |(v0,m0)::q,rs,fp,⟨r,rs',f,f',e,e',x,y⟩,hn=>by
  subst e'
  have hn':=List.nodup_append.1 hn
  obtain⟨fb,k1,k2,k3,k4⟩:=CsR.split y hn'.2.1
  refine⟨fun j=>match j with|0=>f|j+1=>fb j,fun j v m hj=> ?_,fun j x hx=> ?_,fun j=> ?_,fun i j x hx hx'=> ?_⟩
  ·cases j with
   |zero=>simp only[List.getElem?_cons_zero,Option.some.injEq,Prod.mk.injEq]at hj
          obtain⟨rfl,rfl⟩:=hj
          exact⟨r,by rw[e];rfl,x⟩
   |succ j=>obtain⟨r1,h1,h2⟩:=k1 j v m (by simpa using hj)
            exact⟨r1,by rw[e];simpa using h1,h2⟩
  ·cases j with
   |zero=>exact List.mem_append.2 (.inl hx)
   |succ j=>exact List.mem_append.2 (.inr (k2 j x hx))
  ·cases j with
   |zero=>exact hn'.1
   |succ j=>exact k3 j
  ·cases i with
   |zero=>cases j with
    |zero=>rfl
    |succ j=>exact absurd rfl (hn'.2.2 x hx x (k2 j x hx'))
   |succ i=>cases j with
    |zero=>exact absurd rfl (hn'.2.2 x hx' x (k2 i x hx))
    |succ j=>rw[k4 i j x hx hx']
theorem box_made{t:Nat}{β:Nat}{cs:List (V×M)}{c:Array Value}{ty:TypeId}{b:Nat}(hs:Sim fr S a w g (β::pool))(hb:S.bx b=none)(hbase:fr.base+t=b)
 (hw:w.heap[β]? =some (.cells c ty (0,0))) (hc:CsR w.heap g cs c.toList pool):
 SimX fr (Wr.apps ([.box b (some (cs.map fun c=>⟨c.1,c.2,0,false⟩))]++[.slot t (.one (.ptr b 0) .pt)]) S) (a.put (some t) (.pointer (some ⟨β,0,none⟩))) w:=by
 have hn:=List.nodup_cons.1 hs.plnd
 rw[apps_append]
 by_cases hbl:b<S.boxes.length
 ·obtain⟨fb,k1,k2,k3,k4⟩:=CsR.split hc hn.2
  obtain⟨g',p1,p2,p3,p4,p5⟩:=sim_newbox (b:=b) (β:=β) (cs:=cs.map fun c=>⟨c.1,c.2,0,false⟩) (c:=c) (ty:=ty) (fpb:=fb) (pool':=[]) hs hb hbl (List.mem_cons_self ..) hw
   (by have:=CsR.len hc;simpa using this)
   (fun j x' hx=>by rw[List.getElem?_map]at hx;cases h:cs[j]? with
                    |none=>simp[h]at hx
                    |some q=>simp only[h,Option.map_some,Option.some.injEq]at hx;rw[←hx])
   (fun j x' hx=>by
     rw[List.getElem?_map]at hx
     cases h:cs[j]? with
     |none=>simp[h]at hx
     |some q=>
      simp only[h,Option.map_some,Option.some.injEq]at hx
      subst hx
      obtain⟨r,h1,h2⟩:=k1 j q.1 q.2 h
      exact⟨r,by simpa using h1,h2⟩)
   (fun j x hx=>⟨List.mem_cons_of_mem _ (k2 j x hx),fun e=>hn.1 (e▸k2 j x hx)⟩) k3 k4 (by simp) (by simp) (by simp)
  have e:Wr.apps [.box b (some (cs.map fun c=>⟨c.1,c.2,0,false⟩))] S=S.setB b (some (cs.map fun c=>⟨c.1,c.2,0,false⟩)):=rfl
  rw[e]
  exact sim_dst (dst:=some t) (s:=.one (.ptr b 0) .pt) (r:=.pointer (some ⟨β,0,none⟩)) (fp:=[]) p5 ⟨rfl,.inl ⟨b,0,β,rfl,p2,rfl⟩⟩ (by simp) (by simp)
 ·have e:Wr.apps [.box b (some (cs.map fun c=>⟨c.1,c.2,0,false⟩))] S=S:=by
   simp only[Wr.apps,Wr.app]
   rw[List.set_eq_of_length_le (Nat.not_lt.1 hbl)]
  rw[e]
  have ht:¬t<S.tmps.length:=fun c=>by have:=hs.bl;omega
  obtain⟨e1,e2⟩:=dst_out (s:=.one (.ptr b 0) .pt) (r:=.pointer (some ⟨β,0,none⟩)) hs ht
  have e1:Wr.apps [.slot t (.one (.ptr b 0) .pt)] S=S:=e1
  rw[e1,e2];exact hs.drop
theorem op_alloc(hE:EnvOK P E)(hbase:fr.base=E.base){rid i t}(ho:o.op= .alloc t)(hp:PgR C S (opPg E rid i o) rm ws rm')(hs:Sim fr S a w g [])
 (hK:∀a' w',SimX fr (Wr.apps ws S) a' w'→K a' w'):o.wp P a w K Q:=by
 simp only[opPg,ho]at hp
 split at hp
 ·rename_i d t' ht hdst
  have hp':PgR C S (match S.bx (E.base+t')with
   |none=>.ret [.box (E.base+t') (some (d.zv.map fun c=>⟨c.1,c.2,0,false⟩)),.slot t' (.one (.ptr (E.base+t') 0) .pt)]
   |some _=>.fail) _ ws rm':=hp
  split at hp'
  ·rename_i hb
   obtain⟨e,_⟩:=hp'
   subst e
   obtain⟨i,z,q1,q2,q3,q4,q5,q6,q7,q8,q9⟩:=zero_own hE ht
   obtain⟨g',e1,e2,hs'⟩:=sim_alloc hs (.cells z.cells t)
   refine wp_val (r:=.pointer (some ⟨w.heap.size,0,none⟩)) (by
    simp only[execOp,ho,Instr.alloc,zeroValue,typeInfo,Sem.run_bind,run_program,Result.andThen_ok,q1,Sem.run_pure,q4,newVar,newRow,run_newObj];rfl) ?_ hK
   rw[hdst]
   exact box_made hs' hb (by rw[hbase]) alloc_new (q8 _ _)
  ·exact hp'.elim
 ·exact hp.elim
theorem apps_bx_none{W:List Wr}(hW:∀u∈W,∃l,u.lo=some l):∀{S:St} {b:Nat},S.bx b=none→(Wr.apps W S).bx b=none:=by
 induction W with
 |nil=>intro S b h;exact h
 |cons u W ih=>
  intro S b h
  refine ih (fun u hu=>hW u (List.mem_cons_of_mem _ hu)) ?_
  obtain⟨l,hl⟩:=hW u (List.mem_cons_self ..)
  have setn:∀b' (f:Bx→Bx),(St.bx {S with boxes:=S.boxes.set b' ((S.bx b').map f)} b)=none:=fun b' f=>by
   show(S.boxes.set b' ((S.bx b').map f)).getD b none=none
   by_cases e:b'=b
   ·subst e;rw[getD_set_self,h];split<;>rfl
   ·rw[getD_set_ne' e];exact h
  cases u with
  |slot t s=>exact h
  |keep t s=>exact h
  |val t s=>exact h
  |box b' x=>cases hl
  |cval b' j v=>exact setn b' _
  |cell b' j c=>exact setn b' _
theorem op_box(hE:EnvOK P E)(hbase:fr.base=E.base){rid i t x}(ho:o.op= .box t x)(hp:PgR C S (opPg E rid i o) rm ws rm')(hs:Sim fr S a w g [])
 (hK:∀a' w',SimX fr (Wr.apps ws S) a' w'→K a' w'):o.wp P a w K Q:=by
 simp only[opPg,ho]at hp
 split at hp
 ·rename_i d t' ht hdst
  have hp':PgR C S (match S.bx (E.base+t')with
   |none=>sinkF (Nat.beq (E.vari rid i) 1) (E.take rid i) d x fun ws cs=>.ret (ws++[.box (E.base+t') (some (cs.map fun c=>⟨c.1,c.2,0,false⟩)),.slot t' (.one (.ptr (E.base+t') 0) .pt)])
   |some _=>.fail) _ ws rm':=hp
  split at hp'
  ·rename_i hb
   obtain⟨w0,cs,rm1,hp1,l1,l2,H⟩:=sinkF_ok hp' (Took.nil hs)
   obtain⟨g',fp,k1,k2,k3,k4⟩:=H clash_nil
   simp only[List.nil_append,List.append_nil]at k1
   obtain⟨e,_⟩:=hp1
   subst e
   obtain⟨g2,e1,e2,hs'⟩:=sim_alloc k1.sim (.cells (a.eval x).cells t)
   refine wp_val (r:=.pointer (some ⟨w.heap.size,0,none⟩)) (by
    simp only[execOp,ho,Instr.box,Sem.run_bind,Result.andThen_ok,Sem.run_pure,newVar,newRow,run_newObj];rfl) ?_ hK
   rw[hdst,apps_append]
   refine box_made hs' (apps_bx_none (fun u hu=>by obtain⟨l,h1,_⟩:=k1.tk u hu;exact⟨l,h1⟩) hb) (by rw[hbase]) alloc_new ?_
   refine CsR.mono (g:=g') (fun b hb=>by rw[e1];exact hb) (fun b β hb=>by rw[e2];exact hb) (fun b hb=>alloc_get (k1.sim.rolt b hb)) (fun b hb=>alloc_get (k1.sim.plLt hb)) k3
  ·exact hp'.elim
 ·exact hp.elim
end
section
variable {P : Program} {C : FuncId → List V → List V → Prop} {E : Env} {fr : Fr} {S : St} {a : Act} {w w' : World} {g : Gh} {pool : List Nat} {rm rm' : Nat} {ws : List Wr}
variable {o : Oper} {K : Act → World → Prop} {Q : Exit → Act → World → Prop}
theorem CsR.append{h:Hp}:∀{c1:List (V×M)} {r1 f1 c2 r2 f2},CsR h g c1 r1 f1→CsR h g c2 r2 f2→CsR h g (c1++c2) (r1++r2) (f1++f2)
 | [],r1,f1,c2,r2,f2,x,y=>by rw[x.1,x.2];exact y
 |(v,m)::q,r1,f1,c2,r2,f2,⟨r,rs',f,f',e,e',x,x'⟩,y=>by
  subst e;subst e'
  exact⟨r,rs'++r2,f,f'++f2,rfl,by simp,x,CsR.append x' y⟩
theorem CsR.splitAt{h:Hp}:∀{n:Nat} {cs:List (V×M)} {rs fp},CsR h g cs rs fp→∃f1 f2,fp=f1++f2∧CsR h g (cs.take n) (rs.take n) f1∧CsR h g (cs.drop n) (rs.drop n) f2
 |0,cs,rs,fp,x=>⟨[],fp,rfl,by simp[CsR],by simpa using x⟩
 |n+1,[],rs,fp,x=>by rw[x.1,x.2];exact⟨[],[],rfl,by simp[CsR],by simp[CsR]⟩
 |n+1,(v,m)::q,rs,fp,⟨r,rs',f,f',e,e',x,x'⟩=>by
  subst e;subst e'
  obtain⟨f1,f2,e1,k1,k2⟩:=CsR.splitAt (n:=n) x'
  exact⟨f++f1,f2,by simp[e1],⟨r,rs'.take n,f,f1,rfl,rfl,x,k1⟩,by simpa using k2⟩
theorem fold_part{cells v:Array Value}{off:Nat}(h:off+v.size≤cells.size):
 (v.zipIdx.foldl (fun cs (c,j)=>cs.setIfInBounds (off+j) c) cells).toList=cells.toList.take off++v.toList++cells.toList.drop (off+v.size):=by
 obtain⟨g1,g2⟩:=Great.foldl_set off v.toList 0 cells
 rw[←Array.foldl_toList,Array.toList_zipIdx]
 apply List.ext_getElem?
 intro k
 have e:=g2 k
 rw[Array.getElem?_toList]
 refine e.trans ?_
 simp only[Nat.add_zero,List.append_assoc]
 have hl:(cells.toList.take off).length=off:=by rw[List.length_take];simp;omega
 by_cases h1:k<off
 ·rw[if_neg (by omega),List.getElem?_append_left (by rw[hl];exact h1),List.getElem?_take,if_pos h1];simp
 ·rw[List.getElem?_append_right (by rw[hl];omega),hl]
  by_cases h2:k<off+v.size
  ·rw[if_pos (by simp;omega),List.getElem?_append_left (by simp;omega)]
  ·rw[if_neg (by simp;omega),List.getElem?_append_right (by simp;omega),List.getElem?_drop]
   simp only[Array.length_toList,Array.getElem?_toList]
   congr 1;omega
theorem parts_ok{tk:Bool}{place:Nat→Option (Nat×TyD)}{pl:Nat→Option (Nat×Nat)}(hpl:∀i off d,place i=some (off,d)→pl i=some (off,d.size)∧(d.agg=false→d.size=1)):
 ∀{ps:List (Nat×Operand)} {W:List Wr} {cs:List (V×M)} {k} {rm:Nat} {g:Gh} {pool fpc:List Nat} {cells:Array Value},PgR C S (parts tk place ps W cs k) rm ws rm'→Took fr S W a w g pool→
  CsR w.heap g cs cells.toList fpc→(∀x∈fpc,x∈pool)→fpc.Nodup→
  ∃W' cs' rm1 g' pool' fpc' cells',PgR C S (k W' cs') rm1 ws rm'∧Took fr S W' a w g' pool'∧CsR w.heap g' cs' cells'.toList fpc'∧(∀x∈fpc',x∈pool')∧fpc'.Nodup∧
   Instr.fill pl cells (ps.map fun p=>(p.1,a.eval p.2))=some cells':=by
 intro ps
 induction ps with
 |nil=>
  intro W cs k rm g pool fpc cells hp h hc hf hn
  exact⟨W,cs,rm,g,pool,fpc,cells,hp,h,hc,hf,hn,rfl⟩
 |cons p ps ih=>
  obtain⟨i,x⟩:=p
  intro W cs k rm g pool fpc cells hp h hc hf hn
  simp only[parts]at hp
  split at hp
  ·rename_i off d hd
   obtain⟨hp1,hone⟩:=hpl i off d hd
   obtain⟨w0,l,rm1,hp,l1,l2,H⟩:=sinkC_ok hp h
   obtain⟨hb,hp⟩:=hp
   simp only[Bool.and_eq_true,Bool.not_eq_true',decide_eq_true_eq]at hb
   obtain⟨g',fp,k1,k2,k3,k4⟩:=H hb.1
   have hlen:l.length=d.size:=by
    cases hd':d.agg with
    |true=>rw[hd']at l1;simpa using l1
    |false=>rw[hd']at l1;rw[hone hd'];simpa using l1
   have hsz:(a.eval x).cells.size=d.size:=by have:=CsR.len k3;rw[hlen]at this;simpa using this
   have hcl:cells.size=cs.length:=by have:=CsR.len hc;simpa using this
   have hfit:off+(a.eval x).cells.size≤cells.size:=by rw[hsz,hcl];exact hb.2
   obtain⟨f1,f2,e1,c1,c2⟩:=(hc.up k2).splitAt (n:=off)
   obtain⟨f3,f4,e2,c3,c4⟩:=c2.splitAt (n:=d.size)
   rw[List.drop_drop,List.drop_drop]at c4
   have hn1:=hn
   rw[e1,e2]at hn1
   have hn2:=List.nodup_append.1 hn1
   have hn3:=List.nodup_append.1 hn2.2.1
   have hpn:=List.nodup_append.1 k1.sim.plnd
   have sub1:∀y∈f1,y∈pool:=fun y hy=>hf y (by rw[e1];simp[hy])
   have sub4:∀y∈f4,y∈pool:=fun y hy=>hf y (by rw[e1,e2];simp[hy])
   have hnew:CsR w.heap g' (cs.take off++l++cs.drop (off+d.size)) ((a.eval x).cells.zipIdx.foldl (fun cs (c,j)=>cs.setIfInBounds (off+j) c) cells).toList (f1++fp++f4):=by
    rw[fold_part hfit,hsz]
    exact(c1.append k3).append c4
   obtain⟨W',cs',rm2,g2,pool',fpc',cells',r1,r2,r3,r4,r5,r6⟩:=ih (pool:=fp++pool) (fpc:=f1++fp++f4) hp k1 hnew
    (fun y hy=>by
      simp only[List.mem_append]at hy ⊢
      rcases hy with(hy|hy)|hy
      ·exact .inr (sub1 y hy)
      ·exact .inl hy
      ·exact .inr (sub4 y hy))
    (by
      refine List.nodup_append.2 ⟨List.nodup_append.2 ⟨hn2.1,hpn.1,fun y hy z hz e=>by subst e;exact hpn.2.2 y hz y (sub1 y hy) rfl⟩,hn3.2.1,fun y hy z hz e=> ?_⟩
      subst e
      rcases List.mem_append.1 hy with hy|hy
      ·exact hn2.2.2 y hy y (List.mem_append.2 (.inr hz)) rfl
      ·exact hpn.2.2 y hy y (sub4 y hz) rfl)
   refine⟨W',cs',rm2,g2,pool',fpc',cells',r1,r2,r3,r4,r5,?_⟩
   simp only[List.map_cons,Instr.fill,hp1]
   rw[if_neg (by simp[hsz];omega)]
   exact r6
  ·exact hp.elim
theorem run_places(P:Program)(w:World):∀(fs:List Field) (sz:Field→Nat),(∀f∈fs,(sizeOf f.type).run P w= .ok (sz f) w)→
 (fs.mapM fun f=>do pure (f.offset,←sizeOf f.type):Sem (List (Nat×Nat))).run P w= .ok (fs.map fun f=>(f.offset,sz f)) w
 | [],sz,_=>by simp
 |f::fs,sz,h=>by
  have ih:=run_places P w fs sz fun g hg=>h g (List.mem_cons_of_mem _ hg)
  simp only[List.mapM_cons,Sem.run_bind,h f (List.mem_cons_self ..),Result.andThen_ok,Sem.run_pure,ih,List.map_cons]
theorem op_build(hE:EnvOK P E){rid i t ps}(ho:o.op= .build t ps)(hp:PgR C S (opPg E rid i o) rm ws rm')(hs:Sim fr S a w g [])
 (hK:∀a' w',SimX fr (Wr.apps ws S) a' w'→K a' w'):o.wp P a w K Q:=by
 simp only[opPg,ho]at hp
 split at hp
 ·rename_i d ht
  obtain⟨u,hu,he⟩:=(hE _ _ ht).under
  obtain⟨i0,z,q1,q2,q3,q4,q5,q6,q7,q8,q9⟩:=zero_own hE ht
  have fin:∀{place pl rm1},PgR C S (parts (E.take rid i) place ps.toList [] d.zv fun ws cs=>.ret (ws++wDst o.dst (.many cs))) rm1 ws rm'→(∀i off d,place i=some (off,d)→pl i=some (off,d.size)∧(d.agg=false→d.size=1))→
   (∀cells',Instr.fill pl z.cells (ps.map fun p=>(p.1,a.eval p.2)).toList=some cells'→(Instr.build t (ps.map fun p=>(p.1,a.eval p.2))).run P w= .ok (.agg cells') w)→o.wp P a w K Q:=by
   intro place pl rm1 hp hpl hrun
   obtain⟨W',cs',rm2,g',pool',fpc',cells',r1,r2,r3,r4,r5,r6⟩:=parts_ok hpl hp (Took.nil hs) (q8 w.heap g) (by simp) (by simp)
   obtain⟨e,_⟩:=r1
   subst e
   have:=hrun cells' (by simpa using r6)
   exact wp_val (r:=.agg cells') (by simp only[execOp,ho];rw[Sem.run_bind,this];rfl) (done_took r2 (s:=.many cs') ⟨cells',rfl,r3⟩ r4 r5) hK
  have hz:(zeroValue t).run P w= .ok z w:=by simp[zeroValue,typeInfo,q1,q4]
  split at hp
  ·rename_i fs hk
   obtain⟨F,e1,e2⟩:=ut_struct (he.trans hk)
   rw[e1]at hu
   let szf:Field→Nat:=fun f=>((P.info? f.type).map (·.size)).getD 0
   have hszf:∀f∈F.toList,(sizeOf f.type).run P w= .ok (szf f) w:=fun f hf=>by
    have:=(hE _ _ ht).fld F hu f (by simpa using hf)
    cases hi:P.info? f.type with
    |none=>rw[hi]at this;simp at this
    |some i=>simp[sizeOf,typeInfo,hi,szf]
   refine fin (pl:=((F.toList.map fun f=>(f.offset,szf f)).toArray[·]?)) hp (fun i off d' hd=> ?_) (fun cells' hc=> ?_)
   ·cases hfi:fs[i]? with
    |none=>simp[hfi]at hd
    |some f=>
     simp only[hfi]at hd
     cases hd2:E.ty f.2 with
     |none=>simp[hd2]at hd
     |some td=>
      simp only[hd2,Option.map_some,Option.some.injEq,Prod.mk.injEq]at hd
      obtain⟨rfl,rfl⟩:=hd
      rw[e2,List.getElem?_map]at hfi
      cases hF:F.toList[i]? with
      |none=>simp[hF]at hfi
      |some f0=>
       simp only[hF,Option.map_some,Option.some.injEq]at hfi
       subst hfi
       obtain⟨i1,z1,k1,k2,_⟩:=(hE _ _ hd2).info
       refine⟨?_,(hE _ _ hd2).one⟩
       have hF':F[i]? =some f0:=by simpa using hF
       simp[hF',szf,k1,k2]
   ·have hm:=run_places P w F.toList szf hszf
    have hm':(F.mapM fun f=>do pure (f.offset,←sizeOf f.type):Sem (Array (Nat×Nat))).run P w= .ok (F.toList.map fun f=>(f.offset,szf f)).toArray w:=by
     rw[←Array.toArray_toList (xs:=F),List.mapM_toArray,Sem.run_map,hm];simp
    simp only[Instr.build,Sem.run_bind,hz,Result.andThen_ok,run_underlying hu,hm',hc,Sem.run_pure]
  ·rename_i n e1 hk
   have hu:=hu.trans (congrArg some (ut_array (he.trans hk)))
   split at hp
   ·rename_i td hd2
    refine fin (pl:=fun i=>some (i*td.size,td.size)) hp (fun i off d' hd=> ?_) (fun cells' hc=> ?_)
    ·simp only[Option.some.injEq,Prod.mk.injEq]at hd
     obtain⟨rfl,rfl⟩:=hd
     exact⟨rfl,(hE _ _ hd2).one⟩
    ·simp only[Instr.build,Sem.run_bind,hz,Result.andThen_ok,run_underlying hu,sizeOf_run hE hd2,hc,Sem.run_pure]
   ·exact hp.elim
  ·exact hp.elim
 ·exact hp.elim
def EsR(h:Hp)(g:Gh)(z:Nat):List (V×M)→List Value→List Nat→Prop
 | [],rs,fp=>rs=[]∧fp=[]
 |(v,m)::q,rs,fp=>∃zs rs' f f',rs=zs++rs'∧fp=f++f'∧zs.length=z∧RM h g.ro m v zs f∧EsR h g z q rs' f'
theorem EsR.up{h:Hp}{g g':Gh}{z:Nat}(hu:Up g g'):∀{cs rs fp},EsR h g z cs rs fp→EsR h g' z cs rs fp
 | [],_,_,x=>x
 |(v,m)::q,_,_,⟨zs,rs',f,f',e,e',l,x,y⟩=>⟨zs,rs',f,f',e,e',l,RM.mono hu.ro (fun _ _=>rfl) (fun _ _=>rfl) x,EsR.up hu y⟩
theorem EsR.append{h:Hp}{z:Nat}:∀{c1:List (V×M)} {r1 f1 c2 r2 f2},EsR h g z c1 r1 f1→EsR h g z c2 r2 f2→EsR h g z (c1++c2) (r1++r2) (f1++f2)
 | [],r1,f1,c2,r2,f2,x,y=>by rw[x.1,x.2];exact y
 |(v,m)::q,r1,f1,c2,r2,f2,⟨zs,rs',f,f',e,e',l,x,x'⟩,y=>by
  subst e;subst e'
  exact⟨zs,rs'++r2,f,f'++f2,by simp,by simp,l,x,EsR.append x' y⟩
theorem EsR.len{h:Hp}{z:Nat}:∀{cs:List (V×M)} {rs fp},EsR h g z cs rs fp→rs.length=cs.length*z
 | [],_,_,x=>by rw[x.1];simp
 |(v,m)::q,_,_,⟨zs,rs',f,f',e,e',l,x,y⟩=>by rw[e,List.length_append,l,EsR.len y,List.length_cons,Nat.succ_mul];omega
theorem seg_mid{pre zs rs':List Value}{z:Nat}(hz:zs.length=z):seg (pre++(zs++rs')).toArray pre.length z=zs:=by
 unfold seg
 simp[←hz]
theorem EsR.row{h:Hp}{z:Nat}:∀{cs:List (V×M)} {rs fp} {pre post:List Value},cs.any (·.2.isPt)=false→EsR h g z cs rs fp→fp.Nodup→
 ∃fo fi,Part fp fo fi∧∀ro':Nat→Prop,(∀b,g.ro b→ro' b)→(∀b∈fi,ro' b)→
  if allSolid cs then OEs h ro' true (cs.map (·.1)) (pre++(rs++post)).toArray pre.length z fo else(fo=[]∧REs h ro' (cs.map (·.1)) (pre++(rs++post)).toArray pre.length z)
 | [],rs,fp,pre,post,_,x,hn=>⟨[],[],by rw[x.2];exact Part.none (by simp),fun ro' _ _=>by simp[allSolid,OEs]⟩
 |(v,m)::q,rs,fp,pre,post,hpt,⟨zs,rs',f,f',e,e',l,x,y⟩,hn=>by
  subst e'
  have hn':=List.nodup_append.1 hn
  simp only[List.any_cons,Bool.or_eq_false_iff]at hpt
  have arr:(pre++(rs++post))=((pre++zs)++(rs'++post)):=by rw[e];simp
  have hlen:(pre++zs).length=pre.length+z:=by simp[l]
  have hseg:seg (pre++(rs++post)).toArray pre.length z=zs:=by rw[e,List.append_assoc];exact seg_mid l
  obtain⟨go,gi,q1,q2⟩:=EsR.row (pre:=pre++zs) (post:=post) hpt.2 y hn'.2.1
  rw[←arr,hlen]at q2
  cases hs:allSolid ((v,m)::q)with
  |true=>
   have h1:m.solid=true∧allSolid q=true:=by simpa [allSolid]using hs
   have hg:m.gives (.own true)=true:=by
    cases m with
    |own b=>cases b<;>simp[M.solid]at h1;rfl
    |pr=>rfl
    |_=>simp[M.solid]at h1
   obtain⟨fo,fi,p1,p2⟩:=RM.lower hg hn'.1 x
   refine⟨fo++go,fi++gi,p1.app hn q1,fun ro' hr hi=> ?_⟩
   have a1:=p2 ro' hr (fun b hb=>hi b (by simp[hb]))
   have a2:=q2 ro' hr (fun b hb=>hi b (by simp[hb]))
   rw[h1.2]at a2
   simp only[if_true]at a2 ⊢
   exact⟨fo,go,rfl,by rw[hseg,l],by rw[hseg];exact a1,a2⟩
  |false=>
   have hg:m.gives .ro=true:=by cases m<;>first|rfl|simp[M.isPt]at hpt
   obtain⟨fo,fi,p1,p2⟩:=RM.lower hg hn'.1 x
   refine⟨[],f++f',Part.all _,fun ro' hr hi=> ?_⟩
   have a1:=p2 ro' hr (fun b hb=>hi b (List.mem_append.2 (.inl ((p1.mem b).2 (.inr hb)))))
   have a2:=q2 ro' hr (fun b hb=>hi b (List.mem_append.2 (.inr ((q1.mem b).2 (.inr hb)))))
   simp only[Bool.false_eq_true,if_false]
   refine⟨trivial,⟨by rw[hseg,l],by rw[hseg];exact a1.1,?_⟩⟩
   cases hq:allSolid q with
   |false=>rw[hq]at a2;simp only[Bool.false_eq_true,if_false]at a2;exact a2.2
   |true=>
    rw[hq]at a2
    simp only[if_true]at a2
    exact a2.toRO (fun _ h=>h) (fun b hb=>hi b (List.mem_append.2 (.inr ((q1.mem b).2 (.inl hb)))))
theorem RCs.len{h:Hp}{ro:Nat→Prop}:∀{l:List V} {rs},RCs h ro l rs→rs.length=l.length
 | [],_,x=>by rw[show _=[]from x];rfl
 |v::l,_,⟨r,q,e,_,_,y⟩=>by rw[e];simp[RCs.len y]
theorem primE_ok(hE:EnvOK P E){t}{d:TyD}(ht:E.ty t=some d){v:V}{m:M}{k:V→M→Pg}(hp:PgR C S (primE d v m k) rm ws rm'):
 ∃v' m' rm1,PgR C S (k v' m') rm1 ws rm'∧∀{h:Hp} {g r fp},OneR h g v m r fp→m'.isPt=false→r.cells.size=d.size∧RM h g.ro m' v' r.cells.toList fp:=by
 unfold primE at hp
 cases hd:d.agg with
 |false=>
  rw[hd]at hp
  obtain⟨v',m',rm1,hp1,hc,hcv⟩:=prim_ok (show PgR C S (prim d.under v m k) rm ws rm' from hp)
  refine⟨v',m',rm1,hp1,fun x hm=> ?_⟩
  have c:=hcv x
  have e:=cells_one (c.oneCell hc)
  rw[e]
  refine⟨by simp[(hE _ _ ht).one hd],?_⟩
  cases m'<;>first|exact c.2|simp[M.isPt]at hm
 |true=>
  rw[hd]at hp
  obtain⟨l,rfl,hl,hp⟩:=hp
  refine⟨_,_,_,hp,fun{h g r fp} x hm=> ?_⟩
  obtain⟨rs,e,y⟩:=x.rw hm
  subst e
  refine⟨?_,y⟩
  obtain⟨rs2,e2,y2⟩:=(x.rw hm).toRO (ro':=fun _=>True) (fun _ _=>trivial) (fun _ _=>trivial)
  cases e2
  have:=RCs.len y2.1
  simpa [Value.cells,hl]using this
theorem elems_ok(hE:EnvOK P E){t}{d:TyD}(ht:E.ty t=some d):∀{ps:List (Nat×Operand)} {n:Nat} {W:List Wr} {es:List (V×M)} {k} {rm:Nat} {g:Gh} {rs:List Value} {pool:List Nat},PgR C S (elems d n ps W es k) rm ws rm'→Took fr S W a w g pool→
 (∃fp,EsR w.heap g d.size es.reverse rs fp∧(∀x∈fp,x∈pool)∧fp.Nodup)→es.any (·.2.isPt)=false→
 ∃W' es' rm1 g' pool' rs',PgR C S (k W' es') rm1 ws rm'∧Took fr S W' a w g' pool'∧(∃fp,EsR w.heap g' d.size es' (rs++rs') fp∧(∀x∈fp,x∈pool')∧fp.Nodup)∧es'.any (·.2.isPt)=false∧es'.length=es.length+ps.length∧
  (∀p∈ps,(a.eval p.2).cells.size=d.size)∧rs'=(ps.map fun p=>(a.eval p.2).cells.toList).flatten∧ps.map (·.1)=(List.range ps.length).map (n+ ·):=by
 intro ps
 induction ps with
 |nil=>
  intro n W es k rm g rs pool hp h hes hpt
  exact⟨W,es.reverse,rm,g,pool,[],hp,h,by simpa using hes,by simpa using hpt,by simp,by simp,rfl,rfl⟩
 |cons p ps ih=>
  obtain⟨i,x⟩:=p
  intro n W es k rm g rs pool hp h hes hpt
  obtain⟨hi,hp⟩:=hp
  have hi:i=n:=by simpa using hi
  obtain⟨w0,v,m,rm1,hp,H⟩:=sink_ok hp h
  obtain⟨v',m',rm2,hp,hprim⟩:=primE_ok hE ht hp
  obtain⟨hb,hp⟩:=hp
  simp only[Bool.and_eq_true,Bool.not_eq_true']at hb
  obtain⟨g1,fp1,k1,k2,k3⟩:=H hb.1
  obtain⟨l1,l2⟩:=hprim k3 hb.2
  obtain⟨fp,e1,e2,e3⟩:=hes
  have hpn:=List.nodup_append.1 k1.sim.plnd
  have e4:∀y∈fp++fp1,y∈fp1++pool:=fun y hy=>by
   rcases List.mem_append.1 hy with hy|hy
   ·exact List.mem_append.2 (.inr (e2 y hy))
   ·exact List.mem_append.2 (.inl hy)
  have e5:(fp++fp1).Nodup:=List.nodup_append.2 ⟨e3,hpn.1,fun y hy z hz e=>by subst e;exact hpn.2.2 y hz y (e2 y hy) rfl⟩
  have e6:EsR w.heap g1 d.size ((v',m')::es).reverse (rs++(a.eval x).cells.toList) (fp++fp1):=by
   simp only[List.reverse_cons]
   exact EsR.append (e1.up k2) ⟨(a.eval x).cells.toList,[],fp1,[],by simp,by simp,by simpa using l1,l2,rfl,rfl⟩
  obtain⟨W',es',rm3,g',pool',rs',r1,r2,⟨fp',r3⟩,r4,r5,r6,r7,r8⟩:=ih (n:=n+1) (rs:=rs++(a.eval x).cells.toList) hp k1 ⟨fp++fp1,e6,e4,e5⟩ (by simp only[List.any_cons,Bool.or_eq_false_iff];exact⟨hb.2,hpt⟩)
  ·refine⟨W',es',rm3,g',pool',(a.eval x).cells.toList++rs',r1,r2,⟨fp',by simpa using r3⟩,r4,by simp at r5 ⊢;omega,?_,by simp[r7],?_⟩
   ·intro p hp
    rcases List.mem_cons.1 hp with rfl|hp
    ·exact l1
    ·exact r6 p hp
   ·simp only[List.map_cons,r8,List.length_cons,hi]
    rw[List.range_succ_eq_map]
    simp only[List.map_cons,List.map_map,Nat.add_zero,List.cons.injEq,true_and]
    apply List.map_congr_left
    intro j _;simp;omega
theorem zip_ix{α:Type}:∀{ps:List (Nat×α)} {n:Nat},ps.map (·.1)=(List.range ps.length).map (n+ ·)→ps=((ps.map (·.2)).zipIdx n).map fun x=>(x.2,x.1)
 | [],n,_=>rfl
 |(i,x)::ps,n,h=>by
  simp only[List.map_cons,List.length_cons,List.range_succ_eq_map,List.map_map,List.cons.injEq,Nat.add_zero]at h
  obtain⟨rfl,h⟩:=h
  have:=zip_ix (ps:=ps) (n:=i+1) (by rw[h];apply List.map_congr_left;intro j _;simp;omega)
  simp only[List.map_cons,List.zipIdx_cons]
  rw[←this]
theorem flat_get{s:Nat}(hs:0<s):∀{vs:List Value} {k:Nat},(∀v∈vs,v.cells.size=s)→k<vs.length*s→((vs.map fun v=>v.cells.toList).flatten)[k]? =(vs[k/s]?).bind fun v=>v.cells[k % s]?
 | [],_,_,h=>by simp at h
 |v::vs,k,hv,h=>by
  have h1:=hv v (List.mem_cons_self ..)
  simp only[List.map_cons,List.flatten_cons]
  by_cases c:k<s
  ·rw[List.getElem?_append_left (by simpa [h1]using c),Nat.div_eq_of_lt c,Nat.mod_eq_of_lt c]
   simp
  ·rw[List.getElem?_append_right (by simp[h1];omega)]
   have hk:k-s<vs.length*s:=by simp only[List.length_cons,Nat.succ_mul]at h;omega
   have ih:=flat_get hs (vs:=vs) (fun u hu=>hv u (List.mem_cons_of_mem _ hu)) hk
   simp only[Array.length_toList,h1]
   rw[ih]
   have e1:k/s=(k-s)/s+1:=by rw[←Nat.add_div_right _ hs];congr 1;omega
   have e2:k % s=(k-s) % s:=by rw[←Nat.add_mod_right (k-s) s];congr 1;omega
   rw[e1,e2,List.getElem?_cons_succ]
theorem op_buildSlice(hE:EnvOK P E){rid i t n ps}(ho:o.op= .buildSlice t n ps)(hp:PgR C S (opPg E rid i o) rm ws rm')(hs:Sim fr S a w g [])
 (hK:∀a' w',SimX fr (Wr.apps ws S) a' w'→K a' w'):o.wp P a w K Q:=by
 simp only[opPg,ho]at hp
 split at hp
 ·rename_i d ht
  split at hp
  ·rename_i ed hed
   obtain⟨u,hu,he⟩:=(hE _ _ ht).under
   obtain⟨te,hk,hty⟩:=slE_ok hE ht hed
   have hu:=hu.trans (congrArg some (ut_slice (he.trans hk)))
   obtain⟨hb,hp⟩:=hp
   simp only[Bool.and_eq_true,beq_iff_eq,Bool.not_eq_true',decide_eq_true_eq,beq_eq_false_iff_ne,ne_eq]at hb
   obtain⟨⟨hn,hz⟩,hbig⟩:=hb
   obtain⟨W',es',rm1,g',pool',rs',r1,r2,⟨fp,r3,r4,r5⟩,r6,r7,r8,r9,r10⟩:=elems_ok hE hty (rs:=[]) hp (Took.nil hs) ⟨[],⟨rfl,rfl⟩,by simp,by simp⟩ rfl
   obtain⟨e,_⟩:=r1
   subst e
   obtain⟨i0,z,q1,q2,q3,q4,q5,q6,q7,q8,q9⟩:=zero_own hE hty
   have hz':0<ed.size:=by omega
   have hln:ps.toList.length=n:=by simpa using hn
   have hzip:(ps.map fun p=>(p.1,a.eval p.2)).toList=((ps.toList.map fun p=>a.eval p.2).zipIdx 0).map fun x=>(x.2,x.1):=by
    have:=zip_ix (ps:=(ps.map fun p=>(p.1,a.eval p.2)).toList) (n:=0) (by simpa [List.map_map,Function.comp_def]using r10)
    simpa [List.map_map,Function.comp_def]using this
   let init:Array Value:=(Array.range (n*ed.size)).map (z.cells[· % z.cells.size]!)
   obtain⟨r,f1,f2,f3⟩:=Great.fill_dense hz' (ps.toList.map fun p=>a.eval p.2) 0 init (fun v hv=>by
    obtain⟨p,hp,rfl⟩:=List.mem_map.1 hv;exact r8 p hp) (by simp[init,hln])
   have hr:r.toList=rs':=by
    have hlen:rs'.length=n*ed.size:=by
     have:=r3.len
     rw[List.nil_append]at this
     rw[this,r7];simp[hln]
    apply List.ext_getElem?
    intro k
    rw[Array.getElem?_toList,f3 k]
    simp only[Nat.zero_mul,Nat.zero_le,true_and,Nat.zero_add,List.length_map,hln,Nat.sub_zero]
    by_cases hk:k<n*ed.size
    ·rw[if_pos hk,r9]
     have:=flat_get hz' (vs:=ps.toList.map fun p=>a.eval p.2) (fun v hv=>by obtain⟨p,hp,rfl⟩:=List.mem_map.1 hv;exact r8 p hp) (k:=k) (by simpa [hln]using hk)
     rw[List.map_map]at this
     exact this.symm
    ·rw[if_neg hk,List.getElem?_eq_none (by omega)]
     simp[init];omega
   have hrun:(Instr.buildSlice t n (ps.map fun p=>(p.1,a.eval p.2))).run P w= .ok (.slice (some ⟨w.heap.size,0,none⟩) n n) (w.alloc (.cells r te)):=by
    have hne:¬n*ed.size>2^24:=by simpa using hbig
    have hf:=f1
    rw[←hzip]at hf
    by_cases h0:n*ed.size=0
    ·have hinit:init=(Array.range (n*ed.size)).map ((#[]:Array Value)[· % (#[]:Array Value).size]!):=by simp[init,h0]
     rw[hinit]at hf
     have hnn:¬(0>2^24):=by decide
     rw[h0]at hf
     simp only[Instr.buildSlice,Sem.run_bind,run_underlying hu,Result.andThen_ok,sizeOf_run hE hty,h0]
     rw[if_neg hnn]
     simp only[if_true,Sem.run_bind,Sem.run_pure,Result.andThen_ok,hf,newRow,run_newObj];rfl
    ·simp only[Instr.buildSlice,Sem.run_bind,run_underlying hu,Result.andThen_ok,sizeOf_run hE hty,hne,if_false,h0,Sem.run_pure,zeroValue,typeInfo,run_program,q1,q4]
     have hf':Instr.fill (fun i=>some (i*ed.size,ed.size)) ((Array.range (n*ed.size)).map (z.cells[· % z.cells.size]!)) (ps.map fun p=>(p.1,a.eval p.2)).toList=some r:=hf
     simp only[hf',newRow,Sem.run_bind,run_newObj,Result.andThen_ok,Sem.run_pure];rfl
   obtain⟨g2,e1,e2,hs'⟩:=sim_alloc r2.sim (.cells r te)
   have up2:Up g' g2:=⟨fun x hx=>by rw[e1];exact hx,fun b β hb=>by rw[e2];exact hb⟩
   rw[List.nil_append]at r3
   obtain⟨fo,fi,p1,p2⟩:=EsR.row (pre:=[]) (post:=[]) r6 r3 r5
   have hT:Took fr S W' a w g' pool':=r2
   have hfz:∀x∈fi,x∈w.heap.size::pool':=fun x hx=>List.mem_cons_of_mem _ (r4 x ((p1.mem x).2 (.inr hx)))
   obtain⟨g3,z1,z2,z3,hs3⟩:=sim_freeze (fz:=fi) (pool':=w.heap.size::fo) hs' hfz
    (fun x hx=>by rcases List.mem_cons.1 hx with h|h
                  ·simp[h]
                  ·exact List.mem_cons_of_mem _ (r4 x ((p1.mem x).2 (.inl h))))
    (List.nodup_cons.2 ⟨fun c=>by have:=r2.sim.plLt (r4 _ ((p1.mem _).2 (.inl c)));omega,p1.nd⟩)
    (fun x hx c=>by
      rcases List.mem_cons.1 c with h|h
      ·have:=r2.sim.plLt (r4 _ ((p1.mem x).2 (.inr hx)));omega
      ·exact p1.dis x hx h)
   have hrow:=p2 g'.ro (fun _ h=>h)
   have hh:∀b,b<w.heap.size→(w.alloc (.cells r te)).heap[b]? =w.heap[b]? :=fun b hb=>alloc_get hb
   have hrow3:if allSolid es' then OEs (w.alloc (.cells r te)).heap g3.ro true (es'.map (·.1)) r 0 ed.size fo else(fo=[]∧REs (w.alloc (.cells r te)).heap g3.ro (es'.map (·.1)) r 0 ed.size):=by
    have hp3:=p2 (fun x=>g'.ro x∨x∈fi) (fun _ h=>Or.inl h) (fun _ h=>Or.inr h)
    have er:([]++(rs'++[])).toArray=r:=by rw[List.append_nil,List.nil_append,←hr]
    rw[er]at hp3
    have hro3:∀b,(g'.ro b∨b∈fi)→g3.ro b:=fun b hb=>(z1 b).2 (hb.imp (fun h=>by rw[e1];exact h) id)
    have hlt:∀b,(g'.ro b∨b∈fi)→b<w.heap.size:=fun b hb=>hb.elim (fun h=>r2.sim.rolt b h) (fun h=>r2.sim.plLt (r4 _ ((p1.mem b).2 (.inr h))))
    cases hq:allSolid es' with
    |true=>
     rw[hq]at hp3
     simp only[if_true]at hp3 ⊢
     exact hp3.mono hro3 (fun b hb=>hh b (hlt b hb)) (fun b hb=>hh b (r2.sim.plLt (r4 _ ((p1.mem b).2 (.inl hb)))))
    |false=>
     rw[hq]at hp3
     simp only[Bool.false_eq_true,if_false]at hp3 ⊢
     exact⟨hp3.1,hp3.2.mono hro3 (fun b hb=>hh b (hlt b hb))⟩
   have hel:(es'.map (·.1)).length=n:=by rw[List.length_map,r7];simp[hln]
   refine wp_val (r:=.slice (some ⟨w.heap.size,0,none⟩) n n) (by simp only[execOp,ho];rw[Sem.run_bind,hrun];rfl) ?_ hK
   rw[apps_append]
   refine sim_dst hs3 (s:=.one (.sl ed.size (es'.map (·.1))) (.own (allSolid es'))) (fp:=w.heap.size::fo) ?_ (fun x hx=>hx) hs3.plnd
   refine⟨some ⟨w.heap.size,0,none⟩,n,n,rfl,hel.symm,⟨Nat.le_refl _,Nat.le_trans (Nat.le_trans (Nat.le_of_eq (Nat.mul_one n).symm) (Nat.mul_le_mul_left n hz')) (Nat.le_trans hbig (by decide))⟩,rfl,r,te,alloc_new,?_,fo,rfl,?_⟩
   ·rw[f2];simp[init]
   ·cases hq:allSolid es' with
    |true=>rw[hq]at hrow3;simpa using hrow3
    |false=>rw[hq]at hrow3;simpa using hrow3
  ·exact hp.elim
 ·exact hp.elim
end
section
variable {P : Program} {C : FuncId → List V → List V → Prop} {E : Env} {fr : Fr} {S : St} {a : Act} {w w' : World} {g : Gh} {pool : List Nat} {rm rm' : Nat} {ws : List Wr}
variable {o : Oper} {K : Act → World → Prop} {Q : Exit → Act → World → Prop}
theorem run_load1(hE:EnvOK P E){t d}(ht:E.ty t=some d)(hd:d.agg=false){bl off:Nat}{c:Array Value}{ty fr' r}(hb:w.heap[bl]? =some (.cells c ty fr'))(hr:c[off]? =some r):
 (Instr.loadAt t (.pointer (some ⟨bl,off,none⟩))).run P w= .ok r w:=by
 have hag:=isAgg_run (w:=w) hE ht
 rw[hd]at hag
 have hc:w.cell? ⟨bl,off,none⟩=some r:=by simp[World.cell?,hb,hr]
 simp only[Instr.loadAt,Instr.sureAddr,pure_bind,loadVar,Sem.run_bind,hag,Result.andThen_ok,Bool.false_eq_true,if_false,run_load,hc]
theorem run_loadN(hE:EnvOK P E){t d}(ht:E.ty t=some d)(hd:d.agg=true){bl off:Nat}{c:Array Value}{ty fr'}(hb:w.heap[bl]? =some (.cells c ty fr'))(hl:(seg c off d.size).length=d.size):
 (Instr.loadAt t (.pointer (some ⟨bl,off,none⟩))).run P w= .ok (.agg (seg c off d.size).toArray) w:=by
 have hag:=isAgg_run (w:=w) hE ht
 rw[hd]at hag
 have:=run_loadCells_list (P:=P) w ⟨bl,off,none⟩ (seg c off d.size) (fun j v hj=>by
  rw[cell_at hb rfl]
  unfold seg at hj
  rw[List.getElem?_take]at hj
  split at hj
  ·simpa using hj
  ·cases hj)
 rw[hl]at this
 simp only[Instr.loadAt,Instr.sureAddr,pure_bind,loadVar,Sem.run_bind,hag,Result.andThen_ok,if_true,sizeOf_run hE ht,this,Sem.run_pure]
theorem seg_sub{c:Array Value}{o z off n:Nat}(h:off+n≤z):seg c (o+off) n=((seg c o z).drop off).take n:=by
 unfold seg
 rw[List.drop_take,List.drop_drop,List.take_take]
 congr 1;omega
theorem seg_get{c:Array Value}{o z off:Nat}{r}(h:(seg c o z)[off]? =some r):c[o+off]? =some r:=by
 unfold seg at h
 rw[List.getElem?_take]at h
 split at h
 ·simpa using h
 ·cases h
theorem RCs.sub{h:Hp}{ro:Nat→Prop}:∀{l:List V} {rs} {off n:Nat},RCs h ro l rs→RCs h ro ((l.drop off).take n) ((rs.drop off).take n)
 | [],rs,off,n,x=>by rw[show rs=[]from x];simp[RCs]
 |v::l,_,0,0,_=>by simp[RCs]
 |v::l,_,0,n+1,⟨r,q,e,ha,x,y⟩=>by
  subst e
  have:=RCs.sub (off:=0) (n:=n) y
  simp only[List.drop_zero,List.take_succ_cons]at this ⊢
  exact⟨r,q.take n,rfl,ha,x,this⟩
 |v::l,_,off+1,n,⟨r,q,e,ha,x,y⟩=>by
  subst e
  simpa using RCs.sub (off:=off) (n:=n) y
theorem RCs.nth{h:Hp}{ro:Nat→Prop}:∀{l:List V} {rs} {i:Nat} {v},RCs h ro l rs→l[i]? =some v→∃r,rs[i]? =some r∧v.isAgg=false∧REl h ro v [r]
 | [],_,i,_,_,hv=>by simp at hv
 |v0::l,_,0,v,⟨r,q,e,ha,x,y⟩,hv=>by
  simp only[List.getElem?_cons_zero,Option.some.injEq]at hv
  subst hv;exact⟨r,by rw[e];rfl,ha,x⟩
 |v0::l,_,i+1,v,⟨r,q,e,ha,x,y⟩,hv=>by
  obtain⟨r1,h1,h2⟩:=RCs.nth y (by simpa using hv)
  exact⟨r1,by rw[e];simpa using h1,h2⟩
theorem prim1_ok{u:UT}{v:V}{m:M}{k:V→M→Pg}(hp:PgR C S (prim1 u v m k) rm ws rm'):
 ∃v' m' rm1,PgR C S (k v' m') rm1 ws rm'∧v'.isCell=true∧∀{h:Hp} {g r fp},OneR h g v m r fp→CV h g m' v' r fp:=by
 unfold prim1 at hp
 split at hp
 ·obtain⟨z,es,rfl,hp1⟩:=hp
  exact⟨_,_,_,hp1,rfl,fun x=>x.cell rfl⟩
 ·exact prim_ok hp
 ·exact prim_ok hp
 ·exact prim_ok hp
 ·exact hp.elim
theorem readEl_ok(hE:EnvOK P E){t d}(ht:E.ty t=some d){z off:Nat}{e:V}{k:Sl→Pg}(hp:PgR C S (readEl d z e off k) rm ws rm'){bl q:Nat}{c:Array Value}{ty fr'}
 (hb:w.heap[bl]? =some (.cells c ty fr')) (hl:(seg c q z).length=z) (x:REl w.heap g.ro e (seg c q z)):
 ∃s r rm1,PgR C S (k s) rm1 ws rm'∧(Instr.loadAt t (.pointer (some ⟨bl,q+off,none⟩))).run P w= .ok r w∧∀(S':St) (tm:Array Value),SlR S' tm w.heap g s r []:=by
 unfold readEl at hp
 cases h1:(off==0&&d.size==z&&d.agg)with
 |true=>
  rw[h1]at hp
  obtain⟨cs,rfl,hp⟩:=hp
  simp only[Bool.and_eq_true,beq_iff_eq]at h1
  obtain⟨⟨rfl,rfl⟩,hd⟩:=h1
  exact⟨.one (.agg cs) .ro,.agg (seg c q d.size).toArray,_,hp,run_loadN hE ht hd hb hl,fun _ _=>RW.one (show RW w.heap g.ro .ro (.agg cs) (.agg (seg c q d.size).toArray) []from⟨_,rfl,x,rfl⟩)⟩
 |false=>
  rw[h1]at hp
  simp only[cond_false]at hp
  cases hd:d.agg with
  |true=>
   rw[hd]at hp
   obtain⟨hle,cs,rfl,hcl,hp⟩:=hp
   have hle:=of_decide_eq_true hle
   have hs:=seg_sub (c:=c) (o:=q) hle
   have hlen:(seg c (q+off) d.size).length=d.size:=by rw[hs,List.length_take,List.length_drop,hl];omega
   refine⟨_,_,_,hp,run_loadN hE ht hd hb hlen,fun _ _=>⟨_,rfl,?_⟩⟩
   rw[hs]
   exact RCs.csR rfl (RCs.sub (show RCs w.heap g.ro cs (seg c q z)from x))
  |false=>
   rw[hd]at hp
   simp only[cond_false]at hp
   cases h2:(off==0&&z==1)with
   |true=>
    rw[h2]at hp
    simp only[Bool.and_eq_true,beq_iff_eq]at h2
    obtain⟨rfl,rfl⟩:=h2
    obtain⟨v',m',rm1,hp1,hc,hcv⟩:=prim1_ok (show PgR C S (prim1 d.under e .ro fun v m=>k (.one v m)) rm ws rm' from hp)
    have:∃r,seg c q 1=[r]:=by
     cases hsg:seg c q 1 with
     |nil=>rw[hsg]at hl;simp at hl
     |cons r l=>rw[hsg]at hl;simp at hl;subst hl;exact⟨r,rfl⟩
    obtain⟨r,hr⟩:=this
    rw[hr]at x
    have hone:e.isAgg=true→False:=fun ha=>by
     cases e with
     |agg l=>
      unfold prim1 prim at hp
      cases hu:d.under<;>rw[hu]at hp<;>first
       |exact hp.elim
       |(obtain⟨_,_,e,_⟩:=hp;cases e)
       |(obtain⟨_,e,_⟩:=hp;cases e)
     |_=>simp[V.isAgg]at ha
    have y:OneR w.heap g e .ro r []:=by
     show RW w.heap g.ro .ro e r []
     unfold RW
     split
     ·exact(hone rfl).elim
     ·exact⟨x,rfl⟩
    refine⟨_,_,_,hp1,run_load1 hE ht hd hb (seg_one hl hr),fun _ _=>CV.one (hcv y)⟩
   |false=>
    rw[h2]at hp
    obtain⟨cs,rfl,hcl,hp⟩:=hp
    dsimp only at hp
    split at hp
    ·rename_i v hv
     obtain⟨v',m',rm1,hp1,hc,hcv⟩:=prim_ok hp
     obtain⟨r,k1,k2,k3⟩:=RCs.nth (show RCs w.heap g.ro cs (seg c q z)from x) hv
     exact⟨_,_,_,hp1,run_load1 hE ht hd hb (seg_get k1),fun _ _=>CV.one (hcv (CV.one (show CV w.heap g .ro v r []from⟨k2,k3,rfl⟩)))⟩
    ·exact hp.elim
end
section
variable {P : Program} {C : FuncId → List V → List V → Prop} {E : Env} {fr : Fr} {S : St} {a : Act} {w w' : World} {g : Gh} {pool : List Nat} {rm rm' : Nat} {ws : List Wr}
variable {o : Oper} {K : Act → World → Prop} {Q : Exit → Act → World → Prop}
def Read(fr:Fr)(S:St)(a:Act)(w:World)(W:List Wr)(s:Sl)(r:Value):Prop:=
 ∃g' pool' fp,Sim fr (Wr.apps W S) a w g' pool'∧SlR (Wr.apps W S) a.tmps w.heap g' s r fp∧(∀x∈fp,x∈pool')∧fp.Nodup
theorem Read.done{W s r}(h:Read fr S a w W s r):SimX fr (Wr.apps (W++wDst o.dst s) S) (a.put o.dst r) w:=by
 obtain⟨g',pool',fp,h1,h2,h3,h4⟩:=h
 rw[apps_append];exact sim_dst h1 h2 h3 h4
theorem Read.plain(hs:Sim fr S a w g pool){s r}(h:SlR S a.tmps w.heap g s r []):Read fr S a w [] s r:=⟨g,pool,[],hs,h,by simp,by simp⟩
def catF(f:Nat→List Nat):Nat→Nat→List Nat
 |_,0=>[]
 |s,n+1=>f s++catF f (s+1) n
theorem mem_catF{f:Nat→List Nat}{x:Nat}:∀{n s:Nat},x∈catF f s n↔∃j,s≤j∧j<s+n∧x∈f j
 |0,s=>by simp[catF];intro j h1 h2;omega
 |n+1,s=>by
  simp only[catF,List.mem_append,mem_catF (n:=n)]
  constructor
  ·rintro(h|⟨j,h1,h2,h3⟩)
   ·exact⟨s,Nat.le_refl _,by omega,h⟩
   ·exact⟨j,by omega,by omega,h3⟩
  ·rintro⟨j,h1,h2,h3⟩
   by_cases e:j=s
   ·subst e;exact .inl h3
   ·exact .inr ⟨j,by omega,by omega,h3⟩
theorem nd_catF{f:Nat→List Nat}(h1:∀j,(f j).Nodup)(h2:∀i j x,x∈f i→x∈f j→i=j):∀{n s:Nat},(catF f s n).Nodup
 |0,s=>by simp[catF]
 |n+1,s=>by
  refine List.nodup_append.2 ⟨h1 s,nd_catF h1 h2,fun x hx y hy e=> ?_⟩
  subst e
  obtain⟨j,k1,k2,k3⟩:=mem_catF.1 hy
  have:=h2 _ _ x hx k3;omega
theorem drop_cons_of{α:Type}{l:List α}{i:Nat}{x:α}(h:l[i]? =some x):l.drop i=x::l.drop (i+1):=by
 have hi:=(List.getElem?_eq_some_iff.1 h)
 rw[List.drop_eq_getElem_cons hi.1,hi.2]
theorem box_part{b:Nat}{cs:Bx}{c:Array Value}(hc:c.size=cs.length){f:Nat→List Nat}(H:∀j x,cs[j]? =some x→∃r,c[j]? =some r∧CV w.heap g x.m x.v r (f j)):
 ∀{n off:Nat},off+n≤cs.length→CsR w.heap g (((cs.drop off).take n).map Cell.pair) (seg c off n) (catF f off n)
 |0,off,_=>by simp[seg,catF,CsR]
 |n+1,off,h=>by
  have hl:off<cs.length:=by omega
  have e:cs[off]? =some cs[off]:=List.getElem?_eq_getElem hl
  obtain⟨r,k1,k2⟩:=H off _ e
  have ih:=box_part (b:=b) hc H (n:=n) (off:=off+1) (by omega)
  rw[drop_cons_of e,List.take_succ_cons,List.map_cons]
  have e2:seg c off (n+1)=r::seg c (off+1) n:=by
   unfold seg
   have:c.toList[off]? =some r:=by simpa using k1
   rw[drop_cons_of this,List.take_succ_cons]
  rw[e2]
  exact⟨r,seg c (off+1) n,f off,catF f (off+1) n,rfl,rfl,k2,ih⟩
theorem Sim.box_fp(hs:Sim fr S a w g pool){b:Nat}:∀i j x,x∈g.fp (.b b i)→x∈g.fp (.b b j)→i=j:=fun i j x hx hx'=>by
 have e:=hs.own _ x hx;rw[hs.own _ x hx']at e;injection e with e;injection e with _ e;exact e.symm
theorem turn_part(hs:Sim fr S a w g []){b off n:Nat}{cs:Bx}(hb:S.bx b=some cs)(hle:off+n≤cs.length)(take:Bool):
 ∃g' pool',Sim fr (S.setB b (some (cs.take off++((cs.drop off).take n).map (if take then clr else frz)++cs.drop (off+n)))) a w g' pool'∧Up g g'∧
  (take=true→pool'=catF (fun j=>g.fp (.b b j)) off n)∧(take=false→pool'=[]∧∀x∈catF (fun j=>g.fp (.b b j)) off n,g'.ro x):=by
 obtain⟨β,c,ty,q1,q2,q3,q4⟩:=hs.boxes b cs hb
 let f:Nat→List Nat:=fun j=>g.fp (.b b j)
 have hget:∀j,(cs.take off++((cs.drop off).take n).map (if take then clr else frz)++cs.drop (off+n))[j]? =if off≤j∧j<off+n then cs[j]?.map (if take then clr else frz)else cs[j]? :=fun j=>by
  have l1:(cs.take off).length=off:=by rw[List.length_take];omega
  have l2:(((cs.drop off).take n).map (if take then clr else frz)).length=n:=by rw[List.length_map,List.length_take,List.length_drop];omega
  rw[List.append_assoc]
  by_cases h1:j<off
  ·rw[List.getElem?_append_left (by rw[l1];exact h1),if_neg (show¬(off≤j∧j<off+n)by omega),List.getElem?_take,if_pos h1]
  ·rw[List.getElem?_append_right (by rw[l1];omega),l1]
   by_cases h2:j<off+n
   ·rw[List.getElem?_append_left (by rw[l2];omega),if_pos (show off≤j∧j<off+n from⟨by omega,h2⟩),List.getElem?_map,List.getElem?_take,if_pos (show j-off<n by omega),List.getElem?_drop,show off+(j-off)=j by omega]
   ·rw[List.getElem?_append_right (by rw[l2];omega),l2,if_neg (show¬(off≤j∧j<off+n)by omega),List.getElem?_drop]
    congr 1;omega
 have hlen:(cs.take off++((cs.drop off).take n).map (if take then clr else frz)++cs.drop (off+n)).length=cs.length:=by
  simp only[List.length_append,List.length_take,List.length_map,List.length_drop];omega
 let cat:=catF f off n
 have ndc:cat.Nodup:=nd_catF (fun j=>hs.nd _) (fun i j x hx hx'=>hs.box_fp i j x hx hx')
 let fpb:Nat→List Nat:=fun j=>if off≤j∧j<off+n then[]else g.fp (.b b j)
 have turned:∀(j:Nat) (x:Cell),cs[j]? =some x→∀fz:Nat→Prop,(take=false→∀y∈g.fp (.b b j),fz y)→∃r,c[j]? =some r∧CV w.heap {g with ro:=fun x=>g.ro x∨fz x} ((if take then clr else frz) x).m ((if take then clr else frz) x).v r []:=by
  intro j x hx fz hfz
  obtain⟨r,k1,k2,_⟩:=q4 j x hx
  refine⟨r,k1,?_⟩
  let g1:Gh:={g with ro:=fun x=>g.ro x∨fz x}
  have up:Up g g1:=⟨fun _ h=>Or.inl h,fun _ _ h=>h⟩
  cases hm:x.m with
  |own d=>
   cases take with
   |true=>simp only[if_true,clr,hm];exact cv_undef rfl (CV.ones (by assumption))
   |false=>
    simp only[Bool.false_eq_true,if_false,frz,hm]
    rw[hm]at k2
    exact⟨k2.1,RM.toRO (ro':=g1.ro) (fun b hb=>Or.inl hb) (fun b hb=>Or.inr (hfz rfl b hb)) k2.2⟩
  |_=>
   have e0:=OneR.fp_nil (m:=x.m) (by rw[hm];rfl) (CV.one k2)
   have k3:=k2.up up
   rw[e0,hm]at k3
   cases take<;>simp only[if_true,Bool.false_eq_true,if_false,clr,frz,hm]<;>exact k3
 have common:∀(fz pool':List Nat),(take=false→∀x∈cat,x∈fz)→(∀x∈fz,x∈cat)→(∀x∈pool',x∈cat)→pool'.Nodup→(∀x∈fz,x∉pool')→
  ∃g',(∀x,g'.ro x↔g.ro x∨x∈fz)∧g'.bb=g.bb∧Sim fr (S.setB b (some (cs.take off++((cs.drop off).take n).map (if take then clr else frz)++cs.drop (off+n)))) a w g' pool':=by
  intro fz pool' h1 h2 h3 h4 h5
  obtain⟨g',p1,p2,_,_,p5⟩:=sim_box (w':=w) (c':=c) (ty:=ty) (fpb:=fpb) (fz:=fz) (pool':=pool') hs hb q1 (Same.refl w) (Nat.le_refl _) q2 (by rw[hlen];exact q3) (fun _ _ _ _ _=>rfl) hlen
   (fun j x x' hx hx'=>by
     rw[hget]at hx'
     by_cases hj:off≤j∧j<off+n
     ·rw[if_pos hj,hx]at hx'
      simp only[Option.map_some,Option.some.injEq]at hx'
      subst hx'
      cases hm:x.m with
      |own d=>cases take<;>simp only[if_true,Bool.false_eq_true,if_false,clr,frz,hm]
              ·exact⟨Nat.le_refl _,fun _=>⟨by simp only[realAt,q1,q2],fun z hz=>hz⟩⟩
              ·exact⟨Nat.le_succ _,fun he=>by omega⟩
      |_=>cases take<;>simp only[if_true,Bool.false_eq_true,if_false,clr,frz,hm]<;>exact⟨Nat.le_refl _,fun _=>⟨by simp only[realAt,q1,q2],fun z hz=>hz⟩⟩
     ·rw[if_neg hj,hx]at hx';cases hx'
      exact⟨Nat.le_refl _,fun _=>⟨by simp only[realAt,q1,q2],fun z hz=>hz⟩⟩)
   (fun j x' hx' hf=>by
     rw[hget]at hx'
     by_cases hj:off≤j∧j<off+n
     ·rw[if_pos hj]at hx'
      cases hx:cs[j]? with
      |none=>simp[hx]at hx'
      |some x=>
       simp only[hx,Option.map_some,Option.some.injEq]at hx'
       subst hx'
       obtain⟨r,e1,_,e3⟩:=q4 j x hx
       rw[e1,e3 (by cases hm:x.m<;>cases take<;>simpa [clr,frz,hm]using hf)]
     ·rw[if_neg hj]at hx'
      obtain⟨r,e1,_,e3⟩:=q4 j x' hx'
      rw[e1,e3 hf])
   (fun j x' hx'=>by
     rw[hget]at hx'
     by_cases hj:off≤j∧j<off+n
     ·rw[if_pos hj]at hx'
      cases hx:cs[j]? with
      |none=>simp[hx]at hx'
      |some x=>
       simp only[hx,Option.map_some,Option.some.injEq]at hx'
       subst hx'
       simp only[fpb,if_pos hj]
       exact turned j x hx (·∈fz) (fun ht y hy=>h1 ht y (mem_catF.2 ⟨j,hj.1,hj.2,hy⟩))
     ·rw[if_neg hj]at hx'
      obtain⟨r,e1,e2,_⟩:=q4 j x' hx'
      simp only[fpb,if_neg hj]
      exact⟨r,e1,e2.up ⟨fun _ h=>Or.inl h,fun _ _ h=>h⟩⟩)
   (fun j x hx=>by simp only[fpb]at hx;split at hx
                   ·simp at hx
                   ·exact .inr ⟨j,hx⟩)
   (fun j=>by simp only[fpb];split
              ·simp
              ·exact hs.nd _)
   (fun i j x hx hx'=>by
     simp only[fpb]at hx hx'
     split at hx
     ·simp at hx
     ·split at hx'
      ·simp at hx'
      ·exact hs.box_fp i j x hx hx')
   (fun x hx=>.inr (by obtain⟨j,_,_,h⟩:=mem_catF.1 (h2 x hx);exact⟨j,h⟩))
   (fun x hx=>.inr (by obtain⟨j,_,_,h⟩:=mem_catF.1 (h3 x hx);exact⟨j,h⟩)) h4
   (fun j x hx hx'=>by
     obtain⟨i,k1,k2,k3⟩:=mem_catF.1 (h3 x hx')
     simp only[fpb]at hx
     split at hx
     ·simp at hx
     ·rename_i hj;rw[hs.box_fp j i x hx k3]at hj;exact hj ⟨k1,k2⟩)
   (fun x hx=>⟨fun j hc=>by
     obtain⟨i,k1,k2,k3⟩:=mem_catF.1 (h2 x hx)
     simp only[fpb]at hc
     split at hc
     ·simp at hc
     ·rename_i hj;rw[hs.box_fp j i x hc k3]at hj;exact hj ⟨k1,k2⟩,h5 x hx⟩)
  exact⟨g',p1,p2,p5⟩
 cases take with
 |true=>
  obtain⟨g',p1,p2,p3⟩:=common [] cat (fun h=>by cases h) (by simp) (fun x h=>h) ndc (by simp)
  exact⟨g',cat,p3,⟨fun x hx=>(p1 x).2 (.inl hx),fun b β hb=>by rw[p2];exact hb⟩,fun _=>rfl,fun h=>by cases h⟩
 |false=>
  obtain⟨g',p1,p2,p3⟩:=common cat [] (fun _ x h=>h) (fun x h=>h) (by simp) (by simp) (by simp)
  exact⟨g',[],p3,⟨fun x hx=>(p1 x).2 (.inl hx),fun b β hb=>by rw[p2];exact hb⟩,(fun h=>by cases h),fun _=>⟨rfl,fun x hx=>(p1 x).2 (.inr hx)⟩⟩
end
section
variable {P : Program} {C : FuncId → List V → List V → Prop} {E : Env} {fr : Fr} {S : St} {a : Act} {w w' : World} {g : Gh} {pool : List Nat} {rm rm' : Nat} {ws : List Wr}
variable {o : Oper} {K : Act → World → Prop} {Q : Exit → Act → World → Prop}
theorem any_own_false{cs:List Cell}(h:cs.any (·.m.isOwn)=false):(cs.map Cell.pair).any (·.2.isOwn)=false:=by
 rw[List.any_map];exact h
theorem load_ptr(hE:EnvOK P E){t d}(ht:E.ty t=some d){tk:Bool}{b off:Nat}{m:M}{k}(hp:PgR C S (loadP tk d (.one (.ptr b off) m) k) rm ws rm')(hs:Sim fr S a w g []){r:Value}{fp}
 (hr:OneR w.heap g (.ptr b off) m r fp):∃W s rm1 v,PgR C S (k W s) rm1 ws rm'∧(Instr.loadAt t r).run P w= .ok v w∧Read fr S a w W s v:=by
 obtain⟨rfl,hf,β,hβ,rfl⟩:=ptr_pt hr
 have hp':PgR C S (bif !tk&& !d.agg&&(match S.hb b off with|some (o,_)=>o|none=>false)then(match S.hb b off with|some (_,ver)=>k [] (.ref (.b b off) ver)|none=>.fail)else .rdB b fun ob=>match ob with
  |none=>.fail
  |some cs=>
   bif d.agg then
    .chk (decide (off+d.size≤cs.length)) (
    let part:=(cs.drop off).take d.size
    bif part.any (·.m.isOwn)then
     bif tk||d.deep then k [.box b (some (cs.take off++part.map clr++cs.drop (off+d.size)))] (.many (part.map Cell.pair))
     else k [.box b (some (cs.take off++part.map frz++cs.drop (off+d.size)))] (.many (part.map (Cell.pair∘frz)))
    else k [] (.many (part.map Cell.pair)))
   else match cs[off]? with
    |none=>.fail
    |some c=>match c.m with
     | .own q=>bif tk then k [.box b (some (cs.set off (clr c)))] (.one c.v (.own q))else .fail
     |m=>prim d.under c.v m fun v m=>k [] (.one v m)) _ ws rm':=hp
 cases h1:(!tk&& !d.agg&&(match S.hb b off with|some (o,_)=>o|none=>false))with
 |true=>
  rw[h1]at hp'
  simp only[Bool.and_eq_true,Bool.not_eq_true']at h1
  obtain⟨⟨_,hd⟩,h2⟩:=h1
  simp only[cond_true]at hp'
  cases hh:S.hb b off with
  |none=>rw[hh]at hp';exact hp'.elim
  |some x=>
   rw[hh]at hp'
   rw[hb_eq]at hh
   cases hb:S.bx b with
   |none=>simp[hb]at hh
   |some cs=>
    simp only[hb,Option.bind_some]at hh
    cases hc:cs[off]? with
    |none=>simp[hc]at hh
    |some c=>
     simp only[hc,Option.map_some,Option.some.injEq]at hh
     obtain⟨β',cc,ty,q1,q2,q3,q4⟩:=hs.boxes b cs hb
     rw[hβ]at q1;cases q1
     obtain⟨v,e1,e2,_⟩:=q4 off c hc
     refine⟨_,_,_,v,hp',run_load1 hE ht hd q2 e1,Read.plain hs ⟨rfl,?_,fun _=> ?_⟩⟩
     ·simp[St.verAt,hb,hc,←hh]
     ·simp only[realAt,hβ,q2];exact e1
 |false=>
  rw[h1]at hp'
  simp only[cond_false]at hp'
  have hp2:PgR C S (match S.bx b with
   |none=>.fail
   |some cs=>
    bif d.agg then
     .chk (decide (off+d.size≤cs.length)) (
     let part:=(cs.drop off).take d.size
     bif part.any (·.m.isOwn)then
      bif tk||d.deep then k [.box b (some (cs.take off++part.map clr++cs.drop (off+d.size)))] (.many (part.map Cell.pair))
      else k [.box b (some (cs.take off++part.map frz++cs.drop (off+d.size)))] (.many (part.map (Cell.pair∘frz)))
     else k [] (.many (part.map Cell.pair)))
    else match cs[off]? with
     |none=>.fail
     |some c=>match c.m with
      | .own q=>bif tk then k [.box b (some (cs.set off (clr c)))] (.one c.v (.own q))else .fail
      |m=>prim d.under c.v m fun v m=>k [] (.one v m)) _ ws rm':=hp'
  cases hb:S.bx b with
  |none=>rw[hb]at hp2;exact hp2.elim
  |some cs=>
   rw[hb]at hp2
   obtain⟨β',cc,ty,q1,q2,q3,q4⟩:=hs.boxes b cs hb
   rw[hβ]at q1;cases q1
   dsimp only at hp2
   cases hd:d.agg with
   |true=>
    rw[hd]at hp2
    obtain⟨hle,hp2⟩:=hp2
    have hle:=of_decide_eq_true hle
    have hcs:=box_part (w:=w) (g:=g) (b:=b) q3 (f:=fun j=>g.fp (.b b j)) (fun j x hx=>by obtain⟨r,e1,e2,_⟩:=q4 j x hx;exact⟨r,e1,e2⟩) hle
    have hsl:(seg cc off d.size).length=d.size:=by
     unfold seg;rw[List.length_take,List.length_drop];simp;omega
    have hrun:=run_loadN (w:=w) hE ht hd q2 hsl
    have hnd:(catF (fun j=>g.fp (.b b j)) off d.size).Nodup:=nd_catF (fun j=>hs.nd _) (fun i j x hx hx'=>hs.box_fp i j x hx hx')
    cases ho:((cs.drop off).take d.size).any (·.m.isOwn)with
    |false=>
     rw[ho]at hp2
     refine⟨_,_,_,_,hp2,hrun,Read.plain hs ⟨_,rfl,?_⟩⟩
     rw[CsR.fp_nil (any_own_false ho) hcs]at hcs
     exact hcs
    |true=>
     rw[ho]at hp2
     simp only[cond_true]at hp2
     cases htk:(tk||d.deep)with
     |true=>
      rw[htk]at hp2
      obtain⟨g',pool',p1,p2,p3,_⟩:=turn_part hs hb hle true
      have p3:=p3 rfl
      subst p3
      simp only[if_true]at p1
      exact⟨_,_,_,_,hp2,hrun,g',_,_,p1,⟨_,rfl,hcs.up p2⟩,fun x hx=>hx,hnd⟩
     |false=>
      rw[htk]at hp2
      obtain⟨g',pool',p1,p2,_,p4⟩:=turn_part hs hb hle false
      obtain⟨rfl,p4⟩:=p4 rfl
      simp only[Bool.false_eq_true,if_false]at p1
      refine⟨_,_,_,_,hp2,hrun,g',_,[],p1,⟨_,rfl,?_⟩,by simp,by simp⟩
      have hb2:(S.setB b (some (cs.take off++((cs.drop off).take d.size).map frz++cs.drop (off+d.size)))).bx b=some (cs.take off++((cs.drop off).take d.size).map frz++cs.drop (off+d.size)):=by
       rw[setB_get (hs.boxIx hb),if_pos rfl]
      obtain⟨β2,c2,ty2,z1,z2,z3,z4⟩:=p1.boxes b _ hb2
      rw[p2.bb b β hβ]at z1;cases z1
      rw[q2]at z2;cases z2
      have l1:(cs.take off).length=off:=by rw[List.length_take];omega
      have l2:(((cs.drop off).take d.size).map frz).length=d.size:=by rw[List.length_map,List.length_take,List.length_drop];omega
      have hmid:((cs.take off++((cs.drop off).take d.size).map frz++cs.drop (off+d.size)).drop off).take d.size=((cs.drop off).take d.size).map frz:=by
       rw[List.append_assoc,List.drop_append_of_le_length (by omega),List.drop_of_length_le (by omega),List.nil_append,List.take_append_of_le_length (by omega),List.take_of_length_le (by omega)]
      have hcs2:=box_part (w:=w) (g:=g') (b:=b) z3 (f:=fun j=>g'.fp (.b b j)) (n:=d.size) (off:=off) (fun j x hx=>by obtain⟨r,e1,e2,_⟩:=z4 j x hx;exact⟨r,e1,e2⟩) (by simp only[List.length_append,l1,l2];omega)
      rw[hmid,List.map_map]at hcs2
      have hno:(((cs.drop off).take d.size).map (Cell.pair∘frz)).any (·.2.isOwn)=false:=by
       rw[List.any_map,List.any_eq_false]
       intro x _
       simp only[Function.comp,Cell.pair,frz]
       cases hm:x.m<;>simp[hm,M.isOwn]
      rw[CsR.fp_nil hno hcs2]at hcs2
      exact hcs2
   |false=>
    rw[hd]at hp2
    simp only[cond_false]at hp2
    cases hc:cs[off]? with
    |none=>rw[hc]at hp2;exact hp2.elim
    |some c=>
     rw[hc]at hp2
     dsimp only at hp2
     obtain⟨v,e1,e2,_⟩:=q4 off c hc
     have hrun:=run_load1 (w:=w) hE ht hd q2 e1
     have hat:S.at (.b b off)=some (c.v,c.m,c.ver):=by simp[St.at,hb,hc]
     have hreal:realAt a.tmps w.heap g (.b b off)=some v:=by simp only[realAt,hβ,q2];exact e1
     split at hp2
     ·rename_i q hm
      cases tk with
      |false=>exact hp2.elim
      |true=>
       rw[hm]at e2 hat
       have hu:LocW S (.b b off) .undef .pr 1 (.box b (some (cs.set off (clr c)))):=⟨cs,c,hb,hc,by simp only[Wr.app,St.setB,clr,hm]⟩
       obtain⟨g',p1,p2,p3,p4,p5⟩:=sim_at (w':=w) (fp:=[]) (fz:=[]) (pool':=g.fp (.b b off)) hs hat hreal hu (.inl rfl) (Same.refl w) (Nat.le_refl _) (fun _ _ _ _=>rfl)
        (by simp) (by simp) (by simp) (fun x hx=>.inr hx) (hs.nd _) (by simp) (by simp) (.inr (cv_undef (g:={g with ro:=fun x=>g.ro x∨x∈[]}) rfl (CV.ones (by assumption))))
       have up:Up g g':=⟨fun x hx=>(p1 x).2 (.inl hx),fun b β hb=>by rw[p2];exact hb⟩
       exact⟨_,_,_,v,hp2,hrun,g',_,_,p5,(CV.one e2).up up,fun x hx=>hx,hs.nd _⟩
     ·rename_i m' hm
      have hm':c.m.isOwn=false:=by cases h:c.m<;>first|rfl|exact absurd h (hm _)
      obtain⟨v',m2,rm1,hp3,hcell,hcv⟩:=prim_ok hp2
      have y:=hcv (CV.one e2)
      rw[OneR.fp_nil hm' (CV.one e2)]at y
      exact⟨_,_,_,v,hp3,hrun,Read.plain hs (CV.one y)⟩
theorem load_aptr(hE:EnvOK P E){t d}(ht:E.ty t=some d){b off n i:Nat}{cs:Bx}(hs:Sim fr S a w g []){r:Value}{fp}(hr:SlR S a.tmps w.heap g (.aptr b off n i) r fp)(hb:S.bx b=some cs)
 (hc:(decide (off+n≤cs.length)&& !d.agg&&((cs.drop off).take n).all (fun c=>match c.m with| .pr=>true|_=>false))=true) {v:V} (hv:(((cs.drop off).take n).map (·.v))[i]? =some v):
 ∃q,(Instr.loadAt t r).run P w= .ok q w∧OneR w.heap g v .pr q []:=by
 simp only[Bool.and_eq_true,decide_eq_true_eq,Bool.not_eq_true']at hc
 obtain⟨⟨h1,hd⟩,h2⟩:=hc
 obtain⟨rfl,hi,β,hβ,rfl⟩:=hr
 obtain⟨β',cc,ty,q1,q2,q3,q4⟩:=hs.boxes b cs hb
 rw[hβ]at q1;cases q1
 rw[List.getElem?_map]at hv
 cases hx:((cs.drop off).take n)[i]? with
 |none=>simp[hx]at hv
 |some x=>
  simp only[hx,Option.map_some,Option.some.injEq]at hv
  have hm:x.m= .pr:=by
   have:=List.all_eq_true.1 h2 x (List.mem_of_getElem? hx)
   cases h:x.m<;>first|rfl|(rw[h]at this;simp at this)
  rw[List.getElem?_take,if_pos hi,List.getElem?_drop]at hx
  obtain⟨q,e1,e2,_⟩:=q4 _ x hx
  rw[hm]at e2
  have e3:=OneR.fp_nil rfl (CV.one e2)
  rw[e3]at e2
  subst hv
  exact⟨q,run_load1 hE ht hd q2 e1,CV.one e2⟩
theorem OEs.nth_upd{h:Hp}{ro:Nat→Prop}{d:Bool}{c:Array Value}{z:Nat}:∀{es:List V} {off i:Nat} {e:V} {fp},OEs h ro d es c off z fp→es[i]? =some e→
 ∃f r1 r2,fp=r1++f++r2∧(seg c (off+i*z) z).length=z∧OEl h ro d e (seg c (off+i*z) z) f∧
  ∀(c':Array Value) (e':V) (f':List Nat),(∀j,j<es.length→j≠i→seg c' (off+j*z) z=seg c (off+j*z) z)→(seg c' (off+i*z) z).length=z→OEl h ro d e' (seg c' (off+i*z) z) f'→
   OEs h ro d (es.set i e') c' off z (r1++f'++r2)
 | [],_,i,_,_,_,hv=>by simp at hv
 |e0::es,off,0,e,fp,⟨f,f2,e1,h1,h2,h3⟩,hv=>by
  simp only[List.getElem?_cons_zero,Option.some.injEq]at hv
  subst hv
  simp only[Nat.zero_mul,Nat.add_zero]
  refine⟨f,[],f2,by simp[e1],h1,h2,fun c' e' f' hj hl ho=> ?_⟩
  refine⟨f',f2,by simp,hl,ho,?_⟩
  have rest:∀{es:List V} {off':Nat} {fp},(∀j,j<es.length→seg c' (off'+j*z) z=seg c (off'+j*z) z)→OEs h ro d es c off' z fp→OEs h ro d es c' off' z fp:=by
   intro es
   induction es with
   |nil=>intro _ _ _ x;exact x
   |cons e es ih=>
    intro off' fp hj x
    obtain⟨f,f2,e1,h1,h2,h3⟩:=x
    have h0:=hj 0 (by simp)
    simp only[Nat.zero_mul,Nat.add_zero]at h0
    exact⟨f,f2,e1,by rw[h0];exact h1,by rw[h0];exact h2,ih (fun j hlt=>by
     have:=hj (j+1) (by simpa using hlt)
     rw[Nat.succ_mul]at this
     rw[show off'+z+j*z=off'+(j*z+z)by omega];exact this) h3⟩
  exact rest (fun j hlt=>by
   have:=hj (j+1) (by simpa using hlt) (by omega)
   rw[Nat.succ_mul]at this
   rw[show off+z+j*z=off+(j*z+z)by omega];exact this) h3
 |e0::es,off,i+1,e,fp,⟨f,f2,e1,h1,h2,h3⟩,hv=>by
  obtain⟨q,r1,r2,k1,k2,k3,k4⟩:=OEs.nth_upd (i:=i) h3 (by simpa using hv)
  have eo:off+z+i*z=off+(i+1)*z:=by rw[Nat.succ_mul];omega
  rw[eo]at k2 k3 k4
  refine⟨q,f++r1,r2,by simp[e1,k1],k2,k3,fun c' e' f' hj hl ho=> ?_⟩
  have h0:=hj 0 (by simp) (by omega)
  simp only[Nat.zero_mul,Nat.add_zero]at h0
  refine⟨f,r1++f'++r2,by simp,by rw[h0];exact h1,by rw[h0];exact h2,k4 c' e' f' (fun j hlt hne=> ?_) hl ho⟩
  have:=hj (j+1) (by simpa using hlt) (by omega)
  rw[Nat.succ_mul]at this
  rw[show off+z+j*z=off+(j*z+z)by omega];exact this
theorem OCs.nth_upd{h:Hp}{ro:Nat→Prop}{d:Bool}:∀{l:List V} {rs fp} {i:Nat} {v:V},OCs h ro d l rs fp→l[i]? =some v→
 ∃r f r1 r2,rs[i]? =some r∧fp=r1++f++r2∧v.isAgg=false∧OEl h ro d v [r] f∧OCs h ro d (l.set i .undef) rs (r1++r2)
 | [],_,_,i,_,_,hv=>by simp at hv
 |v0::l,_,_,0,v,⟨r,q,f,f',e,e',ha,x,y⟩,hv=>by
  simp only[List.getElem?_cons_zero,Option.some.injEq]at hv
  subst hv
  exact⟨r,f,[],f',by rw[e];rfl,by simp[e'],ha,x,⟨r,q,[],f',e,by simp,rfl,⟨rfl,OEl.ones x⟩,y⟩⟩
 |v0::l,_,_,i+1,v,⟨r,q,f,f',e,e',ha,x,y⟩,hv=>by
  obtain⟨r0,f0,r1,r2,k1,k2,k3,k4,k5⟩:=OCs.nth_upd y (by simpa using hv)
  exact⟨r0,f0,f++r1,r2,by rw[e];simpa using k1,by simp[e',k2],k3,k4,⟨r,q,f,r1++r2,e,by simp,ha,x,k5⟩⟩
end
section
variable {P : Program} {C : FuncId → List V → List V → Prop} {E : Env} {fr : Fr} {S : St} {a : Act} {w w' : World} {g : Gh} {pool : List Nat} {rm rm' : Nat} {ws : List Wr}
variable {o : Oper} {K : Act → World → Prop} {Q : Exit → Act → World → Prop}
theorem row_leave(hs:Sim fr S a w g []){l:Lo}{d:Bool}{z:Nat}{es es':List V}{ver:Nat}(hat:S.at l=some (.sl z es,.own d,ver)){r:Value}(hr:realAt a.tmps w.heap g l=some r)
 {f1 f2:List Nat} (hsub:∀x∈f1,x∈g.fp l) (hsub2:∀x∈f2,x∈g.fp l) (hn1:f1.Nodup) (hn2:f2.Nodup) (hd:∀x∈f1,x∉f2) (ho:OEl w.heap g.ro d (.sl z es') [r] f1):
 ∃g',Sim fr ((valW l (.sl z es')).app S) a w g' f2∧Up g g':=by
 have hlr:LR w.heap {g with ro:=fun x=>g.ro x∨x∈[]} l (.own d) (.sl z es') r f1:=by
  have e:({g with ro:=fun x=>g.ro x∨x∈[]}:Gh)=g:=by simp
  rw[e]
  cases l with
  |s t=>exact ho
  |b b j=>exact⟨rfl,ho⟩
 obtain⟨g',p1,p2,p3,p4,p5⟩:=sim_at (w':=w) (fp:=f1) (fz:=[]) (pool':=f2) hs hat hr (locW_val hat (.sl z es')) (.inr ⟨rfl,fun q hq=>by simpa [zOf]using hq⟩) (Same.refl w) (Nat.le_refl _) (fun _ _ _ _=>rfl)
  (fun x hx=>.inr (hsub x hx)) hn1 (by simp) (fun x hx=>.inr (hsub2 x hx)) hn2 hd (by simp) (.inr hlr)
 exact⟨g',p5,⟨fun x hx=>(p1 x).2 (.inl hx),fun b β hb=>by rw[p2];exact hb⟩⟩
def gT(g:Gh):Gh:={g with ro:=fun _=>True}
theorem CV.pr_any{h:Hp}{g g':Gh}{v r fp}(x:CV h g .pr v r fp):CV h g' .pr v r fp:=x
theorem CsR.pr_any{h:Hp}{g g':Gh}:∀{cs:List (V×M)} {rs fp},(cs.all fun c=>match c.2 with| .pr=>true|_=>false)=true→CsR h g cs rs fp→CsR h g' cs rs fp
 | [],_,_,_,x=>x
 |(v,m)::q,_,_,hp,⟨r,rs',f,f',e,e',x,y⟩=>by
  simp only[List.all_cons,Bool.and_eq_true]at hp
  refine⟨r,rs',f,f',e,e',?_,CsR.pr_any hp.2 y⟩
  cases m<;>first|exact x|simp at hp
theorem readElO_ok(hE:EnvOK P E){t d}(ht:E.ty t=some d)(hd:d.agg=true){z off:Nat}{e:V}{k:Sl→Pg}(hp:PgR C S (readElO d z e off k) rm ws rm'){bl q:Nat}{c:Array Value}{ty fr'}
 (hb:w.heap[bl]? =some (.cells c ty fr')) (hl:(seg c q z).length=z) (x:REl w.heap (fun _=>True) e (seg c q z)):
 ∃s r rm1,PgR C S (k s) rm1 ws rm'∧(Instr.loadAt t (.pointer (some ⟨bl,q+off,none⟩))).run P w= .ok r w∧∀(S':St) (tm:Array Value),SlR S' tm w.heap g s r []:=by
 obtain⟨h1,cs,rfl,hcl,hp⟩:=hp
 simp only[Bool.and_eq_true,decide_eq_true_eq,beq_iff_eq]at h1
 obtain⟨hle,h1⟩:=h1
 have hsub:=RCs.sub (off:=off) (n:=d.size) (show RCs w.heap (fun _=>True) cs (seg c q z)from x)
 have hcs:CsR w.heap (gT g) (((cs.drop off).take d.size).map fun v=>(v,.ro)) (((seg c q z).drop off).take d.size) []:=RCs.csR (g:=gT g) rfl hsub
 dsimp only at hp
 have hlen:(((cs.drop off).take d.size).map fun v=>(v,M.ro)).length=d.size:=by simp;omega
 obtain⟨cs',rm1,hp,l1,l2,l3⟩:=normC_ok hp (by rw[h1,hlen])
 obtain⟨hb2,hp⟩:=hp
 simp only[Bool.and_eq_true,beq_iff_eq]at hb2
 have hs:=seg_sub (c:=c) (o:=q) hle
 have hln:(seg c (q+off) d.size).length=d.size:=by rw[hs,List.length_take,List.length_drop,hl];omega
 refine⟨_,_,_,hp,run_loadN hE ht hd hb hln,fun _ _=>⟨_,rfl,?_⟩⟩
 rw[hs]
 exact CsR.pr_any hb2.2 (l3 hcs).1
theorem readElP_ok(hE:EnvOK P E){t d}(ht:E.ty t=some d)(hd:d.agg=false){z off:Nat}{e:V}{k:Sl→Pg}(hp:PgR C S (readElP d z e off k) rm ws rm'){bl q:Nat}{c:Array Value}{ty fr'}
 (hb:w.heap[bl]? =some (.cells c ty fr')) (hl:(seg c q z).length=z) (x:REl w.heap (fun _=>True) e (seg c q z)):
 ∃s r rm1,PgR C S (k s) rm1 ws rm'∧(Instr.loadAt t (.pointer (some ⟨bl,q+off,none⟩))).run P w= .ok r w∧∀(S':St) (tm:Array Value),SlR S' tm w.heap g s r []:=by
 unfold readElP at hp
 have fin:∀{v:V} {r:Value} {rm1:Nat},PgR C S (prim d.under v .ro fun v m=>match m with| .pr=>k (.one v .pr)|_=>.fail) rm1 ws rm'→(v.isAgg=false→REl w.heap (fun _=>True) v [r])→(c[q+off]? =some r)→
  ∃s r rm1,PgR C S (k s) rm1 ws rm'∧(Instr.loadAt t (.pointer (some ⟨bl,q+off,none⟩))).run P w= .ok r w∧∀(S':St) (tm:Array Value),SlR S' tm w.heap g s r []:=by
  intro v r rm1 hp hv hr
  have ha:v.isAgg=false:=by
   cases v with
   |agg l=>
    exfalso
    unfold prim at hp
    cases hu:d.under<;>rw[hu]at hp<;>first
     |(obtain⟨_,_,e,_⟩:=hp;cases e;done)
     |(obtain⟨_,e,_⟩:=hp;cases e;done)
     |(have:=hp.1;simp[V.isCell]at this;done)
   |_=>rfl
  have y:OneR w.heap (gT g) v .ro r []:=CV.one (show CV w.heap (gT g) .ro v r []from⟨ha,hv ha,rfl⟩)
  obtain⟨v',m',rm2,hp1,hc,hcv⟩:=prim_ok hp
  have cv:=hcv y
  cases m' with
  |pr=>exact⟨_,_,_,hp1,run_load1 hE ht hd hb hr,fun _ _=>CV.one (CV.pr_any (g':=g) cv)⟩
  |_=>exact hp1.elim
 cases h2:(off==0&&z==1)with
 |true=>
  rw[h2]at hp
  simp only[Bool.and_eq_true,beq_iff_eq]at h2
  obtain⟨rfl,rfl⟩:=h2
  have:∃r,seg c q 1=[r]:=by
   cases hsg:seg c q 1 with
   |nil=>rw[hsg]at hl;simp at hl
   |cons r l=>rw[hsg]at hl;simp at hl;subst hl;exact⟨r,rfl⟩
  obtain⟨r,hr⟩:=this
  rw[hr]at x
  exact fin hp (fun _=>x) (seg_one hl hr)
 |false=>
  rw[h2]at hp
  obtain⟨cs,rfl,hcl,hp⟩:=hp
  dsimp only at hp
  split at hp
  ·rename_i v hv
   obtain⟨r,k1,k2,k3⟩:=RCs.nth (show RCs w.heap (fun _=>True) cs (seg c q z)from x) hv
   exact fin hp (fun _=>k3) (seg_get k1)
  ·exact hp.elim
theorem load_eref(hE:EnvOK P E){t d}(ht:E.ty t=some d){tk:Bool}{l:Lo}{ver i off:Nat}{k}(hp:PgR C S (loadP tk d (.eref l ver i off) k) rm ws rm')(hs:Sim fr S a w g []){r:Value}{fp}
 (hr:SlR S a.tmps w.heap g (.eref l ver i off) r fp):∃W s rm1 v,PgR C S (k W s) rm1 ws rm'∧(Instr.loadAt t r).run P w= .ok v w∧Read fr S a w W s v:=by
 simp only[loadP]at hp
 obtain⟨v,m,rm1,hat,z,es,rfl,e,he,hp⟩:=look_ok hp
 obtain⟨q,hreal,hlr,hver⟩:=hs.at hat
 obtain⟨_,_,h2⟩:=hr
 obtain⟨ad,len,cap,z',k1,k2,k3,rfl⟩:=h2 hver.symm
 rw[k1]at hreal
 injection hreal with hreal
 subst hreal
 have hz:z'=z:=by simpa [St.zAt,hat,zOf]using k3.symm
 subst hz
 have row:∀{d0:Bool},m= .own d0→∃c ty fp',ad.spot=none∧w.heap[ad.block]? =some (.cells c ty (0,0))∧len=es.length∧(len≤cap∧cap≤9223372036854775807)∧ad.off+cap*z'≤c.size∧g.fp l=ad.block::fp'∧(if d0 then OEs w.heap g.ro d0 es c ad.off z' fp' else(fp'=[]∧REs w.heap g.ro es c ad.off z')):=by
  intro d0 hm
  subst hm
  obtain⟨ad',len',cap',e1,e2,e3,y⟩:=(show OEl w.heap g.ro d0 (.sl z' es) [_] _ from(LR.one hlr))
  injection e1 with e1;injection e1 with e1 e1b e1c
  subst e1;subst e1b;subst e1c
  obtain⟨hsp,c,ty,hb,hbd,fp',hf,y⟩:=y
  exact⟨c,ty,fp',hsp,hb,e2,e3,hbd,hf,y⟩
 have ron:∀{rm2:Nat},m= .own false→PgR C S (readEl d z' e off fun s=>k [] s) rm2 ws rm'→∃W s rm1 v,PgR C S (k W s) rm1 ws rm'∧(Instr.loadAt t (.pointer (some ⟨ad.block,ad.off+i*z'+off,none⟩))).run P w= .ok v w∧Read fr S a w W s v:=by
  intro rm2 hm hp
  obtain⟨c,ty,fp',hsp,hb,e2,e3,hbd,hf,y⟩:=row hm
  simp only[Bool.false_eq_true,if_false]at y
  obtain⟨x1,x2⟩:=y.2.nth he
  obtain⟨s,q,rm3,hp,hrun,hsl⟩:=readEl_ok hE ht hp hb x1 x2
  exact⟨_,_,_,_,hp,hrun,Read.plain hs (hsl _ _)⟩
 dsimp only at hp
 split at hp
 ·obtain⟨c,ty,fp',hsp,hb,e2,e3,hbd,hf,y⟩:=row rfl
  simp only[if_true]at y
  obtain⟨f,r1,r2,y1,y2,y3,y4⟩:=OEs.nth_upd y he
  have yro:REl w.heap (fun _=>True) e (seg c (ad.off+i*z') z'):=OEl.toRO (fun _ _=>trivial) (fun _ _=>trivial) y3
  have hndl:=hs.nd l
  rw[hf]at hndl
  have hnd1:=List.nodup_cons.1 hndl
  have hnd2:=hnd1.2
  rw[y1]at hnd2
  have hnd3:=List.nodup_append.1 hnd2
  have hnd4:=List.nodup_append.1 hnd3.1
  have leave:∀{e':V} {f1 f2:List Nat},OEl w.heap g.ro true e' (seg c (ad.off+i*z') z') f1→(∀x∈f1,x∈f)→(∀x∈f2,x∈f)→f1.Nodup→f2.Nodup→(∀x∈f1,x∉f2)→
   ∃g',Sim fr (Wr.apps [valW l (.sl z' (es.set i e'))] S) a w g' f2∧Up g g':=by
   intro e' f1 f2 he' hs1 hs2 hn1 hn2 hdd
   have hrow:=y4 c e' f1 (fun _ _ _=>rfl) y2 he'
   have hmem:∀x,x∈f→x∈fp':=fun x hx=>by rw[y1];simp[hx]
   refine row_leave hs hat k1 (f1:=ad.block::(r1++f1++r2)) (f2:=f2) ?_ ?_ ?_ hn2 ?_ ?_
   ·intro x hx
    rw[hf,y1]
    simp only[List.mem_cons,List.mem_append]at hx ⊢
    rcases hx with hx|(hx|hx)|hx
    ·exact .inl hx
    ·exact .inr (.inl (.inl hx))
    ·exact .inr (.inl (.inr (hs1 x hx)))
    ·exact .inr (.inr hx)
   ·intro x hx;rw[hf];exact List.mem_cons_of_mem _ (hmem x (hs2 x hx))
   ·refine List.nodup_cons.2 ⟨fun c=>hnd1.1 (by
     rw[y1]
     simp only[List.mem_append]at c ⊢
     rcases c with(c|c)|c
     ·exact .inl (.inl c)
     ·exact .inl (.inr (hs1 _ c))
     ·exact .inr c),List.nodup_append.2 ⟨List.nodup_append.2 ⟨hnd4.1,hn1,fun x hx y hy e=>hnd4.2.2 x hx y (hs1 y hy) e⟩,hnd3.2.1,fun x hx y hy e=> ?_⟩⟩
    rcases List.mem_append.1 hx with hx|hx
    ·exact hnd3.2.2 x (List.mem_append.2 (.inl hx)) y hy e
    ·exact hnd3.2.2 x (List.mem_append.2 (.inr (hs1 x hx))) y hy e
   ·intro x hx hx2
    have hxf:=hs2 x hx2
    rcases List.mem_cons.1 hx with h|h
    ·subst h;exact hnd1.1 (hmem _ hxf)
    ·rcases List.mem_append.1 h with h|h
     ·rcases List.mem_append.1 h with h|h
      ·exact hnd4.2.2 x h x hxf rfl
      ·exact hdd x h hx2
     ·exact hnd3.2.2 x (List.mem_append.2 (.inr hxf)) x h rfl
   ·exact⟨some ad,len,cap,rfl,by rw[List.length_set];exact e2,e3,hsp,c,ty,hb,hbd,r1++f1++r2,rfl,by simpa using hrow⟩
  cases hd:d.agg with
  |true=>
   rw[hd]at hp
   simp only[cond_true]at hp
   cases htk:(d.deep||tk)with
   |true=>
    rw[htk]at hp
    obtain⟨h0,cs,rfl,hp⟩:=hp
    simp only[Bool.and_eq_true,beq_iff_eq]at h0
    obtain⟨rfl,h0⟩:=h0
    subst h0
    obtain⟨g',hs',up⟩:=leave (e':=.undef) (f1:=[]) (f2:=f) ⟨rfl,OEl.ones y3⟩ (by simp) (fun x hx=>hx) (by simp) hnd4.2.1 (by simp)
    refine⟨_,_,_,_,hp,run_loadN hE ht hd hb y2,g',f,f,hs',?_,fun x hx=>hx,hnd4.2.1⟩
    have y5:OEl w.heap g'.ro true (.agg cs) (seg c (ad.off+i*d.size) d.size) f:=OEl.mono up.ro (fun _ _=>rfl) (fun _ _=>rfl) y3
    exact RW.one (show RW w.heap g'.ro (.own true) (.agg cs) (.agg (seg c (ad.off+i*d.size) d.size).toArray) f from⟨_,rfl,y5⟩)
   |false=>
    rw[htk]at hp
    obtain⟨s,q,rm3,hp,hrun,hsl⟩:=readElO_ok (g:=g) hE ht hd hp hb y2 yro
    exact⟨_,_,_,_,hp,hrun,Read.plain hs (hsl _ _)⟩
  |false=>
   rw[hd]at hp
   simp only[cond_false]at hp
   split at hp
   ·obtain⟨_,hp⟩:=hp
    cases hz1:(off==0&&z'==1)with
    |true=>
     rw[hz1]at hp
     simp only[Bool.and_eq_true,beq_iff_eq]at hz1
     obtain⟨rfl,rfl⟩:=hz1
     obtain⟨z2,es2,rfl,hp⟩:=hp
     obtain⟨g',hs',up⟩:=leave (e':=.undef) (f1:=[]) (f2:=f) ⟨rfl,OEl.ones y3⟩ (by simp) (fun x hx=>hx) (by simp) hnd4.2.1 (by simp)
     have:∃r,seg c (ad.off+i*1) 1=[r]:=by
      cases hsg:seg c (ad.off+i*1) 1 with
      |nil=>rw[hsg]at y2;simp at y2
      |cons r l=>rw[hsg]at y2;simp at y2;subst y2;exact⟨r,rfl⟩
     obtain⟨r,hr⟩:=this
     have y5:OEl w.heap g'.ro true (.sl z2 es2) [r] f:=by rw[←hr];exact OEl.mono up.ro (fun _ _=>rfl) (fun _ _=>rfl) y3
     refine⟨_,_,_,_,hp,run_load1 hE ht hd hb (seg_one y2 hr),g',f,f,hs',?_,fun x hx=>hx,hnd4.2.1⟩
     exact CV.one (show CV w.heap g' (.own true) (.sl z2 es2) r f from⟨rfl,y5⟩)
    |false=>
     rw[hz1]at hp
     obtain⟨cs,rfl,hcl,hp⟩:=hp
     dsimp only at hp
     split at hp
     ·rename_i v hv
      obtain⟨r,f0,q1,q2,u1,u2,u3,u4,u5⟩:=OCs.nth_upd (show OCs w.heap g.ro true cs (seg c (ad.off+i*z') z') f from y3) hv
      have hndf:=hnd4.2.1
      rw[u2]at hndf
      have n1:=List.nodup_append.1 hndf
      have n2:=List.nodup_append.1 n1.1
      obtain⟨g',hs',up⟩:=leave (e':=.agg (cs.set off .undef)) (f1:=q1++q2) (f2:=f0) u5
       (fun x hx=>by rw[u2];rcases List.mem_append.1 hx with h|h<;>simp[h]) (fun x hx=>by rw[u2];simp[hx])
       (List.nodup_append.2 ⟨n2.1,n1.2.1,fun x hx y hy e=>n1.2.2 x (List.mem_append.2 (.inl hx)) y hy e⟩) n2.2.1
       (fun x hx hx2=>by
         rcases List.mem_append.1 hx with h|h
         ·exact n2.2.2 x h x hx2 rfl
         ·exact n1.2.2 x (List.mem_append.2 (.inr hx2)) x h rfl)
      refine⟨_,_,_,_,hp,run_load1 hE ht hd hb (seg_get u1),g',f0,f0,hs',?_,fun x hx=>hx,n2.2.1⟩
      exact CV.one (show CV w.heap g' (.own true) v r f0 from⟨u3,OEl.mono up.ro (fun _ _=>rfl) (fun _ _=>rfl) u4⟩)
     ·exact hp.elim
   ·obtain⟨s,q,rm3,hp,hrun,hsl⟩:=readElP_ok (g:=g) hE ht hd hp hb y2 yro
    exact⟨_,_,_,_,hp,hrun,Read.plain hs (hsl _ _)⟩
 ·exact ron rfl hp
 ·exact hp.elim
def HdR(S:St)(b:Nat):Nat→List (Lo×Nat)→Prop
 |_,[]=>True
 |off,p::ps=>(∃cs c,S.bx b=some cs∧cs[off]? =some c∧p=(.b b off,c.ver))∧HdR S b (off+1) ps
theorem hdrs_ok{b:Nat}:∀{n off:Nat} {k} {rm:Nat},PgR C S (hdrs b off n k) rm ws rm'→∃ps rm1,PgR C S (k ps) rm1 ws rm'∧ps.length=n∧HdR S b off ps
 |0,off,k,rm,hp=>⟨[],_,hp,rfl,trivial⟩
 |n+1,off,k,rm,hp=>by
  have hp:PgR C S (match S.hb b off with
   |some (_,ver)=>hdrs b (off+1) n fun ps=>k ((.b b off,ver)::ps)
   |none=>.fail) _ ws rm':=hp
  rw[hb_eq]at hp
  cases hb:S.bx b with
  |none=>rw[hb]at hp;exact hp.elim
  |some cs=>
   rw[hb]at hp
   simp only[Option.bind_some]at hp
   cases hc:cs[off]? with
   |none=>rw[hc]at hp;exact hp.elim
   |some c=>
    rw[hc]at hp
    obtain⟨ps,rm1,h1,h2,h3⟩:=hdrs_ok hp
    exact⟨_,rm1,h1,by rw[List.length_cons,h2],⟨cs,c,hb,hc,rfl⟩,h3⟩
theorem HdR.arR(hs:Sim fr S a w g []){b β:Nat}{cc:Array Value}{ty}(hβ:g.bb b=some β)(hw:w.heap[β]? =some (.cells cc ty (0,0))){cs:Bx}(hb:S.bx b=some cs)(hcl:cc.size=cs.length):∀{ps:List (Lo×Nat)} {off:Nat},HdR S b off ps→ArR S a.tmps w.heap g ps (seg cc off ps.length)∧(seg cc off ps.length).length=ps.length
 | [],off,_=>⟨by simp[ArR,seg],by simp[seg]⟩
 |p::ps,off,⟨⟨cs',c,h1,h2,h3⟩,h4⟩=>by
  rw[hb]at h1;cases h1
  subst h3
  have hlt:off<cc.size:=by rw[hcl];exact(List.getElem?_eq_some_iff.1 h2).1
  have es:seg cc off (ps.length+1)=cc[off]::seg cc (off+1) ps.length:=by
   unfold seg
   rw[←List.getElem_cons_drop (by simpa using hlt),List.take_succ_cons]
   simp
  obtain⟨i1,i2⟩:=HdR.arR hs hβ hw hb hcl h4
  rw[List.length_cons,es]
  refine⟨⟨_,_,rfl,?_,fun _=> ?_,i1⟩,by rw[List.length_cons,i2]⟩
  ·simp[St.verAt,hb,h2]
  ·simp only[realAt,hβ,hw];exact Array.getElem?_eq_getElem hlt
theorem op_load(hE:EnvOK P E){rid i t x}(ho:o.op= .load t x)(hp:PgR C S (opPg E rid i o) rm ws rm')(hs:Sim fr S a w g [])
 (hK:∀a' w',SimX fr (Wr.apps ws S) a' w'→K a' w'):o.wp P a w K Q:=by
 simp only[opPg,ho]at hp
 split at hp
 ·rename_i d ht
  cases hv5:Nat.beq (E.vari rid i) 5 with
  |true=>
   rw[hv5]at hp
   simp only[cond_true]at hp
   obtain⟨s,rm1,fp,hp,hr,hwhy⟩:=evO_ok hp hs
   split at hp
   ·rename_i b off m
    obtain⟨hd,hp⟩:=hp
    simp only[Bool.and_eq_true,Bool.not_eq_true',beq_eq_false_iff_ne,ne_eq]at hd
    obtain⟨hd,hd0⟩:=hd
    obtain⟨rfl,hf,β,hβ,er⟩:=ptr_pt hr
    obtain⟨ps,rm2,hp,hl,hH⟩:=hdrs_ok hp
    obtain⟨e,_⟩:=hp
    obtain⟨cs,hb⟩:∃cs,S.bx b=some cs:=by
     cases ps with
     |nil=>exact absurd hl.symm hd0
     |cons p ps=>obtain⟨⟨cs,_,h1,_⟩,_⟩:=hH;exact⟨cs,h1⟩
    obtain⟨β',cc,ty,q1,q2,q3,q4⟩:=hs.boxes b cs hb
    rw[hβ]at q1;cases q1
    obtain⟨i1,i2⟩:=HdR.arR hs hβ q2 hb q3 hH
    rw[hl]at i1 i2
    have hrun:=run_loadN (w:=w) hE ht hd q2 i2
    subst e
    refine wp_val (r:=.agg (seg cc off d.size).toArray) (by simp only[execOp,ho];rw[Sem.run_bind,er,hrun];rfl) ?_ hK
    exact done_sl hs (s:=.aref ps) ⟨rfl,_,rfl,by simpa using i1⟩
   ·exact hp.elim
  |false=>
  rw[hv5]at hp
  simp only[cond_false]at hp
  obtain⟨s,rm1,fp,hp,hr,hwhy⟩:=evO_ok hp hs
  clear hwhy
  have fin:∀{W s v},ws=W++wDst o.dst s→(Instr.loadAt t (a.eval x)).run P w= .ok v w→Read fr S a w W s v→o.wp P a w K Q:=by
   intro W s v e hrun hR
   subst e
   exact wp_val (by simp only[execOp,ho];rw[Sem.run_bind,hrun];rfl) hR.done hK
  split at hp
  ·rename_i b off n j
   have hp':PgR C S (match S.bx b with
    |some cs=>.chk (decide (off+n≤cs.length)&& !d.agg&&((cs.drop off).take n).all (fun c=>match c.m with| .pr=>true|_=>false)) (.nth (((cs.drop off).take n).map (·.v)) j fun v=>.ret ([]++wDst o.dst (.one v .pr)))
    |none=>.fail) _ ws rm':=hp
   cases hb:S.bx b with
   |none=>rw[hb]at hp';exact hp'.elim
   |some cs=>
    rw[hb]at hp'
    obtain⟨hc,v,hv,e,_⟩:=hp'
    obtain⟨q,hrun,hq⟩:=load_aptr hE ht hs hr hb hc hv
    exact fin e hrun (Read.plain hs hq)
  ·cases s with
   |one v m=>
    cases v with
    |ptr b off=>
     obtain⟨W,s',rm2,v,hp,hrun,hR⟩:=load_ptr hE ht hp hs hr
     obtain⟨e,_⟩:=hp
     exact fin e hrun hR
    |_=>exact hp.elim
   |rptr z e off=>
    obtain⟨_,bl,q,c,ty,fr',e1,h1,h2,h3,h4⟩:=hr
    obtain⟨s',r,rm2,hp,hrun,hsl⟩:=readEl_ok hE ht (show PgR C S (readEl d z e off fun s=>.ret ([]++wDst o.dst s)) _ ws rm' from hp) h2 h3 h4
    obtain⟨e,_⟩:=hp
    exact fin e (by rw[e1];exact hrun) (Read.plain hs (hsl _ _))
   |eref l ver j off=>
    obtain⟨W,s',rm2,v,hp,hrun,hR⟩:=load_eref hE ht hp hs hr
    obtain⟨e,_⟩:=hp
    exact fin e hrun hR
   |_=>exact hp.elim
 ·exact hp.elim
end
section
variable {P : Program} {C : FuncId → List V → List V → Prop} {E : Env} {fr : Fr} {S : St} {a : Act} {w w' : World} {g : Gh} {pool : List Nat} {rm rm' : Nat} {ws : List Wr}
variable {o : Oper} {K : Act → World → Prop} {Q : Exit → Act → World → Prop}
theorem setCells_len:∀{cs:List (V×M)} {old:Bx} {off:Nat},(setCells old off cs).length=old.length
 | [],_,_=>rfl
 |(v,m)::r,old,off=>by
  simp only[setCells]
  rw[setCells_len]
  split<;>simp
def upd1(old:Bx)(off:Nat)(v:V)(m:M):Bx:=match old[off]? with|some c=>old.set off ⟨v,m,c.ver+1,c.fix⟩|none=>old
theorem upd1_get{old:Bx}{off:Nat}{v:V}{m:M}{i:Nat}:(upd1 old off v m)[i]? =if i=off then old[off]?.map (fun c=>⟨v,m,c.ver+1,c.fix⟩)else old[i]? :=by
 unfold upd1
 cases h:old[off]? with
 |none=>by_cases e:i=off
        ·subst e;simp[h]
        ·simp[e]
 |some c=>
  have hl:off<old.length:=(List.getElem?_eq_some_iff.1 h).1
  simp only
  rw[set_get hl]
  by_cases e:i=off
  ·subst e;simp
  ·simp[e]
theorem setCells_get:∀{cs:List (V×M)} {old:Bx} {off j:Nat},(setCells old off cs)[j]? =if off≤j∧j<off+cs.length then old[j]?.map (fun c=>⟨(cs.getD (j-off) (.undef,.pr)).1,(cs.getD (j-off) (.undef,.pr)).2,c.ver+1,c.fix⟩)else old[j]?
 | [],old,off,j=>by simp only[setCells,List.length_nil,Nat.add_zero];rw[if_neg (by omega)]
 |(v,m)::r,old,off,j=>by
  show(setCells (upd1 old off v m) (off+1) r)[j]? =_
  simp only[List.length_cons]
  rw[setCells_get,upd1_get]
  by_cases e:j=off
  ·subst e
   rw[if_neg (by omega),if_pos rfl,if_pos (by omega)]
   simp
  ·rw[if_neg e]
   by_cases h1:off+1≤j∧j<off+1+r.length
   ·rw[if_pos h1,if_pos (by omega)]
    have:j-off=(j-(off+1))+1:=by omega
    rw[this];simp
   ·rw[if_neg h1,if_neg (by omega)]
theorem apps_bx_same{W:List Wr}{b:Nat}(hW:∀u∈W,(∃l,u.lo=some l)∧u.spot≠(1,b)):∀{S:St},(Wr.apps W S).bx b=S.bx b:=by
 induction W with
 |nil=>intro S;rfl
 |cons u W ih=>
  intro S
  obtain⟨⟨l,hl⟩,hs⟩:=hW u (List.mem_cons_self ..)
  refine(ih (fun u hu=>hW u (List.mem_cons_of_mem _ hu)) (S:=u.app S)).trans ?_
  cases u with
  |slot t s=>rfl
  |keep t s=>rfl
  |val t s=>rfl
  |box b' x=>cases hl
  |cval b' j v=>exact getD_set_ne' (fun e=>hs (by simp[Wr.spot,e]))
  |cell b' j c=>exact getD_set_ne' (fun e=>hs (by simp[Wr.spot,e]))
theorem run_storeAt(hE:EnvOK P E){t d}(ht:E.ty t=some d){bl off:Nat}{c:Array Value}{ty}{v:Value}(hb:w.heap[bl]? =some (.cells c ty (0,0)))(hsz:v.cells.size=d.size)(hle:off+d.size≤c.size)(h1:∀r∈v.cells,r.oneCell'=true):
 (Instr.storeAt t (.pointer (some ⟨bl,off,none⟩)) v).run P w= .ok () (w.setRow bl (c.toList.take off++v.cells.toList++c.toList.drop (off+d.size)).toArray):=by
 have:=run_storeCells_at (P:=P) bl off ty v.cells.toList 0 c w hb (by simpa [hsz]using hle) (fun r hr=>h1 r (by simpa using hr))
 simp only[Nat.add_zero,Array.length_toList,hsz]at this
 simp only[Instr.storeAt,Instr.sureAddr,pure_bind,storeVar,Sem.run_bind,sizeOf_run hE ht,Result.andThen_ok,hsz,ne_eq,not_true_eq_false,if_false,Sem.run_pure,this]
theorem setRow_other{x bl:Nat}{c:Array Value}(h:x≠bl):(w.setRow bl c).heap[x]? =w.heap[x]? :=by
 simp only[World.setRow,Array.getElem?_modify]
 rw[if_neg (fun e=>h e.symm)]
theorem setRow_size{bl:Nat}{c:Array Value}:(w.setRow bl c).heap.size=w.heap.size:=by simp[World.setRow]
theorem store_ptr{b off β:Nat}{old:Bx}{cs:List (V×M)}{rs fp:List Value×List Nat}{c:Array Value}{ty}(hs:Sim fr S a w g pool)(hb:S.bx b=some old)(hβ:g.bb b=some β)(hw:w.heap[β]? =some (.cells c ty (0,0)))
 (hle:off+cs.length≤old.length) (hfix:((old.drop off).take cs.length).all (fun c=> !c.fix)=true) (hc:CsR w.heap g cs rs.1 pool) (hcl:c.size=old.length):
 SimX fr (S.setB b (some (setCells old off cs))) a (w.setRow β (c.toList.take off++rs.1++c.toList.drop (off+cs.length)).toArray):=by
 obtain⟨β',c',ty',q1,q2,q3,q4⟩:=hs.boxes b old hb
 rw[hβ]at q1;cases q1
 rw[hw]at q2;cases q2
 obtain⟨fb,k1,k2,k3,k4⟩:=hc.split hs.plnd
 have hrl:=hc.len
 let c2:Array Value:=(c.toList.take off++rs.1++c.toList.drop (off+cs.length)).toArray
 have hget:∀j,c2[j]? =if off≤j∧j<off+cs.length then rs.1[j-off]? else c[j]? :=fun j=>by
  have l1:(c.toList.take off).length=off:=by rw[List.length_take];simp;omega
  show(c.toList.take off++rs.1++c.toList.drop (off+cs.length)).toArray[j]? =_
  rw[List.getElem?_toArray,List.append_assoc]
  by_cases h1:j<off
  ·rw[List.getElem?_append_left (by rw[l1];exact h1),if_neg (by omega),List.getElem?_take,if_pos h1];simp
  ·rw[List.getElem?_append_right (by rw[l1];omega),l1]
   by_cases h2:j<off+cs.length
   ·rw[List.getElem?_append_left (by rw[hrl];omega),if_pos ⟨by omega,h2⟩]
   ·rw[List.getElem?_append_right (by rw[hrl];omega),hrl,if_neg (by omega),List.getElem?_drop]
    simp only[Array.getElem?_toList]
    congr 1;omega
 have hne:∀x,g.ow x≠ .box b→x≠β:=fun x h e=>h (e▸hs.ownB b β hβ)
 have hh:∀x,x≠β→(w.setRow β c2).heap[x]? =w.heap[x]? :=fun x h=>setRow_other h
 have inpool:∀x∈pool,x≠β:=fun x hx=>hne x (by rw[hs.pl x hx];exact fun c=>Ow.noConfusion c)
 have infp:∀l,∀x∈g.fp l,x≠β:=fun l x hx=>hne x (by rw[hs.own _ x hx];exact fun c=>Ow.noConfusion c)
 have inro:∀x,g.ro x→x≠β:=fun x hx e=>(hs.free β (ow_ne_box (hs.ownB b β hβ))).1 (e▸hx)
 obtain⟨g',p1,p2,_,_,p5⟩:=sim_box (w':=w.setRow β c2) (cs':=setCells old off cs) (c':=c2) (ty:=ty) (fpb:=fun j=>if off≤j∧j<off+cs.length then fb (j-off)else g.fp (.b b j)) (fz:=[]) (pool':=[]) hs hb hβ ⟨rfl,rfl,rfl⟩ (by rw[setRow_size];exact Nat.le_refl _)
  (setRow_heap w β c c2 ty (0,0) hw) (by rw[setCells_len,←hcl];simp[c2,hrl];omega) (fun x _ hx _ _=>hh x hx) setCells_len
  (fun j x x' hx hx'=>by
    rw[setCells_get]at hx'
    split at hx'
    ·rw[hx]at hx';simp only[Option.map_some,Option.some.injEq]at hx'
     subst hx'
     exact⟨Nat.le_succ _,fun he=>by simp only at he;omega⟩
    ·rename_i hj
     rw[hx]at hx';cases hx'
     exact⟨Nat.le_refl _,fun _=>⟨by rw[hget,if_neg hj];simp only[realAt,hβ,hw],fun z hz=>hz⟩⟩)
  (fun j x' hx' hf=>by
    rw[setCells_get]at hx'
    split at hx'
    ·rename_i hj
     cases hx:old[j]? with
     |none=>simp[hx]at hx'
     |some x=>
      simp only[hx,Option.map_some,Option.some.injEq]at hx'
      subst hx'
      have:=List.all_eq_true.1 hfix x (List.mem_of_getElem? (i:=j-off) (by rw[List.getElem?_take,if_pos (by omega),List.getElem?_drop,show off+(j-off)=j by omega];exact hx))
      simp only at hf
      rw[hf]at this;simp at this
    ·rename_i hj
     obtain⟨r,e1,_,e3⟩:=q4 j x' hx'
     rw[hget,if_neg hj,e1,e3 hf])
  (fun j x' hx'=>by
    rw[setCells_get]at hx'
    split at hx'
    ·rename_i hj
     cases hx:old[j]? with
     |none=>simp[hx]at hx'
     |some x=>
      simp only[hx,Option.map_some,Option.some.injEq]at hx'
      subst hx'
      have hlt:j-off<cs.length:=by omega
      obtain⟨r,e1,e2⟩:=k1 (j-off) cs[j-off].1 cs[j-off].2 (List.getElem?_eq_getElem hlt)
      refine⟨r,by rw[hget,if_pos hj];exact e1,?_⟩
      simp only[hj,and_self,if_true,List.getD_eq_getElem?_getD,List.getElem?_eq_getElem hlt,Option.getD_some]
      exact e2.mono (g':={g with ro:=fun x=>g.ro x∨x∈[]}) (fun _ h=>Or.inl h) (fun _ _ h=>h) (fun x hx=>hh x (inro x hx)) (fun x hx=>hh x (inpool x (k2 _ x hx)))
    ·rename_i hj
     obtain⟨r,e1,e2,_⟩:=q4 j x' hx'
     refine⟨r,by rw[hget,if_neg hj];exact e1,?_⟩
     simp only[hj,if_false]
     exact e2.mono (g':={g with ro:=fun x=>g.ro x∨x∈[]}) (fun _ h=>Or.inl h) (fun _ _ h=>h) (fun x hx=>hh x (inro x hx)) (fun x hx=>hh x (infp _ x hx)))
  (fun j x hx=>by split at hx
                  ·exact .inl (k2 _ x hx)
                  ·exact .inr ⟨j,hx⟩)
  (fun j=>by split
             ·exact k3 _
             ·exact hs.nd _)
  (fun i j x hx hx'=>by
    split at hx<;>split at hx'
    ·have:=k4 _ _ x hx hx';omega
    ·exact absurd (k2 _ x hx) (fp_pool hs x hx')
    ·exact absurd (k2 _ x hx') (fp_pool hs x hx)
    ·exact hs.box_fp i j x hx hx')
  (by simp) (by simp) (by simp) (by simp) (by simp)
 exact⟨g',p5⟩
def aput(old:Bx)(off n i:Nat)(v:V):Bx:=old.take off++(((old.drop off).take n).zipIdx.map fun(c,j)=>{c with v:=bif j==i then v else c.v,ver:=c.ver+1})++old.drop (off+n)
theorem aput_get{old:Bx}{off n i:Nat}{v:V}(h:off+n≤old.length)(j:Nat):(aput old off n i v)[j]? =if off≤j∧j<off+n then old[j]?.map (fun c=>{c with v:=bif j-off==i then v else c.v,ver:=c.ver+1})else old[j]? :=by
 unfold aput
 have l1:(old.take off).length=off:=by rw[List.length_take];omega
 have l2:(((old.drop off).take n).zipIdx.map fun(c,j)=>({c with v:=bif j==i then v else c.v,ver:=c.ver+1}:Cell)).length=n:=by rw[List.length_map,List.length_zipIdx,List.length_take,List.length_drop];omega
 rw[List.append_assoc]
 by_cases h1:j<off
 ·rw[List.getElem?_append_left (by rw[l1];exact h1),if_neg (by omega),List.getElem?_take,if_pos h1]
 ·rw[List.getElem?_append_right (by rw[l1];omega),l1]
  by_cases h2:j<off+n
  ·rw[List.getElem?_append_left (by rw[l2];omega),if_pos ⟨by omega,h2⟩,List.getElem?_map,List.getElem?_zipIdx,List.getElem?_take,if_pos (by omega),List.getElem?_drop,show off+(j-off)=j by omega]
   simp only[Option.map_map,Nat.zero_add]
   rfl
  ·rw[List.getElem?_append_right (by rw[l2];omega),l2,if_neg (by omega),List.getElem?_drop]
   congr 1;omega
theorem aput_len{old:Bx}{off n i:Nat}{v:V}(h:off+n≤old.length):(aput old off n i v).length=old.length:=by
 simp only[aput,List.length_append,List.length_take,List.length_map,List.length_zipIdx,List.length_drop];omega
theorem store_aptr{b off n i β:Nat}{old:Bx}{v:V}{r:Value}{c:Array Value}{ty}(hs:Sim fr S a w g pool)(hb:S.bx b=some old)(hβ:g.bb b=some β)(hw:w.heap[β]? =some (.cells c ty (0,0)))
 (hle:off+n≤old.length) (hi:i<n) (hall:((old.drop off).take n).all (fun c=> !c.fix&&(match c.m with| .pr=>true|_=>false))=true) (hc:CV w.heap g .pr v r []) (hcl:c.size=old.length):
 SimX fr (S.setB b (some (aput old off n i v))) a (w.setRow β (c.toList.take (off+i)++[r]++c.toList.drop (off+i+1)).toArray):=by
 obtain⟨β',c',ty',q1,q2,q3,q4⟩:=hs.boxes b old hb
 rw[hβ]at q1;cases q1
 rw[hw]at q2;cases q2
 let c2:Array Value:=(c.toList.take (off+i)++[r]++c.toList.drop (off+i+1)).toArray
 have hget:∀j,c2[j]? =if j=off+i then some r else c[j]? :=fun j=>by
  have l1:(c.toList.take (off+i)).length=off+i:=by rw[List.length_take];simp;omega
  show(c.toList.take (off+i)++[r]++c.toList.drop (off+i+1)).toArray[j]? =_
  rw[List.getElem?_toArray,List.append_assoc]
  by_cases h1:j<off+i
  ·rw[List.getElem?_append_left (by rw[l1];exact h1),if_neg (by omega),List.getElem?_take,if_pos h1];simp
  ·rw[List.getElem?_append_right (by rw[l1];omega),l1]
   by_cases h2:j=off+i
   ·rw[if_pos h2,h2];simp
   ·rw[List.getElem?_append_right (by simp;omega),if_neg h2,List.getElem?_drop]
    simp only[List.length_singleton,Array.getElem?_toList]
    congr 1;omega
 have cell:∀j x,off≤j→j<off+n→old[j]? =some x→x.fix=false∧x.m= .pr:=fun j x h1 h2 hx=>by
  have:=List.all_eq_true.1 hall x (List.mem_of_getElem? (i:=j-off) (by rw[List.getElem?_take,if_pos (by omega),List.getElem?_drop,show off+(j-off)=j by omega];exact hx))
  simp only[Bool.and_eq_true,Bool.not_eq_true']at this
  refine⟨this.1,?_⟩
  cases h:x.m<;>first|rfl|(rw[h]at this;simp at this)
 have hne:∀x,g.ow x≠ .box b→x≠β:=fun x h e=>h (e▸hs.ownB b β hβ)
 have hh:∀x,x≠β→(w.setRow β c2).heap[x]? =w.heap[x]? :=fun x h=>setRow_other h
 have infp:∀l,∀x∈g.fp l,x≠β:=fun l x hx=>hne x (by rw[hs.own _ x hx];exact fun c=>Ow.noConfusion c)
 have inro:∀x,g.ro x→x≠β:=fun x hx e=>(hs.free β (ow_ne_box (hs.ownB b β hβ))).1 (e▸hx)
 obtain⟨g',p1,p2,_,_,p5⟩:=sim_box (w':=w.setRow β c2) (cs':=aput old off n i v) (c':=c2) (ty:=ty) (fpb:=fun j=>g.fp (.b b j)) (fz:=[]) (pool':=[]) hs hb hβ ⟨rfl,rfl,rfl⟩ (by rw[setRow_size];exact Nat.le_refl _)
  (setRow_heap w β c c2 ty (0,0) hw) (by rw[aput_len hle,←hcl];simp[c2];omega) (fun x _ hx _ _=>hh x hx) (aput_len hle)
  (fun j x x' hx hx'=>by
    rw[aput_get hle]at hx'
    split at hx'
    ·rw[hx]at hx';simp only[Option.map_some,Option.some.injEq]at hx'
     subst hx'
     exact⟨Nat.le_succ _,fun he=>by simp only at he;omega⟩
    ·rename_i hj
     rw[hx]at hx';cases hx'
     exact⟨Nat.le_refl _,fun _=>⟨by rw[hget,if_neg (by omega)];simp only[realAt,hβ,hw],fun z hz=>hz⟩⟩)
  (fun j x' hx' hf=>by
    rw[aput_get hle]at hx'
    split at hx'
    ·rename_i hj
     cases hx:old[j]? with
     |none=>simp[hx]at hx'
     |some x=>
      simp only[hx,Option.map_some,Option.some.injEq]at hx'
      subst hx'
      rw[(cell j x hj.1 hj.2 hx).1]at hf;cases hf
    ·rename_i hj
     obtain⟨r,e1,_,e3⟩:=q4 j x' hx'
     rw[hget,if_neg (by omega),e1,e3 hf])
  (fun j x' hx'=>by
    rw[aput_get hle]at hx'
    split at hx'
    ·rename_i hj
     cases hx:old[j]? with
     |none=>simp[hx]at hx'
     |some x=>
      simp only[hx,Option.map_some,Option.some.injEq]at hx'
      subst hx'
      obtain⟨r0,e1,e2,_⟩:=q4 j x hx
      have hm:=(cell j x hj.1 hj.2 hx).2
      have hf0:g.fp (.b b j)=[]:=OneR.fp_nil (by rw[hm];rfl) (CV.one e2)
      by_cases e:j=off+i
      ·refine⟨r,by rw[hget,if_pos e],?_⟩
       have:(j-off==i)=true:=by simp;omega
       simp only[this,cond_true,hm,hf0]
       exact hc.mono (g':={g with ro:=fun x=>g.ro x∨x∈[]}) (fun _ h=>Or.inl h) (fun _ _ h=>h) (fun x hx=>hh x (inro x hx)) (by simp)
      ·refine⟨r0,by rw[hget,if_neg e];exact e1,?_⟩
       have:(j-off==i)=false:=by simp;omega
       simp only[this,cond_false]
       exact e2.mono (g':={g with ro:=fun x=>g.ro x∨x∈[]}) (fun _ h=>Or.inl h) (fun _ _ h=>h) (fun x hx=>hh x (inro x hx)) (fun x hx=>hh x (infp _ x hx))
    ·rename_i hj
     obtain⟨r0,e1,e2,_⟩:=q4 j x' hx'
     refine⟨r0,by rw[hget,if_neg (by omega)];exact e1,?_⟩
     exact e2.mono (g':={g with ro:=fun x=>g.ro x∨x∈[]}) (fun _ h=>Or.inl h) (fun _ _ h=>h) (fun x hx=>hh x (inro x hx)) (fun x hx=>hh x (infp _ x hx)))
  (fun j x hx=>.inr ⟨j,hx⟩) (fun j=>hs.nd _) (fun i j x hx hx'=>hs.box_fp i j x hx hx')
  (by simp) (by simp) (by simp) (by simp) (by simp)
 exact⟨g',p5⟩
end
section
variable {P : Program} {C : FuncId → List V → List V → Prop} {E : Env} {fr : Fr} {S : St} {a : Act} {w w' : World} {g : Gh} {pool : List Nat} {rm rm' : Nat} {ws : List Wr}
variable {o : Oper} {K : Act → World → Prop} {Q : Exit → Act → World → Prop}
def splice(c:Array Value)(p:Nat)(rs:List Value):Array Value:=(c.toList.take p++rs++c.toList.drop (p+rs.length)).toArray
theorem splice_get{c:Array Value}{p:Nat}{rs:List Value}(h:p+rs.length≤c.size)(j:Nat):(splice c p rs)[j]? =if p≤j∧j<p+rs.length then rs[j-p]? else c[j]? :=by
 have l1:(c.toList.take p).length=p:=by rw[List.length_take];simp;omega
 unfold splice
 rw[List.getElem?_toArray,List.append_assoc]
 by_cases h1:j<p
 ·rw[List.getElem?_append_left (by rw[l1];exact h1),if_neg (by omega),List.getElem?_take,if_pos h1];simp
 ·rw[List.getElem?_append_right (by rw[l1];omega),l1]
  by_cases h2:j<p+rs.length
  ·rw[List.getElem?_append_left (by omega),if_pos ⟨by omega,h2⟩]
  ·rw[List.getElem?_append_right (by omega),if_neg (by omega),List.getElem?_drop]
   simp only[Array.getElem?_toList]
   congr 1;omega
theorem splice_size{c:Array Value}{p:Nat}{rs:List Value}(h:p+rs.length≤c.size):(splice c p rs).size=c.size:=by
 simp[splice];omega
theorem seg_getElem{c:Array Value}{o z k:Nat}:(seg c o z)[k]? =if k<z then c[o+k]? else none:=by
 unfold seg
 rw[List.getElem?_take]
 split<;>simp[List.getElem?_drop]
theorem splice_far{c:Array Value}{p o z:Nat}{rs:List Value}(h:p+rs.length≤c.size)(hd:o+z≤p∨p+rs.length≤o):seg (splice c p rs) o z=seg c o z:=by
 apply List.ext_getElem?
 intro k
 rw[seg_getElem,seg_getElem]
 split
 ·rw[splice_get h,if_neg (by omega)]
 ·rfl
theorem splice_in{c:Array Value}{o z off:Nat}{rs:List Value}(h:o+z≤c.size)(hd:off+rs.length≤z):seg (splice c (o+off) rs) o z=(seg c o z).take off++rs++(seg c o z).drop (off+rs.length):=by
 have hl:(seg c o z).length=z:=by unfold seg;rw[List.length_take,List.length_drop];simp;omega
 apply List.ext_getElem?
 intro k
 have l1:((seg c o z).take off).length=off:=by rw[List.length_take,hl];omega
 rw[seg_getElem,List.append_assoc]
 by_cases hk:k<z
 ·rw[if_pos hk,splice_get (by omega)]
  by_cases h1:k<off
  ·rw[if_neg (by omega),List.getElem?_append_left (by rw[l1];exact h1),List.getElem?_take,if_pos h1,seg_getElem,if_pos hk]
  ·rw[List.getElem?_append_right (by rw[l1];omega),l1]
   by_cases h2:k<off+rs.length
   ·rw[if_pos (by omega),List.getElem?_append_left (by omega)];congr 1;omega
   ·rw[if_neg (by omega),List.getElem?_append_right (by omega),List.getElem?_drop,seg_getElem,if_pos (by omega)]
    congr 1;omega
 ·rw[if_neg hk,List.getElem?_append_right (by rw[l1];omega),l1,List.getElem?_append_right (by omega),List.getElem?_drop,seg_getElem,if_neg (by omega)]
theorem REs.same{h:Hp}{ro:Nat→Prop}{c c':Array Value}{z:Nat}:∀{es:List V} {off:Nat},(∀j,j<es.length→seg c' (off+j*z) z=seg c (off+j*z) z)→REs h ro es c off z→REs h ro es c' off z
 | [],_,_,_=>trivial
 |e::es,off,hj,⟨h1,h2,h3⟩=>by
  have h0:=hj 0 (by simp)
  simp only[Nat.zero_mul,Nat.add_zero]at h0
  exact⟨by rw[h0];exact h1,by rw[h0];exact h2,REs.same (fun j hlt=>by
   have:=hj (j+1) (by simpa using hlt)
   rw[Nat.succ_mul]at this
   rw[show off+z+j*z=off+(j*z+z)by omega];exact this) h3⟩
theorem REs.upd{h:Hp}{ro:Nat→Prop}{c c':Array Value}{z:Nat}{e':V}:∀{es:List V} {off i:Nat},REs h ro es c off z→(∀j,j<es.length→j≠i→seg c' (off+j*z) z=seg c (off+j*z) z)→(seg c' (off+i*z) z).length=z→REl h ro e' (seg c' (off+i*z) z)→REs h ro (es.set i e') c' off z
 | [],_,_,_,_,_,_=>by simp[REs]
 |e0::es,off,0,⟨h1,h2,h3⟩,hj,hl,hn=>by
  simp only[Nat.zero_mul,Nat.add_zero]at hl hn
  refine⟨hl,hn,?_⟩
  exact REs.same (fun j hlt=>by
   have:=hj (j+1) (by simpa using hlt) (by omega)
   rw[Nat.succ_mul]at this
   rw[show off+z+j*z=off+(j*z+z)by omega];exact this) h3
 |e0::es,off,i+1,⟨h1,h2,h3⟩,hj,hl,hn=>by
  have h0:=hj 0 (by simp) (by omega)
  simp only[Nat.zero_mul,Nat.add_zero]at h0
  have eo:off+z+i*z=off+(i+1)*z:=by rw[Nat.succ_mul];omega
  refine⟨by rw[h0];exact h1,by rw[h0];exact h2,REs.upd h3 (fun j hlt hne=> ?_) (by rw[eo];exact hl) (by rw[eo];exact hn)⟩
  have:=hj (j+1) (by simpa using hlt) (by omega)
  rw[Nat.succ_mul]at this
  rw[show off+z+j*z=off+(j*z+z)by omega];exact this
theorem row_write(hs:Sim fr S a w g pool){l:Lo}{d0:Bool}{z i off:Nat}{es:List V}{e e':V}{ver:Nat}(hat:S.at l=some (.sl z es,.own d0,ver)){ad:Addr}{len cap:Nat}(hreal:realAt a.tmps w.heap g l=some (.slice (some ad) len cap))
 (he:es[i]? =some e) {rs:List Value} (hoff:off+rs.length≤z)
 (hnew:∀(old:List Value) (f:List Nat),old.length=z→(if d0 then OEl w.heap g.ro true e old f else REl w.heap g.ro e old)→f.Nodup→(∀x∈f,x∉pool)→
   ∃f',(if d0 then OEl w.heap g.ro true e' (old.take off++rs++old.drop (off+rs.length)) f' else f'=[]∧REl w.heap g.ro e' (old.take off++rs++old.drop (off+rs.length)))∧(∀x∈f',x∈pool∨x∈f)∧f'.Nodup):
 ∃c ty,w.heap[ad.block]? =some (.cells c ty (0,0))∧ad.off+i*z+z≤c.size∧ad.spot=none∧
  SimX fr ((valW l (.sl z (es.set i e'))).app S) a (w.setRow ad.block (splice c (ad.off+i*z+off) rs)):=by
 obtain⟨q,hq,hlr,hver⟩:=hs.at hat
 rw[hreal]at hq
 injection hq with hq
 subst hq
 obtain⟨ad',len',cap',e1,e2,e3,y⟩:=(show OEl w.heap g.ro d0 (.sl z es) [_] _ from(LR.one hlr))
 injection e1 with e1;injection e1 with e1 e1b e1c
 subst e1;subst e1b;subst e1c
 obtain⟨hsp,c,ty,hb,hbd,fp',hf,y⟩:=y
 have hi:i<es.length:=(List.getElem?_eq_some_iff.1 he).1
 have hfit:ad.off+i*z+z≤c.size:=by
  have:(i+1)*z≤cap*z:=Nat.mul_le_mul_right _ (by omega)
  rw[Nat.succ_mul]at this;omega
 refine⟨c,ty,hb,hfit,hsp,?_⟩
 let c2:=splice c (ad.off+i*z+off) rs
 have hp:ad.off+i*z+off+rs.length≤c.size:=by omega
 have hndl:=hs.nd l
 rw[hf]at hndl
 have hnd:=List.nodup_cons.1 hndl
 have hbl:∀x,x∈g.fp l→x∉pool:=fp_pool hs
 have hβ:ad.block∈g.fp l:=by rw[hf];simp
 have hh:∀x,x≠ad.block→(w.setRow ad.block c2).heap[x]? =w.heap[x]? :=fun x h=>setRow_other h
 have hβro:∀x,g.ro x→x≠ad.block:=fun x hx e=>(hs.free _ (ow_ne_loc (hs.own _ _ hβ))).1 (e▸hx)
 have hfar:∀j,j<es.length→j≠i→seg c2 (ad.off+j*z) z=seg c (ad.off+j*z) z:=fun j hj hne=>by
  refine splice_far hp ?_
  rcases Nat.lt_or_gt_of_ne hne with h|h
  ·left
   have:(j+1)*z≤i*z:=Nat.mul_le_mul_right _ h
   rw[Nat.succ_mul]at this;omega
  ·right
   have:(i+1)*z≤j*z:=Nat.mul_le_mul_right _ h
   rw[Nat.succ_mul]at this;omega
 have hin:seg c2 (ad.off+i*z) z=(seg c (ad.off+i*z) z).take off++rs++(seg c (ad.off+i*z) z).drop (off+rs.length):=splice_in hfit hoff
 have hsl:(seg c (ad.off+i*z) z).length=z:=by unfold seg;rw[List.length_take,List.length_drop];simp;omega
 have hsl2:(seg c2 (ad.off+i*z) z).length=z:=by
  rw[hin];simp only[List.length_append,List.length_take,List.length_drop,hsl];omega
 have fin:∀{fr2:List Nat},(∀x∈fr2,x∈pool∨x∈fp')→fr2.Nodup→(if d0 then OEs w.heap g.ro d0 (es.set i e') c2 ad.off z fr2 else(fr2=[]∧REs w.heap g.ro (es.set i e') c2 ad.off z))→
  SimX fr ((valW l (.sl z (es.set i e'))).app S) a (w.setRow ad.block c2):=by
  intro fr2 hsub hn2 hrow
  have hfb:∀x∈fr2,x≠ad.block:=fun x hx e=>by
   subst e
   rcases hsub _ hx with h|h
   ·exact hbl _ hβ h
   ·exact hnd.1 h
  have hrow':(if d0 then OEs (w.setRow ad.block c2).heap g.ro d0 (es.set i e') c2 ad.off z fr2 else(fr2=[]∧REs (w.setRow ad.block c2).heap g.ro (es.set i e') c2 ad.off z)):=by
   cases d0 with
   |true=>simp only[if_true]at hrow ⊢;exact hrow.mono (fun _ h=>h) (fun x hx=>hh x (hβro x hx)) (fun x hx=>hh x (hfb x hx))
   |false=>simp only[Bool.false_eq_true,if_false]at hrow ⊢;exact⟨hrow.1,hrow.2.mono (fun _ h=>h) (fun x hx=>hh x (hβro x hx))⟩
  have hel:OEl (w.setRow ad.block c2).heap g.ro d0 (.sl z (es.set i e')) [.slice (some ad) len cap] (ad.block::fr2):=
   ⟨some ad,len,cap,rfl,by rw[List.length_set];exact e2,e3,hsp,c2,ty,setRow_heap w _ c c2 ty (0,0) hb,by rw[splice_size hp];exact hbd,fr2,rfl,hrow'⟩
  have hlr2:LR (w.setRow ad.block c2).heap {g with ro:=fun x=>g.ro x∨x∈[]} l (.own d0) (.sl z (es.set i e')) (.slice (some ad) len cap) (ad.block::fr2):=by
   have e:({g with ro:=fun x=>g.ro x∨x∈[]}:Gh)=g:=by simp
   rw[e]
   cases l with
   |s t=>exact hel
   |b b j=>exact⟨rfl,hel⟩
  obtain⟨g',_,_,_,_,p5⟩:=sim_at (w':=w.setRow ad.block c2) (fp:=ad.block::fr2) (fz:=[]) (pool':=[]) hs hat hreal (locW_val hat (.sl z (es.set i e'))) (.inr ⟨rfl,fun q hq=>by simpa [zOf]using hq⟩) ⟨rfl,rfl,rfl⟩ (by rw[setRow_size];exact Nat.le_refl _)
   (fun x _ _ hx=>hh x (fun e=>hx (e▸hβ)))
   (fun x hx=>by rcases List.mem_cons.1 hx with h|h
                 ·exact .inr (h▸hβ)
                 ·exact(hsub x h).imp id (fun h=>by rw[hf];exact List.mem_cons_of_mem _ h))
   (List.nodup_cons.2 ⟨fun c=>hfb _ c rfl,hn2⟩) (by simp) (by simp) (by simp) (by simp) (by simp) (.inr hlr2)
  exact⟨g',p5⟩
 cases d0 with
 |true=>
  simp only[if_true]at y hnew fin
  obtain⟨f,r1,r2,y1,y2,y3,y4⟩:=OEs.nth_upd y he
  have n0:=hnd.2
  rw[y1]at n0
  have n1:=List.nodup_append.1 n0
  have n2:=List.nodup_append.1 n1.1
  have inf:∀x∈fp',x∉pool:=fun x hx=>hbl x (by rw[hf];exact List.mem_cons_of_mem _ hx)
  obtain⟨f',k1,k2,k3⟩:=hnew _ f hsl y3 n2.2.1 (fun x hx=>inf x (by rw[y1];simp[hx]))
  refine fin (fr2:=r1++f'++r2) (fun x hx=> ?_) ?_ (y4 c2 e' f' hfar hsl2 (by rw[hin];exact k1))
  ·rw[y1]
   simp only[List.mem_append]at hx ⊢
   rcases hx with(hx|hx)|hx
   ·exact .inr (.inl (.inl hx))
   ·exact(k2 x hx).imp id (fun h=>.inl (.inr h))
   ·exact .inr (.inr hx)
  ·refine List.nodup_append.2 ⟨List.nodup_append.2 ⟨n2.1,k3,fun x hx y hy e=> ?_⟩,n1.2.1,fun x hx y hy e=> ?_⟩
   ·subst e
    rcases k2 x hy with h|h
    ·exact inf x (by rw[y1];simp[hx]) h
    ·exact n2.2.2 x hx x h rfl
   ·subst e
    rcases List.mem_append.1 hx with hx|hx
    ·exact n1.2.2 x (List.mem_append.2 (.inl hx)) x hy rfl
    ·rcases k2 x hx with h|h
     ·exact inf x (by rw[y1];simp[hy]) h
     ·exact n1.2.2 x (List.mem_append.2 (.inr h)) x hy rfl
 |false=>
  simp only[Bool.false_eq_true,if_false]at y hnew fin
  obtain⟨x1,x2⟩:=y.2.nth he
  obtain⟨f',⟨_,k1⟩,_,_⟩:=hnew _ [] hsl x2 (by simp) (by simp)
  exact fin (fr2:=[]) (by simp) (by simp) ⟨rfl,REs.upd y.2 hfar hsl2 (by rw[hin];exact k1)⟩
end
section
variable {P : Program} {C : FuncId → List V → List V → Prop} {E : Env} {fr : Fr} {S : St} {a : Act} {w w' : World} {g : Gh} {pool : List Nat} {rm rm' : Nat} {ws : List Wr}
variable {o : Oper} {K : Act → World → Prop} {Q : Exit → Act → World → Prop}
theorem took_box{W:List Wr}(h:Took fr S W a w g pool){b:Nat}(hc:Wr.clash W [.box b none]=false):(Wr.apps W S).bx b=S.bx b:=by
 refine apps_bx_same fun u hu=> ?_
 obtain⟨l,h1,_⟩:=h.tk u hu
 refine⟨⟨l,h1⟩,fun e=> ?_⟩
 have:Wr.clash W [.box b none]=true:=List.any_eq_true.2 ⟨u,hu,List.any_eq_true.2 ⟨.box b none,by simp,by rw[e];exact beq_iff_eq.2 rfl⟩⟩
 rw[hc]at this;cases this
theorem op_store_ptr(hE:EnvOK P E){t d}(ht:E.ty t=some d){x y:Operand}(ho:o.op= .store t x y)(hdst:o.dst=none){b off:Nat}{m:M}{W:List Wr}{cs:List (V×M)}{fp:List Nat}{fp0:List Nat}(hs:Sim fr S a w g [])
 (hr:OneR w.heap g (.ptr b off) m (a.eval x) fp0) {g':Gh} (h:Took fr S W a w g' fp) (hup:Up g g') (hc:CsR w.heap g' cs (a.eval y).cells.toList fp) (h1:∀r∈(a.eval y).cells,r.oneCell'=true) (hlen:cs.length=d.size)
 (hp:PgR C S (storeP d (.one (.ptr b off) m) W cs fun ws=>.ret ws) rm ws rm') (hK:∀a' w',SimX fr (Wr.apps ws S) a' w'→K a' w'):o.wp P a w K Q:=by
 obtain⟨rfl,_,β,hβ,er⟩:=ptr_pt hr
 have hp':PgR C S (match S.bx b with
  |none=>.fail
  |some old=>.chk (decide (off+cs.length≤old.length)&&((old.drop off).take cs.length).all (fun c=> !c.fix)&& !Wr.clash W [.box b none]) (.ret (W++[.box b (some (setCells old off cs))]))) _ ws rm':=hp
 cases hb:S.bx b with
 |none=>rw[hb]at hp';exact hp'.elim
 |some old=>
  rw[hb]at hp'
  obtain⟨hchk,e,_⟩:=hp'
  subst e
  simp only[Bool.and_eq_true,decide_eq_true_eq,Bool.not_eq_true']at hchk
  obtain⟨⟨hle,hfix⟩,hcl⟩:=hchk
  have hb1:(Wr.apps W S).bx b=some old:=(took_box h hcl).trans hb
  have hβ':=hup.bb b β hβ
  obtain⟨β2,c,ty,q1,q2,q3,q4⟩:=h.sim.boxes b old hb1
  rw[hβ']at q1;cases q1
  have hsz:(a.eval y).cells.size=d.size:=by have:=hc.len;rw[hlen]at this;simpa using this
  have hrun:=run_storeAt (w:=w) hE ht (off:=off) q2 hsz (by rw[q3];omega) h1
  have hS:=store_ptr (rs:=((a.eval y).cells.toList,[])) (fp:=([],[])) h.sim hb1 hβ' q2 hle (by simpa using hfix) hc q3
  refine wp_skip (w':=w.setRow β (c.toList.take off++(a.eval y).cells.toList++c.toList.drop (off+d.size)).toArray) (by simp only[execOp,ho];rw[er,Sem.run_bind,hrun];rfl) ?_ hK
  rw[hdst,apps_append]
  rw[hlen]at hS
  exact hS
theorem aptr_pg{d:TyD}{b off n i:Nat}{W:List Wr}{cs:List (V×M)}:PgR C S (storeP d (.aptr b off n i) W cs fun ws=>.ret ws) rm ws rm'→PgR C S (match S.bx b with
 |none=>.fail
 |some old=>match cs with
  | [(v,.pr)]=>.chk (decide (off+n≤old.length)&&((old.drop off).take n).all (fun c=> !c.fix&&(match c.m with| .pr=>true|_=>false))&& !Wr.clash W [.box b none]) (.ret (W++[.box b (some (aput old off n i v))]))
  |_=>.fail) (rm|||(bbit b|||bhbit b)) ws rm':=fun hp=>hp
theorem op_store_aptr(hE:EnvOK P E){t d}(ht:E.ty t=some d){x y:Operand}(ho:o.op= .store t x y)(hdst:o.dst=none){b off n i:Nat}{W:List Wr}{cs:List (V×M)}{fp:List Nat}{fp0:List Nat}(hs:Sim fr S a w g [])
 (hr:SlR S a.tmps w.heap g (.aptr b off n i) (a.eval x) fp0) {g':Gh} (h:Took fr S W a w g' fp) (hup:Up g g') (hc:CsR w.heap g' cs (a.eval y).cells.toList fp) (h1:∀r∈(a.eval y).cells,r.oneCell'=true) (hlen:cs.length=d.size)
 (hp:PgR C S (storeP d (.aptr b off n i) W cs fun ws=>.ret ws) rm ws rm') (hK:∀a' w',SimX fr (Wr.apps ws S) a' w'→K a' w'):o.wp P a w K Q:=by
 obtain⟨_,hi,β,hβ,er⟩:=hr
 have hp':=aptr_pg hp
 cases hb:S.bx b with
 |none=>rw[hb]at hp';exact hp'.elim
 |some old=>
  rw[hb]at hp'
  dsimp only at hp'
  split at hp'
  ·rename_i v
   obtain⟨hchk,e,_⟩:=hp'
   subst e
   simp only[Bool.and_eq_true,decide_eq_true_eq,Bool.not_eq_true']at hchk
   obtain⟨⟨hle,hall⟩,hcl⟩:=hchk
   have hb1:(Wr.apps W S).bx b=some old:=(took_box h hcl).trans hb
   have hβ':=hup.bb b β hβ
   obtain⟨β2,c,ty,q1,q2,q3,q4⟩:=h.sim.boxes b old hb1
   rw[hβ']at q1;cases q1
   have hd1:d.size=1:=by simpa using hlen.symm
   obtain⟨r,rs',f,f',e1,e2,z1,z2,z3⟩:=hc
   subst z2
   have hsz:(a.eval y).cells.size=d.size:=by have:=congrArg List.length e1;rw[hd1];simpa using this
   have hrun:=run_storeAt (w:=w) hE ht (off:=off+i) q2 hsz (by rw[q3,hd1];omega) h1
   have hf0:=OneR.fp_nil rfl (CV.one z1)
   subst hf0
   have hS:=store_aptr (i:=i) h.sim hb1 hβ' q2 hle hi (by rw[List.all_eq_true]at hall ⊢;intro x hx;have hx2:=hall x hx;revert hx2;cases x with|mk v0 m0 ver0 fx0=>cases m0<;>simp) z1 q3
   refine wp_skip (by simp only[execOp,ho];rw[er,Sem.run_bind,hrun];rfl) ?_ hK
   rw[hdst,apps_append,e1,hd1]
   exact hS
  ·exact hp'.elim
end
section
variable {P : Program} {C : FuncId → List V → List V → Prop} {E : Env} {fr : Fr} {S : St} {a : Act} {w w' : World} {g : Gh} {pool : List Nat} {rm rm' : Nat} {ws : List Wr}
variable {o : Oper} {K : Act → World → Prop} {Q : Exit → Act → World → Prop}
theorem OCs.append{h:Hp}{ro:Nat→Prop}{d:Bool}:∀{c1 r1 f1 c2 r2 f2},OCs h ro d c1 r1 f1→OCs h ro d c2 r2 f2→OCs h ro d (c1++c2) (r1++r2) (f1++f2)
 | [],r1,f1,c2,r2,f2,x,y=>by rw[x.1,x.2];exact y
 |v::q,r1,f1,c2,r2,f2,⟨r,rs',f,f',e,e',ha,x,x'⟩,y=>by
  subst e;subst e'
  exact⟨r,rs'++r2,f,f'++f2,rfl,by simp,ha,x,OCs.append x' y⟩
theorem OCs.splitAt{h:Hp}{ro:Nat→Prop}{d:Bool}:∀{n:Nat} {cs:List V} {rs fp},OCs h ro d cs rs fp→∃f1 f2,fp=f1++f2∧OCs h ro d (cs.take n) (rs.take n) f1∧OCs h ro d (cs.drop n) (rs.drop n) f2
 |0,cs,rs,fp,x=>⟨[],fp,rfl,by simp[OCs],by simpa using x⟩
 |n+1,[],rs,fp,x=>by rw[x.1,x.2];exact⟨[],[],rfl,by simp[OCs],by simp[OCs]⟩
 |n+1,v::q,rs,fp,⟨r,rs',f,f',e,e',ha,x,x'⟩=>by
  subst e;subst e'
  obtain⟨f1,f2,e1,k1,k2⟩:=OCs.splitAt (n:=n) x'
  exact⟨f++f1,f2,by simp[e1],⟨r,rs'.take n,f,f1,rfl,rfl,ha,x,k1⟩,by simpa using k2⟩
theorem RCs.append{h:Hp}{ro:Nat→Prop}:∀{c1 r1 c2 r2},RCs h ro c1 r1→RCs h ro c2 r2→RCs h ro (c1++c2) (r1++r2)
 | [],r1,c2,r2,x,y=>by rw[show r1=[]from x];exact y
 |v::q,r1,c2,r2,⟨r,rs',e,ha,x,x'⟩,y=>by
  subst e
  exact⟨r,rs'++r2,rfl,ha,x,RCs.append x' y⟩
theorem RCs.splitAt{h:Hp}{ro:Nat→Prop}:∀{n:Nat} {cs:List V} {rs},RCs h ro cs rs→RCs h ro (cs.take n) (rs.take n)∧RCs h ro (cs.drop n) (rs.drop n)
 |0,cs,rs,x=>⟨by simp[RCs],by simpa using x⟩
 |n+1,[],rs,x=>by rw[show rs=[]from x];exact⟨by simp[RCs],by simp[RCs]⟩
 |n+1,v::q,rs,⟨r,rs',e,ha,x,x'⟩=>by
  subst e
  obtain⟨k1,k2⟩:=RCs.splitAt (n:=n) x'
  exact⟨⟨r,rs'.take n,rfl,ha,x,k1⟩,by simpa using k2⟩
theorem valW_spot{l:Lo}{v:V}:(valW l v).spot=l.spot:=by cases l<;>rfl
theorem stored_ok{W:List Wr}{cs:List (V×M)}{rs:List Value}{dp:Bool}(h:Took fr S W a w g pool)(hc:CsR w.heap g cs rs pool)(hok:okStored dp cs=true)(hpt:cs.any (·.2.isPt)=false):
 ∃g' fo,Took fr S W a w g' fo∧Up g g'∧(if dp then OCs w.heap g'.ro true (cs.map (·.1)) rs fo else fo=[]∧RCs w.heap g'.ro (cs.map (·.1)) rs):=by
 have hT:Took fr S W a w g (pool++[]):=by simpa using h
 cases dp with
 |true=>
  have sol:∀c∈cs,c.2.gives (.own true)=true:=fun c hc=>by
   have:=List.all_eq_true.1 (show allSolid cs=true by simpa [okStored]using hok) c hc
   cases hm:c.2 with
   |own b=>rw[hm]at this;cases b<;>simp[M.solid]at this;rfl
   |pr=>rfl
   |_=>rw[hm]at this;simp[M.solid]at this
  obtain⟨fo,fi,p1,p2⟩:=CsR.lower (n:=.own true) rfl sol h.sim.plnd hc
  obtain⟨g',z1,z2,z3⟩:=hT.part p1
  exact⟨g',fo,by simpa using z1,z2,p2 g'.ro z2.ro z3⟩
 |false=>
  have sol:∀c∈cs,c.2.gives .ro=true:=fun c hc=>by
   have:=(List.any_eq_false.1 hpt) c hc
   cases hm:c.2<;>first|rfl|(rw[hm]at this;simp[M.isPt]at this)
  obtain⟨fo,fi,p1,p2⟩:=CsR.lower (n:=.ro) rfl sol h.sim.plnd hc
  obtain⟨g',z1,z2,z3⟩:=hT.part p1
  have:=p2 g'.ro z2.ro z3
  exact⟨g',fo,by simpa using z1,z2,this.2,this.1⟩
theorem eref_pg{d:TyD}{l:Lo}{ver i off:Nat}{W:List Wr}{cs:List (V×M)}:PgR C S (storeP d (.eref l ver i off) W cs fun ws=>.ret ws) rm ws rm'→
 ∃dp z es e e',S.at l=some (.sl z es,.own dp,ver)∧okStored dp cs=true∧cs.any (·.2.isPt)=false∧Wr.clash W [valW l .undef]=false∧es[i]? =some e∧ws=W++[valW l (.sl z (es.set i e'))]∧
  ((off=0∧d.size=z∧d.agg=true∧e'= .agg (cs.map (·.1)))∨(off=0∧z=1∧d.agg=false∧∃v m,cs=[(v,m)]∧e'=v)∨
    (∃old,e= .agg old∧old.length=z∧off+cs.length≤old.length∧e'= .agg (old.take off++cs.map (·.1)++old.drop (off+cs.length)))):=by
 intro hp
 simp only[storeP]at hp
 obtain⟨v,m,rm1,hat,hp⟩:=look_ok hp
 cases m with
 |own dp=>
  obtain⟨hb,z,es,rfl,e,he,hp⟩:=hp
  simp only[Bool.and_eq_true,Bool.not_eq_true']at hb
  obtain⟨⟨h1,h2⟩,h3⟩:=hb
  cases c1:(off==0&&d.size==z&&d.agg)with
  |true=>
   rw[c1]at hp
   obtain⟨e1,_⟩:=hp
   simp only[Bool.and_eq_true,beq_iff_eq]at c1
   exact⟨dp,z,es,e,_,hat,h1,h2,h3,he,e1,.inl ⟨c1.1.1,c1.1.2,c1.2,rfl⟩⟩
  |false=>
   rw[c1]at hp
   simp only[cond_false]at hp
   cases c2:(off==0&&z==1&& !d.agg)with
   |true=>
    rw[c2]at hp
    simp only[Bool.and_eq_true,beq_iff_eq,Bool.not_eq_true']at c2
    simp only[cond_true]at hp
    split at hp
    ·rename_i v' m'
     obtain⟨e1,_⟩:=hp
     exact⟨dp,z,es,e,_,hat,h1,h2,h3,he,e1,.inr (.inl ⟨c2.1.1,c2.1.2,c2.2,_,_,rfl,rfl⟩)⟩
    ·exact hp.elim
   |false=>
    rw[c2]at hp
    obtain⟨old,rfl,hl,hle,e1,_⟩:=hp
    exact⟨dp,z,es,_,_,hat,h1,h2,h3,he,e1,.inr (.inr ⟨old,rfl,hl,of_decide_eq_true hle,rfl⟩)⟩
 |_=>exact hp.elim
theorem realAt_up{tm:Array Value}{h:Hp}{g g':Gh}(hu:Up g g'){l:Lo}{r:Value}(hr:realAt tm h g l=some r):realAt tm h g' l=some r:=by
 cases l with
 |s t=>exact hr
 |b b j=>
  simp only[realAt]at hr ⊢
  cases hb:g.bb b with
  |none=>rw[hb]at hr;cases hr
  |some β=>rw[hb]at hr;rw[hu.bb b β hb];exact hr
theorem clash_symm{W X:List Wr}(h:Wr.clash W X=false):Wr.clash X W=false:=by
 cases h2:Wr.clash X W with
 |false=>rfl
 |true=>
  obtain⟨x,hx,y⟩:=List.any_eq_true.1 h2
  obtain⟨y,hy,e⟩:=List.any_eq_true.1 y
  have:Wr.clash W X=true:=List.any_eq_true.2 ⟨y,hy,List.any_eq_true.2 ⟨x,hx,by rw[beq_iff_eq]at e ⊢;exact e.symm⟩⟩
  rw[h]at this;cases this
theorem eref_new{h:Hp}{ro:Nat→Prop}{dp:Bool}{cs:List (V×M)}{rs:List Value}{fo:List Nat}{d:TyD}{z off:Nat}{e e':V}
 (hn:if dp then OCs h ro true (cs.map (·.1)) rs fo else fo=[]∧RCs h ro (cs.map (·.1)) rs) (hfo:fo.Nodup) (hrl:rs.length=d.size) (hcl:cs.length=d.size)
 (hc:(off=0∧d.size=z∧d.agg=true∧e'= .agg (cs.map (·.1)))∨(off=0∧z=1∧d.agg=false∧∃v m,cs=[(v,m)]∧e'=v)∨
    (∃old,e= .agg old∧old.length=z∧off+cs.length≤old.length∧e'= .agg (old.take off++cs.map (·.1)++old.drop (off+cs.length)))):
 off+rs.length≤z∧∀(old:List Value) (f:List Nat),old.length=z→(if dp then OEl h ro true e old f else REl h ro e old)→f.Nodup→(∀x∈f,x∉fo)→
  ∃f',(if dp then OEl h ro true e' (old.take off++rs++old.drop (off+rs.length)) f' else f'=[]∧REl h ro e' (old.take off++rs++old.drop (off+rs.length)))∧(∀x∈f',x∈fo∨x∈f)∧f'.Nodup:=by
 rcases hc with⟨rfl,rfl,_,rfl⟩|⟨rfl,rfl,_,v,m,rfl,rfl⟩|⟨oldV,rfl,hol,hle,rfl⟩
 ·refine⟨by omega,fun old f hl ho hf hd=>⟨fo,?_,fun x hx=>.inl hx,hfo⟩⟩
  have:old.take 0++rs++old.drop (0+rs.length)=rs:=by rw[List.take_zero,List.nil_append,List.drop_of_length_le (by omega),List.append_nil]
  rw[this]
  exact hn
 ·have hr1:rs.length=1:=by rw[hrl];exact hcl.symm
  refine⟨by omega,fun old f hl ho hf hd=>⟨fo,?_,fun x hx=>.inl hx,hfo⟩⟩
  have:old.take 0++rs++old.drop (0+rs.length)=rs:=by rw[List.take_zero,List.nil_append,List.drop_of_length_le (by omega),List.append_nil]
  rw[this]
  cases dp with
  |true=>
   simp only[if_true]at hn ⊢
   obtain⟨r,q,f,g,e1,e2,_,x,y⟩:=hn
   rw[y.1]at e1;rw[y.2,List.append_nil]at e2
   subst e2;rw[e1];exact x
  |false=>
   simp only[Bool.false_eq_true,if_false]at hn ⊢
   obtain⟨e2,r,q,e1,_,x,y⟩:=hn
   rw[show q=[]from y]at e1
   rw[e1];exact⟨e2,x⟩
 ·refine⟨by omega,fun old f hl ho hf hd=> ?_⟩
  have hrc:rs.length=cs.length:=by omega
  rw[hrc]
  cases dp with
  |true=>
   simp only[if_true]at hn ho ⊢
   obtain⟨f1,f2,q1,x1,x2⟩:=OCs.splitAt (n:=off) (show OCs h ro true oldV old f from ho)
   obtain⟨f3,f4,q2,x3,x4⟩:=OCs.splitAt (n:=cs.length) x2
   rw[List.drop_drop,List.drop_drop]at x4
   subst q2;subst q1
   have n1:=List.nodup_append.1 hf
   have n2:=List.nodup_append.1 n1.2.1
   refine⟨f1++fo++f4,OCs.append (OCs.append x1 hn) x4,fun x hx=> ?_,?_⟩
   ·simp only[List.mem_append]at hx ⊢
    rcases hx with(hx|hx)|hx
    ·exact .inr (.inl hx)
    ·exact .inl hx
    ·exact .inr (.inr (.inr hx))
   ·refine List.nodup_append.2 ⟨List.nodup_append.2 ⟨n1.1,hfo,fun x hx y hy e=> ?_⟩,n2.2.1,fun x hx y hy e=> ?_⟩
    ·subst e;exact hd x (by simp[hx]) hy
    ·subst e
     rcases List.mem_append.1 hx with hx|hx
     ·exact n1.2.2 x hx x (by simp[hy]) rfl
     ·exact hd x (by simp[hy]) hx
  |false=>
   simp only[Bool.false_eq_true,if_false]at hn ho ⊢
   obtain⟨rfl,hn⟩:=hn
   obtain⟨x1,x2⟩:=RCs.splitAt (n:=off) (show RCs h ro oldV old from ho)
   have x4:=(RCs.splitAt (n:=cs.length) x2).2
   rw[List.drop_drop,List.drop_drop]at x4
   exact⟨[],⟨rfl,RCs.append (RCs.append x1 hn) x4⟩,by simp,by simp⟩
theorem op_store_eref(hE:EnvOK P E){t d}(ht:E.ty t=some d){x y:Operand}(ho:o.op= .store t x y)(hdst:o.dst=none){l:Lo}{ver i off:Nat}{W:List Wr}{cs:List (V×M)}{fp:List Nat}{fp0:List Nat}(hs:Sim fr S a w g [])
 (hr:SlR S a.tmps w.heap g (.eref l ver i off) (a.eval x) fp0) {g':Gh} (h:Took fr S W a w g' fp) (hup:Up g g') (hc:CsR w.heap g' cs (a.eval y).cells.toList fp) (h1:∀r∈(a.eval y).cells,r.oneCell'=true) (hlen:cs.length=d.size)
 (hp:PgR C S (storeP d (.eref l ver i off) W cs fun ws=>.ret ws) rm ws rm') (hK:∀a' w',SimX fr (Wr.apps ws S) a' w'→K a' w'):o.wp P a w K Q:=by
 obtain⟨dp,z,es,e,e',hat,hok,hpt,hcl,he,rfl,hcase⟩:=eref_pg hp
 obtain⟨q,hreal,_,hver⟩:=hs.at hat
 obtain⟨_,_,h2⟩:=hr
 obtain⟨ad,len,cap,z',k1,k2,k3,er⟩:=h2 hver.symm
 have hz:z'=z:=by simpa [St.zAt,hat,zOf]using k3.symm
 subst hz
 obtain⟨g2,fo,hT,hu2,hnew⟩:=stored_ok h hc hok hpt
 have hag:=hT.away (l:=l) (clash_symm hcl) (by simp) (valW_spot (v:=.undef))
 have hat1:(Wr.apps W S).at l=some (.sl z' es,.own dp,ver):=hag.at.trans hat
 have hrl:(a.eval y).cells.toList.length=d.size:=by rw[hc.len,hlen]
 obtain⟨hoff,hnew2⟩:=eref_new hnew hT.sim.plnd hrl hlen hcase
 obtain⟨c,ty,hb,hfit,hsp,hS⟩:=row_write hT.sim hat1 (realAt_up (hup.trans hu2) k1) he hoff hnew2
 have hrun:=run_storeAt (w:=w) hE ht (off:=ad.off+i*z'+off) hb (v:=a.eval y) (by simpa using hrl) (by rw[hrl]at hoff;omega) h1
 refine wp_skip (w':=w.setRow ad.block (splice c (ad.off+i*z'+off) (a.eval y).cells.toList)) (by simp only[execOp,ho];rw[er,Sem.run_bind,hrun,←hrl];rfl) ?_ hK
 rw[hdst,apps_append]
 exact hS
theorem op_store(hE:EnvOK P E){rid i t x y}(ho:o.op= .store t x y)(hp:PgR C S (opPg E rid i o) rm ws rm')(hs:Sim fr S a w g [])
 (hK:∀a' w',SimX fr (Wr.apps ws S) a' w'→K a' w'):o.wp P a w K Q:=by
 simp only[opPg,ho]at hp
 split at hp
 ·rename_i d ht
  obtain⟨hdst,hp⟩:=hp
  have hdst:o.dst=none:=by cases hd:o.dst with|none=>rfl|some t=>rw[hd]at hdst;cases hdst
  obtain⟨s,rm1,fp0,hp,hr,hwhy⟩:=evO_ok hp hs
  clear hwhy
  obtain⟨w0,cs,rm2,hp,hlen,_,H⟩:=sinkF_ok hp (Took.nil hs)
  obtain⟨g',fp,k1,k2,k3,k4⟩:=H clash_nil
  simp only[List.nil_append,List.append_nil]at k1
  have hl2:cs.length=d.size:=by
   rw[hlen]
   cases hd:d.agg with
   |true=>simp
   |false=>simp;exact((hE t d ht).one hd).symm
  cases s with
  |one v m=>
   cases v with
   |ptr b off=>exact op_store_ptr hE ht ho hdst hs hr k1 k2 k3 k4 hl2 hp hK
   |_=>exact hp.elim
  |eref l ver j off=>exact op_store_eref hE ht ho hdst hs hr k1 k2 k3 k4 hl2 hp hK
  |aptr b off n j=>exact op_store_aptr hE ht ho hdst hs hr k1 k2 k3 k4 hl2 hp hK
  |_=>exact hp.elim
 ·exact hp.elim
end
section rows
variable {h h' : Hp} {ro ro' : Nat → Prop} {c c' : Array Value} {z : Nat}
theorem REs.move:∀{es:List V} {off off':Nat},(∀j,j<es.length→seg c' (off'+j*z) z=seg c (off+j*z) z)→REs h ro es c off z→REs h ro es c' off' z
 | [],_,_,_,_=>trivial
 |e::es,off,off',hj,⟨h1,h2,h3⟩=>by
  have h0:=hj 0 (by simp)
  simp only[Nat.zero_mul,Nat.add_zero]at h0
  refine⟨by rw[h0];exact h1,by rw[h0];exact h2,REs.move (fun j hlt=> ?_) h3⟩
  have:=hj (j+1) (by simpa using hlt)
  rw[Nat.succ_mul]at this
  rw[show off+z+j*z=off+(j*z+z)by omega,show off'+z+j*z=off'+(j*z+z)by omega];exact this
theorem OEs.move{d:Bool}:∀{es:List V} {off off':Nat} {fp},(∀j,j<es.length→seg c' (off'+j*z) z=seg c (off+j*z) z)→OEs h ro d es c off z fp→OEs h ro d es c' off' z fp
 | [],_,_,_,_,x=>x
 |e::es,off,off',_,hj,⟨f,g,e',h1,h2,h3⟩=>by
  have h0:=hj 0 (by simp)
  simp only[Nat.zero_mul,Nat.add_zero]at h0
  refine⟨f,g,e',by rw[h0];exact h1,by rw[h0];exact h2,OEs.move (fun j hlt=> ?_) h3⟩
  have:=hj (j+1) (by simpa using hlt)
  rw[Nat.succ_mul]at this
  rw[show off+z+j*z=off+(j*z+z)by omega,show off'+z+j*z=off'+(j*z+z)by omega];exact this
theorem REs.append:∀{es es':List V} {off:Nat},REs h ro es c off z→REs h ro es' c (off+es.length*z) z→REs h ro (es++es') c off z
 | [],es',off,_,y=>by simpa using y
 |e::es,es',off,⟨h1,h2,h3⟩,y=>⟨h1,h2,REs.append h3 (by rw[List.length_cons,Nat.succ_mul]at y;rw[show off+z+es.length*z=off+(es.length*z+z)by omega];exact y)⟩
theorem OEs.append{d:Bool}:∀{es es':List V} {off:Nat} {f f'},OEs h ro d es c off z f→OEs h ro d es' c (off+es.length*z) z f'→OEs h ro d (es++es') c off z (f++f')
 | [],es',off,f,f',x,y=>by rw[show f=[]from x];simpa using y
 |e::es,es',off,_,f',⟨f1,g1,e',h1,h2,h3⟩,y=>by
  subst e'
  exact⟨f1,g1++f',by simp,h1,h2,OEs.append h3 (by rw[List.length_cons,Nat.succ_mul]at y;rw[show off+z+es.length*z=off+(es.length*z+z)by omega];exact y)⟩
def ElsR(h:Hp)(ro:Nat→Prop)(q:Bool)(es:List V)(c:Array Value)(off z:Nat)(f:List Nat):Prop:=
 if q then OEs h ro true es c off z f else f=[]∧REs h ro es c off z
theorem ElsR.move{q:Bool}{es:List V}{off off':Nat}{f}(hj:∀j,j<es.length→seg c' (off'+j*z) z=seg c (off+j*z) z)(x:ElsR h ro q es c off z f):ElsR h ro q es c' off' z f:=by
 unfold ElsR at x ⊢
 cases q with
 |true=>exact OEs.move hj x
 |false=>exact⟨x.1,REs.move hj x.2⟩
theorem ElsR.append{q:Bool}{es es':List V}{off:Nat}{f f'}(x:ElsR h ro q es c off z f)(y:ElsR h ro q es' c (off+es.length*z) z f'):ElsR h ro q (es++es') c off z (f++f'):=by
 unfold ElsR at x y ⊢
 cases q with
 |true=>exact OEs.append x y
 |false=>exact⟨by rw[x.1,y.1];rfl,REs.append x.2 y.2⟩
theorem ElsR.mono{q:Bool}{es:List V}{off:Nat}{f}(hr:∀b,ro b→ro' b)(hh:∀b,ro b→h'[b]? =h[b]?)(hf:∀b∈f,h'[b]? =h[b]?)(x:ElsR h ro q es c off z f):ElsR h' ro' q es c off z f:=by
 unfold ElsR at x ⊢
 cases q with
 |true=>exact OEs.mono hr hh hf x
 |false=>exact⟨x.1,x.2.mono hr hh⟩
theorem ElsR.nil{q:Bool}{off:Nat}:ElsR h ro q [] c off z []:=by
 unfold ElsR
 cases q with
 |true=>rfl
 |false=>exact⟨rfl,trivial⟩
theorem ElsR.all{q:Bool}{es:List V}{off:Nat}{f}(x:ElsR h ro q es c off z f):REs h (fun _=>True) es c off z:=by
 unfold ElsR at x
 cases q with
 |true=>exact OEs.toRO (fun _ _=>trivial) (fun _ _=>trivial) x
 |false=>exact x.2.mono (fun _ _=>trivial) (fun _ _=>rfl)
theorem plains_flats:∀{l:List V},flats l=true→V.plains l=true
 | [],_=>rfl
 |v::l,h=>by
  unfold flats at h
  simp only[List.all_cons,Bool.and_eq_true]at h
  have h2:=plains_flats (l:=l) h.2
  have h1:v.plain=true:=by
   cases v<;>first|rfl|(have:=h.1;simp[V.flat]at this)
  show(v.plain&&V.plains l)=true
  rw[h1,h2];rfl
theorem REs.toOwnP{h':Hp}{ro':Nat→Prop}{d:Bool}:∀{es:List V} {off:Nat},V.plains es=true→REs h ro es c off z→OEs h' ro' d es c off z []
 | [],_,_,_=>rfl
 |e::es,_,hp,⟨l,x,y⟩=>by
  simp only[V.plains,Bool.and_eq_true]at hp
  exact⟨[],[],rfl,l,REl.toOwn hp.1 x,REs.toOwnP hp.2 y⟩
theorem ElsR.plain{b d:Bool}{es:List V}{off:Nat}{f}(hp:V.plains es=true)(hb:b=true→d=true)(x:ElsR h ro b es c off z f):ElsR h ro d es c off z f:=by
 cases b with
 |true=>rw[hb rfl];exact x
 |false=>
  cases d with
  |false=>exact x
  |true=>
   obtain⟨rfl,x⟩:=x
   exact REs.toOwnP hp x
theorem REs.fit{es:List V}{off:Nat}(x:REs h ro es c off z)(hp:0<es.length)(hz:0<z):off+es.length*z≤c.size:=by
 obtain⟨l,_⟩:=x.nth (i:=es.length-1) (List.getElem?_eq_getElem (by omega))
 unfold seg at l
 rw[List.length_take,List.length_drop,Array.length_toList]at l
 have e:es.length*z=(es.length-1)*z+z:=by rw[←Nat.succ_mul];congr 1;omega
 omega
theorem REs.onesAll{es:List V}{off:Nat}(x:REs h ro es c off z)(hz:0<z):∀r∈seg c off (es.length*z),r.oneCell'=true:=by
 intro r hr
 obtain⟨k,hk,hk2⟩:=List.getElem_of_mem hr
 have hkl:k<es.length*z:=by
  have:(seg c off (es.length*z)).length≤es.length*z:=by unfold seg;rw[List.length_take];exact Nat.min_le_left _ _
  omega
 have hd:k/z<es.length:=Nat.div_lt_of_lt_mul (by rw[Nat.mul_comm];exact hkl)
 obtain⟨_,y⟩:=x.nth (List.getElem?_eq_getElem hd)
 refine REl.ones y r ?_
 have e:=Nat.div_add_mod k z
 rw[Nat.mul_comm]at e
 have hm:=Nat.mod_lt k hz
 apply List.mem_of_getElem? (i:=k % z)
 rw[seg_getElem,if_pos hm,show off+k/z*z+k % z=off+k by omega]
 have:=List.getElem?_eq_getElem hk
 rw[seg_getElem,if_pos hkl,hk2]at this
 exact this
theorem seg_mid3{pre l post:List Value}{k:Nat}(hc:c.toList=pre++l++post)(hk:k+z≤l.length):seg c (pre.length+k) z=(l.drop k).take z:=by
 unfold seg
 rw[hc,List.append_assoc,List.drop_append,List.drop_of_length_le (by omega),List.nil_append,show pre.length+k-pre.length=k by omega,
  List.drop_append_of_le_length (by omega),List.take_append_of_le_length (by rw[List.length_drop];omega)]
theorem seg_take{off n k:Nat}(hk:k+z≤n):((seg c off n).drop k).take z=seg c (off+k) z:=by
 unfold seg
 rw[List.drop_take,List.drop_drop,List.take_take]
 congr 1;omega
theorem firstCells_row{P:Program}{w:World}{ad:Addr}(hs:ad.spot=none){n cap:Nat}{ty fr}(hb:w.heap[ad.block]? =some (.cells c ty fr))(hle:ad.off+n*z≤c.size):
 (Builtin.firstCells z n (.slice (some ad) n cap)).run P w= .ok (seg c ad.off (n*z)).toArray w:=by
 refine run_firstCells_some w z n ad n cap _ ?_ fun j v hj=> ?_
 ·unfold seg;rw[List.length_take,List.length_drop,Array.length_toList];omega
 ·rw[seg_getElem]at hj
  split at hj
  ·have e:ad.add j=⟨ad.block,ad.off+j,none⟩:=by
    obtain⟨b,o,s⟩:=ad;simp only at hs;subst hs;simp[Addr.add]
   rw[e]
   simp[World.cell?,hb,hj]
  ·cases hj
theorem firstCells_zero{P:Program}{w:World}{base:Option Addr}{len cap:Nat}:(Builtin.firstCells z 0 (.slice base len cap)).run P w= .ok #[] w:=by
 cases base with
 |none=>exact run_firstCells_none w z 0 len cap
 |some ad=>exact run_firstCells_some w z 0 ad len cap [] (by simp) (by simp)
def SrcR(P:Program)(w:World)(ro:Nat→Prop)(z:Nat)(q:Bool)(es:List V)(r:Value)(f:List Nat):Prop:=
 ∃(base:Option Addr) (cap:Nat) (l:List Value) (f':List Nat),r= .slice base es.length cap∧l.length=es.length*z∧(∀u∈l,Value.oneCell' u=true)∧(∀w':World,w'.heap=w.heap→(Builtin.firstCells z es.length r).run P w'= .ok l.toArray w')∧
    (∀y∈f',y∈f)∧f'.Nodup∧∀(c':Array Value) (off':Nat),(∀j,j<es.length→seg c' (off'+j*z) z=(l.drop (j*z)).take z)→ElsR w.heap ro q es c' off' z f'
theorem src_ok{P:Program}{w:World}(hz:0<z){q:Bool}{es:List V}{r:Value}{f:List Nat}(hn:f.Nodup)(x:if q then OEl w.heap ro true (.sl z es) [r] f else f=[]∧REl w.heap ro (.sl z es) [r]):
 SrcR P w ro z q es r f:=by
 have main:∀{ad:Addr} {cap:Nat} {c:Array Value} {ty fr'} {f'},ad.spot=none→w.heap[ad.block]? =some (.cells c ty fr')→ElsR w.heap ro q es c ad.off z f'→0<es.length→(∀y∈f',y∈f)→f'.Nodup→
  SrcR P w ro z q es (.slice (some ad) es.length cap) f:=by
  intro ad cap c ty fr' f' hs hb hE hp hsub hnd
  have hfit:=hE.all.fit hp hz
  refine⟨some ad,cap,seg c ad.off (es.length*z),f',rfl,?_,hE.all.onesAll hz,fun w' hw=>firstCells_row hs (by rw[hw];exact hb) hfit,hsub,hnd,fun c' off' hj=>hE.move fun j hlt=> ?_⟩
  ·unfold seg;rw[List.length_take,List.length_drop];simp only[Array.length_toList];omega
  ·rw[hj j hlt]
   refine seg_take ?_
   have:=Nat.mul_le_mul_right z hlt
   rw[Nat.succ_mul]at this;omega
 have zero:∀{base:Option Addr} {cap:Nat},es=[]→SrcR P w ro z q es (.slice base es.length cap) f:=by
  intro base cap he
  subst he
  exact⟨base,cap,[],[],rfl,by simp,by simp,fun w' _=>firstCells_zero,by simp,by simp,fun c' off' _=>ElsR.nil⟩
 cases q with
 |true=>
  simp only[if_true]at x
  obtain⟨a,len,cap,e,e2,hc,y⟩:=x
  injection e with e;subst e;subst e2
  by_cases hp:0<es.length
  ·cases a with
   |none=>exact absurd hc (by rw[y.1];omega)
   |some ad=>
    obtain⟨hs,c,ty,hb,_,fp',hf,y⟩:=y
    simp only[if_true]at y
    subst hf
    exact main hs hb y hp (fun u hu=>List.mem_cons_of_mem _ hu) (List.nodup_cons.1 hn).2
  ·exact zero (List.eq_nil_of_length_eq_zero (by omega))
 |false=>
  simp only[Bool.false_eq_true,if_false]at x
  obtain⟨rfl,a,len,cap,e,e2,hc,y⟩:=x
  injection e with e;subst e;subst e2
  by_cases hp:0<es.length
  ·cases a with
   |none=>exact absurd hc (by rw[show cap=0 from y];omega)
   |some ad=>
    obtain⟨hs,hro,c,ty,fr',hb,y⟩:=y hp
    exact main (f':=[]) hs hb (show ElsR w.heap ro false es c ad.off z []from⟨rfl,y⟩) hp (by simp) (by simp)
  ·exact zero (List.eq_nil_of_length_eq_zero (by omega))
end rows
section
variable {P : Program} {C : FuncId → List V → List V → Prop} {E : Env} {fr : Fr} {S : St} {a : Act} {w w' : World} {g : Gh} {pool : List Nat} {rm rm' : Nat} {ws : List Wr}
variable {o : Oper} {K : Act → World → Prop} {Q : Exit → Act → World → Prop}
theorem appArg_ok{z:Nat}{x:Operand}{k:List Wr→List V→Bool→Pg}(hs:Sim fr S a w g [])(hp:PgR C S (appArg z x k) rm ws rm'):
 ∃w0 es d rm1 g' fp,PgR C S (k w0 es d) rm1 ws rm'∧Took fr S w0 a w g' fp∧Up g g'∧OEl w.heap g'.ro d (.sl z es) [a.eval x] fp:=by
 unfold appArg at hp
 split at hp
 ·rename_i t
  obtain⟨w0,v,m,rm1,hp1,H⟩:=sink_ok hp (Took.nil hs)
  obtain⟨g',fp,k1,k2,k3⟩:=H clash_nil
  simp only[List.nil_append,List.append_nil]at k1
  cases m with
  |own d=>
   obtain⟨z',es,rfl,hz,hp2⟩:=hp1
   simp only[beq_iff_eq]at hz
   subst hz
   exact⟨w0,es,d,_,g',fp,hp2,k1,k2,k3⟩
  |_=>exact hp1.elim
 ·exact⟨[],[],true,_,g,[],hp,Took.nil hs,Up.refl g,none,0,0,rfl,rfl,by decide,rfl,rfl⟩
 ·exact hp.elim
theorem solidO_ok{y:Operand}{k:Bool→Pg}(hp:PgR C S (solidO y k) rm ws rm'):∃b rm1,PgR C S (k b) rm1 ws rm':=by
 unfold solidO at hp
 split at hp
 ·rename_i t
  have hp':PgR C S (match (S.sl t).1 with| .one _ m=>k m.solid|_=>k false) _ ws rm':=hp
  split at hp'
  ·exact⟨_,_,hp'⟩
  ·exact⟨_,_,hp'⟩
 ·exact⟨_,_,hp⟩
theorem run_append_in{A:Array TypeId}{t t2 ty e e2:TypeId}{i:TypeInfo}(hA0:A[0]? =some t)(hA1:A[1]? =some t2)(ht:P.underlying t=some (.slice e))(ht2:P.underlying t2=some (.slice e2))(hi:P.info? e=some i)
 {base1 base2:Option Addr} {n1 cap1 n2 cap2:Nat} {l2:List Value} (hnew:(Builtin.firstCells i.size n2 (.slice base2 n2 cap2)).run P w= .ok l2.toArray w) (hle:n1+n2≤cap1)
 (hst:∀ad,base1=some ad→(storeCells (ad.add (n1*i.size)) l2).run P w= .ok () w') (hno:base1=none→w'=w):
 (Builtin.append_ A ty #[.slice base1 n1 cap1,.slice base2 n2 cap2]).run P w= .ok (.slice base1 (n1+n2) cap1) w':=by
 cases base1 with
 |none=>
  rw[hno rfl]
  simp[Builtin.append_,hA0,hA1,run_underlying ht,run_underlying ht2,sizeOf,typeInfo,hi,Builtin.lenOf,hle,hnew]
 |some ad=>
  have:=hst ad rfl
  simp[Builtin.append_,hA0,hA1,run_underlying ht,run_underlying ht2,sizeOf,typeInfo,hi,Builtin.lenOf,hle,hnew,this]
theorem run_append_out{A:Array TypeId}{t t2 ty e e2:TypeId}{i:TypeInfo}{zv:Value}(hA0:A[0]? =some t)(hA1:A[1]? =some t2)(ht:P.underlying t=some (.slice e))(ht2:P.underlying t2=some (.slice e2))(hi:P.info? e=some i)(hz:i.zero=some zv)
 {base1 base2:Option Addr} {n1 cap1 n2 cap2:Nat} {l1 l2:List Value} (hold:(Builtin.firstCells i.size n1 (.slice base1 n1 cap1)).run P w.drew= .ok l1.toArray w.drew) (hnew:(Builtin.firstCells i.size n2 (.slice base2 n2 cap2)).run P w.drew= .ok l2.toArray w.drew)
 (hg:cap1<n1+n2) (h63:n1+n2≤1073741824) (hby:i.bytes≤4096):
 (Builtin.append_ A ty #[.slice base1 n1 cap1,.slice base2 n2 cap2]).run P w=
   .ok (.slice (some ⟨w.heap.size,0,none⟩) (n1+n2) (grownCap w (n1+n2) cap1 e))
     (w.drew.alloc (.cells (l1.toArray++l2.toArray++Builtin.zeroCells zv.cells (grownCap w (n1+n2) cap1 e-(n1+n2))) e)):=by
 have hn:¬(n1+n2≤cap1):=by omega
 have h63':¬(9223372036854775807<((n1:Int)+(n2:Int))):=by omega
 have h48':¬(281474976710656<Builtin.nextslicecap (n1+n2) cap1*i.bytes):=by
  have h1:Builtin.nextslicecap (n1+n2) cap1*i.bytes≤(2*(n1+n2))*4096:=Nat.mul_le_mul (nextslicecap_le hg) hby
  omega
 simp[Builtin.append_,hA0,hA1,run_underlying ht,run_underlying ht2,sizeOf,typeInfo,zeroValue,hi,hz,Builtin.lenOf,hn,h63',h48',Question.forced,hnew,hold,newRow,grownCap]
 congr 2
 apply Array.ext'
 simp[List.append_assoc]
theorem op_append(hE:EnvOK P E){rid i}{c:Call}(ho:o.op= .call c)(hc:c.callee= .builtin .append)(hp:PgR C S (opPg E rid i o) rm ws rm')(hs:Sim fr S a w g [])
 (hK:∀a' w',SimX fr (Wr.apps ws S) a' w'→K a' w'):o.wp P a w K Q:=by
 simp only[opPg,ho,hc]at hp
 split at hp
 ·rename_i x y d hargs hty
  split at hp
  ·rename_i ed hed
   cases ht:c.argTypes[0]? with
   |none=>simp[ht]at hty
   |some t=>
   simp only[ht,Option.bind_some]at hty
   obtain⟨u,hu,he⟩:=(hE _ _ hty).under
   obtain⟨te,hk,htye⟩:=slE_ok hE hty hed
   have hu:=hu.trans (congrArg some (ut_slice (he.trans hk)))
   have hargs':c.args= #[x,y]:=by rw[←Array.toArray_toList (xs:=c.args),hargs]
   obtain⟨hb,hp⟩:=hp
   simp only[Bool.and_eq_true,decide_eq_true_eq,Bool.not_eq_true',beq_eq_false_iff_ne,ne_eq]at hb
   obtain⟨⟨hby,hz0⟩,ht2⟩:=hb
   have hz:0<ed.size:=Nat.pos_of_ne_zero hz0
   cases hat2:c.argTypes[1]? with
   |none=>simp[hat2]at ht2
   |some t2=>
   cases hd2:E.ty t2 with
   |none=>simp[hat2,hd2]at ht2
   |some d2=>
   obtain⟨te2,hu2⟩:∃te2,P.underlying t2=some (.slice te2):=by
    simp only[hat2,hd2,Option.bind_some]at ht2
    obtain⟨u2,h1,h2⟩:=(hE _ _ hd2).under
    unfold TyD.slE? at ht2
    split at ht2
    ·rename_i te2 hk2;exact⟨te2,h1.trans (congrArg some (ut_slice (h2.trans hk2)))⟩
    ·simp at ht2
   have hats:c.argTypes.size≥2:=by
    have:=(Array.getElem?_eq_some_iff.1 hat2).1;omega
   obtain⟨iv,zv,q1,q2,q3,q4,q5,q6,q7,q8,q9⟩:=zero_own hE htye
   obtain⟨w1,es,dq,rm1,g1,fp1,hp1,T1,up1,X1⟩:=appArg_ok hs hp
   obtain⟨solid,rm2,hp2⟩:=solidO_ok hp1
   obtain⟨w2,v2,m2,rm3,hp3,H2⟩:=sink_ok hp2 T1
   obtain⟨z',es2,rfl,hck,hp4⟩:=hp3
   simp only[Bool.and_eq_true,beq_iff_eq,Bool.not_eq_true',decide_eq_true_eq]at hck
   obtain⟨⟨⟨hzz,hpt⟩,hcl⟩,hlen⟩:=hck
   subst hzz
   have hp4':∃q':Bool,(q'=(dq&&m2.solid)∨(q'=dq∧V.plains es2=true))∧ws=w1++w2++wDst o.dst (.one (.sl ed.size (es++es2)) (.own q')):=by
    cases hv:Nat.beq (E.vari rid i) 3 with
    |true=>rw[hv]at hp4;exact⟨dq,.inr ⟨rfl,plains_flats hp4.1⟩,hp4.2.1⟩
    |false=>rw[hv]at hp4;exact⟨_,.inl rfl,hp4.1⟩
   obtain⟨q',hq',rfl⟩:=hp4'
   obtain⟨g2,fp2,T2,up2,X2⟩:=H2 hcl
   have X1':OEl w.heap g2.ro dq (.sl ed.size es) [a.eval x] fp1:=X1.mono up2.ro (fun _ _=>rfl) (fun _ _=>rfl)
   have nd12:=List.nodup_append.1 T2.sim.plnd
   obtain⟨fo1,fi1,pt1,lo1⟩:=RM.lower (m:=.own dq) (n:=.own q') (by rcases hq' with h|⟨h,_⟩<;>rw[h]<;>cases dq<;>cases m2.solid<;>rfl) nd12.2.1 (show RM w.heap g2.ro (.own dq) (.sl ed.size es) [a.eval x] fp1 from X1')
   have X2':RM w.heap g2.ro m2 (.sl ed.size es2) [a.eval y] fp2:=by
    have:=X2.rw hpt
    exact this
   have hq2:∃n:M,m2.gives n=true∧n=(if dq&&m2.solid then .own true else .ro):=by
    refine⟨_,?_,rfl⟩
    cases hqq:(dq&&m2.solid)with
    |true=>
     simp only[Bool.and_eq_true]at hqq
     have:=hqq.2
     cases m2 with
     |own b=>cases b<;>simp[M.solid]at this;rfl
     |pr=>rfl
     |_=>simp[M.solid]at this
    |false=>cases m2<;>first|rfl|simp[M.isPt]at hpt
   obtain⟨n2,hg2,hn2⟩:=hq2
   obtain⟨fo2,fi2,pt2,lo2⟩:=RM.lower hg2 nd12.1 X2'
   have ptt:=Part.app T2.sim.plnd pt2 pt1
   obtain⟨g3,T3,up3,hro3⟩:=Took.part (pool:=[]) (by simpa using T2) ptt
   rw[List.append_nil]at T3
   have Y1:OEl w.heap g3.ro q' (.sl ed.size es) [a.eval x] fo1:=lo1 g3.ro up3.ro (fun u hu=>hro3 u (List.mem_append.2 (.inr hu)))
   have Y2:if(dq&&m2.solid)then OEl w.heap g3.ro true (.sl ed.size es2) [a.eval y] fo2 else fo2=[]∧REl w.heap g3.ro (.sl ed.size es2) [a.eval y]:=by
    have:=lo2 g3.ro up3.ro (fun u hu=>hro3 u (List.mem_append.2 (.inl hu)))
    rw[hn2]at this
    cases hqq:(dq&&m2.solid)with
    |true=>rw[hqq]at this;exact this
    |false=>rw[hqq]at this;exact⟨this.2,this.1⟩
   have nd3:=List.nodup_append.1 T3.sim.plnd
   obtain⟨base2,cap2,l2,f2,er2,hl2,h12,hf2,hsub2,hnf2,hmk2⟩:=src_ok (P:=P) hz nd3.1 Y2
   have hmk2:∀(c':Array Value) (off':Nat),(∀j,j<es2.length→seg c' (off'+j*ed.size) ed.size=(l2.drop (j*ed.size)).take ed.size)→ElsR w.heap g3.ro q' es2 c' off' ed.size f2:=fun c' off' hj=>by
    have h0:=hmk2 c' off' hj
    rcases hq' with rfl|⟨rfl,hpl⟩
    ·exact h0
    ·exact ElsR.plain hpl (fun h=>by simp only[Bool.and_eq_true]at h;exact h.1) h0
   obtain⟨base1,n1,cap1,er1,hn1,hcap1,Y1⟩:=Y1
   injection er1 with er1
   have fin:∀{r:Value} {w':World} {fpr:List Nat} {g4:Gh},(Builtin.append_ c.argTypes o.type #[a.eval x,a.eval y]).run P w= .ok r w'→Sim fr (Wr.apps (w1++w2) S) a w' g4 fpr→OEl w'.heap g4.ro q' (.sl ed.size (es++es2)) [r] fpr→o.wp P a w K Q:=by
    intro r w' fpr g4 hrun hS hR
    refine wp_val (r:=r) (by
     simp only[execOp,ho,resolve,hc,hargs',pure_bind,invoke,builtin]
     simp only[List.map_toArray,List.map_cons,List.map_nil,Sem.run_bind,hrun];rfl) ?_ hK
    rw[apps_append]
    exact sim_dst hS (s:=.one (.sl ed.size (es++es2)) (.own q')) hR (fun _ h=>h) hS.plnd
   have hn1z:n1*ed.size=es.length*ed.size:=by rw[hn1]
   rw[er1,er2]at fin
   rw[er2]at hf2
   have hnodd:∀u∈f2,u∉fo1:=fun u hu hc=>nd3.2.2 u (hsub2 u hu) u hc rfl
   by_cases hroom:n1+es2.length≤cap1
   ·cases base1 with
    |none=>
     obtain⟨hc0,hf0⟩:=Y1
     have e1:es=[]:=List.eq_nil_of_length_eq_zero (by omega)
     have e2:es2=[]:=List.eq_nil_of_length_eq_zero (by omega)
     have hrun:=run_append_in (w':=w) (ty:=o.type) (base1:=none) ht hat2 hu hu2 q1 (l2:=l2) (by rw[q2];exact hf2 w rfl) hroom (fun _ h=>by cases h) (fun _=>rfl)
     obtain⟨g4,_,_,_,hS⟩:=sim_freeze (fz:=[]) (pool':=[]) T3.sim (by simp) (by simp) (by simp) (by simp)
     refine fin hrun hS ?_
     subst e1;subst e2
     exact⟨none,_,_,rfl,by simp at hn1 ⊢;omega,by simp at hn1 ⊢;omega,hc0,rfl⟩
    |some ad=>
     obtain⟨hsp,c1,ty,hb1,hfit,fp',hfo,Y1⟩:=Y1
     have E1:ElsR w.heap g3.ro q' es c1 ad.off ed.size fp':=by
      unfold ElsR
      cases hqq:q' with
      |true=>rw[hqq]at Y1;simpa using Y1
      |false=>rw[hqq]at Y1;simpa using Y1
     have hmul:(n1+es2.length)*ed.size≤cap1*ed.size:=Nat.mul_le_mul_right _ hroom
     rw[Nat.add_mul]at hmul
     have hpz:ad.off+n1*ed.size+l2.length≤c1.size:=by rw[hl2];omega
     have hadd:ad.add (n1*iv.size)=⟨ad.block,ad.off+n1*ed.size,none⟩:=by
      rw[q2]
      obtain⟨b,of,sp⟩:=ad;simp only at hsp;subst hsp;simp[Addr.add]
     have hst:=run_storeCells_at P ad.block (ad.off+n1*ed.size) ty l2 0 c1 w hb1 (by simpa using hpz) h12
     have hrun:=run_append_in (w':=w.setRow ad.block (splice c1 (ad.off+n1*ed.size) l2)) (ty:=o.type) (base1:=some ad) ht hat2 hu hu2 q1 (l2:=l2) (by rw[q2];exact hf2 w rfl) hroom
      (fun ad' h=>by injection h with h;subst h;rw[hadd];exact hst) (fun h=>by cases h)
     have hblk:ad.block∈fo2++fo1:=List.mem_append.2 (.inr (by rw[hfo];simp))
     have hnd1:=nd3.2.1
     rw[hfo]at hnd1
     have hnd1':=List.nodup_cons.1 hnd1
     have hh:∀u,u≠ad.block→(w.setRow ad.block (splice c1 (ad.off+n1*ed.size) l2)).heap[u]? =w.heap[u]? :=fun u hu=>setRow_other hu
     have hro:∀u,g3.ro u→u≠ad.block:=fun u hu e=>(T3.sim.free _ (ow_ne_pool (T3.sim.pl _ hblk))).1 (e▸hu)
     have hin:∀u∈fp'++f2,u∈fo2++fo1:=fun u hu=>by
      rcases List.mem_append.1 hu with h|h
      ·exact List.mem_append.2 (.inr (by rw[hfo];simp[h]))
      ·exact List.mem_append.2 (.inl (hsub2 u h))
     have hne:∀u∈fp'++f2,u≠ad.block:=fun u hu e=>by
      subst e
      rcases List.mem_append.1 hu with h|h
      ·exact hnd1'.1 h
      ·exact hnodd _ h (by rw[hfo];simp)
     have hndp:(ad.block::(fp'++f2)).Nodup:=List.nodup_cons.2 ⟨fun hc=>hne _ hc rfl,List.nodup_append.2 ⟨hnd1'.2,hnf2,fun u hu v hv e=>hnodd v hv (by rw[hfo,←e];simp[hu])⟩⟩
     obtain⟨g4,e1,e2,_,hS⟩:=sim_world (w':=w.setRow ad.block (splice c1 (ad.off+n1*ed.size) l2)) (new:=[]) (pool':=ad.block::(fp'++f2)) T3.sim ⟨rfl,rfl,rfl⟩ (by rw[setRow_size];exact Nat.le_refl _)
      (fun u _ hu=>hh u (fun e=>hu (e▸hblk))) (by simp) (by simp)
      (fun u hu=>by rcases List.mem_cons.1 hu with h|h
                    ·exact .inl (h▸hblk)
                    ·exact .inl (hin u h)) hndp
     refine fin hrun hS ⟨some ad,_,_,rfl,by rw[List.length_append,hn1],⟨hroom,hcap1.2⟩,hsp,_,ty,setRow_heap w _ c1 _ ty (0,0) hb1,by rw[splice_size hpz];exact hfit,fp'++f2,rfl,?_⟩
     have A1:ElsR w.heap g3.ro q' es (splice c1 (ad.off+n1*ed.size) l2) ad.off ed.size fp':=E1.move fun j hj=>by
      refine splice_far hpz (.inl ?_)
      have:(j+1)*ed.size≤n1*ed.size:=Nat.mul_le_mul_right _ (by omega)
      rw[Nat.succ_mul]at this;omega
     have A2:ElsR w.heap g3.ro q' es2 (splice c1 (ad.off+n1*ed.size) l2) (ad.off+es.length*ed.size) ed.size f2:=hmk2 _ _ fun j hj=>by
      have hl1:(c1.toList.take (ad.off+n1*ed.size)).length=ad.off+n1*ed.size:=by rw[List.length_take];simp;omega
      have:=seg_mid3 (z:=ed.size) (c:=splice c1 (ad.off+n1*ed.size) l2) (pre:=c1.toList.take (ad.off+n1*ed.size)) (l:=l2) (post:=c1.toList.drop (ad.off+n1*ed.size+l2.length)) (k:=j*ed.size) (by simp[splice])
       (by rw[hl2,←Nat.succ_mul];exact Nat.mul_le_mul_right _ hj)
      rw[hl1]at this
      rw[←hn1z];exact this
     have A3:ElsR (w.setRow ad.block (splice c1 (ad.off+n1*ed.size) l2)).heap g4.ro q' (es++es2) (splice c1 (ad.off+n1*ed.size) l2) ad.off ed.size (fp'++f2):=
      (A1.append A2).mono (fun u hu=>by rw[e1];exact hu) (fun u hu=>hh u (hro u hu)) (fun u hu=>hh u (hne u hu))
     unfold ElsR at A3
     cases hqq:q' with
     |true=>rw[hqq]at A3;simpa using A3
     |false=>rw[hqq]at A3;simpa using A3
   ·have hold:∃(l1:List Value) (fp':List Nat),l1.length=es.length*ed.size∧(Builtin.firstCells ed.size n1 (.slice base1 n1 cap1)).run P w.drew= .ok l1.toArray w.drew∧(∀u∈fp',u∈fo1)∧fp'.Nodup∧
     ∀(c':Array Value) (off':Nat),(∀j,j<es.length→seg c' (off'+j*ed.size) ed.size=(l1.drop (j*ed.size)).take ed.size)→ElsR w.heap g3.ro q' es c' off' ed.size fp':=by
     cases base1 with
     |none=>
      obtain⟨hc0,hf0⟩:=Y1
      have e1:es=[]:=List.eq_nil_of_length_eq_zero (by omega)
      subst e1
      have e0:n1=0:=by simpa using hn1
      subst e0
      exact⟨[],[],by simp,firstCells_zero,by simp,by simp,fun _ _ _=>ElsR.nil⟩
     |some ad=>
      obtain⟨hsp,c1,ty,hb1,hfit,fp',hfo,Y1⟩:=Y1
      have E1:ElsR w.heap g3.ro q' es c1 ad.off ed.size fp':=by
       unfold ElsR
       cases hqq:q' with
       |true=>rw[hqq]at Y1;simpa using Y1
       |false=>rw[hqq]at Y1;simpa using Y1
      have hmul:n1*ed.size≤cap1*ed.size:=Nat.mul_le_mul_right _ hcap1.1
      have hnd1:=nd3.2.1
      rw[hfo]at hnd1
      refine⟨seg c1 ad.off (n1*ed.size),fp',?_,firstCells_row hsp hb1 (by omega),fun u hu=>by rw[hfo];simp[hu],(List.nodup_cons.1 hnd1).2,fun c' off' hj=>E1.move fun j hlt=> ?_⟩
      ·unfold seg;rw[List.length_take,List.length_drop];simp only[Array.length_toList];omega
      ·rw[hj j hlt]
       refine seg_take ?_
       rw[←Nat.succ_mul]
       exact Nat.mul_le_mul_right _ (by omega)
    obtain⟨l1,fp',hl1,hold,hsub1,hnf1,hmk1⟩:=hold
    have hrun:=run_append_out (w:=w) (ty:=o.type) ht hat2 hu hu2 q1 q4 (base1:=base1) (base2:=base2) (cap1:=cap1) (cap2:=cap2) (n1:=n1) (n2:=es2.length) (l1:=l1) (l2:=l2) (by rw[q2];exact hold) (by rw[q2];exact hf2 w.drew rfl) (by omega) (by omega) (by omega)
    have hgc:=grownCap_ge w (n1+es2.length) cap1 te
    have hgm:=grownCap_le_maxLen w (n1+es2.length) cap1 te (Nat.le_trans (show n1+es2.length≤1073741824 by omega) (by decide))
    generalize hgce:grownCap w (n1+es2.length) cap1 te=nc at hrun hgc hgm
    let cc:Array Value:=l1.toArray++l2.toArray++Builtin.zeroCells zv.cells (nc-(n1+es2.length))
    have hlt:∀u∈fp'++f2,u<w.heap.size:=fun u hu=>by
     rcases List.mem_append.1 hu with h|h
     ·exact T3.sim.plLt (List.mem_append.2 (.inr (hsub1 u h)))
     ·exact T3.sim.plLt (List.mem_append.2 (.inl (hsub2 u h)))
    have hh:∀u,u<w.heap.size→(w.drew.alloc (.cells cc te)).heap[u]? =w.heap[u]? :=fun u hu=>alloc_get (w:=w.drew) hu
    have hsz:(w.drew.alloc (.cells cc te)).heap.size=w.heap.size+1:=alloc_size (w:=w.drew)
    have hndp:(w.heap.size::(fp'++f2)).Nodup:=List.nodup_cons.2 ⟨fun hc=>by have:=hlt _ hc;omega,List.nodup_append.2 ⟨hnf1,hnf2,fun u hu v hv e=>hnodd v hv (e▸hsub1 u hu)⟩⟩
    obtain⟨g4,e1,e2,_,hS⟩:=sim_world (w':=w.drew.alloc (.cells cc te)) (new:=[w.heap.size]) (pool':=w.heap.size::(fp'++f2)) T3.sim ⟨rfl,rfl,rfl⟩ (by omega)
     (fun u hu _=>hh u hu) (fun u hu=>by simp at hu;omega) (by simp)
     (fun u hu=>by
       rcases List.mem_cons.1 hu with h|h
       ·exact .inr (by simp[h])
       ·rcases List.mem_append.1 h with h|h
        ·exact .inl (List.mem_append.2 (.inr (hsub1 u h)))
        ·exact .inl (List.mem_append.2 (.inl (hsub2 u h)))) hndp
    have htl:cc.toList=l1++l2++(Builtin.zeroCells zv.cells (nc-(n1+es2.length))).toList:=by simp[cc]
    have A1:ElsR w.heap g3.ro q' es cc 0 ed.size fp':=hmk1 _ _ fun j hj=>by
     have:=seg_mid3 (z:=ed.size) (c:=cc) (pre:=[]) (l:=l1) (post:=l2++(Builtin.zeroCells zv.cells (nc-(n1+es2.length))).toList) (k:=j*ed.size) (by rw[htl];simp) (by rw[hl1,←Nat.succ_mul];exact Nat.mul_le_mul_right _ hj)
     simpa using this
    have A2:ElsR w.heap g3.ro q' es2 cc (0+es.length*ed.size) ed.size f2:=hmk2 _ _ fun j hj=>by
     have:=seg_mid3 (z:=ed.size) (c:=cc) (pre:=l1) (l:=l2) (post:=(Builtin.zeroCells zv.cells (nc-(n1+es2.length))).toList) (k:=j*ed.size) htl (by rw[hl2,←Nat.succ_mul];exact Nat.mul_le_mul_right _ hj)
     rw[hl1]at this
     simpa using this
    have A3:ElsR (w.drew.alloc (.cells cc te)).heap g4.ro q' (es++es2) cc 0 ed.size (fp'++f2):=
     (A1.append A2).mono (fun u hu=>by rw[e1];exact hu) (fun u hu=>hh u (T3.sim.rolt u hu)) (fun u hu=>hh u (hlt u hu))
    refine fin hrun hS ⟨some ⟨w.heap.size,0,none⟩,_,_,rfl,by rw[List.length_append,hn1],⟨hgc,Nat.le_trans hgm (by decide)⟩,rfl,cc,te,alloc_new (w:=w.drew),?_,fp'++f2,rfl,?_⟩
    ·have:cc.size=es.length*ed.size+es2.length*ed.size+(nc-(n1+es2.length))*ed.size:=by
      simp only[cc,Array.size_append,List.size_toArray,hl1,hl2,size_zeroCells,q5]
     rw[this,←Nat.add_mul,←Nat.add_mul,Nat.zero_add]
     refine Nat.mul_le_mul_right _ ?_
     omega
    ·unfold ElsR at A3
     cases hqq:q' with
     |true=>rw[hqq]at A3;simp only[if_true]at A3 ⊢;exact A3
     |false=>rw[hqq]at A3;simp only[Bool.false_eq_true,if_false]at A3 ⊢;exact A3
  ·exact hp.elim
 ·exact hp.elim
end
section
variable {P : Program} {C : FuncId → List V → List V → Prop} {E : Env} {fr : Fr} {S : St} {a : Act} {w w' : World} {g : Gh} {pool : List Nat} {rm rm' : Nat} {ws : List Wr}
variable {o : Oper} {K : Act → World → Prop} {Q : Exit → Act → World → Prop}
theorem row_new(hs:Sim fr S a w g []){l:Lo}{d0:Bool}{z:Nat}{es es':List V}{ver:Nat}(hat:S.at l=some (.sl z es,.own d0,ver)){r:Value}(hreal:realAt a.tmps w.heap g l=some r)
 (hsw:Same w w') (hsz:w.heap.size≤w'.heap.size) (hh:∀x,x<w.heap.size→x∉g.fp l→w'.heap[x]? =w.heap[x]?) {fp:List Nat} (hsub:∀x∈fp,x∈g.fp l) (hn:fp.Nodup)
 (hel:OEl w'.heap g.ro d0 (.sl z es') [r] fp):SimX fr ((valW l (.sl z es')).app S) a w':=by
 have hlr2:LR w'.heap {g with ro:=fun x=>g.ro x∨x∈[]} l (.own d0) (.sl z es') r fp:=by
  have e:({g with ro:=fun x=>g.ro x∨x∈[]}:Gh)=g:=by simp
  rw[e]
  cases l with
  |s t=>exact hel
  |b b j=>exact⟨rfl,hel⟩
 obtain⟨g',_,_,_,_,p5⟩:=sim_at (w':=w') (fp:=fp) (fz:=[]) (pool':=[]) hs hat hreal (locW_val hat (.sl z es')) (.inr ⟨rfl,fun q hq=>by simpa [zOf]using hq⟩) hsw hsz
  (fun x h1 _ hx=>hh x h1 hx) (fun x hx=>.inr (hsub x hx)) hn (by simp) (by simp) (by simp) (by simp) (by simp) (.inr hlr2)
 exact⟨g',p5⟩
theorem OEs.zeros{h:Hp}{ro:Nat→Prop}{d:Bool}{c:Array Value}{k:IntKind}{n0:Int}:∀{n off:Nat},(∀j,j<n→c[off+j]? =some (.int k n0))→OEs h ro d (List.replicate n (.int k n0)) c off 1 []
 |0,off,_=>rfl
 |n+1,off,hj=>by
  have h0:=hj 0 (by omega)
  rw[Nat.add_zero]at h0
  have hs:seg c off 1=[.int k n0]:=by
   apply List.ext_getElem?
   intro i
   rw[seg_getElem]
   cases i with
   |zero=>simp[h0]
   |succ i=>simp
  exact⟨[],[],rfl,by rw[hs];rfl,by rw[hs];exact⟨rfl,rfl⟩,OEs.zeros fun j hlt=>by
   have:=hj (j+1) (by omega)
   rw[show off+1+j=off+(j+1)by omega];exact this⟩
theorem REs.zeros{h:Hp}{ro:Nat→Prop}{c:Array Value}{k:IntKind}{n0:Int}:∀{n off:Nat},(∀j,j<n→c[off+j]? =some (.int k n0))→REs h ro (List.replicate n (.int k n0)) c off 1
 |0,off,_=>trivial
 |n+1,off,hj=>by
  have h0:=hj 0 (by omega)
  rw[Nat.add_zero]at h0
  have hs:seg c off 1=[.int k n0]:=by
   apply List.ext_getElem?
   intro i
   rw[seg_getElem]
   cases i with
   |zero=>simp[h0]
   |succ i=>simp
  exact⟨by rw[hs];rfl,by rw[hs];exact rfl,REs.zeros fun j hlt=>by
   have:=hj (j+1) (by omega)
   rw[show off+1+j=off+(j+1)by omega];exact this⟩
theorem OEs.same{h:Hp}{ro:Nat→Prop}{d:Bool}{c c':Array Value}{z:Nat}:∀{es:List V} {off:Nat} {fp},(∀j,j<es.length→seg c' (off+j*z) z=seg c (off+j*z) z)→OEs h ro d es c off z fp→OEs h ro d es c' off z fp
 | [],_,_,_,x=>x
 |e::es,off,_,hj,⟨f,g,e0,h1,h2,h3⟩=>by
  have h0:=hj 0 (by simp)
  simp only[Nat.zero_mul,Nat.add_zero]at h0
  exact⟨f,g,e0,by rw[h0];exact h1,by rw[h0];exact h2,OEs.same (fun j hlt=>by
   have:=hj (j+1) (by simpa using hlt)
   rw[Nat.succ_mul]at this
   rw[show off+z+j*z=off+(j*z+z)by omega];exact this) h3⟩
theorem op_clear(hE:EnvOK P E){rid i}{c:Call}(ho:o.op= .call c)(hc:c.callee= .builtin .clear)(hp:PgR C S (opPg E rid i o) rm ws rm')(hs:Sim fr S a w g [])
 (hK:∀a' w',SimX fr (Wr.apps ws S) a' w'→K a' w'):o.wp P a w K Q:=by
 simp only[opPg,ho,hc]at hp
 split at hp
 ·rename_i x d hargs hty
  cases ht:c.argTypes[0]? with
  |none=>simp[ht]at hty
  |some t=>
   simp only[ht,Option.bind_some]at hty
   obtain⟨u,hu,he⟩:=(hE _ _ hty).under
   have hargs':c.args= #[x]:=by rw[←Array.toArray_toList (xs:=c.args),hargs]
   split at hp
   ·rename_i e hed
    cases hse:d.slE? with
    |none=>simp[hse]at hed
    |some te=>
    simp only[hse,Option.bind_some]at hed
    have hk:d.under= .slice te:=by
     unfold TyD.slE? at hse
     split at hse
     ·rename_i hk;injection hse with hse;rw[hk,hse]
     ·cases hse
    have hu:=hu.trans (congrArg some (ut_slice (he.trans hk)))
    obtain⟨i0,z0,q1,_,_,q4,q5,_,_,_,q9⟩:=(hE _ _ hed).info
    split at hp
    ·rename_i k n hzv
     have hz0:z0.cells.toList=[.int k n]:=by
      have:=q9 #[] ⟨fun _=>False,fun _=>.none,fun _=>[],fun _=>none⟩
      rw[hzv]at this
      obtain⟨r,rs,f,f',e1,_,x1,x2⟩:=this
      rw[e1,x2.1]
      have x1:[r]=[Value.int k n]:=x1.2.2.1
      exact x1
     have hzv0:∀w,(zeroValue te).run P w= .ok z0 w:=fun w=>by
      simp only[zeroValue,typeInfo,Sem.run_bind,run_program,Result.andThen_ok,q1,q4,Sem.run_pure]
     clear q9
     obtain⟨s,rm1,fp0,hp,hr,hwhy⟩:=evO_ok hp hs
     clear hwhy
     split at hp
     ·rename_i l ver lo
      obtain⟨v,m,rm2,hat,hp⟩:=look_ok hp
      split at hp
      ·rename_i d0
       obtain⟨z,es,rfl,hb,e1,_⟩:=hp
       simp only[Bool.and_eq_true,decide_eq_true_eq,beq_iff_eq]at hb
       obtain⟨rfl,hlo⟩:=hb
       subst e1
       obtain⟨_,_,h2⟩:=hr
       obtain⟨q,hreal,hlr,hver⟩:=hs.at hat
       obtain⟨ad,len,cap,z',k1,k2,k3,k4,er⟩:=h2 hver.symm
       have hz:z'=1:=by simpa [St.zAt,hat,zOf]using k4.symm
       subst hz
       rw[hreal]at k1
       injection k1 with k1
       subst k1
       obtain⟨ad',len',cap',f1,f2,f3,y⟩:=(show OEl w.heap g.ro d0 (.sl 1 es) [_] _ from(LR.one hlr))
       injection f1 with f1;injection f1 with f1 f1b f1c
       subst f1;subst f1b;subst f1c
       obtain⟨hsp,c0,ty,hb,hbd,fp',hf,y⟩:=y
       obtain⟨bk,q0,sp⟩:=ad
       simp only at hsp hb hbd hf y
       subst hsp
       rw[Addr.add_lit]at er
       simp only[Nat.mul_one]at er hbd
       have hfit:q0+lo+(List.replicate (len-lo) (Value.int k n)).length≤c0.size:=by rw[List.length_replicate];omega
       have hst:=run_storeCells_at P bk (q0+lo) ty (List.replicate (len-lo) (Value.int k n)) 0 c0 w hb (by rw[Nat.add_zero];exact hfit) (fun v hv=>by rw[List.eq_of_mem_replicate hv];rfl)
       have hrun:(Builtin.clear_ c.argTypes o.type #[a.eval x]).run P w= .ok (.tuple #[]) (w.setRow bk (splice c0 (q0+lo) (List.replicate (len-lo) (Value.int k n)))):=by
        have hz1:z0.cells= #[.int k n]:=by rw[←Array.toArray_toList (xs:=z0.cells),hz0]
        have hzc:(Builtin.zeroCells z0.cells (len-lo)).toList=List.replicate (len-lo) (Value.int k n):=by
         rw[hz1]
         simp[Builtin.zeroCells]
         apply List.ext_getElem
         ·simp
         ·intro i h1 h2
          simp[Nat.mod_one]
        obtain⟨m0,hm0⟩:∃m,len-lo=m+1:=⟨len-lo-1,by omega⟩
        rw[hm0]at hst hzc ⊢
        rw[er,hm0]
        simp only[Nat.add_zero]at hst
        simp only[Builtin.clear_,ht,List.getElem?_toArray,List.getElem?_cons_zero,Sem.run_bind,run_underlying hu,Result.andThen_ok,hzv0,hzc,hst,Sem.run_pure]
        rfl
       have hrun2:(execOp a.eval o).run P w= .ok (.value (.tuple #[])) (w.setRow bk (splice c0 (q0+lo) (List.replicate (len-lo) (Value.int k n)))):=by
        simp only[execOp,ho,resolve,hc,hargs',pure_bind,invoke,builtin]
        simp only[List.map_toArray,List.map_cons,List.map_nil,Sem.run_bind,hrun];rfl
       let c2:=splice c0 (q0+lo) (List.replicate (len-lo) (Value.int k n))
       have hβ:bk∈g.fp l:=by rw[hf];simp
       have hndl:=hs.nd l
       rw[hf]at hndl
       have hnd:=List.nodup_cons.1 hndl
       have hβro:∀x,g.ro x→x≠bk:=fun x hx e=>(hs.free _ (ow_ne_loc (hs.own _ _ hβ))).1 (e▸hx)
       have hh:∀x,x≠bk→(w.setRow bk c2).heap[x]? =w.heap[x]? :=fun x h=>setRow_other h
       have hfar:∀j,j<(es.take lo).length→seg c2 (q0+j*1) 1=seg c0 (q0+j*1) 1:=fun j hj=>by
        rw[List.length_take]at hj
        exact splice_far hfit (.inl (by omega))
       have hzr:∀j,j<len-lo→c2[q0+(es.take lo).length*1+j]? =some (.int k n):=fun j hj=>by
        have hl:(es.take lo).length=lo:=by rw[List.length_take];omega
        rw[hl]
        show(splice c0 (q0+lo) _)[_]? =_
        rw[splice_get hfit,if_pos (by rw[List.length_replicate];omega),List.getElem?_replicate,if_pos (by omega)]
       have hlen2:len=(es.take lo++List.replicate (es.length-lo) (V.int k n)).length:=by
        rw[List.length_append,List.length_take,List.length_replicate];omega
       have hS:SimX fr ((valW l (.sl 1 (es.take lo++List.replicate (es.length-lo) (.int k n)))).app S) a (w.setRow bk c2):=by
        cases d0 with
        |true=>
         simp only[if_true]at y
         obtain⟨ft,y1,y2⟩:=OEs.take (n:=lo) y
         have hfb:∀x∈ft,x≠bk:=fun x hx e=>hnd.1 (e▸y2.subset hx)
         refine row_new (fp:=bk::ft) hs hat hreal ⟨rfl,rfl,rfl⟩ (by rw[setRow_size];exact Nat.le_refl _) (fun x _ hx=>hh x fun e=>hx (e▸hβ)) (fun x hx=> ?_) (List.nodup_cons.2 ⟨fun c=>hfb _ c rfl,y2.nodup hnd.2⟩) ?_
         ·rw[hf]
          rcases List.mem_cons.1 hx with h|h
          ·rw[h];exact List.mem_cons_self
          ·exact List.mem_cons_of_mem _ (y2.subset h)
         ·refine⟨some ⟨bk,q0,none⟩,len,cap,rfl,hlen2,f3,rfl,c2,ty,setRow_heap w _ c0 c2 ty (0,0) hb,by rw[splice_size hfit];simp only[Nat.mul_one];exact hbd,ft,rfl,?_⟩
          simp only[if_true]
          have y3:=OEs.same hfar (y1.mono (fun _ h=>h) (fun x hx=>hh x (hβro x hx)) (fun x hx=>hh x (hfb x hx)))
          have:=OEs.append y3 (OEs.zeros (d:=true) (k:=k) (n0:=n) (n:=es.length-lo) (by rw[←f2];exact hzr))
          rw[List.append_nil]at this
          exact this
        |false=>
         simp only[Bool.false_eq_true,if_false]at y
         refine row_new (fp:=[bk]) hs hat hreal ⟨rfl,rfl,rfl⟩ (by rw[setRow_size];exact Nat.le_refl _) (fun x _ hx=>hh x fun e=>hx (e▸hβ)) (fun x hx=> ?_) (by simp) ?_
         ·rw[List.mem_singleton.1 hx];exact hβ
         ·refine⟨some ⟨bk,q0,none⟩,len,cap,rfl,hlen2,f3,rfl,c2,ty,setRow_heap w _ c0 c2 ty (0,0) hb,by rw[splice_size hfit];simp only[Nat.mul_one];exact hbd,[],rfl,?_⟩
          simp only[Bool.false_eq_true,if_false]
          refine⟨trivial,?_⟩
          have y3:=REs.same hfar ((REs.take (n:=lo) y.2).mono (fun _ h=>h) (fun x hx=>hh x (hβro x hx)))
          exact REs.append y3 (REs.zeros (k:=k) (n0:=n) (n:=es.length-lo) (by rw[←f2];exact hzr))
       obtain⟨g2,hS⟩:=hS
       refine wp_val hrun2 ?_ hK
       exact sim_dst hS (s:=.undef) (fp:=[]) rfl (by simp) (by simp)
      ·exact hp.elim
     ·exact hp.elim
    ·exact hp.elim
   ·exact hp.elim
 ·exact hp.elim
end
section
variable {P : Program} {C : FuncId → List V → List V → Prop} {E : Env} {fr : Fr} {S : St} {a : Act} {w w' : World} {g : Gh} {pool : List Nat} {rm rm' : Nat} {ws : List Wr}
variable {o : Oper} {K : Act → World → Prop} {Q : Exit → Act → World → Prop}
theorem mapIB_ok(hE:EnvOK P E){t}(h:mapIB E t=true):∃k e,P.underlying t=some (.map k e)∧P.underlying k=some (.int .i64)∧P.underlying e=some .bool∧∀w,(zeroValue e).run P w= .ok (.bool false) w:=by
 unfold mapIB at h
 split at h
 ·rename_i d hd
  split at h
  ·rename_i k e hk
   split at h
   ·rename_i dk de hdk hde
    split at h
    ·rename_i h1 h2
     obtain⟨u,hu,he⟩:=(hE _ _ hd).under
     obtain⟨u1,hu1,he1⟩:=(hE _ _ hdk).under
     obtain⟨u2,hu2,he2⟩:=(hE _ _ hde).under
     have hb:=hu2.trans (congrArg some (ut_bool (he2.trans h2)))
     exact⟨k,e,hu.trans (congrArg some (ut_map (he.trans hk))),hu1.trans (congrArg some (ut_int (he1.trans h1))),hb,(hE _ _ hde).bz hb⟩
    ·cases h
   ·cases h
  ·cases h
 ·cases h
def mpIx:List (Int×Bool)→Int→Option Nat
 | [],_=>none
 |p::r,n=>bif n==p.1 then some 0 else(mpIx r n).map (· +1)
theorem mpGet_ix{n:Int}:∀{es:List (Int×Bool)},mpGet es n=(mpIx es n).bind fun j=>(es[j]?).map (·.2)
 | []=>rfl
 |p::r=>by
  unfold mpGet mpIx
  cases h:n==p.1 with
  |true=>rfl
  |false=>
   simp only[cond_false]
   rw[mpGet_ix (es:=r)]
   cases mpIx r n<;>simp
theorem mpPut_ix{n:Int}{b:Bool}:∀{es:List (Int×Bool)},mpPut es n b=(match mpIx es n with|some j=>es.set j (n,b)|none=>es++[(n,b)])
 | []=>rfl
 |p::r=>by
  unfold mpPut mpIx
  cases h:n==p.1 with
  |true=>rfl
  |false=>
   simp only[cond_false]
   rw[mpPut_ix (es:=r)]
   cases mpIx r n<;>simp
theorem mpIx_at{n:Int}:∀{es:List (Int×Bool)} {j:Nat},mpIx es n=some j→∃b,es[j]? =some (n,b)
 | [],_,h=>by cases h
 |p::r,j,h=>by
  unfold mpIx at h
  cases e:n==p.1 with
  |true=>
   rw[e]at h
   injection h with h
   subst h
   exact⟨p.2,by rw[beq_iff_eq.1 e];rfl⟩
  |false=>
   rw[e]at h
   simp only[cond_false,Option.map_eq_some_iff]at h
   obtain⟨j',h1,rfl⟩:=h
   obtain⟨b,hb⟩:=mpIx_at h1
   exact⟨b,by simpa using hb⟩
theorem find_ix{n:Int}:∀{es:List (Int×Bool)} {l:List MapEntry} {i:Nat},l.map (fun e=>(e.key,e.val))=es.map (fun p=>(Value.int .i64 p.1,Value.bool p.2))→
 Instr.findNow (.int .i64) (.int .i64 n) l i=some ((mpIx es n).bind fun j=>(es[j]?).map fun p=>(i+j,Value.bool p.2))
 | [],[],i,_=>rfl
 | [],_::_,_,h=>by simp at h
 |_::_,[],_,h=>by simp at h
 |p::es,e::l,i,h=>by
  simp only[List.map_cons,List.cons.injEq,Prod.mk.injEq]at h
  obtain⟨⟨h1,h2⟩,h3⟩:=h
  unfold Instr.findNow mpIx
  rw[h1,h2]
  simp only[Instr.sameNow,if_true]
  cases e:n==p.1 with
  |true=>simp
  |false=>
   simp only[cond_false]
   rw[find_ix h3]
   cases mpIx es n with
   |none=>rfl
   |some j=>simp only[Option.map_some,Option.bind_some,List.getElem?_cons_succ];rw[show i+1+j=i+(j+1)by omega]
theorem ck_int{b:Bool}{k:TypeId}{n:Int}(hk:P.underlying k=some (.int .i64)){w:World}:(Instr.checkKey b 10000 k (.int .i64 n)).run P w= .ok () w:=by
 show(Instr.checkKey b (9999+1) k (.int .i64 n)).run P w=_
 unfold Instr.checkKey
 simp only[Sem.run_bind,run_underlying hk,Result.andThen_ok]
 rfl
theorem fk_int{k:TypeId}{n:Int}{es:List (Int×Bool)}{l:Array MapEntry}(hk:P.underlying k=some (.int .i64))(hE:EntR es l){w:World}:
 (Instr.findKey k (.int .i64 n) l.toList).run P w= .ok ((mpIx es n).bind fun j=>(es[j]?).map fun p=>(j,Value.bool p.2)) w:=by
 unfold Instr.findKey
 simp only[Sem.run_bind,run_underlying hk,Result.andThen_ok]
 have:=find_ix (n:=n) (i:=0) hE
 rw[this]
 simp
theorem op_makeMap{rid i t r}(ho:o.op= .makeMap t r)(hp:PgR C S (opPg E rid i o) rm ws rm')(hs:Sim fr S a w g [])
 (hK:∀a' w',SimX fr (Wr.apps ws S) a' w'→K a' w'):o.wp P a w K Q:=by
 simp only[opPg,ho]at hp
 split at hp
 ·obtain⟨rfl,_⟩:=hp
  obtain⟨g',e1,e2,hs'⟩:=sim_alloc hs (.map #[] 0)
  refine wp_val (r:=.map (some w.heap.size)) (by simp only[execOp,ho,Option.map_none];rw[Sem.run_bind];rfl) ?_ hK
  simp only[List.nil_append]
  refine sim_dst hs' (s:=.one (.mp []) (.own true)) (fp:=[w.heap.size]) ?_ (by simp) (by simp)
  exact⟨_,#[],0,rfl,rfl,alloc_new,rfl⟩
 ·exact hp.elim
theorem RCs.part{h:Hp}{ro:Nat→Prop}:∀{n a:Nat} {cs:List V} {rs:List Value},RCs h ro cs rs→RCs h ro ((cs.drop a).take n) ((rs.drop a).take n)
 |0,a,cs,rs,_=>by simp[RCs]
 |n+1,0,[],rs,x=>by rw[show rs=[]from x];simp[RCs]
 |n+1,0,v::cs,rs,⟨r,q,e,h1,h2,h3⟩=>by
  subst e
  have:=RCs.part (n:=n) (a:=0) h3
  simp only[List.drop_zero]at this ⊢
  exact⟨r,q.take n,rfl,h1,h2,this⟩
 |n+1,a+1,[],rs,x=>by rw[show rs=[]from x];simp[RCs]
 |n+1,a+1,v::cs,rs,⟨r,q,e,h1,h2,h3⟩=>by
  subst e
  simp only[List.drop_succ_cons]
  exact RCs.part h3
theorem op_field(hE:EnvOK P E){rid i t x n}(ho:o.op= .field t x n)(hp:PgR C S (opPg E rid i o) rm ws rm')(hs:Sim fr S a w g [])
 (hK:∀a' w',SimX fr (Wr.apps ws S) a' w'→K a' w'):o.wp P a w K Q:=by
 simp only[opPg,ho]at hp
 split at hp
 ·rename_i d hd
  split at hp
  ·rename_i f hf
   split at hp
   ·rename_i fd hfd
    obtain⟨s,rm1,fp,hp,hr,_⟩:=evO_ok hp hs
    split at hp
    ·rename_i v
     obtain⟨cs,rfl,hp⟩:=hp
     obtain⟨hag,hp⟩:=hp
     obtain⟨rfl,_⟩:=hp
     obtain⟨rs,er,hc,hfp⟩:=(show∃rs,a.eval x= .agg rs∧RM w.heap g.ro .ro (.agg cs) rs.toList fp from hr)
     have hc:RCs w.heap g.ro cs rs.toList:=hc
     obtain⟨u,hu,he⟩:=(hE _ _ hd).under
     have hst:∃fs:Array Field,u= .struct fs∧∃fl,fs[n]? =some fl∧fl.offset=f.1∧fl.type=f.2:=by
      unfold fieldsOf at hf
      split at hf
      ·rename_i fs hk
       obtain⟨fa,h1,h2⟩:=ut_struct (he.trans hk)
       refine⟨fa,h1,?_⟩
       rw[h2,List.getElem?_map]at hf
       cases h3:fa[n]? with
       |none=>simp[h3]at hf
       |some fl=>
        simp only[Array.getElem?_toList,h3,Option.map_some,Option.some.injEq]at hf
        exact⟨fl,rfl,by rw[←hf],by rw[←hf]⟩
      ·simp at hf
     obtain⟨fa,rfl,fl,h3,h4,h5⟩:=hst
     have hrun:(Instr.field t (a.eval x) n).run P w= .ok (.agg (rs.extract f.1 (f.1+fd.size))) w:=by
      rw[er]
      unfold Instr.field
      have e1:(asAgg (.agg rs)).run P w= .ok rs w:=rfl
      simp only[Sem.run_bind,run_underlying hu,Result.andThen_ok,h3,e1]
      unfold part
      rw[h5,h4]
      simp only[Sem.run_bind,isAgg_run hE hfd,Result.andThen_ok,hag,if_true,sizeOf_run hE hfd,Sem.run_pure]
     refine wp_val (r:=.agg (rs.extract f.1 (f.1+fd.size))) (by simp only[execOp,ho];rw[Sem.run_bind,hrun];rfl) ?_ hK
     simp only[List.nil_append]
     refine sim_dst hs (s:=.one (.agg ((cs.drop f.1).take fd.size)) .ro) (fp:=[]) ⟨_,rfl,?_,rfl⟩ (by simp) (by simp)
     have:=RCs.part (n:=fd.size) (a:=f.1) hc
     have e2:(rs.extract f.1 (f.1+fd.size)).toList=(rs.toList.drop f.1).take fd.size:=by
      simp[List.extract]
     rw[e2];exact this
    ·exact hp.elim
   ·exact hp.elim
  ·exact hp.elim
 ·exact hp.elim
theorem op_lookup(hE:EnvOK P E){rid i t x ix ok}(ho:o.op= .lookup t x ix ok)(hp:PgR C S (opPg E rid i o) rm ws rm')(hs:Sim fr S a w g [])
 (hK:∀a' w',SimX fr (Wr.apps ws S) a' w'→K a' w'):o.wp P a w K Q:=by
 simp only[opPg,ho]at hp
 obtain⟨hm,hp⟩:=hp
 obtain⟨k,e,u1,u2,u3,hz⟩:=mapIB_ok hE hm
 obtain⟨v,rm1,hp,xv⟩:=val1_ok hp hs
 obtain⟨es,rfl,hp⟩:=hp
 obtain⟨iv,rm2,hp,xi⟩:=val1_ok hp hs
 obtain⟨kd,n,rfl,hp⟩:=hp
 obtain⟨hkd,hp⟩:=hp
 have hkd:kd= .i64:=of_decide_eq_true hkd
 subst hkd
 obtain⟨rfl,_⟩:=hp
 have ei:=rv_int xi
 obtain⟨b,l,cl,ev,hb,hEn⟩:=rv_mp xv
 have hrun:(Instr.lookup t (a.eval x) (a.eval ix) ok).run P w= .ok (if ok then .tuple #[.bool ((mpGet es n).getD false),.bool (mpGet es n).isSome]else .bool ((mpGet es n).getD false)) w:=by
  rw[ev,ei]
  unfold Instr.lookup
  simp only[Sem.run_bind,run_underlying u1,Result.andThen_ok,MapKept.run_getObj_map hb,Sem.run_pure,ck_int u2,fk_int u2 hEn]
  rw[mpGet_ix]
  cases hj:mpIx es n with
  |none=>simp only[Option.bind_none,Sem.run_bind,hz,Result.andThen_ok,Sem.run_pure,Option.getD_none,Option.isSome_none,if_true]
  |some j=>
   obtain⟨bb,h2⟩:=mpIx_at hj
   simp only[Option.bind_some,h2,Option.map_some,Sem.run_pure,Result.andThen_ok,Option.getD_some,Option.isSome_some,if_true]
   rfl
 refine wp_val (by simp only[execOp,ho];rw[Sem.run_bind,hrun];rfl) ?_ hK
 cases ok with
 |false=>exact done_val hs (v:=.bool _) (m:=.pr) ⟨rfl,rfl,rfl⟩
 |true=>
 exact sim_dst hs (s:=.tup _) (fp:=[]) ⟨_,rfl,_,_,[],[],rfl,rfl,⟨rfl,rfl,rfl⟩,_,_,[],[],rfl,rfl,⟨rfl,rfl,rfl⟩,rfl,rfl⟩ (by simp) (by simp)
theorem entR_set{es:List (Int×Bool)}{l:Array MapEntry}{n:Int}{b:Bool}{j:Nat}(hE:EntR es l)(hj:j<l.size){k:Value}(hk:k= .int .i64 n):EntR (es.set j (n,b)) (l.modify j fun e=>{e with key:=k,val:=.bool b}):=by
 subst hk
 unfold EntR at hE ⊢
 apply List.ext_getElem?
 intro i
 have h1:=congrArg (fun q:List (Value×Value)=>q[i]?) hE
 simp only[List.getElem?_map,Array.getElem?_toList]at h1
 simp only[List.getElem?_map,Array.getElem?_toList,Array.getElem?_modify,List.getElem?_set]
 by_cases e:j=i
 ·subst e
  have hl:j<es.length:=by
   have:=congrArg List.length hE
   simp only[List.length_map,Array.length_toList]at this
   omega
  simp[hl,hj]
 ·simp only[e,if_false];exact h1
theorem entR_push{es:List (Int×Bool)}{l:Array MapEntry}{n:Int}{b:Bool}(hE:EntR es l){c:Nat}:EntR (es++[(n,b)]) (l.push {key:=.int .i64 n,val:=.bool b,born:=c}):=by
 unfold EntR at hE ⊢
 rw[Array.toList_push,List.map_append,List.map_append,hE];rfl
theorem keyStays{k:Value}{n:Int}(hk:k= .int .i64 n){w:World}:(Instr.keyThatStays k (.int .i64 n)).run P w= .ok (.int .i64 n) w:=by
 subst hk
 unfold Instr.keyThatStays
 have:Instr.sameBits 10000 (.int .i64 n) (.int .i64 n)=true:=by
  show Instr.sameBits (9999+1) _ _=true
  unfold Instr.sameBits
  simp
 rw[this];rfl
theorem upd_place(hE:EnvOK P E){t}{x ix y:Operand}(ho:o.op= .mapUpdate t x ix y)(hdst:o.dst=none)(hm:mapIB E t=true)(hs:Sim fr S a w g []){l:Lo}{es:List (Int×Bool)}{d:Bool}{ver:Nat}(hat:S.at l=some (.mp es,.own d,ver))
 (hreal:realAt a.tmps w.heap g l=some (a.eval x)) {n:Int} {b:Bool} (ei:a.eval ix= .int .i64 n) (ey:a.eval y= .bool b)
 (hK:∀a' w',SimX fr ((valW l (.mp (mpPut es n b))).app S) a' w'→K a' w'):o.wp P a w K Q:=by
 obtain⟨k,e,u1,u2,u3,hz⟩:=mapIB_ok hE hm
 obtain⟨q,hq,hlr,hver⟩:=hs.at hat
 rw[hreal]at hq
 injection hq with hq
 obtain⟨bk,ar,cl,e1,e2,hb,hEn⟩:=(show OEl w.heap g.ro d (.mp es) [q] _ from(LR.one hlr))
 injection e1 with e1
 subst e1
 have hlen:ar.size=es.length:=by have:=congrArg List.length hEn;simpa using this
 obtain⟨ar',cl',hrun,hEn'⟩:∃ar' cl',(Instr.mapUpdate t (a.eval x) (a.eval ix) (a.eval y)).run P w= .ok () {w with heap:=w.heap.setIfInBounds bk (.map ar' cl')}∧EntR (mpPut es n b) ar':=by
  rw[hq,ei,ey]
  unfold Instr.mapUpdate
  simp only[Sem.run_bind,run_underlying u1,Result.andThen_ok,MapKept.run_getObj_map hb,ck_int u2,fk_int u2 hEn]
  rw[mpPut_ix]
  cases hj:mpIx es n with
  |none=>
   simp only[Option.bind_none]
   exact⟨_,_,MapKept.run_setObj_map _ hb,entR_push hEn⟩
  |some j=>
   obtain⟨bb,h2⟩:=mpIx_at hj
   have hjl:j<ar.size:=by rw[hlen];exact(List.getElem?_eq_some_iff.1 h2).1
   have hkey:((ar[j]?).map (·.key)).getD (Value.int .i64 n)= .int .i64 n:=by
    have h3:=congrArg (fun q:List (Value×Value)=>(q[j]?).map (·.1)) hEn
    simp only[List.getElem?_map,Array.getElem?_toList,h2,Option.map_some,Option.map_map]at h3
    have h4:(ar[j]?).map (·.key)=some (Value.int .i64 n):=h3
    rw[h4];rfl
   simp only[Option.bind_some,h2,Option.map_some,Sem.run_bind,keyStays hkey,Result.andThen_ok]
   exact⟨_,_,MapKept.run_setObj_map _ hb,entR_set hEn hjl rfl⟩
 have hβ:bk∈g.fp l:=by rw[e2];simp
 have hh:∀x',x'≠bk→(w.heap.setIfInBounds bk (Obj.map ar' cl'))[x']? =w.heap[x']? :=fun x' h=>by
  rw[Array.getElem?_setIfInBounds,if_neg (fun e=>h e.symm)]
 have hlt:bk<w.heap.size:=(Array.getElem?_eq_some_iff.1 hb).1
 have hel:OEl (w.heap.setIfInBounds bk (Obj.map ar' cl')) g.ro d (.mp (mpPut es n b)) [.map (some bk)] [bk]:=⟨bk,ar',cl',rfl,rfl,by rw[Array.getElem?_setIfInBounds,if_pos rfl,if_pos hlt],hEn'⟩
 have hlr2:LR (w.heap.setIfInBounds bk (Obj.map ar' cl')) {g with ro:=fun x=>g.ro x∨x∈[]} l (.own d) (.mp (mpPut es n b)) (.map (some bk)) [bk]:=by
  have e:({g with ro:=fun x=>g.ro x∨x∈[]}:Gh)=g:=by simp
  rw[e]
  cases l with
  |s t=>exact hel
  |b b j=>exact⟨rfl,hel⟩
 obtain⟨g',_,_,_,_,p5⟩:=sim_at (w':={w with heap:=w.heap.setIfInBounds bk (.map ar' cl')}) (fp:=[bk]) (fz:=[]) (pool':=[]) hs hat (by rw[hreal,hq]) (locW_val hat (.mp (mpPut es n b))) (.inr ⟨rfl,fun q hq=>by simp[zOf]at hq⟩) ⟨rfl,rfl,rfl⟩ (by simp)
  (fun x' _ _ hx=>hh x' fun e=>hx (e▸hβ)) (fun x' hx=>.inr (by rw[List.mem_singleton.1 hx];exact hβ)) (by simp) (by simp) (by simp) (by simp) (by simp) (by simp) (.inr hlr2)
 have hrun2:(execOp a.eval o).run P w= .ok .skip {w with heap:=w.heap.setIfInBounds bk (.map ar' cl')}:=by
  simp only[execOp,ho,Sem.run_bind,hrun,Result.andThen_ok,Sem.run_pure]
 refine wp_skip (ws:=[valW l (.mp (mpPut es n b))]) hrun2 ?_ hK
 rw[hdst]
 exact⟨g',p5⟩
theorem op_mapUpdate(hE:EnvOK P E){rid i t x ix y}(ho:o.op= .mapUpdate t x ix y)(hp:PgR C S (opPg E rid i o) rm ws rm')(hs:Sim fr S a w g [])
 (hK:∀a' w',SimX fr (Wr.apps ws S) a' w'→K a' w'):o.wp P a w K Q:=by
 simp only[opPg,ho]at hp
 obtain⟨hc,hp⟩:=hp
 simp only[Bool.and_eq_true,Option.isNone_iff_eq_none]at hc
 obtain⟨hdst,hm⟩:=hc
 obtain⟨iv,rm2,hp,xi⟩:=val1_ok hp hs
 obtain⟨kd,n,rfl,hp⟩:=hp
 obtain⟨hkd,hp⟩:=hp
 have hkd:kd= .i64:=of_decide_eq_true hkd
 subst hkd
 obtain⟨yv,rm3,hp,xy⟩:=val1_ok hp hs
 obtain⟨b,rfl,hp⟩:=hp
 cases x with
 |tmp u=>
  have hp:PgR C S (match (S.sl u).1 with
   | .one v (.own _)=>.asMp v fun es=>.ret [.val u (.mp (mpPut es n b))]
   | .ref l ver=>look l ver fun v m _ _ kp=>match m with
     | .own _=>.asMp v fun es=>.ret [kp (.mp (mpPut es n b))]
     |_=>.fail
   |_=>.fail) _ ws rm':=hp
  rcases sl_case S u with⟨ver,h1,_⟩|⟨_,h2⟩
  ·have hsl:=hs.slot h1
   split at hp
   ·rename_i v d hv
    obtain⟨es,rfl,hp⟩:=hp
    obtain⟨rfl,_⟩:=hp
    rw[hv]at h1
    have hat:S.at (.s u)=some (.mp es,.own d,ver):=by simp only[St.at,h1]
    obtain⟨q,hq,_,_⟩:=hs.at hat
    refine upd_place hE ho hdst hm hs hat ?_ (rv_int xi) (rv_bool xy) hK
    rw[hq]
    have hq:a.tmps[u]? =some q:=hq
    show some q=some (a.eval (.tmp u))
    simp only[Act.eval];rw[Array.getD_eq_getD_getElem?,hq];rfl
   ·rename_i l ver' hv
    obtain⟨v,m,rm4,hat,hp⟩:=look_ok hp
    rw[hv]at hsl
    split at hp
    ·obtain⟨es,rfl,hp⟩:=hp
     obtain⟨rfl,_⟩:=hp
     obtain⟨_,_,h3⟩:=hsl
     obtain⟨q,hq,_,hver⟩:=hs.at hat
     exact upd_place hE ho hdst hm hs hat (h3 hver.symm) (rv_int xi) (rv_bool xy) hK
    ·exact hp.elim
   ·exact hp.elim
  ·rw[h2]at hp;exact hp.elim
 |_=>exact hp.elim
end
end Go.VM
