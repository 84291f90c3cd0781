/- The rules of sets. -/
import Derived.Test.YtmoinimakjddiaaDoorSr1
import Derived.Test.YtmoinimakjddiaaDoorRows
import Derived.WalkKit
import Derived.ProofKit
import Derived.OpenShut
import Derived.ShutString
import Derived.ChangeOld
import Derived.Below
import Derived.SizedLaws
import Derived.LaidMore
import Derived.Lay
import Derived.SevenTiedAt
import Derived.Stop.Joined
import Derived.Test.YtmoinimakjddiaaDoorCards
import Derived.Test.YtmoinimakjddiaaDoorTie
open Go Go.VM
set_option linter.unusedVariables false
set_option maxRecDepth 100000
set_option maxHeartbeats 16000000
namespace Go.Proofs.YtmoinimakjddiaaDoor.Vm
theorem srSOr(j:Nat):SOrOK (sr 10000 (j+1)):=fun a b c d p q K h g=>sr_W (sor_ok (k:=10000) (G:=sr 10000 j) a b c d p q some h g)
theorem srSAnd(j:Nat):SAndOK (sr 10000 (j+1)):=fun a b c d p q K h g=>sr_W (sand_ok (k:=10000) (G:=sr 10000 j) a b c d p q some h g)
theorem srSLen(j:Nat):SLenOK (sr 10000 (j+1)):=fun a b p K h=>sr_W (slen_ok (k:=10000) (G:=sr 10000 j) a b p some h)
theorem evSr:∃N:Nat,∀k:Nat,N≤k→∀(u v w:List V) (K:List V→Option (List V)),IntsS u→IntsS v→IntsS w→W (fun o=>o=[.bool true]) K (sr 10000 N 6 [.sl 1 u,.sl 1 v,.sl 1 w] K):=by
 refine⟨21,fun k _ u v w K hu hv hw=> ?_⟩
 refine sr_W (j:=20) ?_
 show W _ some (f6 (sr 10000 20) 10000 u v w some)
 exact rules_law (srFew 19) srKn (srOf 17) (srNot 19) (srSOr 19) (srSAnd 19) (srSLen 19) u v w some hu hv hw
end Go.Proofs.YtmoinimakjddiaaDoor.Vm
namespace Go.Proofs.YtmoinimakjddiaaDoor.setRulesRow
open Go.ChangeShapes Go.WideShapes Go.ChangeAt Go.RowKit
open Go.ChangeMaps (open_string shut_string)
set_option linter.unusedVariables false
theorem own:ownKnob Tryd.prog.godebug=none:=by kernel_rfl
theorem laidOut:laidOutB Tryd.prog=true:=by kernel_rfl
theorem tab_cell{W:World}(h:laidMetH Tryd.prog Rows.setRulesRow.laid W)(r:Nat)(hr:r<64):W.cell? ⟨0,r,none⟩=some (.int .u8 ((Lib.deBruijn64tab.getD r 0:Nat):Int)):=by
 rw[MakeChecks.laidMetH_plain _ _ _ (by kernel_rfl)]at h
 obtain⟨ps,⟨g,t,cs,fuel,p,q,hg,ht,hv,hd,_,_⟩,_,_⟩:=h
 obtain rfl:=Option.some.inj ((show Tryd.prog.globalNamed "math/bits.deBruijn64tab" =some 0 by kernel_rfl).symm.trans hg)
 obtain rfl:=Option.some.inj ((show(Tryd.prog.globals[0]?).map (·.type)=some 49 by kernel_rfl).symm.trans ht)
 obtain⟨xs,m,_,ex,_,hl,hel⟩:=DataW.trod_array Tryd.underlying49 hd
 have c5:Tryd.prog.cellsOf 5=1:=by kernel_rfl
 have hE:=hel r hr
 rw[c5,Nat.mul_one,List.getElem?_eq_getElem (by omega)]at hE
 obtain⟨z,e1,e2,_⟩:=DataW.trod_int Tryd.underlying5 hE
 have hlen:Lib.deBruijn64tab.length=64:=by kernel_rfl
 have e3:(xs.map (·.1))=Lib.deBruijn64tab.map fun n:Nat=>.lit (.int .u8 (n:Int)):=(DataW.agg.inj (Prod.mk.inj ex).1).symm
 have e4:(xs.map (·.1))[r]? =(Lib.deBruijn64tab.map fun n:Nat=>(DataW.lit (.int .u8 (n:Int)):DataW Unit))[r]? :=by rw[e3]
 rw[List.getElem?_map,List.getElem?_map,List.getElem?_eq_getElem (by omega:r<xs.length),List.getElem?_eq_getElem (by omega:r<Lib.deBruijn64tab.length),e2]at e4
 have hz:z=((Lib.deBruijn64tab.getD r 0:Nat):Int):=by
  simp only[Option.map_some,Option.some.injEq,DataW.lit.injEq,Lit.int.injEq,true_and]at e4
  rw[e4,List.getD,List.getElem?_eq_getElem (by omega:r<Lib.deBruijn64tab.length)];rfl
 rw[World.var?_cell hg hv r,←hz]
 have:cs.toList[r]? =some (.int .u8 z):=by
  have h0:((cs.toList.drop r).take 1)[0]? =some (.int .u8 z):=by rw[e1];rfl
  simpa using h0
 simpa using this
theorem tab_H{W:World}(h:laidMetH Tryd.prog Rows.setRulesRow.laid W):VM.TabH W.heap 0 (Lib.deBruijn64tab.map fun n:Nat=>Value.int .u8 (n:Int)):=by
 have h0:=tab_cell h 0 (by decide)
 cases hb:W.heap[0]? with
 |none=>simp[World.cell?,hb]at h0
 |some o=>
  cases o with
  |cells c ty fz=>
   refine⟨c,ty,fz,hb,fun j v hv=> ?_⟩
   rw[List.getElem?_map,Option.map_eq_some_iff]at hv
   obtain⟨n,h1,rfl⟩:=hv
   have hj:j<64:=(List.getElem?_eq_some_iff.1 h1).1
   have:=tab_cell h j hj
   rw[List.getD_eq_getElem?_getD,h1]at this
   simpa [World.cell?,hb]using this
  |_=>simp[World.cell?,hb]at h0
theorem walk(a0:Option Addr)(len0 cap0:Nat)(zs0:List Int)(a1:Option Addr)(len1 cap1:Nat)(zs1:List Int)(a2:Option Addr)(len2 cap2:Nat)(zs2:List Int)(W:World)(hT:VM.TabH W.heap 0 (Lib.deBruijn64tab.map fun n:Nat=>Value.int .u8 (n:Int)))(hr0:VM.IsRow .i64 W a0 len0 cap0 zs0)(hz0:∀n∈zs0,(Lit.int .i64 n).wf=true)(hr1:VM.IsRow .i64 W a1 len1 cap1 zs1)(hz1:∀n∈zs1,(Lit.int .i64 n).wf=true)(hr2:VM.IsRow .i64 W a2 len2 cap2 zs2)(hz2:∀n∈zs2,(Lit.int .i64 n).wf=true):
 Calls Tryd.prog 6 #[.slice a0 len0 cap0,.slice a1 len1 cap1,.slice a2 len2 cap2] W fun e W'=>e= .returned (.bool true)∧Below W.heap.size W W':=by
 obtain⟨N,hN⟩:=Vm.evSr
 have hi0:=VM.ints_of (len:=len0) hz0
 have hi1:=VM.ints_of (len:=len1) hz1
 have hi2:=VM.ints_of (len:=len2) hz2
 obtain⟨o,h0,h1⟩:=hN N (Nat.le_refl N) ((zs0.take len0).map fun n=>.int .i64 n) ((zs1.take len1).map fun n=>.int .i64 n) ((zs2.take len2).map fun n=>.int .i64 n) (fun o=>some o) hi0 hi1 hi2
 subst h0
 obtain⟨o,h2,h3⟩:=Vm.sr_sound 10000 N 6 _ _ _ h1
 injection h3 with h3
 subst h3
 exact VM.law_calls Vm.TAB_chk (f:=6) (sg:=Vm.S6) (kd:=.bool) rfl rfl rfl rfl h2 (VM.argsL_row hr0 (VM.argsL_row hr1 (VM.argsL_row hr2 VM.argsL_nil))) (htab:=fun b o e=>by cases e;exact hT)
set_option maxRecDepth 100000 in
theorem lifted(os:Os)(started:os.Started)(H:Type)(enc:TypeId×Value→H):
 ReturnsInHanded {} Tryd.checked os 6 .any (fun w args=>(Rows.setRulesSpec.pre enc Tryd.prog Tryd.f6 Rows.setRulesRow.domain false w args∧laidMetH Tryd.prog Rows.setRulesRow.laid w)∧sizedMet enc Tryd.prog Tryd.f6 (OpenSpec.ofChange Rows.setRulesSpec) false w args)
  (Rows.setRulesSpec.post enc Tryd.prog Tryd.f6 false true false false):=by
 refine returnsInHanded_of_change_and (C:=Tryd.checked) (X:=fun w _=>laidMetH Tryd.prog Rows.setRulesRow.laid w) (fun _ _ _ hh h=>h.of_heap hh) own started (by kernel_rfl) Tryd.func6
  (ChangeSpec.witness_shaped (enc:=enc) (C:=Tryd.checked) (os:=os) (X:=fun w _=>laidMetH Tryd.prog Rows.setRulesRow.laid w) false (World.laidAll Tryd.prog os Rows.setRulesRow.laid) #[.slice none 0 0,.slice none 0 0,.slice none 0 0] 8 (World.laidAll_os _ _ _)
    (World.shaped_of_ZipB (by kernel_rfl) (by kernel_rfl)) (by kernel_rfl) (by kernel_rfl) (by kernel_rfl)
    (by rw[MakeChecks.laidMetH_plain _ _ _ (by kernel_rfl)];exact laidMet_laidAll _ (by kernel_rfl) (by kernel_rfl))) ?_
 intro W base args ds gs before hval0 hW hcnd hsz0 hL _
 have hval:∀(j:Nat) t v,Tryd.f6.params[j]? =some t→args[j]? =some v→Value.okWide Tryd.prog W .any base t v:=hval0
 have hW':=hW
 obtain⟨p,q,hA0,hV,rfl,hfz,hnd⟩:=hW
 have hA:DataW.TrodAll enc Tryd.prog W 0 (fun _=>true) true Tryd.f6.params.toList args.toList ds p:=hA0
 rw[Tryd.params6]at hA hval
 obtain⟨v0,vs0,d0,ds0,p0,q0,hargs,rfl,rfl,h0,r0⟩:=trodAll_cons hA
 obtain⟨v1,vs1,d1,ds1,p1,q1,rfl,rfl,rfl,h1,r1⟩:=trodAll_cons r0
 obtain⟨v2,vs2,d2,ds2,p2,q2,rfl,rfl,rfl,h2,r2⟩:=trodAll_cons r1
 obtain⟨rfl,rfl,rfl⟩:=trodAll_nil r2
 obtain rfl:args= #[v0,v1,v2]:=by cases args;simp_all
 obtain⟨rfl,rfl⟩:=trodVars_none hV
 obtain⟨a0,len0,cap0,rfl⟩:=okWide_slice Tryd.underlying22 (hval 0 22 v0 rfl rfl)
 have k0:=h0
 have lt0:∀x∈p0,x.block<W.heap.size:=by obtain⟨m,hm⟩:=k0;exact DataW.trod_lt m _ _ _ hm
 obtain⟨z0,w0,y0⟩:∃zs,VM.IsRow .i64 W a0 len0 cap0 zs∧∀n∈zs,(Lit.int .i64 n).wf=true:=by
  obtain⟨fuel,hf⟩:=h0
  rcases open_ints Tryd.underlying22 Tryd.underlying3 (by kernel_rfl) hf with⟨hcs,_⟩|⟨x,l,c,zs,hcs,_,hl,hm,hz,_,hcell,hwz⟩
  ·simp[Value.cells]at hcs
   obtain⟨rfl,rfl,rfl⟩:=hcs
   exact⟨[],.inl ⟨rfl,rfl,rfl,rfl⟩,by simp⟩
  ·simp[Value.cells]at hcs
   obtain⟨rfl,rfl,rfl⟩:=hcs
   exact⟨zs,.inr ⟨_,rfl,hl,by simpa using hz,hcell⟩,hwz⟩
 obtain⟨a1,len1,cap1,rfl⟩:=okWide_slice Tryd.underlying22 (hval 1 22 v1 rfl rfl)
 have k1:=h1
 have lt1:∀x∈p1,x.block<W.heap.size:=by obtain⟨m,hm⟩:=k1;exact DataW.trod_lt m _ _ _ hm
 obtain⟨z1,w1,y1⟩:∃zs,VM.IsRow .i64 W a1 len1 cap1 zs∧∀n∈zs,(Lit.int .i64 n).wf=true:=by
  obtain⟨fuel,hf⟩:=h1
  rcases open_ints Tryd.underlying22 Tryd.underlying3 (by kernel_rfl) hf with⟨hcs,_⟩|⟨x,l,c,zs,hcs,_,hl,hm,hz,_,hcell,hwz⟩
  ·simp[Value.cells]at hcs
   obtain⟨rfl,rfl,rfl⟩:=hcs
   exact⟨[],.inl ⟨rfl,rfl,rfl,rfl⟩,by simp⟩
  ·simp[Value.cells]at hcs
   obtain⟨rfl,rfl,rfl⟩:=hcs
   exact⟨zs,.inr ⟨_,rfl,hl,by simpa using hz,hcell⟩,hwz⟩
 obtain⟨a2,len2,cap2,rfl⟩:=okWide_slice Tryd.underlying22 (hval 2 22 v2 rfl rfl)
 have k2:=h2
 have lt2:∀x∈p2,x.block<W.heap.size:=by obtain⟨m,hm⟩:=k2;exact DataW.trod_lt m _ _ _ hm
 obtain⟨z2,w2,y2⟩:∃zs,VM.IsRow .i64 W a2 len2 cap2 zs∧∀n∈zs,(Lit.int .i64 n).wf=true:=by
  obtain⟨fuel,hf⟩:=h2
  rcases open_ints Tryd.underlying22 Tryd.underlying3 (by kernel_rfl) hf with⟨hcs,_⟩|⟨x,l,c,zs,hcs,_,hl,hm,hz,_,hcell,hwz⟩
  ·simp[Value.cells]at hcs
   obtain⟨rfl,rfl,rfl⟩:=hcs
   exact⟨[],.inl ⟨rfl,rfl,rfl,rfl⟩,by simp⟩
  ·simp[Value.cells]at hcs
   obtain⟨rfl,rfl,rfl⟩:=hcs
   exact⟨zs,.inr ⟨_,rfl,hl,by simpa using hz,hcell⟩,hwz⟩
 clear hA0 hval0 hsz0
 refine(walk a0 len0 cap0 z0 a1 len1 cap1 z1 a2 len2 cap2 z2 W (tab_H hL) w0 y0 w1 y1 w2 y2).mono fun e W' ⟨he,bel⟩=> ?_
 subst he
 exact⟨_,rfl,_,_,_,[],_,[],hW',trodAll_mk1 (shut_bool Tryd.underlying4 _),(trodAll_cons_mk (Below.trod laidOut (by kernel_rfl) (of_decide_eq_true (by kernel_rfl)) k0 bel lt0) (trodAll_cons_mk (Below.trod laidOut (by kernel_rfl) (of_decide_eq_true (by kernel_rfl)) k1 bel lt1) (trodAll_cons_mk (Below.trod laidOut (by kernel_rfl) (of_decide_eq_true (by kernel_rfl)) k2 bel lt2) trodAll_mk0))),rfl,bel.frame _,fun h=>by cases h⟩
theorem over:Rows.setRulesRow.holds Tryd.pinned (OpenSpec.ofChange Rows.setRulesSpec):=
 OpenClaim.holds_of_wide 6 Tryd.f6 rfl rfl rfl rfl rfl rfl rfl ⟨rfl,rfl,rfl,rfl,rfl⟩ rfl rfl rfl rfl rfl (by kernel_rfl) Tryd.func6 (by kernel_rfl)
  (of_decide_eq_true (by kernel_rfl)) (by unfold Func.isWrapper;first|(rw[if_pos (by decide+kernel)];kernel_rfl)|(rw[if_neg (by decide+kernel)];exact⟨rfl,rfl⟩))
  (fun os started H enc _=>lifted os started H enc)
theorem proved:Rows.SetRulesCardSaid:=
 Claim7.holds_tied_plain_at .later [] [.data] true Rows.setRulesCard.stood.harness false over (fun _ h=>by cases h) (by kernel_rfl) (fun _ h=>by cases h) setRules_row_tie rfl ⟨rfl,rfl⟩ (by kernel_rfl) rfl
  (fun f fn hf hfn=>by
    obtain rfl:f=6:=Option.some.inj ((show Tryd.prog.funcNamed "cotillion/cotillionlaw3.SetRules" =some 6 by kernel_rfl).symm.trans hf)|>.symm
    obtain rfl:fn=Tryd.f6:=(Option.some.inj (Tryd.func6.symm.trans hfn)).symm
    exact⟨by kernel_rfl,fun j t ht=>by
     rw[Tryd.params6]at ht
     have hm:t∈[22,22,22]:=by simpa using Array.mem_of_getElem? ht
     have hall:([22,22,22].all fun u=> !Tryd.prog.wantsStandIn u)=true:=by kernel_rfl
     exact(show Tryd.prog.wantsStandIn t=false by simpa using List.all_eq_true.1 hall t hm)⟩)
  (by kernel_rfl)
#print axioms proved
end Go.Proofs.YtmoinimakjddiaaDoor.setRulesRow
namespace Go.Proofs.YtmoinimakjddiaaDoor
/-- The row, under a short name, for the claim. -/
theorem setRules_holds:Rows.SetRulesCardSaid:=setRulesRow.proved
end Go.Proofs.YtmoinimakjddiaaDoor
