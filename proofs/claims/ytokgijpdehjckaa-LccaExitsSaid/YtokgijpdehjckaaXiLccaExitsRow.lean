/- LccaExits: lcca.Exit leaves what the document's Exit leaves -/
import Derived.Test.YtokgijpdehjckaaXi3
import Derived.Test.YtokgijpdehjckaaRows
import Derived.WalkKit
import Derived.ProofKit
import Derived.OpenShut
import Derived.ShutString
import Derived.ChangeOld
import Derived.Below
import Derived.SizedLaws
open Go Go.VM
set_option linter.unusedVariables false
set_option maxRecDepth 100000
set_option maxHeartbeats 8000000
namespace Go.Proofs.Ytokgijpdehjckaa.Vm
theorem evCIs:Ev CIsOK:=ev0 fun j=>by have e:=cis_ok (G:=xi 10000 j) (k:=10000);unfold CIsOK at e ⊢;(intros;refine xi_W ?_;apply e<;>assumption)
theorem evCIn:Ev CInOK:=evS evCIs fun j h=>by have e:=cin_ok (G:=xi 10000 j) (k:=10000) h;unfold CInOK at e ⊢;(intros;refine xi_W ?_;apply e<;>assumption)
theorem evIns:Ev InsOK:=evS evCIn fun j h=>by have e:=ins_ok (G:=xi 10000 j) (k:=10000) h;unfold InsOK at e ⊢;(intros;refine xi_W ?_;apply e<;>assumption)
theorem evNds:Ev NdsOK:=evS (evA evChart evNodes) fun j h=>by have e:=nds_ok (G:=xi 10000 j) (k:=10000) h.1 h.2;unfold NdsOK at e ⊢;(intros;refine xi_W ?_;apply e<;>assumption)
theorem evKnL:Ev KnLOK:=by
 refine⟨14,fun j hj=> ?_⟩
 obtain⟨j',rfl⟩:∃j',j=j'+14:=⟨j-14,by omega⟩
 intro K
 show _=_
 kernel_rfl
theorem evRKids:Ev (KidsOK 58):=evS evIs fun j h=>by have e:=rkids_ok (G:=xi 10000 j) (k:=10000) (by omega) h;unfold KidsOK at e ⊢;(intros;refine xi_W ?_;apply e<;>assumption)
theorem evSame:Ev SameOK:=ev0 fun j=>by have e:=same_ok (G:=xi 10000 j) (k:=10000) (by omega);unfold SameOK at e ⊢;(intros;refine xi_W ?_;apply e<;>assumption)
theorem evStates:Ev StatesOK:=evS (evA evRKids evIsSt) fun j h=>by have e:=states_ok (G:=xi 10000 j) (k:=10000) (by omega) h.1 h.2;unfold StatesOK at e ⊢;(intros;refine xi_W ?_;apply e<;>assumption)
theorem evSome:∀d,Ev (SomeOK d)
 |0=>evS (evA evStates evNext) fun j h=>by have e:=some_ok (G:=xi 10000 j) (k:=10000) (d:=0) (by omega) h.1 h.2 (fun d' e=>by omega);unfold SomeOK at e ⊢;(intros;refine xi_W ?_;apply e<;>assumption)
 |d+1=>evS (evA (evA evStates evNext) (evSome d)) fun j h=>by have e:=some_ok (G:=xi 10000 j) (k:=10000) (d:=d+1) (by omega) h.1.1 h.1.2 (fun d' e=>by cases e;exact h.2);unfold SomeOK at e ⊢;(intros;refine xi_W ?_;apply e<;>assumption)
theorem evExit:Ev ExitOK:=evS evIn fun j h=>by have e:=exit_ok (G:=xi 10000 j) (k:=10000) (by omega) h;unfold ExitOK at e ⊢;(intros;refine xi_W ?_;apply e<;>assumption)
theorem evXCls:Ev XClsX:=evS evIns fun j h=>by have e:=xcls_ok (G:=xi 10000 j) (k:=10000) h;unfold XClsX at e ⊢;(intros;refine xi_W ?_;apply e<;>assumption)
theorem evXIdx:Ev XIdxX:=evS evXCls fun j h=>by have e:=xidx_ok (G:=xi 10000 j) (k:=10000) (by omega) h;unfold XIdxX at e ⊢;(intros;refine xi_W ?_;apply e<;>assumption)
theorem evXCon:Ev XConX:=evS evXIdx fun j h=>by have e:=xcon_ok (G:=xi 10000 j) (k:=10000) h;unfold XConX at e ⊢;(intros;refine xi_W ?_;apply e<;>assumption)
theorem evNan:Ev NanX:=ev0 fun j=>by have e:=nan_ok (G:=xi 10000 j) (k:=10000);unfold NanX at e ⊢;(intros;refine xi_W ?_;apply e<;>assumption)
theorem evCmp:Ev CmpX:=evS evNan fun j h=>by have e:=cmp_ok (G:=xi 10000 j) (k:=10000) h;unfold CmpX at e ⊢;(intros;refine xi_W ?_;apply e<;>assumption)
theorem evInsS:Ev InsSX:=evS evCmp fun j h=>by have e:=inss_ok (G:=xi 10000 j) (k:=10000) (by omega) h;unfold InsSX at e ⊢;(intros;refine xi_W ?_;apply e<;>assumption)
theorem evPdq:Ev PdqX:=evS evInsS fun j h=>by have e:=pdq_ok (G:=xi 10000 j) (k:=10000) (by omega) h;unfold PdqX at e ⊢;(intros;refine xi_W ?_;apply e<;>assumption)
theorem evL64:Ev (L64X 88):=ev0 fun j=>by have e:=l64_ok (G:=xi 10000 j) (k:=10000);unfold L64X at e ⊢;(intros;refine xi_W ?_;apply e<;>assumption)
theorem evLen:Ev (L64X 67):=evS evL64 fun j h=>by have e:=len_ok (G:=xi 10000 j) (k:=10000) h;unfold L64X at e ⊢;(intros;refine xi_W ?_;apply e<;>assumption)
theorem evSort:Ev SortX:=evS (evA evPdq evLen) fun j h=>by have e:=sort_ok (G:=xi 10000 j) (k:=10000) h.1 h.2;unfold SortX at e ⊢;(intros;refine xi_W ?_;apply e<;>assumption)
theorem evComp:Ev CompX:=ev0 fun j=>by have e:=comp_ok (G:=xi 10000 j) (k:=10000) (by omega);unfold CompX at e ⊢;(intros;refine xi_W ?_;apply e<;>assumption)
theorem evRev:Ev RevX:=ev0 fun j=>by have e:=rev_ok (G:=xi 10000 j) (k:=10000);unfold RevX at e ⊢;(intros;refine xi_W ?_;apply e<;>assumption)
theorem evXExit:Ev XExitOK:=evS (evA (evA evXCon evSort) (evA evComp evRev)) fun j h=>by have e:=xexit_ok (G:=xi 10000 j) (k:=10000) (by omega) h.1.1 h.1.2 h.2.1 h.2.2;unfold XExitOK at e ⊢;(intros;refine xi_W ?_;apply e<;>assumption)
theorem evExitsLaw:Ev ExitsOK:=evS (evA (evA evKnL evNds) (evA (evA evPlace (evSome 200)) (evA evExit (evA evXExit evSame)))) fun j h=>by
 have e:=exits_law (G:=xi 10000 j) (k:=10000) (by omega) h.1.1 h.1.2 h.2.1.1 h.2.1.2 h.2.2.1 h.2.2.2.1 h.2.2.2.2
 unfold ExitsOK at e ⊢;(intros;refine xi_W ?_;apply e<;>assumption)
end Go.Proofs.Ytokgijpdehjckaa.Vm
namespace Go.Proofs.Ytokgijpdehjckaa.lccaExitsRow
open Go.ChangeShapes Go.WideShapes Go.ChangeAt Go.RowKit
open Go.ChangeMaps (open_string shut_string)
set_option linter.unusedVariables false
theorem own:ownKnob Try.prog.godebug=none:=by kernel_rfl
theorem laidOut:laidOutB Try.prog=true:=by kernel_rfl
theorem walk(a0:Option Addr)(len0 cap0:Nat)(zs0:List Int)(a1:Option Addr)(len1 cap1:Nat)(zs1:List Int)(a2:Option Addr)(len2 cap2:Nat)(zs2:List Int)(W:World)(hr0:VM.IsRow .i64 W a0 len0 cap0 zs0)(hz0:∀n∈zs0,(Lit.int .i64 n).wf=true)(hr1:VM.IsRow .i64 W a1 len1 cap1 zs1)(hz1:∀n∈zs1,(Lit.int .i64 n).wf=true)(hr2:VM.IsRow .i64 W a2 len2 cap2 zs2)(hz2:∀n∈zs2,(Lit.int .i64 n).wf=true):
 Calls Try.prog 5 #[.slice a0 len0 cap0,.slice a1 len1 cap1,.slice a2 len2 cap2] W fun e W'=>e= .returned (.bool true)∧Below W.heap.size W W':=by
 obtain⟨N,hN⟩:=Vm.evExitsLaw
 have hi0:=VM.ints_of (len:=len0) hz0
 have hi1:=VM.ints_of (len:=len1) hz1
 have hi2:=VM.ints_of (len:=len2) hz2
 obtain⟨o,h0,h1⟩:=hN N (Nat.le_refl N) ((zs0.take len0).map fun n=>.int .i64 n) ((zs1.take len1).map fun n=>.int .i64 n) ((zs2.take len2).map fun n=>.int .i64 n) (fun o=>some o) hi0 hi1 hi2
 subst h0
 obtain⟨o,h2,h3⟩:=Vm.xi_sound 10000 N 5 _ _ _ h1
 injection h3 with h3
 subst h3
 exact VM.law_calls Vm.TAB_chk (f:=5) (sg:=Vm.S5) (kd:=.bool) rfl rfl rfl rfl h2 (VM.argsL_row hr0 (VM.argsL_row hr1 (VM.argsL_row hr2 VM.argsL_nil)))
set_option maxRecDepth 100000 in
theorem lifted(os:Os)(started:os.Started)(H:Type)(enc:TypeId×Value→H):
 ReturnsInHanded {} Try.checked os 5 .any (Rows.lccaExitsSpec.pre6 enc Try.prog Try.f5 Rows.lccaExitsRow.domain false) (Rows.lccaExitsSpec.post enc Try.prog Try.f5 false true false false):=by
 refine returnsInHanded_of_change_sized (C:=Try.checked) own started (by kernel_rfl) Try.func5
  (ChangeSpec.witness6 (enc:=enc) (C:=Try.checked) false ⟨#[],#[.slice none 0 0,.slice none 0 0,.slice none 0 0],[]⟩ 8 (by kernel_rfl) (by kernel_rfl) (by kernel_rfl) (by kernel_rfl)) ?_
 intro W base args ds gs before hval0 hW hcnd hsz0 _
 have hval:∀(j:Nat) t v,Try.f5.params[j]? =some t→args[j]? =some v→Value.okWide Try.prog W .any base t v:=hval0
 have hW':=hW
 obtain⟨p,q,hA0,hV,rfl,hfz,hnd⟩:=hW
 have hA:DataW.TrodAll enc Try.prog W 0 (fun _=>true) true Try.f5.params.toList args.toList ds p:=hA0
 rw[Try.params5]at hA hval
 obtain⟨v0,vs0,d0,ds0,p0,q0,hargs,rfl,rfl,h0,r0⟩:=trodAll_cons hA
 obtain⟨v1,vs1,d1,ds1,p1,q1,rfl,rfl,rfl,h1,r1⟩:=trodAll_cons r0
 obtain⟨v2,vs2,d2,ds2,p2,q2,rfl,rfl,rfl,h2,r2⟩:=trodAll_cons r1
 obtain⟨rfl,rfl,rfl⟩:=trodAll_nil r2
 obtain rfl:args= #[v0,v1,v2]:=by cases args;simp_all
 obtain⟨rfl,rfl⟩:=trodVars_none hV
 obtain⟨a0,len0,cap0,rfl⟩:=okWide_slice Try.underlying22 (hval 0 22 v0 rfl rfl)
 have k0:=h0
 have lt0:∀x∈p0,x.block<W.heap.size:=by obtain⟨m,hm⟩:=k0;exact DataW.trod_lt m _ _ _ hm
 obtain⟨z0,w0,y0⟩:∃zs,VM.IsRow .i64 W a0 len0 cap0 zs∧∀n∈zs,(Lit.int .i64 n).wf=true:=by
  obtain⟨fuel,hf⟩:=h0
  rcases open_ints Try.underlying22 Try.underlying3 (by kernel_rfl) hf with⟨hcs,_⟩|⟨x,l,c,zs,hcs,_,hl,hm,hz,_,hcell,hwz⟩
  ·simp[Value.cells]at hcs
   obtain⟨rfl,rfl,rfl⟩:=hcs
   exact⟨[],.inl ⟨rfl,rfl,rfl,rfl⟩,by simp⟩
  ·simp[Value.cells]at hcs
   obtain⟨rfl,rfl,rfl⟩:=hcs
   exact⟨zs,.inr ⟨_,rfl,hl,by simpa using hz,hcell⟩,hwz⟩
 obtain⟨a1,len1,cap1,rfl⟩:=okWide_slice Try.underlying22 (hval 1 22 v1 rfl rfl)
 have k1:=h1
 have lt1:∀x∈p1,x.block<W.heap.size:=by obtain⟨m,hm⟩:=k1;exact DataW.trod_lt m _ _ _ hm
 obtain⟨z1,w1,y1⟩:∃zs,VM.IsRow .i64 W a1 len1 cap1 zs∧∀n∈zs,(Lit.int .i64 n).wf=true:=by
  obtain⟨fuel,hf⟩:=h1
  rcases open_ints Try.underlying22 Try.underlying3 (by kernel_rfl) hf with⟨hcs,_⟩|⟨x,l,c,zs,hcs,_,hl,hm,hz,_,hcell,hwz⟩
  ·simp[Value.cells]at hcs
   obtain⟨rfl,rfl,rfl⟩:=hcs
   exact⟨[],.inl ⟨rfl,rfl,rfl,rfl⟩,by simp⟩
  ·simp[Value.cells]at hcs
   obtain⟨rfl,rfl,rfl⟩:=hcs
   exact⟨zs,.inr ⟨_,rfl,hl,by simpa using hz,hcell⟩,hwz⟩
 obtain⟨a2,len2,cap2,rfl⟩:=okWide_slice Try.underlying22 (hval 2 22 v2 rfl rfl)
 have k2:=h2
 have lt2:∀x∈p2,x.block<W.heap.size:=by obtain⟨m,hm⟩:=k2;exact DataW.trod_lt m _ _ _ hm
 obtain⟨z2,w2,y2⟩:∃zs,VM.IsRow .i64 W a2 len2 cap2 zs∧∀n∈zs,(Lit.int .i64 n).wf=true:=by
  obtain⟨fuel,hf⟩:=h2
  rcases open_ints Try.underlying22 Try.underlying3 (by kernel_rfl) hf with⟨hcs,_⟩|⟨x,l,c,zs,hcs,_,hl,hm,hz,_,hcell,hwz⟩
  ·simp[Value.cells]at hcs
   obtain⟨rfl,rfl,rfl⟩:=hcs
   exact⟨[],.inl ⟨rfl,rfl,rfl,rfl⟩,by simp⟩
  ·simp[Value.cells]at hcs
   obtain⟨rfl,rfl,rfl⟩:=hcs
   exact⟨zs,.inr ⟨_,rfl,hl,by simpa using hz,hcell⟩,hwz⟩
 clear hA0 hval0 hsz0
 refine(walk a0 len0 cap0 z0 a1 len1 cap1 z1 a2 len2 cap2 z2 W w0 y0 w1 y1 w2 y2).mono fun e W' ⟨he,bel⟩=> ?_
 subst he
 exact⟨_,rfl,_,_,_,[],_,[],hW',trodAll_mk1 (shut_bool Try.underlying4 _),(trodAll_cons_mk (Below.trod laidOut (by kernel_rfl) (of_decide_eq_true (by kernel_rfl)) k0 bel lt0) (trodAll_cons_mk (Below.trod laidOut (by kernel_rfl) (of_decide_eq_true (by kernel_rfl)) k1 bel lt1) (trodAll_cons_mk (Below.trod laidOut (by kernel_rfl) (of_decide_eq_true (by kernel_rfl)) k2 bel lt2) trodAll_mk0))),rfl,bel.frame _,fun h=>by cases h⟩
theorem over:Rows.lccaExitsRow.holds Try.pinned (OpenSpec.ofChange Rows.lccaExitsSpec):=
 OpenClaim.holds_of_wide 5 Try.f5 rfl rfl rfl rfl rfl rfl rfl ⟨rfl,rfl,rfl,rfl,rfl⟩ rfl rfl rfl rfl rfl (by kernel_rfl) Try.func5 (by kernel_rfl)
  (of_decide_eq_true (by kernel_rfl)) (by unfold Func.isWrapper;first|(rw[if_pos (by decide+kernel)];kernel_rfl)|(rw[if_neg (by decide+kernel)];exact⟨rfl,rfl⟩))
  (fun os started H enc _=>lifted os started H enc)
theorem proved:Rows.LccaExitsSaid:=over
#print axioms proved
end Go.Proofs.Ytokgijpdehjckaa.lccaExitsRow
namespace Go.Proofs.Ytokgijpdehjckaa
/-- The row, under a short name, for the claim. -/
theorem lccaExits_holds:Rows.LccaExitsSaid:=lccaExitsRow.proved
end Go.Proofs.Ytokgijpdehjckaa
