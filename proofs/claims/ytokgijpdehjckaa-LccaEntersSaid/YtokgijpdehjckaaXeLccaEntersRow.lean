/- LccaEnters: what lcca.Enter lets in is entered below the parent -/
import Derived.Test.YtokgijpdehjckaaXe3
import Derived.Test.YtokgijpdehjckaaRows
import Derived.WalkKit
import Derived.ProofKit
import Derived.OpenShut
import Derived.ShutString
import Derived.ChangeOld
import Derived.Below
import Derived.SizedLaws
open Go Go.VM
set_option linter.unusedVariables false
set_option linter.unusedSimpArgs false
set_option maxRecDepth 100000
set_option maxHeartbeats 8000000
namespace Go.Proofs.Ytokgijpdehjckaa.Vm
theorem evCIs:Ev CIsOK:=ev0 fun j=>by have e:=cis_ok (G:=xe 10000 j) (k:=10000);unfold CIsOK at e ⊢;(intros;refine xe_W ?_;apply e<;>assumption)
theorem evCIn:Ev CInOK:=evS evCIs fun j h=>by have e:=cin_ok (G:=xe 10000 j) (k:=10000) h;unfold CInOK at e ⊢;(intros;refine xe_W ?_;apply e<;>assumption)
theorem evIns:Ev InsOK:=evS evCIn fun j h=>by have e:=ins_ok (G:=xe 10000 j) (k:=10000) h;unfold InsOK at e ⊢;(intros;refine xe_W ?_;apply e<;>assumption)
theorem evNds:Ev NdsOK:=evS (evA evChart evNodes) fun j h=>by have e:=nds_ok (G:=xe 10000 j) (k:=10000) h.1 h.2;unfold NdsOK at e ⊢;(intros;refine xe_W ?_;apply e<;>assumption)
theorem evKnL:Ev KnLOK:=by
 refine⟨14,fun j hj=> ?_⟩
 obtain⟨j',rfl⟩:∃j',j=j'+14:=⟨j-14,by omega⟩
 intro K
 show _=_
 kernel_rfl
theorem evRKids:Ev (KidsOK 58):=evS evIs fun j h=>by have e:=rkids_ok (G:=xe 10000 j) (k:=10000) (by omega) h;unfold KidsOK at e ⊢;(intros;refine xe_W ?_;apply e<;>assumption)
theorem evHas:Ev HasOK:=ev0 fun j=>by have e:=has_ok (G:=xe 10000 j) (k:=10000) (by omega);unfold HasOK at e ⊢;(intros;refine xe_W ?_;apply e<;>assumption)
theorem evSame:Ev SameOK:=ev0 fun j=>by have e:=same_ok (G:=xe 10000 j) (k:=10000) (by omega);unfold SameOK at e ⊢;(intros;refine xe_W ?_;apply e<;>assumption)
theorem evStates:Ev StatesOK:=evS (evA evRKids evIsSt) fun j h=>by have e:=states_ok (G:=xe 10000 j) (k:=10000) (by omega) h.1 h.2;unfold StatesOK at e ⊢;(intros;refine xe_W ?_;apply e<;>assumption)
theorem evSome:∀d,Ev (SomeOK d)
 |0=>evS (evA evStates evNext) fun j h=>by have e:=some_ok (G:=xe 10000 j) (k:=10000) (d:=0) (by omega) h.1 h.2 (fun d' e=>by omega);unfold SomeOK at e ⊢;(intros;refine xe_W ?_;apply e<;>assumption)
 |d+1=>evS (evA (evA evStates evNext) (evSome d)) fun j h=>by have e:=some_ok (G:=xe 10000 j) (k:=10000) (d:=d+1) (by omega) h.1.1 h.1.2 (fun d' e=>by cases e;exact h.2);unfold SomeOK at e ⊢;(intros;refine xe_W ?_;apply e<;>assumption)
theorem evRRem:Ev (RemOK 9):=evS (evA evIn (evA evIsSt evHas)) fun j h=>by have e:=rrem_ok (G:=xe 10000 j) (k:=10000) (by omega) h.1 h.2.1 h.2.2;unfold RemOK at e ⊢;(intros;refine xe_W ?_;apply e<;>assumption)
theorem evDom:Ev DomOK:=evS (evA evIs evIn) fun j h=>by have e:=dom_ok (G:=xe 10000 j) (k:=10000) (by omega) h.1 h.2;unfold DomOK at e ⊢;(intros;refine xe_W ?_;apply e<;>assumption)
theorem evOfS:Ev OfOK:=evS evHas fun j h=>by have e:=of_ok (G:=xe 10000 j) (k:=10000) (by omega) h;unfold OfOK at e ⊢;(intros;refine xe_W ?_;apply e<;>assumption)
theorem evAnyE:Ev AnyOK:=evS evIn fun j h=>by have e:=any_ok (G:=xe 10000 j) (k:=10000) (by omega) h;unfold AnyOK at e ⊢;(intros;refine xe_W ?_;apply e<;>assumption)
theorem evDn:∀d,Ev (fun G=>DnOK d G∧RegOK d G)
 |0=>by
  have h0:Ev (DnOK 0):=evS evIsSt fun j h=>by have e:=dn_ok (G:=xe 10000 j) (k:=10000) (d:=0) h (fun d' e=>by omega);unfold DnOK at e ⊢;(intros;refine xe_W ?_;apply e<;>assumption)
  exact evA h0 (evS (evA (evA evStates evAnyE) h0) fun j h=>by have e:=reg_ok (G:=xe 10000 j) (k:=10000) (d:=0) (by omega) h.1.1 h.1.2 h.2;unfold RegOK at e ⊢;(intros;refine xe_W ?_;apply e<;>assumption))
 |d+1=>by
  have h0:Ev (DnOK (d+1)):=evS (evA evIsSt (evDn d)) fun j h=>by have e:=dn_ok (G:=xe 10000 j) (k:=10000) (d:=d+1) h.1 (fun d' e=>by cases e;exact h.2);unfold DnOK at e ⊢;(intros;refine xe_W ?_;apply e<;>assumption)
  exact evA h0 (evS (evA (evA evStates evAnyE) h0) fun j h=>by have e:=reg_ok (G:=xe 10000 j) (k:=10000) (d:=d+1) (by omega) h.1.1 h.1.2 h.2;unfold RegOK at e ⊢;(intros;refine xe_W ?_;apply e<;>assumption))
theorem dn_less{G:ORC (List V)}{d:Nat}(h:DnOK 200 G∧RegOK 200 G)(hd:d≤200):DnOK d G∧RegOK d G:=
 ⟨fun ns a n hv e K T h1 h2 h3 h4 h5=>h.1 ns a n hv e K T h1 h2 h3 (by omega) h5,fun ns a n hv e K T h1 h2 h4 h5=>h.2 ns a n hv e K T h1 h2 (by omega) h5⟩
theorem evMeans:Ev MeansOK:=evS (evA evIsSt evStates) fun j h=>by have e:=means_ok (G:=xe 10000 j) (k:=10000) h.1 h.2;unfold MeansOK at e ⊢;(intros;refine xe_W ?_;apply e<;>assumption)
theorem evUp:Ev UpOK:=evS (evA evIn (evDn 200)) fun j h=>by have e:=up_ok (G:=xe 10000 j) (k:=10000) (by omega) h.1 h.2.2;unfold UpOK at e ⊢;(intros;refine xe_W ?_;apply e<;>assumption)
theorem evDnH:Ev DnHOK:=evS (evA (evA evIsSt (evDn 200)) (evA evMeans evUp)) fun j h=>by
 have e:=dnh_ok (G:=xe 10000 j) (k:=10000) (by omega) h.1.1 (fun d hd=>dn_less h.1.2 hd) h.2.1 h.2.2 (fun ns s n H e K T hl hs h3 hH he=>h.1.2.1 ns s n (rws H) e K T (by omega) hs h3 (by have:=T.seg.last s n hs;omega) (by have:=T.seg.last s n hs;omega))
 unfold DnHOK at e ⊢;(intros;refine xe_W ?_;apply e<;>assumption)
theorem evREnter:Ev REnterOK:=evS (evA (evA evIs evDnH) (evA evMeans (evA evUp evOfS))) fun j h=>by have e:=rent_ok (G:=xe 10000 j) (k:=10000) (by omega) h.1.1 h.1.2 h.2.1 h.2.2.1 h.2.2.2;unfold REnterOK at e ⊢;(intros;refine xe_W ?_;apply e<;>assumption)
theorem evRBeg:Ev RBegOK:=evS (evA (evDn 200) evOfS) fun j h=>by have e:=rbeg_ok (G:=xe 10000 j) (k:=10000) h.1.1 h.2;unfold RBegOK at e ⊢;(intros;refine xe_W ?_;apply e<;>assumption)
theorem evLis:Ev LisX:=ev0 fun j=>by have e:=lis_ok (G:=xe 10000 j) (k:=10000);unfold LisX at e ⊢;(intros;refine xe_W ?_;apply e<;>assumption)
theorem evHst:Ev HstX:=ev0 fun j=>by have e:=hst_ok (G:=xe 10000 j) (k:=10000);unfold HstX at e ⊢;(intros;refine xe_W ?_;apply e<;>assumption)
theorem evCls:Ev ClsX:=evS evHst fun j h=>by have e:=cls_ok (G:=xe 10000 j) (k:=10000) h;unfold ClsX at e ⊢;(intros;refine xe_W ?_;apply e<;>assumption)
theorem evIdx:Ev IdxX:=evS evCls fun j h=>by have e:=idx_ok (G:=xe 10000 j) (k:=10000) (by omega) h;unfold IdxX at e ⊢;(intros;refine xe_W ?_;apply e<;>assumption)
theorem evDel:Ev DelX:=evS (evA evIdx evCls) fun j h=>by have e:=del_ok (G:=xe 10000 j) (k:=10000) (by omega) h.1 h.2;unfold DelX at e ⊢;(intros;refine xe_W ?_;apply e<;>assumption)
theorem evCKids:Ev (KidsOK 42):=evS evCIs fun j h=>by have e:=ckids_ok (G:=xe 10000 j) (k:=10000) (by omega) h;unfold KidsOK at e ⊢;(intros;refine xe_W ?_;apply e<;>assumption)
theorem evLSt:Ev LStX:=evS (evA evCKids evDel) fun j h=>by have e:=lst_ok (G:=xe 10000 j) (k:=10000) h.1 h.2;unfold LStX at e ⊢;(intros;refine xe_W ?_;apply e<;>assumption)
theorem evMore:Ev MoreX:=ev0 fun j=>by have e:=more_ok (G:=xe 10000 j) (k:=10000);unfold MoreX at e ⊢;(intros;refine xe_W ?_;apply e<;>assumption)
theorem evEmp:Ev EmpX:=evS evCIn fun j h=>by have e:=emp_ok (G:=xe 10000 j) (k:=10000) (by omega) h;unfold EmpX at e ⊢;(intros;refine xe_W ?_;apply e<;>assumption)
theorem evCDn:∀d,Ev (fun G=>CDnOK d G∧CRegOK d G)
 |0=>by
  have h0:Ev (CDnOK 0):=evS (evA evLis (evA evMore evHst)) fun j h=>by have e:=cdn_ok (G:=xe 10000 j) (k:=10000) (d:=0) h.1 h.2.1 h.2.2 (fun d' e=>by omega);unfold CDnOK at e ⊢;(intros;refine xe_W ?_;apply e<;>assumption)
  exact evA h0 (evS (evA (evA evLSt evEmp) h0) fun j h=>by have e:=creg_ok (G:=xe 10000 j) (k:=10000) (d:=0) (by omega) h.1.1 h.1.2 h.2;unfold CRegOK at e ⊢;(intros;refine xe_W ?_;apply e<;>assumption))
 |d+1=>by
  have h0:Ev (CDnOK (d+1)):=evS (evA (evA evLis (evA evMore evHst)) (evCDn d)) fun j h=>by have e:=cdn_ok (G:=xe 10000 j) (k:=10000) (d:=d+1) h.1.1 h.1.2.1 h.1.2.2 (fun d' e=>by cases e;exact h.2);unfold CDnOK at e ⊢;(intros;refine xe_W ?_;apply e<;>assumption)
  exact evA h0 (evS (evA (evA evLSt evEmp) h0) fun j h=>by have e:=creg_ok (G:=xe 10000 j) (k:=10000) (d:=d+1) (by omega) h.1.1 h.1.2 h.2;unfold CRegOK at e ⊢;(intros;refine xe_W ?_;apply e<;>assumption))
theorem cdn_less{G:ORC (List V)}{d:Nat}(h:CDnOK 200 G∧CRegOK 200 G)(hd:d≤200):CDnOK d G∧CRegOK d G:=
 ⟨fun ns a n hv e c K T h1 h2 h3 h4 h5 h6 h7=>h.1 ns a n hv e c K T h1 h2 h3 (by omega) h5 h6 h7,fun ns a n hv e c K T h1 h2 h4 h5 h6 h7=>h.2 ns a n hv e c K T h1 h2 (by omega) h5 h6 h7⟩
theorem evCMeans:Ev CMeansOK:=evS (evA evLis (evA evHst evLSt)) fun j h=>by have e:=cmeans_ok (G:=xe 10000 j) (k:=10000) h.1 h.2.1 h.2.2;unfold CMeansOK at e ⊢;(intros;refine xe_W ?_;apply e<;>assumption)
theorem evCUp:Ev CUpOK:=evS (evA (evA evLis evIns) (evA evMore (evCDn 200))) fun j h=>by have e:=cup_ok (G:=xe 10000 j) (k:=10000) (by omega) h.1.1 h.1.2 h.2.1 h.2.2.2;unfold CUpOK at e ⊢;(intros;refine xe_W ?_;apply e<;>assumption)
theorem evCDnH:Ev CDnHOK:=evS (evA (evA evLis (evA evMore evHst)) (evA (evCDn 200) (evA evCMeans evCUp))) fun j h=>by
 have e:=cdnh_ok (G:=xe 10000 j) (k:=10000) (by omega) h.1.1 h.1.2.1 h.1.2.2 (fun d hd=>cdn_less h.2.1 hd) h.2.2.1 h.2.2.2
 unfold CDnHOK at e ⊢;(intros;refine xe_W ?_;apply e<;>assumption)
theorem evList:Ev ListX:=ev0 fun j=>by have e:=list_ok (G:=xe 10000 j) (k:=10000) (by omega);unfold ListX at e ⊢;(intros;refine xe_W ?_;apply e<;>assumption)
theorem evCEnter:Ev CEnterOK:=evS (evA (evA evLis evCDnH) (evA evCMeans (evA evCUp evList))) fun j h=>by have e:=cent_ok (G:=xe 10000 j) (k:=10000) (by omega) h.1.1 h.1.2 h.2.1 h.2.2.1 h.2.2.2;unfold CEnterOK at e ⊢;(intros;refine xe_W ?_;apply e<;>assumption)
theorem evCBeg:Ev CBegOK:=evS (evA (evCDn 200) evList) fun j h=>by have e:=cbeg_ok (G:=xe 10000 j) (k:=10000) h.1.1 h.2;unfold CBegOK at e ⊢;(intros;refine xe_W ?_;apply e<;>assumption)
theorem evHist:Ev HistOK:=ev0 fun j=>by have e:=hist_ok (G:=xe 10000 j) (k:=10000);unfold HistOK at e ⊢;(intros;refine xe_W ?_;apply e<;>assumption)
theorem evCLegal:Ev (LegalOK 17):=evS (evA evCIs (evA evHist evCKids)) fun j h=>by have e:=clegal_ok (G:=xe 10000 j) (k:=10000) (by omega) h.1 h.2.1 h.2.2;unfold LegalOK at e ⊢;(intros;refine xe_W ?_;apply e<;>assumption)
theorem evEntersLaw:Ev EntersOK:=evS (evA (evA (evA evKnL evNds) (evA evPlace evDom)) (evA (evA (evSome 200) evRRem) (evA (evA evCEnter evREnter) (evA (evA evCBeg evRBeg) (evA evSame evCLegal))))) fun j h=>by
 have e:=enters_law (G:=xe 10000 j) (k:=10000) (by omega) h.1.1.1 h.1.1.2 h.1.2.1 h.1.2.2 h.2.1.1 h.2.1.2 h.2.2.1.1 h.2.2.1.2 h.2.2.2.1.1 h.2.2.2.1.2 h.2.2.2.2.1 h.2.2.2.2.2
 unfold EntersOK at e ⊢;(intros;refine xe_W ?_;apply e<;>assumption)
end Go.Proofs.Ytokgijpdehjckaa.Vm
namespace Go.Proofs.Ytokgijpdehjckaa.lccaEntersRow
open Go.ChangeShapes Go.WideShapes Go.ChangeAt Go.RowKit
open Go.ChangeMaps (open_string shut_string)
set_option linter.unusedVariables false
theorem own:ownKnob Try.prog.godebug=none:=by kernel_rfl
theorem laidOut:laidOutB Try.prog=true:=by kernel_rfl
theorem walk(a0:Option Addr)(len0 cap0:Nat)(zs0:List Int)(a1:Option Addr)(len1 cap1:Nat)(zs1:List Int)(a2:Option Addr)(len2 cap2:Nat)(zs2:List Int)(a3:Option Addr)(len3 cap3:Nat)(zs3:List Int)(W:World)(hr0:VM.IsRow .i64 W a0 len0 cap0 zs0)(hz0:∀n∈zs0,(Lit.int .i64 n).wf=true)(hr1:VM.IsRow .i64 W a1 len1 cap1 zs1)(hz1:∀n∈zs1,(Lit.int .i64 n).wf=true)(hr2:VM.IsRow .i64 W a2 len2 cap2 zs2)(hz2:∀n∈zs2,(Lit.int .i64 n).wf=true)(hr3:VM.IsRow .i64 W a3 len3 cap3 zs3)(hz3:∀n∈zs3,(Lit.int .i64 n).wf=true):
 Calls Try.prog 3 #[.slice a0 len0 cap0,.slice a1 len1 cap1,.slice a2 len2 cap2,.slice a3 len3 cap3] W fun e W'=>e= .returned (.bool true)∧Below W.heap.size W W':=by
 obtain⟨N,hN⟩:=Vm.evEntersLaw
 have hi0:=VM.ints_of (len:=len0) hz0
 have hi1:=VM.ints_of (len:=len1) hz1
 have hi2:=VM.ints_of (len:=len2) hz2
 have hi3:=VM.ints_of (len:=len3) hz3
 obtain⟨o,h0,h1⟩:=hN N (Nat.le_refl N) ((zs0.take len0).map fun n=>.int .i64 n) ((zs1.take len1).map fun n=>.int .i64 n) ((zs2.take len2).map fun n=>.int .i64 n) ((zs3.take len3).map fun n=>.int .i64 n) (fun o=>some o) hi0 hi1 hi2 hi3
 subst h0
 obtain⟨o,h2,h3⟩:=Vm.xe_sound 10000 N 3 _ _ _ h1
 injection h3 with h3
 subst h3
 exact VM.law_calls Vm.TAB_chk (f:=3) (sg:=Vm.S3) (kd:=.bool) rfl rfl rfl rfl h2 (VM.argsL_row hr0 (VM.argsL_row hr1 (VM.argsL_row hr2 (VM.argsL_row hr3 VM.argsL_nil))))
set_option maxRecDepth 100000 in
theorem lifted(os:Os)(started:os.Started)(H:Type)(enc:TypeId×Value→H):
 ReturnsInHanded {} Try.checked os 3 .any (Rows.lccaEntersSpec.pre6 enc Try.prog Try.f3 Rows.lccaEntersRow.domain false) (Rows.lccaEntersSpec.post enc Try.prog Try.f3 false true false false):=by
 refine returnsInHanded_of_change_sized (C:=Try.checked) own started (by kernel_rfl) Try.func3
  (ChangeSpec.witness6 (enc:=enc) (C:=Try.checked) false ⟨#[],#[.slice none 0 0,.slice none 0 0,.slice none 0 0,.slice none 0 0],[]⟩ 8 (by kernel_rfl) (by kernel_rfl) (by kernel_rfl) (by kernel_rfl)) ?_
 intro W base args ds gs before hval0 hW hcnd hsz0 _
 have hval:∀(j:Nat) t v,Try.f3.params[j]? =some t→args[j]? =some v→Value.okWide Try.prog W .any base t v:=hval0
 have hW':=hW
 obtain⟨p,q,hA0,hV,rfl,hfz,hnd⟩:=hW
 have hA:DataW.TrodAll enc Try.prog W 0 (fun _=>true) true Try.f3.params.toList args.toList ds p:=hA0
 rw[Try.params3]at hA hval
 obtain⟨v0,vs0,d0,ds0,p0,q0,hargs,rfl,rfl,h0,r0⟩:=trodAll_cons hA
 obtain⟨v1,vs1,d1,ds1,p1,q1,rfl,rfl,rfl,h1,r1⟩:=trodAll_cons r0
 obtain⟨v2,vs2,d2,ds2,p2,q2,rfl,rfl,rfl,h2,r2⟩:=trodAll_cons r1
 obtain⟨v3,vs3,d3,ds3,p3,q3,rfl,rfl,rfl,h3,r3⟩:=trodAll_cons r2
 obtain⟨rfl,rfl,rfl⟩:=trodAll_nil r3
 obtain rfl:args= #[v0,v1,v2,v3]:=by cases args;simp_all
 obtain⟨rfl,rfl⟩:=trodVars_none hV
 obtain⟨a0,len0,cap0,rfl⟩:=okWide_slice Try.underlying22 (hval 0 22 v0 rfl rfl)
 have k0:=h0
 have lt0:∀x∈p0,x.block<W.heap.size:=by obtain⟨m,hm⟩:=k0;exact DataW.trod_lt m _ _ _ hm
 obtain⟨z0,w0,y0⟩:∃zs,VM.IsRow .i64 W a0 len0 cap0 zs∧∀n∈zs,(Lit.int .i64 n).wf=true:=by
  obtain⟨fuel,hf⟩:=h0
  rcases open_ints Try.underlying22 Try.underlying3 (by kernel_rfl) hf with⟨hcs,_⟩|⟨x,l,c,zs,hcs,_,hl,hm,hz,_,hcell,hwz⟩
  ·simp[Value.cells]at hcs
   obtain⟨rfl,rfl,rfl⟩:=hcs
   exact⟨[],.inl ⟨rfl,rfl,rfl,rfl⟩,by simp⟩
  ·simp[Value.cells]at hcs
   obtain⟨rfl,rfl,rfl⟩:=hcs
   exact⟨zs,.inr ⟨_,rfl,hl,by simpa using hz,hcell⟩,hwz⟩
 obtain⟨a1,len1,cap1,rfl⟩:=okWide_slice Try.underlying22 (hval 1 22 v1 rfl rfl)
 have k1:=h1
 have lt1:∀x∈p1,x.block<W.heap.size:=by obtain⟨m,hm⟩:=k1;exact DataW.trod_lt m _ _ _ hm
 obtain⟨z1,w1,y1⟩:∃zs,VM.IsRow .i64 W a1 len1 cap1 zs∧∀n∈zs,(Lit.int .i64 n).wf=true:=by
  obtain⟨fuel,hf⟩:=h1
  rcases open_ints Try.underlying22 Try.underlying3 (by kernel_rfl) hf with⟨hcs,_⟩|⟨x,l,c,zs,hcs,_,hl,hm,hz,_,hcell,hwz⟩
  ·simp[Value.cells]at hcs
   obtain⟨rfl,rfl,rfl⟩:=hcs
   exact⟨[],.inl ⟨rfl,rfl,rfl,rfl⟩,by simp⟩
  ·simp[Value.cells]at hcs
   obtain⟨rfl,rfl,rfl⟩:=hcs
   exact⟨zs,.inr ⟨_,rfl,hl,by simpa using hz,hcell⟩,hwz⟩
 obtain⟨a2,len2,cap2,rfl⟩:=okWide_slice Try.underlying22 (hval 2 22 v2 rfl rfl)
 have k2:=h2
 have lt2:∀x∈p2,x.block<W.heap.size:=by obtain⟨m,hm⟩:=k2;exact DataW.trod_lt m _ _ _ hm
 obtain⟨z2,w2,y2⟩:∃zs,VM.IsRow .i64 W a2 len2 cap2 zs∧∀n∈zs,(Lit.int .i64 n).wf=true:=by
  obtain⟨fuel,hf⟩:=h2
  rcases open_ints Try.underlying22 Try.underlying3 (by kernel_rfl) hf with⟨hcs,_⟩|⟨x,l,c,zs,hcs,_,hl,hm,hz,_,hcell,hwz⟩
  ·simp[Value.cells]at hcs
   obtain⟨rfl,rfl,rfl⟩:=hcs
   exact⟨[],.inl ⟨rfl,rfl,rfl,rfl⟩,by simp⟩
  ·simp[Value.cells]at hcs
   obtain⟨rfl,rfl,rfl⟩:=hcs
   exact⟨zs,.inr ⟨_,rfl,hl,by simpa using hz,hcell⟩,hwz⟩
 obtain⟨a3,len3,cap3,rfl⟩:=okWide_slice Try.underlying22 (hval 3 22 v3 rfl rfl)
 have k3:=h3
 have lt3:∀x∈p3,x.block<W.heap.size:=by obtain⟨m,hm⟩:=k3;exact DataW.trod_lt m _ _ _ hm
 obtain⟨z3,w3,y3⟩:∃zs,VM.IsRow .i64 W a3 len3 cap3 zs∧∀n∈zs,(Lit.int .i64 n).wf=true:=by
  obtain⟨fuel,hf⟩:=h3
  rcases open_ints Try.underlying22 Try.underlying3 (by kernel_rfl) hf with⟨hcs,_⟩|⟨x,l,c,zs,hcs,_,hl,hm,hz,_,hcell,hwz⟩
  ·simp[Value.cells]at hcs
   obtain⟨rfl,rfl,rfl⟩:=hcs
   exact⟨[],.inl ⟨rfl,rfl,rfl,rfl⟩,by simp⟩
  ·simp[Value.cells]at hcs
   obtain⟨rfl,rfl,rfl⟩:=hcs
   exact⟨zs,.inr ⟨_,rfl,hl,by simpa using hz,hcell⟩,hwz⟩
 clear hA0 hval0 hsz0
 refine(walk a0 len0 cap0 z0 a1 len1 cap1 z1 a2 len2 cap2 z2 a3 len3 cap3 z3 W w0 y0 w1 y1 w2 y2 w3 y3).mono fun e W' ⟨he,bel⟩=> ?_
 subst he
 exact⟨_,rfl,_,_,_,[],_,[],hW',trodAll_mk1 (shut_bool Try.underlying4 _),(trodAll_cons_mk (Below.trod laidOut (by kernel_rfl) (of_decide_eq_true (by kernel_rfl)) k0 bel lt0) (trodAll_cons_mk (Below.trod laidOut (by kernel_rfl) (of_decide_eq_true (by kernel_rfl)) k1 bel lt1) (trodAll_cons_mk (Below.trod laidOut (by kernel_rfl) (of_decide_eq_true (by kernel_rfl)) k2 bel lt2) (trodAll_cons_mk (Below.trod laidOut (by kernel_rfl) (of_decide_eq_true (by kernel_rfl)) k3 bel lt3) trodAll_mk0)))),rfl,bel.frame _,fun h=>by cases h⟩
theorem over:Rows.lccaEntersRow.holds Try.pinned (OpenSpec.ofChange Rows.lccaEntersSpec):=
 OpenClaim.holds_of_wide 3 Try.f3 rfl rfl rfl rfl rfl rfl rfl ⟨rfl,rfl,rfl,rfl,rfl⟩ rfl rfl rfl rfl rfl (by kernel_rfl) Try.func3 (by kernel_rfl)
  (of_decide_eq_true (by kernel_rfl)) (by unfold Func.isWrapper;first|(rw[if_pos (by decide+kernel)];kernel_rfl)|(rw[if_neg (by decide+kernel)];exact⟨rfl,rfl⟩))
  (fun os started H enc _=>lifted os started H enc)
theorem proved:Rows.LccaEntersSaid:=over
#print axioms proved
end Go.Proofs.Ytokgijpdehjckaa.lccaEntersRow
namespace Go.Proofs.Ytokgijpdehjckaa
/-- The row, under a short name, for the claim. -/
theorem lccaEnters_holds:Rows.LccaEntersSaid:=lccaEntersRow.proved
end Go.Proofs.Ytokgijpdehjckaa
