/- Both reckonings of what can be met, at any events and at the start, what is sent by ports and what it costs, are the same, for charts by numbers. -/
import Derived.Test.YtnimfaaefdlepaaGreatTe3
import Derived.Test.YtnimfaaefdlepaaGreatTe4
import Derived.Test.YtnimfaaefdlepaaGreatRows
import Derived.WalkKit
import Derived.ProofKit
import Derived.OpenShut
import Derived.ShutString
import Derived.ChangeOld
import Derived.Below
import Derived.SizedLaws
import Derived.SliceStrings
open Go Go.VM
set_option linter.unusedVariables false
set_option linter.unusedSimpArgs false
set_option maxRecDepth 100000
set_option maxHeartbeats 8000000
namespace Go.Proofs.YtnimfaaefdlepaaGreat.Vm
theorem evKnR:Ev KnR2:=by
 refine⟨14,fun j hj=> ?_⟩
 obtain⟨j',rfl⟩:∃j',j=j'+14:=⟨j-14,by omega⟩
 intro K
 show _=_
 kernel_rfl
theorem evRKids:Ev (KidsOK 113):=evS evIs fun j h=>by have e:=rkids_ok (G:=te 1100000 j) (k:=1100000) (by omega) h;unfold KidsOK at e ⊢;(intros;refine te_W ?_;apply e<;>assumption)
theorem evStates:Ev StatesOK:=evS (evA evRKids evIsSt) fun j h=>by have e:=states_ok (G:=te 1100000 j) (k:=1100000) (by omega) h.1 h.2;unfold StatesOK at e ⊢;(intros;refine te_W ?_;apply e<;>assumption)
theorem evHas:Ev HasOK:=ev0 fun j=>by have e:=has_ok (G:=te 1100000 j) (k:=1100000) (by omega);unfold HasOK at e ⊢;(intros;refine te_W ?_;apply e<;>assumption)
theorem evOfS:Ev OfOK:=evS evHas fun j h=>by have e:=of_ok (G:=te 1100000 j) (k:=1100000) (by omega) h;unfold OfOK at e ⊢;(intros;refine te_W ?_;apply e<;>assumption)
theorem evAnyE:Ev AnyOK:=evS evIn fun j h=>by have e:=any_ok (G:=te 1100000 j) (k:=1100000) (by omega) h;unfold AnyOK at e ⊢;(intros;refine te_W ?_;apply e<;>assumption)
theorem evDn:∀d,Ev (fun G=>DnOK d G∧RegOK d G)
 |0=>by
  have h0:Ev (DnOK 0):=evS evIsSt fun j h=>by have e:=dn_ok (G:=te 1100000 j) (k:=1100000) (d:=0) h (fun d' e=>by omega);unfold DnOK at e ⊢;(intros;refine te_W ?_;apply e<;>assumption)
  exact evA h0 (evS (evA (evA evStates evAnyE) h0) fun j h=>by have e:=reg_ok (G:=te 1100000 j) (k:=1100000) (d:=0) (by omega) h.1.1 h.1.2 h.2;unfold RegOK at e ⊢;(intros;refine te_W ?_;apply e<;>assumption))
 |d+1=>by
  have h0:Ev (DnOK (d+1)):=evS (evA evIsSt (evDn d)) fun j h=>by have e:=dn_ok (G:=te 1100000 j) (k:=1100000) (d:=d+1) h.1 (fun d' e=>by cases e;exact h.2);unfold DnOK at e ⊢;(intros;refine te_W ?_;apply e<;>assumption)
  exact evA h0 (evS (evA (evA evStates evAnyE) h0) fun j h=>by have e:=reg_ok (G:=te 1100000 j) (k:=1100000) (d:=d+1) (by omega) h.1.1 h.1.2 h.2;unfold RegOK at e ⊢;(intros;refine te_W ?_;apply e<;>assumption))
theorem evRBeg:Ev RBegOK:=evS (evA (evDn 200) evOfS) fun j h=>by have e:=rbeg_ok (G:=te 1100000 j) (k:=1100000) h.1.1 h.2;unfold RBegOK at e ⊢;(intros;refine te_W ?_;apply e<;>assumption)
theorem evLis:Ev LisX:=ev0 fun j=>by have e:=lis_ok (G:=te 1100000 j) (k:=1100000);unfold LisX at e ⊢;(intros;refine te_W ?_;apply e<;>assumption)
theorem evHst:Ev HstX:=ev0 fun j=>by have e:=hst_ok (G:=te 1100000 j) (k:=1100000);unfold HstX at e ⊢;(intros;refine te_W ?_;apply e<;>assumption)
theorem evCls:Ev ClsX:=evS evHst fun j h=>by have e:=cls_ok (G:=te 1100000 j) (k:=1100000) h;unfold ClsX at e ⊢;(intros;refine te_W ?_;apply e<;>assumption)
theorem evIdx:Ev IdxX:=evS evCls fun j h=>by have e:=idx_ok (G:=te 1100000 j) (k:=1100000) (by omega) h;unfold IdxX at e ⊢;(intros;refine te_W ?_;apply e<;>assumption)
theorem evDel:Ev DelX:=evS (evA evIdx evCls) fun j h=>by have e:=del_ok (G:=te 1100000 j) (k:=1100000) (by omega) h.1 h.2;unfold DelX at e ⊢;(intros;refine te_W ?_;apply e<;>assumption)
theorem evCKids:Ev (KidsOK 107):=evS evCIs fun j h=>by have e:=ckids_ok (G:=te 1100000 j) (k:=1100000) (by omega) h;unfold KidsOK at e ⊢;(intros;refine te_W ?_;apply e<;>assumption)
theorem evLSt:Ev LStX:=evS (evA evCKids evDel) fun j h=>by have e:=lst_ok (G:=te 1100000 j) (k:=1100000) h.1 h.2;unfold LStX at e ⊢;(intros;refine te_W ?_;apply e<;>assumption)
theorem evMore:Ev MoreX:=ev0 fun j=>by have e:=more_ok (G:=te 1100000 j) (k:=1100000);unfold MoreX at e ⊢;(intros;refine te_W ?_;apply e<;>assumption)
theorem evEmp:Ev EmpX:=evS evCIn fun j h=>by have e:=emp_ok (G:=te 1100000 j) (k:=1100000) (by omega) h;unfold EmpX at e ⊢;(intros;refine te_W ?_;apply e<;>assumption)
theorem evCDn:∀d,Ev (fun G=>CDnOK d G∧CRegOK d G)
 |0=>by
  have h0:Ev (CDnOK 0):=evS (evA evLis (evA evMore evHst)) fun j h=>by have e:=cdn_ok (G:=te 1100000 j) (k:=1100000) (d:=0) h.1 h.2.1 h.2.2 (fun d' e=>by omega);unfold CDnOK at e ⊢;(intros;refine te_W ?_;apply e<;>assumption)
  exact evA h0 (evS (evA (evA evLSt evEmp) h0) fun j h=>by have e:=creg_ok (G:=te 1100000 j) (k:=1100000) (d:=0) (by omega) h.1.1 h.1.2 h.2;unfold CRegOK at e ⊢;(intros;refine te_W ?_;apply e<;>assumption))
 |d+1=>by
  have h0:Ev (CDnOK (d+1)):=evS (evA (evA evLis (evA evMore evHst)) (evCDn d)) fun j h=>by have e:=cdn_ok (G:=te 1100000 j) (k:=1100000) (d:=d+1) h.1.1 h.1.2.1 h.1.2.2 (fun d' e=>by cases e;exact h.2);unfold CDnOK at e ⊢;(intros;refine te_W ?_;apply e<;>assumption)
  exact evA h0 (evS (evA (evA evLSt evEmp) h0) fun j h=>by have e:=creg_ok (G:=te 1100000 j) (k:=1100000) (d:=d+1) (by omega) h.1.1 h.1.2 h.2;unfold CRegOK at e ⊢;(intros;refine te_W ?_;apply e<;>assumption))
theorem evList:Ev ListX:=ev0 fun j=>by have e:=list_ok (G:=te 1100000 j) (k:=1100000) (by omega);unfold ListX at e ⊢;(intros;refine te_W ?_;apply e<;>assumption)
theorem evCBeg:Ev CBegOK:=evS (evA (evCDn 200) evList) fun j h=>by have e:=cbeg_ok (G:=te 1100000 j) (k:=1100000) h.1.1 h.2;unfold CBegOK at e ⊢;(intros;refine te_W ?_;apply e<;>assumption)
theorem evHasR:Ev HasR:=ev0 fun j=>by have e:=hasr_ok (G:=te 1100000 j) (k:=1100000) (by omega);unfold HasR at e ⊢;(intros;refine te_W ?_;apply e<;>assumption)
theorem evSaid:Ev SaidOK:=evS evHasR fun j h=>by have e:=said_ok (G:=te 1100000 j) (k:=1100000) (by omega) h;unfold SaidOK at e ⊢;(intros;refine te_W ?_;apply e<;>assumption)
theorem evRis:Ev RisOK:=evS evHas fun j h=>by have e:=ris_ok (G:=te 1100000 j) (k:=1100000) (by omega) h;unfold RisOK at e ⊢;(intros;refine te_W ?_;apply e<;>assumption)
theorem evCods:Ev CodsOK:=evS (evA evIn evRis) fun j h=>by have e:=cods_ok (G:=te 1100000 j) (k:=1100000) (by omega) h.1 h.2;unfold CodsOK at e ⊢;(intros;refine te_W ?_;apply e<;>assumption)
theorem evClsR:Ev ClsOK:=evS (evA (evA evHasR evSaid) (evA evRis evCods)) fun j h=>by have e:=cls_okR (G:=te 1100000 j) (k:=1100000) (by omega) h.1.1 h.1.2 h.2.1 h.2.2;unfold ClsOK at e ⊢;(intros;refine te_W ?_;apply e<;>assumption)
theorem evROf:Ev ROfX:=evS (evA evHasR evClsR) fun j h=>by have e:=rof_ok (G:=te 1100000 j) (k:=1100000) (by omega) h.1 h.2;unfold ROfX at e ⊢;(intros;refine te_W ?_;apply e<;>assumption)
theorem evBun:Ev BunOK:=evS (evA evRBeg evRis) fun j h=>by have e:=bun_ok (G:=te 1100000 j) (k:=1100000) (by omega) h.1 h.2;unfold BunOK at e ⊢;(intros;refine te_W ?_;apply e<;>assumption)
theorem evRBegX:Ev (BegX 12):=evS (evA evBun evClsR) fun j h=>by have e:=rbegx_ok (G:=te 1100000 j) (k:=1100000) h.1 h.2;unfold BegX at e ⊢;(intros;refine te_W ?_;apply e<;>assumption)
theorem evRSays:Ev (SaysX 15):=evS evSaid fun j h=>by have e:=rsays_ok (G:=te 1100000 j) (k:=1100000) (by omega) h;unfold SaysX at e ⊢;(intros;refine te_W ?_;apply e<;>assumption)
theorem evRTm:Ev (TmX 37):=ev0 fun j=>by have e:=rtx_ok (G:=te 1100000 j) (k:=1100000) (by omega);unfold TmX at e ⊢;(intros;refine te_W ?_;apply e<;>assumption)
theorem evRSends:Ev (SendsG 17):=evS evRTm fun j h=>by have e:=rsends_ok (G:=te 1100000 j) (k:=1100000) (by omega) h;unfold SendsG at e ⊢;(intros;refine te_W ?_;apply e<;>assumption)
theorem evRMost:Ev (MostG 39):=evS evRTm fun j h=>by have e:=rmost_ok (G:=te 1100000 j) (k:=1100000) (by omega) h;unfold MostG at e ⊢;(intros;refine te_W ?_;apply e<;>assumption)
theorem evRCost:Ev (CostG 19):=evS evRMost fun j h=>by have e:=rcost_ok (G:=te 1100000 j) (k:=1100000) (by omega) h;unfold CostG at e ⊢;(intros;refine te_W ?_;apply e<;>assumption)
theorem evIxB:Ev IxB:=ev0 fun j=>by have e:=ixb_ok (G:=te 1100000 j) (k:=1100000) (by omega);unfold IxB at e ⊢;(intros;refine te_W ?_;apply e<;>assumption)
theorem evCoB:Ev CoB:=evS evIxB fun j h=>by have e:=cob_ok (G:=te 1100000 j) (k:=1100000) h;unfold CoB at e ⊢;(intros;refine te_W ?_;apply e<;>assumption)
theorem evAllB:Ev AllB:=evS (evA (evA evPlaces evTold) (evA evEdge (evA evLater (evA evCoS evCoB)))) fun j h=>by have e:=allb_ok (G:=te 1100000 j) (k:=1100000) (by omega) h.1.1 h.1.2 h.2.1 h.2.2.1 h.2.2.2.1 h.2.2.2.2;unfold AllB at e ⊢;(intros;refine te_W ?_;apply e<;>assumption)
theorem evBegX:Ev (BegX 11):=evS (evA evCBeg (evA evCode evAllB)) fun j h=>by have e:=begx_ok (G:=te 1100000 j) (k:=1100000) (by omega) h.1 h.2.1 h.2.2;unfold BegX at e ⊢;(intros;refine te_W ?_;apply e<;>assumption)
theorem evSayI:Ev SayI:=ev0 fun j=>by have e:=sayi_ok (G:=te 1100000 j) (k:=1100000);unfold SayI at e ⊢;(intros;refine te_W ?_;apply e<;>assumption)
theorem evTolds:Ev ToldsOK:=evS (evA evSayI evCoS) fun j h=>by have e:=tolds_ok (G:=te 1100000 j) (k:=1100000) (by omega) h.1 h.2;unfold ToldsOK at e ⊢;(intros;refine te_W ?_;apply e<;>assumption)
theorem evSays:Ev (SaysX 14):=evS evTolds fun j h=>by have e:=says_ok (G:=te 1100000 j) (k:=1100000) (by omega) h;unfold SaysX at e ⊢;(intros;refine te_W ?_;apply e<;>assumption)
theorem evSendsG:Ev (SendsG 16):=evS evTm fun j h=>by have e:=sendsg_ok (G:=te 1100000 j) (k:=1100000) (by omega) h;unfold SendsG at e ⊢;(intros;refine te_W ?_;apply e<;>assumption)
theorem evMo:Ev MoX:=ev0 fun j=>by have e:=mox_ok (G:=te 1100000 j) (k:=1100000) (by omega);unfold MoX at e ⊢;(intros;refine te_W ?_;apply e<;>assumption)
theorem evCost:Ev (CostG 18):=evS evMo fun j h=>by have e:=cost_ok (G:=te 1100000 j) (k:=1100000) (by omega) (cmostg h);unfold CostG at e ⊢;(intros;refine te_W ?_;apply e<;>assumption)
theorem evIntsE:Ev IntsE:=ev0 fun j=>by have e:=intse_ok (G:=te 1100000 j) (k:=1100000) (by omega);unfold IntsE at e ⊢;(intros;refine te_W ?_;apply e<;>assumption)
theorem evTxse:Ev (TxsE 32):=ev0 fun j=>by have e:=txse_ok (G:=te 1100000 j) (k:=1100000) (by omega);unfold TxsE at e ⊢;(intros;refine te_W ?_;apply e<;>assumption)
theorem evTxsE:Ev (TxsE 13):=evS evTxse fun j h=>by have e:=txsE_ok (G:=te 1100000 j) (k:=1100000) h;unfold TxsE at e ⊢;(intros;refine te_W ?_;apply e<;>assumption)
theorem evSamE:Ev SamE:=evS (evA evIntsE evTxsE) fun j h=>by have e:=same_okE (G:=te 1100000 j) (k:=1100000) h.1 h.2;unfold SamE at e ⊢;(intros;refine te_W ?_;apply e<;>assumption)
theorem evTellLaw:Ev TellsOK:=evS (evA (evA (evA evKnR evTbl) (evA evEvent evPlace)) (evA (evA (evA evOf evROf) (evA evSamE (evA evBegX evRBegX))) (evA (evA evTxsE (evA evSays evRSays)) (evA (evA evSendsG evRSends) (evA evCost evRCost))))) fun j h=>by
 have e:=tell_law (G:=te 1100000 j) (k:=1100000) (by omega) h.1.1.1 h.1.1.2 h.1.2.1 h.1.2.2 h.2.1.1.1 h.2.1.1.2 h.2.1.2.1 h.2.1.2.2.1 h.2.1.2.2.2 h.2.2.1.1 h.2.2.1.2.1 h.2.2.1.2.2 h.2.2.2.1.1 h.2.2.2.1.2 h.2.2.2.2.1 h.2.2.2.2.2
 unfold TellsOK at e ⊢;(intros;refine te_W ?_;apply e<;>assumption)
end Go.Proofs.YtnimfaaefdlepaaGreat.Vm
namespace Go.Proofs.YtnimfaaefdlepaaGreat.reachTellsRow
open Go.ChangeShapes Go.WideShapes Go.ChangeAt Go.RowKit
open Go.ChangeMaps (open_string shut_string)
set_option linter.unusedVariables false
theorem own:ownKnob Tryz.prog.godebug=none:=by kernel_rfl
theorem laidOut:laidOutB Tryz.prog=true:=by kernel_rfl
theorem walk(a0:Option Addr)(len0 cap0:Nat)(zs0:List Int)(b1:Bool)(a2:Option Addr)(len2 cap2:Nat)(zs2:List ByteArray)(a3:Option Addr)(len3 cap3:Nat)(zs3:List Int)(n4:Int)(W:World)(hr0:VM.IsRow .i64 W a0 len0 cap0 zs0)(hz0:∀n∈zs0,(Lit.int .i64 n).wf=true)(hr2:VM.IsTxs W a2 len2 cap2 zs2)(hr3:VM.IsRow .i64 W a3 len3 cap3 zs3)(hz3:∀n∈zs3,(Lit.int .i64 n).wf=true)(hw4:(Lit.int .i64 n4).wf=true):
 Calls Tryz.prog 3 #[.slice a0 len0 cap0,.bool b1,.slice a2 len2 cap2,.slice a3 len3 cap3,.int .i64 n4] W fun e W'=>e= .returned (.bool true)∧Below W.heap.size W W':=by
 obtain⟨N,hN⟩:=Vm.evTellLaw
 have hi0:=VM.ints_of (len:=len0) hz0
 have hi3:=VM.ints_of (len:=len3) hz3
 obtain⟨o,h0,h1⟩:=hN N (Nat.le_refl N) ((zs0.take len0).map fun n=>.int .i64 n) b1 (zs2.take len2) ((zs3.take len3).map fun n=>.int .i64 n) n4 (fun o=>some o) hi0 hi3
 subst h0
 obtain⟨o,h2,h3⟩:=Vm.te_sound 1100000 N 3 _ _ _ h1
 injection h3 with h3
 subst h3
 exact VM.law_calls Vm.TAB_chk (f:=3) (sg:=Vm.S3) (kd:=.bool) rfl rfl rfl rfl h2 (VM.argsL_row hr0 (VM.argsL_bool (VM.argsL_txs hr2 (VM.argsL_row hr3 (VM.argsL_int VM.argsL_nil)))))
set_option maxRecDepth 100000 in
theorem lifted(os:Os)(started:os.Started)(H:Type)(enc:TypeId×Value→H):
 ReturnsInHanded {} Tryz.checked os 3 .any (Rows.reachTellsSpec.pre6 enc Tryz.prog Tryz.f3 Rows.reachTellsRow.domain false) (Rows.reachTellsSpec.post enc Tryz.prog Tryz.f3 false true false false):=by
 refine returnsInHanded_of_change_sized (C:=Tryz.checked) own started (by kernel_rfl) Tryz.func3
  (ChangeSpec.witness6 (enc:=enc) (C:=Tryz.checked) false ⟨#[],#[.slice none 0 0,.bool false,.slice none 0 0,.slice none 0 0,.int .i64 0],[]⟩ 8 (by kernel_rfl) (by kernel_rfl) (by kernel_rfl) (by kernel_rfl)) ?_
 intro W base args ds gs before hval0 hW hcnd hsz0 _
 have hval:∀(j:Nat) t v,Tryz.f3.params[j]? =some t→args[j]? =some v→Value.okWide Tryz.prog W .any base t v:=hval0
 have hW':=hW
 obtain⟨p,q,hA0,hV,rfl,hfz,hnd⟩:=hW
 have hA:DataW.TrodAll enc Tryz.prog W 0 (fun _=>true) true Tryz.f3.params.toList args.toList ds p:=hA0
 rw[Tryz.params3]at hA hval
 obtain⟨v0,vs0,d0,ds0,p0,q0,hargs,rfl,rfl,h0,r0⟩:=trodAll_cons hA
 obtain⟨v1,vs1,d1,ds1,p1,q1,rfl,rfl,rfl,h1,r1⟩:=trodAll_cons r0
 obtain⟨v2,vs2,d2,ds2,p2,q2,rfl,rfl,rfl,h2,r2⟩:=trodAll_cons r1
 obtain⟨v3,vs3,d3,ds3,p3,q3,rfl,rfl,rfl,h3,r3⟩:=trodAll_cons r2
 obtain⟨v4,vs4,d4,ds4,p4,q4,rfl,rfl,rfl,h4,r4⟩:=trodAll_cons r3
 obtain⟨rfl,rfl,rfl⟩:=trodAll_nil r4
 obtain rfl:args= #[v0,v1,v2,v3,v4]:=by cases args;simp_all
 obtain⟨rfl,rfl⟩:=trodVars_none hV
 obtain⟨a0,len0,cap0,rfl⟩:=okWide_slice Tryz.underlying22 (hval 0 22 v0 rfl rfl)
 have k0:=h0
 have lt0:∀x∈p0,x.block<W.heap.size:=by obtain⟨m,hm⟩:=k0;exact DataW.trod_lt m _ _ _ hm
 obtain⟨z0,w0,y0⟩:∃zs,VM.IsRow .i64 W a0 len0 cap0 zs∧∀n∈zs,(Lit.int .i64 n).wf=true:=by
  obtain⟨fuel,hf⟩:=h0
  rcases open_ints Tryz.underlying22 Tryz.underlying3 (by kernel_rfl) hf with⟨hcs,_⟩|⟨x,l,c,zs,hcs,_,hl,hm,hz,_,hcell,hwz⟩
  ·simp[Value.cells]at hcs
   obtain⟨rfl,rfl,rfl⟩:=hcs
   exact⟨[],.inl ⟨rfl,rfl,rfl,rfl⟩,by simp⟩
  ·simp[Value.cells]at hcs
   obtain⟨rfl,rfl,rfl⟩:=hcs
   exact⟨zs,.inr ⟨_,rfl,hl,by simpa using hz,hcell⟩,hwz⟩
 obtain⟨a1,rfl,rfl,rfl⟩:=open_bool Tryz.underlying4 (hval 1 4 v1 rfl rfl) h1
 obtain⟨a2,len2,cap2,rfl⟩:=okWide_slice Tryz.underlying23 (hval 2 23 v2 rfl rfl)
 have k2:=h2
 have lt2:∀x∈p2,x.block<W.heap.size:=by obtain⟨m,hm⟩:=k2;exact DataW.trod_lt m _ _ _ hm
 obtain⟨z2,w2⟩:∃zs,VM.IsTxs W a2 len2 cap2 zs:=by
  obtain⟨fuel,hf⟩:=h2
  rcases open_strings Tryz.underlying23 Tryz.underlying9 (by kernel_rfl) hf with⟨hcs,_⟩|⟨x,l,c,zs,hcs,_,hl,hm,hz,_,hcell,_⟩
  ·simp[Value.cells]at hcs
   obtain⟨rfl,rfl,rfl⟩:=hcs
   exact⟨[],.inl ⟨rfl,rfl,rfl,rfl⟩⟩
  ·simp[Value.cells]at hcs
   obtain⟨rfl,rfl,rfl⟩:=hcs
   exact⟨zs,.inr ⟨_,rfl,hl,by simpa using hz,hcell⟩⟩
 obtain⟨a3,len3,cap3,rfl⟩:=okWide_slice Tryz.underlying22 (hval 3 22 v3 rfl rfl)
 have k3:=h3
 have lt3:∀x∈p3,x.block<W.heap.size:=by obtain⟨m,hm⟩:=k3;exact DataW.trod_lt m _ _ _ hm
 obtain⟨z3,w3,y3⟩:∃zs,VM.IsRow .i64 W a3 len3 cap3 zs∧∀n∈zs,(Lit.int .i64 n).wf=true:=by
  obtain⟨fuel,hf⟩:=h3
  rcases open_ints Tryz.underlying22 Tryz.underlying3 (by kernel_rfl) hf with⟨hcs,_⟩|⟨x,l,c,zs,hcs,_,hl,hm,hz,_,hcell,hwz⟩
  ·simp[Value.cells]at hcs
   obtain⟨rfl,rfl,rfl⟩:=hcs
   exact⟨[],.inl ⟨rfl,rfl,rfl,rfl⟩,by simp⟩
  ·simp[Value.cells]at hcs
   obtain⟨rfl,rfl,rfl⟩:=hcs
   exact⟨zs,.inr ⟨_,rfl,hl,by simpa using hz,hcell⟩,hwz⟩
 obtain⟨a4,rfl,rfl,rfl,w4⟩:=open_int Tryz.underlying3 (hval 4 3 v4 rfl rfl) h4
 clear hA0 hval0 hsz0
 refine(walk a0 len0 cap0 z0 a1 a2 len2 cap2 z2 a3 len3 cap3 z3 a4 W w0 y0 w2 w3 y3 w4).mono fun e W' ⟨he,bel⟩=> ?_
 subst he
 exact⟨_,rfl,_,_,_,[],_,[],hW',trodAll_mk1 (shut_bool Tryz.underlying4 _),(trodAll_cons_mk (Below.trod laidOut (by kernel_rfl) (of_decide_eq_true (by kernel_rfl)) k0 bel lt0) (trodAll_cons_mk (shut_bool Tryz.underlying4 _) (trodAll_cons_mk (Below.trod laidOut (by kernel_rfl) (of_decide_eq_true (by kernel_rfl)) k2 bel lt2) (trodAll_cons_mk (Below.trod laidOut (by kernel_rfl) (of_decide_eq_true (by kernel_rfl)) k3 bel lt3) (trodAll_cons_mk (shut_int Tryz.underlying3 w4) trodAll_mk0))))),rfl,bel.frame _,fun h=>by cases h⟩
theorem over:Rows.reachTellsRow.holds Tryz.pinned (OpenSpec.ofChange Rows.reachTellsSpec):=
 OpenClaim.holds_of_wide 3 Tryz.f3 rfl rfl rfl rfl rfl rfl rfl ⟨rfl,rfl,rfl,rfl,rfl⟩ rfl rfl rfl rfl rfl (by kernel_rfl) Tryz.func3 (by kernel_rfl)
  (of_decide_eq_true (by kernel_rfl)) (by unfold Func.isWrapper;first|(rw[if_pos (by decide+kernel)];kernel_rfl)|(rw[if_neg (by decide+kernel)];exact⟨rfl,rfl⟩))
  (fun os started H enc _=>lifted os started H enc)
theorem proved:Rows.ReachTellsSaid:=over
#print axioms proved
end Go.Proofs.YtnimfaaefdlepaaGreat.reachTellsRow
namespace Go.Proofs.YtnimfaaefdlepaaGreat
/-- The row, under a short name, for the claim. -/
theorem reachTells_holds:Rows.ReachTellsSaid:=reachTellsRow.proved
end Go.Proofs.YtnimfaaefdlepaaGreat
