/- A history that is entered leads back to where it was. -/
import Derived.Test.YtfkofdjpdbfjgaaMc2
import Derived.Test.YtfkofdjpdbfjgaaRows
import Derived.WalkKit
import Derived.ProofKit
import Derived.OpenShut
import Derived.ShutString
import Derived.ChangeOld
import Derived.Below
import Derived.SizedLaws
open Go Go.VM
set_option linter.unusedVariables false
set_option maxRecDepth 100000
set_option maxHeartbeats 16000000
namespace Go.Proofs.Ytfkofdjpdbfjgaa.Vm
def isT(o:Option (List V)):Bool:=match o with|some [.bool true]=>true|_=>false
theorem isT_eq:∀{o:Option (List V)},isT o=true→o=some [.bool true]
 |none,h=>by cases h
 |some [.bool true],_=>rfl
 |some [],h=>by cases h
 |some (_::_::_),h=>by simp[isT]at h
 |some [.bool false],h=>by cases h
 |some [.int _ _],h=>by cases h
 |some [.str _],h=>by cases h
 |some [.sl _ _],h=>by cases h
 |some [.agg _],h=>by cases h
 |some [.nilp],h=>by cases h
 |some [.ptr _ _],h=>by cases h
 |some [.fn _ _],h=>by cases h
 |some [.mp _],h=>by cases h
 |some [.undef],h=>by cases h
theorem comes_mod{R:Type}{G:ORC R}{k:Nat}{b:Bool}{m n x y:Int}{K:List V→Option R}(h2:Int.tmod (IntKind.i64.wrap m) 2=Int.tmod (IntKind.i64.wrap x) 2)(h3:Int.tmod (IntKind.i64.wrap n) 2=Int.tmod (IntKind.i64.wrap y) 2):
 f4 G k b m n K=f4 G k b x y K:=by
 unfold f4 c4_0
 simp only[h2,h3]
theorem comes_run:([true,false].all fun b=>[0,1].all fun x=>[0,1].all fun y=>isT (f4 (mc 10000 29) 10000 b x y some))=true:=by decide+kernel
theorem mod2{n:Int}(h:0≤n∧n<256):∃x:Int,x∈[(0:Int),1]∧Int.tmod (IntKind.i64.wrap n) 2=Int.tmod (IntKind.i64.wrap x) 2:=by
 rw[wrap_id (n:=n) (by omega)]
 have h1:Int.tmod n 2=n % 2:=Int.tmod_eq_emod_of_nonneg h.1
 rw[h1]
 rcases(show n % 2=0∨n % 2=1 by omega)with e|e
 ·exact⟨0,by simp,by rw[e];rfl⟩
 ·exact⟨1,by simp,by rw[e];rfl⟩
theorem evMc:∃N:Nat,∀k:Nat,N≤k→∀(b:Bool) (m n:Int) (K:List V→Option (List V)),0≤m∧m<256→0≤n∧n<256→W (fun o=>o=[.bool true]) K (mc 10000 N 4 [.bool b,.int .u8 m,.int .u8 n] K):=by
 refine⟨30,fun k _ b m n K hm hn=> ?_⟩
 refine mc_W (j:=29) ?_
 show W _ some (f4 (mc 10000 29) 10000 b m n some)
 obtain⟨x,hx,e1⟩:=mod2 hm
 obtain⟨y,hy,e2⟩:=mod2 hn
 rw[comes_mod e1 e2]
 have h:=comes_run
 rw[List.all_eq_true]at h
 have h:=h b (by cases b<;>simp)
 rw[List.all_eq_true]at h
 have h:=h x hx
 rw[List.all_eq_true]at h
 have h:=h y hy
 exact⟨_,rfl,isT_eq h⟩
end Go.Proofs.Ytfkofdjpdbfjgaa.Vm
namespace Go.Proofs.Ytfkofdjpdbfjgaa.microComesRow
open Go.ChangeShapes Go.WideShapes Go.ChangeAt Go.RowKit
open Go.ChangeMaps (open_string shut_string)
set_option linter.unusedVariables false
theorem own:ownKnob Try.prog.godebug=none:=by kernel_rfl
theorem laidOut:laidOutB Try.prog=true:=by kernel_rfl
theorem walk(b0:Bool)(n1:Int)(n2:Int)(W:World)(hw1:(Lit.int .u8 n1).wf=true)(hw2:(Lit.int .u8 n2).wf=true):
 Calls Try.prog 4 #[.bool b0,.int .u8 n1,.int .u8 n2] W fun e W'=>e= .returned (.bool true)∧Below W.heap.size W W':=by
 obtain⟨N,hN⟩:=Vm.evMc
 have hi1:=VM.u8_of hw1
 have hi2:=VM.u8_of hw2
 obtain⟨o,h0,h1⟩:=hN N (Nat.le_refl N) b0 n1 n2 (fun o=>some o) hi1 hi2
 subst h0
 obtain⟨o,h2,h3⟩:=Vm.mc_sound 10000 N 4 _ _ _ h1
 injection h3 with h3
 subst h3
 exact VM.law_calls Vm.TAB_chk (f:=4) (sg:=Vm.S4) (kd:=.bool) rfl rfl rfl rfl h2 (VM.argsL_bool (VM.argsL_int (VM.argsL_int VM.argsL_nil)))
set_option maxRecDepth 100000 in
theorem lifted(os:Os)(started:os.Started)(H:Type)(enc:TypeId×Value→H):
 ReturnsInHanded {} Try.checked os 4 .any (Rows.microComesSpec.pre6 enc Try.prog Try.f4 Rows.microComesRow.domain false) (Rows.microComesSpec.post enc Try.prog Try.f4 false true false false):=by
 refine returnsInHanded_of_change_sized (C:=Try.checked) own started (by kernel_rfl) Try.func4
  (ChangeSpec.witness6 (enc:=enc) (C:=Try.checked) false ⟨#[],#[.bool false,.int .u8 0,.int .u8 0],[]⟩ 8 (by kernel_rfl) (by kernel_rfl) (by kernel_rfl) (by kernel_rfl)) ?_
 intro W base args ds gs before hval0 hW hcnd hsz0 _
 have hval:∀(j:Nat) t v,Try.f4.params[j]? =some t→args[j]? =some v→Value.okWide Try.prog W .any base t v:=hval0
 have hW':=hW
 obtain⟨p,q,hA0,hV,rfl,hfz,hnd⟩:=hW
 have hA:DataW.TrodAll enc Try.prog W 0 (fun _=>true) true Try.f4.params.toList args.toList ds p:=hA0
 rw[Try.params4]at hA hval
 obtain⟨v0,vs0,d0,ds0,p0,q0,hargs,rfl,rfl,h0,r0⟩:=trodAll_cons hA
 obtain⟨v1,vs1,d1,ds1,p1,q1,rfl,rfl,rfl,h1,r1⟩:=trodAll_cons r0
 obtain⟨v2,vs2,d2,ds2,p2,q2,rfl,rfl,rfl,h2,r2⟩:=trodAll_cons r1
 obtain⟨rfl,rfl,rfl⟩:=trodAll_nil r2
 obtain rfl:args= #[v0,v1,v2]:=by cases args;simp_all
 obtain⟨rfl,rfl⟩:=trodVars_none hV
 obtain⟨a0,rfl,rfl,rfl⟩:=open_bool Try.underlying4 (hval 0 4 v0 rfl rfl) h0
 obtain⟨a1,rfl,rfl,rfl,w1⟩:=open_int Try.underlying5 (hval 1 5 v1 rfl rfl) h1
 obtain⟨a2,rfl,rfl,rfl,w2⟩:=open_int Try.underlying5 (hval 2 5 v2 rfl rfl) h2
 clear hA0 hval0 hsz0
 refine(walk a0 a1 a2 W w1 w2).mono fun e W' ⟨he,bel⟩=> ?_
 subst he
 exact⟨_,rfl,_,_,_,[],_,[],hW',trodAll_mk1 (shut_bool Try.underlying4 _),(trodAll_cons_mk (shut_bool Try.underlying4 _) (trodAll_cons_mk (shut_int Try.underlying5 w1) (trodAll_cons_mk (shut_int Try.underlying5 w2) trodAll_mk0))),rfl,bel.frame _,fun h=>by cases h⟩
theorem over:Rows.microComesRow.holds Try.pinned (OpenSpec.ofChange Rows.microComesSpec):=
 OpenClaim.holds_of_wide 4 Try.f4 rfl rfl rfl rfl rfl rfl rfl ⟨rfl,rfl,rfl,rfl,rfl⟩ rfl rfl rfl rfl rfl (by kernel_rfl) Try.func4 (by kernel_rfl)
  (of_decide_eq_true (by kernel_rfl)) (by unfold Func.isWrapper;first|(rw[if_pos (by decide+kernel)];kernel_rfl)|(rw[if_neg (by decide+kernel)];exact⟨rfl,rfl⟩))
  (fun os started H enc _=>lifted os started H enc)
theorem proved:Rows.MicroComesSaid:=over
#print axioms proved
end Go.Proofs.Ytfkofdjpdbfjgaa.microComesRow
namespace Go.Proofs.Ytfkofdjpdbfjgaa
/-- The row, under a short name, for the claim. -/
theorem microComes_holds:Rows.MicroComesSaid:=microComesRow.proved
end Go.Proofs.Ytfkofdjpdbfjgaa
