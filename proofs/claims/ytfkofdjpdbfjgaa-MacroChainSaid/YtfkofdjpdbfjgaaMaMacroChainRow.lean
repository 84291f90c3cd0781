/- Events that are raised are taken in order. -/
import Derived.Test.YtfkofdjpdbfjgaaMa2
import Derived.Test.YtfkofdjpdbfjgaaRows
import Derived.WalkKit
import Derived.ProofKit
import Derived.OpenShut
import Derived.ShutString
import Derived.ChangeOld
import Derived.Below
import Derived.SizedLaws
open Go Go.VM
set_option linter.unusedVariables false
set_option maxRecDepth 100000
set_option maxHeartbeats 16000000
namespace Go.Proofs.Ytfkofdjpdbfjgaa.Vm
def isT(o:Option (List V)):Bool:=match o with|some [.bool true]=>true|_=>false
theorem isT_eq:∀{o:Option (List V)},isT o=true→o=some [.bool true]
 |none,h=>by cases h
 |some [.bool true],_=>rfl
 |some [],h=>by cases h
 |some (_::_::_),h=>by simp[isT]at h
 |some [.bool false],h=>by cases h
 |some [.int _ _],h=>by cases h
 |some [.str _],h=>by cases h
 |some [.sl _ _],h=>by cases h
 |some [.agg _],h=>by cases h
 |some [.nilp],h=>by cases h
 |some [.ptr _ _],h=>by cases h
 |some [.fn _ _],h=>by cases h
 |some [.mp _],h=>by cases h
 |some [.undef],h=>by cases h
theorem chain_mod{R:Type}{G:ORC R}{k:Nat}{m n x y:Int}{K:List V→Option R}(h2:Int.tmod (IntKind.i64.wrap m) 12=Int.tmod (IntKind.i64.wrap x) 12)(h3:Int.tmod (IntKind.i64.wrap n) 15=Int.tmod (IntKind.i64.wrap y) 15):
 f5 G k m n K=f5 G k x y K:=by
 unfold f5
 simp only[h2,h3]
theorem chain_run0:((List.range 15).all fun y=>isT (f5 (ma 10000 29) 10000 0 (y:Int) some))=true:=by decide+kernel
theorem chain_run1:((List.range 15).all fun y=>isT (f5 (ma 10000 29) 10000 1 (y:Int) some))=true:=by decide+kernel
theorem chain_run2:((List.range 15).all fun y=>isT (f5 (ma 10000 29) 10000 2 (y:Int) some))=true:=by decide+kernel
theorem chain_run3:((List.range 15).all fun y=>isT (f5 (ma 10000 29) 10000 3 (y:Int) some))=true:=by decide+kernel
theorem chain_run4:((List.range 15).all fun y=>isT (f5 (ma 10000 29) 10000 4 (y:Int) some))=true:=by decide+kernel
theorem chain_run5:((List.range 15).all fun y=>isT (f5 (ma 10000 29) 10000 5 (y:Int) some))=true:=by decide+kernel
theorem chain_run6:((List.range 15).all fun y=>isT (f5 (ma 10000 29) 10000 6 (y:Int) some))=true:=by decide+kernel
theorem chain_run7:((List.range 15).all fun y=>isT (f5 (ma 10000 29) 10000 7 (y:Int) some))=true:=by decide+kernel
theorem chain_run8:((List.range 15).all fun y=>isT (f5 (ma 10000 29) 10000 8 (y:Int) some))=true:=by decide+kernel
theorem chain_run9:((List.range 15).all fun y=>isT (f5 (ma 10000 29) 10000 9 (y:Int) some))=true:=by decide+kernel
theorem chain_run10:((List.range 15).all fun y=>isT (f5 (ma 10000 29) 10000 10 (y:Int) some))=true:=by decide+kernel
theorem chain_run11:((List.range 15).all fun y=>isT (f5 (ma 10000 29) 10000 11 (y:Int) some))=true:=by decide+kernel
theorem chain_run:∀x,x<12→((List.range 15).all fun y=>isT (f5 (ma 10000 29) 10000 ((x:Nat):Int) (y:Int) some))=true
 |0,_=>chain_run0
 |1,_=>chain_run1
 |2,_=>chain_run2
 |3,_=>chain_run3
 |4,_=>chain_run4
 |5,_=>chain_run5
 |6,_=>chain_run6
 |7,_=>chain_run7
 |8,_=>chain_run8
 |9,_=>chain_run9
 |10,_=>chain_run10
 |11,_=>chain_run11
 |n+12,h=>by omega
theorem modP{n:Int}{p:Nat}(hp:0<p)(hp2:p<256)(h:0≤n∧n<256):∃x:Nat,x<p∧Int.tmod (IntKind.i64.wrap n) p=Int.tmod (IntKind.i64.wrap x) p:=by
 have h0:(0:Int)≤n % p:=Int.emod_nonneg _ (by omega)
 have h1:n % p<p:=Int.emod_lt_of_pos _ (by omega)
 refine⟨(n % p).toNat,by omega,?_⟩
 rw[wrap_id (n:=n) (by omega),wrap_id (n:=((n % p).toNat:Int)) (by omega),Int.toNat_of_nonneg h0,Int.tmod_eq_emod_of_nonneg h.1,Int.tmod_eq_emod_of_nonneg h0,Int.emod_emod_of_dvd _ (Int.dvd_refl _)]
theorem evMa:∃N:Nat,∀k:Nat,N≤k→∀(m n:Int) (K:List V→Option (List V)),0≤m∧m<256→0≤n∧n<256→W (fun o=>o=[.bool true]) K (ma 10000 N 5 [.int .u8 m,.int .u8 n] K):=by
 refine⟨30,fun k _ m n K hm hn=> ?_⟩
 refine ma_W (j:=29) ?_
 show W _ some (f5 (ma 10000 29) 10000 m n some)
 obtain⟨x,hx,e1⟩:=modP (p:=12) (by decide) (by decide) hm
 obtain⟨y,hy,e2⟩:=modP (p:=15) (by decide) (by decide) hn
 rw[chain_mod e1 e2]
 have h:=chain_run x hx
 rw[List.all_eq_true]at h
 exact⟨_,rfl,isT_eq (h y (List.mem_range.2 hy))⟩
end Go.Proofs.Ytfkofdjpdbfjgaa.Vm
namespace Go.Proofs.Ytfkofdjpdbfjgaa.macroChainRow
open Go.ChangeShapes Go.WideShapes Go.ChangeAt Go.RowKit
open Go.ChangeMaps (open_string shut_string)
set_option linter.unusedVariables false
theorem own:ownKnob Try.prog.godebug=none:=by kernel_rfl
theorem laidOut:laidOutB Try.prog=true:=by kernel_rfl
theorem walk(n0:Int)(n1:Int)(W:World)(hw0:(Lit.int .u8 n0).wf=true)(hw1:(Lit.int .u8 n1).wf=true):
 Calls Try.prog 5 #[.int .u8 n0,.int .u8 n1] W fun e W'=>e= .returned (.bool true)∧Below W.heap.size W W':=by
 obtain⟨N,hN⟩:=Vm.evMa
 have hi0:=VM.u8_of hw0
 have hi1:=VM.u8_of hw1
 obtain⟨o,h0,h1⟩:=hN N (Nat.le_refl N) n0 n1 (fun o=>some o) hi0 hi1
 subst h0
 obtain⟨o,h2,h3⟩:=Vm.ma_sound 10000 N 5 _ _ _ h1
 injection h3 with h3
 subst h3
 exact VM.law_calls Vm.TAB_chk (f:=5) (sg:=Vm.S5) (kd:=.bool) rfl rfl rfl rfl h2 (VM.argsL_int (VM.argsL_int VM.argsL_nil))
set_option maxRecDepth 100000 in
theorem lifted(os:Os)(started:os.Started)(H:Type)(enc:TypeId×Value→H):
 ReturnsInHanded {} Try.checked os 5 .any (Rows.macroChainSpec.pre6 enc Try.prog Try.f5 Rows.macroChainRow.domain false) (Rows.macroChainSpec.post enc Try.prog Try.f5 false true false false):=by
 refine returnsInHanded_of_change_sized (C:=Try.checked) own started (by kernel_rfl) Try.func5
  (ChangeSpec.witness6 (enc:=enc) (C:=Try.checked) false ⟨#[],#[.int .u8 0,.int .u8 0],[]⟩ 8 (by kernel_rfl) (by kernel_rfl) (by kernel_rfl) (by kernel_rfl)) ?_
 intro W base args ds gs before hval0 hW hcnd hsz0 _
 have hval:∀(j:Nat) t v,Try.f5.params[j]? =some t→args[j]? =some v→Value.okWide Try.prog W .any base t v:=hval0
 have hW':=hW
 obtain⟨p,q,hA0,hV,rfl,hfz,hnd⟩:=hW
 have hA:DataW.TrodAll enc Try.prog W 0 (fun _=>true) true Try.f5.params.toList args.toList ds p:=hA0
 rw[Try.params5]at hA hval
 obtain⟨v0,vs0,d0,ds0,p0,q0,hargs,rfl,rfl,h0,r0⟩:=trodAll_cons hA
 obtain⟨v1,vs1,d1,ds1,p1,q1,rfl,rfl,rfl,h1,r1⟩:=trodAll_cons r0
 obtain⟨rfl,rfl,rfl⟩:=trodAll_nil r1
 obtain rfl:args= #[v0,v1]:=by cases args;simp_all
 obtain⟨rfl,rfl⟩:=trodVars_none hV
 obtain⟨a0,rfl,rfl,rfl,w0⟩:=open_int Try.underlying5 (hval 0 5 v0 rfl rfl) h0
 obtain⟨a1,rfl,rfl,rfl,w1⟩:=open_int Try.underlying5 (hval 1 5 v1 rfl rfl) h1
 clear hA0 hval0 hsz0
 refine(walk a0 a1 W w0 w1).mono fun e W' ⟨he,bel⟩=> ?_
 subst he
 exact⟨_,rfl,_,_,_,[],_,[],hW',trodAll_mk1 (shut_bool Try.underlying4 _),(trodAll_cons_mk (shut_int Try.underlying5 w0) (trodAll_cons_mk (shut_int Try.underlying5 w1) trodAll_mk0)),rfl,bel.frame _,fun h=>by cases h⟩
theorem over:Rows.macroChainRow.holds Try.pinned (OpenSpec.ofChange Rows.macroChainSpec):=
 OpenClaim.holds_of_wide 5 Try.f5 rfl rfl rfl rfl rfl rfl rfl ⟨rfl,rfl,rfl,rfl,rfl⟩ rfl rfl rfl rfl rfl (by kernel_rfl) Try.func5 (by kernel_rfl)
  (of_decide_eq_true (by kernel_rfl)) (by unfold Func.isWrapper;first|(rw[if_pos (by decide+kernel)];kernel_rfl)|(rw[if_neg (by decide+kernel)];exact⟨rfl,rfl⟩))
  (fun os started H enc _=>lifted os started H enc)
theorem proved:Rows.MacroChainSaid:=over
#print axioms proved
end Go.Proofs.Ytfkofdjpdbfjgaa.macroChainRow
namespace Go.Proofs.Ytfkofdjpdbfjgaa
/-- The row, under a short name, for the claim. -/
theorem macroChain_holds:Rows.MacroChainSaid:=macroChainRow.proved
end Go.Proofs.Ytfkofdjpdbfjgaa
