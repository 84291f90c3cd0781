/- A guard is asked once. -/
import Derived.Test.YtfkofdjpdbfjgaaPg1
import Derived.Test.YtfkofdjpdbfjgaaRows
import Derived.WalkKit
import Derived.ProofKit
import Derived.OpenShut
import Derived.ShutString
import Derived.ChangeOld
import Derived.Below
import Derived.SizedLaws
open Go Go.VM
set_option linter.unusedVariables false
set_option maxRecDepth 100000
set_option maxHeartbeats 16000000
namespace Go.Proofs.Ytfkofdjpdbfjgaa.Vm
def isT(o:Option (List V)):Bool:=match o with|some [.bool true]=>true|_=>false
theorem isT_eq:∀{o:Option (List V)},isT o=true→o=some [.bool true]
 |none,h=>by cases h
 |some [.bool true],_=>rfl
 |some [],h=>by cases h
 |some (_::_::_),h=>by simp[isT]at h
 |some [.bool false],h=>by cases h
 |some [.int _ _],h=>by cases h
 |some [.str _],h=>by cases h
 |some [.sl _ _],h=>by cases h
 |some [.agg _],h=>by cases h
 |some [.nilp],h=>by cases h
 |some [.ptr _ _],h=>by cases h
 |some [.fn _ _],h=>by cases h
 |some [.mp _],h=>by cases h
 |some [.undef],h=>by cases h
theorem modP{n:Int}{p:Nat}(hp:0<p)(hp2:p<256)(h:0≤n∧n<256):∃x:Nat,x<p∧Int.tmod (IntKind.i64.wrap n) p=Int.tmod (IntKind.i64.wrap x) p:=by
 have h0:(0:Int)≤n % p:=Int.emod_nonneg _ (by omega)
 have h1:n % p<p:=Int.emod_lt_of_pos _ (by omega)
 refine⟨(n % p).toNat,by omega,?_⟩
 rw[wrap_id (n:=n) (by omega),wrap_id (n:=((n % p).toNat:Int)) (by omega),Int.toNat_of_nonneg h0,Int.tmod_eq_emod_of_nonneg h.1,Int.tmod_eq_emod_of_nonneg h0,Int.emod_emod_of_dvd _ (Int.dvd_refl _)]
def big:Int→Bool
 | .ofNat (_+2)=>true
 | .negSucc (_+1)=>true
 |_=>false
def dv(args:List V)(alt:Option (List V)):Option (List V):=match args with
 | [.int .i64 a,.int .i64 b]=>bif(a==1)&&big b then some [.int .i64 0,.int .i64 0]else alt
 |_=>alt
theorem big_ne{b:Int}(h:big b=true):b≠0∧b≠ -1∧Int.tdiv 1 b=0:=by
 cases b with
 |ofNat n=>
  match n,h with
  |n+2,_=>
   refine⟨by simp;omega,by simp;omega,?_⟩
   show Int.ofNat (1/(n+2))=0
   rw[Nat.div_eq_of_lt (by omega)];rfl
 |negSucc n=>
  match n,h with
  |n+1,_=>
   refine⟨by simp[Int.negSucc_eq];omega,by rw[Int.negSucc_eq];omega,?_⟩
   show-Int.ofNat (1/(n+1+1))=0
   rw[Nat.div_eq_of_lt (by omega)];rfl
theorem dv_eq{G:ORC (List V)}{k:Nat}{args:List V}:dv args (g113 G k args some)=g113 G k args some:=by
 unfold dv
 split
 ·rename_i a b
  cases h:(a==1)&&big b with
  |false=>rfl
  |true=>
   rw[Bool.and_eq_true]at h
   obtain⟨h1,h2⟩:=h
   have h1:a=1:=by simpa using h1
   subst h1
   obtain⟨n1,n2,n3⟩:=big_ne h2
   show some _=f113 G k 1 b some
   unfold f113
   rw[show(b==0)=false by simpa using n1,show(b== -1)=false by simpa using n2,n3]
   rfl
 ·rfl
def pgq(k:Nat):Nat→ORC (List V)
 |0=>fun _ _ _=>none
 |j+1=>fun f args K=>(bif Nat.beq f 113 then dv args (pgB k (pgq k j) f args some)else pgB k (pgq k j) f args some).bind K
theorem pgq_eq(k:Nat):∀j,pgq k j=pg k j
 |0=>rfl
 |j+1=>by
  funext f args K
  show(bif Nat.beq f 113 then dv args (pgB k (pgq k j) f args some)else pgB k (pgq k j) f args some).bind K=(pgB k (pg k j) f args some).bind K
  rw[pgq_eq k j]
  cases h:Nat.beq f 113 with
  |false=>rfl
  |true=>
   have:=Nat.eq_of_beq_eq_true h
   subst this
   rw[cond_true]
   rw[show pgB k (pg k j) 113 args some=g113 (pg k j) k args some from rfl,dv_eq]
theorem gds_mod{R:Type}{G:ORC R}{k:Nat}{b:Bool}{m x y:Int}{K:List V→Option R}(h:Int.tmod (IntKind.i64.wrap m) 5=Int.tmod (IntKind.i64.wrap y) 5):
 f3 G k m x b K=f3 G k y x b K:=by
 unfold f3
 simp only[h]
def gdsT(x:Int):Bool:=(List.range 5).all fun m=>[true,false].all fun b=>isT (f3 (pgq 10000 29) 10000 (m:Int) x b some)
theorem gds_0:gdsT (.ofNat 0)=true:=by kernel_rfl
theorem gds_1:gdsT (.ofNat 1)=true:=by kernel_rfl
theorem gds_2(n:Nat):gdsT (.ofNat (n+2))=true:=by kernel_rfl
theorem gds_3:gdsT (.negSucc 0)=true:=by kernel_rfl
theorem gds_4(n:Nat):gdsT (.negSucc (n+1))=true:=by kernel_rfl
theorem gds_run:∀x,gdsT x=true
 | .ofNat 0=>gds_0
 | .ofNat 1=>gds_1
 | .ofNat (n+2)=>gds_2 n
 | .negSucc 0=>gds_3
 | .negSucc (n+1)=>gds_4 n
theorem evPg:∃N:Nat,∀k:Nat,N≤k→∀(m x:Int) (b:Bool) (K:List V→Option (List V)),0≤m∧m<256→W (fun o=>o=[.bool true]) K (pg 10000 N 3 [.int .u8 m,.int .i64 x,.bool b] K):=by
 refine⟨30,fun k _ m x b K hm=> ?_⟩
 refine pg_W (j:=29) ?_
 show W _ some (f3 (pg 10000 29) 10000 m x b some)
 obtain⟨y,hy,e⟩:=modP (p:=5) (by decide) (by decide) hm
 rw[gds_mod e]
 have h:=gds_run x
 unfold gdsT at h
 rw[List.all_eq_true]at h
 have h:=h y (List.mem_range.2 hy)
 rw[List.all_eq_true]at h
 have h:=isT_eq (h b (by cases b<;>simp))
 rw[pgq_eq]at h
 exact⟨_,rfl,h⟩
end Go.Proofs.Ytfkofdjpdbfjgaa.Vm
namespace Go.Proofs.Ytfkofdjpdbfjgaa.pickGuardsRow
open Go.ChangeShapes Go.WideShapes Go.ChangeAt Go.RowKit
open Go.ChangeMaps (open_string shut_string)
set_option linter.unusedVariables false
theorem own:ownKnob Try.prog.godebug=none:=by kernel_rfl
theorem laidOut:laidOutB Try.prog=true:=by kernel_rfl
theorem walk(n0:Int)(n1:Int)(b2:Bool)(W:World)(hw0:(Lit.int .u8 n0).wf=true)(hw1:(Lit.int .i64 n1).wf=true):
 Calls Try.prog 3 #[.int .u8 n0,.int .i64 n1,.bool b2] W fun e W'=>e= .returned (.bool true)∧Below W.heap.size W W':=by
 obtain⟨N,hN⟩:=Vm.evPg
 have hi0:=VM.u8_of hw0
 obtain⟨o,h0,h1⟩:=hN N (Nat.le_refl N) n0 n1 b2 (fun o=>some o) hi0
 subst h0
 obtain⟨o,h2,h3⟩:=Vm.pg_sound 10000 N 3 _ _ _ h1
 injection h3 with h3
 subst h3
 exact VM.law_calls Vm.TAB_chk (f:=3) (sg:=Vm.S3) (kd:=.bool) rfl rfl rfl rfl h2 (VM.argsL_int (VM.argsL_int (VM.argsL_bool VM.argsL_nil)))
set_option maxRecDepth 100000 in
theorem lifted(os:Os)(started:os.Started)(H:Type)(enc:TypeId×Value→H):
 ReturnsInHanded {} Try.checked os 3 .any (Rows.pickGuardsSpec.pre6 enc Try.prog Try.f3 Rows.pickGuardsRow.domain false) (Rows.pickGuardsSpec.post enc Try.prog Try.f3 false true false false):=by
 refine returnsInHanded_of_change_sized (C:=Try.checked) own started (by kernel_rfl) Try.func3
  (ChangeSpec.witness6 (enc:=enc) (C:=Try.checked) false ⟨#[],#[.int .u8 0,.int .i64 0,.bool false],[]⟩ 8 (by kernel_rfl) (by kernel_rfl) (by kernel_rfl) (by kernel_rfl)) ?_
 intro W base args ds gs before hval0 hW hcnd hsz0 _
 have hval:∀(j:Nat) t v,Try.f3.params[j]? =some t→args[j]? =some v→Value.okWide Try.prog W .any base t v:=hval0
 have hW':=hW
 obtain⟨p,q,hA0,hV,rfl,hfz,hnd⟩:=hW
 have hA:DataW.TrodAll enc Try.prog W 0 (fun _=>true) true Try.f3.params.toList args.toList ds p:=hA0
 rw[Try.params3]at hA hval
 obtain⟨v0,vs0,d0,ds0,p0,q0,hargs,rfl,rfl,h0,r0⟩:=trodAll_cons hA
 obtain⟨v1,vs1,d1,ds1,p1,q1,rfl,rfl,rfl,h1,r1⟩:=trodAll_cons r0
 obtain⟨v2,vs2,d2,ds2,p2,q2,rfl,rfl,rfl,h2,r2⟩:=trodAll_cons r1
 obtain⟨rfl,rfl,rfl⟩:=trodAll_nil r2
 obtain rfl:args= #[v0,v1,v2]:=by cases args;simp_all
 obtain⟨rfl,rfl⟩:=trodVars_none hV
 obtain⟨a0,rfl,rfl,rfl,w0⟩:=open_int Try.underlying5 (hval 0 5 v0 rfl rfl) h0
 obtain⟨a1,rfl,rfl,rfl,w1⟩:=open_int Try.underlying2 (hval 1 2 v1 rfl rfl) h1
 obtain⟨a2,rfl,rfl,rfl⟩:=open_bool Try.underlying4 (hval 2 4 v2 rfl rfl) h2
 clear hA0 hval0 hsz0
 refine(walk a0 a1 a2 W w0 w1).mono fun e W' ⟨he,bel⟩=> ?_
 subst he
 exact⟨_,rfl,_,_,_,[],_,[],hW',trodAll_mk1 (shut_bool Try.underlying4 _),(trodAll_cons_mk (shut_int Try.underlying5 w0) (trodAll_cons_mk (shut_int Try.underlying2 w1) (trodAll_cons_mk (shut_bool Try.underlying4 _) trodAll_mk0))),rfl,bel.frame _,fun h=>by cases h⟩
theorem over:Rows.pickGuardsRow.holds Try.pinned (OpenSpec.ofChange Rows.pickGuardsSpec):=
 OpenClaim.holds_of_wide 3 Try.f3 rfl rfl rfl rfl rfl rfl rfl ⟨rfl,rfl,rfl,rfl,rfl⟩ rfl rfl rfl rfl rfl (by kernel_rfl) Try.func3 (by kernel_rfl)
  (of_decide_eq_true (by kernel_rfl)) (by unfold Func.isWrapper;first|(rw[if_pos (by decide+kernel)];kernel_rfl)|(rw[if_neg (by decide+kernel)];exact⟨rfl,rfl⟩))
  (fun os started H enc _=>lifted os started H enc)
theorem proved:Rows.PickGuardsSaid:=over
#print axioms proved
end Go.Proofs.Ytfkofdjpdbfjgaa.pickGuardsRow
namespace Go.Proofs.Ytfkofdjpdbfjgaa
/-- The row, under a short name, for the claim. -/
theorem pickGuards_holds:Rows.PickGuardsSaid:=pickGuardsRow.proved
end Go.Proofs.Ytfkofdjpdbfjgaa
