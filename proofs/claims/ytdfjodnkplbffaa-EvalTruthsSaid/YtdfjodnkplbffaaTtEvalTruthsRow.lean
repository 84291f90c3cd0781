/- The logical operators yield 1 or 0, and the right operand is not asked where the left one says all; conditions: none beyond the statement's own. -/
import Derived.Test.YtdfjodnkplbffaaRows
import Derived.Test.YtdfjodnkplbffaaTt2
import Derived.WalkKit
import Derived.ProofKit
import Derived.OpenShut
import Derived.ShutString
import Derived.ChangeOld
import Derived.Below
import Derived.SizedLaws
namespace Go.Proofs.Ytdfjodnkplbffaa.evalTruthsRow
open Go.ChangeShapes Go.WideShapes Go.ChangeAt Go.RowKit
open Go.ChangeMaps (open_string shut_string)
set_option linter.unusedVariables false
theorem own : ownKnob Try.prog.godebug = none := by kernel_rfl
theorem laidOut : laidOutB Try.prog = true := by kernel_rfl
theorem walk (n0 : Int) (n1 : Int) (b2 : Bool) (W : World) (hw0 : (Lit.int .i64 n0).wf = true) (hw1 : (Lit.int .i64 n1).wf = true) :
    Calls Try.prog 11 #[.int .i64 n0, .int .i64 n1, .bool b2] W fun e W' => e = .returned (.bool true) ∧ Below W.heap.size W W' := by
  obtain ⟨N, hN⟩ := Vm.evTruthsLaw
  have hi0 : VM.I64 n0 := by have h := hw0; simp [Lit.wf, IntKind.min, IntKind.max, IntKind.signed, IntKind.bits] at h; unfold VM.I64; omega
  have hi1 : VM.I64 n1 := by have h := hw1; simp [Lit.wf, IntKind.min, IntKind.max, IntKind.signed, IntKind.bits] at h; unfold VM.I64; omega
  obtain ⟨o, h0, h1⟩ := hN N (Nat.le_refl N) n0 n1 b2 (fun o => some o) hi0 hi1
  subst h0
  obtain ⟨o, h2, h3⟩ := Vm.tt_sound 1100000 N 11 _ _ _ h1
  injection h3 with h3
  subst h3
  exact VM.law_calls Vm.TAB_chk (f := 11) (sg := Vm.S11) (kd := .bool) rfl rfl rfl rfl h2 (VM.argsL_int (VM.argsL_int (VM.argsL_bool VM.argsL_nil)))
set_option maxRecDepth 100000 in
theorem lifted (os : Os) (started : os.Started) (H : Type) (enc : TypeId × Value → H) :
    ReturnsInHanded {} Try.checked os 11 .any (Rows.evalTruthsSpec.pre6 enc Try.prog Try.f11 Rows.evalTruthsRow.domain false) (Rows.evalTruthsSpec.post enc Try.prog Try.f11 false true false false) := by
  refine returnsInHanded_of_change_sized (C := Try.checked) own started (by kernel_rfl) Try.func11
    (ChangeSpec.witness6 (enc := enc) (C := Try.checked) false ⟨#[], #[.int .i64 0, .int .i64 0, .bool false], []⟩ 8 (by kernel_rfl) (by kernel_rfl) (by kernel_rfl) (by kernel_rfl)) ?_
  intro W base args ds gs before hval0 hW hcnd hsz0 _
  have hval : ∀ (j : Nat) t v, Try.f11.params[j]? = some t → args[j]? = some v → Value.okWide Try.prog W .any base t v := hval0
  have hW' := hW
  obtain ⟨p, q, hA0, hV, rfl, hfz, hnd⟩ := hW
  have hA : DataW.TrodAll enc Try.prog W 0 (fun _ => true) true Try.f11.params.toList args.toList ds p := hA0
  rw [Try.params11] at hA hval
  obtain ⟨v0, vs0, d0, ds0, p0, q0, hargs, rfl, rfl, h0, r0⟩ := trodAll_cons hA
  obtain ⟨v1, vs1, d1, ds1, p1, q1, rfl, rfl, rfl, h1, r1⟩ := trodAll_cons r0
  obtain ⟨v2, vs2, d2, ds2, p2, q2, rfl, rfl, rfl, h2, r2⟩ := trodAll_cons r1
  obtain ⟨rfl, rfl, rfl⟩ := trodAll_nil r2
  obtain rfl : args = #[v0, v1, v2] := by cases args; simp_all
  obtain ⟨rfl, rfl⟩ := trodVars_none hV
  obtain ⟨a0, rfl, rfl, rfl, w0⟩ := open_int Try.underlying2 (hval 0 2 v0 rfl rfl) h0
  obtain ⟨a1, rfl, rfl, rfl, w1⟩ := open_int Try.underlying2 (hval 1 2 v1 rfl rfl) h1
  obtain ⟨a2, rfl, rfl, rfl⟩ := open_bool Try.underlying4 (hval 2 4 v2 rfl rfl) h2
  clear hA0 hval0 hsz0
  refine (walk a0 a1 a2 W w0 w1).mono fun e W' ⟨he, bel⟩ => ?_
  subst he
  exact ⟨_, rfl, _, _, _, [], _, [], hW', trodAll_mk1 (shut_bool Try.underlying4 _), (trodAll_cons_mk (shut_int Try.underlying2 w0) (trodAll_cons_mk (shut_int Try.underlying2 w1) (trodAll_cons_mk (shut_bool Try.underlying4 _) trodAll_mk0))), rfl, bel.frame _, fun h => by cases h⟩
theorem over : Rows.evalTruthsRow.holds Try.pinned (OpenSpec.ofChange Rows.evalTruthsSpec) :=
  OpenClaim.holds_of_wide 11 Try.f11 rfl rfl rfl rfl rfl rfl rfl ⟨rfl, rfl, rfl, rfl, rfl⟩ rfl rfl rfl rfl rfl (by kernel_rfl) Try.func11 (by kernel_rfl)
    (of_decide_eq_true (by kernel_rfl)) (by unfold Func.isWrapper; first | (rw [if_pos (by decide +kernel)]; kernel_rfl) | (rw [if_neg (by decide +kernel)]; exact ⟨rfl, rfl⟩))
    (fun os started H enc _ => lifted os started H enc)
theorem proved : Rows.EvalTruthsSaid := over
#print axioms proved
end Go.Proofs.Ytdfjodnkplbffaa.evalTruthsRow
namespace Go.Proofs.Ytdfjodnkplbffaa
/-- The row, under a short name, for the claim. -/
theorem evalTruths_holds : Rows.EvalTruthsSaid := evalTruthsRow.proved
end Go.Proofs.Ytdfjodnkplbffaa
