/- Most of a loop with n rounds is n times Most of its block, plus 1 for its start and n for its ends. -/
import Derived.Test.YtdfjodnkplbffaaCl2
import Derived.Test.YtdfjodnkplbffaaRows
import Derived.WalkKit
import Derived.ProofKit
import Derived.OpenShut
import Derived.ShutString
import Derived.ChangeOld
import Derived.Below
import Derived.SizedLaws
open Go Go.VM
set_option linter.unusedVariables false
set_option linter.unusedSimpArgs false
set_option maxRecDepth 100000
set_option maxHeartbeats 8000000
namespace Go.Proofs.Ytdfjodnkplbffaa.Vm
theorem evTm : Ev (TmX 20) := ev0 fun j => by have e := ctx_ok (G := cd 10000 j) (k := 10000) (by omega); unfold TmX at e ⊢; (intros; refine cd_W ?_; apply e <;> assumption)
theorem evRTm : Ev (TmX 21) := ev0 fun j => by have e := rtx_ok (G := cd 10000 j) (k := 10000) (by omega); unfold TmX at e ⊢; (intros; refine cd_W ?_; apply e <;> assumption)
theorem evMo : Ev MoX := ev0 fun j => by have e := mox_ok (G := cd 10000 j) (k := 10000) (by omega); unfold MoX at e ⊢; (intros; refine cd_W ?_; apply e <;> assumption)
theorem evCountsLaw : Ev CountsOK := evS (evA (evA evKnC evNamed) (evA (evA (evBlock 3 (by omega)) (evRBl (d := 4) (by decide))) (evA (evA evTm evRTm) evMo))) fun j h => by
  have e := counts_law (G := cd 10000 j) (k := 10000) (by omega) h.1.1 h.1.2 h.2.1.1 h.2.1.2 h.2.2.1.1 h.2.2.1.2 h.2.2.2
  unfold CountsOK at e ⊢; (intros; refine cd_W ?_; apply e <;> assumption)
theorem evLoopsLaw : Ev LoopsOK := evS (evA (evA evKnC evNamed) (evA (evBlock 1 (by omega)) (evA (evA (evCBl (d := 2) (by decide)) (evCBl (d := 3) (by decide))) evMo))) fun j h => by
  have e := loops_law (G := cd 10000 j) (k := 10000) h.1.1 h.1.2 h.2.1 h.2.2.1.1 h.2.2.1.2 h.2.2.2
  unfold LoopsOK at e ⊢; (intros; refine cd_W ?_; apply e <;> assumption)
end Go.Proofs.Ytdfjodnkplbffaa.Vm
namespace Go.Proofs.Ytdfjodnkplbffaa.codeLoopsRow
open Go.ChangeShapes Go.WideShapes Go.ChangeAt Go.RowKit
open Go.ChangeMaps (open_string shut_string)
set_option linter.unusedVariables false
theorem own : ownKnob Try.prog.godebug = none := by kernel_rfl
theorem laidOut : laidOutB Try.prog = true := by kernel_rfl
theorem walk (a0 : Option Addr) (len0 cap0 : Nat) (zs0 : List Int) (n1 : Int) (W : World) (hr0 : VM.IsRow .i64 W a0 len0 cap0 zs0) (hz0 : ∀ n ∈ zs0, (Lit.int .i64 n).wf = true) (hw1 : (Lit.int .u8 n1).wf = true) :
    Calls Try.prog 6 #[.slice a0 len0 cap0, .int .u8 n1] W fun e W' => e = .returned (.bool true) ∧ Below W.heap.size W W' := by
  obtain ⟨N, hN⟩ := Vm.evLoopsLaw
  have hi0 := VM.ints_of (len := len0) hz0
  have hi1 := VM.u8_of hw1
  obtain ⟨o, h0, h1⟩ := hN N (Nat.le_refl N) ((zs0.take len0).map fun n => .int .i64 n) n1 (fun o => some o) hi0 hi1
  subst h0
  obtain ⟨o, h2, h3⟩ := Vm.cd_sound 10000 N 6 _ _ _ h1
  injection h3 with h3
  subst h3
  exact VM.law_calls Vm.TAB_chk (f := 6) (sg := Vm.S6) (kd := .bool) rfl rfl rfl h2 (VM.argsL_row hr0 (VM.argsL_int VM.argsL_nil))
set_option maxRecDepth 100000 in
theorem lifted (os : Os) (started : os.Started) (H : Type) (enc : TypeId × Value → H) :
    ReturnsInHanded {} Try.checked os 6 .any (Rows.codeLoopsSpec.pre6 enc Try.prog Try.f6 Rows.codeLoopsRow.domain false) (Rows.codeLoopsSpec.post enc Try.prog Try.f6 false true false false) := by
  refine returnsInHanded_of_change_sized (C := Try.checked) own started (by kernel_rfl) Try.func6
    (ChangeSpec.witness6 (enc := enc) (C := Try.checked) false ⟨#[], #[.slice none 0 0, .int .u8 0], []⟩ 8 (by kernel_rfl) (by kernel_rfl) (by kernel_rfl) (by kernel_rfl)) ?_
  intro W base args ds gs before hval0 hW hcnd hsz0 _
  have hval : ∀ (j : Nat) t v, Try.f6.params[j]? = some t → args[j]? = some v → Value.okWide Try.prog W .any base t v := hval0
  have hW' := hW
  obtain ⟨p, q, hA0, hV, rfl, hfz, hnd⟩ := hW
  have hA : DataW.TrodAll enc Try.prog W 0 (fun _ => true) true Try.f6.params.toList args.toList ds p := hA0
  rw [Try.params6] at hA hval
  obtain ⟨v0, vs0, d0, ds0, p0, q0, hargs, rfl, rfl, h0, r0⟩ := trodAll_cons hA
  obtain ⟨v1, vs1, d1, ds1, p1, q1, rfl, rfl, rfl, h1, r1⟩ := trodAll_cons r0
  obtain ⟨rfl, rfl, rfl⟩ := trodAll_nil r1
  obtain rfl : args = #[v0, v1] := by cases args; simp_all
  obtain ⟨rfl, rfl⟩ := trodVars_none hV
  obtain ⟨a0, len0, cap0, rfl⟩ := okWide_slice Try.underlying22 (hval 0 22 v0 rfl rfl)
  have k0 := h0
  have lt0 : ∀ x ∈ p0, x.block < W.heap.size := by obtain ⟨m, hm⟩ := k0; exact DataW.trod_lt m _ _ _ hm
  obtain ⟨z0, w0, y0⟩ : ∃ zs, VM.IsRow .i64 W a0 len0 cap0 zs ∧ ∀ n ∈ zs, (Lit.int .i64 n).wf = true := by
    obtain ⟨fuel, hf⟩ := h0
    rcases open_ints Try.underlying22 Try.underlying3 (by kernel_rfl) hf with ⟨hcs, _⟩ | ⟨x, l, c, zs, hcs, _, hl, hm, hz, _, hcell, hwz⟩
    · simp [Value.cells] at hcs
      obtain ⟨rfl, rfl, rfl⟩ := hcs
      exact ⟨[], .inl ⟨rfl, rfl, rfl, rfl⟩, by simp⟩
    · simp [Value.cells] at hcs
      obtain ⟨rfl, rfl, rfl⟩ := hcs
      exact ⟨zs, .inr ⟨_, rfl, hl, by simpa using hz, hcell⟩, hwz⟩
  obtain ⟨a1, rfl, rfl, rfl, w1⟩ := open_int Try.underlying5 (hval 1 5 v1 rfl rfl) h1
  clear hA0 hval0 hsz0
  refine (walk a0 len0 cap0 z0 a1 W w0 y0 w1).mono fun e W' ⟨he, bel⟩ => ?_
  subst he
  exact ⟨_, rfl, _, _, _, [], _, [], hW', trodAll_mk1 (shut_bool Try.underlying4 _), (trodAll_cons_mk (Below.trod laidOut (by kernel_rfl) (of_decide_eq_true (by kernel_rfl)) k0 bel lt0) (trodAll_cons_mk (shut_int Try.underlying5 w1) trodAll_mk0)), rfl, bel.frame _, fun h => by cases h⟩
theorem over : Rows.codeLoopsRow.holds Try.pinned (OpenSpec.ofChange Rows.codeLoopsSpec) :=
  OpenClaim.holds_of_wide 6 Try.f6 rfl rfl rfl rfl rfl rfl rfl ⟨rfl, rfl, rfl, rfl, rfl⟩ rfl rfl rfl rfl rfl (by kernel_rfl) Try.func6 (by kernel_rfl)
    (of_decide_eq_true (by kernel_rfl)) (by unfold Func.isWrapper; first | (rw [if_pos (by decide +kernel)]; kernel_rfl) | (rw [if_neg (by decide +kernel)]; exact ⟨rfl, rfl⟩))
    (fun os started H enc _ => lifted os started H enc)
theorem proved : Rows.CodeLoopsSaid := over
#print axioms proved
end Go.Proofs.Ytdfjodnkplbffaa.codeLoopsRow
namespace Go.Proofs.Ytdfjodnkplbffaa
/-- The row, under a short name, for the claim. -/
theorem codeLoops_holds : Rows.CodeLoopsSaid := codeLoopsRow.proved
end Go.Proofs.Ytdfjodnkplbffaa
