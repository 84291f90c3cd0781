/- The row of CodeGuards, by the machine of values. -/
import Derived.Test.YtdfjodnkplbffaaCg1
import Derived.Test.YtdfjodnkplbffaaCg2
import Derived.Test.YtdfjodnkplbffaaRows
import Derived.WalkKit
import Derived.ProofKit
import Derived.OpenShut
import Derived.ShutString
import Derived.ChangeOld
import Derived.Below
import Derived.SizedLaws
open Go Go.VM
set_option linter.unusedVariables false
set_option linter.unusedSimpArgs false
set_option maxRecDepth 100000
set_option maxHeartbeats 8000000
namespace Go.Proofs.Ytdfjodnkplbffaa.Vm
theorem evFind : Ev FindOK := ev0 fun j => by have e := find_ok (G := gu 10000 j) (k := 10000) (by omega); unfold FindOK at e ⊢; (intros; refine gu_W ?_; apply e <;> assumption)
theorem evPlX : Ev (PlX 61) := ev0 fun j => by have e := plx_ok (G := gu 10000 j) (k := 10000) (by omega); unfold PlX at e ⊢; (intros; refine gu_W ?_; apply e <;> assumption)
theorem evSiX : Ev (PlX 57) := ev0 fun j => by have e := six_ok (G := gu 10000 j) (k := 10000) (by omega); unfold PlX at e ⊢; (intros; refine gu_W ?_; apply e <;> assumption)
theorem evOpX : Ev (OpX 63) := ev0 fun j => by have e := opx_ok (G := gu 10000 j) (k := 10000); unfold OpX at e ⊢; (intros; refine gu_W ?_; apply e <;> assumption)
theorem evCOpX : Ev (OpX 60) := ev0 fun j => by have e := copx_ok (G := gu 10000 j) (k := 10000); unfold OpX at e ⊢; (intros; refine gu_W ?_; apply e <;> assumption)
theorem evRX : ∀ d, Ev (RX d)
  | 0 => evT fun G c e N K h => h.elim
  | d + 1 => evS (evA (evA evPlX evFind) (evA (evA evOpX (evRX d)) (evA (P1 d) (P2 d)))) fun j h => by have e := rexprx_ok (G := gu 10000 j) (k := 10000) h.1.1 h.1.2 h.2.1.1 h.2.1.2 h.2.2.1 h.2.2.2; unfold RX at e ⊢; (intros; refine gu_W ?_; apply e <;> assumption)
where
  P1 (d : Nat) : Ev (RBX 64 andX 1 d) := evS (evRX d) fun j h => by have e := randx_ok (G := gu 10000 j) (k := 10000) h; unfold RBX at e ⊢; (intros; refine gu_W ?_; apply e <;> assumption)
  P2 (d : Nat) : Ev (RBX 65 orX 3 d) := evS (evRX d) fun j h => by have e := rorx_ok (G := gu 10000 j) (k := 10000) h; unfold RBX at e ⊢; (intros; refine gu_W ?_; apply e <;> assumption)
theorem evPut : Ev PutX := ev0 fun j => by have e := putx_ok (G := gu 10000 j) (k := 10000); unfold PutX at e ⊢; (intros; refine gu_W ?_; apply e <;> assumption)
theorem evHere : Ev HereX := ev0 fun j => by have e := herex_ok (G := gu 10000 j) (k := 10000); unfold HereX at e ⊢; (intros; refine gu_W ?_; apply e <;> assumption)
theorem evPush : Ev PushX := evS evPut fun j h => by have e := pushx_ok (G := gu 10000 j) (k := 10000) h; unfold PushX at e ⊢; (intros; refine gu_W ?_; apply e <;> assumption)
theorem evFc : Ev FcOK := ev0 fun j => by have e := fc_ok (G := gu 10000 j) (k := 10000); unfold FcOK at e ⊢; (intros; refine gu_W ?_; apply e <;> assumption)
theorem evIx : Ev IxOK := evS evFc fun j h => by have e := ix_ok (G := gu 10000 j) (k := 10000) (by omega) h; unfold IxOK at e ⊢; (intros; refine gu_W ?_; apply e <;> assumption)
theorem evCFind : Ev CFindOK := evS evIx fun j h => by have e := cfind_ok (G := gu 10000 j) (k := 10000) h; unfold CFindOK at e ⊢; (intros; refine gu_W ?_; apply e <;> assumption)
theorem evCX : ∀ d, Ev (CX d)
  | 0 => evT fun G c e N K h => h.elim
  | d + 1 => evS (evA (evA (evA evPush evPut) (evA evSiX evCFind)) (evA evCOpX (evA (P1 d) (evCX d)))) fun j h => by have e := cexprx_ok (G := gu 10000 j) (k := 10000) (by omega) h.1.1.1 h.1.1.2 h.1.2.1 h.1.2.2 h.2.1 h.2.2.1 h.2.2.2; unfold CX at e ⊢; (intros; refine gu_W ?_; apply e <;> assumption)
where
  P1 (d : Nat) : Ev (CBX d) := evS (evA (evA evPut evHere) (evA evPush (evCX d))) fun j h => by have e := bothx_ok (G := gu 10000 j) (k := 10000) h.1.1 h.1.2 h.2.1 h.2.2; unfold CBX at e ⊢; (intros; refine gu_W ?_; apply e <;> assumption)
theorem evRGd : Ev (GdX 25 6) := evS (evRX 6) fun j h => by have e := rgdx_ok (G := gu 10000 j) (k := 10000) (by decide) h; unfold GdX at e ⊢; (intros; refine gu_W ?_; apply e <;> assumption)
theorem evCGd : Ev (GdX 24 6) := evS (evCX 6) fun j h => by have e := cgdx_ok (G := gu 10000 j) (k := 10000) (by decide) h; unfold GdX at e ⊢; (intros; refine gu_W ?_; apply e <;> assumption)
theorem evSameC : Ev SameC := ev0 fun j => by have e := samec_ok (G := gu 10000 j) (k := 10000) (by omega); unfold SameC at e ⊢; (intros; refine gu_W ?_; apply e <;> assumption)
theorem evNamed : Ev NamedX := by
  refine ⟨12, fun j hj => ?_⟩
  obtain ⟨j', rfl⟩ : ∃ j', j = j' + 12 := ⟨j - 12, by omega⟩
  intro K
  show _ = _
  kernel_rfl
theorem evKnC : Ev KnC := by
  refine ⟨16, fun j hj => ?_⟩
  obtain ⟨j', rfl⟩ : ∃ j', j = j' + 16 := ⟨j - 16, by omega⟩
  intro K
  show _ = _
  kernel_rfl
theorem evGuardsLaw : Ev GuardsOK := evS (evA (evA evKnC evNamed) (evA (evExpr 5 (by omega)) (evA (evA evRGd evCGd) evSameC))) fun j h => by
  have e := guards_law (G := gu 10000 j) (k := 10000) h.1.1 h.1.2 h.2.1 h.2.2.1.1 h.2.2.1.2 h.2.2.2
  unfold GuardsOK at e ⊢; (intros; refine gu_W ?_; apply e <;> assumption)
end Go.Proofs.Ytdfjodnkplbffaa.Vm
namespace Go.Proofs.Ytdfjodnkplbffaa.codeGuardsRow
open Go.ChangeShapes Go.WideShapes Go.ChangeAt Go.RowKit
open Go.ChangeMaps (open_string shut_string)
set_option linter.unusedVariables false
theorem own : ownKnob Try.prog.godebug = none := by kernel_rfl
theorem laidOut : laidOutB Try.prog = true := by kernel_rfl
theorem walk (a0 : Option Addr) (len0 cap0 : Nat) (zs0 : List Int) (W : World) (hr0 : VM.IsRow .i64 W a0 len0 cap0 zs0) (hz0 : ∀ n ∈ zs0, (Lit.int .i64 n).wf = true) :
    Calls Try.prog 7 #[.slice a0 len0 cap0] W fun e W' => e = .returned (.bool true) ∧ Below W.heap.size W W' := by
  obtain ⟨N, hN⟩ := Vm.evGuardsLaw
  have hi0 := VM.ints_of (len := len0) hz0
  obtain ⟨o, h0, h1⟩ := hN N (Nat.le_refl N) ((zs0.take len0).map fun n => .int .i64 n) (fun o => some o) hi0
  subst h0
  obtain ⟨o, h2, h3⟩ := Vm.gu_sound 10000 N 7 _ _ _ h1
  injection h3 with h3
  subst h3
  exact VM.law_calls Vm.TAB_chk (f := 7) (sg := Vm.S7) (kd := .bool) rfl rfl rfl h2 (VM.argsL_row hr0 VM.argsL_nil)
set_option maxRecDepth 100000 in
theorem lifted (os : Os) (started : os.Started) (H : Type) (enc : TypeId × Value → H) :
    ReturnsInHanded {} Try.checked os 7 .any (Rows.codeGuardsSpec.pre6 enc Try.prog Try.f7 Rows.codeGuardsRow.domain false) (Rows.codeGuardsSpec.post enc Try.prog Try.f7 false true false false) := by
  refine returnsInHanded_of_change_sized (C := Try.checked) own started (by kernel_rfl) Try.func7
    (ChangeSpec.witness6 (enc := enc) (C := Try.checked) false ⟨#[], #[.slice none 0 0], []⟩ 8 (by kernel_rfl) (by kernel_rfl) (by kernel_rfl) (by kernel_rfl)) ?_
  intro W base args ds gs before hval0 hW hcnd hsz0 _
  have hval : ∀ (j : Nat) t v, Try.f7.params[j]? = some t → args[j]? = some v → Value.okWide Try.prog W .any base t v := hval0
  have hW' := hW
  obtain ⟨p, q, hA0, hV, rfl, hfz, hnd⟩ := hW
  have hA : DataW.TrodAll enc Try.prog W 0 (fun _ => true) true Try.f7.params.toList args.toList ds p := hA0
  rw [Try.params7] at hA hval
  obtain ⟨v0, vs0, d0, ds0, p0, q0, hargs, rfl, rfl, h0, r0⟩ := trodAll_cons hA
  obtain ⟨rfl, rfl, rfl⟩ := trodAll_nil r0
  obtain rfl : args = #[v0] := by cases args; simp_all
  obtain ⟨rfl, rfl⟩ := trodVars_none hV
  obtain ⟨a0, len0, cap0, rfl⟩ := okWide_slice Try.underlying22 (hval 0 22 v0 rfl rfl)
  have k0 := h0
  have lt0 : ∀ x ∈ p0, x.block < W.heap.size := by obtain ⟨m, hm⟩ := k0; exact DataW.trod_lt m _ _ _ hm
  obtain ⟨z0, w0, y0⟩ : ∃ zs, VM.IsRow .i64 W a0 len0 cap0 zs ∧ ∀ n ∈ zs, (Lit.int .i64 n).wf = true := by
    obtain ⟨fuel, hf⟩ := h0
    rcases open_ints Try.underlying22 Try.underlying3 (by kernel_rfl) hf with ⟨hcs, _⟩ | ⟨x, l, c, zs, hcs, _, hl, hm, hz, _, hcell, hwz⟩
    · simp [Value.cells] at hcs
      obtain ⟨rfl, rfl, rfl⟩ := hcs
      exact ⟨[], .inl ⟨rfl, rfl, rfl, rfl⟩, by simp⟩
    · simp [Value.cells] at hcs
      obtain ⟨rfl, rfl, rfl⟩ := hcs
      exact ⟨zs, .inr ⟨_, rfl, hl, by simpa using hz, hcell⟩, hwz⟩
  clear hA0 hval0 hsz0
  refine (walk a0 len0 cap0 z0 W w0 y0).mono fun e W' ⟨he, bel⟩ => ?_
  subst he
  exact ⟨_, rfl, _, _, _, [], _, [], hW', trodAll_mk1 (shut_bool Try.underlying4 _), (trodAll_cons_mk (Below.trod laidOut (by kernel_rfl) (of_decide_eq_true (by kernel_rfl)) k0 bel lt0) trodAll_mk0), rfl, bel.frame _, fun h => by cases h⟩
theorem over : Rows.codeGuardsRow.holds Try.pinned (OpenSpec.ofChange Rows.codeGuardsSpec) :=
  OpenClaim.holds_of_wide 7 Try.f7 rfl rfl rfl rfl rfl rfl rfl ⟨rfl, rfl, rfl, rfl, rfl⟩ rfl rfl rfl rfl rfl (by kernel_rfl) Try.func7 (by kernel_rfl)
    (of_decide_eq_true (by kernel_rfl)) (by unfold Func.isWrapper; first | (rw [if_pos (by decide +kernel)]; kernel_rfl) | (rw [if_neg (by decide +kernel)]; exact ⟨rfl, rfl⟩))
    (fun os started H enc _ => lifted os started H enc)
theorem proved : Rows.CodeGuardsSaid := over
#print axioms proved
end Go.Proofs.Ytdfjodnkplbffaa.codeGuardsRow
namespace Go.Proofs.Ytdfjodnkplbffaa
/-- The row, under a short name, for the claim. -/
theorem codeGuards_holds : Rows.CodeGuardsSaid := codeGuardsRow.proved
end Go.Proofs.Ytdfjodnkplbffaa
