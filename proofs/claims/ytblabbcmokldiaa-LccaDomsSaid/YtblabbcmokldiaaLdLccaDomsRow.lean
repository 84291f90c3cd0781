/- The row of LccaDoms, by the machine of values. -/
import Derived.Test.YtblabbcmokldiaaLd2
import Derived.Test.YtblabbcmokldiaaRows
import Derived.WalkKit
import Derived.ProofKit
import Derived.OpenShut
import Derived.ShutString
import Derived.ChangeOld
import Derived.Below
import Derived.SizedLaws
open Go Go.VM
set_option linter.unusedVariables false
set_option maxRecDepth 100000
set_option maxHeartbeats 8000000
namespace Go.Proofs.Ytblabbcmokldiaa.Vm
theorem evCIs : Ev CIsOK := ev0 fun j => by have e := cis_ok (G := gl 10000 j) (k := 10000); unfold CIsOK at e ⊢; (intros; refine gl_W ?_; apply e <;> assumption)
theorem evCIn : Ev CInOK := evS evCIs fun j h => by have e := cin_ok (G := gl 10000 j) (k := 10000) h; unfold CInOK at e ⊢; (intros; refine gl_W ?_; apply e <;> assumption)
theorem evIns : Ev InsOK := evS evCIn fun j h => by have e := ins_ok (G := gl 10000 j) (k := 10000) h; unfold InsOK at e ⊢; (intros; refine gl_W ?_; apply e <;> assumption)
theorem evCDom : Ev CDomOK := evS evIns fun j h => by have e := cdom_ok (G := gl 10000 j) (k := 10000) (by omega) h; unfold CDomOK at e ⊢; (intros; refine gl_W ?_; apply e <;> assumption)
theorem evDom : Ev DomOK := evS (evA evIs evIn) fun j h => by have e := dom_ok (G := gl 10000 j) (k := 10000) (by omega) h.1 h.2; unfold DomOK at e ⊢; (intros; refine gl_W ?_; apply e <;> assumption)
theorem evNds : Ev NdsOK := evS (evA evChart evNodes) fun j h => by have e := nds_ok (G := gl 10000 j) (k := 10000) h.1 h.2; unfold NdsOK at e ⊢; (intros; refine gl_W ?_; apply e <;> assumption)
theorem evKnL : Ev KnLOK := by
  refine ⟨14, fun j hj => ?_⟩
  obtain ⟨j', rfl⟩ : ∃ j', j = j' + 14 := ⟨j - 14, by omega⟩
  intro K
  show _ = _
  kernel_rfl
theorem evDomsLaw : Ev DomsLawOK := evS (evA (evA evKnL evNds) (evA (evA evPlace evDom) (evA evCDom evCIn))) fun j h => by
  have e := doms_law (G := gl 10000 j) (k := 10000) h.1.1 h.1.2 h.2.1.1 h.2.1.2 h.2.2.1 h.2.2.2
  unfold DomsLawOK at e ⊢; (intros; refine gl_W ?_; apply e <;> assumption)
end Go.Proofs.Ytblabbcmokldiaa.Vm
namespace Go.Proofs.Ytblabbcmokldiaa.lccaDomsRow
open Go.ChangeShapes Go.WideShapes Go.ChangeAt Go.RowKit
open Go.ChangeMaps (open_string shut_string)
set_option linter.unusedVariables false
theorem own : ownKnob Try.prog.godebug = none := by kernel_rfl
theorem laidOut : laidOutB Try.prog = true := by kernel_rfl
theorem walk (a0 : Option Addr) (len0 cap0 : Nat) (zs0 : List Int) (n1 : Int) (n2 : Int) (W : World) (hr0 : VM.IsRow .i64 W a0 len0 cap0 zs0) (hz0 : ∀ n ∈ zs0, (Lit.int .i64 n).wf = true) (hw1 : (Lit.int .i64 n1).wf = true) (hw2 : (Lit.int .i64 n2).wf = true) :
    Calls Try.prog 7 #[.slice a0 len0 cap0, .int .i64 n1, .int .i64 n2] W fun e W' => e = .returned (.bool true) ∧ Below W.heap.size W W' := by
  obtain ⟨N, hN⟩ := Vm.evDomsLaw
  have hi0 := VM.ints_of (len := len0) hz0
  obtain ⟨o, h0, h1⟩ := hN N (Nat.le_refl N) ((zs0.take len0).map fun n => .int .i64 n) n1 n2 (fun o => some o) hi0
  subst h0
  obtain ⟨o, h2, h3⟩ := Vm.gl_sound 10000 N 7 _ _ _ h1
  injection h3 with h3
  subst h3
  exact VM.law_calls Vm.TAB_chk (f := 7) (sg := Vm.S7) (kd := .bool) rfl rfl rfl h2 (VM.argsL_row hr0 (VM.argsL_int (VM.argsL_int VM.argsL_nil)))
set_option maxRecDepth 100000 in
theorem lifted (os : Os) (started : os.Started) (H : Type) (enc : TypeId × Value → H) :
    ReturnsInHanded {} Try.checked os 7 .any (Rows.lccaDomsSpec.pre6 enc Try.prog Try.f7 Rows.lccaDomsRow.domain false) (Rows.lccaDomsSpec.post enc Try.prog Try.f7 false true false false) := by
  refine returnsInHanded_of_change_sized (C := Try.checked) own started (by kernel_rfl) Try.func7
    (ChangeSpec.witness6 (enc := enc) (C := Try.checked) false ⟨#[], #[.slice none 0 0, .int .i64 0, .int .i64 0], []⟩ 8 (by kernel_rfl) (by kernel_rfl) (by kernel_rfl) (by kernel_rfl)) ?_
  intro W base args ds gs before hval0 hW hcnd hsz0 _
  have hval : ∀ (j : Nat) t v, Try.f7.params[j]? = some t → args[j]? = some v → Value.okWide Try.prog W .any base t v := hval0
  have hW' := hW
  obtain ⟨p, q, hA0, hV, rfl, hfz, hnd⟩ := hW
  have hA : DataW.TrodAll enc Try.prog W 0 (fun _ => true) true Try.f7.params.toList args.toList ds p := hA0
  rw [Try.params7] at hA hval
  obtain ⟨v0, vs0, d0, ds0, p0, q0, hargs, rfl, rfl, h0, r0⟩ := trodAll_cons hA
  obtain ⟨v1, vs1, d1, ds1, p1, q1, rfl, rfl, rfl, h1, r1⟩ := trodAll_cons r0
  obtain ⟨v2, vs2, d2, ds2, p2, q2, rfl, rfl, rfl, h2, r2⟩ := trodAll_cons r1
  obtain ⟨rfl, rfl, rfl⟩ := trodAll_nil r2
  obtain rfl : args = #[v0, v1, v2] := by cases args; simp_all
  obtain ⟨rfl, rfl⟩ := trodVars_none hV
  obtain ⟨a0, len0, cap0, rfl⟩ := okWide_slice Try.underlying22 (hval 0 22 v0 rfl rfl)
  have k0 := h0
  have lt0 : ∀ x ∈ p0, x.block < W.heap.size := by obtain ⟨m, hm⟩ := k0; exact DataW.trod_lt m _ _ _ hm
  obtain ⟨z0, w0, y0⟩ : ∃ zs, VM.IsRow .i64 W a0 len0 cap0 zs ∧ ∀ n ∈ zs, (Lit.int .i64 n).wf = true := by
    obtain ⟨fuel, hf⟩ := h0
    rcases open_ints Try.underlying22 Try.underlying3 (by kernel_rfl) hf with ⟨hcs, _⟩ | ⟨x, l, c, zs, hcs, _, hl, hm, hz, _, hcell, hwz⟩
    · simp [Value.cells] at hcs
      obtain ⟨rfl, rfl, rfl⟩ := hcs
      exact ⟨[], .inl ⟨rfl, rfl, rfl, rfl⟩, by simp⟩
    · simp [Value.cells] at hcs
      obtain ⟨rfl, rfl, rfl⟩ := hcs
      exact ⟨zs, .inr ⟨_, rfl, hl, by simpa using hz, hcell⟩, hwz⟩
  obtain ⟨a1, rfl, rfl, rfl, w1⟩ := open_int Try.underlying3 (hval 1 3 v1 rfl rfl) h1
  obtain ⟨a2, rfl, rfl, rfl, w2⟩ := open_int Try.underlying3 (hval 2 3 v2 rfl rfl) h2
  clear hA0 hval0 hsz0
  refine (walk a0 len0 cap0 z0 a1 a2 W w0 y0 w1 w2).mono fun e W' ⟨he, bel⟩ => ?_
  subst he
  exact ⟨_, rfl, _, _, _, [], _, [], hW', trodAll_mk1 (shut_bool Try.underlying4 _), (trodAll_cons_mk (Below.trod laidOut (by kernel_rfl) (of_decide_eq_true (by kernel_rfl)) k0 bel lt0) (trodAll_cons_mk (shut_int Try.underlying3 w1) (trodAll_cons_mk (shut_int Try.underlying3 w2) trodAll_mk0))), rfl, bel.frame _, fun h => by cases h⟩
theorem over : Rows.lccaDomsRow.holds Try.pinned (OpenSpec.ofChange Rows.lccaDomsSpec) :=
  OpenClaim.holds_of_wide 7 Try.f7 rfl rfl rfl rfl rfl rfl rfl ⟨rfl, rfl, rfl, rfl, rfl⟩ rfl rfl rfl rfl rfl (by kernel_rfl) Try.func7 (by kernel_rfl)
    (of_decide_eq_true (by kernel_rfl)) (by unfold Func.isWrapper; first | (rw [if_pos (by decide +kernel)]; kernel_rfl) | (rw [if_neg (by decide +kernel)]; exact ⟨rfl, rfl⟩))
    (fun os started H enc _ => lifted os started H enc)
theorem proved : Rows.LccaDomsSaid := over
#print axioms proved
end Go.Proofs.Ytblabbcmokldiaa.lccaDomsRow
namespace Go.Proofs.Ytblabbcmokldiaa
/-- The row, under a short name, for the claim. -/
theorem lccaDoms_holds : Rows.LccaDomsSaid := lccaDomsRow.proved
end Go.Proofs.Ytblabbcmokldiaa
