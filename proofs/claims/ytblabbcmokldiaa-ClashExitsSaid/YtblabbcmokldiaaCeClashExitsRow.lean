/- The row of ClashExits, by the machine of values. -/
import Derived.Test.YtblabbcmokldiaaCe3
import Derived.Test.YtblabbcmokldiaaRows
import Derived.WalkKit
import Derived.ProofKit
import Derived.OpenShut
import Derived.ShutString
import Derived.ChangeOld
import Derived.Below
import Derived.SizedLaws
open Go Go.VM
set_option linter.unusedVariables false
set_option linter.unusedSimpArgs false
set_option maxRecDepth 100000
set_option maxHeartbeats 8000000
namespace Go.Proofs.Ytblabbcmokldiaa.Vm
theorem evKnEx : Ev KnExOK := by
  refine ⟨10, fun j hj => ?_⟩
  obtain ⟨j', rfl⟩ : ∃ j', j = j' + 10 := ⟨j - 10, by omega⟩
  intro K
  show _ = _
  kernel_rfl
theorem evRKids : Ev (KidsOK 24) := evS evIs fun j h => by have e := rkids_ok (G := gx 10000 j) (k := 10000) (by omega) h; unfold KidsOK at e ⊢; (intros; refine gx_W ?_; apply e <;> assumption)
theorem evHas : Ev HasOK := ev0 fun j => by have e := has_ok (G := gx 10000 j) (k := 10000) (by omega); unfold HasOK at e ⊢; (intros; refine gx_W ?_; apply e <;> assumption)
theorem evNot : Ev NotOK := evS evHas fun j h => by have e := not_ok (G := gx 10000 j) (k := 10000) (by omega) h; unfold NotOK at e ⊢; (intros; refine gx_W ?_; apply e <;> assumption)
theorem evAnd : Ev AndOK := evS evNot fun j h => by have e := and_ok (G := gx 10000 j) (k := 10000) h; unfold AndOK at e ⊢; (intros; refine gx_W ?_; apply e <;> assumption)
theorem evStates : Ev StatesOK := evS (evA evRKids evIsSt) fun j h => by have e := states_ok (G := gx 10000 j) (k := 10000) (by omega) h.1 h.2; unfold StatesOK at e ⊢; (intros; refine gx_W ?_; apply e <;> assumption)
theorem evExit : Ev ExitOK := evS evIn fun j h => by have e := exit_ok (G := gx 10000 j) (k := 10000) (by omega) h; unfold ExitOK at e ⊢; (intros; refine gx_W ?_; apply e <;> assumption)
theorem evSomeL : ∀ d, Ev (SomeL d)
  | 0 => evS (evA evStates evNext) fun j h => by have e := some_ok (G := gx 10000 j) (k := 10000) (d := 0) (by omega) h.1 h.2 (fun d' e => by omega); unfold SomeL at e ⊢; (intros; refine gx_W ?_; apply e <;> assumption)
  | d + 1 => evS (evA (evA evStates evNext) (evSomeL d)) fun j h => by have e := some_ok (G := gx 10000 j) (k := 10000) (d := d + 1) (by omega) h.1.1 h.1.2 (fun d' e => by cases e; exact h.2); unfold SomeL at e ⊢; (intros; refine gx_W ?_; apply e <;> assumption)
theorem evExits : Ev ExitsOK := evS (evA (evA evKnEx evTbl) (evA (evA (evSomeL 200) evHas) (evA evExit (evA evAnd evCPair)))) fun j h => by
  have e := exits_ok (G := gx 10000 j) (k := 10000) (by omega) h.1.1 h.1.2 h.2.1.1 h.2.1.2 h.2.2.1 h.2.2.2.1 h.2.2.2.2
  unfold ExitsOK at e ⊢; (intros; refine gx_W ?_; apply e <;> assumption)
end Go.Proofs.Ytblabbcmokldiaa.Vm
namespace Go.Proofs.Ytblabbcmokldiaa.clashExitsRow
open Go.ChangeShapes Go.WideShapes Go.ChangeAt Go.RowKit
open Go.ChangeMaps (open_string shut_string)
set_option linter.unusedVariables false
theorem own : ownKnob Try.prog.godebug = none := by kernel_rfl
theorem laidOut : laidOutB Try.prog = true := by kernel_rfl
theorem walk (a0 : Option Addr) (len0 cap0 : Nat) (zs0 : List Int) (a1 : Option Addr) (len1 cap1 : Nat) (zs1 : List Int) (W : World) (hr0 : VM.IsRow .i64 W a0 len0 cap0 zs0) (hz0 : ∀ n ∈ zs0, (Lit.int .i64 n).wf = true) (hr1 : VM.IsRow .i64 W a1 len1 cap1 zs1) (hz1 : ∀ n ∈ zs1, (Lit.int .i64 n).wf = true) :
    Calls Try.prog 12 #[.slice a0 len0 cap0, .slice a1 len1 cap1] W fun e W' => e = .returned (.bool true) ∧ Below W.heap.size W W' := by
  obtain ⟨N, hN⟩ := Vm.evExits
  have hi0 := VM.ints_of (len := len0) hz0
  have hi1 := VM.ints_of (len := len1) hz1
  obtain ⟨o, h0, h1⟩ := hN N (Nat.le_refl N) ((zs0.take len0).map fun n => .int .i64 n) ((zs1.take len1).map fun n => .int .i64 n) (fun o => some o) hi0 hi1
  subst h0
  obtain ⟨o, h2, h3⟩ := Vm.gx_sound 10000 N 12 _ _ _ h1
  injection h3 with h3
  subst h3
  exact VM.law_calls Vm.TAB_chk (f := 12) (sg := Vm.S12) (kd := .bool) rfl rfl rfl h2 (VM.argsL_row hr0 (VM.argsL_row hr1 VM.argsL_nil))
set_option maxRecDepth 100000 in
theorem lifted (os : Os) (started : os.Started) (H : Type) (enc : TypeId × Value → H) :
    ReturnsInHanded {} Try.checked os 12 .any (Rows.clashExitsSpec.pre6 enc Try.prog Try.f12 Rows.clashExitsRow.domain false) (Rows.clashExitsSpec.post enc Try.prog Try.f12 false true false false) := by
  refine returnsInHanded_of_change_sized (C := Try.checked) own started (by kernel_rfl) Try.func12
    (ChangeSpec.witness6 (enc := enc) (C := Try.checked) false ⟨#[], #[.slice none 0 0, .slice none 0 0], []⟩ 8 (by kernel_rfl) (by kernel_rfl) (by kernel_rfl) (by kernel_rfl)) ?_
  intro W base args ds gs before hval0 hW hcnd hsz0 _
  have hval : ∀ (j : Nat) t v, Try.f12.params[j]? = some t → args[j]? = some v → Value.okWide Try.prog W .any base t v := hval0
  have hW' := hW
  obtain ⟨p, q, hA0, hV, rfl, hfz, hnd⟩ := hW
  have hA : DataW.TrodAll enc Try.prog W 0 (fun _ => true) true Try.f12.params.toList args.toList ds p := hA0
  rw [Try.params12] at hA hval
  obtain ⟨v0, vs0, d0, ds0, p0, q0, hargs, rfl, rfl, h0, r0⟩ := trodAll_cons hA
  obtain ⟨v1, vs1, d1, ds1, p1, q1, rfl, rfl, rfl, h1, r1⟩ := trodAll_cons r0
  obtain ⟨rfl, rfl, rfl⟩ := trodAll_nil r1
  obtain rfl : args = #[v0, v1] := by cases args; simp_all
  obtain ⟨rfl, rfl⟩ := trodVars_none hV
  obtain ⟨a0, len0, cap0, rfl⟩ := okWide_slice Try.underlying22 (hval 0 22 v0 rfl rfl)
  have k0 := h0
  have lt0 : ∀ x ∈ p0, x.block < W.heap.size := by obtain ⟨m, hm⟩ := k0; exact DataW.trod_lt m _ _ _ hm
  obtain ⟨z0, w0, y0⟩ : ∃ zs, VM.IsRow .i64 W a0 len0 cap0 zs ∧ ∀ n ∈ zs, (Lit.int .i64 n).wf = true := by
    obtain ⟨fuel, hf⟩ := h0
    rcases open_ints Try.underlying22 Try.underlying3 (by kernel_rfl) hf with ⟨hcs, _⟩ | ⟨x, l, c, zs, hcs, _, hl, hm, hz, _, hcell, hwz⟩
    · simp [Value.cells] at hcs
      obtain ⟨rfl, rfl, rfl⟩ := hcs
      exact ⟨[], .inl ⟨rfl, rfl, rfl, rfl⟩, by simp⟩
    · simp [Value.cells] at hcs
      obtain ⟨rfl, rfl, rfl⟩ := hcs
      exact ⟨zs, .inr ⟨_, rfl, hl, by simpa using hz, hcell⟩, hwz⟩
  obtain ⟨a1, len1, cap1, rfl⟩ := okWide_slice Try.underlying22 (hval 1 22 v1 rfl rfl)
  have k1 := h1
  have lt1 : ∀ x ∈ p1, x.block < W.heap.size := by obtain ⟨m, hm⟩ := k1; exact DataW.trod_lt m _ _ _ hm
  obtain ⟨z1, w1, y1⟩ : ∃ zs, VM.IsRow .i64 W a1 len1 cap1 zs ∧ ∀ n ∈ zs, (Lit.int .i64 n).wf = true := by
    obtain ⟨fuel, hf⟩ := h1
    rcases open_ints Try.underlying22 Try.underlying3 (by kernel_rfl) hf with ⟨hcs, _⟩ | ⟨x, l, c, zs, hcs, _, hl, hm, hz, _, hcell, hwz⟩
    · simp [Value.cells] at hcs
      obtain ⟨rfl, rfl, rfl⟩ := hcs
      exact ⟨[], .inl ⟨rfl, rfl, rfl, rfl⟩, by simp⟩
    · simp [Value.cells] at hcs
      obtain ⟨rfl, rfl, rfl⟩ := hcs
      exact ⟨zs, .inr ⟨_, rfl, hl, by simpa using hz, hcell⟩, hwz⟩
  clear hA0 hval0 hsz0
  refine (walk a0 len0 cap0 z0 a1 len1 cap1 z1 W w0 y0 w1 y1).mono fun e W' ⟨he, bel⟩ => ?_
  subst he
  exact ⟨_, rfl, _, _, _, [], _, [], hW', trodAll_mk1 (shut_bool Try.underlying4 _), (trodAll_cons_mk (Below.trod laidOut (by kernel_rfl) (of_decide_eq_true (by kernel_rfl)) k0 bel lt0) (trodAll_cons_mk (Below.trod laidOut (by kernel_rfl) (of_decide_eq_true (by kernel_rfl)) k1 bel lt1) trodAll_mk0)), rfl, bel.frame _, fun h => by cases h⟩
theorem over : Rows.clashExitsRow.holds Try.pinned (OpenSpec.ofChange Rows.clashExitsSpec) :=
  OpenClaim.holds_of_wide 12 Try.f12 rfl rfl rfl rfl rfl rfl rfl ⟨rfl, rfl, rfl, rfl, rfl⟩ rfl rfl rfl rfl rfl (by kernel_rfl) Try.func12 (by kernel_rfl)
    (of_decide_eq_true (by kernel_rfl)) (by unfold Func.isWrapper; first | (rw [if_pos (by decide +kernel)]; kernel_rfl) | (rw [if_neg (by decide +kernel)]; exact ⟨rfl, rfl⟩))
    (fun os started H enc _ => lifted os started H enc)
theorem proved : Rows.ClashExitsSaid := over
#print axioms proved
end Go.Proofs.Ytblabbcmokldiaa.clashExitsRow
namespace Go.Proofs.Ytblabbcmokldiaa
/-- The row, under a short name, for the claim. -/
theorem clashExits_holds : Rows.ClashExitsSaid := clashExitsRow.proved
end Go.Proofs.Ytblabbcmokldiaa
