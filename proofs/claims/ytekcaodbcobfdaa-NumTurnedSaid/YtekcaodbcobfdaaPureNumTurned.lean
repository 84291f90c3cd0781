/- For any two numbers of 64 bits the sum and the product are the same turned round, and what is added is taken away again, what is multiplied is divided again. -/
import Derived.Test.YtekcaodbcobfdaaPNumTurnedx2
import Derived.Test.YtekcaodbcobfdaaNumPlain
namespace Go.Proofs.Ytekcaodbcobfdaa.Pure
namespace NumTurnedA
open Go.RowKit Go.Proofs.Ytekcaodbcobfdaa.PNumTurned Go.Proofs.YtekcaodbcobfdaaW.PrintWords Go.Proofs.YtekcaodbcobfdaaW.PrintLast Go.Proofs.YtekcaodbcobfdaaW.PrintMore Go.Proofs.Ytekcaodbcobfdaa.NumPlain

theorem add_f {a b : Int} (ha : InR a) (hb : InR b) : num_Add.f a b = some (if InR (a + b) then (a + b, 0) else (0, 2)) := by
  unfold num_Add.f
  by_cases h : InR (a + b)
  · rw [if_neg (fun c => (add_test ha hb).1 c h), if_pos h, wrap_in h]
  · rw [if_pos ((add_test ha hb).2 h), if_neg h]
theorem sub_f {a b : Int} (ha : InR a) (hb : InR b) : num_Sub.f a b = some (if InR (a - b) then (a - b, 0) else (0, 2)) := by
  unfold num_Sub.f
  by_cases h : InR (a - b)
  · rw [if_neg (fun c => (sub_test ha hb).1 c h), if_pos h, wrap_in h]
  · rw [if_pos ((sub_test ha hb).2 h), if_neg h]
theorem neg_f {a : Int} (ha : InR a) : num_Neg.f a = some (if InR (0 - a) then (0 - a, 0) else (0, 2)) := by
  unfold num_Neg.f
  rw [sub_f (by decide) ha]
  rfl
theorem div_f {a b : Int} (ha : InR a) : num_Div.f a b = some (if b = 0 then (0, 3) else if b = -1 ∧ a = -9223372036854775808 then (0, 2) else (Int.tdiv a b, 0)) := by
  unfold num_Div.f
  by_cases h : b = 0
  · rw [if_pos h, if_pos h]
  · rw [if_neg h, if_neg h]
    by_cases h1 : b = -1
    · subst h1
      rw [if_pos rfl, neg_f ha]
      by_cases h2 : a = -9223372036854775808
      · subst h2; decide +kernel
      · have : InR (0 - a) := ⟨by have := ha.2; omega, by have := ha.1; omega⟩
        rw [if_pos this, if_neg (show ¬ ((-1 : Int) = -1 ∧ a = -9223372036854775808) from fun c => h2 c.2)]
        simp
    · rw [if_neg h1, if_neg (fun hh => h1 hh.1)]
      rw [wrap_in]
      have := tdiv_bd a (b := b)
      by_cases e1 : b = 1
      · subst e1; simpa using ha
      · have h2 : (a.tdiv b).natAbs ≤ a.natAbs / 2 := by
          rw [Int.natAbs_tdiv]; exact Nat.div_le_div_left (by omega) (by omega)
        unfold InR at *; omega
theorem mod_f {a b : Int} : num_Mod.f a b = some (if b = 0 then (0, 3) else if b = -1 then (0, 0) else (Int.tmod a b, 0)) := by
  unfold num_Mod.f
  split <;> (try split) <;> rfl
theorem mul_f {a b : Int} (ha : InR a) (hb : InR b) (k : Nat) : num_Mul.f (k + 1) a b = some (if InR (a * b) then (a * b, 0) else (0, 2)) := by
  have h00 : InR 0 := by unfold InR; omega
  unfold num_Mul.f
  by_cases a0 : a = 0
  · subst a0; rw [if_pos rfl]; rw [num_Mul.j0, if_pos rfl, Int.zero_mul, if_pos h00]
  · rw [if_neg a0]
    by_cases b0 : b = 0
    · subst b0; rw [Int.mul_zero, if_pos h00]; rw [num_Mul.j0, if_pos (show ((0 : Int) == 0) = true from rfl)]
    · have hb1 : (b == 0) = false := by simpa using b0
      rw [hb1, num_Mul.j0, if_neg (by decide)]
      by_cases m1 : a = -1 ∧ b = -9223372036854775808
      · obtain ⟨rfl, rfl⟩ := m1
        decide +kernel
      · by_cases m2 : b = -1 ∧ a = -9223372036854775808
        · obtain ⟨rfl, rfl⟩ := m2
          decide +kernel
        · have t := mul_test ha hb b0 m2
          have fin : (if b = 0 then (none : Option (Int × Int)) else (if (wrap64 (Int.tdiv (wrap64 (a * b)) b)) = a then (some (wrap64 (a * b), 0)) else (some (0, 2)))) = some (if InR (a * b) then (a * b, 0) else (0, 2)) := by
            rw [if_neg b0]
            by_cases hr : InR (a * b)
            · rw [if_pos (t.2 hr), if_pos hr, wrap_in hr]
            · rw [if_neg (fun c => hr (t.1 c)), if_neg hr]
          by_cases n1 : a = -1
          · rw [if_pos n1, if_neg (by omega)]
            by_cases n2 : b = -1
            · rw [if_pos n2, if_neg (by omega)]; exact fin
            · rw [if_neg n2]; exact fin
          · rw [if_neg n1]
            by_cases n2 : b = -1
            · rw [if_pos n2, if_neg (by omega)]; exact fin
            · rw [if_neg n2]; exact fin


theorem known_f : cotillionlaw1_known.f 9 = some true := by decide +kernel
theorem known_at (k : Nat) : cotillionlaw1_known.f (k + 9) = some true := at_rounds (g := fun k => cotillionlaw1_known.f k) (fun k => cotillionlaw1_known.mono k) (by omega) known_f

theorem mulComm {a b : Int} (ha : InR a) (hb : InR b) (k : Nat) : num_Mul.f (k + 1) b a = num_Mul.f (k + 1) a b := by
  rw [mul_f ha hb, mul_f hb ha, Int.mul_comm]
theorem j2_ok {a b r : Int} (k : Nat) (hr : InR r) (g : Bool) (h : g = true → b ≠ 0 ∧ ¬ (b = -1 ∧ r = -9223372036854775808) ∧ r.tdiv b = a) : cotillionlaw1_NumTurned.j2 (k + 10) a b r g = some true := by
  rw [cotillionlaw1_NumTurned.j2]
  cases g with
  | false => rw [if_neg (by decide), known_at]; rfl
  | true =>
    obtain ⟨h0, h1, h2⟩ := h rfl
    rw [if_pos rfl, div_f hr, if_neg h0, if_neg h1]
    simp only [Option.bind_some]
    rw [if_pos h2, if_pos trivial, known_at]; rfl
theorem j1_ok {a b : Int} (k : Nat) (p : Int × Int) (hp : p = (if InR (a * b) then (a * b, 0) else (0, 2))) : cotillionlaw1_NumTurned.j1 (k + 11) a b p.1 p.2 = some true := by
  rw [cotillionlaw1_NumTurned.j1]
  by_cases hin : InR (a * b)
  · rw [if_pos hin] at hp
    subst hp
    rw [if_pos rfl]
    by_cases b0 : b = 0
    · rw [if_pos b0]; exact j2_ok k hin _ (by simp)
    · rw [if_neg b0]
      have hd : (a * b).tdiv b = a := Int.mul_tdiv_cancel _ b0
      by_cases b1 : b = -1
      · rw [if_pos b1]; exact j2_ok k hin _ (fun h => ⟨b0, fun hh => by simp [hh.2] at h, hd⟩)
      · rw [if_neg b1]; exact j2_ok k hin _ (fun h => ⟨b0, fun hh => b1 hh.1, hd⟩)
  · rw [if_neg hin] at hp
    subst hp
    rw [if_neg (by decide)]
    exact j2_ok k (by decide) _ (by simp)
theorem main : cotillionlaw1_NumTurned.Pure := by
  intro a b wa wb
  have ha := wf_in wa
  have hb := wf_in wb
  refine ⟨12, ?_⟩
  unfold cotillionlaw1_NumTurned.f
  rw [mulComm ha hb, add_f ha hb, add_f hb ha, Int.add_comm b a, mul_f ha hb]
  simp only [Option.bind_some, if_true]
  rw [show ∀ x : Int, (x != x) = false from fun x => by simp]
  have j1 := j1_ok (a := a) (b := b) 0 _ rfl
  rw [cotillionlaw1_NumTurned.j0, if_neg (by decide)]
  by_cases hin : InR (a + b)
  · rw [if_pos hin]
    rw [if_pos rfl, sub_f hin hb]
    rw [show a + b - b = a by omega, if_pos ha]
    simp only [Option.bind_some, if_true]
    exact j1
  · rw [if_neg hin]
    rw [if_neg (by decide)]
    exact j1

end NumTurnedA
open Go.Proofs.Ytekcaodbcobfdaa.PNumTurned in
theorem NumTurned : cotillionlaw1_NumTurned.Pure := NumTurnedA.main

end Go.Proofs.Ytekcaodbcobfdaa.Pure
