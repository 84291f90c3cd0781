/- For any two numbers of 64 bits the six functions of num tell what the reference tells. -/
import Derived.Test.YtekcaodbcobfdaaPNumTellsx3
import Derived.Test.YtekcaodbcobfdaaNumPlain
namespace Go.Proofs.Ytekcaodbcobfdaa.Pure
namespace NumTellsA
open Go.RowKit Go.Proofs.Ytekcaodbcobfdaa.PNumTells Go.Proofs.YtekcaodbcobfdaaW.PrintWords Go.Proofs.YtekcaodbcobfdaaW.PrintLast Go.Proofs.YtekcaodbcobfdaaW.PrintMore Go.Proofs.Ytekcaodbcobfdaa.NumPlain

theorem add_f {a b : Int} (ha : InR a) (hb : InR b) : num_Add.f a b = some (if InR (a + b) then (a + b, 0) else (0, 2)) := by
  unfold num_Add.f
  by_cases h : InR (a + b)
  · rw [if_neg (fun c => (add_test ha hb).1 c h), if_pos h, wrap_in h]
  · rw [if_pos ((add_test ha hb).2 h), if_neg h]
theorem sub_f {a b : Int} (ha : InR a) (hb : InR b) : num_Sub.f a b = some (if InR (a - b) then (a - b, 0) else (0, 2)) := by
  unfold num_Sub.f
  by_cases h : InR (a - b)
  · rw [if_neg (fun c => (sub_test ha hb).1 c h), if_pos h, wrap_in h]
  · rw [if_pos ((sub_test ha hb).2 h), if_neg h]
theorem neg_f {a : Int} (ha : InR a) : num_Neg.f a = some (if InR (0 - a) then (0 - a, 0) else (0, 2)) := by
  unfold num_Neg.f
  rw [sub_f (by decide) ha]
  rfl
theorem div_f {a b : Int} (ha : InR a) : num_Div.f a b = some (if b = 0 then (0, 3) else if b = -1 ∧ a = -9223372036854775808 then (0, 2) else (Int.tdiv a b, 0)) := by
  unfold num_Div.f
  by_cases h : b = 0
  · rw [if_pos h, if_pos h]
  · rw [if_neg h, if_neg h]
    by_cases h1 : b = -1
    · subst h1
      rw [if_pos rfl, neg_f ha]
      by_cases h2 : a = -9223372036854775808
      · subst h2; decide +kernel
      · have : InR (0 - a) := ⟨by have := ha.2; omega, by have := ha.1; omega⟩
        rw [if_pos this, if_neg (show ¬ ((-1 : Int) = -1 ∧ a = -9223372036854775808) from fun c => h2 c.2)]
        simp
    · rw [if_neg h1, if_neg (fun hh => h1 hh.1)]
      rw [wrap_in]
      have := tdiv_bd a (b := b)
      by_cases e1 : b = 1
      · subst e1; simpa using ha
      · have h2 : (a.tdiv b).natAbs ≤ a.natAbs / 2 := by
          rw [Int.natAbs_tdiv]; exact Nat.div_le_div_left (by omega) (by omega)
        unfold InR at *; omega
theorem mod_f {a b : Int} : num_Mod.f a b = some (if b = 0 then (0, 3) else if b = -1 then (0, 0) else (Int.tmod a b, 0)) := by
  unfold num_Mod.f
  split <;> (try split) <;> rfl
theorem mul_f {a b : Int} (ha : InR a) (hb : InR b) (k : Nat) : num_Mul.f (k + 1) a b = some (if InR (a * b) then (a * b, 0) else (0, 2)) := by
  have h00 : InR 0 := by unfold InR; omega
  unfold num_Mul.f
  by_cases a0 : a = 0
  · subst a0; rw [if_pos rfl]; rw [num_Mul.j0, if_pos rfl, Int.zero_mul, if_pos h00]
  · rw [if_neg a0]
    by_cases b0 : b = 0
    · subst b0; rw [Int.mul_zero, if_pos h00]; rw [num_Mul.j0, if_pos (show ((0 : Int) == 0) = true from rfl)]
    · have hb1 : (b == 0) = false := by simpa using b0
      rw [hb1, num_Mul.j0, if_neg (by decide)]
      by_cases m1 : a = -1 ∧ b = -9223372036854775808
      · obtain ⟨rfl, rfl⟩ := m1
        decide +kernel
      · by_cases m2 : b = -1 ∧ a = -9223372036854775808
        · obtain ⟨rfl, rfl⟩ := m2
          decide +kernel
        · have t := mul_test ha hb b0 m2
          have fin : (if b = 0 then (none : Option (Int × Int)) else (if (wrap64 (Int.tdiv (wrap64 (a * b)) b)) = a then (some (wrap64 (a * b), 0)) else (some (0, 2)))) = some (if InR (a * b) then (a * b, 0) else (0, 2)) := by
            rw [if_neg b0]
            by_cases hr : InR (a * b)
            · rw [if_pos (t.2 hr), if_pos hr, wrap_in hr]
            · rw [if_neg (fun c => hr (t.1 c)), if_neg hr]
          by_cases n1 : a = -1
          · rw [if_pos n1, if_neg (by omega)]
            by_cases n2 : b = -1
            · rw [if_pos n2, if_neg (by omega)]; exact fin
            · rw [if_neg n2]; exact fin
          · rw [if_neg n1]
            by_cases n2 : b = -1
            · rw [if_pos n2, if_neg (by omega)]; exact fin
            · rw [if_neg n2]; exact fin


theorem known_f : cotillionlaw1_known.f 9 = some true := by decide +kernel
theorem known_at (k : Nat) : cotillionlaw1_known.f (k + 9) = some true := at_rounds (g := fun k => cotillionlaw1_known.f k) (fun k => cotillionlaw1_known.mono k) (by omega) known_f

theorem radd_f {a b : Int} (ha : InR a) (hb : InR b) : cotillionref1_Add.f a b = some (if InR (a + b) then (a + b, 0) else (0, 2)) := by
  obtain ⟨a1, a2⟩ := ha
  obtain ⟨b1, b2⟩ := hb
  have e1 : b > 0 → wrap64 (9223372036854775807 - b) = 9223372036854775807 - b := fun h => wrap_in ⟨by omega, by omega⟩
  have e2 : b < 0 → wrap64 ((-9223372036854775808) - b) = (-9223372036854775808) - b := fun h => wrap_in ⟨by omega, by omega⟩
  unfold cotillionref1_Add.f
  by_cases hin : InR (a + b)
  · rw [if_pos hin, wrap_in hin]
    obtain ⟨c1, c2⟩ := hin
    by_cases bp : b > 0
    · rw [if_pos bp, e1 bp, if_neg (by omega), if_neg (by omega)]
    · rw [if_neg bp]
      by_cases bn : b < 0
      · rw [if_pos bn, e2 bn, if_neg (by omega)]
      · rw [if_neg bn]
  · rw [if_neg hin]
    unfold InR at hin
    by_cases bp : b > 0
    · rw [if_pos bp, e1 bp, if_pos (by omega)]
    · rw [if_neg bp]
      have bn : b < 0 := by omega
      rw [if_pos bn, e2 bn, if_pos (by omega)]
theorem rsub_f {a b : Int} (ha : InR a) (hb : InR b) : cotillionref1_Sub.f a b = some (if InR (a - b) then (a - b, 0) else (0, 2)) := by
  obtain ⟨a1, a2⟩ := ha
  obtain ⟨b1, b2⟩ := hb
  have e1 : b < 0 → wrap64 (9223372036854775807 + b) = 9223372036854775807 + b := fun h => wrap_in ⟨by omega, by omega⟩
  have e2 : b > 0 → wrap64 ((-9223372036854775808) + b) = (-9223372036854775808) + b := fun h => wrap_in ⟨by omega, by omega⟩
  unfold cotillionref1_Sub.f
  by_cases hin : InR (a - b)
  · rw [if_pos hin, wrap_in hin]
    obtain ⟨c1, c2⟩ := hin
    by_cases bn : b < 0
    · rw [if_pos bn, e1 bn, if_neg (by omega), if_neg (by omega)]
    · rw [if_neg bn]
      by_cases bp : b > 0
      · rw [if_pos bp, e2 bp, if_neg (by omega)]
      · rw [if_neg bp]
  · rw [if_neg hin]
    unfold InR at hin
    by_cases bn : b < 0
    · rw [if_pos bn, e1 bn, if_pos (by omega)]
    · rw [if_neg bn]
      have bp : b > 0 := by omega
      rw [if_pos bp, e2 bp, if_pos (by omega)]
theorem rneg_f {a : Int} (ha : InR a) : cotillionref1_Neg.f a = some (if InR (0 - a) then (0 - a, 0) else (0, 2)) := by
  unfold cotillionref1_Neg.f
  rw [rsub_f (by decide) ha]
  rfl
theorem rdiv_f {a b : Int} (ha : InR a) : cotillionref1_Div.f a b = num_Div.f a b := by
  rw [div_f ha]
  unfold cotillionref1_Div.f
  by_cases h : b = 0
  · rw [if_pos h, if_pos h]
  · rw [if_neg h, if_neg h]
    by_cases h1 : b = -1 ∧ a = -9223372036854775808
    · rw [if_pos h1, if_pos h1.1, if_pos h1.2]
    · rw [if_neg h1]
      have e : wrap64 (a.tdiv b) = a.tdiv b := by
        rw [wrap_in]
        have := tdiv_bd a (b := b)
        by_cases e1 : b = 1
        · subst e1; simpa using ha
        · by_cases e2 : b = -1
          · subst e2; simp at h1 ⊢; unfold InR at *; omega
          · have h2 : (a.tdiv b).natAbs ≤ a.natAbs / 2 := by
              rw [Int.natAbs_tdiv]; exact Nat.div_le_div_left (by omega) (by omega)
            unfold InR at *; omega
      rw [e]
      by_cases h2 : b = -1
      · rw [if_pos h2, if_neg (fun c => h1 ⟨h2, c⟩)]
      · rw [if_neg h2]
theorem rmod_f {a b : Int} : cotillionref1_Mod.f a b = num_Mod.f a b := rfl
theorem rj1 {a b : Int} (ha : InR a) (hb : InR b) (b0 : b ≠ 0) (m2 : ¬ (b = -1 ∧ a = -9223372036854775808)) (k : Nat) : cotillionref1_Mul.j1 (k + 1) a b false = some (if InR (a * b) then (a * b, 0) else (0, 2)) := by
  have t := mul_test ha hb b0 m2
  rw [cotillionref1_Mul.j1, if_neg (by decide), if_neg b0]
  by_cases hr : InR (a * b)
  · rw [if_pos (t.2 hr), if_pos hr, wrap_in hr]
  · rw [if_neg (fun c => hr (t.1 c)), if_neg hr]
theorem rmul_f {a b : Int} (ha : InR a) (hb : InR b) (k : Nat) : cotillionref1_Mul.f (k + 2) a b = some (if InR (a * b) then (a * b, 0) else (0, 2)) := by
  have h00 : InR 0 := by decide
  unfold cotillionref1_Mul.f
  by_cases a0 : a = 0
  · subst a0; rw [if_pos rfl, cotillionref1_Mul.j0, if_pos rfl, Int.zero_mul, if_pos h00]
  · rw [if_neg a0]
    by_cases b0 : b = 0
    · subst b0; rw [Int.mul_zero, if_pos h00, cotillionref1_Mul.j0, if_pos (show ((0 : Int) == 0) = true from rfl)]
    · have hb1 : (b == 0) = false := by simpa using b0
      rw [hb1, cotillionref1_Mul.j0, if_neg (by decide)]
      by_cases m1 : a = -1 ∧ b = -9223372036854775808
      · obtain ⟨rfl, rfl⟩ := m1
        rw [if_pos rfl, if_pos rfl, cotillionref1_Mul.j1, if_pos rfl]
        decide +kernel
      · by_cases m2 : b = -1 ∧ a = -9223372036854775808
        · obtain ⟨rfl, rfl⟩ := m2
          rw [if_neg (by decide), if_pos rfl]
          rw [show ((-9223372036854775808 : Int) == -9223372036854775808) = true from by decide, cotillionref1_Mul.j1, if_pos rfl]
          decide +kernel
        · have fin := rj1 ha hb b0 m2 k
          have key : (if b = (-1) then (cotillionref1_Mul.j1 (k + 1) a b (a == (-9223372036854775808))) else (cotillionref1_Mul.j1 (k + 1) a b false)) = some (if InR (a * b) then (a * b, 0) else (0, 2)) := by
            by_cases n2 : b = -1
            · rw [if_pos n2, show (a == (-9223372036854775808)) = false by simpa using fun c => m2 ⟨n2, c⟩]; exact fin
            · rw [if_neg n2]; exact fin
          by_cases n1 : a = -1
          · rw [if_pos n1, if_neg (fun c => m1 ⟨n1, c⟩)]; exact key
          · rw [if_neg n1]; exact key
theorem main : cotillionlaw1_NumTells.Pure := by
  intro a b wa wb
  have ha := wf_in wa
  have hb := wf_in wb
  refine ⟨12, ?_⟩
  unfold cotillionlaw1_NumTells.f
  rw [add_f ha hb, radd_f ha hb, sub_f ha hb, rsub_f ha hb, mul_f ha hb, rmul_f ha hb]
  simp only [Option.bind_some, if_true]
  rw [show ∀ x : Int, (x != x) = false from fun x => by simp]
  rw [cotillionlaw1_NumTells.j0, if_neg (by decide), rdiv_f ha, rmod_f, neg_f ha, rneg_f ha, div_f ha, mod_f]
  simp only [Option.bind_some, if_true]
  rw [show 11 = 2 + 9 from rfl, known_at]
  rfl

end NumTellsA
open Go.Proofs.Ytekcaodbcobfdaa.PNumTells in
theorem NumTells : cotillionlaw1_NumTells.Pure := NumTellsA.main

end Go.Proofs.Ytekcaodbcobfdaa.Pure
