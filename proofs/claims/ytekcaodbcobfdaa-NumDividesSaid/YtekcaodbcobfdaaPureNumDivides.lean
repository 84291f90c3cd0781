/- For any two numbers of 64 bits that divide, the divisor times the quotient and what is left give back what was divided, and what is left is less than the divisor. -/
import Derived.Test.YtekcaodbcobfdaaPNumDividesx2
import Derived.Test.YtekcaodbcobfdaaNumPlain
namespace Go.Proofs.Ytekcaodbcobfdaa.Pure
namespace NumDividesA
open Go.RowKit Go.Proofs.Ytekcaodbcobfdaa.PNumDivides Go.Proofs.YtekcaodbcobfdaaW.PrintWords Go.Proofs.YtekcaodbcobfdaaW.PrintLast Go.Proofs.YtekcaodbcobfdaaW.PrintMore Go.Proofs.Ytekcaodbcobfdaa.NumPlain

theorem add_f {a b : Int} (ha : InR a) (hb : InR b) : num_Add.f a b = some (if InR (a + b) then (a + b, 0) else (0, 2)) := by
  unfold num_Add.f
  by_cases h : InR (a + b)
  · rw [if_neg (fun c => (add_test ha hb).1 c h), if_pos h, wrap_in h]
  · rw [if_pos ((add_test ha hb).2 h), if_neg h]
theorem sub_f {a b : Int} (ha : InR a) (hb : InR b) : num_Sub.f a b = some (if InR (a - b) then (a - b, 0) else (0, 2)) := by
  unfold num_Sub.f
  by_cases h : InR (a - b)
  · rw [if_neg (fun c => (sub_test ha hb).1 c h), if_pos h, wrap_in h]
  · rw [if_pos ((sub_test ha hb).2 h), if_neg h]
theorem neg_f {a : Int} (ha : InR a) : num_Neg.f a = some (if InR (0 - a) then (0 - a, 0) else (0, 2)) := by
  unfold num_Neg.f
  rw [sub_f (by decide) ha]
  rfl
theorem div_f {a b : Int} (ha : InR a) : num_Div.f a b = some (if b = 0 then (0, 3) else if b = -1 ∧ a = -9223372036854775808 then (0, 2) else (Int.tdiv a b, 0)) := by
  unfold num_Div.f
  by_cases h : b = 0
  · rw [if_pos h, if_pos h]
  · rw [if_neg h, if_neg h]
    by_cases h1 : b = -1
    · subst h1
      rw [if_pos rfl, neg_f ha]
      by_cases h2 : a = -9223372036854775808
      · subst h2; decide +kernel
      · have : InR (0 - a) := ⟨by have := ha.2; omega, by have := ha.1; omega⟩
        rw [if_pos this, if_neg (show ¬ ((-1 : Int) = -1 ∧ a = -9223372036854775808) from fun c => h2 c.2)]
        simp
    · rw [if_neg h1, if_neg (fun hh => h1 hh.1)]
      rw [wrap_in]
      have := tdiv_bd a (b := b)
      by_cases e1 : b = 1
      · subst e1; simpa using ha
      · have h2 : (a.tdiv b).natAbs ≤ a.natAbs / 2 := by
          rw [Int.natAbs_tdiv]; exact Nat.div_le_div_left (by omega) (by omega)
        unfold InR at *; omega
theorem mod_f {a b : Int} : num_Mod.f a b = some (if b = 0 then (0, 3) else if b = -1 then (0, 0) else (Int.tmod a b, 0)) := by
  unfold num_Mod.f
  split <;> (try split) <;> rfl
theorem mul_f {a b : Int} (ha : InR a) (hb : InR b) (k : Nat) : num_Mul.f (k + 1) a b = some (if InR (a * b) then (a * b, 0) else (0, 2)) := by
  have h00 : InR 0 := by unfold InR; omega
  unfold num_Mul.f
  by_cases a0 : a = 0
  · subst a0; rw [if_pos rfl]; rw [num_Mul.j0, if_pos rfl, Int.zero_mul, if_pos h00]
  · rw [if_neg a0]
    by_cases b0 : b = 0
    · subst b0; rw [Int.mul_zero, if_pos h00]; rw [num_Mul.j0, if_pos (show ((0 : Int) == 0) = true from rfl)]
    · have hb1 : (b == 0) = false := by simpa using b0
      rw [hb1, num_Mul.j0, if_neg (by decide)]
      by_cases m1 : a = -1 ∧ b = -9223372036854775808
      · obtain ⟨rfl, rfl⟩ := m1
        decide +kernel
      · by_cases m2 : b = -1 ∧ a = -9223372036854775808
        · obtain ⟨rfl, rfl⟩ := m2
          decide +kernel
        · have t := mul_test ha hb b0 m2
          have fin : (if b = 0 then (none : Option (Int × Int)) else (if (wrap64 (Int.tdiv (wrap64 (a * b)) b)) = a then (some (wrap64 (a * b), 0)) else (some (0, 2)))) = some (if InR (a * b) then (a * b, 0) else (0, 2)) := by
            rw [if_neg b0]
            by_cases hr : InR (a * b)
            · rw [if_pos (t.2 hr), if_pos hr, wrap_in hr]
            · rw [if_neg (fun c => hr (t.1 c)), if_neg hr]
          by_cases n1 : a = -1
          · rw [if_pos n1, if_neg (by omega)]
            by_cases n2 : b = -1
            · rw [if_pos n2, if_neg (by omega)]; exact fin
            · rw [if_neg n2]; exact fin
          · rw [if_neg n1]
            by_cases n2 : b = -1
            · rw [if_pos n2, if_neg (by omega)]; exact fin
            · rw [if_neg n2]; exact fin


theorem known_f : cotillionlaw1_known.f 9 = some true := by decide +kernel
theorem known_at (k : Nat) : cotillionlaw1_known.f (k + 9) = some true := at_rounds (g := fun k => cotillionlaw1_known.f k) (fun k => cotillionlaw1_known.mono k) (by omega) known_f

theorem j0_ok {a b q r : Int} (ha : InR a) (hb : InR b) (hq : InR q) (hr : InR r) (hqr : b * q + r = a) (hp : InR (b * q)) (h1 : r < b.natAbs) (h2 : -(b.natAbs : Int) < r) (hs : r ≠ 0 → (r < 0 ↔ a < 0)) (k : Nat) :
    cotillionlaw1_NumDivides.j0 (k + 10) a b q 0 r 0 false = some true := by
  rw [cotillionlaw1_NumDivides.j0, if_neg (by decide), mul_f hb hq, if_pos hp]
  simp only [Option.bind_some]
  rw [add_f hp hr, hqr, if_pos ha]
  simp only [Option.bind_some, if_true]
  rw [known_at]
  simp only [Option.bind_some]
  by_cases r0 : r = 0
  · rw [if_pos r0]
  · rw [if_neg r0]
    have e : (decide (r < 0) == decide (a < 0)) = true := by
      have := hs r0
      by_cases hr0 : r < 0
      · simp [hr0, this.1 hr0]
      · simp [hr0]; exact Int.not_lt.1 (fun c => hr0 (this.2 c))
    rw [e]
    simp only [if_true]
    unfold InR at hb
    by_cases bp : b > 0
    · rw [if_pos bp, if_pos (by omega), if_pos (by unfold wrap64; omega)]
    · rw [if_neg bp, if_pos (by omega), if_pos (by omega)]
      by_cases bm : b = -9223372036854775808
      · rw [if_pos bm]
      · rw [if_neg bm, if_pos (by unfold wrap64; omega)]
theorem main : cotillionlaw1_NumDivides.Pure := by
  intro a b wa wb
  have ha := wf_in wa
  have hb := wf_in wb
  refine ⟨12, ?_⟩
  unfold cotillionlaw1_NumDivides.f
  rw [div_f ha, mod_f]
  simp only [Option.bind_some]
  by_cases b0 : b = 0
  · subst b0
    simp only [if_true]
    rw [if_neg (by decide), cotillionlaw1_NumDivides.j0, if_pos rfl, if_pos rfl, if_pos rfl, if_pos rfl, if_pos rfl, known_at]
    rfl
  · rw [if_neg b0, if_neg b0]
    by_cases b1 : b = -1
    · rw [if_pos b1]
      subst b1
      by_cases am : a = -9223372036854775808
      · subst am
        rw [if_pos (show (-1 : Int) = -1 ∧ (-9223372036854775808 : Int) = -9223372036854775808 from ⟨rfl, rfl⟩), if_neg (show ¬ ((2 : Int) = 0) by decide), cotillionlaw1_NumDivides.j0, if_pos rfl, if_neg (by decide), if_pos rfl, if_pos rfl, if_pos rfl, if_pos rfl, if_pos rfl, known_at]
        rfl
      · rw [if_neg (show ¬ ((-1 : Int) = -1 ∧ a = -9223372036854775808) from fun c => am c.2), if_pos (show (0 : Int) = 0 from rfl)]
        rw [show ((0 : Int) != 0) = false from rfl]
        refine j0_ok ha hb ?_ (by decide) ?_ ?_ (by omega) (by omega) (fun c => absurd rfl c) 2
        · simp; unfold InR at *; omega
        · simp
        · simp; exact ha
    · rw [if_neg b1, if_neg (show ¬ (b = -1 ∧ a = -9223372036854775808) from fun c => b1 c.1)]
      simp only [if_true]
      rw [show ((0 : Int) != 0) = false from rfl]
      have hm := tmod_bd a b0
      have hd := tdiv_bd a (b := b)
      have he := Int.mul_tdiv_add_tmod a b
      have hsg : (0 ≤ a → 0 ≤ a.tmod b) ∧ (a ≤ 0 → a.tmod b ≤ 0) := ⟨fun h => Int.tmod_nonneg b h, fun h => by
        have := Int.tmod_nonneg b (a := -a) (by omega)
        rw [Int.neg_tmod] at this
        omega⟩
      have hrm : (a.tmod b).natAbs ≤ a.natAbs := by rw [Int.natAbs_tmod]; exact Nat.mod_le _ _
      have hdq : InR (a.tdiv b) := by
        by_cases e1 : b = 1
        · subst e1; simpa using ha
        · have h2 : (a.tdiv b).natAbs ≤ a.natAbs / 2 := by
            rw [Int.natAbs_tdiv]; exact Nat.div_le_div_left (by omega) (by omega)
          unfold InR at *; omega
      refine j0_ok ha hb hdq ?_ he ?_ (by omega) (by omega) (fun c => ?_) 2
      · unfold InR at *; omega
      · generalize b * a.tdiv b = p at *; unfold InR at *; omega
      · omega

end NumDividesA
open Go.Proofs.Ytekcaodbcobfdaa.PNumDivides in
theorem NumDivides : cotillionlaw1_NumDivides.Pure := NumDividesA.main

end Go.Proofs.Ytekcaodbcobfdaa.Pure
