/- For any two numbers of 64 bits Parts is the number of parts, rounded up, and tells an error for arguments that may not be. -/
import Derived.Test.YtekcaodbcobfdaaPNumPartsx1
import Derived.Test.YtekcaodbcobfdaaNumPlain
namespace Go.Proofs.Ytekcaodbcobfdaa.Pure
namespace NumPartsA
open Go.RowKit Go.Proofs.Ytekcaodbcobfdaa.PNumParts Go.Proofs.YtekcaodbcobfdaaW.PrintWords Go.Proofs.YtekcaodbcobfdaaW.PrintLast Go.Proofs.YtekcaodbcobfdaaW.PrintMore Go.Proofs.Ytekcaodbcobfdaa.NumPlain



theorem known_f : cotillionlaw1_known.f 9 = some true := by decide +kernel
theorem known_at (k : Nat) : cotillionlaw1_known.f (k + 9) = some true := at_rounds (g := fun k => cotillionlaw1_known.f k) (fun k => cotillionlaw1_known.mono k) (by omega) known_f

theorem tell (n d : Int) (h : ¬ (n < 0)) (h1 : ¬ (d < 1)) : n = d * (n / d) + n % d ∧ 0 ≤ n % d ∧ n % d < d ∧ n.tdiv d = n / d ∧ n.tmod d = n % d ∧ 0 ≤ n / d ∧ n / d ≤ n :=
  ⟨(Int.mul_ediv_add_emod n d).symm, Int.emod_nonneg _ (by omega), Int.emod_lt_of_pos _ (by omega), Int.tdiv_eq_ediv_of_nonneg (by omega), Int.tmod_eq_emod_of_nonneg (by omega), Int.ediv_nonneg (by omega) (by omega), Int.ediv_le_self _ (by omega)⟩
theorem main : cotillionlaw1_NumParts.Pure := by
  intro n d wn wd
  have hn := wf_in wn
  have hd := wf_in wd
  refine ⟨12, ?_⟩
  unfold cotillionlaw1_NumParts.f num_Parts.f cotillionref1_Parts.f
  have kn : cotillionlaw1_known.f 12 = some true := known_at 3
  by_cases n0 : n < 0
  · rw [if_pos n0, if_pos n0, num_Parts.j0, cotillionref1_Parts.j0, if_pos rfl, if_pos rfl]
    simp only [Option.bind_some, if_true]
    rw [if_neg (by decide), kn]; rfl
  · rw [if_neg n0, if_neg n0]
    by_cases d1 : d < 1
    · rw [num_Parts.j0, cotillionref1_Parts.j0, if_pos (decide_eq_true d1), if_pos (decide_eq_true d1)]
      simp only [Option.bind_some, if_true]
      rw [if_neg (by decide), kn]; rfl
    · obtain ⟨t1, t2, t3, t4, t5, t6, t7⟩ := tell n d n0 d1
      rw [num_Parts.j0, cotillionref1_Parts.j0, if_neg (show ¬ (decide (d < 1) = true) by simpa using d1), if_neg (show ¬ (decide (d < 1) = true) by simpa using d1), if_neg (show ¬ (d = 0) by omega), if_neg (show ¬ (d = 0) by omega), t4, t5]
      unfold InR at hn hd
      generalize n / d = q at *
      generalize n % d = r at *
      have w1 : wrap64 q = q := wrap_in (by unfold InR; omega)
      by_cases r0 : r = 0
      · rw [if_pos r0, if_neg (show ¬ (r > 0) by omega), w1]
        simp only [Option.bind_some, if_true]
        rw [kn]
        simp only [Option.bind_some]
        have kq : d * (q - 1) = n - d := by rw [Int.mul_sub]; omega
        by_cases q0 : q = 0
        · subst q0
          rw [if_pos rfl, if_pos (by omega)]
        · rw [if_neg q0, if_pos (by omega)]
          have w2 : wrap64 (q - 1) = q - 1 := wrap_in (by unfold InR; omega)
          have w3 : (q - 1) * d = n - d := by rw [Int.mul_comm]; exact kq
          rw [w2, w3]
          have w4 : wrap64 (n - d) = n - d := wrap_in (by unfold InR; omega)
          rw [w4, if_pos (by omega)]
          have w5 : wrap64 (n - (n - d)) = d := by rw [show n - (n - d) = d by omega]; exact wrap_in (by unfold InR; omega)
          rw [w5, if_pos (by omega)]
      · rw [if_neg r0, if_pos (show r > 0 by omega), w1]
        have hq1 : q + 1 ≤ n := by
          have : d ≥ 2 := by omega
          have : d * q ≥ 2 * q := Int.mul_le_mul_of_nonneg_right (by omega) t6
          omega
        have w2 : wrap64 (q + 1) = q + 1 := wrap_in (by unfold InR; omega)
        simp only [Option.bind_some, if_true]
        rw [kn, w2]
        simp only [Option.bind_some]
        have w3 : wrap64 (q + 1 - 1) = q := by rw [show q + 1 - 1 = q by omega]; exact w1
        rw [w3, show q * d = n - r by rw [Int.mul_comm]; omega]
        have w4 : wrap64 (n - r) = n - r := wrap_in (by unfold InR; omega)
        rw [w4, show n - (n - r) = r by omega]
        have w5 : wrap64 r = r := wrap_in (by unfold InR; omega)
        rw [w5, if_neg (by omega), if_pos (by omega), if_pos (by omega), if_pos (by omega)]

end NumPartsA
open Go.Proofs.Ytekcaodbcobfdaa.PNumParts in
theorem NumParts : cotillionlaw1_NumParts.Pure := NumPartsA.main

end Go.Proofs.Ytekcaodbcobfdaa.Pure
