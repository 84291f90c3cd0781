/- Plain facts on numbers of 64 bits: when a sum, a difference, a product fits. -/
import Derived.Laws.BitsLemmas
import Derived.RowKit
namespace Go.Proofs.Ytekcaodbcobfdaa.NumPlain
open Go Go.RowKit

def InR (x : Int) : Prop := -9223372036854775808 ≤ x ∧ x ≤ 9223372036854775807
instance (x : Int) : Decidable (InR x) := by unfold InR; infer_instance

theorem wf_in {x : Int} (h : (Lit.int .i64 x).wf = true) : InR x := by
  unfold InR
  simp [Lit.wf, IntKind.min, IntKind.max, IntKind.bits, IntKind.signed] at h
  omega

theorem wrap_in {x : Int} (h : InR x) : wrap64 x = x := by unfold InR at h; unfold wrap64; omega
theorem in_wrap (x : Int) : InR (wrap64 x) := by unfold InR wrap64; omega

theorem wrap_toNat (b : BitVec 64) : IntKind.i64.wrap (b.toNat : Int) = b.toInt := by
  rw [IntKind.wrap_i64, BitVec.toInt_eq_toNat_cond]
  have := b.isLt
  split <;> omega

theorem msb_ofInt {x : Int} (h : InR x) : (BitVec.ofInt 64 x).msb = decide (x < 0) := by
  unfold InR at h
  have e : (BitVec.ofInt 64 x).toInt = x := by
    rw [BitVec.toInt_ofInt]
    exact Int.bmod_eq_of_le (by omega) (by omega)
  rw [BitVec.msb_eq_toInt, e]

theorem and_xor_neg {a b c d : Int} (ha : InR a) (hb : InR b) (hc : InR c) (hd : InR d) :
    (bits .and .i64 (bits .xor .i64 a b) (bits .xor .i64 c d) < 0) ↔ ((a < 0) ≠ (b < 0) ∧ (c < 0) ≠ (d < 0)) := by
  have key : ∀ x y : Int, (bits .xor .i64 x y) = (BitVec.ofInt 64 x ^^^ BitVec.ofInt 64 y).toInt := fun x y => wrap_toNat _
  have key2 : ∀ x y : Int, (bits .and .i64 x y) = (BitVec.ofInt 64 x &&& BitVec.ofInt 64 y).toInt := fun x y => wrap_toNat _
  rw [key, key, key2, BitVec.ofInt_toInt, BitVec.ofInt_toInt]
  rw [show ∀ z : BitVec 64, (z.toInt < 0) ↔ z.msb = true from fun z => by rw [BitVec.msb_eq_toInt]; simp]
  rw [BitVec.msb_and, BitVec.msb_xor, BitVec.msb_xor, msb_ofInt ha, msb_ofInt hb, msb_ofInt hc, msb_ofInt hd]
  by_cases a < 0 <;> by_cases b < 0 <;> by_cases c < 0 <;> by_cases d < 0 <;> simp [*]

theorem add_test {a b : Int} (ha : InR a) (hb : InR b) :
    (bits .and .i64 (bits .xor .i64 a (wrap64 (a + b))) (bits .xor .i64 b (wrap64 (a + b))) < 0) ↔ ¬ InR (a + b) := by
  rw [and_xor_neg ha (in_wrap _) hb (in_wrap _)]
  unfold InR wrap64 at *
  constructor
  · intro ⟨h1, h2⟩ h3
    have h1' : ¬ (a < 0 ↔ (a + b + 9223372036854775808) % 18446744073709551616 - 9223372036854775808 < 0) := fun h => h1 (propext h)
    have h2' : ¬ (b < 0 ↔ (a + b + 9223372036854775808) % 18446744073709551616 - 9223372036854775808 < 0) := fun h => h2 (propext h)
    omega
  · intro h
    refine ⟨fun h1 => ?_, fun h1 => ?_⟩ <;> (have h1 := Iff.of_eq h1; omega)

theorem sub_test {a b : Int} (ha : InR a) (hb : InR b) :
    (bits .and .i64 (bits .xor .i64 a b) (bits .xor .i64 a (wrap64 (a - b))) < 0) ↔ ¬ InR (a - b) := by
  rw [and_xor_neg ha hb ha (in_wrap _)]
  unfold InR wrap64 at *
  constructor
  · intro ⟨h1, h2⟩ h3
    have h1' : ¬ (a < 0 ↔ b < 0) := fun h => h1 (propext h)
    have h2' : ¬ (a < 0 ↔ (a - b + 9223372036854775808) % 18446744073709551616 - 9223372036854775808 < 0) := fun h => h2 (propext h)
    omega
  · intro h
    refine ⟨fun h1 => ?_, fun h1 => ?_⟩ <;> (have h1 := Iff.of_eq h1; omega)

theorem tmod_bd (c : Int) {b : Int} (hb0 : b ≠ 0) : (b.natAbs : Int) > c.tmod b ∧ -(b.natAbs : Int) < c.tmod b := by
  have h : (c.tmod b).natAbs < b.natAbs := by
    rw [Int.natAbs_tmod]; exact Nat.mod_lt _ (by omega)
  omega

theorem tdiv_bd (c : Int) {b : Int} : (c.tdiv b).natAbs ≤ c.natAbs := by
  rw [Int.natAbs_tdiv]; exact Nat.div_le_self _ _

theorem mul_test {a b : Int} (ha : InR a) (hb : InR b) (hb0 : b ≠ 0) (h1 : ¬(b = -1 ∧ a = -9223372036854775808)) :
    wrap64 (Int.tdiv (wrap64 (a * b)) b) = a ↔ InR (a * b) := by
  constructor
  · intro h
    by_cases e : b = -1
    · subst e; unfold InR at *; omega
    · have hq := Int.mul_tdiv_add_tmod (wrap64 (a * b)) b
      have hm := tmod_bd (wrap64 (a * b)) hb0
      have hc := in_wrap (a * b)
      have hd := tdiv_bd (wrap64 (a * b)) (b := b)
      generalize hC : wrap64 (a * b) = c at *
      have hwc : (c - a * b) % 18446744073709551616 = 0 := by rw [← hC]; unfold wrap64; omega
      have hqr : InR (c.tdiv b) := by
        by_cases e1 : b = 1
        · subst e1; simpa using hc
        · -- |b| ≥ 2
          have h2 : (c.tdiv b).natAbs ≤ c.natAbs / 2 := by
            rw [Int.natAbs_tdiv]; exact Nat.div_le_div_left (by omega) (by omega)
          unfold InR at *; omega
      rw [wrap_in hqr] at h
      rw [h] at hq
      have : b * a = a * b := Int.mul_comm _ _
      rw [this] at hq
      generalize a * b = p at *
      have hp : p = c := by unfold InR at *; omega
      rw [hp]; exact hc
  · intro h
    rw [wrap_in h, Int.mul_tdiv_cancel _ hb0, wrap_in ha]
end Go.Proofs.Ytekcaodbcobfdaa.NumPlain
