/- For any row of numbers of 64 bits Sum and Most tell what the reference tells. -/
import Derived.Test.YtekcaodbcobfdaaPNumSumsx2
import Derived.Test.YtekcaodbcobfdaaNumPlain
namespace Go.Proofs.Ytekcaodbcobfdaa.Pure
namespace NumSumsA
open Go.RowKit Go.Proofs.Ytekcaodbcobfdaa.PNumSums Go.Proofs.YtekcaodbcobfdaaW.PrintWords Go.Proofs.YtekcaodbcobfdaaW.PrintLast Go.Proofs.YtekcaodbcobfdaaW.PrintMore Go.Proofs.Ytekcaodbcobfdaa.NumPlain

theorem add_f {a b : Int} (ha : InR a) (hb : InR b) : num_Add.f a b = some (if InR (a + b) then (a + b, 0) else (0, 2)) := by
  unfold num_Add.f
  by_cases h : InR (a + b)
  · rw [if_neg (fun c => (add_test ha hb).1 c h), if_pos h, wrap_in h]
  · rw [if_pos ((add_test ha hb).2 h), if_neg h]
theorem sub_f {a b : Int} (ha : InR a) (hb : InR b) : num_Sub.f a b = some (if InR (a - b) then (a - b, 0) else (0, 2)) := by
  unfold num_Sub.f
  by_cases h : InR (a - b)
  · rw [if_neg (fun c => (sub_test ha hb).1 c h), if_pos h, wrap_in h]
  · rw [if_pos ((sub_test ha hb).2 h), if_neg h]
theorem neg_f {a : Int} (ha : InR a) : num_Neg.f a = some (if InR (0 - a) then (0 - a, 0) else (0, 2)) := by
  unfold num_Neg.f
  rw [sub_f (by decide) ha]
  rfl
theorem div_f {a b : Int} (ha : InR a) : num_Div.f a b = some (if b = 0 then (0, 3) else if b = -1 ∧ a = -9223372036854775808 then (0, 2) else (Int.tdiv a b, 0)) := by
  unfold num_Div.f
  by_cases h : b = 0
  · rw [if_pos h, if_pos h]
  · rw [if_neg h, if_neg h]
    by_cases h1 : b = -1
    · subst h1
      rw [if_pos rfl, neg_f ha]
      by_cases h2 : a = -9223372036854775808
      · subst h2; decide +kernel
      · have : InR (0 - a) := ⟨by have := ha.2; omega, by have := ha.1; omega⟩
        rw [if_pos this, if_neg (show ¬ ((-1 : Int) = -1 ∧ a = -9223372036854775808) from fun c => h2 c.2)]
        simp
    · rw [if_neg h1, if_neg (fun hh => h1 hh.1)]
      rw [wrap_in]
      have := tdiv_bd a (b := b)
      by_cases e1 : b = 1
      · subst e1; simpa using ha
      · have h2 : (a.tdiv b).natAbs ≤ a.natAbs / 2 := by
          rw [Int.natAbs_tdiv]; exact Nat.div_le_div_left (by omega) (by omega)
        unfold InR at *; omega
theorem mod_f {a b : Int} : num_Mod.f a b = some (if b = 0 then (0, 3) else if b = -1 then (0, 0) else (Int.tmod a b, 0)) := by
  unfold num_Mod.f
  split <;> (try split) <;> rfl


theorem known_f : cotillionlaw1_known.f 9 = some true := by decide +kernel
theorem known_at (k : Nat) : cotillionlaw1_known.f (k + 9) = some true := at_rounds (g := fun k => cotillionlaw1_known.f k) (fun k => cotillionlaw1_known.mono k) (by omega) known_f

theorem radd_f {a b : Int} (ha : InR a) (hb : InR b) : cotillionref1_Add.f a b = some (if InR (a + b) then (a + b, 0) else (0, 2)) := by
  obtain ⟨a1, a2⟩ := ha
  obtain ⟨b1, b2⟩ := hb
  have e1 : b > 0 → wrap64 (9223372036854775807 - b) = 9223372036854775807 - b := fun h => wrap_in ⟨by omega, by omega⟩
  have e2 : b < 0 → wrap64 ((-9223372036854775808) - b) = (-9223372036854775808) - b := fun h => wrap_in ⟨by omega, by omega⟩
  unfold cotillionref1_Add.f
  by_cases hin : InR (a + b)
  · rw [if_pos hin, wrap_in hin]
    obtain ⟨c1, c2⟩ := hin
    by_cases bp : b > 0
    · rw [if_pos bp, e1 bp, if_neg (by omega), if_neg (by omega)]
    · rw [if_neg bp]
      by_cases bn : b < 0
      · rw [if_pos bn, e2 bn, if_neg (by omega)]
      · rw [if_neg bn]
  · rw [if_neg hin]
    unfold InR at hin
    by_cases bp : b > 0
    · rw [if_pos bp, e1 bp, if_pos (by omega)]
    · rw [if_neg bp]
      have bn : b < 0 := by omega
      rw [if_pos bn, e2 bn, if_pos (by omega)]
theorem rd_in {l : List Int} (hl : ∀ x ∈ l, InR x) (i : Int) : InR (rd l i) := by
  unfold rd
  rw [List.getD_eq_getElem?_getD]
  cases h : l[i.toNat]? with
  | none => decide
  | some x => exact hl x (List.mem_of_getElem? h)
theorem wrap_step {i : Int} {n : Nat} (h0 : 0 ≤ i) (h : i < (n : Int)) (hn : (n : Int) ≤ 200) : wrap64 (i + 1) = i + 1 := by
  unfold wrap64; omega
theorem sums {l : List Int} (hl : ∀ x ∈ l, InR x) (hn : (l.length : Int) ≤ 200) (d : Nat) : ∀ (k : Nat) (s i : Int), InR s → 0 ≤ i → (l.length : Int) - i = d → d < k →
    ∃ r, num_Sum.l0 k s l (l.length : Int) i = some r ∧ cotillionref1_Sum.l0 k l s i = some r := by
  induction d with
  | zero =>
    intro k s i hs h0 hd hk
    obtain ⟨k, rfl⟩ : ∃ m, k = m + 1 := ⟨k - 1, by omega⟩
    exact ⟨(s, 0), by rw [num_Sum.l0, if_neg (by omega)], by rw [cotillionref1_Sum.l0, if_neg (by omega)]⟩
  | succ d ih =>
    intro k s i hs h0 hd hk
    obtain ⟨k, rfl⟩ : ∃ m, k = m + 1 := ⟨k - 1, by omega⟩
    have hlt : i < (l.length : Int) := by omega
    rw [num_Sum.l0, cotillionref1_Sum.l0, if_pos hlt, if_pos hlt, if_pos h0, if_pos h0, if_pos hlt, add_f hs (rd_in hl i), radd_f hs (rd_in hl i), wrap_step h0 hlt hn]
    simp only [Option.bind_some]
    by_cases hin : InR (s + rd l i)
    · rw [if_pos hin, if_pos rfl, if_pos rfl]
      exact ih k _ _ hin (by omega) (by omega) (by omega)
    · rw [if_neg hin, if_neg (by decide), if_neg (by decide)]
      exact ⟨_, rfl, rfl⟩
theorem mosts {l : List Int} (hn : (l.length : Int) ≤ 200) (d : Nat) : ∀ (k : Nat) (m i : Int), 1 ≤ i → (l.length : Int) - i = d → d < k →
    ∃ r, num_Most.l0 k m l (l.length : Int) i = some r ∧ cotillionref1_Most.l0 k l m i = some r := by
  induction d with
  | zero =>
    intro k m i h0 hd hk
    obtain ⟨k, rfl⟩ : ∃ m, k = m + 1 := ⟨k - 1, by omega⟩
    exact ⟨m, by rw [num_Most.l0, if_neg (by omega)], by rw [cotillionref1_Most.l0, if_neg (by omega)]⟩
  | succ d ih =>
    intro k m i h0 hd hk
    obtain ⟨k, rfl⟩ : ∃ m, k = m + 1 := ⟨k - 1, by omega⟩
    have hlt : i < (l.length : Int) := by omega
    rw [num_Most.l0, cotillionref1_Most.l0, if_pos hlt, if_pos hlt, if_pos (show 0 ≤ i by omega), if_pos (show 0 ≤ i by omega), if_pos hlt, if_neg (show ¬ i = 0 by omega), wrap_step (by omega) hlt hn]
    unfold mx
    by_cases hc : rd l i > m
    · rw [if_pos hc, if_pos (show m < rd l i from hc)]
      exact ih k _ _ (by omega) (by omega) (by omega)
    · rw [if_neg hc, if_neg (show ¬ m < rd l i from hc)]
      exact ih k _ _ (by omega) (by omega) (by omega)
theorem main : cotillionlaw1_NumSums.Pure := by
  intro l _ _ hw
  have hl : ∀ x ∈ l, InR x := fun x hx => wf_in (hw x hx)
  refine ⟨l.length + 12, ?_⟩
  unfold cotillionlaw1_NumSums.f
  have kn : cotillionlaw1_known.f (l.length + 12) = some true := known_at (l.length + 3)
  by_cases hn : (l.length : Int) > 200
  · rw [if_pos hn, kn]; rfl
  · rw [if_neg hn]
    obtain ⟨r, h1, h2⟩ := sums hl (by omega) l.length (l.length + 12) 0 0 (by decide) (by omega) (by omega) (by omega)
    unfold num_Sum.f cotillionref1_Sum.f
    rw [h1, h2]
    simp only [Option.bind_some, if_true]
    unfold num_Most.f cotillionref1_Most.f
    by_cases e : (l.length : Int) = 0
    · rw [if_pos e, show l.length + 12 = (l.length + 11) + 1 from rfl, num_Most.l0, if_neg (by omega)]
      simp only [Option.bind_some, if_true]
      rw [kn]; rfl
    · rw [if_neg e, if_pos (by omega)]
      obtain ⟨m, g1, g2⟩ := mosts (l := l) (by omega) (l.length - 1) (l.length + 11) (rd l 0) 1 (by omega) (by omega) (by omega)
      have g2' : cotillionref1_Most.l0 (l.length + 12) l (rd l 0) 1 = some m := (cotillionref1_Most.mono_l _) _ _ _ _ g2
      rw [g2', show l.length + 12 = (l.length + 11) + 1 from rfl, num_Most.l0, if_pos (by omega), if_pos (by omega), if_pos (by omega), if_pos rfl]
      rw [show wrap64 (0 + 1) = 1 by unfold wrap64; omega, g1]
      simp only [Option.bind_some, if_true]
      rw [show l.length + 11 + 1 = l.length + 12 from rfl, kn]; rfl

end NumSumsA
open Go.Proofs.Ytekcaodbcobfdaa.PNumSums in
theorem NumSums : cotillionlaw1_NumSums.Pure := NumSumsA.main

end Go.Proofs.Ytekcaodbcobfdaa.Pure
