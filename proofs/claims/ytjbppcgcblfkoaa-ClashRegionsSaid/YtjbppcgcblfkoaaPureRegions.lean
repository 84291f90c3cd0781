/- For any three bytes the machine of values tells true of ClashRegions: all its cases, reckoned. -/
import Derived.Test.YtjbppcgcblfkoaaGr
open Go Go.VM
set_option linter.unusedVariables false
set_option maxRecDepth 100000
namespace Go.Proofs.Ytjbppcgcblfkoaa.Vm
def kidName (x : Int) : ByteArray := ⟨List.toArray [(Nat.toUInt8 (Int.toNat (IntKind.u8.wrap (IntKind.i64.wrap ((97 : Int) + x)))))]⟩
def kidOf (s : ByteArray) (l : List V) : V := .agg [.int .i64 1, .str s, .sl 8 [], .sl 8 [], .sl 5 [], .sl 7 l, .int .i64 0]
def kid (x : Int) : V := kidOf (kidName x) [kidOf (kidName x ++ ⟨#[49]⟩) [], kidOf (kidName x ++ ⟨#[50]⟩) []]
theorem loop2 {R : Type} (G : ORC R) (i j : Int) (Ko : Int → Int → Int → Int → ByteArray → List V → List V → List V → List V → Int → Option R) : l5_0 G 40 i j 2 0 2 ⟨#[112]⟩ [] [] [] [] 0 Ko = Ko i j 2 2 ⟨#[112]⟩ [] [] [] [kid 0, kid 1] 0 := by kernel_rfl
theorem loop3 {R : Type} (G : ORC R) (i j : Int) (Ko : Int → Int → Int → Int → ByteArray → List V → List V → List V → List V → Int → Option R) : l5_0 G 40 i j 3 0 2 ⟨#[112]⟩ [] [] [] [] 0 Ko = Ko i j 3 2 ⟨#[112]⟩ [] [] [] [kid 0, kid 1, kid 2] 0 := by kernel_rfl
theorem loop4 {R : Type} (G : ORC R) (i j : Int) (Ko : Int → Int → Int → Int → ByteArray → List V → List V → List V → List V → Int → Option R) : l5_0 G 40 i j 4 0 2 ⟨#[112]⟩ [] [] [] [] 0 Ko = Ko i j 4 2 ⟨#[112]⟩ [] [] [] [kid 0, kid 1, kid 2, kid 3] 0 := by kernel_rfl
theorem loop5 {R : Type} (G : ORC R) (i j : Int) (Ko : Int → Int → Int → Int → ByteArray → List V → List V → List V → List V → Int → Option R) : l5_0 G 40 i j 5 0 2 ⟨#[112]⟩ [] [] [] [] 0 Ko = Ko i j 5 2 ⟨#[112]⟩ [] [] [] [kid 0, kid 1, kid 2, kid 3, kid 4] 0 := by kernel_rfl
theorem wrap_small {n : Int} (h : 0 ≤ n ∧ n < 256) : IntKind.i64.wrap n = n := by
  unfold IntKind.wrap; simp [IntKind.signed, IntKind.bits]; omega
theorem regions (n i j : Int) (hn : 0 ≤ n ∧ n < 256) (hi : 0 ≤ i ∧ i < 256) (hj : 0 ≤ j ∧ j < 256) : gr 40 20 5 [.int .u8 n, .int .u8 i, .int .u8 j] (fun o => some o) = some [.bool true] := by
  show f5 (gr 40 19) 40 n i j (fun o => some o) = some [.bool true]
  unfold f5
  have tm : ∀ (x k : Int), 0 ≤ x → Int.tmod x k = x % k := fun x k hx => Int.tmod_eq_emod_of_nonneg hx
  have hk : IntKind.i64.wrap (2 + Int.tmod (IntKind.i64.wrap n) 4) = 2 ∨ IntKind.i64.wrap (2 + Int.tmod (IntKind.i64.wrap n) 4) = 3 ∨ IntKind.i64.wrap (2 + Int.tmod (IntKind.i64.wrap n) 4) = 4 ∨ IntKind.i64.wrap (2 + Int.tmod (IntKind.i64.wrap n) 4) = 5 := by
    rw [wrap_small hn, tm n 4 hn.1, wrap_small (by omega)]
    omega
  have hm : ∀ x : Int, (0 ≤ x ∧ x < 256) → ∀ k : Int, 0 < k → ∃ a, Int.tmod (IntKind.i64.wrap x) k = a ∧ 0 ≤ a ∧ a < k := fun x hx k hk =>
    ⟨_, rfl, by rw [wrap_small hx, tm x k hx.1]; exact Int.emod_nonneg _ (by omega), by rw [wrap_small hx, tm x k hx.1]; exact Int.emod_lt_of_pos _ hk⟩
  rcases hk with hk | hk | hk | hk <;> rw [hk]
  · rw [loop2]
    obtain ⟨a, ha, ha0, ha1⟩ := hm i hi 2 (by omega)
    obtain ⟨b, hb, hb0, hb1⟩ := hm j hj 2 (by omega)
    rw [ha, hb]
    clear ha hb hk
    have : a = 0 ∨ a = 1 := by omega
    have : b = 0 ∨ b = 1 := by omega
    rcases ‹a = 0 ∨ a = 1› with rfl | rfl <;> rcases ‹b = 0 ∨ b = 1› with rfl | rfl <;> (show _ = _; kernel_rfl)
  · rw [loop3]
    obtain ⟨a, ha, ha0, ha1⟩ := hm i hi 3 (by omega)
    obtain ⟨b, hb, hb0, hb1⟩ := hm j hj 3 (by omega)
    rw [ha, hb]
    clear ha hb hk
    have : a = 0 ∨ a = 1 ∨ a = 2 := by omega
    have : b = 0 ∨ b = 1 ∨ b = 2 := by omega
    rcases ‹a = 0 ∨ a = 1 ∨ a = 2› with rfl | rfl | rfl <;> rcases ‹b = 0 ∨ b = 1 ∨ b = 2› with rfl | rfl | rfl <;> (show _ = _; kernel_rfl)
  · rw [loop4]
    obtain ⟨a, ha, ha0, ha1⟩ := hm i hi 4 (by omega)
    obtain ⟨b, hb, hb0, hb1⟩ := hm j hj 4 (by omega)
    rw [ha, hb]
    clear ha hb hk
    have : a = 0 ∨ a = 1 ∨ a = 2 ∨ a = 3 := by omega
    have : b = 0 ∨ b = 1 ∨ b = 2 ∨ b = 3 := by omega
    rcases ‹a = 0 ∨ a = 1 ∨ a = 2 ∨ a = 3› with rfl | rfl | rfl | rfl <;> rcases ‹b = 0 ∨ b = 1 ∨ b = 2 ∨ b = 3› with rfl | rfl | rfl | rfl <;> (show _ = _; kernel_rfl)
  · rw [loop5]
    obtain ⟨a, ha, ha0, ha1⟩ := hm i hi 5 (by omega)
    obtain ⟨b, hb, hb0, hb1⟩ := hm j hj 5 (by omega)
    rw [ha, hb]
    clear ha hb hk
    have : a = 0 ∨ a = 1 ∨ a = 2 ∨ a = 3 ∨ a = 4 := by omega
    have : b = 0 ∨ b = 1 ∨ b = 2 ∨ b = 3 ∨ b = 4 := by omega
    rcases ‹a = 0 ∨ a = 1 ∨ a = 2 ∨ a = 3 ∨ a = 4› with rfl | rfl | rfl | rfl | rfl <;> rcases ‹b = 0 ∨ b = 1 ∨ b = 2 ∨ b = 3 ∨ b = 4› with rfl | rfl | rfl | rfl | rfl <;> (show _ = _; kernel_rfl)
end Go.Proofs.Ytjbppcgcblfkoaa.Vm
