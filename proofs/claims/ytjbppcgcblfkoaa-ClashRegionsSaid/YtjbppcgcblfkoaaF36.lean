/- Functions of the seat, told by the machine of values. -/
import Derived.Test.YtjbppcgcblfkoaaTab
open Go Go.VM
set_option linter.unusedVariables false
set_option maxRecDepth 100000
set_option maxHeartbeats 4000000
namespace Go.Proofs.Ytjbppcgcblfkoaa.Vm
/-! ### cotillion/cotillionref13.IsState: function 36 -/
def L36 {R : Type} (_ : ORC R) (_ : Nat) : Nat → St → (Ex → St → Option R) → Option R := fun _ _ _ => none
def f36 {R : Type} (G : ORC R) (k : Nat) (ai1 : Int) (ai2 : Int) (ai3 : Int) (ai4 : Int) (ai5 : Int) (ai6 : Int) (as7 : ByteArray) (K : List V → Option R) : Option R :=
  (K [(.bool (decide (ai1 ≤ (3 : Int))))])
theorem f36_is {R : Type} (G : ORC R) (k : Nat) (K : List V → Option R) (ai1 : Int) (ai2 : Int) (ai3 : Int) (ai4 : Int) (ai5 : Int) (ai6 : Int) (as7 : ByteArray) :
    callF (TAB.env 36) G (L36 G k) Try.f36 S36 [(.agg [(.int .i64 ai1), (.int .i64 ai2), (.int .i64 ai3), (.int .i64 ai4), (.int .i64 ai5), (.int .i64 ai6), (.str as7)])] K = f36 G k ai1 ai2 ai3 ai4 ai5 ai6 as7 K := by kernel_rfl
theorem lo36 : loopsOf (bodyOf Try.f36) = [] := by kernel_rfl
theorem la36 {R : Type} (G : ORC R) (k : Nat) : LoopsAre (TAB.env 36) G (L36 G k) (bodyOf Try.f36) :=
  loopsAre_of (by rw [lo36]; intro p hp; cases hp)
def g36 {R : Type} (G : ORC R) (k : Nat) (args : List V) (K : List V → Option R) : Option R := match args with
  | [(.agg [(.int .i64 ai1), (.int .i64 ai2), (.int .i64 ai3), (.int .i64 ai4), (.int .i64 ai5), (.int .i64 ai6), (.str as7)])] => f36 G k ai1 ai2 ai3 ai4 ai5 ai6 as7 K
  | _ => none
theorem s36 {R : Type} {G : ORC R} {k : Nat} (hG : Sound Try.prog TAB G) (args : List V) (K : List V → Option R) (r : R) (h : g36 G k args K = some r) : ∃ o, CallOK Try.prog TAB.env 36 args o ∧ K o = some r := by
  unfold g36 at h
  split at h
  · rw [← f36_is] at h
    exact callF_sound TAB_chk MO hG Try.func36 (sg := S36) (by kernel_rfl) (by kernel_rfl) (la36 G k) h
  · cases h

end Go.Proofs.Ytjbppcgcblfkoaa.Vm
