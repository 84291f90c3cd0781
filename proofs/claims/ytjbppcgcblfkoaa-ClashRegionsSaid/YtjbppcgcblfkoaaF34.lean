/- Functions of the seat, told by the machine of values. -/
import Derived.Test.YtjbppcgcblfkoaaTab
open Go Go.VM
set_option linter.unusedVariables false
set_option maxRecDepth 100000
set_option maxHeartbeats 4000000
namespace Go.Proofs.Ytjbppcgcblfkoaa.Vm
/-! ### cotillion/flat.is: function 34 -/
def L34 {R : Type} (_ : ORC R) (_ : Nat) : Nat → St → (Ex → St → Option R) → Option R := fun _ _ _ => none
def f34 {R : Type} (G : ORC R) (k : Nat) (al1 : List V) (ai2 : Int) (K : List V → Option R) : Option R :=
  (bif (decide (ai2 ≥ (0 : Int))) then (K [(.bool (decide (ai2 < ((List.length al1 : Nat) : Int))))]) else (K [(.bool false)]))
theorem f34_is {R : Type} (G : ORC R) (k : Nat) (K : List V → Option R) (al1 : List V) (ai2 : Int) :
    callF (TAB.env 34) G (L34 G k) Try.f34 S34 [(.sl 7 al1), (.int .i64 ai2)] K = f34 G k al1 ai2 K := by kernel_rfl
theorem lo34 : loopsOf (bodyOf Try.f34) = [] := by kernel_rfl
theorem la34 {R : Type} (G : ORC R) (k : Nat) : LoopsAre (TAB.env 34) G (L34 G k) (bodyOf Try.f34) :=
  loopsAre_of (by rw [lo34]; intro p hp; cases hp)
def g34 {R : Type} (G : ORC R) (k : Nat) (args : List V) (K : List V → Option R) : Option R := match args with
  | [(.sl 7 al1), (.int .i64 ai2)] => f34 G k al1 ai2 K
  | _ => none
theorem s34 {R : Type} {G : ORC R} {k : Nat} (hG : Sound Try.prog TAB G) (args : List V) (K : List V → Option R) (r : R) (h : g34 G k args K = some r) : ∃ o, CallOK Try.prog TAB.env 34 args o ∧ K o = some r := by
  unfold g34 at h
  split at h
  · rw [← f34_is] at h
    exact callF_sound TAB_chk MO hG Try.func34 (sg := S34) (by kernel_rfl) (by kernel_rfl) (la34 G k) h
  · cases h

end Go.Proofs.Ytjbppcgcblfkoaa.Vm
