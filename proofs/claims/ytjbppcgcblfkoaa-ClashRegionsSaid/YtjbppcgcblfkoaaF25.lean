/- Functions of the seat, told by the machine of values. -/
import Derived.Test.YtjbppcgcblfkoaaTab
open Go Go.VM
set_option linter.unusedVariables false
set_option maxRecDepth 100000
set_option maxHeartbeats 4000000
namespace Go.Proofs.Ytjbppcgcblfkoaa.Vm
/-! ### cotillion/cotillionref13.Is: function 25 -/
def L25 {R : Type} (_ : ORC R) (_ : Nat) : Nat → St → (Ex → St → Option R) → Option R := fun _ _ _ => none
def f25 {R : Type} (G : ORC R) (k : Nat) (al1 : List V) (ai2 : Int) (K : List V → Option R) : Option R :=
  (bif (decide (ai2 ≥ (0 : Int))) then (K [(.bool (decide (ai2 < ((List.length al1 : Nat) : Int))))]) else (K [(.bool false)]))
theorem f25_is {R : Type} (G : ORC R) (k : Nat) (K : List V → Option R) (al1 : List V) (ai2 : Int) :
    callF (TAB.env 25) G (L25 G k) Try.f25 S25 [(.sl 7 al1), (.int .i64 ai2)] K = f25 G k al1 ai2 K := by kernel_rfl
theorem lo25 : loopsOf (bodyOf Try.f25) = [] := by kernel_rfl
theorem la25 {R : Type} (G : ORC R) (k : Nat) : LoopsAre (TAB.env 25) G (L25 G k) (bodyOf Try.f25) :=
  loopsAre_of (by rw [lo25]; intro p hp; cases hp)
def g25 {R : Type} (G : ORC R) (k : Nat) (args : List V) (K : List V → Option R) : Option R := match args with
  | [(.sl 7 al1), (.int .i64 ai2)] => f25 G k al1 ai2 K
  | _ => none
theorem s25 {R : Type} {G : ORC R} {k : Nat} (hG : Sound Try.prog TAB G) (args : List V) (K : List V → Option R) (r : R) (h : g25 G k args K = some r) : ∃ o, CallOK Try.prog TAB.env 25 args o ∧ K o = some r := by
  unfold g25 at h
  split at h
  · rw [← f25_is] at h
    exact callF_sound TAB_chk MO hG Try.func25 (sg := S25) (by kernel_rfl) (by kernel_rfl) (la25 G k) h
  · cases h

end Go.Proofs.Ytjbppcgcblfkoaa.Vm
