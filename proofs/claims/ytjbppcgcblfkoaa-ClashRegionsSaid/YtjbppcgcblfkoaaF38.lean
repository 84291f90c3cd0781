/- Functions of the seat, told by the machine of values. -/
import Derived.Test.YtjbppcgcblfkoaaTab
open Go Go.VM
set_option linter.unusedVariables false
set_option maxRecDepth 100000
set_option maxHeartbeats 4000000
namespace Go.Proofs.Ytjbppcgcblfkoaa.Vm
/-! ### cotillion/cotillionref13.kind: function 38 -/
def L38 {R : Type} (_ : ORC R) (_ : Nat) : Nat → St → (Ex → St → Option R) → Option R := fun _ _ _ => none
def f38 {R : Type} (G : ORC R) (k : Nat) (ai1 : Int) (as2 : ByteArray) (al3 : List V) (al4 : List V) (al5 : List V) (al6 : List V) (ai7 : Int) (K : List V → Option R) : Option R :=
  (bif (ai1 == (3 : Int)) then (K [(.int .i64 (4 : Int))]) else (bif (ai1 == (4 : Int)) then (K [(.int .i64 (5 : Int))]) else (bif (ai1 == (2 : Int)) then (K [(.int .i64 (3 : Int))]) else (bif (((List.length al6 : Nat) : Int) == (0 : Int)) then (K [(.int .i64 (1 : Int))]) else (K [(.int .i64 (2 : Int))])))))
theorem f38_is {R : Type} (G : ORC R) (k : Nat) (K : List V → Option R) (ai1 : Int) (as2 : ByteArray) (al3 : List V) (al4 : List V) (al5 : List V) (al6 : List V) (ai7 : Int) :
    callF (TAB.env 38) G (L38 G k) Try.f38 S38 [(.agg [(.int .i64 ai1), (.str as2), (.sl 8 al3), (.sl 8 al4), (.sl 5 al5), (.sl 7 al6), (.int .i64 ai7)])] K = f38 G k ai1 as2 al3 al4 al5 al6 ai7 K := by kernel_rfl
theorem lo38 : loopsOf (bodyOf Try.f38) = [] := by kernel_rfl
theorem la38 {R : Type} (G : ORC R) (k : Nat) : LoopsAre (TAB.env 38) G (L38 G k) (bodyOf Try.f38) :=
  loopsAre_of (by rw [lo38]; intro p hp; cases hp)
def g38 {R : Type} (G : ORC R) (k : Nat) (args : List V) (K : List V → Option R) : Option R := match args with
  | [(.agg [(.int .i64 ai1), (.str as2), (.sl 8 al3), (.sl 8 al4), (.sl 5 al5), (.sl 7 al6), (.int .i64 ai7)])] => f38 G k ai1 as2 al3 al4 al5 al6 ai7 K
  | _ => none
theorem s38 {R : Type} {G : ORC R} {k : Nat} (hG : Sound Try.prog TAB G) (args : List V) (K : List V → Option R) (r : R) (h : g38 G k args K = some r) : ∃ o, CallOK Try.prog TAB.env 38 args o ∧ K o = some r := by
  unfold g38 at h
  split at h
  · rw [← f38_is] at h
    exact callF_sound TAB_chk MO hG Try.func38 (sg := S38) (by kernel_rfl) (by kernel_rfl) (la38 G k) h
  · cases h

end Go.Proofs.Ytjbppcgcblfkoaa.Vm
