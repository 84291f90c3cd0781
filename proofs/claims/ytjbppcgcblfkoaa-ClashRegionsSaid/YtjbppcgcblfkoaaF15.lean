/- Functions of the seat, told by the machine of values. -/
import Derived.Test.YtjbppcgcblfkoaaTab
open Go Go.VM
set_option linter.unusedVariables false
set_option maxRecDepth 100000
set_option maxHeartbeats 4000000
namespace Go.Proofs.Ytjbppcgcblfkoaa.Vm
/-! ### cotillion/cotillionref13.Nodes: function 15 -/
def L15 {R : Type} (_ : ORC R) (_ : Nat) : Nat → St → (Ex → St → Option R) → Option R := fun _ _ _ => none
def f15 {R : Type} (G : ORC R) (k : Nat) (as1 : ByteArray) (ai2 : Int) (ai3 : Int) (al4 : List V) (al5 : List V) (al6 : List V) (al7 : List V) (ai8 : Int) (K : List V → Option R) : Option R :=
  (G 24 [(.sl 7 [(.agg [(.int .i64 (2 : Int)), (.int .i64 (-1 : Int)), (.int .i64 (0 : Int)), (.int .i64 (-1 : Int)), (.int .i64 (-1 : Int)), (.int .i64 (-1 : Int)), (.str ⟨#[]⟩)])]), (.sl 7 al7), (.int .i64 (0 : Int))] fun o9 => (unCons o9 fun c10 r11 => (V.asSl c10 fun z12 l13 => (bif (z12 == 7) then (unNil r11 (bif (decide ((0 : Int) < ((List.length l13 : Nat) : Int))) then (nthK l13 0 fun e14 => (V.asAgg e14 fun l15 => (unCons l15 fun c16 r31 => (unCons r31 fun c17 r32 => (unCons r32 fun c18 r33 => (unCons r33 fun c19 r34 => (unCons r34 fun c20 r35 => (unCons r35 fun c21 r36 => (unCons r36 fun c22 r37 => (unNil r37 (K [(.sl 7 (List.set l13 0 (.agg [c16, c17, (.int .i64 (IntKind.i64.wrap (((List.length l13 : Nat) : Int) - (1 : Int)))), c19, c20, c21, c22])))]))))))))))) else none)) else none))))
theorem f15_is {R : Type} (G : ORC R) (k : Nat) (K : List V → Option R) (as1 : ByteArray) (ai2 : Int) (ai3 : Int) (al4 : List V) (al5 : List V) (al6 : List V) (al7 : List V) (ai8 : Int) :
    callF (TAB.env 15) G (L15 G k) Try.f15 S15 [(.agg [(.str as1), (.int .i64 ai2), (.int .i64 ai3), (.sl 3 al4), (.sl 3 al5), (.sl 3 al6), (.sl 7 al7), (.int .i64 ai8)])] K = f15 G k as1 ai2 ai3 al4 al5 al6 al7 ai8 K := by kernel_rfl
theorem lo15 : loopsOf (bodyOf Try.f15) = [] := by kernel_rfl
theorem la15 {R : Type} (G : ORC R) (k : Nat) : LoopsAre (TAB.env 15) G (L15 G k) (bodyOf Try.f15) :=
  loopsAre_of (by rw [lo15]; intro p hp; cases hp)
def g15 {R : Type} (G : ORC R) (k : Nat) (args : List V) (K : List V → Option R) : Option R := match args with
  | [(.agg [(.str as1), (.int .i64 ai2), (.int .i64 ai3), (.sl 3 al4), (.sl 3 al5), (.sl 3 al6), (.sl 7 al7), (.int .i64 ai8)])] => f15 G k as1 ai2 ai3 al4 al5 al6 al7 ai8 K
  | _ => none
theorem s15 {R : Type} {G : ORC R} {k : Nat} (hG : Sound Try.prog TAB G) (args : List V) (K : List V → Option R) (r : R) (h : g15 G k args K = some r) : ∃ o, CallOK Try.prog TAB.env 15 args o ∧ K o = some r := by
  unfold g15 at h
  split at h
  · rw [← f15_is] at h
    exact callF_sound TAB_chk MO hG Try.func15 (sg := S15) (by kernel_rfl) (by kernel_rfl) (la15 G k) h
  · cases h

end Go.Proofs.Ytjbppcgcblfkoaa.Vm
