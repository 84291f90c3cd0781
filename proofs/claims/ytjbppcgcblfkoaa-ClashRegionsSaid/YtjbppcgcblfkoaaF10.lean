/- Functions of the seat, told by the machine of values. -/
import Derived.Test.YtjbppcgcblfkoaaTab
open Go Go.VM
set_option linter.unusedVariables false
set_option maxRecDepth 100000
set_option maxHeartbeats 4000000
namespace Go.Proofs.Ytjbppcgcblfkoaa.Vm
/-! ### cotillion/clash.Pair: function 10 -/
def L10 {R : Type} (_ : ORC R) (_ : Nat) : Nat → St → (Ex → St → Option R) → Option R := fun _ _ _ => none
def f10 {R : Type} (G : ORC R) (k : Nat) (al1 : List V) (ai2 : Int) (ai3 : Int) (ai4 : Int) (ai5 : Int) (ai6 : Int) (as7 : ByteArray) (ai8 : Int) (ai9 : Int) (ai10 : Int) (ai11 : Int) (ai12 : Int) (as13 : ByteArray) (K : List V → Option R) : Option R :=
  (bif (ai4 != (-1 : Int)) then (bif (ai10 != (-1 : Int)) then (G 20 [(.sl 7 al1), (.int .i64 ai4), (.int .i64 ai10)] fun o14 => (unCons o14 fun c15 r16 => (V.asBool c15 fun b17 => (unNil r16 (bif b17 then (K [(.bool true)]) else (G 20 [(.sl 7 al1), (.int .i64 ai10), (.int .i64 ai4)] fun o18 => (unCons o18 fun c19 r20 => (V.asBool c19 fun b21 => (unNil r20 (K [(.bool b21)])))))))))) else (K [(.bool false)])) else (K [(.bool false)]))
theorem f10_is {R : Type} (G : ORC R) (k : Nat) (K : List V → Option R) (al1 : List V) (ai2 : Int) (ai3 : Int) (ai4 : Int) (ai5 : Int) (ai6 : Int) (as7 : ByteArray) (ai8 : Int) (ai9 : Int) (ai10 : Int) (ai11 : Int) (ai12 : Int) (as13 : ByteArray) :
    callF (TAB.env 10) G (L10 G k) Try.f10 S10 [(.sl 7 al1), (.agg [(.int .i64 ai2), (.int .i64 ai3), (.int .i64 ai4), (.int .i64 ai5), (.int .i64 ai6), (.str as7)]), (.agg [(.int .i64 ai8), (.int .i64 ai9), (.int .i64 ai10), (.int .i64 ai11), (.int .i64 ai12), (.str as13)])] K = f10 G k al1 ai2 ai3 ai4 ai5 ai6 as7 ai8 ai9 ai10 ai11 ai12 as13 K := by kernel_rfl
theorem lo10 : loopsOf (bodyOf Try.f10) = [] := by kernel_rfl
theorem la10 {R : Type} (G : ORC R) (k : Nat) : LoopsAre (TAB.env 10) G (L10 G k) (bodyOf Try.f10) :=
  loopsAre_of (by rw [lo10]; intro p hp; cases hp)
def g10 {R : Type} (G : ORC R) (k : Nat) (args : List V) (K : List V → Option R) : Option R := match args with
  | [(.sl 7 al1), (.agg [(.int .i64 ai2), (.int .i64 ai3), (.int .i64 ai4), (.int .i64 ai5), (.int .i64 ai6), (.str as7)]), (.agg [(.int .i64 ai8), (.int .i64 ai9), (.int .i64 ai10), (.int .i64 ai11), (.int .i64 ai12), (.str as13)])] => f10 G k al1 ai2 ai3 ai4 ai5 ai6 as7 ai8 ai9 ai10 ai11 ai12 as13 K
  | _ => none
theorem s10 {R : Type} {G : ORC R} {k : Nat} (hG : Sound Try.prog TAB G) (args : List V) (K : List V → Option R) (r : R) (h : g10 G k args K = some r) : ∃ o, CallOK Try.prog TAB.env 10 args o ∧ K o = some r := by
  unfold g10 at h
  split at h
  · rw [← f10_is] at h
    exact callF_sound TAB_chk MO hG Try.func10 (sg := S10) (by kernel_rfl) (by kernel_rfl) (la10 G k) h
  · cases h

end Go.Proofs.Ytjbppcgcblfkoaa.Vm
