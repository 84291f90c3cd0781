/- Functions of the seat, told by the machine of values. -/
import Derived.Test.YtjbppcgcblfkoaaTab
open Go Go.VM
set_option linter.unusedVariables false
set_option maxRecDepth 100000
set_option maxHeartbeats 4000000
namespace Go.Proofs.Ytjbppcgcblfkoaa.Vm
/-! ### cotillion/flat.In: function 20 -/
def L20 {R : Type} (_ : ORC R) (_ : Nat) : Nat → St → (Ex → St → Option R) → Option R := fun _ _ _ => none
def f20 {R : Type} (G : ORC R) (k : Nat) (al1 : List V) (ai2 : Int) (ai3 : Int) (K : List V → Option R) : Option R :=
  (G 34 [(.sl 7 al1), (.int .i64 ai2)] fun o4 => (unCons o4 fun c5 r6 => (V.asBool c5 fun b7 => (unNil r6 (bif b7 then (G 34 [(.sl 7 al1), (.int .i64 ai3)] fun o8 => (unCons o8 fun c9 r10 => (V.asBool c9 fun b11 => (unNil r10 (bif b11 then (bif (decide (ai2 ≥ ai3)) then (bif ((decide ((0 : Int) ≤ ai3)) && (decide (ai3 < ((List.length al1 : Nat) : Int)))) then (nthK al1 (Int.toNat ai3) fun e12 => (V.asAgg e12 fun l13 => (unCons l13 fun c14 r31 => (unCons r31 fun c15 r32 => (unCons r32 fun c16 r33 => (unCons r33 fun c17 r34 => (unCons r34 fun c18 r35 => (unCons r35 fun c19 r36 => (unCons r36 fun c20 r37 => (unNil r37 (V.asInt c16 fun k29 n30 => (bif decide (k29 = .i64) then (K [(.bool (decide (ai2 ≤ n30)))]) else none)))))))))))) else none) else (K [(.bool false)])) else (K [(.bool false)])))))) else (K [(.bool false)]))))))
theorem f20_is {R : Type} (G : ORC R) (k : Nat) (K : List V → Option R) (al1 : List V) (ai2 : Int) (ai3 : Int) :
    callF (TAB.env 20) G (L20 G k) Try.f20 S20 [(.sl 7 al1), (.int .i64 ai2), (.int .i64 ai3)] K = f20 G k al1 ai2 ai3 K := by kernel_rfl
theorem lo20 : loopsOf (bodyOf Try.f20) = [] := by kernel_rfl
theorem la20 {R : Type} (G : ORC R) (k : Nat) : LoopsAre (TAB.env 20) G (L20 G k) (bodyOf Try.f20) :=
  loopsAre_of (by rw [lo20]; intro p hp; cases hp)
def g20 {R : Type} (G : ORC R) (k : Nat) (args : List V) (K : List V → Option R) : Option R := match args with
  | [(.sl 7 al1), (.int .i64 ai2), (.int .i64 ai3)] => f20 G k al1 ai2 ai3 K
  | _ => none
theorem s20 {R : Type} {G : ORC R} {k : Nat} (hG : Sound Try.prog TAB G) (args : List V) (K : List V → Option R) (r : R) (h : g20 G k args K = some r) : ∃ o, CallOK Try.prog TAB.env 20 args o ∧ K o = some r := by
  unfold g20 at h
  split at h
  · rw [← f20_is] at h
    exact callF_sound TAB_chk MO hG Try.func20 (sg := S20) (by kernel_rfl) (by kernel_rfl) (la20 G k) h
  · cases h

end Go.Proofs.Ytjbppcgcblfkoaa.Vm
