/- Functions of the seat, told by the machine of values. -/
import Derived.Test.YtjbppcgcblfkoaaTab
open Go Go.VM
set_option linter.unusedVariables false
set_option maxRecDepth 100000
set_option maxHeartbeats 4000000
namespace Go.Proofs.Ytjbppcgcblfkoaa.Vm
/-! ### cotillion/cotillionlaw15.known: function 6 -/
def L6 {R : Type} (_ : ORC R) (_ : Nat) : Nat → St → (Ex → St → Option R) → Option R := fun _ _ _ => none
def f6 {R : Type} (G : ORC R) (k : Nat)  (K : List V → Option R) : Option R :=
  (G 15 [(.agg [(.str ⟨#[]⟩), (.int .i64 (0 : Int)), (.int .i64 (0 : Int)), (.sl 3 []), (.sl 3 []), (.sl 3 []), (.sl 7 [(.agg [(.int .i64 (1 : Int)), (.str ⟨#[97]⟩), (.sl 8 []), (.sl 8 []), (.sl 5 []), (.sl 7 []), (.int .i64 (0 : Int))])]), (.int .i64 (0 : Int))])] fun o1 => (unCons o1 fun c2 r3 => (V.asSl c2 fun z4 l5 => (bif (z4 == 7) then (unNil r3 (G 10 [(.sl 7 l5), (.agg [(.int .i64 (1 : Int)), (.int .i64 (-1 : Int)), (.int .i64 (-1 : Int)), (.int .i64 (0 : Int)), (.int .i64 (0 : Int)), (.str ⟨#[]⟩)]), (.agg [(.int .i64 (1 : Int)), (.int .i64 (-1 : Int)), (.int .i64 (-1 : Int)), (.int .i64 (0 : Int)), (.int .i64 (0 : Int)), (.str ⟨#[]⟩)])] fun o6 => (unCons o6 fun c7 r8 => (V.asBool c7 fun b9 => (unNil r8 (bif (!b9) then (G 10 [(.sl 7 l5), (.agg [(.int .i64 (1 : Int)), (.int .i64 (-1 : Int)), (.int .i64 (-1 : Int)), (.int .i64 (0 : Int)), (.int .i64 (0 : Int)), (.str ⟨#[]⟩)]), (.agg [(.int .i64 (1 : Int)), (.int .i64 (1 : Int)), (.int .i64 (0 : Int)), (.int .i64 (0 : Int)), (.int .i64 (0 : Int)), (.str ⟨#[]⟩)])] fun o10 => (unCons o10 fun c11 r12 => (V.asBool c11 fun b13 => (unNil r12 (bif (!b13) then (G 10 [(.sl 7 l5), (.agg [(.int .i64 (1 : Int)), (.int .i64 (1 : Int)), (.int .i64 (0 : Int)), (.int .i64 (0 : Int)), (.int .i64 (0 : Int)), (.str ⟨#[]⟩)]), (.agg [(.int .i64 (1 : Int)), (.int .i64 (1 : Int)), (.int .i64 (0 : Int)), (.int .i64 (0 : Int)), (.int .i64 (0 : Int)), (.str ⟨#[]⟩)])] fun o14 => (unCons o14 fun c15 r16 => (V.asBool c15 fun b17 => (unNil r16 (bif b17 then (G 8 [(.sl 7 l5), (.sl 6 [(.agg [(.int .i64 (1 : Int)), (.int .i64 (-1 : Int)), (.int .i64 (-1 : Int)), (.int .i64 (0 : Int)), (.int .i64 (0 : Int)), (.str ⟨#[]⟩)]), (.agg [(.int .i64 (1 : Int)), (.int .i64 (1 : Int)), (.int .i64 (0 : Int)), (.int .i64 (0 : Int)), (.int .i64 (0 : Int)), (.str ⟨#[]⟩)])])] fun o18 => (unCons o18 fun c19 r20 => (V.asSl c19 fun z21 l22 => (bif (z21 == 1) then (unNil r20 (K [(.bool (((List.length l22 : Nat) : Int) == (2 : Int)))])) else none)))) else (K [(.bool false)])))))) else (K [(.bool false)])))))) else (K [(.bool false)]))))))) else none))))
theorem f6_is {R : Type} (G : ORC R) (k : Nat) (K : List V → Option R)  :
    callF (TAB.env 6) G (L6 G k) Try.f6 S6 [] K = f6 G k  K := by kernel_rfl
theorem lo6 : loopsOf (bodyOf Try.f6) = [] := by kernel_rfl
theorem la6 {R : Type} (G : ORC R) (k : Nat) : LoopsAre (TAB.env 6) G (L6 G k) (bodyOf Try.f6) :=
  loopsAre_of (by rw [lo6]; intro p hp; cases hp)
def g6 {R : Type} (G : ORC R) (k : Nat) (args : List V) (K : List V → Option R) : Option R := match args with
  | [] => f6 G k  K
  | _ => none
theorem s6 {R : Type} {G : ORC R} {k : Nat} (hG : Sound Try.prog TAB G) (args : List V) (K : List V → Option R) (r : R) (h : g6 G k args K = some r) : ∃ o, CallOK Try.prog TAB.env 6 args o ∧ K o = some r := by
  unfold g6 at h
  split at h
  · rw [← f6_is] at h
    exact callF_sound TAB_chk MO hG Try.func6 (sg := S6) (by kernel_rfl) (by kernel_rfl) (la6 G k) h
  · cases h

end Go.Proofs.Ytjbppcgcblfkoaa.Vm
