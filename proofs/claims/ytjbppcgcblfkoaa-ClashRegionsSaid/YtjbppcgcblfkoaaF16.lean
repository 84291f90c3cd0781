/- Functions of the seat, told by the machine of values. -/
import Derived.Test.YtjbppcgcblfkoaaTab
open Go Go.VM
set_option linter.unusedVariables false
set_option maxRecDepth 100000
set_option maxHeartbeats 4000000
namespace Go.Proofs.Ytjbppcgcblfkoaa.Vm
/-! ### cotillion/cotillionref14.Dom: function 16 -/
def P16_0h : Pat := { tmps := [.var (.sl 7) .ro, .var (.int .i64) .pr, .var (.int .i64) .pr, .undef, .undef, .undef, .undef, .var (.int .i64) .pr, .var (.int .i64) .pr, .undef, .undef, .undef, .undef, .undef, .undef, .undef, .undef, .undef, .undef, .undef, .undef, .undef, .undef, .undef, .undef, .undef, .undef, .undef, .undef, .undef, .undef, .undef, .undef, .undef, .undef, .undef, .undef, .undef, .undef, .undef, .undef, .undef, .undef, .undef, .undef, .undef, .undef, .undef, .undef, .undef, .undef, .undef, .undef, .undef, .undef], boxes := [none, none, none, none, none, none, none, none, none, none, none, none, none, none, none, none, none, none, none, none, none, none, none, none, none, none, none, none, none, none, none, none, none, none, none, none, none, none, none, none, none, none, none, none, none, none, none, none, none, none, none, none, none, none, none] }
def P16_0x : Pat := { tmps := [.undef, .undef, .undef, .undef, .undef, .undef, .undef, .var (.int .i64) .pr, .undef, .undef, .undef, .undef, .undef, .undef, .undef, .undef, .undef, .undef, .undef, .undef, .undef, .undef, .undef, .undef, .undef, .undef, .undef, .undef, .undef, .undef, .undef, .undef, .undef, .undef, .undef, .undef, .undef, .undef, .undef, .undef, .undef, .undef, .undef, .undef, .undef, .undef, .undef, .undef, .undef, .undef, .undef, .undef, .undef, .undef, .undef], boxes := [none, none, none, none, none, none, none, none, none, none, none, none, none, none, none, none, none, none, none, none, none, none, none, none, none, none, none, none, none, none, none, none, none, none, none, none, none, none, none, none, none, none, none, none, none, none, none, none, none, none, none, none, none, none, none] }
def b16_0 {R : Type} (G : ORC R) (k : Nat) (X : List V → Int → Int → Int → Int → Option R) (Ko : Int → Option R) (xl12 : List V) (xi13 : Int) (xi14 : Int) (xi15 : Int) (xi16 : Int) : Option R :=
  (bif (decide (xi16 < ((List.length xl12 : Nat) : Int))) then (bif ((decide ((0 : Int) ≤ xi16)) && (decide (xi16 < ((List.length xl12 : Nat) : Int)))) then (nthK xl12 (Int.toNat xi16) fun e17 => (V.asAgg e17 fun l18 => (unCons l18 fun c19 r44 => (unCons r44 fun c20 r45 => (unCons r45 fun c21 r46 => (unCons r46 fun c22 r47 => (unCons r47 fun c23 r48 => (unCons r48 fun c24 r49 => (unCons r49 fun c25 r50 => (unNil r50 (V.asInt c19 fun k34 n35 => (bif decide (k34 = .i64) then (bif (n35 == (2 : Int)) then (bif (xi16 != xi13) then (bif (xi16 != xi14) then (G 19 [(.sl 7 xl12), (.int .i64 xi13), (.int .i64 xi16)] fun o36 => (unCons o36 fun c37 r38 => (V.asBool c37 fun b39 => (unNil r38 (bif b39 then (G 19 [(.sl 7 xl12), (.int .i64 xi14), (.int .i64 xi16)] fun o40 => (unCons o40 fun c41 r42 => (V.asBool c41 fun b43 => (unNil r42 (bif b43 then (X xl12 xi13 xi14 xi16 (IntKind.i64.wrap (xi16 + (1 : Int)))) else (X xl12 xi13 xi14 xi15 (IntKind.i64.wrap (xi16 + (1 : Int))))))))) else (X xl12 xi13 xi14 xi15 (IntKind.i64.wrap (xi16 + (1 : Int))))))))) else (X xl12 xi13 xi14 xi15 (IntKind.i64.wrap (xi16 + (1 : Int))))) else (X xl12 xi13 xi14 xi15 (IntKind.i64.wrap (xi16 + (1 : Int))))) else (X xl12 xi13 xi14 xi15 (IntKind.i64.wrap (xi16 + (1 : Int))))) else none)))))))))))) else none) else (Ko xi15))
def l16_0g {R : Type} (G : ORC R) (k : Nat) (Ko : Int → Option R) : Nat → List V → Int → Int → Int → Int → Option R
  | 0 => fun _ _ _ _ _ => none
  | j + 1 => b16_0 G k (l16_0g G k Ko j) Ko
def l16_0 {R : Type} (G : ORC R) (k : Nat) (xl12 : List V) (xi13 : Int) (xi14 : Int) (xi15 : Int) (xi16 : Int) (Ko : Int → Option R) : Option R := l16_0g G k Ko k xl12 xi13 xi14 xi15 xi16
def rd16_0 {R : Type} (G : ORC R) (k : Nat) (K : Ex → St → Option R) (j : Nat) (vs : List V) : Option R := match vs with
  | [(.sl 7 xl12), (.int .i64 xi13), (.int .i64 xi14), (.int .i64 xi15), (.int .i64 xi16)] => l16_0g G k (fun yi52 => K .normal (P16_0x.inst [(.int .i64 yi52)])) j xl12 xi13 xi14 xi15 xi16
  | _ => none
def L16 {R : Type} (G : ORC R) (k : Nat) : Nat → St → (Ex → St → Option R) → Option R
  | 0, S, K => P16_0h.mat S fun vs => rd16_0 G k K k vs
  | _, _, _ => none
def f16 {R : Type} (G : ORC R) (k : Nat) (al1 : List V) (ai2 : Int) (ai3 : Int) (K : List V → Option R) : Option R :=
  (G 25 [(.sl 7 al1), (.int .i64 ai2)] fun o4 => (unCons o4 fun c5 r6 => (V.asBool c5 fun b7 => (unNil r6 (bif (!b7) then (K [(.int .i64 (-1 : Int))]) else (G 25 [(.sl 7 al1), (.int .i64 ai3)] fun o8 => (unCons o8 fun c9 r10 => (V.asBool c9 fun b11 => (unNil r10 (bif (!b11) then (K [(.int .i64 (-1 : Int))]) else (l16_0 G k al1 ai2 ai3 (-1 : Int) (0 : Int) (fun yi51 => (K [(.int .i64 yi51)])))))))))))))
noncomputable def D16_0 : LoopD := { id := 0, body := loopAt 0 (bodyOf Try.f16), head := P16_0h, out := P16_0x, ret := default }
theorem l16_0_is {R : Type} (G : ORC R) (k : Nat) (X : List V → Option R) (K : Ex → St → Option R) (xl12 : List V) (xi13 : Int) (xi14 : Int) (xi15 : Int) (xi16 : Int) :
    roundOf (TAB.env 16) G (L16 G k) D16_0 X K [(.sl 7 xl12), (.int .i64 xi13), (.int .i64 xi14), (.int .i64 xi15), (.int .i64 xi16)] = b16_0 G k (fun xl12 xi13 xi14 xi15 xi16 => X [(.sl 7 xl12), (.int .i64 xi13), (.int .i64 xi14), (.int .i64 xi15), (.int .i64 xi16)]) (fun yi52 => K .normal (P16_0x.inst [(.int .i64 yi52)])) xl12 xi13 xi14 xi15 xi16 := by kernel_rfl
theorem f16_is {R : Type} (G : ORC R) (k : Nat) (K : List V → Option R) (al1 : List V) (ai2 : Int) (ai3 : Int) :
    callF (TAB.env 16) G (L16 G k) Try.f16 S16 [(.sl 7 al1), (.int .i64 ai2), (.int .i64 ai3)] K = f16 G k al1 ai2 ai3 K := by kernel_rfl
theorem li16_0 {R : Type} (G : ORC R) (k : Nat) : LoopIs (TAB.env 16) G (L16 G k) 0 (loopAt 0 (bodyOf Try.f16)) :=
  ⟨D16_0, fun j vs K => rd16_0 G k K j vs, k, rfl, rfl, by kernel_rfl, by kernel_rfl, by kernel_rfl, (fun vs K => by unfold rd16_0; dsimp only; split <;> rfl),
    (fun j vs K r h => by
      unfold rd16_0 at h
      dsimp only at h
      split at h
      · rw [l16_0_is]; exact h
      · cases h), (fun S K r h => h)⟩
theorem lo16 : loopsOf (bodyOf Try.f16) = [(0, loopAt 0 (bodyOf Try.f16))] := by kernel_rfl
theorem la16 {R : Type} (G : ORC R) (k : Nat) : LoopsAre (TAB.env 16) G (L16 G k) (bodyOf Try.f16) :=
  loopsAre_of (by rw [lo16]; intro p hp; simp only [List.mem_cons, List.not_mem_nil, or_false] at hp; subst hp; exact li16_0 G k)
def g16 {R : Type} (G : ORC R) (k : Nat) (args : List V) (K : List V → Option R) : Option R := match args with
  | [(.sl 7 al1), (.int .i64 ai2), (.int .i64 ai3)] => f16 G k al1 ai2 ai3 K
  | _ => none
theorem s16 {R : Type} {G : ORC R} {k : Nat} (hG : Sound Try.prog TAB G) (args : List V) (K : List V → Option R) (r : R) (h : g16 G k args K = some r) : ∃ o, CallOK Try.prog TAB.env 16 args o ∧ K o = some r := by
  unfold g16 at h
  split at h
  · rw [← f16_is] at h
    exact callF_sound TAB_chk MO hG Try.func16 (sg := S16) (by kernel_rfl) (by kernel_rfl) (la16 G k) h
  · cases h

end Go.Proofs.Ytjbppcgcblfkoaa.Vm
