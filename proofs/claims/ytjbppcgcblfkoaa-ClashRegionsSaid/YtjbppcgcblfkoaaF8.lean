/- Functions of the seat, told by the machine of values. -/
import Derived.Test.YtjbppcgcblfkoaaTab
open Go Go.VM
set_option linter.unusedVariables false
set_option maxRecDepth 100000
set_option maxHeartbeats 4000000
namespace Go.Proofs.Ytjbppcgcblfkoaa.Vm
/-! ### cotillion/clash.Matrix: function 8 -/
def P8_2h : Pat := { tmps := [.var (.sl 7) .ro, .var (.sl 6) .ro, .undef, .undef, .undef, .var (.sl 1) (.own false), .undef, .stat (.one (.ptr 7 0) .pt), .var (.sl 1) (.own true), .undef, .undef, .var (.sl 6) .ro, .var (.int .i64) .pr, .var (.int .i64) .pr, .undef, .undef, .undef, .undef, .undef, .undef, .var (.sl 6) .ro, .var (.int .i64) .pr, .var (.int .i64) .pr, .undef, .undef, .undef, .undef, .undef, .undef, .undef, .undef, .undef, .undef, .undef, .undef, .undef, .undef, .undef, .undef, .undef, .undef], boxes := [none, none, none, none, none, none, none, some [.var (.int .i64) .pr false, .var (.int .i64) .pr false, .var (.int .i64) .pr false, .var (.int .i64) .pr false, .var (.int .i64) .pr false, .var .str .pr false], none, none, none, none, none, none, none, none, none, none, none, none, none, none, none, none, none, none, none, none, none, none, none, none, none, none, none, none, none, none, none, none, none] }
def P8_2x : Pat := { tmps := [.var (.sl 7) .ro, .var (.sl 6) .ro, .undef, .undef, .undef, .var (.sl 1) (.own false), .undef, .undef, .var (.sl 1) (.own true), .undef, .undef, .var (.sl 6) .ro, .var (.int .i64) .pr, .var (.int .i64) .pr, .undef, .undef, .undef, .undef, .undef, .undef, .undef, .undef, .undef, .undef, .undef, .undef, .undef, .undef, .undef, .undef, .undef, .undef, .undef, .undef, .undef, .undef, .undef, .undef, .undef, .undef, .undef], boxes := [none, none, none, none, none, none, none, none, none, none, none, none, none, none, none, none, none, none, none, none, none, none, none, none, none, none, none, none, none, none, none, none, none, none, none, none, none, none, none, none, none] }
def b8_2 {R : Type} (G : ORC R) (k : Nat) (X : List V → List V → List V → List V → List V → Int → Int → List V → Int → Int → Int → Int → Int → Int → Int → ByteArray → Option R) (Ko : List V → List V → List V → List V → List V → Int → Int → Option R) (xl35 : List V) (xl36 : List V) (xl37 : List V) (xl38 : List V) (xl39 : List V) (xi40 : Int) (xi41 : Int) (xl42 : List V) (xi43 : Int) (xi44 : Int) (xi45 : Int) (xi46 : Int) (xi47 : Int) (xi48 : Int) (xi49 : Int) (xs50 : ByteArray) : Option R :=
  (bif (decide (xi44 < xi43)) then (bif ((decide ((0 : Int) ≤ xi44)) && (decide (xi44 < ((List.length xl42 : Nat) : Int)))) then (nthK xl42 (Int.toNat xi44) fun e51 => (V.asAgg e51 fun l52 => (unCons l52 fun c53 r82 => (unCons r82 fun c54 r83 => (unCons r83 fun c55 r84 => (unCons r84 fun c56 r85 => (unCons r85 fun c57 r86 => (unCons r86 fun c58 r87 => (unNil r87 (V.asInt c53 fun k66 n67 => (bif decide (k66 = .i64) then (V.asInt c54 fun k68 n69 => (bif decide (k68 = .i64) then (V.asInt c55 fun k70 n71 => (bif decide (k70 = .i64) then (V.asInt c56 fun k72 n73 => (bif decide (k72 = .i64) then (V.asInt c57 fun k74 n75 => (bif decide (k74 = .i64) then (V.asStr c58 fun s76 => (G 10 [(.sl 7 xl35), (.agg [(.int .i64 xi45), (.int .i64 xi46), (.int .i64 xi47), (.int .i64 xi48), (.int .i64 xi49), (.str xs50)]), (.agg [(.int .i64 n67), (.int .i64 n69), (.int .i64 n71), (.int .i64 n73), (.int .i64 n75), (.str s76)])] fun o77 => (unCons o77 fun c78 r79 => (V.asBool c78 fun b80 => (unNil r79 (bif ((decide ((0 : Int) ≤ xi44)) && (decide (xi44 < ((List.length xl38 : Nat) : Int)))) then (nthK xl38 (Int.toNat xi44) fun e81 => (X xl35 xl36 xl37 (List.set xl38 (Int.toNat xi44) (.bool b80)) xl39 xi40 xi41 xl42 xi43 (IntKind.i64.wrap (xi44 + (1 : Int))) xi45 xi46 xi47 xi48 xi49 xs50)) else none)))))) else none)) else none)) else none)) else none)) else none))))))))))) else none) else (Ko xl35 xl36 xl37 xl38 xl39 xi40 xi41))
def l8_2g {R : Type} (G : ORC R) (k : Nat) (Ko : List V → List V → List V → List V → List V → Int → Int → Option R) : Nat → List V → List V → List V → List V → List V → Int → Int → List V → Int → Int → Int → Int → Int → Int → Int → ByteArray → Option R
  | 0 => fun _ _ _ _ _ _ _ _ _ _ _ _ _ _ _ _ => none
  | j + 1 => b8_2 G k (l8_2g G k Ko j) Ko
def l8_2 {R : Type} (G : ORC R) (k : Nat) (xl35 : List V) (xl36 : List V) (xl37 : List V) (xl38 : List V) (xl39 : List V) (xi40 : Int) (xi41 : Int) (xl42 : List V) (xi43 : Int) (xi44 : Int) (xi45 : Int) (xi46 : Int) (xi47 : Int) (xi48 : Int) (xi49 : Int) (xs50 : ByteArray) (Ko : List V → List V → List V → List V → List V → Int → Int → Option R) : Option R := l8_2g G k Ko k xl35 xl36 xl37 xl38 xl39 xi40 xi41 xl42 xi43 xi44 xi45 xi46 xi47 xi48 xi49 xs50
def P8_0h : Pat := { tmps := [.var (.sl 7) .ro, .var (.sl 6) .ro, .undef, .undef, .undef, .var (.sl 1) (.own false), .undef, .undef, .undef, .undef, .undef, .var (.sl 6) .ro, .var (.int .i64) .pr, .var (.int .i64) .pr, .undef, .undef, .undef, .undef, .undef, .undef, .undef, .undef, .undef, .undef, .undef, .undef, .undef, .undef, .undef, .undef, .undef, .undef, .undef, .undef, .undef, .undef, .undef, .undef, .undef, .undef, .undef], boxes := [none, none, none, none, none, none, none, none, none, none, none, none, none, none, none, none, none, none, none, none, none, none, none, none, none, none, none, none, none, none, none, none, none, none, none, none, none, none, none, none, none] }
def P8_0x : Pat := { tmps := [.undef, .undef, .undef, .undef, .undef, .var (.sl 1) (.own false), .undef, .undef, .undef, .undef, .undef, .undef, .undef, .undef, .undef, .undef, .undef, .undef, .undef, .undef, .undef, .undef, .undef, .undef, .undef, .undef, .undef, .undef, .undef, .undef, .undef, .undef, .undef, .undef, .undef, .undef, .undef, .undef, .undef, .undef, .undef], boxes := [none, none, none, none, none, none, none, none, none, none, none, none, none, none, none, none, none, none, none, none, none, none, none, none, none, none, none, none, none, none, none, none, none, none, none, none, none, none, none, none, none] }
def b8_0 {R : Type} (G : ORC R) (k : Nat) (X : List V → List V → List V → List V → Int → Int → Option R) (Ko : List V → Option R) (xl3 : List V) (xl4 : List V) (xl5 : List V) (xl6 : List V) (xi7 : Int) (xi8 : Int) : Option R :=
  (bif (decide (xi8 < xi7)) then (bif ((decide ((0 : Int) ≤ xi8)) && (decide (xi8 < ((List.length xl6 : Nat) : Int)))) then (nthK xl6 (Int.toNat xi8) fun e9 => (V.asAgg e9 fun l10 => (unCons l10 fun c11 r42 => (unCons r42 fun c12 r43 => (unCons r43 fun c13 r44 => (unCons r44 fun c14 r45 => (unCons r45 fun c15 r46 => (unCons r46 fun c16 r47 => (unNil r47 (V.asInt c11 fun k24 n25 => (bif decide (k24 = .i64) then (V.asInt c12 fun k26 n27 => (bif decide (k26 = .i64) then (V.asInt c13 fun k28 n29 => (bif decide (k28 = .i64) then (V.asInt c14 fun k30 n31 => (bif decide (k30 = .i64) then (V.asInt c15 fun k32 n33 => (bif decide (k32 = .i64) then (V.asStr c16 fun s34 => (bif (((decide ((0 : Int) ≤ ((List.length xl4 : Nat) : Int))) && (decide (((List.length xl4 : Nat) : Int) ≤ ((List.length xl4 : Nat) : Int)))) && (decide (((List.length xl4 : Nat) : Int) ≤ (1073741824 : Int)))) then (l8_2 G k xl3 xl4 xl5 (List.replicate (Int.toNat ((List.length xl4 : Nat) : Int)) (.bool false)) xl6 xi7 xi8 xl4 ((List.length xl4 : Nat) : Int) (0 : Int) n25 n27 n29 n31 n33 s34 (fun yl35 yl36 yl37 yl38 yl39 yi40 yi41 => (bif (decide (List.length yl37 + 1 ≤ 1073741824)) then (X yl35 yl36 (yl37 ++ [(.sl 1 yl38)]) yl39 yi40 (IntKind.i64.wrap (yi41 + (1 : Int)))) else none))) else none)) else none)) else none)) else none)) else none)) else none))))))))))) else none) else (Ko xl5))
def l8_0g {R : Type} (G : ORC R) (k : Nat) (Ko : List V → Option R) : Nat → List V → List V → List V → List V → Int → Int → Option R
  | 0 => fun _ _ _ _ _ _ => none
  | j + 1 => b8_0 G k (l8_0g G k Ko j) Ko
def l8_0 {R : Type} (G : ORC R) (k : Nat) (xl3 : List V) (xl4 : List V) (xl5 : List V) (xl6 : List V) (xi7 : Int) (xi8 : Int) (Ko : List V → Option R) : Option R := l8_0g G k Ko k xl3 xl4 xl5 xl6 xi7 xi8
def rd8_2 {R : Type} (G : ORC R) (k : Nat) (K : Ex → St → Option R) (j : Nat) (vs : List V) : Option R := match vs with
  | [(.sl 7 xl35), (.sl 6 xl36), (.sl 1 xl37), (.sl 1 xl38), (.sl 6 xl39), (.int .i64 xi40), (.int .i64 xi41), (.sl 6 xl42), (.int .i64 xi43), (.int .i64 xi44), (.int .i64 xi45), (.int .i64 xi46), (.int .i64 xi47), (.int .i64 xi48), (.int .i64 xi49), (.str xs50)] => l8_2g G k (fun yl49 yl50 yl51 yl52 yl53 yi54 yi55 => K .normal (P8_2x.inst [(.sl 7 yl49), (.sl 6 yl50), (.sl 1 yl51), (.sl 1 yl52), (.sl 6 yl53), (.int .i64 yi54), (.int .i64 yi55)])) j xl35 xl36 xl37 xl38 xl39 xi40 xi41 xl42 xi43 xi44 xi45 xi46 xi47 xi48 xi49 xs50
  | _ => none
def rd8_0 {R : Type} (G : ORC R) (k : Nat) (K : Ex → St → Option R) (j : Nat) (vs : List V) : Option R := match vs with
  | [(.sl 7 xl3), (.sl 6 xl4), (.sl 1 xl5), (.sl 6 xl6), (.int .i64 xi7), (.int .i64 xi8)] => l8_0g G k (fun yl56 => K .normal (P8_0x.inst [(.sl 1 yl56)])) j xl3 xl4 xl5 xl6 xi7 xi8
  | _ => none
def L8 {R : Type} (G : ORC R) (k : Nat) : Nat → St → (Ex → St → Option R) → Option R
  | 2, S, K => P8_2h.mat S fun vs => rd8_2 G k K k vs
  | 0, S, K => P8_0h.mat S fun vs => rd8_0 G k K k vs
  | _, _, _ => none
def f8 {R : Type} (G : ORC R) (k : Nat) (al1 : List V) (al2 : List V) (K : List V → Option R) : Option R :=
  (l8_0 G k al1 al2 [] al2 ((List.length al2 : Nat) : Int) (0 : Int) (fun yl48 => (K [(.sl 1 yl48)])))
noncomputable def D8_2 : LoopD := { id := 2, body := loopAt 2 (bodyOf Try.f8), head := P8_2h, out := P8_2x, ret := default }
theorem l8_2_is {R : Type} (G : ORC R) (k : Nat) (X : List V → Option R) (K : Ex → St → Option R) (xl35 : List V) (xl36 : List V) (xl37 : List V) (xl38 : List V) (xl39 : List V) (xi40 : Int) (xi41 : Int) (xl42 : List V) (xi43 : Int) (xi44 : Int) (xi45 : Int) (xi46 : Int) (xi47 : Int) (xi48 : Int) (xi49 : Int) (xs50 : ByteArray) :
    roundOf (TAB.env 8) G (L8 G k) D8_2 X K [(.sl 7 xl35), (.sl 6 xl36), (.sl 1 xl37), (.sl 1 xl38), (.sl 6 xl39), (.int .i64 xi40), (.int .i64 xi41), (.sl 6 xl42), (.int .i64 xi43), (.int .i64 xi44), (.int .i64 xi45), (.int .i64 xi46), (.int .i64 xi47), (.int .i64 xi48), (.int .i64 xi49), (.str xs50)] = b8_2 G k (fun xl35 xl36 xl37 xl38 xl39 xi40 xi41 xl42 xi43 xi44 xi45 xi46 xi47 xi48 xi49 xs50 => X [(.sl 7 xl35), (.sl 6 xl36), (.sl 1 xl37), (.sl 1 xl38), (.sl 6 xl39), (.int .i64 xi40), (.int .i64 xi41), (.sl 6 xl42), (.int .i64 xi43), (.int .i64 xi44), (.int .i64 xi45), (.int .i64 xi46), (.int .i64 xi47), (.int .i64 xi48), (.int .i64 xi49), (.str xs50)]) (fun yl49 yl50 yl51 yl52 yl53 yi54 yi55 => K .normal (P8_2x.inst [(.sl 7 yl49), (.sl 6 yl50), (.sl 1 yl51), (.sl 1 yl52), (.sl 6 yl53), (.int .i64 yi54), (.int .i64 yi55)])) xl35 xl36 xl37 xl38 xl39 xi40 xi41 xl42 xi43 xi44 xi45 xi46 xi47 xi48 xi49 xs50 := by kernel_rfl
noncomputable def D8_0 : LoopD := { id := 0, body := loopAt 0 (bodyOf Try.f8), head := P8_0h, out := P8_0x, ret := default }
theorem l8_0_is {R : Type} (G : ORC R) (k : Nat) (X : List V → Option R) (K : Ex → St → Option R) (xl3 : List V) (xl4 : List V) (xl5 : List V) (xl6 : List V) (xi7 : Int) (xi8 : Int) :
    roundOf (TAB.env 8) G (L8 G k) D8_0 X K [(.sl 7 xl3), (.sl 6 xl4), (.sl 1 xl5), (.sl 6 xl6), (.int .i64 xi7), (.int .i64 xi8)] = b8_0 G k (fun xl3 xl4 xl5 xl6 xi7 xi8 => X [(.sl 7 xl3), (.sl 6 xl4), (.sl 1 xl5), (.sl 6 xl6), (.int .i64 xi7), (.int .i64 xi8)]) (fun yl56 => K .normal (P8_0x.inst [(.sl 1 yl56)])) xl3 xl4 xl5 xl6 xi7 xi8 := by kernel_rfl
theorem f8_is {R : Type} (G : ORC R) (k : Nat) (K : List V → Option R) (al1 : List V) (al2 : List V) :
    callF (TAB.env 8) G (L8 G k) Try.f8 S8 [(.sl 7 al1), (.sl 6 al2)] K = f8 G k al1 al2 K := by kernel_rfl
theorem li8_2 {R : Type} (G : ORC R) (k : Nat) : LoopIs (TAB.env 8) G (L8 G k) 2 (loopAt 2 (bodyOf Try.f8)) :=
  ⟨D8_2, fun j vs K => rd8_2 G k K j vs, k, rfl, rfl, by kernel_rfl, by kernel_rfl, by kernel_rfl, (fun vs K => by unfold rd8_2; dsimp only; split <;> rfl),
    (fun j vs K r h => by
      unfold rd8_2 at h
      dsimp only at h
      split at h
      · rw [l8_2_is]; exact h
      · cases h), (fun S K r h => h)⟩
theorem li8_0 {R : Type} (G : ORC R) (k : Nat) : LoopIs (TAB.env 8) G (L8 G k) 0 (loopAt 0 (bodyOf Try.f8)) :=
  ⟨D8_0, fun j vs K => rd8_0 G k K j vs, k, rfl, rfl, by kernel_rfl, by kernel_rfl, by kernel_rfl, (fun vs K => by unfold rd8_0; dsimp only; split <;> rfl),
    (fun j vs K r h => by
      unfold rd8_0 at h
      dsimp only at h
      split at h
      · rw [l8_0_is]; exact h
      · cases h), (fun S K r h => h)⟩
theorem lo8 : loopsOf (bodyOf Try.f8) = [(0, loopAt 0 (bodyOf Try.f8)), (2, loopAt 2 (bodyOf Try.f8))] := by kernel_rfl
theorem la8 {R : Type} (G : ORC R) (k : Nat) : LoopsAre (TAB.env 8) G (L8 G k) (bodyOf Try.f8) :=
  loopsAre_of (by rw [lo8]; intro p hp; simp only [List.mem_cons, List.not_mem_nil, or_false] at hp; rcases hp with rfl | rfl <;> first | exact li8_0 G k | exact li8_2 G k)
def g8 {R : Type} (G : ORC R) (k : Nat) (args : List V) (K : List V → Option R) : Option R := match args with
  | [(.sl 7 al1), (.sl 6 al2)] => f8 G k al1 al2 K
  | _ => none
theorem s8 {R : Type} {G : ORC R} {k : Nat} (hG : Sound Try.prog TAB G) (args : List V) (K : List V → Option R) (r : R) (h : g8 G k args K = some r) : ∃ o, CallOK Try.prog TAB.env 8 args o ∧ K o = some r := by
  unfold g8 at h
  split at h
  · rw [← f8_is] at h
    exact callF_sound TAB_chk MO hG Try.func8 (sg := S8) (by kernel_rfl) (by kernel_rfl) (la8 G k) h
  · cases h

end Go.Proofs.Ytjbppcgcblfkoaa.Vm
