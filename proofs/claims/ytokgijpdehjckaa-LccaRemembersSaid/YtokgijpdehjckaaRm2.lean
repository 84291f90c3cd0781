/- Functions of the program, told by the machine of values, and what they answer: a part. -/
import Derived.Test.YtokgijpdehjckaaRm1
import Derived.Test.YtokgijpdehjckaaRmV5
import Derived.Test.YtokgijpdehjckaaRmV4
open Go Go.VM
set_option linter.unusedVariables false
set_option maxRecDepth 100000
set_option maxHeartbeats 4000000
namespace Go.Proofs.Ytokgijpdehjckaa.Vm
def L15 {R : Type} (_ : ORC R) (_ : Nat) : Nat → St → (Ex → St → Option R) → Option R := fun _ _ _ => none
def f15 {R : Type} (G : ORC R) (k : Nat) (al1 : List V) (K : List V → Option R) : Option R :=
  (bif (((decide (0 ≤ (al1.length : Int))) && (decide ((al1.length : Int) ≤ (al1.length : Int)))) && (decide ((al1.length : Int) ≤ 1073741824))) then (G 32 [.int .i64 0, .sl 7 al1, .sl 1 [], .sl 1 (List.replicate (Int.toNat (al1.length : Int)) (.bool false)), .int .i64 65536] fun o2 => uL 1 o2 fun l4 r3 => uI .i64 r3 fun n6 r5 => unNil r5 (G 35 [.sl 7 al1, .sl 1 [], .sl 1 l4, .int .i64 n6] fun o7 => uL 1 o7 fun l9 r8 => uL 1 r8 fun l11 r10 => uI .i64 r10 fun n13 r12 => unNil r12 (K [.sl 1 l9]))) else none)
theorem f15_is {R : Type} (G : ORC R) (k : Nat) (K : List V → Option R) (al1 : List V) :
    callF (TAB.env 15) G (L15 G k) Try.f15 S15 [.sl 7 al1] K = f15 G k al1 K := by kernel_rfl
theorem lo15 : loopsOf (bodyOf Try.f15) = [] := by kernel_rfl
theorem la15 {R : Type} (G : ORC R) (k : Nat) : LoopsAre (TAB.env 15) G (L15 G k) (bodyOf Try.f15) :=
  loopsAre_of (by rw [lo15]; intro p hp; cases hp)
def g15 {R : Type} (G : ORC R) (k : Nat) (args : List V) (K : List V → Option R) : Option R := match args with
  | [.sl 7 al1] => f15 G k al1 K
  | _ => none
theorem s15 {R : Type} {G : ORC R} {k : Nat} (hG : Sound Try.prog TAB G) (args : List V) (K : List V → Option R) (r : R) (h : g15 G k args K = some r) : ∃ o, CallOK Try.prog TAB.env 15 args o ∧ K o = some r := by
  unfold g15 at h
  split at h
  · rw [← f15_is] at h
    exact callF_sound (f := 15) TAB_chk MO hG Try.func15 (sg := S15) (by kernel_rfl) (by kernel_rfl) (la15 G k) h
  · cases h
def P18_2h : Pat := { tmps := unds [.var (.sl 7) .ro, .var (.sl 1) .ro, .var (.sl 1) .ro, .undef, .undef, .undef, .undef, .var (.sl 1) (.own true), .var (.int .i64) .pr, .var .bool .pr, .var (.int .i64) .pr] 46 [], boxes := nons [] 57 [] }
def P18_2x : Pat := { tmps := unds [.var (.sl 7) .ro, .var (.sl 1) .ro, .var (.sl 1) .ro, .undef, .undef, .undef, .undef, .var (.sl 1) (.own true), .var (.int .i64) .pr, .var .bool .pr] 47 [], boxes := nons [] 57 [] }
def b18_2 {R : Type} (G : ORC R) (k : Nat) (X : List V → List V → List V → List V → Int → Bool → Int → Option R) (Ko : List V → List V → List V → List V → Int → Bool → Option R) (xl9 xl10 : List V) (xl11 xl12 : List V) (xi13 : Int) (xb14 : Bool) (xi15 : Int) : Option R :=
  (bif (decide (xi15 < (xl11.length : Int))) then (bif xb14 then (X xl9 xl10 xl11 xl12 xi13 true (IntKind.i64.wrap (xi15 + 1))) else (bif ((decide (0 ≤ xi13)) && (decide (xi13 < (xl10.length : Int)))) then (nthK xl10 (Int.toNat xi13) fun e16 => aI .i64 e16 fun n17 => bif ((decide (0 ≤ xi15)) && (decide (xi15 < (xl11.length : Int)))) then (nthK xl11 (Int.toNat xi15) fun e18 => aI .i64 e18 fun n19 => bif (n17 != n19) then (bif ((decide (0 ≤ xi13)) && (decide (xi13 < (xl10.length : Int)))) then (nthK xl10 (Int.toNat xi13) fun e20 => aI .i64 e20 fun n21 => bif ((decide (0 ≤ xi15)) && (decide (xi15 < (xl11.length : Int)))) then (nthK xl11 (Int.toNat xi15) fun e22 => aI .i64 e22 fun n23 => G 29 [.sl 7 xl9, .int .i64 n21, .int .i64 n23] fun o24 => uB o24 fun b26 r25 => unNil r25 (X xl9 xl10 xl11 xl12 xi13 b26 (IntKind.i64.wrap (xi15 + 1)))) else none) else none) else (X xl9 xl10 xl11 xl12 xi13 false (IntKind.i64.wrap (xi15 + 1)))) else none) else none)) else (Ko xl9 xl10 xl11 xl12 xi13 xb14))
def l18_2g {R : Type} (G : ORC R) (k : Nat) (Ko : List V → List V → List V → List V → Int → Bool → Option R) : Nat → List V → List V → List V → List V → Int → Bool → Int → Option R
  | 0 => fun _ _ _ _ _ _ _ => none
  | j + 1 => b18_2 G k (l18_2g G k Ko j) Ko
def l18_2 {R : Type} (G : ORC R) (k : Nat) (xl9 xl10 : List V) (xl11 xl12 : List V) (xi13 : Int) (xb14 : Bool) (xi15 : Int) (Ko : List V → List V → List V → List V → Int → Bool → Option R) : Option R := l18_2g G k Ko k xl9 xl10 xl11 xl12 xi13 xb14 xi15
def P18_0h : Pat := { tmps := unds [.var (.sl 7) .ro, .var (.sl 1) .ro, .var (.sl 1) .ro, .undef, .undef, .undef, .undef, .var (.sl 1) (.own true), .var (.int .i64) .pr] 48 [], boxes := nons [] 57 [] }
def P18_0x : Pat := { tmps := unds [] 7 (unds [.var (.sl 1) (.own true)] 49 []), boxes := nons [] 57 [] }
def b18_0 {R : Type} (G : ORC R) (k : Nat) (X : List V → List V → List V → List V → Int → Option R) (Ko : List V → Option R) (xl4 xl5 : List V) (xl6 xl7 : List V) (xi8 : Int) : Option R :=
  (bif (decide (xi8 ≥ 0)) then (l18_2 G k xl4 xl5 xl6 xl7 xi8 false 0 (fun yl9 yl10 yl11 yl12 yi13 yb14 => bif yb14 then (bif ((decide (0 ≤ yi13)) && (decide (yi13 < (yl10.length : Int)))) then (nthK yl10 (Int.toNat yi13) fun e15 => aI .i64 e15 fun n16 => bif (decide (List.length yl12 + 1 ≤ 1073741824)) then (X yl9 yl10 yl11 (yl12 ++ [.int .i64 n16]) (IntKind.i64.wrap (yi13 - 1))) else none) else none) else (X yl9 yl10 yl11 yl12 (IntKind.i64.wrap (yi13 - 1))))) else (Ko xl7))
def l18_0g {R : Type} (G : ORC R) (k : Nat) (Ko : List V → Option R) : Nat → List V → List V → List V → List V → Int → Option R
  | 0 => fun _ _ _ _ _ => none
  | j + 1 => b18_0 G k (l18_0g G k Ko j) Ko
def l18_0 {R : Type} (G : ORC R) (k : Nat) (xl4 xl5 : List V) (xl6 xl7 : List V) (xi8 : Int) (Ko : List V → Option R) : Option R := l18_0g G k Ko k xl4 xl5 xl6 xl7 xi8
def rd18_2 {R : Type} (G : ORC R) (k : Nat) (K : Ex → St → Option R) (j : Nat) (vs : List V) : Option R := match vs with
  | [.sl 7 xl9, .sl 1 xl10, .sl 1 xl11, .sl 1 xl12, .int .i64 xi13, .bool xb14, .int .i64 xi15] => l18_2g G k (fun yl18 yl19 yl20 yl21 yi22 yb23 => K .normal (P18_2x.inst [.sl 7 yl18, .sl 1 yl19, .sl 1 yl20, .sl 1 yl21, .int .i64 yi22, .bool yb23])) j xl9 xl10 xl11 xl12 xi13 xb14 xi15
  | _ => none
def rd18_0 {R : Type} (G : ORC R) (k : Nat) (K : Ex → St → Option R) (j : Nat) (vs : List V) : Option R := match vs with
  | [.sl 7 xl4, .sl 1 xl5, .sl 1 xl6, .sl 1 xl7, .int .i64 xi8] => l18_0g G k (fun yl24 => K .normal (P18_0x.inst [.sl 1 yl24])) j xl4 xl5 xl6 xl7 xi8
  | _ => none
def L18 {R : Type} (G : ORC R) (k : Nat) : Nat → St → (Ex → St → Option R) → Option R
  | 2, S, K => P18_2h.mat S fun vs => rd18_2 G k K k vs
  | 0, S, K => P18_0h.mat S fun vs => rd18_0 G k K k vs
  | _, _, _ => none
def f18 {R : Type} (G : ORC R) (k : Nat) (al1 al2 al3 : List V) (K : List V → Option R) : Option R :=
  (l18_0 G k al1 al2 al3 [] (IntKind.i64.wrap ((al2.length : Int) - 1)) (fun yl17 => K [.sl 1 yl17]))
noncomputable def D18_2 : LoopD := { id := 2, body := loopAt 2 (bodyOf Try.f18), head := P18_2h, out := P18_2x, ret := default }
theorem l18_2_is {R : Type} (G : ORC R) (k : Nat) (X : List V → Option R) (K : Ex → St → Option R) (xl9 xl10 : List V) (xl11 xl12 : List V) (xi13 : Int) (xb14 : Bool) (xi15 : Int) :
    roundOf (TAB.env 18) G (L18 G k) D18_2 X K [.sl 7 xl9, .sl 1 xl10, .sl 1 xl11, .sl 1 xl12, .int .i64 xi13, .bool xb14, .int .i64 xi15] = b18_2 G k (fun xl9 xl10 xl11 xl12 xi13 xb14 xi15 => X [.sl 7 xl9, .sl 1 xl10, .sl 1 xl11, .sl 1 xl12, .int .i64 xi13, .bool xb14, .int .i64 xi15]) (fun yl18 yl19 yl20 yl21 yi22 yb23 => K .normal (P18_2x.inst [.sl 7 yl18, .sl 1 yl19, .sl 1 yl20, .sl 1 yl21, .int .i64 yi22, .bool yb23])) xl9 xl10 xl11 xl12 xi13 xb14 xi15 := by kernel_rfl
noncomputable def D18_0 : LoopD := { id := 0, body := loopAt 0 (bodyOf Try.f18), head := P18_0h, out := P18_0x, ret := default }
theorem l18_0_is {R : Type} (G : ORC R) (k : Nat) (X : List V → Option R) (K : Ex → St → Option R) (xl4 xl5 : List V) (xl6 xl7 : List V) (xi8 : Int) :
    roundOf (TAB.env 18) G (L18 G k) D18_0 X K [.sl 7 xl4, .sl 1 xl5, .sl 1 xl6, .sl 1 xl7, .int .i64 xi8] = b18_0 G k (fun xl4 xl5 xl6 xl7 xi8 => X [.sl 7 xl4, .sl 1 xl5, .sl 1 xl6, .sl 1 xl7, .int .i64 xi8]) (fun yl24 => K .normal (P18_0x.inst [.sl 1 yl24])) xl4 xl5 xl6 xl7 xi8 := by kernel_rfl
theorem f18_is {R : Type} (G : ORC R) (k : Nat) (K : List V → Option R) (al1 al2 al3 : List V) :
    callF (TAB.env 18) G (L18 G k) Try.f18 S18 [.sl 7 al1, .sl 1 al2, .sl 1 al3] K = f18 G k al1 al2 al3 K := by kernel_rfl
theorem li18_2 {R : Type} (G : ORC R) (k : Nat) : LoopIs (TAB.env 18) G (L18 G k) 2 (loopAt 2 (bodyOf Try.f18)) :=
  ⟨D18_2, fun j vs K => rd18_2 G k K j vs, k, rfl, rfl, by kernel_rfl, by kernel_rfl, by kernel_rfl, (fun vs K => by unfold rd18_2; dsimp only; split <;> rfl),
    (fun j vs K r h => by
      unfold rd18_2 at h
      dsimp only at h
      split at h
      · rw [l18_2_is]; exact h
      · cases h), (fun S K r h => h)⟩
theorem li18_0 {R : Type} (G : ORC R) (k : Nat) : LoopIs (TAB.env 18) G (L18 G k) 0 (loopAt 0 (bodyOf Try.f18)) :=
  ⟨D18_0, fun j vs K => rd18_0 G k K j vs, k, rfl, rfl, by kernel_rfl, by kernel_rfl, by kernel_rfl, (fun vs K => by unfold rd18_0; dsimp only; split <;> rfl),
    (fun j vs K r h => by
      unfold rd18_0 at h
      dsimp only at h
      split at h
      · rw [l18_0_is]; exact h
      · cases h), (fun S K r h => h)⟩
theorem lo18 : loopsOf (bodyOf Try.f18) = [(0, loopAt 0 (bodyOf Try.f18)), (2, loopAt 2 (bodyOf Try.f18))] := by kernel_rfl
theorem la18 {R : Type} (G : ORC R) (k : Nat) : LoopsAre (TAB.env 18) G (L18 G k) (bodyOf Try.f18) :=
  loopsAre_of (by rw [lo18]; intro p hp; simp only [List.mem_cons, List.not_mem_nil, or_false] at hp; rcases hp with rfl | rfl <;> first | exact li18_0 G k | exact li18_2 G k)
def g18 {R : Type} (G : ORC R) (k : Nat) (args : List V) (K : List V → Option R) : Option R := match args with
  | [.sl 7 al1, .sl 1 al2, .sl 1 al3] => f18 G k al1 al2 al3 K
  | _ => none
theorem s18 {R : Type} {G : ORC R} {k : Nat} (hG : Sound Try.prog TAB G) (args : List V) (K : List V → Option R) (r : R) (h : g18 G k args K = some r) : ∃ o, CallOK Try.prog TAB.env 18 args o ∧ K o = some r := by
  unfold g18 at h
  split at h
  · rw [← f18_is] at h
    exact callF_sound (f := 18) TAB_chk MO hG Try.func18 (sg := S18) (by kernel_rfl) (by kernel_rfl) (la18 G k) h
  · cases h
def P19_0h : Pat := { tmps := unds [.var (.sl 1) .ro, .var (.sl 1) .ro, .undef, .undef, .undef, .var (.int .i64) .pr] 21 [], boxes := nons [] 27 [] }
def P19_0x : Pat := { tmps := unds [] 27 [], boxes := nons [] 27 [] }
def P19_0r : Pat := { tmps := unds [.undef, .undef, .undef, .undef, .var .bool .pr] 22 [], boxes := nons [] 27 [] }
def b19_0 {R : Type} (G : ORC R) (k : Nat) (X : List V → List V → Int → Option R) (Ko : Unit → Option R) (Kr : Bool → Option R) (xl3 xl4 : List V) (xi5 : Int) : Option R :=
  (bif (decide (xi5 < (xl3.length : Int))) then (bif ((decide (0 ≤ xi5)) && (decide (xi5 < (xl3.length : Int)))) then (nthK xl3 (Int.toNat xi5) fun e6 => V.asSl e6 fun z7 l8 => bif ((decide (0 ≤ xi5)) && (decide (xi5 < (xl4.length : Int)))) then (nthK xl4 (Int.toNat xi5) fun e9 => V.asSl e9 fun z10 l11 => G 12 [.sl z7 l8, .sl z10 l11] fun o12 => uB o12 fun b14 r13 => unNil r13 (bif (!b14) then (Kr false) else (X xl3 xl4 (IntKind.i64.wrap (xi5 + 1))))) else none) else none) else (Ko ()))
def l19_0g {R : Type} (G : ORC R) (k : Nat) (Ko : Unit → Option R) (Kr : Bool → Option R) : Nat → List V → List V → Int → Option R
  | 0 => fun _ _ _ => none
  | j + 1 => b19_0 G k (l19_0g G k Ko Kr j) Ko Kr
def l19_0 {R : Type} (G : ORC R) (k : Nat) (xl3 xl4 : List V) (xi5 : Int) (Ko : Unit → Option R) (Kr : Bool → Option R) : Option R := l19_0g G k Ko Kr k xl3 xl4 xi5
def rd19_0 {R : Type} (G : ORC R) (k : Nat) (K : Ex → St → Option R) (j : Nat) (vs : List V) : Option R := match vs with
  | [.sl 1 xl3, .sl 1 xl4, .int .i64 xi5] => l19_0g G k (fun _ => K .normal (P19_0x.inst [])) (fun yb16 => K .ret (P19_0r.inst [.bool yb16])) j xl3 xl4 xi5
  | _ => none
def L19 {R : Type} (G : ORC R) (k : Nat) : Nat → St → (Ex → St → Option R) → Option R
  | 0, S, K => P19_0h.mat S fun vs => rd19_0 G k K k vs
  | _, _, _ => none
def f19 {R : Type} (G : ORC R) (k : Nat) (al1 al2 : List V) (K : List V → Option R) : Option R :=
  (bif ((al1.length : Int) != (al2.length : Int)) then (K [.bool false]) else (l19_0 G k al1 al2 0 (fun (_ : Unit) => K [.bool true]) (fun yb15 => K [.bool yb15])))
noncomputable def D19_0 : LoopD := { id := 0, body := loopAt 0 (bodyOf Try.f19), head := P19_0h, out := P19_0x, ret := P19_0r }
theorem l19_0_is {R : Type} (G : ORC R) (k : Nat) (X : List V → Option R) (K : Ex → St → Option R) (xl3 xl4 : List V) (xi5 : Int) :
    roundOf (TAB.env 19) G (L19 G k) D19_0 X K [.sl 1 xl3, .sl 1 xl4, .int .i64 xi5] = b19_0 G k (fun xl3 xl4 xi5 => X [.sl 1 xl3, .sl 1 xl4, .int .i64 xi5]) (fun _ => K .normal (P19_0x.inst [])) (fun yb16 => K .ret (P19_0r.inst [.bool yb16])) xl3 xl4 xi5 := by kernel_rfl
theorem f19_is {R : Type} (G : ORC R) (k : Nat) (K : List V → Option R) (al1 al2 : List V) :
    callF (TAB.env 19) G (L19 G k) Try.f19 S19 [.sl 1 al1, .sl 1 al2] K = f19 G k al1 al2 K := by kernel_rfl
theorem li19_0 {R : Type} (G : ORC R) (k : Nat) : LoopIs (TAB.env 19) G (L19 G k) 0 (loopAt 0 (bodyOf Try.f19)) :=
  ⟨D19_0, fun j vs K => rd19_0 G k K j vs, k, rfl, rfl, by kernel_rfl, by kernel_rfl, by kernel_rfl, (fun vs K => by unfold rd19_0; dsimp only; split <;> rfl),
    (fun j vs K r h => by
      unfold rd19_0 at h
      dsimp only at h
      split at h
      · rw [l19_0_is]; exact h
      · cases h), (fun S K r h => h)⟩
theorem lo19 : loopsOf (bodyOf Try.f19) = [(0, loopAt 0 (bodyOf Try.f19))] := by kernel_rfl
theorem la19 {R : Type} (G : ORC R) (k : Nat) : LoopsAre (TAB.env 19) G (L19 G k) (bodyOf Try.f19) :=
  loopsAre_of (by rw [lo19]; intro p hp; simp only [List.mem_cons, List.not_mem_nil, or_false] at hp; subst hp; exact li19_0 G k)
def g19 {R : Type} (G : ORC R) (k : Nat) (args : List V) (K : List V → Option R) : Option R := match args with
  | [.sl 1 al1, .sl 1 al2] => f19 G k al1 al2 K
  | _ => none
theorem s19 {R : Type} {G : ORC R} {k : Nat} (hG : Sound Try.prog TAB G) (args : List V) (K : List V → Option R) (r : R) (h : g19 G k args K = some r) : ∃ o, CallOK Try.prog TAB.env 19 args o ∧ K o = some r := by
  unfold g19 at h
  split at h
  · rw [← f19_is] at h
    exact callF_sound (f := 19) TAB_chk MO hG Try.func19 (sg := S19) (by kernel_rfl) (by kernel_rfl) (la19 G k) h
  · cases h
def P20_3h : Pat := { tmps := unds [.var (.sl 7) .ro, .var (.sl 1) .ro, .var (.sl 1) .ro, .var (.sl 1) .ro] 5 (unds [.var (.sl 1) (.own true), .var (.int .i64) .pr, .stat (.one (.ptr 11 0) .pt)] 7 (unds [.var (.sl 7) .ro, .var (.int .i64) .pr, .var (.int .i64) .pr, .undef, .undef, .undef, .undef, .var (.sl 1) .ro, .var (.int .i64) .pr, .var (.int .i64) .pr] 83 [])), boxes := nons [] 11 (nons [some [.var (.int .i64) .pr false, .var (.int .i64) .pr false, .var (.int .i64) .pr false, .var (.int .i64) .pr false, .var (.int .i64) .pr false, .var (.int .i64) .pr false, .var .str .pr false]] 100 []) }
def P20_3x : Pat := { tmps := unds [.var (.sl 7) .ro, .var (.sl 1) .ro, .var (.sl 1) .ro, .var (.sl 1) .ro] 5 (unds [.var (.sl 1) (.own true)] 9 (unds [.var (.sl 7) .ro, .var (.int .i64) .pr, .var (.int .i64) .pr] 90 [])), boxes := nons [] 112 [] }
def b20_3 {R : Type} (G : ORC R) (k : Nat) (X : List V → List V → List V → List V → List V → Int → List V → Int → Int → List V → Int → Int → Int → Int → Int → Int → Int → Int → ByteArray → Option R) (Ko : List V → List V → List V → List V → List V → List V → Int → Int → Option R) (xl50 xl51 : List V) (xl52 xl53 xl54 : List V) (xi55 : Int) (xl56 : List V) (xi57 xi58 : Int) (xl59 : List V) (xi60 xi61 : Int) (xi62 xi63 : Int) (xi64 xi65 : Int) (xi66 xi67 : Int) (xs68 : ByteArray) : Option R :=
  (bif (decide (xi61 < xi60)) then (bif ((decide (0 ≤ xi61)) && (decide (xi61 < (xl59.length : Int)))) then (nthK xl59 (Int.toNat xi61) fun e69 => aI .i64 e69 fun n70 => G 31 [.sl 7 xl50, .int .i64 n70] fun o71 => uB o71 fun b73 r72 => unNil r72 (bif b73 then (bif ((decide (0 ≤ n70)) && (decide (n70 < (xl50.length : Int)))) then (nthK xl50 (Int.toNat n70) fun e74 => ca7 e74 fun c75 c76 c77 c78 c79 c80 c81 => aI .i64 c76 fun n82 => G 31 [.sl 7 xl50, .int .i64 n70] fun o83 => uB o83 fun b85 r84 => unNil r84 (bif b85 then (bif ((decide (0 ≤ n70)) && (decide (n70 < (xl50.length : Int)))) then (nthK xl50 (Int.toNat n70) fun e86 => ca7 e86 fun c87 c88 c89 c90 c91 c92 c93 => aI .i64 c87 fun n94 => bif (n94 == 1) then (G 46 [.sl 7 xl50, .int .i64 n70, .int .i64 xi63] fun o95 => uB o95 fun b97 r96 => unNil r96 (bif (xi62 == 4) then (bif (n82 == xi63) then (bif ((decide (0 ≤ xi55)) && (decide (xi55 < (xl54.length : Int)))) then (nthK xl54 (Int.toNat xi55) fun e98 => V.asSl e98 fun z99 l100 => bif (z99 == 1) then (bif (decide (List.length l100 + 1 ≤ 1073741824)) then (bif ((decide (0 ≤ xi55)) && (decide (xi55 < ((List.length (List.set xl54 (Int.toNat xi55) .undef) : Nat) : Int)))) then (nthK (List.set xl54 (Int.toNat xi55) .undef) (Int.toNat xi55) fun e101 => X xl50 xl51 xl52 xl53 (List.set (List.set xl54 (Int.toNat xi55) .undef) (Int.toNat xi55) (.sl 1 (l100 ++ [.int .i64 n70]))) xi55 xl56 xi57 xi58 xl59 xi60 (IntKind.i64.wrap (xi61 + 1)) xi62 xi63 xi64 xi65 xi66 xi67 xs68) else none) else none) else none) else none) else (bif (xi62 == 5) then (bif b97 then (bif ((decide (0 ≤ xi55)) && (decide (xi55 < (xl54.length : Int)))) then (nthK xl54 (Int.toNat xi55) fun e102 => V.asSl e102 fun z103 l104 => bif (z103 == 1) then (bif (decide (List.length l104 + 1 ≤ 1073741824)) then (bif ((decide (0 ≤ xi55)) && (decide (xi55 < ((List.length (List.set xl54 (Int.toNat xi55) .undef) : Nat) : Int)))) then (nthK (List.set xl54 (Int.toNat xi55) .undef) (Int.toNat xi55) fun e105 => X xl50 xl51 xl52 xl53 (List.set (List.set xl54 (Int.toNat xi55) .undef) (Int.toNat xi55) (.sl 1 (l104 ++ [.int .i64 n70]))) xi55 xl56 xi57 xi58 xl59 xi60 (IntKind.i64.wrap (xi61 + 1)) xi62 xi63 xi64 xi65 xi66 xi67 xs68) else none) else none) else none) else none) else (X xl50 xl51 xl52 xl53 xl54 xi55 xl56 xi57 xi58 xl59 xi60 (IntKind.i64.wrap (xi61 + 1)) xi62 xi63 xi64 xi65 xi66 xi67 xs68)) else (X xl50 xl51 xl52 xl53 xl54 xi55 xl56 xi57 xi58 xl59 xi60 (IntKind.i64.wrap (xi61 + 1)) xi62 xi63 xi64 xi65 xi66 xi67 xs68))) else (bif (xi62 == 5) then (bif b97 then (bif ((decide (0 ≤ xi55)) && (decide (xi55 < (xl54.length : Int)))) then (nthK xl54 (Int.toNat xi55) fun e106 => V.asSl e106 fun z107 l108 => bif (z107 == 1) then (bif (decide (List.length l108 + 1 ≤ 1073741824)) then (bif ((decide (0 ≤ xi55)) && (decide (xi55 < ((List.length (List.set xl54 (Int.toNat xi55) .undef) : Nat) : Int)))) then (nthK (List.set xl54 (Int.toNat xi55) .undef) (Int.toNat xi55) fun e109 => X xl50 xl51 xl52 xl53 (List.set (List.set xl54 (Int.toNat xi55) .undef) (Int.toNat xi55) (.sl 1 (l108 ++ [.int .i64 n70]))) xi55 xl56 xi57 xi58 xl59 xi60 (IntKind.i64.wrap (xi61 + 1)) xi62 xi63 xi64 xi65 xi66 xi67 xs68) else none) else none) else none) else none) else (X xl50 xl51 xl52 xl53 xl54 xi55 xl56 xi57 xi58 xl59 xi60 (IntKind.i64.wrap (xi61 + 1)) xi62 xi63 xi64 xi65 xi66 xi67 xs68)) else (X xl50 xl51 xl52 xl53 xl54 xi55 xl56 xi57 xi58 xl59 xi60 (IntKind.i64.wrap (xi61 + 1)) xi62 xi63 xi64 xi65 xi66 xi67 xs68)))) else (bif (xi62 == 4) then (bif (n82 == xi63) then (bif ((decide (0 ≤ xi55)) && (decide (xi55 < (xl54.length : Int)))) then (nthK xl54 (Int.toNat xi55) fun e110 => V.asSl e110 fun z111 l112 => bif (z111 == 1) then (bif (decide (List.length l112 + 1 ≤ 1073741824)) then (bif ((decide (0 ≤ xi55)) && (decide (xi55 < ((List.length (List.set xl54 (Int.toNat xi55) .undef) : Nat) : Int)))) then (nthK (List.set xl54 (Int.toNat xi55) .undef) (Int.toNat xi55) fun e113 => X xl50 xl51 xl52 xl53 (List.set (List.set xl54 (Int.toNat xi55) .undef) (Int.toNat xi55) (.sl 1 (l112 ++ [.int .i64 n70]))) xi55 xl56 xi57 xi58 xl59 xi60 (IntKind.i64.wrap (xi61 + 1)) xi62 xi63 xi64 xi65 xi66 xi67 xs68) else none) else none) else none) else none) else (bif (xi62 == 5) then (X xl50 xl51 xl52 xl53 xl54 xi55 xl56 xi57 xi58 xl59 xi60 (IntKind.i64.wrap (xi61 + 1)) xi62 xi63 xi64 xi65 xi66 xi67 xs68) else (X xl50 xl51 xl52 xl53 xl54 xi55 xl56 xi57 xi58 xl59 xi60 (IntKind.i64.wrap (xi61 + 1)) xi62 xi63 xi64 xi65 xi66 xi67 xs68))) else (bif (xi62 == 5) then (X xl50 xl51 xl52 xl53 xl54 xi55 xl56 xi57 xi58 xl59 xi60 (IntKind.i64.wrap (xi61 + 1)) xi62 xi63 xi64 xi65 xi66 xi67 xs68) else (X xl50 xl51 xl52 xl53 xl54 xi55 xl56 xi57 xi58 xl59 xi60 (IntKind.i64.wrap (xi61 + 1)) xi62 xi63 xi64 xi65 xi66 xi67 xs68)))) else none) else (bif (xi62 == 4) then (bif (n82 == xi63) then (bif ((decide (0 ≤ xi55)) && (decide (xi55 < (xl54.length : Int)))) then (nthK xl54 (Int.toNat xi55) fun e114 => V.asSl e114 fun z115 l116 => bif (z115 == 1) then (bif (decide (List.length l116 + 1 ≤ 1073741824)) then (bif ((decide (0 ≤ xi55)) && (decide (xi55 < ((List.length (List.set xl54 (Int.toNat xi55) .undef) : Nat) : Int)))) then (nthK (List.set xl54 (Int.toNat xi55) .undef) (Int.toNat xi55) fun e117 => X xl50 xl51 xl52 xl53 (List.set (List.set xl54 (Int.toNat xi55) .undef) (Int.toNat xi55) (.sl 1 (l116 ++ [.int .i64 n70]))) xi55 xl56 xi57 xi58 xl59 xi60 (IntKind.i64.wrap (xi61 + 1)) xi62 xi63 xi64 xi65 xi66 xi67 xs68) else none) else none) else none) else none) else (bif (xi62 == 5) then (X xl50 xl51 xl52 xl53 xl54 xi55 xl56 xi57 xi58 xl59 xi60 (IntKind.i64.wrap (xi61 + 1)) xi62 xi63 xi64 xi65 xi66 xi67 xs68) else (X xl50 xl51 xl52 xl53 xl54 xi55 xl56 xi57 xi58 xl59 xi60 (IntKind.i64.wrap (xi61 + 1)) xi62 xi63 xi64 xi65 xi66 xi67 xs68))) else (bif (xi62 == 5) then (X xl50 xl51 xl52 xl53 xl54 xi55 xl56 xi57 xi58 xl59 xi60 (IntKind.i64.wrap (xi61 + 1)) xi62 xi63 xi64 xi65 xi66 xi67 xs68) else (X xl50 xl51 xl52 xl53 xl54 xi55 xl56 xi57 xi58 xl59 xi60 (IntKind.i64.wrap (xi61 + 1)) xi62 xi63 xi64 xi65 xi66 xi67 xs68))))) else none) else (G 31 [.sl 7 xl50, .int .i64 n70] fun o118 => uB o118 fun b120 r119 => unNil r119 (bif b120 then (bif ((decide (0 ≤ n70)) && (decide (n70 < (xl50.length : Int)))) then (nthK xl50 (Int.toNat n70) fun e121 => ca7 e121 fun c122 c123 c124 c125 c126 c127 c128 => aI .i64 c122 fun n129 => bif (n129 == 1) then (G 46 [.sl 7 xl50, .int .i64 n70, .int .i64 xi63] fun o130 => uB o130 fun b132 r131 => unNil r131 (bif (xi62 == 4) then (bif (xi62 == 5) then (bif b132 then (bif ((decide (0 ≤ xi55)) && (decide (xi55 < (xl54.length : Int)))) then (nthK xl54 (Int.toNat xi55) fun e133 => V.asSl e133 fun z134 l135 => bif (z134 == 1) then (bif (decide (List.length l135 + 1 ≤ 1073741824)) then (bif ((decide (0 ≤ xi55)) && (decide (xi55 < ((List.length (List.set xl54 (Int.toNat xi55) .undef) : Nat) : Int)))) then (nthK (List.set xl54 (Int.toNat xi55) .undef) (Int.toNat xi55) fun e136 => X xl50 xl51 xl52 xl53 (List.set (List.set xl54 (Int.toNat xi55) .undef) (Int.toNat xi55) (.sl 1 (l135 ++ [.int .i64 n70]))) xi55 xl56 xi57 xi58 xl59 xi60 (IntKind.i64.wrap (xi61 + 1)) xi62 xi63 xi64 xi65 xi66 xi67 xs68) else none) else none) else none) else none) else (X xl50 xl51 xl52 xl53 xl54 xi55 xl56 xi57 xi58 xl59 xi60 (IntKind.i64.wrap (xi61 + 1)) xi62 xi63 xi64 xi65 xi66 xi67 xs68)) else (X xl50 xl51 xl52 xl53 xl54 xi55 xl56 xi57 xi58 xl59 xi60 (IntKind.i64.wrap (xi61 + 1)) xi62 xi63 xi64 xi65 xi66 xi67 xs68)) else (bif (xi62 == 5) then (bif b132 then (bif ((decide (0 ≤ xi55)) && (decide (xi55 < (xl54.length : Int)))) then (nthK xl54 (Int.toNat xi55) fun e137 => V.asSl e137 fun z138 l139 => bif (z138 == 1) then (bif (decide (List.length l139 + 1 ≤ 1073741824)) then (bif ((decide (0 ≤ xi55)) && (decide (xi55 < ((List.length (List.set xl54 (Int.toNat xi55) .undef) : Nat) : Int)))) then (nthK (List.set xl54 (Int.toNat xi55) .undef) (Int.toNat xi55) fun e140 => X xl50 xl51 xl52 xl53 (List.set (List.set xl54 (Int.toNat xi55) .undef) (Int.toNat xi55) (.sl 1 (l139 ++ [.int .i64 n70]))) xi55 xl56 xi57 xi58 xl59 xi60 (IntKind.i64.wrap (xi61 + 1)) xi62 xi63 xi64 xi65 xi66 xi67 xs68) else none) else none) else none) else none) else (X xl50 xl51 xl52 xl53 xl54 xi55 xl56 xi57 xi58 xl59 xi60 (IntKind.i64.wrap (xi61 + 1)) xi62 xi63 xi64 xi65 xi66 xi67 xs68)) else (X xl50 xl51 xl52 xl53 xl54 xi55 xl56 xi57 xi58 xl59 xi60 (IntKind.i64.wrap (xi61 + 1)) xi62 xi63 xi64 xi65 xi66 xi67 xs68)))) else (bif (xi62 == 4) then (bif (xi62 == 5) then (X xl50 xl51 xl52 xl53 xl54 xi55 xl56 xi57 xi58 xl59 xi60 (IntKind.i64.wrap (xi61 + 1)) xi62 xi63 xi64 xi65 xi66 xi67 xs68) else (X xl50 xl51 xl52 xl53 xl54 xi55 xl56 xi57 xi58 xl59 xi60 (IntKind.i64.wrap (xi61 + 1)) xi62 xi63 xi64 xi65 xi66 xi67 xs68)) else (bif (xi62 == 5) then (X xl50 xl51 xl52 xl53 xl54 xi55 xl56 xi57 xi58 xl59 xi60 (IntKind.i64.wrap (xi61 + 1)) xi62 xi63 xi64 xi65 xi66 xi67 xs68) else (X xl50 xl51 xl52 xl53 xl54 xi55 xl56 xi57 xi58 xl59 xi60 (IntKind.i64.wrap (xi61 + 1)) xi62 xi63 xi64 xi65 xi66 xi67 xs68)))) else none) else (bif (xi62 == 4) then (bif (xi62 == 5) then (X xl50 xl51 xl52 xl53 xl54 xi55 xl56 xi57 xi58 xl59 xi60 (IntKind.i64.wrap (xi61 + 1)) xi62 xi63 xi64 xi65 xi66 xi67 xs68) else (X xl50 xl51 xl52 xl53 xl54 xi55 xl56 xi57 xi58 xl59 xi60 (IntKind.i64.wrap (xi61 + 1)) xi62 xi63 xi64 xi65 xi66 xi67 xs68)) else (bif (xi62 == 5) then (X xl50 xl51 xl52 xl53 xl54 xi55 xl56 xi57 xi58 xl59 xi60 (IntKind.i64.wrap (xi61 + 1)) xi62 xi63 xi64 xi65 xi66 xi67 xs68) else (X xl50 xl51 xl52 xl53 xl54 xi55 xl56 xi57 xi58 xl59 xi60 (IntKind.i64.wrap (xi61 + 1)) xi62 xi63 xi64 xi65 xi66 xi67 xs68))))))) else none) else (Ko xl50 xl51 xl52 xl53 xl54 xl56 xi57 xi58))
def l20_3g {R : Type} (G : ORC R) (k : Nat) (Ko : List V → List V → List V → List V → List V → List V → Int → Int → Option R) : Nat → List V → List V → List V → List V → List V → Int → List V → Int → Int → List V → Int → Int → Int → Int → Int → Int → Int → Int → ByteArray → Option R
  | 0 => fun _ _ _ _ _ _ _ _ _ _ _ _ _ _ _ _ _ _ _ => none
  | j + 1 => b20_3 G k (l20_3g G k Ko j) Ko
def l20_3 {R : Type} (G : ORC R) (k : Nat) (xl50 xl51 : List V) (xl52 xl53 xl54 : List V) (xi55 : Int) (xl56 : List V) (xi57 xi58 : Int) (xl59 : List V) (xi60 xi61 : Int) (xi62 xi63 : Int) (xi64 xi65 : Int) (xi66 xi67 : Int) (xs68 : ByteArray) (Ko : List V → List V → List V → List V → List V → List V → Int → Int → Option R) : Option R := l20_3g G k Ko k xl50 xl51 xl52 xl53 xl54 xi55 xl56 xi57 xi58 xl59 xi60 xi61 xi62 xi63 xi64 xi65 xi66 xi67 xs68
def P20_0h : Pat := { tmps := unds [.var (.sl 7) .ro, .var (.sl 1) .ro, .var (.sl 1) .ro, .var (.sl 1) .ro] 5 (unds [.var (.sl 1) (.own true)] 9 (unds [.var (.sl 7) .ro, .var (.int .i64) .pr, .var (.int .i64) .pr] 90 [])), boxes := nons [] 112 [] }
def P20_0x : Pat := { tmps := unds [] 9 (unds [.var (.sl 1) (.own true)] 102 []), boxes := nons [] 112 [] }
def b20_0 {R : Type} (G : ORC R) (k : Nat) (X : List V → List V → List V → List V → List V → List V → Int → Int → Option R) (Ko : List V → Option R) (xl5 xl6 : List V) (xl7 xl8 : List V) (xl9 xl10 : List V) (xi11 xi12 : Int) : Option R :=
  (bif (decide (xi12 < xi11)) then (bif ((decide (0 ≤ xi12)) && (decide (xi12 < (xl10.length : Int)))) then (nthK xl10 (Int.toNat xi12) fun e13 => V.asAgg e13 fun l14 => ce7 l14 fun c15 c16 c17 c18 c19 c20 c21 => aI .i64 c15 fun n30 => aI .i64 c16 fun n31 => aI .i64 c17 fun n32 => aI .i64 c18 fun n33 => aI .i64 c19 fun n34 => aI .i64 c20 fun n35 => V.asStr c21 fun s36 => G 43 [.agg [.int .i64 n30, .int .i64 n31, .int .i64 n32, .int .i64 n33, .int .i64 n34, .int .i64 n35, .str s36]] fun o37 => uB o37 fun b39 r38 => unNil r38 (bif (!b39) then (X xl5 xl6 xl7 xl8 xl9 xl10 xi11 (IntKind.i64.wrap (xi12 + 1))) else (G 44 [.sl 1 xl7, .int .i64 n31] fun o40 => uB o40 fun b42 r41 => unNil r41 (bif (!b42) then (bif (decide (xi12 < (xl8.length : Int))) then (bif ((decide (0 ≤ xi12)) && (decide (xi12 < (xl8.length : Int)))) then (nthK xl8 (Int.toNat xi12) fun e43 => V.asSl e43 fun z44 l45 => G 45 [.sl z44 l45] fun o46 => uL 1 o46 fun l48 r47 => unNil r47 (bif ((decide (0 ≤ xi12)) && (decide (xi12 < (xl9.length : Int)))) then (nthK xl9 (Int.toNat xi12) fun e49 => X xl5 xl6 xl7 xl8 (List.set xl9 (Int.toNat xi12) (.sl 1 l48)) xl10 xi11 (IntKind.i64.wrap (xi12 + 1))) else none)) else none) else (X xl5 xl6 xl7 xl8 xl9 xl10 xi11 (IntKind.i64.wrap (xi12 + 1)))) else (l20_3 G k xl5 xl6 xl7 xl8 xl9 xi12 xl10 xi11 xi12 xl6 (xl6.length : Int) 0 n30 n31 n32 n33 n34 n35 s36 (fun yl50 yl51 yl52 yl53 yl54 yl55 yi56 yi57 => X yl50 yl51 yl52 yl53 yl54 yl55 yi56 (IntKind.i64.wrap (yi57 + 1)))))))) else none) else (Ko xl9))
def l20_0g {R : Type} (G : ORC R) (k : Nat) (Ko : List V → Option R) : Nat → List V → List V → List V → List V → List V → List V → Int → Int → Option R
  | 0 => fun _ _ _ _ _ _ _ _ => none
  | j + 1 => b20_0 G k (l20_0g G k Ko j) Ko
def l20_0 {R : Type} (G : ORC R) (k : Nat) (xl5 xl6 : List V) (xl7 xl8 : List V) (xl9 xl10 : List V) (xi11 xi12 : Int) (Ko : List V → Option R) : Option R := l20_0g G k Ko k xl5 xl6 xl7 xl8 xl9 xl10 xi11 xi12
def rd20_3 {R : Type} (G : ORC R) (k : Nat) (K : Ex → St → Option R) (j : Nat) (vs : List V) : Option R := match vs with
  | [.sl 7 xl50, .sl 1 xl51, .sl 1 xl52, .sl 1 xl53, .sl 1 xl54, .int .i64 xi55, .sl 7 xl56, .int .i64 xi57, .int .i64 xi58, .sl 1 xl59, .int .i64 xi60, .int .i64 xi61, .int .i64 xi62, .int .i64 xi63, .int .i64 xi64, .int .i64 xi65, .int .i64 xi66, .int .i64 xi67, .str xs68] => l20_3g G k (fun yl59 yl60 yl61 yl62 yl63 yl64 yi65 yi66 => K .normal (P20_3x.inst [.sl 7 yl59, .sl 1 yl60, .sl 1 yl61, .sl 1 yl62, .sl 1 yl63, .sl 7 yl64, .int .i64 yi65, .int .i64 yi66])) j xl50 xl51 xl52 xl53 xl54 xi55 xl56 xi57 xi58 xl59 xi60 xi61 xi62 xi63 xi64 xi65 xi66 xi67 xs68
  | _ => none
def rd20_0 {R : Type} (G : ORC R) (k : Nat) (K : Ex → St → Option R) (j : Nat) (vs : List V) : Option R := match vs with
  | [.sl 7 xl5, .sl 1 xl6, .sl 1 xl7, .sl 1 xl8, .sl 1 xl9, .sl 7 xl10, .int .i64 xi11, .int .i64 xi12] => l20_0g G k (fun yl67 => K .normal (P20_0x.inst [.sl 1 yl67])) j xl5 xl6 xl7 xl8 xl9 xl10 xi11 xi12
  | _ => none
def L20 {R : Type} (G : ORC R) (k : Nat) : Nat → St → (Ex → St → Option R) → Option R
  | 3, S, K => P20_3h.mat S fun vs => rd20_3 G k K k vs
  | 0, S, K => P20_0h.mat S fun vs => rd20_0 G k K k vs
  | _, _, _ => none
def f20 {R : Type} (G : ORC R) (k : Nat) (al1 al2 : List V) (al3 al4 : List V) (K : List V → Option R) : Option R :=
  (bif (((decide (0 ≤ (al1.length : Int))) && (decide ((al1.length : Int) ≤ (al1.length : Int)))) && (decide ((al1.length : Int) ≤ 1073741824))) then (l20_0 G k al1 al2 al3 al4 (List.replicate (Int.toNat (al1.length : Int)) (.sl 1 [])) al1 (al1.length : Int) 0 (fun yl58 => K [.sl 1 yl58])) else none)
noncomputable def D20_3 : LoopD := { id := 3, body := loopAt 3 (bodyOf Try.f20), head := P20_3h, out := P20_3x, ret := default }
theorem l20_3_is {R : Type} (G : ORC R) (k : Nat) (X : List V → Option R) (K : Ex → St → Option R) (xl50 xl51 : List V) (xl52 xl53 xl54 : List V) (xi55 : Int) (xl56 : List V) (xi57 xi58 : Int) (xl59 : List V) (xi60 xi61 : Int) (xi62 xi63 : Int) (xi64 xi65 : Int) (xi66 xi67 : Int) (xs68 : ByteArray) :
    roundOf (TAB.env 20) G (L20 G k) D20_3 X K [.sl 7 xl50, .sl 1 xl51, .sl 1 xl52, .sl 1 xl53, .sl 1 xl54, .int .i64 xi55, .sl 7 xl56, .int .i64 xi57, .int .i64 xi58, .sl 1 xl59, .int .i64 xi60, .int .i64 xi61, .int .i64 xi62, .int .i64 xi63, .int .i64 xi64, .int .i64 xi65, .int .i64 xi66, .int .i64 xi67, .str xs68] = b20_3 G k (fun xl50 xl51 xl52 xl53 xl54 xi55 xl56 xi57 xi58 xl59 xi60 xi61 xi62 xi63 xi64 xi65 xi66 xi67 xs68 => X [.sl 7 xl50, .sl 1 xl51, .sl 1 xl52, .sl 1 xl53, .sl 1 xl54, .int .i64 xi55, .sl 7 xl56, .int .i64 xi57, .int .i64 xi58, .sl 1 xl59, .int .i64 xi60, .int .i64 xi61, .int .i64 xi62, .int .i64 xi63, .int .i64 xi64, .int .i64 xi65, .int .i64 xi66, .int .i64 xi67, .str xs68]) (fun yl59 yl60 yl61 yl62 yl63 yl64 yi65 yi66 => K .normal (P20_3x.inst [.sl 7 yl59, .sl 1 yl60, .sl 1 yl61, .sl 1 yl62, .sl 1 yl63, .sl 7 yl64, .int .i64 yi65, .int .i64 yi66])) xl50 xl51 xl52 xl53 xl54 xi55 xl56 xi57 xi58 xl59 xi60 xi61 xi62 xi63 xi64 xi65 xi66 xi67 xs68 := by kernel_rfl
noncomputable def D20_0 : LoopD := { id := 0, body := loopAt 0 (bodyOf Try.f20), head := P20_0h, out := P20_0x, ret := default }
theorem l20_0_is {R : Type} (G : ORC R) (k : Nat) (X : List V → Option R) (K : Ex → St → Option R) (xl5 xl6 : List V) (xl7 xl8 : List V) (xl9 xl10 : List V) (xi11 xi12 : Int) :
    roundOf (TAB.env 20) G (L20 G k) D20_0 X K [.sl 7 xl5, .sl 1 xl6, .sl 1 xl7, .sl 1 xl8, .sl 1 xl9, .sl 7 xl10, .int .i64 xi11, .int .i64 xi12] = b20_0 G k (fun xl5 xl6 xl7 xl8 xl9 xl10 xi11 xi12 => X [.sl 7 xl5, .sl 1 xl6, .sl 1 xl7, .sl 1 xl8, .sl 1 xl9, .sl 7 xl10, .int .i64 xi11, .int .i64 xi12]) (fun yl67 => K .normal (P20_0x.inst [.sl 1 yl67])) xl5 xl6 xl7 xl8 xl9 xl10 xi11 xi12 := by kernel_rfl
theorem f20_is {R : Type} (G : ORC R) (k : Nat) (K : List V → Option R) (al1 al2 : List V) (al3 al4 : List V) :
    callF (TAB.env 20) G (L20 G k) Try.f20 S20 [.sl 7 al1, .sl 1 al2, .sl 1 al3, .sl 1 al4] K = f20 G k al1 al2 al3 al4 K := by kernel_rfl
theorem li20_3 {R : Type} (G : ORC R) (k : Nat) : LoopIs (TAB.env 20) G (L20 G k) 3 (loopAt 3 (bodyOf Try.f20)) :=
  ⟨D20_3, fun j vs K => rd20_3 G k K j vs, k, rfl, rfl, by kernel_rfl, by kernel_rfl, by kernel_rfl, (fun vs K => by unfold rd20_3; dsimp only; split <;> rfl),
    (fun j vs K r h => by
      unfold rd20_3 at h
      dsimp only at h
      split at h
      · rw [l20_3_is]; exact h
      · cases h), (fun S K r h => h)⟩
theorem li20_0 {R : Type} (G : ORC R) (k : Nat) : LoopIs (TAB.env 20) G (L20 G k) 0 (loopAt 0 (bodyOf Try.f20)) :=
  ⟨D20_0, fun j vs K => rd20_0 G k K j vs, k, rfl, rfl, by kernel_rfl, by kernel_rfl, by kernel_rfl, (fun vs K => by unfold rd20_0; dsimp only; split <;> rfl),
    (fun j vs K r h => by
      unfold rd20_0 at h
      dsimp only at h
      split at h
      · rw [l20_0_is]; exact h
      · cases h), (fun S K r h => h)⟩
theorem lo20 : loopsOf (bodyOf Try.f20) = [(0, loopAt 0 (bodyOf Try.f20)), (3, loopAt 3 (bodyOf Try.f20))] := by kernel_rfl
theorem la20 {R : Type} (G : ORC R) (k : Nat) : LoopsAre (TAB.env 20) G (L20 G k) (bodyOf Try.f20) :=
  loopsAre_of (by rw [lo20]; intro p hp; simp only [List.mem_cons, List.not_mem_nil, or_false] at hp; rcases hp with rfl | rfl <;> first | exact li20_0 G k | exact li20_3 G k)
def g20 {R : Type} (G : ORC R) (k : Nat) (args : List V) (K : List V → Option R) : Option R := match args with
  | [.sl 7 al1, .sl 1 al2, .sl 1 al3, .sl 1 al4] => f20 G k al1 al2 al3 al4 K
  | _ => none
theorem s20 {R : Type} {G : ORC R} {k : Nat} (hG : Sound Try.prog TAB G) (args : List V) (K : List V → Option R) (r : R) (h : g20 G k args K = some r) : ∃ o, CallOK Try.prog TAB.env 20 args o ∧ K o = some r := by
  unfold g20 at h
  split at h
  · rw [← f20_is] at h
    exact callF_sound (f := 20) TAB_chk MO hG Try.func20 (sg := S20) (by kernel_rfl) (by kernel_rfl) (la20 G k) h
  · cases h
def P23_0h : Pat := { tmps := unds [.var (.sl 7) .ro, .var (.int .i64) .pr, .var (.int .i64) .pr, .undef, .undef, .undef, .undef, .var (.int .i64) .pr] 26 [], boxes := nons [] 34 [] }
def P23_0x : Pat := { tmps := unds [] 34 [], boxes := nons [] 34 [] }
def P23_0r : Pat := { tmps := unds [] 6 (unds [.var (.int .i64) .pr] 27 []), boxes := nons [] 34 [] }
def b23_0 {R : Type} (G : ORC R) (k : Nat) (X : List V → Int → Int → Int → Option R) (Ko : Unit → Option R) (Kr : Int → Option R) (xl4 : List V) (xi5 xi6 xi7 : Int) : Option R :=
  (bif (decide (xi7 ≥ 0)) then (bif ((decide (0 ≤ xi7)) && (decide (xi7 < (xl4.length : Int)))) then (nthK xl4 (Int.toNat xi7) fun e8 => ca7 e8 fun c9 c10 c11 c12 c13 c14 c15 => aI .i64 c9 fun n16 => bif (n16 == 2) then (G 46 [.sl 7 xl4, .int .i64 xi5, .int .i64 xi7] fun o17 => uB o17 fun b19 r18 => unNil r18 (bif b19 then (G 46 [.sl 7 xl4, .int .i64 xi6, .int .i64 xi7] fun o20 => uB o20 fun b22 r21 => unNil r21 (bif b22 then (Kr xi7) else (X xl4 xi5 xi6 (IntKind.i64.wrap (xi7 - 1))))) else (X xl4 xi5 xi6 (IntKind.i64.wrap (xi7 - 1))))) else (X xl4 xi5 xi6 (IntKind.i64.wrap (xi7 - 1)))) else none) else (Ko ()))
def l23_0g {R : Type} (G : ORC R) (k : Nat) (Ko : Unit → Option R) (Kr : Int → Option R) : Nat → List V → Int → Int → Int → Option R
  | 0 => fun _ _ _ _ => none
  | j + 1 => b23_0 G k (l23_0g G k Ko Kr j) Ko Kr
def l23_0 {R : Type} (G : ORC R) (k : Nat) (xl4 : List V) (xi5 xi6 xi7 : Int) (Ko : Unit → Option R) (Kr : Int → Option R) : Option R := l23_0g G k Ko Kr k xl4 xi5 xi6 xi7
def rd23_0 {R : Type} (G : ORC R) (k : Nat) (K : Ex → St → Option R) (j : Nat) (vs : List V) : Option R := match vs with
  | [.sl 7 xl4, .int .i64 xi5, .int .i64 xi6, .int .i64 xi7] => l23_0g G k (fun _ => K .normal (P23_0x.inst [])) (fun yi24 => K .ret (P23_0r.inst [.int .i64 yi24])) j xl4 xi5 xi6 xi7
  | _ => none
def L23 {R : Type} (G : ORC R) (k : Nat) : Nat → St → (Ex → St → Option R) → Option R
  | 0, S, K => P23_0h.mat S fun vs => rd23_0 G k K k vs
  | _, _, _ => none
def f23 {R : Type} (G : ORC R) (k : Nat) (al1 : List V) (ai2 ai3 : Int) (K : List V → Option R) : Option R :=
  (l23_0 G k al1 ai2 ai3 (IntKind.i64.wrap ((al1.length : Int) - 1)) (fun (_ : Unit) => K [.int .i64 (-1)]) (fun yi23 => K [.int .i64 yi23]))
noncomputable def D23_0 : LoopD := { id := 0, body := loopAt 0 (bodyOf Try.f23), head := P23_0h, out := P23_0x, ret := P23_0r }
theorem l23_0_is {R : Type} (G : ORC R) (k : Nat) (X : List V → Option R) (K : Ex → St → Option R) (xl4 : List V) (xi5 xi6 xi7 : Int) :
    roundOf (TAB.env 23) G (L23 G k) D23_0 X K [.sl 7 xl4, .int .i64 xi5, .int .i64 xi6, .int .i64 xi7] = b23_0 G k (fun xl4 xi5 xi6 xi7 => X [.sl 7 xl4, .int .i64 xi5, .int .i64 xi6, .int .i64 xi7]) (fun _ => K .normal (P23_0x.inst [])) (fun yi24 => K .ret (P23_0r.inst [.int .i64 yi24])) xl4 xi5 xi6 xi7 := by kernel_rfl
theorem f23_is {R : Type} (G : ORC R) (k : Nat) (K : List V → Option R) (al1 : List V) (ai2 ai3 : Int) :
    callF (TAB.env 23) G (L23 G k) Try.f23 S23 [.sl 7 al1, .int .i64 ai2, .int .i64 ai3] K = f23 G k al1 ai2 ai3 K := by kernel_rfl
theorem li23_0 {R : Type} (G : ORC R) (k : Nat) : LoopIs (TAB.env 23) G (L23 G k) 0 (loopAt 0 (bodyOf Try.f23)) :=
  ⟨D23_0, fun j vs K => rd23_0 G k K j vs, k, rfl, rfl, by kernel_rfl, by kernel_rfl, by kernel_rfl, (fun vs K => by unfold rd23_0; dsimp only; split <;> rfl),
    (fun j vs K r h => by
      unfold rd23_0 at h
      dsimp only at h
      split at h
      · rw [l23_0_is]; exact h
      · cases h), (fun S K r h => h)⟩
theorem lo23 : loopsOf (bodyOf Try.f23) = [(0, loopAt 0 (bodyOf Try.f23))] := by kernel_rfl
theorem la23 {R : Type} (G : ORC R) (k : Nat) : LoopsAre (TAB.env 23) G (L23 G k) (bodyOf Try.f23) :=
  loopsAre_of (by rw [lo23]; intro p hp; simp only [List.mem_cons, List.not_mem_nil, or_false] at hp; subst hp; exact li23_0 G k)
def g23 {R : Type} (G : ORC R) (k : Nat) (args : List V) (K : List V → Option R) : Option R := match args with
  | [.sl 7 al1, .int .i64 ai2, .int .i64 ai3] => f23 G k al1 ai2 ai3 K
  | _ => none
theorem s23 {R : Type} {G : ORC R} {k : Nat} (hG : Sound Try.prog TAB G) (args : List V) (K : List V → Option R) (r : R) (h : g23 G k args K = some r) : ∃ o, CallOK Try.prog TAB.env 23 args o ∧ K o = some r := by
  unfold g23 at h
  split at h
  · rw [← f23_is] at h
    exact callF_sound (f := 23) TAB_chk MO hG Try.func23 (sg := S23) (by kernel_rfl) (by kernel_rfl) (la23 G k) h
  · cases h
def P25_0h : Pat := { tmps := unds [.var (.sl 7) .ro, .undef, .undef, .undef, .undef, .var (.sl 1) (.own true), .var (.sl 1) .ro, .var (.int .i64) .pr] 25 [], boxes := nons [] 33 [] }
def P25_0x : Pat := { tmps := unds [] 5 (unds [.var (.sl 1) (.own true)] 27 []), boxes := nons [] 33 [] }
def b25_0 {R : Type} (G : ORC R) (k : Nat) (X : List V → List V → List V → Int → Option R) (Ko : List V → Option R) (xl6 xl7 xl8 : List V) (xi9 : Int) : Option R :=
  (bif (decide (xi9 < (xl8.length : Int))) then (bif ((decide (0 ≤ xi9)) && (decide (xi9 < (xl8.length : Int)))) then (nthK xl8 (Int.toNat xi9) fun e10 => aI .i64 e10 fun n11 => bif ((decide (0 ≤ n11)) && (decide (n11 < (xl6.length : Int)))) then (nthK xl6 (Int.toNat n11) fun e12 => V.asAgg e12 fun l13 => G 27 [.agg l13] fun o14 => uB o14 fun b16 r15 => unNil r15 (bif b16 then (bif ((decide (0 ≤ xi9)) && (decide (xi9 < (xl8.length : Int)))) then (nthK xl8 (Int.toNat xi9) fun e17 => aI .i64 e17 fun n18 => bif (decide (List.length xl7 + 1 ≤ 1073741824)) then (X xl6 (xl7 ++ [.int .i64 n18]) xl8 (IntKind.i64.wrap (xi9 + 1))) else none) else none) else (X xl6 xl7 xl8 (IntKind.i64.wrap (xi9 + 1))))) else none) else none) else (Ko xl7))
def l25_0g {R : Type} (G : ORC R) (k : Nat) (Ko : List V → Option R) : Nat → List V → List V → List V → Int → Option R
  | 0 => fun _ _ _ _ => none
  | j + 1 => b25_0 G k (l25_0g G k Ko j) Ko
def l25_0 {R : Type} (G : ORC R) (k : Nat) (xl6 xl7 xl8 : List V) (xi9 : Int) (Ko : List V → Option R) : Option R := l25_0g G k Ko k xl6 xl7 xl8 xi9
def rd25_0 {R : Type} (G : ORC R) (k : Nat) (K : Ex → St → Option R) (j : Nat) (vs : List V) : Option R := match vs with
  | [.sl 7 xl6, .sl 1 xl7, .sl 1 xl8, .int .i64 xi9] => l25_0g G k (fun yl20 => K .normal (P25_0x.inst [.sl 1 yl20])) j xl6 xl7 xl8 xi9
  | _ => none
def L25 {R : Type} (G : ORC R) (k : Nat) : Nat → St → (Ex → St → Option R) → Option R
  | 0, S, K => P25_0h.mat S fun vs => rd25_0 G k K k vs
  | _, _, _ => none
def f25 {R : Type} (G : ORC R) (k : Nat) (al1 : List V) (ai2 : Int) (K : List V → Option R) : Option R :=
  (G 58 [.sl 7 al1, .int .i64 ai2] fun o3 => uL 1 o3 fun l5 r4 => unNil r4 (l25_0 G k al1 [] l5 0 (fun yl19 => K [.sl 1 yl19])))
noncomputable def D25_0 : LoopD := { id := 0, body := loopAt 0 (bodyOf Try.f25), head := P25_0h, out := P25_0x, ret := default }
theorem l25_0_is {R : Type} (G : ORC R) (k : Nat) (X : List V → Option R) (K : Ex → St → Option R) (xl6 xl7 xl8 : List V) (xi9 : Int) :
    roundOf (TAB.env 25) G (L25 G k) D25_0 X K [.sl 7 xl6, .sl 1 xl7, .sl 1 xl8, .int .i64 xi9] = b25_0 G k (fun xl6 xl7 xl8 xi9 => X [.sl 7 xl6, .sl 1 xl7, .sl 1 xl8, .int .i64 xi9]) (fun yl20 => K .normal (P25_0x.inst [.sl 1 yl20])) xl6 xl7 xl8 xi9 := by kernel_rfl
theorem f25_is {R : Type} (G : ORC R) (k : Nat) (K : List V → Option R) (al1 : List V) (ai2 : Int) :
    callF (TAB.env 25) G (L25 G k) Try.f25 S25 [.sl 7 al1, .int .i64 ai2] K = f25 G k al1 ai2 K := by kernel_rfl
theorem li25_0 {R : Type} (G : ORC R) (k : Nat) : LoopIs (TAB.env 25) G (L25 G k) 0 (loopAt 0 (bodyOf Try.f25)) :=
  ⟨D25_0, fun j vs K => rd25_0 G k K j vs, k, rfl, rfl, by kernel_rfl, by kernel_rfl, by kernel_rfl, (fun vs K => by unfold rd25_0; dsimp only; split <;> rfl),
    (fun j vs K r h => by
      unfold rd25_0 at h
      dsimp only at h
      split at h
      · rw [l25_0_is]; exact h
      · cases h), (fun S K r h => h)⟩
theorem lo25 : loopsOf (bodyOf Try.f25) = [(0, loopAt 0 (bodyOf Try.f25))] := by kernel_rfl
theorem la25 {R : Type} (G : ORC R) (k : Nat) : LoopsAre (TAB.env 25) G (L25 G k) (bodyOf Try.f25) :=
  loopsAre_of (by rw [lo25]; intro p hp; simp only [List.mem_cons, List.not_mem_nil, or_false] at hp; subst hp; exact li25_0 G k)
def g25 {R : Type} (G : ORC R) (k : Nat) (args : List V) (K : List V → Option R) : Option R := match args with
  | [.sl 7 al1, .int .i64 ai2] => f25 G k al1 ai2 K
  | _ => none
theorem s25 {R : Type} {G : ORC R} {k : Nat} (hG : Sound Try.prog TAB G) (args : List V) (K : List V → Option R) (r : R) (h : g25 G k args K = some r) : ∃ o, CallOK Try.prog TAB.env 25 args o ∧ K o = some r := by
  unfold g25 at h
  split at h
  · rw [← f25_is] at h
    exact callF_sound (f := 25) TAB_chk MO hG Try.func25 (sg := S25) (by kernel_rfl) (by kernel_rfl) (la25 G k) h
  · cases h
def P28_0h : Pat := { tmps := unds [.var (.sl 1) .ro, .var (.int .i64) .pr, .undef, .undef, .undef, .var (.int .i64) .pr] 12 [], boxes := nons [] 18 [] }
def P28_0x : Pat := { tmps := unds [] 18 [], boxes := nons [] 18 [] }
def P28_0r : Pat := { tmps := unds [.undef, .undef, .undef, .undef, .var .bool .pr] 13 [], boxes := nons [] 18 [] }
def b28_0 {R : Type} (G : ORC R) (k : Nat) (X : List V → Int → Int → Option R) (Ko : Unit → Option R) (Kr : Bool → Option R) (xl3 : List V) (xi4 xi5 : Int) : Option R :=
  (bif (decide (xi5 < (xl3.length : Int))) then (bif ((decide (0 ≤ xi5)) && (decide (xi5 < (xl3.length : Int)))) then (nthK xl3 (Int.toNat xi5) fun e6 => aI .i64 e6 fun n7 => bif (n7 == xi4) then (Kr true) else (X xl3 xi4 (IntKind.i64.wrap (xi5 + 1)))) else none) else (Ko ()))
def l28_0g {R : Type} (G : ORC R) (k : Nat) (Ko : Unit → Option R) (Kr : Bool → Option R) : Nat → List V → Int → Int → Option R
  | 0 => fun _ _ _ => none
  | j + 1 => b28_0 G k (l28_0g G k Ko Kr j) Ko Kr
def l28_0 {R : Type} (G : ORC R) (k : Nat) (xl3 : List V) (xi4 xi5 : Int) (Ko : Unit → Option R) (Kr : Bool → Option R) : Option R := l28_0g G k Ko Kr k xl3 xi4 xi5
def rd28_0 {R : Type} (G : ORC R) (k : Nat) (K : Ex → St → Option R) (j : Nat) (vs : List V) : Option R := match vs with
  | [.sl 1 xl3, .int .i64 xi4, .int .i64 xi5] => l28_0g G k (fun _ => K .normal (P28_0x.inst [])) (fun yb9 => K .ret (P28_0r.inst [.bool yb9])) j xl3 xi4 xi5
  | _ => none
def L28 {R : Type} (G : ORC R) (k : Nat) : Nat → St → (Ex → St → Option R) → Option R
  | 0, S, K => P28_0h.mat S fun vs => rd28_0 G k K k vs
  | _, _, _ => none
def f28 {R : Type} (G : ORC R) (k : Nat) (al1 : List V) (ai2 : Int) (K : List V → Option R) : Option R :=
  (l28_0 G k al1 ai2 0 (fun (_ : Unit) => K [.bool false]) (fun yb8 => K [.bool yb8]))
noncomputable def D28_0 : LoopD := { id := 0, body := loopAt 0 (bodyOf Try.f28), head := P28_0h, out := P28_0x, ret := P28_0r }
theorem l28_0_is {R : Type} (G : ORC R) (k : Nat) (X : List V → Option R) (K : Ex → St → Option R) (xl3 : List V) (xi4 xi5 : Int) :
    roundOf (TAB.env 28) G (L28 G k) D28_0 X K [.sl 1 xl3, .int .i64 xi4, .int .i64 xi5] = b28_0 G k (fun xl3 xi4 xi5 => X [.sl 1 xl3, .int .i64 xi4, .int .i64 xi5]) (fun _ => K .normal (P28_0x.inst [])) (fun yb9 => K .ret (P28_0r.inst [.bool yb9])) xl3 xi4 xi5 := by kernel_rfl
theorem f28_is {R : Type} (G : ORC R) (k : Nat) (K : List V → Option R) (al1 : List V) (ai2 : Int) :
    callF (TAB.env 28) G (L28 G k) Try.f28 S28 [.sl 1 al1, .int .i64 ai2] K = f28 G k al1 ai2 K := by kernel_rfl
theorem li28_0 {R : Type} (G : ORC R) (k : Nat) : LoopIs (TAB.env 28) G (L28 G k) 0 (loopAt 0 (bodyOf Try.f28)) :=
  ⟨D28_0, fun j vs K => rd28_0 G k K j vs, k, rfl, rfl, by kernel_rfl, by kernel_rfl, by kernel_rfl, (fun vs K => by unfold rd28_0; dsimp only; split <;> rfl),
    (fun j vs K r h => by
      unfold rd28_0 at h
      dsimp only at h
      split at h
      · rw [l28_0_is]; exact h
      · cases h), (fun S K r h => h)⟩
theorem lo28 : loopsOf (bodyOf Try.f28) = [(0, loopAt 0 (bodyOf Try.f28))] := by kernel_rfl
theorem la28 {R : Type} (G : ORC R) (k : Nat) : LoopsAre (TAB.env 28) G (L28 G k) (bodyOf Try.f28) :=
  loopsAre_of (by rw [lo28]; intro p hp; simp only [List.mem_cons, List.not_mem_nil, or_false] at hp; subst hp; exact li28_0 G k)
def g28 {R : Type} (G : ORC R) (k : Nat) (args : List V) (K : List V → Option R) : Option R := match args with
  | [.sl 1 al1, .int .i64 ai2] => f28 G k al1 ai2 K
  | _ => none
theorem s28 {R : Type} {G : ORC R} {k : Nat} (hG : Sound Try.prog TAB G) (args : List V) (K : List V → Option R) (r : R) (h : g28 G k args K = some r) : ∃ o, CallOK Try.prog TAB.env 28 args o ∧ K o = some r := by
  unfold g28 at h
  split at h
  · rw [← f28_is] at h
    exact callF_sound (f := 28) TAB_chk MO hG Try.func28 (sg := S28) (by kernel_rfl) (by kernel_rfl) (la28 G k) h
  · cases h
def L31 {R : Type} (_ : ORC R) (_ : Nat) : Nat → St → (Ex → St → Option R) → Option R := fun _ _ _ => none
def f31 {R : Type} (G : ORC R) (k : Nat) (al1 : List V) (ai2 : Int) (K : List V → Option R) : Option R :=
  (bif (decide (ai2 ≥ 0)) then (K [.bool (decide (ai2 < (al1.length : Int)))]) else (K [.bool false]))
theorem f31_is {R : Type} (G : ORC R) (k : Nat) (K : List V → Option R) (al1 : List V) (ai2 : Int) :
    callF (TAB.env 31) G (L31 G k) Try.f31 S31 [.sl 7 al1, .int .i64 ai2] K = f31 G k al1 ai2 K := by kernel_rfl
theorem lo31 : loopsOf (bodyOf Try.f31) = [] := by kernel_rfl
theorem la31 {R : Type} (G : ORC R) (k : Nat) : LoopsAre (TAB.env 31) G (L31 G k) (bodyOf Try.f31) :=
  loopsAre_of (by rw [lo31]; intro p hp; cases hp)
def g31 {R : Type} (G : ORC R) (k : Nat) (args : List V) (K : List V → Option R) : Option R := match args with
  | [.sl 7 al1, .int .i64 ai2] => f31 G k al1 ai2 K
  | _ => none
theorem s31 {R : Type} {G : ORC R} {k : Nat} (hG : Sound Try.prog TAB G) (args : List V) (K : List V → Option R) (r : R) (h : g31 G k args K = some r) : ∃ o, CallOK Try.prog TAB.env 31 args o ∧ K o = some r := by
  unfold g31 at h
  split at h
  · rw [← f31_is] at h
    exact callF_sound (f := 31) TAB_chk MO hG Try.func31 (sg := S31) (by kernel_rfl) (by kernel_rfl) (la31 G k) h
  · cases h
def P32_0h : Pat := { tmps := unds [.stat (.one (.ptr 0 0) .pt), .var (.int .i64) .pr, .undef, .undef, .var (.sl 1) .ro] 27 (unds [.var (.sl 1) .ro, .var (.int .i64) .pr, .var (.int .i64) .pr] 53 []), boxes := nons [some [.var (.sl 7) .ro true, .var (.sl 1) .ro true, .var (.sl 1) (.own true) false, .var (.int .i64) .pr false]] 88 [] }
def P32_0x : Pat := { tmps := unds [.stat (.one (.ptr 0 0) .pt), .var (.int .i64) .pr, .undef, .undef, .var (.sl 1) .ro] 83 [], boxes := nons [some [.var (.sl 7) .ro true, .var (.sl 1) .ro true, .var (.sl 1) (.own true) false, .var (.int .i64) .pr false]] 88 [] }
def b32_0 {R : Type} (G : ORC R) (k : Nat) (X : Int → List V → List V → Int → Int → List V → List V → List V → Int → Option R) (Ko : Int → List V → List V → List V → List V → Int → Option R) (xi28 : Int) (xl29 xl30 : List V) (xi31 xi32 : Int) (xl33 xl34 xl35 : List V) (xi36 : Int) : Option R :=
  (bif (decide (xi32 < xi31)) then (bif ((decide (0 ≤ xi32)) && (decide (xi32 < (xl30.length : Int)))) then (nthK xl30 (Int.toNat xi32) fun e37 => aI .i64 e37 fun n38 => G 32 [.int .i64 n38, .sl 7 xl33, .sl 1 xl34, .sl 1 xl35, .int .i64 xi36] fun o39 => uL 1 o39 fun l41 r40 => uI .i64 r40 fun n43 r42 => unNil r42 (X xi28 xl29 xl30 xi31 (IntKind.i64.wrap (xi32 + 1)) xl33 xl34 l41 n43)) else none) else (Ko xi28 xl29 xl33 xl34 xl35 xi36))
def l32_0g {R : Type} (G : ORC R) (k : Nat) (Ko : Int → List V → List V → List V → List V → Int → Option R) : Nat → Int → List V → List V → Int → Int → List V → List V → List V → Int → Option R
  | 0 => fun _ _ _ _ _ _ _ _ _ => none
  | j + 1 => b32_0 G k (l32_0g G k Ko j) Ko
def l32_0 {R : Type} (G : ORC R) (k : Nat) (xi28 : Int) (xl29 xl30 : List V) (xi31 xi32 : Int) (xl33 xl34 xl35 : List V) (xi36 : Int) (Ko : Int → List V → List V → List V → List V → Int → Option R) : Option R := l32_0g G k Ko k xi28 xl29 xl30 xi31 xi32 xl33 xl34 xl35 xi36
def P32_2h : Pat := { tmps := unds [.stat (.one (.ptr 0 0) .pt), .var (.int .i64) .pr] 40 (unds [.var (.sl 1) .ro, .var (.int .i64) .pr, .var (.int .i64) .pr] 43 []), boxes := nons [some [.var (.sl 7) .ro true, .var (.sl 1) .ro true, .var (.sl 1) (.own true) false, .var (.int .i64) .pr false]] 88 [] }
def P32_2x : Pat := { tmps := unds [] 88 [], boxes := nons [some [.var (.sl 7) .ro true, .var (.sl 1) .ro true, .var (.sl 1) (.own true) false, .var (.int .i64) .pr false]] 88 [] }
def b32_2 {R : Type} (G : ORC R) (k : Nat) (X : Int → List V → Int → Int → List V → List V → List V → Int → Option R) (Ko : List V → List V → List V → Int → Option R) (xi50 : Int) (xl51 : List V) (xi52 xi53 : Int) (xl54 xl55 xl56 : List V) (xi57 : Int) : Option R :=
  (bif (decide (xi53 < xi52)) then (bif ((decide (0 ≤ xi53)) && (decide (xi53 < (xl51.length : Int)))) then (nthK xl51 (Int.toNat xi53) fun e58 => aI .i64 e58 fun n59 => bif ((decide (0 ≤ xi50)) && (decide (xi50 < (xl54.length : Int)))) then (nthK xl54 (Int.toNat xi50) fun e60 => ca7 e60 fun c61 c62 c63 c64 c65 c66 c67 => aI .i64 c62 fun n68 => G 34 [.int .i64 n59, .int .i64 n68, .sl 7 xl54, .sl 1 xl55, .sl 1 xl56, .int .i64 xi57] fun o69 => uL 1 o69 fun l71 r70 => uI .i64 r70 fun n73 r72 => unNil r72 (X xi50 xl51 xi52 (IntKind.i64.wrap (xi53 + 1)) xl54 xl55 l71 n73)) else none) else none) else (Ko xl54 xl55 xl56 xi57))
def l32_2g {R : Type} (G : ORC R) (k : Nat) (Ko : List V → List V → List V → Int → Option R) : Nat → Int → List V → Int → Int → List V → List V → List V → Int → Option R
  | 0 => fun _ _ _ _ _ _ _ _ => none
  | j + 1 => b32_2 G k (l32_2g G k Ko j) Ko
def l32_2 {R : Type} (G : ORC R) (k : Nat) (xi50 : Int) (xl51 : List V) (xi52 xi53 : Int) (xl54 xl55 xl56 : List V) (xi57 : Int) (Ko : List V → List V → List V → Int → Option R) : Option R := l32_2g G k Ko k xi50 xl51 xi52 xi53 xl54 xl55 xl56 xi57
def rd32_0 {R : Type} (G : ORC R) (k : Nat) (K : Ex → St → Option R) (j : Nat) (vs : List V) : Option R := match vs with
  | [.int .i64 xi28, .sl 1 xl29, .sl 1 xl30, .int .i64 xi31, .int .i64 xi32, .sl 7 xl33, .sl 1 xl34, .sl 1 xl35, .int .i64 xi36] => l32_0g G k (fun yi112 yl113 yl114 yl115 yl116 yi117 => K .normal (P32_0x.inst [.int .i64 yi112, .sl 1 yl113, .sl 7 yl114, .sl 1 yl115, .sl 1 yl116, .int .i64 yi117])) j xi28 xl29 xl30 xi31 xi32 xl33 xl34 xl35 xi36
  | _ => none
def rd32_2 {R : Type} (G : ORC R) (k : Nat) (K : Ex → St → Option R) (j : Nat) (vs : List V) : Option R := match vs with
  | [.int .i64 xi50, .sl 1 xl51, .int .i64 xi52, .int .i64 xi53, .sl 7 xl54, .sl 1 xl55, .sl 1 xl56, .int .i64 xi57] => l32_2g G k (fun yl118 yl119 yl120 yi121 => K .normal (P32_2x.inst [.sl 7 yl118, .sl 1 yl119, .sl 1 yl120, .int .i64 yi121])) j xi50 xl51 xi52 xi53 xl54 xl55 xl56 xi57
  | _ => none
def L32 {R : Type} (G : ORC R) (k : Nat) : Nat → St → (Ex → St → Option R) → Option R
  | 0, S, K => P32_0h.mat S fun vs => rd32_0 G k K k vs
  | 2, S, K => P32_2h.mat S fun vs => rd32_2 G k K k vs
  | _, _, _ => none
def f32 {R : Type} (G : ORC R) (k : Nat) (ai1 : Int) (bl2 bl3 bl4 : List V) (bi5 : Int) (K : List V → Option R) : Option R :=
  (G 31 [.sl 7 bl2, .int .i64 ai1] fun o6 => uB o6 fun b8 r7 => unNil r7 (bif (!b8) then (K [.sl 1 bl4, .int .i64 bi5]) else (G 59 [.sl 7 bl2, .sl 1 bl3, .sl 1 bl4, .int .i64 bi5] fun o9 => uB o9 fun b11 r10 => uL 1 r10 fun l13 r12 => uI .i64 r12 fun n15 r14 => unNil r14 (bif (!b11) then (K [.sl 1 l13, .int .i64 n15]) else (bif ((decide (0 ≤ ai1)) && (decide (ai1 < (bl2.length : Int)))) then (nthK bl2 (Int.toNat ai1) fun e16 => V.asAgg e16 fun l17 => G 43 [.agg l17] fun o18 => uB o18 fun b20 r19 => unNil r19 (bif b20 then (G 33 [.int .i64 ai1, .sl 7 bl2, .sl 1 bl3, .sl 1 l13, .int .i64 n15] fun o21 => uL 1 o21 fun l23 r22 => uL 1 r22 fun l25 r24 => uI .i64 r24 fun n27 r26 => unNil r26 (l32_0 G k ai1 l23 l23 (l23.length : Int) 0 bl2 bl3 l25 n27 (fun yi44 yl45 yl46 yl47 yl48 yi49 => l32_2 G k yi44 yl45 (yl45.length : Int) 0 yl46 yl47 yl48 yi49 (fun yl74 yl75 yl76 yi77 => K [.sl 1 yl76, .int .i64 yi77])))) else (bif ((decide (0 ≤ ai1)) && (decide (ai1 < (l13.length : Int)))) then (nthK l13 (Int.toNat ai1) fun e78 => bif ((decide (0 ≤ ai1)) && (decide (ai1 < (bl2.length : Int)))) then (nthK bl2 (Int.toNat ai1) fun e79 => ca7 e79 fun c80 c81 c82 c83 c84 c85 c86 => aI .i64 c80 fun n87 => bif (n87 == 2) then (bif ((decide (0 ≤ ai1)) && (decide (ai1 < (bl2.length : Int)))) then (nthK bl2 (Int.toNat ai1) fun e88 => ca7 e88 fun c89 c90 c91 c92 c93 c94 c95 => aI .i64 c92 fun n96 => G 32 [.int .i64 n96, .sl 7 bl2, .sl 1 bl3, .sl 1 (List.set l13 (Int.toNat ai1) (.bool true)), .int .i64 n15] fun o97 => uL 1 o97 fun l99 r98 => uI .i64 r98 fun n101 r100 => unNil r100 (G 60 [.int .i64 ai1, .sl 7 bl2, .sl 1 bl3, .sl 1 l99, .int .i64 n101] fun o102 => uL 1 o102 fun l104 r103 => uI .i64 r103 fun n106 r105 => unNil r105 (K [.sl 1 l104, .int .i64 n106]))) else none) else (G 60 [.int .i64 ai1, .sl 7 bl2, .sl 1 bl3, .sl 1 (List.set l13 (Int.toNat ai1) (.bool true)), .int .i64 n15] fun o107 => uL 1 o107 fun l109 r108 => uI .i64 r108 fun n111 r110 => unNil r110 (K [.sl 1 l109, .int .i64 n111]))) else none) else none))) else none)))))
noncomputable def D32_0 : LoopD := { id := 0, body := loopAt 0 (bodyOf Try.f32), head := P32_0h, out := P32_0x, ret := default }
theorem l32_0_is {R : Type} (G : ORC R) (k : Nat) (X : List V → Option R) (K : Ex → St → Option R) (xi28 : Int) (xl29 xl30 : List V) (xi31 xi32 : Int) (xl33 xl34 xl35 : List V) (xi36 : Int) :
    roundOf (TAB.env 32) G (L32 G k) D32_0 X K [.int .i64 xi28, .sl 1 xl29, .sl 1 xl30, .int .i64 xi31, .int .i64 xi32, .sl 7 xl33, .sl 1 xl34, .sl 1 xl35, .int .i64 xi36] = b32_0 G k (fun xi28 xl29 xl30 xi31 xi32 xl33 xl34 xl35 xi36 => X [.int .i64 xi28, .sl 1 xl29, .sl 1 xl30, .int .i64 xi31, .int .i64 xi32, .sl 7 xl33, .sl 1 xl34, .sl 1 xl35, .int .i64 xi36]) (fun yi112 yl113 yl114 yl115 yl116 yi117 => K .normal (P32_0x.inst [.int .i64 yi112, .sl 1 yl113, .sl 7 yl114, .sl 1 yl115, .sl 1 yl116, .int .i64 yi117])) xi28 xl29 xl30 xi31 xi32 xl33 xl34 xl35 xi36 := by kernel_rfl
noncomputable def D32_2 : LoopD := { id := 2, body := loopAt 2 (bodyOf Try.f32), head := P32_2h, out := P32_2x, ret := default }
theorem l32_2_is {R : Type} (G : ORC R) (k : Nat) (X : List V → Option R) (K : Ex → St → Option R) (xi50 : Int) (xl51 : List V) (xi52 xi53 : Int) (xl54 xl55 xl56 : List V) (xi57 : Int) :
    roundOf (TAB.env 32) G (L32 G k) D32_2 X K [.int .i64 xi50, .sl 1 xl51, .int .i64 xi52, .int .i64 xi53, .sl 7 xl54, .sl 1 xl55, .sl 1 xl56, .int .i64 xi57] = b32_2 G k (fun xi50 xl51 xi52 xi53 xl54 xl55 xl56 xi57 => X [.int .i64 xi50, .sl 1 xl51, .int .i64 xi52, .int .i64 xi53, .sl 7 xl54, .sl 1 xl55, .sl 1 xl56, .int .i64 xi57]) (fun yl118 yl119 yl120 yi121 => K .normal (P32_2x.inst [.sl 7 yl118, .sl 1 yl119, .sl 1 yl120, .int .i64 yi121])) xi50 xl51 xi52 xi53 xl54 xl55 xl56 xi57 := by kernel_rfl
theorem f32_is {R : Type} (G : ORC R) (k : Nat) (K : List V → Option R) (ai1 : Int) (bl2 bl3 bl4 : List V) (bi5 : Int) :
    callF (TAB.env 32) G (L32 G k) Try.f32 S32 [.int .i64 ai1, .sl 7 bl2, .sl 1 bl3, .sl 1 bl4, .int .i64 bi5] K = f32 G k ai1 bl2 bl3 bl4 bi5 K := by kernel_rfl
theorem li32_0 {R : Type} (G : ORC R) (k : Nat) : LoopIs (TAB.env 32) G (L32 G k) 0 (loopAt 0 (bodyOf Try.f32)) :=
  ⟨D32_0, fun j vs K => rd32_0 G k K j vs, k, rfl, rfl, by kernel_rfl, by kernel_rfl, by kernel_rfl, (fun vs K => by unfold rd32_0; dsimp only; split <;> rfl),
    (fun j vs K r h => by
      unfold rd32_0 at h
      dsimp only at h
      split at h
      · rw [l32_0_is]; exact h
      · cases h), (fun S K r h => h)⟩
theorem li32_2 {R : Type} (G : ORC R) (k : Nat) : LoopIs (TAB.env 32) G (L32 G k) 2 (loopAt 2 (bodyOf Try.f32)) :=
  ⟨D32_2, fun j vs K => rd32_2 G k K j vs, k, rfl, rfl, by kernel_rfl, by kernel_rfl, by kernel_rfl, (fun vs K => by unfold rd32_2; dsimp only; split <;> rfl),
    (fun j vs K r h => by
      unfold rd32_2 at h
      dsimp only at h
      split at h
      · rw [l32_2_is]; exact h
      · cases h), (fun S K r h => h)⟩
theorem lo32 : loopsOf (bodyOf Try.f32) = [(0, loopAt 0 (bodyOf Try.f32)), (2, loopAt 2 (bodyOf Try.f32))] := by kernel_rfl
theorem la32 {R : Type} (G : ORC R) (k : Nat) : LoopsAre (TAB.env 32) G (L32 G k) (bodyOf Try.f32) :=
  loopsAre_of (by rw [lo32]; intro p hp; simp only [List.mem_cons, List.not_mem_nil, or_false] at hp; rcases hp with rfl | rfl <;> first | exact li32_0 G k | exact li32_2 G k)
def g32 {R : Type} (G : ORC R) (k : Nat) (args : List V) (K : List V → Option R) : Option R := match args with
  | [.int .i64 ai1, .sl 7 bl2, .sl 1 bl3, .sl 1 bl4, .int .i64 bi5] => f32 G k ai1 bl2 bl3 bl4 bi5 K
  | _ => none
theorem s32 {R : Type} {G : ORC R} {k : Nat} (hG : Sound Try.prog TAB G) (args : List V) (K : List V → Option R) (r : R) (h : g32 G k args K = some r) : ∃ o, CallOK Try.prog TAB.env 32 args o ∧ K o = some r := by
  unfold g32 at h
  split at h
  · rw [← f32_is] at h
    exact callF_sound (f := 32) TAB_chk MO hG Try.func32 (sg := S32) (by kernel_rfl) (by kernel_rfl) (la32 G k) h
  · cases h
def L33 {R : Type} (_ : ORC R) (_ : Nat) : Nat → St → (Ex → St → Option R) → Option R := fun _ _ _ => none
def f33 {R : Type} (G : ORC R) (k : Nat) (ai1 : Int) (bl2 bl3 bl4 : List V) (bi5 : Int) (K : List V → Option R) : Option R :=
  (bif ((decide (0 ≤ ai1)) && (decide (ai1 < (bl2.length : Int)))) then (nthK bl2 (Int.toNat ai1) fun e6 => V.asAgg e6 fun l7 => G 43 [.agg l7] fun o8 => uB o8 fun b10 r9 => unNil r9 (bif (!b10) then (K [.sl 1 [.int .i64 ai1], .sl 1 bl4, .int .i64 bi5]) else (bif (decide (ai1 < (bl3.length : Int))) then (bif ((decide (0 ≤ ai1)) && (decide (ai1 < (bl3.length : Int)))) then (nthK bl3 (Int.toNat ai1) fun e11 => V.asSl e11 fun z12 l13 => bif (decide ((l13.length : Int) > 0)) then (bif ((decide (0 ≤ ai1)) && (decide (ai1 < (bl3.length : Int)))) then (nthK bl3 (Int.toNat ai1) fun e14 => V.asSl e14 fun z15 l16 => K [.sl z15 l16, .sl 1 bl4, .int .i64 bi5]) else none) else (bif ((decide (0 ≤ ai1)) && (decide (ai1 < (bl2.length : Int)))) then (nthK bl2 (Int.toNat ai1) fun e17 => ca7 e17 fun c18 c19 c20 c21 c22 c23 c24 => aI .i64 c19 fun n25 => G 31 [.sl 7 bl2, .int .i64 n25] fun o26 => uB o26 fun b28 r27 => unNil r27 (bif (!b28) then (K [.sl 1 [], .sl 1 bl4, .int .i64 bi5]) else (bif ((decide (0 ≤ n25)) && (decide (n25 < (bl2.length : Int)))) then (nthK bl2 (Int.toNat n25) fun e29 => ca7 e29 fun c30 c31 c32 c33 c34 c35 c36 => aI .i64 c30 fun n37 => bif (n37 == 2) then (bif ((decide (0 ≤ n25)) && (decide (n25 < (bl2.length : Int)))) then (nthK bl2 (Int.toNat n25) fun e38 => ca7 e38 fun c39 c40 c41 c42 c43 c44 c45 => aI .i64 c42 fun n46 => K [.sl 1 [.int .i64 n46], .sl 1 bl4, .int .i64 bi5]) else none) else (G 61 [.sl 7 bl2, .int .i64 n25] fun o47 => uL 1 o47 fun l49 r48 => unNil r48 (K [.sl 1 l49, .sl 1 bl4, .int .i64 bi5]))) else none))) else none)) else none) else (bif ((decide (0 ≤ ai1)) && (decide (ai1 < (bl2.length : Int)))) then (nthK bl2 (Int.toNat ai1) fun e50 => ca7 e50 fun c51 c52 c53 c54 c55 c56 c57 => aI .i64 c52 fun n58 => G 31 [.sl 7 bl2, .int .i64 n58] fun o59 => uB o59 fun b61 r60 => unNil r60 (bif (!b61) then (K [.sl 1 [], .sl 1 bl4, .int .i64 bi5]) else (bif ((decide (0 ≤ n58)) && (decide (n58 < (bl2.length : Int)))) then (nthK bl2 (Int.toNat n58) fun e62 => ca7 e62 fun c63 c64 c65 c66 c67 c68 c69 => aI .i64 c63 fun n70 => bif (n70 == 2) then (bif ((decide (0 ≤ n58)) && (decide (n58 < (bl2.length : Int)))) then (nthK bl2 (Int.toNat n58) fun e71 => ca7 e71 fun c72 c73 c74 c75 c76 c77 c78 => aI .i64 c75 fun n79 => K [.sl 1 [.int .i64 n79], .sl 1 bl4, .int .i64 bi5]) else none) else (G 61 [.sl 7 bl2, .int .i64 n58] fun o80 => uL 1 o80 fun l82 r81 => unNil r81 (K [.sl 1 l82, .sl 1 bl4, .int .i64 bi5]))) else none))) else none)))) else none)
theorem f33_is {R : Type} (G : ORC R) (k : Nat) (K : List V → Option R) (ai1 : Int) (bl2 bl3 bl4 : List V) (bi5 : Int) :
    callF (TAB.env 33) G (L33 G k) Try.f33 S33 [.int .i64 ai1, .sl 7 bl2, .sl 1 bl3, .sl 1 bl4, .int .i64 bi5] K = f33 G k ai1 bl2 bl3 bl4 bi5 K := by kernel_rfl
theorem lo33 : loopsOf (bodyOf Try.f33) = [] := by kernel_rfl
theorem la33 {R : Type} (G : ORC R) (k : Nat) : LoopsAre (TAB.env 33) G (L33 G k) (bodyOf Try.f33) :=
  loopsAre_of (by rw [lo33]; intro p hp; cases hp)
def g33 {R : Type} (G : ORC R) (k : Nat) (args : List V) (K : List V → Option R) : Option R := match args with
  | [.int .i64 ai1, .sl 7 bl2, .sl 1 bl3, .sl 1 bl4, .int .i64 bi5] => f33 G k ai1 bl2 bl3 bl4 bi5 K
  | _ => none
theorem s33 {R : Type} {G : ORC R} {k : Nat} (hG : Sound Try.prog TAB G) (args : List V) (K : List V → Option R) (r : R) (h : g33 G k args K = some r) : ∃ o, CallOK Try.prog TAB.env 33 args o ∧ K o = some r := by
  unfold g33 at h
  split at h
  · rw [← f33_is] at h
    exact callF_sound (f := 33) TAB_chk MO hG Try.func33 (sg := S33) (by kernel_rfl) (by kernel_rfl) (la33 G k) h
  · cases h
def P34_0h : Pat := { tmps := unds [.stat (.one (.ptr 0 0) .pt), .var (.int .i64) .pr, .var (.int .i64) .pr, .undef, .undef, .undef, .var (.int .i64) .pr] 44 [], boxes := nons [some [.var (.sl 7) .ro true, .var (.sl 1) .ro true, .var (.sl 1) (.own true) false, .var (.int .i64) .pr false]] 51 [] }
def P34_0x : Pat := { tmps := unds [] 51 [], boxes := nons [some [.var (.sl 7) .ro true, .var (.sl 1) .ro true, .var (.sl 1) (.own true) false, .var (.int .i64) .pr false]] 51 [] }
def b34_0 {R : Type} (G : ORC R) (k : Nat) (X : Int → Int → Int → List V → List V → List V → Int → Option R) (Ko : List V → List V → List V → Int → Option R) (xi7 xi8 xi9 : Int) (xl10 xl11 xl12 : List V) (xi13 : Int) : Option R :=
  (bif (decide (xi9 > xi8)) then (G 31 [.sl 7 xl10, .int .i64 xi9] fun o14 => uB o14 fun b16 r15 => unNil r15 (bif b16 then (G 46 [.sl 7 xl10, .int .i64 xi7, .int .i64 xi9] fun o17 => uB o17 fun b19 r18 => unNil r18 (bif b19 then (G 46 [.sl 7 xl10, .int .i64 xi9, .int .i64 xi8] fun o20 => uB o20 fun b22 r21 => unNil r21 (bif b22 then (G 59 [.sl 7 xl10, .sl 1 xl11, .sl 1 xl12, .int .i64 xi13] fun o23 => uB o23 fun b25 r24 => uL 1 r24 fun l27 r26 => uI .i64 r26 fun n29 r28 => unNil r28 (bif b25 then (bif ((decide (0 ≤ xi9)) && (decide (xi9 < (l27.length : Int)))) then (nthK l27 (Int.toNat xi9) fun e30 => G 60 [.int .i64 xi9, .sl 7 xl10, .sl 1 xl11, .sl 1 (List.set l27 (Int.toNat xi9) (.bool true)), .int .i64 n29] fun o31 => uL 1 o31 fun l33 r32 => uI .i64 r32 fun n35 r34 => unNil r34 (X xi7 xi8 (IntKind.i64.wrap (xi9 - 1)) xl10 xl11 l33 n35)) else none) else (X xi7 xi8 (IntKind.i64.wrap (xi9 - 1)) xl10 xl11 l27 n29))) else (X xi7 xi8 (IntKind.i64.wrap (xi9 - 1)) xl10 xl11 xl12 xi13))) else (X xi7 xi8 (IntKind.i64.wrap (xi9 - 1)) xl10 xl11 xl12 xi13))) else (X xi7 xi8 (IntKind.i64.wrap (xi9 - 1)) xl10 xl11 xl12 xi13))) else (Ko xl10 xl11 xl12 xi13))
def l34_0g {R : Type} (G : ORC R) (k : Nat) (Ko : List V → List V → List V → Int → Option R) : Nat → Int → Int → Int → List V → List V → List V → Int → Option R
  | 0 => fun _ _ _ _ _ _ _ => none
  | j + 1 => b34_0 G k (l34_0g G k Ko j) Ko
def l34_0 {R : Type} (G : ORC R) (k : Nat) (xi7 xi8 xi9 : Int) (xl10 xl11 xl12 : List V) (xi13 : Int) (Ko : List V → List V → List V → Int → Option R) : Option R := l34_0g G k Ko k xi7 xi8 xi9 xl10 xl11 xl12 xi13
def rd34_0 {R : Type} (G : ORC R) (k : Nat) (K : Ex → St → Option R) (j : Nat) (vs : List V) : Option R := match vs with
  | [.int .i64 xi7, .int .i64 xi8, .int .i64 xi9, .sl 7 xl10, .sl 1 xl11, .sl 1 xl12, .int .i64 xi13] => l34_0g G k (fun yl40 yl41 yl42 yi43 => K .normal (P34_0x.inst [.sl 7 yl40, .sl 1 yl41, .sl 1 yl42, .int .i64 yi43])) j xi7 xi8 xi9 xl10 xl11 xl12 xi13
  | _ => none
def L34 {R : Type} (G : ORC R) (k : Nat) : Nat → St → (Ex → St → Option R) → Option R
  | 0, S, K => P34_0h.mat S fun vs => rd34_0 G k K k vs
  | _, _, _ => none
def f34 {R : Type} (G : ORC R) (k : Nat) (ai1 ai2 : Int) (bl3 bl4 bl5 : List V) (bi6 : Int) (K : List V → Option R) : Option R :=
  (l34_0 G k ai1 ai2 (IntKind.i64.wrap (ai1 - 1)) bl3 bl4 bl5 bi6 (fun yl36 yl37 yl38 yi39 => K [.sl 1 yl38, .int .i64 yi39]))
noncomputable def D34_0 : LoopD := { id := 0, body := loopAt 0 (bodyOf Try.f34), head := P34_0h, out := P34_0x, ret := default }
theorem l34_0_is {R : Type} (G : ORC R) (k : Nat) (X : List V → Option R) (K : Ex → St → Option R) (xi7 xi8 xi9 : Int) (xl10 xl11 xl12 : List V) (xi13 : Int) :
    roundOf (TAB.env 34) G (L34 G k) D34_0 X K [.int .i64 xi7, .int .i64 xi8, .int .i64 xi9, .sl 7 xl10, .sl 1 xl11, .sl 1 xl12, .int .i64 xi13] = b34_0 G k (fun xi7 xi8 xi9 xl10 xl11 xl12 xi13 => X [.int .i64 xi7, .int .i64 xi8, .int .i64 xi9, .sl 7 xl10, .sl 1 xl11, .sl 1 xl12, .int .i64 xi13]) (fun yl40 yl41 yl42 yi43 => K .normal (P34_0x.inst [.sl 7 yl40, .sl 1 yl41, .sl 1 yl42, .int .i64 yi43])) xi7 xi8 xi9 xl10 xl11 xl12 xi13 := by kernel_rfl
theorem f34_is {R : Type} (G : ORC R) (k : Nat) (K : List V → Option R) (ai1 ai2 : Int) (bl3 bl4 bl5 : List V) (bi6 : Int) :
    callF (TAB.env 34) G (L34 G k) Try.f34 S34 [.int .i64 ai1, .int .i64 ai2, .sl 7 bl3, .sl 1 bl4, .sl 1 bl5, .int .i64 bi6] K = f34 G k ai1 ai2 bl3 bl4 bl5 bi6 K := by kernel_rfl
theorem li34_0 {R : Type} (G : ORC R) (k : Nat) : LoopIs (TAB.env 34) G (L34 G k) 0 (loopAt 0 (bodyOf Try.f34)) :=
  ⟨D34_0, fun j vs K => rd34_0 G k K j vs, k, rfl, rfl, by kernel_rfl, by kernel_rfl, by kernel_rfl, (fun vs K => by unfold rd34_0; dsimp only; split <;> rfl),
    (fun j vs K r h => by
      unfold rd34_0 at h
      dsimp only at h
      split at h
      · rw [l34_0_is]; exact h
      · cases h), (fun S K r h => h)⟩
theorem lo34 : loopsOf (bodyOf Try.f34) = [(0, loopAt 0 (bodyOf Try.f34))] := by kernel_rfl
theorem la34 {R : Type} (G : ORC R) (k : Nat) : LoopsAre (TAB.env 34) G (L34 G k) (bodyOf Try.f34) :=
  loopsAre_of (by rw [lo34]; intro p hp; simp only [List.mem_cons, List.not_mem_nil, or_false] at hp; subst hp; exact li34_0 G k)
def g34 {R : Type} (G : ORC R) (k : Nat) (args : List V) (K : List V → Option R) : Option R := match args with
  | [.int .i64 ai1, .int .i64 ai2, .sl 7 bl3, .sl 1 bl4, .sl 1 bl5, .int .i64 bi6] => f34 G k ai1 ai2 bl3 bl4 bl5 bi6 K
  | _ => none
theorem s34 {R : Type} {G : ORC R} {k : Nat} (hG : Sound Try.prog TAB G) (args : List V) (K : List V → Option R) (r : R) (h : g34 G k args K = some r) : ∃ o, CallOK Try.prog TAB.env 34 args o ∧ K o = some r := by
  unfold g34 at h
  split at h
  · rw [← f34_is] at h
    exact callF_sound (f := 34) TAB_chk MO hG Try.func34 (sg := S34) (by kernel_rfl) (by kernel_rfl) (la34 G k) h
  · cases h
def P35_0h : Pat := { tmps := unds [.undef, .undef, .undef, .var (.sl 1) (.own true)] 5 (unds [.stat (.ref (.b 0 2) 0), .var (.int .i64) .pr, .var (.int .i64) .pr] 11 []), boxes := nons [some [.var (.sl 7) .ro true, .var (.sl 1) .ro true, .var (.sl 1) (.own true) false, .var (.int .i64) .pr false]] 23 [] }
def P35_0x : Pat := { tmps := unds [.undef, .undef, .undef, .var (.sl 1) (.own true)] 19 [], boxes := nons [some [.var (.sl 7) .ro true, .var (.sl 1) .ro true, .var (.sl 1) (.own true) false, .var (.int .i64) .pr false]] 23 [] }
def b35_0 {R : Type} (G : ORC R) (k : Nat) (X : List V → Int → Int → List V → List V → List V → Int → Option R) (Ko : List V → List V → List V → List V → Int → Option R) (xl5 : List V) (xi6 xi7 : Int) (xl8 xl9 xl10 : List V) (xi11 : Int) : Option R :=
  (bif (decide (xi7 < xi6)) then (bif ((decide (0 ≤ xi7)) && (decide (xi7 < (xl10.length : Int)))) then (nthK xl10 (Int.toNat xi7) fun e12 => V.asBool e12 fun b13 => bif b13 then (bif (decide (List.length xl5 + 1 ≤ 1073741824)) then (X (xl5 ++ [.int .i64 xi7]) xi6 (IntKind.i64.wrap (xi7 + 1)) xl8 xl9 xl10 xi11) else none) else (X xl5 xi6 (IntKind.i64.wrap (xi7 + 1)) xl8 xl9 xl10 xi11)) else none) else (Ko xl5 xl8 xl9 xl10 xi11))
def l35_0g {R : Type} (G : ORC R) (k : Nat) (Ko : List V → List V → List V → List V → Int → Option R) : Nat → List V → Int → Int → List V → List V → List V → Int → Option R
  | 0 => fun _ _ _ _ _ _ _ => none
  | j + 1 => b35_0 G k (l35_0g G k Ko j) Ko
def l35_0 {R : Type} (G : ORC R) (k : Nat) (xl5 : List V) (xi6 xi7 : Int) (xl8 xl9 xl10 : List V) (xi11 : Int) (Ko : List V → List V → List V → List V → Int → Option R) : Option R := l35_0g G k Ko k xl5 xi6 xi7 xl8 xl9 xl10 xi11
def rd35_0 {R : Type} (G : ORC R) (k : Nat) (K : Ex → St → Option R) (j : Nat) (vs : List V) : Option R := match vs with
  | [.sl 1 xl5, .int .i64 xi6, .int .i64 xi7, .sl 7 xl8, .sl 1 xl9, .sl 1 xl10, .int .i64 xi11] => l35_0g G k (fun yl19 yl20 yl21 yl22 yi23 => K .normal (P35_0x.inst [.sl 1 yl19, .sl 7 yl20, .sl 1 yl21, .sl 1 yl22, .int .i64 yi23])) j xl5 xi6 xi7 xl8 xl9 xl10 xi11
  | _ => none
def L35 {R : Type} (G : ORC R) (k : Nat) : Nat → St → (Ex → St → Option R) → Option R
  | 0, S, K => P35_0h.mat S fun vs => rd35_0 G k K k vs
  | _, _, _ => none
def f35 {R : Type} (G : ORC R) (k : Nat) (bl1 bl2 bl3 : List V) (bi4 : Int) (K : List V → Option R) : Option R :=
  (l35_0 G k [] (bl3.length : Int) 0 bl1 bl2 bl3 bi4 (fun yl14 yl15 yl16 yl17 yi18 => K [.sl 1 yl14, .sl 1 yl17, .int .i64 yi18]))
noncomputable def D35_0 : LoopD := { id := 0, body := loopAt 0 (bodyOf Try.f35), head := P35_0h, out := P35_0x, ret := default }
theorem l35_0_is {R : Type} (G : ORC R) (k : Nat) (X : List V → Option R) (K : Ex → St → Option R) (xl5 : List V) (xi6 xi7 : Int) (xl8 xl9 xl10 : List V) (xi11 : Int) :
    roundOf (TAB.env 35) G (L35 G k) D35_0 X K [.sl 1 xl5, .int .i64 xi6, .int .i64 xi7, .sl 7 xl8, .sl 1 xl9, .sl 1 xl10, .int .i64 xi11] = b35_0 G k (fun xl5 xi6 xi7 xl8 xl9 xl10 xi11 => X [.sl 1 xl5, .int .i64 xi6, .int .i64 xi7, .sl 7 xl8, .sl 1 xl9, .sl 1 xl10, .int .i64 xi11]) (fun yl19 yl20 yl21 yl22 yi23 => K .normal (P35_0x.inst [.sl 1 yl19, .sl 7 yl20, .sl 1 yl21, .sl 1 yl22, .int .i64 yi23])) xl5 xi6 xi7 xl8 xl9 xl10 xi11 := by kernel_rfl
theorem f35_is {R : Type} (G : ORC R) (k : Nat) (K : List V → Option R) (bl1 bl2 bl3 : List V) (bi4 : Int) :
    callF (TAB.env 35) G (L35 G k) Try.f35 S35 [.sl 7 bl1, .sl 1 bl2, .sl 1 bl3, .int .i64 bi4] K = f35 G k bl1 bl2 bl3 bi4 K := by kernel_rfl
theorem li35_0 {R : Type} (G : ORC R) (k : Nat) : LoopIs (TAB.env 35) G (L35 G k) 0 (loopAt 0 (bodyOf Try.f35)) :=
  ⟨D35_0, fun j vs K => rd35_0 G k K j vs, k, rfl, rfl, by kernel_rfl, by kernel_rfl, by kernel_rfl, (fun vs K => by unfold rd35_0; dsimp only; split <;> rfl),
    (fun j vs K r h => by
      unfold rd35_0 at h
      dsimp only at h
      split at h
      · rw [l35_0_is]; exact h
      · cases h), (fun S K r h => h)⟩
theorem lo35 : loopsOf (bodyOf Try.f35) = [(0, loopAt 0 (bodyOf Try.f35))] := by kernel_rfl
theorem la35 {R : Type} (G : ORC R) (k : Nat) : LoopsAre (TAB.env 35) G (L35 G k) (bodyOf Try.f35) :=
  loopsAre_of (by rw [lo35]; intro p hp; simp only [List.mem_cons, List.not_mem_nil, or_false] at hp; subst hp; exact li35_0 G k)
def g35 {R : Type} (G : ORC R) (k : Nat) (args : List V) (K : List V → Option R) : Option R := match args with
  | [.sl 7 bl1, .sl 1 bl2, .sl 1 bl3, .int .i64 bi4] => f35 G k bl1 bl2 bl3 bi4 K
  | _ => none
theorem s35 {R : Type} {G : ORC R} {k : Nat} (hG : Sound Try.prog TAB G) (args : List V) (K : List V → Option R) (r : R) (h : g35 G k args K = some r) : ∃ o, CallOK Try.prog TAB.env 35 args o ∧ K o = some r := by
  unfold g35 at h
  split at h
  · rw [← f35_is] at h
    exact callF_sound (f := 35) TAB_chk MO hG Try.func35 (sg := S35) (by kernel_rfl) (by kernel_rfl) (la35 G k) h
  · cases h
def L40 {R : Type} (_ : ORC R) (_ : Nat) : Nat → St → (Ex → St → Option R) → Option R := fun _ _ _ => none
def f40 {R : Type} (G : ORC R) (k : Nat) (al1 : List V) (ai2 : Int) (K : List V → Option R) : Option R :=
  (bif (decide (ai2 ≥ 0)) then (K [.bool (decide (ai2 < (al1.length : Int)))]) else (K [.bool false]))
theorem f40_is {R : Type} (G : ORC R) (k : Nat) (K : List V → Option R) (al1 : List V) (ai2 : Int) :
    callF (TAB.env 40) G (L40 G k) Try.f40 S40 [.sl 7 al1, .int .i64 ai2] K = f40 G k al1 ai2 K := by kernel_rfl
theorem lo40 : loopsOf (bodyOf Try.f40) = [] := by kernel_rfl
theorem la40 {R : Type} (G : ORC R) (k : Nat) : LoopsAre (TAB.env 40) G (L40 G k) (bodyOf Try.f40) :=
  loopsAre_of (by rw [lo40]; intro p hp; cases hp)
def g40 {R : Type} (G : ORC R) (k : Nat) (args : List V) (K : List V → Option R) : Option R := match args with
  | [.sl 7 al1, .int .i64 ai2] => f40 G k al1 ai2 K
  | _ => none
theorem s40 {R : Type} {G : ORC R} {k : Nat} (hG : Sound Try.prog TAB G) (args : List V) (K : List V → Option R) (r : R) (h : g40 G k args K = some r) : ∃ o, CallOK Try.prog TAB.env 40 args o ∧ K o = some r := by
  unfold g40 at h
  split at h
  · rw [← f40_is] at h
    exact callF_sound (f := 40) TAB_chk MO hG Try.func40 (sg := S40) (by kernel_rfl) (by kernel_rfl) (la40 G k) h
  · cases h
def P42_0h : Pat := { tmps := unds [.var (.sl 7) .ro, .var (.int .i64) .pr, .undef, .undef, .undef, .var (.sl 1) (.own true), .undef, .undef, .var (.sl 7) .ro, .var (.int .i64) .pr, .var (.int .i64) .pr] 19 [], boxes := nons [] 30 [] }
def P42_0x : Pat := { tmps := unds [] 5 (unds [.var (.sl 1) (.own true)] 24 []), boxes := nons [] 30 [] }
def b42_0 {R : Type} (G : ORC R) (k : Nat) (X : List V → Int → List V → List V → Int → Int → Option R) (Ko : List V → Option R) (xl3 : List V) (xi4 : Int) (xl5 xl6 : List V) (xi7 xi8 : Int) : Option R :=
  (bif (decide (xi8 < xi7)) then (bif ((decide (0 ≤ xi8)) && (decide (xi8 < (xl6.length : Int)))) then (nthK xl6 (Int.toNat xi8) fun e9 => V.asAgg e9 fun l10 => ce7 l10 fun c11 c12 c13 c14 c15 c16 c17 => aI .i64 c11 fun n26 => aI .i64 c12 fun n27 => aI .i64 c13 fun n28 => aI .i64 c14 fun n29 => aI .i64 c15 fun n30 => aI .i64 c16 fun n31 => V.asStr c17 fun s32 => G 40 [.sl 7 xl3, .int .i64 xi4] fun o33 => uB o33 fun b35 r34 => unNil r34 (bif b35 then (bif (n27 == xi4) then (bif (decide (List.length xl5 + 1 ≤ 1073741824)) then (X xl3 xi4 (xl5 ++ [.int .i64 xi8]) xl6 xi7 (IntKind.i64.wrap (xi8 + 1))) else none) else (X xl3 xi4 xl5 xl6 xi7 (IntKind.i64.wrap (xi8 + 1)))) else (X xl3 xi4 xl5 xl6 xi7 (IntKind.i64.wrap (xi8 + 1))))) else none) else (Ko xl5))
def l42_0g {R : Type} (G : ORC R) (k : Nat) (Ko : List V → Option R) : Nat → List V → Int → List V → List V → Int → Int → Option R
  | 0 => fun _ _ _ _ _ _ => none
  | j + 1 => b42_0 G k (l42_0g G k Ko j) Ko
def l42_0 {R : Type} (G : ORC R) (k : Nat) (xl3 : List V) (xi4 : Int) (xl5 xl6 : List V) (xi7 xi8 : Int) (Ko : List V → Option R) : Option R := l42_0g G k Ko k xl3 xi4 xl5 xl6 xi7 xi8
def rd42_0 {R : Type} (G : ORC R) (k : Nat) (K : Ex → St → Option R) (j : Nat) (vs : List V) : Option R := match vs with
  | [.sl 7 xl3, .int .i64 xi4, .sl 1 xl5, .sl 7 xl6, .int .i64 xi7, .int .i64 xi8] => l42_0g G k (fun yl37 => K .normal (P42_0x.inst [.sl 1 yl37])) j xl3 xi4 xl5 xl6 xi7 xi8
  | _ => none
def L42 {R : Type} (G : ORC R) (k : Nat) : Nat → St → (Ex → St → Option R) → Option R
  | 0, S, K => P42_0h.mat S fun vs => rd42_0 G k K k vs
  | _, _, _ => none
def f42 {R : Type} (G : ORC R) (k : Nat) (al1 : List V) (ai2 : Int) (K : List V → Option R) : Option R :=
  (l42_0 G k al1 ai2 [] al1 (al1.length : Int) 0 (fun yl36 => K [.sl 1 yl36]))
noncomputable def D42_0 : LoopD := { id := 0, body := loopAt 0 (bodyOf Try.f42), head := P42_0h, out := P42_0x, ret := default }
theorem l42_0_is {R : Type} (G : ORC R) (k : Nat) (X : List V → Option R) (K : Ex → St → Option R) (xl3 : List V) (xi4 : Int) (xl5 xl6 : List V) (xi7 xi8 : Int) :
    roundOf (TAB.env 42) G (L42 G k) D42_0 X K [.sl 7 xl3, .int .i64 xi4, .sl 1 xl5, .sl 7 xl6, .int .i64 xi7, .int .i64 xi8] = b42_0 G k (fun xl3 xi4 xl5 xl6 xi7 xi8 => X [.sl 7 xl3, .int .i64 xi4, .sl 1 xl5, .sl 7 xl6, .int .i64 xi7, .int .i64 xi8]) (fun yl37 => K .normal (P42_0x.inst [.sl 1 yl37])) xl3 xi4 xl5 xl6 xi7 xi8 := by kernel_rfl
theorem f42_is {R : Type} (G : ORC R) (k : Nat) (K : List V → Option R) (al1 : List V) (ai2 : Int) :
    callF (TAB.env 42) G (L42 G k) Try.f42 S42 [.sl 7 al1, .int .i64 ai2] K = f42 G k al1 ai2 K := by kernel_rfl
theorem li42_0 {R : Type} (G : ORC R) (k : Nat) : LoopIs (TAB.env 42) G (L42 G k) 0 (loopAt 0 (bodyOf Try.f42)) :=
  ⟨D42_0, fun j vs K => rd42_0 G k K j vs, k, rfl, rfl, by kernel_rfl, by kernel_rfl, by kernel_rfl, (fun vs K => by unfold rd42_0; dsimp only; split <;> rfl),
    (fun j vs K r h => by
      unfold rd42_0 at h
      dsimp only at h
      split at h
      · rw [l42_0_is]; exact h
      · cases h), (fun S K r h => h)⟩
theorem lo42 : loopsOf (bodyOf Try.f42) = [(0, loopAt 0 (bodyOf Try.f42))] := by kernel_rfl
theorem la42 {R : Type} (G : ORC R) (k : Nat) : LoopsAre (TAB.env 42) G (L42 G k) (bodyOf Try.f42) :=
  loopsAre_of (by rw [lo42]; intro p hp; simp only [List.mem_cons, List.not_mem_nil, or_false] at hp; subst hp; exact li42_0 G k)
def g42 {R : Type} (G : ORC R) (k : Nat) (args : List V) (K : List V → Option R) : Option R := match args with
  | [.sl 7 al1, .int .i64 ai2] => f42 G k al1 ai2 K
  | _ => none
theorem s42 {R : Type} {G : ORC R} {k : Nat} (hG : Sound Try.prog TAB G) (args : List V) (K : List V → Option R) (r : R) (h : g42 G k args K = some r) : ∃ o, CallOK Try.prog TAB.env 42 args o ∧ K o = some r := by
  unfold g42 at h
  split at h
  · rw [← f42_is] at h
    exact callF_sound (f := 42) TAB_chk MO hG Try.func42 (sg := S42) (by kernel_rfl) (by kernel_rfl) (la42 G k) h
  · cases h
def L43 {R : Type} (_ : ORC R) (_ : Nat) : Nat → St → (Ex → St → Option R) → Option R := fun _ _ _ => none
def f43 {R : Type} (G : ORC R) (k : Nat) (ai1 ai2 : Int) (ai3 ai4 : Int) (ai5 ai6 : Int) (as7 : ByteArray) (K : List V → Option R) : Option R :=
  (bif (ai1 == 4) then (K [.bool true]) else (K [.bool (ai1 == 5)]))
theorem f43_is {R : Type} (G : ORC R) (k : Nat) (K : List V → Option R) (ai1 ai2 : Int) (ai3 ai4 : Int) (ai5 ai6 : Int) (as7 : ByteArray) :
    callF (TAB.env 43) G (L43 G k) Try.f43 S43 [.agg [.int .i64 ai1, .int .i64 ai2, .int .i64 ai3, .int .i64 ai4, .int .i64 ai5, .int .i64 ai6, .str as7]] K = f43 G k ai1 ai2 ai3 ai4 ai5 ai6 as7 K := by kernel_rfl
theorem lo43 : loopsOf (bodyOf Try.f43) = [] := by kernel_rfl
theorem la43 {R : Type} (G : ORC R) (k : Nat) : LoopsAre (TAB.env 43) G (L43 G k) (bodyOf Try.f43) :=
  loopsAre_of (by rw [lo43]; intro p hp; cases hp)
def g43 {R : Type} (G : ORC R) (k : Nat) (args : List V) (K : List V → Option R) : Option R := match args with
  | [.agg [.int .i64 ai1, .int .i64 ai2, .int .i64 ai3, .int .i64 ai4, .int .i64 ai5, .int .i64 ai6, .str as7]] => f43 G k ai1 ai2 ai3 ai4 ai5 ai6 as7 K
  | _ => none
theorem s43 {R : Type} {G : ORC R} {k : Nat} (hG : Sound Try.prog TAB G) (args : List V) (K : List V → Option R) (r : R) (h : g43 G k args K = some r) : ∃ o, CallOK Try.prog TAB.env 43 args o ∧ K o = some r := by
  unfold g43 at h
  split at h
  · rw [← f43_is] at h
    exact callF_sound (f := 43) TAB_chk MO hG Try.func43 (sg := S43) (by kernel_rfl) (by kernel_rfl) (la43 G k) h
  · cases h
def L44 {R : Type} (_ : ORC R) (_ : Nat) : Nat → St → (Ex → St → Option R) → Option R := fun _ _ _ => none
def f44 {R : Type} (G : ORC R) (k : Nat) (al1 : List V) (ai2 : Int) (K : List V → Option R) : Option R :=
  (G 63 [.sl 1 al1, .int .i64 ai2] fun o3 => uI .i64 o3 fun n5 r4 => unNil r4 (K [.bool (decide (n5 ≥ 0))]))
theorem f44_is {R : Type} (G : ORC R) (k : Nat) (K : List V → Option R) (al1 : List V) (ai2 : Int) :
    callF (TAB.env 44) G (L44 G k) Try.f44 S44 [.sl 1 al1, .int .i64 ai2] K = f44 G k al1 ai2 K := by kernel_rfl
theorem lo44 : loopsOf (bodyOf Try.f44) = [] := by kernel_rfl
theorem la44 {R : Type} (G : ORC R) (k : Nat) : LoopsAre (TAB.env 44) G (L44 G k) (bodyOf Try.f44) :=
  loopsAre_of (by rw [lo44]; intro p hp; cases hp)
def g44 {R : Type} (G : ORC R) (k : Nat) (args : List V) (K : List V → Option R) : Option R := match args with
  | [.sl 1 al1, .int .i64 ai2] => f44 G k al1 ai2 K
  | _ => none
theorem s44 {R : Type} {G : ORC R} {k : Nat} (hG : Sound Try.prog TAB G) (args : List V) (K : List V → Option R) (r : R) (h : g44 G k args K = some r) : ∃ o, CallOK Try.prog TAB.env 44 args o ∧ K o = some r := by
  unfold g44 at h
  split at h
  · rw [← f44_is] at h
    exact callF_sound (f := 44) TAB_chk MO hG Try.func44 (sg := S44) (by kernel_rfl) (by kernel_rfl) (la44 G k) h
  · cases h
def g45 {R : Type} (G : ORC R) (k : Nat) (args : List V) (K : List V → Option R) : Option R := match args with
  | [.sl 1 l] => bif decide (l.length ≤ 1000000) then (bif flats l then K [.sl 1 l] else none) else none
  | _ => none
theorem cloneI {l : List V} (h : l.length ≤ 1000000) (hp : flats l = true) : ∃ q, callN (TAB.env 45) Try.f45 S45 [.sl 1 l] = some ([.sl 1 l], q) ∧ ∀ o1, q = some o1 → o1 = [.sl 1 l] := by
  cases l with
  | nil => exact ⟨some [.sl 1 []], by kernel_rfl, fun o1 h => by cases h; rfl⟩
  | cons v r =>
    refine ⟨none, ?_, fun o1 h => by cases h⟩
    have e : callN (TAB.env 45) Try.f45 S45 [.sl 1 (v :: r)] = (bif decide (([] : List V).length + (v :: r).length ≤ 1073741824) then (bif flats (v :: r) then some [V.sl 1 ([] ++ (v :: r))] else none) else none).bind fun o0 => some (o0, none) := by kernel_rfl
    rw [e, decide_eq_true (by simp at h ⊢; omega), hp]
    rfl
theorem s45 {R : Type} {G : ORC R} {k : Nat} (hG : Sound Try.prog TAB G) (args : List V) (K : List V → Option R) (r : R) (h : g45 G k args K = some r) : ∃ o, CallOK Try.prog TAB.env 45 args o ∧ K o = some r := by
  unfold g45 at h
  split at h
  · rename_i l
    by_cases hl : l.length ≤ 1000000
    · rw [decide_eq_true hl] at h
      cases hp : flats l with
      | false => rw [hp] at h; cases h
      | true =>
      rw [hp] at h
      obtain ⟨q, e, hq⟩ := cloneI hl hp
      exact ⟨_, callN_sound (f := 45) TAB_chk MO Try.func45 (sg := S45) (by kernel_rfl) (by kernel_rfl) (fun {R} => loopsAre_of (by rw [show loopsOf (bodyOf Try.f45) = [] from by kernel_rfl]; intro p hp; cases hp)) e hq, h⟩
    · rw [decide_eq_false hl] at h; cases h
  · cases h
def L46 {R : Type} (_ : ORC R) (_ : Nat) : Nat → St → (Ex → St → Option R) → Option R := fun _ _ _ => none
def f46 {R : Type} (G : ORC R) (k : Nat) (al1 : List V) (ai2 ai3 : Int) (K : List V → Option R) : Option R :=
  (bif (ai2 != ai3) then (G 64 [.sl 7 al1, .int .i64 ai2, .int .i64 ai3] fun o4 => uB o4 fun b6 r5 => unNil r5 (K [.bool b6])) else (K [.bool false]))
theorem f46_is {R : Type} (G : ORC R) (k : Nat) (K : List V → Option R) (al1 : List V) (ai2 ai3 : Int) :
    callF (TAB.env 46) G (L46 G k) Try.f46 S46 [.sl 7 al1, .int .i64 ai2, .int .i64 ai3] K = f46 G k al1 ai2 ai3 K := by kernel_rfl
theorem lo46 : loopsOf (bodyOf Try.f46) = [] := by kernel_rfl
theorem la46 {R : Type} (G : ORC R) (k : Nat) : LoopsAre (TAB.env 46) G (L46 G k) (bodyOf Try.f46) :=
  loopsAre_of (by rw [lo46]; intro p hp; cases hp)
def g46 {R : Type} (G : ORC R) (k : Nat) (args : List V) (K : List V → Option R) : Option R := match args with
  | [.sl 7 al1, .int .i64 ai2, .int .i64 ai3] => f46 G k al1 ai2 ai3 K
  | _ => none
theorem s46 {R : Type} {G : ORC R} {k : Nat} (hG : Sound Try.prog TAB G) (args : List V) (K : List V → Option R) (r : R) (h : g46 G k args K = some r) : ∃ o, CallOK Try.prog TAB.env 46 args o ∧ K o = some r := by
  unfold g46 at h
  split at h
  · rw [← f46_is] at h
    exact callF_sound (f := 46) TAB_chk MO hG Try.func46 (sg := S46) (by kernel_rfl) (by kernel_rfl) (la46 G k) h
  · cases h
def P58_0h : Pat := { tmps := unds [.var (.sl 7) .ro, .var (.int .i64) .pr, .undef, .undef, .undef, .var (.sl 1) (.own true), .var (.int .i64) .pr] 23 [], boxes := nons [] 30 [] }
def P58_0x : Pat := { tmps := unds [] 5 (unds [.var (.sl 1) (.own true)] 24 []), boxes := nons [] 30 [] }
def b58_0 {R : Type} (G : ORC R) (k : Nat) (X : List V → Int → List V → Int → Option R) (Ko : List V → Option R) (xl3 : List V) (xi4 : Int) (xl5 : List V) (xi6 : Int) : Option R :=
  (bif (decide (xi6 < (xl3.length : Int))) then (G 30 [.sl 7 xl3, .int .i64 xi4] fun o7 => uB o7 fun b9 r8 => unNil r8 (bif b9 then (bif ((decide (0 ≤ xi6)) && (decide (xi6 < (xl3.length : Int)))) then (nthK xl3 (Int.toNat xi6) fun e10 => ca7 e10 fun c11 c12 c13 c14 c15 c16 c17 => aI .i64 c12 fun n18 => bif (n18 == xi4) then (bif (decide (List.length xl5 + 1 ≤ 1073741824)) then (X xl3 xi4 (xl5 ++ [.int .i64 xi6]) (IntKind.i64.wrap (xi6 + 1))) else none) else (X xl3 xi4 xl5 (IntKind.i64.wrap (xi6 + 1)))) else none) else (Ko xl5))) else (Ko xl5))
def l58_0g {R : Type} (G : ORC R) (k : Nat) (Ko : List V → Option R) : Nat → List V → Int → List V → Int → Option R
  | 0 => fun _ _ _ _ => none
  | j + 1 => b58_0 G k (l58_0g G k Ko j) Ko
def l58_0 {R : Type} (G : ORC R) (k : Nat) (xl3 : List V) (xi4 : Int) (xl5 : List V) (xi6 : Int) (Ko : List V → Option R) : Option R := l58_0g G k Ko k xl3 xi4 xl5 xi6
def rd58_0 {R : Type} (G : ORC R) (k : Nat) (K : Ex → St → Option R) (j : Nat) (vs : List V) : Option R := match vs with
  | [.sl 7 xl3, .int .i64 xi4, .sl 1 xl5, .int .i64 xi6] => l58_0g G k (fun yl20 => K .normal (P58_0x.inst [.sl 1 yl20])) j xl3 xi4 xl5 xi6
  | _ => none
def L58 {R : Type} (G : ORC R) (k : Nat) : Nat → St → (Ex → St → Option R) → Option R
  | 0, S, K => P58_0h.mat S fun vs => rd58_0 G k K k vs
  | _, _, _ => none
def f58 {R : Type} (G : ORC R) (k : Nat) (al1 : List V) (ai2 : Int) (K : List V → Option R) : Option R :=
  (l58_0 G k al1 ai2 [] 0 (fun yl19 => K [.sl 1 yl19]))
noncomputable def D58_0 : LoopD := { id := 0, body := loopAt 0 (bodyOf Try.f58), head := P58_0h, out := P58_0x, ret := default }
theorem l58_0_is {R : Type} (G : ORC R) (k : Nat) (X : List V → Option R) (K : Ex → St → Option R) (xl3 : List V) (xi4 : Int) (xl5 : List V) (xi6 : Int) :
    roundOf (TAB.env 58) G (L58 G k) D58_0 X K [.sl 7 xl3, .int .i64 xi4, .sl 1 xl5, .int .i64 xi6] = b58_0 G k (fun xl3 xi4 xl5 xi6 => X [.sl 7 xl3, .int .i64 xi4, .sl 1 xl5, .int .i64 xi6]) (fun yl20 => K .normal (P58_0x.inst [.sl 1 yl20])) xl3 xi4 xl5 xi6 := by kernel_rfl
theorem f58_is {R : Type} (G : ORC R) (k : Nat) (K : List V → Option R) (al1 : List V) (ai2 : Int) :
    callF (TAB.env 58) G (L58 G k) Try.f58 S58 [.sl 7 al1, .int .i64 ai2] K = f58 G k al1 ai2 K := by kernel_rfl
theorem li58_0 {R : Type} (G : ORC R) (k : Nat) : LoopIs (TAB.env 58) G (L58 G k) 0 (loopAt 0 (bodyOf Try.f58)) :=
  ⟨D58_0, fun j vs K => rd58_0 G k K j vs, k, rfl, rfl, by kernel_rfl, by kernel_rfl, by kernel_rfl, (fun vs K => by unfold rd58_0; dsimp only; split <;> rfl),
    (fun j vs K r h => by
      unfold rd58_0 at h
      dsimp only at h
      split at h
      · rw [l58_0_is]; exact h
      · cases h), (fun S K r h => h)⟩
theorem lo58 : loopsOf (bodyOf Try.f58) = [(0, loopAt 0 (bodyOf Try.f58))] := by kernel_rfl
theorem la58 {R : Type} (G : ORC R) (k : Nat) : LoopsAre (TAB.env 58) G (L58 G k) (bodyOf Try.f58) :=
  loopsAre_of (by rw [lo58]; intro p hp; simp only [List.mem_cons, List.not_mem_nil, or_false] at hp; subst hp; exact li58_0 G k)
def g58 {R : Type} (G : ORC R) (k : Nat) (args : List V) (K : List V → Option R) : Option R := match args with
  | [.sl 7 al1, .int .i64 ai2] => f58 G k al1 ai2 K
  | _ => none
theorem s58 {R : Type} {G : ORC R} {k : Nat} (hG : Sound Try.prog TAB G) (args : List V) (K : List V → Option R) (r : R) (h : g58 G k args K = some r) : ∃ o, CallOK Try.prog TAB.env 58 args o ∧ K o = some r := by
  unfold g58 at h
  split at h
  · rw [← f58_is] at h
    exact callF_sound (f := 58) TAB_chk MO hG Try.func58 (sg := S58) (by kernel_rfl) (by kernel_rfl) (la58 G k) h
  · cases h
def L59 {R : Type} (_ : ORC R) (_ : Nat) : Nat → St → (Ex → St → Option R) → Option R := fun _ _ _ => none
def f59 {R : Type} (G : ORC R) (k : Nat) (bl1 bl2 bl3 : List V) (bi4 : Int) (K : List V → Option R) : Option R :=
  (K [.bool (decide ((IntKind.i64.wrap (bi4 - 1)) ≥ 0)), .sl 1 bl3, .int .i64 (IntKind.i64.wrap (bi4 - 1))])
theorem f59_is {R : Type} (G : ORC R) (k : Nat) (K : List V → Option R) (bl1 bl2 bl3 : List V) (bi4 : Int) :
    callF (TAB.env 59) G (L59 G k) Try.f59 S59 [.sl 7 bl1, .sl 1 bl2, .sl 1 bl3, .int .i64 bi4] K = f59 G k bl1 bl2 bl3 bi4 K := by kernel_rfl
theorem lo59 : loopsOf (bodyOf Try.f59) = [] := by kernel_rfl
theorem la59 {R : Type} (G : ORC R) (k : Nat) : LoopsAre (TAB.env 59) G (L59 G k) (bodyOf Try.f59) :=
  loopsAre_of (by rw [lo59]; intro p hp; cases hp)
def g59 {R : Type} (G : ORC R) (k : Nat) (args : List V) (K : List V → Option R) : Option R := match args with
  | [.sl 7 bl1, .sl 1 bl2, .sl 1 bl3, .int .i64 bi4] => f59 G k bl1 bl2 bl3 bi4 K
  | _ => none
theorem s59 {R : Type} {G : ORC R} {k : Nat} (hG : Sound Try.prog TAB G) (args : List V) (K : List V → Option R) (r : R) (h : g59 G k args K = some r) : ∃ o, CallOK Try.prog TAB.env 59 args o ∧ K o = some r := by
  unfold g59 at h
  split at h
  · rw [← f59_is] at h
    exact callF_sound (f := 59) TAB_chk MO hG Try.func59 (sg := S59) (by kernel_rfl) (by kernel_rfl) (la59 G k) h
  · cases h
def P60_0h : Pat := { tmps := unds [.stat (.one (.ptr 0 0) .pt)] 19 (unds [.var (.sl 1) .ro, .var (.int .i64) .pr, .var (.int .i64) .pr] 10 []), boxes := nons [some [.var (.sl 7) .ro true, .var (.sl 1) .ro true, .var (.sl 1) (.own true) false, .var (.int .i64) .pr false]] 33 [] }
def P60_0x : Pat := { tmps := unds [] 33 [], boxes := nons [some [.var (.sl 7) .ro true, .var (.sl 1) .ro true, .var (.sl 1) (.own true) false, .var (.int .i64) .pr false]] 33 [] }
def b60_0 {R : Type} (G : ORC R) (k : Nat) (X : List V → Int → Int → List V → List V → List V → Int → Option R) (Ko : List V → List V → List V → Int → Option R) (xl18 : List V) (xi19 xi20 : Int) (xl21 xl22 xl23 : List V) (xi24 : Int) : Option R :=
  (bif (decide (xi20 < xi19)) then (bif ((decide (0 ≤ xi20)) && (decide (xi20 < (xl18.length : Int)))) then (nthK xl18 (Int.toNat xi20) fun e25 => aI .i64 e25 fun n26 => G 74 [.int .i64 n26, .sl 7 xl21, .sl 1 xl22, .sl 1 xl23, .int .i64 xi24] fun o27 => uB o27 fun b29 r28 => uL 1 r28 fun l31 r30 => uI .i64 r30 fun n33 r32 => unNil r32 (bif b29 then (G 32 [.int .i64 n26, .sl 7 xl21, .sl 1 xl22, .sl 1 l31, .int .i64 n33] fun o34 => uL 1 o34 fun l36 r35 => uI .i64 r35 fun n38 r37 => unNil r37 (X xl18 xi19 (IntKind.i64.wrap (xi20 + 1)) xl21 xl22 l36 n38)) else (X xl18 xi19 (IntKind.i64.wrap (xi20 + 1)) xl21 xl22 l31 n33))) else none) else (Ko xl21 xl22 xl23 xi24))
def l60_0g {R : Type} (G : ORC R) (k : Nat) (Ko : List V → List V → List V → Int → Option R) : Nat → List V → Int → Int → List V → List V → List V → Int → Option R
  | 0 => fun _ _ _ _ _ _ _ => none
  | j + 1 => b60_0 G k (l60_0g G k Ko j) Ko
def l60_0 {R : Type} (G : ORC R) (k : Nat) (xl18 : List V) (xi19 xi20 : Int) (xl21 xl22 xl23 : List V) (xi24 : Int) (Ko : List V → List V → List V → Int → Option R) : Option R := l60_0g G k Ko k xl18 xi19 xi20 xl21 xl22 xl23 xi24
def rd60_0 {R : Type} (G : ORC R) (k : Nat) (K : Ex → St → Option R) (j : Nat) (vs : List V) : Option R := match vs with
  | [.sl 1 xl18, .int .i64 xi19, .int .i64 xi20, .sl 7 xl21, .sl 1 xl22, .sl 1 xl23, .int .i64 xi24] => l60_0g G k (fun yl43 yl44 yl45 yi46 => K .normal (P60_0x.inst [.sl 7 yl43, .sl 1 yl44, .sl 1 yl45, .int .i64 yi46])) j xl18 xi19 xi20 xl21 xl22 xl23 xi24
  | _ => none
def L60 {R : Type} (G : ORC R) (k : Nat) : Nat → St → (Ex → St → Option R) → Option R
  | 0, S, K => P60_0h.mat S fun vs => rd60_0 G k K k vs
  | _, _, _ => none
def f60 {R : Type} (G : ORC R) (k : Nat) (ai1 : Int) (bl2 bl3 bl4 : List V) (bi5 : Int) (K : List V → Option R) : Option R :=
  (bif ((decide (0 ≤ ai1)) && (decide (ai1 < (bl2.length : Int)))) then (nthK bl2 (Int.toNat ai1) fun e6 => ca7 e6 fun c7 c8 c9 c10 c11 c12 c13 => aI .i64 c7 fun n14 => bif (n14 != 3) then (K [.sl 1 bl4, .int .i64 bi5]) else (G 61 [.sl 7 bl2, .int .i64 ai1] fun o15 => uL 1 o15 fun l17 r16 => unNil r16 (l60_0 G k l17 (l17.length : Int) 0 bl2 bl3 bl4 bi5 (fun yl39 yl40 yl41 yi42 => K [.sl 1 yl41, .int .i64 yi42])))) else none)
noncomputable def D60_0 : LoopD := { id := 0, body := loopAt 0 (bodyOf Try.f60), head := P60_0h, out := P60_0x, ret := default }
theorem l60_0_is {R : Type} (G : ORC R) (k : Nat) (X : List V → Option R) (K : Ex → St → Option R) (xl18 : List V) (xi19 xi20 : Int) (xl21 xl22 xl23 : List V) (xi24 : Int) :
    roundOf (TAB.env 60) G (L60 G k) D60_0 X K [.sl 1 xl18, .int .i64 xi19, .int .i64 xi20, .sl 7 xl21, .sl 1 xl22, .sl 1 xl23, .int .i64 xi24] = b60_0 G k (fun xl18 xi19 xi20 xl21 xl22 xl23 xi24 => X [.sl 1 xl18, .int .i64 xi19, .int .i64 xi20, .sl 7 xl21, .sl 1 xl22, .sl 1 xl23, .int .i64 xi24]) (fun yl43 yl44 yl45 yi46 => K .normal (P60_0x.inst [.sl 7 yl43, .sl 1 yl44, .sl 1 yl45, .int .i64 yi46])) xl18 xi19 xi20 xl21 xl22 xl23 xi24 := by kernel_rfl
theorem f60_is {R : Type} (G : ORC R) (k : Nat) (K : List V → Option R) (ai1 : Int) (bl2 bl3 bl4 : List V) (bi5 : Int) :
    callF (TAB.env 60) G (L60 G k) Try.f60 S60 [.int .i64 ai1, .sl 7 bl2, .sl 1 bl3, .sl 1 bl4, .int .i64 bi5] K = f60 G k ai1 bl2 bl3 bl4 bi5 K := by kernel_rfl
theorem li60_0 {R : Type} (G : ORC R) (k : Nat) : LoopIs (TAB.env 60) G (L60 G k) 0 (loopAt 0 (bodyOf Try.f60)) :=
  ⟨D60_0, fun j vs K => rd60_0 G k K j vs, k, rfl, rfl, by kernel_rfl, by kernel_rfl, by kernel_rfl, (fun vs K => by unfold rd60_0; dsimp only; split <;> rfl),
    (fun j vs K r h => by
      unfold rd60_0 at h
      dsimp only at h
      split at h
      · rw [l60_0_is]; exact h
      · cases h), (fun S K r h => h)⟩
theorem lo60 : loopsOf (bodyOf Try.f60) = [(0, loopAt 0 (bodyOf Try.f60))] := by kernel_rfl
theorem la60 {R : Type} (G : ORC R) (k : Nat) : LoopsAre (TAB.env 60) G (L60 G k) (bodyOf Try.f60) :=
  loopsAre_of (by rw [lo60]; intro p hp; simp only [List.mem_cons, List.not_mem_nil, or_false] at hp; subst hp; exact li60_0 G k)
def g60 {R : Type} (G : ORC R) (k : Nat) (args : List V) (K : List V → Option R) : Option R := match args with
  | [.int .i64 ai1, .sl 7 bl2, .sl 1 bl3, .sl 1 bl4, .int .i64 bi5] => f60 G k ai1 bl2 bl3 bl4 bi5 K
  | _ => none
theorem s60 {R : Type} {G : ORC R} {k : Nat} (hG : Sound Try.prog TAB G) (args : List V) (K : List V → Option R) (r : R) (h : g60 G k args K = some r) : ∃ o, CallOK Try.prog TAB.env 60 args o ∧ K o = some r := by
  unfold g60 at h
  split at h
  · rw [← f60_is] at h
    exact callF_sound (f := 60) TAB_chk MO hG Try.func60 (sg := S60) (by kernel_rfl) (by kernel_rfl) (la60 G k) h
  · cases h
def L61 {R : Type} (_ : ORC R) (_ : Nat) : Nat → St → (Ex → St → Option R) → Option R := fun _ _ _ => none
def f61 {R : Type} (G : ORC R) (k : Nat) (al1 : List V) (ai2 : Int) (K : List V → Option R) : Option R :=
  (G 42 [.sl 7 al1, .int .i64 ai2] fun o3 => uL 1 o3 fun l5 r4 => unNil r4 (G 65611 [.sl 1 l5, .sl 7 al1] fun o6 => uL 1 o6 fun l8 r7 => unNil r7 (K [.sl 1 l8])))
theorem f61_is {R : Type} (G : ORC R) (k : Nat) (K : List V → Option R) (al1 : List V) (ai2 : Int) :
    callF (TAB.env 61) G (L61 G k) Try.f61 S61 [.sl 7 al1, .int .i64 ai2] K = f61 G k al1 ai2 K := by kernel_rfl
theorem lo61 : loopsOf (bodyOf Try.f61) = [] := by kernel_rfl
theorem la61 {R : Type} (G : ORC R) (k : Nat) : LoopsAre (TAB.env 61) G (L61 G k) (bodyOf Try.f61) :=
  loopsAre_of (by rw [lo61]; intro p hp; cases hp)
def g61 {R : Type} (G : ORC R) (k : Nat) (args : List V) (K : List V → Option R) : Option R := match args with
  | [.sl 7 al1, .int .i64 ai2] => f61 G k al1 ai2 K
  | _ => none
theorem s61 {R : Type} {G : ORC R} {k : Nat} (hG : Sound Try.prog TAB G) (args : List V) (K : List V → Option R) (r : R) (h : g61 G k args K = some r) : ∃ o, CallOK Try.prog TAB.env 61 args o ∧ K o = some r := by
  unfold g61 at h
  split at h
  · rw [← f61_is] at h
    exact callF_sound (f := 61) TAB_chk MO hG Try.func61 (sg := S61) (by kernel_rfl) (by kernel_rfl) (la61 G k) h
  · cases h
def P63_0h : Pat := { tmps := unds [.var (.sl 1) .ro, .var (.int .i64) .pr] 5 (unds [.var (.int .i64) .pr, .var (.int .i64) .pr] 10 []), boxes := nons [] 19 [] }
def P63_0x : Pat := { tmps := unds [] 19 [], boxes := nons [] 19 [] }
def P63_0r : Pat := { tmps := unds [.undef, .undef, .undef, .undef, .var (.int .i64) .pr] 14 [], boxes := nons [] 19 [] }
def b63_0 {R : Type} (G : ORC R) (k : Nat) (X : List V → Int → Int → Int → Option R) (Ko : Unit → Option R) (Kr : Int → Option R) (xl3 : List V) (xi4 xi5 xi6 : Int) : Option R :=
  (bif (decide (xi6 < xi5)) then (bif ((decide (0 ≤ xi6)) && (decide (xi6 < (xl3.length : Int)))) then (nthK xl3 (Int.toNat xi6) fun e7 => aI .i64 e7 fun n8 => bif (xi4 == n8) then (Kr xi6) else (X xl3 xi4 xi5 (IntKind.i64.wrap (xi6 + 1)))) else none) else (Ko ()))
def l63_0g {R : Type} (G : ORC R) (k : Nat) (Ko : Unit → Option R) (Kr : Int → Option R) : Nat → List V → Int → Int → Int → Option R
  | 0 => fun _ _ _ _ => none
  | j + 1 => b63_0 G k (l63_0g G k Ko Kr j) Ko Kr
def l63_0 {R : Type} (G : ORC R) (k : Nat) (xl3 : List V) (xi4 xi5 xi6 : Int) (Ko : Unit → Option R) (Kr : Int → Option R) : Option R := l63_0g G k Ko Kr k xl3 xi4 xi5 xi6
def rd63_0 {R : Type} (G : ORC R) (k : Nat) (K : Ex → St → Option R) (j : Nat) (vs : List V) : Option R := match vs with
  | [.sl 1 xl3, .int .i64 xi4, .int .i64 xi5, .int .i64 xi6] => l63_0g G k (fun _ => K .normal (P63_0x.inst [])) (fun yi10 => K .ret (P63_0r.inst [.int .i64 yi10])) j xl3 xi4 xi5 xi6
  | _ => none
def L63 {R : Type} (G : ORC R) (k : Nat) : Nat → St → (Ex → St → Option R) → Option R
  | 0, S, K => P63_0h.mat S fun vs => rd63_0 G k K k vs
  | _, _, _ => none
def f63 {R : Type} (G : ORC R) (k : Nat) (al1 : List V) (ai2 : Int) (K : List V → Option R) : Option R :=
  (l63_0 G k al1 ai2 (al1.length : Int) 0 (fun (_ : Unit) => K [.int .i64 (-1)]) (fun yi9 => K [.int .i64 yi9]))
noncomputable def D63_0 : LoopD := { id := 0, body := loopAt 0 (bodyOf Try.f63), head := P63_0h, out := P63_0x, ret := P63_0r }
theorem l63_0_is {R : Type} (G : ORC R) (k : Nat) (X : List V → Option R) (K : Ex → St → Option R) (xl3 : List V) (xi4 xi5 xi6 : Int) :
    roundOf (TAB.env 63) G (L63 G k) D63_0 X K [.sl 1 xl3, .int .i64 xi4, .int .i64 xi5, .int .i64 xi6] = b63_0 G k (fun xl3 xi4 xi5 xi6 => X [.sl 1 xl3, .int .i64 xi4, .int .i64 xi5, .int .i64 xi6]) (fun _ => K .normal (P63_0x.inst [])) (fun yi10 => K .ret (P63_0r.inst [.int .i64 yi10])) xl3 xi4 xi5 xi6 := by kernel_rfl
theorem f63_is {R : Type} (G : ORC R) (k : Nat) (K : List V → Option R) (al1 : List V) (ai2 : Int) :
    callF (TAB.env 63) G (L63 G k) Try.f63 S63 [.sl 1 al1, .int .i64 ai2] K = f63 G k al1 ai2 K := by kernel_rfl
theorem li63_0 {R : Type} (G : ORC R) (k : Nat) : LoopIs (TAB.env 63) G (L63 G k) 0 (loopAt 0 (bodyOf Try.f63)) :=
  ⟨D63_0, fun j vs K => rd63_0 G k K j vs, k, rfl, rfl, by kernel_rfl, by kernel_rfl, by kernel_rfl, (fun vs K => by unfold rd63_0; dsimp only; split <;> rfl),
    (fun j vs K r h => by
      unfold rd63_0 at h
      dsimp only at h
      split at h
      · rw [l63_0_is]; exact h
      · cases h), (fun S K r h => h)⟩
theorem lo63 : loopsOf (bodyOf Try.f63) = [(0, loopAt 0 (bodyOf Try.f63))] := by kernel_rfl
theorem la63 {R : Type} (G : ORC R) (k : Nat) : LoopsAre (TAB.env 63) G (L63 G k) (bodyOf Try.f63) :=
  loopsAre_of (by rw [lo63]; intro p hp; simp only [List.mem_cons, List.not_mem_nil, or_false] at hp; subst hp; exact li63_0 G k)
def g63 {R : Type} (G : ORC R) (k : Nat) (args : List V) (K : List V → Option R) : Option R := match args with
  | [.sl 1 al1, .int .i64 ai2] => f63 G k al1 ai2 K
  | _ => none
theorem s63 {R : Type} {G : ORC R} {k : Nat} (hG : Sound Try.prog TAB G) (args : List V) (K : List V → Option R) (r : R) (h : g63 G k args K = some r) : ∃ o, CallOK Try.prog TAB.env 63 args o ∧ K o = some r := by
  unfold g63 at h
  split at h
  · rw [← f63_is] at h
    exact callF_sound (f := 63) TAB_chk MO hG Try.func63 (sg := S63) (by kernel_rfl) (by kernel_rfl) (la63 G k) h
  · cases h
def L64 {R : Type} (_ : ORC R) (_ : Nat) : Nat → St → (Ex → St → Option R) → Option R := fun _ _ _ => none
def f64 {R : Type} (G : ORC R) (k : Nat) (al1 : List V) (ai2 ai3 : Int) (K : List V → Option R) : Option R :=
  (G 40 [.sl 7 al1, .int .i64 ai2] fun o4 => uB o4 fun b6 r5 => unNil r5 (bif b6 then (G 40 [.sl 7 al1, .int .i64 ai3] fun o7 => uB o7 fun b9 r8 => unNil r8 (bif b9 then (bif (decide (ai2 ≥ ai3)) then (bif ((decide (0 ≤ ai3)) && (decide (ai3 < (al1.length : Int)))) then (nthK al1 (Int.toNat ai3) fun e10 => ca7 e10 fun c11 c12 c13 c14 c15 c16 c17 => aI .i64 c13 fun n18 => K [.bool (decide (ai2 ≤ n18))]) else none) else (K [.bool false])) else (K [.bool false]))) else (K [.bool false])))
theorem f64_is {R : Type} (G : ORC R) (k : Nat) (K : List V → Option R) (al1 : List V) (ai2 ai3 : Int) :
    callF (TAB.env 64) G (L64 G k) Try.f64 S64 [.sl 7 al1, .int .i64 ai2, .int .i64 ai3] K = f64 G k al1 ai2 ai3 K := by kernel_rfl
theorem lo64 : loopsOf (bodyOf Try.f64) = [] := by kernel_rfl
theorem la64 {R : Type} (G : ORC R) (k : Nat) : LoopsAre (TAB.env 64) G (L64 G k) (bodyOf Try.f64) :=
  loopsAre_of (by rw [lo64]; intro p hp; cases hp)
def g64 {R : Type} (G : ORC R) (k : Nat) (args : List V) (K : List V → Option R) : Option R := match args with
  | [.sl 7 al1, .int .i64 ai2, .int .i64 ai3] => f64 G k al1 ai2 ai3 K
  | _ => none
theorem s64 {R : Type} {G : ORC R} {k : Nat} (hG : Sound Try.prog TAB G) (args : List V) (K : List V → Option R) (r : R) (h : g64 G k args K = some r) : ∃ o, CallOK Try.prog TAB.env 64 args o ∧ K o = some r := by
  unfold g64 at h
  split at h
  · rw [← f64_is] at h
    exact callF_sound (f := 64) TAB_chk MO hG Try.func64 (sg := S64) (by kernel_rfl) (by kernel_rfl) (la64 G k) h
  · cases h
def P74_0h : Pat := { tmps := unds [.stat (.one (.ptr 0 0) .pt), .var (.int .i64) .pr] 8 (unds [.stat (.ref (.b 0 2) 0), .var (.int .i64) .pr, .var (.int .i64) .pr] 15 []), boxes := nons [some [.var (.sl 7) .ro true, .var (.sl 1) .ro true, .var (.sl 1) (.own true) false, .var (.int .i64) .pr false]] 28 [] }
def P74_0x : Pat := { tmps := unds [] 28 [], boxes := nons [some [.var (.sl 7) .ro true, .var (.sl 1) .ro true, .var (.sl 1) (.own true) false, .var (.int .i64) .pr false]] 28 [] }
def P74_0r : Pat := { tmps := unds [.undef, .undef, .undef, .undef, .var .bool .pr] 23 [], boxes := nons [some [.var (.sl 7) .ro true, .var (.sl 1) .ro true, .var (.sl 1) (.own true) false, .var (.int .i64) .pr false]] 28 [] }
def b74_0 {R : Type} (G : ORC R) (k : Nat) (X : Int → Int → Int → List V → List V → List V → Int → Option R) (Ko : List V → List V → List V → Int → Option R) (Kr : Bool → List V → List V → List V → Int → Option R) (xi6 xi7 xi8 : Int) (xl9 xl10 xl11 : List V) (xi12 : Int) : Option R :=
  (bif (decide (xi8 < xi7)) then (bif ((decide (0 ≤ xi8)) && (decide (xi8 < (xl11.length : Int)))) then (nthK xl11 (Int.toNat xi8) fun e13 => V.asBool e13 fun b14 => bif b14 then (G 64 [.sl 7 xl9, .int .i64 xi8, .int .i64 xi6] fun o15 => uB o15 fun b17 r16 => unNil r16 (bif b17 then (Kr false xl9 xl10 xl11 xi12) else (X xi6 xi7 (IntKind.i64.wrap (xi8 + 1)) xl9 xl10 xl11 xi12))) else (X xi6 xi7 (IntKind.i64.wrap (xi8 + 1)) xl9 xl10 xl11 xi12)) else none) else (Ko xl9 xl10 xl11 xi12))
def l74_0g {R : Type} (G : ORC R) (k : Nat) (Ko : List V → List V → List V → Int → Option R) (Kr : Bool → List V → List V → List V → Int → Option R) : Nat → Int → Int → Int → List V → List V → List V → Int → Option R
  | 0 => fun _ _ _ _ _ _ _ => none
  | j + 1 => b74_0 G k (l74_0g G k Ko Kr j) Ko Kr
def l74_0 {R : Type} (G : ORC R) (k : Nat) (xi6 xi7 xi8 : Int) (xl9 xl10 xl11 : List V) (xi12 : Int) (Ko : List V → List V → List V → Int → Option R) (Kr : Bool → List V → List V → List V → Int → Option R) : Option R := l74_0g G k Ko Kr k xi6 xi7 xi8 xl9 xl10 xl11 xi12
def rd74_0 {R : Type} (G : ORC R) (k : Nat) (K : Ex → St → Option R) (j : Nat) (vs : List V) : Option R := match vs with
  | [.int .i64 xi6, .int .i64 xi7, .int .i64 xi8, .sl 7 xl9, .sl 1 xl10, .sl 1 xl11, .int .i64 xi12] => l74_0g G k (fun yl27 yl28 yl29 yi30 => K .normal (P74_0x.inst [.sl 7 yl27, .sl 1 yl28, .sl 1 yl29, .int .i64 yi30])) (fun yb31 yl32 yl33 yl34 yi35 => K .ret (P74_0r.inst [.bool yb31, .sl 7 yl32, .sl 1 yl33, .sl 1 yl34, .int .i64 yi35])) j xi6 xi7 xi8 xl9 xl10 xl11 xi12
  | _ => none
def L74 {R : Type} (G : ORC R) (k : Nat) : Nat → St → (Ex → St → Option R) → Option R
  | 0, S, K => P74_0h.mat S fun vs => rd74_0 G k K k vs
  | _, _, _ => none
def f74 {R : Type} (G : ORC R) (k : Nat) (ai1 : Int) (bl2 bl3 bl4 : List V) (bi5 : Int) (K : List V → Option R) : Option R :=
  (l74_0 G k ai1 (bl4.length : Int) 0 bl2 bl3 bl4 bi5 (fun yl18 yl19 yl20 yi21 => K [.bool true, .sl 1 yl20, .int .i64 yi21]) (fun yb22 yl23 yl24 yl25 yi26 => K [.bool yb22, .sl 1 yl25, .int .i64 yi26]))
noncomputable def D74_0 : LoopD := { id := 0, body := loopAt 0 (bodyOf Try.f74), head := P74_0h, out := P74_0x, ret := P74_0r }
theorem l74_0_is {R : Type} (G : ORC R) (k : Nat) (X : List V → Option R) (K : Ex → St → Option R) (xi6 xi7 xi8 : Int) (xl9 xl10 xl11 : List V) (xi12 : Int) :
    roundOf (TAB.env 74) G (L74 G k) D74_0 X K [.int .i64 xi6, .int .i64 xi7, .int .i64 xi8, .sl 7 xl9, .sl 1 xl10, .sl 1 xl11, .int .i64 xi12] = b74_0 G k (fun xi6 xi7 xi8 xl9 xl10 xl11 xi12 => X [.int .i64 xi6, .int .i64 xi7, .int .i64 xi8, .sl 7 xl9, .sl 1 xl10, .sl 1 xl11, .int .i64 xi12]) (fun yl27 yl28 yl29 yi30 => K .normal (P74_0x.inst [.sl 7 yl27, .sl 1 yl28, .sl 1 yl29, .int .i64 yi30])) (fun yb31 yl32 yl33 yl34 yi35 => K .ret (P74_0r.inst [.bool yb31, .sl 7 yl32, .sl 1 yl33, .sl 1 yl34, .int .i64 yi35])) xi6 xi7 xi8 xl9 xl10 xl11 xi12 := by kernel_rfl
theorem f74_is {R : Type} (G : ORC R) (k : Nat) (K : List V → Option R) (ai1 : Int) (bl2 bl3 bl4 : List V) (bi5 : Int) :
    callF (TAB.env 74) G (L74 G k) Try.f74 S74 [.int .i64 ai1, .sl 7 bl2, .sl 1 bl3, .sl 1 bl4, .int .i64 bi5] K = f74 G k ai1 bl2 bl3 bl4 bi5 K := by kernel_rfl
theorem li74_0 {R : Type} (G : ORC R) (k : Nat) : LoopIs (TAB.env 74) G (L74 G k) 0 (loopAt 0 (bodyOf Try.f74)) :=
  ⟨D74_0, fun j vs K => rd74_0 G k K j vs, k, rfl, rfl, by kernel_rfl, by kernel_rfl, by kernel_rfl, (fun vs K => by unfold rd74_0; dsimp only; split <;> rfl),
    (fun j vs K r h => by
      unfold rd74_0 at h
      dsimp only at h
      split at h
      · rw [l74_0_is]; exact h
      · cases h), (fun S K r h => h)⟩
theorem lo74 : loopsOf (bodyOf Try.f74) = [(0, loopAt 0 (bodyOf Try.f74))] := by kernel_rfl
theorem la74 {R : Type} (G : ORC R) (k : Nat) : LoopsAre (TAB.env 74) G (L74 G k) (bodyOf Try.f74) :=
  loopsAre_of (by rw [lo74]; intro p hp; simp only [List.mem_cons, List.not_mem_nil, or_false] at hp; subst hp; exact li74_0 G k)
def g74 {R : Type} (G : ORC R) (k : Nat) (args : List V) (K : List V → Option R) : Option R := match args with
  | [.int .i64 ai1, .sl 7 bl2, .sl 1 bl3, .sl 1 bl4, .int .i64 bi5] => f74 G k ai1 bl2 bl3 bl4 bi5 K
  | _ => none
theorem s74 {R : Type} {G : ORC R} {k : Nat} (hG : Sound Try.prog TAB G) (args : List V) (K : List V → Option R) (r : R) (h : g74 G k args K = some r) : ∃ o, CallOK Try.prog TAB.env 74 args o ∧ K o = some r := by
  unfold g74 at h
  split at h
  · rw [← f74_is] at h
    exact callF_sound (f := 74) TAB_chk MO hG Try.func74 (sg := S74) (by kernel_rfl) (by kernel_rfl) (la74 G k) h
  · cases h
def L76 {R : Type} (_ : ORC R) (_ : Nat) : Nat → St → (Ex → St → Option R) → Option R := fun _ _ _ => none
def f76 {R : Type} (G : ORC R) (k : Nat) (ai1 : Int) (bl2 : List V) (K : List V → Option R) : Option R :=
  (bif ((decide (0 ≤ ai1)) && (decide (ai1 < (bl2.length : Int)))) then (nthK bl2 (Int.toNat ai1) fun e3 => V.asAgg e3 fun l4 => G 43 [.agg l4] fun o5 => uB o5 fun b7 r6 => unNil r6 (K [.bool b7])) else none)
theorem f76_is {R : Type} (G : ORC R) (k : Nat) (K : List V → Option R) (ai1 : Int) (bl2 : List V) :
    callF (TAB.env 76) G (L76 G k) Try.f76 S76 [.int .i64 ai1, .sl 7 bl2] K = f76 G k ai1 bl2 K := by kernel_rfl
theorem lo76 : loopsOf (bodyOf Try.f76) = [] := by kernel_rfl
theorem la76 {R : Type} (G : ORC R) (k : Nat) : LoopsAre (TAB.env 76) G (L76 G k) (bodyOf Try.f76) :=
  loopsAre_of (by rw [lo76]; intro p hp; cases hp)
def g76 {R : Type} (G : ORC R) (k : Nat) (args : List V) (K : List V → Option R) : Option R := match args with
  | [.int .i64 ai1, .sl 7 bl2] => f76 G k ai1 bl2 K
  | _ => none
theorem s76 {R : Type} {G : ORC R} {k : Nat} (hG : Sound Try.prog TAB G) (args : List V) (K : List V → Option R) (r : R) (h : g76 G k args K = some r) : ∃ o, CallOK Try.prog TAB.env 76 args o ∧ K o = some r := by
  unfold g76 at h
  split at h
  · rw [← f76_is] at h
    exact callF_sound (f := 76) TAB_chk MO hG Try.func76 (sg := S76) (by kernel_rfl) (by kernel_rfl) (la76 G k) h
  · cases h
def P65611_0h : Pat := { tmps := unds [.var (.sl 1) .ro, .stat (.one (.fn 76 [.ptr 0 0]) .pt), .undef, .undef, .undef, .var (.int .i64) .pr, .var (.int .i64) .pr] 35 [], boxes := nons [some [.var (.sl 7) .ro true]] 42 [] }
def P65611_0x : Pat := { tmps := unds [.var (.sl 1) .ro, .undef, .undef, .undef, .undef, .var (.int .i64) .pr] 36 [], boxes := nons [some [.var (.sl 7) .ro true]] 42 [] }
def b65611_0 {R : Type} (G : ORC R) (k : Nat) (X : List V → Int → Int → List V → Option R) (Ko : List V → Int → List V → Option R) (xl6 : List V) (xi7 xi8 : Int) (xl9 : List V) : Option R :=
  (bif (decide (xi8 < (xl6.length : Int))) then (bif ((decide (0 ≤ xi8)) && (decide (xi8 < (xl6.length : Int)))) then (nthK xl6 (Int.toNat xi8) fun e10 => aI .i64 e10 fun n11 => G 76 [.int .i64 n11, .sl 7 xl9] fun o12 => uB o12 fun b14 r13 => unNil r13 (bif (!b14) then (bif ((decide (0 ≤ xi7)) && (decide (xi7 < (xl6.length : Int)))) then (nthK xl6 (Int.toNat xi7) fun e15 => none) else none) else (X xl6 xi7 (IntKind.i64.wrap (xi8 + 1)) xl9))) else none) else (Ko xl6 xi7 xl9))
def l65611_0g {R : Type} (G : ORC R) (k : Nat) (Ko : List V → Int → List V → Option R) : Nat → List V → Int → Int → List V → Option R
  | 0 => fun _ _ _ _ => none
  | j + 1 => b65611_0 G k (l65611_0g G k Ko j) Ko
def l65611_0 {R : Type} (G : ORC R) (k : Nat) (xl6 : List V) (xi7 xi8 : Int) (xl9 : List V) (Ko : List V → Int → List V → Option R) : Option R := l65611_0g G k Ko k xl6 xi7 xi8 xl9
def rd65611_0 {R : Type} (G : ORC R) (k : Nat) (K : Ex → St → Option R) (j : Nat) (vs : List V) : Option R := match vs with
  | [.sl 1 xl6, .int .i64 xi7, .int .i64 xi8, .sl 7 xl9] => l65611_0g G k (fun yl19 yi20 yl21 => K .normal (P65611_0x.inst [.sl 1 yl19, .int .i64 yi20, .sl 7 yl21])) j xl6 xi7 xi8 xl9
  | _ => none
def L65611 {R : Type} (G : ORC R) (k : Nat) : Nat → St → (Ex → St → Option R) → Option R
  | 0, S, K => P65611_0h.mat S fun vs => rd65611_0 G k K k vs
  | _, _, _ => none
def f65611 {R : Type} (G : ORC R) (k : Nat) (al1 bl2 : List V) (K : List V → Option R) : Option R :=
  (G 131137 [.sl 1 al1, .sl 7 bl2] fun o3 => uI .i64 o3 fun n5 r4 => unNil r4 (bif (n5 == (-1)) then (K [.sl 1 al1]) else (l65611_0 G k al1 n5 (IntKind.i64.wrap (n5 + 1)) bl2 (fun yl16 yi17 yl18 => bif (((decide (0 ≤ yi17)) && (decide (yi17 ≤ (yl16.length : Int)))) && (decide ((yl16.length : Int) ≤ (yl16.length : Int)))) then none else none))))
noncomputable def D65611_0 : LoopD := { id := 0, body := loopAt 0 (bodyOf Try.f75), head := P65611_0h, out := P65611_0x, ret := default }
theorem l65611_0_is {R : Type} (G : ORC R) (k : Nat) (X : List V → Option R) (K : Ex → St → Option R) (xl6 : List V) (xi7 xi8 : Int) (xl9 : List V) :
    roundOf (TAB.env 65611) G (L65611 G k) D65611_0 X K [.sl 1 xl6, .int .i64 xi7, .int .i64 xi8, .sl 7 xl9] = b65611_0 G k (fun xl6 xi7 xi8 xl9 => X [.sl 1 xl6, .int .i64 xi7, .int .i64 xi8, .sl 7 xl9]) (fun yl19 yi20 yl21 => K .normal (P65611_0x.inst [.sl 1 yl19, .int .i64 yi20, .sl 7 yl21])) xl6 xi7 xi8 xl9 := by kernel_rfl
theorem f65611_is {R : Type} (G : ORC R) (k : Nat) (K : List V → Option R) (al1 bl2 : List V) :
    callF (TAB.env 65611) G (L65611 G k) Try.f75 S65611 [.sl 1 al1, .sl 7 bl2] K = f65611 G k al1 bl2 K := by kernel_rfl
theorem li65611_0 {R : Type} (G : ORC R) (k : Nat) : LoopIs (TAB.env 65611) G (L65611 G k) 0 (loopAt 0 (bodyOf Try.f75)) :=
  ⟨D65611_0, fun j vs K => rd65611_0 G k K j vs, k, rfl, rfl, by kernel_rfl, by kernel_rfl, by kernel_rfl, (fun vs K => by unfold rd65611_0; dsimp only; split <;> rfl),
    (fun j vs K r h => by
      unfold rd65611_0 at h
      dsimp only at h
      split at h
      · rw [l65611_0_is]; exact h
      · cases h), (fun S K r h => h)⟩
theorem lo65611 : loopsOf (bodyOf Try.f75) = [(0, loopAt 0 (bodyOf Try.f75))] := by kernel_rfl
theorem la65611 {R : Type} (G : ORC R) (k : Nat) : LoopsAre (TAB.env 65611) G (L65611 G k) (bodyOf Try.f75) :=
  loopsAre_of (by rw [lo65611]; intro p hp; simp only [List.mem_cons, List.not_mem_nil, or_false] at hp; subst hp; exact li65611_0 G k)
def g65611 {R : Type} (G : ORC R) (k : Nat) (args : List V) (K : List V → Option R) : Option R := match args with
  | [.sl 1 al1, .sl 7 bl2] => f65611 G k al1 bl2 K
  | _ => none
theorem s65611 {R : Type} {G : ORC R} {k : Nat} (hG : Sound Try.prog TAB G) (args : List V) (K : List V → Option R) (r : R) (h : g65611 G k args K = some r) : ∃ o, CallOK Try.prog TAB.env 65611 args o ∧ K o = some r := by
  unfold g65611 at h
  split at h
  · rw [← f65611_is] at h
    exact callF_sound (f := 65611) TAB_chk MO hG Try.func75 (sg := S65611) (by kernel_rfl) (by kernel_rfl) (la65611 G k) h
  · cases h
def P131137_0h : Pat := { tmps := unds [.var (.sl 1) .ro, .stat (.one (.fn 76 [.ptr 0 0]) .pt)] 5 (unds [.var (.int .i64) .pr, .var (.int .i64) .pr] 10 []), boxes := nons [some [.var (.sl 7) .ro true]] 19 [] }
def P131137_0x : Pat := { tmps := unds [] 19 [], boxes := nons [some [.var (.sl 7) .ro true]] 19 [] }
def P131137_0r : Pat := { tmps := unds [.undef, .undef, .undef, .undef, .var (.int .i64) .pr] 14 [], boxes := nons [some [.var (.sl 7) .ro true]] 19 [] }
def b131137_0 {R : Type} (G : ORC R) (k : Nat) (X : List V → Int → Int → List V → Option R) (Ko : List V → Option R) (Kr : Int → List V → Option R) (xl3 : List V) (xi4 xi5 : Int) (xl6 : List V) : Option R :=
  (bif (decide (xi5 < xi4)) then (bif ((decide (0 ≤ xi5)) && (decide (xi5 < (xl3.length : Int)))) then (nthK xl3 (Int.toNat xi5) fun e7 => aI .i64 e7 fun n8 => G 76 [.int .i64 n8, .sl 7 xl6] fun o9 => uB o9 fun b11 r10 => unNil r10 (bif b11 then (Kr xi5 xl6) else (X xl3 xi4 (IntKind.i64.wrap (xi5 + 1)) xl6))) else none) else (Ko xl6))
def l131137_0g {R : Type} (G : ORC R) (k : Nat) (Ko : List V → Option R) (Kr : Int → List V → Option R) : Nat → List V → Int → Int → List V → Option R
  | 0 => fun _ _ _ _ => none
  | j + 1 => b131137_0 G k (l131137_0g G k Ko Kr j) Ko Kr
def l131137_0 {R : Type} (G : ORC R) (k : Nat) (xl3 : List V) (xi4 xi5 : Int) (xl6 : List V) (Ko : List V → Option R) (Kr : Int → List V → Option R) : Option R := l131137_0g G k Ko Kr k xl3 xi4 xi5 xl6
def rd131137_0 {R : Type} (G : ORC R) (k : Nat) (K : Ex → St → Option R) (j : Nat) (vs : List V) : Option R := match vs with
  | [.sl 1 xl3, .int .i64 xi4, .int .i64 xi5, .sl 7 xl6] => l131137_0g G k (fun yl15 => K .normal (P131137_0x.inst [.sl 7 yl15])) (fun yi16 yl17 => K .ret (P131137_0r.inst [.int .i64 yi16, .sl 7 yl17])) j xl3 xi4 xi5 xl6
  | _ => none
def L131137 {R : Type} (G : ORC R) (k : Nat) : Nat → St → (Ex → St → Option R) → Option R
  | 0, S, K => P131137_0h.mat S fun vs => rd131137_0 G k K k vs
  | _, _, _ => none
def f131137 {R : Type} (G : ORC R) (k : Nat) (al1 bl2 : List V) (K : List V → Option R) : Option R :=
  (l131137_0 G k al1 (al1.length : Int) 0 bl2 (fun yl12 => K [.int .i64 (-1)]) (fun yi13 yl14 => K [.int .i64 yi13]))
noncomputable def D131137_0 : LoopD := { id := 0, body := loopAt 0 (bodyOf Try.f65), head := P131137_0h, out := P131137_0x, ret := P131137_0r }
theorem l131137_0_is {R : Type} (G : ORC R) (k : Nat) (X : List V → Option R) (K : Ex → St → Option R) (xl3 : List V) (xi4 xi5 : Int) (xl6 : List V) :
    roundOf (TAB.env 131137) G (L131137 G k) D131137_0 X K [.sl 1 xl3, .int .i64 xi4, .int .i64 xi5, .sl 7 xl6] = b131137_0 G k (fun xl3 xi4 xi5 xl6 => X [.sl 1 xl3, .int .i64 xi4, .int .i64 xi5, .sl 7 xl6]) (fun yl15 => K .normal (P131137_0x.inst [.sl 7 yl15])) (fun yi16 yl17 => K .ret (P131137_0r.inst [.int .i64 yi16, .sl 7 yl17])) xl3 xi4 xi5 xl6 := by kernel_rfl
theorem f131137_is {R : Type} (G : ORC R) (k : Nat) (K : List V → Option R) (al1 bl2 : List V) :
    callF (TAB.env 131137) G (L131137 G k) Try.f65 S131137 [.sl 1 al1, .sl 7 bl2] K = f131137 G k al1 bl2 K := by kernel_rfl
theorem li131137_0 {R : Type} (G : ORC R) (k : Nat) : LoopIs (TAB.env 131137) G (L131137 G k) 0 (loopAt 0 (bodyOf Try.f65)) :=
  ⟨D131137_0, fun j vs K => rd131137_0 G k K j vs, k, rfl, rfl, by kernel_rfl, by kernel_rfl, by kernel_rfl, (fun vs K => by unfold rd131137_0; dsimp only; split <;> rfl),
    (fun j vs K r h => by
      unfold rd131137_0 at h
      dsimp only at h
      split at h
      · rw [l131137_0_is]; exact h
      · cases h), (fun S K r h => h)⟩
theorem lo131137 : loopsOf (bodyOf Try.f65) = [(0, loopAt 0 (bodyOf Try.f65))] := by kernel_rfl
theorem la131137 {R : Type} (G : ORC R) (k : Nat) : LoopsAre (TAB.env 131137) G (L131137 G k) (bodyOf Try.f65) :=
  loopsAre_of (by rw [lo131137]; intro p hp; simp only [List.mem_cons, List.not_mem_nil, or_false] at hp; subst hp; exact li131137_0 G k)
def g131137 {R : Type} (G : ORC R) (k : Nat) (args : List V) (K : List V → Option R) : Option R := match args with
  | [.sl 1 al1, .sl 7 bl2] => f131137 G k al1 bl2 K
  | _ => none
theorem s131137 {R : Type} {G : ORC R} {k : Nat} (hG : Sound Try.prog TAB G) (args : List V) (K : List V → Option R) (r : R) (h : g131137 G k args K = some r) : ∃ o, CallOK Try.prog TAB.env 131137 args o ∧ K o = some r := by
  unfold g131137 at h
  split at h
  · rw [← f131137_is] at h
    exact callF_sound (f := 131137) TAB_chk MO hG Try.func65 (sg := S131137) (by kernel_rfl) (by kernel_rfl) (la131137 G k) h
  · cases h
section
variable {R : Type} {G : ORC R} {k : Nat} {K : List V → Option R}
def PlaceS (G : ORC R) : Prop := ∀ (v n : Int) (K : List V → Option R), 0 < n → n ≤ 1099511627776 → W (fun o => ∃ x, o = [.int .i64 x] ∧ 0 ≤ x ∧ x < n) K (G 10 [.int .i64 v, .int .i64 n] K)
theorem place_ok : PlaceS (fun _ args (K : List V → Option R) => g10 G k args K) := by
  intro v n K h1 h2
  show W _ K (f10 G k v n K)
  unfold f10
  have ht := tmod_lt (v := v) h1
  refine W_not ?_
  refine W_beqI (fun h => by omega) (fun _ => ?_)
  refine W_dec (fun h => ?_) (fun h => ?_)
  · rw [wrap_id (by omega)]; exact W_ret ⟨_, rfl, by omega, by omega⟩
  · exact W_ret ⟨_, rfl, by omega, by omega⟩
def NextS (G : ORC R) : Prop := ∀ (n : Int) (L : List V) (i : Int) (K : List V → Option R), 0 < n → n ≤ 1099511627776 → RowS L i → W (fun o => ∃ x j, o = [.int .i64 x, .int .i64 j] ∧ 0 ≤ x ∧ x < n ∧ RowS L j) K (G 26 [.int .i64 n, .sl 1 L, .int .i64 i] K)
theorem next_ok (hP : PlaceS G) : NextS (fun _ args (K : List V → Option R) => g26 G k args K) := by
  intro n L i K h1 h2 hr
  obtain ⟨r1, r2, r3, r4⟩ := hr
  show W _ K (f26 G k n L i K)
  unfold f26
  have e1 : IntKind.i64.wrap (i + 1) = i + 1 := wrap_id (by omega)
  have e2 : IntKind.i64.wrap (i + 1 - 1) = i := by rw [wrap_id (by omega)]; omega
  rw [e1, e2]
  refine W_dec (fun h => ?_) (fun h => ?_)
  · exact W_ret ⟨_, _, rfl, by omega, by omega, r1, r2, r3, r4⟩
  · refine W_and (W_yes (by omega) (W_yes (by omega) ?_))
    refine W_nth (by omega) (fun v _ hv => ?_)
    obtain ⟨m, rfl, hm⟩ := r1 v hv
    refine W_aI ?_
    refine W_call (hP m n _ h1 h2) ?_
    rintro o ⟨x, rfl, x1, x2⟩
    refine W_uI (W_unNil ?_)
    exact W_ret ⟨_, _, rfl, x1, x2, r1, r2, by omega, by omega⟩
def EventS (G : ORC R) : Prop := ∀ (n : Int) (K : List V → Option R), W (fun o => ∃ s, o = [.str s] ∧ StrS s) K (G 71 [.int .i64 n] K)
theorem event_ok (hP : PlaceS G) : EventS (fun _ args (K : List V → Option R) => g71 G k args K) := by
  intro n K
  show W _ K (f71 G k n K)
  unfold f71
  refine W_call (hP n 8 _ (by omega) (by omega)) ?_
  rintro o ⟨x, rfl, x1, x2⟩
  refine W_uI (W_unNil ?_)
  refine W_and (W_yes (by omega) (W_yes (by omega) ?_))
  refine W_nth (by simp; omega) (fun v _ hv => ?_)
  simp only [List.mem_cons, List.not_mem_nil, or_false] at hv
  rcases hv with rfl | rfl | rfl | rfl | rfl | rfl | rfl | rfl <;> exact W_ret ⟨_, rfl, by unfold StrS; decide⟩
def PickS (G : ORC R) : Prop := ∀ (l : List V) (s : ByteArray) (L : List V) (i : Int) (m : Nat) (K : List V → Option R), StrsS m l → m ≤ 100000 → StrS s → RowS L i → W (fun o => ∃ t j, o = [.str t, .int .i64 j] ∧ StrS t ∧ (l = [] ∨ .str t ∈ l) ∧ RowS L j) K (G 73 [.sl 1 l, .str s, .sl 1 L, .int .i64 i] K)
theorem pick_ok (hN : NextS G) : PickS (fun _ args (K : List V → Option R) => g73 G k args K) := by
  intro l s L i m K hl hm hs hr
  show W _ K (f73 G k l s L i K)
  unfold f73
  have h1 := hl.1
  refine W_beqI (fun h => ?_) (fun h => ?_)
  · exact W_ret ⟨_, _, rfl, hs, .inl (List.eq_nil_of_length_eq_zero (by omega)), hr⟩
  · refine W_call (hN _ L i _ (by omega) (by omega) hr) ?_
    rintro o ⟨x, j, rfl, x1, x2, hr2⟩
    refine W_uI (W_uI (W_unNil ?_))
    refine W_and (W_yes (by omega) (W_yes (by omega) ?_))
    refine W_nth (by omega) (fun v _ hv => ?_)
    obtain ⟨t, rfl, ht⟩ := hl.2 v hv
    exact W_asStr (W_ret ⟨_, _, rfl, ht, .inr hv, hr2⟩)
end
section
variable {R : Type} {G : ORC R} {k : Nat} {K : List V → Option R}
theorem extract_size (s : ByteArray) (a b : Nat) : (ByteArray.extract s a b).size ≤ s.size := by
  rw [ByteArray.size_extract]; omega
theorem ext_dg {n : Int} (h1 : 0 ≤ n) (h2 : n < 10) : ByteArray.extract ⟨#[48, 49, 50, 51, 52, 53, 54, 55, 56, 57]⟩ n.toNat (n + 1).toNat = dg n.toNat := by
  have : n = 0 ∨ n = 1 ∨ n = 2 ∨ n = 3 ∨ n = 4 ∨ n = 5 ∨ n = 6 ∨ n = 7 ∨ n = 8 ∨ n = 9 := by omega
  rcases this with rfl | rfl | rfl | rfl | rfl | rfl | rfl | rfl | rfl | rfl <;> rfl
def DecS (d : Nat) (G : ORC R) : Prop := ∀ (n : Int) (K : List V → Option R), 0 ≤ n → n < 10 ^ d → W (fun o => o = [.str (decD d n.toNat)]) K (G 89 [.int .i64 n] K)
theorem dec_step {d : Nat} (hd : d ≤ 9) (hD : d = 0 ∨ DecS d G) : DecS (d + 1) (fun _ args (K : List V → Option R) => g89 G k args K) := by
  intro n K h1 h2
  have hp : (10 : Int) ^ (d + 1) = 10 ^ d * 10 := Int.pow_succ _ _
  have hb : (10 : Int) ^ d ≤ 10 ^ 9 := by
    have : (10 : Nat) ^ d ≤ 10 ^ 9 := Nat.pow_le_pow_right (by decide) hd
    exact_mod_cast this
  show W _ K (f89 G k n K)
  unfold f89
  refine W_no (by omega) (W_no (by omega) ?_)
  refine W_dec (fun h => ?_) (fun h => ?_)
  · rw [wrap_id (n := n + 1) (by omega)]
    have hsz : ByteArray.size ⟨#[48, 49, 50, 51, 52, 53, 54, 55, 56, 57]⟩ = 10 := by decide
    refine W_and (W_and (W_yes (by omega) (W_yes (by omega) (W_yes (by rw [hsz]; omega) ?_))))
    exact W_ret (by rw [ext_dg h1 h]; unfold decD; rw [if_pos (by omega)])
  · have ht : Int.tdiv n 10 = n / 10 := Int.tdiv_eq_ediv_of_nonneg h1
    have hm : Int.tmod n 10 = n % 10 := Int.tmod_eq_emod_of_nonneg h1
    rw [ht, hm]
    rw [wrap_id (n := n / 10) (by omega)]
    have hD' : DecS d G := by
      rcases hD with rfl | hD
      · simp at h2; omega
      · exact hD
    refine W_call (hD' (n / 10) _ (by omega) (by omega)) ?_
    rintro o rfl
    have hs := decD_size (d := d) (n := (n / 10).toNat)
    refine W_uS (W_unNil ?_)
    rw [wrap_id (n := n % 10 + 1) (by omega)]
    have hsz : ByteArray.size ⟨#[48, 49, 50, 51, 52, 53, 54, 55, 56, 57]⟩ = 10 := by decide
    have he := extract_size ⟨#[48, 49, 50, 51, 52, 53, 54, 55, 56, 57]⟩ (Int.toNat (n % 10)) (Int.toNat (n % 10 + 1))
    rw [hsz] at he
    refine W_and (W_and (W_yes (by omega) (W_yes (by omega) (W_yes (by rw [hsz]; omega) ?_))))
    refine W_yes (by omega) ?_
    refine W_ret ?_
    rw [ext_dg (n := n % 10) (by omega) (by omega)]
    show _ = [V.str (if n.toNat < 10 then dg n.toNat else decD d (n.toNat / 10) ++ dg (n.toNat % 10))]
    rw [if_neg (by omega), show (n / 10).toNat = n.toNat / 10 by omega, show (n % 10).toNat = n.toNat % 10 by omega]
def DigS (G : ORC R) : Prop := ∀ (n : Int) (K : List V → Option R), 0 ≤ n → n < 1000 → W (fun o => o = [.str (digB n.toNat)]) K (G 69 [.int .i64 n] K)
theorem dig_ok (hD : DecS 3 G) : DigS (fun _ args (K : List V → Option R) => g69 G k args K) := by
  intro n K h1 h2
  show W _ K (f69 G k n K)
  unfold f69
  refine W_call (hD n _ h1 (by simpa using h2)) ?_
  rintro o rfl
  exact W_uS (W_unNil (W_ret rfl))
theorem strs_snoc {m : Nat} {l : List V} {s : ByteArray} (h : StrsS m l) (hs : StrS s) : StrsS (m + 1) (l ++ [.str s]) := by
  refine ⟨by have := h.1; simp; omega, fun v hv => ?_⟩
  rcases List.mem_append.1 hv with hv | hv
  · exact h.2 v hv
  · rw [List.mem_singleton.1 hv]; exact ⟨s, rfl, hs⟩
def NamesS (G : ORC R) : Prop := ∀ (s : ByteArray) (n : Int) (K : List V → Option R), s.size ≤ 10 → 0 ≤ n → n ≤ 100 → W (fun o => ∃ l, o = [.sl 1 l] ∧ StrsS 100 l) K (G 53 [.str s, .int .i64 n] K)
theorem names_loop (hD : DigS G) {Q : List V → Prop} {K : List V → Option R} {Ko : List V → Option R} {s : ByteArray} {n : Int} (hs : s.size ≤ 10) (hn : n ≤ 100) (hKo : ∀ l, StrsS 100 l → W Q K (Ko l)) :
    ∀ (j : Nat) (acc : List V) (i : Int), 0 ≤ i → i ≤ n → n - i < j → StrsS i.toNat acc → W Q K (l53_0g G k Ko j s n acc i)
  | 0, acc, i, h1, h2, h3, h4 => by omega
  | j + 1, acc, i, h1, h2, h3, h4 => by
    show W Q K (b53_0 G k (l53_0g G k Ko j) Ko s n acc i)
    unfold b53_0
    refine W_dec (fun h => ?_) (fun h => ?_)
    · refine W_call (hD i _ h1 (by omega)) ?_
      rintro o rfl
      have ht := decD_size (d := 3) (n := i.toNat)
      change (digB i.toNat).size ≤ 3 at ht
      refine W_uS (W_unNil ?_)
      have hl := h4.1
      refine W_yes (by omega) (W_yes (by omega) ?_)
      rw [wrap_id (n := i + 1) (by omega)]
      refine names_loop hD hs hn hKo j _ (i + 1) (by omega) (by omega) (by omega) ?_
      rw [show (i + 1).toNat = i.toNat + 1 by omega]
      exact strs_snoc h4 (by unfold StrS; rw [ByteArray.size_append]; omega)
    · exact hKo acc ⟨by have := h4.1; omega, h4.2⟩
theorem names_ok (hk : 1000 ≤ k) (hD : DigS G) : NamesS (fun _ args (K : List V → Option R) => g53 G k args K) := by
  intro s n K hs h1 h2
  show W _ K (f53 G k s n K)
  unfold f53 l53_0
  exact names_loop hD hs h2 (fun l hl => W_ret ⟨_, rfl, hl⟩) k [] 0 (by omega) h1 (by omega) ⟨by simp, by simp⟩
theorem named_snoc {m : Nat} {l : List V} {s : ByteArray} {n : Int} (h : NamedS m l) (hs : StrS s) (hn : I64 n) : NamedS (m + 1) (l ++ [.agg [.str s, .int .i64 n, .int .i64 0]]) := by
  refine ⟨by have := h.1; simp; omega, fun v hv => ?_⟩
  rcases List.mem_append.1 hv with hv | hv
  · exact h.2 v hv
  · rw [List.mem_singleton.1 hv]; exact ⟨s, n, rfl, hs, hn⟩
def NumdS (G : ORC R) : Prop := ∀ (l L : List V) (i : Int) (K : List V → Option R), StrsS 100 l → RowS L i → W (fun o => ∃ q j, o = [.sl 3 q, .int .i64 j] ∧ NamedS 100 q ∧ RowS L j) K (G 54 [.sl 1 l, .sl 1 L, .int .i64 i] K)
theorem named_loop (hN : NextS G) {Q : List V → Prop} {K : List V → Option R} {Ko : List V → List V → Int → Option R} {l L : List V} (hl : StrsS 100 l) (hKo : ∀ q at_, NamedS 100 q → RowS L at_ → W Q K (Ko q L at_)) :
    ∀ (j : Nat) (acc : List V) (i at_ : Int), 0 ≤ i → i ≤ (l.length : Int) → (l.length : Int) - i < j → NamedS i.toNat acc → RowS L at_ → W Q K (l54_0g G k Ko j l acc i L at_)
  | 0, acc, i, at_, h1, h2, h3, h4, h5 => by omega
  | j + 1, acc, i, at_, h1, h2, h3, h4, h5 => by
    show W Q K (b54_0 G k (l54_0g G k Ko j) Ko l acc i L at_)
    unfold b54_0
    have hll := hl.1
    refine W_dec (fun h => ?_) (fun h => ?_)
    · refine W_and (W_yes h1 (W_yes h ?_))
      refine W_nth (by omega) (fun v _ hv => ?_)
      obtain ⟨t, rfl, ht⟩ := hl.2 v hv
      refine W_asStr ?_
      refine W_call (hN 9 L at_ _ (by omega) (by omega) h5) ?_
      rintro o ⟨x, at2, rfl, x1, x2, h6⟩
      refine W_uI (W_uI (W_unNil ?_))
      have hla := h4.1
      refine W_yes (by omega) ?_
      rw [wrap_id (n := i + 1) (by omega), wrap_id (n := x - 4) (by omega)]
      refine named_loop hN hl hKo j _ (i + 1) at2 (by omega) (by omega) (by omega) ?_ h6
      rw [show (i + 1).toNat = i.toNat + 1 by omega]
      exact named_snoc h4 ht (by unfold I64; omega)
    · exact hKo acc at_ ⟨by have := h4.1; omega, h4.2⟩ h5
theorem named_ok (hk : 1000 ≤ k) (hN : NextS G) : NumdS (fun _ args (K : List V → Option R) => g54 G k args K) := by
  intro l L i K hl hr
  show W _ K (f54 G k l L i K)
  unfold f54 l54_0
  exact named_loop hN hl (fun q at_ hq hr => W_ret ⟨_, _, rfl, hq, hr⟩) k [] 0 i (by omega) (by omega) (by have := hl.1; omega) ⟨by simp, by simp⟩ hr
def PlainS (G : ORC R) : Prop := ∀ (l : List V) (K : List V → Option R), StrsS 100 l → W (fun o => ∃ q, o = [.sl 3 q] ∧ NamedS 100 q) K (G 55 [.sl 1 l] K)
theorem plain_loop {Q : List V → Prop} {K : List V → Option R} {Ko : List V → Option R} {l : List V} (hl : StrsS 100 l) (hKo : ∀ q, NamedS 100 q → W Q K (Ko q)) :
    ∀ (j : Nat) (acc : List V) (i : Int), 0 ≤ i → i ≤ (l.length : Int) → (l.length : Int) - i < j → NamedS i.toNat acc → W Q K (l55_0g G k Ko j l acc i)
  | 0, acc, i, h1, h2, h3, h4 => by omega
  | j + 1, acc, i, h1, h2, h3, h4 => by
    show W Q K (b55_0 G k (l55_0g G k Ko j) Ko l acc i)
    unfold b55_0
    have hll := hl.1
    refine W_dec (fun h => ?_) (fun h => ?_)
    · refine W_and (W_yes h1 (W_yes h ?_))
      refine W_nth (by omega) (fun v _ hv => ?_)
      obtain ⟨t, rfl, ht⟩ := hl.2 v hv
      refine W_asStr ?_
      have hla := h4.1
      refine W_yes (by omega) ?_
      rw [wrap_id (n := i + 1) (by omega)]
      refine plain_loop hl hKo j _ (i + 1) (by omega) (by omega) (by omega) ?_
      rw [show (i + 1).toNat = i.toNat + 1 by omega]
      exact named_snoc h4 ht (by unfold I64; omega)
    · exact hKo acc ⟨by have := h4.1; omega, h4.2⟩
theorem plain_ok (hk : 1000 ≤ k) : PlainS (fun _ args (K : List V → Option R) => g55 G k args K) := by
  intro l K hl
  show W _ K (f55 G k l K)
  unfold f55 l55_0
  exact plain_loop hl (fun q hq => W_ret ⟨_, rfl, hq⟩) k [] 0 (by omega) (by omega) (by have := hl.1; omega) ⟨by simp, by simp⟩
end
section
variable {R : Type} {G : ORC R} {k : Nat} {K : List V → Option R}
def ExprOK (d : Nat) (G : ORC R) : Prop := ∀ (a b c s L : List V) (n i : Int) (K : List V → Option R), n = (d : Int) → StrsS 100 a → StrsS 100 s → RowS L i →
  W (fun o => ∃ e j, o = [e, .int .i64 j] ∧ ExprS (d + 1) e ∧ RowS L j) K (G 72 [.agg [.sl 1 a, .sl 1 b, .sl 1 c, .sl 1 s], .int .i64 n, .sl 1 L, .int .i64 i] K)
theorem expr_mk {d : Nat} {kind n : Int} {nm : ByteArray} {kids : List V} (h1 : I64 n) (h2 : StrS nm) (h3 : 1 ≤ kind ∧ kind ≤ 19) (h4 : kids.length ≤ 2) (h5 : ∀ e ∈ kids, ExprS d e) (h6 : kind ≤ 4 ∨ (kind ≤ 6 ∧ kids.length = 1) ∨ (7 ≤ kind ∧ kids.length = 2)) :
    ExprS (d + 1) (.agg [.int .i64 kind, .int .i64 n, .str nm, .sl 5 kids, .int .i64 0]) := ⟨kind, n, nm, kids, rfl, h1, h2, h3.1, h3.2, h4, h5, h6⟩
theorem one_mem {d : Nat} {a : V} (h : ExprS d a) : ∀ e ∈ [a], ExprS d e := fun e he => by rw [List.mem_singleton.1 he]; exact h
theorem two_mem {d : Nat} {a b : V} (h : ExprS d a) (h' : ExprS d b) : ∀ e ∈ [a, b], ExprS d e := fun e he => by
  simp only [List.mem_cons, List.not_mem_nil, or_false] at he
  rcases he with rfl | rfl
  · exact h
  · exact h'
theorem strs0 : StrS ⟨#[]⟩ := by unfold StrS; decide
theorem expr_ok {d : Nat} (hd : d ≤ 20) (hN : NextS G) (hPk : PickS G) (hE : ∀ d', d = d' + 1 → ExprOK d' G) : ExprOK d (fun _ args (K : List V → Option R) => g72 G k args K) := by
  intro a b c s L n i K hn ha hs hr
  show W _ K (f72 G k a b c s n L i K)
  unfold f72
  unfold NextS at hN; unfold PickS at hPk; unfold ExprOK at hE
  have la := ha.1
  have lss := hs.1
  have hE' : n ≠ 0 → ∃ d', d = d' + 1 := fun h => ⟨d - 1, by omega⟩
  have hEn : ∀ d', d = d' + 1 → IntKind.i64.wrap (n - 1) = (d' : Int) := fun d' h => by rw [wrap_id (by omega)]; omega
  refine W_call (hN _ _ _ _ (by omega) (by omega) hr) ?_
  rintro o ⟨x, i1, rfl, x1, x2, hr1⟩
  have ht := tmod_lt (v := x) (n := 6) (by omega)
  by_cases hn0 : n = 0
  · clear hE' hEn hE
    repeat' (first
      | with_reducible (first | (refine W_uI ?_) | (refine W_uS ?_) | (refine W_uL ?_) | (refine W_uA ?_) | (refine W_uB ?_) | (refine W_aI ?_) | (refine W_aL ?_) | (refine W_ca3 ?_) | (refine W_ce3 ?_) | (refine W_ca4 ?_) | (refine W_ce4 ?_) | (refine W_ca5 ?_) | (refine W_ce5 ?_) | (refine W_ca6 ?_) | (refine W_ce6 ?_) | (refine W_ca7 ?_) | (refine W_ce7 ?_) | (refine W_ca8 ?_) | (refine W_ce8 ?_) | (refine W_unCons ?_) | (refine W_unNil ?_) | (refine W_asInt ?_) | (refine W_asStr ?_) | (refine W_asSl ?_) | (refine W_asAgg ?_) | (refine W_kd ?_) | (refine W_z ?_))
      | ((with_reducible (refine W_call (hN _ _ _ _ ?_ ?_ (by assumption)) ?_)); omega; omega; rintro _ ⟨_, _, rfl, _, _, _⟩)
      | ((with_reducible (refine W_call (hPk _ _ _ _ 100 _ (by assumption) ?_ strs0 (by assumption)) ?_)); omega; rintro _ ⟨_, _, rfl, _, _, _⟩)
      | (with_reducible (refine W_and ?_)) | ((with_reducible (refine W_yes ?_ ?_)); omega) | ((with_reducible (refine W_no ?_ ?_)); omega) | ((with_reducible (refine W_eqY ?_ ?_)); omega) | ((with_reducible (refine W_eqN ?_ ?_)); omega)
      | (with_reducible (refine W_dec (fun _ => ?_) (fun _ => ?_))) | (with_reducible (refine W_beqI (fun _ => ?_) (fun _ => ?_)))
      | ((with_reducible (refine W_nth ?_ (fun v _ hv => ?_))); (simp; omega); simp only [List.mem_cons, List.not_mem_nil, or_false] at hv; rcases hv with rfl | rfl | rfl | rfl | rfl | rfl)
      | (refine W_ret ⟨_, _, rfl, expr_mk (by unfold I64; omega) (by first | assumption | exact strs0) ⟨by omega, by omega⟩ (by simp) (by simp) (by omega), by assumption⟩))
  · obtain ⟨d', rfl⟩ := hE' hn0
    have hEn := hEn d' rfl
    have hE := hE d' rfl
    clear hE'
    repeat' (first
      | with_reducible (first | (refine W_uI ?_) | (refine W_uS ?_) | (refine W_uL ?_) | (refine W_uA ?_) | (refine W_uB ?_) | (refine W_aI ?_) | (refine W_aL ?_) | (refine W_ca3 ?_) | (refine W_ce3 ?_) | (refine W_ca4 ?_) | (refine W_ce4 ?_) | (refine W_ca5 ?_) | (refine W_ce5 ?_) | (refine W_ca6 ?_) | (refine W_ce6 ?_) | (refine W_ca7 ?_) | (refine W_ce7 ?_) | (refine W_ca8 ?_) | (refine W_ce8 ?_) | (refine W_unCons ?_) | (refine W_unNil ?_) | (refine W_asInt ?_) | (refine W_asStr ?_) | (refine W_asSl ?_) | (refine W_asAgg ?_) | (refine W_kd ?_) | (refine W_z ?_))
      | ((with_reducible (refine W_call (hN _ _ _ _ ?_ ?_ (by assumption)) ?_)); omega; omega; rintro _ ⟨_, _, rfl, _, _, _⟩)
      | ((with_reducible (refine W_call (hPk _ _ _ _ 100 _ (by assumption) ?_ strs0 (by assumption)) ?_)); omega; rintro _ ⟨_, _, rfl, _, _, _⟩)
      | ((with_reducible (refine W_call (hE _ _ _ _ _ _ _ _ hEn (by assumption) (by assumption) (by assumption)) ?_)); rintro _ ⟨_, _, rfl, he, _⟩; have he2 := he; obtain ⟨_, _, _, _, rfl, _, _, _, _, _, _, _⟩ := he)
      | (with_reducible (refine W_and ?_)) | ((with_reducible (refine W_yes ?_ ?_)); omega) | ((with_reducible (refine W_no ?_ ?_)); omega) | ((with_reducible (refine W_eqY ?_ ?_)); omega) | ((with_reducible (refine W_eqN ?_ ?_)); omega)
      | (with_reducible (refine W_dec (fun _ => ?_) (fun _ => ?_))) | (with_reducible (refine W_beqI (fun _ => ?_) (fun _ => ?_)))
      | ((with_reducible (refine W_nth ?_ (fun v _ hv => ?_))); (simp; omega); simp only [List.mem_cons, List.not_mem_nil, or_false] at hv; rcases hv with rfl | rfl | rfl | rfl | rfl | rfl)
      | (refine W_ret ⟨_, _, rfl, expr_mk (by unfold I64; omega) (by first | assumption | exact strs0) ⟨by first | omega | (rw [wrap_id (by omega)]; omega), by first | omega | (rw [wrap_id (by omega)]; omega)⟩ (by simp) (by first | exact two_mem (by assumption) (by assumption) | exact one_mem (by assumption) | simp) (by first | exact .inr (.inr ⟨by rw [wrap_id (by omega)]; omega, rfl⟩) | exact .inr (.inl ⟨by rw [wrap_id (by omega)]; omega, rfl⟩) | omega), by assumption⟩))
end
set_option maxHeartbeats 8000000
section
variable {R : Type} {G : ORC R} {k : Nat} {K : List V → Option R}
def BlockOK (d : Nat) (G : ORC R) : Prop := ∀ (a b c s L : List V) (n i : Int) (K : List V → Option R), n = (d : Int) → StrsS 100 a → StrsS 100 b → StrsS 100 c → StrsS 100 s → RowS L i →
  W (fun o => ∃ q j, o = [.sl 8 q, .int .i64 j] ∧ BlockS (d + 1) q ∧ RowS L j) K (G 70 [.agg [.sl 1 a, .sl 1 b, .sl 1 c, .sl 1 s], .int .i64 n, .sl 1 L, .int .i64 i] K)
theorem act_mk {d : Nat} {kind n : Int} {nm ev : ByteArray} {x th el : List V} (h1 : ActN kind n) (h2 : StrS nm) (h3 : StrS ev) (h4 : 1 ≤ kind ∧ kind ≤ 7) (h5 : x.length ≤ 1) (h6 : ∀ e ∈ x, ExprS 3 e) (h7 : kind = 6 → x.length = 1) (h8 : BlockS d th) (h9 : BlockS d el) :
    ActS (d + 1) (.agg [.int .i64 kind, .str nm, .str ev, .sl 5 x, .int .i64 n, .sl 8 th, .sl 8 el, .int .i64 0]) := ⟨kind, nm, ev, x, n, th, el, rfl, h1, h2, h3, h4.1, h4.2, h5, h6, h7, h8.1, h9.1, h8.2, h9.2⟩
theorem block0 {d : Nat} : BlockS d [] := ⟨by simp, by simp⟩
theorem take_one {e : V} {n : Nat} (h : ExprS 3 e) : (List.take n [e]).length ≤ 1 ∧ ∀ v ∈ List.take n [e], ExprS 3 v :=
  ⟨by simp [List.length_take]; omega, fun v hv => one_mem h v (List.mem_of_mem_take hv)⟩
theorem num_of {n : Int} (h : I64 n) : ∀ e ∈ [V.agg [.int .i64 1, .int .i64 n, .str ⟨#[]⟩, .sl 5 [], .int .i64 0]], ExprS 3 e := one_mem (expr_mk (d := 2) h strs0 ⟨by omega, by omega⟩ (by simp) (by simp) (by omega))
theorem i64_0 : I64 0 := by unfold I64; omega
theorem block_round {d : Nat} (hd : d ≤ 3) (hN : NextS G) (hPk : PickS G) (hEv : EventS G) (hE : ExprOK 2 G) (hB : ∀ d', d = d' + 1 → BlockOK d' G) {Q : List V → Prop} {K : List V → Option R} {a b c s L acc : List V} {n i dd : Int}
    (X : Int → List V → Int → List V → Int → List V → List V → List V → List V → Option R) (Ko : List V → List V → Int → Option R)
    (hdd : dd = (d : Int)) (ha : StrsS 100 a) (hb : StrsS 100 b) (hc : StrsS 100 c) (hs : StrsS 100 s) (hr : RowS L i) (hn : n > 0) (hacc : acc.length ≤ 2)
    (hX1 : ∀ v j, ActS (d + 1) v → RowS L j → W Q K (X dd (acc ++ [v]) (IntKind.i64.wrap (n - 1)) L j a b c s))
    (hX0 : ∀ j, RowS L j → W Q K (X dd acc (IntKind.i64.wrap (n - 1)) L j a b c s)) :
    W Q K (b70_0 G k X Ko dd acc n L i a b c s) := by
  unfold b70_0
  unfold NextS at hN; unfold PickS at hPk; unfold EventS at hEv; unfold ExprOK at hE; unfold BlockOK at hB
  have la := ha.1
  have lb := hb.1
  have lc := hc.1
  refine W_yes hn ?_
  refine W_call (hN _ _ _ _ (by omega) (by omega) hr) ?_
  rintro _ ⟨x, i1, rfl, x1, x2, hr1⟩
  refine W_uI (W_uI (W_unNil ?_))
  refine W_call (hE _ _ _ _ _ _ _ _ (by rfl) ha hs hr1) ?_
  rintro _ ⟨e, i2, rfl, he, hr2⟩
  have he2 := he
  obtain ⟨_, _, _, _, rfl, _⟩ := he
  repeat (with_reducible (first | (refine W_uI ?_) | (refine W_uS ?_) | (refine W_uL ?_) | (refine W_uA ?_) | (refine W_uB ?_) | (refine W_aI ?_) | (refine W_aL ?_) | (refine W_ca3 ?_) | (refine W_ce3 ?_) | (refine W_ca4 ?_) | (refine W_ce4 ?_) | (refine W_ca5 ?_) | (refine W_ce5 ?_) | (refine W_ca6 ?_) | (refine W_ce6 ?_) | (refine W_ca7 ?_) | (refine W_ce7 ?_) | (refine W_ca8 ?_) | (refine W_ce8 ?_) | (refine W_unCons ?_) | (refine W_unNil ?_) | (refine W_asInt ?_) | (refine W_asStr ?_) | (refine W_asSl ?_) | (refine W_asAgg ?_) | (refine W_kd ?_) | (refine W_z ?_)))
  have ht := take_one (n := 0) he2
  by_cases hd0 : d = 0
  · have hdd0 : ¬ dd > 0 := by omega
    clear hB
    repeat' (first
      | with_reducible (first | (refine W_uI ?_) | (refine W_uS ?_) | (refine W_uL ?_) | (refine W_uA ?_) | (refine W_uB ?_) | (refine W_aI ?_) | (refine W_aL ?_) | (refine W_ca3 ?_) | (refine W_ce3 ?_) | (refine W_ca4 ?_) | (refine W_ce4 ?_) | (refine W_ca5 ?_) | (refine W_ce5 ?_) | (refine W_ca6 ?_) | (refine W_ce6 ?_) | (refine W_ca7 ?_) | (refine W_ce7 ?_) | (refine W_ca8 ?_) | (refine W_ce8 ?_) | (refine W_unCons ?_) | (refine W_unNil ?_) | (refine W_asInt ?_) | (refine W_asStr ?_) | (refine W_asSl ?_) | (refine W_asAgg ?_) | (refine W_kd ?_) | (refine W_z ?_))
      | ((with_reducible (refine W_call (hN _ _ _ _ ?_ ?_ (by assumption)) ?_)); omega; omega; rintro _ ⟨_, _, rfl, _, _, _⟩)
      | ((with_reducible (refine W_call (hPk _ _ _ _ 100 _ (by assumption) ?_ strs0 (by assumption)) ?_)); omega; rintro _ ⟨_, _, rfl, _, _, _⟩)
      | ((with_reducible (refine W_call (hEv _ _) ?_)); rintro _ ⟨_, rfl, _⟩)
      | (with_reducible (refine W_and ?_)) | ((with_reducible (refine W_no hdd0 ?_))) | ((with_reducible (refine W_yes ?_ ?_)); omega) | ((with_reducible (refine W_no ?_ ?_)); omega) | ((with_reducible (refine W_eqY ?_ ?_)); omega) | ((with_reducible (refine W_eqN ?_ ?_)); omega)
      | (with_reducible (refine W_dec (fun _ => ?_) (fun _ => ?_))) | (with_reducible (refine W_beqI (fun _ => ?_) (fun _ => ?_)))
      | (with_reducible (exact hX0 _ (by assumption)))
      | ((with_reducible (refine hX1 _ _ ?_ (by assumption)));
         exact act_mk (by first | exact ⟨i64_0, by omega⟩ | (rw [wrap_id (by omega)]; unfold ActN I64; omega)) (by first | assumption | exact strs0) (by first | assumption | exact strs0) ⟨by omega, by omega⟩
           (by first | exact Nat.le_refl 1 | exact Nat.zero_le 1 | exact (take_one he2).1) (by first | exact one_mem he2 | exact (take_one he2).2 | exact num_of (by rw [wrap_id (by omega)]; unfold I64; omega) | simp) (by first | omega | exact fun _ => rfl) block0 block0))
  · obtain ⟨d', rfl⟩ : ∃ d', d = d' + 1 := ⟨d - 1, by omega⟩
    have hdd0 : dd > 0 := by omega
    have hB := hB d' rfl
    have hBn : IntKind.i64.wrap (dd - 1) = (d' : Int) := by rw [wrap_id (by omega)]; omega
    repeat' (first
      | with_reducible (first | (refine W_uI ?_) | (refine W_uS ?_) | (refine W_uL ?_) | (refine W_uA ?_) | (refine W_uB ?_) | (refine W_aI ?_) | (refine W_aL ?_) | (refine W_ca3 ?_) | (refine W_ce3 ?_) | (refine W_ca4 ?_) | (refine W_ce4 ?_) | (refine W_ca5 ?_) | (refine W_ce5 ?_) | (refine W_ca6 ?_) | (refine W_ce6 ?_) | (refine W_ca7 ?_) | (refine W_ce7 ?_) | (refine W_ca8 ?_) | (refine W_ce8 ?_) | (refine W_unCons ?_) | (refine W_unNil ?_) | (refine W_asInt ?_) | (refine W_asStr ?_) | (refine W_asSl ?_) | (refine W_asAgg ?_) | (refine W_kd ?_) | (refine W_z ?_))
      | ((with_reducible (refine W_call (hN _ _ _ _ ?_ ?_ (by assumption)) ?_)); omega; omega; rintro _ ⟨_, _, rfl, _, _, _⟩)
      | ((with_reducible (refine W_call (hPk _ _ _ _ 100 _ (by assumption) ?_ strs0 (by assumption)) ?_)); omega; rintro _ ⟨_, _, rfl, _, _, _⟩)
      | ((with_reducible (refine W_call (hEv _ _) ?_)); rintro _ ⟨_, rfl, _⟩)
      | ((with_reducible (refine W_call (hB _ _ _ _ _ _ _ _ hBn (by assumption) (by assumption) (by assumption) (by assumption) (by assumption)) ?_)); rintro _ ⟨_, _, rfl, _, _⟩)
      | (with_reducible (refine W_and ?_)) | ((with_reducible (refine W_yes hdd0 ?_))) | ((with_reducible (refine W_yes ?_ ?_)); omega) | ((with_reducible (refine W_no ?_ ?_)); omega) | ((with_reducible (refine W_eqY ?_ ?_)); omega) | ((with_reducible (refine W_eqN ?_ ?_)); omega)
      | (with_reducible (refine W_dec (fun _ => ?_) (fun _ => ?_))) | (with_reducible (refine W_beqI (fun _ => ?_) (fun _ => ?_)))
      | (with_reducible (exact hX0 _ (by assumption)))
      | ((with_reducible (refine hX1 _ _ ?_ (by assumption)));
         exact act_mk (by first | exact ⟨i64_0, by omega⟩ | (rw [wrap_id (by omega)]; unfold ActN I64; omega)) (by first | assumption | exact strs0) (by first | assumption | exact strs0) ⟨by omega, by omega⟩
           (by first | exact Nat.le_refl 1 | exact Nat.zero_le 1 | exact (take_one he2).1) (by first | exact one_mem he2 | exact (take_one he2).2 | exact num_of (by rw [wrap_id (by omega)]; unfold I64; omega) | simp) (by first | omega | exact fun _ => rfl) (by first | assumption | exact block0) (by first | assumption | exact block0)))
theorem block_loop {d : Nat} (hd : d ≤ 3) (hN : NextS G) (hPk : PickS G) (hEv : EventS G) (hE : ExprOK 2 G) (hB : ∀ d', d = d' + 1 → BlockOK d' G) {Q : List V → Prop} {K : List V → Option R} {a b c s L : List V} {dd : Int} {Ko : List V → List V → Int → Option R}
    (hdd : dd = (d : Int)) (ha : StrsS 100 a) (hb : StrsS 100 b) (hc : StrsS 100 c) (hs : StrsS 100 s) (hKo : ∀ q j, BlockS (d + 1) q → RowS L j → W Q K (Ko q L j)) :
    ∀ (j : Nat) (acc : List V) (n i : Int), n < j → (acc.length : Int) + n ≤ 2 → 0 ≤ n → (∀ v ∈ acc, ActS (d + 1) v) → RowS L i → W Q K (l70_0g G k Ko j dd acc n L i a b c s)
  | 0, acc, n, i, h1, h2, h3, h4, h5 => by omega
  | j + 1, acc, n, i, h1, h2, h3, h4, h5 => by
    show W Q K (b70_0 G k (l70_0g G k Ko j) Ko dd acc n L i a b c s)
    by_cases hn : n > 0
    · refine block_round hd hN hPk hEv hE hB _ _ hdd ha hb hc hs h5 hn (by omega) (fun v j' hv hj => ?_) (fun j' hj => ?_)
      · refine block_loop hd hN hPk hEv hE hB hdd ha hb hc hs hKo j _ _ j' (by rw [wrap_id (by omega)]; omega) (by rw [wrap_id (by omega)]; simp; omega) (by rw [wrap_id (by omega)]; omega) ?_ hj
        intro w hw
        rcases List.mem_append.1 hw with hw | hw
        · exact h4 w hw
        · rw [List.mem_singleton.1 hw]; exact hv
      · exact block_loop hd hN hPk hEv hE hB hdd ha hb hc hs hKo j _ _ j' (by rw [wrap_id (by omega)]; omega) (by rw [wrap_id (by omega)]; omega) (by rw [wrap_id (by omega)]; omega) h4 hj
    · unfold b70_0
      exact W_no hn (hKo acc i ⟨by omega, h4⟩ h5)
theorem block_ok {d : Nat} (hk : 1000 ≤ k) (hd : d ≤ 3) (hN : NextS G) (hPk : PickS G) (hEv : EventS G) (hE : ExprOK 2 G) (hB : ∀ d', d = d' + 1 → BlockOK d' G) : BlockOK d (fun _ args (K : List V → Option R) => g70 G k args K) := by
  intro a b c s L n i K hn ha hb hc hs hr
  show W _ K (f70 G k a b c s n L i K)
  unfold f70
  refine W_call (hN _ _ _ _ (by omega) (by omega) hr) ?_
  rintro _ ⟨x, i1, rfl, x1, x2, hr1⟩
  refine W_uI (W_uI (W_unNil ?_))
  unfold l70_0
  exact block_loop hd hN hPk hEv hE hB hn ha hb hc hs (fun q j hq hj => W_ret ⟨_, _, rfl, hq, hj⟩) k [] x i1 (by omega) (by simp; omega) x1 (by simp) hr1
end
section
variable {R : Type} {G : ORC R} {k : Nat} {K : List V → Option R}
def StOK (d : Nat) (G : ORC R) : Prop := ∀ (b : Bool) (a p c s all L : List V) (n left i : Int) (K : List V → Option R), n = (d : Int) → 1 ≤ left → left + all.length ≤ 20 → NmsS all → NmI all → RowS L i →
  W (fun o => ∃ x left' all' j, o = [x, .int .i64 left', .sl 1 all', .int .i64 j] ∧ StateS 0 (d + 1) x ∧ kindV x ≤ 2 ∧ 0 ≤ left' ∧ left' < left ∧ left' + (all'.length : Int) = left + all.length ∧ NmsS all' ∧ RowS L j ∧ all' = all ++ nmV (d + 1) x ∧ NmI all') K
    (G 56 [.int .i64 n, .bool b, .sl 1 a, .sl 1 p, .sl 1 c, .sl 1 s, .int .i64 left, .sl 1 all, .sl 1 L, .int .i64 i] K)
theorem nms_snoc {l : List V} {s : ByteArray} (h : NmsS l) (hs : StrS s) (h0 : 0 < s.size) : NmsS (l ++ [.str s]) := fun v hv => by
  rcases List.mem_append.1 hv with hv | hv
  · exact h v hv
  · rw [List.mem_singleton.1 hv]; exact ⟨s, rfl, hs, h0⟩
theorem mem_snoc {P : V → Prop} {l : List V} {x : V} (h : ∀ v ∈ l, P v) (hx : P x) : ∀ v ∈ l ++ [x], P v := fun v hv => by
  rcases List.mem_append.1 hv with hv | hv
  · exact h v hv
  · rw [List.mem_singleton.1 hv]; exact hx
theorem head_snoc {l : List V} {x : V} (h : ∀ s r, l = s :: r → kindV s ≤ 2) (hx : l = [] → kindV x ≤ 2) : ∀ s r, l ++ [x] = s :: r → kindV s ≤ 2 := by
  intro s r e
  cases l with
  | nil => simp at e; rw [← e.1]; exact hx rfl
  | cons a l => simp at e; rw [← e.1]; exact h a l rfl
theorem state_mk {d : Nat} {kind : Int} {nm : ByteArray} {kids : List V} (h1 : StrS nm) (h2 : 0 < nm.size) (h3 : 1 ≤ kind ∧ kind ≤ 4) (h4 : kids.length ≤ 4) (h5 : ∀ s ∈ kids, StateS 0 d s) (h6 : 2 < kind → kids = []) (h7 : ∀ s r, kids = s :: r → kindV s ≤ 2) (h8 : kind = 2 → kids ≠ []) :
    StateS 0 (d + 1) (.agg [.int .i64 kind, .str nm, .sl 8 [], .sl 8 [], .sl 5 [], .sl 7 kids, .int .i64 0]) :=
  ⟨kind, nm, [], [], [], kids, rfl, h1, h2, h3.1, h3.2, block0, block0, by simp, by simp, h4, h5, fun h => ⟨h6 h, rfl, rfl, rfl⟩, h7, h8⟩
theorem pre_strs {c : UInt8} {s : ByteArray} (h : s.size ≤ 30) : StrS (⟨#[c]⟩ ++ s) ∧ 0 < (⟨#[c]⟩ ++ s : ByteArray).size := by
  have e : (⟨#[c]⟩ ++ s : ByteArray).size = 1 + s.size := by rw [ByteArray.size_append]; rfl
  unfold StrS; rw [e]; omega
theorem st_loop {d : Nat} (hS : StOK d G) {Q : List V → Prop} {K : List V → Option R} {a p c s L h1 h2 h3 h4 en ex tr : List V} {dd h0 h5 kind z T m : Int} {hs nm : ByteArray} {Ko : List V → List V → List V → List V → Int → List V → List V → Int → Int → ByteArray → List V → List V → List V → List V → Int → Int → ByteArray → List V → List V → List V → List V → Int → Option R}
    (hdd : IntKind.i64.wrap (dd - 1) = (d : Int)) (hT : T ≤ 20) {all0 : List V}
    (hKo : ∀ left all j kids, (all0 ++ nmVL (d + 1) kids = all ∧ NmI all) → 0 ≤ left → left ≤ m → left + (List.length all : Int) = T → NmsS all → RowS L j → kids.length ≤ 3 → (∀ s ∈ kids, StateS 0 (d + 1) s) → (∀ s r, kids = s :: r → kindV s ≤ 2) → kids ≠ [] → W Q K (Ko a p c s left all L j h0 hs h1 h2 h3 h4 h5 kind nm en ex tr kids z)) :
    ∀ (j : Nat) (n left : Int) (all : List V) (i : Int) (acc : List V), (all0 ++ nmVL (d + 1) acc = all ∧ NmI all) → n < j → 0 ≤ n → (acc.length : Int) + n ≤ 3 → (acc = [] → 1 ≤ left ∧ 0 < n) → 0 ≤ left → left ≤ m → left + (List.length all : Int) = T → NmsS all → RowS L i → (∀ s ∈ acc, StateS 0 (d + 1) s) → (∀ s r, acc = s :: r → kindV s ≤ 2) →
      W Q K (l56_0g G k Ko j dd n a p c s left all L i h0 hs h1 h2 h3 h4 h5 kind nm en ex tr acc z)
  | 0, n, left, all, i, acc, a0, a1, a2, a3, a4, a5, a6, a7, a8, a9, a10, a11 => by omega
  | j + 1, n, left, all, i, acc, a0, a1, a2, a3, a4, a5, a6, a7, a8, a9, a10, a11 => by
    show W Q K (b56_0 G k (l56_0g G k Ko j) Ko dd n a p c s left all L i h0 hs h1 h2 h3 h4 h5 kind nm en ex tr acc z)
    unfold b56_0
    by_cases hn : n > 0
    · refine W_yes hn ?_
      by_cases hl : left > 0
      · refine W_yes hl ?_
        refine W_call (hS true a p c s all L _ left i _ hdd (by omega) (by omega) a8 a0.2 a9) ?_
        rintro _ ⟨x, left', all', j', rfl, b1, b2, b3, b4, b5, b6, b7, b8, b8'⟩
        have b1' := b1
        have b9 : all0 ++ nmVL (d + 1) (acc ++ [x]) = all' ∧ NmI all' := ⟨by rw [nmVL_app, ← List.append_assoc, a0.1, b8]; simp [nmVL], b8'⟩
        obtain ⟨_, _, _, _, _, _, rfl, _⟩ := b1
        repeat (with_reducible (first | (refine W_uI ?_) | (refine W_uS ?_) | (refine W_uL ?_) | (refine W_uA ?_) | (refine W_uB ?_) | (refine W_aI ?_) | (refine W_aL ?_) | (refine W_ca3 ?_) | (refine W_ce3 ?_) | (refine W_ca4 ?_) | (refine W_ce4 ?_) | (refine W_ca5 ?_) | (refine W_ce5 ?_) | (refine W_ca6 ?_) | (refine W_ce6 ?_) | (refine W_ca7 ?_) | (refine W_ce7 ?_) | (refine W_ca8 ?_) | (refine W_ce8 ?_) | (refine W_unCons ?_) | (refine W_unNil ?_) | (refine W_asInt ?_) | (refine W_asStr ?_) | (refine W_asSl ?_) | (refine W_asAgg ?_) | (refine W_kd ?_) | (refine W_z ?_)))
        refine W_yes (by omega) ?_
        have e1 : IntKind.i64.wrap (n - 1) = n - 1 := wrap_id (by omega)
        rw [e1]
        exact st_loop hS hdd hT hKo j _ _ _ _ _ b9 (by omega) (by omega) (by simp; omega) (by simp) b3 (by omega) (by omega) b6 b7 (mem_snoc a10 b1') (head_snoc a11 (fun _ => b2))
      · refine W_no hl ?_
        have hacc : acc ≠ [] := fun h => by have := (a4 h).1; omega
        have hlen : ((acc.length : Nat) : Int) ≠ 0 := fun h => hacc (List.eq_nil_of_length_eq_zero (by omega))
        refine W_eqN hlen ?_
        exact hKo left all i acc a0 a5 a6 a7 a8 a9 (by omega) a10 a11 hacc
    · exact W_no hn (hKo left all i acc a0 a5 a6 a7 a8 a9 (by omega) a10 a11 (fun h => by have := (a4 h).2; omega))
theorem st_ok {d : Nat} (hk : 1000 ≤ k) (hd : d ≤ 3) (hN : NextS G) (hDg : DigS G) (hS : ∀ d', d = d' + 1 → StOK d' G) : StOK d (fun _ args (K : List V → Option R) => g56 G k args K) := by
  intro b a p c s all L n left i K hn h1 h2 h3 h3' h4
  show W _ K (f56 G k n b a p c s left all L i K)
  unfold f56
  have e1 : IntKind.i64.wrap (left - 1) = left - 1 := wrap_id (by omega)
  rw [e1]
  have s115 : ByteArray.size ⟨#[115]⟩ = 1 := by decide
  have s104 : ByteArray.size ⟨#[104]⟩ = 1 := by decide
  rw [s115, s104]
  unfold NextS at hN; unfold DigS at hDg
  have dsz : ∀ m, (digB m).size ≤ 30 := fun m => Nat.le_trans (decD_size (d := 3)) (by omega)
  have ddsz : ∀ m, (digB m).size ≤ 3 := fun m => decD_size (d := 3)
  refine W_call (hDg _ _ (by omega) (by omega)) ?_
  rintro _ rfl
  have t1s := dsz ((all.length : Int).toNat)
  have t1s' := ddsz ((all.length : Int).toNat)
  refine W_uS (W_unNil (W_yes (by omega) (W_yes (by omega) ?_)))
  refine W_call (hDg _ _ (by omega) (by omega)) ?_
  rintro _ rfl
  refine W_uS (W_unNil (W_yes (by omega) ?_))
  have t1p := pre_strs (c := 115) t1s
  have hall := nms_snoc h3 t1p.1 t1p.2
  have leaf : StateS 0 (d + 1) (.agg [.int .i64 1, .str (⟨#[115]⟩ ++ digB (Int.toNat all.length)), .sl 8 [], .sl 8 [], .sl 5 [], .sl 7 [], .int .i64 0]) := state_mk t1p.1 t1p.2 ⟨by omega, by omega⟩ (by simp) (by simp) (fun _ => rfl) (by simp) (by omega)
  have hlen : left - 1 + ((all ++ [V.str (⟨#[115]⟩ ++ digB (Int.toNat all.length))]).length : Int) = left + all.length := by simp; omega
  have hni : NmI (all ++ [V.str (⟨#[115]⟩ ++ digB (Int.toNat all.length))]) := nmI_snoc h3' (.inl rfl)
  have hsz : all ++ [V.str (⟨#[115]⟩ ++ digB (Int.toNat all.length))] = all ++ nmV (d + 1) (.agg [.int .i64 1, .str (⟨#[115]⟩ ++ digB (Int.toNat all.length)), .sl 8 [], .sl 8 [], .sl 5 [], .sl 7 [], .int .i64 0]) ∧ NmI (all ++ [V.str (⟨#[115]⟩ ++ digB (Int.toNat all.length))]) := ⟨rfl, hni⟩
  by_cases hd0 : n > 0
  · obtain ⟨d', rfl⟩ : ∃ d', d = d' + 1 := ⟨d - 1, by omega⟩
    have hdd : IntKind.i64.wrap (n - 1) = (d' : Int) := by rw [wrap_id (by omega)]; omega
    refine W_yes hd0 ?_
    refine W_dec (fun hl => ?_) (fun _ => W_ret ⟨_, _, _, _, rfl, leaf, by simp [kindV], by omega, by omega, hlen, hall, h4, hsz.1, hsz.2⟩)
    refine W_call (hN _ _ _ _ (by omega) (by omega) h4) ?_
    rintro _ ⟨x1, i1, rfl, x11, x12, r1⟩
    refine W_uI (W_uI (W_unNil ?_))
    refine W_dec (fun hx1 => ?_) (fun _ => W_ret ⟨_, _, _, _, rfl, leaf, by simp [kindV], by omega, by omega, hlen, hall, r1, hsz.1, hsz.2⟩)
    refine W_call (hN _ _ _ _ (by omega) (by omega) r1) ?_
    rintro _ ⟨x2, i2, rfl, x21, x22, r2⟩
    refine W_uI (W_uI (W_unNil ?_))
    refine W_beqI (fun _ => ?_) (fun _ => ?_)
    all_goals
      refine W_call (hN _ _ _ _ (by omega) (by omega) r2) ?_
      rintro _ ⟨x3, i3, rfl, x31, x32, r3⟩
      refine W_uI (W_uI (W_unNil ?_))
      have e2 : IntKind.i64.wrap (1 + x3) = 1 + x3 := wrap_id (by omega)
      rw [e2]
      unfold l56_0
      refine st_loop (m := left - 1) (all0 := all ++ [V.str (⟨#[115]⟩ ++ digB (Int.toNat all.length))]) (hS d' rfl) hdd h2 ?_ k _ _ _ _ _ ⟨by simp [nmVL], hni⟩ (by omega) (by omega) (by simp; omega) (fun _ => ⟨by omega, by omega⟩) (by omega) (by omega) hlen hall r3 (by simp) (by simp)
      intro left' all' j' kids c0 c1 c2 c3 c4 c5 c6 c7 c8 c9
      have fin : ∀ (K' : List V → Option R) kd, K' = K → (kd = 1 ∨ kd = 2) → ∀ jj, RowS L jj → W (fun o => ∃ x left'' all'' j, o = [x, .int .i64 left'', .sl 1 all'', .int .i64 j] ∧ StateS 0 (d' + 1 + 1) x ∧ kindV x ≤ 2 ∧ 0 ≤ left'' ∧ left'' < left ∧ left'' + (all''.length : Int) = left + all.length ∧ NmsS all'' ∧ RowS L j ∧ all'' = all ++ nmV (d' + 1 + 1) x ∧ NmI all'') K
          (K [.agg [.int .i64 kd, .str (⟨#[115]⟩ ++ digB (Int.toNat all.length)), .sl 8 [], .sl 8 [], .sl 5 [], .sl 7 kids, .int .i64 0], .int .i64 left', .sl 1 all', .int .i64 jj]) := by
        intro K' kd _ hkd jj hjj
        exact W_ret ⟨_, _, _, _, rfl, state_mk t1p.1 t1p.2 ⟨by omega, by omega⟩ (by omega) c7 (by omega) c8 (fun _ => c9), by simp [kindV]; omega, c1, by omega, by omega, c4, hjj, by rw [← c0.1, List.append_assoc]; rfl, c0.2⟩
      refine W_dec (fun hl1 => ?_) (fun _ => fin K _ rfl (by omega) _ c5)
      refine W_call (hN _ _ _ _ (by omega) (by omega) c5) ?_
      rintro _ ⟨x4, i4, rfl, x41, x42, r4⟩
      refine W_uI (W_uI (W_unNil ?_))
      refine W_beqI (fun _ => ?_) (fun _ => fin K _ rfl (by omega) _ r4)
      refine W_call (hN _ _ _ _ (by omega) (by omega) r4) ?_
      rintro _ ⟨x5, i5, rfl, x51, x52, r5⟩
      refine W_uI (W_uI (W_unNil ?_))
      refine W_call (hDg _ _ (by omega) (by omega)) ?_
      rintro _ rfl
      have t3s := dsz ((all'.length : Int).toNat)
      have t3s' := ddsz ((all'.length : Int).toNat)
      have t3p := pre_strs (c := 104) t3s
      refine W_uS (W_unNil (W_yes (by omega) (W_yes (by omega) (W_yes (by omega) ?_))))
      have e3 : IntKind.i64.wrap (3 + x5) = 3 + x5 := wrap_id (by omega)
      have e4 : IntKind.i64.wrap (left' - 1) = left' - 1 := wrap_id (by omega)
      rw [e3, e4]
      exact W_ret ⟨_, _, _, _, rfl, state_mk t1p.1 t1p.2 ⟨by omega, by omega⟩ (by simp; omega) (mem_snoc c7 (state_mk t3p.1 t3p.2 ⟨by omega, by omega⟩ (by simp) (by simp) (fun _ => rfl) (by simp) (by omega))) (by omega) (head_snoc c8 (fun h => absurd h c9)) (fun _ => by simp), by simp [kindV], by omega, by omega, by simp; omega, nms_snoc c4 t3p.1 t3p.2, r5, by rw [← c0.1]; simp [nmV, nmVL, stKids], nmI_snoc c0.2 (.inr rfl)⟩
  · exact W_no hd0 (W_ret ⟨_, _, _, _, rfl, leaf, by simp [kindV], by omega, by omega, hlen, hall, h4, hsz.1, hsz.2⟩)
end
section
variable {R : Type} {G : ORC R} {k : Nat} {K : List V → Option R}
def FillOK (d : Nat) (G : ORC R) : Prop := ∀ (x : V) (a p c s all L : List V) (left i : Int) (K : List V → Option R), StateS 0 d x → StrsS 100 a → StrsS 100 p → StrsS 100 c → StrsS 100 s → NmsS all → all.length ≤ 20 → RowS L i →
  W (fun o => ∃ y j, o = [y, .int .i64 left, .int .i64 j] ∧ StateS 2 d y ∧ kindV y = kindV x ∧ RowS L j ∧ nmV d y = nmV d x) K
    (G 57 [x, .sl 1 a, .sl 1 p, .sl 1 c, .sl 1 s, .int .i64 left, .sl 1 all, .sl 1 L, .int .i64 i] K)
theorem trans_mk {ev tg : ByteArray} {gd acts : List V} (h1 : StrS ev) (h2 : StrS tg) (h3 : gd.length ≤ 1) (h4 : ∀ e ∈ gd, ExprS 3 e) (h5 : BlockS 3 acts) : TransS (.agg [.str ev, .sl 5 gd, .str tg, .sl 8 acts, .int .i64 0]) := ⟨ev, gd, tg, acts, rfl, h1, h2, h3, h4, h5⟩
theorem tr_round (hN : NextS G) (hPk : PickS G) (hEv : EventS G) (hE : ExprOK 2 G) (hB : BlockOK 2 G) {Q : List V → Prop} {K : List V → Option R} {a p c s all L h1 h2 h3 h4 en ex tr kids : List V} {left h0 h5 kind z n i : Int} {hs nm : ByteArray}
    (X : Int → List V → List V → List V → List V → Int → List V → List V → Int → Int → ByteArray → List V → List V → List V → List V → Int → Int → ByteArray → List V → List V → List V → List V → Int → Option R) (Ko : List V → List V → List V → List V → Int → List V → List V → Int → Int → ByteArray → List V → List V → List V → List V → Int → Int → ByteArray → List V → List V → List V → List V → Int → Option R)
    (ha : StrsS 100 a) (hp : StrsS 100 p) (hc : StrsS 100 c) (hss : StrsS 100 s) (hal : StrsS 100 all) (hr : RowS L i) (hn : n > 0) (htr : tr.length ≤ 2)
    (hX1 : ∀ v j, TransS v → RowS L j → W Q K (X (IntKind.i64.wrap (n - 1)) a p c s left all L j kind nm en ex (tr ++ [v]) kids z h0 hs h1 h2 h3 h4 h5)) :
    W Q K (b57_0 G k X Ko n a p c s left all L i kind nm en ex tr kids z h0 hs h1 h2 h3 h4 h5) := by
  unfold b57_0
  unfold NextS at hN; unfold PickS at hPk; unfold EventS at hEv; unfold ExprOK at hE; unfold BlockOK at hB
  refine W_yes hn ?_
  repeat' (first
      | with_reducible (first | (refine W_uI ?_) | (refine W_uS ?_) | (refine W_uL ?_) | (refine W_uA ?_) | (refine W_uB ?_) | (refine W_aI ?_) | (refine W_aL ?_) | (refine W_ca3 ?_) | (refine W_ce3 ?_) | (refine W_ca4 ?_) | (refine W_ce4 ?_) | (refine W_ca5 ?_) | (refine W_ce5 ?_) | (refine W_ca6 ?_) | (refine W_ce6 ?_) | (refine W_ca7 ?_) | (refine W_ce7 ?_) | (refine W_ca8 ?_) | (refine W_ce8 ?_) | (refine W_unCons ?_) | (refine W_unNil ?_) | (refine W_asInt ?_) | (refine W_asStr ?_) | (refine W_asSl ?_) | (refine W_asAgg ?_) | (refine W_kd ?_) | (refine W_z ?_))
      | ((with_reducible (refine W_call (hN _ _ _ _ ?_ ?_ (by assumption)) ?_)); omega; omega; rintro _ ⟨_, _, rfl, _, _, _⟩)
      | ((with_reducible (refine W_call (hPk _ _ _ _ 100 _ (by assumption) ?_ strs0 (by assumption)) ?_)); omega; rintro _ ⟨_, _, rfl, _, _, _⟩)
      | ((with_reducible (refine W_call (hEv _ _) ?_)); rintro _ ⟨_, rfl, _⟩)
      | ((with_reducible (refine W_call (hE _ _ _ _ _ _ _ _ ?_ (by assumption) (by assumption) (by assumption)) ?_)); (rfl); rintro _ ⟨_, _, rfl, he, _⟩; have he2 := one_mem he; obtain ⟨_, _, _, _, rfl, _⟩ := he)
      | ((with_reducible (refine W_call (hB _ _ _ _ _ _ _ _ ?_ (by assumption) (by assumption) (by assumption) (by assumption) (by assumption)) ?_)); (rfl); rintro _ ⟨_, _, rfl, _, _⟩)
      | ((with_reducible (refine W_yes ?_ ?_)); omega)
      | (with_reducible (refine W_dec (fun _ => ?_) (fun _ => ?_))) | (with_reducible (refine W_beqI (fun _ => ?_) (fun _ => ?_)))
      | ((with_reducible (refine hX1 _ _ ?_ (by assumption)));
         exact trans_mk (by first | assumption | exact strs0) (by first | assumption | exact strs0) (by first | exact Nat.le_refl 1 | exact Nat.zero_le 1) (by first | assumption | simp) (by first | assumption | exact block0)))
theorem tr_loop (hN : NextS G) (hPk : PickS G) (hEv : EventS G) (hE : ExprOK 2 G) (hB : BlockOK 2 G) {Q : List V → Prop} {K : List V → Option R} {a p c s all L h1 h2 h3 h4 en ex kids : List V} {left h0 h5 kind z : Int} {hs nm : ByteArray}
    {Ko : List V → List V → List V → List V → Int → List V → List V → Int → Int → ByteArray → List V → List V → List V → List V → Int → Int → ByteArray → List V → List V → List V → List V → Int → Option R}
    (ha : StrsS 100 a) (hp : StrsS 100 p) (hc : StrsS 100 c) (hss : StrsS 100 s) (hal : StrsS 100 all)
    (hKo : ∀ tr j, tr.length ≤ 2 → (∀ t ∈ tr, TransS t) → RowS L j → W Q K (Ko a p c s left all L j kind nm en ex tr kids z h0 hs h1 h2 h3 h4 h5)) :
    ∀ (j : Nat) (n i : Int) (tr : List V), n < j → 0 ≤ n → (tr.length : Int) + n ≤ 2 → (∀ t ∈ tr, TransS t) → RowS L i → W Q K (l57_0g G k Ko j n a p c s left all L i kind nm en ex tr kids z h0 hs h1 h2 h3 h4 h5)
  | 0, n, i, tr, a1, a2, a3, a4, a5 => by omega
  | j + 1, n, i, tr, a1, a2, a3, a4, a5 => by
    show W Q K (b57_0 G k (l57_0g G k Ko j) Ko n a p c s left all L i kind nm en ex tr kids z h0 hs h1 h2 h3 h4 h5)
    by_cases hn : n > 0
    · refine tr_round hN hPk hEv hE hB _ _ ha hp hc hss hal a5 hn (by omega) (fun v j' hv hj => ?_)
      rw [wrap_id (n := n - 1) (by omega)]
      exact tr_loop hN hPk hEv hE hB ha hp hc hss hal hKo j _ _ _ (by omega) (by omega) (by simp; omega) (mem_snoc a4 hv) hj
    · unfold b57_0
      exact W_no hn (hKo tr i (by omega) a4 a5)
theorem set2 {A B : List V} {b u y : V} : List.set (List.set (A ++ b :: B) A.length u) A.length y = A ++ y :: B := by simp
def kn (d : Nat) (v : V) : Int × List V := (kindV v, nmV d v)
theorem kn_eq {d : Nat} {x y : V} (h : kindV y = kindV x) (h' : nmV d y = nmV d x) : kn d y = kn d x := Prod.ext h h'
theorem kid_loop {d : Nat} (hF : FillOK d G) {Q : List V → Prop} {K : List V → Option R} {a p c s all L h1 h2 h3 h4 en ex tr : List V} {left h0 h5 kind z : Int} {hs nm : ByteArray} {ks : List (Int × List V)}
    {Ko : List V → List V → List V → List V → Int → List V → List V → Int → Int → ByteArray → List V → List V → List V → List V → Int → Int → ByteArray → List V → List V → List V → List V → Int → Option R}
    (ha : StrsS 100 a) (hp : StrsS 100 p) (hc : StrsS 100 c) (hss : StrsS 100 s) (hal : NmsS all) (hal2 : all.length ≤ 20)
    (hKo : ∀ kids j, kids.map (kn d) = ks → (∀ t ∈ kids, StateS 2 d t) → RowS L j → W Q K (Ko a p c s left all L j kind nm en ex tr kids z h0 hs h1 h2 h3 h4 h5)) :
    ∀ (B A : List V) (j : Nat) (i : Int), B.length < j → A.length + B.length ≤ 4 → (∀ t ∈ A, StateS 2 d t) → (∀ t ∈ B, StateS 0 d t) → (A ++ B).map (kn d) = ks → RowS L i →
      W Q K (l57_2g G k Ko j (A.length : Int) a p c s left all L i kind nm en ex tr (A ++ B) z h0 hs h1 h2 h3 h4 h5)
  | B, A, 0, i, a1, a2, a3, a4, a5, a6 => by omega
  | [], A, j + 1, i, a1, a2, a3, a4, a5, a6 => by
    show W Q K (b57_2 G k (l57_2g G k Ko j) Ko (A.length : Int) a p c s left all L i kind nm en ex tr (A ++ []) z h0 hs h1 h2 h3 h4 h5)
    unfold b57_2
    refine W_no (by simp) ?_
    rw [List.append_nil] at a5 ⊢
    exact hKo A i a5 a3 a6
  | b :: B, A, j + 1, i, a1, a2, a3, a4, a5, a6 => by
    show W Q K (b57_2 G k (l57_2g G k Ko j) Ko (A.length : Int) a p c s left all L i kind nm en ex tr (A ++ b :: B) z h0 hs h1 h2 h3 h4 h5)
    unfold b57_2
    simp only [List.length_cons] at a1 a2
    have hlt : (A.length : Int) < (((A ++ b :: B).length : Nat) : Int) := by simp; omega
    refine W_yes hlt (W_and (W_yes (by omega) (W_yes hlt ?_)))
    refine W_nth (by omega) (fun v hv _ => ?_)
    have hvb : v = b := by simp at hv; exact hv.symm
    subst hvb
    have hb := a4 v List.mem_cons_self
    have hbk := hb
    cases d with
    | zero => exact hb.elim
    | succ d =>
    obtain ⟨_, _, _, _, _, _, rfl, _⟩ := hb
    refine W_asAgg ?_
    refine W_call (hF _ a p c s all L left i _ hbk ha hp hc hss hal hal2 a6) ?_
    rintro _ ⟨y, j', rfl, b1, b2, b3, b4⟩
    have b5 := kn_eq b2 b4
    have b1' := b1
    obtain ⟨_, _, _, _, _, _, rfl, _⟩ := b1
    repeat (with_reducible (first | (refine W_uI ?_) | (refine W_uS ?_) | (refine W_uL ?_) | (refine W_uA ?_) | (refine W_uB ?_) | (refine W_aI ?_) | (refine W_aL ?_) | (refine W_ca3 ?_) | (refine W_ce3 ?_) | (refine W_ca4 ?_) | (refine W_ce4 ?_) | (refine W_ca5 ?_) | (refine W_ce5 ?_) | (refine W_ca6 ?_) | (refine W_ce6 ?_) | (refine W_ca7 ?_) | (refine W_ce7 ?_) | (refine W_ca8 ?_) | (refine W_ce8 ?_) | (refine W_unCons ?_) | (refine W_unNil ?_) | (refine W_asInt ?_) | (refine W_asStr ?_) | (refine W_asSl ?_) | (refine W_asAgg ?_) | (refine W_kd ?_) | (refine W_z ?_)))
    rw [Int.toNat_natCast, set2]
    refine W_and (W_yes (by omega) (W_yes (by rw [List.length_set]; exact hlt) ?_))
    refine W_nth (by rw [List.length_set]; omega) (fun v _ _ => ?_)
    rw [wrap_id (n := (A.length : Int) + 1) (by omega)]
    have e := kid_loop hF (kind := kind) (z := z) (h0 := h0) (h5 := h5) (hs := hs) (nm := nm) (h1 := h1) (h2 := h2) (h3 := h3) (h4 := h4) (en := en) (ex := ex) (tr := tr) (left := left) ha hp hc hss hal hal2 hKo B (A ++ [_]) j j' (by omega) (by simp; omega) (mem_snoc a3 b1') (fun t ht => a4 t (List.mem_cons_of_mem _ ht)) (by rw [← a5]; simp only [List.append_assoc, List.singleton_append, List.map_append, List.map_cons]; rw [b5]) b3
    simp only [List.append_assoc, List.singleton_append, List.length_append, List.length_cons, List.length_nil, Nat.zero_add, Int.natCast_add, Int.natCast_one] at e
    exact e
theorem fill_ok {d : Nat} (hk : 1000 ≤ k) (hN : NextS G) (hPk : PickS G) (hEv : EventS G) (hE : ExprOK 2 G) (hB2 : BlockOK 2 G) (hB1 : BlockOK 1 G) (hF : ∀ d', d = d' + 1 → FillOK d' G) : FillOK d (fun _ args (K : List V → Option R) => g57 G k args K) := by
  intro x a p c s all L left i K hx ha hp hc hs hal hal2 hr
  cases d with
  | zero => exact hx.elim
  | succ d =>
  have hx2 := hx
  obtain ⟨kind, nm, en, ex, tr, kids, rfl, x1, x2, x3, x4, x5, x6, x7, x8, x9, x10, x11, x12, x13⟩ := hx
  show W _ K (f57 G k kind nm en ex tr kids 0 a p c s left all L i K)
  unfold f57
  have htr : tr = [] := List.eq_nil_of_length_eq_zero (by omega)
  subst htr
  refine W_dec (fun h => W_ret ⟨_, _, rfl, StateS.le (by omega) hx2, rfl, hr, rfl⟩) (fun h => ?_)
  have hal3 : StrsS 100 all := ⟨by omega, fun v hv => by obtain ⟨s, e, h, _⟩ := hal v hv; exact ⟨s, e, h⟩⟩
  unfold NextS at hN; unfold BlockOK at hB1
  have fin : ∀ (kids' en' ex' tr' : List V) (j : Int), kids'.map (kn d) = kids.map (kn d) → (∀ t ∈ kids', StateS 2 d t) → RowS L j → BlockS 2 en' → BlockS 2 ex' → tr'.length ≤ 2 → (∀ t ∈ tr', TransS t) →
      W (fun o => ∃ y j, o = [y, .int .i64 left, .int .i64 j] ∧ StateS 2 (d + 1) y ∧ kindV y = kindV (.agg [.int .i64 kind, .str nm, .sl 8 en, .sl 8 ex, .sl 5 [], .sl 7 kids, .int .i64 0]) ∧ RowS L j ∧ nmV (d + 1) y = nmV (d + 1) (.agg [.int .i64 kind, .str nm, .sl 8 en, .sl 8 ex, .sl 5 [], .sl 7 kids, .int .i64 0])) K
        (K [.agg [.int .i64 kind, .str nm, .sl 8 en', .sl 8 ex', .sl 5 tr', .sl 7 kids', .int .i64 0], .int .i64 left, .int .i64 j]) := by
    intro kids' en' ex' tr' j b1 b2 b3 b4 b5 b6 b7
    have hl : kids'.length = kids.length := by have := congrArg List.length b1; simpa using this
    refine W_ret ⟨_, _, rfl, ⟨kind, nm, en', ex', tr', kids', rfl, x1, x2, x3, x4, b4, b5, b6, b7, by omega, b2, fun h' => absurd h' h, ?_, fun h' e => x13 h' (List.eq_nil_of_length_eq_zero (by rw [← hl, e]; rfl))⟩, rfl, b3, ?_⟩
    rotate_left
    · have e2 := congrArg (List.map Prod.snd) b1
      simp only [List.map_map] at e2
      exact congrArg (fun l : List (List V) => V.str nm :: l.flatten) e2
    intro v r e
    cases kids with
    | nil => rw [e] at hl; simp at hl
    | cons u us =>
      rw [e] at b1; simp [kn] at b1
      rw [b1.1.1]; exact x12 u us rfl
  have go : ∀ (en' ex' : List V) (n j : Int) (Kx : List V → Option R), RowS L j → 0 ≤ n → n ≤ 2 → BlockS 2 en' → BlockS 2 ex' →
      W (fun o => ∃ y j, o = [y, .int .i64 left, .int .i64 j] ∧ StateS 2 (d + 1) y ∧ kindV y = kindV (.agg [.int .i64 kind, .str nm, .sl 8 en, .sl 8 ex, .sl 5 [], .sl 7 kids, .int .i64 0]) ∧ RowS L j ∧ nmV (d + 1) y = nmV (d + 1) (.agg [.int .i64 kind, .str nm, .sl 8 en, .sl 8 ex, .sl 5 [], .sl 7 kids, .int .i64 0])) K
        (l57_0 G k n a p c s left all L j kind nm en' ex' [] kids 0 0 ⟨#[]⟩ [] [] [] [] 0 (fun yl390 yl391 yl392 yl393 yi394 yl395 yl396 yi397 yi398 ys399 yl400 yl401 yl402 yl403 yi404 yi405 ys406 yl407 yl408 yl409 yl410 yi411 => (l57_2 G k (0 : Int) yl390 yl391 yl392 yl393 yi394 yl395 yl396 yi397 yi398 ys399 yl400 yl401 yl402 yl403 yi404 yi405 ys406 yl407 yl408 yl409 yl410 yi411 (fun yl477 yl478 yl479 yl480 yi481 yl482 yl483 yi484 yi485 ys486 yl487 yl488 yl489 yl490 yi491 yi492 ys493 yl494 yl495 yl496 yl497 yi498 => (K [(.agg [(.int .i64 yi485), (.str ys486), (.sl 8 yl487), (.sl 8 yl488), (.sl 5 yl489), (.sl 7 yl490), (.int .i64 yi491)]), (.int .i64 yi481), (.int .i64 yi484)]))))) := by
    intro en' ex' n j _ b1 b2 b3 b4 b5
    unfold l57_0
    refine tr_loop hN hPk hEv hE hB2 ha hp hc hs hal3 ?_ k n j [] (by omega) b2 (by simp; omega) (by simp) b1
    intro tr' j' c1 c2 c3
    unfold l57_2
    have e := kid_loop (Q := fun o => ∃ y j, o = [y, .int .i64 left, .int .i64 j] ∧ StateS 2 (d + 1) y ∧ kindV y = kindV (.agg [.int .i64 kind, .str nm, .sl 8 en, .sl 8 ex, .sl 5 [], .sl 7 kids, .int .i64 0]) ∧ RowS L j ∧ nmV (d + 1) y = nmV (d + 1) (.agg [.int .i64 kind, .str nm, .sl 8 en, .sl 8 ex, .sl 5 [], .sl 7 kids, .int .i64 0])) (K := K) (k := k) (hF d rfl) (kind := kind) (z := 0) (h0 := 0) (h5 := 0) (hs := ⟨#[]⟩) (nm := nm) (h1 := []) (h2 := []) (h3 := []) (h4 := []) (en := en') (ex := ex') (tr := tr') (left := left) (ks := kids.map (kn d))
      (Ko := (fun yl477 yl478 yl479 yl480 yi481 yl482 yl483 yi484 yi485 ys486 yl487 yl488 yl489 yl490 yi491 yi492 ys493 yl494 yl495 yl496 yl497 yi498 => (K [(.agg [(.int .i64 yi485), (.str ys486), (.sl 8 yl487), (.sl 8 yl488), (.sl 5 yl489), (.sl 7 yl490), (.int .i64 yi491)]), (.int .i64 yi481), (.int .i64 yi484)])))
      ha hp hc hs hal hal2 (fun kids' j'' d1 d2 d3 => fin kids' en' ex' tr' j'' d1 d2 d3 b4 b5 c1 c2) kids [] k j' (by omega) (by simpa using x9) (by simp) x10 rfl c3
    exact e
  refine W_call (hN _ _ _ _ (by omega) (by omega) hr) ?_
  rintro _ ⟨y1, i1, rfl, y11, y12, r1⟩
  refine W_uI (W_uI (W_unNil ?_))
  have last : ∀ (en' ex' : List V) (j : Int), RowS L j → BlockS 2 en' → BlockS 2 ex' → ∀ (F : List V → Option R), (∀ n j', F [.int .i64 n, .int .i64 j'] = (l57_0 G k n a p c s left all L j' kind nm en' ex' [] kids 0 0 ⟨#[]⟩ [] [] [] [] 0 (fun yl390 yl391 yl392 yl393 yi394 yl395 yl396 yi397 yi398 ys399 yl400 yl401 yl402 yl403 yi404 yi405 ys406 yl407 yl408 yl409 yl410 yi411 => (l57_2 G k (0 : Int) yl390 yl391 yl392 yl393 yi394 yl395 yl396 yi397 yi398 ys399 yl400 yl401 yl402 yl403 yi404 yi405 ys406 yl407 yl408 yl409 yl410 yi411 (fun yl477 yl478 yl479 yl480 yi481 yl482 yl483 yi484 yi485 ys486 yl487 yl488 yl489 yl490 yi491 yi492 ys493 yl494 yl495 yl496 yl497 yi498 => (K [(.agg [(.int .i64 yi485), (.str ys486), (.sl 8 yl487), (.sl 8 yl488), (.sl 5 yl489), (.sl 7 yl490), (.int .i64 yi491)]), (.int .i64 yi481), (.int .i64 yi484)])))))) →
      W (fun o => ∃ y j, o = [y, .int .i64 left, .int .i64 j] ∧ StateS 2 (d + 1) y ∧ kindV y = kindV (.agg [.int .i64 kind, .str nm, .sl 8 en, .sl 8 ex, .sl 5 [], .sl 7 kids, .int .i64 0]) ∧ RowS L j ∧ nmV (d + 1) y = nmV (d + 1) (.agg [.int .i64 kind, .str nm, .sl 8 en, .sl 8 ex, .sl 5 [], .sl 7 kids, .int .i64 0])) K (G 26 [.int .i64 3, .sl 1 L, .int .i64 j] F) := by
    intro en' ex' j b1 b2 b3 F hFe
    refine W_call (hN _ _ _ _ (by omega) (by omega) b1) ?_
    rintro _ ⟨n, i1, rfl, n1, n2, r1⟩
    rw [hFe]
    exact go en' ex' n i1 K r1 n1 (by omega) b2 b3
  refine W_beqI (fun _ => ?_) (fun _ => ?_)
  · refine W_call (hB1 _ _ _ _ _ _ _ _ (by rfl) ha hp hc hs r1) ?_
    rintro _ ⟨en', i2, rfl, he, r2⟩
    refine W_uL (W_uI (W_unNil ?_))
    refine W_call (hN _ _ _ _ (by omega) (by omega) r2) ?_
    rintro _ ⟨y2, i3, rfl, y21, y22, r3⟩
    refine W_uI (W_uI (W_unNil ?_))
    refine W_beqI (fun _ => ?_) (fun _ => ?_)
    · refine W_call (hB1 _ _ _ _ _ _ _ _ (by rfl) ha hp hc hs r3) ?_
      rintro _ ⟨ex', i4, rfl, hex, r4⟩
      refine W_uL (W_uI (W_unNil ?_))
      exact last en' ex' i4 r4 he hex _ (fun n j' => rfl)
    · exact last en' ex i3 r3 he x6 _ (fun n j' => rfl)
  · refine W_call (hN _ _ _ _ (by omega) (by omega) r1) ?_
    rintro _ ⟨y2, i3, rfl, y21, y22, r3⟩
    refine W_uI (W_uI (W_unNil ?_))
    refine W_beqI (fun _ => ?_) (fun _ => ?_)
    · refine W_call (hB1 _ _ _ _ _ _ _ _ (by rfl) ha hp hc hs r3) ?_
      rintro _ ⟨ex', i4, rfl, hex, r4⟩
      refine W_uL (W_uI (W_unNil ?_))
      exact last en ex' i4 r4 x5 hex _ (fun n j' => rfl)
    · exact last en ex i3 r3 x5 x6 _ (fun n j' => rfl)
end
section
variable {R : Type} {G : ORC R} {k : Nat}
def ChartOK (G : ORC R) : Prop := ∀ (nm : ByteArray) (np : Int) (L : List V) (i : Int) (K : List V → Option R), StrS nm → 0 ≤ np → np ≤ 100 → RowS L i →
  W (fun o => ∃ c j, o = [c, .int .i64 j] ∧ ChartS c ∧ RowS L j) K (G 24 [.str nm, .int .i64 np, .sl 1 L, .int .i64 i] K)
variable {Q : List V → Prop} {K : List V → Option R} {L a p c q1 q2 q3 q4 vars ports timers : List V} {s1 nm : ByteArray} {z1 z2 z3 z4 st fu : Int}
theorem chart_loop0 (hS : StOK 2 G) {Ko : List V → Int → ByteArray → Int → Int → List V → List V → List V → List V → Int → ByteArray → Int → Int → List V → List V → List V → List V → Int → List V → List V → List V → List V → Int → List V → Option R}
    {s : List V} {T : Int} (hT : T ≤ 20)
    (hKo : ∀ states j left all, (nmVL 3 states = all ∧ NmI all) → states.length ≤ 2 → states ≠ [] → (∀ v ∈ states, StateS 0 3 v ∧ kindV v ≤ 2) → 0 ≤ left → left + (List.length all : Int) = T → NmsS all → RowS L j → W Q K (Ko L j s1 z1 z2 q1 q2 q3 q4 z3 nm st fu vars ports timers states z4 a p c s left all)) :
    ∀ (j : Nat) (n i left : Int) (states all : List V), (nmVL 3 states = all ∧ NmI all) → n < j → 0 ≤ n → (states.length : Int) + n ≤ 2 → (states = [] → 1 ≤ left ∧ 0 < n) → 0 ≤ left → left + (List.length all : Int) = T → NmsS all → RowS L i → (∀ v ∈ states, StateS 0 3 v ∧ kindV v ≤ 2) →
      W Q K (l24_0g G k Ko j n L i s1 z1 z2 q1 q2 q3 q4 z3 nm st fu vars ports timers states z4 a p c s left all)
  | 0, n, i, left, states, all, a0, a1, a2, a3, a4, a5, a6, a7, a8, a9 => by omega
  | j + 1, n, i, left, states, all, a0, a1, a2, a3, a4, a5, a6, a7, a8, a9 => by
    show W Q K (b24_0 G k (l24_0g G k Ko j) Ko n L i s1 z1 z2 q1 q2 q3 q4 z3 nm st fu vars ports timers states z4 a p c s left all)
    unfold b24_0
    by_cases hn : n > 0
    · refine W_yes hn ?_
      by_cases hl : left > 0
      · refine W_yes hl ?_
        refine W_call (hS false a p c s all L _ left i _ (by rfl) (by omega) (by omega) a7 a0.2 a8) ?_
        rintro _ ⟨x, left', all', j', rfl, b1, b2, b3, b4, b5, b6, b7, b8, b8'⟩
        have b1' := b1
        have b9 : nmVL 3 (states ++ [x]) = all' ∧ NmI all' := ⟨by rw [nmVL_app, a0.1, b8]; simp [nmVL], b8'⟩
        obtain ⟨_, _, _, _, _, _, rfl, _⟩ := b1
        repeat (with_reducible (first | (refine W_uI ?_) | (refine W_uS ?_) | (refine W_uL ?_) | (refine W_uA ?_) | (refine W_uB ?_) | (refine W_aI ?_) | (refine W_aL ?_) | (refine W_ca3 ?_) | (refine W_ce3 ?_) | (refine W_ca4 ?_) | (refine W_ce4 ?_) | (refine W_ca5 ?_) | (refine W_ce5 ?_) | (refine W_ca6 ?_) | (refine W_ce6 ?_) | (refine W_ca7 ?_) | (refine W_ce7 ?_) | (refine W_ca8 ?_) | (refine W_ce8 ?_) | (refine W_unCons ?_) | (refine W_unNil ?_) | (refine W_asInt ?_) | (refine W_asStr ?_) | (refine W_asSl ?_) | (refine W_asAgg ?_) | (refine W_kd ?_) | (refine W_z ?_)))
        refine W_yes (by omega) ?_
        have e1 : IntKind.i64.wrap (n - 1) = n - 1 := wrap_id (by omega)
        rw [e1]
        exact chart_loop0 hS hT hKo j _ _ _ _ _ b9 (by omega) (by omega) (by simp; omega) (by simp) b3 (by omega) b6 b7 (mem_snoc a9 ⟨b1', b2⟩)
      · refine W_no hl ?_
        have hacc : states ≠ [] := fun h => by have := (a4 h).1; omega
        have hlen : ((states.length : Nat) : Int) ≠ 0 := fun h => hacc (List.eq_nil_of_length_eq_zero (by omega))
        refine W_eqN hlen ?_
        exact hKo states i left all a0 (by omega) hacc a9 a5 a6 a7 a8
    · exact W_no hn (hKo states i left all a0 (by omega) (fun h => by have := (a4 h).2; omega) a9 a5 a6 a7 a8)
theorem chart_loop2 {Ko : List V → Int → ByteArray → Int → Int → List V → List V → List V → List V → Int → ByteArray → Int → Int → List V → List V → List V → List V → Int → List V → List V → List V → List V → Int → List V → Option R}
    {states all : List V} {at_ left : Int} (hall : NmsS all) (hlen : all.length ≤ 20)
    (hKo : ∀ s, StrsS 20 s → W Q K (Ko L at_ s1 z1 z2 q1 q2 q3 q4 z3 nm st fu vars ports timers states z4 a p c s left all)) :
    ∀ (j : Nat) (i : Int) (s : List V), (all.length : Int) - i < j → 0 ≤ i → i ≤ all.length → StrsS i.toNat s →
      W Q K (l24_2g G k Ko j i L at_ s1 z1 z2 q1 q2 q3 q4 z3 nm st fu vars ports timers states z4 a p c s left all)
  | 0, i, s, a1, a2, a3, a4 => by omega
  | j + 1, i, s, a1, a2, a3, a4 => by
    show W Q K (b24_2 G k (l24_2g G k Ko j) Ko i L at_ s1 z1 z2 q1 q2 q3 q4 z3 nm st fu vars ports timers states z4 a p c s left all)
    unfold b24_2
    have hs := a4.1
    refine W_dec (fun h => ?_) (fun h => hKo s ⟨by omega, a4.2⟩)
    have e1 : IntKind.i64.wrap (i + 1) = i + 1 := wrap_id (by omega)
    rw [e1]
    refine W_and (W_yes a2 (W_yes h ?_))
    refine W_nth (by omega) (fun v hv hm => ?_)
    obtain ⟨t, rfl, t1, t2⟩ := hall v hm
    refine W_asStr (W_yes (by omega) ?_)
    refine W_beqI (fun _ => ?_) (fun _ => ?_)
    · refine W_and (W_yes a2 (W_yes h ?_))
      refine W_nth (by omega) (fun w hw _ => ?_)
      rw [hv] at hw; cases hw
      refine W_asStr (W_yes (by omega) ?_)
      exact chart_loop2 hall hlen hKo j (i + 1) _ (by omega) (by omega) (by omega) (by rw [show (i + 1).toNat = i.toNat + 1 by omega]; exact strs_snoc a4 t1)
    · exact chart_loop2 hall hlen hKo j (i + 1) _ (by omega) (by omega) (by omega) ⟨by omega, a4.2⟩
theorem chart_loop4 (hF : FillOK 3 G) {Ko : List V → Int → ByteArray → Int → Int → List V → List V → List V → List V → Int → ByteArray → Int → Int → List V → List V → List V → List V → Int → Option R}
    {s all : List V} {left : Int} (ha : StrsS 100 a) (hp : StrsS 100 p) (hc : StrsS 100 c) (hs : StrsS 100 s) (hall : NmsS all) (hlen : all.length ≤ 20) {m : Nat} {M : List V}
    (hKo : ∀ states j, states.length = m → nmVL 3 states = M → (∀ v ∈ states, StateS 2 3 v ∧ kindV v ≤ 2) → RowS L j → W Q K (Ko L j s1 z1 z2 q1 q2 q3 q4 z3 nm st fu vars ports timers states z4)) :
    ∀ (B A : List V) (j : Nat) (i : Int), B.length < j → A.length + B.length ≤ 4 → (∀ v ∈ A, StateS 2 3 v ∧ kindV v ≤ 2) → (∀ v ∈ B, StateS 0 3 v ∧ kindV v ≤ 2) → A.length + B.length = m → nmVL 3 (A ++ B) = M → RowS L i →
      W Q K (l24_4g G k Ko j (A.length : Int) L i s1 z1 z2 q1 q2 q3 q4 z3 nm st fu vars ports timers (A ++ B) z4 a p c s left all)
  | B, A, 0, i, a1, a2, a3, a4, a5, aM, a6 => by omega
  | [], A, j + 1, i, a1, a2, a3, a4, a5, aM, a6 => by
    show W Q K (b24_4 G k (l24_4g G k Ko j) Ko (A.length : Int) L i s1 z1 z2 q1 q2 q3 q4 z3 nm st fu vars ports timers (A ++ []) z4 a p c s left all)
    unfold b24_4
    refine W_no (by simp) ?_
    rw [List.append_nil] at aM ⊢
    exact hKo A i (by simpa using a5) aM a3 a6
  | b :: B, A, j + 1, i, a1, a2, a3, a4, a5, aM, a6 => by
    show W Q K (b24_4 G k (l24_4g G k Ko j) Ko (A.length : Int) L i s1 z1 z2 q1 q2 q3 q4 z3 nm st fu vars ports timers (A ++ b :: B) z4 a p c s left all)
    unfold b24_4
    simp only [List.length_cons] at a1 a2 a5
    have hlt : (A.length : Int) < (((A ++ b :: B).length : Nat) : Int) := by simp; omega
    refine W_yes hlt (W_and (W_yes (by omega) (W_yes hlt ?_)))
    refine W_nth (by omega) (fun v hv _ => ?_)
    have hvb : v = b := by simp at hv; exact hv.symm
    subst hvb
    have hb := a4 v List.mem_cons_self
    have hbk := hb
    obtain ⟨⟨_, _, _, _, _, _, rfl, _⟩, _⟩ := hb
    refine W_asAgg ?_
    refine W_call (hF _ a p c s all L left i _ hbk.1 ha hp hc hs hall hlen a6) ?_
    rintro _ ⟨y, j', rfl, b1, b2, b3, b4⟩
    have b1' := b1
    have b5 : nmVL 3 ((A ++ [y]) ++ B) = M := by rw [← aM]; simp only [nmVL, List.flatMap_append, List.flatMap_cons, List.flatMap_nil, List.append_nil, List.append_assoc]; rw [b4]
    obtain ⟨_, _, _, _, _, _, rfl, _⟩ := b1
    repeat (with_reducible (first | (refine W_uI ?_) | (refine W_uS ?_) | (refine W_uL ?_) | (refine W_uA ?_) | (refine W_uB ?_) | (refine W_aI ?_) | (refine W_aL ?_) | (refine W_ca3 ?_) | (refine W_ce3 ?_) | (refine W_ca4 ?_) | (refine W_ce4 ?_) | (refine W_ca5 ?_) | (refine W_ce5 ?_) | (refine W_ca6 ?_) | (refine W_ce6 ?_) | (refine W_ca7 ?_) | (refine W_ce7 ?_) | (refine W_ca8 ?_) | (refine W_ce8 ?_) | (refine W_unCons ?_) | (refine W_unNil ?_) | (refine W_asInt ?_) | (refine W_asStr ?_) | (refine W_asSl ?_) | (refine W_asAgg ?_) | (refine W_kd ?_) | (refine W_z ?_)))
    rw [Int.toNat_natCast, set2]
    refine W_and (W_yes (by omega) (W_yes (by rw [List.length_set]; exact hlt) ?_))
    refine W_nth (by rw [List.length_set]; omega) (fun v _ _ => ?_)
    rw [wrap_id (n := (A.length : Int) + 1) (by omega)]
    have e := chart_loop4 hF (left := left) ha hp hc hs hall hlen hKo B (A ++ [_]) j j' (by omega) (by simp; omega) (mem_snoc a3 ⟨b1', by rw [b2]; exact hbk.2⟩) (fun t ht => a4 t (List.mem_cons_of_mem _ ht)) (by simp; omega) b5 b3
    simp only [List.append_assoc, List.singleton_append, List.length_append, List.length_cons, List.length_nil, Nat.zero_add, Int.natCast_add, Int.natCast_one] at e
    exact e
theorem sz1 (c : UInt8) : (⟨#[c]⟩ : ByteArray).size ≤ 10 := by show (1 : Nat) ≤ 10; omega
theorem chart_ok (hk : 1000 ≤ k) (hN : NextS G) (hNm : NamesS G) (hNd : NumdS G) (hPl : PlainS G) (hS : StOK 2 G) (hF : FillOK 3 G) : ChartOK (fun _ args (K : List V → Option R) => g24 G k args K) := by
  intro nm np L i K hnm h1 h2 hr
  show W _ K (f24 G k nm np L i K)
  unfold f24
  unfold NextS at hN; unfold NamesS at hNm; unfold NumdS at hNd; unfold PlainS at hPl
  refine W_call (hN _ _ _ _ (by omega) (by omega) hr) ?_
  rintro _ ⟨x1, i1, rfl, x11, x12, r1⟩
  refine W_uI (W_uI (W_unNil ?_))
  refine W_call (hN _ _ _ _ (by omega) (by omega) r1) ?_
  rintro _ ⟨x2, i2, rfl, x21, x22, r2⟩
  refine W_uI (W_uI (W_unNil ?_))
  refine W_call (hNm _ _ _ (sz1 _) x21 (by omega)) ?_
  rintro _ ⟨l1, rfl, hl1⟩
  refine W_uL (W_unNil ?_)
  refine W_call (hNm _ _ _ (sz1 _) h1 h2) ?_
  rintro _ ⟨l2, rfl, hl2⟩
  refine W_uL (W_unNil ?_)
  refine W_call (hN _ _ _ _ (by omega) (by omega) r2) ?_
  rintro _ ⟨x3, i3, rfl, x31, x32, r3⟩
  refine W_uI (W_uI (W_unNil ?_))
  refine W_call (hNm _ _ _ (sz1 _) x31 (by omega)) ?_
  rintro _ ⟨l3, rfl, hl3⟩
  refine W_uL (W_unNil ?_)
  refine W_call (hN _ _ _ _ (by omega) (by omega) r3) ?_
  rintro _ ⟨x4, i4, rfl, x41, x42, r4⟩
  refine W_uI (W_uI (W_unNil ?_))
  refine W_call (hN _ _ _ _ (by omega) (by omega) r4) ?_
  rintro _ ⟨x5, i5, rfl, x51, x52, r5⟩
  refine W_uI (W_uI (W_unNil ?_))
  refine W_and (W_yes (by omega) (W_yes (by omega) ?_))
  refine W_nth (by simp; omega) (fun v _ hv => ?_)
  have hv2 : ∃ fu, v = .int .i64 fu ∧ 4 ≤ fu ∧ fu ≤ 200 := by
    simp only [List.mem_cons, List.not_mem_nil, or_false] at hv
    rcases hv with rfl | rfl | rfl | rfl <;> exact ⟨_, rfl, by omega, by omega⟩
  obtain ⟨fu, rfl, fu1, fu2⟩ := hv2
  refine W_aI ?_
  refine W_call (hNd _ _ _ _ hl1 r5) ?_
  rintro _ ⟨v1, i6, rfl, hv1, r6⟩
  refine W_uL (W_uI (W_unNil ?_))
  refine W_call (hPl _ _ hl2) ?_
  rintro _ ⟨v2, rfl, hv2⟩
  refine W_uL (W_unNil ?_)
  refine W_call (hPl _ _ hl3) ?_
  rintro _ ⟨v3, rfl, hv3⟩
  refine W_uL (W_unNil ?_)
  refine W_call (hN _ _ _ _ (by omega) (by omega) r6) ?_
  rintro _ ⟨x7, i7, rfl, x71, x72, r7⟩
  refine W_uI (W_uI (W_unNil ?_))
  have e1 : IntKind.i64.wrap (1 + x7) = 1 + x7 := wrap_id (by omega)
  have e2 : IntKind.i64.wrap (2 + x1) = 2 + x1 := wrap_id (by omega)
  have e3 : IntKind.i64.wrap (2 + x4) = 2 + x4 := wrap_id (by omega)
  rw [e1, e2, e3]
  unfold l24_0
  refine chart_loop0 (T := 2 + x1) hS (by omega) ?_ k _ _ _ _ _ ⟨rfl, fun i v h => by simp at h⟩ (by omega) (by omega) (by simp; omega) (fun _ => ⟨by omega, by omega⟩) (by omega) (by simp) (by intro v hv; simp at hv) r7 (by simp)
  intro states j left all c0 c1 c2 c3 c4 c5 c6 c7
  unfold l24_2
  refine chart_loop2 c6 (by omega) ?_ k 0 [] (by omega) (by omega) (by omega) ⟨by simp, by simp⟩
  intro s hs
  unfold l24_4
  refine chart_loop4 (A := []) (m := states.length) (M := nmVL 3 states) hF hl1 hl2 hl3 ⟨by have := hs.1; omega, hs.2⟩ c6 (by omega) ?_ states k j (by omega) (by simp; omega) (by simp) c3 (by simp) rfl c7
  intro states' j' d1 dM d2 d3
  exact W_ret ⟨_, _, rfl, ⟨nm, _, fu, v1, v2, v3, states', rfl, hnm, by omega, by omega, fu1, fu2, hv1, hv2, hv3, by omega, fun h => c2 (List.eq_nil_of_length_eq_zero (by rw [← d1, h]; rfl)), d2, by have := nmVL_len (d := 3) (l := states'); rw [dM, c0.1] at this; omega, by rw [dM, c0.1]; exact c0.2⟩, d3⟩
end
section
variable {R : Type} {G : ORC R} {k : Nat} {K : List V → Option R}
def KindOK (G : ORC R) : Prop := ∀ (v : V) (m d : Nat) (K : List V → Option R), StateS m d v → W (fun o => o = [.int .i64 (ndKind v)]) K (G 68 [v] K)
theorem kind_ok : KindOK (fun _ args (K : List V → Option R) => g68 G k args K) := by
  intro v m d K hv
  cases d with
  | zero => exact hv.elim
  | succ d =>
  obtain ⟨kind, nm, en, ex, tr, kids, rfl, _⟩ := hv
  show W _ K (f68 G k kind nm en ex tr kids 0 K)
  unfold f68
  have e : ndKind (.agg [.int .i64 kind, .str nm, .sl 8 en, .sl 8 ex, .sl 5 tr, .sl 7 kids, .int .i64 0]) = if kind = 3 then 4 else if kind = 4 then 5 else if kind = 2 then 3 else if kids.length = 0 then 1 else 2 := rfl
  rw [e]
  refine W_beqI (fun h => ?_) (fun h => ?_)
  · exact W_ret (by rw [if_pos h])
  refine W_beqI (fun h1 => ?_) (fun h1 => ?_)
  · exact W_ret (by rw [if_neg h, if_pos h1])
  refine W_beqI (fun h2 => ?_) (fun h2 => ?_)
  · exact W_ret (by rw [if_neg h, if_neg h1, if_pos h2])
  refine W_beqI (fun h3 => ?_) (fun h3 => ?_)
  · exact W_ret (by rw [if_neg h, if_neg h1, if_neg h2, if_pos (by omega)])
  · exact W_ret (by rw [if_neg h, if_neg h1, if_neg h2, if_neg (by omega)])
def IsStOK (G : ORC R) : Prop := ∀ (n : Nd) (K : List V → Option R), W (fun o => o = [.bool (decide (n.kind ≤ 3))]) K (G 27 [n.v] K)
theorem isst_ok : IsStOK (fun _ args (K : List V → Option R) => g27 G k args K) := by
  intro n K
  show W _ K (f27 G k n.kind n.parent n.last n.init n.entry n.exit n.name K)
  unfold f27
  exact W_ret rfl
def PutOK (d : Nat) (G : ORC R) : Prop := ∀ (l : List Nd) (kids : List V) (up : Nat) (K : List V → Option R), (∀ s ∈ kids, StateS 2 d s) → (∀ s r, kids = s :: r → kindV s ≤ 2) → up < l.length → l.length + nszL d kids ≤ 1000 →
  W (fun o => o = [.sl 7 ((fixup l up l.length kids ++ forest d up l.length kids).map Nd.v)]) K (G 52 [.sl 7 (l.map Nd.v), .sl 7 kids, .int .i64 up] K)
theorem fixup_one {P : List Nd} {nd : Nd} {n : Nat} {s : V} {kids : List V} (hn : P.length = n) (hi : nd.init = -1) (hk : nd.kind = ndKind s) (hs : stKids s = kids) :
    fixup (P ++ [nd]) n (n + 1) kids = P ++ [{ nd with init := if ndKind s = 2 then (n : Int) + 1 else -1 }] := by
  subst hn
  unfold fixup
  cases kids with
  | nil =>
    have h2 : ndKind s ≠ 2 := by unfold ndKind; rw [hs]; simp; omega
    simp only [if_neg h2]
    rw [← hi]
  | cons a r =>
    simp only [List.getElem?_append_right (Nat.le_refl _), Nat.sub_self, List.getElem?_cons_zero]
    by_cases h2 : ndKind s = 2
    · rw [if_pos ⟨by omega, by omega⟩, if_pos h2]; simp
    · rw [if_neg (by omega), if_neg h2, ← hi]
theorem put_loop {d : Nat} (hKd : KindOK G) (hSt : IsStOK G) (hP : ∀ d', d = d' + 1 → PutOK d' G) {Q : List V → Prop} {K : List V → Option R} {Ko : List V → Option R} {l0 : List Nd} {kids : List V} {up : Nat}
    (hk : ∀ s ∈ kids, StateS 2 d s) (hh : ∀ s r, kids = s :: r → kindV s ≤ 2) (hup : up < l0.length) (hsz : l0.length + nszL d kids ≤ 1000)
    (hKo : W Q K (Ko ((fixup l0 up l0.length kids ++ forest d up l0.length kids).map Nd.v))) :
    ∀ (B A : List V) (j : Nat), kids = A ++ B → B.length < j → W Q K (l52_0g G k Ko j ((fixup l0 up l0.length A ++ forest d up l0.length A).map Nd.v) (A ++ B) up A.length)
  | B, A, 0, h1, h2 => by omega
  | [], A, j + 1, h1, h2 => by
    show W Q K (b52_0 G k (l52_0g G k Ko j) Ko ((fixup l0 up l0.length A ++ forest d up l0.length A).map Nd.v) (A ++ []) up A.length)
    unfold b52_0
    refine W_no (by simp) ?_
    rw [List.append_nil] at h1
    rw [← h1]; exact hKo
  | b :: B, A, j + 1, h1, h2 => by
    show W Q K (b52_0 G k (l52_0g G k Ko j) Ko ((fixup l0 up l0.length A ++ forest d up l0.length A).map Nd.v) (A ++ b :: B) up A.length)
    unfold b52_0
    have hb : StateS 2 d b := hk b (by rw [h1]; simp)
    have hbk := hb
    cases d with
    | zero => exact hb.elim
    | succ d =>
    simp only [List.length_cons] at h2
    have hAl := nszL_len (d := d) (l := A)
    have hnsz : nszL (d + 1) kids = nszL (d + 1) A + (1 + nszL d (stKids b) + nszL (d + 1) B) := by rw [h1, nszL_app, nszL_cons]
    obtain ⟨kind, nm, en, ex, tr, kb, rfl, x1, x2, x3, x4, x5, x6, x7, x8, x9, x10, x11, x12, x13⟩ := hb
    have hkb : stKids (.agg [.int .i64 kind, .str nm, .sl 8 en, .sl 8 ex, .sl 5 tr, .sl 7 kb, .int .i64 0]) = kb := rfl
    have hnb : stName (.agg [.int .i64 kind, .str nm, .sl 8 en, .sl 8 ex, .sl 5 tr, .sl 7 kb, .int .i64 0]) = nm := rfl
    have hkk : kindV (.agg [.int .i64 kind, .str nm, .sl 8 en, .sl 8 ex, .sl 5 tr, .sl 7 kb, .int .i64 0]) = kind := rfl
    generalize hbe : (V.agg [.int .i64 kind, .str nm, .sl 8 en, .sl 8 ex, .sl 5 tr, .sl 7 kb, .int .i64 0]) = b at *
    have hcl : (fixup l0 up l0.length A ++ forest (d + 1) up l0.length A).length = l0.length + nszL (d + 1) A := by rw [List.length_append, fixup_len, forest_len]
    have hlt : (A.length : Int) < (((A ++ b :: B).length : Nat) : Int) := by simp; omega
    have hnthb : ∀ v, (A ++ b :: B)[Int.toNat (A.length : Int)]? = some v → v = b := fun v hv => by simp at hv; exact hv.symm
    refine W_yes hlt (W_and (W_yes (by omega) (W_yes hlt ?_)))
    refine W_nth (by omega) (fun v hv _ => ?_)
    rw [hnthb v hv, ← hbe]
    refine W_asAgg ?_
    rw [hbe]
    refine W_call (hKd b 2 (d + 1) _ hbk) ?_
    rintro _ rfl
    refine W_uI (W_unNil ?_)
    refine W_and (W_yes (by omega) (W_yes hlt ?_))
    refine W_nth (by omega) (fun v hv _ => ?_)
    rw [hnthb v hv, ← hbe]
    refine W_ca7 (W_asStr ?_)
    rw [hbe]
    generalize hcur : fixup l0 up l0.length A ++ forest (d + 1) up l0.length A = cur at *
    generalize hn0 : cur.length = n at *
    have hnd : List.map Nd.v cur ++ [.agg [.int .i64 (ndKind b), .int .i64 (up : Int), .int .i64 0, .int .i64 (-1), .int .i64 (-1), .int .i64 (-1), .str nm]] = (cur ++ [(⟨ndKind b, up, 0, -1, -1, -1, nm⟩ : Nd)]).map Nd.v := by rw [List.map_append]; rfl
    rw [hnd]
    refine W_yes (by rw [List.length_map]; omega) ?_
    simp only [List.length_map, hn0, List.length_append, List.length_cons, List.length_nil]
    have hupn : up < n := by omega
    refine W_and (W_yes (by omega) (W_yes (by omega) ?_))
    refine W_nthN (by simp; omega) (fun n1 hn1 => W_nd ?_)
    refine W_ce7 (W_aI ?_)
    have hn1' : cur[up]? = some n1 := by
      rw [Int.toNat_natCast, List.getElem?_append_left (by omega)] at hn1; exact hn1
    -- what the parent is told
    have hcur1 : A = [] → cur = l0 := fun h => by rw [← hcur, h, fixup_nil]; simp [forest]
    have hcur2 : A ≠ [] → ¬ (n1.init < 0 ∧ n1.kind = 2) := by
      intro hA hc
      rw [← hcur, List.getElem?_append_left (by rw [fixup_len]; exact hup)] at hn1'
      cases A with
      | nil => exact hA rfl
      | cons a r =>
        have e0 : l0[up]? = some l0[up] := List.getElem?_eq_getElem hup
        unfold fixup at hn1'
        simp only [e0] at hn1'
        by_cases hq : l0[up].init < 0 ∧ l0[up].kind = 2
        · rw [if_pos hq, List.getElem?_set_self hup] at hn1'
          cases hn1'
          have := hc.1
          simp at this; omega
        · rw [if_neg hq, e0] at hn1'
          cases hn1'; exact hq hc
    have hfx : fixup l0 up l0.length (A ++ [b]) ++ forest (d + 1) up l0.length A = if n1.init < 0 ∧ n1.kind = 2 then cur.set up { n1 with init := n } else cur := by
      by_cases hA : A = []
      · have hc := hcur1 hA
        subst hA
        have hn00 : n = l0.length := by rw [← hn0, hc]
        rw [← hn00]
        rw [hc] at hn1' ⊢
        unfold fixup
        simp only [List.nil_append, hn1']
        rw [show forest (d + 1) (up : Int) n [] = [] by rw [forest], List.append_nil]
      · rw [if_neg (hcur2 hA), ← hcur]
        congr 1
        unfold fixup
        cases A with
        | nil => exact absurd rfl hA
        | cons a r => cases l0[up]? <;> rfl
    -- the rest of the round
    have fin : ∀ L2 : List Nd, L2 = (fixup l0 up l0.length (A ++ [b]) ++ forest (d + 1) up l0.length A) ++ [(⟨ndKind b, up, 0, -1, -1, -1, nm⟩ : Nd)] → ∀ (n2 : Nd) (len : Int), len = ((fixup L2 n (n + 1) kb ++ forest d n (n + 1) kb).length : Int) - 1 → (fixup L2 n (n + 1) kb ++ forest d n (n + 1) kb)[n]? = some n2 →
        (fixup L2 n (n + 1) kb ++ forest d n (n + 1) kb).set n { n2 with last := len } = fixup l0 up l0.length (A ++ [b]) ++ forest (d + 1) up l0.length (A ++ [b]) := by
      intro L2 hL2 n2 len hlen hn2
      have hPl : (fixup l0 up l0.length (A ++ [b]) ++ forest (d + 1) up l0.length A).length = n := by rw [List.length_append, fixup_len, forest_len]; omega
      generalize hPe : fixup l0 up l0.length (A ++ [b]) ++ forest (d + 1) up l0.length A = P at *
      rw [hL2] at hn2 hlen ⊢
      rw [fixup_one hPl rfl rfl hkb] at hn2 hlen ⊢
      rw [List.append_assoc, List.getElem?_append_right (by omega)] at hn2
      rw [hPl, Nat.sub_self] at hn2
      simp only [List.cons_append, List.nil_append, List.getElem?_cons_zero, Option.some.injEq] at hn2
      rw [List.append_assoc, ← hPl, List.set_append_right _ _ (Nat.le_refl _), Nat.sub_self]
      simp only [List.cons_append, List.nil_append, List.set_cons_zero]
      rw [forest_app, ← List.append_assoc, hPe]
      congr 1
      rw [forest, hkb, hnb, show forest (d + 1) (up : Int) (l0.length + nszL (d + 1) A + 1 + nszL d kb) [] = [] by rw [forest], List.append_nil]
      have hnn : l0.length + nszL (d + 1) A = n := by omega
      rw [hnn, ← hn2, hPl]
      congr 1
      rw [hlen]
      simp only [List.length_append, List.length_cons, List.length_nil, forest_len, hPl]
      congr 1
      omega
    have rest : ∀ (L2 : List Nd), L2 = (fixup l0 up l0.length (A ++ [b]) ++ forest (d + 1) up l0.length A) ++ [(⟨ndKind b, up, 0, -1, -1, -1, nm⟩ : Nd)] → ∀ F : List V → Option R,
        (∀ n2 : Nd, (fixup L2 n (n + 1) kb ++ forest d n (n + 1) kb)[n]? = some n2 → W Q K (F [.sl 7 ((fixup L2 n (n + 1) kb ++ forest d n (n + 1) kb).map Nd.v)])) → W Q K (G 52 [.sl 7 (L2.map Nd.v), .sl 7 kb, .int .i64 (n : Int)] F) := by
      intro L2 hL2 F hF
      have hPl : (fixup l0 up l0.length (A ++ [b]) ++ forest (d + 1) up l0.length A).length = n := by rw [List.length_append, fixup_len, forest_len]; omega
      have hL2l : L2.length = n + 1 := by rw [hL2, List.length_append, hPl]; rfl
      have hsz2 : n + 1 + nszL d kb ≤ 1000 := by rw [hkb] at hnsz; omega
      refine W_call (hP d rfl L2 kb n F x10 x12 (by omega) (by omega)) ?_
      rintro _ rfl
      rw [hL2l]
      have hl : n < (fixup L2 n (n + 1) kb ++ forest d n (n + 1) kb).length := by rw [List.length_append, fixup_len]; omega
      exact hF _ (List.getElem?_eq_getElem hl)
    have hnm1 : ∀ m : Nd, (cur ++ [(⟨ndKind b, up, 0, -1, -1, -1, nm⟩ : Nd)])[Int.toNat (up : Int)]? = some m → m = n1 := fun m hm => by rw [hn1] at hm; cases hm; rfl
    generalize hPe : fixup l0 up l0.length (A ++ [b]) ++ forest (d + 1) up l0.length A = P at hfx rest fin
    refine W_dec (fun hi => ?_) (fun hi => ?_)
    · refine W_and (W_yes (by omega) (W_yes (by omega) ?_))
      refine W_nthN (by simp; omega) (fun m hm => W_nd ?_)
      rw [hnm1 m hm]
      refine W_ce7 (W_aI ?_)
      refine W_beqI (fun hk2 => ?_) (fun hk2 => ?_)
      · have hA : A = [] := Classical.byContradiction fun h => hcur2 h ⟨hi, hk2⟩
        have hbk2 : kindV b ≤ 2 := hh b B (by rw [h1, hA]; rfl)
        have hnk : ndKind b ≤ 3 := by unfold ndKind; split; omega; split; omega; split; omega; split <;> omega
        rw [if_pos ⟨hi, hk2⟩] at hfx
        refine W_and (W_yes (by omega) (W_yes (by omega) ?_))
        refine W_nthN (by simp; omega) (fun m hm => W_nd ?_)
        have hm2 : m = ⟨ndKind b, up, 0, -1, -1, -1, nm⟩ := by
          rw [Int.toNat_natCast, List.getElem?_append_right (by omega), hn0, Nat.sub_self] at hm
          simp at hm; exact hm.symm
        subst hm2
        refine W_ce7 (W_aI (W_aI (W_aI (W_aI (W_aI (W_aI (W_asStr ?_)))))))
        refine W_call (hSt ⟨ndKind b, up, 0, -1, -1, -1, nm⟩ _) ?_
        rintro _ rfl
        refine W_uB (W_unNil (W_yes hnk ?_))
        refine W_and (W_yes (by omega) (W_yes (by omega) ?_))
        refine W_nthN (by simp; omega) (fun m hm => W_nd ?_)
        rw [hnm1 m hm]
        refine W_ce7 ?_
        have hset : List.set (List.map Nd.v (cur ++ [(⟨ndKind b, up, 0, -1, -1, -1, nm⟩ : Nd)])) (Int.toNat (up : Int)) (V.agg [.int .i64 n1.kind, .int .i64 n1.parent, .int .i64 n1.last, .int .i64 (n : Int), .int .i64 n1.entry, .int .i64 n1.exit, .str n1.name]) = (P ++ [(⟨ndKind b, up, 0, -1, -1, -1, nm⟩ : Nd)]).map Nd.v := by
          rw [Int.toNat_natCast, show V.agg [.int .i64 n1.kind, .int .i64 n1.parent, .int .i64 n1.last, .int .i64 (n : Int), .int .i64 n1.entry, .int .i64 n1.exit, .str n1.name] = ({ n1 with init := n } : Nd).v from rfl, set_map, List.set_append_left _ _ (by omega), hfx]
        rw [hset]
        refine W_and (W_yes (by omega) (W_yes (by omega) ?_))
        refine W_nth (by omega) (fun v hv _ => ?_)
        rw [hnthb v hv, ← hbe]
        refine W_ca7 (W_asSl ?_)
        rw [hbe]
        refine rest _ rfl _ (fun n2 hn2 => ?_)
        refine W_uL (W_unNil ?_)
        have hlen2 : (fixup (P ++ [(⟨ndKind b, up, 0, -1, -1, -1, nm⟩ : Nd)]) n (n + 1) kb ++ forest d n (n + 1) kb).length = n + 1 + nszL d kb := by
          have hPl : P.length = n := by rw [← hPe, List.length_append, fixup_len, forest_len]; omega
          rw [List.length_append, fixup_len, forest_len, List.length_append, hPl]; rfl
        refine W_and (W_yes (by omega) (W_yes (by rw [List.length_map]; omega) ?_))
        refine W_nthN (by rw [Int.toNat_natCast]; omega) (fun m hm => W_nd ?_)
        rw [Int.toNat_natCast] at hm
        refine W_ce7 ?_
        rw [hkb] at hnsz
        have hw : IntKind.i64.wrap (((List.map Nd.v (fixup (P ++ [(⟨ndKind b, up, 0, -1, -1, -1, nm⟩ : Nd)]) n (n + 1) kb ++ forest d n (n + 1) kb)).length : Int) - 1) = ((fixup (P ++ [(⟨ndKind b, up, 0, -1, -1, -1, nm⟩ : Nd)]) n (n + 1) kb ++ forest d n (n + 1) kb).length : Int) - 1 := by
          rw [List.length_map]; exact wrap_id (by omega)
        rw [hw, wrap_id (n := (A.length : Int) + 1) (by omega)]
        have hset2 : ∀ len : Int, len = ((fixup (P ++ [(⟨ndKind b, up, 0, -1, -1, -1, nm⟩ : Nd)]) n (n + 1) kb ++ forest d n (n + 1) kb).length : Int) - 1 → List.set (List.map Nd.v (fixup (P ++ [(⟨ndKind b, up, 0, -1, -1, -1, nm⟩ : Nd)]) n (n + 1) kb ++ forest d n (n + 1) kb)) (Int.toNat (n : Int)) (V.agg [.int .i64 m.kind, .int .i64 m.parent, .int .i64 len, .int .i64 m.init, .int .i64 m.entry, .int .i64 m.exit, .str m.name]) = (fixup l0 up l0.length (A ++ [b]) ++ forest (d + 1) up l0.length (A ++ [b])).map Nd.v := by
          intro len hlen
          rw [Int.toNat_natCast, show V.agg [.int .i64 m.kind, .int .i64 m.parent, .int .i64 len, .int .i64 m.init, .int .i64 m.entry, .int .i64 m.exit, .str m.name] = ({ m with last := len } : Nd).v from rfl, set_map, fin _ rfl m len hlen hm]
        rw [hset2 _ rfl]
        have e := put_loop hKd hSt hP hk hh hup hsz hKo B (A ++ [b]) j (by rw [h1]; simp) (by omega)
        simp only [List.append_assoc, List.singleton_append, List.length_append, List.length_cons, List.length_nil, Nat.zero_add, Int.natCast_add, Int.natCast_one] at e
        exact e
      · rw [if_neg (by rintro ⟨_, h⟩; exact hk2 h)] at hfx
        rw [← hfx]
        refine W_and (W_yes (by omega) (W_yes (by omega) ?_))
        refine W_nth (by omega) (fun v hv _ => ?_)
        rw [hnthb v hv, ← hbe]
        refine W_ca7 (W_asSl ?_)
        rw [hbe]
        refine rest _ rfl _ (fun n2 hn2 => ?_)
        refine W_uL (W_unNil ?_)
        have hlen2 : (fixup (P ++ [(⟨ndKind b, up, 0, -1, -1, -1, nm⟩ : Nd)]) n (n + 1) kb ++ forest d n (n + 1) kb).length = n + 1 + nszL d kb := by
          have hPl : P.length = n := by rw [← hPe, List.length_append, fixup_len, forest_len]; omega
          rw [List.length_append, fixup_len, forest_len, List.length_append, hPl]; rfl
        refine W_and (W_yes (by omega) (W_yes (by rw [List.length_map]; omega) ?_))
        refine W_nthN (by rw [Int.toNat_natCast]; omega) (fun m hm => W_nd ?_)
        rw [Int.toNat_natCast] at hm
        refine W_ce7 ?_
        rw [hkb] at hnsz
        have hw : IntKind.i64.wrap (((List.map Nd.v (fixup (P ++ [(⟨ndKind b, up, 0, -1, -1, -1, nm⟩ : Nd)]) n (n + 1) kb ++ forest d n (n + 1) kb)).length : Int) - 1) = ((fixup (P ++ [(⟨ndKind b, up, 0, -1, -1, -1, nm⟩ : Nd)]) n (n + 1) kb ++ forest d n (n + 1) kb).length : Int) - 1 := by
          rw [List.length_map]; exact wrap_id (by omega)
        rw [hw, wrap_id (n := (A.length : Int) + 1) (by omega)]
        have hset2 : ∀ len : Int, len = ((fixup (P ++ [(⟨ndKind b, up, 0, -1, -1, -1, nm⟩ : Nd)]) n (n + 1) kb ++ forest d n (n + 1) kb).length : Int) - 1 → List.set (List.map Nd.v (fixup (P ++ [(⟨ndKind b, up, 0, -1, -1, -1, nm⟩ : Nd)]) n (n + 1) kb ++ forest d n (n + 1) kb)) (Int.toNat (n : Int)) (V.agg [.int .i64 m.kind, .int .i64 m.parent, .int .i64 len, .int .i64 m.init, .int .i64 m.entry, .int .i64 m.exit, .str m.name]) = (fixup l0 up l0.length (A ++ [b]) ++ forest (d + 1) up l0.length (A ++ [b])).map Nd.v := by
          intro len hlen
          rw [Int.toNat_natCast, show V.agg [.int .i64 m.kind, .int .i64 m.parent, .int .i64 len, .int .i64 m.init, .int .i64 m.entry, .int .i64 m.exit, .str m.name] = ({ m with last := len } : Nd).v from rfl, set_map, fin _ rfl m len hlen hm]
        rw [hset2 _ rfl]
        have e := put_loop hKd hSt hP hk hh hup hsz hKo B (A ++ [b]) j (by rw [h1]; simp) (by omega)
        simp only [List.append_assoc, List.singleton_append, List.length_append, List.length_cons, List.length_nil, Nat.zero_add, Int.natCast_add, Int.natCast_one] at e
        exact e
    · rw [if_neg (by rintro ⟨h, _⟩; exact hi h)] at hfx
      rw [← hfx]
      refine W_and (W_yes (by omega) (W_yes (by omega) ?_))
      refine W_nth (by omega) (fun v hv _ => ?_)
      rw [hnthb v hv, ← hbe]
      refine W_ca7 (W_asSl ?_)
      rw [hbe]
      refine rest _ rfl _ (fun n2 hn2 => ?_)
      refine W_uL (W_unNil ?_)
      have hlen2 : (fixup (P ++ [(⟨ndKind b, up, 0, -1, -1, -1, nm⟩ : Nd)]) n (n + 1) kb ++ forest d n (n + 1) kb).length = n + 1 + nszL d kb := by
        have hPl : P.length = n := by rw [← hPe, List.length_append, fixup_len, forest_len]; omega
        rw [List.length_append, fixup_len, forest_len, List.length_append, hPl]; rfl
      refine W_and (W_yes (by omega) (W_yes (by rw [List.length_map]; omega) ?_))
      refine W_nthN (by rw [Int.toNat_natCast]; omega) (fun m hm => W_nd ?_)
      rw [Int.toNat_natCast] at hm
      refine W_ce7 ?_
      rw [hkb] at hnsz
      have hw : IntKind.i64.wrap (((List.map Nd.v (fixup (P ++ [(⟨ndKind b, up, 0, -1, -1, -1, nm⟩ : Nd)]) n (n + 1) kb ++ forest d n (n + 1) kb)).length : Int) - 1) = ((fixup (P ++ [(⟨ndKind b, up, 0, -1, -1, -1, nm⟩ : Nd)]) n (n + 1) kb ++ forest d n (n + 1) kb).length : Int) - 1 := by
        rw [List.length_map]; exact wrap_id (by omega)
      rw [hw, wrap_id (n := (A.length : Int) + 1) (by omega)]
      have hset2 : ∀ len : Int, len = ((fixup (P ++ [(⟨ndKind b, up, 0, -1, -1, -1, nm⟩ : Nd)]) n (n + 1) kb ++ forest d n (n + 1) kb).length : Int) - 1 → List.set (List.map Nd.v (fixup (P ++ [(⟨ndKind b, up, 0, -1, -1, -1, nm⟩ : Nd)]) n (n + 1) kb ++ forest d n (n + 1) kb)) (Int.toNat (n : Int)) (V.agg [.int .i64 m.kind, .int .i64 m.parent, .int .i64 len, .int .i64 m.init, .int .i64 m.entry, .int .i64 m.exit, .str m.name]) = (fixup l0 up l0.length (A ++ [b]) ++ forest (d + 1) up l0.length (A ++ [b])).map Nd.v := by
        intro len hlen
        rw [Int.toNat_natCast, show V.agg [.int .i64 m.kind, .int .i64 m.parent, .int .i64 len, .int .i64 m.init, .int .i64 m.entry, .int .i64 m.exit, .str m.name] = ({ m with last := len } : Nd).v from rfl, set_map, fin _ rfl m len hlen hm]
      rw [hset2 _ rfl]
      have e := put_loop hKd hSt hP hk hh hup hsz hKo B (A ++ [b]) j (by rw [h1]; simp) (by omega)
      simp only [List.append_assoc, List.singleton_append, List.length_append, List.length_cons, List.length_nil, Nat.zero_add, Int.natCast_add, Int.natCast_one] at e
      exact e
theorem put_ok {d : Nat} (hk : 10000 ≤ k) (hKd : KindOK G) (hSt : IsStOK G) (hP : ∀ d', d = d' + 1 → PutOK d' G) : PutOK d (fun _ args (K : List V → Option R) => g52 G k args K) := by
  intro l kids up K h1 h2 h3 h4
  show W _ K (f52 G k (l.map Nd.v) kids up K)
  unfold f52 l52_0
  have hlen : kids.length ≤ nszL d kids ∨ kids = [] := by
    cases d with
    | zero =>
      cases kids with
      | nil => exact .inr rfl
      | cons a r => exact (h1 a (by simp)).elim
    | succ d => exact .inl nszL_len
  have hl2 : kids.length < k := by
    rcases hlen with h | h
    · omega
    · rw [h]; simp; omega
  have e := put_loop (Q := fun o => o = [.sl 7 ((fixup l up l.length kids ++ forest d up l.length kids).map Nd.v)]) (K := K) (k := k) (Ko := fun yl => K [.sl 7 yl]) hKd hSt hP h1 h2 h3 h4 (W_ret rfl) kids [] k rfl hl2
  rw [fixup_nil, List.nil_append] at e
  have hf : forest d (up : Int) l.length [] = [] := by cases d <;> rw [forest]
  rw [hf, List.append_nil] at e
  exact e
def NodesOK (G : ORC R) : Prop := ∀ (nm : ByteArray) (x y : Int) (a b c states : List V) (z : Int) (K : List V → Option R), (∀ s ∈ states, StateS 2 3 s ∧ kindV s ≤ 2) → nszL 3 states ≤ 900 →
  W (fun o => o = [.sl 7 ((ndsOf states).map Nd.v)]) K (G 22 [.agg [.str nm, .int .i64 x, .int .i64 y, .sl 3 a, .sl 3 b, .sl 3 c, .sl 7 states, .int .i64 z]] K)
theorem nodes_ok (hP : PutOK 3 G) : NodesOK (fun _ args (K : List V → Option R) => g22 G k args K) := by
  intro nm x y a b c states z K h1 h2
  show W _ K (f22 G k nm x y a b c states z K)
  unfold f22
  refine W_call (hP [(⟨2, -1, 0, -1, -1, -1, ⟨#[]⟩⟩ : Nd)] states 0 _ (fun s hs => (h1 s hs).1) (fun s r e => (h1 s (by rw [e]; simp)).2) (by simp) (by simp; omega)) ?_
  rintro _ rfl
  refine W_uL (W_unNil ?_)
  have hl : (fixup [(⟨2, -1, 0, -1, -1, -1, ⟨#[]⟩⟩ : Nd)] 0 1 states ++ forest 3 (0 : Nat) 1 states).length = 1 + nszL 3 states := by rw [List.length_append, fixup_len, forest_len]; rfl
  simp only [List.length_cons, List.length_nil, Nat.zero_add, List.length_map, hl]
  have hl0 : (0 : Int) < ((1 + nszL 3 states : Nat) : Int) := by omega
  refine W_yes (by omega) ?_
  refine W_nthN (by rw [hl]; omega) (fun n hn => W_nd ?_)
  refine W_ce7 ?_
  rw [wrap_id (by omega)]
  refine W_ret ?_
  have e : (fixup [(⟨2, -1, 0, -1, -1, -1, ⟨#[]⟩⟩ : Nd)] 0 1 states ++ forest 3 (0 : Nat) 1 states).set 0 { n with last := ((1 + nszL 3 states : Nat) : Int) - 1 } = ndsOf states := by
    have hq : ((1 + nszL 3 states : Nat) : Int) - 1 = (nszL 3 states : Nat) := by omega
    rw [hq]
    unfold ndsOf
    cases states with
    | nil =>
      rw [fixup_nil] at hn ⊢
      simp at hn; subst hn; rfl
    | cons s r =>
      have hf : fixup [(⟨2, -1, 0, -1, -1, -1, ⟨#[]⟩⟩ : Nd)] 0 1 (s :: r) = [⟨2, -1, 0, 1, -1, -1, ⟨#[]⟩⟩] := by unfold fixup; simp
      rw [hf] at hn ⊢
      simp at hn; subst hn; simp
  rw [← e, ← set_map]; rfl
end
section
variable {R : Type} {G : ORC R} {k : Nat} {K : List V → Option R}
def IsOK (G : ORC R) : Prop := ∀ (l : List V) (i : Int) (K : List V → Option R), W (fun o => o = [.bool (decide (0 ≤ i ∧ i < l.length))]) K (G 30 [.sl 7 l, .int .i64 i] K)
theorem is_ok : IsOK (fun _ args (K : List V → Option R) => g30 G k args K) := by
  intro l i K
  show W _ K (f30 G k l i K)
  unfold f30
  refine W_dec (fun h => ?_) (fun h => ?_)
  · exact W_ret (by congr 3; simp; omega)
  · exact W_ret (by congr 2; symm; rw [decide_eq_false]; omega)
def InOK (G : ORC R) : Prop := ∀ (l : List Nd) (a b : Int) (K : List V → Option R), W (fun o => o = [.bool (inN l a b)]) K (G 29 [.sl 7 (l.map Nd.v), .int .i64 a, .int .i64 b] K)
theorem in_ok (hI : IsOK G) : InOK (fun _ args (K : List V → Option R) => g29 G k args K) := by
  intro l a b K
  show W _ K (f29 G k (l.map Nd.v) a b K)
  unfold f29
  unfold IsOK at hI
  have no : ¬ (0 ≤ a ∧ a < l.length ∧ 0 ≤ b ∧ b < l.length ∧ a ≥ b) → inN l a b = false := fun h => by unfold inN; rw [decide_eq_false h]; rfl
  refine W_call (hI _ _ _) ?_
  rintro _ rfl
  refine W_uB (W_unNil ?_)
  simp only [List.length_map]
  refine W_dec (fun h1 => ?_) (fun h1 => W_ret (by rw [no (by omega)]))
  refine W_call (hI _ _ _) ?_
  rintro _ rfl
  refine W_uB (W_unNil ?_)
  simp only [List.length_map]
  refine W_dec (fun h2 => ?_) (fun h2 => W_ret (by rw [no (by omega)]))
  refine W_dec (fun h3 => ?_) (fun h3 => W_ret (by rw [no (by omega)]))
  refine W_and (W_yes h2.1 (W_yes h2.2 ?_))
  refine W_nthN (by omega) (fun n hn => W_nd ?_)
  refine W_ce7 (W_aI ?_)
  have e : inN l a b = decide (a ≤ n.last) := by
    unfold inN
    rw [decide_eq_true (show 0 ≤ a ∧ a < l.length ∧ 0 ≤ b ∧ b < l.length ∧ a ≥ b from ⟨h1.1, h1.2, h2.1, h2.2, h3⟩), hn]; rfl
  exact W_ret (by rw [e])
end
def rmB (k : Nat) (G : ORC (List V)) : ORC (List V) := fun f args K => match f with
    | 4 => g4 G k args K
    | 6 => g6 G k args K
    | 7 => g7 G k args K
    | 8 => g8 G k args K
    | 9 => g9 G k args K
    | 10 => g10 G k args K
    | 12 => g12 G k args K
    | 13 => g13 G k args K
    | 15 => g15 G k args K
    | 18 => g18 G k args K
    | 19 => g19 G k args K
    | 20 => g20 G k args K
    | 22 => g22 G k args K
    | 23 => g23 G k args K
    | 24 => g24 G k args K
    | 25 => g25 G k args K
    | 26 => g26 G k args K
    | 27 => g27 G k args K
    | 28 => g28 G k args K
    | 29 => g29 G k args K
    | 30 => g30 G k args K
    | 31 => g31 G k args K
    | 32 => g32 G k args K
    | 33 => g33 G k args K
    | 34 => g34 G k args K
    | 35 => g35 G k args K
    | 40 => g40 G k args K
    | 42 => g42 G k args K
    | 43 => g43 G k args K
    | 44 => g44 G k args K
    | 45 => g45 G k args K
    | 46 => g46 G k args K
    | 52 => g52 G k args K
    | 53 => g53 G k args K
    | 54 => g54 G k args K
    | 55 => g55 G k args K
    | 56 => g56 G k args K
    | 57 => g57 G k args K
    | 58 => g58 G k args K
    | 59 => g59 G k args K
    | 60 => g60 G k args K
    | 61 => g61 G k args K
    | 63 => g63 G k args K
    | 64 => g64 G k args K
    | 68 => g68 G k args K
    | 69 => g69 G k args K
    | 70 => g70 G k args K
    | 71 => g71 G k args K
    | 72 => g72 G k args K
    | 73 => g73 G k args K
    | 74 => g74 G k args K
    | 76 => g76 G k args K
    | 89 => g89 G k args K
    | 65611 => g65611 G k args K
    | 131137 => g131137 G k args K
    | _ => none
def rm (k : Nat) : Nat → ORC (List V)
  | 0 => fun _ _ _ => none
  | j + 1 => fun f args K => (rmB k (rm k j) f args some).bind K
theorem rm_sound (k : Nat) : ∀ j, Sound Try.prog TAB (rm k j)
  | 0 => fun f args K r h => by cases h
  | j + 1 => fun f args K r h => by
    have ih := rm_sound k j
    have h : (rmB k (rm k j) f args some).bind K = some r := h
    cases hb : rmB k (rm k j) f args some with
    | none => rw [hb] at h; cases h
    | some o =>
    rw [hb] at h
    have key : ∃ o', CallOK Try.prog TAB.env f args o' ∧ some o' = some o := by
      unfold rmB at hb
      split at hb
      · exact s4 ih args some o hb
      · exact s6 ih args some o hb
      · exact s7 ih args some o hb
      · exact s8 ih args some o hb
      · exact s9 ih args some o hb
      · exact s10 ih args some o hb
      · exact s12 ih args some o hb
      · exact s13 ih args some o hb
      · exact s15 ih args some o hb
      · exact s18 ih args some o hb
      · exact s19 ih args some o hb
      · exact s20 ih args some o hb
      · exact s22 ih args some o hb
      · exact s23 ih args some o hb
      · exact s24 ih args some o hb
      · exact s25 ih args some o hb
      · exact s26 ih args some o hb
      · exact s27 ih args some o hb
      · exact s28 ih args some o hb
      · exact s29 ih args some o hb
      · exact s30 ih args some o hb
      · exact s31 ih args some o hb
      · exact s32 ih args some o hb
      · exact s33 ih args some o hb
      · exact s34 ih args some o hb
      · exact s35 ih args some o hb
      · exact s40 ih args some o hb
      · exact s42 ih args some o hb
      · exact s43 ih args some o hb
      · exact s44 ih args some o hb
      · exact s45 ih args some o hb
      · exact s46 ih args some o hb
      · exact s52 ih args some o hb
      · exact s53 ih args some o hb
      · exact s54 ih args some o hb
      · exact s55 ih args some o hb
      · exact s56 ih args some o hb
      · exact s57 ih args some o hb
      · exact s58 ih args some o hb
      · exact s59 ih args some o hb
      · exact s60 ih args some o hb
      · exact s61 ih args some o hb
      · exact s63 ih args some o hb
      · exact s64 ih args some o hb
      · exact s68 ih args some o hb
      · exact s69 ih args some o hb
      · exact s70 ih args some o hb
      · exact s71 ih args some o hb
      · exact s72 ih args some o hb
      · exact s73 ih args some o hb
      · exact s74 ih args some o hb
      · exact s76 ih args some o hb
      · exact s89 ih args some o hb
      · exact s65611 ih args some o hb
      · exact s131137 ih args some o hb
      · cases hb
    obtain ⟨o', h1, h2⟩ := key
    cases h2
    exact ⟨o, h1, h⟩
theorem rm_U {k j : Nat} {f : FuncId} {args : List V} {Q : List V → Prop} (h : W Q some (rmB k (rm k j) f args some)) : ∃ o, Q o ∧ ∀ K, rm k (j + 1) f args K = K o := by
  obtain ⟨o, q, e⟩ := h
  exact ⟨o, q, fun K => by show (rmB k (rm k j) f args some).bind K = _; rw [e]; rfl⟩
theorem rm_W {k j : Nat} {f : FuncId} {args : List V} {Q : List V → Prop} {K : List V → Option (List V)} (h : W Q some (rmB k (rm k j) f args some)) : W Q K (rm k (j + 1) f args K) := by
  obtain ⟨o, q, e⟩ := rm_U h
  exact ⟨o, q, e K⟩
set_option linter.unusedSimpArgs false
section
def Ev (P : ORC (List V) → Prop) : Prop := ∃ N, ∀ j, N ≤ j → P (rm 10000 j)
theorem ev0 {P : ORC (List V) → Prop} (h : ∀ j, P (rm 10000 (j + 1))) : Ev P := ⟨1, fun j hj => by obtain ⟨j', rfl⟩ : ∃ j', j = j' + 1 := ⟨j - 1, by omega⟩; exact h j'⟩
theorem evS {A P : ORC (List V) → Prop} (hA : Ev A) (h : ∀ j, A (rm 10000 j) → P (rm 10000 (j + 1))) : Ev P := by
  obtain ⟨N, hN⟩ := hA
  refine ⟨N + 1, fun j hj => ?_⟩
  obtain ⟨j', rfl⟩ : ∃ j', j = j' + 1 := ⟨j - 1, by omega⟩
  exact h j' (hN j' (by omega))
theorem evA {A B : ORC (List V) → Prop} (hA : Ev A) (hB : Ev B) : Ev fun G => A G ∧ B G := by
  obtain ⟨N, hN⟩ := hA
  obtain ⟨M, hM⟩ := hB
  exact ⟨N + M, fun j hj => ⟨hN j (by omega), hM j (by omega)⟩⟩
theorem evT {P : ORC (List V) → Prop} (h : ∀ G, P G) : Ev P := ⟨0, fun j _ => h _⟩
theorem evPlace : Ev PlaceS := ev0 fun j => by have e := place_ok (G := rm 10000 j) (k := 10000); unfold PlaceS at e ⊢; (intros; refine rm_W ?_; apply e <;> assumption)
theorem evNext : Ev NextS := evS evPlace fun j h => by have e := next_ok (G := rm 10000 j) (k := 10000) h; unfold NextS at e ⊢; (intros; refine rm_W ?_; apply e <;> assumption)
theorem evPick : Ev PickS := evS evNext fun j h => by have e := pick_ok (G := rm 10000 j) (k := 10000) h; unfold PickS at e ⊢; (intros; refine rm_W ?_; apply e <;> assumption)
theorem evExpr : ∀ d, d ≤ 20 → Ev (ExprOK d)
  | 0, _ => evS (evA evNext evPick) fun j h => by have e := expr_ok (G := rm 10000 j) (k := 10000) (d := 0) (by omega) h.1 h.2 (fun d' e => by omega); unfold ExprOK at e ⊢; (intros; refine rm_W ?_; apply e <;> assumption)
  | d + 1, hd => evS (evA (evA evNext evPick) (evExpr d (by omega))) fun j h => by have e := expr_ok (G := rm 10000 j) (k := 10000) (d := d + 1) hd h.1.1 h.1.2 (fun d' e => by cases e; exact h.2); unfold ExprOK at e ⊢; (intros; refine rm_W ?_; apply e <;> assumption)
end
theorem evEvent : Ev EventS := evS evPlace fun j h => by have e := event_ok (G := rm 10000 j) (k := 10000) h; unfold EventS at e ⊢; (intros; refine rm_W ?_; apply e <;> assumption)
theorem evBlock : ∀ d, d ≤ 3 → Ev (BlockOK d)
  | 0, _ => evS (evA (evA evNext evPick) (evA evEvent (evExpr 2 (by omega)))) fun j h => by have e := block_ok (G := rm 10000 j) (k := 10000) (d := 0) (by omega) (by omega) h.1.1 h.1.2 h.2.1 h.2.2 (fun d' e => by omega); unfold BlockOK at e ⊢; (intros; refine rm_W ?_; apply e <;> assumption)
  | d + 1, hd => evS (evA (evA (evA evNext evPick) (evA evEvent (evExpr 2 (by omega)))) (evBlock d (by omega))) fun j h => by have e := block_ok (G := rm 10000 j) (k := 10000) (d := d + 1) (by omega) hd h.1.1.1 h.1.1.2 h.1.2.1 h.1.2.2 (fun d' e => by cases e; exact h.2); unfold BlockOK at e ⊢; (intros; refine rm_W ?_; apply e <;> assumption)
section
theorem evDec1 : Ev (DecS 1) := ev0 fun j => by have e := dec_step (G := rm 10000 j) (k := 10000) (d := 0) (by omega) (.inl rfl); unfold DecS at e ⊢; (intros; refine rm_W ?_; apply e <;> assumption)
theorem evDec2 : Ev (DecS 2) := evS evDec1 fun j h => by have e := dec_step (G := rm 10000 j) (k := 10000) (d := 1) (by omega) (.inr h); unfold DecS at e ⊢; (intros; refine rm_W ?_; apply e <;> assumption)
theorem evDec3 : Ev (DecS 3) := evS evDec2 fun j h => by have e := dec_step (G := rm 10000 j) (k := 10000) (d := 2) (by omega) (.inr h); unfold DecS at e ⊢; (intros; refine rm_W ?_; apply e <;> assumption)
theorem evDig : Ev DigS := evS evDec3 fun j h => by have e := dig_ok (G := rm 10000 j) (k := 10000) h; unfold DigS at e ⊢; (intros; refine rm_W ?_; apply e <;> assumption)
theorem evNames : Ev NamesS := evS evDig fun j h => by have e := names_ok (G := rm 10000 j) (k := 10000) (by omega) h; unfold NamesS at e ⊢; (intros; refine rm_W ?_; apply e <;> assumption)
theorem evNumd : Ev NumdS := evS evNext fun j h => by have e := named_ok (G := rm 10000 j) (k := 10000) (by omega) h; unfold NumdS at e ⊢; (intros; refine rm_W ?_; apply e <;> assumption)
theorem evPlain : Ev PlainS := ev0 fun j => by have e := plain_ok (G := rm 10000 j) (k := 10000) (by omega); unfold PlainS at e ⊢; (intros; refine rm_W ?_; apply e <;> assumption)
theorem evSt : ∀ d, d ≤ 2 → Ev (StOK d)
  | 0, _ => evS (evA evNext evDig) fun j h => by have e := st_ok (G := rm 10000 j) (k := 10000) (d := 0) (by omega) (by omega) h.1 h.2 (fun d' e => by omega); unfold StOK at e ⊢; (intros; refine rm_W ?_; apply e <;> assumption)
  | d + 1, hd => evS (evA (evA evNext evDig) (evSt d (by omega))) fun j h => by have e := st_ok (G := rm 10000 j) (k := 10000) (d := d + 1) (by omega) (by omega) h.1.1 h.1.2 (fun d' e => by cases e; exact h.2); unfold StOK at e ⊢; (intros; refine rm_W ?_; apply e <;> assumption)
theorem evFill : ∀ d, Ev (FillOK d)
  | 0 => evT fun G x a p c s all L left i K h => h.elim
  | d + 1 => evS (evA (evA (evA evNext evPick) (evA evEvent (evExpr 2 (by omega)))) (evA (evA (evBlock 2 (by omega)) (evBlock 1 (by omega))) (evFill d))) fun j h => by have e := fill_ok (G := rm 10000 j) (k := 10000) (d := d + 1) (by omega) h.1.1.1 h.1.1.2 h.1.2.1 h.1.2.2 h.2.1.1 h.2.1.2 (fun d' e => by cases e; exact h.2.2); unfold FillOK at e ⊢; (intros; refine rm_W ?_; apply e <;> assumption)
theorem evChart : Ev ChartOK := evS (evA (evA (evA evNext evNames) (evA evNumd evPlain)) (evA (evSt 2 (by omega)) (evFill 3))) fun j h => by have e := chart_ok (G := rm 10000 j) (k := 10000) (by omega) h.1.1.1 h.1.1.2 h.1.2.1 h.1.2.2 h.2.1 h.2.2; unfold ChartOK at e ⊢; (intros; refine rm_W ?_; apply e <;> assumption)
theorem evKind : Ev KindOK := ev0 fun j => by have e := kind_ok (G := rm 10000 j) (k := 10000); unfold KindOK at e ⊢; (intros; refine rm_W ?_; apply e <;> assumption)
theorem evIsSt : Ev IsStOK := ev0 fun j => by have e := isst_ok (G := rm 10000 j) (k := 10000); unfold IsStOK at e ⊢; (intros; refine rm_W ?_; apply e <;> assumption)
theorem evPut : ∀ d, Ev (PutOK d)
  | 0 => evS (evA evKind evIsSt) fun j h => by have e := put_ok (G := rm 10000 j) (k := 10000) (d := 0) (by omega) h.1 h.2 (fun d' e => by omega); unfold PutOK at e ⊢; (intros; refine rm_W ?_; apply e <;> assumption)
  | d + 1 => evS (evA (evA evKind evIsSt) (evPut d)) fun j h => by have e := put_ok (G := rm 10000 j) (k := 10000) (d := d + 1) (by omega) h.1.1 h.1.2 (fun d' e => by cases e; exact h.2); unfold PutOK at e ⊢; (intros; refine rm_W ?_; apply e <;> assumption)
theorem evNodes : Ev NodesOK := evS (evPut 3) fun j h => by have e := nodes_ok (G := rm 10000 j) (k := 10000) h; unfold NodesOK at e ⊢; (intros; refine rm_W ?_; apply e <;> assumption)
theorem evIs : Ev IsOK := ev0 fun j => by have e := is_ok (G := rm 10000 j) (k := 10000); unfold IsOK at e ⊢; (intros; refine rm_W ?_; apply e <;> assumption)
theorem evIn : Ev InOK := evS evIs fun j h => by have e := in_ok (G := rm 10000 j) (k := 10000) h; unfold InOK at e ⊢; (intros; refine rm_W ?_; apply e <;> assumption)
end
section
variable {R : Type} {G : ORC R} {k : Nat} {K : List V → Option R}
def CIsOK (G : ORC R) : Prop := ∀ (l : List V) (i : Int) (K : List V → Option R), W (fun o => o = [.bool (decide (0 ≤ i ∧ i < l.length))]) K (G 40 [.sl 7 l, .int .i64 i] K)
theorem cis_ok : CIsOK (fun _ args (K : List V → Option R) => g40 G k args K) := by
  intro l i K
  show W _ K (f40 G k l i K)
  unfold f40
  refine W_dec (fun h => ?_) (fun h => ?_)
  · exact W_ret (by congr 3; simp; omega)
  · exact W_ret (by congr 2; symm; rw [decide_eq_false]; omega)
def CInOK (G : ORC R) : Prop := ∀ (l : List Nd) (a b : Int) (K : List V → Option R), W (fun o => o = [.bool (inN l a b)]) K (G 64 [.sl 7 (l.map Nd.v), .int .i64 a, .int .i64 b] K)
theorem cin_ok (hI : CIsOK G) : CInOK (fun _ args (K : List V → Option R) => g64 G k args K) := by
  intro l a b K
  show W _ K (f64 G k (l.map Nd.v) a b K)
  unfold f64
  unfold CIsOK at hI
  have no : ¬ (0 ≤ a ∧ a < l.length ∧ 0 ≤ b ∧ b < l.length ∧ a ≥ b) → inN l a b = false := fun h => by unfold inN; rw [decide_eq_false h]; rfl
  refine W_call (hI _ _ _) ?_
  rintro _ rfl
  (repeat(with_reducible apply U1))
  simp only [List.length_map]
  refine W_dec (fun h1 => ?_) (fun h1 => W_ret (by rw [no (by omega)]))
  refine W_call (hI _ _ _) ?_
  rintro _ rfl
  (repeat(with_reducible apply U1))
  simp only [List.length_map]
  refine W_dec (fun h2 => ?_) (fun h2 => W_ret (by rw [no (by omega)]))
  refine W_dec (fun h3 => ?_) (fun h3 => W_ret (by rw [no (by omega)]))
  refine W_and (W_yes h2.1 (W_yes h2.2 ?_))
  refine W_nthN (by omega) (fun n hn => W_nd ?_)
  (repeat(with_reducible apply U1))
  have e : inN l a b = decide (a ≤ n.last) := by
    unfold inN
    rw [decide_eq_true (show 0 ≤ a ∧ a < l.length ∧ 0 ≤ b ∧ b < l.length ∧ a ≥ b from ⟨h1.1, h1.2, h2.1, h2.2, h3⟩), hn]; rfl
  exact W_ret (by rw [e])
end
section
variable {R : Type} {G : ORC R} {k : Nat} {K : List V → Option R}
def insN (l : List Nd) (a b : Int) : Bool := decide (a ≠ b) && inN l a b
def InsOK (G : ORC R) : Prop := ∀ (l : List Nd) (a b : Int) (K : List V → Option R), W (fun o => o = [.bool (insN l a b)]) K (G 46 [.sl 7 (l.map Nd.v), .int .i64 a, .int .i64 b] K)
theorem ins_ok (hI : CInOK G) : InsOK (fun _ args (K : List V → Option R) => g46 G k args K) := by
  intro l a b K
  show W _ K (f46 G k (l.map Nd.v) a b K)
  unfold f46
  unfold CInOK at hI
  by_cases h : a = b
  · exact W_chk' (by simp [h]) (W_ret (by unfold insN; simp [h]))
  · refine W_chk (by simp [h]) ?_
    refine W_call (hI _ _ _ _) ?_
    rintro _ rfl
    (repeat(with_reducible apply U1))
    exact W_ret (by unfold insN; simp [h])
def ChN (ns : List Nd) : Prop := ∃ states, ns = ndsOf states ∧ (∀ s ∈ states, StateS 2 3 s ∧ kindV s ≤ 2) ∧ states ≠ [] ∧ nszL 3 states ≤ 9 ∧ NmI (nmVL 3 states)
theorem ChN.len {ns : List Nd} (h : ChN ns) : ns.length ≤ 10 := by
  obtain ⟨states, rfl, _, _, h, _⟩ := h
  unfold ndsOf; rw [List.length_cons, forest_len]; omega
theorem ChN.tree {ns : List Nd} (h : ChN ns) : Tree ns := by
  obtain ⟨states, rfl, h1, h2, _⟩ := h
  exact tree_nds h1 h2
def NdsOK (G : ORC R) : Prop := ∀ (v : List V) (K : List V → Option R), IntsS v → v.length ≤ 200 → W (fun o => ∃ ns, o = [.sl 7 (ns.map Nd.v)] ∧ ChN ns) K (G 7 [.sl 1 v] K)
theorem nds_ok (hC : ChartOK G) (hN : NodesOK G) : NdsOK (fun _ args (K : List V → Option R) => g7 G k args K) := by
  intro v K h1 h2
  show W _ K (f7 G k v K)
  unfold f7
  unfold ChartOK at hC; unfold NodesOK at hN
  refine W_call (hC _ _ v 0 _ (by unfold StrS; decide) (by omega) (by omega) ⟨h1, by omega, by omega, by omega⟩) ?_
  rintro _ ⟨c, j, rfl, hc, hj⟩
  obtain ⟨nm, st, fu, vars, ports, timers, states, rfl, x1, x2, x3, x4, x5, x6, x7, x8, x9, x10, x11, x12, x13⟩ := hc
  (repeat(with_reducible apply U1))
  refine W_call (hN _ _ _ _ _ _ _ _ _ x11 (by omega)) ?_
  rintro _ rfl
  (repeat(with_reducible apply U1))
  exact W_ret ⟨_, rfl, states, rfl, x11, x10, x12, x13⟩
def KnLOK (G : ORC R) : Prop := ∀ K : List V → Option R, G 6 [] K = K [.bool true]
theorem knl_go (hKn : KnLOK G) : W (fun o => o = [.bool true]) K (G 6 [] fun o => uB o fun b r => unNil r (K [.bool b])) := by
  rw [hKn]; exact W_uB (W_unNil (W_ret rfl))
end
end Go.Proofs.Ytokgijpdehjckaa.Vm
namespace Go.VM
def hasL (l : List Int) (i : Int) : Bool := decide (i ∈ l)
def notL (a b : List Int) : List Int := a.filter fun x => !hasL b x
def andL (a b : List Int) : List Int := notL a (notL a b)
theorem hasL_iff {l : List Int} {i : Int} : hasL l i = true ↔ i ∈ l := by simp [hasL]
theorem andL_eq {a b : List Int} : andL a b = a.filter (hasL b) := by
  unfold andL notL
  apply List.filter_congr
  intro x hx
  simp [hasL, hx]
def ofGo (l : List Int) : Nat → List Int
  | 0 => []
  | m + 1 => ofGo l m ++ if hasL l m then [(m : Int)] else []
theorem ofGo_len {l : List Int} : ∀ {m : Nat}, (ofGo l m).length ≤ m
  | 0 => Nat.le_refl 0
  | m + 1 => by have := ofGo_len (l := l) (m := m); unfold ofGo; split <;> simp <;> omega
def isSt (ns : List Nd) (k : Int) : Bool := match ns[k.toNat]? with | some n => decide (n.kind ≤ 3) | none => false
def statesN (ns : List Nd) (i : Int) : List Int := (kidsN ns i).filter (isSt ns)
theorem take_snoc {l : List Int} {m : Nat} {c : Int} (h : l[m]? = some c) : l.take (m + 1) = l.take m ++ [c] := by
  rw [List.take_add_one, h]; rfl
def chainF (ns : List Nd) : Nat → Int → List Int
  | 0, _ => []
  | f + 1, c => if 0 ≤ c then (match ns[c.toNat]? with | some n => c :: chainF ns f n.parent | none => []) else []
def chainN (ns : List Nd) (c : Int) : List Int := chainF ns (ns.length + 1) c
theorem chainF_neg {ns : List Nd} {f : Nat} {c : Int} (h : c < 0) : chainF ns f c = [] := by
  cases f with
  | zero => rfl
  | succ f => unfold chainF; rw [if_neg (by omega)]
theorem chainF_stable {ns : List Nd} (T : Tree ns) : ∀ (f f' : Nat) (c : Int), c < f → c < f' → chainF ns f c = chainF ns f' c
  | 0, f', c, h1, h2 => by rw [chainF_neg (by omega), chainF_neg (by omega)]
  | f + 1, 0, c, h1, h2 => by rw [chainF_neg (by omega), chainF_neg (by omega)]
  | f + 1, f' + 1, c, h1, h2 => by
    unfold chainF
    by_cases h0 : 0 ≤ c
    · rw [if_pos h0, if_pos h0]
      cases hn : ns[c.toNat]? with
      | none => rfl
      | some n =>
        have := T.seg.par c.toNat n hn
        show c :: _ = c :: _
        rw [chainF_stable T f f' n.parent (by omega) (by omega)]
    · rw [if_neg h0, if_neg h0]
theorem chain_neg {ns : List Nd} {c : Int} (h : c < 0) : chainN ns c = [] := chainF_neg h
theorem chain_cons {ns : List Nd} (T : Tree ns) {c : Int} {n : Nd} (h0 : 0 ≤ c) (hn : ns[c.toNat]? = some n) : chainN ns c = c :: chainN ns n.parent := by
  have := T.seg.par c.toNat n hn
  have hl := (List.getElem?_eq_some_iff.1 hn).1
  unfold chainN
  conv => lhs; unfold chainF
  rw [if_pos h0, hn]
  show c :: _ = c :: _
  rw [chainF_stable T ns.length (ns.length + 1) n.parent (by omega) (by omega)]
theorem chain_all {ns : List Nd} (T : Tree ns) : ∀ (f : Nat) (c : Int), c < f → c < ns.length → (chainN ns c).length ≤ f ∧ ∀ x ∈ chainN ns c, (0 ≤ x ∧ x ≤ c) ∧ (x = c ∨ ∃ n, ns[x.toNat]? = some n ∧ (n.kind = 2 ∨ n.kind = 3)) ∧ ∀ y ∈ chainN ns x, y ∈ chainN ns c
  | f, c, h1, h2 => by
    rcases Int.lt_or_le c 0 with h0 | h0
    · rw [chain_neg h0]; simp
    · cases f with
      | zero => omega
      | succ f =>
      obtain ⟨n, hn⟩ : ∃ n, ns[c.toNat]? = some n := ⟨_, List.getElem?_eq_getElem (by omega)⟩
      have hp := T.seg.par c.toNat n hn
      have ec := chain_cons T h0 hn
      obtain ⟨k1, k2⟩ := chain_all T f n.parent (by omega) (by omega)
      refine ⟨by rw [ec, List.length_cons]; omega, ?_⟩
      intro x hx
      rw [ec] at hx
      rcases List.mem_cons.1 hx with rfl | hx
      · exact ⟨⟨h0, Int.le_refl _⟩, .inl rfl, fun y hy => hy⟩
      · obtain ⟨⟨a1, a2⟩, a3, a4⟩ := k2 x hx
        refine ⟨⟨a1, by omega⟩, .inr ?_, fun y hy => by rw [ec]; exact List.mem_cons_of_mem _ (a4 y hy)⟩
        rcases a3 with rfl | a3
        · obtain ⟨p, p1, p2⟩ := T.seg.kid c.toNat n hn (by omega)
          exact ⟨p, by simpa using p1, p2⟩
        · exact a3
theorem chain_mem {ns : List Nd} (T : Tree ns) {c x : Int} (hc : c < ns.length) (hx : x ∈ chainN ns c) : (0 ≤ x ∧ x ≤ c) ∧ (x = c ∨ ∃ n, ns[x.toNat]? = some n ∧ (n.kind = 2 ∨ n.kind = 3)) ∧ ∀ y ∈ chainN ns x, y ∈ chainN ns c :=
  (chain_all T (c.toNat + 1) c (by omega) hc).2 x hx
def atomAt (ns : List Nd) (c : Int) : Bool := decide (0 ≤ c ∧ c < ns.length) && (match ns[c.toNat]? with | some n => decide (n.kind = 1) | none => false)
theorem atomAt_iff {ns : List Nd} {c : Int} : atomAt ns c = true ↔ 0 ≤ c ∧ c < ns.length ∧ ∃ n, ns[c.toNat]? = some n ∧ n.kind = 1 := by
  unfold atomAt
  rw [Bool.and_eq_true, decide_eq_true_eq]
  constructor
  · rintro ⟨⟨h1, h2⟩, h3⟩
    cases hn : ns[c.toNat]? with
    | none => rw [hn] at h3; simp at h3
    | some n => rw [hn] at h3; exact ⟨h1, h2, n, rfl, by simpa using h3⟩
  · rintro ⟨h1, h2, n, h3, h4⟩
    rw [h3]; exact ⟨⟨h1, h2⟩, by simpa using h4⟩
def Asc (l : List Int) : Prop := l.Pairwise fun a b => a < b
theorem mem_statesN {ns : List Nd} {a : Nat} {x : Int} (ha : a < ns.length) : x ∈ statesN ns a ↔ ∃ (q : Nat) (m : Nd), x = q ∧ ns[q]? = some m ∧ m.parent = a ∧ m.kind ≤ 3 := by
  unfold statesN
  rw [List.mem_filter, mem_kidsN]
  constructor
  · rintro ⟨⟨q, m, h1, h2, h3, _⟩, h4⟩
    refine ⟨q, m, h1, h2, h3, ?_⟩
    unfold isSt at h4
    rw [h1, Int.toNat_natCast, h2] at h4
    exact of_decide_eq_true h4
  · rintro ⟨q, m, h1, h2, h3, h4⟩
    refine ⟨⟨q, m, h1, h2, h3, by omega, by omega⟩, ?_⟩
    unfold isSt
    rw [h1, Int.toNat_natCast, h2]
    exact decide_eq_true h4
theorem kidsGo_asc {l : List Nd} {i : Int} : ∀ {m : Nat}, Asc (kidsGo l i m)
  | 0 => List.Pairwise.nil
  | m + 1 => by
    unfold kidsGo
    refine List.pairwise_append.2 ⟨kidsGo_asc (m := m), by split <;> simp, fun x hx y hy => ?_⟩
    obtain ⟨q, h1, h2, _⟩ := mem_kidsGo.1 hx
    split at hy
    · rw [List.mem_singleton] at hy; omega
    · simp at hy
theorem statesN_asc {ns : List Nd} {i : Int} : Asc (statesN ns i) := List.Pairwise.filter _ kidsGo_asc
theorem asc_one : ∀ {l : List Int} {x : Int}, Asc l → x ∈ l → (l.filter fun y => decide (y = x)).length = 1
  | [], x, _, h => by simp at h
  | a :: r, x, h, hx => by
    obtain ⟨h1, h2⟩ := List.pairwise_cons.1 h
    rw [List.filter_cons]
    by_cases e : a = x
    · rw [if_pos (decide_eq_true e), List.length_cons, List.filter_eq_nil_iff.2]
      · rfl
      · intro y hy
        have := h1 y hy
        simp; omega
    · rw [if_neg (by simpa using e)]
      rcases List.mem_cons.1 hx with h3 | h3
      · exact absurd h3.symm e
      · exact asc_one h2 h3
theorem kid_in {ns : List Nd} (T : Tree ns) {a k : Nat} {n m : Nd} (ha : ns[a]? = some n) (hk : ns[k]? = some m) (hp : m.parent = a) : a < k ∧ (k : Int) ≤ n.last ∧ m.last ≤ n.last := by
  have h0 := T.seg.par k m hk
  have h1 := T.seg.lam a k n m ha hk (by omega)
  have hal := T.seg.last a n ha
  refine ⟨by omega, by omega, ?_⟩
  have hkl := T.seg.last k m hk
  have key : ∀ d j : Nat, j < d → k ≤ j → (j : Int) ≤ m.last → (j : Int) ≤ n.last := by
    intro d
    induction d with
    | zero => intro j h; omega
    | succ d ih =>
      intro j hj h2 h3
      by_cases e : j = k
      · subst e; omega
      · obtain ⟨x, hx⟩ : ∃ x, ns[j]? = some x := ⟨_, List.getElem?_eq_getElem (by omega)⟩
        have l1 := T.seg.lam k j m x hk hx (by omega)
        have l2 := T.seg.lam a j n x ha hx (by omega)
        have l3 := T.seg.par j x hx
        have := ih x.parent.toNat (by omega) (by omega) (by omega)
        omega
  have := key (m.last.toNat + 1) m.last.toNat (by omega) (by omega) (by omega)
  omega
theorem kid_apart {ns : List Nd} (T : Tree ns) {a k k' : Nat} {m m' : Nd} (hk : ns[k]? = some m) (hp : m.parent = a) (hk' : ns[k']? = some m') (hp' : m'.parent = a) (h : k < k') : m.last < k' := by
  have l1 := T.seg.lam k k' m m' hk hk' h
  have l2 := T.seg.par k m hk
  omega
def EachS (ns : List Nd) (C : List Int) (x : Int) : Prop :=
  ∃ n, ns[x.toNat]? = some n ∧ n.kind ≤ 3 ∧ (n.kind = 2 → (andL (statesN ns x) C).length = 1) ∧ (n.kind = 3 → ∀ y ∈ statesN ns x, y ∈ C)
def ParS (ns : List Nd) (C : List Int) (x : Int) : Prop := ∀ n, ns[x.toNat]? = some n → n.parent ∈ C
def AtomS (ns : List Nd) (C : List Int) (x : Int) : Prop := ∃ y ∈ C, atomAt ns y = true ∧ x ∈ chainN ns y
structure Sub (ns : List Nd) (a : Nat) (n : Nd) (C : List Int) : Prop where
  head : (a : Int) ∈ C
  asc : Asc C
  rng : ∀ x ∈ C, (a : Int) ≤ x ∧ x ≤ n.last
  each : ∀ x ∈ C, EachS ns C x
  par : ∀ x ∈ C, x ≠ a → ParS ns C x
  atom : ∀ x ∈ C, AtomS ns C x
theorem each_more {ns : List Nd} {C D : List Int} {x : Int} (hx : x ∈ C) (h : EachS ns C x) (hsub : ∀ y ∈ C, y ∈ D) (hno : ∀ y ∈ statesN ns x, y ∈ D → y ∈ C) : EachS ns D x := by
  obtain ⟨n, h1, h2, h3, h4⟩ := h
  refine ⟨n, h1, h2, fun e => ?_, fun e y hy => hsub y (h4 e y hy)⟩
  rw [← h3 e, andL_eq, andL_eq]
  congr 1
  refine List.filter_congr fun y hy => ?_
  by_cases hC : y ∈ C
  · rw [hasL_iff.2 hC, hasL_iff.2 (hsub y hC)]
  · unfold hasL; rw [decide_eq_false hC, decide_eq_false (fun h => hC (hno y hy h))]
theorem atom_more {ns : List Nd} {C D : List Int} {x : Int} (h : AtomS ns C x) (hsub : ∀ y ∈ C, y ∈ D) : AtomS ns D x := by
  obtain ⟨y, h1, h2⟩ := h; exact ⟨y, hsub y h1, h2⟩
theorem atom_up {ns : List Nd} (T : Tree ns) {C : List Int} {a k : Nat} {n m : Nd} (ha : ns[a]? = some n) (hk : ns[k]? = some m) (hp : m.parent = a) (h : AtomS ns C k) : AtomS ns C a := by
  obtain ⟨y, h1, h2, h3⟩ := h
  refine ⟨y, h1, h2, (chain_mem T (atomAt_iff.1 h2).2.1 h3).2.2 _ ?_⟩
  rw [chain_cons T (by omega) (by rw [Int.toNat_natCast]; exact hk), hp]
  refine List.mem_cons_of_mem _ ?_
  rw [chain_cons T (by omega) (by rw [Int.toNat_natCast]; exact ha)]
  exact List.mem_cons_self
theorem states_gt {ns : List Nd} (T : Tree ns) {x y : Int} (h0 : 0 ≤ x) (hy : y ∈ statesN ns x) : x < y ∧ ∃ m, ns[y.toNat]? = some m ∧ m.parent = x := by
  have hy' := (List.mem_filter.1 hy).1
  obtain ⟨q, m, h1, h2, h3, _⟩ := mem_kidsN.1 hy'
  have := T.seg.par q m h2
  exact ⟨by omega, m, by rw [h1, Int.toNat_natCast]; exact h2, h3⟩
theorem sub_atom {ns : List Nd} (T : Tree ns) {a : Nat} {n : Nd} (ha : ns[a]? = some n) (hk : n.kind = 1) : Sub ns a n [(a : Int)] := by
  have hal := T.seg.last a n ha
  have hl := Tree.lt ha
  refine ⟨by simp, List.pairwise_singleton _ _, fun x hx => ?_, fun x hx => ?_, fun x hx h => absurd (List.mem_singleton.1 hx) h, fun x hx => ?_⟩
  · rw [List.mem_singleton] at hx; omega
  · rw [List.mem_singleton] at hx; subst hx
    exact ⟨n, by rw [Int.toNat_natCast]; exact ha, by omega, fun e => by omega, fun e => by omega⟩
  · rw [List.mem_singleton] at hx; subst hx
    refine ⟨a, by simp, atomAt_iff.2 ⟨by omega, by omega, n, by rw [Int.toNat_natCast]; exact ha, hk⟩, ?_⟩
    rw [chain_cons T (by omega) (by rw [Int.toNat_natCast]; exact ha)]; exact List.mem_cons_self
structure Par (ns : List Nd) (a : Nat) (A D : List Int) : Prop where
  head : (a : Int) ∈ D
  asc : Asc D
  rng : ∀ x ∈ D, x = a ∨ ∃ (k : Nat) (m : Nd), (k : Int) ∈ A ∧ ns[k]? = some m ∧ m.parent = a ∧ (k : Int) ≤ x ∧ x ≤ m.last
  kids : ∀ k ∈ A, k ∈ D
  each : ∀ x ∈ D, x ≠ a → EachS ns D x
  par : ∀ x ∈ D, x ≠ a → ParS ns D x
  atom : ∀ x ∈ D, x ≠ a → AtomS ns D x
theorem par_nil {ns : List Nd} {a : Nat} : Par ns a [] [(a : Int)] :=
  ⟨by simp, List.pairwise_singleton _ _, fun x hx => .inl (List.mem_singleton.1 hx), fun k hk => by simp at hk, fun x hx h => absurd (List.mem_singleton.1 hx) h, fun x hx h => absurd (List.mem_singleton.1 hx) h, fun x hx h => absurd (List.mem_singleton.1 hx) h⟩
theorem par_snoc {ns : List Nd} (T : Tree ns) {a k : Nat} {m : Nd} {A C D : List Int} (hk : ns[k]? = some m) (hp : m.parent = a) (hlt : ∀ x ∈ A, x < k) (h : Par ns a A D) (hC : Sub ns k m C) : Par ns a (A ++ [(k : Int)]) (D ++ C) := by
  have hak : a < k := by have := T.seg.par k m hk; omega
  have hml := T.seg.last k m hk
  have hDk : ∀ x ∈ D, (0 ≤ x ∧ x < k) := fun x hx => by
    rcases h.rng x hx with rfl | ⟨k', m', h1, h2, h3, h4, h5⟩
    · omega
    · have := kid_apart T h2 h3 hk hp (by have := hlt _ h1; omega)
      omega
  have hCk : ∀ x ∈ C, (k : Int) ≤ x ∧ x < ns.length := fun x hx => by have := hC.rng x hx; omega
  have sD : ∀ y ∈ D, y ∈ D ++ C := fun y h => List.mem_append_left _ h
  have sC : ∀ y ∈ C, y ∈ D ++ C := fun y h => List.mem_append_right _ h
  refine ⟨sD _ h.head, List.pairwise_append.2 ⟨h.asc, hC.asc, fun x hx y hy => ?_⟩, fun x hx => ?_, fun x hx => ?_, fun x hx hne => ?_, fun x hx hne => ?_, fun x hx hne => ?_⟩
  · have := hDk x hx; have := hCk y hy; omega
  · rcases List.mem_append.1 hx with hx | hx
    · rcases h.rng x hx with e | ⟨k', m', h1, h2, h3, h4, h5⟩
      · exact .inl e
      · exact .inr ⟨k', m', List.mem_append_left _ h1, h2, h3, h4, h5⟩
    · have := hC.rng x hx
      exact .inr ⟨k, m, by simp, hk, hp, this.1, this.2⟩
  · rcases List.mem_append.1 hx with hx | hx
    · exact sD _ (h.kids x hx)
    · rw [List.mem_singleton] at hx; subst hx; exact sC _ hC.head
  · rcases List.mem_append.1 hx with hx | hx
    · refine each_more (C := D) hx (h.each x hx hne) sD fun y hy hyD => ?_
      rcases List.mem_append.1 hyD with hyD | hyC
      · exact hyD
      · exfalso
        obtain ⟨g1, m2, g2, g3⟩ := states_gt T (hDk x hx).1 hy
        rcases h.rng x hx with e | ⟨k', m', h1, h2, h3, h4, h5⟩
        · exact hne e
        · have l1 := T.seg.lam k' y.toNat m' m2 h2 g2 (by omega)
          have := kid_apart T h2 h3 hk hp (by have := hlt _ h1; omega)
          have := hCk y hyC
          omega
    · refine each_more (C := C) hx (hC.each x hx) sC fun y hy hyD => ?_
      rcases List.mem_append.1 hyD with hyD | hyC
      · exfalso
        have := hCk x hx
        obtain ⟨g1, _⟩ := states_gt T (by omega) hy
        have := hDk y hyD
        omega
      · exact hyC
  · rcases List.mem_append.1 hx with hx | hx
    · exact fun n hn => sD _ (h.par x hx hne n hn)
    · by_cases e : x = k
      · subst e
        intro n hn
        rw [Int.toNat_natCast, hk] at hn; cases hn
        rw [hp]; exact sD _ h.head
      · exact fun n hn => sC _ (hC.par x hx e n hn)
  · rcases List.mem_append.1 hx with hx | hx
    · exact atom_more (h.atom x hx hne) sD
    · exact atom_more (hC.atom x hx) sC
theorem par_rng {ns : List Nd} (T : Tree ns) {a : Nat} {n : Nd} {A D : List Int} (ha : ns[a]? = some n) (h : Par ns a A D) : ∀ x ∈ D, (a : Int) ≤ x ∧ x ≤ n.last := by
  intro x hx
  have hal := T.seg.last a n ha
  rcases h.rng x hx with rfl | ⟨k, m, h1, h2, h3, h4, h5⟩
  · omega
  · have := kid_in T ha h2 h3; omega
theorem sub_comp {ns : List Nd} (T : Tree ns) {a k : Nat} {n m : Nd} {C : List Int} (ha : ns[a]? = some n) (hkd : n.kind = 2) (hk : ns[k]? = some m) (hp : m.parent = a) (hm : m.kind ≤ 3) (hC : Sub ns k m C) : Sub ns a n ((a : Int) :: C) := by
  have P := par_snoc T hk hp (fun x hx => by simp at hx) (par_nil (ns := ns) (a := a)) hC
  have hla := Tree.lt ha
  have hkC : (k : Int) ∈ (a : Int) :: C := List.mem_cons_of_mem _ hC.head
  have hak := (kid_in T ha hk hp).1
  refine ⟨P.head, P.asc, par_rng T ha P, fun x hx => ?_, P.par, fun x hx => ?_⟩
  · by_cases e : x = a
    · subst e
      refine ⟨n, by rw [Int.toNat_natCast]; exact ha, by omega, fun _ => ?_, fun e => by omega⟩
      have hks : (k : Int) ∈ statesN ns a := (mem_statesN hla).2 ⟨k, m, rfl, hk, hp, hm⟩
      rw [andL_eq, ← asc_one statesN_asc hks]
      congr 1
      refine List.filter_congr fun y hy => ?_
      obtain ⟨q, m2, rfl, g1, g2, g3⟩ := (mem_statesN hla).1 hy
      by_cases e : q = k
      · subst e; rw [hasL_iff.2 hkC]; simp
      · have : (q : Int) ∉ (a : Int) :: C := by
          intro hm
          have gq := T.seg.par q m2 g1
          rcases List.mem_cons.1 hm with h1 | h1
          · omega
          · have h2 := hC.rng _ h1
            have := kid_apart T hk hp g1 g2 (by omega)
            omega
        unfold hasL
        rw [decide_eq_false this, decide_eq_false (by omega)]
    · exact P.each x hx e
  · by_cases e : x = a
    · subst e
      exact atom_up T ha hk hp (P.atom k hkC (by omega))
    · exact P.atom x hx e
theorem sub_par {ns : List Nd} (T : Tree ns) {a : Nat} {n : Nd} {D : List Int} (ha : ns[a]? = some n) (hkd : n.kind = 3) (P : Par ns a (statesN ns a) D) : Sub ns a n D := by
  have hla := Tree.lt ha
  refine ⟨P.head, P.asc, par_rng T ha P, fun x hx => ?_, P.par, fun x hx => ?_⟩
  · by_cases e : x = a
    · subst e
      exact ⟨n, by rw [Int.toNat_natCast]; exact ha, by omega, fun e => by omega, fun _ => P.kids⟩
    · exact P.each x hx e
  · by_cases e : x = a
    · subst e
      obtain ⟨m, h1, h2, h3⟩ := T.seg.first a n ha (.inr hkd)
      have h4 : ((a + 1 : Nat) : Int) ∈ statesN ns a := (mem_statesN hla).2 ⟨a + 1, m, rfl, h1, by omega, h3⟩
      exact atom_up T ha h1 (by omega) (P.atom _ (P.kids _ h4) (by omega))
    · exact P.atom x hx e
theorem filt_next : ∀ {l : List Int} {m : Nat}, Asc l → l.filter (fun x => decide (x < ((m + 1 : Nat) : Int))) = l.filter (fun x => decide (x < (m : Int))) ++ if hasL l m then [(m : Int)] else []
  | [], m, _ => by simp [hasL]
  | a :: r, m, h => by
    obtain ⟨h1, h2⟩ := List.pairwise_cons.1 h
    have ih := filt_next (m := m) h2
    rw [List.filter_cons, List.filter_cons]
    by_cases e : a < (m : Int)
    · rw [if_pos (decide_eq_true (by omega)), if_pos (decide_eq_true e), ih]
      have : hasL (a :: r) m = hasL r m := by
        unfold hasL
        by_cases hr : (m : Int) ∈ r
        · rw [decide_eq_true hr, decide_eq_true (List.mem_cons_of_mem _ hr)]
        · rw [decide_eq_false hr, decide_eq_false]
          intro hh
          rcases List.mem_cons.1 hh with h3 | h3
          · omega
          · exact hr h3
      rw [this]; rfl
    · have nil1 : ∀ b : Int, b ≤ m + 1 → (m : Int) ≤ a → r.filter (fun x => decide (x < b)) = [] := fun b hb ha => List.filter_eq_nil_iff.2 fun y hy => by have := h1 y hy; simp; omega
      rw [if_neg (show ¬ decide (a < (m : Int)) = true by simp; omega), nil1 m (by omega) (by omega), nil1 ((m + 1 : Nat) : Int) (by omega) (by omega)]
      by_cases e2 : a = m
      · subst e2
        rw [if_pos (decide_eq_true (show (m : Int) < ((m + 1 : Nat) : Int) by omega)), if_pos (hasL_iff.2 List.mem_cons_self)]; rfl
      · rw [if_neg (show ¬ decide (a < ((m + 1 : Nat) : Int)) = true by simp; omega), if_neg]
        · rfl
        · intro hh
          rcases List.mem_cons.1 (hasL_iff.1 hh) with h3 | h3
          · omega
          · have := h1 _ h3; omega
theorem ofGo_asc {l : List Int} (h : Asc l) (h0 : ∀ x ∈ l, 0 ≤ x) : ∀ m : Nat, ofGo l m = l.filter fun x => decide (x < (m : Int))
  | 0 => by symm; exact List.filter_eq_nil_iff.2 fun y hy => by have := h0 y hy; simp; omega
  | m + 1 => by rw [ofGo, ofGo_asc h h0 m, filt_next h]
theorem ofGo_self {l : List Int} {m : Nat} (h : Asc l) (h0 : ∀ x ∈ l, 0 ≤ x ∧ x < m) : ofGo l m = l := by
  rw [ofGo_asc h (fun x hx => (h0 x hx).1), List.filter_eq_self]
  intro x hx; exact decide_eq_true (h0 x hx).2
section
variable {ns : List Nd} {n : Nd} {C : List Int}
end
end Go.VM
namespace Go.Proofs.Ytokgijpdehjckaa.Vm
section
variable {R : Type} {G : ORC R} {k : Nat} {K : List V → Option R}
def KidsOK (f : FuncId) (G : ORC R) : Prop := ∀ (l : List Nd) (i : Int) (K : List V → Option R), l.length ≤ 1000 → W (fun o => o = [.sl 1 (ivs (kidsN l i))]) K (G f [.sl 7 (l.map Nd.v), .int .i64 i] K)
theorem rkids_loop (hI : IsOK G) {Q : List V → Prop} {K : List V → Option R} {Ko : List V → Option R} {l : List Nd} {i : Int} (hl : l.length ≤ 1000) (hKo : W Q K (Ko (ivs (kidsN l i)))) :
    ∀ (j m : Nat), l.length - m < j → m ≤ l.length → W Q K (l58_0g G k Ko j (l.map Nd.v) i (ivs (kidsGo l i m)) m)
  | 0, m, h1, h2 => by omega
  | j + 1, m, h1, h2 => by
    show W Q K (b58_0 G k (l58_0g G k Ko j) Ko (l.map Nd.v) i (ivs (kidsGo l i m)) m)
    unfold b58_0
    have hgl := kidsGo_len (l := l) (i := i) (m := m)
    simp only [List.length_map]
    refine W_dec (fun h => ?_) (fun h => by rw [show m = l.length by omega]; exact hKo)
    unfold IsOK at hI
    refine W_call (hI _ _ _) ?_
    rintro _ rfl
    (repeat(with_reducible apply U1))
    simp only [List.length_map]
    refine W_dec (fun hi => ?_) (fun hi => ?_)
    · refine W_and (W_yes (by omega) (W_yes (by omega) ?_))
      refine W_nthN (by omega) (fun n hn => ?_)
      rw [Int.toNat_natCast] at hn
      (repeat(with_reducible apply U1))
      have next : ∀ a, a = ivs (kidsGo l i (m + 1)) → W Q K (l58_0g G k Ko j (l.map Nd.v) i a (IntKind.i64.wrap ((m : Int) + 1))) := fun a ha => by
        rw [wrap_id (n := (m : Int) + 1) (by omega), ha]
        exact rkids_loop hI hl hKo j (m + 1) (by omega) (by omega)
      have hk : isK l i m = (decide (0 ≤ i ∧ i < l.length) && decide (n.parent = i)) := by unfold isK; rw [hn]
      refine W_beqI (fun hp => ?_) (fun hp => next _ (by rw [kidsGo, hk, decide_eq_false hp]; simp))
      refine W_yes (by rw [ivs_len]; omega) (next _ (by rw [kidsGo, hk, decide_eq_true hi, decide_eq_true hp]; simp [ivs]))
    · have e0 : ∀ m, kidsGo l i m = [] := by
        intro m
        induction m with
        | zero => rfl
        | succ m ih => unfold kidsGo; rw [ih]; unfold isK; rw [decide_eq_false hi]; simp
      have : kidsN l i = kidsGo l i m := by unfold kidsN; rw [e0, e0]
      rw [← this]; exact hKo
theorem rkids_ok (hk : 10000 ≤ k) (hI : IsOK G) : KidsOK 58 (fun _ args (K : List V → Option R) => g58 G k args K) := by
  intro l i K hl
  show W _ K (f58 G k (l.map Nd.v) i K)
  unfold f58 l58_0
  exact rkids_loop (Q := fun o => o = [.sl 1 (ivs (kidsN l i))]) (K := K) (Ko := fun x => K [.sl 1 x]) hI hl (W_ret rfl) k 0 (by omega) (by omega)
end
section
variable {R : Type} {G : ORC R} {k : Nat} {K : List V → Option R}
theorem ivs_atZ {l : List Int} {i : Nat} {n : Int} (h : l[i]? = some n) : (ivs l)[((i : Nat) : Int).toNat]? = some (.int .i64 n) := by rw [Int.toNat_natCast]; exact ivs_at h
theorem get_ex {l : List Int} {m : Nat} (h : m < l.length) : ∃ x, l[m]? = some x := ⟨_, List.getElem?_eq_getElem h⟩
def HasOK (G : ORC R) : Prop := ∀ (l : List Int) (i : Int) (K : List V → Option R), l.length ≤ 9000 → W (fun o => o = [.bool (hasL l i)]) K (G 28 [.sl 1 (ivs l), .int .i64 i] K)
theorem has_loop {Q : List V → Prop} {K : List V → Option R} {Ko : Unit → Option R} {Kr : Bool → Option R} {l : List Int} {i : Int} (hl : l.length ≤ 9000) (hKo : i ∉ l → W Q K (Ko ())) (hKr : i ∈ l → W Q K (Kr true)) :
    ∀ (j m : Nat), l.length - m < j → m ≤ l.length → i ∉ l.take m → W Q K (l28_0g G k Ko Kr j (ivs l) i m)
  | 0, m, h1, h2, h3 => by omega
  | j + 1, m, h1, h2, h3 => by
    show W Q K (b28_0 G k (l28_0g G k Ko Kr j) Ko Kr (ivs l) i m)
    unfold b28_0
    refine W_dec (fun h => ?_) (fun h => hKo (by rw [ivs_len] at h; rwa [List.take_of_length_le (by omega)] at h3))
    rw [ivs_len] at h
    obtain ⟨x, hx⟩ := get_ex (l := l) (m := m) (by omega)
    refine W_at (by omega) (ivs_atZ hx) (W_aI ?_)
    refine W_beqI (fun e => hKr (by subst e; exact List.mem_of_getElem? hx)) (fun e => ?_)
    rw [wrap_id (n := (m : Int) + 1) (by omega)]
    exact has_loop hl hKo hKr j (m + 1) (by omega) (by omega) (by rw [take_snoc hx, List.mem_append, List.mem_singleton]; rintro (h | h); exact h3 h; exact e h.symm)
theorem has_ok (hk : 10000 ≤ k) : HasOK (fun _ args (K : List V → Option R) => g28 G k args K) := by
  intro l i K hl
  show W _ K (f28 G k (ivs l) i K)
  unfold f28 l28_0
  exact has_loop (Q := fun o => o = [.bool (hasL l i)]) (K := K) hl (fun h => W_ret (by unfold hasL; rw [decide_eq_false h])) (fun h => W_ret (by unfold hasL; rw [decide_eq_true h])) k 0 (by omega) (by omega) (by simp)
def StatesOK (G : ORC R) : Prop := ∀ (ns : List Nd) (i : Int) (K : List V → Option R), ns.length ≤ 1000 → W (fun o => o = [.sl 1 (ivs (statesN ns i))]) K (G 25 [.sl 7 (ns.map Nd.v), .int .i64 i] K)
theorem filt_snoc {l : List Int} {p : Int → Bool} {x : Int} : (l ++ [x]).filter p = l.filter p ++ if p x then [x] else [] := by
  rw [List.filter_append, List.filter_cons]; cases p x <;> simp
theorem kid_at {ns : List Nd} {i x : Int} {m : Nat} (h : (kidsN ns i)[m]? = some x) : ∃ (q : Nat) (n : Nd), x = q ∧ ns[q]? = some n ∧ q < ns.length ∧ isSt ns x = decide (n.kind ≤ 3) := by
  obtain ⟨q, n, h1, h2, h3, _⟩ := mem_kidsN.1 (List.mem_of_getElem? h)
  exact ⟨q, n, h1, h2, (List.getElem?_eq_some_iff.1 h2).1, by unfold isSt; rw [h1, Int.toNat_natCast, h2]⟩
theorem states_loop (hS : IsStOK G) {Q : List V → Prop} {K : List V → Option R} {Ko : List V → Option R} {ns : List Nd} {i : Int} (hl : ns.length ≤ 1000) (hKo : W Q K (Ko (ivs (statesN ns i)))) :
    ∀ (j m : Nat), (kidsN ns i).length - m < j → m ≤ (kidsN ns i).length → W Q K (l25_0g G k Ko j (ns.map Nd.v) (ivs (((kidsN ns i).take m).filter (isSt ns))) (ivs (kidsN ns i)) m)
  | 0, m, h1, h2 => by omega
  | j + 1, m, h1, h2 => by
    show W Q K (b25_0 G k (l25_0g G k Ko j) Ko (ns.map Nd.v) (ivs (((kidsN ns i).take m).filter (isSt ns))) (ivs (kidsN ns i)) m)
    unfold b25_0
    have hkl : (kidsN ns i).length ≤ ns.length := kidsGo_len
    refine W_dec (fun h => ?_) (fun h => by rw [ivs_len] at h; rw [List.take_of_length_le (by omega)]; exact hKo)
    rw [ivs_len] at h
    obtain ⟨x, hx⟩ := get_ex (l := kidsN ns i) (m := m) (by omega)
    obtain ⟨q, n, rfl, hn, hq, hst⟩ := kid_at hx
    have hfl := List.length_filter_le (isSt ns) ((kidsN ns i).take m)
    rw [List.length_take] at hfl
    unfold IsStOK at hS
    refine W_at (by omega) (ivs_atZ hx) (W_aI ?_)
    refine W_at (by omega) (by rw [Int.toNat_natCast]; exact nd_get hn) (W_asAgg ?_)
    refine W_call (hS n _) ?_
    rintro _ rfl
    (repeat(with_reducible apply U1))
    have next : ∀ c, c = ivs (((kidsN ns i).take (m + 1)).filter (isSt ns)) → W Q K (l25_0g G k Ko j (ns.map Nd.v) c (ivs (kidsN ns i)) (IntKind.i64.wrap ((m : Int) + 1))) := fun c hc => by
      rw [wrap_id (n := (m : Int) + 1) (by omega), hc]
      exact states_loop hS hl hKo j (m + 1) (by omega) (by omega)
    rw [← hst]
    refine W_bool (fun hb => ?_) (fun hb => next _ (by rw [take_snoc hx, filt_snoc, hb]; simp))
    refine W_at (by omega) (ivs_atZ hx) (W_aI ?_)
    exact W_yes (by rw [ivs_len]; omega) (next _ (by rw [take_snoc hx, filt_snoc, hb]; simp [ivs]))
theorem states_ok (hk : 10000 ≤ k) (hK : KidsOK 58 G) (hS : IsStOK G) : StatesOK (fun _ args (K : List V → Option R) => g25 G k args K) := by
  intro ns i K hl
  show W _ K (f25 G k (ns.map Nd.v) i K)
  unfold f25
  unfold KidsOK at hK
  refine W_call (hK _ _ _ hl) ?_
  rintro _ rfl
  (repeat(with_reducible apply U1))
  unfold l25_0
  have hkl : (kidsN ns i).length ≤ ns.length := kidsGo_len
  exact states_loop (Q := fun o => o = [.sl 1 (ivs (statesN ns i))]) (K := K) (Ko := fun x => K [.sl 1 x]) hS hl (W_ret rfl) k 0 (by omega) (by omega)
theorem statesN_len {ns : List Nd} {i : Int} : (statesN ns i).length ≤ ns.length := Nat.le_trans (List.length_filter_le _ _) kidsGo_len
end
section
variable {R : Type} {G : ORC R} {k : Nat} {K : List V → Option R}
theorem asc_len {l : List Int} {m : Nat} (h : Asc l) (h0 : ∀ x ∈ l, 0 ≤ x ∧ x < m) : l.length ≤ m := by
  rw [← ofGo_self h h0]; exact ofGo_len
theorem asc_lt {l : List Int} (h : Asc l) {m : Nat} {x : Int} (hx : l[m]? = some x) : ∀ y ∈ l.take m, y < x := by
  intro y hy
  obtain ⟨i, hi, e⟩ := List.mem_iff_getElem.1 hy
  rw [List.length_take] at hi
  rw [List.getElem_take] at e
  obtain ⟨hm, e2⟩ := List.getElem?_eq_some_iff.1 hx
  have := List.pairwise_iff_getElem.1 h i m (by omega) hm (by omega)
  rw [e, e2] at this; exact this
def SomeOK (d : Nat) (G : ORC R) : Prop := ∀ (ns : List Nd) (a : Nat) (n : Nd) (b : List V) (i : Int) (K : List V → Option R), Tree ns → ns.length ≤ 100 → ns[a]? = some n → n.kind ≤ 3 → n.last - a < d → RowS b i →
  W (fun o => ∃ C j, o = [.sl 1 (ivs C), .int .i64 j] ∧ Sub ns a n C ∧ RowS b j) K (G 8 [.sl 7 (ns.map Nd.v), .int .i64 a, .sl 1 b, .int .i64 i] K)
theorem some_loop {d : Nat} (hS : SomeOK d G) {Q : List V → Prop} {K : List V → Option R} {Ko : List V → List V → Int → Option R} {ns : List Nd} {a : Nat} {n : Nd} {b : List V} (T : Tree ns) (hl : ns.length ≤ 100) (ha : ns[a]? = some n) (hd : n.last - a < (d + 1 : Nat))
    (hKo : ∀ D j, Par ns a (statesN ns a) D → RowS b j → W Q K (Ko (ivs D) b j)) :
    ∀ (j m : Nat) (D : List Int) (i : Int), (statesN ns a).length - m < j → m ≤ (statesN ns a).length → Par ns a ((statesN ns a).take m) D → RowS b i → W Q K (l8_1g G k Ko j (ns.map Nd.v) (ivs D) (ivs (statesN ns a)) m b i)
  | 0, m, D, i, h1, h2, h3, h4 => by omega
  | j + 1, m, D, i, h1, h2, h3, h4 => by
    show W Q K (b8_1 G k (l8_1g G k Ko j) Ko (ns.map Nd.v) (ivs D) (ivs (statesN ns a)) m b i)
    unfold b8_1
    have hsl : (statesN ns a).length ≤ ns.length := statesN_len
    refine W_dec (fun h => ?_) (fun h => by rw [ivs_len] at h; rw [List.take_of_length_le (by omega)] at h3; exact hKo D i h3 h4)
    rw [ivs_len] at h
    obtain ⟨x, hx⟩ := get_ex (l := statesN ns a) (m := m) (by omega)
    obtain ⟨q, m2, rfl, g1, g2, g3⟩ := (mem_statesN (Tree.lt ha)).1 (List.mem_of_getElem? hx)
    have hki := kid_in T ha g1 g2
    refine W_at (by omega) (ivs_atZ hx) (W_aI ?_)
    have hS' := hS
    unfold SomeOK at hS'
    refine W_call (hS' ns q m2 b i _ T hl g1 g3 (by omega) h4) ?_
    rintro _ ⟨C, j2, rfl, hC, hj2⟩
    (repeat(with_reducible apply U1))
    have hal := T.seg.last a n ha
    have hql := T.seg.last q m2 g1
    have l1 : D.length ≤ ns.length := asc_len h3.asc fun x hx => by have := par_rng T ha h3 x hx; omega
    have l2 : C.length ≤ ns.length := asc_len hC.asc fun x hx => by have := hC.rng x hx; omega
    refine W_yes (by rw [ivs_len, ivs_len]; omega) ?_
    rw [wrap_id (n := (m : Int) + 1) (by omega), ← ivs_app]
    refine some_loop hS T hl ha hd hKo j (m + 1) (D ++ C) j2 (by omega) (by omega) ?_ hj2
    rw [take_snoc hx]
    exact par_snoc T g1 g2 (asc_lt statesN_asc hx) h3 hC
theorem some_ok {d : Nat} (hk : 10000 ≤ k) (hSt : StatesOK G) (hN : NextS G) (hS : ∀ d', d = d' + 1 → SomeOK d' G) : SomeOK d (fun _ args (K : List V → Option R) => g8 G k args K) := by
  intro ns a n b i K T hl ha hk3 hd hr
  show W _ K (f8 G k (ns.map Nd.v) a b i K)
  have hal := T.seg.last a n ha
  cases d with
  | zero => omega
  | succ d =>
  have hS := hS d rfl
  unfold f8
  unfold StatesOK at hSt; unfold NextS at hN
  have hkinds := T.seg.kinds a n ha
  have hla := Tree.lt ha
  refine W_call (hSt _ _ _ (by omega)) ?_
  rintro _ rfl
  (repeat(with_reducible apply U1))
  refine W_at (by omega) (by rw [Int.toNat_natCast]; exact nd_get ha) (W_nd7 (W_aI ?_))
  refine W_beqI (fun h2 => ?_) (fun h2 => ?_)
  · obtain ⟨m, m1, m2, m3⟩ := T.seg.first a n ha (.inl h2)
    have hne : 0 < (statesN ns a).length := List.length_pos_of_mem ((mem_statesN hla).2 ⟨a + 1, m, rfl, m1, by omega, m3⟩)
    have hsl : (statesN ns a).length ≤ ns.length := statesN_len
    refine W_call (hN _ _ _ _ (by rw [ivs_len]; omega) (by rw [ivs_len]; omega) hr) ?_
    rintro _ ⟨x, j, rfl, x0, x1, hj⟩
    (repeat(with_reducible apply U1))
    rw [ivs_len] at x1
    obtain ⟨y, hy⟩ := get_ex (l := statesN ns a) (m := x.toNat) (by omega)
    obtain ⟨q, m2, rfl, g1, g2, g3⟩ := (mem_statesN hla).1 (List.mem_of_getElem? hy)
    have hki := kid_in T ha g1 g2
    refine W_at x0 (ivs_at hy) (W_aI ?_)
    have hS' := hS
    unfold SomeOK at hS'
    refine W_call (hS' ns q m2 b j _ T hl g1 g3 (by omega) hj) ?_
    rintro _ ⟨C, j2, rfl, hC, hj2⟩
    (repeat(with_reducible apply U1))
    have hql := T.seg.last q m2 g1
    have l2 : C.length ≤ ns.length := asc_len hC.asc fun x hx => by have := hC.rng x hx; omega
    refine W_yes (by rw [ivs_len]; omega) (W_ret ⟨(a : Int) :: C, j2, rfl, sub_comp T ha h2 g1 g2 g3 hC, hj2⟩)
  · refine W_beqI (fun h4 => ?_) (fun h4 => W_ret ⟨[(a : Int)], i, rfl, sub_atom T ha (by omega), hr⟩)
    have hsl : (statesN ns a).length ≤ ns.length := statesN_len
    unfold l8_1
    exact some_loop (Ko := fun x y z => K [.sl 1 x, .int .i64 z]) hS T hl ha hd (fun D j hD hj => W_ret ⟨D, j, rfl, sub_par T ha h4 hD, hj⟩) k 0 [(a : Int)] i (by omega) (by omega) par_nil hr
end
section
variable {R : Type} {G : ORC R} {k : Nat} {K : List V → Option R} {Q : List V → Prop}
theorem ivs_plains {l : List Int} : flats (ivs l) = true := by
  unfold flats ivs
  rw [List.all_eq_true]
  intro v hv
  obtain ⟨n, _, rfl⟩ := List.mem_map.1 hv
  rfl
def rws (l : List (List Int)) : List V := l.map fun r => .sl 1 (ivs r)
theorem rws_len {l : List (List Int)} : (rws l).length = l.length := by simp [rws]
theorem rws_at {l : List (List Int)} {i : Nat} {r : List Int} (h : l[i]? = some r) : (rws l)[i]? = some (.sl 1 (ivs r)) := by unfold rws; rw [List.getElem?_map, h]; rfl
def SiX (G : ORC R) : Prop := ∀ (l : List Int) (x : Int) (K : List V → Option R), l.length ≤ 9000 → W (fun o => ∃ i, o = [.int .i64 i] ∧ (0 ≤ i ↔ x ∈ l)) K (G 63 [.sl 1 (ivs l), .int .i64 x] K)
theorem si_loop {Ko : Unit → Option R} {Kr : Int → Option R} {l : List Int} {x : Int} (hl : l.length ≤ 9000) (hKo : x ∉ l → W Q K (Ko ())) (hKr : ∀ i, 0 ≤ i → x ∈ l → W Q K (Kr i)) :
    ∀ (j m : Nat), l.length - m < j → m ≤ l.length → x ∉ l.take m → W Q K (l63_0g G k Ko Kr j (ivs l) x l.length m)
  | 0, m, h1, h2, h3 => by omega
  | j + 1, m, h1, h2, h3 => by
    show W Q K (b63_0 G k (l63_0g G k Ko Kr j) Ko Kr (ivs l) x l.length m)
    unfold b63_0
    refine W_dec (fun h => ?_) (fun h => hKo (by rw [List.take_of_length_le (by omega)] at h3; exact h3))
    obtain ⟨y, hy⟩ := get_ex (l := l) (m := m) (by omega)
    refine W_at (by omega) (ivs_atZ hy) (W_aI ?_)
    refine W_beqI (fun e => hKr m (by omega) (e ▸ List.mem_of_getElem? hy)) (fun e => ?_)
    rw [wrap_id (n := (m : Int) + 1) (by omega)]
    refine si_loop hl hKo hKr j (m + 1) (by omega) (by omega) ?_
    rw [take_snoc hy, List.mem_append, List.mem_singleton]
    exact fun h => h.elim h3 e
theorem si_ok (hk : 10000 ≤ k) : SiX (fun _ args (K : List V → Option R) => g63 G k args K) := by
  intro l x K hl
  show W _ K (f63 G k (ivs l) x K)
  unfold f63 l63_0
  rw [ivs_len]
  exact si_loop (Q := fun o => ∃ i, o = [.int .i64 i] ∧ (0 ≤ i ↔ x ∈ l)) (K := K) (Ko := fun _ => K [.int .i64 (-1)]) (Kr := fun y => K [.int .i64 y]) hl (fun h => W_ret ⟨_, rfl, by constructor <;> intro h'; omega; exact absurd h' h⟩) (fun i h0 h => W_ret ⟨_, rfl, fun _ => h, fun _ => h0⟩) k 0 (by omega) (by omega) (by simp)
def CoX (G : ORC R) : Prop := ∀ (l : List Int) (x : Int) (K : List V → Option R), l.length ≤ 9000 → W (fun o => o = [.bool (decide (x ∈ l))]) K (G 44 [.sl 1 (ivs l), .int .i64 x] K)
theorem co_ok (hS : SiX G) : CoX (fun _ args (K : List V → Option R) => g44 G k args K) := by
  intro l x K hl
  show W _ K (f44 G k (ivs l) x K)
  unfold f44
  unfold SiX at hS
  refine W_call (hS _ _ _ hl) ?_
  rintro _ ⟨i, rfl, hi⟩
  (repeat(with_reducible apply U1))
  refine W_ret ?_
  by_cases h : x ∈ l
  · rw [decide_eq_true h, decide_eq_true (hi.2 h)]
  · rw [decide_eq_false h, decide_eq_false (fun h' => h (hi.1 h'))]
def ClX (G : ORC R) : Prop := ∀ (l : List Int) (K : List V → Option R), l.length ≤ 9000 → W (fun o => o = [.sl 1 (ivs l)]) K (G 45 [.sl 1 (ivs l)] K)
theorem cl_ok : ClX (fun _ args (K : List V → Option R) => g45 G k args K) := by
  intro l K hl
  show W _ K (bif decide ((ivs l).length ≤ 1000000) then (bif flats (ivs l) then K [.sl 1 (ivs l)] else none) else none)
  rw [ivs_plains]
  exact W_yes (by rw [ivs_len]; omega) (W_ret rfl)
def LisX (G : ORC R) : Prop := ∀ (l : List V) (i : Int) (K : List V → Option R), W (fun o => o = [.bool (decide (0 ≤ i ∧ i < l.length))]) K (G 31 [.sl 7 l, .int .i64 i] K)
theorem lis_ok : LisX (fun _ args (K : List V → Option R) => g31 G k args K) := by
  intro l i K
  show W _ K (f31 G k l i K)
  unfold f31
  refine W_dec (fun h => W_ret ?_) (fun h => W_ret ?_)
  · simp [h]
  · rw [decide_eq_false (by omega)]
def LhiX (G : ORC R) : Prop := ∀ (n : Nd) (K : List V → Option R), W (fun o => o = [.bool (decide (n.kind = 4 ∨ n.kind = 5))]) K (G 43 [n.v] K)
theorem lhi_ok : LhiX (fun _ args (K : List V → Option R) => g43 G k args K) := by
  intro n K
  show W _ K (f43 G k n.kind n.parent n.last n.init n.entry n.exit n.name K)
  unfold f43
  refine W_beqI (fun h => W_ret (by simp [h])) (fun h => W_ret ?_)
  by_cases h5 : n.kind = 5
  · simp [h5]
  · simp [h, h5]
def keepC (ns : List Nd) (h : Nd) (c : Int) : Bool := match ns[c.toNat]? with
  | some m => (decide (h.kind = 4) && decide (m.parent = h.parent)) || (decide (h.kind = 5) && decide (m.kind = 1) && decide (c ≠ h.parent) && inN ns c h.parent)
  | none => false
def remR (ns : List Nd) (C E : List Int) (H : List (List Int)) (i : Nat) : List Int := match ns[i]? with
  | some h => if h.kind ≤ 3 then [] else if h.parent ∈ E then C.filter (keepC ns h) else (H[i]?).getD []
  | none => []
def remN (ns : List Nd) (C E : List Int) (H : List (List Int)) : List (List Int) := (List.range ns.length).map (remR ns C E H)
def mids (ns : List Nd) (C E : List Int) (H : List (List Int)) (i : Nat) (r : List Int) : List V := rws ((List.range i).map (remR ns C E H)) ++ .sl 1 (ivs r) :: List.replicate (ns.length - i - 1) (.sl 1 [])
def pres (ns : List Nd) (C E : List Int) (H : List (List Int)) (i : Nat) : List V := rws ((List.range i).map (remR ns C E H)) ++ List.replicate (ns.length - i) (.sl 1 [])
theorem pres_mid {ns C E H} {i : Nat} (h : i < ns.length) : pres ns C E H i = mids ns C E H i [] := by
  unfold pres mids
  rw [show ns.length - i = (ns.length - i - 1) + 1 by omega, List.replicate_succ]; rfl
theorem mids_pres {ns C E H} {i : Nat} (h : i < ns.length) : mids ns C E H i (remR ns C E H i) = pres ns C E H (i + 1) := by
  unfold pres mids
  rw [List.range_succ, List.map_append]
  unfold rws
  rw [List.map_append, List.append_assoc, show ns.length - i - 1 = ns.length - (i + 1) by omega]; rfl
theorem pre_len {ns C E H} {i : Nat} : (rws ((List.range i).map (remR ns C E H))).length = i := by rw [rws_len]; simp
theorem mids_get {ns C E H} {i : Nat} {r} : (mids ns C E H i r)[((i : Nat) : Int).toNat]? = some (.sl 1 (ivs r)) := by
  unfold mids; rw [Int.toNat_natCast, List.getElem?_append_right (by rw [pre_len]; omega), pre_len]; simp
theorem mids_set {ns C E H} {i : Nat} {r r'} : (mids ns C E H i r).set ((i : Nat) : Int).toNat (.sl 1 (ivs r')) = mids ns C E H i r' := by
  unfold mids; rw [Int.toNat_natCast, List.set_append_right _ _ (by rw [pre_len]; omega), pre_len]; simp
theorem mids_set2 {ns C E H} {i : Nat} {r r'} {v : V} : ((mids ns C E H i r).set ((i : Nat) : Int).toNat v).set ((i : Nat) : Int).toNat (.sl 1 (ivs r')) = mids ns C E H i r' := by
  rw [List.set_set]; exact mids_set
theorem mids_getU {ns C E H} {i : Nat} {r} {v : V} : ((mids ns C E H i r).set ((i : Nat) : Int).toNat v)[((i : Nat) : Int).toNat]? = some v := by
  unfold mids; rw [Int.toNat_natCast, List.set_append_right _ _ (by rw [pre_len]; omega), pre_len, List.getElem?_append_right (by rw [pre_len]; omega), pre_len]; simp
theorem pres0 {ns C E H} : pres ns C E H 0 = List.replicate ns.length (.sl 1 []) := rfl
theorem presN {ns C E H} : pres ns C E H ns.length = rws (remN ns C E H) := by
  unfold pres remN; simp
end
end Go.Proofs.Ytokgijpdehjckaa.Vm
