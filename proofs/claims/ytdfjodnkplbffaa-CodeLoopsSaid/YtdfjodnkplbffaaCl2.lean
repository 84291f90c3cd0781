/- Functions of the program, told by the machine of values, and what they answer: part 2. -/
import Derived.Test.YtdfjodnkplbffaaCl1
import Derived.Test.YtdfjodnkplbffaaV4
open Go Go.VM
set_option linter.unusedVariables false
set_option maxRecDepth 100000
set_option maxHeartbeats 4000000
namespace Go.Proofs.Ytdfjodnkplbffaa.Vm
/-! ### (*cotillion/code.writer).choice: function 52 -/
def L52 {R : Type} (_ : ORC R) (_ : Nat) : Nat → St → (Ex → St → Option R) → Option R := fun _ _ _ => none
def f52 {R : Type} (G : ORC R) (k : Nat) (ai1 : Int) (as2 as3 : ByteArray) (al4 : List V) (ai5 : Int) (al6 al7 : List V) (ai8 : Int) (bl9 bl10 : List V) (bl11 bl12 bl13 : List V) (K : List V → Option R) : Option R :=
  (G 85 [(.agg [(.int .i64 ai1), (.str as2), (.str as3), (.sl 5 al4), (.int .i64 ai5), (.sl 8 al6), (.sl 8 al7), (.int .i64 ai8)]), (.sl 1 bl9), (.sl 1 bl10), (.sl 1 bl11), (.sl 7 bl12), (.sl 4 bl13)] fun o14 => (uL 4 o14 fun l16 r15 => (unNil r15 (G 56 [(.agg [(.int .i64 24), (.int .i64 0), (.int .i64 0), (.str ⟨#[]⟩)]), (.sl 1 bl9), (.sl 1 bl10), (.sl 1 bl11), (.sl 7 bl12), (.sl 4 l16)] fun o17 => (uI .i64 o17 fun n19 r18 => (uL 4 r18 fun l21 r20 => (unNil r20 (G 39 [(.sl 8 al6), (.sl 1 bl9), (.sl 1 bl10), (.sl 1 bl11), (.sl 7 bl12), (.sl 4 l21)] fun o22 => (uL 4 o22 fun l24 r23 => (unNil r23 (bif (((List.length al7 : Nat) : Int) == 0) then (G 84 [(.int .i64 n19), (.sl 1 bl9), (.sl 1 bl10), (.sl 1 bl11), (.sl 7 bl12), (.sl 4 l24)] fun o25 => (uL 4 o25 fun l27 r26 => (unNil r26 (K [(.sl 4 l27)])))) else (G 56 [(.agg [(.int .i64 23), (.int .i64 0), (.int .i64 0), (.str ⟨#[]⟩)]), (.sl 1 bl9), (.sl 1 bl10), (.sl 1 bl11), (.sl 7 bl12), (.sl 4 l24)] fun o28 => (uI .i64 o28 fun n30 r29 => (uL 4 r29 fun l32 r31 => (unNil r31 (G 84 [(.int .i64 n19), (.sl 1 bl9), (.sl 1 bl10), (.sl 1 bl11), (.sl 7 bl12), (.sl 4 l32)] fun o33 => (uL 4 o33 fun l35 r34 => (unNil r34 (G 39 [(.sl 8 al7), (.sl 1 bl9), (.sl 1 bl10), (.sl 1 bl11), (.sl 7 bl12), (.sl 4 l35)] fun o36 => (uL 4 o36 fun l38 r37 => (unNil r37 (G 84 [(.int .i64 n30), (.sl 1 bl9), (.sl 1 bl10), (.sl 1 bl11), (.sl 7 bl12), (.sl 4 l38)] fun o39 => (uL 4 o39 fun l41 r40 => (unNil r40 (K [(.sl 4 l41)])))))))))))))))))))))))))
theorem f52_is {R : Type} (G : ORC R) (k : Nat) (K : List V → Option R) (ai1 : Int) (as2 as3 : ByteArray) (al4 : List V) (ai5 : Int) (al6 al7 : List V) (ai8 : Int) (bl9 bl10 : List V) (bl11 bl12 bl13 : List V) :
    callF (TAB.env 52) G (L52 G k) Try.f52 S52 [(.agg [(.int .i64 ai1), (.str as2), (.str as3), (.sl 5 al4), (.int .i64 ai5), (.sl 8 al6), (.sl 8 al7), (.int .i64 ai8)]), (.sl 1 bl9), (.sl 1 bl10), (.sl 1 bl11), (.sl 7 bl12), (.sl 4 bl13)] K = f52 G k ai1 as2 as3 al4 ai5 al6 al7 ai8 bl9 bl10 bl11 bl12 bl13 K := by kernel_rfl
theorem lo52 : loopsOf (bodyOf Try.f52) = [] := by kernel_rfl
theorem la52 {R : Type} (G : ORC R) (k : Nat) : LoopsAre (TAB.env 52) G (L52 G k) (bodyOf Try.f52) :=
  loopsAre_of (by rw [lo52]; intro p hp; cases hp)
def g52 {R : Type} (G : ORC R) (k : Nat) (args : List V) (K : List V → Option R) : Option R := match args with
  | [(.agg [(.int .i64 ai1), (.str as2), (.str as3), (.sl 5 al4), (.int .i64 ai5), (.sl 8 al6), (.sl 8 al7), (.int .i64 ai8)]), (.sl 1 bl9), (.sl 1 bl10), (.sl 1 bl11), (.sl 7 bl12), (.sl 4 bl13)] => f52 G k ai1 as2 as3 al4 ai5 al6 al7 ai8 bl9 bl10 bl11 bl12 bl13 K
  | _ => none
theorem s52 {R : Type} {G : ORC R} {k : Nat} (hG : Sound Try.prog TAB G) (args : List V) (K : List V → Option R) (r : R) (h : g52 G k args K = some r) : ∃ o, CallOK Try.prog TAB.env 52 args o ∧ K o = some r := by
  unfold g52 at h
  split at h
  · rw [← f52_is] at h
    exact callF_sound (f := 52) TAB_chk MO hG Try.func52 (sg := S52) (by kernel_rfl) (by kernel_rfl) (la52 G k) h
  · cases h
end Go.Proofs.Ytdfjodnkplbffaa.Vm
open Go Go.VM
set_option linter.unusedVariables false
set_option maxRecDepth 100000
set_option maxHeartbeats 4000000
namespace Go.Proofs.Ytdfjodnkplbffaa.Vm
/-! ### (*cotillion/code.writer).loop: function 51 -/
def L51 {R : Type} (_ : ORC R) (_ : Nat) : Nat → St → (Ex → St → Option R) → Option R := fun _ _ _ => none
def f51 {R : Type} (G : ORC R) (k : Nat) (ai1 : Int) (as2 as3 : ByteArray) (al4 : List V) (ai5 : Int) (al6 al7 : List V) (ai8 : Int) (bl9 bl10 : List V) (bl11 bl12 bl13 : List V) (K : List V → Option R) : Option R :=
  (G 56 [(.agg [(.int .i64 25), (.int .i64 0), (.int .i64 ai5), (.str ⟨#[]⟩)]), (.sl 1 bl9), (.sl 1 bl10), (.sl 1 bl11), (.sl 7 bl12), (.sl 4 bl13)] fun o14 => (uI .i64 o14 fun n16 r15 => (uL 4 r15 fun l18 r17 => (unNil r17 (G 39 [(.sl 8 al6), (.sl 1 bl9), (.sl 1 bl10), (.sl 1 bl11), (.sl 7 bl12), (.sl 4 l18)] fun o19 => (uL 4 o19 fun l21 r20 => (unNil r20 (G 56 [(.agg [(.int .i64 26), (.int .i64 n16), (.int .i64 0), (.str ⟨#[]⟩)]), (.sl 1 bl9), (.sl 1 bl10), (.sl 1 bl11), (.sl 7 bl12), (.sl 4 l21)] fun o22 => (uI .i64 o22 fun n24 r23 => (uL 4 r23 fun l26 r25 => (unNil r25 (G 84 [(.int .i64 n16), (.sl 1 bl9), (.sl 1 bl10), (.sl 1 bl11), (.sl 7 bl12), (.sl 4 l26)] fun o27 => (uL 4 o27 fun l29 r28 => (unNil r28 (K [(.sl 4 l29)])))))))))))))))
theorem f51_is {R : Type} (G : ORC R) (k : Nat) (K : List V → Option R) (ai1 : Int) (as2 as3 : ByteArray) (al4 : List V) (ai5 : Int) (al6 al7 : List V) (ai8 : Int) (bl9 bl10 : List V) (bl11 bl12 bl13 : List V) :
    callF (TAB.env 51) G (L51 G k) Try.f51 S51 [(.agg [(.int .i64 ai1), (.str as2), (.str as3), (.sl 5 al4), (.int .i64 ai5), (.sl 8 al6), (.sl 8 al7), (.int .i64 ai8)]), (.sl 1 bl9), (.sl 1 bl10), (.sl 1 bl11), (.sl 7 bl12), (.sl 4 bl13)] K = f51 G k ai1 as2 as3 al4 ai5 al6 al7 ai8 bl9 bl10 bl11 bl12 bl13 K := by kernel_rfl
theorem lo51 : loopsOf (bodyOf Try.f51) = [] := by kernel_rfl
theorem la51 {R : Type} (G : ORC R) (k : Nat) : LoopsAre (TAB.env 51) G (L51 G k) (bodyOf Try.f51) :=
  loopsAre_of (by rw [lo51]; intro p hp; cases hp)
def g51 {R : Type} (G : ORC R) (k : Nat) (args : List V) (K : List V → Option R) : Option R := match args with
  | [(.agg [(.int .i64 ai1), (.str as2), (.str as3), (.sl 5 al4), (.int .i64 ai5), (.sl 8 al6), (.sl 8 al7), (.int .i64 ai8)]), (.sl 1 bl9), (.sl 1 bl10), (.sl 1 bl11), (.sl 7 bl12), (.sl 4 bl13)] => f51 G k ai1 as2 as3 al4 ai5 al6 al7 ai8 bl9 bl10 bl11 bl12 bl13 K
  | _ => none
theorem s51 {R : Type} {G : ORC R} {k : Nat} (hG : Sound Try.prog TAB G) (args : List V) (K : List V → Option R) (r : R) (h : g51 G k args K = some r) : ∃ o, CallOK Try.prog TAB.env 51 args o ∧ K o = some r := by
  unfold g51 at h
  split at h
  · rw [← f51_is] at h
    exact callF_sound (f := 51) TAB_chk MO hG Try.func51 (sg := S51) (by kernel_rfl) (by kernel_rfl) (la51 G k) h
  · cases h
end Go.Proofs.Ytdfjodnkplbffaa.Vm
open Go Go.VM
set_option linter.unusedVariables false
set_option maxRecDepth 100000
set_option maxHeartbeats 4000000
namespace Go.Proofs.Ytdfjodnkplbffaa.Vm
/-! ### (*cotillion/code.writer).block: function 39 -/
def P39_0h : Pat := { tmps := unds [.stat (.one (.ptr 0 0) .pt)] 5 (unds [.var (.sl 8) .ro, .var (.int .i64) .pr, .var (.int .i64) .pr] 19 []), boxes := nons [some [.var (.sl 1) .ro true, .var (.sl 1) .ro true, .var (.sl 1) .ro true, .var (.sl 7) .ro true, .var (.sl 4) (.own true) false]] 28 [] }
def P39_0x : Pat := { tmps := unds [] 28 [], boxes := nons [some [.var (.sl 1) .ro true, .var (.sl 1) .ro true, .var (.sl 1) .ro true, .var (.sl 7) .ro true, .var (.sl 4) (.own true) false]] 28 [] }
def b39_0 {R : Type} (G : ORC R) (k : Nat) (X : List V → Int → Int → List V → List V → List V → List V → List V → Option R) (Ko : List V → List V → List V → List V → List V → Option R) (xl7 : List V) (xi8 xi9 : Int) (xl10 xl11 : List V) (xl12 xl13 xl14 : List V) : Option R :=
  (bif (decide (xi9 < xi8)) then (bif ((decide (0 ≤ xi9)) && (decide (xi9 < ((List.length xl7 : Nat) : Int)))) then (nthK xl7 (Int.toNat xi9) fun e15 => (V.asAgg e15 fun l16 => (ce8 l16 fun c17 c18 c19 c20 c21 c22 c23 c24 => (aI .i64 c17 fun n34 => (V.asStr c18 fun s35 => (V.asStr c19 fun s36 => (V.asSl c20 fun z37 l38 => (aI .i64 c21 fun n39 => (V.asSl c22 fun z40 l41 => (V.asSl c23 fun z42 l43 => (aI .i64 c24 fun n44 => (bif (n34 == 7) then (G 51 [(.agg [(.int .i64 n34), (.str s35), (.str s36), (.sl z37 l38), (.int .i64 n39), (.sl z40 l41), (.sl z42 l43), (.int .i64 n44)]), (.sl 1 xl10), (.sl 1 xl11), (.sl 1 xl12), (.sl 7 xl13), (.sl 4 xl14)] fun o45 => (uL 4 o45 fun l47 r46 => (unNil r46 (X xl7 xi8 (IntKind.i64.wrap (xi9 + 1)) xl10 xl11 xl12 xl13 l47)))) else (bif (n34 == 6) then (G 52 [(.agg [(.int .i64 n34), (.str s35), (.str s36), (.sl z37 l38), (.int .i64 n39), (.sl z40 l41), (.sl z42 l43), (.int .i64 n44)]), (.sl 1 xl10), (.sl 1 xl11), (.sl 1 xl12), (.sl 7 xl13), (.sl 4 xl14)] fun o48 => (uL 4 o48 fun l50 r49 => (unNil r49 (X xl7 xi8 (IntKind.i64.wrap (xi9 + 1)) xl10 xl11 xl12 xl13 l50)))) else (G 53 [(.agg [(.int .i64 n34), (.str s35), (.str s36), (.sl z37 l38), (.int .i64 n39), (.sl z40 l41), (.sl z42 l43), (.int .i64 n44)]), (.sl 1 xl10), (.sl 1 xl11), (.sl 1 xl12), (.sl 7 xl13), (.sl 4 xl14)] fun o51 => (uL 4 o51 fun l53 r52 => (unNil r52 (X xl7 xi8 (IntKind.i64.wrap (xi9 + 1)) xl10 xl11 xl12 xl13 l53))))))))))))))))) else none) else (Ko xl10 xl11 xl12 xl13 xl14))
def l39_0g {R : Type} (G : ORC R) (k : Nat) (Ko : List V → List V → List V → List V → List V → Option R) : Nat → List V → Int → Int → List V → List V → List V → List V → List V → Option R
  | 0 => fun _ _ _ _ _ _ _ _ => none
  | j + 1 => b39_0 G k (l39_0g G k Ko j) Ko
def l39_0 {R : Type} (G : ORC R) (k : Nat) (xl7 : List V) (xi8 xi9 : Int) (xl10 xl11 : List V) (xl12 xl13 xl14 : List V) (Ko : List V → List V → List V → List V → List V → Option R) : Option R := l39_0g G k Ko k xl7 xi8 xi9 xl10 xl11 xl12 xl13 xl14
def rd39_0 {R : Type} (G : ORC R) (k : Nat) (K : Ex → St → Option R) (j : Nat) (vs : List V) : Option R := match vs with
  | [(.sl 8 xl7), (.int .i64 xi8), (.int .i64 xi9), (.sl 1 xl10), (.sl 1 xl11), (.sl 1 xl12), (.sl 7 xl13), (.sl 4 xl14)] => l39_0g G k (fun yl59 yl60 yl61 yl62 yl63 => K .normal (P39_0x.inst [(.sl 1 yl59), (.sl 1 yl60), (.sl 1 yl61), (.sl 7 yl62), (.sl 4 yl63)])) j xl7 xi8 xi9 xl10 xl11 xl12 xl13 xl14
  | _ => none
def L39 {R : Type} (G : ORC R) (k : Nat) : Nat → St → (Ex → St → Option R) → Option R
  | 0, S, K => P39_0h.mat S fun vs => rd39_0 G k K k vs
  | _, _, _ => none
def f39 {R : Type} (G : ORC R) (k : Nat) (al1 bl2 : List V) (bl3 bl4 : List V) (bl5 bl6 : List V) (K : List V → Option R) : Option R :=
  (l39_0 G k al1 ((List.length al1 : Nat) : Int) 0 bl2 bl3 bl4 bl5 bl6 (fun yl54 yl55 yl56 yl57 yl58 => (K [(.sl 4 yl58)])))
noncomputable def D39_0 : LoopD := { id := 0, body := loopAt 0 (bodyOf Try.f39), head := P39_0h, out := P39_0x, ret := default }
theorem l39_0_is {R : Type} (G : ORC R) (k : Nat) (X : List V → Option R) (K : Ex → St → Option R) (xl7 : List V) (xi8 xi9 : Int) (xl10 xl11 : List V) (xl12 xl13 xl14 : List V) :
    roundOf (TAB.env 39) G (L39 G k) D39_0 X K [(.sl 8 xl7), (.int .i64 xi8), (.int .i64 xi9), (.sl 1 xl10), (.sl 1 xl11), (.sl 1 xl12), (.sl 7 xl13), (.sl 4 xl14)] = b39_0 G k (fun xl7 xi8 xi9 xl10 xl11 xl12 xl13 xl14 => X [(.sl 8 xl7), (.int .i64 xi8), (.int .i64 xi9), (.sl 1 xl10), (.sl 1 xl11), (.sl 1 xl12), (.sl 7 xl13), (.sl 4 xl14)]) (fun yl59 yl60 yl61 yl62 yl63 => K .normal (P39_0x.inst [(.sl 1 yl59), (.sl 1 yl60), (.sl 1 yl61), (.sl 7 yl62), (.sl 4 yl63)])) xl7 xi8 xi9 xl10 xl11 xl12 xl13 xl14 := by kernel_rfl
theorem f39_is {R : Type} (G : ORC R) (k : Nat) (K : List V → Option R) (al1 bl2 : List V) (bl3 bl4 : List V) (bl5 bl6 : List V) :
    callF (TAB.env 39) G (L39 G k) Try.f39 S39 [(.sl 8 al1), (.sl 1 bl2), (.sl 1 bl3), (.sl 1 bl4), (.sl 7 bl5), (.sl 4 bl6)] K = f39 G k al1 bl2 bl3 bl4 bl5 bl6 K := by kernel_rfl
theorem li39_0 {R : Type} (G : ORC R) (k : Nat) : LoopIs (TAB.env 39) G (L39 G k) 0 (loopAt 0 (bodyOf Try.f39)) :=
  ⟨D39_0, fun j vs K => rd39_0 G k K j vs, k, rfl, rfl, by kernel_rfl, by kernel_rfl, by kernel_rfl, (fun vs K => by unfold rd39_0; dsimp only; split <;> rfl),
    (fun j vs K r h => by
      unfold rd39_0 at h
      dsimp only at h
      split at h
      · rw [l39_0_is]; exact h
      · cases h), (fun S K r h => h)⟩
theorem lo39 : loopsOf (bodyOf Try.f39) = [(0, loopAt 0 (bodyOf Try.f39))] := by kernel_rfl
theorem la39 {R : Type} (G : ORC R) (k : Nat) : LoopsAre (TAB.env 39) G (L39 G k) (bodyOf Try.f39) :=
  loopsAre_of (by rw [lo39]; intro p hp; simp only [List.mem_cons, List.not_mem_nil, or_false] at hp; subst hp; exact li39_0 G k)
def g39 {R : Type} (G : ORC R) (k : Nat) (args : List V) (K : List V → Option R) : Option R := match args with
  | [(.sl 8 al1), (.sl 1 bl2), (.sl 1 bl3), (.sl 1 bl4), (.sl 7 bl5), (.sl 4 bl6)] => f39 G k al1 bl2 bl3 bl4 bl5 bl6 K
  | _ => none
theorem s39 {R : Type} {G : ORC R} {k : Nat} (hG : Sound Try.prog TAB G) (args : List V) (K : List V → Option R) (r : R) (h : g39 G k args K = some r) : ∃ o, CallOK Try.prog TAB.env 39 args o ∧ K o = some r := by
  unfold g39 at h
  split at h
  · rw [← f39_is] at h
    exact callF_sound (f := 39) TAB_chk MO hG Try.func39 (sg := S39) (by kernel_rfl) (by kernel_rfl) (la39 G k) h
  · cases h
end Go.Proofs.Ytdfjodnkplbffaa.Vm
open Go Go.VM
set_option linter.unusedVariables false
set_option maxRecDepth 100000
set_option maxHeartbeats 4000000
namespace Go.Proofs.Ytdfjodnkplbffaa.Vm
/-! ### cotillion/code.Block: function 18 -/
def L18 {R : Type} (_ : ORC R) (_ : Nat) : Nat → St → (Ex → St → Option R) → Option R := fun _ _ _ => none
def f18 {R : Type} (G : ORC R) (k : Nat) (al1 al2 : List V) (al3 al4 al5 : List V) (K : List V → Option R) : Option R :=
  (G 39 [(.sl 8 al1), (.sl 1 al2), (.sl 1 al3), (.sl 1 al4), (.sl 7 al5), (.sl 4 [])] fun o6 => (uL 4 o6 fun l8 r7 => (unNil r7 (K [(.sl 4 l8)]))))
theorem f18_is {R : Type} (G : ORC R) (k : Nat) (K : List V → Option R) (al1 al2 : List V) (al3 al4 al5 : List V) :
    callF (TAB.env 18) G (L18 G k) Try.f18 S18 [(.sl 8 al1), (.agg [(.sl 1 al2), (.sl 1 al3), (.sl 1 al4), (.sl 7 al5)])] K = f18 G k al1 al2 al3 al4 al5 K := by kernel_rfl
theorem lo18 : loopsOf (bodyOf Try.f18) = [] := by kernel_rfl
theorem la18 {R : Type} (G : ORC R) (k : Nat) : LoopsAre (TAB.env 18) G (L18 G k) (bodyOf Try.f18) :=
  loopsAre_of (by rw [lo18]; intro p hp; cases hp)
def g18 {R : Type} (G : ORC R) (k : Nat) (args : List V) (K : List V → Option R) : Option R := match args with
  | [(.sl 8 al1), (.agg [(.sl 1 al2), (.sl 1 al3), (.sl 1 al4), (.sl 7 al5)])] => f18 G k al1 al2 al3 al4 al5 K
  | _ => none
theorem s18 {R : Type} {G : ORC R} {k : Nat} (hG : Sound Try.prog TAB G) (args : List V) (K : List V → Option R) (r : R) (h : g18 G k args K = some r) : ∃ o, CallOK Try.prog TAB.env 18 args o ∧ K o = some r := by
  unfold g18 at h
  split at h
  · rw [← f18_is] at h
    exact callF_sound (f := 18) TAB_chk MO hG Try.func18 (sg := S18) (by kernel_rfl) (by kernel_rfl) (la18 G k) h
  · cases h
end Go.Proofs.Ytdfjodnkplbffaa.Vm
open Go Go.VM
set_option linter.unusedVariables false
set_option linter.unusedSimpArgs false
set_option maxRecDepth 100000
set_option maxHeartbeats 8000000
namespace Go.Proofs.Ytdfjodnkplbffaa.Vm
section
variable {R : Type} {G : ORC R} {k : Nat} {K : List V → Option R}
def actV (kind : Int) (nm ev : ByteArray) (x : List V) (n : Int) (th el : List V) : V := .agg [.int .i64 kind, .str nm, .str ev, .sl 5 x, .int .i64 n, .sl 8 th, .sl 8 el, .int .i64 0]
def CNum (G : ORC R) : Prop := ∀ (c : List V) (kind : Int) (nm ev : ByteArray) (x : List V) (n : Int) (th el : List V) (N : Nms) (K : List V → Option R), x.length ≤ 1 → (∀ e ∈ x, ExprS 3 e) → N.ok → c.length + ce 3 ≤ 1000000 →
  W (fun o => o = [.sl 4 (c ++ cX N c.length x)]) K (G 85 (actV kind nm ev x n th el :: wr N c) K)
theorem cnum_ok (hk : 1000 ≤ k) (hE : CX 3 G) (hP : PushX G) : CNum (fun _ args (K : List V → Option R) => g85 G k args K) := by
  intro c kind nm ev x n th el N K hx1 hx hN hm
  show W _ K (f85 G k kind nm ev x n th el 0 N.a N.p N.t (N.nd.map Nd.v) c K)
  unfold f85 l85_0
  unfold CX at hE; unfold PushX at hP
  obtain ⟨k2, rfl⟩ : ∃ k2, k = k2 + 2 := ⟨k - 2, by omega⟩
  match x, hx1 with
  | [], _ =>
    show W _ _ (b85_0 G (k2 + 2) _ _ _ _ _ _ _ _ _ _ _ _ _ _ _ _ _ _)
    unfold b85_0
    refine W_no (by simp) ?_
    refine W_eqY rfl ?_
    refine W_call (hP 0 N c _ (by omega)) ?_
    rintro _ rfl
    exact W_uL (W_unNil (W_ret rfl))
  | [e], _ =>
    have he := hx e (by simp)
    have he' := he
    obtain ⟨_, _, _, _, rfl, _⟩ := he
    show W _ _ (b85_0 G (k2 + 2) _ _ _ _ _ _ _ _ _ _ _ _ _ _ _ _ _ _)
    unfold b85_0
    refine W_yes (by simp) (W_at (v := V.agg _) (by omega) rfl ?_)
    (repeat (with_reducible (first | (refine W_uI ?_) | (refine W_uS ?_) | (refine W_uL ?_) | (refine W_uA ?_) | (refine W_uB ?_) | (refine W_aI ?_) | (refine W_aL ?_) | (refine W_ca3 ?_) | (refine W_ce3 ?_) | (refine W_ca4 ?_) | (refine W_ce4 ?_) | (refine W_ca5 ?_) | (refine W_ce5 ?_) | (refine W_ca6 ?_) | (refine W_ce6 ?_) | (refine W_ca7 ?_) | (refine W_ce7 ?_) | (refine W_ca8 ?_) | (refine W_ce8 ?_) | (refine W_nd7 ?_) | (refine W_unCons ?_) | (refine W_unNil ?_) | (refine W_asInt ?_) | (refine W_asBool ?_) | (refine W_asStr ?_) | (refine W_asSl ?_) | (refine W_asAgg ?_) | (refine W_kd ?_) | (refine W_z ?_))))
    refine W_call (hE c _ N _ he' hN hm) ?_
    rintro _ rfl
    refine W_uL (W_unNil ?_)
    rw [wrap_id (n := (0 : Int) + 1) (by omega)]
    show W _ _ (b85_0 G (k2 + 2) _ _ _ _ _ _ _ _ _ _ _ _ _ _ _ _ _ _)
    unfold b85_0
    refine W_no (by simp) ?_
    exact W_eqN (by simp) (W_ret rfl)
def CAct (d : Nat) (G : ORC R) : Prop := ∀ (c : List V) (kind : Int) (nm ev : ByteArray) (x : List V) (n : Int) (th el : List V) (N : Nms) (K : List V → Option R), 1 ≤ kind → kind ≤ 5 → x.length ≤ 1 → (∀ e ∈ x, ExprS 3 e) → N.ok → c.length + ca (d + 1) ≤ 1000000 →
  W (fun o => o = [.sl 4 (c ++ cA N (d + 1) c.length (actV kind nm ev x n th el))]) K (G 53 (actV kind nm ev x n th el :: wr N c) K)
theorem cact_ok {d : Nat} (hN' : CNum G) (hI : PlX 57 G) (hP : PutX G) : CAct d (fun _ args (K : List V → Option R) => g53 G k args K) := by
  intro c kind nm ev x n th el N K hk1 hk2 hx1 hx hN hm
  show W _ K (f53 G k kind nm ev x n th el 0 N.a N.p N.t (N.nd.map Nd.v) c K)
  unfold f53
  have hca : ca (d + 1) = ce 3 + 2 + 4 * ca d := rfl
  have lx := cX_len (N := N) (at_ := c.length) hx
  unfold CNum at hN'; unfold PlX at hI; unfold PutX at hP
  refine W_bool (fun h => ?_) (fun h => ?_)
  · have h5 : kind ≠ 5 := by simpa using h
    refine W_call (hN' c kind nm ev x n th el N _ hx1 hx hN (by omega)) ?_
    rintro _ rfl
    refine W_uL (W_unNil ?_)
    refine W_beqI (fun h => ?_) (fun h1 => ?_)
    · refine W_call (hI _ _ _ hN.1) ?_
      rintro _ rfl
      refine W_uI (W_unNil ?_)
      refine W_call (hP 18 _ 0 ⟨#[]⟩ N _ _ (by (first | (simp only [List.length_append, List.length_cons, List.length_nil]; done) | (simp only [List.length_append, List.length_cons, List.length_nil]; omega)))) ?_
      rintro _ rfl
      refine W_uI (W_uL (W_unNil (W_ret ?_)))
      conv => rhs; unfold actV cA
      rw [if_pos h, List.append_assoc]; rfl
    refine W_beqI (fun h => ?_) (fun h2 => ?_)
    · refine W_call (hP 19 0 0 ev N _ _ (by (first | (simp only [List.length_append, List.length_cons, List.length_nil]; done) | (simp only [List.length_append, List.length_cons, List.length_nil]; omega)))) ?_
      rintro _ rfl
      refine W_uI (W_uL (W_unNil (W_ret ?_)))
      conv => rhs; unfold actV cA
      rw [if_neg h1, if_pos h, List.append_assoc]
    refine W_beqI (fun h => ?_) (fun h3 => ?_)
    · refine W_call (hI _ _ _ hN.2.1) ?_
      rintro _ rfl
      refine W_uI (W_unNil ?_)
      refine W_call (hP 20 _ 0 ev N _ _ (by (first | (simp only [List.length_append, List.length_cons, List.length_nil]; done) | (simp only [List.length_append, List.length_cons, List.length_nil]; omega)))) ?_
      rintro _ rfl
      refine W_uI (W_uL (W_unNil (W_ret ?_)))
      conv => rhs; unfold actV cA
      rw [if_neg h1, if_neg h2, if_pos h, List.append_assoc]
    have h4 : kind = 4 := by omega
    refine W_eqY h4 ?_
    refine W_call (hI _ _ _ hN.2.2.1) ?_
    rintro _ rfl
    refine W_uI (W_unNil ?_)
    refine W_call (hP 21 _ 0 ⟨#[]⟩ N _ _ (by (first | (simp only [List.length_append, List.length_cons, List.length_nil]; done) | (simp only [List.length_append, List.length_cons, List.length_nil]; omega)))) ?_
    rintro _ rfl
    refine W_uI (W_uL (W_unNil (W_ret ?_)))
    conv => rhs; unfold actV cA
    rw [if_neg h1, if_neg h2, if_neg h3, if_pos h4, List.append_assoc]; rfl
  · have h5 : kind = 5 := by simpa using h
    refine W_eqN (by omega) (W_eqN (by omega) (W_eqN (by omega) (W_eqN (by omega) (W_eqY h5 ?_))))
    refine W_call (hI _ _ _ hN.2.2.1) ?_
    rintro _ rfl
    refine W_uI (W_unNil ?_)
    refine W_call (hP 22 _ 0 ⟨#[]⟩ N _ _ (by omega)) ?_
    rintro _ rfl
    refine W_uI (W_uL (W_unNil (W_ret ?_)))
    conv => rhs; unfold actV cA
    rw [if_neg (by omega), if_neg (by omega), if_neg (by omega), if_neg (by omega), if_pos h5]; rfl
def CBlk (d : Nat) (G : ORC R) : Prop := ∀ (c l : List V) (N : Nms) (K : List V → Option R), BlockS d l → N.ok → c.length + 2 * ca d ≤ 1000000 → W (fun o => o = [.sl 4 (c ++ cR (cA N d) c.length l)]) K (G 39 (.sl 8 l :: wr N c) K)
def CLoop (d : Nat) (G : ORC R) : Prop := ∀ (c : List V) (nm ev : ByteArray) (x : List V) (n : Int) (th el : List V) (N : Nms) (K : List V → Option R), BlockS d th → N.ok → c.length + ca (d + 1) ≤ 1000000 →
  W (fun o => o = [.sl 4 (c ++ cA N (d + 1) c.length (actV 7 nm ev x n th el))]) K (G 51 (actV 7 nm ev x n th el :: wr N c) K)
theorem cloop_ok {d : Nat} (hP : PutX G) (hH : HereX G) (hB : CBlk d G) : CLoop d (fun _ args (K : List V → Option R) => g51 G k args K) := by
  intro c nm ev x n th el N K hth hN hm
  show W _ K (f51 G k 7 nm ev x n th el 0 N.a N.p N.t (N.nd.map Nd.v) c K)
  unfold f51
  have hca : ca (d + 1) = ce 3 + 2 + 4 * ca d := rfl
  have lt := cBl_len (N := N) (at_ := c.length + 1) hth
  unfold PutX at hP; unfold HereX at hH; unfold CBlk at hB
  refine W_call (hP 25 0 n ⟨#[]⟩ N c _ (by omega)) ?_
  rintro _ rfl
  refine W_uI (W_uL (W_unNil ?_))
  have hl : ∀ z : V, (c ++ [z]).length = c.length + 1 := fun z => by simp
  refine W_call (hB _ th N _ hth hN (by rw [hl]; omega)) ?_
  rintro _ rfl
  rw [hl]
  have hcA : cA N (d + 1) c.length (actV 7 nm ev x n th el) = loopX c.length n (cR (cA N d) (c.length + 1) th) := by
    unfold actV cA
    rw [if_neg (by omega), if_neg (by omega), if_neg (by omega), if_neg (by omega), if_neg (by omega), if_pos rfl]
  rw [hcA]
  generalize cR (cA N d) (c.length + 1) th = B at lt ⊢
  refine W_uL (W_unNil ?_)
  refine W_call (hP 26 c.length 0 ⟨#[]⟩ N _ _ (by (first | (simp only [List.length_append, List.length_cons, List.length_nil]; done) | (simp only [List.length_append, List.length_cons, List.length_nil]; omega)))) ?_
  rintro _ rfl
  refine W_uI (W_uL (W_unNil ?_))
  have e1 : ∀ z w : V, c ++ [z] ++ B ++ [w] = c ++ z :: (B ++ [w]) := fun z w => by simp
  rw [e1]
  refine W_call (hH c _ 25 0 n ⟨#[]⟩ _ N _ rfl) ?_
  rintro _ rfl
  refine W_uL (W_unNil (W_ret ?_))
  have e2 : ∀ w : V, c.length + 1 + (B ++ [w]).length = c.length + B.length + 2 := fun w => by simp; omega
  rw [e2]; rfl
def CIf (d : Nat) (G : ORC R) : Prop := ∀ (c : List V) (nm ev : ByteArray) (x : List V) (n : Int) (th el : List V) (N : Nms) (K : List V → Option R), x.length = 1 → (∀ e ∈ x, ExprS 3 e) → BlockS d th → BlockS d el → N.ok → c.length + ca (d + 1) ≤ 1000000 →
  W (fun o => o = [.sl 4 (c ++ cA N (d + 1) c.length (actV 6 nm ev x n th el))]) K (G 52 (actV 6 nm ev x n th el :: wr N c) K)
theorem cif_ok {d : Nat} (hN' : CNum G) (hP : PutX G) (hH : HereX G) (hB : CBlk d G) : CIf d (fun _ args (K : List V → Option R) => g52 G k args K) := by
  intro c nm ev x n th el N K hx1 hx hth hel hN hm
  show W _ K (f52 G k 6 nm ev x n th el 0 N.a N.p N.t (N.nd.map Nd.v) c K)
  unfold f52
  have hca : ca (d + 1) = ce 3 + 2 + 4 * ca d := rfl
  have lx := cX_len (N := N) (at_ := c.length) hx
  have lt := fun q => cBl_len (N := N) (at_ := q) hth
  have le := fun q => cBl_len (N := N) (at_ := q) hel
  unfold CNum at hN'; unfold PutX at hP; unfold HereX at hH; unfold CBlk at hB
  have hcA : cA N (d + 1) c.length (actV 6 nm ev x n th el) = chX (cA N d) c.length (cX N c.length x) th el := by
    unfold actV
    conv => lhs; unfold cA
    rw [if_neg (by omega), if_neg (by omega), if_neg (by omega), if_neg (by omega), if_neg (by omega), if_neg (by omega)]
  rw [hcA]
  refine W_call (hN' c 6 nm ev x n th el N _ (by omega) hx hN (by omega)) ?_
  rintro _ rfl
  generalize cX N c.length x = E at lx ⊢
  refine W_uL (W_unNil ?_)
  refine W_call (hP 24 0 0 ⟨#[]⟩ N _ _ (by (first | (simp only [List.length_append, List.length_cons, List.length_nil]; done) | (simp only [List.length_append, List.length_cons, List.length_nil]; omega)))) ?_
  rintro _ rfl
  refine W_uI (W_uL (W_unNil ?_))
  have hl : ∀ z : V, (c ++ E ++ [z]).length = c.length + E.length + 1 := fun z => by simp; omega
  refine W_call (hB _ th N _ hth hN (by rw [hl]; omega)) ?_
  rintro _ rfl
  rw [hl]
  have lt := lt (c.length + E.length + 1)
  generalize hBe : cR (cA N d) (c.length + E.length + 1) th = B at lt ⊢
  refine W_uL (W_unNil ?_)
  cases el with
  | nil =>
    refine W_eqY rfl ?_
    have e1 : ∀ z : V, c ++ E ++ [z] ++ B = (c ++ E) ++ z :: B := fun z => by simp
    rw [e1]
    refine W_call (hH (c ++ E) _ 24 0 0 ⟨#[]⟩ _ N _ (by (first | (simp only [List.length_append, List.length_cons, List.length_nil]; done) | (simp only [List.length_append, List.length_cons, List.length_nil]; omega)))) ?_
    rintro _ rfl
    refine W_uL (W_unNil (W_ret ?_))
    rw [chX, hBe, ifX, List.append_assoc, List.length_append]; rfl
  | cons e0 r0 =>
    have le := le (c.length + E.length + 1 + B.length + 1)
    rw [chX, hBe]
    refine W_eqN (by rw [List.length_cons]; omega) ?_
    refine W_call (hP 23 0 0 ⟨#[]⟩ N _ _ (by (first | (simp only [List.length_append, List.length_cons, List.length_nil]; done) | (simp only [List.length_append, List.length_cons, List.length_nil]; omega)))) ?_
    rintro _ rfl
    refine W_uI (W_uL (W_unNil ?_))
    have e1 : ∀ z w : V, c ++ E ++ [z] ++ B ++ [w] = (c ++ E) ++ z :: (B ++ [w]) := fun z w => by simp
    rw [e1]
    refine W_call (hH (c ++ E) _ 24 0 0 ⟨#[]⟩ _ N _ (by (first | (simp only [List.length_append, List.length_cons, List.length_nil]; done) | (simp only [List.length_append, List.length_cons, List.length_nil]; omega)))) ?_
    rintro _ rfl
    refine W_uL (W_unNil ?_)
    have e2 : ∀ z w : V, ((c ++ E) ++ z :: (B ++ [w])).length = c.length + E.length + 1 + B.length + 1 := fun z w => by simp; omega
    refine W_call (hB _ (e0 :: r0) N _ hel hN (by rw [e2]; omega)) ?_
    rintro _ rfl
    rw [e2]
    generalize cR (cA N d) (c.length + E.length + 1 + B.length + 1) (e0 :: r0) = C at le ⊢
    refine W_uL (W_unNil ?_)
    have e3 : ∀ z w : V, (c ++ E) ++ z :: (B ++ [w]) ++ C = (c ++ E ++ z :: B) ++ w :: C := fun z w => by simp
    rw [e3]
    refine W_call (hH (c ++ E ++ _ :: B) _ 23 0 0 ⟨#[]⟩ _ N _ (by (first | (simp only [List.length_append, List.length_cons, List.length_nil]; done) | (simp only [List.length_append, List.length_cons, List.length_nil]; omega)))) ?_
    rintro _ rfl
    refine W_uL (W_unNil (W_ret ?_))
    have e4 : (c ++ E).length + 1 + (B ++ [insS 23 0 0 ⟨#[]⟩]).length = c.length + E.length + 1 + B.length + 1 := by simp; omega
    have e5 : ∀ z : V, (c ++ E ++ z :: B).length + 1 + C.length = c.length + E.length + 1 + B.length + 1 + C.length := fun z => by simp; omega
    rw [e4, e5, elX]
    simp [ins, insS]
theorem cblk_loop {d : Nat} (hA : ∀ d', d = d' + 1 → CAct d' G) (hL : ∀ d', d = d' + 1 → CLoop d' G) (hC : ∀ d', d = d' + 1 → CIf d' G) {Q : List V → Prop} {K : List V → Option R} {Ko : List V → List V → List V → List V → List V → Option R} {N : Nms} {l : List V} (hN : N.ok) (hl : BlockS d l) {out : List V} (hKo : W Q K (Ko N.a N.p N.t (N.nd.map Nd.v) out)) :
    ∀ (B A : List V) (j : Nat) (c : List V), l = A ++ B → B.length < j → out = c ++ cR (cA N d) c.length B → c.length + B.length * ca d ≤ 1000000 → W Q K (l39_0g G k Ko j l l.length A.length N.a N.p N.t (N.nd.map Nd.v) c)
  | B, A, 0, c, h1, h2, h3, h4 => by omega
  | [], A, j + 1, c, h1, h2, h3, h4 => by
    show W Q K (b39_0 G k (l39_0g G k Ko j) Ko l l.length A.length N.a N.p N.t (N.nd.map Nd.v) c)
    unfold b39_0
    rw [List.append_nil] at h1
    subst h1
    refine W_no (by omega) ?_
    rw [h3] at hKo
    simpa [cR] using hKo
  | b :: B, A, j + 1, c, h1, h2, h3, h4 => by
    show W Q K (b39_0 G k (l39_0g G k Ko j) Ko l l.length A.length N.a N.p N.t (N.nd.map Nd.v) c)
    unfold b39_0
    have hb := hl.2 b (by rw [h1]; simp)
    have lb := cA_len (N := N) (at_ := c.length) hb
    have hlen : l.length = A.length + (B.length + 1) := by rw [h1]; simp
    have h2l := hl.1
    have hget : l[((A.length : Nat) : Int).toNat]? = some b := by rw [Int.toNat_natCast, h1]; simp
    cases d with
    | zero => exact hb.elim
    | succ d =>
    have hA' := hA d rfl
    have hL' := hL d rfl
    have hC' := hC d rfl
    unfold CAct at hA'; unfold CLoop at hL'; unfold CIf at hC'
    obtain ⟨kind, nm, ev, x, n, th, el, rfl, x1, x2, x3, x4, x5, x6, x7, x8, x9, x10, x11, x12⟩ := hb
    rw [List.length_cons, Nat.succ_mul] at h4
    have step : W Q K (l39_0g G k Ko j l l.length (IntKind.i64.wrap ((A.length : Int) + 1)) N.a N.p N.t (N.nd.map Nd.v) (c ++ cA N (d + 1) c.length (actV kind nm ev x n th el))) := by
      rw [wrap_id (n := (A.length : Int) + 1) (by omega)]
      have := cblk_loop hA hL hC hN hl hKo B (A ++ [actV kind nm ev x n th el]) j (c ++ cA N (d + 1) c.length (actV kind nm ev x n th el)) (by rw [h1]; simp [actV]) (by simp at h2; omega) (by rw [h3, cR, List.length_append, List.append_assoc]; rfl) (by rw [List.length_append]; unfold actV; omega)
      simpa using this
    refine W_yes (by omega) (W_at (by omega) hget ?_)
    (repeat (with_reducible (first | (refine W_uI ?_) | (refine W_uS ?_) | (refine W_uL ?_) | (refine W_uA ?_) | (refine W_uB ?_) | (refine W_aI ?_) | (refine W_aL ?_) | (refine W_ca3 ?_) | (refine W_ce3 ?_) | (refine W_ca4 ?_) | (refine W_ce4 ?_) | (refine W_ca5 ?_) | (refine W_ce5 ?_) | (refine W_ca6 ?_) | (refine W_ce6 ?_) | (refine W_ca7 ?_) | (refine W_ce7 ?_) | (refine W_ca8 ?_) | (refine W_ce8 ?_) | (refine W_nd7 ?_) | (refine W_unCons ?_) | (refine W_unNil ?_) | (refine W_asInt ?_) | (refine W_asBool ?_) | (refine W_asStr ?_) | (refine W_asSl ?_) | (refine W_asAgg ?_) | (refine W_kd ?_) | (refine W_z ?_))))
    refine W_beqI (fun h => ?_) (fun h7 => ?_)
    · subst h
      refine W_call (hL' c nm ev x n th el N _ ⟨x9, x11⟩ hN (by omega)) ?_
      rintro _ rfl
      exact W_uL (W_unNil step)
    refine W_beqI (fun h => ?_) (fun h6 => ?_)
    · subst h
      refine W_call (hC' c nm ev x n th el N _ (x8 rfl) x7 ⟨x9, x11⟩ ⟨x10, x12⟩ hN (by omega)) ?_
      rintro _ rfl
      exact W_uL (W_unNil step)
    refine W_call (hA' c kind nm ev x n th el N _ x4 (by omega) x6 x7 hN (by omega)) ?_
    rintro _ rfl
    exact W_uL (W_unNil step)
theorem cblk_ok {d : Nat} (hk : 1000 ≤ k) (hA : ∀ d', d = d' + 1 → CAct d' G) (hL : ∀ d', d = d' + 1 → CLoop d' G) (hC : ∀ d', d = d' + 1 → CIf d' G) : CBlk d (fun _ args (K : List V → Option R) => g39 G k args K) := by
  intro c l N K hl hN hm
  show W _ K (f39 G k l N.a N.p N.t (N.nd.map Nd.v) c K)
  unfold f39 l39_0
  have h2l := hl.1
  exact cblk_loop (Q := fun o => o = [.sl 4 (c ++ cR (cA N d) c.length l)]) (K := K) (Ko := fun _ _ _ _ yl => K [.sl 4 yl]) (out := c ++ cR (cA N d) c.length l) hA hL hC hN hl (W_ret rfl) l [] k c rfl (by omega) rfl (by have : l.length * ca d ≤ 2 * ca d := Nat.mul_le_mul_right _ hl.1; omega)
theorem cblx_ok {d : Nat} (hd : 2 * ca d ≤ 1000000) (hB : CBlk d G) : BlX 18 d (fun _ args (K : List V → Option R) => g18 G k args K) := by
  intro l N K hl hN
  show W _ K (f18 G k l N.a N.p N.t (N.nd.map Nd.v) K)
  unfold f18
  unfold CBlk at hB
  refine W_call (hB [] l N _ hl hN (by simpa using hd)) ?_
  rintro _ rfl
  exact W_uL (W_unNil (W_ret rfl))
end
end Go.Proofs.Ytdfjodnkplbffaa.Vm
open Go Go.VM
set_option linter.unusedVariables false
set_option maxRecDepth 100000
set_option maxHeartbeats 4000000
namespace Go.Proofs.Ytdfjodnkplbffaa.Vm
/-! ### cotillion/cotillionref37.Block: function 16 -/
def P16_0h : Pat := { tmps := unds [.stat (.one (.ptr 0 0) .pt), .undef, .var (.int .i64) .pr, .undef, .stat (.one (.ptr 5 0) .pt), .undef, .undef, .var (.sl 8) (.own true), .var (.int .i64) .pr] 148 [], boxes := nons [some [.var (.sl 1) .ro true, .var (.int .i64) .pr false], none, none, none, none, some [.var (.sl 1) .ro false, .var (.sl 1) .ro false, .var (.sl 1) .ro false, .var (.sl 1) .ro false]] 152 [] }
def P16_0x : Pat := { tmps := unds [] 7 (unds [.var (.sl 8) (.own true)] 149 []), boxes := nons [some [.var (.sl 1) .ro true, .var (.int .i64) .pr false]] 157 [] }
def b16_0 {R : Type} (G : ORC R) (k : Nat) (X : Int → List V → Int → List V → Int → List V → List V → List V → List V → Option R) (Ko : List V → List V → Int → Option R) (xi13 : Int) (xl14 : List V) (xi15 : Int) (xl16 : List V) (xi17 : Int) (xl18 xl19 : List V) (xl20 xl21 : List V) : Option R :=
  (bif (decide (xi15 > 0)) then (G 36 [(.int .i64 10), (.sl 1 xl16), (.int .i64 xi17)] fun o22 => (uI .i64 o22 fun n24 r23 => (uI .i64 r23 fun n26 r25 => (unNil r25 (G 23 [(.agg [(.sl 1 xl18), (.sl 1 xl19), (.sl 1 xl20), (.sl 1 xl21)]), (.int .i64 2), (.sl 1 xl16), (.int .i64 n26)] fun o27 => (uA o27 fun l29 r28 => (uI .i64 l29 fun n31 r30 => (uI .i64 r30 fun n33 r32 => (uS r32 fun s35 r34 => (uL 5 r34 fun l37 r36 => (uI .i64 r36 fun n39 r38 => (unNil r38 (uI .i64 r28 fun n41 r40 => (unNil r40 (bif (decide (n24 < 3)) then (bif (decide (((List.length xl18 : Nat) : Int) > 0)) then (G 37 [(.sl 1 xl18), (.str ⟨#[]⟩), (.sl 1 xl16), (.int .i64 n41)] fun o42 => (uS o42 fun s44 r43 => (uI .i64 r43 fun n46 r45 => (unNil r45 (bif (decide (List.length xl14 + 1 ≤ 1073741824)) then (X xi13 (xl14 ++ [(.agg [(.int .i64 1), (.str s44), (.str ⟨#[]⟩), (.sl 5 [(.agg [(.int .i64 n31), (.int .i64 n33), (.str s35), (.sl 5 l37), (.int .i64 n39)])]), (.int .i64 0), (.sl 8 []), (.sl 8 []), (.int .i64 0)])]) (IntKind.i64.wrap (xi15 - 1)) xl16 n46 xl18 xl19 xl20 xl21) else none))))) else (bif (n24 == 3) then (G 36 [(.int .i64 8), (.sl 1 xl16), (.int .i64 n41)] fun o47 => (uI .i64 o47 fun n49 r48 => (uI .i64 r48 fun n51 r50 => (unNil r50 (G 38 [(.int .i64 n49)] fun o52 => (uS o52 fun s54 r53 => (unNil r53 (G 36 [(.int .i64 2), (.sl 1 xl16), (.int .i64 n51)] fun o55 => (uI .i64 o55 fun n57 r56 => (uI .i64 r56 fun n59 r58 => (unNil r58 (bif ((decide (0 ≤ n57)) && (decide (n57 ≤ 1))) then (bif (decide (List.length xl14 + 1 ≤ 1073741824)) then (X xi13 (xl14 ++ [(.agg [(.int .i64 2), (.str ⟨#[]⟩), (.str s54), (.sl 5 (List.take (Int.toNat n57) [(.agg [(.int .i64 n31), (.int .i64 n33), (.str s35), (.sl 5 l37), (.int .i64 n39)])])), (.int .i64 0), (.sl 8 []), (.sl 8 []), (.int .i64 0)])]) (IntKind.i64.wrap (xi15 - 1)) xl16 n59 xl18 xl19 xl20 xl21) else none) else none)))))))))))) else (bif (decide (n24 < 7)) then (bif (decide (((List.length xl19 : Nat) : Int) > 0)) then (G 37 [(.sl 1 xl19), (.str ⟨#[]⟩), (.sl 1 xl16), (.int .i64 n41)] fun o60 => (uS o60 fun s62 r61 => (uI .i64 r61 fun n64 r63 => (unNil r63 (G 36 [(.int .i64 3), (.sl 1 xl16), (.int .i64 n64)] fun o65 => (uI .i64 o65 fun n67 r66 => (uI .i64 r66 fun n69 r68 => (unNil r68 (G 38 [(.int .i64 n67)] fun o70 => (uS o70 fun s72 r71 => (unNil r71 (G 36 [(.int .i64 2), (.sl 1 xl16), (.int .i64 n69)] fun o73 => (uI .i64 o73 fun n75 r74 => (uI .i64 r74 fun n77 r76 => (unNil r76 (bif ((decide (0 ≤ n75)) && (decide (n75 ≤ 1))) then (bif (decide (List.length xl14 + 1 ≤ 1073741824)) then (X xi13 (xl14 ++ [(.agg [(.int .i64 3), (.str s62), (.str s72), (.sl 5 (List.take (Int.toNat n75) [(.agg [(.int .i64 n31), (.int .i64 n33), (.str s35), (.sl 5 l37), (.int .i64 n39)])])), (.int .i64 0), (.sl 8 []), (.sl 8 []), (.int .i64 0)])]) (IntKind.i64.wrap (xi15 - 1)) xl16 n77 xl18 xl19 xl20 xl21) else none) else none)))))))))))))))) else (bif (n24 == 7) then (bif (decide (((List.length xl20 : Nat) : Int) > 0)) then (G 37 [(.sl 1 xl20), (.str ⟨#[]⟩), (.sl 1 xl16), (.int .i64 n41)] fun o78 => (uS o78 fun s80 r79 => (uI .i64 r79 fun n82 r81 => (unNil r81 (G 36 [(.int .i64 3), (.sl 1 xl16), (.int .i64 n82)] fun o83 => (uI .i64 o83 fun n85 r84 => (uI .i64 r84 fun n87 r86 => (unNil r86 (bif (decide (List.length xl14 + 1 ≤ 1073741824)) then (X xi13 (xl14 ++ [(.agg [(.int .i64 4), (.str s80), (.str ⟨#[]⟩), (.sl 5 [(.agg [(.int .i64 1), (.int .i64 (IntKind.i64.wrap (1 + n85))), (.str ⟨#[]⟩), (.sl 5 []), (.int .i64 0)])]), (.int .i64 0), (.sl 8 []), (.sl 8 []), (.int .i64 0)])]) (IntKind.i64.wrap (xi15 - 1)) xl16 n87 xl18 xl19 xl20 xl21) else none))))))))) else (bif (n24 == 8) then (bif (decide (((List.length xl20 : Nat) : Int) > 0)) then (G 37 [(.sl 1 xl20), (.str ⟨#[]⟩), (.sl 1 xl16), (.int .i64 n41)] fun o88 => (uS o88 fun s90 r89 => (uI .i64 r89 fun n92 r91 => (unNil r91 (bif (decide (List.length xl14 + 1 ≤ 1073741824)) then (X xi13 (xl14 ++ [(.agg [(.int .i64 5), (.str s90), (.str ⟨#[]⟩), (.sl 5 []), (.int .i64 0), (.sl 8 []), (.sl 8 []), (.int .i64 0)])]) (IntKind.i64.wrap (xi15 - 1)) xl16 n92 xl18 xl19 xl20 xl21) else none))))) else (bif (decide (xi13 > 0)) then (bif ((Int.tmod n24 2) == 0) then (G 16 [(.agg [(.sl 1 xl18), (.sl 1 xl19), (.sl 1 xl20), (.sl 1 xl21)]), (.int .i64 (IntKind.i64.wrap (xi13 - 1))), (.sl 1 xl16), (.int .i64 n41)] fun o93 => (uL 8 o93 fun l95 r94 => (uI .i64 r94 fun n97 r96 => (unNil r96 (G 16 [(.agg [(.sl 1 xl18), (.sl 1 xl19), (.sl 1 xl20), (.sl 1 xl21)]), (.int .i64 (IntKind.i64.wrap (xi13 - 1))), (.sl 1 xl16), (.int .i64 n97)] fun o98 => (uL 8 o98 fun l100 r99 => (uI .i64 r99 fun n102 r101 => (unNil r101 (bif (decide (List.length xl14 + 1 ≤ 1073741824)) then (X xi13 (xl14 ++ [(.agg [(.int .i64 6), (.str ⟨#[]⟩), (.str ⟨#[]⟩), (.sl 5 [(.agg [(.int .i64 n31), (.int .i64 n33), (.str s35), (.sl 5 l37), (.int .i64 n39)])]), (.int .i64 0), (.sl 8 l95), (.sl 8 l100), (.int .i64 0)])]) (IntKind.i64.wrap (xi15 - 1)) xl16 n102 xl18 xl19 xl20 xl21) else none))))))))) else (bif (decide (xi13 > 0)) then (G 36 [(.int .i64 4), (.sl 1 xl16), (.int .i64 n41)] fun o103 => (uI .i64 o103 fun n105 r104 => (uI .i64 r104 fun n107 r106 => (unNil r106 (G 16 [(.agg [(.sl 1 xl18), (.sl 1 xl19), (.sl 1 xl20), (.sl 1 xl21)]), (.int .i64 (IntKind.i64.wrap (xi13 - 1))), (.sl 1 xl16), (.int .i64 n107)] fun o108 => (uL 8 o108 fun l110 r109 => (uI .i64 r109 fun n112 r111 => (unNil r111 (bif (decide (List.length xl14 + 1 ≤ 1073741824)) then (X xi13 (xl14 ++ [(.agg [(.int .i64 7), (.str ⟨#[]⟩), (.str ⟨#[]⟩), (.sl 5 []), (.int .i64 (IntKind.i64.wrap (1 + n105))), (.sl 8 l110), (.sl 8 []), (.int .i64 0)])]) (IntKind.i64.wrap (xi15 - 1)) xl16 n112 xl18 xl19 xl20 xl21) else none))))))))) else (X xi13 xl14 (IntKind.i64.wrap (xi15 - 1)) xl16 n41 xl18 xl19 xl20 xl21))) else (bif (decide (xi13 > 0)) then (G 36 [(.int .i64 4), (.sl 1 xl16), (.int .i64 n41)] fun o113 => (uI .i64 o113 fun n115 r114 => (uI .i64 r114 fun n117 r116 => (unNil r116 (G 16 [(.agg [(.sl 1 xl18), (.sl 1 xl19), (.sl 1 xl20), (.sl 1 xl21)]), (.int .i64 (IntKind.i64.wrap (xi13 - 1))), (.sl 1 xl16), (.int .i64 n117)] fun o118 => (uL 8 o118 fun l120 r119 => (uI .i64 r119 fun n122 r121 => (unNil r121 (bif (decide (List.length xl14 + 1 ≤ 1073741824)) then (X xi13 (xl14 ++ [(.agg [(.int .i64 7), (.str ⟨#[]⟩), (.str ⟨#[]⟩), (.sl 5 []), (.int .i64 (IntKind.i64.wrap (1 + n115))), (.sl 8 l120), (.sl 8 []), (.int .i64 0)])]) (IntKind.i64.wrap (xi15 - 1)) xl16 n122 xl18 xl19 xl20 xl21) else none))))))))) else (X xi13 xl14 (IntKind.i64.wrap (xi15 - 1)) xl16 n41 xl18 xl19 xl20 xl21)))) else (bif (decide (xi13 > 0)) then (bif ((Int.tmod n24 2) == 0) then (G 16 [(.agg [(.sl 1 xl18), (.sl 1 xl19), (.sl 1 xl20), (.sl 1 xl21)]), (.int .i64 (IntKind.i64.wrap (xi13 - 1))), (.sl 1 xl16), (.int .i64 n41)] fun o123 => (uL 8 o123 fun l125 r124 => (uI .i64 r124 fun n127 r126 => (unNil r126 (G 16 [(.agg [(.sl 1 xl18), (.sl 1 xl19), (.sl 1 xl20), (.sl 1 xl21)]), (.int .i64 (IntKind.i64.wrap (xi13 - 1))), (.sl 1 xl16), (.int .i64 n127)] fun o128 => (uL 8 o128 fun l130 r129 => (uI .i64 r129 fun n132 r131 => (unNil r131 (bif (decide (List.length xl14 + 1 ≤ 1073741824)) then (X xi13 (xl14 ++ [(.agg [(.int .i64 6), (.str ⟨#[]⟩), (.str ⟨#[]⟩), (.sl 5 [(.agg [(.int .i64 n31), (.int .i64 n33), (.str s35), (.sl 5 l37), (.int .i64 n39)])]), (.int .i64 0), (.sl 8 l125), (.sl 8 l130), (.int .i64 0)])]) (IntKind.i64.wrap (xi15 - 1)) xl16 n132 xl18 xl19 xl20 xl21) else none))))))))) else (bif (decide (xi13 > 0)) then (G 36 [(.int .i64 4), (.sl 1 xl16), (.int .i64 n41)] fun o133 => (uI .i64 o133 fun n135 r134 => (uI .i64 r134 fun n137 r136 => (unNil r136 (G 16 [(.agg [(.sl 1 xl18), (.sl 1 xl19), (.sl 1 xl20), (.sl 1 xl21)]), (.int .i64 (IntKind.i64.wrap (xi13 - 1))), (.sl 1 xl16), (.int .i64 n137)] fun o138 => (uL 8 o138 fun l140 r139 => (uI .i64 r139 fun n142 r141 => (unNil r141 (bif (decide (List.length xl14 + 1 ≤ 1073741824)) then (X xi13 (xl14 ++ [(.agg [(.int .i64 7), (.str ⟨#[]⟩), (.str ⟨#[]⟩), (.sl 5 []), (.int .i64 (IntKind.i64.wrap (1 + n135))), (.sl 8 l140), (.sl 8 []), (.int .i64 0)])]) (IntKind.i64.wrap (xi15 - 1)) xl16 n142 xl18 xl19 xl20 xl21) else none))))))))) else (X xi13 xl14 (IntKind.i64.wrap (xi15 - 1)) xl16 n41 xl18 xl19 xl20 xl21))) else (bif (decide (xi13 > 0)) then (G 36 [(.int .i64 4), (.sl 1 xl16), (.int .i64 n41)] fun o143 => (uI .i64 o143 fun n145 r144 => (uI .i64 r144 fun n147 r146 => (unNil r146 (G 16 [(.agg [(.sl 1 xl18), (.sl 1 xl19), (.sl 1 xl20), (.sl 1 xl21)]), (.int .i64 (IntKind.i64.wrap (xi13 - 1))), (.sl 1 xl16), (.int .i64 n147)] fun o148 => (uL 8 o148 fun l150 r149 => (uI .i64 r149 fun n152 r151 => (unNil r151 (bif (decide (List.length xl14 + 1 ≤ 1073741824)) then (X xi13 (xl14 ++ [(.agg [(.int .i64 7), (.str ⟨#[]⟩), (.str ⟨#[]⟩), (.sl 5 []), (.int .i64 (IntKind.i64.wrap (1 + n145))), (.sl 8 l150), (.sl 8 []), (.int .i64 0)])]) (IntKind.i64.wrap (xi15 - 1)) xl16 n152 xl18 xl19 xl20 xl21) else none))))))))) else (X xi13 xl14 (IntKind.i64.wrap (xi15 - 1)) xl16 n41 xl18 xl19 xl20 xl21))))) else (bif (n24 == 8) then (bif (decide (((List.length xl20 : Nat) : Int) > 0)) then (G 37 [(.sl 1 xl20), (.str ⟨#[]⟩), (.sl 1 xl16), (.int .i64 n41)] fun o153 => (uS o153 fun s155 r154 => (uI .i64 r154 fun n157 r156 => (unNil r156 (bif (decide (List.length xl14 + 1 ≤ 1073741824)) then (X xi13 (xl14 ++ [(.agg [(.int .i64 5), (.str s155), (.str ⟨#[]⟩), (.sl 5 []), (.int .i64 0), (.sl 8 []), (.sl 8 []), (.int .i64 0)])]) (IntKind.i64.wrap (xi15 - 1)) xl16 n157 xl18 xl19 xl20 xl21) else none))))) else (bif (decide (xi13 > 0)) then (bif ((Int.tmod n24 2) == 0) then (G 16 [(.agg [(.sl 1 xl18), (.sl 1 xl19), (.sl 1 xl20), (.sl 1 xl21)]), (.int .i64 (IntKind.i64.wrap (xi13 - 1))), (.sl 1 xl16), (.int .i64 n41)] fun o158 => (uL 8 o158 fun l160 r159 => (uI .i64 r159 fun n162 r161 => (unNil r161 (G 16 [(.agg [(.sl 1 xl18), (.sl 1 xl19), (.sl 1 xl20), (.sl 1 xl21)]), (.int .i64 (IntKind.i64.wrap (xi13 - 1))), (.sl 1 xl16), (.int .i64 n162)] fun o163 => (uL 8 o163 fun l165 r164 => (uI .i64 r164 fun n167 r166 => (unNil r166 (bif (decide (List.length xl14 + 1 ≤ 1073741824)) then (X xi13 (xl14 ++ [(.agg [(.int .i64 6), (.str ⟨#[]⟩), (.str ⟨#[]⟩), (.sl 5 [(.agg [(.int .i64 n31), (.int .i64 n33), (.str s35), (.sl 5 l37), (.int .i64 n39)])]), (.int .i64 0), (.sl 8 l160), (.sl 8 l165), (.int .i64 0)])]) (IntKind.i64.wrap (xi15 - 1)) xl16 n167 xl18 xl19 xl20 xl21) else none))))))))) else (bif (decide (xi13 > 0)) then (G 36 [(.int .i64 4), (.sl 1 xl16), (.int .i64 n41)] fun o168 => (uI .i64 o168 fun n170 r169 => (uI .i64 r169 fun n172 r171 => (unNil r171 (G 16 [(.agg [(.sl 1 xl18), (.sl 1 xl19), (.sl 1 xl20), (.sl 1 xl21)]), (.int .i64 (IntKind.i64.wrap (xi13 - 1))), (.sl 1 xl16), (.int .i64 n172)] fun o173 => (uL 8 o173 fun l175 r174 => (uI .i64 r174 fun n177 r176 => (unNil r176 (bif (decide (List.length xl14 + 1 ≤ 1073741824)) then (X xi13 (xl14 ++ [(.agg [(.int .i64 7), (.str ⟨#[]⟩), (.str ⟨#[]⟩), (.sl 5 []), (.int .i64 (IntKind.i64.wrap (1 + n170))), (.sl 8 l175), (.sl 8 []), (.int .i64 0)])]) (IntKind.i64.wrap (xi15 - 1)) xl16 n177 xl18 xl19 xl20 xl21) else none))))))))) else (X xi13 xl14 (IntKind.i64.wrap (xi15 - 1)) xl16 n41 xl18 xl19 xl20 xl21))) else (bif (decide (xi13 > 0)) then (G 36 [(.int .i64 4), (.sl 1 xl16), (.int .i64 n41)] fun o178 => (uI .i64 o178 fun n180 r179 => (uI .i64 r179 fun n182 r181 => (unNil r181 (G 16 [(.agg [(.sl 1 xl18), (.sl 1 xl19), (.sl 1 xl20), (.sl 1 xl21)]), (.int .i64 (IntKind.i64.wrap (xi13 - 1))), (.sl 1 xl16), (.int .i64 n182)] fun o183 => (uL 8 o183 fun l185 r184 => (uI .i64 r184 fun n187 r186 => (unNil r186 (bif (decide (List.length xl14 + 1 ≤ 1073741824)) then (X xi13 (xl14 ++ [(.agg [(.int .i64 7), (.str ⟨#[]⟩), (.str ⟨#[]⟩), (.sl 5 []), (.int .i64 (IntKind.i64.wrap (1 + n180))), (.sl 8 l185), (.sl 8 []), (.int .i64 0)])]) (IntKind.i64.wrap (xi15 - 1)) xl16 n187 xl18 xl19 xl20 xl21) else none))))))))) else (X xi13 xl14 (IntKind.i64.wrap (xi15 - 1)) xl16 n41 xl18 xl19 xl20 xl21)))) else (bif (decide (xi13 > 0)) then (bif ((Int.tmod n24 2) == 0) then (G 16 [(.agg [(.sl 1 xl18), (.sl 1 xl19), (.sl 1 xl20), (.sl 1 xl21)]), (.int .i64 (IntKind.i64.wrap (xi13 - 1))), (.sl 1 xl16), (.int .i64 n41)] fun o188 => (uL 8 o188 fun l190 r189 => (uI .i64 r189 fun n192 r191 => (unNil r191 (G 16 [(.agg [(.sl 1 xl18), (.sl 1 xl19), (.sl 1 xl20), (.sl 1 xl21)]), (.int .i64 (IntKind.i64.wrap (xi13 - 1))), (.sl 1 xl16), (.int .i64 n192)] fun o193 => (uL 8 o193 fun l195 r194 => (uI .i64 r194 fun n197 r196 => (unNil r196 (bif (decide (List.length xl14 + 1 ≤ 1073741824)) then (X xi13 (xl14 ++ [(.agg [(.int .i64 6), (.str ⟨#[]⟩), (.str ⟨#[]⟩), (.sl 5 [(.agg [(.int .i64 n31), (.int .i64 n33), (.str s35), (.sl 5 l37), (.int .i64 n39)])]), (.int .i64 0), (.sl 8 l190), (.sl 8 l195), (.int .i64 0)])]) (IntKind.i64.wrap (xi15 - 1)) xl16 n197 xl18 xl19 xl20 xl21) else none))))))))) else (bif (decide (xi13 > 0)) then (G 36 [(.int .i64 4), (.sl 1 xl16), (.int .i64 n41)] fun o198 => (uI .i64 o198 fun n200 r199 => (uI .i64 r199 fun n202 r201 => (unNil r201 (G 16 [(.agg [(.sl 1 xl18), (.sl 1 xl19), (.sl 1 xl20), (.sl 1 xl21)]), (.int .i64 (IntKind.i64.wrap (xi13 - 1))), (.sl 1 xl16), (.int .i64 n202)] fun o203 => (uL 8 o203 fun l205 r204 => (uI .i64 r204 fun n207 r206 => (unNil r206 (bif (decide (List.length xl14 + 1 ≤ 1073741824)) then (X xi13 (xl14 ++ [(.agg [(.int .i64 7), (.str ⟨#[]⟩), (.str ⟨#[]⟩), (.sl 5 []), (.int .i64 (IntKind.i64.wrap (1 + n200))), (.sl 8 l205), (.sl 8 []), (.int .i64 0)])]) (IntKind.i64.wrap (xi15 - 1)) xl16 n207 xl18 xl19 xl20 xl21) else none))))))))) else (X xi13 xl14 (IntKind.i64.wrap (xi15 - 1)) xl16 n41 xl18 xl19 xl20 xl21))) else (bif (decide (xi13 > 0)) then (G 36 [(.int .i64 4), (.sl 1 xl16), (.int .i64 n41)] fun o208 => (uI .i64 o208 fun n210 r209 => (uI .i64 r209 fun n212 r211 => (unNil r211 (G 16 [(.agg [(.sl 1 xl18), (.sl 1 xl19), (.sl 1 xl20), (.sl 1 xl21)]), (.int .i64 (IntKind.i64.wrap (xi13 - 1))), (.sl 1 xl16), (.int .i64 n212)] fun o213 => (uL 8 o213 fun l215 r214 => (uI .i64 r214 fun n217 r216 => (unNil r216 (bif (decide (List.length xl14 + 1 ≤ 1073741824)) then (X xi13 (xl14 ++ [(.agg [(.int .i64 7), (.str ⟨#[]⟩), (.str ⟨#[]⟩), (.sl 5 []), (.int .i64 (IntKind.i64.wrap (1 + n210))), (.sl 8 l215), (.sl 8 []), (.int .i64 0)])]) (IntKind.i64.wrap (xi15 - 1)) xl16 n217 xl18 xl19 xl20 xl21) else none))))))))) else (X xi13 xl14 (IntKind.i64.wrap (xi15 - 1)) xl16 n41 xl18 xl19 xl20 xl21)))))) else (bif (n24 == 7) then (bif (decide (((List.length xl20 : Nat) : Int) > 0)) then (G 37 [(.sl 1 xl20), (.str ⟨#[]⟩), (.sl 1 xl16), (.int .i64 n41)] fun o218 => (uS o218 fun s220 r219 => (uI .i64 r219 fun n222 r221 => (unNil r221 (G 36 [(.int .i64 3), (.sl 1 xl16), (.int .i64 n222)] fun o223 => (uI .i64 o223 fun n225 r224 => (uI .i64 r224 fun n227 r226 => (unNil r226 (bif (decide (List.length xl14 + 1 ≤ 1073741824)) then (X xi13 (xl14 ++ [(.agg [(.int .i64 4), (.str s220), (.str ⟨#[]⟩), (.sl 5 [(.agg [(.int .i64 1), (.int .i64 (IntKind.i64.wrap (1 + n225))), (.str ⟨#[]⟩), (.sl 5 []), (.int .i64 0)])]), (.int .i64 0), (.sl 8 []), (.sl 8 []), (.int .i64 0)])]) (IntKind.i64.wrap (xi15 - 1)) xl16 n227 xl18 xl19 xl20 xl21) else none))))))))) else (bif (n24 == 8) then (bif (decide (((List.length xl20 : Nat) : Int) > 0)) then (G 37 [(.sl 1 xl20), (.str ⟨#[]⟩), (.sl 1 xl16), (.int .i64 n41)] fun o228 => (uS o228 fun s230 r229 => (uI .i64 r229 fun n232 r231 => (unNil r231 (bif (decide (List.length xl14 + 1 ≤ 1073741824)) then (X xi13 (xl14 ++ [(.agg [(.int .i64 5), (.str s230), (.str ⟨#[]⟩), (.sl 5 []), (.int .i64 0), (.sl 8 []), (.sl 8 []), (.int .i64 0)])]) (IntKind.i64.wrap (xi15 - 1)) xl16 n232 xl18 xl19 xl20 xl21) else none))))) else (bif (decide (xi13 > 0)) then (bif ((Int.tmod n24 2) == 0) then (G 16 [(.agg [(.sl 1 xl18), (.sl 1 xl19), (.sl 1 xl20), (.sl 1 xl21)]), (.int .i64 (IntKind.i64.wrap (xi13 - 1))), (.sl 1 xl16), (.int .i64 n41)] fun o233 => (uL 8 o233 fun l235 r234 => (uI .i64 r234 fun n237 r236 => (unNil r236 (G 16 [(.agg [(.sl 1 xl18), (.sl 1 xl19), (.sl 1 xl20), (.sl 1 xl21)]), (.int .i64 (IntKind.i64.wrap (xi13 - 1))), (.sl 1 xl16), (.int .i64 n237)] fun o238 => (uL 8 o238 fun l240 r239 => (uI .i64 r239 fun n242 r241 => (unNil r241 (bif (decide (List.length xl14 + 1 ≤ 1073741824)) then (X xi13 (xl14 ++ [(.agg [(.int .i64 6), (.str ⟨#[]⟩), (.str ⟨#[]⟩), (.sl 5 [(.agg [(.int .i64 n31), (.int .i64 n33), (.str s35), (.sl 5 l37), (.int .i64 n39)])]), (.int .i64 0), (.sl 8 l235), (.sl 8 l240), (.int .i64 0)])]) (IntKind.i64.wrap (xi15 - 1)) xl16 n242 xl18 xl19 xl20 xl21) else none))))))))) else (bif (decide (xi13 > 0)) then (G 36 [(.int .i64 4), (.sl 1 xl16), (.int .i64 n41)] fun o243 => (uI .i64 o243 fun n245 r244 => (uI .i64 r244 fun n247 r246 => (unNil r246 (G 16 [(.agg [(.sl 1 xl18), (.sl 1 xl19), (.sl 1 xl20), (.sl 1 xl21)]), (.int .i64 (IntKind.i64.wrap (xi13 - 1))), (.sl 1 xl16), (.int .i64 n247)] fun o248 => (uL 8 o248 fun l250 r249 => (uI .i64 r249 fun n252 r251 => (unNil r251 (bif (decide (List.length xl14 + 1 ≤ 1073741824)) then (X xi13 (xl14 ++ [(.agg [(.int .i64 7), (.str ⟨#[]⟩), (.str ⟨#[]⟩), (.sl 5 []), (.int .i64 (IntKind.i64.wrap (1 + n245))), (.sl 8 l250), (.sl 8 []), (.int .i64 0)])]) (IntKind.i64.wrap (xi15 - 1)) xl16 n252 xl18 xl19 xl20 xl21) else none))))))))) else (X xi13 xl14 (IntKind.i64.wrap (xi15 - 1)) xl16 n41 xl18 xl19 xl20 xl21))) else (bif (decide (xi13 > 0)) then (G 36 [(.int .i64 4), (.sl 1 xl16), (.int .i64 n41)] fun o253 => (uI .i64 o253 fun n255 r254 => (uI .i64 r254 fun n257 r256 => (unNil r256 (G 16 [(.agg [(.sl 1 xl18), (.sl 1 xl19), (.sl 1 xl20), (.sl 1 xl21)]), (.int .i64 (IntKind.i64.wrap (xi13 - 1))), (.sl 1 xl16), (.int .i64 n257)] fun o258 => (uL 8 o258 fun l260 r259 => (uI .i64 r259 fun n262 r261 => (unNil r261 (bif (decide (List.length xl14 + 1 ≤ 1073741824)) then (X xi13 (xl14 ++ [(.agg [(.int .i64 7), (.str ⟨#[]⟩), (.str ⟨#[]⟩), (.sl 5 []), (.int .i64 (IntKind.i64.wrap (1 + n255))), (.sl 8 l260), (.sl 8 []), (.int .i64 0)])]) (IntKind.i64.wrap (xi15 - 1)) xl16 n262 xl18 xl19 xl20 xl21) else none))))))))) else (X xi13 xl14 (IntKind.i64.wrap (xi15 - 1)) xl16 n41 xl18 xl19 xl20 xl21)))) else (bif (decide (xi13 > 0)) then (bif ((Int.tmod n24 2) == 0) then (G 16 [(.agg [(.sl 1 xl18), (.sl 1 xl19), (.sl 1 xl20), (.sl 1 xl21)]), (.int .i64 (IntKind.i64.wrap (xi13 - 1))), (.sl 1 xl16), (.int .i64 n41)] fun o263 => (uL 8 o263 fun l265 r264 => (uI .i64 r264 fun n267 r266 => (unNil r266 (G 16 [(.agg [(.sl 1 xl18), (.sl 1 xl19), (.sl 1 xl20), (.sl 1 xl21)]), (.int .i64 (IntKind.i64.wrap (xi13 - 1))), (.sl 1 xl16), (.int .i64 n267)] fun o268 => (uL 8 o268 fun l270 r269 => (uI .i64 r269 fun n272 r271 => (unNil r271 (bif (decide (List.length xl14 + 1 ≤ 1073741824)) then (X xi13 (xl14 ++ [(.agg [(.int .i64 6), (.str ⟨#[]⟩), (.str ⟨#[]⟩), (.sl 5 [(.agg [(.int .i64 n31), (.int .i64 n33), (.str s35), (.sl 5 l37), (.int .i64 n39)])]), (.int .i64 0), (.sl 8 l265), (.sl 8 l270), (.int .i64 0)])]) (IntKind.i64.wrap (xi15 - 1)) xl16 n272 xl18 xl19 xl20 xl21) else none))))))))) else (bif (decide (xi13 > 0)) then (G 36 [(.int .i64 4), (.sl 1 xl16), (.int .i64 n41)] fun o273 => (uI .i64 o273 fun n275 r274 => (uI .i64 r274 fun n277 r276 => (unNil r276 (G 16 [(.agg [(.sl 1 xl18), (.sl 1 xl19), (.sl 1 xl20), (.sl 1 xl21)]), (.int .i64 (IntKind.i64.wrap (xi13 - 1))), (.sl 1 xl16), (.int .i64 n277)] fun o278 => (uL 8 o278 fun l280 r279 => (uI .i64 r279 fun n282 r281 => (unNil r281 (bif (decide (List.length xl14 + 1 ≤ 1073741824)) then (X xi13 (xl14 ++ [(.agg [(.int .i64 7), (.str ⟨#[]⟩), (.str ⟨#[]⟩), (.sl 5 []), (.int .i64 (IntKind.i64.wrap (1 + n275))), (.sl 8 l280), (.sl 8 []), (.int .i64 0)])]) (IntKind.i64.wrap (xi15 - 1)) xl16 n282 xl18 xl19 xl20 xl21) else none))))))))) else (X xi13 xl14 (IntKind.i64.wrap (xi15 - 1)) xl16 n41 xl18 xl19 xl20 xl21))) else (bif (decide (xi13 > 0)) then (G 36 [(.int .i64 4), (.sl 1 xl16), (.int .i64 n41)] fun o283 => (uI .i64 o283 fun n285 r284 => (uI .i64 r284 fun n287 r286 => (unNil r286 (G 16 [(.agg [(.sl 1 xl18), (.sl 1 xl19), (.sl 1 xl20), (.sl 1 xl21)]), (.int .i64 (IntKind.i64.wrap (xi13 - 1))), (.sl 1 xl16), (.int .i64 n287)] fun o288 => (uL 8 o288 fun l290 r289 => (uI .i64 r289 fun n292 r291 => (unNil r291 (bif (decide (List.length xl14 + 1 ≤ 1073741824)) then (X xi13 (xl14 ++ [(.agg [(.int .i64 7), (.str ⟨#[]⟩), (.str ⟨#[]⟩), (.sl 5 []), (.int .i64 (IntKind.i64.wrap (1 + n285))), (.sl 8 l290), (.sl 8 []), (.int .i64 0)])]) (IntKind.i64.wrap (xi15 - 1)) xl16 n292 xl18 xl19 xl20 xl21) else none))))))))) else (X xi13 xl14 (IntKind.i64.wrap (xi15 - 1)) xl16 n41 xl18 xl19 xl20 xl21))))) else (bif (n24 == 8) then (bif (decide (((List.length xl20 : Nat) : Int) > 0)) then (G 37 [(.sl 1 xl20), (.str ⟨#[]⟩), (.sl 1 xl16), (.int .i64 n41)] fun o293 => (uS o293 fun s295 r294 => (uI .i64 r294 fun n297 r296 => (unNil r296 (bif (decide (List.length xl14 + 1 ≤ 1073741824)) then (X xi13 (xl14 ++ [(.agg [(.int .i64 5), (.str s295), (.str ⟨#[]⟩), (.sl 5 []), (.int .i64 0), (.sl 8 []), (.sl 8 []), (.int .i64 0)])]) (IntKind.i64.wrap (xi15 - 1)) xl16 n297 xl18 xl19 xl20 xl21) else none))))) else (bif (decide (xi13 > 0)) then (bif ((Int.tmod n24 2) == 0) then (G 16 [(.agg [(.sl 1 xl18), (.sl 1 xl19), (.sl 1 xl20), (.sl 1 xl21)]), (.int .i64 (IntKind.i64.wrap (xi13 - 1))), (.sl 1 xl16), (.int .i64 n41)] fun o298 => (uL 8 o298 fun l300 r299 => (uI .i64 r299 fun n302 r301 => (unNil r301 (G 16 [(.agg [(.sl 1 xl18), (.sl 1 xl19), (.sl 1 xl20), (.sl 1 xl21)]), (.int .i64 (IntKind.i64.wrap (xi13 - 1))), (.sl 1 xl16), (.int .i64 n302)] fun o303 => (uL 8 o303 fun l305 r304 => (uI .i64 r304 fun n307 r306 => (unNil r306 (bif (decide (List.length xl14 + 1 ≤ 1073741824)) then (X xi13 (xl14 ++ [(.agg [(.int .i64 6), (.str ⟨#[]⟩), (.str ⟨#[]⟩), (.sl 5 [(.agg [(.int .i64 n31), (.int .i64 n33), (.str s35), (.sl 5 l37), (.int .i64 n39)])]), (.int .i64 0), (.sl 8 l300), (.sl 8 l305), (.int .i64 0)])]) (IntKind.i64.wrap (xi15 - 1)) xl16 n307 xl18 xl19 xl20 xl21) else none))))))))) else (bif (decide (xi13 > 0)) then (G 36 [(.int .i64 4), (.sl 1 xl16), (.int .i64 n41)] fun o308 => (uI .i64 o308 fun n310 r309 => (uI .i64 r309 fun n312 r311 => (unNil r311 (G 16 [(.agg [(.sl 1 xl18), (.sl 1 xl19), (.sl 1 xl20), (.sl 1 xl21)]), (.int .i64 (IntKind.i64.wrap (xi13 - 1))), (.sl 1 xl16), (.int .i64 n312)] fun o313 => (uL 8 o313 fun l315 r314 => (uI .i64 r314 fun n317 r316 => (unNil r316 (bif (decide (List.length xl14 + 1 ≤ 1073741824)) then (X xi13 (xl14 ++ [(.agg [(.int .i64 7), (.str ⟨#[]⟩), (.str ⟨#[]⟩), (.sl 5 []), (.int .i64 (IntKind.i64.wrap (1 + n310))), (.sl 8 l315), (.sl 8 []), (.int .i64 0)])]) (IntKind.i64.wrap (xi15 - 1)) xl16 n317 xl18 xl19 xl20 xl21) else none))))))))) else (X xi13 xl14 (IntKind.i64.wrap (xi15 - 1)) xl16 n41 xl18 xl19 xl20 xl21))) else (bif (decide (xi13 > 0)) then (G 36 [(.int .i64 4), (.sl 1 xl16), (.int .i64 n41)] fun o318 => (uI .i64 o318 fun n320 r319 => (uI .i64 r319 fun n322 r321 => (unNil r321 (G 16 [(.agg [(.sl 1 xl18), (.sl 1 xl19), (.sl 1 xl20), (.sl 1 xl21)]), (.int .i64 (IntKind.i64.wrap (xi13 - 1))), (.sl 1 xl16), (.int .i64 n322)] fun o323 => (uL 8 o323 fun l325 r324 => (uI .i64 r324 fun n327 r326 => (unNil r326 (bif (decide (List.length xl14 + 1 ≤ 1073741824)) then (X xi13 (xl14 ++ [(.agg [(.int .i64 7), (.str ⟨#[]⟩), (.str ⟨#[]⟩), (.sl 5 []), (.int .i64 (IntKind.i64.wrap (1 + n320))), (.sl 8 l325), (.sl 8 []), (.int .i64 0)])]) (IntKind.i64.wrap (xi15 - 1)) xl16 n327 xl18 xl19 xl20 xl21) else none))))))))) else (X xi13 xl14 (IntKind.i64.wrap (xi15 - 1)) xl16 n41 xl18 xl19 xl20 xl21)))) else (bif (decide (xi13 > 0)) then (bif ((Int.tmod n24 2) == 0) then (G 16 [(.agg [(.sl 1 xl18), (.sl 1 xl19), (.sl 1 xl20), (.sl 1 xl21)]), (.int .i64 (IntKind.i64.wrap (xi13 - 1))), (.sl 1 xl16), (.int .i64 n41)] fun o328 => (uL 8 o328 fun l330 r329 => (uI .i64 r329 fun n332 r331 => (unNil r331 (G 16 [(.agg [(.sl 1 xl18), (.sl 1 xl19), (.sl 1 xl20), (.sl 1 xl21)]), (.int .i64 (IntKind.i64.wrap (xi13 - 1))), (.sl 1 xl16), (.int .i64 n332)] fun o333 => (uL 8 o333 fun l335 r334 => (uI .i64 r334 fun n337 r336 => (unNil r336 (bif (decide (List.length xl14 + 1 ≤ 1073741824)) then (X xi13 (xl14 ++ [(.agg [(.int .i64 6), (.str ⟨#[]⟩), (.str ⟨#[]⟩), (.sl 5 [(.agg [(.int .i64 n31), (.int .i64 n33), (.str s35), (.sl 5 l37), (.int .i64 n39)])]), (.int .i64 0), (.sl 8 l330), (.sl 8 l335), (.int .i64 0)])]) (IntKind.i64.wrap (xi15 - 1)) xl16 n337 xl18 xl19 xl20 xl21) else none))))))))) else (bif (decide (xi13 > 0)) then (G 36 [(.int .i64 4), (.sl 1 xl16), (.int .i64 n41)] fun o338 => (uI .i64 o338 fun n340 r339 => (uI .i64 r339 fun n342 r341 => (unNil r341 (G 16 [(.agg [(.sl 1 xl18), (.sl 1 xl19), (.sl 1 xl20), (.sl 1 xl21)]), (.int .i64 (IntKind.i64.wrap (xi13 - 1))), (.sl 1 xl16), (.int .i64 n342)] fun o343 => (uL 8 o343 fun l345 r344 => (uI .i64 r344 fun n347 r346 => (unNil r346 (bif (decide (List.length xl14 + 1 ≤ 1073741824)) then (X xi13 (xl14 ++ [(.agg [(.int .i64 7), (.str ⟨#[]⟩), (.str ⟨#[]⟩), (.sl 5 []), (.int .i64 (IntKind.i64.wrap (1 + n340))), (.sl 8 l345), (.sl 8 []), (.int .i64 0)])]) (IntKind.i64.wrap (xi15 - 1)) xl16 n347 xl18 xl19 xl20 xl21) else none))))))))) else (X xi13 xl14 (IntKind.i64.wrap (xi15 - 1)) xl16 n41 xl18 xl19 xl20 xl21))) else (bif (decide (xi13 > 0)) then (G 36 [(.int .i64 4), (.sl 1 xl16), (.int .i64 n41)] fun o348 => (uI .i64 o348 fun n350 r349 => (uI .i64 r349 fun n352 r351 => (unNil r351 (G 16 [(.agg [(.sl 1 xl18), (.sl 1 xl19), (.sl 1 xl20), (.sl 1 xl21)]), (.int .i64 (IntKind.i64.wrap (xi13 - 1))), (.sl 1 xl16), (.int .i64 n352)] fun o353 => (uL 8 o353 fun l355 r354 => (uI .i64 r354 fun n357 r356 => (unNil r356 (bif (decide (List.length xl14 + 1 ≤ 1073741824)) then (X xi13 (xl14 ++ [(.agg [(.int .i64 7), (.str ⟨#[]⟩), (.str ⟨#[]⟩), (.sl 5 []), (.int .i64 (IntKind.i64.wrap (1 + n350))), (.sl 8 l355), (.sl 8 []), (.int .i64 0)])]) (IntKind.i64.wrap (xi15 - 1)) xl16 n357 xl18 xl19 xl20 xl21) else none))))))))) else (X xi13 xl14 (IntKind.i64.wrap (xi15 - 1)) xl16 n41 xl18 xl19 xl20 xl21)))))))) else (bif (n24 == 3) then (G 36 [(.int .i64 8), (.sl 1 xl16), (.int .i64 n41)] fun o358 => (uI .i64 o358 fun n360 r359 => (uI .i64 r359 fun n362 r361 => (unNil r361 (G 38 [(.int .i64 n360)] fun o363 => (uS o363 fun s365 r364 => (unNil r364 (G 36 [(.int .i64 2), (.sl 1 xl16), (.int .i64 n362)] fun o366 => (uI .i64 o366 fun n368 r367 => (uI .i64 r367 fun n370 r369 => (unNil r369 (bif ((decide (0 ≤ n368)) && (decide (n368 ≤ 1))) then (bif (decide (List.length xl14 + 1 ≤ 1073741824)) then (X xi13 (xl14 ++ [(.agg [(.int .i64 2), (.str ⟨#[]⟩), (.str s365), (.sl 5 (List.take (Int.toNat n368) [(.agg [(.int .i64 n31), (.int .i64 n33), (.str s35), (.sl 5 l37), (.int .i64 n39)])])), (.int .i64 0), (.sl 8 []), (.sl 8 []), (.int .i64 0)])]) (IntKind.i64.wrap (xi15 - 1)) xl16 n370 xl18 xl19 xl20 xl21) else none) else none)))))))))))) else (bif (decide (n24 < 7)) then (bif (decide (((List.length xl19 : Nat) : Int) > 0)) then (G 37 [(.sl 1 xl19), (.str ⟨#[]⟩), (.sl 1 xl16), (.int .i64 n41)] fun o371 => (uS o371 fun s373 r372 => (uI .i64 r372 fun n375 r374 => (unNil r374 (G 36 [(.int .i64 3), (.sl 1 xl16), (.int .i64 n375)] fun o376 => (uI .i64 o376 fun n378 r377 => (uI .i64 r377 fun n380 r379 => (unNil r379 (G 38 [(.int .i64 n378)] fun o381 => (uS o381 fun s383 r382 => (unNil r382 (G 36 [(.int .i64 2), (.sl 1 xl16), (.int .i64 n380)] fun o384 => (uI .i64 o384 fun n386 r385 => (uI .i64 r385 fun n388 r387 => (unNil r387 (bif ((decide (0 ≤ n386)) && (decide (n386 ≤ 1))) then (bif (decide (List.length xl14 + 1 ≤ 1073741824)) then (X xi13 (xl14 ++ [(.agg [(.int .i64 3), (.str s373), (.str s383), (.sl 5 (List.take (Int.toNat n386) [(.agg [(.int .i64 n31), (.int .i64 n33), (.str s35), (.sl 5 l37), (.int .i64 n39)])])), (.int .i64 0), (.sl 8 []), (.sl 8 []), (.int .i64 0)])]) (IntKind.i64.wrap (xi15 - 1)) xl16 n388 xl18 xl19 xl20 xl21) else none) else none)))))))))))))))) else (bif (n24 == 7) then (bif (decide (((List.length xl20 : Nat) : Int) > 0)) then (G 37 [(.sl 1 xl20), (.str ⟨#[]⟩), (.sl 1 xl16), (.int .i64 n41)] fun o389 => (uS o389 fun s391 r390 => (uI .i64 r390 fun n393 r392 => (unNil r392 (G 36 [(.int .i64 3), (.sl 1 xl16), (.int .i64 n393)] fun o394 => (uI .i64 o394 fun n396 r395 => (uI .i64 r395 fun n398 r397 => (unNil r397 (bif (decide (List.length xl14 + 1 ≤ 1073741824)) then (X xi13 (xl14 ++ [(.agg [(.int .i64 4), (.str s391), (.str ⟨#[]⟩), (.sl 5 [(.agg [(.int .i64 1), (.int .i64 (IntKind.i64.wrap (1 + n396))), (.str ⟨#[]⟩), (.sl 5 []), (.int .i64 0)])]), (.int .i64 0), (.sl 8 []), (.sl 8 []), (.int .i64 0)])]) (IntKind.i64.wrap (xi15 - 1)) xl16 n398 xl18 xl19 xl20 xl21) else none))))))))) else (bif (n24 == 8) then (bif (decide (((List.length xl20 : Nat) : Int) > 0)) then (G 37 [(.sl 1 xl20), (.str ⟨#[]⟩), (.sl 1 xl16), (.int .i64 n41)] fun o399 => (uS o399 fun s401 r400 => (uI .i64 r400 fun n403 r402 => (unNil r402 (bif (decide (List.length xl14 + 1 ≤ 1073741824)) then (X xi13 (xl14 ++ [(.agg [(.int .i64 5), (.str s401), (.str ⟨#[]⟩), (.sl 5 []), (.int .i64 0), (.sl 8 []), (.sl 8 []), (.int .i64 0)])]) (IntKind.i64.wrap (xi15 - 1)) xl16 n403 xl18 xl19 xl20 xl21) else none))))) else (bif (decide (xi13 > 0)) then (bif ((Int.tmod n24 2) == 0) then (G 16 [(.agg [(.sl 1 xl18), (.sl 1 xl19), (.sl 1 xl20), (.sl 1 xl21)]), (.int .i64 (IntKind.i64.wrap (xi13 - 1))), (.sl 1 xl16), (.int .i64 n41)] fun o404 => (uL 8 o404 fun l406 r405 => (uI .i64 r405 fun n408 r407 => (unNil r407 (G 16 [(.agg [(.sl 1 xl18), (.sl 1 xl19), (.sl 1 xl20), (.sl 1 xl21)]), (.int .i64 (IntKind.i64.wrap (xi13 - 1))), (.sl 1 xl16), (.int .i64 n408)] fun o409 => (uL 8 o409 fun l411 r410 => (uI .i64 r410 fun n413 r412 => (unNil r412 (bif (decide (List.length xl14 + 1 ≤ 1073741824)) then (X xi13 (xl14 ++ [(.agg [(.int .i64 6), (.str ⟨#[]⟩), (.str ⟨#[]⟩), (.sl 5 [(.agg [(.int .i64 n31), (.int .i64 n33), (.str s35), (.sl 5 l37), (.int .i64 n39)])]), (.int .i64 0), (.sl 8 l406), (.sl 8 l411), (.int .i64 0)])]) (IntKind.i64.wrap (xi15 - 1)) xl16 n413 xl18 xl19 xl20 xl21) else none))))))))) else (bif (decide (xi13 > 0)) then (G 36 [(.int .i64 4), (.sl 1 xl16), (.int .i64 n41)] fun o414 => (uI .i64 o414 fun n416 r415 => (uI .i64 r415 fun n418 r417 => (unNil r417 (G 16 [(.agg [(.sl 1 xl18), (.sl 1 xl19), (.sl 1 xl20), (.sl 1 xl21)]), (.int .i64 (IntKind.i64.wrap (xi13 - 1))), (.sl 1 xl16), (.int .i64 n418)] fun o419 => (uL 8 o419 fun l421 r420 => (uI .i64 r420 fun n423 r422 => (unNil r422 (bif (decide (List.length xl14 + 1 ≤ 1073741824)) then (X xi13 (xl14 ++ [(.agg [(.int .i64 7), (.str ⟨#[]⟩), (.str ⟨#[]⟩), (.sl 5 []), (.int .i64 (IntKind.i64.wrap (1 + n416))), (.sl 8 l421), (.sl 8 []), (.int .i64 0)])]) (IntKind.i64.wrap (xi15 - 1)) xl16 n423 xl18 xl19 xl20 xl21) else none))))))))) else (X xi13 xl14 (IntKind.i64.wrap (xi15 - 1)) xl16 n41 xl18 xl19 xl20 xl21))) else (bif (decide (xi13 > 0)) then (G 36 [(.int .i64 4), (.sl 1 xl16), (.int .i64 n41)] fun o424 => (uI .i64 o424 fun n426 r425 => (uI .i64 r425 fun n428 r427 => (unNil r427 (G 16 [(.agg [(.sl 1 xl18), (.sl 1 xl19), (.sl 1 xl20), (.sl 1 xl21)]), (.int .i64 (IntKind.i64.wrap (xi13 - 1))), (.sl 1 xl16), (.int .i64 n428)] fun o429 => (uL 8 o429 fun l431 r430 => (uI .i64 r430 fun n433 r432 => (unNil r432 (bif (decide (List.length xl14 + 1 ≤ 1073741824)) then (X xi13 (xl14 ++ [(.agg [(.int .i64 7), (.str ⟨#[]⟩), (.str ⟨#[]⟩), (.sl 5 []), (.int .i64 (IntKind.i64.wrap (1 + n426))), (.sl 8 l431), (.sl 8 []), (.int .i64 0)])]) (IntKind.i64.wrap (xi15 - 1)) xl16 n433 xl18 xl19 xl20 xl21) else none))))))))) else (X xi13 xl14 (IntKind.i64.wrap (xi15 - 1)) xl16 n41 xl18 xl19 xl20 xl21)))) else (bif (decide (xi13 > 0)) then (bif ((Int.tmod n24 2) == 0) then (G 16 [(.agg [(.sl 1 xl18), (.sl 1 xl19), (.sl 1 xl20), (.sl 1 xl21)]), (.int .i64 (IntKind.i64.wrap (xi13 - 1))), (.sl 1 xl16), (.int .i64 n41)] fun o434 => (uL 8 o434 fun l436 r435 => (uI .i64 r435 fun n438 r437 => (unNil r437 (G 16 [(.agg [(.sl 1 xl18), (.sl 1 xl19), (.sl 1 xl20), (.sl 1 xl21)]), (.int .i64 (IntKind.i64.wrap (xi13 - 1))), (.sl 1 xl16), (.int .i64 n438)] fun o439 => (uL 8 o439 fun l441 r440 => (uI .i64 r440 fun n443 r442 => (unNil r442 (bif (decide (List.length xl14 + 1 ≤ 1073741824)) then (X xi13 (xl14 ++ [(.agg [(.int .i64 6), (.str ⟨#[]⟩), (.str ⟨#[]⟩), (.sl 5 [(.agg [(.int .i64 n31), (.int .i64 n33), (.str s35), (.sl 5 l37), (.int .i64 n39)])]), (.int .i64 0), (.sl 8 l436), (.sl 8 l441), (.int .i64 0)])]) (IntKind.i64.wrap (xi15 - 1)) xl16 n443 xl18 xl19 xl20 xl21) else none))))))))) else (bif (decide (xi13 > 0)) then (G 36 [(.int .i64 4), (.sl 1 xl16), (.int .i64 n41)] fun o444 => (uI .i64 o444 fun n446 r445 => (uI .i64 r445 fun n448 r447 => (unNil r447 (G 16 [(.agg [(.sl 1 xl18), (.sl 1 xl19), (.sl 1 xl20), (.sl 1 xl21)]), (.int .i64 (IntKind.i64.wrap (xi13 - 1))), (.sl 1 xl16), (.int .i64 n448)] fun o449 => (uL 8 o449 fun l451 r450 => (uI .i64 r450 fun n453 r452 => (unNil r452 (bif (decide (List.length xl14 + 1 ≤ 1073741824)) then (X xi13 (xl14 ++ [(.agg [(.int .i64 7), (.str ⟨#[]⟩), (.str ⟨#[]⟩), (.sl 5 []), (.int .i64 (IntKind.i64.wrap (1 + n446))), (.sl 8 l451), (.sl 8 []), (.int .i64 0)])]) (IntKind.i64.wrap (xi15 - 1)) xl16 n453 xl18 xl19 xl20 xl21) else none))))))))) else (X xi13 xl14 (IntKind.i64.wrap (xi15 - 1)) xl16 n41 xl18 xl19 xl20 xl21))) else (bif (decide (xi13 > 0)) then (G 36 [(.int .i64 4), (.sl 1 xl16), (.int .i64 n41)] fun o454 => (uI .i64 o454 fun n456 r455 => (uI .i64 r455 fun n458 r457 => (unNil r457 (G 16 [(.agg [(.sl 1 xl18), (.sl 1 xl19), (.sl 1 xl20), (.sl 1 xl21)]), (.int .i64 (IntKind.i64.wrap (xi13 - 1))), (.sl 1 xl16), (.int .i64 n458)] fun o459 => (uL 8 o459 fun l461 r460 => (uI .i64 r460 fun n463 r462 => (unNil r462 (bif (decide (List.length xl14 + 1 ≤ 1073741824)) then (X xi13 (xl14 ++ [(.agg [(.int .i64 7), (.str ⟨#[]⟩), (.str ⟨#[]⟩), (.sl 5 []), (.int .i64 (IntKind.i64.wrap (1 + n456))), (.sl 8 l461), (.sl 8 []), (.int .i64 0)])]) (IntKind.i64.wrap (xi15 - 1)) xl16 n463 xl18 xl19 xl20 xl21) else none))))))))) else (X xi13 xl14 (IntKind.i64.wrap (xi15 - 1)) xl16 n41 xl18 xl19 xl20 xl21))))) else (bif (n24 == 8) then (bif (decide (((List.length xl20 : Nat) : Int) > 0)) then (G 37 [(.sl 1 xl20), (.str ⟨#[]⟩), (.sl 1 xl16), (.int .i64 n41)] fun o464 => (uS o464 fun s466 r465 => (uI .i64 r465 fun n468 r467 => (unNil r467 (bif (decide (List.length xl14 + 1 ≤ 1073741824)) then (X xi13 (xl14 ++ [(.agg [(.int .i64 5), (.str s466), (.str ⟨#[]⟩), (.sl 5 []), (.int .i64 0), (.sl 8 []), (.sl 8 []), (.int .i64 0)])]) (IntKind.i64.wrap (xi15 - 1)) xl16 n468 xl18 xl19 xl20 xl21) else none))))) else (bif (decide (xi13 > 0)) then (bif ((Int.tmod n24 2) == 0) then (G 16 [(.agg [(.sl 1 xl18), (.sl 1 xl19), (.sl 1 xl20), (.sl 1 xl21)]), (.int .i64 (IntKind.i64.wrap (xi13 - 1))), (.sl 1 xl16), (.int .i64 n41)] fun o469 => (uL 8 o469 fun l471 r470 => (uI .i64 r470 fun n473 r472 => (unNil r472 (G 16 [(.agg [(.sl 1 xl18), (.sl 1 xl19), (.sl 1 xl20), (.sl 1 xl21)]), (.int .i64 (IntKind.i64.wrap (xi13 - 1))), (.sl 1 xl16), (.int .i64 n473)] fun o474 => (uL 8 o474 fun l476 r475 => (uI .i64 r475 fun n478 r477 => (unNil r477 (bif (decide (List.length xl14 + 1 ≤ 1073741824)) then (X xi13 (xl14 ++ [(.agg [(.int .i64 6), (.str ⟨#[]⟩), (.str ⟨#[]⟩), (.sl 5 [(.agg [(.int .i64 n31), (.int .i64 n33), (.str s35), (.sl 5 l37), (.int .i64 n39)])]), (.int .i64 0), (.sl 8 l471), (.sl 8 l476), (.int .i64 0)])]) (IntKind.i64.wrap (xi15 - 1)) xl16 n478 xl18 xl19 xl20 xl21) else none))))))))) else (bif (decide (xi13 > 0)) then (G 36 [(.int .i64 4), (.sl 1 xl16), (.int .i64 n41)] fun o479 => (uI .i64 o479 fun n481 r480 => (uI .i64 r480 fun n483 r482 => (unNil r482 (G 16 [(.agg [(.sl 1 xl18), (.sl 1 xl19), (.sl 1 xl20), (.sl 1 xl21)]), (.int .i64 (IntKind.i64.wrap (xi13 - 1))), (.sl 1 xl16), (.int .i64 n483)] fun o484 => (uL 8 o484 fun l486 r485 => (uI .i64 r485 fun n488 r487 => (unNil r487 (bif (decide (List.length xl14 + 1 ≤ 1073741824)) then (X xi13 (xl14 ++ [(.agg [(.int .i64 7), (.str ⟨#[]⟩), (.str ⟨#[]⟩), (.sl 5 []), (.int .i64 (IntKind.i64.wrap (1 + n481))), (.sl 8 l486), (.sl 8 []), (.int .i64 0)])]) (IntKind.i64.wrap (xi15 - 1)) xl16 n488 xl18 xl19 xl20 xl21) else none))))))))) else (X xi13 xl14 (IntKind.i64.wrap (xi15 - 1)) xl16 n41 xl18 xl19 xl20 xl21))) else (bif (decide (xi13 > 0)) then (G 36 [(.int .i64 4), (.sl 1 xl16), (.int .i64 n41)] fun o489 => (uI .i64 o489 fun n491 r490 => (uI .i64 r490 fun n493 r492 => (unNil r492 (G 16 [(.agg [(.sl 1 xl18), (.sl 1 xl19), (.sl 1 xl20), (.sl 1 xl21)]), (.int .i64 (IntKind.i64.wrap (xi13 - 1))), (.sl 1 xl16), (.int .i64 n493)] fun o494 => (uL 8 o494 fun l496 r495 => (uI .i64 r495 fun n498 r497 => (unNil r497 (bif (decide (List.length xl14 + 1 ≤ 1073741824)) then (X xi13 (xl14 ++ [(.agg [(.int .i64 7), (.str ⟨#[]⟩), (.str ⟨#[]⟩), (.sl 5 []), (.int .i64 (IntKind.i64.wrap (1 + n491))), (.sl 8 l496), (.sl 8 []), (.int .i64 0)])]) (IntKind.i64.wrap (xi15 - 1)) xl16 n498 xl18 xl19 xl20 xl21) else none))))))))) else (X xi13 xl14 (IntKind.i64.wrap (xi15 - 1)) xl16 n41 xl18 xl19 xl20 xl21)))) else (bif (decide (xi13 > 0)) then (bif ((Int.tmod n24 2) == 0) then (G 16 [(.agg [(.sl 1 xl18), (.sl 1 xl19), (.sl 1 xl20), (.sl 1 xl21)]), (.int .i64 (IntKind.i64.wrap (xi13 - 1))), (.sl 1 xl16), (.int .i64 n41)] fun o499 => (uL 8 o499 fun l501 r500 => (uI .i64 r500 fun n503 r502 => (unNil r502 (G 16 [(.agg [(.sl 1 xl18), (.sl 1 xl19), (.sl 1 xl20), (.sl 1 xl21)]), (.int .i64 (IntKind.i64.wrap (xi13 - 1))), (.sl 1 xl16), (.int .i64 n503)] fun o504 => (uL 8 o504 fun l506 r505 => (uI .i64 r505 fun n508 r507 => (unNil r507 (bif (decide (List.length xl14 + 1 ≤ 1073741824)) then (X xi13 (xl14 ++ [(.agg [(.int .i64 6), (.str ⟨#[]⟩), (.str ⟨#[]⟩), (.sl 5 [(.agg [(.int .i64 n31), (.int .i64 n33), (.str s35), (.sl 5 l37), (.int .i64 n39)])]), (.int .i64 0), (.sl 8 l501), (.sl 8 l506), (.int .i64 0)])]) (IntKind.i64.wrap (xi15 - 1)) xl16 n508 xl18 xl19 xl20 xl21) else none))))))))) else (bif (decide (xi13 > 0)) then (G 36 [(.int .i64 4), (.sl 1 xl16), (.int .i64 n41)] fun o509 => (uI .i64 o509 fun n511 r510 => (uI .i64 r510 fun n513 r512 => (unNil r512 (G 16 [(.agg [(.sl 1 xl18), (.sl 1 xl19), (.sl 1 xl20), (.sl 1 xl21)]), (.int .i64 (IntKind.i64.wrap (xi13 - 1))), (.sl 1 xl16), (.int .i64 n513)] fun o514 => (uL 8 o514 fun l516 r515 => (uI .i64 r515 fun n518 r517 => (unNil r517 (bif (decide (List.length xl14 + 1 ≤ 1073741824)) then (X xi13 (xl14 ++ [(.agg [(.int .i64 7), (.str ⟨#[]⟩), (.str ⟨#[]⟩), (.sl 5 []), (.int .i64 (IntKind.i64.wrap (1 + n511))), (.sl 8 l516), (.sl 8 []), (.int .i64 0)])]) (IntKind.i64.wrap (xi15 - 1)) xl16 n518 xl18 xl19 xl20 xl21) else none))))))))) else (X xi13 xl14 (IntKind.i64.wrap (xi15 - 1)) xl16 n41 xl18 xl19 xl20 xl21))) else (bif (decide (xi13 > 0)) then (G 36 [(.int .i64 4), (.sl 1 xl16), (.int .i64 n41)] fun o519 => (uI .i64 o519 fun n521 r520 => (uI .i64 r520 fun n523 r522 => (unNil r522 (G 16 [(.agg [(.sl 1 xl18), (.sl 1 xl19), (.sl 1 xl20), (.sl 1 xl21)]), (.int .i64 (IntKind.i64.wrap (xi13 - 1))), (.sl 1 xl16), (.int .i64 n523)] fun o524 => (uL 8 o524 fun l526 r525 => (uI .i64 r525 fun n528 r527 => (unNil r527 (bif (decide (List.length xl14 + 1 ≤ 1073741824)) then (X xi13 (xl14 ++ [(.agg [(.int .i64 7), (.str ⟨#[]⟩), (.str ⟨#[]⟩), (.sl 5 []), (.int .i64 (IntKind.i64.wrap (1 + n521))), (.sl 8 l526), (.sl 8 []), (.int .i64 0)])]) (IntKind.i64.wrap (xi15 - 1)) xl16 n528 xl18 xl19 xl20 xl21) else none))))))))) else (X xi13 xl14 (IntKind.i64.wrap (xi15 - 1)) xl16 n41 xl18 xl19 xl20 xl21)))))) else (bif (n24 == 7) then (bif (decide (((List.length xl20 : Nat) : Int) > 0)) then (G 37 [(.sl 1 xl20), (.str ⟨#[]⟩), (.sl 1 xl16), (.int .i64 n41)] fun o529 => (uS o529 fun s531 r530 => (uI .i64 r530 fun n533 r532 => (unNil r532 (G 36 [(.int .i64 3), (.sl 1 xl16), (.int .i64 n533)] fun o534 => (uI .i64 o534 fun n536 r535 => (uI .i64 r535 fun n538 r537 => (unNil r537 (bif (decide (List.length xl14 + 1 ≤ 1073741824)) then (X xi13 (xl14 ++ [(.agg [(.int .i64 4), (.str s531), (.str ⟨#[]⟩), (.sl 5 [(.agg [(.int .i64 1), (.int .i64 (IntKind.i64.wrap (1 + n536))), (.str ⟨#[]⟩), (.sl 5 []), (.int .i64 0)])]), (.int .i64 0), (.sl 8 []), (.sl 8 []), (.int .i64 0)])]) (IntKind.i64.wrap (xi15 - 1)) xl16 n538 xl18 xl19 xl20 xl21) else none))))))))) else (bif (n24 == 8) then (bif (decide (((List.length xl20 : Nat) : Int) > 0)) then (G 37 [(.sl 1 xl20), (.str ⟨#[]⟩), (.sl 1 xl16), (.int .i64 n41)] fun o539 => (uS o539 fun s541 r540 => (uI .i64 r540 fun n543 r542 => (unNil r542 (bif (decide (List.length xl14 + 1 ≤ 1073741824)) then (X xi13 (xl14 ++ [(.agg [(.int .i64 5), (.str s541), (.str ⟨#[]⟩), (.sl 5 []), (.int .i64 0), (.sl 8 []), (.sl 8 []), (.int .i64 0)])]) (IntKind.i64.wrap (xi15 - 1)) xl16 n543 xl18 xl19 xl20 xl21) else none))))) else (bif (decide (xi13 > 0)) then (bif ((Int.tmod n24 2) == 0) then (G 16 [(.agg [(.sl 1 xl18), (.sl 1 xl19), (.sl 1 xl20), (.sl 1 xl21)]), (.int .i64 (IntKind.i64.wrap (xi13 - 1))), (.sl 1 xl16), (.int .i64 n41)] fun o544 => (uL 8 o544 fun l546 r545 => (uI .i64 r545 fun n548 r547 => (unNil r547 (G 16 [(.agg [(.sl 1 xl18), (.sl 1 xl19), (.sl 1 xl20), (.sl 1 xl21)]), (.int .i64 (IntKind.i64.wrap (xi13 - 1))), (.sl 1 xl16), (.int .i64 n548)] fun o549 => (uL 8 o549 fun l551 r550 => (uI .i64 r550 fun n553 r552 => (unNil r552 (bif (decide (List.length xl14 + 1 ≤ 1073741824)) then (X xi13 (xl14 ++ [(.agg [(.int .i64 6), (.str ⟨#[]⟩), (.str ⟨#[]⟩), (.sl 5 [(.agg [(.int .i64 n31), (.int .i64 n33), (.str s35), (.sl 5 l37), (.int .i64 n39)])]), (.int .i64 0), (.sl 8 l546), (.sl 8 l551), (.int .i64 0)])]) (IntKind.i64.wrap (xi15 - 1)) xl16 n553 xl18 xl19 xl20 xl21) else none))))))))) else (bif (decide (xi13 > 0)) then (G 36 [(.int .i64 4), (.sl 1 xl16), (.int .i64 n41)] fun o554 => (uI .i64 o554 fun n556 r555 => (uI .i64 r555 fun n558 r557 => (unNil r557 (G 16 [(.agg [(.sl 1 xl18), (.sl 1 xl19), (.sl 1 xl20), (.sl 1 xl21)]), (.int .i64 (IntKind.i64.wrap (xi13 - 1))), (.sl 1 xl16), (.int .i64 n558)] fun o559 => (uL 8 o559 fun l561 r560 => (uI .i64 r560 fun n563 r562 => (unNil r562 (bif (decide (List.length xl14 + 1 ≤ 1073741824)) then (X xi13 (xl14 ++ [(.agg [(.int .i64 7), (.str ⟨#[]⟩), (.str ⟨#[]⟩), (.sl 5 []), (.int .i64 (IntKind.i64.wrap (1 + n556))), (.sl 8 l561), (.sl 8 []), (.int .i64 0)])]) (IntKind.i64.wrap (xi15 - 1)) xl16 n563 xl18 xl19 xl20 xl21) else none))))))))) else (X xi13 xl14 (IntKind.i64.wrap (xi15 - 1)) xl16 n41 xl18 xl19 xl20 xl21))) else (bif (decide (xi13 > 0)) then (G 36 [(.int .i64 4), (.sl 1 xl16), (.int .i64 n41)] fun o564 => (uI .i64 o564 fun n566 r565 => (uI .i64 r565 fun n568 r567 => (unNil r567 (G 16 [(.agg [(.sl 1 xl18), (.sl 1 xl19), (.sl 1 xl20), (.sl 1 xl21)]), (.int .i64 (IntKind.i64.wrap (xi13 - 1))), (.sl 1 xl16), (.int .i64 n568)] fun o569 => (uL 8 o569 fun l571 r570 => (uI .i64 r570 fun n573 r572 => (unNil r572 (bif (decide (List.length xl14 + 1 ≤ 1073741824)) then (X xi13 (xl14 ++ [(.agg [(.int .i64 7), (.str ⟨#[]⟩), (.str ⟨#[]⟩), (.sl 5 []), (.int .i64 (IntKind.i64.wrap (1 + n566))), (.sl 8 l571), (.sl 8 []), (.int .i64 0)])]) (IntKind.i64.wrap (xi15 - 1)) xl16 n573 xl18 xl19 xl20 xl21) else none))))))))) else (X xi13 xl14 (IntKind.i64.wrap (xi15 - 1)) xl16 n41 xl18 xl19 xl20 xl21)))) else (bif (decide (xi13 > 0)) then (bif ((Int.tmod n24 2) == 0) then (G 16 [(.agg [(.sl 1 xl18), (.sl 1 xl19), (.sl 1 xl20), (.sl 1 xl21)]), (.int .i64 (IntKind.i64.wrap (xi13 - 1))), (.sl 1 xl16), (.int .i64 n41)] fun o574 => (uL 8 o574 fun l576 r575 => (uI .i64 r575 fun n578 r577 => (unNil r577 (G 16 [(.agg [(.sl 1 xl18), (.sl 1 xl19), (.sl 1 xl20), (.sl 1 xl21)]), (.int .i64 (IntKind.i64.wrap (xi13 - 1))), (.sl 1 xl16), (.int .i64 n578)] fun o579 => (uL 8 o579 fun l581 r580 => (uI .i64 r580 fun n583 r582 => (unNil r582 (bif (decide (List.length xl14 + 1 ≤ 1073741824)) then (X xi13 (xl14 ++ [(.agg [(.int .i64 6), (.str ⟨#[]⟩), (.str ⟨#[]⟩), (.sl 5 [(.agg [(.int .i64 n31), (.int .i64 n33), (.str s35), (.sl 5 l37), (.int .i64 n39)])]), (.int .i64 0), (.sl 8 l576), (.sl 8 l581), (.int .i64 0)])]) (IntKind.i64.wrap (xi15 - 1)) xl16 n583 xl18 xl19 xl20 xl21) else none))))))))) else (bif (decide (xi13 > 0)) then (G 36 [(.int .i64 4), (.sl 1 xl16), (.int .i64 n41)] fun o584 => (uI .i64 o584 fun n586 r585 => (uI .i64 r585 fun n588 r587 => (unNil r587 (G 16 [(.agg [(.sl 1 xl18), (.sl 1 xl19), (.sl 1 xl20), (.sl 1 xl21)]), (.int .i64 (IntKind.i64.wrap (xi13 - 1))), (.sl 1 xl16), (.int .i64 n588)] fun o589 => (uL 8 o589 fun l591 r590 => (uI .i64 r590 fun n593 r592 => (unNil r592 (bif (decide (List.length xl14 + 1 ≤ 1073741824)) then (X xi13 (xl14 ++ [(.agg [(.int .i64 7), (.str ⟨#[]⟩), (.str ⟨#[]⟩), (.sl 5 []), (.int .i64 (IntKind.i64.wrap (1 + n586))), (.sl 8 l591), (.sl 8 []), (.int .i64 0)])]) (IntKind.i64.wrap (xi15 - 1)) xl16 n593 xl18 xl19 xl20 xl21) else none))))))))) else (X xi13 xl14 (IntKind.i64.wrap (xi15 - 1)) xl16 n41 xl18 xl19 xl20 xl21))) else (bif (decide (xi13 > 0)) then (G 36 [(.int .i64 4), (.sl 1 xl16), (.int .i64 n41)] fun o594 => (uI .i64 o594 fun n596 r595 => (uI .i64 r595 fun n598 r597 => (unNil r597 (G 16 [(.agg [(.sl 1 xl18), (.sl 1 xl19), (.sl 1 xl20), (.sl 1 xl21)]), (.int .i64 (IntKind.i64.wrap (xi13 - 1))), (.sl 1 xl16), (.int .i64 n598)] fun o599 => (uL 8 o599 fun l601 r600 => (uI .i64 r600 fun n603 r602 => (unNil r602 (bif (decide (List.length xl14 + 1 ≤ 1073741824)) then (X xi13 (xl14 ++ [(.agg [(.int .i64 7), (.str ⟨#[]⟩), (.str ⟨#[]⟩), (.sl 5 []), (.int .i64 (IntKind.i64.wrap (1 + n596))), (.sl 8 l601), (.sl 8 []), (.int .i64 0)])]) (IntKind.i64.wrap (xi15 - 1)) xl16 n603 xl18 xl19 xl20 xl21) else none))))))))) else (X xi13 xl14 (IntKind.i64.wrap (xi15 - 1)) xl16 n41 xl18 xl19 xl20 xl21))))) else (bif (n24 == 8) then (bif (decide (((List.length xl20 : Nat) : Int) > 0)) then (G 37 [(.sl 1 xl20), (.str ⟨#[]⟩), (.sl 1 xl16), (.int .i64 n41)] fun o604 => (uS o604 fun s606 r605 => (uI .i64 r605 fun n608 r607 => (unNil r607 (bif (decide (List.length xl14 + 1 ≤ 1073741824)) then (X xi13 (xl14 ++ [(.agg [(.int .i64 5), (.str s606), (.str ⟨#[]⟩), (.sl 5 []), (.int .i64 0), (.sl 8 []), (.sl 8 []), (.int .i64 0)])]) (IntKind.i64.wrap (xi15 - 1)) xl16 n608 xl18 xl19 xl20 xl21) else none))))) else (bif (decide (xi13 > 0)) then (bif ((Int.tmod n24 2) == 0) then (G 16 [(.agg [(.sl 1 xl18), (.sl 1 xl19), (.sl 1 xl20), (.sl 1 xl21)]), (.int .i64 (IntKind.i64.wrap (xi13 - 1))), (.sl 1 xl16), (.int .i64 n41)] fun o609 => (uL 8 o609 fun l611 r610 => (uI .i64 r610 fun n613 r612 => (unNil r612 (G 16 [(.agg [(.sl 1 xl18), (.sl 1 xl19), (.sl 1 xl20), (.sl 1 xl21)]), (.int .i64 (IntKind.i64.wrap (xi13 - 1))), (.sl 1 xl16), (.int .i64 n613)] fun o614 => (uL 8 o614 fun l616 r615 => (uI .i64 r615 fun n618 r617 => (unNil r617 (bif (decide (List.length xl14 + 1 ≤ 1073741824)) then (X xi13 (xl14 ++ [(.agg [(.int .i64 6), (.str ⟨#[]⟩), (.str ⟨#[]⟩), (.sl 5 [(.agg [(.int .i64 n31), (.int .i64 n33), (.str s35), (.sl 5 l37), (.int .i64 n39)])]), (.int .i64 0), (.sl 8 l611), (.sl 8 l616), (.int .i64 0)])]) (IntKind.i64.wrap (xi15 - 1)) xl16 n618 xl18 xl19 xl20 xl21) else none))))))))) else (bif (decide (xi13 > 0)) then (G 36 [(.int .i64 4), (.sl 1 xl16), (.int .i64 n41)] fun o619 => (uI .i64 o619 fun n621 r620 => (uI .i64 r620 fun n623 r622 => (unNil r622 (G 16 [(.agg [(.sl 1 xl18), (.sl 1 xl19), (.sl 1 xl20), (.sl 1 xl21)]), (.int .i64 (IntKind.i64.wrap (xi13 - 1))), (.sl 1 xl16), (.int .i64 n623)] fun o624 => (uL 8 o624 fun l626 r625 => (uI .i64 r625 fun n628 r627 => (unNil r627 (bif (decide (List.length xl14 + 1 ≤ 1073741824)) then (X xi13 (xl14 ++ [(.agg [(.int .i64 7), (.str ⟨#[]⟩), (.str ⟨#[]⟩), (.sl 5 []), (.int .i64 (IntKind.i64.wrap (1 + n621))), (.sl 8 l626), (.sl 8 []), (.int .i64 0)])]) (IntKind.i64.wrap (xi15 - 1)) xl16 n628 xl18 xl19 xl20 xl21) else none))))))))) else (X xi13 xl14 (IntKind.i64.wrap (xi15 - 1)) xl16 n41 xl18 xl19 xl20 xl21))) else (bif (decide (xi13 > 0)) then (G 36 [(.int .i64 4), (.sl 1 xl16), (.int .i64 n41)] fun o629 => (uI .i64 o629 fun n631 r630 => (uI .i64 r630 fun n633 r632 => (unNil r632 (G 16 [(.agg [(.sl 1 xl18), (.sl 1 xl19), (.sl 1 xl20), (.sl 1 xl21)]), (.int .i64 (IntKind.i64.wrap (xi13 - 1))), (.sl 1 xl16), (.int .i64 n633)] fun o634 => (uL 8 o634 fun l636 r635 => (uI .i64 r635 fun n638 r637 => (unNil r637 (bif (decide (List.length xl14 + 1 ≤ 1073741824)) then (X xi13 (xl14 ++ [(.agg [(.int .i64 7), (.str ⟨#[]⟩), (.str ⟨#[]⟩), (.sl 5 []), (.int .i64 (IntKind.i64.wrap (1 + n631))), (.sl 8 l636), (.sl 8 []), (.int .i64 0)])]) (IntKind.i64.wrap (xi15 - 1)) xl16 n638 xl18 xl19 xl20 xl21) else none))))))))) else (X xi13 xl14 (IntKind.i64.wrap (xi15 - 1)) xl16 n41 xl18 xl19 xl20 xl21)))) else (bif (decide (xi13 > 0)) then (bif ((Int.tmod n24 2) == 0) then (G 16 [(.agg [(.sl 1 xl18), (.sl 1 xl19), (.sl 1 xl20), (.sl 1 xl21)]), (.int .i64 (IntKind.i64.wrap (xi13 - 1))), (.sl 1 xl16), (.int .i64 n41)] fun o639 => (uL 8 o639 fun l641 r640 => (uI .i64 r640 fun n643 r642 => (unNil r642 (G 16 [(.agg [(.sl 1 xl18), (.sl 1 xl19), (.sl 1 xl20), (.sl 1 xl21)]), (.int .i64 (IntKind.i64.wrap (xi13 - 1))), (.sl 1 xl16), (.int .i64 n643)] fun o644 => (uL 8 o644 fun l646 r645 => (uI .i64 r645 fun n648 r647 => (unNil r647 (bif (decide (List.length xl14 + 1 ≤ 1073741824)) then (X xi13 (xl14 ++ [(.agg [(.int .i64 6), (.str ⟨#[]⟩), (.str ⟨#[]⟩), (.sl 5 [(.agg [(.int .i64 n31), (.int .i64 n33), (.str s35), (.sl 5 l37), (.int .i64 n39)])]), (.int .i64 0), (.sl 8 l641), (.sl 8 l646), (.int .i64 0)])]) (IntKind.i64.wrap (xi15 - 1)) xl16 n648 xl18 xl19 xl20 xl21) else none))))))))) else (bif (decide (xi13 > 0)) then (G 36 [(.int .i64 4), (.sl 1 xl16), (.int .i64 n41)] fun o649 => (uI .i64 o649 fun n651 r650 => (uI .i64 r650 fun n653 r652 => (unNil r652 (G 16 [(.agg [(.sl 1 xl18), (.sl 1 xl19), (.sl 1 xl20), (.sl 1 xl21)]), (.int .i64 (IntKind.i64.wrap (xi13 - 1))), (.sl 1 xl16), (.int .i64 n653)] fun o654 => (uL 8 o654 fun l656 r655 => (uI .i64 r655 fun n658 r657 => (unNil r657 (bif (decide (List.length xl14 + 1 ≤ 1073741824)) then (X xi13 (xl14 ++ [(.agg [(.int .i64 7), (.str ⟨#[]⟩), (.str ⟨#[]⟩), (.sl 5 []), (.int .i64 (IntKind.i64.wrap (1 + n651))), (.sl 8 l656), (.sl 8 []), (.int .i64 0)])]) (IntKind.i64.wrap (xi15 - 1)) xl16 n658 xl18 xl19 xl20 xl21) else none))))))))) else (X xi13 xl14 (IntKind.i64.wrap (xi15 - 1)) xl16 n41 xl18 xl19 xl20 xl21))) else (bif (decide (xi13 > 0)) then (G 36 [(.int .i64 4), (.sl 1 xl16), (.int .i64 n41)] fun o659 => (uI .i64 o659 fun n661 r660 => (uI .i64 r660 fun n663 r662 => (unNil r662 (G 16 [(.agg [(.sl 1 xl18), (.sl 1 xl19), (.sl 1 xl20), (.sl 1 xl21)]), (.int .i64 (IntKind.i64.wrap (xi13 - 1))), (.sl 1 xl16), (.int .i64 n663)] fun o664 => (uL 8 o664 fun l666 r665 => (uI .i64 r665 fun n668 r667 => (unNil r667 (bif (decide (List.length xl14 + 1 ≤ 1073741824)) then (X xi13 (xl14 ++ [(.agg [(.int .i64 7), (.str ⟨#[]⟩), (.str ⟨#[]⟩), (.sl 5 []), (.int .i64 (IntKind.i64.wrap (1 + n661))), (.sl 8 l666), (.sl 8 []), (.int .i64 0)])]) (IntKind.i64.wrap (xi15 - 1)) xl16 n668 xl18 xl19 xl20 xl21) else none))))))))) else (X xi13 xl14 (IntKind.i64.wrap (xi15 - 1)) xl16 n41 xl18 xl19 xl20 xl21)))))))))))))))))))))) else (Ko xl14 xl16 xi17))
def l16_0g {R : Type} (G : ORC R) (k : Nat) (Ko : List V → List V → Int → Option R) : Nat → Int → List V → Int → List V → Int → List V → List V → List V → List V → Option R
  | 0 => fun _ _ _ _ _ _ _ _ _ => none
  | j + 1 => b16_0 G k (l16_0g G k Ko j) Ko
def l16_0 {R : Type} (G : ORC R) (k : Nat) (xi13 : Int) (xl14 : List V) (xi15 : Int) (xl16 : List V) (xi17 : Int) (xl18 xl19 : List V) (xl20 xl21 : List V) (Ko : List V → List V → Int → Option R) : Option R := l16_0g G k Ko k xi13 xl14 xi15 xl16 xi17 xl18 xl19 xl20 xl21
def rd16_0 {R : Type} (G : ORC R) (k : Nat) (K : Ex → St → Option R) (j : Nat) (vs : List V) : Option R := match vs with
  | [(.int .i64 xi13), (.sl 8 xl14), (.int .i64 xi15), (.sl 1 xl16), (.int .i64 xi17), (.sl 1 xl18), (.sl 1 xl19), (.sl 1 xl20), (.sl 1 xl21)] => l16_0g G k (fun yl672 yl673 yi674 => K .normal (P16_0x.inst [(.sl 8 yl672), (.sl 1 yl673), (.int .i64 yi674)])) j xi13 xl14 xi15 xl16 xi17 xl18 xl19 xl20 xl21
  | _ => none
def L16 {R : Type} (G : ORC R) (k : Nat) : Nat → St → (Ex → St → Option R) → Option R
  | 0, S, K => P16_0h.mat S fun vs => rd16_0 G k K k vs
  | _, _, _ => none
def f16 {R : Type} (G : ORC R) (k : Nat) (al1 al2 : List V) (al3 al4 : List V) (ai5 : Int) (bl6 : List V) (bi7 : Int) (K : List V → Option R) : Option R :=
  (G 36 [(.int .i64 3), (.sl 1 bl6), (.int .i64 bi7)] fun o8 => (uI .i64 o8 fun n10 r9 => (uI .i64 r9 fun n12 r11 => (unNil r11 (l16_0 G k ai5 [] n10 bl6 n12 al1 al2 al3 al4 (fun yl669 yl670 yi671 => (K [(.sl 8 yl669), (.int .i64 yi671)])))))))
noncomputable def D16_0 : LoopD := { id := 0, body := loopAt 0 (bodyOf Try.f16), head := P16_0h, out := P16_0x, ret := default }
theorem l16_0_is {R : Type} (G : ORC R) (k : Nat) (X : List V → Option R) (K : Ex → St → Option R) (xi13 : Int) (xl14 : List V) (xi15 : Int) (xl16 : List V) (xi17 : Int) (xl18 xl19 : List V) (xl20 xl21 : List V) :
    roundOf (TAB.env 16) G (L16 G k) D16_0 X K [(.int .i64 xi13), (.sl 8 xl14), (.int .i64 xi15), (.sl 1 xl16), (.int .i64 xi17), (.sl 1 xl18), (.sl 1 xl19), (.sl 1 xl20), (.sl 1 xl21)] = b16_0 G k (fun xi13 xl14 xi15 xl16 xi17 xl18 xl19 xl20 xl21 => X [(.int .i64 xi13), (.sl 8 xl14), (.int .i64 xi15), (.sl 1 xl16), (.int .i64 xi17), (.sl 1 xl18), (.sl 1 xl19), (.sl 1 xl20), (.sl 1 xl21)]) (fun yl672 yl673 yi674 => K .normal (P16_0x.inst [(.sl 8 yl672), (.sl 1 yl673), (.int .i64 yi674)])) xi13 xl14 xi15 xl16 xi17 xl18 xl19 xl20 xl21 := by kernel_rfl
theorem f16_is {R : Type} (G : ORC R) (k : Nat) (K : List V → Option R) (al1 al2 : List V) (al3 al4 : List V) (ai5 : Int) (bl6 : List V) (bi7 : Int) :
    callF (TAB.env 16) G (L16 G k) Try.f16 S16 [(.agg [(.sl 1 al1), (.sl 1 al2), (.sl 1 al3), (.sl 1 al4)]), (.int .i64 ai5), (.sl 1 bl6), (.int .i64 bi7)] K = f16 G k al1 al2 al3 al4 ai5 bl6 bi7 K := by kernel_rfl
theorem li16_0 {R : Type} (G : ORC R) (k : Nat) : LoopIs (TAB.env 16) G (L16 G k) 0 (loopAt 0 (bodyOf Try.f16)) :=
  ⟨D16_0, fun j vs K => rd16_0 G k K j vs, k, rfl, rfl, by kernel_rfl, by kernel_rfl, by kernel_rfl, (fun vs K => by unfold rd16_0; dsimp only; split <;> rfl),
    (fun j vs K r h => by
      unfold rd16_0 at h
      dsimp only at h
      split at h
      · rw [l16_0_is]; exact h
      · cases h), (fun S K r h => h)⟩
theorem lo16 : loopsOf (bodyOf Try.f16) = [(0, loopAt 0 (bodyOf Try.f16))] := by kernel_rfl
theorem la16 {R : Type} (G : ORC R) (k : Nat) : LoopsAre (TAB.env 16) G (L16 G k) (bodyOf Try.f16) :=
  loopsAre_of (by rw [lo16]; intro p hp; simp only [List.mem_cons, List.not_mem_nil, or_false] at hp; subst hp; exact li16_0 G k)
def g16 {R : Type} (G : ORC R) (k : Nat) (args : List V) (K : List V → Option R) : Option R := match args with
  | [(.agg [(.sl 1 al1), (.sl 1 al2), (.sl 1 al3), (.sl 1 al4)]), (.int .i64 ai5), (.sl 1 bl6), (.int .i64 bi7)] => f16 G k al1 al2 al3 al4 ai5 bl6 bi7 K
  | _ => none
theorem s16 {R : Type} {G : ORC R} {k : Nat} (hG : Sound Try.prog TAB G) (args : List V) (K : List V → Option R) (r : R) (h : g16 G k args K = some r) : ∃ o, CallOK Try.prog TAB.env 16 args o ∧ K o = some r := by
  unfold g16 at h
  split at h
  · rw [← f16_is] at h
    exact callF_sound (f := 16) TAB_chk MO hG Try.func16 (sg := S16) (by kernel_rfl) (by kernel_rfl) (la16 G k) h
  · cases h
end Go.Proofs.Ytdfjodnkplbffaa.Vm
open Go Go.VM
set_option linter.unusedVariables false
set_option maxRecDepth 100000
set_option maxHeartbeats 8000000
namespace Go.Proofs.Ytdfjodnkplbffaa.Vm
section
variable {R : Type} {G : ORC R} {k : Nat} {K : List V → Option R}
def BlockOK (d : Nat) (G : ORC R) : Prop := ∀ (a b c s L : List V) (n i : Int) (K : List V → Option R), n = (d : Int) → StrsS 100 a → StrsS 100 b → StrsS 100 c → StrsS 100 s → RowS L i →
  W (fun o => ∃ q j, o = [.sl 8 q, .int .i64 j] ∧ BlockS (d + 1) q ∧ RowS L j) K (G 16 [.agg [.sl 1 a, .sl 1 b, .sl 1 c, .sl 1 s], .int .i64 n, .sl 1 L, .int .i64 i] K)
theorem act_mk {d : Nat} {kind n : Int} {nm ev : ByteArray} {x th el : List V} (h1 : ActN kind n) (h2 : StrS nm) (h3 : StrS ev) (h4 : 1 ≤ kind ∧ kind ≤ 7) (h5 : x.length ≤ 1) (h6 : ∀ e ∈ x, ExprS 3 e) (h7 : kind = 6 → x.length = 1) (h8 : BlockS d th) (h9 : BlockS d el) :
    ActS (d + 1) (.agg [.int .i64 kind, .str nm, .str ev, .sl 5 x, .int .i64 n, .sl 8 th, .sl 8 el, .int .i64 0]) := ⟨kind, nm, ev, x, n, th, el, rfl, h1, h2, h3, h4.1, h4.2, h5, h6, h7, h8.1, h9.1, h8.2, h9.2⟩
theorem block0 {d : Nat} : BlockS d [] := ⟨by simp, by simp⟩
theorem take_one {e : V} {n : Nat} (h : ExprS 3 e) : (List.take n [e]).length ≤ 1 ∧ ∀ v ∈ List.take n [e], ExprS 3 v :=
  ⟨by simp [List.length_take]; omega, fun v hv => one_mem h v (List.mem_of_mem_take hv)⟩
theorem num_of {n : Int} (h : I64 n) : ∀ e ∈ [V.agg [.int .i64 1, .int .i64 n, .str ⟨#[]⟩, .sl 5 [], .int .i64 0]], ExprS 3 e := one_mem (expr_mk (d := 2) h strs0 ⟨by omega, by omega⟩ (by simp) (by simp) (by omega))
theorem i64_0 : I64 0 := by unfold I64; omega
theorem block_round {d : Nat} (hd : d ≤ 3) (hN : NextS G) (hPk : PickS G) (hEv : EventS G) (hE : ExprOK 2 G) (hB : ∀ d', d = d' + 1 → BlockOK d' G) {Q : List V → Prop} {K : List V → Option R} {a b c s L acc : List V} {n i dd : Int}
    (X : Int → List V → Int → List V → Int → List V → List V → List V → List V → Option R) (Ko : List V → List V → Int → Option R)
    (hdd : dd = (d : Int)) (ha : StrsS 100 a) (hb : StrsS 100 b) (hc : StrsS 100 c) (hs : StrsS 100 s) (hr : RowS L i) (hn : n > 0) (hacc : acc.length ≤ 2)
    (hX1 : ∀ v j, ActS (d + 1) v → RowS L j → W Q K (X dd (acc ++ [v]) (IntKind.i64.wrap (n - 1)) L j a b c s))
    (hX0 : ∀ j, RowS L j → W Q K (X dd acc (IntKind.i64.wrap (n - 1)) L j a b c s)) :
    W Q K (b16_0 G k X Ko dd acc n L i a b c s) := by
  unfold b16_0
  unfold NextS at hN; unfold PickS at hPk; unfold EventS at hEv; unfold ExprOK at hE; unfold BlockOK at hB
  have la := ha.1
  have lb := hb.1
  have lc := hc.1
  refine W_yes hn ?_
  refine W_call (hN _ _ _ _ (by omega) (by omega) hr) ?_
  rintro _ ⟨x, i1, rfl, x1, x2, hr1⟩
  refine W_uI (W_uI (W_unNil ?_))
  refine W_call (hE _ _ _ _ _ _ _ _ (by rfl) ha hs hr1) ?_
  rintro _ ⟨e, i2, rfl, he, hr2⟩
  have he2 := he
  obtain ⟨_, _, _, _, rfl, _⟩ := he
  repeat (with_reducible (first | (refine W_uI ?_) | (refine W_uS ?_) | (refine W_uL ?_) | (refine W_uA ?_) | (refine W_uB ?_) | (refine W_aI ?_) | (refine W_aL ?_) | (refine W_ca3 ?_) | (refine W_ce3 ?_) | (refine W_ca4 ?_) | (refine W_ce4 ?_) | (refine W_ca5 ?_) | (refine W_ce5 ?_) | (refine W_ca6 ?_) | (refine W_ce6 ?_) | (refine W_ca7 ?_) | (refine W_ce7 ?_) | (refine W_ca8 ?_) | (refine W_ce8 ?_) | (refine W_unCons ?_) | (refine W_unNil ?_) | (refine W_asInt ?_) | (refine W_asStr ?_) | (refine W_asSl ?_) | (refine W_asAgg ?_) | (refine W_kd ?_) | (refine W_z ?_)))
  have ht := take_one (n := 0) he2
  by_cases hd0 : d = 0
  · have hdd0 : ¬ dd > 0 := by omega
    clear hB
    repeat' (first
      | with_reducible (first | (refine W_uI ?_) | (refine W_uS ?_) | (refine W_uL ?_) | (refine W_uA ?_) | (refine W_uB ?_) | (refine W_aI ?_) | (refine W_aL ?_) | (refine W_ca3 ?_) | (refine W_ce3 ?_) | (refine W_ca4 ?_) | (refine W_ce4 ?_) | (refine W_ca5 ?_) | (refine W_ce5 ?_) | (refine W_ca6 ?_) | (refine W_ce6 ?_) | (refine W_ca7 ?_) | (refine W_ce7 ?_) | (refine W_ca8 ?_) | (refine W_ce8 ?_) | (refine W_unCons ?_) | (refine W_unNil ?_) | (refine W_asInt ?_) | (refine W_asStr ?_) | (refine W_asSl ?_) | (refine W_asAgg ?_) | (refine W_kd ?_) | (refine W_z ?_))
      | ((with_reducible (refine W_call (hN _ _ _ _ ?_ ?_ (by assumption)) ?_)); omega; omega; rintro _ ⟨_, _, rfl, _, _, _⟩)
      | ((with_reducible (refine W_call (hPk _ _ _ _ 100 _ (by assumption) ?_ strs0 (by assumption)) ?_)); omega; rintro _ ⟨_, _, rfl, _, _, _⟩)
      | ((with_reducible (refine W_call (hEv _ _) ?_)); rintro _ ⟨_, rfl, _⟩)
      | (with_reducible (refine W_and ?_)) | ((with_reducible (refine W_no hdd0 ?_))) | ((with_reducible (refine W_yes ?_ ?_)); omega) | ((with_reducible (refine W_no ?_ ?_)); omega) | ((with_reducible (refine W_eqY ?_ ?_)); omega) | ((with_reducible (refine W_eqN ?_ ?_)); omega)
      | (with_reducible (refine W_dec (fun _ => ?_) (fun _ => ?_))) | (with_reducible (refine W_beqI (fun _ => ?_) (fun _ => ?_)))
      | (with_reducible (exact hX0 _ (by assumption)))
      | ((with_reducible (refine hX1 _ _ ?_ (by assumption)));
         exact act_mk (by first | exact ⟨i64_0, by omega⟩ | (rw [wrap_id (by omega)]; unfold ActN I64; omega)) (by first | assumption | exact strs0) (by first | assumption | exact strs0) ⟨by omega, by omega⟩
           (by first | exact Nat.le_refl 1 | exact Nat.zero_le 1 | exact (take_one he2).1) (by first | exact one_mem he2 | exact (take_one he2).2 | exact num_of (by rw [wrap_id (by omega)]; unfold I64; omega) | simp) (by first | omega | exact fun _ => rfl) block0 block0))
  · obtain ⟨d', rfl⟩ : ∃ d', d = d' + 1 := ⟨d - 1, by omega⟩
    have hdd0 : dd > 0 := by omega
    have hB := hB d' rfl
    have hBn : IntKind.i64.wrap (dd - 1) = (d' : Int) := by rw [wrap_id (by omega)]; omega
    repeat' (first
      | with_reducible (first | (refine W_uI ?_) | (refine W_uS ?_) | (refine W_uL ?_) | (refine W_uA ?_) | (refine W_uB ?_) | (refine W_aI ?_) | (refine W_aL ?_) | (refine W_ca3 ?_) | (refine W_ce3 ?_) | (refine W_ca4 ?_) | (refine W_ce4 ?_) | (refine W_ca5 ?_) | (refine W_ce5 ?_) | (refine W_ca6 ?_) | (refine W_ce6 ?_) | (refine W_ca7 ?_) | (refine W_ce7 ?_) | (refine W_ca8 ?_) | (refine W_ce8 ?_) | (refine W_unCons ?_) | (refine W_unNil ?_) | (refine W_asInt ?_) | (refine W_asStr ?_) | (refine W_asSl ?_) | (refine W_asAgg ?_) | (refine W_kd ?_) | (refine W_z ?_))
      | ((with_reducible (refine W_call (hN _ _ _ _ ?_ ?_ (by assumption)) ?_)); omega; omega; rintro _ ⟨_, _, rfl, _, _, _⟩)
      | ((with_reducible (refine W_call (hPk _ _ _ _ 100 _ (by assumption) ?_ strs0 (by assumption)) ?_)); omega; rintro _ ⟨_, _, rfl, _, _, _⟩)
      | ((with_reducible (refine W_call (hEv _ _) ?_)); rintro _ ⟨_, rfl, _⟩)
      | ((with_reducible (refine W_call (hB _ _ _ _ _ _ _ _ hBn (by assumption) (by assumption) (by assumption) (by assumption) (by assumption)) ?_)); rintro _ ⟨_, _, rfl, _, _⟩)
      | (with_reducible (refine W_and ?_)) | ((with_reducible (refine W_yes hdd0 ?_))) | ((with_reducible (refine W_yes ?_ ?_)); omega) | ((with_reducible (refine W_no ?_ ?_)); omega) | ((with_reducible (refine W_eqY ?_ ?_)); omega) | ((with_reducible (refine W_eqN ?_ ?_)); omega)
      | (with_reducible (refine W_dec (fun _ => ?_) (fun _ => ?_))) | (with_reducible (refine W_beqI (fun _ => ?_) (fun _ => ?_)))
      | (with_reducible (exact hX0 _ (by assumption)))
      | ((with_reducible (refine hX1 _ _ ?_ (by assumption)));
         exact act_mk (by first | exact ⟨i64_0, by omega⟩ | (rw [wrap_id (by omega)]; unfold ActN I64; omega)) (by first | assumption | exact strs0) (by first | assumption | exact strs0) ⟨by omega, by omega⟩
           (by first | exact Nat.le_refl 1 | exact Nat.zero_le 1 | exact (take_one he2).1) (by first | exact one_mem he2 | exact (take_one he2).2 | exact num_of (by rw [wrap_id (by omega)]; unfold I64; omega) | simp) (by first | omega | exact fun _ => rfl) (by first | assumption | exact block0) (by first | assumption | exact block0)))
theorem block_loop {d : Nat} (hd : d ≤ 3) (hN : NextS G) (hPk : PickS G) (hEv : EventS G) (hE : ExprOK 2 G) (hB : ∀ d', d = d' + 1 → BlockOK d' G) {Q : List V → Prop} {K : List V → Option R} {a b c s L : List V} {dd : Int} {Ko : List V → List V → Int → Option R}
    (hdd : dd = (d : Int)) (ha : StrsS 100 a) (hb : StrsS 100 b) (hc : StrsS 100 c) (hs : StrsS 100 s) (hKo : ∀ q j, BlockS (d + 1) q → RowS L j → W Q K (Ko q L j)) :
    ∀ (j : Nat) (acc : List V) (n i : Int), n < j → (acc.length : Int) + n ≤ 2 → 0 ≤ n → (∀ v ∈ acc, ActS (d + 1) v) → RowS L i → W Q K (l16_0g G k Ko j dd acc n L i a b c s)
  | 0, acc, n, i, h1, h2, h3, h4, h5 => by omega
  | j + 1, acc, n, i, h1, h2, h3, h4, h5 => by
    show W Q K (b16_0 G k (l16_0g G k Ko j) Ko dd acc n L i a b c s)
    by_cases hn : n > 0
    · refine block_round hd hN hPk hEv hE hB _ _ hdd ha hb hc hs h5 hn (by omega) (fun v j' hv hj => ?_) (fun j' hj => ?_)
      · refine block_loop hd hN hPk hEv hE hB hdd ha hb hc hs hKo j _ _ j' (by rw [wrap_id (by omega)]; omega) (by rw [wrap_id (by omega)]; simp; omega) (by rw [wrap_id (by omega)]; omega) ?_ hj
        intro w hw
        rcases List.mem_append.1 hw with hw | hw
        · exact h4 w hw
        · rw [List.mem_singleton.1 hw]; exact hv
      · exact block_loop hd hN hPk hEv hE hB hdd ha hb hc hs hKo j _ _ j' (by rw [wrap_id (by omega)]; omega) (by rw [wrap_id (by omega)]; omega) (by rw [wrap_id (by omega)]; omega) h4 hj
    · unfold b16_0
      exact W_no hn (hKo acc i ⟨by omega, h4⟩ h5)
theorem block_ok {d : Nat} (hk : 1000 ≤ k) (hd : d ≤ 3) (hN : NextS G) (hPk : PickS G) (hEv : EventS G) (hE : ExprOK 2 G) (hB : ∀ d', d = d' + 1 → BlockOK d' G) : BlockOK d (fun _ args (K : List V → Option R) => g16 G k args K) := by
  intro a b c s L n i K hn ha hb hc hs hr
  show W _ K (f16 G k a b c s n L i K)
  unfold f16
  refine W_call (hN _ _ _ _ (by omega) (by omega) hr) ?_
  rintro _ ⟨x, i1, rfl, x1, x2, hr1⟩
  refine W_uI (W_uI (W_unNil ?_))
  unfold l16_0
  exact block_loop hd hN hPk hEv hE hB hn ha hb hc hs (fun q j hq hj => W_ret ⟨_, _, rfl, hq, hj⟩) k [] x i1 (by omega) (by simp; omega) x1 (by simp) hr1
end
end Go.Proofs.Ytdfjodnkplbffaa.Vm
open Go Go.VM
set_option linter.unusedVariables false
set_option maxRecDepth 100000
set_option maxHeartbeats 4000000
namespace Go.Proofs.Ytdfjodnkplbffaa.Vm
/-! ### cotillion/cotillionlaw16.CodeBlocks: function 3 -/
def L3 {R : Type} (_ : ORC R) (_ : Nat) : Nat → St → (Ex → St → Option R) → Option R := fun _ _ _ => none
def f3 {R : Type} (G : ORC R) (k : Nat) (al1 : List V) (K : List V → Option R) : Option R :=
  (bif (decide (((List.length al1 : Nat) : Int) > 200)) then (G 14 [] fun o2 => (uB o2 fun b4 r3 => (unNil r3 (K [(.bool b4)])))) else (G 15 [] fun o5 => (uA o5 fun l7 r6 => (uL 1 l7 fun l9 r8 => (uL 1 r8 fun l11 r10 => (uL 1 r10 fun l13 r12 => (uL 1 r12 fun l15 r14 => (unNil r14 (uA r6 fun l17 r16 => (uL 1 l17 fun l19 r18 => (uL 1 r18 fun l21 r20 => (uL 1 r20 fun l23 r22 => (uL 7 r22 fun l25 r24 => (unNil r24 (uA r16 fun l27 r26 => (uL 1 l27 fun l29 r28 => (uL 1 r28 fun l31 r30 => (uL 1 r30 fun l33 r32 => (uL 7 r32 fun l35 r34 => (unNil r34 (unNil r26 (G 16 [(.agg [(.sl 1 l9), (.sl 1 l11), (.sl 1 l13), (.sl 1 l15)]), (.int .i64 3), (.sl 1 al1), (.int .i64 0)] fun o36 => (uL 8 o36 fun l38 r37 => (uI .i64 r37 fun n40 r39 => (unNil r39 (G 18 [(.sl 8 l38), (.agg [(.sl 1 l19), (.sl 1 l21), (.sl 1 l23), (.sl 7 l25)])] fun o41 => (uL 4 o41 fun l43 r42 => (unNil r42 (G 19 [(.sl 8 l38), (.agg [(.sl 1 l29), (.sl 1 l31), (.sl 1 l33), (.sl 7 l35)])] fun o44 => (uL 4 o44 fun l46 r45 => (unNil r45 (G 17 [(.sl 4 l43), (.sl 4 l46)] fun o47 => (uB o47 fun b49 r48 => (unNil r48 (bif b49 then (G 14 [] fun o50 => (uB o50 fun b52 r51 => (unNil r51 (K [(.bool b52)])))) else (K [(.bool false)]))))))))))))))))))))))))))))))))))))
theorem f3_is {R : Type} (G : ORC R) (k : Nat) (K : List V → Option R) (al1 : List V) :
    callF (TAB.env 3) G (L3 G k) Try.f3 S3 [(.sl 1 al1)] K = f3 G k al1 K := by kernel_rfl
theorem lo3 : loopsOf (bodyOf Try.f3) = [] := by kernel_rfl
theorem la3 {R : Type} (G : ORC R) (k : Nat) : LoopsAre (TAB.env 3) G (L3 G k) (bodyOf Try.f3) :=
  loopsAre_of (by rw [lo3]; intro p hp; cases hp)
def g3 {R : Type} (G : ORC R) (k : Nat) (args : List V) (K : List V → Option R) : Option R := match args with
  | [(.sl 1 al1)] => f3 G k al1 K
  | _ => none
theorem s3 {R : Type} {G : ORC R} {k : Nat} (hG : Sound Try.prog TAB G) (args : List V) (K : List V → Option R) (r : R) (h : g3 G k args K = some r) : ∃ o, CallOK Try.prog TAB.env 3 args o ∧ K o = some r := by
  unfold g3 at h
  split at h
  · rw [← f3_is] at h
    exact callF_sound (f := 3) TAB_chk MO hG Try.func3 (sg := S3) (by kernel_rfl) (by kernel_rfl) (la3 G k) h
  · cases h
end Go.Proofs.Ytdfjodnkplbffaa.Vm
open Go Go.VM
set_option linter.unusedVariables false
set_option linter.unusedSimpArgs false
set_option maxRecDepth 100000
set_option maxHeartbeats 8000000
namespace Go.Proofs.Ytdfjodnkplbffaa.Vm
section
variable {R : Type} {G : ORC R} {k : Nat} {K : List V → Option R}
theorem scS_strs : StrsS 100 scS := by
  refine ⟨by decide, fun v hv => ?_⟩
  simp only [scS, List.mem_cons, List.not_mem_nil, or_false] at hv
  rcases hv with rfl | rfl
  · exact ⟨_, rfl, by unfold StrS; decide⟩
  · exact ⟨_, rfl, by unfold StrS; decide⟩
def BlocksOK (G : ORC R) : Prop := ∀ (v : List V) (K : List V → Option R), IntsS v → W (fun o => o = [.bool true]) K (G 3 [.sl 1 v] K)
theorem blocks_law (hKn : KnC G) (hNm : NamedX G) (hB : BlockOK 3 G) (hR : BlX 19 4 G) (hC : BlX 18 4 G) (hS : SameC G) : BlocksOK (fun _ args (K : List V → Option R) => g3 G k args K) := by
  intro v K hv
  show W _ K (f3 G k v K)
  unfold f3
  refine W_dec (fun _ => knc_go hKn) (fun h => ?_)
  rw [hNm]
  unfold scV Nms.v
  (repeat (with_reducible (first | (refine W_uI ?_) | (refine W_uS ?_) | (refine W_uL ?_) | (refine W_uA ?_) | (refine W_uB ?_) | (refine W_aI ?_) | (refine W_aL ?_) | (refine W_ca3 ?_) | (refine W_ce3 ?_) | (refine W_ca4 ?_) | (refine W_ce4 ?_) | (refine W_ca5 ?_) | (refine W_ce5 ?_) | (refine W_ca6 ?_) | (refine W_ce6 ?_) | (refine W_ca7 ?_) | (refine W_ce7 ?_) | (refine W_ca8 ?_) | (refine W_ce8 ?_) | (refine W_nd7 ?_) | (refine W_unCons ?_) | (refine W_unNil ?_) | (refine W_asInt ?_) | (refine W_asBool ?_) | (refine W_asStr ?_) | (refine W_asSl ?_) | (refine W_asAgg ?_) | (refine W_kd ?_) | (refine W_z ?_))))
  unfold BlockOK at hB; unfold BlX at hR hC; unfold SameC at hS
  have hN := N0_ok
  refine W_call (hB _ _ _ _ _ _ _ _ rfl hN.1 hN.2.1 hN.2.2.1 scS_strs ⟨hv, by omega, by omega, by omega⟩) ?_
  rintro _ ⟨l, j, rfl, hl, hj⟩
  (repeat (with_reducible (first | (refine W_uI ?_) | (refine W_uS ?_) | (refine W_uL ?_) | (refine W_uA ?_) | (refine W_uB ?_) | (refine W_aI ?_) | (refine W_aL ?_) | (refine W_ca3 ?_) | (refine W_ce3 ?_) | (refine W_ca4 ?_) | (refine W_ce4 ?_) | (refine W_ca5 ?_) | (refine W_ce5 ?_) | (refine W_ca6 ?_) | (refine W_ce6 ?_) | (refine W_ca7 ?_) | (refine W_ce7 ?_) | (refine W_ca8 ?_) | (refine W_ce8 ?_) | (refine W_nd7 ?_) | (refine W_unCons ?_) | (refine W_unNil ?_) | (refine W_asInt ?_) | (refine W_asBool ?_) | (refine W_asStr ?_) | (refine W_asSl ?_) | (refine W_asAgg ?_) | (refine W_kd ?_) | (refine W_z ?_))))
  refine W_call (hC _ N0 _ hl hN) ?_
  rintro _ rfl
  refine W_uL (W_unNil ?_)
  refine W_call (hR _ N0 _ hl hN) ?_
  rintro _ rfl
  refine W_uL (W_unNil ?_)
  refine W_call (hS _ _ (cBl_all hl) (Nat.le_trans (cBl_len hl) (by decide))) ?_
  rintro _ rfl
  exact W_uB (W_unNil (W_chk rfl (knc_go hKn)))
end
end Go.Proofs.Ytdfjodnkplbffaa.Vm
open Go Go.VM
set_option linter.unusedVariables false
set_option linter.unusedSimpArgs false
set_option maxRecDepth 100000
set_option maxHeartbeats 8000000
namespace Go.Proofs.Ytdfjodnkplbffaa.Vm
section
/-- A code from a place on; its jumps go onward, to `e` at most; how often each instruction is done. -/
inductive Seg (e : Nat) : Nat → List V → List Int → Prop
  | nil {p : Nat} : Seg e p [] []
  | one {p : Nat} {op a n : Int} {s : ByteArray} {c : List V} {t : List Int} : op ≠ 25 → op ≠ 26 → (op = 23 ∨ op = 24 → (p : Int) < a ∧ a ≤ e) → Seg e (p + 1) c t → Seg e p (insS op a n s :: c) (1 :: t)
  | loop {p : Nat} {n : Int} {B c : List V} {tb t : List Int} : 1 ≤ n → n ≤ 16 → Seg e (p + 1) B tb → p + B.length + 2 ≤ e → Seg e (p + B.length + 2) c t →
      Seg e p (ins 25 (p + B.length + 2 : Nat) n :: (B ++ ins 26 p 0 :: c)) (1 :: (tb.map (n * ·) ++ n :: t))
theorem seg_app {e : Nat} {p q : Nat} {c c' : List V} {t t' : List Int} (h : Seg e p c t) (hq : q = p + c.length) (h' : Seg e q c' t') : Seg e p (c ++ c') (t ++ t') := by
  induction h with
  | nil => rw [List.length_nil, Nat.add_zero] at hq; subst hq; exact h'
  | one h1 h2 h3 h4 ih => exact .one h1 h2 h3 (ih (by rw [List.length_cons] at hq; omega))
  | @loop p n B c tb t h1 h2 h3 h4 h5 ih1 ih2 =>
    have := Seg.loop h1 h2 h3 h4 (ih2 (by simp at hq; omega))
    simpa using this
theorem seg_one {e p : Nat} {op a n : Int} {s : ByteArray} (h1 : op ≠ 25) (h2 : op ≠ 26) (h3 : op = 23 ∨ op = 24 → (p : Int) < a ∧ a ≤ e) : Seg e p [insS op a n s] [1] := .one h1 h2 h3 .nil
theorem seg_len {e p : Nat} {c : List V} {t : List Int} (h : Seg e p c t) : c.length = t.length := by
  induction h with
  | nil => rfl
  | one _ _ _ _ ih => simp [ih]
  | loop _ _ _ _ _ ih1 ih2 => simp [ih1, ih2]
/-- A code that may lie anywhere, with the same counts. -/
def Sh (F : Nat → List V) (t : List Int) (m : Int) : Prop := (∀ q e, q + t.length ≤ e → Seg e q (F q) t) ∧ ∀ x ∈ t, 1 ≤ x ∧ x ≤ m
theorem sh_len {F : Nat → List V} {t : List Int} {m : Int} (h : Sh F t m) (q : Nat) : (F q).length = t.length := seg_len (h.1 q (q + t.length) (Nat.le_refl _))
theorem sh_mono {F : Nat → List V} {t : List Int} {m m' : Int} (h : Sh F t m) (hm : m ≤ m') : Sh F t m' := ⟨h.1, fun x hx => ⟨(h.2 x hx).1, Int.le_trans (h.2 x hx).2 hm⟩⟩
theorem sh_nil {m : Int} : Sh (fun _ => []) [] m := ⟨fun q e h => .nil, fun x hx => by cases hx⟩
theorem sh_eq {F F' : Nat → List V} {t : List Int} {m : Int} (h : Sh F t m) (he : ∀ q, F' q = F q) : Sh F' t m := ⟨fun q e hq => by rw [he]; exact h.1 q e hq, h.2⟩
theorem sh_app {F F' : Nat → List V} {t t' : List Int} {m : Int} (h : Sh F t m) (h' : Sh F' t' m) : Sh (fun q => F q ++ F' (q + (F q).length)) (t ++ t') m := by
  refine ⟨fun q e hq => ?_, fun x hx => ?_⟩
  · rw [List.length_append] at hq
    exact seg_app (h.1 q e (by omega)) rfl (by rw [sh_len h q]; exact h'.1 _ e (by omega))
  · rcases List.mem_append.1 hx with hx | hx
    · exact h.2 x hx
    · exact h'.2 x hx
theorem sh_one {op a n : Int} {s : ByteArray} {m : Int} (hm : 1 ≤ m) (h1 : op ≤ 22) : Sh (fun _ => [insS op a n s]) [1] m :=
  ⟨fun q e hq => seg_one (by omega) (by omega) (fun h => by omega), fun x hx => by rw [List.mem_singleton.1 hx]; omega⟩
theorem sh_loop {F : Nat → List V} {t : List Int} {m n : Int} (h1 : 1 ≤ n) (h2 : n ≤ 16) (hm : 1 ≤ m) (h : Sh F t m) : Sh (fun q => loopX q n (F (q + 1))) (1 :: (t.map (n * ·) ++ [n])) (16 * m) := by
  refine ⟨fun q e hq => ?_, fun x hx => ?_⟩
  · simp only [List.length_cons, List.length_append, List.length_map, List.length_nil] at hq
    exact .loop h1 h2 (h.1 _ e (by omega)) (by rw [sh_len h]; omega) .nil
  · simp only [List.mem_cons, List.mem_append, List.mem_map, List.not_mem_nil, or_false] at hx
    rcases hx with rfl | ⟨y, hy, rfl⟩ | rfl
    · omega
    · obtain ⟨y1, y2⟩ := h.2 y hy
      have e1 : 1 * 1 ≤ n * y := Int.mul_le_mul h1 y1 (by omega) (by omega)
      have e2 : n * y ≤ 16 * m := Int.mul_le_mul h2 y2 (by omega) (by omega)
      omega
    · omega
theorem sh_and {F F' : Nat → List V} {t t' : List Int} {m : Int} (hm : 1 ≤ m) (h : Sh F t m) (h' : Sh F' t' m) : Sh (fun q => andX q (F q) (F' (q + (F q).length + 1))) (t ++ (1 :: (t' ++ [1, 1, 1, 1]))) m := by
  refine ⟨fun q e hq => ?_, fun x hx => ?_⟩
  · simp only [List.length_append, List.length_cons, List.length_nil] at hq
    have l := sh_len h q
    have l' := sh_len h' (q + (F q).length + 1)
    refine seg_app (h.1 q e (by omega)) rfl (.one (by omega) (by omega) (fun _ => by omega) (seg_app (h'.1 _ e (by omega)) rfl ?_))
    exact .one (by omega) (by omega) (fun _ => by omega) (.one (by omega) (by omega) (fun _ => by omega) (.one (by omega) (by omega) (fun _ => by omega) (seg_one (by omega) (by omega) (fun _ => by omega))))
  · simp only [List.mem_append, List.mem_cons, List.not_mem_nil, or_false] at hx
    rcases hx with hx | rfl | hx | rfl | rfl | rfl | rfl
    · exact h.2 x hx
    · omega
    · exact h'.2 x hx
    all_goals omega
theorem sh_or {F F' : Nat → List V} {t t' : List Int} {m : Int} (hm : 1 ≤ m) (h : Sh F t m) (h' : Sh F' t' m) : Sh (fun q => orX q (F q) (F' (q + (F q).length + 3))) (t ++ (1 :: 1 :: 1 :: (t' ++ [1, 1, 1, 1]))) m := by
  refine ⟨fun q e hq => ?_, fun x hx => ?_⟩
  · simp only [List.length_append, List.length_cons, List.length_nil] at hq
    have l := sh_len h q
    have l' := sh_len h' (q + (F q).length + 3)
    have ho : ∀ (q : Nat) (A B : List V), orX q A B = A ++ ins 24 (q + A.length + 3) 0 :: ins 1 0 1 :: ins 23 (q + A.length + 3 + B.length + 4) 0 :: (B ++ [ins 24 (q + A.length + 3 + B.length + 3) 0, ins 1 0 1, ins 23 (q + A.length + 3 + B.length + 4) 0, ins 1 0 0]) := fun q A B => by simp [orX]
    show Seg e q (orX q (F q) (F' (q + (F q).length + 3))) _
    rw [ho]
    refine seg_app (h.1 q e (by omega)) rfl (.one (by omega) (by omega) (fun _ => by omega) (.one (by omega) (by omega) (fun _ => by omega) (.one (by omega) (by omega) (fun _ => by omega) (seg_app (h'.1 _ e (by omega)) rfl ?_))))
    exact .one (by omega) (by omega) (fun _ => by omega) (.one (by omega) (by omega) (fun _ => by omega) (.one (by omega) (by omega) (fun _ => by omega) (seg_one (by omega) (by omega) (fun _ => by omega))))
  · simp only [List.mem_append, List.mem_cons, List.not_mem_nil, or_false] at hx
    rcases hx with hx | rfl | rfl | rfl | hx | rfl | rfl | rfl | rfl
    · exact h.2 x hx
    · omega
    · omega
    · omega
    · exact h'.2 x hx
    all_goals omega
theorem cE_sh {N : Nms} : ∀ {d : Nat} {x : V}, ExprS d x → ∃ t, Sh (fun q => cE N d q x) t 1
  | 0, _, h => h.elim
  | d + 1, x, h => by
    obtain ⟨kind, n, nm, kids, rfl, x1, x2, x3, x4, x5, x6, x7⟩ := h
    by_cases h1 : kind = 1
    · exact ⟨[1], sh_eq (sh_one (op := 1) (a := 0) (n := n) (s := ⟨#[]⟩) (by omega) (by omega)) fun q => by (conv => lhs; unfold cE); rw [if_pos h1]; rfl⟩
    by_cases h2 : kind = 2
    · exact ⟨[1], sh_eq (sh_one (op := 2) (a := plN N.a nm) (n := 0) (s := ⟨#[]⟩) (by omega) (by omega)) fun q => by (conv => lhs; unfold cE); rw [if_neg h1, if_pos h2]; rfl⟩
    by_cases h3 : kind = 3
    · exact ⟨[1], sh_eq (sh_one (op := 3) (a := 0) (n := 0) (s := ⟨#[]⟩) (by omega) (by omega)) fun q => by (conv => lhs; unfold cE); rw [if_neg h1, if_neg h2, if_pos h3]; rfl⟩
    by_cases h4 : kind = 4
    · exact ⟨[1], sh_eq (sh_one (op := 4) (a := findN N.nd nm) (n := 0) (s := ⟨#[]⟩) (by omega) (by omega)) fun q => by (conv => lhs; unfold cE); rw [if_neg h1, if_neg h2, if_neg h3, if_pos h4]; rfl⟩
    have hk : kids.length = 1 ∨ kids.length = 2 := by omega
    match kids, hk, x6 with
    | [a], _, x6 =>
      obtain ⟨t, ht⟩ := cE_sh (N := N) (x6 a (by simp))
      exact ⟨t ++ [1], sh_eq (sh_app ht (sh_one (op := kind) (a := 0) (n := 0) (s := ⟨#[]⟩) (by omega) (by omega))) fun q => by (conv => lhs; unfold cE); rw [if_neg h1, if_neg h2, if_neg h3, if_neg h4]; rfl⟩
    | [a, b], _, x6 =>
      obtain ⟨t, ht⟩ := cE_sh (N := N) (x6 a (by simp))
      obtain ⟨t', ht'⟩ := cE_sh (N := N) (x6 b (by simp))
      by_cases h18 : kind = 18
      · exact ⟨_, sh_eq (sh_and (by omega) ht ht') fun q => by (conv => lhs; unfold cE); rw [if_neg h1, if_neg h2, if_neg h3, if_neg h4]; dsimp only; rw [if_pos h18]⟩
      by_cases h19 : kind = 19
      · exact ⟨_, sh_eq (sh_or (by omega) ht ht') fun q => by (conv => lhs; unfold cE); rw [if_neg h1, if_neg h2, if_neg h3, if_neg h4]; dsimp only; rw [if_neg h18, if_pos h19]⟩
      · exact ⟨_, sh_eq (sh_app (sh_app ht ht') (sh_one (op := kind) (a := 0) (n := 0) (s := ⟨#[]⟩) (by omega) (by omega))) fun q => by (conv => lhs; unfold cE); rw [if_neg h1, if_neg h2, if_neg h3, if_neg h4]; dsimp only; rw [if_neg h18, if_neg h19]; rfl⟩
theorem cX_sh {N : Nms} {x : List V} (h : ∀ e ∈ x, ExprS 3 e) : ∃ t, Sh (fun q => cX N q x) t 1 := by
  cases x with
  | nil => exact ⟨[1], sh_one (op := 1) (a := 0) (n := 0) (s := ⟨#[]⟩) (by omega) (by omega)⟩
  | cons e r => exact cE_sh (N := N) (h e List.mem_cons_self)
theorem cR_sh {F : Nat → V → List V} {m : Int} : ∀ {l : List V}, (∀ a ∈ l, ∃ t, Sh (fun q => F q a) t m) → ∃ t, Sh (fun q => cR F q l) t m
  | [], _ => ⟨[], sh_nil⟩
  | a :: r, h => by
    obtain ⟨t, ht⟩ := h a List.mem_cons_self
    obtain ⟨t', ht'⟩ := cR_sh fun a ha => h a (List.mem_cons_of_mem _ ha)
    exact ⟨t ++ t', sh_app ht ht'⟩
theorem sh_if {F F' : Nat → List V} {t t' : List Int} {m : Int} (hm : 1 ≤ m) (h : Sh F t m) (h' : Sh F' t' m) : Sh (fun q => ifX q (F q) (F' (q + (F q).length + 1))) (t ++ 1 :: t') m := by
  refine ⟨fun q e hq => ?_, fun x hx => ?_⟩
  · simp only [List.length_append, List.length_cons] at hq
    have l := sh_len h q
    have l' := sh_len h' (q + (F q).length + 1)
    exact seg_app (h.1 q e (by omega)) rfl (.one (by omega) (by omega) (fun _ => by omega) (h'.1 _ e (by omega)))
  · simp only [List.mem_append, List.mem_cons] at hx
    rcases hx with hx | rfl | hx
    · exact h.2 x hx
    · omega
    · exact h'.2 x hx
theorem sh_el {F F' F'' : Nat → List V} {t t' t'' : List Int} {m : Int} (hm : 1 ≤ m) (h : Sh F t m) (h' : Sh F' t' m) (h'' : Sh F'' t'' m) :
    Sh (fun q => elX q (F q) (F' (q + (F q).length + 1)) (F'' (q + (F q).length + 1 + (F' (q + (F q).length + 1)).length + 1))) (t ++ 1 :: (t' ++ 1 :: t'')) m := by
  refine ⟨fun q e hq => ?_, fun x hx => ?_⟩
  · simp only [List.length_append, List.length_cons] at hq
    have l := sh_len h q
    have l' := sh_len h' (q + (F q).length + 1)
    have l'' := sh_len h'' (q + (F q).length + 1 + (F' (q + (F q).length + 1)).length + 1)
    exact seg_app (h.1 q e (by omega)) rfl (.one (by omega) (by omega) (fun _ => by omega) (seg_app (h'.1 _ e (by omega)) rfl (.one (by omega) (by omega) (fun _ => by omega) (h''.1 _ e (by omega)))))
  · simp only [List.mem_append, List.mem_cons] at hx
    rcases hx with hx | rfl | hx | rfl | hx
    · exact h.2 x hx
    · omega
    · exact h'.2 x hx
    · omega
    · exact h''.2 x hx
/-- How often a block's instruction is done at most, so deep. -/
def cm : Nat → Int
  | 0 => 1
  | d + 1 => 16 * cm d
theorem cm_pos : ∀ d, 1 ≤ cm d
  | 0 => by decide
  | d + 1 => by have := cm_pos d; show 1 ≤ 16 * cm d; omega
theorem cA_sh {N : Nms} : ∀ {d : Nat} {a : V}, ActS d a → ∃ t, Sh (fun q => cA N d q a) t (cm d)
  | 0, _, h => h.elim
  | d + 1, a, h => by
    obtain ⟨kind, nm, ev, x, n, th, el, rfl, x1, x2, x3, x4, x5, x6, x7, x8, x9, x10, x11, x12⟩ := h
    have hp := cm_pos d
    have hc : cm (d + 1) = 16 * cm d := rfl
    obtain ⟨tx, hx1⟩ := cX_sh (N := N) x7
    have hx := sh_mono hx1 (m' := cm d) (by omega)
    have hx' := sh_mono hx1 (m' := cm (d + 1)) (by omega)
    obtain ⟨tt, ht⟩ := cR_sh (F := cA N d) (m := cm d) (l := th) fun a ha => cA_sh (N := N) (x11 a ha)
    obtain ⟨te, he⟩ := cR_sh (F := cA N d) (m := cm d) (l := el) fun a ha => cA_sh (N := N) (x12 a ha)
    by_cases h1 : kind = 1
    · exact ⟨_, sh_eq (sh_app hx' (sh_one (op := 18) (a := plN N.a nm) (n := 0) (s := ⟨#[]⟩) (by omega) (by omega))) fun q => by (conv => lhs; unfold cA); rw [if_pos h1]; rfl⟩
    by_cases h2 : kind = 2
    · exact ⟨_, sh_eq (sh_app hx' (sh_one (op := 19) (a := 0) (n := 0) (s := ev) (by omega) (by omega))) fun q => by (conv => lhs; unfold cA); rw [if_neg h1, if_pos h2]⟩
    by_cases h3 : kind = 3
    · exact ⟨_, sh_eq (sh_app hx' (sh_one (op := 20) (a := plN N.p nm) (n := 0) (s := ev) (by omega) (by omega))) fun q => by (conv => lhs; unfold cA); rw [if_neg h1, if_neg h2, if_pos h3]⟩
    by_cases h4 : kind = 4
    · exact ⟨_, sh_eq (sh_app hx' (sh_one (op := 21) (a := plN N.t nm) (n := 0) (s := ⟨#[]⟩) (by omega) (by omega))) fun q => by (conv => lhs; unfold cA); rw [if_neg h1, if_neg h2, if_neg h3, if_pos h4]; rfl⟩
    by_cases h5 : kind = 5
    · exact ⟨_, sh_eq (sh_one (op := 22) (a := plN N.t nm) (n := 0) (s := ⟨#[]⟩) (by omega) (by omega)) fun q => by (conv => lhs; unfold cA); rw [if_neg h1, if_neg h2, if_neg h3, if_neg h4, if_pos h5]; rfl⟩
    by_cases h7 : kind = 7
    · obtain ⟨n1, n2⟩ := x1.2 h7
      exact ⟨_, sh_eq (sh_loop n1 n2 hp ht) fun q => by (conv => lhs; unfold cA); rw [if_neg h1, if_neg h2, if_neg h3, if_neg h4, if_neg h5, if_pos h7]⟩
    have hch : ∀ q, cA N (d + 1) q (.agg [.int .i64 kind, .str nm, .str ev, .sl 5 x, .int .i64 n, .sl 8 th, .sl 8 el, .int .i64 0]) = chX (cA N d) q (cX N q x) th el := fun q => by (conv => lhs; unfold cA); rw [if_neg h1, if_neg h2, if_neg h3, if_neg h4, if_neg h5, if_neg h7]
    cases el with
    | nil => exact ⟨_, sh_mono (sh_eq (sh_if hp hx ht) fun q => hch q) (by omega)⟩
    | cons e r => exact ⟨_, sh_mono (sh_eq (sh_el hp hx ht he) fun q => hch q) (by omega)⟩
theorem cBl_sh {N : Nms} {d : Nat} {l : List V} (h : BlockS d l) : ∃ t, Sh (fun q => cR (cA N d) q l) t (cm d) := cR_sh fun a ha => cA_sh (N := N) (h.2 a ha)
end
end Go.Proofs.Ytdfjodnkplbffaa.Vm
open Go Go.VM
set_option linter.unusedVariables false
set_option maxRecDepth 100000
set_option maxHeartbeats 4000000
namespace Go.Proofs.Ytdfjodnkplbffaa.Vm
/-! ### cotillion/cotillionlaw16.CodeJumps: function 5 -/
def P5_0h : Pat := { tmps := unds [] 6 (unds [.var (.sl 4) (.own true), .var (.int .i64) .pr] 138 []), boxes := nons [] 146 [] }
def P5_0x : Pat := { tmps := unds [] 146 [], boxes := nons [] 146 [] }
def P5_0r : Pat := { tmps := unds [.undef, .undef, .var .bool .pr] 143 [], boxes := nons [] 146 [] }
def b5_0 {R : Type} (G : ORC R) (k : Nat) (X : List V → Int → Option R) (Ko : Unit → Option R) (Kr : Bool → Option R) (xl44 : List V) (xi45 : Int) : Option R :=
  (bif (decide (xi45 < ((List.length xl44 : Nat) : Int))) then (bif ((decide (0 ≤ xi45)) && (decide (xi45 < ((List.length xl44 : Nat) : Int)))) then (nthK xl44 (Int.toNat xi45) fun e46 => (ca4 e46 fun c47 c48 c49 c50 => (aI .i64 c47 fun n51 => (bif (n51 == 23) then (bif (n51 == 23) then (bif ((decide (0 ≤ xi45)) && (decide (xi45 < ((List.length xl44 : Nat) : Int)))) then (nthK xl44 (Int.toNat xi45) fun e52 => (ca4 e52 fun c53 c54 c55 c56 => (aI .i64 c54 fun n57 => (bif (decide (n57 ≤ xi45)) then (Kr false) else (bif ((decide (0 ≤ xi45)) && (decide (xi45 < ((List.length xl44 : Nat) : Int)))) then (nthK xl44 (Int.toNat xi45) fun e58 => (ca4 e58 fun c59 c60 c61 c62 => (aI .i64 c60 fun n63 => (bif (decide (n63 > ((List.length xl44 : Nat) : Int))) then (Kr false) else (X xl44 (IntKind.i64.wrap (xi45 + 1))))))) else none))))) else none) else (bif (n51 == 25) then (bif ((decide (0 ≤ xi45)) && (decide (xi45 < ((List.length xl44 : Nat) : Int)))) then (nthK xl44 (Int.toNat xi45) fun e64 => (ca4 e64 fun c65 c66 c67 c68 => (aI .i64 c66 fun n69 => (bif (decide (n69 ≤ (IntKind.i64.wrap (xi45 + 1)))) then (Kr false) else (bif ((decide (0 ≤ xi45)) && (decide (xi45 < ((List.length xl44 : Nat) : Int)))) then (nthK xl44 (Int.toNat xi45) fun e70 => (ca4 e70 fun c71 c72 c73 c74 => (aI .i64 c72 fun n75 => (bif (decide (n75 > ((List.length xl44 : Nat) : Int))) then (Kr false) else (bif ((decide (0 ≤ xi45)) && (decide (xi45 < ((List.length xl44 : Nat) : Int)))) then (nthK xl44 (Int.toNat xi45) fun e76 => (ca4 e76 fun c77 c78 c79 c80 => (aI .i64 c78 fun n81 => (bif ((decide (0 ≤ (IntKind.i64.wrap (n81 - 1)))) && (decide ((IntKind.i64.wrap (n81 - 1)) < ((List.length xl44 : Nat) : Int)))) then (nthK xl44 (Int.toNat (IntKind.i64.wrap (n81 - 1))) fun e82 => (ca4 e82 fun c83 c84 c85 c86 => (aI .i64 c83 fun n87 => (bif (n87 != 26) then (Kr false) else (bif ((decide (0 ≤ xi45)) && (decide (xi45 < ((List.length xl44 : Nat) : Int)))) then (nthK xl44 (Int.toNat xi45) fun e88 => (ca4 e88 fun c89 c90 c91 c92 => (aI .i64 c90 fun n93 => (bif ((decide (0 ≤ (IntKind.i64.wrap (n93 - 1)))) && (decide ((IntKind.i64.wrap (n93 - 1)) < ((List.length xl44 : Nat) : Int)))) then (nthK xl44 (Int.toNat (IntKind.i64.wrap (n93 - 1))) fun e94 => (ca4 e94 fun c95 c96 c97 c98 => (aI .i64 c96 fun n99 => (bif (n99 != xi45) then (Kr false) else (X xl44 (IntKind.i64.wrap (xi45 + 1))))))) else none)))) else none))))) else none)))) else none))))) else none))))) else none) else (bif (n51 == 26) then (bif ((decide (0 ≤ xi45)) && (decide (xi45 < ((List.length xl44 : Nat) : Int)))) then (nthK xl44 (Int.toNat xi45) fun e100 => (ca4 e100 fun c101 c102 c103 c104 => (aI .i64 c102 fun n105 => (bif (decide (n105 ≥ xi45)) then (Kr false) else (bif ((decide (0 ≤ xi45)) && (decide (xi45 < ((List.length xl44 : Nat) : Int)))) then (nthK xl44 (Int.toNat xi45) fun e106 => (ca4 e106 fun c107 c108 c109 c110 => (aI .i64 c108 fun n111 => (bif (decide (n111 < 0)) then (Kr false) else (bif ((decide (0 ≤ xi45)) && (decide (xi45 < ((List.length xl44 : Nat) : Int)))) then (nthK xl44 (Int.toNat xi45) fun e112 => (ca4 e112 fun c113 c114 c115 c116 => (aI .i64 c114 fun n117 => (bif ((decide (0 ≤ n117)) && (decide (n117 < ((List.length xl44 : Nat) : Int)))) then (nthK xl44 (Int.toNat n117) fun e118 => (ca4 e118 fun c119 c120 c121 c122 => (aI .i64 c119 fun n123 => (bif (n123 != 25) then (Kr false) else (bif ((decide (0 ≤ xi45)) && (decide (xi45 < ((List.length xl44 : Nat) : Int)))) then (nthK xl44 (Int.toNat xi45) fun e124 => (ca4 e124 fun c125 c126 c127 c128 => (aI .i64 c126 fun n129 => (bif ((decide (0 ≤ n129)) && (decide (n129 < ((List.length xl44 : Nat) : Int)))) then (nthK xl44 (Int.toNat n129) fun e130 => (ca4 e130 fun c131 c132 c133 c134 => (aI .i64 c132 fun n135 => (bif (n135 != (IntKind.i64.wrap (xi45 + 1))) then (Kr false) else (X xl44 (IntKind.i64.wrap (xi45 + 1))))))) else none)))) else none))))) else none)))) else none))))) else none))))) else none) else (X xl44 (IntKind.i64.wrap (xi45 + 1)))))) else (bif (n51 == 24) then (bif ((decide (0 ≤ xi45)) && (decide (xi45 < ((List.length xl44 : Nat) : Int)))) then (nthK xl44 (Int.toNat xi45) fun e136 => (ca4 e136 fun c137 c138 c139 c140 => (aI .i64 c138 fun n141 => (bif (decide (n141 ≤ xi45)) then (Kr false) else (bif ((decide (0 ≤ xi45)) && (decide (xi45 < ((List.length xl44 : Nat) : Int)))) then (nthK xl44 (Int.toNat xi45) fun e142 => (ca4 e142 fun c143 c144 c145 c146 => (aI .i64 c144 fun n147 => (bif (decide (n147 > ((List.length xl44 : Nat) : Int))) then (Kr false) else (X xl44 (IntKind.i64.wrap (xi45 + 1))))))) else none))))) else none) else (bif (n51 == 25) then (bif ((decide (0 ≤ xi45)) && (decide (xi45 < ((List.length xl44 : Nat) : Int)))) then (nthK xl44 (Int.toNat xi45) fun e148 => (ca4 e148 fun c149 c150 c151 c152 => (aI .i64 c150 fun n153 => (bif (decide (n153 ≤ (IntKind.i64.wrap (xi45 + 1)))) then (Kr false) else (bif ((decide (0 ≤ xi45)) && (decide (xi45 < ((List.length xl44 : Nat) : Int)))) then (nthK xl44 (Int.toNat xi45) fun e154 => (ca4 e154 fun c155 c156 c157 c158 => (aI .i64 c156 fun n159 => (bif (decide (n159 > ((List.length xl44 : Nat) : Int))) then (Kr false) else (bif ((decide (0 ≤ xi45)) && (decide (xi45 < ((List.length xl44 : Nat) : Int)))) then (nthK xl44 (Int.toNat xi45) fun e160 => (ca4 e160 fun c161 c162 c163 c164 => (aI .i64 c162 fun n165 => (bif ((decide (0 ≤ (IntKind.i64.wrap (n165 - 1)))) && (decide ((IntKind.i64.wrap (n165 - 1)) < ((List.length xl44 : Nat) : Int)))) then (nthK xl44 (Int.toNat (IntKind.i64.wrap (n165 - 1))) fun e166 => (ca4 e166 fun c167 c168 c169 c170 => (aI .i64 c167 fun n171 => (bif (n171 != 26) then (Kr false) else (bif ((decide (0 ≤ xi45)) && (decide (xi45 < ((List.length xl44 : Nat) : Int)))) then (nthK xl44 (Int.toNat xi45) fun e172 => (ca4 e172 fun c173 c174 c175 c176 => (aI .i64 c174 fun n177 => (bif ((decide (0 ≤ (IntKind.i64.wrap (n177 - 1)))) && (decide ((IntKind.i64.wrap (n177 - 1)) < ((List.length xl44 : Nat) : Int)))) then (nthK xl44 (Int.toNat (IntKind.i64.wrap (n177 - 1))) fun e178 => (ca4 e178 fun c179 c180 c181 c182 => (aI .i64 c180 fun n183 => (bif (n183 != xi45) then (Kr false) else (X xl44 (IntKind.i64.wrap (xi45 + 1))))))) else none)))) else none))))) else none)))) else none))))) else none))))) else none) else (bif (n51 == 26) then (bif ((decide (0 ≤ xi45)) && (decide (xi45 < ((List.length xl44 : Nat) : Int)))) then (nthK xl44 (Int.toNat xi45) fun e184 => (ca4 e184 fun c185 c186 c187 c188 => (aI .i64 c186 fun n189 => (bif (decide (n189 ≥ xi45)) then (Kr false) else (bif ((decide (0 ≤ xi45)) && (decide (xi45 < ((List.length xl44 : Nat) : Int)))) then (nthK xl44 (Int.toNat xi45) fun e190 => (ca4 e190 fun c191 c192 c193 c194 => (aI .i64 c192 fun n195 => (bif (decide (n195 < 0)) then (Kr false) else (bif ((decide (0 ≤ xi45)) && (decide (xi45 < ((List.length xl44 : Nat) : Int)))) then (nthK xl44 (Int.toNat xi45) fun e196 => (ca4 e196 fun c197 c198 c199 c200 => (aI .i64 c198 fun n201 => (bif ((decide (0 ≤ n201)) && (decide (n201 < ((List.length xl44 : Nat) : Int)))) then (nthK xl44 (Int.toNat n201) fun e202 => (ca4 e202 fun c203 c204 c205 c206 => (aI .i64 c203 fun n207 => (bif (n207 != 25) then (Kr false) else (bif ((decide (0 ≤ xi45)) && (decide (xi45 < ((List.length xl44 : Nat) : Int)))) then (nthK xl44 (Int.toNat xi45) fun e208 => (ca4 e208 fun c209 c210 c211 c212 => (aI .i64 c210 fun n213 => (bif ((decide (0 ≤ n213)) && (decide (n213 < ((List.length xl44 : Nat) : Int)))) then (nthK xl44 (Int.toNat n213) fun e214 => (ca4 e214 fun c215 c216 c217 c218 => (aI .i64 c216 fun n219 => (bif (n219 != (IntKind.i64.wrap (xi45 + 1))) then (Kr false) else (X xl44 (IntKind.i64.wrap (xi45 + 1))))))) else none)))) else none))))) else none)))) else none))))) else none))))) else none) else (X xl44 (IntKind.i64.wrap (xi45 + 1)))))))))) else none) else (Ko ()))
def l5_0g {R : Type} (G : ORC R) (k : Nat) (Ko : Unit → Option R) (Kr : Bool → Option R) : Nat → List V → Int → Option R
  | 0 => fun _ _ => none
  | j + 1 => b5_0 G k (l5_0g G k Ko Kr j) Ko Kr
def l5_0 {R : Type} (G : ORC R) (k : Nat) (xl44 : List V) (xi45 : Int) (Ko : Unit → Option R) (Kr : Bool → Option R) : Option R := l5_0g G k Ko Kr k xl44 xi45
def rd5_0 {R : Type} (G : ORC R) (k : Nat) (K : Ex → St → Option R) (j : Nat) (vs : List V) : Option R := match vs with
  | [(.sl 4 xl44), (.int .i64 xi45)] => l5_0g G k (fun _ => K .normal (P5_0x.inst [])) (fun yb224 => K .ret (P5_0r.inst [(.bool yb224)])) j xl44 xi45
  | _ => none
def L5 {R : Type} (G : ORC R) (k : Nat) : Nat → St → (Ex → St → Option R) → Option R
  | 0, S, K => P5_0h.mat S fun vs => rd5_0 G k K k vs
  | _, _, _ => none
def f5 {R : Type} (G : ORC R) (k : Nat) (al1 : List V) (K : List V → Option R) : Option R :=
  (bif (decide (((List.length al1 : Nat) : Int) > 200)) then (G 14 [] fun o2 => (uB o2 fun b4 r3 => (unNil r3 (K [(.bool b4)])))) else (G 15 [] fun o5 => (uA o5 fun l7 r6 => (uL 1 l7 fun l9 r8 => (uL 1 r8 fun l11 r10 => (uL 1 r10 fun l13 r12 => (uL 1 r12 fun l15 r14 => (unNil r14 (uA r6 fun l17 r16 => (uL 1 l17 fun l19 r18 => (uL 1 r18 fun l21 r20 => (uL 1 r20 fun l23 r22 => (uL 7 r22 fun l25 r24 => (unNil r24 (uA r16 fun l27 r26 => (uL 1 l27 fun l29 r28 => (uL 1 r28 fun l31 r30 => (uL 1 r30 fun l33 r32 => (uL 7 r32 fun l35 r34 => (unNil r34 (unNil r26 (G 16 [(.agg [(.sl 1 l9), (.sl 1 l11), (.sl 1 l13), (.sl 1 l15)]), (.int .i64 3), (.sl 1 al1), (.int .i64 0)] fun o36 => (uL 8 o36 fun l38 r37 => (uI .i64 r37 fun n40 r39 => (unNil r39 (G 18 [(.sl 8 l38), (.agg [(.sl 1 l19), (.sl 1 l21), (.sl 1 l23), (.sl 7 l25)])] fun o41 => (uL 4 o41 fun l43 r42 => (unNil r42 (l5_0 G k l43 0 (fun (_ : Unit) => (G 14 [] fun o220 => (uB o220 fun b222 r221 => (unNil r221 (K [(.bool b222)]))))) (fun yb223 => (K [(.bool yb223)])))))))))))))))))))))))))))))))
noncomputable def D5_0 : LoopD := { id := 0, body := loopAt 0 (bodyOf Try.f5), head := P5_0h, out := P5_0x, ret := P5_0r }
theorem l5_0_is {R : Type} (G : ORC R) (k : Nat) (X : List V → Option R) (K : Ex → St → Option R) (xl44 : List V) (xi45 : Int) :
    roundOf (TAB.env 5) G (L5 G k) D5_0 X K [(.sl 4 xl44), (.int .i64 xi45)] = b5_0 G k (fun xl44 xi45 => X [(.sl 4 xl44), (.int .i64 xi45)]) (fun _ => K .normal (P5_0x.inst [])) (fun yb224 => K .ret (P5_0r.inst [(.bool yb224)])) xl44 xi45 := by kernel_rfl
theorem f5_is {R : Type} (G : ORC R) (k : Nat) (K : List V → Option R) (al1 : List V) :
    callF (TAB.env 5) G (L5 G k) Try.f5 S5 [(.sl 1 al1)] K = f5 G k al1 K := by kernel_rfl
theorem li5_0 {R : Type} (G : ORC R) (k : Nat) : LoopIs (TAB.env 5) G (L5 G k) 0 (loopAt 0 (bodyOf Try.f5)) :=
  ⟨D5_0, fun j vs K => rd5_0 G k K j vs, k, rfl, rfl, by kernel_rfl, by kernel_rfl, by kernel_rfl, (fun vs K => by unfold rd5_0; dsimp only; split <;> rfl),
    (fun j vs K r h => by
      unfold rd5_0 at h
      dsimp only at h
      split at h
      · rw [l5_0_is]; exact h
      · cases h), (fun S K r h => h)⟩
theorem lo5 : loopsOf (bodyOf Try.f5) = [(0, loopAt 0 (bodyOf Try.f5))] := by kernel_rfl
theorem la5 {R : Type} (G : ORC R) (k : Nat) : LoopsAre (TAB.env 5) G (L5 G k) (bodyOf Try.f5) :=
  loopsAre_of (by rw [lo5]; intro p hp; simp only [List.mem_cons, List.not_mem_nil, or_false] at hp; subst hp; exact li5_0 G k)
def g5 {R : Type} (G : ORC R) (k : Nat) (args : List V) (K : List V → Option R) : Option R := match args with
  | [(.sl 1 al1)] => f5 G k al1 K
  | _ => none
theorem s5 {R : Type} {G : ORC R} {k : Nat} (hG : Sound Try.prog TAB G) (args : List V) (K : List V → Option R) (r : R) (h : g5 G k args K = some r) : ∃ o, CallOK Try.prog TAB.env 5 args o ∧ K o = some r := by
  unfold g5 at h
  split at h
  · rw [← f5_is] at h
    exact callF_sound (f := 5) TAB_chk MO hG Try.func5 (sg := S5) (by kernel_rfl) (by kernel_rfl) (la5 G k) h
  · cases h
end Go.Proofs.Ytdfjodnkplbffaa.Vm
open Go Go.VM
set_option linter.unusedVariables false
set_option linter.unusedSimpArgs false
set_option maxRecDepth 100000
set_option maxHeartbeats 8000000
namespace Go.Proofs.Ytdfjodnkplbffaa.Vm
section
variable {R : Type} {G : ORC R} {k : Nat} {K : List V → Option R}
/-- An instruction goes where it may. -/
def JOK (L : List V) (e i : Nat) : Prop := ∃ op a n s, L[i]? = some (insS op a n s) ∧ (op = 23 ∨ op = 24 → (i : Int) < a ∧ a ≤ e) ∧
  (op = 25 → ∃ b : Nat, a = ((b + 1 : Nat) : Int) ∧ i < b ∧ b + 1 ≤ e ∧ L[b]? = some (ins 26 i 0)) ∧ (op = 26 → ∃ (b : Nat) (n' : Int), a = b ∧ b < i ∧ L[b]? = some (ins 25 (i + 1 : Nat) n'))
theorem at_mid' {A c D : List V} {v : V} {p : Nat} (h : A.length = p) : (A ++ (v :: c ++ D))[p]? = some v := by subst h; simp
theorem jmp_seg {L : List V} {e p : Nat} {c : List V} {t : List Int} (h : Seg e p c t) : ∀ A D : List V, L = A ++ (c ++ D) → A.length = p → ∀ i, p ≤ i → i < p + c.length → JOK L e i := by
  induction h with
  | nil => intro A D hA hp i h1 h2; simp at h2; omega
  | @one p op a n s c t h1 h2 h3 h4 ih =>
    intro A D hA hp i g1 g2
    by_cases hi : i = p
    · subst hi
      exact ⟨op, a, n, s, by rw [hA]; exact at_mid' hp, h3, fun h => absurd h h1, fun h => absurd h h2⟩
    · exact ih (A ++ [insS op a n s]) D (by rw [hA]; simp) (by simp [hp]) i (by omega) (by rw [List.length_cons] at g2; omega)
  | @loop p n B c tb t h1 h2 h3 h4 h5 ih1 ih2 =>
    intro A D hA hp i g1 g2
    have ha : L[p]? = some (ins 25 (p + B.length + 2 : Nat) n) := by rw [hA]; exact at_mid' hp
    have hb : L[p + 1 + B.length]? = some (ins 26 p 0) := by
      rw [hA, show A ++ (ins 25 (p + B.length + 2 : Nat) n :: (B ++ ins 26 p 0 :: c) ++ D) = (A ++ ins 25 (p + B.length + 2 : Nat) n :: B) ++ (ins 26 p 0 :: c ++ D) by simp]
      exact at_mid' (by simp [hp]; omega)
    simp only [List.length_cons, List.length_append] at g2
    by_cases hi : i = p
    · subst hi
      exact ⟨25, _, n, ⟨#[]⟩, ha, fun h => by omega, fun _ => ⟨i + 1 + B.length, by omega, by omega, by omega, hb⟩, fun h => by omega⟩
    by_cases hi1 : i < p + 1 + B.length
    · exact ih1 (A ++ [ins 25 (p + B.length + 2 : Nat) n]) (ins 26 p 0 :: c ++ D) (by rw [hA]; simp) (by simp [hp]) i (by omega) hi1
    by_cases hi2 : i = p + 1 + B.length
    · subst hi2
      exact ⟨26, _, 0, ⟨#[]⟩, hb, fun h => by omega, fun h => by omega, fun _ => ⟨p, n, rfl, by omega, by rw [ha, show p + B.length + 2 = p + 1 + B.length + 1 by omega]⟩⟩
    · exact ih2 (A ++ ins 25 (p + B.length + 2 : Nat) n :: B ++ [ins 26 p 0]) D (by rw [hA]; simp) (by simp [hp]; omega) i (by omega) (by omega)
theorem j_loop {Q : List V → Prop} {K : List V → Option R} {Ko : Unit → Option R} {Kr : Bool → Option R} {L : List V} (hL : L.length ≤ 9900) (hJ : ∀ i, i < L.length → JOK L L.length i) (hKo : W Q K (Ko ())) :
    ∀ (j i : Nat), L.length - i < j → i ≤ L.length → W Q K (l5_0g G k Ko Kr j L i)
  | 0, i, h1, h2 => by omega
  | j + 1, i, h1, h2 => by
    show W Q K (b5_0 G k (l5_0g G k Ko Kr j) Ko Kr L i)
    unfold b5_0
    refine W_dec (fun h => ?_) (fun h => hKo)
    have next := j_loop (Kr := Kr) hL hJ hKo j (i + 1) (by omega) (by omega)
    obtain ⟨op, a, n, s, hv, g1, g2, g3⟩ := hJ i (by omega)
    have hv' : L[((i : Nat) : Int).toNat]? = some (.agg [.int .i64 op, .int .i64 a, .int .i64 n, .str s]) := by rw [Int.toNat_natCast]; exact hv
    rw [wrap_id (n := (i : Int) + 1) (by omega)]
    refine W_at (by omega) hv' ?_
    (repeat (with_reducible (first | (refine W_uI ?_) | (refine W_uS ?_) | (refine W_uL ?_) | (refine W_uA ?_) | (refine W_uB ?_) | (refine W_aI ?_) | (refine W_aL ?_) | (refine W_ca3 ?_) | (refine W_ce3 ?_) | (refine W_ca4 ?_) | (refine W_ce4 ?_) | (refine W_ca5 ?_) | (refine W_ce5 ?_) | (refine W_ca6 ?_) | (refine W_ce6 ?_) | (refine W_ca7 ?_) | (refine W_ce7 ?_) | (refine W_ca8 ?_) | (refine W_ce8 ?_) | (refine W_nd7 ?_) | (refine W_unCons ?_) | (refine W_unNil ?_) | (refine W_asInt ?_) | (refine W_asBool ?_) | (refine W_asStr ?_) | (refine W_asSl ?_) | (refine W_asAgg ?_) | (refine W_kd ?_) | (refine W_z ?_))))
    refine W_beqI (fun e => ?_) (fun e23 => ?_)
    · obtain ⟨a1, a2⟩ := g1 (.inl e)
      refine W_eqY e ?_
      refine W_at (by omega) hv' ?_
      (repeat (with_reducible (first | (refine W_uI ?_) | (refine W_uS ?_) | (refine W_uL ?_) | (refine W_uA ?_) | (refine W_uB ?_) | (refine W_aI ?_) | (refine W_aL ?_) | (refine W_ca3 ?_) | (refine W_ce3 ?_) | (refine W_ca4 ?_) | (refine W_ce4 ?_) | (refine W_ca5 ?_) | (refine W_ce5 ?_) | (refine W_ca6 ?_) | (refine W_ce6 ?_) | (refine W_ca7 ?_) | (refine W_ce7 ?_) | (refine W_ca8 ?_) | (refine W_ce8 ?_) | (refine W_nd7 ?_) | (refine W_unCons ?_) | (refine W_unNil ?_) | (refine W_asInt ?_) | (refine W_asBool ?_) | (refine W_asStr ?_) | (refine W_asSl ?_) | (refine W_asAgg ?_) | (refine W_kd ?_) | (refine W_z ?_))))
      refine W_no (by omega) ?_
      refine W_at (by omega) hv' ?_
      (repeat (with_reducible (first | (refine W_uI ?_) | (refine W_uS ?_) | (refine W_uL ?_) | (refine W_uA ?_) | (refine W_uB ?_) | (refine W_aI ?_) | (refine W_aL ?_) | (refine W_ca3 ?_) | (refine W_ce3 ?_) | (refine W_ca4 ?_) | (refine W_ce4 ?_) | (refine W_ca5 ?_) | (refine W_ce5 ?_) | (refine W_ca6 ?_) | (refine W_ce6 ?_) | (refine W_ca7 ?_) | (refine W_ce7 ?_) | (refine W_ca8 ?_) | (refine W_ce8 ?_) | (refine W_nd7 ?_) | (refine W_unCons ?_) | (refine W_unNil ?_) | (refine W_asInt ?_) | (refine W_asBool ?_) | (refine W_asStr ?_) | (refine W_asSl ?_) | (refine W_asAgg ?_) | (refine W_kd ?_) | (refine W_z ?_))))
      exact W_no (by omega) next
    refine W_beqI (fun e => ?_) (fun e24 => ?_)
    · obtain ⟨a1, a2⟩ := g1 (.inr e)
      refine W_at (by omega) hv' ?_
      (repeat (with_reducible (first | (refine W_uI ?_) | (refine W_uS ?_) | (refine W_uL ?_) | (refine W_uA ?_) | (refine W_uB ?_) | (refine W_aI ?_) | (refine W_aL ?_) | (refine W_ca3 ?_) | (refine W_ce3 ?_) | (refine W_ca4 ?_) | (refine W_ce4 ?_) | (refine W_ca5 ?_) | (refine W_ce5 ?_) | (refine W_ca6 ?_) | (refine W_ce6 ?_) | (refine W_ca7 ?_) | (refine W_ce7 ?_) | (refine W_ca8 ?_) | (refine W_ce8 ?_) | (refine W_nd7 ?_) | (refine W_unCons ?_) | (refine W_unNil ?_) | (refine W_asInt ?_) | (refine W_asBool ?_) | (refine W_asStr ?_) | (refine W_asSl ?_) | (refine W_asAgg ?_) | (refine W_kd ?_) | (refine W_z ?_))))
      refine W_no (by omega) ?_
      refine W_at (by omega) hv' ?_
      (repeat (with_reducible (first | (refine W_uI ?_) | (refine W_uS ?_) | (refine W_uL ?_) | (refine W_uA ?_) | (refine W_uB ?_) | (refine W_aI ?_) | (refine W_aL ?_) | (refine W_ca3 ?_) | (refine W_ce3 ?_) | (refine W_ca4 ?_) | (refine W_ce4 ?_) | (refine W_ca5 ?_) | (refine W_ce5 ?_) | (refine W_ca6 ?_) | (refine W_ce6 ?_) | (refine W_ca7 ?_) | (refine W_ce7 ?_) | (refine W_ca8 ?_) | (refine W_ce8 ?_) | (refine W_nd7 ?_) | (refine W_unCons ?_) | (refine W_unNil ?_) | (refine W_asInt ?_) | (refine W_asBool ?_) | (refine W_asStr ?_) | (refine W_asSl ?_) | (refine W_asAgg ?_) | (refine W_kd ?_) | (refine W_z ?_))))
      exact W_no (by omega) next
    refine W_beqI (fun e => ?_) (fun e25 => ?_)
    · obtain ⟨b, rfl, b1, b2, hb⟩ := g2 e
      have hw : IntKind.i64.wrap (((b + 1 : Nat) : Int) - 1) = (b : Int) := by rw [wrap_id (by omega)]; omega
      have hb' : L[((b : Nat) : Int).toNat]? = some (.agg [.int .i64 26, .int .i64 i, .int .i64 0, .str ⟨#[]⟩]) := by rw [Int.toNat_natCast]; exact hb
      refine W_at (by omega) hv' ?_
      (repeat (with_reducible (first | (refine W_uI ?_) | (refine W_uS ?_) | (refine W_uL ?_) | (refine W_uA ?_) | (refine W_uB ?_) | (refine W_aI ?_) | (refine W_aL ?_) | (refine W_ca3 ?_) | (refine W_ce3 ?_) | (refine W_ca4 ?_) | (refine W_ce4 ?_) | (refine W_ca5 ?_) | (refine W_ce5 ?_) | (refine W_ca6 ?_) | (refine W_ce6 ?_) | (refine W_ca7 ?_) | (refine W_ce7 ?_) | (refine W_ca8 ?_) | (refine W_ce8 ?_) | (refine W_nd7 ?_) | (refine W_unCons ?_) | (refine W_unNil ?_) | (refine W_asInt ?_) | (refine W_asBool ?_) | (refine W_asStr ?_) | (refine W_asSl ?_) | (refine W_asAgg ?_) | (refine W_kd ?_) | (refine W_z ?_))))
      refine W_no (by omega) ?_
      refine W_at (by omega) hv' ?_
      (repeat (with_reducible (first | (refine W_uI ?_) | (refine W_uS ?_) | (refine W_uL ?_) | (refine W_uA ?_) | (refine W_uB ?_) | (refine W_aI ?_) | (refine W_aL ?_) | (refine W_ca3 ?_) | (refine W_ce3 ?_) | (refine W_ca4 ?_) | (refine W_ce4 ?_) | (refine W_ca5 ?_) | (refine W_ce5 ?_) | (refine W_ca6 ?_) | (refine W_ce6 ?_) | (refine W_ca7 ?_) | (refine W_ce7 ?_) | (refine W_ca8 ?_) | (refine W_ce8 ?_) | (refine W_nd7 ?_) | (refine W_unCons ?_) | (refine W_unNil ?_) | (refine W_asInt ?_) | (refine W_asBool ?_) | (refine W_asStr ?_) | (refine W_asSl ?_) | (refine W_asAgg ?_) | (refine W_kd ?_) | (refine W_z ?_))))
      refine W_no (by omega) ?_
      refine W_at (by omega) hv' ?_
      (repeat (with_reducible (first | (refine W_uI ?_) | (refine W_uS ?_) | (refine W_uL ?_) | (refine W_uA ?_) | (refine W_uB ?_) | (refine W_aI ?_) | (refine W_aL ?_) | (refine W_ca3 ?_) | (refine W_ce3 ?_) | (refine W_ca4 ?_) | (refine W_ce4 ?_) | (refine W_ca5 ?_) | (refine W_ce5 ?_) | (refine W_ca6 ?_) | (refine W_ce6 ?_) | (refine W_ca7 ?_) | (refine W_ce7 ?_) | (refine W_ca8 ?_) | (refine W_ce8 ?_) | (refine W_nd7 ?_) | (refine W_unCons ?_) | (refine W_unNil ?_) | (refine W_asInt ?_) | (refine W_asBool ?_) | (refine W_asStr ?_) | (refine W_asSl ?_) | (refine W_asAgg ?_) | (refine W_kd ?_) | (refine W_z ?_))))
      rw [hw]
      refine W_at (by omega) hb' ?_
      (repeat (with_reducible (first | (refine W_uI ?_) | (refine W_uS ?_) | (refine W_uL ?_) | (refine W_uA ?_) | (refine W_uB ?_) | (refine W_aI ?_) | (refine W_aL ?_) | (refine W_ca3 ?_) | (refine W_ce3 ?_) | (refine W_ca4 ?_) | (refine W_ce4 ?_) | (refine W_ca5 ?_) | (refine W_ce5 ?_) | (refine W_ca6 ?_) | (refine W_ce6 ?_) | (refine W_ca7 ?_) | (refine W_ce7 ?_) | (refine W_ca8 ?_) | (refine W_ce8 ?_) | (refine W_nd7 ?_) | (refine W_unCons ?_) | (refine W_unNil ?_) | (refine W_asInt ?_) | (refine W_asBool ?_) | (refine W_asStr ?_) | (refine W_asSl ?_) | (refine W_asAgg ?_) | (refine W_kd ?_) | (refine W_z ?_))))
      refine W_chk' (by decide) ?_
      refine W_at (by omega) hv' ?_
      (repeat (with_reducible (first | (refine W_uI ?_) | (refine W_uS ?_) | (refine W_uL ?_) | (refine W_uA ?_) | (refine W_uB ?_) | (refine W_aI ?_) | (refine W_aL ?_) | (refine W_ca3 ?_) | (refine W_ce3 ?_) | (refine W_ca4 ?_) | (refine W_ce4 ?_) | (refine W_ca5 ?_) | (refine W_ce5 ?_) | (refine W_ca6 ?_) | (refine W_ce6 ?_) | (refine W_ca7 ?_) | (refine W_ce7 ?_) | (refine W_ca8 ?_) | (refine W_ce8 ?_) | (refine W_nd7 ?_) | (refine W_unCons ?_) | (refine W_unNil ?_) | (refine W_asInt ?_) | (refine W_asBool ?_) | (refine W_asStr ?_) | (refine W_asSl ?_) | (refine W_asAgg ?_) | (refine W_kd ?_) | (refine W_z ?_))))
      rw [hw]
      refine W_at (by omega) hb' ?_
      (repeat (with_reducible (first | (refine W_uI ?_) | (refine W_uS ?_) | (refine W_uL ?_) | (refine W_uA ?_) | (refine W_uB ?_) | (refine W_aI ?_) | (refine W_aL ?_) | (refine W_ca3 ?_) | (refine W_ce3 ?_) | (refine W_ca4 ?_) | (refine W_ce4 ?_) | (refine W_ca5 ?_) | (refine W_ce5 ?_) | (refine W_ca6 ?_) | (refine W_ce6 ?_) | (refine W_ca7 ?_) | (refine W_ce7 ?_) | (refine W_ca8 ?_) | (refine W_ce8 ?_) | (refine W_nd7 ?_) | (refine W_unCons ?_) | (refine W_unNil ?_) | (refine W_asInt ?_) | (refine W_asBool ?_) | (refine W_asStr ?_) | (refine W_asSl ?_) | (refine W_asAgg ?_) | (refine W_kd ?_) | (refine W_z ?_))))
      exact W_chk' (by simp) next
    refine W_beqI (fun e => ?_) (fun e26 => next)
    obtain ⟨b, n', rfl, b1, hb⟩ := g3 e
    have hb' : L[((b : Nat) : Int).toNat]? = some (.agg [.int .i64 25, .int .i64 (i + 1 : Nat), .int .i64 n', .str ⟨#[]⟩]) := by rw [Int.toNat_natCast]; exact hb
    refine W_at (by omega) hv' ?_
    (repeat (with_reducible (first | (refine W_uI ?_) | (refine W_uS ?_) | (refine W_uL ?_) | (refine W_uA ?_) | (refine W_uB ?_) | (refine W_aI ?_) | (refine W_aL ?_) | (refine W_ca3 ?_) | (refine W_ce3 ?_) | (refine W_ca4 ?_) | (refine W_ce4 ?_) | (refine W_ca5 ?_) | (refine W_ce5 ?_) | (refine W_ca6 ?_) | (refine W_ce6 ?_) | (refine W_ca7 ?_) | (refine W_ce7 ?_) | (refine W_ca8 ?_) | (refine W_ce8 ?_) | (refine W_nd7 ?_) | (refine W_unCons ?_) | (refine W_unNil ?_) | (refine W_asInt ?_) | (refine W_asBool ?_) | (refine W_asStr ?_) | (refine W_asSl ?_) | (refine W_asAgg ?_) | (refine W_kd ?_) | (refine W_z ?_))))
    refine W_no (by omega) ?_
    refine W_at (by omega) hv' ?_
    (repeat (with_reducible (first | (refine W_uI ?_) | (refine W_uS ?_) | (refine W_uL ?_) | (refine W_uA ?_) | (refine W_uB ?_) | (refine W_aI ?_) | (refine W_aL ?_) | (refine W_ca3 ?_) | (refine W_ce3 ?_) | (refine W_ca4 ?_) | (refine W_ce4 ?_) | (refine W_ca5 ?_) | (refine W_ce5 ?_) | (refine W_ca6 ?_) | (refine W_ce6 ?_) | (refine W_ca7 ?_) | (refine W_ce7 ?_) | (refine W_ca8 ?_) | (refine W_ce8 ?_) | (refine W_nd7 ?_) | (refine W_unCons ?_) | (refine W_unNil ?_) | (refine W_asInt ?_) | (refine W_asBool ?_) | (refine W_asStr ?_) | (refine W_asSl ?_) | (refine W_asAgg ?_) | (refine W_kd ?_) | (refine W_z ?_))))
    refine W_no (by omega) ?_
    refine W_at (by omega) hv' ?_
    (repeat (with_reducible (first | (refine W_uI ?_) | (refine W_uS ?_) | (refine W_uL ?_) | (refine W_uA ?_) | (refine W_uB ?_) | (refine W_aI ?_) | (refine W_aL ?_) | (refine W_ca3 ?_) | (refine W_ce3 ?_) | (refine W_ca4 ?_) | (refine W_ce4 ?_) | (refine W_ca5 ?_) | (refine W_ce5 ?_) | (refine W_ca6 ?_) | (refine W_ce6 ?_) | (refine W_ca7 ?_) | (refine W_ce7 ?_) | (refine W_ca8 ?_) | (refine W_ce8 ?_) | (refine W_nd7 ?_) | (refine W_unCons ?_) | (refine W_unNil ?_) | (refine W_asInt ?_) | (refine W_asBool ?_) | (refine W_asStr ?_) | (refine W_asSl ?_) | (refine W_asAgg ?_) | (refine W_kd ?_) | (refine W_z ?_))))
    refine W_at (by omega) hb' ?_
    (repeat (with_reducible (first | (refine W_uI ?_) | (refine W_uS ?_) | (refine W_uL ?_) | (refine W_uA ?_) | (refine W_uB ?_) | (refine W_aI ?_) | (refine W_aL ?_) | (refine W_ca3 ?_) | (refine W_ce3 ?_) | (refine W_ca4 ?_) | (refine W_ce4 ?_) | (refine W_ca5 ?_) | (refine W_ce5 ?_) | (refine W_ca6 ?_) | (refine W_ce6 ?_) | (refine W_ca7 ?_) | (refine W_ce7 ?_) | (refine W_ca8 ?_) | (refine W_ce8 ?_) | (refine W_nd7 ?_) | (refine W_unCons ?_) | (refine W_unNil ?_) | (refine W_asInt ?_) | (refine W_asBool ?_) | (refine W_asStr ?_) | (refine W_asSl ?_) | (refine W_asAgg ?_) | (refine W_kd ?_) | (refine W_z ?_))))
    refine W_chk' (by decide) ?_
    refine W_at (by omega) hv' ?_
    (repeat (with_reducible (first | (refine W_uI ?_) | (refine W_uS ?_) | (refine W_uL ?_) | (refine W_uA ?_) | (refine W_uB ?_) | (refine W_aI ?_) | (refine W_aL ?_) | (refine W_ca3 ?_) | (refine W_ce3 ?_) | (refine W_ca4 ?_) | (refine W_ce4 ?_) | (refine W_ca5 ?_) | (refine W_ce5 ?_) | (refine W_ca6 ?_) | (refine W_ce6 ?_) | (refine W_ca7 ?_) | (refine W_ce7 ?_) | (refine W_ca8 ?_) | (refine W_ce8 ?_) | (refine W_nd7 ?_) | (refine W_unCons ?_) | (refine W_unNil ?_) | (refine W_asInt ?_) | (refine W_asBool ?_) | (refine W_asStr ?_) | (refine W_asSl ?_) | (refine W_asAgg ?_) | (refine W_kd ?_) | (refine W_z ?_))))
    refine W_at (by omega) hb' ?_
    (repeat (with_reducible (first | (refine W_uI ?_) | (refine W_uS ?_) | (refine W_uL ?_) | (refine W_uA ?_) | (refine W_uB ?_) | (refine W_aI ?_) | (refine W_aL ?_) | (refine W_ca3 ?_) | (refine W_ce3 ?_) | (refine W_ca4 ?_) | (refine W_ce4 ?_) | (refine W_ca5 ?_) | (refine W_ce5 ?_) | (refine W_ca6 ?_) | (refine W_ce6 ?_) | (refine W_ca7 ?_) | (refine W_ce7 ?_) | (refine W_ca8 ?_) | (refine W_ce8 ?_) | (refine W_nd7 ?_) | (refine W_unCons ?_) | (refine W_unNil ?_) | (refine W_asInt ?_) | (refine W_asBool ?_) | (refine W_asStr ?_) | (refine W_asSl ?_) | (refine W_asAgg ?_) | (refine W_kd ?_) | (refine W_z ?_))))
    exact W_chk' (by simp) next
theorem cb4 : 2 * ca 4 ≤ 9900 := by decide
def JumpsOK (G : ORC R) : Prop := ∀ (v : List V) (K : List V → Option R), IntsS v → W (fun o => o = [.bool true]) K (G 5 [.sl 1 v] K)
theorem jumps_law (hk : 10000 ≤ k) (hKn : KnC G) (hNm : NamedX G) (hB : BlockOK 3 G) (hC : BlX 18 4 G) : JumpsOK (fun _ args (K : List V → Option R) => g5 G k args K) := by
  intro v K hv
  show W _ K (f5 G k v K)
  unfold f5
  refine W_dec (fun _ => knc_go hKn) (fun h => ?_)
  rw [hNm]
  unfold scV Nms.v
  (repeat (with_reducible (first | (refine W_uI ?_) | (refine W_uS ?_) | (refine W_uL ?_) | (refine W_uA ?_) | (refine W_uB ?_) | (refine W_aI ?_) | (refine W_aL ?_) | (refine W_ca3 ?_) | (refine W_ce3 ?_) | (refine W_ca4 ?_) | (refine W_ce4 ?_) | (refine W_ca5 ?_) | (refine W_ce5 ?_) | (refine W_ca6 ?_) | (refine W_ce6 ?_) | (refine W_ca7 ?_) | (refine W_ce7 ?_) | (refine W_ca8 ?_) | (refine W_ce8 ?_) | (refine W_nd7 ?_) | (refine W_unCons ?_) | (refine W_unNil ?_) | (refine W_asInt ?_) | (refine W_asBool ?_) | (refine W_asStr ?_) | (refine W_asSl ?_) | (refine W_asAgg ?_) | (refine W_kd ?_) | (refine W_z ?_))))
  unfold BlockOK at hB; unfold BlX at hC
  have hN := N0_ok
  refine W_call (hB _ _ _ _ _ _ _ _ rfl hN.1 hN.2.1 hN.2.2.1 scS_strs ⟨hv, by omega, by omega, by omega⟩) ?_
  rintro _ ⟨l, j, rfl, hl, hj⟩
  (repeat (with_reducible (first | (refine W_uI ?_) | (refine W_uS ?_) | (refine W_uL ?_) | (refine W_uA ?_) | (refine W_uB ?_) | (refine W_aI ?_) | (refine W_aL ?_) | (refine W_ca3 ?_) | (refine W_ce3 ?_) | (refine W_ca4 ?_) | (refine W_ce4 ?_) | (refine W_ca5 ?_) | (refine W_ce5 ?_) | (refine W_ca6 ?_) | (refine W_ce6 ?_) | (refine W_ca7 ?_) | (refine W_ce7 ?_) | (refine W_ca8 ?_) | (refine W_ce8 ?_) | (refine W_nd7 ?_) | (refine W_unCons ?_) | (refine W_unNil ?_) | (refine W_asInt ?_) | (refine W_asBool ?_) | (refine W_asStr ?_) | (refine W_asSl ?_) | (refine W_asAgg ?_) | (refine W_kd ?_) | (refine W_z ?_))))
  refine W_call (hC _ N0 _ hl hN) ?_
  rintro _ rfl
  refine W_uL (W_unNil ?_)
  obtain ⟨t, ht⟩ := cBl_sh (N := N0) hl
  have hlen := Nat.le_trans (cBl_len (N := N0) (at_ := 0) hl) cb4
  have hsl : (cR (cA N0 (3 + 1)) 0 l).length = t.length := sh_len ht 0
  have hseg : Seg t.length 0 (cR (cA N0 (3 + 1)) 0 l) t := ht.1 0 t.length (by omega)
  rw [← hsl] at hseg
  unfold l5_0
  exact j_loop (Q := fun o => o = [.bool true]) hlen (fun i hi => jmp_seg hseg [] [] (by simp) rfl i (by omega) (by omega)) (knc_go hKn) k 0 (by omega) (by omega)
end
end Go.Proofs.Ytdfjodnkplbffaa.Vm
open Go Go.VM
set_option linter.unusedVariables false
set_option maxRecDepth 100000
set_option maxHeartbeats 4000000
namespace Go.Proofs.Ytdfjodnkplbffaa.Vm
/-! ### cotillion/code.Times: function 20 -/
def P20_0h : Pat := { tmps := unds [.undef, .var (.int .i64) .pr, .undef, .undef, .undef, .var (.int .i64) .pr] 12 (unds [.var (.sl 4) .ro, .var (.int .i64) .pr, .var (.int .i64) .pr] 24 []), boxes := nons [] 45 [] }
def P20_0x : Pat := { tmps := unds [] 5 (unds [.var (.int .i64) .pr] 39 []), boxes := nons [] 45 [] }
def b20_0 {R : Type} (G : ORC R) (k : Nat) (X : Int → Int → List V → Int → Int → Option R) (Ko : Int → Option R) (xi3 xi4 : Int) (xl5 : List V) (xi6 xi7 : Int) : Option R :=
  (bif (decide (xi7 < xi6)) then (bif ((decide (0 ≤ xi7)) && (decide (xi7 < ((List.length xl5 : Nat) : Int)))) then (nthK xl5 (Int.toNat xi7) fun e8 => (V.asAgg e8 fun l9 => (ce4 l9 fun c10 c11 c12 c13 => (aI .i64 c10 fun n19 => (aI .i64 c11 fun n20 => (aI .i64 c12 fun n21 => (V.asStr c13 fun s22 => (bif (n19 == 25) then (bif (decide (xi7 < xi3)) then (bif (decide (xi3 < n20)) then (X xi3 (IntKind.i64.wrap (xi4 * n21)) xl5 xi6 (IntKind.i64.wrap (xi7 + 1))) else (X xi3 xi4 xl5 xi6 (IntKind.i64.wrap (xi7 + 1)))) else (X xi3 xi4 xl5 xi6 (IntKind.i64.wrap (xi7 + 1)))) else (X xi3 xi4 xl5 xi6 (IntKind.i64.wrap (xi7 + 1))))))))))) else none) else (Ko xi4))
def l20_0g {R : Type} (G : ORC R) (k : Nat) (Ko : Int → Option R) : Nat → Int → Int → List V → Int → Int → Option R
  | 0 => fun _ _ _ _ _ => none
  | j + 1 => b20_0 G k (l20_0g G k Ko j) Ko
def l20_0 {R : Type} (G : ORC R) (k : Nat) (xi3 xi4 : Int) (xl5 : List V) (xi6 xi7 : Int) (Ko : Int → Option R) : Option R := l20_0g G k Ko k xi3 xi4 xl5 xi6 xi7
def rd20_0 {R : Type} (G : ORC R) (k : Nat) (K : Ex → St → Option R) (j : Nat) (vs : List V) : Option R := match vs with
  | [(.int .i64 xi3), (.int .i64 xi4), (.sl 4 xl5), (.int .i64 xi6), (.int .i64 xi7)] => l20_0g G k (fun yi24 => K .normal (P20_0x.inst [(.int .i64 yi24)])) j xi3 xi4 xl5 xi6 xi7
  | _ => none
def L20 {R : Type} (G : ORC R) (k : Nat) : Nat → St → (Ex → St → Option R) → Option R
  | 0, S, K => P20_0h.mat S fun vs => rd20_0 G k K k vs
  | _, _, _ => none
def f20 {R : Type} (G : ORC R) (k : Nat) (al1 : List V) (ai2 : Int) (K : List V → Option R) : Option R :=
  (bif (decide (ai2 < 0)) then (K [(.int .i64 0)]) else (bif (decide (ai2 ≥ ((List.length al1 : Nat) : Int))) then (K [(.int .i64 0)]) else (bif ((decide (0 ≤ ai2)) && (decide (ai2 ≤ ((List.length al1 : Nat) : Int)))) then (l20_0 G k ai2 1 (List.take (Int.toNat ai2) al1) ((List.length (List.take (Int.toNat ai2) al1) : Nat) : Int) 0 (fun yi23 => (K [(.int .i64 yi23)]))) else none)))
noncomputable def D20_0 : LoopD := { id := 0, body := loopAt 0 (bodyOf Try.f20), head := P20_0h, out := P20_0x, ret := default }
theorem l20_0_is {R : Type} (G : ORC R) (k : Nat) (X : List V → Option R) (K : Ex → St → Option R) (xi3 xi4 : Int) (xl5 : List V) (xi6 xi7 : Int) :
    roundOf (TAB.env 20) G (L20 G k) D20_0 X K [(.int .i64 xi3), (.int .i64 xi4), (.sl 4 xl5), (.int .i64 xi6), (.int .i64 xi7)] = b20_0 G k (fun xi3 xi4 xl5 xi6 xi7 => X [(.int .i64 xi3), (.int .i64 xi4), (.sl 4 xl5), (.int .i64 xi6), (.int .i64 xi7)]) (fun yi24 => K .normal (P20_0x.inst [(.int .i64 yi24)])) xi3 xi4 xl5 xi6 xi7 := by kernel_rfl
theorem f20_is {R : Type} (G : ORC R) (k : Nat) (K : List V → Option R) (al1 : List V) (ai2 : Int) :
    callF (TAB.env 20) G (L20 G k) Try.f20 S20 [(.sl 4 al1), (.int .i64 ai2)] K = f20 G k al1 ai2 K := by kernel_rfl
theorem li20_0 {R : Type} (G : ORC R) (k : Nat) : LoopIs (TAB.env 20) G (L20 G k) 0 (loopAt 0 (bodyOf Try.f20)) :=
  ⟨D20_0, fun j vs K => rd20_0 G k K j vs, k, rfl, rfl, by kernel_rfl, by kernel_rfl, by kernel_rfl, (fun vs K => by unfold rd20_0; dsimp only; split <;> rfl),
    (fun j vs K r h => by
      unfold rd20_0 at h
      dsimp only at h
      split at h
      · rw [l20_0_is]; exact h
      · cases h), (fun S K r h => h)⟩
theorem lo20 : loopsOf (bodyOf Try.f20) = [(0, loopAt 0 (bodyOf Try.f20))] := by kernel_rfl
theorem la20 {R : Type} (G : ORC R) (k : Nat) : LoopsAre (TAB.env 20) G (L20 G k) (bodyOf Try.f20) :=
  loopsAre_of (by rw [lo20]; intro p hp; simp only [List.mem_cons, List.not_mem_nil, or_false] at hp; subst hp; exact li20_0 G k)
def g20 {R : Type} (G : ORC R) (k : Nat) (args : List V) (K : List V → Option R) : Option R := match args with
  | [(.sl 4 al1), (.int .i64 ai2)] => f20 G k al1 ai2 K
  | _ => none
theorem s20 {R : Type} {G : ORC R} {k : Nat} (hG : Sound Try.prog TAB G) (args : List V) (K : List V → Option R) (r : R) (h : g20 G k args K = some r) : ∃ o, CallOK Try.prog TAB.env 20 args o ∧ K o = some r := by
  unfold g20 at h
  split at h
  · rw [← f20_is] at h
    exact callF_sound (f := 20) TAB_chk MO hG Try.func20 (sg := S20) (by kernel_rfl) (by kernel_rfl) (la20 G k) h
  · cases h
end Go.Proofs.Ytdfjodnkplbffaa.Vm
open Go Go.VM
set_option linter.unusedVariables false
set_option maxRecDepth 100000
set_option maxHeartbeats 4000000
namespace Go.Proofs.Ytdfjodnkplbffaa.Vm
/-! ### cotillion/cotillionref16.Times: function 21 -/
def P21_0h : Pat := { tmps := unds [.var (.sl 4) .ro, .var (.int .i64) .pr, .undef, .undef, .undef, .var (.int .i64) .pr, .var (.int .i64) .pr] 36 [], boxes := nons [] 43 [] }
def P21_0x : Pat := { tmps := unds [] 5 (unds [.var (.int .i64) .pr] 37 []), boxes := nons [] 43 [] }
def b21_0 {R : Type} (G : ORC R) (k : Nat) (X : List V → Int → Int → Int → Option R) (Ko : Int → Option R) (xl3 : List V) (xi4 xi5 xi6 : Int) : Option R :=
  (bif (decide (xi6 < xi4)) then (bif ((decide (0 ≤ xi6)) && (decide (xi6 < ((List.length xl3 : Nat) : Int)))) then (nthK xl3 (Int.toNat xi6) fun e7 => (ca4 e7 fun c8 c9 c10 c11 => (aI .i64 c8 fun n12 => (bif (n12 == 25) then (bif ((decide (0 ≤ xi6)) && (decide (xi6 < ((List.length xl3 : Nat) : Int)))) then (nthK xl3 (Int.toNat xi6) fun e13 => (ca4 e13 fun c14 c15 c16 c17 => (aI .i64 c15 fun n18 => (bif (decide (xi4 < n18)) then (bif ((decide (0 ≤ xi6)) && (decide (xi6 < ((List.length xl3 : Nat) : Int)))) then (nthK xl3 (Int.toNat xi6) fun e19 => (ca4 e19 fun c20 c21 c22 c23 => (aI .i64 c22 fun n24 => (X xl3 xi4 (IntKind.i64.wrap (xi5 * n24)) (IntKind.i64.wrap (xi6 + 1)))))) else none) else (X xl3 xi4 xi5 (IntKind.i64.wrap (xi6 + 1))))))) else none) else (X xl3 xi4 xi5 (IntKind.i64.wrap (xi6 + 1))))))) else none) else (Ko xi5))
def l21_0g {R : Type} (G : ORC R) (k : Nat) (Ko : Int → Option R) : Nat → List V → Int → Int → Int → Option R
  | 0 => fun _ _ _ _ => none
  | j + 1 => b21_0 G k (l21_0g G k Ko j) Ko
def l21_0 {R : Type} (G : ORC R) (k : Nat) (xl3 : List V) (xi4 xi5 xi6 : Int) (Ko : Int → Option R) : Option R := l21_0g G k Ko k xl3 xi4 xi5 xi6
def rd21_0 {R : Type} (G : ORC R) (k : Nat) (K : Ex → St → Option R) (j : Nat) (vs : List V) : Option R := match vs with
  | [(.sl 4 xl3), (.int .i64 xi4), (.int .i64 xi5), (.int .i64 xi6)] => l21_0g G k (fun yi26 => K .normal (P21_0x.inst [(.int .i64 yi26)])) j xl3 xi4 xi5 xi6
  | _ => none
def L21 {R : Type} (G : ORC R) (k : Nat) : Nat → St → (Ex → St → Option R) → Option R
  | 0, S, K => P21_0h.mat S fun vs => rd21_0 G k K k vs
  | _, _, _ => none
def f21 {R : Type} (G : ORC R) (k : Nat) (al1 : List V) (ai2 : Int) (K : List V → Option R) : Option R :=
  (bif (decide (ai2 < 0)) then (K [(.int .i64 0)]) else (bif (decide (ai2 ≥ ((List.length al1 : Nat) : Int))) then (K [(.int .i64 0)]) else (l21_0 G k al1 ai2 1 0 (fun yi25 => (K [(.int .i64 yi25)])))))
noncomputable def D21_0 : LoopD := { id := 0, body := loopAt 0 (bodyOf Try.f21), head := P21_0h, out := P21_0x, ret := default }
theorem l21_0_is {R : Type} (G : ORC R) (k : Nat) (X : List V → Option R) (K : Ex → St → Option R) (xl3 : List V) (xi4 xi5 xi6 : Int) :
    roundOf (TAB.env 21) G (L21 G k) D21_0 X K [(.sl 4 xl3), (.int .i64 xi4), (.int .i64 xi5), (.int .i64 xi6)] = b21_0 G k (fun xl3 xi4 xi5 xi6 => X [(.sl 4 xl3), (.int .i64 xi4), (.int .i64 xi5), (.int .i64 xi6)]) (fun yi26 => K .normal (P21_0x.inst [(.int .i64 yi26)])) xl3 xi4 xi5 xi6 := by kernel_rfl
theorem f21_is {R : Type} (G : ORC R) (k : Nat) (K : List V → Option R) (al1 : List V) (ai2 : Int) :
    callF (TAB.env 21) G (L21 G k) Try.f21 S21 [(.sl 4 al1), (.int .i64 ai2)] K = f21 G k al1 ai2 K := by kernel_rfl
theorem li21_0 {R : Type} (G : ORC R) (k : Nat) : LoopIs (TAB.env 21) G (L21 G k) 0 (loopAt 0 (bodyOf Try.f21)) :=
  ⟨D21_0, fun j vs K => rd21_0 G k K j vs, k, rfl, rfl, by kernel_rfl, by kernel_rfl, by kernel_rfl, (fun vs K => by unfold rd21_0; dsimp only; split <;> rfl),
    (fun j vs K r h => by
      unfold rd21_0 at h
      dsimp only at h
      split at h
      · rw [l21_0_is]; exact h
      · cases h), (fun S K r h => h)⟩
theorem lo21 : loopsOf (bodyOf Try.f21) = [(0, loopAt 0 (bodyOf Try.f21))] := by kernel_rfl
theorem la21 {R : Type} (G : ORC R) (k : Nat) : LoopsAre (TAB.env 21) G (L21 G k) (bodyOf Try.f21) :=
  loopsAre_of (by rw [lo21]; intro p hp; simp only [List.mem_cons, List.not_mem_nil, or_false] at hp; subst hp; exact li21_0 G k)
def g21 {R : Type} (G : ORC R) (k : Nat) (args : List V) (K : List V → Option R) : Option R := match args with
  | [(.sl 4 al1), (.int .i64 ai2)] => f21 G k al1 ai2 K
  | _ => none
theorem s21 {R : Type} {G : ORC R} {k : Nat} (hG : Sound Try.prog TAB G) (args : List V) (K : List V → Option R) (r : R) (h : g21 G k args K = some r) : ∃ o, CallOK Try.prog TAB.env 21 args o ∧ K o = some r := by
  unfold g21 at h
  split at h
  · rw [← f21_is] at h
    exact callF_sound (f := 21) TAB_chk MO hG Try.func21 (sg := S21) (by kernel_rfl) (by kernel_rfl) (la21 G k) h
  · cases h
end Go.Proofs.Ytdfjodnkplbffaa.Vm
open Go Go.VM
set_option linter.unusedVariables false
set_option linter.unusedSimpArgs false
set_option maxRecDepth 100000
set_option maxHeartbeats 8000000
namespace Go.Proofs.Ytdfjodnkplbffaa.Vm
section
variable {R : Type} {G : ORC R} {k : Nat} {K : List V → Option R}
/-- What an instruction gives to the count of a place. -/
def fac (at_ : Int) : V → Int
  | .agg [.int _ op, .int _ a, .int _ n, _] => if op = 25 ∧ at_ < a then n else 1
  | _ => 1
def tpr (at_ : Int) : List V → Int
  | [] => 1
  | v :: r => fac at_ v * tpr at_ r
theorem tpr_app {q : Int} : ∀ {a b : List V}, tpr q (a ++ b) = tpr q a * tpr q b
  | [], b => by simp [tpr]
  | v :: a, b => by rw [List.cons_append, tpr, tpr, tpr_app, Int.mul_assoc]
theorem fac_ne {q op a n : Int} {s : ByteArray} (h : op ≠ 25) : fac q (insS op a n s) = 1 := by unfold fac insS; exact if_neg fun h' => h h'.1
theorem fac_no {q a n : Int} {s : ByteArray} (h : a ≤ q) : fac q (insS 25 a n s) = 1 := by unfold fac insS; exact if_neg fun h' => by omega
theorem fac_in {q a n : Int} {s : ByteArray} (h : q < a) : fac q (insS 25 a n s) = n := by unfold fac insS; exact if_pos ⟨rfl, h⟩
theorem seg_out {e p : Nat} {c : List V} {t : List Int} (h : Seg e p c t) : ∀ q : Int, ((p + c.length : Nat) : Int) ≤ q → tpr q c = 1 := by
  induction h with
  | nil => intro q _; rfl
  | one h1 h2 h3 h4 ih => intro q hq; rw [tpr, fac_ne h1, ih q (by rw [List.length_cons] at hq; omega)]; rfl
  | @loop p n B c tb t h1 h2 h3 h4 h5 ih1 ih2 =>
    intro q hq
    simp only [List.length_cons, List.length_append] at hq
    rw [tpr, show ins 25 (p + B.length + 2 : Nat) n = insS 25 (p + B.length + 2 : Nat) n ⟨#[]⟩ from rfl, fac_no (by omega), tpr_app, ih1 q (by omega), tpr, show ins 26 (p : Int) 0 = insS 26 p 0 ⟨#[]⟩ from rfl, fac_ne (by omega), ih2 q (by omega)]; rfl
theorem seg_in {e p : Nat} {c : List V} {t : List Int} (h : Seg e p c t) : ∀ i : Nat, i < c.length → t[i]? = some (tpr ((p + i : Nat) : Int) (c.take i)) := by
  induction h with
  | nil => intro i hi; simp at hi
  | @one p op a n s c t h1 h2 h3 h4 ih =>
    intro i hi
    cases i with
    | zero => rfl
    | succ i =>
      rw [List.getElem?_cons_succ, ih i (by simpa using hi), List.take_succ_cons, tpr, fac_ne h1, Int.one_mul, show p + 1 + i = p + (i + 1) by omega]
  | @loop p n B c tb t h1 h2 h3 h4 h5 ih1 ih2 =>
    intro i hi
    cases i with
    | zero => rfl
    | succ i =>
      have lb := seg_len h3
      simp only [List.length_cons, List.length_append] at hi
      rw [List.getElem?_cons_succ, List.take_succ_cons, tpr, show ins 25 (p + B.length + 2 : Nat) n = insS 25 (p + B.length + 2 : Nat) n ⟨#[]⟩ from rfl]
      by_cases hb : i < B.length
      · rw [fac_in (by omega), List.take_append_of_le_length (by omega), List.getElem?_append_left (by simp; omega), List.getElem?_map, ih1 i hb, show p + (i + 1) = p + 1 + i by omega]; rfl
      · by_cases he : i = B.length
        · subst he
          rw [fac_in (by omega), List.take_append_of_le_length (Nat.le_refl _), List.take_length, seg_out h3 _ (by omega), List.getElem?_append_right (by simp; omega)]
          simp [lb]
        · obtain ⟨m, rfl⟩ : ∃ m, i = B.length + 1 + m := ⟨i - B.length - 1, by omega⟩
          rw [fac_no (by omega), List.getElem?_append_right (by simp; omega)]
          have e1 : B.length + 1 + m - (tb.map (n * ·)).length = m + 1 := by simp; omega
          have e2 : (B ++ ins 26 (p : Int) 0 :: c).take (B.length + 1 + m) = B ++ ins 26 (p : Int) 0 :: c.take m := by
            rw [List.take_append, List.take_of_length_le (by omega), show B.length + 1 + m - B.length = m + 1 by omega, List.take_succ_cons]
          rw [e1, e2, List.getElem?_cons_succ, tpr_app, seg_out h3 _ (by omega), tpr, show ins 26 (p : Int) 0 = insS 26 p 0 ⟨#[]⟩ from rfl, fac_ne (by omega), ih2 m (by omega), show p + B.length + 2 + m = p + (B.length + 1 + m + 1) by omega]
          simp
/-- Instructions; a loop's rounds. -/
def Ok25 (l : List V) : Prop := ∀ v ∈ l, ∃ op a n s, v = insS op a n s ∧ (op = 25 → 1 ≤ n ∧ n ≤ 16)
theorem seg_ok {e p : Nat} {c : List V} {t : List Int} (h : Seg e p c t) : Ok25 c := by
  induction h with
  | nil => intro v hv; cases hv
  | @one p op a n s c t h1 h2 h3 h4 ih =>
    intro v hv
    rcases List.mem_cons.1 hv with rfl | hv
    · exact ⟨op, a, n, s, rfl, fun h => absurd h h1⟩
    · exact ih v hv
  | @loop p n B c tb t h1 h2 h3 h4 h5 ih1 ih2 =>
    intro v hv
    simp only [List.mem_cons, List.mem_append] at hv
    rcases hv with rfl | hv | rfl | hv
    · exact ⟨25, _, n, ⟨#[]⟩, rfl, fun _ => ⟨h1, h2⟩⟩
    · exact ih1 v hv
    · exact ⟨26, _, 0, ⟨#[]⟩, rfl, fun h => by omega⟩
    · exact ih2 v hv
theorem ok25_take {l : List V} {m : Nat} (h : Ok25 l) : Ok25 (l.take m) := fun v hv => h v (List.mem_of_mem_take hv)
theorem tpr_pos {q : Int} : ∀ {l : List V}, Ok25 l → 1 ≤ tpr q l
  | [], _ => by simp [tpr]
  | v :: r, h => by
    obtain ⟨op, a, n, s, rfl, hn⟩ := h v List.mem_cons_self
    have h2 := tpr_pos (q := q) (l := r) fun u hu => h u (List.mem_cons_of_mem _ hu)
    have h1 : 1 ≤ fac q (insS op a n s) := by
      unfold fac insS
      dsimp only
      split
      · rename_i h'; exact (hn h'.1).1
      · omega
    have : 1 * 1 ≤ fac q (insS op a n s) * tpr q r := Int.mul_le_mul h1 h2 (by omega) (by omega)
    rw [tpr]; omega
theorem tpr_le {q : Int} {l : List V} {m : Nat} (h : Ok25 l) : tpr q (l.take m) ≤ tpr q l := by
  have h1 := tpr_pos (q := q) (ok25_take (m := m) h)
  have h2 := tpr_pos (q := q) (l := l.drop m) fun v hv => h v (List.mem_of_mem_drop hv)
  have e : tpr q l = tpr q (l.take m) * tpr q (l.drop m) := by rw [← tpr_app, List.take_append_drop]
  have : tpr q (l.take m) * 1 ≤ tpr q (l.take m) * tpr q (l.drop m) := Int.mul_le_mul_of_nonneg_left h2 (by omega)
  rw [e]; omega
theorem tpr_snoc {q : Int} {l : List V} {v : V} {m : Nat} (h : l[m]? = some v) : tpr q (l.take (m + 1)) = tpr q (l.take m) * fac q v := by
  rw [List.take_add_one, h, tpr_app]
  simp [tpr]
def tmAt (t : List Int) (q : Int) : Int := if 0 ≤ q ∧ q < t.length then t.getD q.toNat 0 else 0
theorem tmAt_in {t : List Int} {i : Nat} {x : Int} (h : t[i]? = some x) : tmAt t (i : Int) = x := by
  obtain ⟨hl, e⟩ := List.getElem?_eq_some_iff.1 h
  unfold tmAt
  rw [if_pos ⟨by omega, by omega⟩, Int.toNat_natCast, List.getD_eq_getElem?_getD, h]; rfl
def TmX (f : FuncId) (G : ORC R) : Prop := ∀ (c : List V) (t : List Int) (e : Nat) (q : Int) (K : List V → Option R), Seg e 0 c t → (∀ x ∈ t, 1 ≤ x ∧ x ≤ 1099511627776) → c.length ≤ 9999 → W (fun o => o = [.int .i64 (tmAt t q)]) K (G f [.sl 4 c, .int .i64 q] K)
theorem ct_loop {Q : List V → Prop} {K : List V → Option R} {Ko : Int → Option R} {L : List V} {q : Int} (hL : Ok25 L) (hq : (L.length : Int) ≤ q) (hl : L.length ≤ 9999) (hm : tpr q L ≤ 1099511627776) (hKo : W Q K (Ko (tpr q L))) :
    ∀ (j m : Nat), L.length - m < j → m ≤ L.length → W Q K (l20_0g G k Ko j q (tpr q (L.take m)) L L.length m)
  | 0, m, h1, h2 => by omega
  | j + 1, m, h1, h2 => by
    show W Q K (b20_0 G k (l20_0g G k Ko j) Ko q (tpr q (L.take m)) L L.length m)
    unfold b20_0
    refine W_dec (fun h => ?_) (fun h => by rw [show m = L.length by omega, List.take_length]; exact hKo)
    obtain ⟨v, hv⟩ : ∃ v, L[m]? = some v := ⟨_, List.getElem?_eq_getElem (by omega)⟩
    have hs := tpr_snoc (q := q) hv
    have hle := Int.le_trans (tpr_le (q := q) (m := m + 1) hL) hm
    have hps := tpr_pos (q := q) (ok25_take (m := m + 1) hL)
    have next := ct_loop hL hq hl hm hKo j (m + 1) (by omega) (by omega)
    obtain ⟨op, a, n, s, rfl, hn⟩ := hL v (List.mem_of_getElem? hv)
    refine W_at (by omega) (by rw [Int.toNat_natCast]; exact hv) ?_
    unfold insS
    (repeat (with_reducible (first | (refine W_uI ?_) | (refine W_uS ?_) | (refine W_uL ?_) | (refine W_uA ?_) | (refine W_uB ?_) | (refine W_aI ?_) | (refine W_aL ?_) | (refine W_ca3 ?_) | (refine W_ce3 ?_) | (refine W_ca4 ?_) | (refine W_ce4 ?_) | (refine W_ca5 ?_) | (refine W_ce5 ?_) | (refine W_ca6 ?_) | (refine W_ce6 ?_) | (refine W_ca7 ?_) | (refine W_ce7 ?_) | (refine W_ca8 ?_) | (refine W_ce8 ?_) | (refine W_nd7 ?_) | (refine W_unCons ?_) | (refine W_unNil ?_) | (refine W_asInt ?_) | (refine W_asBool ?_) | (refine W_asStr ?_) | (refine W_asSl ?_) | (refine W_asAgg ?_) | (refine W_kd ?_) | (refine W_z ?_))))
    rw [wrap_id (n := (m : Int) + 1) (by omega)]
    refine W_beqI (fun h25 => ?_) (fun h25 => ?_)
    · subst h25
      refine W_yes (by omega) ?_
      refine W_dec (fun ha => ?_) (fun ha => ?_)
      · rw [fac_in ha] at hs
        rw [← hs, wrap_id (by omega)]; exact next
      · rw [fac_no (by omega), Int.mul_one] at hs
        rw [← hs]; exact next
    · rw [fac_ne h25, Int.mul_one] at hs
      rw [← hs]; exact next
theorem ctx_ok (hk : 10000 ≤ k) : TmX 20 (fun _ args (K : List V → Option R) => g20 G k args K) := by
  intro c t e q K hc ht hl
  show W _ K (f20 G k c q K)
  unfold f20
  have lt := seg_len hc
  refine W_dec (fun h => W_ret (by rw [tmAt, if_neg (by omega)])) (fun h => ?_)
  refine W_dec (fun h => W_ret (by rw [tmAt, if_neg (by omega)])) (fun h' => ?_)
  obtain ⟨i, rfl⟩ : ∃ i : Nat, q = i := ⟨q.toNat, by omega⟩
  have hi := seg_in hc i (by omega)
  rw [Nat.zero_add] at hi
  have hx := ht _ (List.mem_of_getElem? hi)
  refine W_and (W_yes (by omega) (W_yes (by omega) ?_))
  rw [Int.toNat_natCast]
  unfold l20_0
  have := ct_loop (G := G) (k := k) (Q := fun o => o = [.int .i64 (tmAt t i)]) (K := K) (Ko := fun y => K [.int .i64 y]) (L := c.take i) (q := (i : Int)) (ok25_take (seg_ok hc)) (by simp; omega) (by simp; omega) (by omega) (W_ret (by rw [tmAt_in hi])) k 0 (by simp; omega) (by omega)
  exact this
theorem rt_loop {Q : List V → Prop} {K : List V → Option R} {Ko : Int → Option R} {c : List V} {i : Nat} (hL : Ok25 c) (hi : i < c.length) (hl : c.length ≤ 9999) (hm : tpr i (c.take i) ≤ 1099511627776) (hKo : W Q K (Ko (tpr i (c.take i)))) :
    ∀ (j m : Nat), i - m < j → m ≤ i → W Q K (l21_0g G k Ko j c i (tpr i (c.take m)) m)
  | 0, m, h1, h2 => by omega
  | j + 1, m, h1, h2 => by
    show W Q K (b21_0 G k (l21_0g G k Ko j) Ko c i (tpr i (c.take m)) m)
    unfold b21_0
    refine W_dec (fun h => ?_) (fun h => by rw [show m = i by omega]; exact hKo)
    obtain ⟨v, hv⟩ : ∃ v, c[m]? = some v := ⟨_, List.getElem?_eq_getElem (by omega)⟩
    have hs := tpr_snoc (q := (i : Int)) hv
    have e : (c.take i).take (m + 1) = c.take (m + 1) := by rw [List.take_take, Nat.min_eq_left (by omega)]
    have hle := Int.le_trans (tpr_le (q := (i : Int)) (m := m + 1) (ok25_take (m := i) hL)) hm
    rw [e] at hle
    have hps := tpr_pos (q := (i : Int)) (ok25_take (m := m + 1) hL)
    have next := rt_loop hL hi hl hm hKo j (m + 1) (by omega) (by omega)
    obtain ⟨op, a, n, s, rfl, hn⟩ := hL v (List.mem_of_getElem? hv)
    refine W_at (by omega) (by rw [Int.toNat_natCast]; exact hv) ?_
    unfold insS at hv ⊢
    (repeat (with_reducible (first | (refine W_uI ?_) | (refine W_uS ?_) | (refine W_uL ?_) | (refine W_uA ?_) | (refine W_uB ?_) | (refine W_aI ?_) | (refine W_aL ?_) | (refine W_ca3 ?_) | (refine W_ce3 ?_) | (refine W_ca4 ?_) | (refine W_ce4 ?_) | (refine W_ca5 ?_) | (refine W_ce5 ?_) | (refine W_ca6 ?_) | (refine W_ce6 ?_) | (refine W_ca7 ?_) | (refine W_ce7 ?_) | (refine W_ca8 ?_) | (refine W_ce8 ?_) | (refine W_nd7 ?_) | (refine W_unCons ?_) | (refine W_unNil ?_) | (refine W_asInt ?_) | (refine W_asBool ?_) | (refine W_asStr ?_) | (refine W_asSl ?_) | (refine W_asAgg ?_) | (refine W_kd ?_) | (refine W_z ?_))))
    rw [wrap_id (n := (m : Int) + 1) (by omega)]
    refine W_beqI (fun h25 => ?_) (fun h25 => ?_)
    · subst h25
      refine W_at (by omega) (by rw [Int.toNat_natCast]; exact hv) ?_
      (repeat (with_reducible (first | (refine W_uI ?_) | (refine W_uS ?_) | (refine W_uL ?_) | (refine W_uA ?_) | (refine W_uB ?_) | (refine W_aI ?_) | (refine W_aL ?_) | (refine W_ca3 ?_) | (refine W_ce3 ?_) | (refine W_ca4 ?_) | (refine W_ce4 ?_) | (refine W_ca5 ?_) | (refine W_ce5 ?_) | (refine W_ca6 ?_) | (refine W_ce6 ?_) | (refine W_ca7 ?_) | (refine W_ce7 ?_) | (refine W_ca8 ?_) | (refine W_ce8 ?_) | (refine W_nd7 ?_) | (refine W_unCons ?_) | (refine W_unNil ?_) | (refine W_asInt ?_) | (refine W_asBool ?_) | (refine W_asStr ?_) | (refine W_asSl ?_) | (refine W_asAgg ?_) | (refine W_kd ?_) | (refine W_z ?_))))
      refine W_dec (fun ha => ?_) (fun ha => ?_)
      · refine W_at (by omega) (by rw [Int.toNat_natCast]; exact hv) ?_
        (repeat (with_reducible (first | (refine W_uI ?_) | (refine W_uS ?_) | (refine W_uL ?_) | (refine W_uA ?_) | (refine W_uB ?_) | (refine W_aI ?_) | (refine W_aL ?_) | (refine W_ca3 ?_) | (refine W_ce3 ?_) | (refine W_ca4 ?_) | (refine W_ce4 ?_) | (refine W_ca5 ?_) | (refine W_ce5 ?_) | (refine W_ca6 ?_) | (refine W_ce6 ?_) | (refine W_ca7 ?_) | (refine W_ce7 ?_) | (refine W_ca8 ?_) | (refine W_ce8 ?_) | (refine W_nd7 ?_) | (refine W_unCons ?_) | (refine W_unNil ?_) | (refine W_asInt ?_) | (refine W_asBool ?_) | (refine W_asStr ?_) | (refine W_asSl ?_) | (refine W_asAgg ?_) | (refine W_kd ?_) | (refine W_z ?_))))
        rw [fac_in ha] at hs
        rw [← hs, wrap_id (by omega)]; exact next
      · rw [fac_no (by omega), Int.mul_one] at hs
        rw [← hs]; exact next
    · rw [fac_ne h25, Int.mul_one] at hs
      rw [← hs]; exact next
theorem rtx_ok (hk : 10000 ≤ k) : TmX 21 (fun _ args (K : List V → Option R) => g21 G k args K) := by
  intro c t e q K hc ht hl
  show W _ K (f21 G k c q K)
  unfold f21
  have lt := seg_len hc
  refine W_dec (fun h => W_ret (by rw [tmAt, if_neg (by omega)])) (fun h => ?_)
  refine W_dec (fun h => W_ret (by rw [tmAt, if_neg (by omega)])) (fun h' => ?_)
  obtain ⟨i, rfl⟩ : ∃ i : Nat, q = i := ⟨q.toNat, by omega⟩
  have hi := seg_in hc i (by omega)
  rw [Nat.zero_add] at hi
  have hx := ht _ (List.mem_of_getElem? hi)
  unfold l21_0
  have := rt_loop (G := G) (k := k) (Q := fun o => o = [.int .i64 (tmAt t i)]) (K := K) (Ko := fun y => K [.int .i64 y]) (c := c) (i := i) (seg_ok hc) (by omega) hl (by omega) (W_ret (by rw [tmAt_in hi])) k 0 (by omega) (by omega)
  exact this
end
end Go.Proofs.Ytdfjodnkplbffaa.Vm
open Go Go.VM
set_option linter.unusedVariables false
set_option maxRecDepth 100000
set_option maxHeartbeats 4000000
namespace Go.Proofs.Ytdfjodnkplbffaa.Vm
/-! ### cotillion/code.Most: function 22 -/
def P22_2h : Pat := { tmps := unds [.undef, .undef, .undef, .var (.int .i64) .pr, .var (.int .i64) .pr, .var (.sl 1) (.own true), .var (.sl 1) (.own true), .var (.int .i64) .pr, .stat (.one (.ptr 8 0) .pt), .var (.sl 4) .ro, .var (.int .i64) .pr, .var (.int .i64) .pr] 54 [], boxes := nons [] 8 (nons [some [.var (.int .i64) .pr false, .var (.int .i64) .pr false, .var (.int .i64) .pr false, .var .str .pr false]] 57 []) }
def P22_2x : Pat := { tmps := unds [.undef, .undef, .undef, .var (.int .i64) .pr, .var (.int .i64) .pr, .var (.sl 1) (.own true), .var (.sl 1) (.own true), .undef, .stat (.one (.ptr 8 0) .pt), .var (.sl 4) .ro, .var (.int .i64) .pr, .var (.int .i64) .pr] 54 [], boxes := nons [] 8 (nons [some [.var (.int .i64) .pr false, .var (.int .i64) .pr false, .var (.int .i64) .pr false, .var .str .pr false]] 57 []) }
def b22_2 {R : Type} (G : ORC R) (k : Nat) (X : Int → Int → List V → List V → Int → List V → Int → Int → Int → Int → Int → ByteArray → Option R) (Ko : Int → Int → List V → List V → List V → Int → Int → Int → Int → Int → ByteArray → Option R) (xi24 xi25 : Int) (xl26 xl27 : List V) (xi28 : Int) (xl29 : List V) (xi30 xi31 : Int) (xi32 xi33 xi34 : Int) (xs35 : ByteArray) : Option R :=
  (bif (decide (((List.length xl26 : Nat) : Int) > 0)) then (bif ((decide (0 ≤ (IntKind.i64.wrap (((List.length xl26 : Nat) : Int) - 1)))) && (decide ((IntKind.i64.wrap (((List.length xl26 : Nat) : Int) - 1)) < ((List.length xl26 : Nat) : Int)))) then (nthK xl26 (Int.toNat (IntKind.i64.wrap (((List.length xl26 : Nat) : Int) - 1))) fun e36 => (aI .i64 e36 fun n37 => (bif (decide (n37 ≤ xi28)) then (bif ((decide (0 ≤ (IntKind.i64.wrap (((List.length xl27 : Nat) : Int) - 1)))) && (decide ((IntKind.i64.wrap (((List.length xl27 : Nat) : Int) - 1)) < ((List.length xl27 : Nat) : Int)))) then (nthK xl27 (Int.toNat (IntKind.i64.wrap (((List.length xl27 : Nat) : Int) - 1))) fun e38 => (aI .i64 e38 fun n39 => (bif ((decide (0 ≤ (IntKind.i64.wrap (((List.length xl26 : Nat) : Int) - 1)))) && (decide ((IntKind.i64.wrap (((List.length xl26 : Nat) : Int) - 1)) ≤ ((List.length xl26 : Nat) : Int)))) then (bif ((decide (0 ≤ (IntKind.i64.wrap (((List.length xl27 : Nat) : Int) - 1)))) && (decide ((IntKind.i64.wrap (((List.length xl27 : Nat) : Int) - 1)) ≤ ((List.length xl27 : Nat) : Int)))) then (X xi24 n39 (List.take (Int.toNat (IntKind.i64.wrap (((List.length xl26 : Nat) : Int) - 1))) xl26) (List.take (Int.toNat (IntKind.i64.wrap (((List.length xl27 : Nat) : Int) - 1))) xl27) xi28 xl29 xi30 xi31 xi32 xi33 xi34 xs35) else none) else none))) else none) else (Ko xi24 xi25 xl26 xl27 xl29 xi30 xi31 xi32 xi33 xi34 xs35)))) else none) else (Ko xi24 xi25 xl26 xl27 xl29 xi30 xi31 xi32 xi33 xi34 xs35))
def l22_2g {R : Type} (G : ORC R) (k : Nat) (Ko : Int → Int → List V → List V → List V → Int → Int → Int → Int → Int → ByteArray → Option R) : Nat → Int → Int → List V → List V → Int → List V → Int → Int → Int → Int → Int → ByteArray → Option R
  | 0 => fun _ _ _ _ _ _ _ _ _ _ _ _ => none
  | j + 1 => b22_2 G k (l22_2g G k Ko j) Ko
def l22_2 {R : Type} (G : ORC R) (k : Nat) (xi24 xi25 : Int) (xl26 xl27 : List V) (xi28 : Int) (xl29 : List V) (xi30 xi31 : Int) (xi32 xi33 xi34 : Int) (xs35 : ByteArray) (Ko : Int → Int → List V → List V → List V → Int → Int → Int → Int → Int → ByteArray → Option R) : Option R := l22_2g G k Ko k xi24 xi25 xl26 xl27 xi28 xl29 xi30 xi31 xi32 xi33 xi34 xs35
def P22_0h : Pat := { tmps := unds [.undef, .undef, .undef, .var (.int .i64) .pr, .var (.int .i64) .pr, .var (.sl 1) (.own true), .var (.sl 1) (.own true), .undef, .undef, .var (.sl 4) .ro, .var (.int .i64) .pr, .var (.int .i64) .pr] 54 [], boxes := nons [] 66 [] }
def P22_0x : Pat := { tmps := unds [.undef, .undef, .undef, .var (.int .i64) .pr] 62 [], boxes := nons [] 66 [] }
def b22_0 {R : Type} (G : ORC R) (k : Nat) (X : Int → Int → List V → List V → List V → Int → Int → Option R) (Ko : Int → Option R) (xi2 xi3 : Int) (xl4 xl5 xl6 : List V) (xi7 xi8 : Int) : Option R :=
  (bif (decide (xi8 < xi7)) then (bif ((decide (0 ≤ xi8)) && (decide (xi8 < ((List.length xl6 : Nat) : Int)))) then (nthK xl6 (Int.toNat xi8) fun e9 => (V.asAgg e9 fun l10 => (ce4 l10 fun c11 c12 c13 c14 => (aI .i64 c11 fun n20 => (aI .i64 c12 fun n21 => (aI .i64 c13 fun n22 => (V.asStr c14 fun s23 => (l22_2 G k xi2 xi3 xl4 xl5 xi8 xl6 xi7 xi8 n20 n21 n22 s23 (fun yi24 yi25 yl26 yl27 yl28 yi29 yi30 yi31 yi32 yi33 ys34 => (bif (yi31 == 25) then (bif (decide (List.length yl26 + 1 ≤ 1073741824)) then (bif (decide (List.length yl27 + 1 ≤ 1073741824)) then (X (IntKind.i64.wrap (yi24 + yi25)) (IntKind.i64.wrap (yi25 * yi33)) (yl26 ++ [(.int .i64 yi32)]) (yl27 ++ [(.int .i64 yi25)]) yl28 yi29 (IntKind.i64.wrap (yi30 + 1))) else none) else none) else (X (IntKind.i64.wrap (yi24 + yi25)) yi25 yl26 yl27 yl28 yi29 (IntKind.i64.wrap (yi30 + 1))))))))))))) else none) else (Ko xi2))
def l22_0g {R : Type} (G : ORC R) (k : Nat) (Ko : Int → Option R) : Nat → Int → Int → List V → List V → List V → Int → Int → Option R
  | 0 => fun _ _ _ _ _ _ _ => none
  | j + 1 => b22_0 G k (l22_0g G k Ko j) Ko
def l22_0 {R : Type} (G : ORC R) (k : Nat) (xi2 xi3 : Int) (xl4 xl5 xl6 : List V) (xi7 xi8 : Int) (Ko : Int → Option R) : Option R := l22_0g G k Ko k xi2 xi3 xl4 xl5 xl6 xi7 xi8
def rd22_2 {R : Type} (G : ORC R) (k : Nat) (K : Ex → St → Option R) (j : Nat) (vs : List V) : Option R := match vs with
  | [(.int .i64 xi24), (.int .i64 xi25), (.sl 1 xl26), (.sl 1 xl27), (.int .i64 xi28), (.sl 4 xl29), (.int .i64 xi30), (.int .i64 xi31), (.int .i64 xi32), (.int .i64 xi33), (.int .i64 xi34), (.str xs35)] => l22_2g G k (fun yi36 yi37 yl38 yl39 yl40 yi41 yi42 yi43 yi44 yi45 ys46 => K .normal (P22_2x.inst [(.int .i64 yi36), (.int .i64 yi37), (.sl 1 yl38), (.sl 1 yl39), (.sl 4 yl40), (.int .i64 yi41), (.int .i64 yi42), (.int .i64 yi43), (.int .i64 yi44), (.int .i64 yi45), (.str ys46)])) j xi24 xi25 xl26 xl27 xi28 xl29 xi30 xi31 xi32 xi33 xi34 xs35
  | _ => none
def rd22_0 {R : Type} (G : ORC R) (k : Nat) (K : Ex → St → Option R) (j : Nat) (vs : List V) : Option R := match vs with
  | [(.int .i64 xi2), (.int .i64 xi3), (.sl 1 xl4), (.sl 1 xl5), (.sl 4 xl6), (.int .i64 xi7), (.int .i64 xi8)] => l22_0g G k (fun yi47 => K .normal (P22_0x.inst [(.int .i64 yi47)])) j xi2 xi3 xl4 xl5 xl6 xi7 xi8
  | _ => none
def L22 {R : Type} (G : ORC R) (k : Nat) : Nat → St → (Ex → St → Option R) → Option R
  | 2, S, K => P22_2h.mat S fun vs => rd22_2 G k K k vs
  | 0, S, K => P22_0h.mat S fun vs => rd22_0 G k K k vs
  | _, _, _ => none
def f22 {R : Type} (G : ORC R) (k : Nat) (al1 : List V) (K : List V → Option R) : Option R :=
  (l22_0 G k 0 1 [] [] al1 ((List.length al1 : Nat) : Int) 0 (fun yi35 => (K [(.int .i64 yi35)])))
noncomputable def D22_2 : LoopD := { id := 2, body := loopAt 2 (bodyOf Try.f22), head := P22_2h, out := P22_2x, ret := default }
theorem l22_2_is {R : Type} (G : ORC R) (k : Nat) (X : List V → Option R) (K : Ex → St → Option R) (xi24 xi25 : Int) (xl26 xl27 : List V) (xi28 : Int) (xl29 : List V) (xi30 xi31 : Int) (xi32 xi33 xi34 : Int) (xs35 : ByteArray) :
    roundOf (TAB.env 22) G (L22 G k) D22_2 X K [(.int .i64 xi24), (.int .i64 xi25), (.sl 1 xl26), (.sl 1 xl27), (.int .i64 xi28), (.sl 4 xl29), (.int .i64 xi30), (.int .i64 xi31), (.int .i64 xi32), (.int .i64 xi33), (.int .i64 xi34), (.str xs35)] = b22_2 G k (fun xi24 xi25 xl26 xl27 xi28 xl29 xi30 xi31 xi32 xi33 xi34 xs35 => X [(.int .i64 xi24), (.int .i64 xi25), (.sl 1 xl26), (.sl 1 xl27), (.int .i64 xi28), (.sl 4 xl29), (.int .i64 xi30), (.int .i64 xi31), (.int .i64 xi32), (.int .i64 xi33), (.int .i64 xi34), (.str xs35)]) (fun yi36 yi37 yl38 yl39 yl40 yi41 yi42 yi43 yi44 yi45 ys46 => K .normal (P22_2x.inst [(.int .i64 yi36), (.int .i64 yi37), (.sl 1 yl38), (.sl 1 yl39), (.sl 4 yl40), (.int .i64 yi41), (.int .i64 yi42), (.int .i64 yi43), (.int .i64 yi44), (.int .i64 yi45), (.str ys46)])) xi24 xi25 xl26 xl27 xi28 xl29 xi30 xi31 xi32 xi33 xi34 xs35 := by kernel_rfl
noncomputable def D22_0 : LoopD := { id := 0, body := loopAt 0 (bodyOf Try.f22), head := P22_0h, out := P22_0x, ret := default }
theorem l22_0_is {R : Type} (G : ORC R) (k : Nat) (X : List V → Option R) (K : Ex → St → Option R) (xi2 xi3 : Int) (xl4 xl5 xl6 : List V) (xi7 xi8 : Int) :
    roundOf (TAB.env 22) G (L22 G k) D22_0 X K [(.int .i64 xi2), (.int .i64 xi3), (.sl 1 xl4), (.sl 1 xl5), (.sl 4 xl6), (.int .i64 xi7), (.int .i64 xi8)] = b22_0 G k (fun xi2 xi3 xl4 xl5 xl6 xi7 xi8 => X [(.int .i64 xi2), (.int .i64 xi3), (.sl 1 xl4), (.sl 1 xl5), (.sl 4 xl6), (.int .i64 xi7), (.int .i64 xi8)]) (fun yi47 => K .normal (P22_0x.inst [(.int .i64 yi47)])) xi2 xi3 xl4 xl5 xl6 xi7 xi8 := by kernel_rfl
theorem f22_is {R : Type} (G : ORC R) (k : Nat) (K : List V → Option R) (al1 : List V) :
    callF (TAB.env 22) G (L22 G k) Try.f22 S22 [(.sl 4 al1)] K = f22 G k al1 K := by kernel_rfl
theorem li22_2 {R : Type} (G : ORC R) (k : Nat) : LoopIs (TAB.env 22) G (L22 G k) 2 (loopAt 2 (bodyOf Try.f22)) :=
  ⟨D22_2, fun j vs K => rd22_2 G k K j vs, k, rfl, rfl, by kernel_rfl, by kernel_rfl, by kernel_rfl, (fun vs K => by unfold rd22_2; dsimp only; split <;> rfl),
    (fun j vs K r h => by
      unfold rd22_2 at h
      dsimp only at h
      split at h
      · rw [l22_2_is]; exact h
      · cases h), (fun S K r h => h)⟩
theorem li22_0 {R : Type} (G : ORC R) (k : Nat) : LoopIs (TAB.env 22) G (L22 G k) 0 (loopAt 0 (bodyOf Try.f22)) :=
  ⟨D22_0, fun j vs K => rd22_0 G k K j vs, k, rfl, rfl, by kernel_rfl, by kernel_rfl, by kernel_rfl, (fun vs K => by unfold rd22_0; dsimp only; split <;> rfl),
    (fun j vs K r h => by
      unfold rd22_0 at h
      dsimp only at h
      split at h
      · rw [l22_0_is]; exact h
      · cases h), (fun S K r h => h)⟩
theorem lo22 : loopsOf (bodyOf Try.f22) = [(0, loopAt 0 (bodyOf Try.f22)), (2, loopAt 2 (bodyOf Try.f22))] := by kernel_rfl
theorem la22 {R : Type} (G : ORC R) (k : Nat) : LoopsAre (TAB.env 22) G (L22 G k) (bodyOf Try.f22) :=
  loopsAre_of (by rw [lo22]; intro p hp; simp only [List.mem_cons, List.not_mem_nil, or_false] at hp; rcases hp with rfl | rfl <;> first | exact li22_0 G k | exact li22_2 G k)
def g22 {R : Type} (G : ORC R) (k : Nat) (args : List V) (K : List V → Option R) : Option R := match args with
  | [(.sl 4 al1)] => f22 G k al1 K
  | _ => none
theorem s22 {R : Type} {G : ORC R} {k : Nat} (hG : Sound Try.prog TAB G) (args : List V) (K : List V → Option R) (r : R) (h : g22 G k args K = some r) : ∃ o, CallOK Try.prog TAB.env 22 args o ∧ K o = some r := by
  unfold g22 at h
  split at h
  · rw [← f22_is] at h
    exact callF_sound (f := 22) TAB_chk MO hG Try.func22 (sg := S22) (by kernel_rfl) (by kernel_rfl) (la22 G k) h
  · cases h
end Go.Proofs.Ytdfjodnkplbffaa.Vm
open Go Go.VM
set_option linter.unusedVariables false
set_option linter.unusedSimpArgs false
set_option maxRecDepth 100000
set_option maxHeartbeats 8000000
namespace Go.Proofs.Ytdfjodnkplbffaa.Vm
section
variable {R : Type} {G : ORC R} {k : Nat} {K : List V → Option R}
def sm : List Int → Int
  | [] => 0
  | x :: r => x + sm r
theorem sm_app : ∀ {a b : List Int}, sm (a ++ b) = sm a + sm b
  | [], b => by simp [sm]
  | x :: a, b => by rw [List.cons_append, sm, sm, sm_app]; omega
theorem sm_mul {n : Int} : ∀ {a : List Int}, sm (a.map (n * ·)) = n * sm a
  | [] => by simp [sm]
  | x :: a => by rw [List.map_cons, sm, sm, sm_mul, Int.mul_add]
theorem sm_pos : ∀ {a : List Int}, (∀ x ∈ a, 1 ≤ x) → 0 ≤ sm a
  | [], _ => by simp [sm]
  | x :: a, h => by have := h x List.mem_cons_self; have := sm_pos fun y hy => h y (List.mem_cons_of_mem _ hy); rw [sm]; omega
theorem sm_le {m : Int} : ∀ {a : List Int}, (∀ x ∈ a, x ≤ m) → sm a ≤ a.length * m
  | [], _ => by simp [sm]
  | x :: a, h => by
    have h1 := h x List.mem_cons_self
    have h2 := sm_le fun y hy => h y (List.mem_cons_of_mem _ hy)
    have : ((x :: a).length : Int) * m = (a.length : Int) * m + m := by rw [List.length_cons, Int.natCast_add, Int.add_mul]; simp
    rw [sm, this]; omega
/-- The loops that are open; the last one ends behind a place. -/
def Above (q : Nat) (E : List V) : Prop := E = [] ∨ ∃ E' z, E = E' ++ [.int .i64 z] ∧ (q : Int) < z
theorem above_le {q q' : Nat} {E : List V} (h : Above q E) (hq : q' ≤ q) : Above q' E := by
  rcases h with h | ⟨E', z, h, hz⟩
  · exact .inl h
  · exact .inr ⟨E', z, h, by omega⟩
inductive Pops (q : Nat) : Int → List V → List V → Int → List V → List V → Prop
  | done {tm : Int} {E W : List V} : Above q E → Pops q tm E W tm E W
  | pop {tm' a w : Int} {E W : List V} {tm : Int} {E0 W0 : List V} : a ≤ q → Pops q w E W tm E0 W0 → Pops q tm' (E ++ [.int .i64 a]) (W ++ [.int .i64 w]) tm E0 W0
theorem pops_len {q : Nat} {tm0 : Int} {E W : List V} {tm : Int} {E0 W0 : List V} (h : Pops q tm0 E W tm E0 W0) (hl : E.length = W.length) : E0.length = W0.length ∧ E0.length ≤ E.length := by
  induction h with
  | done _ => exact ⟨hl, Nat.le_refl _⟩
  | pop _ _ ih => have := ih (by simpa using hl); exact ⟨this.1, by simp; omega⟩
theorem get_last {E : List V} {v : V} : (E ++ [v])[((E.length : Nat) : Int).toNat]? = some v := by rw [Int.toNat_natCast]; simp
theorem take_last {E : List V} {v : V} : (E ++ [v]).take ((E.length : Nat) : Int).toNat = E := by rw [Int.toNat_natCast]; simp
theorem wrap_last {E : List V} {v : V} (h : E.length ≤ 10000) : IntKind.i64.wrap ((((E ++ [v]).length : Nat) : Int) - 1) = E.length := by
  rw [List.length_append, List.length_singleton, wrap_id (by omega)]; omega
theorem pop_loop {Q : List V → Prop} {K : List V → Option R} {sum : Int} {q : Nat} {L : List V} {len idx op A N : Int} {s : ByteArray} {Ko : Int → Int → List V → List V → List V → Int → Int → Int → Int → Int → ByteArray → Option R} {tm0 : Int} {E W : List V} {tm : Int} {E0 W0 : List V} (h : Pops q tm0 E W tm E0 W0) (hl : E.length = W.length) (hl2 : E.length ≤ 10000)
    (hKo : Go.VM.W Q K (Ko sum tm E0 W0 L len idx op A N s)) : ∀ j : Nat, E.length < j → Go.VM.W Q K (l22_2g G k Ko j sum tm0 E W q L len idx op A N s) := by
  induction h with
  | @done tm E W h =>
    intro j hj
    obtain ⟨j, rfl⟩ : ∃ j', j = j' + 1 := ⟨j - 1, by omega⟩
    show Go.VM.W Q K (b22_2 G k (l22_2g G k Ko j) Ko sum tm E W q L len idx op A N s)
    unfold b22_2
    rcases h with rfl | ⟨E', z, rfl, hz⟩
    · exact W_no (by simp) hKo
    · have h1 : E'.length ≤ 10000 := by simp at hl2; omega
      refine W_yes (by simp) ?_
      rw [wrap_last h1]
      refine W_at (by omega) get_last ?_
      (repeat (with_reducible (first | (refine W_uI ?_) | (refine W_uS ?_) | (refine W_uL ?_) | (refine W_uA ?_) | (refine W_uB ?_) | (refine W_aI ?_) | (refine W_aL ?_) | (refine W_ca3 ?_) | (refine W_ce3 ?_) | (refine W_ca4 ?_) | (refine W_ce4 ?_) | (refine W_ca5 ?_) | (refine W_ce5 ?_) | (refine W_ca6 ?_) | (refine W_ce6 ?_) | (refine W_ca7 ?_) | (refine W_ce7 ?_) | (refine W_ca8 ?_) | (refine W_ce8 ?_) | (refine W_nd7 ?_) | (refine W_unCons ?_) | (refine W_unNil ?_) | (refine W_asInt ?_) | (refine W_asBool ?_) | (refine W_asStr ?_) | (refine W_asSl ?_) | (refine W_asAgg ?_) | (refine W_kd ?_) | (refine W_z ?_))))
      exact W_no (by omega) hKo
  | @pop tm' a w E W tm E0 W0 ha h ih =>
    intro j hj
    have hl' : E.length = W.length := by simpa using hl
    have h1 : E.length ≤ 10000 := by simp at hl2; omega
    obtain ⟨j, rfl⟩ : ∃ j', j = j' + 1 := ⟨j - 1, by omega⟩
    show Go.VM.W Q K (b22_2 G k (l22_2g G k Ko j) Ko sum tm' (E ++ [.int .i64 a]) (W ++ [.int .i64 w]) q L len idx op A N s)
    unfold b22_2
    refine W_yes (by simp) ?_
    rw [wrap_last h1, wrap_last (by omega)]
    refine W_at (by omega) get_last ?_
    (repeat (with_reducible (first | (refine W_uI ?_) | (refine W_uS ?_) | (refine W_uL ?_) | (refine W_uA ?_) | (refine W_uB ?_) | (refine W_aI ?_) | (refine W_aL ?_) | (refine W_ca3 ?_) | (refine W_ce3 ?_) | (refine W_ca4 ?_) | (refine W_ce4 ?_) | (refine W_ca5 ?_) | (refine W_ce5 ?_) | (refine W_ca6 ?_) | (refine W_ce6 ?_) | (refine W_ca7 ?_) | (refine W_ce7 ?_) | (refine W_ca8 ?_) | (refine W_ce8 ?_) | (refine W_nd7 ?_) | (refine W_unCons ?_) | (refine W_unNil ?_) | (refine W_asInt ?_) | (refine W_asBool ?_) | (refine W_asStr ?_) | (refine W_asSl ?_) | (refine W_asAgg ?_) | (refine W_kd ?_) | (refine W_z ?_))))
    refine W_yes ha ?_
    refine W_at (by omega) get_last ?_
    (repeat (with_reducible (first | (refine W_uI ?_) | (refine W_uS ?_) | (refine W_uL ?_) | (refine W_uA ?_) | (refine W_uB ?_) | (refine W_aI ?_) | (refine W_aL ?_) | (refine W_ca3 ?_) | (refine W_ce3 ?_) | (refine W_ca4 ?_) | (refine W_ce4 ?_) | (refine W_ca5 ?_) | (refine W_ce5 ?_) | (refine W_ca6 ?_) | (refine W_ce6 ?_) | (refine W_ca7 ?_) | (refine W_ce7 ?_) | (refine W_ca8 ?_) | (refine W_ce8 ?_) | (refine W_nd7 ?_) | (refine W_unCons ?_) | (refine W_unNil ?_) | (refine W_asInt ?_) | (refine W_asBool ?_) | (refine W_asStr ?_) | (refine W_asSl ?_) | (refine W_asAgg ?_) | (refine W_kd ?_) | (refine W_z ?_))))
    refine W_and (W_yes (by omega) (W_yes (by rw [List.length_append]; omega) ?_))
    refine W_and (W_yes (by omega) (W_yes (by rw [List.length_append]; omega) ?_))
    rw [take_last, take_last]
    exact ih hl' h1 hKo j (by simp at hj; omega)
theorem most_round {Q : List V → Prop} {K : List V → Option R} {X : Int → Int → List V → List V → List V → Int → Int → Option R} {Ko : Int → Option R} {L : List V} {p : Nat} {op a n : Int} {s : ByteArray} {sum tm0 : Int} {E W : List V} {tm : Int} {E0 W0 : List V}
    (hk : 10000 ≤ k) (hp : L[p]? = some (insS op a n s)) (hL : L.length ≤ 9900) (h : Pops p tm0 E W tm E0 W0) (hl : E.length = W.length) (hl2 : E.length ≤ p) (h0 : 0 ≤ sum) (ht : 1 ≤ tm) (hs : sum + tm ≤ 1152921504606846976)
    (h25 : op = 25 → 0 ≤ tm * n ∧ tm * n ≤ 1099511627776) (hX : op = 25 → Go.VM.W Q K (X (sum + tm) (tm * n) (E0 ++ [.int .i64 a]) (W0 ++ [.int .i64 tm]) L L.length (p + 1 : Nat))) (hX' : op ≠ 25 → Go.VM.W Q K (X (sum + tm) tm E0 W0 L L.length (p + 1 : Nat))) :
    Go.VM.W Q K (b22_0 G k X Ko sum tm0 E W L L.length p) := by
  unfold b22_0
  have hpl : p < L.length := (List.getElem?_eq_some_iff.1 hp).1
  have hle := pops_len h hl
  refine W_yes (by omega) (W_at (by omega) (by rw [Int.toNat_natCast]; exact hp) ?_)
  unfold insS
  (repeat (with_reducible (first | (refine W_uI ?_) | (refine W_uS ?_) | (refine W_uL ?_) | (refine W_uA ?_) | (refine W_uB ?_) | (refine W_aI ?_) | (refine W_aL ?_) | (refine W_ca3 ?_) | (refine W_ce3 ?_) | (refine W_ca4 ?_) | (refine W_ce4 ?_) | (refine W_ca5 ?_) | (refine W_ce5 ?_) | (refine W_ca6 ?_) | (refine W_ce6 ?_) | (refine W_ca7 ?_) | (refine W_ce7 ?_) | (refine W_ca8 ?_) | (refine W_ce8 ?_) | (refine W_nd7 ?_) | (refine W_unCons ?_) | (refine W_unNil ?_) | (refine W_asInt ?_) | (refine W_asBool ?_) | (refine W_asStr ?_) | (refine W_asSl ?_) | (refine W_asAgg ?_) | (refine W_kd ?_) | (refine W_z ?_))))
  unfold l22_2
  refine pop_loop h hl (by omega) ?_ k (by omega)
  have e1 : IntKind.i64.wrap ((p : Int) + 1) = (p + 1 : Nat) := by rw [wrap_id (by omega)]; rfl
  rw [e1, wrap_id (n := sum + tm) (by omega)]
  refine W_beqI (fun e => ?_) (fun e => hX' e)
  have := h25 e
  refine W_yes (by omega) (W_yes (by omega) ?_)
  rw [wrap_id (n := tm * n) (by omega)]
  exact hX e
theorem at_mid {A c D : List V} {v : V} {p : Nat} (h : A.length = p) : (A ++ (v :: c ++ D))[p]? = some v := by subst h; simp
theorem most_seg {Q : List V → Prop} {K : List V → Option R} {Ko : Int → Option R} {L : List V} {e : Nat} (hk : 10000 ≤ k) (hL : L.length ≤ 9900) {p : Nat} {c : List V} {t : List Int} (h : Seg e p c t) :
    ∀ (A D : List V) (j : Nat) (sum tm0 : Int) (E W : List V) (tm : Int) (E0 W0 : List V), L = A ++ (c ++ D) → A.length = p → Pops p tm0 E W tm E0 W0 → E.length = W.length → E.length ≤ p → Above (p + c.length) E0 → 1 ≤ tm → (∀ x ∈ t, 1 ≤ x ∧ tm * x ≤ 1099511627776) → 0 ≤ sum → sum + tm * sm t ≤ 1152921504606846976 →
      (∀ tm1 E1 W1, Pops (p + c.length) tm1 E1 W1 tm E0 W0 → E1.length = W1.length → E1.length ≤ p + c.length → Go.VM.W Q K (l22_0g G k Ko j (sum + tm * sm t) tm1 E1 W1 L L.length (p + c.length : Nat))) →
      Go.VM.W Q K (l22_0g G k Ko (c.length + j) sum tm0 E W L L.length p) := by
  induction h with
  | @nil p =>
    intro A D j sum tm0 E W tm E0 W0 hA hp hP hl hl2 hab ht hx h0 hs hK
    have := hK tm0 E W hP hl hl2
    simpa [sm] using this
  | @one p op a n s c t h1 h2 h3 h4 ih =>
    intro A D j sum tm0 E W tm E0 W0 hA hp hP hl hl2 hab ht hx h0 hs hK
    have hst : 0 ≤ sm t := sm_pos fun x hx' => (hx x (List.mem_cons_of_mem _ hx')).1
    have hmt : 0 ≤ tm * sm t := Int.mul_nonneg (by omega) hst
    have hle := pops_len hP hl
    have e1 : tm * sm (1 :: t) = tm + tm * sm t := by rw [sm, Int.mul_add, Int.mul_one]
    rw [e1] at hs hK
    rw [List.length_cons] at hab
    rw [show (insS op a n s :: c).length + j = (c.length + j) + 1 by rw [List.length_cons]; omega]
    show Go.VM.W Q K (b22_0 G k (l22_0g G k Ko (c.length + j)) Ko sum tm0 E W L L.length p)
    refine most_round hk (by rw [hA]; exact at_mid hp) hL hP hl hl2 h0 ht (by omega) (fun h => absurd h h1) (fun h => absurd h h1) (fun _ => ?_)
    refine ih (A ++ [insS op a n s]) D j (sum + tm) tm E0 W0 tm E0 W0 (by rw [hA]; simp) (by simp [hp]) (.done (above_le hab (by omega))) hle.1 (by omega) (above_le hab (by omega)) ht (fun x hx' => hx x (List.mem_cons_of_mem _ hx')) (by omega) (by omega) ?_
    intro tm1 E1 W1 g1 g2 g3
    have := hK tm1 E1 W1 (by rw [List.length_cons, show p + (c.length + 1) = p + 1 + c.length by omega]; exact g1) g2 (by rw [List.length_cons]; omega)
    rw [List.length_cons, show p + (c.length + 1) = p + 1 + c.length by omega] at this
    rw [show sum + tm + tm * sm t = sum + (tm + tm * sm t) by omega]; exact this
  | @loop p n B c tb t h1 h2 h3 h4 h5 ih1 ih2 =>
    intro A D j sum tm0 E W tm E0 W0 hA hp hP hl hl2 hab ht hx h0 hs hK
    have hxb : ∀ x ∈ tb, 1 ≤ x ∧ tm * n * x ≤ 1099511627776 := fun x hx' => by
      have hm : n * x ∈ (1 : Int) :: (tb.map (n * ·) ++ n :: t) := List.mem_cons_of_mem _ (List.mem_append_left _ (List.mem_map.2 ⟨x, hx', rfl⟩))
      have h' := hx _ hm
      refine ⟨?_, by rw [Int.mul_assoc]; exact h'.2⟩
      by_cases hx1 : 1 ≤ x
      · exact hx1
      · have : n * x ≤ n * 0 := Int.mul_le_mul_of_nonneg_left (by omega) (by omega)
        omega
    have hxn := hx n (List.mem_cons_of_mem _ (List.mem_append_right _ List.mem_cons_self))
    have hxt : ∀ x ∈ t, 1 ≤ x ∧ tm * x ≤ 1099511627776 := fun x hx' => hx x (List.mem_cons_of_mem _ (List.mem_append_right _ (List.mem_cons_of_mem _ hx')))
    have hsb : 0 ≤ sm tb := sm_pos fun x hx' => (hxb x hx').1
    have hst : 0 ≤ sm t := sm_pos fun x hx' => (hxt x hx').1
    have htn1 : 1 * 1 ≤ tm * n := Int.mul_le_mul ht h1 (by omega) (by omega)
    have hmb : 0 ≤ tm * n * sm tb := Int.mul_nonneg (by omega) hsb
    have hmt : 0 ≤ tm * sm t := Int.mul_nonneg (by omega) hst
    have hle := pops_len hP hl
    have e1 : tm * sm (1 :: (tb.map (n * ·) ++ n :: t)) = tm + (tm * n * sm tb + (tm * n + tm * sm t)) := by
      rw [sm, sm_app, sm_mul, sm, Int.mul_add, Int.mul_add, Int.mul_add, Int.mul_one, Int.mul_assoc]
    rw [e1] at hs hK
    have hlen : (ins 25 (p + B.length + 2 : Nat) n :: (B ++ ins 26 p 0 :: c)).length = B.length + (c.length + 2) := by simp; omega
    rw [hlen] at hab hK ⊢
    rw [show B.length + (c.length + 2) + j = (B.length + ((c.length + j) + 1)) + 1 by omega]
    show Go.VM.W Q K (b22_0 G k (l22_0g G k Ko (B.length + ((c.length + j) + 1))) Ko sum tm0 E W L L.length p)
    refine most_round (op := 25) (a := (p + B.length + 2 : Nat)) (n := n) (s := ⟨#[]⟩) hk (by rw [hA]; exact at_mid hp) hL hP hl hl2 h0 ht (by omega) (fun _ => ⟨by omega, hxn.2⟩) (fun _ => ?_) (fun h => absurd rfl h)
    refine ih1 (A ++ [ins 25 (p + B.length + 2 : Nat) n]) (ins 26 p 0 :: c ++ D) ((c.length + j) + 1) (sum + tm) (tm * n) _ _ (tm * n) _ _ (by rw [hA]; simp) (by simp [hp]) (.done (.inr ⟨E0, _, rfl, by omega⟩)) (by simp [hle.1]) (by simp; omega) (.inr ⟨E0, _, rfl, by omega⟩) (by omega) hxb (by omega) (by omega) ?_
    intro tm1 E1 W1 g1 g2 g3
    show Go.VM.W Q K (b22_0 G k (l22_0g G k Ko (c.length + j)) Ko (sum + tm + tm * n * sm tb) tm1 E1 W1 L L.length (p + 1 + B.length : Nat))
    refine most_round (op := 26) (a := (p : Int)) (n := 0) (s := ⟨#[]⟩) hk ?_ hL g1 g2 g3 (by omega) (by omega) (by omega) (fun h => by omega) (fun h => by omega) (fun _ => ?_)
    · rw [hA, show A ++ (ins 25 (p + B.length + 2 : Nat) n :: (B ++ ins 26 p 0 :: c) ++ D) = (A ++ ins 25 (p + B.length + 2 : Nat) n :: B) ++ (insS 26 p 0 ⟨#[]⟩ :: c ++ D) by simp [ins, insS]]
      exact at_mid (by simp [hp]; omega)
    have hq : p + 1 + B.length + 1 = p + B.length + 2 := by omega
    rw [hq]
    refine ih2 (A ++ ins 25 (p + B.length + 2 : Nat) n :: B ++ [ins 26 p 0]) D j (sum + tm + tm * n * sm tb + tm * n) (tm * n) (E0 ++ [.int .i64 (p + B.length + 2 : Nat)]) (W0 ++ [.int .i64 tm]) tm E0 W0 (by rw [hA]; simp) (by simp [hp]; omega) (.pop (Int.le_refl _) (.done (above_le hab (by omega)))) (by simp [hle.1]) (by simp; omega) (above_le hab (by omega)) ht hxt (by omega) (by omega) ?_
    intro tm2 E2 W2 g4 g5 g6
    rw [show p + (B.length + (c.length + 2)) = p + B.length + 2 + c.length by omega] at hK
    have := hK tm2 E2 W2 g4 g5 g6
    rw [show sum + tm + tm * n * sm tb + tm * n + tm * sm t = sum + (tm + (tm * n * sm tb + (tm * n + tm * sm t))) by omega]; exact this
def MoX (G : ORC R) : Prop := ∀ (c : List V) (t : List Int) (e : Nat) (K : List V → Option R), Seg e 0 c t → (∀ x ∈ t, 1 ≤ x ∧ x ≤ 1099511627776) → c.length ≤ 9900 → W (fun o => o = [.int .i64 (sm t)]) K (G 22 [.sl 4 c] K)
theorem mox_ok (hk : 10000 ≤ k) : MoX (fun _ args (K : List V → Option R) => g22 G k args K) := by
  intro c t e K hc ht hl
  show W _ K (f22 G k c K)
  unfold f22 l22_0
  have lt := seg_len hc
  have hs : sm t ≤ t.length * 1099511627776 := sm_le fun x hx => (ht x hx).2
  obtain ⟨j, rfl⟩ : ∃ j, k = c.length + (j + 1) := ⟨k - c.length - 1, by omega⟩
  refine most_seg (Q := fun o => o = [.int .i64 (sm t)]) (K := K) (Ko := fun y => K [.int .i64 y]) (by omega) hl hc [] [] (j + 1) 0 1 [] [] 1 [] [] (by simp) rfl (.done (.inl rfl)) rfl (by simp) (.inl rfl) (by omega) (fun x hx => by have := ht x hx; omega) (by omega) (by omega) ?_
  intro tm1 E1 W1 h1 h2 h3
  show W _ K (b22_0 G (c.length + (j + 1)) (l22_0g G (c.length + (j + 1)) (fun y => K [.int .i64 y]) j) (fun y => K [.int .i64 y]) (0 + 1 * sm t) tm1 E1 W1 c c.length (0 + c.length : Nat))
  unfold b22_0
  refine W_no (by omega) (W_ret ?_)
  rw [Int.one_mul, Int.zero_add]
end
end Go.Proofs.Ytdfjodnkplbffaa.Vm
open Go Go.VM
set_option linter.unusedVariables false
set_option maxRecDepth 100000
set_option maxHeartbeats 4000000
namespace Go.Proofs.Ytdfjodnkplbffaa.Vm
/-! ### cotillion/cotillionlaw16.CodeCounts: function 4 -/
def P4_0h : Pat := { tmps := unds [.undef, .var (.int .i64) .pr] 6 (unds [.var (.sl 4) (.own true), .var (.int .i64) .pr, .var (.int .i64) .pr] 54 []), boxes := nons [] 65 [] }
def P4_0x : Pat := { tmps := unds [.undef, .var (.int .i64) .pr] 6 (unds [.var (.sl 4) (.own true), .var (.int .i64) .pr] 55 []), boxes := nons [] 65 [] }
def P4_0r : Pat := { tmps := unds [.undef, .undef, .undef, .undef, .var .bool .pr] 60 [], boxes := nons [] 65 [] }
def b4_0 {R : Type} (G : ORC R) (k : Nat) (X : Int → List V → Int → Int → Option R) (Ko : Int → List V → Int → Option R) (Kr : Bool → Option R) (xi45 : Int) (xl46 : List V) (xi47 xi48 : Int) : Option R :=
  (bif (decide (xi48 < ((List.length xl46 : Nat) : Int))) then (G 20 [(.sl 4 xl46), (.int .i64 xi48)] fun o49 => (uI .i64 o49 fun n51 r50 => (unNil r50 (G 21 [(.sl 4 xl46), (.int .i64 xi48)] fun o52 => (uI .i64 o52 fun n54 r53 => (unNil r53 (bif (n51 != n54) then (Kr false) else (bif (decide (n51 < 1)) then (Kr false) else (X xi45 xl46 (IntKind.i64.wrap (xi47 + n51)) (IntKind.i64.wrap (xi48 + 1))))))))))) else (Ko xi45 xl46 xi47))
def l4_0g {R : Type} (G : ORC R) (k : Nat) (Ko : Int → List V → Int → Option R) (Kr : Bool → Option R) : Nat → Int → List V → Int → Int → Option R
  | 0 => fun _ _ _ _ => none
  | j + 1 => b4_0 G k (l4_0g G k Ko Kr j) Ko Kr
def l4_0 {R : Type} (G : ORC R) (k : Nat) (xi45 : Int) (xl46 : List V) (xi47 xi48 : Int) (Ko : Int → List V → Int → Option R) (Kr : Bool → Option R) : Option R := l4_0g G k Ko Kr k xi45 xl46 xi47 xi48
def rd4_0 {R : Type} (G : ORC R) (k : Nat) (K : Ex → St → Option R) (j : Nat) (vs : List V) : Option R := match vs with
  | [(.int .i64 xi45), (.sl 4 xl46), (.int .i64 xi47), (.int .i64 xi48)] => l4_0g G k (fun yi71 yl72 yi73 => K .normal (P4_0x.inst [(.int .i64 yi71), (.sl 4 yl72), (.int .i64 yi73)])) (fun yb74 => K .ret (P4_0r.inst [(.bool yb74)])) j xi45 xl46 xi47 xi48
  | _ => none
def L4 {R : Type} (G : ORC R) (k : Nat) : Nat → St → (Ex → St → Option R) → Option R
  | 0, S, K => P4_0h.mat S fun vs => rd4_0 G k K k vs
  | _, _, _ => none
def f4 {R : Type} (G : ORC R) (k : Nat) (al1 : List V) (ai2 : Int) (K : List V → Option R) : Option R :=
  (bif (decide (((List.length al1 : Nat) : Int) > 200)) then (G 14 [] fun o3 => (uB o3 fun b5 r4 => (unNil r4 (K [(.bool b5)])))) else (G 15 [] fun o6 => (uA o6 fun l8 r7 => (uL 1 l8 fun l10 r9 => (uL 1 r9 fun l12 r11 => (uL 1 r11 fun l14 r13 => (uL 1 r13 fun l16 r15 => (unNil r15 (uA r7 fun l18 r17 => (uL 1 l18 fun l20 r19 => (uL 1 r19 fun l22 r21 => (uL 1 r21 fun l24 r23 => (uL 7 r23 fun l26 r25 => (unNil r25 (uA r17 fun l28 r27 => (uL 1 l28 fun l30 r29 => (uL 1 r29 fun l32 r31 => (uL 1 r31 fun l34 r33 => (uL 7 r33 fun l36 r35 => (unNil r35 (unNil r27 (G 16 [(.agg [(.sl 1 l10), (.sl 1 l12), (.sl 1 l14), (.sl 1 l16)]), (.int .i64 3), (.sl 1 al1), (.int .i64 0)] fun o37 => (uL 8 o37 fun l39 r38 => (uI .i64 r38 fun n41 r40 => (unNil r40 (G 19 [(.sl 8 l39), (.agg [(.sl 1 l30), (.sl 1 l32), (.sl 1 l34), (.sl 7 l36)])] fun o42 => (uL 4 o42 fun l44 r43 => (unNil r43 (l4_0 G k ai2 l44 0 0 (fun yi55 yl56 yi57 => (G 22 [(.sl 4 yl56)] fun o58 => (uI .i64 o58 fun n60 r59 => (unNil r59 (bif (n60 == yi57) then (G 20 [(.sl 4 yl56), (.int .i64 yi55)] fun o61 => (uI .i64 o61 fun n63 r62 => (unNil r62 (G 21 [(.sl 4 yl56), (.int .i64 yi55)] fun o64 => (uI .i64 o64 fun n66 r65 => (unNil r65 (bif (n63 == n66) then (G 14 [] fun o67 => (uB o67 fun b69 r68 => (unNil r68 (K [(.bool b69)])))) else (K [(.bool false)])))))))) else (K [(.bool false)])))))) (fun yb70 => (K [(.bool yb70)])))))))))))))))))))))))))))))))
noncomputable def D4_0 : LoopD := { id := 0, body := loopAt 0 (bodyOf Try.f4), head := P4_0h, out := P4_0x, ret := P4_0r }
theorem l4_0_is {R : Type} (G : ORC R) (k : Nat) (X : List V → Option R) (K : Ex → St → Option R) (xi45 : Int) (xl46 : List V) (xi47 xi48 : Int) :
    roundOf (TAB.env 4) G (L4 G k) D4_0 X K [(.int .i64 xi45), (.sl 4 xl46), (.int .i64 xi47), (.int .i64 xi48)] = b4_0 G k (fun xi45 xl46 xi47 xi48 => X [(.int .i64 xi45), (.sl 4 xl46), (.int .i64 xi47), (.int .i64 xi48)]) (fun yi71 yl72 yi73 => K .normal (P4_0x.inst [(.int .i64 yi71), (.sl 4 yl72), (.int .i64 yi73)])) (fun yb74 => K .ret (P4_0r.inst [(.bool yb74)])) xi45 xl46 xi47 xi48 := by kernel_rfl
theorem f4_is {R : Type} (G : ORC R) (k : Nat) (K : List V → Option R) (al1 : List V) (ai2 : Int) :
    callF (TAB.env 4) G (L4 G k) Try.f4 S4 [(.sl 1 al1), (.int .i64 ai2)] K = f4 G k al1 ai2 K := by kernel_rfl
theorem li4_0 {R : Type} (G : ORC R) (k : Nat) : LoopIs (TAB.env 4) G (L4 G k) 0 (loopAt 0 (bodyOf Try.f4)) :=
  ⟨D4_0, fun j vs K => rd4_0 G k K j vs, k, rfl, rfl, by kernel_rfl, by kernel_rfl, by kernel_rfl, (fun vs K => by unfold rd4_0; dsimp only; split <;> rfl),
    (fun j vs K r h => by
      unfold rd4_0 at h
      dsimp only at h
      split at h
      · rw [l4_0_is]; exact h
      · cases h), (fun S K r h => h)⟩
theorem lo4 : loopsOf (bodyOf Try.f4) = [(0, loopAt 0 (bodyOf Try.f4))] := by kernel_rfl
theorem la4 {R : Type} (G : ORC R) (k : Nat) : LoopsAre (TAB.env 4) G (L4 G k) (bodyOf Try.f4) :=
  loopsAre_of (by rw [lo4]; intro p hp; simp only [List.mem_cons, List.not_mem_nil, or_false] at hp; subst hp; exact li4_0 G k)
def g4 {R : Type} (G : ORC R) (k : Nat) (args : List V) (K : List V → Option R) : Option R := match args with
  | [(.sl 1 al1), (.int .i64 ai2)] => f4 G k al1 ai2 K
  | _ => none
theorem s4 {R : Type} {G : ORC R} {k : Nat} (hG : Sound Try.prog TAB G) (args : List V) (K : List V → Option R) (r : R) (h : g4 G k args K = some r) : ∃ o, CallOK Try.prog TAB.env 4 args o ∧ K o = some r := by
  unfold g4 at h
  split at h
  · rw [← f4_is] at h
    exact callF_sound (f := 4) TAB_chk MO hG Try.func4 (sg := S4) (by kernel_rfl) (by kernel_rfl) (la4 G k) h
  · cases h
end Go.Proofs.Ytdfjodnkplbffaa.Vm
open Go Go.VM
set_option linter.unusedVariables false
set_option maxRecDepth 100000
set_option maxHeartbeats 4000000
namespace Go.Proofs.Ytdfjodnkplbffaa.Vm
/-! ### cotillion/cotillionlaw16.CodeLoops: function 6 -/
def L6 {R : Type} (_ : ORC R) (_ : Nat) : Nat → St → (Ex → St → Option R) → Option R := fun _ _ _ => none
def f6 {R : Type} (G : ORC R) (k : Nat) (al1 : List V) (ai2 : Int) (K : List V → Option R) : Option R :=
  (bif (decide (((List.length al1 : Nat) : Int) > 150)) then (G 14 [] fun o3 => (uB o3 fun b5 r4 => (unNil r4 (K [(.bool b5)])))) else (G 15 [] fun o6 => (uA o6 fun l8 r7 => (uL 1 l8 fun l10 r9 => (uL 1 r9 fun l12 r11 => (uL 1 r11 fun l14 r13 => (uL 1 r13 fun l16 r15 => (unNil r15 (uA r7 fun l18 r17 => (uL 1 l18 fun l20 r19 => (uL 1 r19 fun l22 r21 => (uL 1 r21 fun l24 r23 => (uL 7 r23 fun l26 r25 => (unNil r25 (uA r17 fun l28 r27 => (uL 1 l28 fun l30 r29 => (uL 1 r29 fun l32 r31 => (uL 1 r31 fun l34 r33 => (uL 7 r33 fun l36 r35 => (unNil r35 (unNil r27 (G 16 [(.agg [(.sl 1 l10), (.sl 1 l12), (.sl 1 l14), (.sl 1 l16)]), (.int .i64 1), (.sl 1 al1), (.int .i64 0)] fun o37 => (uL 8 o37 fun l39 r38 => (uI .i64 r38 fun n41 r40 => (unNil r40 (G 18 [(.sl 8 l39), (.agg [(.sl 1 l20), (.sl 1 l22), (.sl 1 l24), (.sl 7 l26)])] fun o42 => (uL 4 o42 fun l44 r43 => (unNil r43 (G 22 [(.sl 4 l44)] fun o45 => (uI .i64 o45 fun n47 r46 => (unNil r46 (G 18 [(.sl 8 [(.agg [(.int .i64 7), (.str ⟨#[]⟩), (.str ⟨#[]⟩), (.sl 5 []), (.int .i64 (IntKind.i64.wrap (1 + (Int.tmod (IntKind.i64.wrap ai2) 16)))), (.sl 8 l39), (.sl 8 []), (.int .i64 0)])]), (.agg [(.sl 1 l20), (.sl 1 l22), (.sl 1 l24), (.sl 7 l26)])] fun o48 => (uL 4 o48 fun l50 r49 => (unNil r49 (G 22 [(.sl 4 l50)] fun o51 => (uI .i64 o51 fun n53 r52 => (unNil r52 (bif (n53 == (IntKind.i64.wrap (1 + (IntKind.i64.wrap ((IntKind.i64.wrap (1 + (Int.tmod (IntKind.i64.wrap ai2) 16))) * (IntKind.i64.wrap (n47 + 1))))))) then (G 14 [] fun o54 => (uB o54 fun b56 r55 => (unNil r55 (K [(.bool b56)])))) else (K [(.bool false)])))))))))))))))))))))))))))))))))))))))
theorem f6_is {R : Type} (G : ORC R) (k : Nat) (K : List V → Option R) (al1 : List V) (ai2 : Int) :
    callF (TAB.env 6) G (L6 G k) Try.f6 S6 [(.sl 1 al1), (.int .u8 ai2)] K = f6 G k al1 ai2 K := by kernel_rfl
theorem lo6 : loopsOf (bodyOf Try.f6) = [] := by kernel_rfl
theorem la6 {R : Type} (G : ORC R) (k : Nat) : LoopsAre (TAB.env 6) G (L6 G k) (bodyOf Try.f6) :=
  loopsAre_of (by rw [lo6]; intro p hp; cases hp)
def g6 {R : Type} (G : ORC R) (k : Nat) (args : List V) (K : List V → Option R) : Option R := match args with
  | [(.sl 1 al1), (.int .u8 ai2)] => f6 G k al1 ai2 K
  | _ => none
theorem s6 {R : Type} {G : ORC R} {k : Nat} (hG : Sound Try.prog TAB G) (args : List V) (K : List V → Option R) (r : R) (h : g6 G k args K = some r) : ∃ o, CallOK Try.prog TAB.env 6 args o ∧ K o = some r := by
  unfold g6 at h
  split at h
  · rw [← f6_is] at h
    exact callF_sound (f := 6) TAB_chk MO hG Try.func6 (sg := S6) (by kernel_rfl) (by kernel_rfl) (la6 G k) h
  · cases h
end Go.Proofs.Ytdfjodnkplbffaa.Vm
open Go Go.VM
set_option linter.unusedVariables false
set_option linter.unusedSimpArgs false
set_option maxRecDepth 100000
set_option maxHeartbeats 8000000
namespace Go.Proofs.Ytdfjodnkplbffaa.Vm
section
variable {R : Type} {G : ORC R} {k : Nat} {K : List V → Option R}
theorem sm_snoc {t : List Int} {m : Nat} {x : Int} (h : t[m]? = some x) : sm (t.take (m + 1)) = sm (t.take m) + x := by
  rw [List.take_add_one, h, sm_app]; simp [sm]
theorem cn_loop (hT : TmX 20 G) (hT' : TmX 21 G) {Q : List V → Prop} {K : List V → Option R} {Ko : Int → List V → Int → Option R} {Kr : Bool → Option R} {q : Int} {L : List V} {t : List Int} {e : Nat} (hS : Seg e 0 L t) (ht : ∀ x ∈ t, 1 ≤ x ∧ x ≤ 65536) (hL : L.length ≤ 9900) (hKo : W Q K (Ko q L (sm t))) :
    ∀ (j m : Nat), L.length - m < j → m ≤ L.length → W Q K (l4_0g G k Ko Kr j q L (sm (t.take m)) m)
  | 0, m, h1, h2 => by omega
  | j + 1, m, h1, h2 => by
    show W Q K (b4_0 G k (l4_0g G k Ko Kr j) Ko Kr q L (sm (t.take m)) m)
    unfold b4_0
    have lt := seg_len hS
    refine W_dec (fun h => ?_) (fun h => by rw [show m = t.length by omega, List.take_length]; exact hKo)
    have next := cn_loop (Kr := Kr) hT hT' hS ht hL hKo j (m + 1) (by omega) (by omega)
    unfold TmX at hT hT'
    have ht' : ∀ x ∈ t, 1 ≤ x ∧ x ≤ 1099511627776 := fun x hx => by have := ht x hx; omega
    obtain ⟨x, hx⟩ : ∃ x, t[m]? = some x := ⟨_, List.getElem?_eq_getElem (by omega)⟩
    have hx1 := ht x (List.mem_of_getElem? hx)
    refine W_call (hT L t e m _ hS ht' (by omega)) ?_
    rintro _ rfl
    refine W_uI (W_unNil ?_)
    refine W_call (hT' L t e m _ hS ht' (by omega)) ?_
    rintro _ rfl
    refine W_uI (W_unNil ?_)
    rw [tmAt_in hx]
    refine W_chk' (by simp) ?_
    refine W_no (by omega) ?_
    have p0 : 0 ≤ sm (t.take m) := sm_pos fun y hy => (ht y (List.mem_of_mem_take hy)).1
    have p1 : sm (t.take m) ≤ (t.take m).length * 65536 := sm_le fun y hy => (ht y (List.mem_of_mem_take hy)).2
    have p2 : (t.take m).length ≤ 9900 := by simp; omega
    rw [wrap_id (n := (m : Int) + 1) (by omega), wrap_id (n := sm (t.take m) + x) (by omega), ← sm_snoc hx]
    exact next
def CountsOK (G : ORC R) : Prop := ∀ (v : List V) (q : Int) (K : List V → Option R), IntsS v → W (fun o => o = [.bool true]) K (G 4 [.sl 1 v, .int .i64 q] K)
theorem cm4 : cm 4 = 65536 := by decide
theorem counts_law (hk : 10000 ≤ k) (hKn : KnC G) (hNm : NamedX G) (hB : BlockOK 3 G) (hR : BlX 19 4 G) (hT : TmX 20 G) (hT' : TmX 21 G) (hM : MoX G) : CountsOK (fun _ args (K : List V → Option R) => g4 G k args K) := by
  intro v q K hv
  show W _ K (f4 G k v q K)
  unfold f4
  refine W_dec (fun _ => knc_go hKn) (fun h => ?_)
  rw [hNm]
  unfold scV Nms.v
  (repeat (with_reducible (first | (refine W_uI ?_) | (refine W_uS ?_) | (refine W_uL ?_) | (refine W_uA ?_) | (refine W_uB ?_) | (refine W_aI ?_) | (refine W_aL ?_) | (refine W_ca3 ?_) | (refine W_ce3 ?_) | (refine W_ca4 ?_) | (refine W_ce4 ?_) | (refine W_ca5 ?_) | (refine W_ce5 ?_) | (refine W_ca6 ?_) | (refine W_ce6 ?_) | (refine W_ca7 ?_) | (refine W_ce7 ?_) | (refine W_ca8 ?_) | (refine W_ce8 ?_) | (refine W_nd7 ?_) | (refine W_unCons ?_) | (refine W_unNil ?_) | (refine W_asInt ?_) | (refine W_asBool ?_) | (refine W_asStr ?_) | (refine W_asSl ?_) | (refine W_asAgg ?_) | (refine W_kd ?_) | (refine W_z ?_))))
  have hT1 := hT
  have hT1' := hT'
  unfold BlockOK at hB; unfold BlX at hR; unfold TmX at hT hT'; unfold MoX at hM
  have hN := N0_ok
  refine W_call (hB _ _ _ _ _ _ _ _ rfl hN.1 hN.2.1 hN.2.2.1 scS_strs ⟨hv, by omega, by omega, by omega⟩) ?_
  rintro _ ⟨l, j, rfl, hl, hj⟩
  (repeat (with_reducible (first | (refine W_uI ?_) | (refine W_uS ?_) | (refine W_uL ?_) | (refine W_uA ?_) | (refine W_uB ?_) | (refine W_aI ?_) | (refine W_aL ?_) | (refine W_ca3 ?_) | (refine W_ce3 ?_) | (refine W_ca4 ?_) | (refine W_ce4 ?_) | (refine W_ca5 ?_) | (refine W_ce5 ?_) | (refine W_ca6 ?_) | (refine W_ce6 ?_) | (refine W_ca7 ?_) | (refine W_ce7 ?_) | (refine W_ca8 ?_) | (refine W_ce8 ?_) | (refine W_nd7 ?_) | (refine W_unCons ?_) | (refine W_unNil ?_) | (refine W_asInt ?_) | (refine W_asBool ?_) | (refine W_asStr ?_) | (refine W_asSl ?_) | (refine W_asAgg ?_) | (refine W_kd ?_) | (refine W_z ?_))))
  refine W_call (hR _ N0 _ hl hN) ?_
  rintro _ rfl
  refine W_uL (W_unNil ?_)
  obtain ⟨t, ht⟩ := cBl_sh (N := N0) hl
  have hlen := Nat.le_trans (cBl_len (N := N0) (at_ := 0) hl) cb4
  have hsl : (cR (cA N0 (3 + 1)) 0 l).length = t.length := sh_len ht 0
  have hseg : Seg t.length 0 (cR (cA N0 (3 + 1)) 0 l) t := ht.1 0 t.length (by omega)
  have ht1 : ∀ x ∈ t, 1 ≤ x ∧ x ≤ 65536 := fun x hx => by have := ht.2 x hx; rw [cm4] at this; exact this
  have ht2 : ∀ x ∈ t, 1 ≤ x ∧ x ≤ 1099511627776 := fun x hx => by have := ht1 x hx; omega
  unfold l4_0
  refine cn_loop (Q := fun o => o = [.bool true]) hT1 hT1' hseg ht1 hlen ?_ k 0 (by omega) (by omega)
  refine W_call (hM _ t _ _ hseg ht2 hlen) ?_
  rintro _ rfl
  refine W_uI (W_unNil (W_eqY rfl ?_))
  refine W_call (hT _ t _ q _ hseg ht2 (by omega)) ?_
  rintro _ rfl
  refine W_uI (W_unNil ?_)
  refine W_call (hT' _ t _ q _ hseg ht2 (by omega)) ?_
  rintro _ rfl
  exact W_uI (W_unNil (W_eqY rfl (knc_go hKn)))
def LoopsOK (G : ORC R) : Prop := ∀ (v : List V) (n : Int) (K : List V → Option R), IntsS v → 0 ≤ n ∧ n < 256 → W (fun o => o = [.bool true]) K (G 6 [.sl 1 v, .int .u8 n] K)
theorem loops_law (hKn : KnC G) (hNm : NamedX G) (hB : BlockOK 1 G) (hC : BlX 18 2 G) (hC' : BlX 18 3 G) (hM : MoX G) : LoopsOK (fun _ args (K : List V → Option R) => g6 G k args K) := by
  intro v n K hv hn
  show W _ K (f6 G k v n K)
  unfold f6
  refine W_dec (fun _ => knc_go hKn) (fun h => ?_)
  rw [hNm]
  unfold scV Nms.v
  (repeat (with_reducible (first | (refine W_uI ?_) | (refine W_uS ?_) | (refine W_uL ?_) | (refine W_uA ?_) | (refine W_uB ?_) | (refine W_aI ?_) | (refine W_aL ?_) | (refine W_ca3 ?_) | (refine W_ce3 ?_) | (refine W_ca4 ?_) | (refine W_ce4 ?_) | (refine W_ca5 ?_) | (refine W_ce5 ?_) | (refine W_ca6 ?_) | (refine W_ce6 ?_) | (refine W_ca7 ?_) | (refine W_ce7 ?_) | (refine W_ca8 ?_) | (refine W_ce8 ?_) | (refine W_nd7 ?_) | (refine W_unCons ?_) | (refine W_unNil ?_) | (refine W_asInt ?_) | (refine W_asBool ?_) | (refine W_asStr ?_) | (refine W_asSl ?_) | (refine W_asAgg ?_) | (refine W_kd ?_) | (refine W_z ?_))))
  unfold BlockOK at hB; unfold BlX at hC hC'; unfold MoX at hM
  have hN := N0_ok
  refine W_call (hB _ _ _ _ _ _ _ _ rfl hN.1 hN.2.1 hN.2.2.1 scS_strs ⟨hv, by omega, by omega, by omega⟩) ?_
  rintro _ ⟨l, j, rfl, hl, hj⟩
  have hl : BlockS 2 l := hl
  (repeat (with_reducible (first | (refine W_uI ?_) | (refine W_uS ?_) | (refine W_uL ?_) | (refine W_uA ?_) | (refine W_uB ?_) | (refine W_aI ?_) | (refine W_aL ?_) | (refine W_ca3 ?_) | (refine W_ce3 ?_) | (refine W_ca4 ?_) | (refine W_ce4 ?_) | (refine W_ca5 ?_) | (refine W_ce5 ?_) | (refine W_ca6 ?_) | (refine W_ce6 ?_) | (refine W_ca7 ?_) | (refine W_ce7 ?_) | (refine W_ca8 ?_) | (refine W_ce8 ?_) | (refine W_nd7 ?_) | (refine W_unCons ?_) | (refine W_unNil ?_) | (refine W_asInt ?_) | (refine W_asBool ?_) | (refine W_asStr ?_) | (refine W_asSl ?_) | (refine W_asAgg ?_) | (refine W_kd ?_) | (refine W_z ?_))))
  have hkk : IntKind.i64.wrap (1 + Int.tmod (IntKind.i64.wrap n) 16) = 1 + Int.tmod n 16 := by
    rw [wrap_id (n := n) (by omega)]
    have := tmod_lt (v := n) (n := 16) (by omega)
    rw [wrap_id (by omega)]
  rw [hkk]
  have hr : 1 ≤ 1 + Int.tmod n 16 ∧ 1 + Int.tmod n 16 ≤ 16 := by
    rw [Int.tmod_eq_emod_of_nonneg hn.1]; omega
  generalize 1 + Int.tmod n 16 = m at hr ⊢
  obtain ⟨t, ht⟩ := cBl_sh (N := N0) hl
  have hlen : (cR (cA N0 2) 0 l).length ≤ 2 * ca 2 := cBl_len hl
  have hc2 : 2 * ca 2 ≤ 9000 := by decide
  have hsl : (cR (cA N0 2) 0 l).length = t.length := sh_len ht 0
  have hm2 : cm 2 = 256 := by decide
  have ht1 : ∀ x ∈ t, 1 ≤ x ∧ x ≤ 256 := fun x hx => by have := ht.2 x hx; rw [hm2] at this; exact this
  have hsh := sh_loop hr.1 hr.2 (by rw [hm2]; omega) ht
  have hlen1 : (cR (cA N0 2) (0 + 1) l).length ≤ 2 * ca 2 := cBl_len hl
  refine W_call (hC _ N0 _ hl hN) ?_
  rintro _ rfl
  refine W_uL (W_unNil ?_)
  refine W_call (hM _ t _ _ (ht.1 0 t.length (by omega)) (fun x hx => by have := ht1 x hx; omega) (by omega)) ?_
  rintro _ rfl
  refine W_uI (W_unNil ?_)
  have hact : BlockS 3 [V.agg [.int .i64 7, .str ⟨#[]⟩, .str ⟨#[]⟩, .sl 5 [], .int .i64 m, .sl 8 l, .sl 8 [], .int .i64 0]] := by
    refine ⟨by simp, fun a ha => ?_⟩
    rw [List.mem_singleton] at ha
    subst ha
    exact act_mk ⟨by unfold I64; omega, fun _ => hr⟩ strs0 strs0 ⟨by omega, by omega⟩ (by simp) (by simp) (by omega) hl block0
  refine W_call (hC' _ N0 _ hact hN) ?_
  rintro _ rfl
  refine W_uL (W_unNil ?_)
  have hcode : cR (cA N0 3) 0 [V.agg [.int .i64 7, .str ⟨#[]⟩, .str ⟨#[]⟩, .sl 5 [], .int .i64 m, .sl 8 l, .sl 8 [], .int .i64 0]] = loopX 0 m (cR (cA N0 2) (0 + 1) l) := by
    simp only [cR, List.append_nil]
    unfold cA
    rw [if_neg (by omega), if_neg (by omega), if_neg (by omega), if_neg (by omega), if_neg (by omega), if_pos rfl]
  rw [hcode]
  have hseg := hsh.1 0 _ (by rw [Nat.zero_add]; exact Nat.le_refl _)
  refine W_call (hM _ _ _ _ hseg (fun x hx => by have := hsh.2 x hx; rw [hm2] at this; omega) (by rw [loopX_len]; omega)) ?_
  rintro _ rfl
  refine W_uI (W_unNil ?_)
  have s0 : 0 ≤ sm t := sm_pos fun x hx => (ht1 x hx).1
  have s1 : sm t ≤ t.length * 256 := sm_le fun x hx => (ht1 x hx).2
  have e1 : m * (sm t + 1) = m * sm t + m := by rw [Int.mul_add, Int.mul_one]
  have e2 : m * (sm t + 1) ≤ 16 * (sm t + 1) := Int.mul_le_mul_of_nonneg_right hr.2 (by omega)
  have e3 : 0 ≤ m * (sm t + 1) := Int.mul_nonneg (by omega) (by omega)
  refine W_eqY ?_ (knc_go hKn)
  rw [wrap_id (n := sm t + 1) (by omega), wrap_id (n := m * (sm t + 1)) (by omega), wrap_id (by omega)]
  simp only [sm, sm_app, sm_mul]
  omega
end
end Go.Proofs.Ytdfjodnkplbffaa.Vm
open Go Go.VM
set_option linter.unusedVariables false
set_option maxRecDepth 100000
set_option maxHeartbeats 4000000
namespace Go.Proofs.Ytdfjodnkplbffaa.Vm
/-! ### cotillion/cotillionlaw16.known: function 14 -/
def L14 {R : Type} (_ : ORC R) (_ : Nat) : Nat → St → (Ex → St → Option R) → Option R := fun _ _ _ => none
def f14 {R : Type} (G : ORC R) (k : Nat)  (K : List V → Option R) : Option R :=
  (G 15 [] fun o1 => (uA o1 fun l3 r2 => (uL 1 l3 fun l5 r4 => (uL 1 r4 fun l7 r6 => (uL 1 r6 fun l9 r8 => (uL 1 r8 fun l11 r10 => (unNil r10 (uA r2 fun l13 r12 => (uL 1 l13 fun l15 r14 => (uL 1 r14 fun l17 r16 => (uL 1 r16 fun l19 r18 => (uL 7 r18 fun l21 r20 => (unNil r20 (uA r12 fun l23 r22 => (uL 1 l23 fun l25 r24 => (uL 1 r24 fun l27 r26 => (uL 1 r26 fun l29 r28 => (uL 7 r28 fun l31 r30 => (unNil r30 (unNil r22 (G 18 [(.sl 8 [(.agg [(.int .i64 7), (.str ⟨#[]⟩), (.str ⟨#[]⟩), (.sl 5 []), (.int .i64 3), (.sl 8 [(.agg [(.int .i64 1), (.str ⟨#[120]⟩), (.str ⟨#[]⟩), (.sl 5 [(.agg [(.int .i64 1), (.int .i64 1), (.str ⟨#[]⟩), (.sl 5 []), (.int .i64 0)])]), (.int .i64 0), (.sl 8 []), (.sl 8 []), (.int .i64 0)])]), (.sl 8 []), (.int .i64 0)])]), (.agg [(.sl 1 l15), (.sl 1 l17), (.sl 1 l19), (.sl 7 l21)])] fun o32 => (uL 4 o32 fun l34 r33 => (unNil r33 (bif (((List.length l34 : Nat) : Int) == 4) then (bif (decide (0 < ((List.length l34 : Nat) : Int))) then (nthK l34 0 fun e35 => (ca4 e35 fun c36 c37 c38 c39 => (aI .i64 c36 fun n40 => (aI .i64 c37 fun n41 => (aI .i64 c38 fun n42 => (V.asStr c39 fun s43 => (bif ((n40 == 25) && ((n41 == 4) && ((n42 == 3) && ((ByteArray.toList s43 == ByteArray.toList ⟨#[]⟩) && true)))) then (bif (decide (3 < ((List.length l34 : Nat) : Int))) then (nthK l34 3 fun e44 => (ca4 e44 fun c45 c46 c47 c48 => (aI .i64 c45 fun n49 => (aI .i64 c46 fun n50 => (aI .i64 c47 fun n51 => (V.asStr c48 fun s52 => (bif ((n49 == 26) && ((n50 == 0) && ((n51 == 0) && ((ByteArray.toList s52 == ByteArray.toList ⟨#[]⟩) && true)))) then (G 22 [(.sl 4 l34)] fun o53 => (uI .i64 o53 fun n55 r54 => (unNil r54 (bif (n55 == 10) then (G 20 [(.sl 4 l34), (.int .i64 3)] fun o56 => (uI .i64 o56 fun n58 r57 => (unNil r57 (bif (n58 == 3) then (G 20 [(.sl 4 l34), (.int .i64 4)] fun o59 => (uI .i64 o59 fun n61 r60 => (unNil r60 (K [(.bool (n61 == 0))])))) else (K [(.bool false)]))))) else (K [(.bool false)]))))) else (K [(.bool false)])))))))) else none) else (K [(.bool false)])))))))) else none) else (K [(.bool false)])))))))))))))))))))))))))
theorem f14_is {R : Type} (G : ORC R) (k : Nat) (K : List V → Option R)  :
    callF (TAB.env 14) G (L14 G k) Try.f14 S14 [] K = f14 G k  K := by kernel_rfl
theorem lo14 : loopsOf (bodyOf Try.f14) = [] := by kernel_rfl
theorem la14 {R : Type} (G : ORC R) (k : Nat) : LoopsAre (TAB.env 14) G (L14 G k) (bodyOf Try.f14) :=
  loopsAre_of (by rw [lo14]; intro p hp; cases hp)
def g14 {R : Type} (G : ORC R) (k : Nat) (args : List V) (K : List V → Option R) : Option R := match args with
  | [] => f14 G k  K
  | _ => none
theorem s14 {R : Type} {G : ORC R} {k : Nat} (hG : Sound Try.prog TAB G) (args : List V) (K : List V → Option R) (r : R) (h : g14 G k args K = some r) : ∃ o, CallOK Try.prog TAB.env 14 args o ∧ K o = some r := by
  unfold g14 at h
  split at h
  · rw [← f14_is] at h
    exact callF_sound (f := 14) TAB_chk MO hG Try.func14 (sg := S14) (by kernel_rfl) (by kernel_rfl) (la14 G k) h
  · cases h
end Go.Proofs.Ytdfjodnkplbffaa.Vm
open Go Go.VM
set_option linter.unusedVariables false
set_option maxRecDepth 100000
set_option maxHeartbeats 4000000
namespace Go.Proofs.Ytdfjodnkplbffaa.Vm
/-! ### cotillion/cotillionref13.Nodes: function 35 -/
def L35 {R : Type} (_ : ORC R) (_ : Nat) : Nat → St → (Ex → St → Option R) → Option R := fun _ _ _ => none
def f35 {R : Type} (G : ORC R) (k : Nat) (as1 : ByteArray) (ai2 ai3 : Int) (al4 al5 : List V) (al6 al7 : List V) (ai8 : Int) (K : List V → Option R) : Option R :=
  (G 50 [(.sl 7 [(.agg [(.int .i64 2), (.int .i64 (-1)), (.int .i64 0), (.int .i64 (-1)), (.int .i64 (-1)), (.int .i64 (-1)), (.str ⟨#[]⟩)])]), (.sl 7 al7), (.int .i64 0)] fun o9 => (uL 7 o9 fun l11 r10 => (unNil r10 (bif (decide (0 < ((List.length l11 : Nat) : Int))) then (nthK l11 0 fun e12 => (ca7 e12 fun c13 c14 c15 c16 c17 c18 c19 => (K [(.sl 7 (List.set l11 0 (.agg [c13, c14, (.int .i64 (IntKind.i64.wrap (((List.length l11 : Nat) : Int) - 1))), c16, c17, c18, c19])))]))) else none))))
theorem f35_is {R : Type} (G : ORC R) (k : Nat) (K : List V → Option R) (as1 : ByteArray) (ai2 ai3 : Int) (al4 al5 : List V) (al6 al7 : List V) (ai8 : Int) :
    callF (TAB.env 35) G (L35 G k) Try.f35 S35 [(.agg [(.str as1), (.int .i64 ai2), (.int .i64 ai3), (.sl 3 al4), (.sl 3 al5), (.sl 3 al6), (.sl 7 al7), (.int .i64 ai8)])] K = f35 G k as1 ai2 ai3 al4 al5 al6 al7 ai8 K := by kernel_rfl
theorem lo35 : loopsOf (bodyOf Try.f35) = [] := by kernel_rfl
theorem la35 {R : Type} (G : ORC R) (k : Nat) : LoopsAre (TAB.env 35) G (L35 G k) (bodyOf Try.f35) :=
  loopsAre_of (by rw [lo35]; intro p hp; cases hp)
def g35 {R : Type} (G : ORC R) (k : Nat) (args : List V) (K : List V → Option R) : Option R := match args with
  | [(.agg [(.str as1), (.int .i64 ai2), (.int .i64 ai3), (.sl 3 al4), (.sl 3 al5), (.sl 3 al6), (.sl 7 al7), (.int .i64 ai8)])] => f35 G k as1 ai2 ai3 al4 al5 al6 al7 ai8 K
  | _ => none
theorem s35 {R : Type} {G : ORC R} {k : Nat} (hG : Sound Try.prog TAB G) (args : List V) (K : List V → Option R) (r : R) (h : g35 G k args K = some r) : ∃ o, CallOK Try.prog TAB.env 35 args o ∧ K o = some r := by
  unfold g35 at h
  split at h
  · rw [← f35_is] at h
    exact callF_sound (f := 35) TAB_chk MO hG Try.func35 (sg := S35) (by kernel_rfl) (by kernel_rfl) (la35 G k) h
  · cases h
end Go.Proofs.Ytdfjodnkplbffaa.Vm
open Go Go.VM
set_option linter.unusedVariables false
set_option maxRecDepth 100000
set_option maxHeartbeats 4000000
namespace Go.Proofs.Ytdfjodnkplbffaa.Vm
/-! ### cotillion/cotillionref13.put: function 50 -/
def P50_0h : Pat := { tmps := unds [.var (.sl 7) (.own true), .var (.sl 7) .ro, .var (.int .i64) .pr, .undef, .undef, .undef, .undef, .var (.int .i64) .pr] 66 [], boxes := nons [] 74 [] }
def P50_0x : Pat := { tmps := unds [.var (.sl 7) (.own true)] 73 [], boxes := nons [] 74 [] }
def b50_0 {R : Type} (G : ORC R) (k : Nat) (X : List V → List V → Int → Int → Option R) (Ko : List V → Option R) (xl4 xl5 : List V) (xi6 xi7 : Int) : Option R :=
  (bif (decide (xi7 < ((List.length xl5 : Nat) : Int))) then (bif ((decide (0 ≤ xi7)) && (decide (xi7 < ((List.length xl5 : Nat) : Int)))) then (nthK xl5 (Int.toNat xi7) fun e8 => (V.asAgg e8 fun l9 => (G 82 [(.agg l9)] fun o10 => (uI .i64 o10 fun n12 r11 => (unNil r11 (bif ((decide (0 ≤ xi7)) && (decide (xi7 < ((List.length xl5 : Nat) : Int)))) then (nthK xl5 (Int.toNat xi7) fun e13 => (ca7 e13 fun c14 c15 c16 c17 c18 c19 c20 => (V.asStr c15 fun s21 => (bif (decide (List.length xl4 + 1 ≤ 1073741824)) then (bif ((decide (0 ≤ xi6)) && (decide (xi6 < ((List.length (xl4 ++ [(.agg [(.int .i64 n12), (.int .i64 xi6), (.int .i64 0), (.int .i64 (-1)), (.int .i64 (-1)), (.int .i64 (-1)), (.str s21)])]) : Nat) : Int)))) then (nthK (xl4 ++ [(.agg [(.int .i64 n12), (.int .i64 xi6), (.int .i64 0), (.int .i64 (-1)), (.int .i64 (-1)), (.int .i64 (-1)), (.str s21)])]) (Int.toNat xi6) fun e22 => (ca7 e22 fun c23 c24 c25 c26 c27 c28 c29 => (aI .i64 c26 fun n30 => (bif (decide (n30 < 0)) then (bif ((decide (0 ≤ xi6)) && (decide (xi6 < ((List.length (xl4 ++ [(.agg [(.int .i64 n12), (.int .i64 xi6), (.int .i64 0), (.int .i64 (-1)), (.int .i64 (-1)), (.int .i64 (-1)), (.str s21)])]) : Nat) : Int)))) then (nthK (xl4 ++ [(.agg [(.int .i64 n12), (.int .i64 xi6), (.int .i64 0), (.int .i64 (-1)), (.int .i64 (-1)), (.int .i64 (-1)), (.str s21)])]) (Int.toNat xi6) fun e31 => (ca7 e31 fun c32 c33 c34 c35 c36 c37 c38 => (aI .i64 c32 fun n39 => (bif (n39 == 2) then (bif ((decide (0 ≤ ((List.length xl4 : Nat) : Int))) && (decide (((List.length xl4 : Nat) : Int) < ((List.length (xl4 ++ [(.agg [(.int .i64 n12), (.int .i64 xi6), (.int .i64 0), (.int .i64 (-1)), (.int .i64 (-1)), (.int .i64 (-1)), (.str s21)])]) : Nat) : Int)))) then (nthK (xl4 ++ [(.agg [(.int .i64 n12), (.int .i64 xi6), (.int .i64 0), (.int .i64 (-1)), (.int .i64 (-1)), (.int .i64 (-1)), (.str s21)])]) (Int.toNat ((List.length xl4 : Nat) : Int)) fun e40 => (ca7 e40 fun c41 c42 c43 c44 c45 c46 c47 => (aI .i64 c41 fun n48 => (aI .i64 c42 fun n49 => (aI .i64 c43 fun n50 => (aI .i64 c44 fun n51 => (aI .i64 c45 fun n52 => (aI .i64 c46 fun n53 => (V.asStr c47 fun s54 => (G 83 [(.agg [(.int .i64 n48), (.int .i64 n49), (.int .i64 n50), (.int .i64 n51), (.int .i64 n52), (.int .i64 n53), (.str s54)])] fun o55 => (uB o55 fun b57 r56 => (unNil r56 (bif b57 then (bif ((decide (0 ≤ xi6)) && (decide (xi6 < ((List.length (xl4 ++ [(.agg [(.int .i64 n12), (.int .i64 xi6), (.int .i64 0), (.int .i64 (-1)), (.int .i64 (-1)), (.int .i64 (-1)), (.str s21)])]) : Nat) : Int)))) then (nthK (xl4 ++ [(.agg [(.int .i64 n12), (.int .i64 xi6), (.int .i64 0), (.int .i64 (-1)), (.int .i64 (-1)), (.int .i64 (-1)), (.str s21)])]) (Int.toNat xi6) fun e58 => (ca7 e58 fun c59 c60 c61 c62 c63 c64 c65 => (bif ((decide (0 ≤ xi7)) && (decide (xi7 < ((List.length xl5 : Nat) : Int)))) then (nthK xl5 (Int.toNat xi7) fun e66 => (ca7 e66 fun c67 c68 c69 c70 c71 c72 c73 => (V.asSl c72 fun z74 l75 => (G 50 [(.sl 7 (List.set (xl4 ++ [(.agg [(.int .i64 n12), (.int .i64 xi6), (.int .i64 0), (.int .i64 (-1)), (.int .i64 (-1)), (.int .i64 (-1)), (.str s21)])]) (Int.toNat xi6) (.agg [c59, c60, c61, (.int .i64 ((List.length xl4 : Nat) : Int)), c63, c64, c65]))), (.sl z74 l75), (.int .i64 ((List.length xl4 : Nat) : Int))] fun o76 => (uL 7 o76 fun l78 r77 => (unNil r77 (bif ((decide (0 ≤ ((List.length xl4 : Nat) : Int))) && (decide (((List.length xl4 : Nat) : Int) < ((List.length l78 : Nat) : Int)))) then (nthK l78 (Int.toNat ((List.length xl4 : Nat) : Int)) fun e79 => (ca7 e79 fun c80 c81 c82 c83 c84 c85 c86 => (X (List.set l78 (Int.toNat ((List.length xl4 : Nat) : Int)) (.agg [c80, c81, (.int .i64 (IntKind.i64.wrap (((List.length l78 : Nat) : Int) - 1))), c83, c84, c85, c86])) xl5 xi6 (IntKind.i64.wrap (xi7 + 1))))) else none))))))) else none))) else none) else (bif ((decide (0 ≤ xi7)) && (decide (xi7 < ((List.length xl5 : Nat) : Int)))) then (nthK xl5 (Int.toNat xi7) fun e87 => (ca7 e87 fun c88 c89 c90 c91 c92 c93 c94 => (V.asSl c93 fun z95 l96 => (G 50 [(.sl 7 (xl4 ++ [(.agg [(.int .i64 n12), (.int .i64 xi6), (.int .i64 0), (.int .i64 (-1)), (.int .i64 (-1)), (.int .i64 (-1)), (.str s21)])])), (.sl z95 l96), (.int .i64 ((List.length xl4 : Nat) : Int))] fun o97 => (uL 7 o97 fun l99 r98 => (unNil r98 (bif ((decide (0 ≤ ((List.length xl4 : Nat) : Int))) && (decide (((List.length xl4 : Nat) : Int) < ((List.length l99 : Nat) : Int)))) then (nthK l99 (Int.toNat ((List.length xl4 : Nat) : Int)) fun e100 => (ca7 e100 fun c101 c102 c103 c104 c105 c106 c107 => (X (List.set l99 (Int.toNat ((List.length xl4 : Nat) : Int)) (.agg [c101, c102, (.int .i64 (IntKind.i64.wrap (((List.length l99 : Nat) : Int) - 1))), c104, c105, c106, c107])) xl5 xi6 (IntKind.i64.wrap (xi7 + 1))))) else none))))))) else none)))))))))))))) else none) else (bif ((decide (0 ≤ xi7)) && (decide (xi7 < ((List.length xl5 : Nat) : Int)))) then (nthK xl5 (Int.toNat xi7) fun e108 => (ca7 e108 fun c109 c110 c111 c112 c113 c114 c115 => (V.asSl c114 fun z116 l117 => (G 50 [(.sl 7 (xl4 ++ [(.agg [(.int .i64 n12), (.int .i64 xi6), (.int .i64 0), (.int .i64 (-1)), (.int .i64 (-1)), (.int .i64 (-1)), (.str s21)])])), (.sl z116 l117), (.int .i64 ((List.length xl4 : Nat) : Int))] fun o118 => (uL 7 o118 fun l120 r119 => (unNil r119 (bif ((decide (0 ≤ ((List.length xl4 : Nat) : Int))) && (decide (((List.length xl4 : Nat) : Int) < ((List.length l120 : Nat) : Int)))) then (nthK l120 (Int.toNat ((List.length xl4 : Nat) : Int)) fun e121 => (ca7 e121 fun c122 c123 c124 c125 c126 c127 c128 => (X (List.set l120 (Int.toNat ((List.length xl4 : Nat) : Int)) (.agg [c122, c123, (.int .i64 (IntKind.i64.wrap (((List.length l120 : Nat) : Int) - 1))), c125, c126, c127, c128])) xl5 xi6 (IntKind.i64.wrap (xi7 + 1))))) else none))))))) else none))))) else none) else (bif ((decide (0 ≤ xi7)) && (decide (xi7 < ((List.length xl5 : Nat) : Int)))) then (nthK xl5 (Int.toNat xi7) fun e129 => (ca7 e129 fun c130 c131 c132 c133 c134 c135 c136 => (V.asSl c135 fun z137 l138 => (G 50 [(.sl 7 (xl4 ++ [(.agg [(.int .i64 n12), (.int .i64 xi6), (.int .i64 0), (.int .i64 (-1)), (.int .i64 (-1)), (.int .i64 (-1)), (.str s21)])])), (.sl z137 l138), (.int .i64 ((List.length xl4 : Nat) : Int))] fun o139 => (uL 7 o139 fun l141 r140 => (unNil r140 (bif ((decide (0 ≤ ((List.length xl4 : Nat) : Int))) && (decide (((List.length xl4 : Nat) : Int) < ((List.length l141 : Nat) : Int)))) then (nthK l141 (Int.toNat ((List.length xl4 : Nat) : Int)) fun e142 => (ca7 e142 fun c143 c144 c145 c146 c147 c148 c149 => (X (List.set l141 (Int.toNat ((List.length xl4 : Nat) : Int)) (.agg [c143, c144, (.int .i64 (IntKind.i64.wrap (((List.length l141 : Nat) : Int) - 1))), c146, c147, c148, c149])) xl5 xi6 (IntKind.i64.wrap (xi7 + 1))))) else none))))))) else none))))) else none) else none)))) else none)))))) else none) else (Ko xl4))
def l50_0g {R : Type} (G : ORC R) (k : Nat) (Ko : List V → Option R) : Nat → List V → List V → Int → Int → Option R
  | 0 => fun _ _ _ _ => none
  | j + 1 => b50_0 G k (l50_0g G k Ko j) Ko
def l50_0 {R : Type} (G : ORC R) (k : Nat) (xl4 xl5 : List V) (xi6 xi7 : Int) (Ko : List V → Option R) : Option R := l50_0g G k Ko k xl4 xl5 xi6 xi7
def rd50_0 {R : Type} (G : ORC R) (k : Nat) (K : Ex → St → Option R) (j : Nat) (vs : List V) : Option R := match vs with
  | [(.sl 7 xl4), (.sl 7 xl5), (.int .i64 xi6), (.int .i64 xi7)] => l50_0g G k (fun yl151 => K .normal (P50_0x.inst [(.sl 7 yl151)])) j xl4 xl5 xi6 xi7
  | _ => none
def L50 {R : Type} (G : ORC R) (k : Nat) : Nat → St → (Ex → St → Option R) → Option R
  | 0, S, K => P50_0h.mat S fun vs => rd50_0 G k K k vs
  | _, _, _ => none
def f50 {R : Type} (G : ORC R) (k : Nat) (al1 al2 : List V) (ai3 : Int) (K : List V → Option R) : Option R :=
  (l50_0 G k al1 al2 ai3 0 (fun yl150 => (K [(.sl 7 yl150)])))
noncomputable def D50_0 : LoopD := { id := 0, body := loopAt 0 (bodyOf Try.f50), head := P50_0h, out := P50_0x, ret := default }
theorem l50_0_is {R : Type} (G : ORC R) (k : Nat) (X : List V → Option R) (K : Ex → St → Option R) (xl4 xl5 : List V) (xi6 xi7 : Int) :
    roundOf (TAB.env 50) G (L50 G k) D50_0 X K [(.sl 7 xl4), (.sl 7 xl5), (.int .i64 xi6), (.int .i64 xi7)] = b50_0 G k (fun xl4 xl5 xi6 xi7 => X [(.sl 7 xl4), (.sl 7 xl5), (.int .i64 xi6), (.int .i64 xi7)]) (fun yl151 => K .normal (P50_0x.inst [(.sl 7 yl151)])) xl4 xl5 xi6 xi7 := by kernel_rfl
theorem f50_is {R : Type} (G : ORC R) (k : Nat) (K : List V → Option R) (al1 al2 : List V) (ai3 : Int) :
    callF (TAB.env 50) G (L50 G k) Try.f50 S50 [(.sl 7 al1), (.sl 7 al2), (.int .i64 ai3)] K = f50 G k al1 al2 ai3 K := by kernel_rfl
theorem li50_0 {R : Type} (G : ORC R) (k : Nat) : LoopIs (TAB.env 50) G (L50 G k) 0 (loopAt 0 (bodyOf Try.f50)) :=
  ⟨D50_0, fun j vs K => rd50_0 G k K j vs, k, rfl, rfl, by kernel_rfl, by kernel_rfl, by kernel_rfl, (fun vs K => by unfold rd50_0; dsimp only; split <;> rfl),
    (fun j vs K r h => by
      unfold rd50_0 at h
      dsimp only at h
      split at h
      · rw [l50_0_is]; exact h
      · cases h), (fun S K r h => h)⟩
theorem lo50 : loopsOf (bodyOf Try.f50) = [(0, loopAt 0 (bodyOf Try.f50))] := by kernel_rfl
theorem la50 {R : Type} (G : ORC R) (k : Nat) : LoopsAre (TAB.env 50) G (L50 G k) (bodyOf Try.f50) :=
  loopsAre_of (by rw [lo50]; intro p hp; simp only [List.mem_cons, List.not_mem_nil, or_false] at hp; subst hp; exact li50_0 G k)
def g50 {R : Type} (G : ORC R) (k : Nat) (args : List V) (K : List V → Option R) : Option R := match args with
  | [(.sl 7 al1), (.sl 7 al2), (.int .i64 ai3)] => f50 G k al1 al2 ai3 K
  | _ => none
theorem s50 {R : Type} {G : ORC R} {k : Nat} (hG : Sound Try.prog TAB G) (args : List V) (K : List V → Option R) (r : R) (h : g50 G k args K = some r) : ∃ o, CallOK Try.prog TAB.env 50 args o ∧ K o = some r := by
  unfold g50 at h
  split at h
  · rw [← f50_is] at h
    exact callF_sound (f := 50) TAB_chk MO hG Try.func50 (sg := S50) (by kernel_rfl) (by kernel_rfl) (la50 G k) h
  · cases h
end Go.Proofs.Ytdfjodnkplbffaa.Vm
open Go Go.VM
set_option linter.unusedVariables false
set_option maxRecDepth 100000
set_option maxHeartbeats 4000000
namespace Go.Proofs.Ytdfjodnkplbffaa.Vm
/-! ### cotillion/cotillionref13.kind: function 82 -/
def L82 {R : Type} (_ : ORC R) (_ : Nat) : Nat → St → (Ex → St → Option R) → Option R := fun _ _ _ => none
def f82 {R : Type} (G : ORC R) (k : Nat) (ai1 : Int) (as2 : ByteArray) (al3 al4 : List V) (al5 al6 : List V) (ai7 : Int) (K : List V → Option R) : Option R :=
  (bif (ai1 == 3) then (K [(.int .i64 4)]) else (bif (ai1 == 4) then (K [(.int .i64 5)]) else (bif (ai1 == 2) then (K [(.int .i64 3)]) else (bif (((List.length al6 : Nat) : Int) == 0) then (K [(.int .i64 1)]) else (K [(.int .i64 2)])))))
theorem f82_is {R : Type} (G : ORC R) (k : Nat) (K : List V → Option R) (ai1 : Int) (as2 : ByteArray) (al3 al4 : List V) (al5 al6 : List V) (ai7 : Int) :
    callF (TAB.env 82) G (L82 G k) Try.f82 S82 [(.agg [(.int .i64 ai1), (.str as2), (.sl 8 al3), (.sl 8 al4), (.sl 5 al5), (.sl 7 al6), (.int .i64 ai7)])] K = f82 G k ai1 as2 al3 al4 al5 al6 ai7 K := by kernel_rfl
theorem lo82 : loopsOf (bodyOf Try.f82) = [] := by kernel_rfl
theorem la82 {R : Type} (G : ORC R) (k : Nat) : LoopsAre (TAB.env 82) G (L82 G k) (bodyOf Try.f82) :=
  loopsAre_of (by rw [lo82]; intro p hp; cases hp)
def g82 {R : Type} (G : ORC R) (k : Nat) (args : List V) (K : List V → Option R) : Option R := match args with
  | [(.agg [(.int .i64 ai1), (.str as2), (.sl 8 al3), (.sl 8 al4), (.sl 5 al5), (.sl 7 al6), (.int .i64 ai7)])] => f82 G k ai1 as2 al3 al4 al5 al6 ai7 K
  | _ => none
theorem s82 {R : Type} {G : ORC R} {k : Nat} (hG : Sound Try.prog TAB G) (args : List V) (K : List V → Option R) (r : R) (h : g82 G k args K = some r) : ∃ o, CallOK Try.prog TAB.env 82 args o ∧ K o = some r := by
  unfold g82 at h
  split at h
  · rw [← f82_is] at h
    exact callF_sound (f := 82) TAB_chk MO hG Try.func82 (sg := S82) (by kernel_rfl) (by kernel_rfl) (la82 G k) h
  · cases h
end Go.Proofs.Ytdfjodnkplbffaa.Vm
open Go Go.VM
set_option linter.unusedVariables false
set_option maxRecDepth 100000
set_option maxHeartbeats 4000000
namespace Go.Proofs.Ytdfjodnkplbffaa.Vm
/-! ### cotillion/cotillionref13.IsState: function 83 -/
def L83 {R : Type} (_ : ORC R) (_ : Nat) : Nat → St → (Ex → St → Option R) → Option R := fun _ _ _ => none
def f83 {R : Type} (G : ORC R) (k : Nat) (ai1 ai2 : Int) (ai3 ai4 : Int) (ai5 ai6 : Int) (as7 : ByteArray) (K : List V → Option R) : Option R :=
  (K [(.bool (decide (ai1 ≤ 3)))])
theorem f83_is {R : Type} (G : ORC R) (k : Nat) (K : List V → Option R) (ai1 ai2 : Int) (ai3 ai4 : Int) (ai5 ai6 : Int) (as7 : ByteArray) :
    callF (TAB.env 83) G (L83 G k) Try.f83 S83 [(.agg [(.int .i64 ai1), (.int .i64 ai2), (.int .i64 ai3), (.int .i64 ai4), (.int .i64 ai5), (.int .i64 ai6), (.str as7)])] K = f83 G k ai1 ai2 ai3 ai4 ai5 ai6 as7 K := by kernel_rfl
theorem lo83 : loopsOf (bodyOf Try.f83) = [] := by kernel_rfl
theorem la83 {R : Type} (G : ORC R) (k : Nat) : LoopsAre (TAB.env 83) G (L83 G k) (bodyOf Try.f83) :=
  loopsAre_of (by rw [lo83]; intro p hp; cases hp)
def g83 {R : Type} (G : ORC R) (k : Nat) (args : List V) (K : List V → Option R) : Option R := match args with
  | [(.agg [(.int .i64 ai1), (.int .i64 ai2), (.int .i64 ai3), (.int .i64 ai4), (.int .i64 ai5), (.int .i64 ai6), (.str as7)])] => f83 G k ai1 ai2 ai3 ai4 ai5 ai6 as7 K
  | _ => none
theorem s83 {R : Type} {G : ORC R} {k : Nat} (hG : Sound Try.prog TAB G) (args : List V) (K : List V → Option R) (r : R) (h : g83 G k args K = some r) : ∃ o, CallOK Try.prog TAB.env 83 args o ∧ K o = some r := by
  unfold g83 at h
  split at h
  · rw [← f83_is] at h
    exact callF_sound (f := 83) TAB_chk MO hG Try.func83 (sg := S83) (by kernel_rfl) (by kernel_rfl) (la83 G k) h
  · cases h
end Go.Proofs.Ytdfjodnkplbffaa.Vm
open Go Go.VM
set_option linter.unusedVariables false
set_option maxRecDepth 100000
namespace Go.Proofs.Ytdfjodnkplbffaa.Vm
def cdB (k : Nat) (G : ORC (List V)) : ORC (List V) := fun f args K => match f with
    | 3 => g3 G k args K
    | 4 => g4 G k args K
    | 5 => g5 G k args K
    | 6 => g6 G k args K
    | 14 => g14 G k args K
    | 15 => g15 G k args K
    | 16 => g16 G k args K
    | 17 => g17 G k args K
    | 18 => g18 G k args K
    | 19 => g19 G k args K
    | 20 => g20 G k args K
    | 21 => g21 G k args K
    | 22 => g22 G k args K
    | 23 => g23 G k args K
    | 29 => g29 G k args K
    | 35 => g35 G k args K
    | 36 => g36 G k args K
    | 37 => g37 G k args K
    | 38 => g38 G k args K
    | 39 => g39 G k args K
    | 40 => g40 G k args K
    | 41 => g41 G k args K
    | 42 => g42 G k args K
    | 50 => g50 G k args K
    | 51 => g51 G k args K
    | 52 => g52 G k args K
    | 53 => g53 G k args K
    | 54 => g54 G k args K
    | 55 => g55 G k args K
    | 56 => g56 G k args K
    | 57 => g57 G k args K
    | 58 => g58 G k args K
    | 59 => g59 G k args K
    | 60 => g60 G k args K
    | 61 => g61 G k args K
    | 62 => g62 G k args K
    | 63 => g63 G k args K
    | 64 => g64 G k args K
    | 65 => g65 G k args K
    | 82 => g82 G k args K
    | 83 => g83 G k args K
    | 84 => g84 G k args K
    | 85 => g85 G k args K
    | 86 => g86 G k args K
    | 88 => g88 G k args K
    | 65623 => g65623 G k args K
    | _ => none
def cd (k : Nat) : Nat → ORC (List V)
  | 0 => fun _ _ _ => none
  | j + 1 => fun f args K => (cdB k (cd k j) f args some).bind K
theorem cd_sound (k : Nat) : ∀ j, Sound Try.prog TAB (cd k j)
  | 0 => fun f args K r h => by cases h
  | j + 1 => fun f args K r h => by
    have ih := cd_sound k j
    have h : (cdB k (cd k j) f args some).bind K = some r := h
    cases hb : cdB k (cd k j) f args some with
    | none => rw [hb] at h; cases h
    | some o =>
    rw [hb] at h
    have key : ∃ o', CallOK Try.prog TAB.env f args o' ∧ some o' = some o := by
      unfold cdB at hb
      split at hb
      · exact s3 ih args some o hb
      · exact s4 ih args some o hb
      · exact s5 ih args some o hb
      · exact s6 ih args some o hb
      · exact s14 ih args some o hb
      · exact s15 ih args some o hb
      · exact s16 ih args some o hb
      · exact s17 ih args some o hb
      · exact s18 ih args some o hb
      · exact s19 ih args some o hb
      · exact s20 ih args some o hb
      · exact s21 ih args some o hb
      · exact s22 ih args some o hb
      · exact s23 ih args some o hb
      · exact s29 ih args some o hb
      · exact s35 ih args some o hb
      · exact s36 ih args some o hb
      · exact s37 ih args some o hb
      · exact s38 ih args some o hb
      · exact s39 ih args some o hb
      · exact s40 ih args some o hb
      · exact s41 ih args some o hb
      · exact s42 ih args some o hb
      · exact s50 ih args some o hb
      · exact s51 ih args some o hb
      · exact s52 ih args some o hb
      · exact s53 ih args some o hb
      · exact s54 ih args some o hb
      · exact s55 ih args some o hb
      · exact s56 ih args some o hb
      · exact s57 ih args some o hb
      · exact s58 ih args some o hb
      · exact s59 ih args some o hb
      · exact s60 ih args some o hb
      · exact s61 ih args some o hb
      · exact s62 ih args some o hb
      · exact s63 ih args some o hb
      · exact s64 ih args some o hb
      · exact s65 ih args some o hb
      · exact s82 ih args some o hb
      · exact s83 ih args some o hb
      · exact s84 ih args some o hb
      · exact s85 ih args some o hb
      · exact s86 ih args some o hb
      · exact s88 ih args some o hb
      · exact s65623 ih args some o hb
      · cases hb
    obtain ⟨o', h1, h2⟩ := key
    cases h2
    exact ⟨o, h1, h⟩
theorem cd_U {k j : Nat} {f : FuncId} {args : List V} {Q : List V → Prop} (h : W Q some (cdB k (cd k j) f args some)) : ∃ o, Q o ∧ ∀ K, cd k (j + 1) f args K = K o := by
  obtain ⟨o, q, e⟩ := h
  exact ⟨o, q, fun K => by show (cdB k (cd k j) f args some).bind K = _; rw [e]; rfl⟩
theorem cd_W {k j : Nat} {f : FuncId} {args : List V} {Q : List V → Prop} {K : List V → Option (List V)} (h : W Q some (cdB k (cd k j) f args some)) : W Q K (cd k (j + 1) f args K) := by
  obtain ⟨o, q, e⟩ := cd_U h
  exact ⟨o, q, e K⟩
end Go.Proofs.Ytdfjodnkplbffaa.Vm
open Go Go.VM
set_option linter.unusedVariables false
set_option linter.unusedSimpArgs false
set_option maxRecDepth 100000
set_option maxHeartbeats 8000000
namespace Go.Proofs.Ytdfjodnkplbffaa.Vm
section
def Ev (P : ORC (List V) → Prop) : Prop := ∃ N, ∀ j, N ≤ j → P (cd 10000 j)
theorem ev0 {P : ORC (List V) → Prop} (h : ∀ j, P (cd 10000 (j + 1))) : Ev P := ⟨1, fun j hj => by obtain ⟨j', rfl⟩ : ∃ j', j = j' + 1 := ⟨j - 1, by omega⟩; exact h j'⟩
theorem evS {A P : ORC (List V) → Prop} (hA : Ev A) (h : ∀ j, A (cd 10000 j) → P (cd 10000 (j + 1))) : Ev P := by
  obtain ⟨N, hN⟩ := hA
  refine ⟨N + 1, fun j hj => ?_⟩
  obtain ⟨j', rfl⟩ : ∃ j', j = j' + 1 := ⟨j - 1, by omega⟩
  exact h j' (hN j' (by omega))
theorem evA {A B : ORC (List V) → Prop} (hA : Ev A) (hB : Ev B) : Ev fun G => A G ∧ B G := by
  obtain ⟨N, hN⟩ := hA
  obtain ⟨M, hM⟩ := hB
  exact ⟨N + M, fun j hj => ⟨hN j (by omega), hM j (by omega)⟩⟩
theorem evT {P : ORC (List V) → Prop} (h : ∀ G, P G) : Ev P := ⟨0, fun j _ => h _⟩
theorem evPlace : Ev PlaceS := ev0 fun j => by have e := place_ok (G := cd 10000 j) (k := 10000); unfold PlaceS at e ⊢; (intros; refine cd_W ?_; apply e <;> assumption)
theorem evNext : Ev NextS := evS evPlace fun j h => by have e := next_ok (G := cd 10000 j) (k := 10000) h; unfold NextS at e ⊢; (intros; refine cd_W ?_; apply e <;> assumption)
theorem evPick : Ev PickS := evS evNext fun j h => by have e := pick_ok (G := cd 10000 j) (k := 10000) h; unfold PickS at e ⊢; (intros; refine cd_W ?_; apply e <;> assumption)
theorem evExpr : ∀ d, d ≤ 20 → Ev (ExprOK d)
  | 0, _ => evS (evA evNext evPick) fun j h => by have e := expr_ok (G := cd 10000 j) (k := 10000) (d := 0) (by omega) h.1 h.2 (fun d' e => by omega); unfold ExprOK at e ⊢; (intros; refine cd_W ?_; apply e <;> assumption)
  | d + 1, hd => evS (evA (evA evNext evPick) (evExpr d (by omega))) fun j h => by have e := expr_ok (G := cd 10000 j) (k := 10000) (d := d + 1) hd h.1.1 h.1.2 (fun d' e => by cases e; exact h.2); unfold ExprOK at e ⊢; (intros; refine cd_W ?_; apply e <;> assumption)
end
end Go.Proofs.Ytdfjodnkplbffaa.Vm
open Go Go.VM
set_option linter.unusedVariables false
set_option linter.unusedSimpArgs false
set_option maxRecDepth 100000
set_option maxHeartbeats 8000000
namespace Go.Proofs.Ytdfjodnkplbffaa.Vm
theorem evEvent : Ev EventS := evS evPlace fun j h => by have e := event_ok (G := cd 10000 j) (k := 10000) h; unfold EventS at e ⊢; (intros; refine cd_W ?_; apply e <;> assumption)
theorem evBlock : ∀ d, d ≤ 3 → Ev (BlockOK d)
  | 0, _ => evS (evA (evA evNext evPick) (evA evEvent (evExpr 2 (by omega)))) fun j h => by have e := block_ok (G := cd 10000 j) (k := 10000) (d := 0) (by omega) (by omega) h.1.1 h.1.2 h.2.1 h.2.2 (fun d' e => by omega); unfold BlockOK at e ⊢; (intros; refine cd_W ?_; apply e <;> assumption)
  | d + 1, hd => evS (evA (evA (evA evNext evPick) (evA evEvent (evExpr 2 (by omega)))) (evBlock d (by omega))) fun j h => by have e := block_ok (G := cd 10000 j) (k := 10000) (d := d + 1) (by omega) hd h.1.1.1 h.1.1.2 h.1.2.1 h.1.2.2 (fun d' e => by cases e; exact h.2); unfold BlockOK at e ⊢; (intros; refine cd_W ?_; apply e <;> assumption)
end Go.Proofs.Ytdfjodnkplbffaa.Vm
open Go Go.VM
set_option linter.unusedVariables false
set_option linter.unusedSimpArgs false
set_option maxRecDepth 100000
set_option maxHeartbeats 8000000
namespace Go.Proofs.Ytdfjodnkplbffaa.Vm
theorem evSiX : Ev (PlX 57) := ev0 fun j => by have e := six_ok (G := cd 10000 j) (k := 10000) (by omega); unfold PlX at e ⊢; (intros; refine cd_W ?_; apply e <;> assumption)
theorem evCOpX : Ev (OpX 60) := ev0 fun j => by have e := copx_ok (G := cd 10000 j) (k := 10000); unfold OpX at e ⊢; (intros; refine cd_W ?_; apply e <;> assumption)
theorem evPut : Ev PutX := ev0 fun j => by have e := putx_ok (G := cd 10000 j) (k := 10000); unfold PutX at e ⊢; (intros; refine cd_W ?_; apply e <;> assumption)
theorem evHere : Ev HereX := ev0 fun j => by have e := herex_ok (G := cd 10000 j) (k := 10000); unfold HereX at e ⊢; (intros; refine cd_W ?_; apply e <;> assumption)
theorem evPush : Ev PushX := evS evPut fun j h => by have e := pushx_ok (G := cd 10000 j) (k := 10000) h; unfold PushX at e ⊢; (intros; refine cd_W ?_; apply e <;> assumption)
theorem evFc : Ev FcOK := ev0 fun j => by have e := fc_ok (G := cd 10000 j) (k := 10000); unfold FcOK at e ⊢; (intros; refine cd_W ?_; apply e <;> assumption)
theorem evIx : Ev IxOK := evS evFc fun j h => by have e := ix_ok (G := cd 10000 j) (k := 10000) (by omega) h; unfold IxOK at e ⊢; (intros; refine cd_W ?_; apply e <;> assumption)
theorem evCFind : Ev CFindOK := evS evIx fun j h => by have e := cfind_ok (G := cd 10000 j) (k := 10000) h; unfold CFindOK at e ⊢; (intros; refine cd_W ?_; apply e <;> assumption)
theorem evCX : ∀ d, Ev (CX d)
  | 0 => evT fun G c e N K h => h.elim
  | d + 1 => evS (evA (evA (evA evPush evPut) (evA evSiX evCFind)) (evA evCOpX (evA (P1 d) (evCX d)))) fun j h => by have e := cexprx_ok (G := cd 10000 j) (k := 10000) (by omega) h.1.1.1 h.1.1.2 h.1.2.1 h.1.2.2 h.2.1 h.2.2.1 h.2.2.2; unfold CX at e ⊢; (intros; refine cd_W ?_; apply e <;> assumption)
where
  P1 (d : Nat) : Ev (CBX d) := evS (evA (evA evPut evHere) (evA evPush (evCX d))) fun j h => by have e := bothx_ok (G := cd 10000 j) (k := 10000) h.1.1 h.1.2 h.2.1 h.2.2; unfold CBX at e ⊢; (intros; refine cd_W ?_; apply e <;> assumption)
end Go.Proofs.Ytdfjodnkplbffaa.Vm
open Go Go.VM
set_option linter.unusedVariables false
set_option linter.unusedSimpArgs false
set_option maxRecDepth 100000
set_option maxHeartbeats 8000000
namespace Go.Proofs.Ytdfjodnkplbffaa.Vm
theorem evCNum : Ev CNum := evS (evA (evCX 3) evPush) fun j h => by have e := cnum_ok (G := cd 10000 j) (k := 10000) (by omega) h.1 h.2; unfold CNum at e ⊢; (intros; refine cd_W ?_; apply e <;> assumption)
theorem evCAct {d : Nat} : Ev (CAct d) := evS (evA evCNum (evA evSiX evPut)) fun j h => by have e := cact_ok (G := cd 10000 j) (k := 10000) (d := d) h.1 h.2.1 h.2.2; unfold CAct at e ⊢; (intros; refine cd_W ?_; apply e <;> assumption)
theorem evCBlk : ∀ d, Ev (CBlk d)
  | 0 => evT0
  | d + 1 => evS (evA evCAct (evA (P1 d) (P2 d))) fun j h => by have e := cblk_ok (G := cd 10000 j) (k := 10000) (d := d + 1) (by omega) (fun d' q => by cases q; exact h.1) (fun d' q => by cases q; exact h.2.1) (fun d' q => by cases q; exact h.2.2); unfold CBlk at e ⊢; (intros; refine cd_W ?_; apply e <;> assumption)
where
  evT0 : Ev (CBlk 0) := ev0 fun j => by have e := cblk_ok (G := cd 10000 j) (k := 10000) (d := 0) (by omega) (fun d' q => by omega) (fun d' q => by omega) (fun d' q => by omega); unfold CBlk at e ⊢; (intros; refine cd_W ?_; apply e <;> assumption)
  P1 (d : Nat) : Ev (CLoop d) := evS (evA evPut (evA evHere (evCBlk d))) fun j h => by have e := cloop_ok (G := cd 10000 j) (k := 10000) h.1 h.2.1 h.2.2; unfold CLoop at e ⊢; (intros; refine cd_W ?_; apply e <;> assumption)
  P2 (d : Nat) : Ev (CIf d) := evS (evA (evA evCNum evPut) (evA evHere (evCBlk d))) fun j h => by have e := cif_ok (G := cd 10000 j) (k := 10000) h.1.1 h.1.2 h.2.1 h.2.2; unfold CIf at e ⊢; (intros; refine cd_W ?_; apply e <;> assumption)
theorem evCBl {d : Nat} (hd : 2 * ca d ≤ 1000000) : Ev (BlX 18 d) := evS (evCBlk d) fun j h => by have e := cblx_ok (G := cd 10000 j) (k := 10000) hd h; unfold BlX at e ⊢; (intros; refine cd_W ?_; apply e <;> assumption)
end Go.Proofs.Ytdfjodnkplbffaa.Vm
open Go Go.VM
set_option linter.unusedVariables false
set_option linter.unusedSimpArgs false
set_option maxRecDepth 100000
set_option maxHeartbeats 8000000
namespace Go.Proofs.Ytdfjodnkplbffaa.Vm
theorem evFind : Ev FindOK := ev0 fun j => by have e := find_ok (G := cd 10000 j) (k := 10000) (by omega); unfold FindOK at e ⊢; (intros; refine cd_W ?_; apply e <;> assumption)
theorem evPlX : Ev (PlX 61) := ev0 fun j => by have e := plx_ok (G := cd 10000 j) (k := 10000) (by omega); unfold PlX at e ⊢; (intros; refine cd_W ?_; apply e <;> assumption)
theorem evOpX : Ev (OpX 63) := ev0 fun j => by have e := opx_ok (G := cd 10000 j) (k := 10000); unfold OpX at e ⊢; (intros; refine cd_W ?_; apply e <;> assumption)
theorem evRX : ∀ d, Ev (RX d)
  | 0 => evT fun G c e N K h => h.elim
  | d + 1 => evS (evA (evA evPlX evFind) (evA (evA evOpX (evRX d)) (evA (P1 d) (P2 d)))) fun j h => by have e := rexprx_ok (G := cd 10000 j) (k := 10000) h.1.1 h.1.2 h.2.1.1 h.2.1.2 h.2.2.1 h.2.2.2; unfold RX at e ⊢; (intros; refine cd_W ?_; apply e <;> assumption)
where
  P1 (d : Nat) : Ev (RBX 64 andX 1 d) := evS (evRX d) fun j h => by have e := randx_ok (G := cd 10000 j) (k := 10000) h; unfold RBX at e ⊢; (intros; refine cd_W ?_; apply e <;> assumption)
  P2 (d : Nat) : Ev (RBX 65 orX 3 d) := evS (evRX d) fun j h => by have e := rorx_ok (G := cd 10000 j) (k := 10000) h; unfold RBX at e ⊢; (intros; refine cd_W ?_; apply e <;> assumption)
end Go.Proofs.Ytdfjodnkplbffaa.Vm
open Go Go.VM
set_option linter.unusedVariables false
set_option linter.unusedSimpArgs false
set_option maxRecDepth 100000
set_option maxHeartbeats 8000000
namespace Go.Proofs.Ytdfjodnkplbffaa.Vm
theorem evRArg : Ev RArg := evS (evRX 3) fun j h => by have e := rarg_ok (G := cd 10000 j) (k := 10000) h; unfold RArg at e ⊢; (intros; refine cd_W ?_; apply e <;> assumption)
theorem evRAct : ∀ d, Ev (RAct d)
  | 0 => evT fun G c a N K h => h.elim
  | d + 1 => evS (evA (evA evPlX (evRX 3)) (evA evRArg (evS (P := RBlk d) (evRAct d) fun j h => by have e := rblk_ok (G := cd 10000 j) (k := 10000) (by omega) h; unfold RBlk at e ⊢; (intros; refine cd_W ?_; apply e <;> assumption)))) fun j h => by have e := ract_ok (G := cd 10000 j) (k := 10000) h.1.1 h.1.2 h.2.1 h.2.2; unfold RAct at e ⊢; (intros; refine cd_W ?_; apply e <;> assumption)
theorem evRBlk {d : Nat} : Ev (RBlk d) := evS (evRAct d) fun j h => by have e := rblk_ok (G := cd 10000 j) (k := 10000) (by omega) h; unfold RBlk at e ⊢; (intros; refine cd_W ?_; apply e <;> assumption)
theorem evRBl {d : Nat} (hd : 2 * ca d ≤ 1000000) : Ev (BlX 19 d) := evS evRBlk fun j h => by have e := rblx_ok (G := cd 10000 j) (k := 10000) hd h; unfold BlX at e ⊢; (intros; refine cd_W ?_; apply e <;> assumption)
end Go.Proofs.Ytdfjodnkplbffaa.Vm
open Go Go.VM
set_option linter.unusedVariables false
set_option linter.unusedSimpArgs false
set_option maxRecDepth 100000
set_option maxHeartbeats 8000000
namespace Go.Proofs.Ytdfjodnkplbffaa.Vm
theorem evNamed : Ev NamedX := by
  refine ⟨12, fun j hj => ?_⟩
  obtain ⟨j', rfl⟩ : ∃ j', j = j' + 12 := ⟨j - 12, by omega⟩
  intro K
  show _ = _
  kernel_rfl
theorem evKnC : Ev KnC := by
  refine ⟨16, fun j hj => ?_⟩
  obtain ⟨j', rfl⟩ : ∃ j', j = j' + 16 := ⟨j - 16, by omega⟩
  intro K
  show _ = _
  kernel_rfl
end Go.Proofs.Ytdfjodnkplbffaa.Vm
