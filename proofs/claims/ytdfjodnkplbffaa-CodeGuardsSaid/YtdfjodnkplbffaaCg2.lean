/- Functions of the program, told by the machine of values, and what they answer: part 2. -/
import Derived.Test.YtdfjodnkplbffaaCg1
import Derived.Test.YtdfjodnkplbffaaV4
open Go Go.VM
set_option linter.unusedVariables false
set_option maxRecDepth 100000
set_option maxHeartbeats 4000000
namespace Go.Proofs.Ytdfjodnkplbffaa.Vm
/-! ### (*cotillion/code.writer).choice: function 52 -/
def L52 {R : Type} (_ : ORC R) (_ : Nat) : Nat → St → (Ex → St → Option R) → Option R := fun _ _ _ => none
def f52 {R : Type} (G : ORC R) (k : Nat) (ai1 : Int) (as2 as3 : ByteArray) (al4 : List V) (ai5 : Int) (al6 al7 : List V) (ai8 : Int) (bl9 bl10 : List V) (bl11 bl12 bl13 : List V) (K : List V → Option R) : Option R :=
  (G 85 [(.agg [(.int .i64 ai1), (.str as2), (.str as3), (.sl 5 al4), (.int .i64 ai5), (.sl 8 al6), (.sl 8 al7), (.int .i64 ai8)]), (.sl 1 bl9), (.sl 1 bl10), (.sl 1 bl11), (.sl 7 bl12), (.sl 4 bl13)] fun o14 => (uL 4 o14 fun l16 r15 => (unNil r15 (G 56 [(.agg [(.int .i64 24), (.int .i64 0), (.int .i64 0), (.str ⟨#[]⟩)]), (.sl 1 bl9), (.sl 1 bl10), (.sl 1 bl11), (.sl 7 bl12), (.sl 4 l16)] fun o17 => (uI .i64 o17 fun n19 r18 => (uL 4 r18 fun l21 r20 => (unNil r20 (G 39 [(.sl 8 al6), (.sl 1 bl9), (.sl 1 bl10), (.sl 1 bl11), (.sl 7 bl12), (.sl 4 l21)] fun o22 => (uL 4 o22 fun l24 r23 => (unNil r23 (bif (((List.length al7 : Nat) : Int) == 0) then (G 84 [(.int .i64 n19), (.sl 1 bl9), (.sl 1 bl10), (.sl 1 bl11), (.sl 7 bl12), (.sl 4 l24)] fun o25 => (uL 4 o25 fun l27 r26 => (unNil r26 (K [(.sl 4 l27)])))) else (G 56 [(.agg [(.int .i64 23), (.int .i64 0), (.int .i64 0), (.str ⟨#[]⟩)]), (.sl 1 bl9), (.sl 1 bl10), (.sl 1 bl11), (.sl 7 bl12), (.sl 4 l24)] fun o28 => (uI .i64 o28 fun n30 r29 => (uL 4 r29 fun l32 r31 => (unNil r31 (G 84 [(.int .i64 n19), (.sl 1 bl9), (.sl 1 bl10), (.sl 1 bl11), (.sl 7 bl12), (.sl 4 l32)] fun o33 => (uL 4 o33 fun l35 r34 => (unNil r34 (G 39 [(.sl 8 al7), (.sl 1 bl9), (.sl 1 bl10), (.sl 1 bl11), (.sl 7 bl12), (.sl 4 l35)] fun o36 => (uL 4 o36 fun l38 r37 => (unNil r37 (G 84 [(.int .i64 n30), (.sl 1 bl9), (.sl 1 bl10), (.sl 1 bl11), (.sl 7 bl12), (.sl 4 l38)] fun o39 => (uL 4 o39 fun l41 r40 => (unNil r40 (K [(.sl 4 l41)])))))))))))))))))))))))))
theorem f52_is {R : Type} (G : ORC R) (k : Nat) (K : List V → Option R) (ai1 : Int) (as2 as3 : ByteArray) (al4 : List V) (ai5 : Int) (al6 al7 : List V) (ai8 : Int) (bl9 bl10 : List V) (bl11 bl12 bl13 : List V) :
    callF (TAB.env 52) G (L52 G k) Try.f52 S52 [(.agg [(.int .i64 ai1), (.str as2), (.str as3), (.sl 5 al4), (.int .i64 ai5), (.sl 8 al6), (.sl 8 al7), (.int .i64 ai8)]), (.sl 1 bl9), (.sl 1 bl10), (.sl 1 bl11), (.sl 7 bl12), (.sl 4 bl13)] K = f52 G k ai1 as2 as3 al4 ai5 al6 al7 ai8 bl9 bl10 bl11 bl12 bl13 K := by kernel_rfl
theorem lo52 : loopsOf (bodyOf Try.f52) = [] := by kernel_rfl
theorem la52 {R : Type} (G : ORC R) (k : Nat) : LoopsAre (TAB.env 52) G (L52 G k) (bodyOf Try.f52) :=
  loopsAre_of (by rw [lo52]; intro p hp; cases hp)
def g52 {R : Type} (G : ORC R) (k : Nat) (args : List V) (K : List V → Option R) : Option R := match args with
  | [(.agg [(.int .i64 ai1), (.str as2), (.str as3), (.sl 5 al4), (.int .i64 ai5), (.sl 8 al6), (.sl 8 al7), (.int .i64 ai8)]), (.sl 1 bl9), (.sl 1 bl10), (.sl 1 bl11), (.sl 7 bl12), (.sl 4 bl13)] => f52 G k ai1 as2 as3 al4 ai5 al6 al7 ai8 bl9 bl10 bl11 bl12 bl13 K
  | _ => none
theorem s52 {R : Type} {G : ORC R} {k : Nat} (hG : Sound Try.prog TAB G) (args : List V) (K : List V → Option R) (r : R) (h : g52 G k args K = some r) : ∃ o, CallOK Try.prog TAB.env 52 args o ∧ K o = some r := by
  unfold g52 at h
  split at h
  · rw [← f52_is] at h
    exact callF_sound (f := 52) TAB_chk MO hG Try.func52 (sg := S52) (by kernel_rfl) (by kernel_rfl) (la52 G k) h
  · cases h
end Go.Proofs.Ytdfjodnkplbffaa.Vm
open Go Go.VM
set_option linter.unusedVariables false
set_option maxRecDepth 100000
set_option maxHeartbeats 4000000
namespace Go.Proofs.Ytdfjodnkplbffaa.Vm
/-! ### (*cotillion/code.writer).act: function 53 -/
def L53 {R : Type} (_ : ORC R) (_ : Nat) : Nat → St → (Ex → St → Option R) → Option R := fun _ _ _ => none
def f53 {R : Type} (G : ORC R) (k : Nat) (ai1 : Int) (as2 as3 : ByteArray) (al4 : List V) (ai5 : Int) (al6 al7 : List V) (ai8 : Int) (bl9 bl10 : List V) (bl11 bl12 bl13 : List V) (K : List V → Option R) : Option R :=
  (bif (ai1 != 5) then (G 85 [(.agg [(.int .i64 ai1), (.str as2), (.str as3), (.sl 5 al4), (.int .i64 ai5), (.sl 8 al6), (.sl 8 al7), (.int .i64 ai8)]), (.sl 1 bl9), (.sl 1 bl10), (.sl 1 bl11), (.sl 7 bl12), (.sl 4 bl13)] fun o14 => (uL 4 o14 fun l16 r15 => (unNil r15 (bif (ai1 == 1) then (G 57 [(.sl 1 bl9), (.str as2)] fun o17 => (uI .i64 o17 fun n19 r18 => (unNil r18 (G 56 [(.agg [(.int .i64 18), (.int .i64 n19), (.int .i64 0), (.str ⟨#[]⟩)]), (.sl 1 bl9), (.sl 1 bl10), (.sl 1 bl11), (.sl 7 bl12), (.sl 4 l16)] fun o20 => (uI .i64 o20 fun n22 r21 => (uL 4 r21 fun l24 r23 => (unNil r23 (K [(.sl 4 l24)])))))))) else (bif (ai1 == 2) then (G 56 [(.agg [(.int .i64 19), (.int .i64 0), (.int .i64 0), (.str as3)]), (.sl 1 bl9), (.sl 1 bl10), (.sl 1 bl11), (.sl 7 bl12), (.sl 4 l16)] fun o25 => (uI .i64 o25 fun n27 r26 => (uL 4 r26 fun l29 r28 => (unNil r28 (K [(.sl 4 l29)]))))) else (bif (ai1 == 3) then (G 57 [(.sl 1 bl10), (.str as2)] fun o30 => (uI .i64 o30 fun n32 r31 => (unNil r31 (G 56 [(.agg [(.int .i64 20), (.int .i64 n32), (.int .i64 0), (.str as3)]), (.sl 1 bl9), (.sl 1 bl10), (.sl 1 bl11), (.sl 7 bl12), (.sl 4 l16)] fun o33 => (uI .i64 o33 fun n35 r34 => (uL 4 r34 fun l37 r36 => (unNil r36 (K [(.sl 4 l37)])))))))) else (bif (ai1 == 4) then (G 57 [(.sl 1 bl11), (.str as2)] fun o38 => (uI .i64 o38 fun n40 r39 => (unNil r39 (G 56 [(.agg [(.int .i64 21), (.int .i64 n40), (.int .i64 0), (.str ⟨#[]⟩)]), (.sl 1 bl9), (.sl 1 bl10), (.sl 1 bl11), (.sl 7 bl12), (.sl 4 l16)] fun o41 => (uI .i64 o41 fun n43 r42 => (uL 4 r42 fun l45 r44 => (unNil r44 (K [(.sl 4 l45)])))))))) else (bif (ai1 == 5) then (G 57 [(.sl 1 bl11), (.str as2)] fun o46 => (uI .i64 o46 fun n48 r47 => (unNil r47 (G 56 [(.agg [(.int .i64 22), (.int .i64 n48), (.int .i64 0), (.str ⟨#[]⟩)]), (.sl 1 bl9), (.sl 1 bl10), (.sl 1 bl11), (.sl 7 bl12), (.sl 4 l16)] fun o49 => (uI .i64 o49 fun n51 r50 => (uL 4 r50 fun l53 r52 => (unNil r52 (K [(.sl 4 l53)])))))))) else (K [(.sl 4 l16)]))))))))) else (bif (ai1 == 1) then (G 57 [(.sl 1 bl9), (.str as2)] fun o54 => (uI .i64 o54 fun n56 r55 => (unNil r55 (G 56 [(.agg [(.int .i64 18), (.int .i64 n56), (.int .i64 0), (.str ⟨#[]⟩)]), (.sl 1 bl9), (.sl 1 bl10), (.sl 1 bl11), (.sl 7 bl12), (.sl 4 bl13)] fun o57 => (uI .i64 o57 fun n59 r58 => (uL 4 r58 fun l61 r60 => (unNil r60 (K [(.sl 4 l61)])))))))) else (bif (ai1 == 2) then (G 56 [(.agg [(.int .i64 19), (.int .i64 0), (.int .i64 0), (.str as3)]), (.sl 1 bl9), (.sl 1 bl10), (.sl 1 bl11), (.sl 7 bl12), (.sl 4 bl13)] fun o62 => (uI .i64 o62 fun n64 r63 => (uL 4 r63 fun l66 r65 => (unNil r65 (K [(.sl 4 l66)]))))) else (bif (ai1 == 3) then (G 57 [(.sl 1 bl10), (.str as2)] fun o67 => (uI .i64 o67 fun n69 r68 => (unNil r68 (G 56 [(.agg [(.int .i64 20), (.int .i64 n69), (.int .i64 0), (.str as3)]), (.sl 1 bl9), (.sl 1 bl10), (.sl 1 bl11), (.sl 7 bl12), (.sl 4 bl13)] fun o70 => (uI .i64 o70 fun n72 r71 => (uL 4 r71 fun l74 r73 => (unNil r73 (K [(.sl 4 l74)])))))))) else (bif (ai1 == 4) then (G 57 [(.sl 1 bl11), (.str as2)] fun o75 => (uI .i64 o75 fun n77 r76 => (unNil r76 (G 56 [(.agg [(.int .i64 21), (.int .i64 n77), (.int .i64 0), (.str ⟨#[]⟩)]), (.sl 1 bl9), (.sl 1 bl10), (.sl 1 bl11), (.sl 7 bl12), (.sl 4 bl13)] fun o78 => (uI .i64 o78 fun n80 r79 => (uL 4 r79 fun l82 r81 => (unNil r81 (K [(.sl 4 l82)])))))))) else (bif (ai1 == 5) then (G 57 [(.sl 1 bl11), (.str as2)] fun o83 => (uI .i64 o83 fun n85 r84 => (unNil r84 (G 56 [(.agg [(.int .i64 22), (.int .i64 n85), (.int .i64 0), (.str ⟨#[]⟩)]), (.sl 1 bl9), (.sl 1 bl10), (.sl 1 bl11), (.sl 7 bl12), (.sl 4 bl13)] fun o86 => (uI .i64 o86 fun n88 r87 => (uL 4 r87 fun l90 r89 => (unNil r89 (K [(.sl 4 l90)])))))))) else (K [(.sl 4 bl13)])))))))
theorem f53_is {R : Type} (G : ORC R) (k : Nat) (K : List V → Option R) (ai1 : Int) (as2 as3 : ByteArray) (al4 : List V) (ai5 : Int) (al6 al7 : List V) (ai8 : Int) (bl9 bl10 : List V) (bl11 bl12 bl13 : List V) :
    callF (TAB.env 53) G (L53 G k) Try.f53 S53 [(.agg [(.int .i64 ai1), (.str as2), (.str as3), (.sl 5 al4), (.int .i64 ai5), (.sl 8 al6), (.sl 8 al7), (.int .i64 ai8)]), (.sl 1 bl9), (.sl 1 bl10), (.sl 1 bl11), (.sl 7 bl12), (.sl 4 bl13)] K = f53 G k ai1 as2 as3 al4 ai5 al6 al7 ai8 bl9 bl10 bl11 bl12 bl13 K := by kernel_rfl
theorem lo53 : loopsOf (bodyOf Try.f53) = [] := by kernel_rfl
theorem la53 {R : Type} (G : ORC R) (k : Nat) : LoopsAre (TAB.env 53) G (L53 G k) (bodyOf Try.f53) :=
  loopsAre_of (by rw [lo53]; intro p hp; cases hp)
def g53 {R : Type} (G : ORC R) (k : Nat) (args : List V) (K : List V → Option R) : Option R := match args with
  | [(.agg [(.int .i64 ai1), (.str as2), (.str as3), (.sl 5 al4), (.int .i64 ai5), (.sl 8 al6), (.sl 8 al7), (.int .i64 ai8)]), (.sl 1 bl9), (.sl 1 bl10), (.sl 1 bl11), (.sl 7 bl12), (.sl 4 bl13)] => f53 G k ai1 as2 as3 al4 ai5 al6 al7 ai8 bl9 bl10 bl11 bl12 bl13 K
  | _ => none
theorem s53 {R : Type} {G : ORC R} {k : Nat} (hG : Sound Try.prog TAB G) (args : List V) (K : List V → Option R) (r : R) (h : g53 G k args K = some r) : ∃ o, CallOK Try.prog TAB.env 53 args o ∧ K o = some r := by
  unfold g53 at h
  split at h
  · rw [← f53_is] at h
    exact callF_sound (f := 53) TAB_chk MO hG Try.func53 (sg := S53) (by kernel_rfl) (by kernel_rfl) (la53 G k) h
  · cases h
end Go.Proofs.Ytdfjodnkplbffaa.Vm
open Go Go.VM
set_option linter.unusedVariables false
set_option maxRecDepth 100000
set_option maxHeartbeats 4000000
namespace Go.Proofs.Ytdfjodnkplbffaa.Vm
/-! ### cotillion/cotillionref13.kind: function 82 -/
def L82 {R : Type} (_ : ORC R) (_ : Nat) : Nat → St → (Ex → St → Option R) → Option R := fun _ _ _ => none
def f82 {R : Type} (G : ORC R) (k : Nat) (ai1 : Int) (as2 : ByteArray) (al3 al4 : List V) (al5 al6 : List V) (ai7 : Int) (K : List V → Option R) : Option R :=
  (bif (ai1 == 3) then (K [(.int .i64 4)]) else (bif (ai1 == 4) then (K [(.int .i64 5)]) else (bif (ai1 == 2) then (K [(.int .i64 3)]) else (bif (((List.length al6 : Nat) : Int) == 0) then (K [(.int .i64 1)]) else (K [(.int .i64 2)])))))
theorem f82_is {R : Type} (G : ORC R) (k : Nat) (K : List V → Option R) (ai1 : Int) (as2 : ByteArray) (al3 al4 : List V) (al5 al6 : List V) (ai7 : Int) :
    callF (TAB.env 82) G (L82 G k) Try.f82 S82 [(.agg [(.int .i64 ai1), (.str as2), (.sl 8 al3), (.sl 8 al4), (.sl 5 al5), (.sl 7 al6), (.int .i64 ai7)])] K = f82 G k ai1 as2 al3 al4 al5 al6 ai7 K := by kernel_rfl
theorem lo82 : loopsOf (bodyOf Try.f82) = [] := by kernel_rfl
theorem la82 {R : Type} (G : ORC R) (k : Nat) : LoopsAre (TAB.env 82) G (L82 G k) (bodyOf Try.f82) :=
  loopsAre_of (by rw [lo82]; intro p hp; cases hp)
def g82 {R : Type} (G : ORC R) (k : Nat) (args : List V) (K : List V → Option R) : Option R := match args with
  | [(.agg [(.int .i64 ai1), (.str as2), (.sl 8 al3), (.sl 8 al4), (.sl 5 al5), (.sl 7 al6), (.int .i64 ai7)])] => f82 G k ai1 as2 al3 al4 al5 al6 ai7 K
  | _ => none
theorem s82 {R : Type} {G : ORC R} {k : Nat} (hG : Sound Try.prog TAB G) (args : List V) (K : List V → Option R) (r : R) (h : g82 G k args K = some r) : ∃ o, CallOK Try.prog TAB.env 82 args o ∧ K o = some r := by
  unfold g82 at h
  split at h
  · rw [← f82_is] at h
    exact callF_sound (f := 82) TAB_chk MO hG Try.func82 (sg := S82) (by kernel_rfl) (by kernel_rfl) (la82 G k) h
  · cases h
end Go.Proofs.Ytdfjodnkplbffaa.Vm
open Go Go.VM
set_option linter.unusedVariables false
set_option maxRecDepth 100000
set_option maxHeartbeats 4000000
namespace Go.Proofs.Ytdfjodnkplbffaa.Vm
/-! ### cotillion/cotillionref13.IsState: function 83 -/
def L83 {R : Type} (_ : ORC R) (_ : Nat) : Nat → St → (Ex → St → Option R) → Option R := fun _ _ _ => none
def f83 {R : Type} (G : ORC R) (k : Nat) (ai1 ai2 : Int) (ai3 ai4 : Int) (ai5 ai6 : Int) (as7 : ByteArray) (K : List V → Option R) : Option R :=
  (K [(.bool (decide (ai1 ≤ 3)))])
theorem f83_is {R : Type} (G : ORC R) (k : Nat) (K : List V → Option R) (ai1 ai2 : Int) (ai3 ai4 : Int) (ai5 ai6 : Int) (as7 : ByteArray) :
    callF (TAB.env 83) G (L83 G k) Try.f83 S83 [(.agg [(.int .i64 ai1), (.int .i64 ai2), (.int .i64 ai3), (.int .i64 ai4), (.int .i64 ai5), (.int .i64 ai6), (.str as7)])] K = f83 G k ai1 ai2 ai3 ai4 ai5 ai6 as7 K := by kernel_rfl
theorem lo83 : loopsOf (bodyOf Try.f83) = [] := by kernel_rfl
theorem la83 {R : Type} (G : ORC R) (k : Nat) : LoopsAre (TAB.env 83) G (L83 G k) (bodyOf Try.f83) :=
  loopsAre_of (by rw [lo83]; intro p hp; cases hp)
def g83 {R : Type} (G : ORC R) (k : Nat) (args : List V) (K : List V → Option R) : Option R := match args with
  | [(.agg [(.int .i64 ai1), (.int .i64 ai2), (.int .i64 ai3), (.int .i64 ai4), (.int .i64 ai5), (.int .i64 ai6), (.str as7)])] => f83 G k ai1 ai2 ai3 ai4 ai5 ai6 as7 K
  | _ => none
theorem s83 {R : Type} {G : ORC R} {k : Nat} (hG : Sound Try.prog TAB G) (args : List V) (K : List V → Option R) (r : R) (h : g83 G k args K = some r) : ∃ o, CallOK Try.prog TAB.env 83 args o ∧ K o = some r := by
  unfold g83 at h
  split at h
  · rw [← f83_is] at h
    exact callF_sound (f := 83) TAB_chk MO hG Try.func83 (sg := S83) (by kernel_rfl) (by kernel_rfl) (la83 G k) h
  · cases h
end Go.Proofs.Ytdfjodnkplbffaa.Vm
open Go Go.VM
set_option linter.unusedVariables false
set_option maxRecDepth 100000
set_option maxHeartbeats 4000000
namespace Go.Proofs.Ytdfjodnkplbffaa.Vm
/-! ### (*cotillion/code.writer).number: function 85 -/
def P85_0h : Pat := { tmps := unds [.stat (.one (.ptr 0 0) .pt), .undef, .undef, .stat (.one (.ptr 4 0) .pt), .undef, .undef, .undef, .var (.sl 5) .ro, .var (.int .i64) .pr, .var (.int .i64) .pr] 13 [], boxes := nons [some [.var (.sl 1) .ro true, .var (.sl 1) .ro true, .var (.sl 1) .ro true, .var (.sl 7) .ro true, .var (.sl 4) (.own true) false], none, none, none, some [.var (.int .i64) .pr false, .var .str .pr false, .var .str .pr false, .var (.sl 5) .ro false, .var (.int .i64) .pr false, .var (.sl 8) .ro false, .var (.sl 8) .ro false, .var (.int .i64) .pr false]] 19 [] }
def P85_0x : Pat := { tmps := unds [.stat (.one (.ptr 0 0) .pt), .undef, .undef, .stat (.one (.ptr 4 0) .pt)] 19 [], boxes := nons [some [.var (.sl 1) .ro true, .var (.sl 1) .ro true, .var (.sl 1) .ro true, .var (.sl 7) .ro true, .var (.sl 4) (.own true) false], none, none, none, some [.var (.int .i64) .pr false, .var .str .pr false, .var .str .pr false, .var (.sl 5) .ro false, .var (.int .i64) .pr false, .var (.sl 8) .ro false, .var (.sl 8) .ro false, .var (.int .i64) .pr false]] 19 [] }
def b85_0 {R : Type} (G : ORC R) (k : Nat) (X : List V → Int → Int → List V → List V → List V → List V → List V → Int → ByteArray → ByteArray → List V → Int → List V → List V → Int → Option R) (Ko : List V → List V → List V → List V → List V → Int → ByteArray → ByteArray → List V → Int → List V → List V → Int → Option R) (xl14 : List V) (xi15 xi16 : Int) (xl17 xl18 : List V) (xl19 xl20 xl21 : List V) (xi22 : Int) (xs23 xs24 : ByteArray) (xl25 : List V) (xi26 : Int) (xl27 xl28 : List V) (xi29 : Int) : Option R :=
  (bif (decide (xi16 < xi15)) then (bif ((decide (0 ≤ xi16)) && (decide (xi16 < ((List.length xl14 : Nat) : Int)))) then (nthK xl14 (Int.toNat xi16) fun e30 => (V.asAgg e30 fun l31 => (ce5 l31 fun c32 c33 c34 c35 c36 => (aI .i64 c32 fun n43 => (aI .i64 c33 fun n44 => (V.asStr c34 fun s45 => (V.asSl c35 fun z46 l47 => (aI .i64 c36 fun n48 => (G 41 [(.agg [(.int .i64 n43), (.int .i64 n44), (.str s45), (.sl z46 l47), (.int .i64 n48)]), (.sl 1 xl17), (.sl 1 xl18), (.sl 1 xl19), (.sl 7 xl20), (.sl 4 xl21)] fun o49 => (uL 4 o49 fun l51 r50 => (unNil r50 (X xl14 xi15 (IntKind.i64.wrap (xi16 + 1)) xl17 xl18 xl19 xl20 l51 xi22 xs23 xs24 xl25 xi26 xl27 xl28 xi29)))))))))))) else none) else (Ko xl17 xl18 xl19 xl20 xl21 xi22 xs23 xs24 xl25 xi26 xl27 xl28 xi29))
def l85_0g {R : Type} (G : ORC R) (k : Nat) (Ko : List V → List V → List V → List V → List V → Int → ByteArray → ByteArray → List V → Int → List V → List V → Int → Option R) : Nat → List V → Int → Int → List V → List V → List V → List V → List V → Int → ByteArray → ByteArray → List V → Int → List V → List V → Int → Option R
  | 0 => fun _ _ _ _ _ _ _ _ _ _ _ _ _ _ _ _ => none
  | j + 1 => b85_0 G k (l85_0g G k Ko j) Ko
def l85_0 {R : Type} (G : ORC R) (k : Nat) (xl14 : List V) (xi15 xi16 : Int) (xl17 xl18 : List V) (xl19 xl20 xl21 : List V) (xi22 : Int) (xs23 xs24 : ByteArray) (xl25 : List V) (xi26 : Int) (xl27 xl28 : List V) (xi29 : Int) (Ko : List V → List V → List V → List V → List V → Int → ByteArray → ByteArray → List V → Int → List V → List V → Int → Option R) : Option R := l85_0g G k Ko k xl14 xi15 xi16 xl17 xl18 xl19 xl20 xl21 xi22 xs23 xs24 xl25 xi26 xl27 xl28 xi29
def rd85_0 {R : Type} (G : ORC R) (k : Nat) (K : Ex → St → Option R) (j : Nat) (vs : List V) : Option R := match vs with
  | [(.sl 5 xl14), (.int .i64 xi15), (.int .i64 xi16), (.sl 1 xl17), (.sl 1 xl18), (.sl 1 xl19), (.sl 7 xl20), (.sl 4 xl21), (.int .i64 xi22), (.str xs23), (.str xs24), (.sl 5 xl25), (.int .i64 xi26), (.sl 8 xl27), (.sl 8 xl28), (.int .i64 xi29)] => l85_0g G k (fun yl68 yl69 yl70 yl71 yl72 yi73 ys74 ys75 yl76 yi77 yl78 yl79 yi80 => K .normal (P85_0x.inst [(.sl 1 yl68), (.sl 1 yl69), (.sl 1 yl70), (.sl 7 yl71), (.sl 4 yl72), (.int .i64 yi73), (.str ys74), (.str ys75), (.sl 5 yl76), (.int .i64 yi77), (.sl 8 yl78), (.sl 8 yl79), (.int .i64 yi80)])) j xl14 xi15 xi16 xl17 xl18 xl19 xl20 xl21 xi22 xs23 xs24 xl25 xi26 xl27 xl28 xi29
  | _ => none
def L85 {R : Type} (G : ORC R) (k : Nat) : Nat → St → (Ex → St → Option R) → Option R
  | 0, S, K => P85_0h.mat S fun vs => rd85_0 G k K k vs
  | _, _, _ => none
def f85 {R : Type} (G : ORC R) (k : Nat) (ai1 : Int) (as2 as3 : ByteArray) (al4 : List V) (ai5 : Int) (al6 al7 : List V) (ai8 : Int) (bl9 bl10 : List V) (bl11 bl12 bl13 : List V) (K : List V → Option R) : Option R :=
  (l85_0 G k al4 ((List.length al4 : Nat) : Int) 0 bl9 bl10 bl11 bl12 bl13 ai1 as2 as3 al4 ai5 al6 al7 ai8 (fun yl52 yl53 yl54 yl55 yl56 yi57 ys58 ys59 yl60 yi61 yl62 yl63 yi64 => (bif (((List.length yl60 : Nat) : Int) == 0) then (G 55 [(.int .i64 0), (.sl 1 yl52), (.sl 1 yl53), (.sl 1 yl54), (.sl 7 yl55), (.sl 4 yl56)] fun o65 => (uL 4 o65 fun l67 r66 => (unNil r66 (K [(.sl 4 l67)])))) else (K [(.sl 4 yl56)]))))
noncomputable def D85_0 : LoopD := { id := 0, body := loopAt 0 (bodyOf Try.f85), head := P85_0h, out := P85_0x, ret := default }
theorem l85_0_is {R : Type} (G : ORC R) (k : Nat) (X : List V → Option R) (K : Ex → St → Option R) (xl14 : List V) (xi15 xi16 : Int) (xl17 xl18 : List V) (xl19 xl20 xl21 : List V) (xi22 : Int) (xs23 xs24 : ByteArray) (xl25 : List V) (xi26 : Int) (xl27 xl28 : List V) (xi29 : Int) :
    roundOf (TAB.env 85) G (L85 G k) D85_0 X K [(.sl 5 xl14), (.int .i64 xi15), (.int .i64 xi16), (.sl 1 xl17), (.sl 1 xl18), (.sl 1 xl19), (.sl 7 xl20), (.sl 4 xl21), (.int .i64 xi22), (.str xs23), (.str xs24), (.sl 5 xl25), (.int .i64 xi26), (.sl 8 xl27), (.sl 8 xl28), (.int .i64 xi29)] = b85_0 G k (fun xl14 xi15 xi16 xl17 xl18 xl19 xl20 xl21 xi22 xs23 xs24 xl25 xi26 xl27 xl28 xi29 => X [(.sl 5 xl14), (.int .i64 xi15), (.int .i64 xi16), (.sl 1 xl17), (.sl 1 xl18), (.sl 1 xl19), (.sl 7 xl20), (.sl 4 xl21), (.int .i64 xi22), (.str xs23), (.str xs24), (.sl 5 xl25), (.int .i64 xi26), (.sl 8 xl27), (.sl 8 xl28), (.int .i64 xi29)]) (fun yl68 yl69 yl70 yl71 yl72 yi73 ys74 ys75 yl76 yi77 yl78 yl79 yi80 => K .normal (P85_0x.inst [(.sl 1 yl68), (.sl 1 yl69), (.sl 1 yl70), (.sl 7 yl71), (.sl 4 yl72), (.int .i64 yi73), (.str ys74), (.str ys75), (.sl 5 yl76), (.int .i64 yi77), (.sl 8 yl78), (.sl 8 yl79), (.int .i64 yi80)])) xl14 xi15 xi16 xl17 xl18 xl19 xl20 xl21 xi22 xs23 xs24 xl25 xi26 xl27 xl28 xi29 := by kernel_rfl
theorem f85_is {R : Type} (G : ORC R) (k : Nat) (K : List V → Option R) (ai1 : Int) (as2 as3 : ByteArray) (al4 : List V) (ai5 : Int) (al6 al7 : List V) (ai8 : Int) (bl9 bl10 : List V) (bl11 bl12 bl13 : List V) :
    callF (TAB.env 85) G (L85 G k) Try.f85 S85 [(.agg [(.int .i64 ai1), (.str as2), (.str as3), (.sl 5 al4), (.int .i64 ai5), (.sl 8 al6), (.sl 8 al7), (.int .i64 ai8)]), (.sl 1 bl9), (.sl 1 bl10), (.sl 1 bl11), (.sl 7 bl12), (.sl 4 bl13)] K = f85 G k ai1 as2 as3 al4 ai5 al6 al7 ai8 bl9 bl10 bl11 bl12 bl13 K := by kernel_rfl
theorem li85_0 {R : Type} (G : ORC R) (k : Nat) : LoopIs (TAB.env 85) G (L85 G k) 0 (loopAt 0 (bodyOf Try.f85)) :=
  ⟨D85_0, fun j vs K => rd85_0 G k K j vs, k, rfl, rfl, by kernel_rfl, by kernel_rfl, by kernel_rfl, (fun vs K => by unfold rd85_0; dsimp only; split <;> rfl),
    (fun j vs K r h => by
      unfold rd85_0 at h
      dsimp only at h
      split at h
      · rw [l85_0_is]; exact h
      · cases h), (fun S K r h => h)⟩
theorem lo85 : loopsOf (bodyOf Try.f85) = [(0, loopAt 0 (bodyOf Try.f85))] := by kernel_rfl
theorem la85 {R : Type} (G : ORC R) (k : Nat) : LoopsAre (TAB.env 85) G (L85 G k) (bodyOf Try.f85) :=
  loopsAre_of (by rw [lo85]; intro p hp; simp only [List.mem_cons, List.not_mem_nil, or_false] at hp; subst hp; exact li85_0 G k)
def g85 {R : Type} (G : ORC R) (k : Nat) (args : List V) (K : List V → Option R) : Option R := match args with
  | [(.agg [(.int .i64 ai1), (.str as2), (.str as3), (.sl 5 al4), (.int .i64 ai5), (.sl 8 al6), (.sl 8 al7), (.int .i64 ai8)]), (.sl 1 bl9), (.sl 1 bl10), (.sl 1 bl11), (.sl 7 bl12), (.sl 4 bl13)] => f85 G k ai1 as2 as3 al4 ai5 al6 al7 ai8 bl9 bl10 bl11 bl12 bl13 K
  | _ => none
theorem s85 {R : Type} {G : ORC R} {k : Nat} (hG : Sound Try.prog TAB G) (args : List V) (K : List V → Option R) (r : R) (h : g85 G k args K = some r) : ∃ o, CallOK Try.prog TAB.env 85 args o ∧ K o = some r := by
  unfold g85 at h
  split at h
  · rw [← f85_is] at h
    exact callF_sound (f := 85) TAB_chk MO hG Try.func85 (sg := S85) (by kernel_rfl) (by kernel_rfl) (la85 G k) h
  · cases h
end Go.Proofs.Ytdfjodnkplbffaa.Vm
open Go Go.VM
set_option linter.unusedVariables false
set_option maxRecDepth 100000
namespace Go.Proofs.Ytdfjodnkplbffaa.Vm
def guB (k : Nat) (G : ORC (List V)) : ORC (List V) := fun f args K => match f with
    | 7 => g7 G k args K
    | 14 => g14 G k args K
    | 15 => g15 G k args K
    | 17 => g17 G k args K
    | 18 => g18 G k args K
    | 20 => g20 G k args K
    | 22 => g22 G k args K
    | 23 => g23 G k args K
    | 24 => g24 G k args K
    | 25 => g25 G k args K
    | 29 => g29 G k args K
    | 35 => g35 G k args K
    | 36 => g36 G k args K
    | 37 => g37 G k args K
    | 39 => g39 G k args K
    | 41 => g41 G k args K
    | 42 => g42 G k args K
    | 50 => g50 G k args K
    | 51 => g51 G k args K
    | 52 => g52 G k args K
    | 53 => g53 G k args K
    | 55 => g55 G k args K
    | 56 => g56 G k args K
    | 57 => g57 G k args K
    | 58 => g58 G k args K
    | 59 => g59 G k args K
    | 60 => g60 G k args K
    | 61 => g61 G k args K
    | 62 => g62 G k args K
    | 63 => g63 G k args K
    | 64 => g64 G k args K
    | 65 => g65 G k args K
    | 82 => g82 G k args K
    | 83 => g83 G k args K
    | 84 => g84 G k args K
    | 85 => g85 G k args K
    | 88 => g88 G k args K
    | 65623 => g65623 G k args K
    | _ => none
def gu (k : Nat) : Nat → ORC (List V)
  | 0 => fun _ _ _ => none
  | j + 1 => fun f args K => (guB k (gu k j) f args some).bind K
theorem gu_sound (k : Nat) : ∀ j, Sound Try.prog TAB (gu k j)
  | 0 => fun f args K r h => by cases h
  | j + 1 => fun f args K r h => by
    have ih := gu_sound k j
    have h : (guB k (gu k j) f args some).bind K = some r := h
    cases hb : guB k (gu k j) f args some with
    | none => rw [hb] at h; cases h
    | some o =>
    rw [hb] at h
    have key : ∃ o', CallOK Try.prog TAB.env f args o' ∧ some o' = some o := by
      unfold guB at hb
      split at hb
      · exact s7 ih args some o hb
      · exact s14 ih args some o hb
      · exact s15 ih args some o hb
      · exact s17 ih args some o hb
      · exact s18 ih args some o hb
      · exact s20 ih args some o hb
      · exact s22 ih args some o hb
      · exact s23 ih args some o hb
      · exact s24 ih args some o hb
      · exact s25 ih args some o hb
      · exact s29 ih args some o hb
      · exact s35 ih args some o hb
      · exact s36 ih args some o hb
      · exact s37 ih args some o hb
      · exact s39 ih args some o hb
      · exact s41 ih args some o hb
      · exact s42 ih args some o hb
      · exact s50 ih args some o hb
      · exact s51 ih args some o hb
      · exact s52 ih args some o hb
      · exact s53 ih args some o hb
      · exact s55 ih args some o hb
      · exact s56 ih args some o hb
      · exact s57 ih args some o hb
      · exact s58 ih args some o hb
      · exact s59 ih args some o hb
      · exact s60 ih args some o hb
      · exact s61 ih args some o hb
      · exact s62 ih args some o hb
      · exact s63 ih args some o hb
      · exact s64 ih args some o hb
      · exact s65 ih args some o hb
      · exact s82 ih args some o hb
      · exact s83 ih args some o hb
      · exact s84 ih args some o hb
      · exact s85 ih args some o hb
      · exact s88 ih args some o hb
      · exact s65623 ih args some o hb
      · cases hb
    obtain ⟨o', h1, h2⟩ := key
    cases h2
    exact ⟨o, h1, h⟩
theorem gu_U {k j : Nat} {f : FuncId} {args : List V} {Q : List V → Prop} (h : W Q some (guB k (gu k j) f args some)) : ∃ o, Q o ∧ ∀ K, gu k (j + 1) f args K = K o := by
  obtain ⟨o, q, e⟩ := h
  exact ⟨o, q, fun K => by show (guB k (gu k j) f args some).bind K = _; rw [e]; rfl⟩
theorem gu_W {k j : Nat} {f : FuncId} {args : List V} {Q : List V → Prop} {K : List V → Option (List V)} (h : W Q some (guB k (gu k j) f args some)) : W Q K (gu k (j + 1) f args K) := by
  obtain ⟨o, q, e⟩ := gu_U h
  exact ⟨o, q, e K⟩
end Go.Proofs.Ytdfjodnkplbffaa.Vm
open Go Go.VM
set_option linter.unusedVariables false
set_option linter.unusedSimpArgs false
set_option maxRecDepth 100000
set_option maxHeartbeats 8000000
namespace Go.Proofs.Ytdfjodnkplbffaa.Vm
section
def Ev (P : ORC (List V) → Prop) : Prop := ∃ N, ∀ j, N ≤ j → P (gu 10000 j)
theorem ev0 {P : ORC (List V) → Prop} (h : ∀ j, P (gu 10000 (j + 1))) : Ev P := ⟨1, fun j hj => by obtain ⟨j', rfl⟩ : ∃ j', j = j' + 1 := ⟨j - 1, by omega⟩; exact h j'⟩
theorem evS {A P : ORC (List V) → Prop} (hA : Ev A) (h : ∀ j, A (gu 10000 j) → P (gu 10000 (j + 1))) : Ev P := by
  obtain ⟨N, hN⟩ := hA
  refine ⟨N + 1, fun j hj => ?_⟩
  obtain ⟨j', rfl⟩ : ∃ j', j = j' + 1 := ⟨j - 1, by omega⟩
  exact h j' (hN j' (by omega))
theorem evA {A B : ORC (List V) → Prop} (hA : Ev A) (hB : Ev B) : Ev fun G => A G ∧ B G := by
  obtain ⟨N, hN⟩ := hA
  obtain ⟨M, hM⟩ := hB
  exact ⟨N + M, fun j hj => ⟨hN j (by omega), hM j (by omega)⟩⟩
theorem evT {P : ORC (List V) → Prop} (h : ∀ G, P G) : Ev P := ⟨0, fun j _ => h _⟩
theorem evPlace : Ev PlaceS := ev0 fun j => by have e := place_ok (G := gu 10000 j) (k := 10000); unfold PlaceS at e ⊢; (intros; refine gu_W ?_; apply e <;> assumption)
theorem evNext : Ev NextS := evS evPlace fun j h => by have e := next_ok (G := gu 10000 j) (k := 10000) h; unfold NextS at e ⊢; (intros; refine gu_W ?_; apply e <;> assumption)
theorem evPick : Ev PickS := evS evNext fun j h => by have e := pick_ok (G := gu 10000 j) (k := 10000) h; unfold PickS at e ⊢; (intros; refine gu_W ?_; apply e <;> assumption)
theorem evExpr : ∀ d, d ≤ 20 → Ev (ExprOK d)
  | 0, _ => evS (evA evNext evPick) fun j h => by have e := expr_ok (G := gu 10000 j) (k := 10000) (d := 0) (by omega) h.1 h.2 (fun d' e => by omega); unfold ExprOK at e ⊢; (intros; refine gu_W ?_; apply e <;> assumption)
  | d + 1, hd => evS (evA (evA evNext evPick) (evExpr d (by omega))) fun j h => by have e := expr_ok (G := gu 10000 j) (k := 10000) (d := d + 1) hd h.1.1 h.1.2 (fun d' e => by cases e; exact h.2); unfold ExprOK at e ⊢; (intros; refine gu_W ?_; apply e <;> assumption)
end
end Go.Proofs.Ytdfjodnkplbffaa.Vm
