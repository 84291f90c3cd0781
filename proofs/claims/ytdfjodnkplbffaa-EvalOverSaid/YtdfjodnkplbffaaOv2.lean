/- Functions of the program, told by the machine of values, and what they answer: a part. -/
import Derived.Test.YtdfjodnkplbffaaOv1
import Derived.Laws.BitsLemmas
import Derived.RowKit
import Derived.Test.YtdfjodnkplbffaaOvV4
open Go Go.VM
set_option linter.unusedVariables false
set_option maxRecDepth 100000
set_option maxHeartbeats 4000000
namespace Go.Proofs.Ytdfjodnkplbffaa.Vm
def L7 {R : Type} (_ : ORC R) (_ : Nat) : Nat → St → (Ex → St → Option R) → Option R := fun _ _ _ => none
def f7 {R : Type} (G : ORC R) (k : Nat) (al1 : List V) (K : List V → Option R) : Option R :=
  (bif (decide ((al1.length : Int) > 150)) then (G 14 [] fun o2 => uB o2 fun b4 r3 => unNil r3 (K [.bool b4])) else (G 15 [] fun o5 => uA o5 fun l7 r6 => uL 1 l7 fun l9 r8 => uL 1 r8 fun l11 r10 => uL 1 r10 fun l13 r12 => uL 1 r12 fun l15 r14 => unNil r14 (uA r6 fun l17 r16 => uL 1 l17 fun l19 r18 => uL 1 r18 fun l21 r20 => uL 1 r20 fun l23 r22 => uL 7 r22 fun l25 r24 => unNil r24 (uA r16 fun l27 r26 => uL 1 l27 fun l29 r28 => uL 1 r28 fun l31 r30 => uL 1 r30 fun l33 r32 => uL 7 r32 fun l35 r34 => unNil r34 (unNil r26 (G 23 [.agg [.sl 1 l9, .sl 1 l11, .sl 1 l13, .sl 1 l15], .int .i64 5, .sl 1 al1, .int .i64 0] fun o36 => uA o36 fun l38 r37 => uI .i64 l38 fun n40 r39 => uI .i64 r39 fun n42 r41 => uS r41 fun s44 r43 => uL 5 r43 fun l46 r45 => uI .i64 r45 fun n48 r47 => unNil r47 (uI .i64 r37 fun n50 r49 => unNil r49 (G 24 [.agg [.int .i64 n40, .int .i64 n42, .str s44, .sl 5 l46, .int .i64 n48], .agg [.sl 1 l19, .sl 1 l21, .sl 1 l23, .sl 7 l25]] fun o51 => uL 4 o51 fun l53 r52 => unNil r52 (G 25 [.agg [.int .i64 n40, .int .i64 n42, .str s44, .sl 5 l46, .int .i64 n48], .agg [.sl 1 l29, .sl 1 l31, .sl 1 l33, .sl 7 l35]] fun o54 => uL 4 o54 fun l56 r55 => unNil r55 (G 17 [.sl 4 l53, .sl 4 l56] fun o57 => uB o57 fun b59 r58 => unNil r58 (bif b59 then (G 14 [] fun o60 => uB o60 fun b62 r61 => unNil r61 (K [.bool b62])) else (K [.bool false]))))))))))))
theorem f7_is {R : Type} (G : ORC R) (k : Nat) (K : List V → Option R) (al1 : List V) :
    callF (TAB.env 7) G (L7 G k) Try.f7 S7 [.sl 1 al1] K = f7 G k al1 K := by kernel_rfl
theorem lo7 : loopsOf (bodyOf Try.f7) = [] := by kernel_rfl
theorem la7 {R : Type} (G : ORC R) (k : Nat) : LoopsAre (TAB.env 7) G (L7 G k) (bodyOf Try.f7) :=
  loopsAre_of (by rw [lo7]; intro p hp; cases hp)
def g7 {R : Type} (G : ORC R) (k : Nat) (args : List V) (K : List V → Option R) : Option R := match args with
  | [.sl 1 al1] => f7 G k al1 K
  | _ => none
theorem s7 {R : Type} {G : ORC R} {k : Nat} (hG : Sound Try.prog TAB G) (args : List V) (K : List V → Option R) (r : R) (h : g7 G k args K = some r) : ∃ o, CallOK Try.prog TAB.env 7 args o ∧ K o = some r := by
  unfold g7 at h
  split at h
  · rw [← f7_is] at h
    exact callF_sound (f := 7) TAB_chk MO hG Try.func7 (sg := S7) (by kernel_rfl) (by kernel_rfl) (la7 G k) h
  · cases h
def L26 {R : Type} (_ : ORC R) (_ : Nat) : Nat → St → (Ex → St → Option R) → Option R := fun _ _ _ => none
def f26 {R : Type} (G : ORC R) (k : Nat)  (K : List V → Option R) : Option R :=
  (G 31 [.sl 4 [.agg [.int .i64 1, .int .i64 0, .int .i64 1, .str ⟨#[]⟩], .agg [.int .i64 1, .int .i64 0, .int .i64 0, .str ⟨#[]⟩], .agg [.int .i64 8, .int .i64 0, .int .i64 0, .str ⟨#[]⟩]], .agg [.sl 1 [], .sl 1 [], .sl 1 []], .int .i64 0, .int .i64 9] fun o1 => uA o1 fun l3 r2 => uI .i64 l3 fun n5 r4 => uL 1 r4 fun l7 r6 => uL 2 r6 fun l9 r8 => uL 4 r8 fun l11 r10 => uI .i64 r10 fun n13 r12 => uI .i64 r12 fun n15 r14 => unNil r14 (unNil r2 (G 31 [.sl 4 [.agg [.int .i64 3, .int .i64 0, .int .i64 0, .str ⟨#[]⟩], .agg [.int .i64 20, .int .i64 1, .int .i64 0, .str ⟨#[101]⟩]], .agg [.sl 1 [], .sl 1 [], .sl 1 []], .int .i64 7, .int .i64 9] fun o16 => uA o16 fun l18 r17 => uI .i64 l18 fun n20 r19 => uL 1 r19 fun l22 r21 => uL 2 r21 fun l24 r23 => uL 4 r23 fun l26 r25 => uI .i64 r25 fun n28 r27 => uI .i64 r27 fun n30 r29 => unNil r29 (unNil r17 (bif (n15 == 3) then (bif (n13 == 3) then (bif (n30 == 0) then (bif ((l26.length : Int) == 1) then (bif (decide (0 < (l26.length : Int))) then (nthK l26 0 fun e31 => V.asAgg e31 fun l32 => ce4 l32 fun c33 c34 c35 c36 => V.asInt c33 fun k42 n43 => bif ((decide (k42 = .i64)) && true) then (V.asInt c34 fun k44 n45 => bif ((decide (k44 = .i64)) && true) then (V.asStr c35 fun s46 => V.asInt c36 fun k47 n48 => bif ((decide (k47 = .i64)) && true) then (K [.bool ((n43 == 1) && ((n45 == 1) && ((ByteArray.toList s46 == ByteArray.toList ⟨#[101]⟩) && ((n48 == 7) && true))))]) else none) else none) else none) else none) else (K [.bool false])) else (K [.bool false])) else (K [.bool false])) else (K [.bool false]))))))
theorem f26_is {R : Type} (G : ORC R) (k : Nat) (K : List V → Option R)  :
    callF (TAB.env 26) G (L26 G k) Try.f26 S26 [] K = f26 G k  K := by kernel_rfl
theorem lo26 : loopsOf (bodyOf Try.f26) = [] := by kernel_rfl
theorem la26 {R : Type} (G : ORC R) (k : Nat) : LoopsAre (TAB.env 26) G (L26 G k) (bodyOf Try.f26) :=
  loopsAre_of (by rw [lo26]; intro p hp; cases hp)
def g26 {R : Type} (G : ORC R) (k : Nat) (args : List V) (K : List V → Option R) : Option R := match args with
  | [] => f26 G k  K
  | _ => none
theorem s26 {R : Type} {G : ORC R} {k : Nat} (hG : Sound Try.prog TAB G) (args : List V) (K : List V → Option R) (r : R) (h : g26 G k args K = some r) : ∃ o, CallOK Try.prog TAB.env 26 args o ∧ K o = some r := by
  unfold g26 at h
  split at h
  · rw [← f26_is] at h
    exact callF_sound (f := 26) TAB_chk MO hG Try.func26 (sg := S26) (by kernel_rfl) (by kernel_rfl) (la26 G k) h
  · cases h
def L28 {R : Type} (_ : ORC R) (_ : Nat) : Nat → St → (Ex → St → Option R) → Option R := fun _ _ _ => none
def f28 {R : Type} (G : ORC R) (k : Nat) (ai1 ai2 : Int) (ab3 : Bool) (K : List V → Option R) : Option R :=
  (bif ab3 then (K [.agg [.sl 1 [.int .i64 0, .int .i64 2], .sl 1 [.int .i64 ai1, .int .i64 ai2], .sl 1 []]]) else (K [.agg [.sl 1 [.int .i64 0, .int .i64 1], .sl 1 [.int .i64 ai1, .int .i64 ai2], .sl 1 []]]))
theorem f28_is {R : Type} (G : ORC R) (k : Nat) (K : List V → Option R) (ai1 ai2 : Int) (ab3 : Bool) :
    callF (TAB.env 28) G (L28 G k) Try.f28 S28 [.int .i64 ai1, .int .i64 ai2, .bool ab3] K = f28 G k ai1 ai2 ab3 K := by kernel_rfl
theorem lo28 : loopsOf (bodyOf Try.f28) = [] := by kernel_rfl
theorem la28 {R : Type} (G : ORC R) (k : Nat) : LoopsAre (TAB.env 28) G (L28 G k) (bodyOf Try.f28) :=
  loopsAre_of (by rw [lo28]; intro p hp; cases hp)
def g28 {R : Type} (G : ORC R) (k : Nat) (args : List V) (K : List V → Option R) : Option R := match args with
  | [.int .i64 ai1, .int .i64 ai2, .bool ab3] => f28 G k ai1 ai2 ab3 K
  | _ => none
theorem s28 {R : Type} {G : ORC R} {k : Nat} (hG : Sound Try.prog TAB G) (args : List V) (K : List V → Option R) (r : R) (h : g28 G k args K = some r) : ∃ o, CallOK Try.prog TAB.env 28 args o ∧ K o = some r := by
  unfold g28 at h
  split at h
  · rw [← f28_is] at h
    exact callF_sound (f := 28) TAB_chk MO hG Try.func28 (sg := S28) (by kernel_rfl) (by kernel_rfl) (la28 G k) h
  · cases h
def P30_0h : Pat := { tmps := unds [.undef, .undef, .stat (.one (.ptr 2 0) .pt), .stat (.one (.ptr 3 0) .pt), .undef, .var (.int .i64) .pr] 82 [], boxes := nons [none, none, some [.var (.int .i64) .pr false, .var (.sl 1) .ro false, .var (.sl 2) .ro false, .var (.sl 4) .ro false, .var (.int .i64) .pr false, .var (.int .i64) .pr false], some [.var (.int .i64) .pr false, .var (.sl 1) .ro false, .var (.sl 2) .ro false, .var (.sl 4) .ro false, .var (.int .i64) .pr false, .var (.int .i64) .pr false]] 84 [] }
def P30_0x : Pat := { tmps := unds [.undef, .undef, .stat (.one (.ptr 2 0) .pt), .stat (.one (.ptr 3 0) .pt)] 84 [], boxes := nons [none, none, some [.var (.int .i64) .pr false, .var (.sl 1) .ro false, .var (.sl 2) .ro false, .var (.sl 4) .ro false, .var (.int .i64) .pr false, .var (.int .i64) .pr false], some [.var (.int .i64) .pr false, .var (.sl 1) .ro false, .var (.sl 2) .ro false, .var (.sl 4) .ro false, .var (.int .i64) .pr false, .var (.int .i64) .pr false]] 84 [] }
def P30_0r : Pat := { tmps := unds [.undef, .undef, .undef, .undef, .var .bool .pr] 83 [], boxes := nons [] 88 [] }
def b30_0 {R : Type} (G : ORC R) (k : Nat) (X : Int → Int → List V → List V → List V → Int → Int → Int → List V → List V → List V → Int → Int → Option R) (Ko : Int → List V → List V → List V → Int → Int → Int → List V → List V → List V → Int → Int → Option R) (Kr : Bool → Option R) (xi16 xi17 : Int) (xl18 xl19 xl20 : List V) (xi21 xi22 xi23 : Int) (xl24 xl25 xl26 : List V) (xi27 xi28 : Int) : Option R :=
  (bif (decide (xi16 < (xl19.length : Int))) then (bif ((decide (0 ≤ xi16)) && (decide (xi16 < (xl19.length : Int)))) then (nthK xl19 (Int.toNat xi16) fun e29 => V.asAgg e29 fun l30 => bif ((decide (0 ≤ xi16)) && (decide (xi16 < (xl25.length : Int)))) then (nthK xl25 (Int.toNat xi16) fun e31 => V.asAgg e31 fun l32 => ce2 l30 fun c33 c34 => ce2 l32 fun c38 c39 => V.asStr c33 fun s43 => V.asStr c38 fun s44 => V.asInt c34 fun k45 n46 => V.asInt c39 fun k47 n48 => bif ((decide (k45 = .i64)) && (decide (k47 = .i64))) then (bif (!((ByteArray.toList s43 == ByteArray.toList s44) && ((n46 == n48) && true))) then (Kr false) else (X (IntKind.i64.wrap (xi16 + 1)) xi17 xl18 xl19 xl20 xi21 xi22 xi23 xl24 xl25 xl26 xi27 xi28)) else none) else none) else none) else (Ko xi17 xl18 xl19 xl20 xi21 xi22 xi23 xl24 xl25 xl26 xi27 xi28))
def l30_0g {R : Type} (G : ORC R) (k : Nat) (Ko : Int → List V → List V → List V → Int → Int → Int → List V → List V → List V → Int → Int → Option R) (Kr : Bool → Option R) : Nat → Int → Int → List V → List V → List V → Int → Int → Int → List V → List V → List V → Int → Int → Option R
  | 0 => fun _ _ _ _ _ _ _ _ _ _ _ _ _ => none
  | j + 1 => b30_0 G k (l30_0g G k Ko Kr j) Ko Kr
def l30_0 {R : Type} (G : ORC R) (k : Nat) (xi16 xi17 : Int) (xl18 xl19 xl20 : List V) (xi21 xi22 xi23 : Int) (xl24 xl25 xl26 : List V) (xi27 xi28 : Int) (Ko : Int → List V → List V → List V → Int → Int → Int → List V → List V → List V → Int → Int → Option R) (Kr : Bool → Option R) : Option R := l30_0g G k Ko Kr k xi16 xi17 xl18 xl19 xl20 xi21 xi22 xi23 xl24 xl25 xl26 xi27 xi28
def P30_2h : Pat := { tmps := unds [.undef, .undef, .stat (.one (.ptr 2 0) .pt), .stat (.one (.ptr 3 0) .pt), .undef, .undef, .var (.int .i64) .pr] 81 [], boxes := nons [none, none, some [.var (.int .i64) .pr false, .var (.sl 1) .ro false, .var (.sl 2) .ro false, .var (.sl 4) .ro false, .var (.int .i64) .pr false, .var (.int .i64) .pr false], some [.var (.int .i64) .pr false, .var (.sl 1) .ro false, .var (.sl 2) .ro false, .var (.sl 4) .ro false, .var (.int .i64) .pr false, .var (.int .i64) .pr false]] 84 [] }
def P30_2x : Pat := { tmps := unds [] 88 [], boxes := nons [] 88 [] }
def P30_2r : Pat := { tmps := unds [.undef, .undef, .undef, .undef, .var .bool .pr] 83 [], boxes := nons [] 88 [] }
def b30_2 {R : Type} (G : ORC R) (k : Nat) (X : Int → Int → List V → List V → List V → Int → Int → Int → List V → List V → List V → Int → Int → Option R) (Ko : Unit → Option R) (Kr : Bool → Option R) (xi61 xi62 : Int) (xl63 xl64 xl65 : List V) (xi66 xi67 xi68 : Int) (xl69 xl70 xl71 : List V) (xi72 xi73 : Int) : Option R :=
  (bif (decide (xi61 < (xl65.length : Int))) then (bif ((decide (0 ≤ xi61)) && (decide (xi61 < (xl65.length : Int)))) then (nthK xl65 (Int.toNat xi61) fun e74 => V.asAgg e74 fun l75 => bif ((decide (0 ≤ xi61)) && (decide (xi61 < (xl71.length : Int)))) then (nthK xl71 (Int.toNat xi61) fun e76 => V.asAgg e76 fun l77 => ce4 l75 fun c78 c79 c80 c81 => ce4 l77 fun c87 c88 c89 c90 => V.asInt c78 fun k96 n97 => V.asInt c87 fun k98 n99 => bif ((decide (k96 = .i64)) && (decide (k98 = .i64))) then (V.asInt c79 fun k100 n101 => V.asInt c88 fun k102 n103 => bif ((decide (k100 = .i64)) && (decide (k102 = .i64))) then (V.asStr c80 fun s104 => V.asStr c89 fun s105 => V.asInt c81 fun k106 n107 => V.asInt c90 fun k108 n109 => bif ((decide (k106 = .i64)) && (decide (k108 = .i64))) then (bif (!((n97 == n99) && ((n101 == n103) && ((ByteArray.toList s104 == ByteArray.toList s105) && ((n107 == n109) && true))))) then (Kr false) else (X (IntKind.i64.wrap (xi61 + 1)) xi62 xl63 xl64 xl65 xi66 xi67 xi68 xl69 xl70 xl71 xi72 xi73)) else none) else none) else none) else none) else none) else (Ko ()))
def l30_2g {R : Type} (G : ORC R) (k : Nat) (Ko : Unit → Option R) (Kr : Bool → Option R) : Nat → Int → Int → List V → List V → List V → Int → Int → Int → List V → List V → List V → Int → Int → Option R
  | 0 => fun _ _ _ _ _ _ _ _ _ _ _ _ _ => none
  | j + 1 => b30_2 G k (l30_2g G k Ko Kr j) Ko Kr
def l30_2 {R : Type} (G : ORC R) (k : Nat) (xi61 xi62 : Int) (xl63 xl64 xl65 : List V) (xi66 xi67 xi68 : Int) (xl69 xl70 xl71 : List V) (xi72 xi73 : Int) (Ko : Unit → Option R) (Kr : Bool → Option R) : Option R := l30_2g G k Ko Kr k xi61 xi62 xl63 xl64 xl65 xi66 xi67 xi68 xl69 xl70 xl71 xi72 xi73
def rd30_0 {R : Type} (G : ORC R) (k : Nat) (K : Ex → St → Option R) (j : Nat) (vs : List V) : Option R := match vs with
  | [.int .i64 xi16, .int .i64 xi17, .sl 1 xl18, .sl 2 xl19, .sl 4 xl20, .int .i64 xi21, .int .i64 xi22, .int .i64 xi23, .sl 1 xl24, .sl 2 xl25, .sl 4 xl26, .int .i64 xi27, .int .i64 xi28] => l30_0g G k (fun yi112 yl113 yl114 yl115 yi116 yi117 yi118 yl119 yl120 yl121 yi122 yi123 => K .normal (P30_0x.inst [.int .i64 yi112, .sl 1 yl113, .sl 2 yl114, .sl 4 yl115, .int .i64 yi116, .int .i64 yi117, .int .i64 yi118, .sl 1 yl119, .sl 2 yl120, .sl 4 yl121, .int .i64 yi122, .int .i64 yi123])) (fun yb124 => K .ret (P30_0r.inst [.bool yb124])) j xi16 xi17 xl18 xl19 xl20 xi21 xi22 xi23 xl24 xl25 xl26 xi27 xi28
  | _ => none
def rd30_2 {R : Type} (G : ORC R) (k : Nat) (K : Ex → St → Option R) (j : Nat) (vs : List V) : Option R := match vs with
  | [.int .i64 xi61, .int .i64 xi62, .sl 1 xl63, .sl 2 xl64, .sl 4 xl65, .int .i64 xi66, .int .i64 xi67, .int .i64 xi68, .sl 1 xl69, .sl 2 xl70, .sl 4 xl71, .int .i64 xi72, .int .i64 xi73] => l30_2g G k (fun _ => K .normal (P30_2x.inst [])) (fun yb125 => K .ret (P30_2r.inst [.bool yb125])) j xi61 xi62 xl63 xl64 xl65 xi66 xi67 xi68 xl69 xl70 xl71 xi72 xi73
  | _ => none
def L30 {R : Type} (G : ORC R) (k : Nat) : Nat → St → (Ex → St → Option R) → Option R
  | 0, S, K => P30_0h.mat S fun vs => rd30_0 G k K k vs
  | 2, S, K => P30_2h.mat S fun vs => rd30_2 G k K k vs
  | _, _, _ => none
def f30 {R : Type} (G : ORC R) (k : Nat) (ai1 : Int) (al2 al3 al4 : List V) (ai5 ai6 ai7 : Int) (al8 al9 al10 : List V) (ai11 ai12 : Int) (K : List V → Option R) : Option R :=
  (bif (ai1 != ai7) then (K [.bool false]) else (bif (ai5 != ai11) then (K [.bool false]) else (bif (ai6 != ai12) then (K [.bool false]) else (G 33 [.sl 1 al2, .sl 1 al8] fun o13 => uB o13 fun b15 r14 => unNil r14 (bif (!b15) then (K [.bool false]) else (bif ((al3.length : Int) != (al9.length : Int)) then (K [.bool false]) else (bif ((al4.length : Int) != (al10.length : Int)) then (K [.bool false]) else (l30_0 G k 0 ai1 al2 al3 al4 ai5 ai6 ai7 al8 al9 al10 ai11 ai12 (fun yi49 yl50 yl51 yl52 yi53 yi54 yi55 yl56 yl57 yl58 yi59 yi60 => l30_2 G k 0 yi49 yl50 yl51 yl52 yi53 yi54 yi55 yl56 yl57 yl58 yi59 yi60 (fun (_ : Unit) => K [.bool true]) (fun yb110 => K [.bool yb110])) (fun yb111 => K [.bool yb111])))))))))
noncomputable def D30_0 : LoopD := { id := 0, body := loopAt 0 (bodyOf Try.f30), head := P30_0h, out := P30_0x, ret := P30_0r }
theorem l30_0_is {R : Type} (G : ORC R) (k : Nat) (X : List V → Option R) (K : Ex → St → Option R) (xi16 xi17 : Int) (xl18 xl19 xl20 : List V) (xi21 xi22 xi23 : Int) (xl24 xl25 xl26 : List V) (xi27 xi28 : Int) :
    roundOf (TAB.env 30) G (L30 G k) D30_0 X K [.int .i64 xi16, .int .i64 xi17, .sl 1 xl18, .sl 2 xl19, .sl 4 xl20, .int .i64 xi21, .int .i64 xi22, .int .i64 xi23, .sl 1 xl24, .sl 2 xl25, .sl 4 xl26, .int .i64 xi27, .int .i64 xi28] = b30_0 G k (fun xi16 xi17 xl18 xl19 xl20 xi21 xi22 xi23 xl24 xl25 xl26 xi27 xi28 => X [.int .i64 xi16, .int .i64 xi17, .sl 1 xl18, .sl 2 xl19, .sl 4 xl20, .int .i64 xi21, .int .i64 xi22, .int .i64 xi23, .sl 1 xl24, .sl 2 xl25, .sl 4 xl26, .int .i64 xi27, .int .i64 xi28]) (fun yi112 yl113 yl114 yl115 yi116 yi117 yi118 yl119 yl120 yl121 yi122 yi123 => K .normal (P30_0x.inst [.int .i64 yi112, .sl 1 yl113, .sl 2 yl114, .sl 4 yl115, .int .i64 yi116, .int .i64 yi117, .int .i64 yi118, .sl 1 yl119, .sl 2 yl120, .sl 4 yl121, .int .i64 yi122, .int .i64 yi123])) (fun yb124 => K .ret (P30_0r.inst [.bool yb124])) xi16 xi17 xl18 xl19 xl20 xi21 xi22 xi23 xl24 xl25 xl26 xi27 xi28 := by kernel_rfl
noncomputable def D30_2 : LoopD := { id := 2, body := loopAt 2 (bodyOf Try.f30), head := P30_2h, out := P30_2x, ret := P30_2r }
theorem l30_2_is {R : Type} (G : ORC R) (k : Nat) (X : List V → Option R) (K : Ex → St → Option R) (xi61 xi62 : Int) (xl63 xl64 xl65 : List V) (xi66 xi67 xi68 : Int) (xl69 xl70 xl71 : List V) (xi72 xi73 : Int) :
    roundOf (TAB.env 30) G (L30 G k) D30_2 X K [.int .i64 xi61, .int .i64 xi62, .sl 1 xl63, .sl 2 xl64, .sl 4 xl65, .int .i64 xi66, .int .i64 xi67, .int .i64 xi68, .sl 1 xl69, .sl 2 xl70, .sl 4 xl71, .int .i64 xi72, .int .i64 xi73] = b30_2 G k (fun xi61 xi62 xl63 xl64 xl65 xi66 xi67 xi68 xl69 xl70 xl71 xi72 xi73 => X [.int .i64 xi61, .int .i64 xi62, .sl 1 xl63, .sl 2 xl64, .sl 4 xl65, .int .i64 xi66, .int .i64 xi67, .int .i64 xi68, .sl 1 xl69, .sl 2 xl70, .sl 4 xl71, .int .i64 xi72, .int .i64 xi73]) (fun _ => K .normal (P30_2x.inst [])) (fun yb125 => K .ret (P30_2r.inst [.bool yb125])) xi61 xi62 xl63 xl64 xl65 xi66 xi67 xi68 xl69 xl70 xl71 xi72 xi73 := by kernel_rfl
theorem f30_is {R : Type} (G : ORC R) (k : Nat) (K : List V → Option R) (ai1 : Int) (al2 al3 al4 : List V) (ai5 ai6 ai7 : Int) (al8 al9 al10 : List V) (ai11 ai12 : Int) :
    callF (TAB.env 30) G (L30 G k) Try.f30 S30 [.agg [.int .i64 ai1, .sl 1 al2, .sl 2 al3, .sl 4 al4, .int .i64 ai5, .int .i64 ai6], .agg [.int .i64 ai7, .sl 1 al8, .sl 2 al9, .sl 4 al10, .int .i64 ai11, .int .i64 ai12]] K = f30 G k ai1 al2 al3 al4 ai5 ai6 ai7 al8 al9 al10 ai11 ai12 K := by kernel_rfl
theorem li30_0 {R : Type} (G : ORC R) (k : Nat) : LoopIs (TAB.env 30) G (L30 G k) 0 (loopAt 0 (bodyOf Try.f30)) :=
  ⟨D30_0, fun j vs K => rd30_0 G k K j vs, k, rfl, rfl, by kernel_rfl, by kernel_rfl, by kernel_rfl, (fun vs K => by unfold rd30_0; dsimp only; split <;> rfl),
    (fun j vs K r h => by
      unfold rd30_0 at h
      dsimp only at h
      split at h
      · rw [l30_0_is]; exact h
      · cases h), (fun S K r h => h)⟩
theorem li30_2 {R : Type} (G : ORC R) (k : Nat) : LoopIs (TAB.env 30) G (L30 G k) 2 (loopAt 2 (bodyOf Try.f30)) :=
  ⟨D30_2, fun j vs K => rd30_2 G k K j vs, k, rfl, rfl, by kernel_rfl, by kernel_rfl, by kernel_rfl, (fun vs K => by unfold rd30_2; dsimp only; split <;> rfl),
    (fun j vs K r h => by
      unfold rd30_2 at h
      dsimp only at h
      split at h
      · rw [l30_2_is]; exact h
      · cases h), (fun S K r h => h)⟩
theorem lo30 : loopsOf (bodyOf Try.f30) = [(0, loopAt 0 (bodyOf Try.f30)), (2, loopAt 2 (bodyOf Try.f30))] := by kernel_rfl
theorem la30 {R : Type} (G : ORC R) (k : Nat) : LoopsAre (TAB.env 30) G (L30 G k) (bodyOf Try.f30) :=
  loopsAre_of (by rw [lo30]; intro p hp; simp only [List.mem_cons, List.not_mem_nil, or_false] at hp; rcases hp with rfl | rfl <;> first | exact li30_0 G k | exact li30_2 G k)
def g30 {R : Type} (G : ORC R) (k : Nat) (args : List V) (K : List V → Option R) : Option R := match args with
  | [.agg [.int .i64 ai1, .sl 1 al2, .sl 2 al3, .sl 4 al4, .int .i64 ai5, .int .i64 ai6], .agg [.int .i64 ai7, .sl 1 al8, .sl 2 al9, .sl 4 al10, .int .i64 ai11, .int .i64 ai12]] => f30 G k ai1 al2 al3 al4 ai5 ai6 ai7 al8 al9 al10 ai11 ai12 K
  | _ => none
theorem s30 {R : Type} {G : ORC R} {k : Nat} (hG : Sound Try.prog TAB G) (args : List V) (K : List V → Option R) (r : R) (h : g30 G k args K = some r) : ∃ o, CallOK Try.prog TAB.env 30 args o ∧ K o = some r := by
  unfold g30 at h
  split at h
  · rw [← f30_is] at h
    exact callF_sound (f := 30) TAB_chk MO hG Try.func30 (sg := S30) (by kernel_rfl) (by kernel_rfl) (la30 G k) h
  · cases h
def P33_0h : Pat := { tmps := unds [.var (.sl 1) .ro, .var (.sl 1) .ro, .undef, .undef, .undef, .var (.int .i64) .pr] 20 [], boxes := nons [] 26 [] }
def P33_0x : Pat := { tmps := unds [] 26 [], boxes := nons [] 26 [] }
def P33_0r : Pat := { tmps := unds [.undef, .undef, .undef, .undef, .var .bool .pr] 21 [], boxes := nons [] 26 [] }
def b33_0 {R : Type} (G : ORC R) (k : Nat) (X : List V → List V → Int → Option R) (Ko : Unit → Option R) (Kr : Bool → Option R) (xl3 xl4 : List V) (xi5 : Int) : Option R :=
  (bif (decide (xi5 < (xl3.length : Int))) then (bif ((decide (0 ≤ xi5)) && (decide (xi5 < (xl3.length : Int)))) then (nthK xl3 (Int.toNat xi5) fun e6 => aI .i64 e6 fun n7 => bif ((decide (0 ≤ xi5)) && (decide (xi5 < (xl4.length : Int)))) then (nthK xl4 (Int.toNat xi5) fun e8 => aI .i64 e8 fun n9 => bif (n7 != n9) then (Kr false) else (X xl3 xl4 (IntKind.i64.wrap (xi5 + 1)))) else none) else none) else (Ko ()))
def l33_0g {R : Type} (G : ORC R) (k : Nat) (Ko : Unit → Option R) (Kr : Bool → Option R) : Nat → List V → List V → Int → Option R
  | 0 => fun _ _ _ => none
  | j + 1 => b33_0 G k (l33_0g G k Ko Kr j) Ko Kr
def l33_0 {R : Type} (G : ORC R) (k : Nat) (xl3 xl4 : List V) (xi5 : Int) (Ko : Unit → Option R) (Kr : Bool → Option R) : Option R := l33_0g G k Ko Kr k xl3 xl4 xi5
def rd33_0 {R : Type} (G : ORC R) (k : Nat) (K : Ex → St → Option R) (j : Nat) (vs : List V) : Option R := match vs with
  | [.sl 1 xl3, .sl 1 xl4, .int .i64 xi5] => l33_0g G k (fun _ => K .normal (P33_0x.inst [])) (fun yb11 => K .ret (P33_0r.inst [.bool yb11])) j xl3 xl4 xi5
  | _ => none
def L33 {R : Type} (G : ORC R) (k : Nat) : Nat → St → (Ex → St → Option R) → Option R
  | 0, S, K => P33_0h.mat S fun vs => rd33_0 G k K k vs
  | _, _, _ => none
def f33 {R : Type} (G : ORC R) (k : Nat) (al1 al2 : List V) (K : List V → Option R) : Option R :=
  (bif ((al1.length : Int) != (al2.length : Int)) then (K [.bool false]) else (l33_0 G k al1 al2 0 (fun (_ : Unit) => K [.bool true]) (fun yb10 => K [.bool yb10])))
noncomputable def D33_0 : LoopD := { id := 0, body := loopAt 0 (bodyOf Try.f33), head := P33_0h, out := P33_0x, ret := P33_0r }
theorem l33_0_is {R : Type} (G : ORC R) (k : Nat) (X : List V → Option R) (K : Ex → St → Option R) (xl3 xl4 : List V) (xi5 : Int) :
    roundOf (TAB.env 33) G (L33 G k) D33_0 X K [.sl 1 xl3, .sl 1 xl4, .int .i64 xi5] = b33_0 G k (fun xl3 xl4 xi5 => X [.sl 1 xl3, .sl 1 xl4, .int .i64 xi5]) (fun _ => K .normal (P33_0x.inst [])) (fun yb11 => K .ret (P33_0r.inst [.bool yb11])) xl3 xl4 xi5 := by kernel_rfl
theorem f33_is {R : Type} (G : ORC R) (k : Nat) (K : List V → Option R) (al1 al2 : List V) :
    callF (TAB.env 33) G (L33 G k) Try.f33 S33 [.sl 1 al1, .sl 1 al2] K = f33 G k al1 al2 K := by kernel_rfl
theorem li33_0 {R : Type} (G : ORC R) (k : Nat) : LoopIs (TAB.env 33) G (L33 G k) 0 (loopAt 0 (bodyOf Try.f33)) :=
  ⟨D33_0, fun j vs K => rd33_0 G k K j vs, k, rfl, rfl, by kernel_rfl, by kernel_rfl, by kernel_rfl, (fun vs K => by unfold rd33_0; dsimp only; split <;> rfl),
    (fun j vs K r h => by
      unfold rd33_0 at h
      dsimp only at h
      split at h
      · rw [l33_0_is]; exact h
      · cases h), (fun S K r h => h)⟩
theorem lo33 : loopsOf (bodyOf Try.f33) = [(0, loopAt 0 (bodyOf Try.f33))] := by kernel_rfl
theorem la33 {R : Type} (G : ORC R) (k : Nat) : LoopsAre (TAB.env 33) G (L33 G k) (bodyOf Try.f33) :=
  loopsAre_of (by rw [lo33]; intro p hp; simp only [List.mem_cons, List.not_mem_nil, or_false] at hp; subst hp; exact li33_0 G k)
def g33 {R : Type} (G : ORC R) (k : Nat) (args : List V) (K : List V → Option R) : Option R := match args with
  | [.sl 1 al1, .sl 1 al2] => f33 G k al1 al2 K
  | _ => none
theorem s33 {R : Type} {G : ORC R} {k : Nat} (hG : Sound Try.prog TAB G) (args : List V) (K : List V → Option R) (r : R) (h : g33 G k args K = some r) : ∃ o, CallOK Try.prog TAB.env 33 args o ∧ K o = some r := by
  unfold g33 at h
  split at h
  · rw [← f33_is] at h
    exact callF_sound (f := 33) TAB_chk MO hG Try.func33 (sg := S33) (by kernel_rfl) (by kernel_rfl) (la33 G k) h
  · cases h
def L12 {R : Type} (_ : ORC R) (_ : Nat) : Nat → St → (Ex → St → Option R) → Option R := fun _ _ _ => none
def f12 {R : Type} (G : ORC R) (k : Nat) (ai1 ai2 ai3 : Int) (K : List V → Option R) : Option R :=
  (G 19 [.sl 8 [.agg [.int .i64 2, .str ⟨#[]⟩, .str ⟨#[97]⟩, .sl 5 [], .int .i64 0, .sl 8 [], .sl 8 [], .int .i64 0], .agg [.int .i64 1, .str ⟨#[120]⟩, .str ⟨#[]⟩, .sl 5 [.agg [.int .i64 (IntKind.i64.wrap (7 + (Int.tmod (IntKind.i64.wrap ai3) 5))), .int .i64 0, .str ⟨#[]⟩, .sl 5 [.agg [.int .i64 2, .int .i64 0, .str ⟨#[120]⟩, .sl 5 [], .int .i64 0], .agg [.int .i64 2, .int .i64 0, .str ⟨#[121]⟩, .sl 5 [], .int .i64 0]], .int .i64 0]], .int .i64 0, .sl 8 [], .sl 8 [], .int .i64 0], .agg [.int .i64 2, .str ⟨#[]⟩, .str ⟨#[98]⟩, .sl 5 [], .int .i64 0, .sl 8 [], .sl 8 [], .int .i64 0]], .agg [.sl 1 [.str ⟨#[120]⟩, .str ⟨#[121]⟩], .sl 1 [], .sl 1 [], .sl 7 []]] fun o4 => uL 4 o4 fun l6 r5 => unNil r5 (G 28 [.int .i64 ai1, .int .i64 ai2, .bool false] fun o7 => uA o7 fun l9 r8 => uL 1 l9 fun l11 r10 => uL 1 r10 fun l13 r12 => uL 1 r12 fun l15 r14 => unNil r14 (unNil r8 (G 31 [.sl 4 l6, .agg [.sl 1 l11, .sl 1 l13, .sl 1 l15], .int .i64 0, .int .i64 100] fun o16 => uA o16 fun l18 r17 => uI .i64 l18 fun n20 r19 => uL 1 r19 fun l22 r21 => uL 2 r21 fun l24 r23 => uL 4 r23 fun l26 r25 => uI .i64 r25 fun n28 r27 => uI .i64 r27 fun n30 r29 => unNil r29 (unNil r17 (G 28 [.int .i64 ai1, .int .i64 ai2, .bool false] fun o31 => uA o31 fun l33 r32 => uL 1 l33 fun l35 r34 => uL 1 r34 fun l37 r36 => uL 1 r36 fun l39 r38 => unNil r38 (unNil r32 (G 32 [.sl 4 l6, .agg [.sl 1 l35, .sl 1 l37, .sl 1 l39], .int .i64 0, .int .i64 100] fun o40 => uA o40 fun l42 r41 => uI .i64 l42 fun n44 r43 => uL 1 r43 fun l46 r45 => uL 2 r45 fun l48 r47 => uL 4 r47 fun l50 r49 => uI .i64 r49 fun n52 r51 => uI .i64 r51 fun n54 r53 => unNil r53 (unNil r41 (G 30 [.agg [.int .i64 n20, .sl 1 l22, .sl 2 l24, .sl 4 l26, .int .i64 n28, .int .i64 n30], .agg [.int .i64 n44, .sl 1 l46, .sl 2 l48, .sl 4 l50, .int .i64 n52, .int .i64 n54]] fun o55 => uB o55 fun b57 r56 => unNil r56 (bif (!b57) then (K [.bool false]) else (bif (decide ((l24.length : Int) < 1)) then (K [.bool false]) else (bif (decide (0 < (l24.length : Int))) then (nthK l24 0 fun e58 => ca2 e58 fun c59 c60 => V.asStr c59 fun s61 => bif (!(ByteArray.toList s61 == ByteArray.toList ⟨#[97]⟩)) then (K [.bool false]) else (bif ((l22.length : Int) != 2) then (K [.bool false]) else (bif (decide (1 < (l22.length : Int))) then (nthK l22 1 fun e62 => aI .i64 e62 fun n63 => bif (n63 != ai2) then (K [.bool false]) else (bif ((n30 == 0) == ((l24.length : Int) == 2)) then (bif (n30 == 0) then (G 26 [] fun o64 => uB o64 fun b66 r65 => unNil r65 (K [.bool b66])) else (bif (decide (0 < (l22.length : Int))) then (nthK l22 0 fun e67 => aI .i64 e67 fun n68 => bif (n68 == ai1) then (bif (n28 == 5) then (G 26 [] fun o69 => uB o69 fun b71 r70 => unNil r70 (K [.bool b71])) else (K [.bool false])) else (K [.bool false])) else none)) else (K [.bool false]))) else none))) else none)))))))))))))
theorem f12_is {R : Type} (G : ORC R) (k : Nat) (K : List V → Option R) (ai1 ai2 ai3 : Int) :
    callF (TAB.env 12) G (L12 G k) Try.f12 S12 [.int .i64 ai1, .int .i64 ai2, .int .u8 ai3] K = f12 G k ai1 ai2 ai3 K := by kernel_rfl
theorem lo12 : loopsOf (bodyOf Try.f12) = [] := by kernel_rfl
theorem la12 {R : Type} (G : ORC R) (k : Nat) : LoopsAre (TAB.env 12) G (L12 G k) (bodyOf Try.f12) :=
  loopsAre_of (by rw [lo12]; intro p hp; cases hp)
def g12 {R : Type} (G : ORC R) (k : Nat) (args : List V) (K : List V → Option R) : Option R := match args with
  | [.int .i64 ai1, .int .i64 ai2, .int .u8 ai3] => f12 G k ai1 ai2 ai3 K
  | _ => none
theorem s12 {R : Type} {G : ORC R} {k : Nat} (hG : Sound Try.prog TAB G) (args : List V) (K : List V → Option R) (r : R) (h : g12 G k args K = some r) : ∃ o, CallOK Try.prog TAB.env 12 args o ∧ K o = some r := by
  unfold g12 at h
  split at h
  · rw [← f12_is] at h
    exact callF_sound (f := 12) TAB_chk MO hG Try.func12 (sg := S12) (by kernel_rfl) (by kernel_rfl) (la12 G k) h
  · cases h
open Go
open Go Go.RowKit
def InR (x : Int) : Prop := -9223372036854775808 ≤ x ∧ x ≤ 9223372036854775807
instance (x : Int) : Decidable (InR x) := by unfold InR; infer_instance
theorem wrap_in {x : Int} (h : InR x) : wrap64 x = x := by unfold InR at h; unfold wrap64; omega
theorem in_wrap (x : Int) : InR (wrap64 x) := by unfold InR wrap64; omega
theorem wrap_toNat (b : BitVec 64) : IntKind.i64.wrap (b.toNat : Int) = b.toInt := by
  rw [IntKind.wrap_i64, BitVec.toInt_eq_toNat_cond]
  have := b.isLt
  split <;> omega
theorem msb_ofInt {x : Int} (h : InR x) : (BitVec.ofInt 64 x).msb = decide (x < 0) := by
  unfold InR at h
  have e : (BitVec.ofInt 64 x).toInt = x := by
    rw [BitVec.toInt_ofInt]
    exact Int.bmod_eq_of_le (by omega) (by omega)
  rw [BitVec.msb_eq_toInt, e]
theorem and_xor_neg {a b c d : Int} (ha : InR a) (hb : InR b) (hc : InR c) (hd : InR d) :
    (bits .and .i64 (bits .xor .i64 a b) (bits .xor .i64 c d) < 0) ↔ ((a < 0) ≠ (b < 0) ∧ (c < 0) ≠ (d < 0)) := by
  have key : ∀ x y : Int, (bits .xor .i64 x y) = (BitVec.ofInt 64 x ^^^ BitVec.ofInt 64 y).toInt := fun x y => wrap_toNat _
  have key2 : ∀ x y : Int, (bits .and .i64 x y) = (BitVec.ofInt 64 x &&& BitVec.ofInt 64 y).toInt := fun x y => wrap_toNat _
  rw [key, key, key2, BitVec.ofInt_toInt, BitVec.ofInt_toInt]
  rw [show ∀ z : BitVec 64, (z.toInt < 0) ↔ z.msb = true from fun z => by rw [BitVec.msb_eq_toInt]; simp]
  rw [BitVec.msb_and, BitVec.msb_xor, BitVec.msb_xor, msb_ofInt ha, msb_ofInt hb, msb_ofInt hc, msb_ofInt hd]
  by_cases a < 0 <;> by_cases b < 0 <;> by_cases c < 0 <;> by_cases d < 0 <;> simp [*]
theorem add_test {a b : Int} (ha : InR a) (hb : InR b) :
    (bits .and .i64 (bits .xor .i64 a (wrap64 (a + b))) (bits .xor .i64 b (wrap64 (a + b))) < 0) ↔ ¬ InR (a + b) := by
  rw [and_xor_neg ha (in_wrap _) hb (in_wrap _)]
  unfold InR wrap64 at *
  constructor
  · intro ⟨h1, h2⟩ h3
    have h1' : ¬ (a < 0 ↔ (a + b + 9223372036854775808) % 18446744073709551616 - 9223372036854775808 < 0) := fun h => h1 (propext h)
    have h2' : ¬ (b < 0 ↔ (a + b + 9223372036854775808) % 18446744073709551616 - 9223372036854775808 < 0) := fun h => h2 (propext h)
    omega
  · intro h
    refine ⟨fun h1 => ?_, fun h1 => ?_⟩ <;> (have h1 := Iff.of_eq h1; omega)
theorem sub_test {a b : Int} (ha : InR a) (hb : InR b) :
    (bits .and .i64 (bits .xor .i64 a b) (bits .xor .i64 a (wrap64 (a - b))) < 0) ↔ ¬ InR (a - b) := by
  rw [and_xor_neg ha hb ha (in_wrap _)]
  unfold InR wrap64 at *
  constructor
  · intro ⟨h1, h2⟩ h3
    have h1' : ¬ (a < 0 ↔ b < 0) := fun h => h1 (propext h)
    have h2' : ¬ (a < 0 ↔ (a - b + 9223372036854775808) % 18446744073709551616 - 9223372036854775808 < 0) := fun h => h2 (propext h)
    omega
  · intro h
    refine ⟨fun h1 => ?_, fun h1 => ?_⟩ <;> (have h1 := Iff.of_eq h1; omega)
theorem tmod_bd (c : Int) {b : Int} (hb0 : b ≠ 0) : (b.natAbs : Int) > c.tmod b ∧ -(b.natAbs : Int) < c.tmod b := by
  have h : (c.tmod b).natAbs < b.natAbs := by
    rw [Int.natAbs_tmod]; exact Nat.mod_lt _ (by omega)
  omega
theorem tdiv_bd (c : Int) {b : Int} : (c.tdiv b).natAbs ≤ c.natAbs := by
  rw [Int.natAbs_tdiv]; exact Nat.div_le_self _ _
theorem mul_test {a b : Int} (ha : InR a) (hb : InR b) (hb0 : b ≠ 0) (h1 : ¬(b = -1 ∧ a = -9223372036854775808)) :
    wrap64 (Int.tdiv (wrap64 (a * b)) b) = a ↔ InR (a * b) := by
  constructor
  · intro h
    by_cases e : b = -1
    · subst e; unfold InR at *; omega
    · have hq := Int.mul_tdiv_add_tmod (wrap64 (a * b)) b
      have hm := tmod_bd (wrap64 (a * b)) hb0
      have hc := in_wrap (a * b)
      have hd := tdiv_bd (wrap64 (a * b)) (b := b)
      generalize hC : wrap64 (a * b) = c at *
      have hwc : (c - a * b) % 18446744073709551616 = 0 := by rw [← hC]; unfold wrap64; omega
      have hqr : InR (c.tdiv b) := by
        by_cases e1 : b = 1
        · subst e1; simpa using hc
        · -- |b| ≥ 2
          have h2 : (c.tdiv b).natAbs ≤ c.natAbs / 2 := by
            rw [Int.natAbs_tdiv]; exact Nat.div_le_div_left (by omega) (by omega)
          unfold InR at *; omega
      rw [wrap_in hqr] at h
      rw [h] at hq
      have : b * a = a * b := Int.mul_comm _ _
      rw [this] at hq
      generalize a * b = p at *
      have hp : p = c := by unfold InR at *; omega
      rw [hp]; exact hc
  · intro h
    rw [wrap_in h, Int.mul_tdiv_cancel _ hb0, wrap_in ha]
set_option linter.unusedSimpArgs false
set_option maxHeartbeats 8000000
section
variable {R : Type} {G : ORC R} {k : Nat} {K : List V → Option R}
def over (n : Int) : Int × Int := if InR n then (n, 0) else (0, 2)
def divR (a b : Int) : Int × Int := if b = 0 then (0, 3) else if b = -1 ∧ a = -9223372036854775808 then (0, 2) else (Int.tdiv a b, 0)
def modR (a b : Int) : Int × Int := if b = 0 then (0, 3) else if b = -1 then (0, 0) else (Int.tmod a b, 0)
def TwoX (f : FuncId) (F : Int → Int → Int × Int) (G : ORC R) : Prop := ∀ (a b : Int) (K : List V → Option R), InR a → InR b → W (fun o => o = [.int .i64 (F a b).1, .int .i64 (F a b).2]) K (G f [.int .i64 a, .int .i64 b] K)
def OneX (f : FuncId) (G : ORC R) : Prop := ∀ (a : Int) (K : List V → Option R), InR a → W (fun o => o = [.int .i64 (over (0 - a)).1, .int .i64 (over (0 - a)).2]) K (G f [.int .i64 a] K)
theorem wrap_w (x : Int) : IntKind.i64.wrap x = Go.RowKit.wrap64 x := by rw [IntKind.wrap_i64]; rfl
theorem over_in {n : Int} (h : InR n) : over n = (n, 0) := if_pos h
theorem over_out {n : Int} (h : ¬ InR n) : over n = (0, 2) := if_neg h
theorem nadd_ok : TwoX 95 (fun a b => over (a + b)) (fun _ args (K : List V → Option R) => g95 G k args K) := by
  intro a b K ha hb
  show W _ K (f95 G k a b K)
  unfold f95
  simp only [wrap_w]
  refine W_dec (fun h => W_ret ?_) (fun h => W_ret ?_)
  · have := (add_test ha hb).1 h
    rw [over_out this]
  · have : InR (a + b) := Decidable.byContradiction fun c => h ((add_test ha hb).2 c)
    rw [over_in this, wrap_in this]
theorem nsub_ok : TwoX 90 (fun a b => over (a - b)) (fun _ args (K : List V → Option R) => g90 G k args K) := by
  intro a b K ha hb
  show W _ K (f90 G k a b K)
  unfold f90
  simp only [wrap_w]
  refine W_dec (fun h => W_ret ?_) (fun h => W_ret ?_)
  · have := (sub_test ha hb).1 h
    rw [over_out this]
  · have : InR (a - b) := Decidable.byContradiction fun c => h ((sub_test ha hb).2 c)
    rw [over_in this, wrap_in this]
theorem nneg_ok (hS : TwoX 90 (fun a b => over (a - b)) G) : OneX 71 (fun _ args (K : List V → Option R) => g71 G k args K) := by
  intro a K ha
  show W _ K (f71 G k a K)
  unfold f71
  unfold TwoX at hS
  refine W_call (hS _ _ _ (by unfold InR; omega) ha) ?_
  rintro _ rfl
  (repeat(with_reducible apply U1))
  exact W_ret rfl
theorem rneg_ok (hS : TwoX 96 (fun a b => over (a - b)) G) : OneX 80 (fun _ args (K : List V → Option R) => g80 G k args K) := by
  intro a K ha
  show W _ K (f80 G k a K)
  unfold f80
  unfold TwoX at hS
  refine W_call (hS _ _ _ (by unfold InR; omega) ha) ?_
  rintro _ rfl
  (repeat(with_reducible apply U1))
  exact W_ret rfl
theorem radd_ok : TwoX 100 (fun a b => over (a + b)) (fun _ args (K : List V → Option R) => g100 G k args K) := by
  intro a b K ha hb
  show W _ K (f100 G k a b K)
  unfold f100
  have yes : InR (a + b) → W (fun o => o = [V.int .i64 (over (a + b)).1, V.int .i64 (over (a + b)).2]) K (K [.int .i64 (IntKind.i64.wrap (a + b)), .int .i64 0]) := fun h => W_ret (by rw [over_in h, wrap_w, wrap_in h])
  have no : ¬ InR (a + b) → W (fun o => o = [V.int .i64 (over (a + b)).1, V.int .i64 (over (a + b)).2]) K (K [.int .i64 0, .int .i64 2]) := fun h => W_ret (by rw [over_out h])
  unfold InR at *
  refine W_dec (fun h => ?_) (fun h => ?_)
  · rw [wrap_id (n := 9223372036854775807 - b) (by omega)]
    refine W_dec (fun h1 => no (by omega)) (fun h1 => W_no (by omega) (yes (by omega)))
  · refine W_dec (fun h1 => ?_) (fun h1 => yes (by omega))
    rw [wrap_id (n := -9223372036854775808 - b) (by omega)]
    exact W_dec (fun h2 => no (by omega)) (fun h2 => yes (by omega))
theorem rsub_ok : TwoX 96 (fun a b => over (a - b)) (fun _ args (K : List V → Option R) => g96 G k args K) := by
  intro a b K ha hb
  show W _ K (f96 G k a b K)
  unfold f96
  have yes : InR (a - b) → W (fun o => o = [V.int .i64 (over (a - b)).1, V.int .i64 (over (a - b)).2]) K (K [.int .i64 (IntKind.i64.wrap (a - b)), .int .i64 0]) := fun h => W_ret (by rw [over_in h, wrap_w, wrap_in h])
  have no : ¬ InR (a - b) → W (fun o => o = [V.int .i64 (over (a - b)).1, V.int .i64 (over (a - b)).2]) K (K [.int .i64 0, .int .i64 2]) := fun h => W_ret (by rw [over_out h])
  unfold InR at *
  refine W_dec (fun h => ?_) (fun h => ?_)
  · rw [wrap_id (n := 9223372036854775807 + b) (by omega)]
    refine W_dec (fun h1 => no (by omega)) (fun h1 => W_no (by omega) (yes (by omega)))
  · refine W_dec (fun h1 => ?_) (fun h1 => yes (by omega))
    rw [wrap_id (n := -9223372036854775808 + b) (by omega)]
    exact W_dec (fun h2 => no (by omega)) (fun h2 => yes (by omega))
theorem nmul_ok : TwoX 92 (fun a b => over (a * b)) (fun _ args (K : List V → Option R) => g92 G k args K) := by
  intro a b K ha hb
  show W _ K (f92 G k a b K)
  unfold f92
  refine W_beqI (fun h => W_ret ?_) (fun h => ?_)
  · subst h; show _ = [V.int .i64 (over (0 * b)).1, V.int .i64 (over (0 * b)).2]; rw [Int.zero_mul]; rfl
  refine W_beqI (fun h' => W_ret ?_) (fun h' => ?_)
  · subst h'; show _ = [V.int .i64 (over (a * 0)).1, V.int .i64 (over (a * 0)).2]; rw [Int.mul_zero]; rfl
  have fin : ¬ (b = -1 ∧ a = -9223372036854775808) → W (fun o => o = [V.int .i64 (over (a * b)).1, V.int .i64 (over (a * b)).2]) K (bif (!(b == 0)) then (bif ((IntKind.i64.wrap (Int.tdiv (IntKind.i64.wrap (a * b)) b)) != a) then (K [(.int .i64 0), (.int .i64 2)]) else (K [(.int .i64 (IntKind.i64.wrap (a * b))), (.int .i64 0)])) else none) := fun h1 => by
    refine W_not (W_eqN h' ?_)
    simp only [wrap_w]
    have t := mul_test ha hb h' h1
    by_cases e : InR (a * b)
    · refine W_chk' (by rw [t.2 e]; simp) (W_ret ?_)
      rw [over_in e, wrap_in e]
    · refine W_chk (by simp only [bne_iff_ne, ne_eq]; exact fun c => e (t.1 c)) (W_ret ?_)
      rw [over_out e]
  refine W_beqI (fun e1 => ?_) (fun e1 => ?_)
  · refine W_beqI (fun e2 => W_ret ?_) (fun e2 => ?_)
    · subst e1; subst e2; rfl
    · refine W_beqI (fun e3 => ?_) (fun e3 => fin (fun h => e3 h.1))
      exact W_beqI (fun e4 => by omega) (fun e4 => fin (fun h => e4 h.2))
  · refine W_beqI (fun e3 => ?_) (fun e3 => fin (fun h => e3 h.1))
    refine W_beqI (fun e4 => W_ret ?_) (fun e4 => fin (fun h => e4 h.2))
    subst e3; subst e4; rfl
theorem rmul_ok : TwoX 97 (fun a b => over (a * b)) (fun _ args (K : List V → Option R) => g97 G k args K) := by
  have h := nmul_ok (G := G) (k := k)
  unfold TwoX at h ⊢
  exact h
theorem tdiv_in {a b : Int} (ha : InR a) (h0 : b ≠ 0) (h1 : ¬ (b = -1 ∧ a = -9223372036854775808)) : InR (Int.tdiv a b) := by
  by_cases e1 : b = 1
  · subst e1; simpa using ha
  by_cases e2 : b = -1
  · subst e2
    have : Int.tdiv a (-1) = -a := by rw [Int.tdiv_neg]; simp
    rw [this]; unfold InR at *; omega
  · have h2 : (a.tdiv b).natAbs ≤ a.natAbs / 2 := by
      rw [Int.natAbs_tdiv]; exact Nat.div_le_div_left (by omega) (by omega)
    unfold InR at *; omega
theorem ndiv_ok (hN : OneX 71 G) : TwoX 93 divR (fun _ args (K : List V → Option R) => g93 G k args K) := by
  intro a b K ha hb
  show W _ K (f93 G k a b K)
  unfold f93
  refine W_beqI (fun h => W_ret ?_) (fun h => ?_)
  · rw [divR, if_pos h]
  refine W_beqI (fun h1 => ?_) (fun h1 => ?_)
  · unfold OneX at hN
    refine W_call (hN _ _ ha) ?_
    rintro _ rfl
    (repeat(with_reducible apply U1))
    refine W_ret ?_
    subst h1
    by_cases h2 : a = -9223372036854775808
    · subst h2; rfl
    · have : InR (0 - a) := by unfold InR at *; omega
      rw [over_in this, divR, if_neg h, if_neg (fun c => h2 c.2), Int.tdiv_neg, Int.tdiv_one]; simp
  · refine W_not (W_eqN h (W_ret ?_))
    have h2 : ¬ (b = -1 ∧ a = -9223372036854775808) := fun c => h1 c.1
    rw [divR, if_neg h, if_neg h2, wrap_w, wrap_in (tdiv_in ha h h2)]
theorem rdiv_ok : TwoX 98 divR (fun _ args (K : List V → Option R) => g98 G k args K) := by
  intro a b K ha hb
  show W _ K (f98 G k a b K)
  unfold f98
  have fin : b ≠ 0 → ¬ (b = -1 ∧ a = -9223372036854775808) → W (fun o => o = [V.int .i64 (divR a b).1, V.int .i64 (divR a b).2]) K (bif (!(b == 0)) then (K [(.int .i64 (IntKind.i64.wrap (Int.tdiv a b))), (.int .i64 0)]) else none) := fun h h2 => by
    refine W_not (W_eqN h (W_ret ?_))
    rw [divR, if_neg h, if_neg h2, wrap_w, wrap_in (tdiv_in ha h h2)]
  refine W_beqI (fun h => W_ret ?_) (fun h => ?_)
  · rw [divR, if_pos h]
  refine W_beqI (fun h1 => ?_) (fun h1 => fin h (fun c => h1 c.1))
  refine W_beqI (fun h2 => W_ret ?_) (fun h2 => fin h (fun c => h2 c.2))
  rw [divR, if_neg h, if_pos ⟨h1, h2⟩]
theorem nmod_ok : TwoX 94 modR (fun _ args (K : List V → Option R) => g94 G k args K) := by
  intro a b K ha hb
  show W _ K (f94 G k a b K)
  unfold f94
  refine W_beqI (fun h => W_ret ?_) (fun h => ?_)
  · rw [modR, if_pos h]
  refine W_beqI (fun h1 => W_ret ?_) (fun h1 => ?_)
  · rw [modR, if_neg h, if_pos h1]
  · exact W_not (W_eqN h (W_ret (by rw [modR, if_neg h, if_neg h1])))
theorem rmod_ok : TwoX 99 modR (fun _ args (K : List V → Option R) => g99 G k args K) := by
  have h := nmod_ok (G := G) (k := k)
  unfold TwoX at h ⊢
  exact h
end
set_option maxHeartbeats 4000000
section
variable {R : Type} {G : ORC R} {k : Nat} {K : List V → Option R}
end
set_option maxHeartbeats 8000000
section
variable {R : Type} {G : ORC R} {k : Nat} {K : List V → Option R}
def NamesNE (l : List Nd) : Prop := (∀ n, l[0]? = some n → n.name.toList = []) ∧ ∀ (j : Nat) n, l[j]? = some n → 0 < j → n.name.toList ≠ []
end
section
variable {R : Type} {G : ORC R} {k : Nat} {K : List V → Option R}
def ins (op a n : Int) : V := .agg [.int .i64 op, .int .i64 a, .int .i64 n, .str ⟨#[]⟩]
def insS (op a n : Int) (s : ByteArray) : V := .agg [.int .i64 op, .int .i64 a, .int .i64 n, .str s]
structure Nms where
  a : List V
  p : List V
  t : List V
  nd : List Nd
def Nms.v (N : Nms) : V := .agg [.sl 1 N.a, .sl 1 N.p, .sl 1 N.t, .sl 7 (N.nd.map Nd.v)]
def Nms.ok (N : Nms) : Prop := StrsS 100 N.a ∧ StrsS 100 N.p ∧ StrsS 100 N.t ∧ N.nd.length ≤ 1000 ∧ NamesNE N.nd
end
set_option maxHeartbeats 16000000
section
variable {R : Type} {G : ORC R} {k : Nat} {K : List V → Option R}
def iv (l : List Int) : List V := l.map (.int .i64)
theorem iv_snoc {l : List Int} {x : Int} : iv (l ++ [x]) = iv l ++ [.int .i64 x] := by simp [iv]
theorem iv_len {l : List Int} : (iv l).length = l.length := by simp [iv]
theorem iv_set {l : List Int} {i : Nat} {x : Int} : (iv l).set i (.int .i64 x) = iv (l.set i x) := by simp [iv, List.map_set]
theorem iv_get {l : List Int} {i : Nat} {x : Int} (h : l[i]? = some x) : (iv l)[i]? = some (.int .i64 x) := by simp [iv, h]
def tr (b : Bool) : Int := if b then 1 else 0
def twoR (op x y : Int) : Int × Int :=
  if op = 7 then over (x * y) else if op = 8 then divR x y else if op = 9 then modR x y else if op = 10 then over (x + y) else if op = 11 then over (x - y)
  else if op = 12 then (tr (decide (x < y)), 0) else if op = 13 then (tr (decide (x ≤ y)), 0) else if op = 14 then (tr (decide (x > y)), 0) else if op = 15 then (tr (decide (x ≥ y)), 0) else if op = 16 then (tr (x == y), 0) else (tr (x != y), 0)
def cfOf (b : Bool) : List Int := [0, if b then 2 else 1]
def loOf (b : Bool) : Int := if b then 5 else 3
structure St where
  pc : Int
  row : List Int
  rnd : List Int
  vs : List Int
  ra : List V
  ef : List V
inductive Stp (b : Bool) (g : Int) : Int → Int → Int → ByteArray → St → Int → St → Prop
  | push {a n s p l r v ra ef} : InR n → Stp b g 1 a n s ⟨p, l, r, v, ra, ef⟩ 0 ⟨p + 1, l ++ [n], r, v, ra, ef⟩
  | load {i : Nat} {n s p l r v ra ef x} : v[i]? = some x → Stp b g 2 i n s ⟨p, l, r, v, ra, ef⟩ 0 ⟨p + 1, l ++ [x], r, v, ra, ef⟩
  | arg {a n s p l r v ra ef} : Stp b g 3 a n s ⟨p, l, r, v, ra, ef⟩ 0 ⟨p + 1, l ++ [g], r, v, ra, ef⟩
  | inn {a n s p l r v ra ef} : Stp b g 4 a n s ⟨p, l, r, v, ra, ef⟩ 0 ⟨p + 1, l ++ [tr (decide (a ∈ cfOf b))], r, v, ra, ef⟩
  | neg {a n s p l r v ra ef x} : InR x → Stp b g 5 a n s ⟨p, l ++ [x], r, v, ra, ef⟩ (over (0 - x)).2 ⟨p + 1, l ++ [(over (0 - x)).1], r, v, ra, ef⟩
  | not {a n s p l r v ra ef x} : Stp b g 6 a n s ⟨p, l ++ [x], r, v, ra, ef⟩ 0 ⟨p + 1, l ++ [tr (x == 0)], r, v, ra, ef⟩
  | two {op a n s p l r v ra ef x y} : 7 ≤ op → op ≤ 17 → InR x → InR y → Stp b g op a n s ⟨p, l ++ [x] ++ [y], r, v, ra, ef⟩ (twoR op x y).2 ⟨p + 1, l ++ [(twoR op x y).1], r, v, ra, ef⟩
  | store {i : Nat} {n s p l r v ra ef x} : i < v.length → Stp b g 18 i n s ⟨p, l ++ [x], r, v, ra, ef⟩ 0 ⟨p + 1, l, r, v.set i x, ra, ef⟩
  | raise {a n s p l r v ra ef x} : Stp b g 19 a n s ⟨p, l ++ [x], r, v, ra, ef⟩ 0 ⟨p + 1, l, r, v, ra ++ [.agg [.str s, .int .i64 x]], ef⟩
  | send {a n s p l r v ra ef x} : Stp b g 20 a n s ⟨p, l ++ [x], r, v, ra, ef⟩ 0 ⟨p + 1, l, r, v, ra, ef ++ [.agg [.int .i64 1, .int .i64 a, .str s, .int .i64 x]]⟩
  | arm {a n s p l r v ra ef x} : 1 ≤ x → x ≤ 65536 → Stp b g 21 a n s ⟨p, l ++ [x], r, v, ra, ef⟩ 0 ⟨p + 1, l, r, v, ra, ef ++ [.agg [.int .i64 2, .int .i64 a, .str ⟨#[]⟩, .int .i64 x]]⟩
  | armE {a n s p l r v ra ef x} : x < 1 ∨ x > 65536 → Stp b g 21 a n s ⟨p, l ++ [x], r, v, ra, ef⟩ 1 ⟨p + 1, l, r, v, ra, ef⟩
  | cancel {a n s p l r v ra ef} : Stp b g 22 a n s ⟨p, l, r, v, ra, ef⟩ 0 ⟨p + 1, l, r, v, ra, ef ++ [.agg [.int .i64 3, .int .i64 a, .str ⟨#[]⟩, .int .i64 0]]⟩
  | jump {i n s p l r v ra ef} : Stp b g 23 i n s ⟨p, l, r, v, ra, ef⟩ 0 ⟨i, l, r, v, ra, ef⟩
  | fals {i n s p l r v ra ef x} : Stp b g 24 i n s ⟨p, l ++ [x], r, v, ra, ef⟩ 0 ⟨if x = 0 then i else p + 1, l, r, v, ra, ef⟩
  | loop {a n s p l r v ra ef} : Stp b g 25 a n s ⟨p, l, r, v, ra, ef⟩ 0 ⟨p + 1, l, r ++ [n], v, ra, ef⟩
  | next1 {i n s p l r v ra ef x} : 0 ≤ i → i ≤ 1000000 → 1 < x → x ≤ 1000000 → Stp b g 26 i n s ⟨p, l, r ++ [x], v, ra, ef⟩ 0 ⟨i + 1, l, r ++ [x - 1], v, ra, ef⟩
  | next0 {i n s p l r v ra ef x} : x ≤ 1 → -1000000 ≤ x → Stp b g 26 i n s ⟨p, l, r ++ [x], v, ra, ef⟩ 0 ⟨p + 1, l, r, v, ra, ef⟩
theorem stp_keeps {b g op a n s st e st'} (h : Stp b g op a n s st e st') (he : e ≠ 0) : st'.vs = st.vs ∧ st'.ra = st.ra ∧ st'.ef = st.ef := by
  cases h <;> first | exact ⟨rfl, rfl, rfl⟩ | exact absurd rfl he
theorem stp_len {b g op a n s st e st'} (h : Stp b g op a n s st e st') : st'.row.length ≤ st.row.length + 1 ∧ st'.rnd.length ≤ st.rnd.length + 1 ∧ st'.ra.length ≤ st.ra.length + 1 ∧ st'.ef.length ≤ st.ef.length + 1 := by
  cases h <;> simp <;> omega
theorem W_nthA {Q : List V → Prop} {v v' : V} {F : V → Option R} (h : W Q K (F v)) : W Q K (nthK [v, v'] (Int.toNat 0) F) := h
theorem W_nthB {Q : List V → Prop} {v v' : V} {F : V → Option R} (h : W Q K (F v')) : W Q K (nthK [v, v'] (Int.toNat 1) F) := h
def TrX (f : FuncId) (G : ORC R) : Prop := ∀ (b : Bool) (K : List V → Option R), W (fun o => o = [.int .i64 (tr b)]) K (G f [.bool b] K)
theorem ntr_ok : TrX 68 (fun _ args (K : List V → Option R) => g68 G k args K) := by
  intro b K
  show W _ K (f68 G k b K)
  unfold f68
  cases b <;> exact W_ret rfl
theorem rtr_ok : TrX 77 (fun _ args (K : List V → Option R) => g77 G k args K) := by
  intro b K
  show W _ K (f77 G k b K)
  unfold f77
  cases b <;> exact W_ret rfl
def inB (a : Int) : Bool := decide (0 ≤ a) && decide (a < 128)
def InX (G : ORC R) : Prop := ∀ (a : Int) (K : List V → Option R), W (fun o => o = [.bool (inB a)]) K (G 89 [.int .i64 a] K)
theorem inx_ok : InX (fun _ args (K : List V → Option R) => g89 G k args K) := by
  intro a K
  show W _ K (f89 G k a K)
  unfold f89
  refine W_dec (fun h => W_ret ?_) (fun h => W_ret ?_)
  · rw [inB, decide_eq_true h, Bool.true_and]
  · rw [inB, decide_eq_false (by omega), Bool.false_and]
def wiF (lo hi a : Int) : Int × Int :=
  if a < 64 then (bits .or .u64 lo (IntKind.u64.wrap (1 * 2 ^ (min (Int.toNat (Int.tmod a 64)) IntKind.u64.bits))), hi) else (lo, bits .or .u64 hi (IntKind.u64.wrap (1 * 2 ^ (min (Int.toNat (Int.tmod a 64)) IntKind.u64.bits))))
def WiX (G : ORC R) : Prop := ∀ (lo hi a : Int) (K : List V → Option R), W (fun o => o = [.agg [.int .u64 (if inB a then wiF lo hi a else (lo, hi)).1, .int .u64 (if inB a then wiF lo hi a else (lo, hi)).2]]) K (G 66 [.agg [.int .u64 lo, .int .u64 hi], .int .i64 a] K)
theorem wix_ok (hI : InX G) : WiX (fun _ args (K : List V → Option R) => g66 G k args K) := by
  intro lo hi a K
  show W _ K (f66 G k lo hi a K)
  unfold f66
  unfold InX at hI
  refine W_call (hI _ _) ?_
  rintro _ rfl
  (repeat(with_reducible apply U1))
  refine W_bool (fun h => ?_) (fun h => W_ret (by simp [h]))
  have hb : 0 ≤ a ∧ a < 128 := by simpa [inB] using h
  have e1 : Int.tdiv a 64 = a / 64 := Int.tdiv_eq_ediv_of_nonneg hb.1
  have e2 : Int.tmod a 64 = a % 64 := Int.tmod_eq_emod_of_nonneg hb.1
  simp only [h, if_true]
  unfold wiF
  have c0 : ((0 : Nat) == Int.toNat 0) = true := rfl
  have c1 : ((1 : Nat) == Int.toNat 0) = false := rfl
  have c2 : ((0 : Nat) == Int.toNat 1) = false := rfl
  have c3 : ((1 : Nat) == Int.toNat 1) = true := rfl
  by_cases h64 : a < 64
  · have e3 : IntKind.i64.wrap (Int.tdiv a 64) = 0 := by rw [e1, wrap_id (by omega)]; omega
    rw [e3, if_pos h64]
    simp only [c0, c1, cond_true, cond_false]
    refine W_and (W_yes (by omega) (W_yes (by omega) (W_nthA (W_yes (by omega) ?_))))
    refine W_aI (W_and (W_yes (by omega) (W_yes (by omega) (W_aI (W_aI (W_ret rfl))))))
  · have e3 : IntKind.i64.wrap (Int.tdiv a 64) = 1 := by rw [e1, wrap_id (by omega)]; omega
    rw [e3, if_neg h64]
    simp only [c2, c3, cond_true, cond_false]
    refine W_and (W_yes (by omega) (W_yes (by omega) (W_nthB (W_yes (by omega) ?_))))
    refine W_aI (W_and (W_yes (by omega) (W_yes (by omega) (W_aI (W_aI (W_ret rfl))))))
def HasX (G : ORC R) : Prop := ∀ (b : Bool) (a : Int) (K : List V → Option R), W (fun o => o = [.bool (decide (a ∈ cfOf b))]) K (G 69 [.agg [.int .u64 (loOf b), .int .u64 0], .int .i64 a] K)
theorem has_all : ∀ b : Bool, ∀ i : Fin 128, (((wiF (loOf b) 0 (i.val : Int)).1 == loOf b) && (((wiF (loOf b) 0 (i.val : Int)).2 == 0) && true)) = decide ((i.val : Int) ∈ cfOf b) := by decide +kernel
theorem cf_in {b : Bool} {a : Int} (h : a ∈ cfOf b) : 0 ≤ a ∧ a < 128 := by
  unfold cfOf at h; cases b <;> simp at h <;> omega
theorem hasx_ok (hW : WiX G) (hI : InX G) : HasX (fun _ args (K : List V → Option R) => g69 G k args K) := by
  intro b a K
  show W _ K (f69 G k (loOf b) 0 a K)
  unfold f69
  unfold WiX at hW; unfold InX at hI
  refine W_call (hW _ _ _ _) ?_
  rintro _ rfl
  (repeat(with_reducible apply U1))
  by_cases h : inB a = true
  · have hb : 0 ≤ a ∧ a < 128 := by simpa [inB] using h
    obtain ⟨i, rfl⟩ : ∃ i : Nat, a = i := ⟨a.toNat, by omega⟩
    have e := has_all b ⟨i, by omega⟩
    simp only [h, if_true]
    refine W_bool (fun h1 => ?_) (fun h1 => W_ret ?_)
    · refine W_call (hI _ _) ?_
      rintro _ rfl
      (repeat(with_reducible apply U1))
      refine W_ret ?_
      rw [h, ← e, h1]
    · rw [← e, h1]
  · have h' : inB a = false := by simpa using h
    have hn : decide (a ∈ cfOf b) = false := decide_eq_false fun c => by have := cf_in c; simp [inB] at h'; omega
    simp only [h', if_false, Bool.false_eq_true]
    rw [hn]
    refine W_chk (by simp) ?_
    refine W_call (hI _ _) ?_
    rintro _ rfl
    (repeat(with_reducible apply U1))
    exact W_ret (by rw [h'])
def RHasX (G : ORC R) : Prop := ∀ (b : Bool) (a : Int) (K : List V → Option R), W (fun o => o = [.bool (decide (a ∈ cfOf b))]) K (G 78 [.sl 1 (iv (cfOf b)), .int .i64 a] K)
theorem rhasx_ok (hk : 1000 ≤ k) : RHasX (fun _ args (K : List V → Option R) => g78 G k args K) := by
  intro b a K
  show W _ K (f78 G k (iv (cfOf b)) a K)
  unfold f78 l78_0
  obtain ⟨j, rfl⟩ : ∃ j, k = j + 3 := ⟨k - 3, by omega⟩
  show W _ K (b78_0 G (j + 3) (l78_0g G (j + 3) _ _ (j + 2)) _ _ (iv (cfOf b)) a 0)
  have hl : (iv (cfOf b)).length = 2 := by rw [iv_len]; rfl
  have w1 : IntKind.i64.wrap (0 + 1) = 1 := rfl
  have w2 : IntKind.i64.wrap (1 + 1) = 2 := rfl
  unfold b78_0
  refine W_yes (by omega) (W_at (v := .int .i64 0) (by omega) rfl (W_aI (W_beqI (fun h => W_ret ?_) (fun h => ?_))))
  · rw [decide_eq_true]; subst h; simp [cfOf]
  rw [w1]
  show W _ K (b78_0 G (j + 3) (l78_0g G (j + 3) _ _ (j + 1)) _ _ (iv (cfOf b)) a 1)
  unfold b78_0
  refine W_yes (by omega) (W_at (v := .int .i64 (if b then 2 else 1)) (by omega) rfl (W_aI (W_beqI (fun h2 => W_ret ?_) (fun h2 => ?_))))
  · rw [decide_eq_true]; rw [← h2]; simp [cfOf]
  rw [w2]
  show W _ K (b78_0 G (j + 3) (l78_0g G (j + 3) _ _ j) _ _ (iv (cfOf b)) a 2)
  unfold b78_0
  refine W_no (by omega) (W_ret ?_)
  rw [decide_eq_false]
  intro c
  simp only [cfOf, List.mem_cons, List.not_mem_nil, or_false] at c
  rcases c with c | c
  · exact h c.symm
  · exact h2 c.symm
def OfX (G : ORC R) : Prop := ∀ (b : Bool) (K : List V → Option R), W (fun o => o = [.agg [.int .u64 (loOf b), .int .u64 0]]) K (G 44 [.sl 1 (iv (cfOf b))] K)
theorem ofx_ok (hk : 1000 ≤ k) (hW : WiX G) : OfX (fun _ args (K : List V → Option R) => g44 G k args K) := by
  intro b K
  show W _ K (f44 G k (iv (cfOf b)) K)
  unfold f44 l44_0
  unfold WiX at hW
  obtain ⟨j, rfl⟩ : ∃ j, k = j + 3 := ⟨k - 3, by omega⟩
  have hl : (iv (cfOf b)).length = 2 := by rw [iv_len]; rfl
  rw [hl]
  have w1 : IntKind.i64.wrap (0 + 1) = 1 := rfl
  have w2 : IntKind.i64.wrap (1 + 1) = 2 := rfl
  show W _ K (b44_0 G (j + 3) (l44_0g G (j + 3) _ (j + 2)) _ (iv (cfOf b)) _ 0 _ _ _ _)
  unfold b44_0
  refine W_yes (by omega) (W_at (v := .int .i64 0) (by omega) rfl (W_aI ?_))
  refine W_call (hW _ _ _ _) ?_
  rintro _ rfl
  (repeat(with_reducible apply U1))
  rw [w1]
  show W _ K (b44_0 G (j + 3) (l44_0g G (j + 3) _ (j + 1)) _ (iv (cfOf b)) _ 1 _ _ _ _)
  unfold b44_0
  refine W_yes (by omega) (W_at (v := .int .i64 (if b then 2 else 1)) (by omega) rfl (W_aI ?_))
  refine W_call (hW _ _ _ _) ?_
  rintro _ rfl
  (repeat(with_reducible apply U1))
  rw [w2]
  show W _ K (b44_0 G (j + 3) (l44_0g G (j + 3) _ j) _ (iv (cfOf b)) _ 2 _ _ _ _)
  unfold b44_0
  refine W_no (by omega) (W_ret ?_)
  cases b <;> kernel_rfl
def SureX (G : ORC R) : Prop := ∀ (n e : Int) (K : List V → Option R), W (fun o => o = if e = 0 then [.bool false, .int .i64 0, .int .i64 n] else [.bool true, .int .i64 e, .int .i64 0]) K (G 70 [.int .i64 n, .int .i64 e] K)
theorem sure_ok : SureX (fun _ args (K : List V → Option R) => g70 G k args K) := by
  intro n e K
  show W _ K (f70 G k n e K)
  unfold f70
  refine W_bool (fun h => W_ret ?_) (fun h => W_ret ?_)
  · rw [if_neg (by simpa using h)]
  · rw [if_pos (by simpa using h)]
def PairX (G : ORC R) : Prop := ∀ (op x y : Int) (K : List V → Option R), 7 ≤ op → op ≤ 17 → InR x → InR y → W (fun o => o = if (twoR op x y).2 = 0 then [.bool false, .int .i64 0, .int .i64 (twoR op x y).1] else [.bool true, .int .i64 (twoR op x y).2, .int .i64 0]) K (G 75 [.int .i64 op, .int .i64 x, .int .i64 y] K)
def RTwoX (G : ORC R) : Prop := ∀ (op x y : Int) (K : List V → Option R), 7 ≤ op → op ≤ 17 → InR x → InR y → W (fun o => o = [.int .i64 (twoR op x y).1, .int .i64 (twoR op x y).2]) K (G 81 [.int .i64 op, .int .i64 x, .int .i64 y] K)
theorem pair_ok (hM : TwoX 92 (fun a b => over (a * b)) G) (hD : TwoX 93 divR G) (hMo : TwoX 94 modR G) (hA : TwoX 95 (fun a b => over (a + b)) G) (hSu : TwoX 90 (fun a b => over (a - b)) G) (hS : SureX G) (hT : TrX 68 G) : PairX (fun _ args (K : List V → Option R) => g75 G k args K) := by
  intro op x y K h1 h2 hx hy
  show W _ K (f75 G k op x y K)
  unfold TwoX at hM hD hMo hA hSu; unfold SureX at hS; unfold TrX at hT
  have num : ∀ (f : FuncId) (F : Int → Int → Int × Int), (∀ (a b : Int) (K : List V → Option R), InR a → InR b → W (fun o => o = [.int .i64 (F a b).1, .int .i64 (F a b).2]) K (G f [.int .i64 a, .int .i64 b] K)) → twoR op x y = F x y →
      W (fun o => o = if (twoR op x y).2 = 0 then [.bool false, .int .i64 0, .int .i64 (twoR op x y).1] else [.bool true, .int .i64 (twoR op x y).2, .int .i64 0]) K (G f [.int .i64 x, .int .i64 y] fun o4 => (uI .i64 o4 fun n6 r5 => (uI .i64 r5 fun n8 r7 => (unNil r7 (G 70 [(.int .i64 n6), (.int .i64 n8)] fun o9 => (uB o9 fun b11 r10 => (uI .i64 r10 fun n13 r12 => (uI .i64 r12 fun n15 r14 => (unNil r14 (bif b11 then (K [(.bool true), (.int .i64 n13), (.int .i64 0)]) else (K [(.bool false), (.int .i64 0), (.int .i64 n15)]))))))))))) := fun f F hF he => by
    refine W_call (hF _ _ _ hx hy) ?_
    rintro _ rfl
    (repeat(with_reducible apply U1))
    rw [he]
    refine W_call (hS _ _ _) ?_
    rintro _ rfl
    by_cases e0 : (F x y).2 = 0
    · rw [if_pos e0]
      (repeat(with_reducible apply U1))
      exact W_ret rfl
    · rw [if_neg e0]
      (repeat(with_reducible apply U1))
      exact W_ret rfl
  have cmp : ∀ b : Bool, twoR op x y = (tr b, 0) → W (fun o => o = if (twoR op x y).2 = 0 then [.bool false, .int .i64 0, .int .i64 (twoR op x y).1] else [.bool true, .int .i64 (twoR op x y).2, .int .i64 0]) K (G 68 [(.bool b)] fun o64 => (uI .i64 o64 fun n66 r65 => (unNil r65 (K [(.bool false), (.int .i64 0), (.int .i64 n66)])))) := fun b he => by
    refine W_call (hT _ _) ?_
    rintro _ rfl
    (repeat(with_reducible apply U1))
    rw [he]
    exact W_ret rfl
  unfold f75
  refine W_beqI (fun e => num _ _ hM (by unfold twoR; simp [e])) (fun e7 => ?_)
  refine W_beqI (fun e => num _ _ hD (by unfold twoR; simp [e])) (fun e8 => ?_)
  refine W_beqI (fun e => num _ _ hMo (by unfold twoR; simp [e])) (fun e9 => ?_)
  refine W_beqI (fun e => num _ _ hA (by unfold twoR; simp [e])) (fun e10 => ?_)
  refine W_beqI (fun e => num _ _ hSu (by unfold twoR; simp [e])) (fun e11 => ?_)
  refine W_beqI (fun e => cmp _ (by unfold twoR; simp [e])) (fun e12 => ?_)
  refine W_beqI (fun e => cmp _ (by unfold twoR; simp [e])) (fun e13 => ?_)
  refine W_beqI (fun e => cmp _ (by unfold twoR; simp [e])) (fun e14 => ?_)
  refine W_beqI (fun e => cmp _ (by unfold twoR; simp [e])) (fun e15 => ?_)
  refine W_beqI (fun e => cmp _ (by unfold twoR; simp [e])) (fun e16 => cmp _ (by unfold twoR; simp [e7, e8, e9, e10, e11, e12, e13, e14, e15, e16]))
theorem rtwo_ok (hM : TwoX 97 (fun a b => over (a * b)) G) (hD : TwoX 98 divR G) (hMo : TwoX 99 modR G) (hA : TwoX 100 (fun a b => over (a + b)) G) (hSu : TwoX 96 (fun a b => over (a - b)) G) (hT : TrX 77 G) : RTwoX (fun _ args (K : List V → Option R) => g81 G k args K) := by
  intro op x y K h1 h2 hx hy
  show W _ K (f81 G k op x y K)
  unfold TwoX at hM hD hMo hA hSu; unfold TrX at hT
  have num : ∀ (f : FuncId) (F : Int → Int → Int × Int), (∀ (a b : Int) (K : List V → Option R), InR a → InR b → W (fun o => o = [.int .i64 (F a b).1, .int .i64 (F a b).2]) K (G f [.int .i64 a, .int .i64 b] K)) → twoR op x y = F x y →
      W (fun o => o = [.int .i64 (twoR op x y).1, .int .i64 (twoR op x y).2]) K (G f [.int .i64 x, .int .i64 y] fun o4 => (uI .i64 o4 fun n6 r5 => (uI .i64 r5 fun n8 r7 => (unNil r7 (K [(.int .i64 n6), (.int .i64 n8)]))))) := fun f F hF he => by
    refine W_call (hF _ _ _ hx hy) ?_
    rintro _ rfl
    (repeat(with_reducible apply U1))
    rw [he]
    exact W_ret rfl
  have cmp : ∀ b : Bool, twoR op x y = (tr b, 0) → W (fun o => o = [.int .i64 (twoR op x y).1, .int .i64 (twoR op x y).2]) K (G 77 [(.bool b)] fun o64 => (uI .i64 o64 fun n66 r65 => (unNil r65 (K [(.int .i64 n66), (.int .i64 0)])))) := fun b he => by
    refine W_call (hT _ _) ?_
    rintro _ rfl
    (repeat(with_reducible apply U1))
    rw [he]
    exact W_ret rfl
  unfold f81
  refine W_beqI (fun e => num _ _ hM (by unfold twoR; simp [e])) (fun e7 => ?_)
  refine W_beqI (fun e => num _ _ hD (by unfold twoR; simp [e])) (fun e8 => ?_)
  refine W_beqI (fun e => num _ _ hMo (by unfold twoR; simp [e])) (fun e9 => ?_)
  refine W_beqI (fun e => num _ _ hA (by unfold twoR; simp [e])) (fun e10 => ?_)
  refine W_beqI (fun e => num _ _ hSu (by unfold twoR; simp [e])) (fun e11 => ?_)
  refine W_beqI (fun e => cmp _ (by unfold twoR; simp [e])) (fun e12 => ?_)
  refine W_beqI (fun e => cmp _ (by unfold twoR; simp [e])) (fun e13 => ?_)
  refine W_beqI (fun e => cmp _ (by unfold twoR; simp [e])) (fun e14 => ?_)
  refine W_beqI (fun e => cmp _ (by unfold twoR; simp [e])) (fun e15 => ?_)
  refine W_beqI (fun e => cmp _ (by unfold twoR; simp [e])) (fun e16 => cmp _ (by unfold twoR; simp [e7, e8, e9, e10, e11, e12, e13, e14, e15, e16]))
end
section
variable {R : Type} {G : ORC R} {k : Nat} {K : List V → Option R} {Q : List V → Prop}
theorem W_show {x y : Option R} (h : x = y) (hy : W Q K y) : W Q K x := by rw [h]; exact hy
theorem W_neY {a b : Int} {A B : Option R} (h : a ≠ b) (h1 : W Q K A) : W Q K (bif a != b then A else B) := by rw [bne, beq_eq_false_iff_ne.2 h]; exact h1
theorem W_neN {a b : Int} {A B : Option R} (h : a = b) (h1 : W Q K B) : W Q K (bif a != b then A else B) := by rw [bne, beq_iff_eq.2 h]; exact h1
theorem gl {E : List V} {v : V} : (E ++ [v])[((E.length : Nat) : Int).toNat]? = some v := by rw [Int.toNat_natCast]; simp
theorem tl {E : List V} {v : V} : (E ++ [v]).take ((E.length : Nat) : Int).toNat = E := by rw [Int.toNat_natCast]; simp
theorem sl {E : List V} {v w : V} : (E ++ [v]).set ((E.length : Nat) : Int).toNat w = E ++ [w] := by rw [Int.toNat_natCast]; simp
theorem wl {E : List V} {v : V} (h : E.length ≤ 1000000000) : IntKind.i64.wrap ((((E ++ [v]).length : Nat) : Int) - 1) = E.length := by
  rw [List.length_append, List.length_singleton, wrap_id (by omega)]; omega
def TakeX (G : ORC R) : Prop := ∀ (x : Int) (c : List V) (lo hi g : Int) (R1 R2 : List V) (p val : Int) (vs ra ef : List V) (co cd : Int) (K : List V → Option R), R1.length ≤ 1000000000 → W (fun o => o = [.int .i64 x, .int .u64 lo, .int .u64 hi, .int .i64 g, .sl 1 R1, .sl 1 R2, .int .i64 p, .int .i64 val, .sl 1 vs, .sl 2 ra, .sl 4 ef, .int .i64 co, .int .i64 cd]) K (G 72 [.sl 4 c, .int .u64 lo, .int .u64 hi, .int .i64 g, .sl 1 (R1 ++ [.int .i64 x]), .sl 1 R2, .int .i64 p, .int .i64 val, .sl 1 vs, .sl 2 ra, .sl 4 ef, .int .i64 co, .int .i64 cd] K)
theorem take_ok : TakeX (fun _ args (K : List V → Option R) => g72 G k args K) := by
  intro x c lo hi g R1 R2 p val vs ra ef co cd K hl
  refine W_show (y := f72 G k c lo hi g (R1 ++ [.int .i64 x]) R2 p val vs ra ef co cd K) (by kernel_rfl) ?_
  unfold f72
  rw [wl hl]
  refine W_at (by omega) gl (W_aI (W_and (W_yes (by omega) (W_yes (by rw [List.length_append]; omega) ?_))))
  rw [tl]
  exact W_ret rfl
def MPutX (G : ORC R) : Prop := ∀ (n : Int) (c : List V) (lo hi g : Int) (R1 R2 : List V) (p val : Int) (vs ra ef : List V) (co cd : Int) (K : List V → Option R), R1.length ≤ 1000000000 → W (fun o => o = [.int .u64 lo, .int .u64 hi, .int .i64 g, .sl 1 (R1 ++ [.int .i64 n]), .sl 1 R2, .int .i64 p, .int .i64 val, .sl 1 vs, .sl 2 ra, .sl 4 ef, .int .i64 co, .int .i64 cd]) K (G 67 [.int .i64 n, .sl 4 c, .int .u64 lo, .int .u64 hi, .int .i64 g, .sl 1 R1, .sl 1 R2, .int .i64 p, .int .i64 val, .sl 1 vs, .sl 2 ra, .sl 4 ef, .int .i64 co, .int .i64 cd] K)
theorem put_ok : MPutX (fun _ args (K : List V → Option R) => g67 G k args K) := by
  intro n c lo hi g R1 R2 p val vs ra ef co cd K hl
  refine W_show (y := f67 G k n c lo hi g R1 R2 p val vs ra ef co cd K) (by kernel_rfl) ?_
  unfold f67
  exact W_yes (by omega) (W_ret rfl)
def EffX (G : ORC R) : Prop := ∀ (kd a : Int) (s : ByteArray) (n : Int) (c : List V) (lo hi g : Int) (R1 R2 : List V) (p val : Int) (vs ra ef : List V) (co cd : Int) (K : List V → Option R), ef.length ≤ 1000000000 → W (fun o => o = [.int .u64 lo, .int .u64 hi, .int .i64 g, .sl 1 R1, .sl 1 R2, .int .i64 p, .int .i64 val, .sl 1 vs, .sl 2 ra, .sl 4 (ef ++ [.agg [.int .i64 kd, .int .i64 a, .str s, .int .i64 n]]), .int .i64 co, .int .i64 cd]) K (G 91 [.int .i64 kd, .int .i64 a, .agg [.str s, .int .i64 n], .sl 4 c, .int .u64 lo, .int .u64 hi, .int .i64 g, .sl 1 R1, .sl 1 R2, .int .i64 p, .int .i64 val, .sl 1 vs, .sl 2 ra, .sl 4 ef, .int .i64 co, .int .i64 cd] K)
theorem eff_ok : EffX (fun _ args (K : List V → Option R) => g91 G k args K) := by
  intro kd a s n c lo hi g R1 R2 p val vs ra ef co cd K hl
  refine W_show (y := f91 G k kd a s n c lo hi g R1 R2 p val vs ra ef co cd K) (by kernel_rfl) ?_
  unfold f91
  exact W_yes (by omega) (W_ret rfl)
def RTakeX (G : ORC R) : Prop := ∀ (x : Int) (val : Int) (vs ra ef : List V) (co cd : Int) (cf : List V) (g : Int) (R1 R2 : List V) (p : Int) (K : List V → Option R), R1.length ≤ 1000000000 → W (fun o => o = [.int .i64 x, .int .i64 val, .sl 1 vs, .sl 2 ra, .sl 4 ef, .int .i64 co, .int .i64 cd, .int .i64 g, .sl 1 R1, .sl 1 R2, .int .i64 p]) K (G 79 [.int .i64 val, .sl 1 vs, .sl 2 ra, .sl 4 ef, .int .i64 co, .int .i64 cd, .sl 1 cf, .int .i64 g, .sl 1 (R1 ++ [.int .i64 x]), .sl 1 R2, .int .i64 p] K)
theorem rtake_ok : RTakeX (fun _ args (K : List V → Option R) => g79 G k args K) := by
  intro x val vs ra ef co cd cf g R1 R2 p K hl
  refine W_show (y := f79 G k val vs ra ef co cd cf g (R1 ++ [.int .i64 x]) R2 p K) (by kernel_rfl) ?_
  unfold f79
  refine W_eqN (by rw [List.length_append, List.length_singleton]; omega) ?_
  rw [wl hl]
  refine W_at (by omega) gl (W_aI (W_and (W_yes (by omega) (W_yes (by rw [List.length_append]; omega) ?_))))
  rw [tl]
  exact W_ret rfl
def RPutX (G : ORC R) : Prop := ∀ (n : Int) (val : Int) (vs ra ef : List V) (co cd : Int) (cf : List V) (g : Int) (R1 R2 : List V) (p : Int) (K : List V → Option R), R1.length ≤ 1000000000 → W (fun o => o = [.int .i64 val, .sl 1 vs, .sl 2 ra, .sl 4 ef, .int .i64 co, .int .i64 cd, .int .i64 g, .sl 1 (R1 ++ [.int .i64 n]), .sl 1 R2, .int .i64 p]) K (G 76 [.int .i64 n, .int .i64 val, .sl 1 vs, .sl 2 ra, .sl 4 ef, .int .i64 co, .int .i64 cd, .sl 1 cf, .int .i64 g, .sl 1 R1, .sl 1 R2, .int .i64 p] K)
theorem rput_ok : RPutX (fun _ args (K : List V → Option R) => g76 G k args K) := by
  intro n val vs ra ef co cd cf g R1 R2 p K hl
  refine W_show (y := f76 G k n val vs ra ef co cd cf g R1 R2 p K) (by kernel_rfl) ?_
  unfold f76
  exact W_yes (by omega) (W_yes (by rw [List.nil_append]; omega) (W_ret (by rw [List.nil_append])))
def oE (lo hi g val co cd : Int) (st : St) : List V := [.int .u64 lo, .int .u64 hi, .int .i64 g, .sl 1 (iv st.row), .sl 1 (iv st.rnd), .int .i64 st.pc, .int .i64 val, .sl 1 (iv st.vs), .sl 2 st.ra, .sl 4 st.ef, .int .i64 co, .int .i64 cd]
def oR (g val co cd : Int) (st : St) : List V := [.int .i64 val, .sl 1 (iv st.vs), .sl 2 st.ra, .sl 4 st.ef, .int .i64 co, .int .i64 cd, .int .i64 g, .sl 1 (iv st.row), .sl 1 (iv st.rnd), .int .i64 st.pc]
def cR' (b : Bool) (g val co cd : Int) (st : St) : List V := [.int .i64 val, .sl 1 (iv st.vs), .sl 2 st.ra, .sl 4 st.ef, .int .i64 co, .int .i64 cd, .sl 1 (iv (cfOf b)), .int .i64 g, .sl 1 (iv st.row), .sl 1 (iv st.rnd), .int .i64 st.pc]
def Small (st : St) : Prop := 0 ≤ st.pc ∧ st.pc ≤ 1000000 ∧ st.row.length ≤ 100000000 ∧ st.rnd.length ≤ 100000000 ∧ st.ra.length ≤ 100000000 ∧ st.ef.length ≤ 100000000
def Out (lo hi g val co cd : Int) (st : St) (e : Int) (st' : St) (o : List V) : Prop := if e = 0 then o = .bool false :: .int .i64 0 :: oE lo hi g val co cd st' else ∃ st2 : St, o = .bool true :: .int .i64 e :: oE lo hi g val co cd st2 ∧ st2.vs = st.vs ∧ st2.ra = st.ra ∧ st2.ef = st.ef
theorem out0 {lo hi g val co cd : Int} {st st' : St} {o : List V} (h : o = .bool false :: .int .i64 0 :: oE lo hi g val co cd st') : Out lo hi g val co cd st 0 st' o := by unfold Out; rw [if_pos rfl]; exact h
def TellX (G : ORC R) : Prop := ∀ (b : Bool) (g op a n : Int) (s : ByteArray) (st : St) (e : Int) (st' : St) (c : List V) (val co cd : Int) (K : List V → Option R), Stp b g op a n s st e st' → 19 ≤ op → op ≤ 22 → Small st →
  W (Out (loOf b) 0 g val co cd st e st') K (G 73 (insS op a n s :: .sl 4 c :: oE (loOf b) 0 g val co cd { st with pc := st.pc + 1 }) K)
theorem tell_ok (hT : TakeX G) (hE : EffX G) : TellX (fun _ args (K : List V → Option R) => g73 G k args K) := by
  intro b g op a n s st e st' c val co cd K h h1 h2 hs
  refine W_show (y := f73 G k op a n s c (loOf b) 0 g (iv st.row) (iv st.rnd) (st.pc + 1) val (iv st.vs) st.ra st.ef co cd K) (by kernel_rfl) ?_
  unfold f73
  unfold TakeX at hT; unfold EffX at hE; unfold Small at hs
  cases h <;> first | omega | skip
  · dsimp only at hs ⊢
    rw [iv_snoc]
    refine W_neY (by omega) (W_call (hT _ _ _ _ _ _ _ _ _ _ _ _ _ _ _ (by rw [iv_len]; simp at hs; omega)) ?_)
    rintro _ rfl
    (repeat(with_reducible apply U1))
    exact W_eqY rfl (W_yes (by omega) (W_ret (out0 rfl)))
  · dsimp only at hs ⊢
    rw [iv_snoc]
    refine W_neY (by omega) (W_call (hT _ _ _ _ _ _ _ _ _ _ _ _ _ _ _ (by rw [iv_len]; simp at hs; omega)) ?_)
    rintro _ rfl
    (repeat(with_reducible apply U1))
    refine W_eqN (by omega) (W_eqY rfl (W_call (hE _ _ _ _ _ _ _ _ _ _ _ _ _ _ _ _ _ _ (by omega)) ?_))
    rintro _ rfl
    (repeat(with_reducible apply U1))
    exact W_ret (out0 rfl)
  · dsimp only at hs ⊢
    rw [iv_snoc]
    refine W_neY (by omega) (W_call (hT _ _ _ _ _ _ _ _ _ _ _ _ _ _ _ (by rw [iv_len]; simp at hs; omega)) ?_)
    rintro _ rfl
    (repeat(with_reducible apply U1))
    refine W_eqN (by omega) (W_eqN (by omega) (W_eqY rfl (W_no (by omega) (W_no (by omega) (W_call (hE _ _ _ _ _ _ _ _ _ _ _ _ _ _ _ _ _ _ (by omega)) ?_)))))
    rintro _ rfl
    (repeat(with_reducible apply U1))
    exact W_ret (out0 rfl)
  · rename_i hx
    dsimp only at hs ⊢
    rw [iv_snoc]
    refine W_neY (by omega) (W_call (hT _ _ _ _ _ _ _ _ _ _ _ _ _ _ _ (by rw [iv_len]; simp at hs; omega)) ?_)
    rintro _ rfl
    (repeat(with_reducible apply U1))
    have fin : ∀ {p : Int} {l r v : List Int} {ra ef : List V} {x : Int}, Out (loOf b) 0 g val co cd ⟨p, l ++ [x], r, v, ra, ef⟩ 1 ⟨p + 1, l, r, v, ra, ef⟩ (.bool true :: .int .i64 1 :: oE (loOf b) 0 g val co cd ⟨p + 1, l, r, v, ra, ef⟩) := fun {p l r v ra ef x} => by
      unfold Out; rw [if_neg (by omega)]; exact ⟨⟨p + 1, l, r, v, ra, ef⟩, rfl, rfl, rfl, rfl⟩
    refine W_eqN (by omega) (W_eqN (by omega) (W_eqY rfl ?_))
    refine W_dec (fun _ => W_ret fin) (fun _ => W_dec (fun _ => W_ret fin) (fun _ => by omega))
  · dsimp only at hs ⊢
    refine W_neN rfl (W_eqN (by omega) (W_eqN (by omega) (W_eqN (by omega) (W_call (hE _ _ _ _ _ _ _ _ _ _ _ _ _ _ _ _ _ _ (by omega)) ?_))))
    rintro _ rfl
    (repeat(with_reducible apply U1))
    exact W_ret (out0 rfl)
def MoveX (G : ORC R) : Prop := ∀ (b : Bool) (g op a n : Int) (s : ByteArray) (st : St) (e : Int) (st' : St) (c : List V) (val co cd : Int) (K : List V → Option R), Stp b g op a n s st e st' → 23 ≤ op → Small st →
  W (fun o => e = 0 ∧ o = oE (loOf b) 0 g val co cd st') K (G 74 (insS op a n s :: .sl 4 c :: oE (loOf b) 0 g val co cd { st with pc := st.pc + 1 }) K)
theorem move_ok (hT : TakeX G) : MoveX (fun _ args (K : List V → Option R) => g74 G k args K) := by
  intro b g op a n s st e st' c val co cd K h h1 hs
  refine W_show (y := f74 G k op a n s c (loOf b) 0 g (iv st.row) (iv st.rnd) (st.pc + 1) val (iv st.vs) st.ra st.ef co cd K) (by kernel_rfl) ?_
  unfold f74
  unfold TakeX at hT; unfold Small at hs
  cases h <;> first | omega | skip
  · exact W_eqY rfl (W_ret ⟨rfl, rfl⟩)
  · dsimp only at hs ⊢
    rw [iv_snoc]
    refine W_eqN (by omega) (W_eqY rfl (W_call (hT _ _ _ _ _ _ _ _ _ _ _ _ _ _ _ (by rw [iv_len]; simp at hs; omega)) ?_))
    rintro _ rfl
    (repeat(with_reducible apply U1))
    refine W_beqI (fun hx => W_ret ⟨rfl, ?_⟩) (fun hx => W_ret ⟨rfl, ?_⟩)
    · rw [if_pos hx]; rfl
    · rw [if_neg hx]; rfl
  · dsimp only at hs ⊢
    refine W_eqN (by omega) (W_eqN (by omega) (W_eqY rfl (W_yes (by rw [iv_len]; omega) (W_ret ⟨rfl, ?_⟩))))
    rw [← iv_snoc]; rfl
  · rename_i hi hi2 hx hx2
    dsimp only at hs ⊢
    rw [iv_snoc, wl (by rw [iv_len]; simp at hs; omega)]
    refine W_eqN (by omega) (W_eqN (by omega) (W_eqN (by omega) ?_))
    refine W_at (by omega) gl (W_aI ?_)
    refine W_at (by omega) gl ?_
    rw [wrap_id (by omega), sl]
    refine W_at (by omega) gl (W_aI (W_yes (by omega) (W_ret ⟨rfl, ?_⟩)))
    rw [← iv_snoc, wrap_id (by omega)]; rfl
  · rename_i hx hx2
    dsimp only at hs ⊢
    rw [iv_snoc, wl (by rw [iv_len]; simp at hs; omega)]
    refine W_eqN (by omega) (W_eqN (by omega) (W_eqN (by omega) ?_))
    refine W_at (by omega) gl (W_aI ?_)
    refine W_at (by omega) gl ?_
    rw [wrap_id (by omega), sl]
    refine W_at (by omega) gl (W_aI (W_no (by omega) ?_))
    refine W_and (W_yes (by omega) (W_yes (by rw [List.length_append]; omega) ?_))
    rw [tl]
    exact W_ret ⟨rfl, rfl⟩
end
section
variable {R : Type} {G : ORC R} {k : Nat} {K : List V → Option R} {Q : List V → Prop}
theorem outE {lo hi g val co cd : Int} {st st' : St} {e : Int} {o : List V} (he : e ≠ 0) (st2 : St) (h : o = .bool true :: .int .i64 e :: oE lo hi g val co cd st2) (h1 : st2.vs = st.vs) (h2 : st2.ra = st.ra) (h3 : st2.ef = st.ef) : Out lo hi g val co cd st e st' o := by unfold Out; rw [if_neg he]; exact ⟨st2, h, h1, h2, h3⟩
def StepX (G : ORC R) : Prop := ∀ (b : Bool) (g op a n : Int) (s : ByteArray) (st : St) (e : Int) (st' : St) (c : List V) (val co cd : Int) (K : List V → Option R), Stp b g op a n s st e st' → InR g → Small st →
  W (Out (loOf b) 0 g val co cd st e st') K (G 46 (insS op a n s :: .sl 4 c :: oE (loOf b) 0 g val co cd st) K)
theorem step_ok (hT : TakeX G) (hP : MPutX G) (hTe : TellX G) (hM : MoveX G) (hH : HasX G) (hTr : TrX 68 G) (hN : OneX 71 G) (hS : SureX G) (hPa : PairX G) : StepX (fun _ args (K : List V → Option R) => g46 G k args K) := by
  intro b g op a n s st e st' c val co cd K h hg hs
  refine W_show (y := f46 G k op a n s c (loOf b) 0 g (iv st.row) (iv st.rnd) st.pc val (iv st.vs) st.ra st.ef co cd K) (by kernel_rfl) ?_
  have hs0 := hs
  unfold Small at hs
  by_cases hop : 19 ≤ op
  · have htell : op ≤ 22 → W (Out (loOf b) 0 g val co cd st e st') K (G 73 [(.agg [(.int .i64 op), (.int .i64 a), (.int .i64 n), (.str s)]), (.sl 4 c), (.int .u64 (loOf b)), (.int .u64 0), (.int .i64 g), (.sl 1 (iv st.row)), (.sl 1 (iv st.rnd)), (.int .i64 (st.pc + 1)), (.int .i64 val), (.sl 1 (iv st.vs)), (.sl 2 st.ra), (.sl 4 st.ef), (.int .i64 co), (.int .i64 cd)] K) := fun h2 => by
      unfold TellX at hTe; exact hTe b g op a n s st e st' c val co cd K h hop h2 hs0
    have htell' : op ≤ 22 → W (Out (loOf b) 0 g val co cd st e st') K (G 73 [(.agg [(.int .i64 op), (.int .i64 a), (.int .i64 n), (.str s)]), (.sl 4 c), (.int .u64 (loOf b)), (.int .u64 0), (.int .i64 g), (.sl 1 (iv st.row)), (.sl 1 (iv st.rnd)), (.int .i64 (st.pc + 1)), (.int .i64 val), (.sl 1 (iv st.vs)), (.sl 2 st.ra), (.sl 4 st.ef), (.int .i64 co), (.int .i64 cd)] fun o273 => uB o273 fun b275 r274 => uI .i64 r274 fun n277 r276 => uI .u64 r276 fun n279 r278 => uI .u64 r278 fun n281 r280 => uI .i64 r280 fun n283 r282 => uL 1 r282 fun l285 r284 => uL 1 r284 fun l287 r286 => uI .i64 r286 fun n289 r288 => uI .i64 r288 fun n291 r290 => uL 1 r290 fun l293 r292 => uL 2 r292 fun l295 r294 => uL 4 r294 fun l297 r296 => uI .i64 r296 fun n299 r298 => uI .i64 r298 fun n301 r300 => unNil r300 (bif b275 then (K [(.bool true), (.int .i64 n277), (.int .u64 n279), (.int .u64 n281), (.int .i64 n283), (.sl 1 l285), (.sl 1 l287), (.int .i64 n289), (.int .i64 n291), (.sl 1 l293), (.sl 2 l295), (.sl 4 l297), (.int .i64 n299), (.int .i64 n301)]) else (K [(.bool false), (.int .i64 0), (.int .u64 n279), (.int .u64 n281), (.int .i64 n283), (.sl 1 l285), (.sl 1 l287), (.int .i64 n289), (.int .i64 n291), (.sl 1 l293), (.sl 2 l295), (.sl 4 l297), (.int .i64 n299), (.int .i64 n301)]))) := fun h2 => by
      unfold TellX at hTe
      refine W_call (hTe b g op a n s st e st' c val co cd _ h hop h2 hs0) ?_
      intro o ho
      have ho0 := ho
      unfold Out at ho
      by_cases e0 : e = 0
      · rw [if_pos e0] at ho
        subst ho
        unfold oE at ho0 ⊢
        (repeat(with_reducible apply U1))
        exact W_ret ho0
      · rw [if_neg e0] at ho
        obtain ⟨st2, rfl, _⟩ := ho
        unfold oE at ho0 ⊢
        (repeat(with_reducible apply U1))
        exact W_ret ho0
    have hmove : 23 ≤ op → W (Out (loOf b) 0 g val co cd st e st') K (G 74 [(.agg [(.int .i64 op), (.int .i64 a), (.int .i64 n), (.str s)]), (.sl 4 c), (.int .u64 (loOf b)), (.int .u64 0), (.int .i64 g), (.sl 1 (iv st.row)), (.sl 1 (iv st.rnd)), (.int .i64 (st.pc + 1)), (.int .i64 val), (.sl 1 (iv st.vs)), (.sl 2 st.ra), (.sl 4 st.ef), (.int .i64 co), (.int .i64 cd)] fun o302 => uI .u64 o302 fun n304 r303 => uI .u64 r303 fun n306 r305 => uI .i64 r305 fun n308 r307 => uL 1 r307 fun l310 r309 => uL 1 r309 fun l312 r311 => uI .i64 r311 fun n314 r313 => uI .i64 r313 fun n316 r315 => uL 1 r315 fun l318 r317 => uL 2 r317 fun l320 r319 => uL 4 r319 fun l322 r321 => uI .i64 r321 fun n324 r323 => uI .i64 r323 fun n326 r325 => unNil r325 (K [(.bool false), (.int .i64 0), (.int .u64 n304), (.int .u64 n306), (.int .i64 n308), (.sl 1 l310), (.sl 1 l312), (.int .i64 n314), (.int .i64 n316), (.sl 1 l318), (.sl 2 l320), (.sl 4 l322), (.int .i64 n324), (.int .i64 n326)])) := fun h2 => by
      unfold MoveX at hM
      refine W_call (hM b g op a n s st e st' c val co cd _ h h2 hs0) ?_
      rintro _ ⟨rfl, rfl⟩
      unfold oE
      (repeat(with_reducible apply U1))
      exact W_ret (out0 rfl)
    have hop2 : op ≤ 26 := by cases h <;> omega
    unfold f46
    rw [wrap_id (n := st.pc + 1) (by omega)]
    clear hTe hM hT hP hH hTr hN hS hPa h hs hs0
    repeat' (first | (with_reducible exact htell' (by omega)) | (with_reducible exact hmove (by omega)) | (with_reducible (refine W_beqI (fun _ => ?_) (fun _ => ?_))) | (exfalso; omega))
  · have hl : st.row.length ≤ 100000000 := hs.2.2.1
    unfold TakeX at hT; unfold MPutX at hP; unfold HasX at hH; unfold TrX at hTr; unfold OneX at hN; unfold SureX at hS; unfold PairX at hPa
    cases h <;> first | (exfalso; omega) | skip
    all_goals dsimp only at hs hl ⊢
    all_goals unfold f46
    all_goals rw [wrap_id (by omega)]
    · refine W_eqY rfl (W_call (hP _ _ _ _ _ _ _ _ _ _ _ _ _ _ _ (by rw [iv_len]; omega)) ?_)
      rintro _ rfl
      (repeat(with_reducible apply U1))
      exact W_ret (out0 (by simp only [oE, iv_snoc]))
    · rename_i hv
      refine W_eqN (by omega) (W_eqY rfl (W_at (by omega) (by rw [Int.toNat_natCast]; exact iv_get hv) (W_aI (W_call (hP _ _ _ _ _ _ _ _ _ _ _ _ _ _ _ (by rw [iv_len]; omega)) ?_))))
      rintro _ rfl
      (repeat(with_reducible apply U1))
      exact W_ret (out0 (by simp only [oE, iv_snoc]))
    · refine W_eqN (by omega) (W_eqN (by omega) (W_eqY rfl (W_call (hP _ _ _ _ _ _ _ _ _ _ _ _ _ _ _ (by rw [iv_len]; omega)) ?_)))
      rintro _ rfl
      (repeat(with_reducible apply U1))
      exact W_ret (out0 (by simp only [oE, iv_snoc]))
    · refine W_eqN (by omega) (W_eqN (by omega) (W_eqN (by omega) (W_eqY rfl (W_call (hH _ _ _) ?_))))
      rintro _ rfl
      (repeat(with_reducible apply U1))
      refine W_call (hTr _ _) ?_
      rintro _ rfl
      (repeat(with_reducible apply U1))
      refine W_call (hP _ _ _ _ _ _ _ _ _ _ _ _ _ _ _ (by rw [iv_len]; omega)) ?_
      rintro _ rfl
      (repeat(with_reducible apply U1))
      exact W_ret (out0 (by simp only [oE, iv_snoc]))
    · rename_i hx
      rw [List.length_append] at hl
      rw [iv_snoc]
      refine W_eqN (by omega) (W_eqN (by omega) (W_eqN (by omega) (W_eqN (by omega) (W_eqY rfl (W_call (hT _ _ _ _ _ _ _ _ _ _ _ _ _ _ _ (by rw [iv_len]; omega)) ?_)))))
      rintro _ rfl
      (repeat(with_reducible apply U1))
      refine W_call (hN _ _ hx) ?_
      rintro _ rfl
      (repeat(with_reducible apply U1))
      refine W_call (hS _ _ _) ?_
      rintro _ rfl
      rename_i x
      by_cases e0 : (over (0 - x)).2 = 0
      · rw [if_pos e0]
        (repeat(with_reducible apply U1))
        refine W_call (hP _ _ _ _ _ _ _ _ _ _ _ _ _ _ _ (by rw [iv_len]; omega)) ?_
        rintro _ rfl
        (repeat(with_reducible apply U1))
        refine W_ret ?_
        rw [e0]
        exact out0 (by simp only [oE, iv_snoc])
      · rw [if_neg e0]
        (repeat(with_reducible apply U1))
        exact W_ret (outE e0 ⟨_, _, _, _, _, _⟩ rfl rfl rfl rfl)
    · rw [List.length_append] at hl
      rw [iv_snoc]
      refine W_eqN (by omega) (W_eqN (by omega) (W_eqN (by omega) (W_eqN (by omega) (W_eqN (by omega) (W_eqY rfl (W_call (hT _ _ _ _ _ _ _ _ _ _ _ _ _ _ _ (by rw [iv_len]; omega)) ?_))))))
      rintro _ rfl
      (repeat(with_reducible apply U1))
      refine W_call (hTr _ _) ?_
      rintro _ rfl
      (repeat(with_reducible apply U1))
      refine W_call (hP _ _ _ _ _ _ _ _ _ _ _ _ _ _ _ (by rw [iv_len]; omega)) ?_
      rintro _ rfl
      (repeat(with_reducible apply U1))
      exact W_ret (out0 (by simp only [oE, iv_snoc]))
    · rename_i p l r v ra ef x y hx hy h1 h2
      have fin : W (Out (loOf b) 0 g val co cd ⟨p, l ++ [x] ++ [y], r, v, ra, ef⟩ (twoR op x y).2 ⟨p + 1, l ++ [(twoR op x y).1], r, v, ra, ef⟩) K (G 72 [(.sl 4 c), (.int .u64 (loOf b)), (.int .u64 0), (.int .i64 g), (.sl 1 (iv (l ++ [x] ++ [y]))), (.sl 1 (iv r)), (.int .i64 (p + 1)), (.int .i64 val), (.sl 1 (iv v)), (.sl 2 ra), (.sl 4 ef), (.int .i64 co), (.int .i64 cd)] fun o327 => uI .i64 o327 fun n329 r328 => uI .u64 r328 fun n331 r330 => uI .u64 r330 fun n333 r332 => uI .i64 r332 fun n335 r334 => uL 1 r334 fun l337 r336 => uL 1 r336 fun l339 r338 => uI .i64 r338 fun n341 r340 => uI .i64 r340 fun n343 r342 => uL 1 r342 fun l345 r344 => uL 2 r344 fun l347 r346 => uL 4 r346 fun l349 r348 => uI .i64 r348 fun n351 r350 => uI .i64 r350 fun n353 r352 => unNil r352 (G 72 [(.sl 4 c), (.int .u64 n331), (.int .u64 n333), (.int .i64 n335), (.sl 1 l337), (.sl 1 l339), (.int .i64 n341), (.int .i64 n343), (.sl 1 l345), (.sl 2 l347), (.sl 4 l349), (.int .i64 n351), (.int .i64 n353)] fun o354 => uI .i64 o354 fun n356 r355 => uI .u64 r355 fun n358 r357 => uI .u64 r357 fun n360 r359 => uI .i64 r359 fun n362 r361 => uL 1 r361 fun l364 r363 => uL 1 r363 fun l366 r365 => uI .i64 r365 fun n368 r367 => uI .i64 r367 fun n370 r369 => uL 1 r369 fun l372 r371 => uL 2 r371 fun l374 r373 => uL 4 r373 fun l376 r375 => uI .i64 r375 fun n378 r377 => uI .i64 r377 fun n380 r379 => unNil r379 (G 75 [(.int .i64 op), (.int .i64 n356), (.int .i64 n329)] fun o381 => uB o381 fun b383 r382 => uI .i64 r382 fun n385 r384 => uI .i64 r384 fun n387 r386 => unNil r386 (bif b383 then (K [(.bool true), (.int .i64 n385), (.int .u64 n358), (.int .u64 n360), (.int .i64 n362), (.sl 1 l364), (.sl 1 l366), (.int .i64 n368), (.int .i64 n370), (.sl 1 l372), (.sl 2 l374), (.sl 4 l376), (.int .i64 n378), (.int .i64 n380)]) else (G 67 [(.int .i64 n387), (.sl 4 c), (.int .u64 n358), (.int .u64 n360), (.int .i64 n362), (.sl 1 l364), (.sl 1 l366), (.int .i64 n368), (.int .i64 n370), (.sl 1 l372), (.sl 2 l374), (.sl 4 l376), (.int .i64 n378), (.int .i64 n380)] fun o388 => uI .u64 o388 fun n390 r389 => uI .u64 r389 fun n392 r391 => uI .i64 r391 fun n394 r393 => uL 1 r393 fun l396 r395 => uL 1 r395 fun l398 r397 => uI .i64 r397 fun n400 r399 => uI .i64 r399 fun n402 r401 => uL 1 r401 fun l404 r403 => uL 2 r403 fun l406 r405 => uL 4 r405 fun l408 r407 => uI .i64 r407 fun n410 r409 => uI .i64 r409 fun n412 r411 => unNil r411 (K [(.bool false), (.int .i64 0), (.int .u64 n390), (.int .u64 n392), (.int .i64 n394), (.sl 1 l396), (.sl 1 l398), (.int .i64 n400), (.int .i64 n402), (.sl 1 l404), (.sl 2 l406), (.sl 4 l408), (.int .i64 n410), (.int .i64 n412)])))))) := by
        rw [List.length_append, List.length_append] at hl
        rw [iv_snoc]
        refine W_call (hT _ _ _ _ _ _ _ _ _ _ _ _ _ _ _ (by rw [iv_len, List.length_append]; omega)) ?_
        rintro _ rfl
        (repeat(with_reducible apply U1))
        rw [iv_snoc]
        refine W_call (hT _ _ _ _ _ _ _ _ _ _ _ _ _ _ _ (by rw [iv_len]; omega)) ?_
        rintro _ rfl
        (repeat(with_reducible apply U1))
        refine W_call (hPa _ _ _ _ h1 h2 hx hy) ?_
        rintro _ rfl
        by_cases e0 : (twoR op x y).2 = 0
        · rw [if_pos e0]
          (repeat(with_reducible apply U1))
          refine W_call (hP _ _ _ _ _ _ _ _ _ _ _ _ _ _ _ (by rw [iv_len]; omega)) ?_
          rintro _ rfl
          (repeat(with_reducible apply U1))
          refine W_ret ?_
          rw [e0]
          exact out0 (by simp only [oE, iv_snoc])
        · rw [if_neg e0]
          (repeat(with_reducible apply U1))
          exact W_ret (outE e0 ⟨_, _, _, _, _, _⟩ rfl rfl rfl rfl)
      clear hT hP hH hTr hN hS hPa hs hs0
      repeat' (first | (with_reducible exact fin) | (with_reducible (refine W_eqN ?_ ?_)); (focus omega) | (with_reducible (refine W_beqI (fun _ => ?_) (fun _ => ?_))) | (exfalso; omega))
    · rename_i hi
      rw [List.length_append] at hl
      rw [iv_snoc]
      refine W_eqN (by omega) (W_eqN (by omega) (W_eqN (by omega) (W_eqN (by omega) (W_eqN (by omega) (W_eqN (by omega) (W_eqY rfl (W_call (hT _ _ _ _ _ _ _ _ _ _ _ _ _ _ _ (by rw [iv_len]; omega)) ?_)))))))
      rintro _ rfl
      (repeat(with_reducible apply U1))
      refine W_at (by omega) (by rw [Int.toNat_natCast]; exact iv_get (List.getElem?_eq_getElem hi)) (W_ret (out0 ?_))
      rw [Int.toNat_natCast, iv_set]; rfl
end
section
variable {R : Type} {G : ORC R} {k : Nat} {K : List V → Option R} {Q : List V → Prop}
def RecX (G : ORC R) : Prop := ∀ (b : Bool) (g op a n : Int) (s : ByteArray) (st : St) (e : Int) (st' : St) (val co cd : Int) (K : List V → Option R), Stp b g op a n s st e st' → op < 18 → Small st →
  W (fun o => o = .int .i64 e :: oR g val co cd st') K (G 47 (insS op a n s :: cR' b g val co cd { st with pc := st.pc + 1 }) K)
theorem rec_ok (hT : RTakeX G) (hP : RPutX G) (hH : RHasX G) (hTr : TrX 77 G) (hN : OneX 80 G) (hPa : RTwoX G) : RecX (fun _ args (K : List V → Option R) => g47 G k args K) := by
  intro b g op a n s st e st' val co cd K h hop hs
  refine W_show (y := f47 G k op a n s val (iv st.vs) st.ra st.ef co cd (iv (cfOf b)) g (iv st.row) (iv st.rnd) (st.pc + 1) K) (by kernel_rfl) ?_
  unfold Small at hs
  have hl : st.row.length ≤ 100000000 := hs.2.2.1
  unfold RTakeX at hT; unfold RPutX at hP; unfold RHasX at hH; unfold TrX at hTr; unfold OneX at hN; unfold RTwoX at hPa
  cases h <;> first | (exfalso; omega) | skip
  all_goals dsimp only at hs hl ⊢
  all_goals unfold f47
  · refine W_eqY rfl (W_call (hP _ _ _ _ _ _ _ _ _ _ _ _ _ (by rw [iv_len]; omega)) ?_)
    rintro _ rfl
    (repeat(with_reducible apply U1))
    exact W_ret (by simp only [oR, iv_snoc])
  · rename_i hv
    have hi := (List.getElem?_eq_some_iff.1 hv).1
    refine W_eqN (by omega) (W_eqY rfl (W_yes (by omega) (W_yes (by rw [iv_len]; omega) (W_at (by omega) (by rw [Int.toNat_natCast]; exact iv_get hv) (W_aI (W_call (hP _ _ _ _ _ _ _ _ _ _ _ _ _ (by rw [iv_len]; omega)) ?_))))))
    rintro _ rfl
    (repeat(with_reducible apply U1))
    exact W_ret (by simp only [oR, iv_snoc])
  · refine W_eqN (by omega) (W_eqN (by omega) (W_eqY rfl (W_call (hP _ _ _ _ _ _ _ _ _ _ _ _ _ (by rw [iv_len]; omega)) ?_)))
    rintro _ rfl
    (repeat(with_reducible apply U1))
    exact W_ret (by simp only [oR, iv_snoc])
  · refine W_eqN (by omega) (W_eqN (by omega) (W_eqN (by omega) (W_eqY rfl (W_call (hH _ _ _) ?_))))
    rintro _ rfl
    (repeat(with_reducible apply U1))
    refine W_call (hTr _ _) ?_
    rintro _ rfl
    (repeat(with_reducible apply U1))
    refine W_call (hP _ _ _ _ _ _ _ _ _ _ _ _ _ (by rw [iv_len]; omega)) ?_
    rintro _ rfl
    (repeat(with_reducible apply U1))
    exact W_ret (by simp only [oR, iv_snoc])
  · rename_i hx
    rw [List.length_append] at hl
    rw [iv_snoc]
    refine W_eqN (by omega) (W_eqN (by omega) (W_eqN (by omega) (W_eqN (by omega) (W_eqN (by omega) (W_eqY rfl (W_call (hT _ _ _ _ _ _ _ _ _ _ _ _ _ (by rw [iv_len]; omega)) ?_))))))
    rintro _ rfl
    (repeat(with_reducible apply U1))
    refine W_call (hN _ _ hx) ?_
    rintro _ rfl
    (repeat(with_reducible apply U1))
    refine W_call (hP _ _ _ _ _ _ _ _ _ _ _ _ _ (by rw [iv_len]; omega)) ?_
    rintro _ rfl
    (repeat(with_reducible apply U1))
    exact W_ret (by simp only [oR, iv_snoc])
  · rw [List.length_append] at hl
    rw [iv_snoc]
    refine W_eqN (by omega) (W_eqN (by omega) (W_eqN (by omega) (W_eqN (by omega) (W_eqY rfl (W_call (hT _ _ _ _ _ _ _ _ _ _ _ _ _ (by rw [iv_len]; omega)) ?_)))))
    rintro _ rfl
    (repeat(with_reducible apply U1))
    refine W_call (hTr _ _) ?_
    rintro _ rfl
    (repeat(with_reducible apply U1))
    refine W_call (hP _ _ _ _ _ _ _ _ _ _ _ _ _ (by rw [iv_len]; omega)) ?_
    rintro _ rfl
    (repeat(with_reducible apply U1))
    exact W_ret (by simp only [oR, iv_snoc])
  · rename_i p l r v ra ef x y hx hy h1 h2
    rw [List.length_append, List.length_append] at hl
    refine W_eqN (by omega) (W_eqN (by omega) (W_eqN (by omega) (W_eqN (by omega) (W_eqN (by omega) (W_eqN (by omega) ?_)))))
    rw [iv_snoc]
    refine W_call (hT _ _ _ _ _ _ _ _ _ _ _ _ _ (by rw [iv_len, List.length_append]; omega)) ?_
    rintro _ rfl
    (repeat(with_reducible apply U1))
    rw [iv_snoc]
    refine W_call (hT _ _ _ _ _ _ _ _ _ _ _ _ _ (by rw [iv_len]; omega)) ?_
    rintro _ rfl
    (repeat(with_reducible apply U1))
    refine W_call (hPa _ _ _ _ h1 h2 hx hy) ?_
    rintro _ rfl
    (repeat(with_reducible apply U1))
    refine W_call (hP _ _ _ _ _ _ _ _ _ _ _ _ _ (by rw [iv_len]; omega)) ?_
    rintro _ rfl
    (repeat(with_reducible apply U1))
    exact W_ret (by simp only [oR, iv_snoc])
def ActX (G : ORC R) : Prop := ∀ (b : Bool) (g op a n : Int) (s : ByteArray) (st : St) (e : Int) (st' : St) (val co cd : Int) (K : List V → Option R), Stp b g op a n s st e st' → 18 ≤ op → op ≤ 22 → Small st →
  W (fun o => o = .int .i64 e :: oR g val co cd st') K (G 48 (insS op a n s :: cR' b g val co cd { st with pc := st.pc + 1 }) K)
theorem act_ok (hT : RTakeX G) : ActX (fun _ args (K : List V → Option R) => g48 G k args K) := by
  intro b g op a n s st e st' val co cd K h hop hop2 hs
  refine W_show (y := f48 G k op a n s val (iv st.vs) st.ra st.ef co cd (iv (cfOf b)) g (iv st.row) (iv st.rnd) (st.pc + 1) K) (by kernel_rfl) ?_
  unfold Small at hs
  have hl : st.row.length ≤ 100000000 := hs.2.2.1
  unfold RTakeX at hT
  cases h <;> first | (exfalso; omega) | skip
  all_goals dsimp only at hs hl ⊢
  all_goals unfold f48
  · rename_i hi
    rw [List.length_append] at hl
    rw [iv_snoc]
    refine W_neY (by omega) (W_call (hT _ _ _ _ _ _ _ _ _ _ _ _ _ (by rw [iv_len]; omega)) ?_)
    rintro _ rfl
    (repeat(with_reducible apply U1))
    refine W_eqY rfl (W_yes (by omega) (W_yes (by rw [iv_len]; omega) (W_at (by omega) (by rw [Int.toNat_natCast]; exact iv_get (List.getElem?_eq_getElem hi)) (W_ret ?_))))
    rw [Int.toNat_natCast, iv_set]; rfl
  · rw [List.length_append] at hl
    rw [iv_snoc]
    refine W_neY (by omega) (W_call (hT _ _ _ _ _ _ _ _ _ _ _ _ _ (by rw [iv_len]; omega)) ?_)
    rintro _ rfl
    (repeat(with_reducible apply U1))
    exact W_eqN (by omega) (W_eqY rfl (W_yes (by omega) (W_ret rfl)))
  · rw [List.length_append] at hl
    rw [iv_snoc]
    refine W_neY (by omega) (W_call (hT _ _ _ _ _ _ _ _ _ _ _ _ _ (by rw [iv_len]; omega)) ?_)
    rintro _ rfl
    (repeat(with_reducible apply U1))
    exact W_eqN (by omega) (W_eqN (by omega) (W_eqY rfl (W_yes (by omega) (W_ret rfl))))
  · rw [List.length_append] at hl
    rw [iv_snoc]
    refine W_neY (by omega) (W_call (hT _ _ _ _ _ _ _ _ _ _ _ _ _ (by rw [iv_len]; omega)) ?_)
    rintro _ rfl
    (repeat(with_reducible apply U1))
    exact W_eqN (by omega) (W_eqN (by omega) (W_eqN (by omega) (W_eqY rfl (W_no (by omega) (W_no (by omega) (W_yes (by omega) (W_ret rfl)))))))
  · rw [List.length_append] at hl
    rw [iv_snoc]
    refine W_neY (by omega) (W_call (hT _ _ _ _ _ _ _ _ _ _ _ _ _ (by rw [iv_len]; omega)) ?_)
    rintro _ rfl
    (repeat(with_reducible apply U1))
    exact W_eqN (by omega) (W_eqN (by omega) (W_eqN (by omega) (W_eqY rfl (W_dec (fun _ => W_ret rfl) (fun _ => W_dec (fun _ => W_ret rfl) (fun _ => by omega))))))
  · exact W_neN rfl (W_eqN (by omega) (W_eqN (by omega) (W_eqN (by omega) (W_eqN (by omega) (W_eqY rfl (W_yes (by omega) (W_ret rfl)))))))
def RMoveX (G : ORC R) : Prop := ∀ (b : Bool) (g op a n : Int) (s : ByteArray) (st : St) (e : Int) (st' : St) (val co cd : Int) (K : List V → Option R), Stp b g op a n s st e st' → 23 ≤ op → Small st →
  W (fun o => e = 0 ∧ o = oR g val co cd st') K (G 49 (insS op a n s :: cR' b g val co cd { st with pc := st.pc + 1 }) K)
theorem rmove_ok (hT : RTakeX G) : RMoveX (fun _ args (K : List V → Option R) => g49 G k args K) := by
  intro b g op a n s st e st' val co cd K h h1 hs
  refine W_show (y := f49 G k op a n s val (iv st.vs) st.ra st.ef co cd (iv (cfOf b)) g (iv st.row) (iv st.rnd) (st.pc + 1) K) (by kernel_rfl) ?_
  unfold f49
  unfold RTakeX at hT; unfold Small at hs
  cases h <;> first | omega | skip
  · exact W_eqY rfl (W_ret ⟨rfl, rfl⟩)
  · dsimp only at hs ⊢
    rw [iv_snoc]
    refine W_eqN (by omega) (W_eqY rfl (W_call (hT _ _ _ _ _ _ _ _ _ _ _ _ _ (by rw [iv_len]; simp at hs; omega)) ?_))
    rintro _ rfl
    (repeat(with_reducible apply U1))
    refine W_beqI (fun hx => W_ret ⟨rfl, ?_⟩) (fun hx => W_ret ⟨rfl, ?_⟩)
    · rw [if_pos hx]; rfl
    · rw [if_neg hx]; rfl
  · dsimp only at hs ⊢
    refine W_eqN (by omega) (W_eqN (by omega) (W_eqY rfl (W_yes (by rw [iv_len]; omega) (W_yes (by rw [List.nil_append, iv_len]; omega) (W_ret ⟨rfl, ?_⟩)))))
    rw [List.nil_append, ← iv_snoc]; rfl
  · rename_i hi hi2 hx hx2
    dsimp only at hs ⊢
    rw [iv_snoc, wl (by rw [iv_len]; simp at hs; omega)]
    refine W_eqN (by omega) (W_eqN (by omega) (W_eqN (by omega) (W_eqY rfl (W_eqN (by rw [List.length_append, List.length_singleton]; omega) ?_))))
    refine W_at (by omega) gl (W_aI ?_)
    refine W_at (by omega) gl ?_
    rw [wrap_id (by omega), sl]
    refine W_at (by omega) gl (W_aI (W_yes (by omega) (W_ret ⟨rfl, ?_⟩)))
    rw [← iv_snoc, wrap_id (by omega)]; rfl
  · rename_i hx hx2
    dsimp only at hs ⊢
    rw [iv_snoc, wl (by rw [iv_len]; simp at hs; omega)]
    refine W_eqN (by omega) (W_eqN (by omega) (W_eqN (by omega) (W_eqY rfl (W_eqN (by rw [List.length_append, List.length_singleton]; omega) ?_))))
    refine W_at (by omega) gl (W_aI ?_)
    refine W_at (by omega) gl ?_
    rw [wrap_id (by omega), sl]
    refine W_at (by omega) gl (W_aI (W_no (by omega) ?_))
    refine W_and (W_yes (by omega) (W_yes (by rw [List.length_append]; omega) ?_))
    rw [tl]
    exact W_ret ⟨rfl, rfl⟩
end
section
variable {R : Type} {G : ORC R} {k : Nat} {K : List V → Option R} {Q : List V → Prop}
structure Dn where
  v : Int
  vs : List Int
  ra : List V
  ef : List V
  co : Int
  cd : Int
def Dn.l (d : Dn) : V := .agg [.int .i64 d.v, .sl 1 (iv d.vs), .sl 2 d.ra, .sl 4 d.ef, .int .i64 d.co, .int .i64 d.cd]
def lastI (l : List Int) : Int := l.getLast?.getD 0
inductive Run (b : Bool) (g : Int) (c : List V) (F : Int) : St → Int → Dn → Prop
  | fin {st : St} {co : Int} : (c.length : Int) ≤ st.pc → Run b g c F st co ⟨lastI st.row, st.vs, st.ra, st.ef, co, 0⟩
  | fuel {st : St} {co : Int} : 0 ≤ st.pc → st.pc < c.length → F ≤ co → Run b g c F st co ⟨0, st.vs, st.ra, st.ef, co, 4⟩
  | err {st : St} {co op a n : Int} {s : ByteArray} {e : Int} {st' : St} : 0 ≤ st.pc → c[st.pc.toNat]? = some (insS op a n s) → co < F → Stp b g op a n s st e st' → e ≠ 0 → Run b g c F st co ⟨0, st.vs, st.ra, st.ef, co + 1, e⟩
  | step {st : St} {co op a n : Int} {s : ByteArray} {st' : St} {d : Dn} : 0 ≤ st.pc → c[st.pc.toNat]? = some (insS op a n s) → co < F → Stp b g op a n s st 0 st' → Run b g c F st' (co + 1) d → Run b g c F st co d
def Bd (st : St) (co : Int) : Prop := (st.row.length : Int) ≤ co ∧ (st.rnd.length : Int) ≤ co ∧ (st.ra.length : Int) ≤ co ∧ (st.ef.length : Int) ≤ co
theorem bd_step {b g op a n s st e st' co} (h : Stp b g op a n s st e st') (hb : Bd st co) : Bd st' (co + 1) := by
  obtain ⟨h1, h2, h3, h4⟩ := stp_len h
  unfold Bd at *; omega
theorem get_lt {c : List V} {pc : Int} {v : V} (h0 : 0 ≤ pc) (h : c[pc.toNat]? = some v) : pc < c.length := by
  have := (List.getElem?_eq_some_iff.1 h).1; omega
theorem small_of {c : List V} {st : St} {co : Int} (hc : c.length ≤ 9999) (hb : Bd st co) (h0 : 0 ≤ st.pc) (h1 : st.pc < c.length) (h2 : co < 1048576) : Small st := by
  unfold Small; unfold Bd at hb; omega
theorem last_snoc {l : List Int} {x : Int} : lastI (l ++ [x]) = x := by simp [lastI]
theorem row_cases (l : List Int) : l = [] ∨ ∃ l' x, l = l' ++ [x] := by
  rcases List.eq_nil_or_concat l with h | ⟨l', x, h⟩
  · exact .inl h
  · exact .inr ⟨l', x, by simpa using h⟩
theorem erun_ok {b : Bool} {g : Int} {c : List V} {F : Int} (hSt : StepX G) (hg : InR g) (hc : c.length ≤ 9999) (hF : F ≤ 1048576) {st : St} {co : Int} {d : Dn} (h : Run b g c F st co d) {Q : List V → Prop} {K : List V → Option R}
    {Ko : Int → List V → List V → List V → Int → Int → List V → Int → Int → Int → List V → List V → Int → Option R} {Kp : Int → Int → List V → List V → List V → Int → Int → Option R} :
    (∀ (st : St) (co : Int), (st.row.length : Int) ≤ co → co ≤ 1048576 → d = ⟨lastI st.row, st.vs, st.ra, st.ef, co, 0⟩ → W Q K (Ko 0 (iv st.vs) st.ra st.ef co 0 c (loOf b) 0 g (iv st.row) (iv st.rnd) st.pc)) →
    (∀ (vs : List Int) (ra ef : List V) (co e : Int), d = ⟨0, vs, ra, ef, co, e⟩ → W Q K (Kp e 0 (iv vs) ra ef co 0)) →
    ∀ j : Nat, 0 ≤ co → co ≤ 1048576 → Bd st co → 1048576 - co < j → W Q K (l31_0g G k Ko Kp j c F 0 (iv st.vs) st.ra st.ef co 0 c (loOf b) 0 g (iv st.row) (iv st.rnd) st.pc) := by
  induction h with
  | @fin st co h =>
    intro hKo hKp j h0 h1 hb hj
    obtain ⟨j, rfl⟩ : ∃ j', j = j' + 1 := ⟨j - 1, by omega⟩
    show W Q K (b31_0 G k (l31_0g G k Ko Kp j) Ko Kp c F 0 (iv st.vs) st.ra st.ef co 0 c (loOf b) 0 g (iv st.row) (iv st.rnd) st.pc)
    unfold b31_0
    exact W_yes (by omega) (W_no (by omega) (hKo st co hb.1 h1 rfl))
  | @fuel st co h2 h3 h4 =>
    intro hKo hKp j h0 h1 hb hj
    obtain ⟨j, rfl⟩ : ∃ j', j = j' + 1 := ⟨j - 1, by omega⟩
    show W Q K (b31_0 G k (l31_0g G k Ko Kp j) Ko Kp c F 0 (iv st.vs) st.ra st.ef co 0 c (loOf b) 0 g (iv st.row) (iv st.rnd) st.pc)
    unfold b31_0
    exact W_yes (by omega) (W_yes (by omega) (W_yes (by omega) (hKp _ _ _ _ _ rfl)))
  | @err st co op a n s e st' h2 h3 h4 h5 h6 =>
    intro hKo hKp j h0 h1 hb hj
    obtain ⟨j, rfl⟩ : ∃ j', j = j' + 1 := ⟨j - 1, by omega⟩
    have hlt := get_lt h2 h3
    show W Q K (b31_0 G k (l31_0g G k Ko Kp j) Ko Kp c F 0 (iv st.vs) st.ra st.ef co 0 c (loOf b) 0 g (iv st.row) (iv st.rnd) st.pc)
    unfold b31_0
    refine W_yes (by omega) (W_yes (by omega) (W_no (by omega) (W_at h2 h3 (W_asAgg ?_))))
    rw [wrap_id (n := co + 1) (by omega)]
    unfold StepX at hSt
    refine W_call (hSt b g op a n s st e st' c 0 (co + 1) 0 _ h5 hg (small_of hc hb h2 hlt (by omega))) ?_
    intro o ho
    unfold Out at ho
    rw [if_neg h6] at ho
    obtain ⟨st2, rfl, e1, e2, e3⟩ := ho
    unfold oE
    (repeat(with_reducible apply U1))
    rw [e1, e2, e3]
    exact hKp _ _ _ _ _ rfl
  | @step st co op a n s st' d h2 h3 h4 h5 h6 ih =>
    intro hKo hKp j h0 h1 hb hj
    obtain ⟨j, rfl⟩ : ∃ j', j = j' + 1 := ⟨j - 1, by omega⟩
    have hlt := get_lt h2 h3
    show W Q K (b31_0 G k (l31_0g G k Ko Kp j) Ko Kp c F 0 (iv st.vs) st.ra st.ef co 0 c (loOf b) 0 g (iv st.row) (iv st.rnd) st.pc)
    unfold b31_0
    refine W_yes (by omega) (W_yes (by omega) (W_no (by omega) (W_at h2 h3 (W_asAgg ?_))))
    rw [wrap_id (n := co + 1) (by omega)]
    unfold StepX at hSt
    refine W_call (hSt b g op a n s st 0 st' c 0 (co + 1) 0 _ h5 hg (small_of hc hb h2 hlt (by omega))) ?_
    intro o ho
    unfold Out at ho
    rw [if_pos rfl] at ho
    subst ho
    unfold oE
    (repeat(with_reducible apply U1))
    exact ih hKo hKp j (by omega) (by omega) (bd_step h5 hb) (by omega)
def clip (F : Int) : Int := if 0 < (if 1048576 < F then 1048576 else F) then (if 1048576 < F then 1048576 else F) else 0
theorem clip_le (F : Int) : clip F ≤ 1048576 ∧ 0 ≤ clip F := by unfold clip; split <;> split <;> omega
def lifeV (b : Bool) (x y : Int) : V := .agg [.sl 1 (iv (cfOf b)), .sl 1 (iv [x, y]), .sl 1 []]
def RunX (f : FuncId) (G : ORC R) : Prop := ∀ (b : Bool) (g : Int) (c : List V) (x y F : Int) (d : Dn) (K : List V → Option R), Run b g c (clip F) ⟨0, [], [], [x, y], [], []⟩ 0 d → c.length ≤ 9999 → InR g → W (fun o => o = [d.l]) K (G f [.sl 4 c, lifeV b x y, .int .i64 g, .int .i64 F] K)
def CloneX (G : ORC R) : Prop := ∀ (l : List V) (K : List V → Option R), l.length ≤ 1000000 → W (fun o => o = [.sl 1 l]) K (G 43 [.sl 1 l] K)
theorem clone_ok : CloneX (fun _ args (K : List V → Option R) => g43 G k args K) := by
  intro l K hl
  show W _ K (bif decide (l.length ≤ 1000000) then K [.sl 1 l] else none)
  exact W_yes hl (W_ret rfl)
theorem erunx_ok (hk : 1048578 ≤ k) (hC : CloneX G) (hO : OfX G) (hSt : StepX G) : RunX 31 (fun _ args (K : List V → Option R) => g31 G k args K) := by
  intro b g c x y F d K h hc hg
  refine W_show (y := f31 G k c (iv (cfOf b)) (iv [x, y]) [] g F K) (by kernel_rfl) ?_
  unfold f31
  unfold CloneX at hC; unfold OfX at hO
  refine W_call (hC _ _ (by rw [iv_len]; simp)) ?_
  rintro _ rfl
  (repeat(with_reducible apply U1))
  refine W_call (hO _ _) ?_
  rintro _ rfl
  (repeat(with_reducible apply U1))
  simp only [Bool.cond_decide]
  unfold l31_0
  refine erun_ok (st := ⟨0, [], [], [x, y], [], []⟩) (co := 0) hSt hg hc (clip_le F).1 h ?_ ?_ k (by omega) (by omega) ⟨by simp, by simp, by simp, by simp⟩ (by omega)
  · intro st co h1 h2 hd
    rcases row_cases st.row with h0 | ⟨l', x', h0⟩
    · rw [h0, iv]
      rw [if_neg (by simp)]
      refine W_ret ?_
      rw [hd, h0]; rfl
    · rw [h0] at h1 ⊢
      rw [List.length_append, List.length_singleton] at h1
      rw [iv_snoc, wl (by rw [iv_len]; omega), if_pos (by rw [List.length_append, List.length_singleton]; omega)]
      refine W_at (by omega) gl (W_aI (W_ret ?_))
      rw [hd, h0, last_snoc]; rfl
  · intro vs ra ef co e hd
    refine W_ret ?_
    rw [hd]; rfl
theorem rrun_ok {b : Bool} {g : Int} {c : List V} {F : Int} (hRe : RecX G) (hAc : ActX G) (hMo : RMoveX G) (hg : InR g) (hc : c.length ≤ 9999) {st : St} {co : Int} {d : Dn} (h : Run b g c (clip F) st co d) {Q : List V → Prop} {K : List V → Option R}
    {Ko : Int → List V → List V → List V → Int → Int → Int → List V → List V → List V → Int → Int → List V → Int → List V → List V → Int → Option R} {Kr : Int → List V → List V → List V → Int → Int → Option R} :
    (∀ (st : St) (co : Int), (st.row.length : Int) ≤ co → co ≤ 1048576 → d = ⟨lastI st.row, st.vs, st.ra, st.ef, co, 0⟩ → W Q K (Ko 0 [] [] [] 0 0 0 (iv st.vs) st.ra st.ef co 0 (iv (cfOf b)) g (iv st.row) (iv st.rnd) st.pc)) →
    (∀ (vs : List Int) (ra ef : List V) (co e : Int), d = ⟨0, vs, ra, ef, co, e⟩ → W Q K (Kr 0 (iv vs) ra ef co e)) →
    ∀ j : Nat, 0 ≤ co → co ≤ 1048576 → Bd st co → 1048576 - co < j → W Q K (l32_0g G k Ko Kr j c F 0 [] [] [] 0 0 0 (iv st.vs) st.ra st.ef co 0 (iv (cfOf b)) g (iv st.row) (iv st.rnd) st.pc) := by
  have hF := clip_le F
  have hcl : ∀ co : Int, 0 ≤ co → (co ≥ (if 1048576 < F then 1048576 else F) ↔ clip F ≤ co) := fun co h0 => by unfold clip; split <;> split <;> omega
  have go : ∀ (st : St) (co op a n : Int) (s : ByteArray) (e : Int) (st' : St) (j : Nat), 0 ≤ st.pc → c[st.pc.toNat]? = some (insS op a n s) → co < clip F → Stp b g op a n s st e st' → 0 ≤ co → Bd st co →
      (e ≠ 0 → W Q K (Kr 0 (iv st.vs) st.ra st.ef (co + 1) e)) → (e = 0 → W Q K (l32_0g G k Ko Kr j c F 0 [] [] [] 0 0 0 (iv st'.vs) st'.ra st'.ef (co + 1) 0 (iv (cfOf b)) g (iv st'.row) (iv st'.rnd) st'.pc)) →
      W Q K (l32_0g G k Ko Kr (j + 1) c F 0 [] [] [] 0 0 0 (iv st.vs) st.ra st.ef co 0 (iv (cfOf b)) g (iv st.row) (iv st.rnd) st.pc) := fun st co op a n s e st' j h2 h3 h4 h5 h0 hb hne heq => by
    have hlt := get_lt h2 h3
    have hsm := small_of hc hb h2 hlt (by omega)
    show W Q K (b32_0 G k (l32_0g G k Ko Kr j) Ko Kr c F 0 [] [] [] 0 0 0 (iv st.vs) st.ra st.ef co 0 (iv (cfOf b)) g (iv st.row) (iv st.rnd) st.pc)
    unfold b32_0
    rw [wrap_id (n := co + 1) (by omega), wrap_id (n := st.pc + 1) (by omega)]
    have hfu : ¬ co ≥ (bif decide (1048576 < F) then 1048576 else F) := by rw [Bool.cond_decide, hcl co h0]; omega
    refine W_yes (by omega) (W_yes (by omega) (W_no hfu (W_at h2 h3 (W_asAgg ?_))))
    (repeat(with_reducible apply U1))
    unfold RecX at hRe; unfold ActX at hAc; unfold RMoveX at hMo
    refine W_dec (fun hop => ?_) (fun hop => W_dec (fun hop2 => ?_) (fun hop2 => ?_))
    · refine W_call (hRe b g op a n s st e st' 0 (co + 1) 0 _ h5 hop hsm) ?_
      rintro _ rfl
      unfold oR
      (repeat(with_reducible apply U1))
      by_cases e0 : e = 0
      · exact W_neN e0 (heq e0)
      · obtain ⟨k1, k2, k3⟩ := stp_keeps h5 e0
        rw [k1, k2, k3]
        exact W_neY e0 (hne e0)
    · refine W_call (hAc b g op a n s st e st' 0 (co + 1) 0 _ h5 (by omega) hop2 hsm) ?_
      rintro _ rfl
      unfold oR
      (repeat(with_reducible apply U1))
      by_cases e0 : e = 0
      · exact W_neN e0 (heq e0)
      · obtain ⟨k1, k2, k3⟩ := stp_keeps h5 e0
        rw [k1, k2, k3]
        exact W_neY e0 (hne e0)
    · refine W_call (hMo b g op a n s st e st' 0 (co + 1) 0 _ h5 (by omega) hsm) ?_
      rintro _ ⟨e0, rfl⟩
      unfold oR
      (repeat(with_reducible apply U1))
      exact heq e0
  generalize hFF : clip F = F' at h
  induction h with
  | @fin st co h =>
    intro hKo hKp j h0 h1 hb hj
    obtain ⟨j, rfl⟩ : ∃ j', j = j' + 1 := ⟨j - 1, by omega⟩
    show W Q K (b32_0 G k (l32_0g G k Ko Kr j) Ko Kr c F 0 [] [] [] 0 0 0 (iv st.vs) st.ra st.ef co 0 (iv (cfOf b)) g (iv st.row) (iv st.rnd) st.pc)
    unfold b32_0
    exact W_yes (by omega) (W_no (by omega) (hKo st co hb.1 h1 rfl))
  | @fuel st co h2 h3 h4 =>
    intro hKo hKp j h0 h1 hb hj
    obtain ⟨j, rfl⟩ : ∃ j', j = j' + 1 := ⟨j - 1, by omega⟩
    show W Q K (b32_0 G k (l32_0g G k Ko Kr j) Ko Kr c F 0 [] [] [] 0 0 0 (iv st.vs) st.ra st.ef co 0 (iv (cfOf b)) g (iv st.row) (iv st.rnd) st.pc)
    unfold b32_0
    have hfu : co ≥ (bif decide (1048576 < F) then 1048576 else F) := by rw [Bool.cond_decide, hcl co h0]; omega
    exact W_yes (by omega) (W_yes (by omega) (W_yes hfu (hKp _ _ _ _ _ rfl)))
  | @err st co op a n s e st' h2 h3 h4 h5 h6 =>
    intro hKo hKp j h0 h1 hb hj
    obtain ⟨j, rfl⟩ : ∃ j', j = j' + 1 := ⟨j - 1, by omega⟩
    exact go st co op a n s e st' j h2 h3 (by omega) h5 h0 hb (fun _ => hKp _ _ _ _ _ rfl) (fun e0 => absurd e0 h6)
  | @step st co op a n s st' d h2 h3 h4 h5 h6 ih =>
    intro hKo hKp j h0 h1 hb hj
    obtain ⟨j, rfl⟩ : ∃ j', j = j' + 1 := ⟨j - 1, by omega⟩
    exact go st co op a n s 0 st' j h2 h3 (by omega) h5 h0 hb (fun e0 => absurd rfl e0) (fun _ => ih hKo hKp j (by omega) (by omega) (bd_step h5 hb) (by omega))
theorem rrunx_ok (hk : 1048578 ≤ k) (hRe : RecX G) (hAc : ActX G) (hMo : RMoveX G) : RunX 32 (fun _ args (K : List V → Option R) => g32 G k args K) := by
  intro b g c x y F d K h hc hg
  refine W_show (y := f32 G k c (iv (cfOf b)) (iv [x, y]) [] g F K) (by kernel_rfl) ?_
  unfold f32 l32_0
  refine W_yes (by rw [iv_len]; simp) ?_
  rw [List.nil_append]
  refine rrun_ok (st := ⟨0, [], [], [x, y], [], []⟩) (co := 0) hRe hAc hMo hg hc h ?_ ?_ k (by omega) (by omega) ⟨by simp, by simp, by simp, by simp⟩ (by omega)
  · intro st co h1 h2 hd
    rcases row_cases st.row with h0 | ⟨l', x', h0⟩
    · rw [h0, iv]
      refine W_no (by simp) (W_ret ?_)
      rw [hd, h0]; rfl
    · rw [h0] at h1 ⊢
      rw [List.length_append, List.length_singleton] at h1
      rw [iv_snoc, wl (by rw [iv_len]; omega)]
      refine W_yes (by rw [List.length_append, List.length_singleton]; omega) (W_at (by omega) gl (W_aI (W_ret ?_)))
      rw [hd, h0, last_snoc]; rfl
  · intro vs ra ef co e hd
    refine W_ret ?_
    rw [hd]; rfl
end
set_option maxHeartbeats 8000000
section
variable {R : Type} {G : ORC R} {k : Nat} {K : List V → Option R}
def wr (N : Nms) (c : List V) : List V := [.sl 1 N.a, .sl 1 N.p, .sl 1 N.t, .sl 7 (N.nd.map Nd.v), .sl 4 c]
end
section
variable {R : Type} {G : ORC R} {k : Nat} {K : List V → Option R}
end
section
variable {R : Type} {G : ORC R} {k : Nat} {K : List V → Option R}
end
section
variable {R : Type} {G : ORC R} {k : Nat} {K : List V → Option R}
end
set_option maxHeartbeats 4000000
section
variable {R : Type} {G : ORC R} {k : Nat} {K : List V → Option R}
end
set_option maxHeartbeats 8000000
section
variable {R : Type} {G : ORC R} {k : Nat} {K : List V → Option R}
end
section
def loopX (at_ : Nat) (n : Int) (B : List V) : List V := ins 25 (at_ + B.length + 2 : Nat) n :: (B ++ [ins 26 at_ 0])
theorem ce3 : 1 ≤ ce 3 := by decide
end
section
inductive Seg (e : Nat) : Nat → List V → List Int → Prop
  | nil {p : Nat} : Seg e p [] []
  | one {p : Nat} {op a n : Int} {s : ByteArray} {c : List V} {t : List Int} : op ≠ 25 → op ≠ 26 → (op = 23 ∨ op = 24 → (p : Int) < a ∧ a ≤ e) → Seg e (p + 1) c t → Seg e p (insS op a n s :: c) (1 :: t)
  | loop {p : Nat} {n : Int} {B c : List V} {tb t : List Int} : 1 ≤ n → n ≤ 16 → Seg e (p + 1) B tb → p + B.length + 2 ≤ e → Seg e (p + B.length + 2) c t →
      Seg e p (ins 25 (p + B.length + 2 : Nat) n :: (B ++ ins 26 p 0 :: c)) (1 :: (tb.map (n * ·) ++ n :: t))
theorem seg_one {e p : Nat} {op a n : Int} {s : ByteArray} (h1 : op ≠ 25) (h2 : op ≠ 26) (h3 : op = 23 ∨ op = 24 → (p : Int) < a ∧ a ≤ e) : Seg e p [insS op a n s] [1] := .one h1 h2 h3 .nil
end
section
variable {R : Type} {G : ORC R} {k : Nat} {K : List V → Option R}
end
set_option maxHeartbeats 4000000
section
variable {R : Type} {G : ORC R} {k : Nat} {K : List V → Option R}
def ExprM (A : List V) : Nat → V → Prop
  | 0, _ => False
  | d + 1, v => ∃ kind n nm kids, v = .agg [.int .i64 kind, .int .i64 n, .str nm, .sl 5 kids, .int .i64 0] ∧ I64 n ∧ StrS nm ∧ 1 ≤ kind ∧ kind ≤ 19 ∧ kids.length ≤ 2 ∧ (∀ e ∈ kids, ExprM A d e) ∧
      (kind ≤ 4 ∨ (kind ≤ 6 ∧ kids.length = 1) ∨ (7 ≤ kind ∧ kids.length = 2)) ∧ (kind = 2 → .str nm ∈ A)
theorem ExprM.s {A : List V} : ∀ {d : Nat} {v : V}, ExprM A d v → ExprS d v
  | 0, _, h => h.elim
  | d + 1, v, ⟨kind, n, nm, kids, h1, h2, h3, h4, h5, h6, h7, h8, h9⟩ => ⟨kind, n, nm, kids, h1, h2, h3, h4, h5, h6, fun e he => (h7 e he).s, h8⟩
end
set_option maxHeartbeats 8000000
section
variable {R : Type} {G : ORC R} {k : Nat} {K : List V → Option R}
end
section
variable {R : Type} {G : ORC R} {k : Nat} {K : List V → Option R}
def ActM (A B : List V) : Nat → V → Prop
  | 0, _ => False
  | d + 1, v => ∃ kind nm ev x n th el, v = .agg [.int .i64 kind, .str nm, .str ev, .sl 5 x, .int .i64 n, .sl 8 th, .sl 8 el, .int .i64 0] ∧ ActN kind n ∧ StrS nm ∧ StrS ev ∧ 1 ≤ kind ∧ kind ≤ 7 ∧ x.length ≤ 1 ∧ (∀ e ∈ x, ExprM A 3 e) ∧ (kind = 6 → x.length = 1) ∧
      th.length ≤ 2 ∧ el.length ≤ 2 ∧ (∀ a ∈ th, ActM A B d a) ∧ (∀ a ∈ el, ActM A B d a) ∧ (kind = 1 → .str nm ∈ A) ∧ (kind = 3 → .str nm ∈ B)
theorem ActM.s {A B : List V} : ∀ {d : Nat} {v : V}, ActM A B d v → ActS d v
  | 0, _, h => h.elim
  | d + 1, v, ⟨kind, nm, ev, x, n, th, el, h1, h2, h3, h4, h5, h6, h7, h8, h9, h10, h11, h12, h13, _, _⟩ =>
    ⟨kind, nm, ev, x, n, th, el, h1, h2, h3, h4, h5, h6, h7, fun e he => (h8 e he).s, h9, h10, h11, fun a ha => (h12 a ha).s, fun a ha => (h13 a ha).s⟩
def BlockM (A B : List V) (d : Nat) (l : List V) : Prop := l.length ≤ 2 ∧ ∀ a ∈ l, ActM A B d a
theorem BlockM.s {A B : List V} {d : Nat} {l : List V} (h : BlockM A B d l) : BlockS d l := ⟨h.1, fun a ha => (h.2 a ha).s⟩
end
set_option maxHeartbeats 16000000
section
def isS (p : Int) : V → Bool
  | .agg (.int _ op :: .int _ a :: _) => op == 20 && a == p
  | _ => false
def isF (p : Int) : V → Bool
  | .agg (.int _ kd :: .int _ a :: _) => kd == 1 && a == p
  | _ => false
def nS (p : Int) (l : List V) : Int := (l.countP (isF p) : Nat)
structure Lim where
  M : Int
  S : Int → Int
def Lim.ok (L : Lim) (st : St) (co : Int) : Prop := co ≤ L.M ∧ ∀ p, nS p st.ef ≤ L.S p
inductive Wp (b : Bool) (g : Int) (c : List V) (L : Lim) (Q : St → Int → Prop) : St → Int → Prop
  | done {st : St} {co : Int} : Q st co → Wp b g c L Q st co
  | err {st : St} {co op a n : Int} {s : ByteArray} {e : Int} {st' : St} : 0 ≤ st.pc → c[st.pc.toNat]? = some (insS op a n s) → Stp b g op a n s st e st' → e ≠ 0 → L.ok st (co + 1) → Wp b g c L Q st co
  | step {st : St} {co op a n : Int} {s : ByteArray} {st' : St} : 0 ≤ st.pc → c[st.pc.toNat]? = some (insS op a n s) → Stp b g op a n s st 0 st' → Wp b g c L Q st' (co + 1) → Wp b g c L Q st co
theorem wp_seq {b g c L Q Q'} {st : St} {co : Int} (h : Wp b g c L Q st co) : (∀ st' co', Q st' co' → Wp b g c L Q' st' co') → Wp b g c L Q' st co := by
  induction h with
  | done h => exact fun k => k _ _ h
  | err h1 h2 h3 h4 h5 => exact fun _ => .err h1 h2 h3 h4 h5
  | step h1 h2 h3 _ ih => exact fun k => .step h1 h2 h3 (ih k)
section
variable {b : Bool} {g : Int} {c : List V} {L : Lim}
end
end
section
variable {b : Bool} {g : Int} {c : List V} {L : Lim}
end
section
variable {b : Bool} {g : Int} {c : List V} {L : Lim}
def RaS (l : List V) : Prop := ∀ v ∈ l, ∃ s n, v = .agg [.str s, .int .i64 n]
def EfS (A : Int → Prop) (l : List V) : Prop := ∀ v ∈ l, ∃ k a s n, v = .agg [.int .i64 k, .int .i64 a, .str s, .int .i64 n] ∧ (k = 1 → A a)
def st0 (x y : Int) : St := ⟨0, [], [], [x, y], [], []⟩
end
set_option maxHeartbeats 8000000
section
variable {R : Type} {G : ORC R} {k : Nat} {K : List V → Option R}
end
section
variable {R : Type} {G : ORC R} {k : Nat} {K : List V → Option R}
end
set_option maxHeartbeats 16000000
section
variable {R : Type} {G : ORC R} {k : Nat} {K : List V → Option R} {Q : List V → Prop}
def LifeX (G : ORC R) : Prop := ∀ (x y : Int) (b : Bool) (K : List V → Option R), W (fun o => o = [lifeV b x y]) K (G 28 [.int .i64 x, .int .i64 y, .bool b] K)
theorem life_ok : LifeX (fun _ args (K : List V → Option R) => g28 G k args K) := by
  intro x y b K
  show W _ K (f28 G k x y b K)
  unfold f28
  cases b <;> exact W_ret rfl
def VarsX (G : ORC R) : Prop := ∀ (l : List Int) (K : List V → Option R), l.length ≤ 1000000 → W (fun o => o = [.bool true]) K (G 33 [.sl 1 (iv l), .sl 1 (iv l)] K)
theorem vars_loop {Ko : Unit → Option R} {Kr : Bool → Option R} {l : List Int} (hl : l.length ≤ 1000000) (hKo : W Q K (Ko ())) : ∀ (j m : Nat), l.length - m < j → m ≤ l.length → W Q K (l33_0g G k Ko Kr j (iv l) (iv l) m)
  | 0, m, h1, h2 => by omega
  | j + 1, m, h1, h2 => by
    show W Q K (b33_0 G k (l33_0g G k Ko Kr j) Ko Kr (iv l) (iv l) m)
    unfold b33_0
    refine W_dec (fun h => ?_) (fun h => hKo)
    rw [iv_len] at h
    obtain ⟨x, hx⟩ : ∃ x, l[m]? = some x := ⟨_, List.getElem?_eq_getElem (by omega)⟩
    refine W_at (by omega) (by rw [Int.toNat_natCast]; exact iv_get hx) (W_aI ?_)
    refine W_at (by omega) (by rw [Int.toNat_natCast]; exact iv_get hx) (W_aI (W_neN rfl ?_))
    rw [wrap_id (n := (m : Int) + 1) (by omega)]
    exact vars_loop hl hKo j (m + 1) (by omega) (by omega)
theorem vars_ok (hk : 1048578 ≤ k) : VarsX (fun _ args (K : List V → Option R) => g33 G k args K) := by
  intro l K hl
  show W _ K (f33 G k (iv l) (iv l) K)
  unfold f33 l33_0
  refine W_neN rfl ?_
  exact vars_loop (Q := fun o => o = [.bool true]) (K := K) (G := G) (k := k) (Ko := fun _ => K [.bool true]) (Kr := fun x => K [.bool x]) hl (W_ret rfl) k 0 (by omega) (by omega)
def SameX (G : ORC R) : Prop := ∀ (d : Dn) (A : Int → Prop) (K : List V → Option R), RaS d.ra → EfS A d.ef → d.vs.length ≤ 1000000 → d.ra.length ≤ 1048576 → d.ef.length ≤ 1048576 → W (fun o => o = [.bool true]) K (G 30 [d.l, d.l] K)
theorem same0_loop {Ko : Int → List V → List V → List V → Int → Int → Int → List V → List V → List V → Int → Int → Option R} {Kr : Bool → Option R} {v : Int} {vs ra ef : List V} {co cd : Int} (hr : RaS ra) (hl : ra.length ≤ 1048576) (hKo : W Q K (Ko v vs ra ef co cd v vs ra ef co cd)) : ∀ (j m : Nat), ra.length - m < j → m ≤ ra.length → W Q K (l30_0g G k Ko Kr j m v vs ra ef co cd v vs ra ef co cd)
  | 0, m, h1, h2 => by omega
  | j + 1, m, h1, h2 => by
    show W Q K (b30_0 G k (l30_0g G k Ko Kr j) Ko Kr m v vs ra ef co cd v vs ra ef co cd)
    unfold b30_0
    refine W_dec (fun h => ?_) (fun h => hKo)
    obtain ⟨w, hw⟩ : ∃ w, ra[m]? = some w := ⟨_, List.getElem?_eq_getElem (by omega)⟩
    obtain ⟨s, n, rfl⟩ := hr w (List.mem_of_getElem? hw)
    refine W_at (by omega) (by rw [Int.toNat_natCast]; exact hw) (W_asAgg ?_)
    refine W_at (by omega) (by rw [Int.toNat_natCast]; exact hw) (W_asAgg ?_)
    refine W_ce2 (W_ce2 ?_)
    (repeat(with_reducible apply U1))
    refine W_and ?_
    (repeat(with_reducible apply U1))
    refine W_chk' (by simp) ?_
    rw [wrap_id (n := (m : Int) + 1) (by omega)]
    exact same0_loop hr hl hKo j (m + 1) (by omega) (by omega)
theorem same2_loop {Ko : Unit → Option R} {Kr : Bool → Option R} {A : Int → Prop} {v : Int} {vs ra ef : List V} {co cd : Int} (hr : EfS A ef) (hl : ef.length ≤ 1048576) (hKo : W Q K (Ko ())) : ∀ (j m : Nat), ef.length - m < j → m ≤ ef.length → W Q K (l30_2g G k Ko Kr j m v vs ra ef co cd v vs ra ef co cd)
  | 0, m, h1, h2 => by omega
  | j + 1, m, h1, h2 => by
    show W Q K (b30_2 G k (l30_2g G k Ko Kr j) Ko Kr m v vs ra ef co cd v vs ra ef co cd)
    unfold b30_2
    refine W_dec (fun h => ?_) (fun h => hKo)
    obtain ⟨w, hw⟩ : ∃ w, ef[m]? = some w := ⟨_, List.getElem?_eq_getElem (by omega)⟩
    obtain ⟨kd, a, s, n, rfl, _⟩ := hr w (List.mem_of_getElem? hw)
    refine W_at (by omega) (by rw [Int.toNat_natCast]; exact hw) (W_asAgg ?_)
    refine W_at (by omega) (by rw [Int.toNat_natCast]; exact hw) (W_asAgg ?_)
    (repeat(with_reducible apply U1))
    refine W_and ?_
    (repeat(with_reducible apply U1))
    refine W_and ?_
    (repeat(with_reducible apply U1))
    refine W_and ?_
    (repeat(with_reducible apply U1))
    refine W_chk' (by simp) ?_
    rw [wrap_id (n := (m : Int) + 1) (by omega)]
    exact same2_loop hr hl hKo j (m + 1) (by omega) (by omega)
theorem same_ok (hk : 1048578 ≤ k) (hV : VarsX G) : SameX (fun _ args (K : List V → Option R) => g30 G k args K) := by
  intro d A K h1 h2 l1 l2 l3
  refine W_show (y := f30 G k d.v (iv d.vs) d.ra d.ef d.co d.cd d.v (iv d.vs) d.ra d.ef d.co d.cd K) (by kernel_rfl) ?_
  unfold f30
  unfold VarsX at hV
  refine W_neN rfl (W_neN rfl (W_neN rfl (W_call (hV _ _ l1) ?_)))
  rintro _ rfl
  (repeat(with_reducible apply U1))
  refine W_not (W_chk rfl ?_)
  refine W_neN rfl (W_neN rfl ?_)
  unfold l30_0
  refine same0_loop h1 l2 ?_ k 0 (by omega) (by omega)
  unfold l30_2
  exact same2_loop (Q := fun o => o = [.bool true]) (K := K) (G := G) (k := k) (Ko := fun _ => K [.bool true]) (Kr := fun x => K [.bool x]) h2 l3 (W_ret rfl) k 0 (by omega) (by omega)
def KnX (G : ORC R) : Prop := ∀ K : List V → Option R, G 26 [] K = K [.bool true]
theorem knx_go (hKn : KnX G) : W (fun o => o = [.bool true]) K (G 26 [] fun o => uB o fun b r => unNil r (K [.bool b])) := by
  rw [hKn]; exact W_uB (W_unNil (W_ret rfl))
theorem efs0 {A : Int → Prop} : EfS A [] := fun v hv => by cases hv
end
section
variable {R : Type} {G : ORC R} {k : Nat} {K : List V → Option R} {Q : List V → Prop}
def cOv (k : Int) : List V := [ins 1 0 0, insS 19 0 0 ⟨#[97]⟩, ins 2 0 0, ins 2 1 0, ins k 0 0, ins 18 0 0, ins 1 0 0, insS 19 0 0 ⟨#[98]⟩]
def ovA (k : Int) : V := .sl 8 [(.agg [(.int .i64 2), (.str ⟨#[]⟩), (.str ⟨#[97]⟩), (.sl 5 []), (.int .i64 0), (.sl 8 []), (.sl 8 []), (.int .i64 0)]), (.agg [(.int .i64 1), (.str ⟨#[120]⟩), (.str ⟨#[]⟩), (.sl 5 [(.agg [(.int .i64 k), (.int .i64 0), (.str ⟨#[]⟩), (.sl 5 [(.agg [(.int .i64 2), (.int .i64 0), (.str ⟨#[120]⟩), (.sl 5 []), (.int .i64 0)]), (.agg [(.int .i64 2), (.int .i64 0), (.str ⟨#[121]⟩), (.sl 5 []), (.int .i64 0)])]), (.int .i64 0)])]), (.int .i64 0), (.sl 8 []), (.sl 8 []), (.int .i64 0)]), (.agg [(.int .i64 2), (.str ⟨#[]⟩), (.str ⟨#[98]⟩), (.sl 5 []), (.int .i64 0), (.sl 8 []), (.sl 8 []), (.int .i64 0)])]
def nXY : V := .agg [(.sl 1 [(.str ⟨#[120]⟩), (.str ⟨#[121]⟩)]), (.sl 1 []), (.sl 1 []), (.sl 7 [])]
def OvX (G : ORC R) : Prop := ∀ (k : Int) (K : List V → Option R), 7 ≤ k → k ≤ 11 → G 19 [ovA k, nXY] K = K [.sl 4 (cOv k)]
def raV (s : ByteArray) : V := .agg [.str s, .int .i64 0]
theorem inr0 : InR 0 := by unfold InR; omega
theorem ov_run {m x y : Int} (h1 : 7 ≤ m) (h2 : m ≤ 11) (hx : InR x) (hy : InR y) :
    (∃ z, Run false 0 (cOv m) (clip 100) (st0 x y) 0 ⟨0, [z, y], [raV ⟨#[97]⟩, raV ⟨#[98]⟩], [], 8, 0⟩) ∨ ∃ e, e ≠ 0 ∧ Run false 0 (cOv m) (clip 100) (st0 x y) 0 ⟨0, [x, y], [raV ⟨#[97]⟩], [], 5, e⟩ := by
  have hF : clip 100 = 100 := by decide
  rw [hF]
  by_cases e0 : (twoR m x y).2 = 0
  · refine .inl ⟨(twoR m x y).1, ?_⟩
    refine .step (by simp [st0]) rfl (by decide) (.push (l := []) inr0) ?_
    refine .step (by simp [st0]) rfl (by decide) (.raise (l := [])) ?_
    refine .step (by simp [st0]) rfl (by decide) (.load (i := 0) rfl) ?_
    refine .step (by simp [st0]) rfl (by decide) (.load (i := 1) rfl) ?_
    refine .step (by simp [st0]) rfl (by decide) (e0 ▸ Stp.two (l := []) h1 (by omega) hx hy) ?_
    refine .step (by simp [st0]) rfl (by decide) (.store (i := 0) (l := []) (by simp)) ?_
    refine .step (by simp [st0]) rfl (by decide) (.push (l := []) inr0) ?_
    refine .step (by simp [st0]) rfl (by decide) (.raise (l := [])) ?_
    exact .fin (by show (8 : Int) ≤ 0 + 1 + 1 + 1 + 1 + 1 + 1 + 1 + 1; decide)
  · refine .inr ⟨_, e0, ?_⟩
    refine .step (by simp [st0]) rfl (by decide) (.push (l := []) inr0) ?_
    refine .step (by simp [st0]) rfl (by decide) (.raise (l := [])) ?_
    refine .step (by simp [st0]) rfl (by decide) (.load (i := 0) rfl) ?_
    refine .step (by simp [st0]) rfl (by decide) (.load (i := 1) rfl) ?_
    exact .err (by simp [st0]) rfl (by decide) (Stp.two (l := []) h1 (by omega) hx hy) e0
def OverOK (G : ORC R) : Prop := ∀ (x y op : Int) (K : List V → Option R), I64 x → I64 y → 0 ≤ op ∧ op < 256 → W (fun o => o = [.bool true]) K (G 12 [.int .i64 x, .int .i64 y, .int .u8 op] K)
theorem raS_v {l : List V} (h : ∀ v ∈ l, ∃ s, v = raV s) : RaS l := fun v hv => by obtain ⟨s, rfl⟩ := h v hv; exact ⟨_, _, rfl⟩
theorem over_law (hKn : KnX G) (hO : OvX G) (hL : LifeX G) (hE : RunX 31 G) (hR : RunX 32 G) (hS : SameX G) : OverOK (fun _ args (K : List V → Option R) => g12 G k args K) := by
  intro x y op K hx hy hop
  show W _ K (f12 G k x y op K)
  unfold f12
  unfold OvX at hO; unfold LifeX at hL; unfold RunX at hE hR; unfold SameX at hS
  have m1 := tmod_lt (v := op) (n := 5) (by omega)
  have m2 := Int.tmod_nonneg 5 hop.1
  rw [wrap_id (n := op) (by omega), wrap_id (n := 7 + Int.tmod op 5) (by omega)]
  generalize hm : 7 + Int.tmod op 5 = m
  refine W_show (hO m _ (by omega) (by omega)) ?_
  (repeat(with_reducible apply U1))
  refine W_call (hL _ _ _ _) ?_
  rintro _ rfl
  unfold lifeV
  (repeat(with_reducible apply U1))
  have hc : (cOv m).length ≤ 9999 := by show 8 ≤ 9999; omega
  rcases ov_run (m := m) (by omega) (by omega) hx hy with ⟨z, hd⟩ | ⟨e, he, hd⟩
  · refine W_call (hE false 0 _ x y 100 _ _ hd hc inr0) ?_
    rintro _ rfl
    unfold Dn.l
    (repeat(with_reducible apply U1))
    refine W_call (hL _ _ _ _) ?_
    rintro _ rfl
    unfold lifeV
    (repeat(with_reducible apply U1))
    refine W_call (hR false 0 _ x y 100 _ _ hd hc inr0) ?_
    rintro _ rfl
    unfold Dn.l
    (repeat(with_reducible apply U1))
    refine W_call (hS _ (fun _ => True) _ (raS_v (by intro v hv; simp only [List.mem_cons, List.not_mem_nil, or_false] at hv; rcases hv with rfl | rfl <;> exact ⟨_, rfl⟩)) efs0 (by simp) (by simp) (by simp)) ?_
    rintro _ rfl
    (repeat(with_reducible apply U1))
    refine W_not (W_chk rfl ?_)
    refine W_no (by simp) (W_yes (by simp) ?_)
    refine W_show (y := ca2 (raV ⟨#[97]⟩) _) rfl ?_
    unfold raV
    refine W_ca2 ?_
    (repeat(with_reducible apply U1))
    refine W_not (W_chk (by simp) ?_)
    refine W_neN rfl (W_yes (by simp [iv]) ?_)
    refine W_show (y := aI .i64 (.int .i64 y) _) rfl ?_
    (repeat(with_reducible apply U1))
    refine W_neN rfl ?_
    refine W_chk (by simp) (W_eqY rfl (knx_go hKn))
  · refine W_call (hE false 0 _ x y 100 _ _ hd hc inr0) ?_
    rintro _ rfl
    unfold Dn.l
    (repeat(with_reducible apply U1))
    refine W_call (hL _ _ _ _) ?_
    rintro _ rfl
    unfold lifeV
    (repeat(with_reducible apply U1))
    refine W_call (hR false 0 _ x y 100 _ _ hd hc inr0) ?_
    rintro _ rfl
    unfold Dn.l
    (repeat(with_reducible apply U1))
    refine W_call (hS _ (fun _ => True) _ (raS_v (by intro v hv; simp only [List.mem_cons, List.not_mem_nil, or_false] at hv; rcases hv with rfl; exact ⟨_, rfl⟩)) efs0 (by simp) (by simp) (by simp)) ?_
    rintro _ rfl
    (repeat(with_reducible apply U1))
    refine W_not (W_chk rfl ?_)
    refine W_no (by simp) (W_yes (by simp) ?_)
    refine W_show (y := ca2 (raV ⟨#[97]⟩) _) rfl ?_
    unfold raV
    refine W_ca2 ?_
    (repeat(with_reducible apply U1))
    refine W_not (W_chk (by simp) ?_)
    refine W_neN rfl (W_yes (by simp [iv]) ?_)
    refine W_show (y := aI .i64 (.int .i64 y) _) rfl ?_
    (repeat(with_reducible apply U1))
    refine W_neN rfl ?_
    refine W_chk (by simp [he]) (W_eqN he ?_)
    refine W_yes (by simp [iv]) ?_
    refine W_show (y := aI .i64 (.int .i64 x) _) rfl ?_
    (repeat(with_reducible apply U1))
    exact W_eqY rfl (W_eqY rfl (knx_go hKn))
end
def ovB (k : Nat) (G : ORC (List V)) : ORC (List V) := fun f args K => match f with
    | 12 => g12 G k args K
    | 19 => g19 G k args K
    | 26 => g26 G k args K
    | 28 => g28 G k args K
    | 30 => g30 G k args K
    | 31 => g31 G k args K
    | 32 => g32 G k args K
    | 33 => g33 G k args K
    | 40 => g40 G k args K
    | 42 => g42 G k args K
    | 43 => g43 G k args K
    | 44 => g44 G k args K
    | 46 => g46 G k args K
    | 47 => g47 G k args K
    | 48 => g48 G k args K
    | 49 => g49 G k args K
    | 54 => g54 G k args K
    | 61 => g61 G k args K
    | 62 => g62 G k args K
    | 63 => g63 G k args K
    | 64 => g64 G k args K
    | 65 => g65 G k args K
    | 66 => g66 G k args K
    | 67 => g67 G k args K
    | 68 => g68 G k args K
    | 69 => g69 G k args K
    | 70 => g70 G k args K
    | 71 => g71 G k args K
    | 72 => g72 G k args K
    | 73 => g73 G k args K
    | 74 => g74 G k args K
    | 75 => g75 G k args K
    | 76 => g76 G k args K
    | 77 => g77 G k args K
    | 78 => g78 G k args K
    | 79 => g79 G k args K
    | 80 => g80 G k args K
    | 81 => g81 G k args K
    | 86 => g86 G k args K
    | 89 => g89 G k args K
    | 90 => g90 G k args K
    | 91 => g91 G k args K
    | 92 => g92 G k args K
    | 93 => g93 G k args K
    | 94 => g94 G k args K
    | 95 => g95 G k args K
    | 96 => g96 G k args K
    | 97 => g97 G k args K
    | 98 => g98 G k args K
    | 99 => g99 G k args K
    | 100 => g100 G k args K
    | _ => none
def ov (k : Nat) : Nat → ORC (List V)
  | 0 => fun _ _ _ => none
  | j + 1 => fun f args K => (ovB k (ov k j) f args some).bind K
theorem ov_sound (k : Nat) : ∀ j, Sound Try.prog TAB (ov k j)
  | 0 => fun f args K r h => by cases h
  | j + 1 => fun f args K r h => by
    have ih := ov_sound k j
    have h : (ovB k (ov k j) f args some).bind K = some r := h
    cases hb : ovB k (ov k j) f args some with
    | none => rw [hb] at h; cases h
    | some o =>
    rw [hb] at h
    have key : ∃ o', CallOK Try.prog TAB.env f args o' ∧ some o' = some o := by
      unfold ovB at hb
      split at hb
      · exact s12 ih args some o hb
      · exact s19 ih args some o hb
      · exact s26 ih args some o hb
      · exact s28 ih args some o hb
      · exact s30 ih args some o hb
      · exact s31 ih args some o hb
      · exact s32 ih args some o hb
      · exact s33 ih args some o hb
      · exact s40 ih args some o hb
      · exact s42 ih args some o hb
      · exact s43 ih args some o hb
      · exact s44 ih args some o hb
      · exact s46 ih args some o hb
      · exact s47 ih args some o hb
      · exact s48 ih args some o hb
      · exact s49 ih args some o hb
      · exact s54 ih args some o hb
      · exact s61 ih args some o hb
      · exact s62 ih args some o hb
      · exact s63 ih args some o hb
      · exact s64 ih args some o hb
      · exact s65 ih args some o hb
      · exact s66 ih args some o hb
      · exact s67 ih args some o hb
      · exact s68 ih args some o hb
      · exact s69 ih args some o hb
      · exact s70 ih args some o hb
      · exact s71 ih args some o hb
      · exact s72 ih args some o hb
      · exact s73 ih args some o hb
      · exact s74 ih args some o hb
      · exact s75 ih args some o hb
      · exact s76 ih args some o hb
      · exact s77 ih args some o hb
      · exact s78 ih args some o hb
      · exact s79 ih args some o hb
      · exact s80 ih args some o hb
      · exact s81 ih args some o hb
      · exact s86 ih args some o hb
      · exact s89 ih args some o hb
      · exact s90 ih args some o hb
      · exact s91 ih args some o hb
      · exact s92 ih args some o hb
      · exact s93 ih args some o hb
      · exact s94 ih args some o hb
      · exact s95 ih args some o hb
      · exact s96 ih args some o hb
      · exact s97 ih args some o hb
      · exact s98 ih args some o hb
      · exact s99 ih args some o hb
      · exact s100 ih args some o hb
      · cases hb
    obtain ⟨o', h1, h2⟩ := key
    cases h2
    exact ⟨o, h1, h⟩
theorem ov_U {k j : Nat} {f : FuncId} {args : List V} {Q : List V → Prop} (h : W Q some (ovB k (ov k j) f args some)) : ∃ o, Q o ∧ ∀ K, ov k (j + 1) f args K = K o := by
  obtain ⟨o, q, e⟩ := h
  exact ⟨o, q, fun K => by show (ovB k (ov k j) f args some).bind K = _; rw [e]; rfl⟩
theorem ov_W {k j : Nat} {f : FuncId} {args : List V} {Q : List V → Prop} {K : List V → Option (List V)} (h : W Q some (ovB k (ov k j) f args some)) : W Q K (ov k (j + 1) f args K) := by
  obtain ⟨o, q, e⟩ := ov_U h
  exact ⟨o, q, e K⟩
set_option maxHeartbeats 8000000
section
def Ev (P : ORC (List V) → Prop) : Prop := ∃ N, ∀ j, N ≤ j → P (ov 1100000 j)
theorem ev0 {P : ORC (List V) → Prop} (h : ∀ j, P (ov 1100000 (j + 1))) : Ev P := ⟨1, fun j hj => by obtain ⟨j', rfl⟩ : ∃ j', j = j' + 1 := ⟨j - 1, by omega⟩; exact h j'⟩
theorem evS {A P : ORC (List V) → Prop} (hA : Ev A) (h : ∀ j, A (ov 1100000 j) → P (ov 1100000 (j + 1))) : Ev P := by
  obtain ⟨N, hN⟩ := hA
  refine ⟨N + 1, fun j hj => ?_⟩
  obtain ⟨j', rfl⟩ : ∃ j', j = j' + 1 := ⟨j - 1, by omega⟩
  exact h j' (hN j' (by omega))
theorem evA {A B : ORC (List V) → Prop} (hA : Ev A) (hB : Ev B) : Ev fun G => A G ∧ B G := by
  obtain ⟨N, hN⟩ := hA
  obtain ⟨M, hM⟩ := hB
  exact ⟨N + M, fun j hj => ⟨hN j (by omega), hM j (by omega)⟩⟩
end
theorem evNAdd : Ev (TwoX 95 fun a b => over (a + b)) := ev0 fun j => by have e := nadd_ok (G := ov 1100000 j) (k := 1100000); unfold TwoX at e ⊢; (intros; refine ov_W ?_; apply e <;> assumption)
theorem evNSub : Ev (TwoX 90 fun a b => over (a - b)) := ev0 fun j => by have e := nsub_ok (G := ov 1100000 j) (k := 1100000); unfold TwoX at e ⊢; (intros; refine ov_W ?_; apply e <;> assumption)
theorem evNMul : Ev (TwoX 92 fun a b => over (a * b)) := ev0 fun j => by have e := nmul_ok (G := ov 1100000 j) (k := 1100000); unfold TwoX at e ⊢; (intros; refine ov_W ?_; apply e <;> assumption)
theorem evNMod : Ev (TwoX 94 modR) := ev0 fun j => by have e := nmod_ok (G := ov 1100000 j) (k := 1100000); unfold TwoX at e ⊢; (intros; refine ov_W ?_; apply e <;> assumption)
theorem evNNeg : Ev (OneX 71) := evS evNSub fun j h => by have e := nneg_ok (G := ov 1100000 j) (k := 1100000) h; unfold OneX at e ⊢; (intros; refine ov_W ?_; apply e <;> assumption)
theorem evNDiv : Ev (TwoX 93 divR) := evS evNNeg fun j h => by have e := ndiv_ok (G := ov 1100000 j) (k := 1100000) h; unfold TwoX at e ⊢; (intros; refine ov_W ?_; apply e <;> assumption)
theorem evNTr : Ev (TrX 68) := ev0 fun j => by have e := ntr_ok (G := ov 1100000 j) (k := 1100000); unfold TrX at e ⊢; (intros; refine ov_W ?_; apply e <;> assumption)
theorem evInX : Ev InX := ev0 fun j => by have e := inx_ok (G := ov 1100000 j) (k := 1100000); unfold InX at e ⊢; (intros; refine ov_W ?_; apply e <;> assumption)
theorem evWiX : Ev WiX := evS evInX fun j h => by have e := wix_ok (G := ov 1100000 j) (k := 1100000) h; unfold WiX at e ⊢; (intros; refine ov_W ?_; apply e <;> assumption)
theorem evHasX : Ev HasX := evS (evA evWiX evInX) fun j h => by have e := hasx_ok (G := ov 1100000 j) (k := 1100000) h.1 h.2; unfold HasX at e ⊢; (intros; refine ov_W ?_; apply e <;> assumption)
theorem evOfX : Ev OfX := evS evWiX fun j h => by have e := ofx_ok (G := ov 1100000 j) (k := 1100000) (by omega) h; unfold OfX at e ⊢; (intros; refine ov_W ?_; apply e <;> assumption)
theorem evSureX : Ev SureX := ev0 fun j => by have e := sure_ok (G := ov 1100000 j) (k := 1100000); unfold SureX at e ⊢; (intros; refine ov_W ?_; apply e <;> assumption)
theorem evPairX : Ev PairX := evS (evA (evA (evA evNMul evNDiv) (evA evNMod evNAdd)) (evA (evA evNSub evSureX) evNTr)) fun j h => by
  have e := pair_ok (G := ov 1100000 j) (k := 1100000) h.1.1.1 h.1.1.2 h.1.2.1 h.1.2.2 h.2.1.1 h.2.1.2 h.2.2; unfold PairX at e ⊢; (intros; refine ov_W ?_; apply e <;> assumption)
theorem evTakeX : Ev TakeX := ev0 fun j => by have e := take_ok (G := ov 1100000 j) (k := 1100000); unfold TakeX at e ⊢; (intros; refine ov_W ?_; apply e <;> assumption)
theorem evMPutX : Ev MPutX := ev0 fun j => by have e := put_ok (G := ov 1100000 j) (k := 1100000); unfold MPutX at e ⊢; (intros; refine ov_W ?_; apply e <;> assumption)
theorem evEffX : Ev EffX := ev0 fun j => by have e := eff_ok (G := ov 1100000 j) (k := 1100000); unfold EffX at e ⊢; (intros; refine ov_W ?_; apply e <;> assumption)
theorem evTellX : Ev TellX := evS (evA evTakeX evEffX) fun j h => by have e := tell_ok (G := ov 1100000 j) (k := 1100000) h.1 h.2; unfold TellX at e ⊢; (intros; refine ov_W ?_; apply e <;> assumption)
theorem evMoveX : Ev MoveX := evS evTakeX fun j h => by have e := move_ok (G := ov 1100000 j) (k := 1100000) h; unfold MoveX at e ⊢; (intros; refine ov_W ?_; apply e <;> assumption)
theorem evStepX : Ev StepX := evS (evA (evA (evA evTakeX evMPutX) (evA evTellX evMoveX)) (evA (evA evHasX evNTr) (evA evNNeg (evA evSureX evPairX)))) fun j h => by
  have e := step_ok (G := ov 1100000 j) (k := 1100000) h.1.1.1 h.1.1.2 h.1.2.1 h.1.2.2 h.2.1.1 h.2.1.2 h.2.2.1 h.2.2.2.1 h.2.2.2.2; unfold StepX at e ⊢; (intros; refine ov_W ?_; apply e <;> assumption)
theorem evCloneX : Ev CloneX := ev0 fun j => by have e := clone_ok (G := ov 1100000 j) (k := 1100000); unfold CloneX at e ⊢; (intros; refine ov_W ?_; apply e <;> assumption)
theorem evERun : Ev (RunX 31) := evS (evA (evA evCloneX evOfX) evStepX) fun j h => by have e := erunx_ok (G := ov 1100000 j) (k := 1100000) (by omega) h.1.1 h.1.2 h.2; unfold RunX at e ⊢; (intros; refine ov_W ?_; apply e <;> assumption)
theorem evLifeX : Ev LifeX := ev0 fun j => by have e := life_ok (G := ov 1100000 j) (k := 1100000); unfold LifeX at e ⊢; (intros; refine ov_W ?_; apply e <;> assumption)
theorem evKnX : Ev KnX := by
  refine ⟨16, fun j hj => ?_⟩
  obtain ⟨j', rfl⟩ : ∃ j', j = j' + 16 := ⟨j - 16, by omega⟩
  intro K
  show _ = _
  kernel_rfl
theorem evRAdd : Ev (TwoX 100 fun a b => over (a + b)) := ev0 fun j => by have e := radd_ok (G := ov 1100000 j) (k := 1100000); unfold TwoX at e ⊢; (intros; refine ov_W ?_; apply e <;> assumption)
theorem evRSub : Ev (TwoX 96 fun a b => over (a - b)) := ev0 fun j => by have e := rsub_ok (G := ov 1100000 j) (k := 1100000); unfold TwoX at e ⊢; (intros; refine ov_W ?_; apply e <;> assumption)
theorem evRMul : Ev (TwoX 97 fun a b => over (a * b)) := ev0 fun j => by have e := rmul_ok (G := ov 1100000 j) (k := 1100000); unfold TwoX at e ⊢; (intros; refine ov_W ?_; apply e <;> assumption)
theorem evRMod : Ev (TwoX 99 modR) := ev0 fun j => by have e := rmod_ok (G := ov 1100000 j) (k := 1100000); unfold TwoX at e ⊢; (intros; refine ov_W ?_; apply e <;> assumption)
theorem evRNeg : Ev (OneX 80) := evS evRSub fun j h => by have e := rneg_ok (G := ov 1100000 j) (k := 1100000) h; unfold OneX at e ⊢; (intros; refine ov_W ?_; apply e <;> assumption)
theorem evRDiv : Ev (TwoX 98 divR) := ev0 fun j => by have e := rdiv_ok (G := ov 1100000 j) (k := 1100000); unfold TwoX at e ⊢; (intros; refine ov_W ?_; apply e <;> assumption)
theorem evRTr : Ev (TrX 77) := ev0 fun j => by have e := rtr_ok (G := ov 1100000 j) (k := 1100000); unfold TrX at e ⊢; (intros; refine ov_W ?_; apply e <;> assumption)
theorem evRHasX : Ev RHasX := ev0 fun j => by have e := rhasx_ok (G := ov 1100000 j) (k := 1100000) (by omega); unfold RHasX at e ⊢; (intros; refine ov_W ?_; apply e <;> assumption)
theorem evRTwoX : Ev RTwoX := evS (evA (evA (evA evRMul evRDiv) (evA evRMod evRAdd)) (evA evRSub evRTr)) fun j h => by
  have e := rtwo_ok (G := ov 1100000 j) (k := 1100000) h.1.1.1 h.1.1.2 h.1.2.1 h.1.2.2 h.2.1 h.2.2; unfold RTwoX at e ⊢; (intros; refine ov_W ?_; apply e <;> assumption)
theorem evRTakeX : Ev RTakeX := ev0 fun j => by have e := rtake_ok (G := ov 1100000 j) (k := 1100000); unfold RTakeX at e ⊢; (intros; refine ov_W ?_; apply e <;> assumption)
theorem evRPutX : Ev RPutX := ev0 fun j => by have e := rput_ok (G := ov 1100000 j) (k := 1100000); unfold RPutX at e ⊢; (intros; refine ov_W ?_; apply e <;> assumption)
theorem evRecX : Ev RecX := evS (evA (evA evRTakeX evRPutX) (evA (evA evRHasX evRTr) (evA evRNeg evRTwoX))) fun j h => by
  have e := rec_ok (G := ov 1100000 j) (k := 1100000) h.1.1 h.1.2 h.2.1.1 h.2.1.2 h.2.2.1 h.2.2.2; unfold RecX at e ⊢; (intros; refine ov_W ?_; apply e <;> assumption)
theorem evActX : Ev ActX := evS evRTakeX fun j h => by have e := act_ok (G := ov 1100000 j) (k := 1100000) h; unfold ActX at e ⊢; (intros; refine ov_W ?_; apply e <;> assumption)
theorem evRMoveX : Ev RMoveX := evS evRTakeX fun j h => by have e := rmove_ok (G := ov 1100000 j) (k := 1100000) h; unfold RMoveX at e ⊢; (intros; refine ov_W ?_; apply e <;> assumption)
theorem evRRun : Ev (RunX 32) := evS (evA evRecX (evA evActX evRMoveX)) fun j h => by have e := rrunx_ok (G := ov 1100000 j) (k := 1100000) (by omega) h.1 h.2.1 h.2.2; unfold RunX at e ⊢; (intros; refine ov_W ?_; apply e <;> assumption)
theorem evVarsX : Ev VarsX := ev0 fun j => by have e := vars_ok (G := ov 1100000 j) (k := 1100000) (by omega); unfold VarsX at e ⊢; (intros; refine ov_W ?_; apply e <;> assumption)
theorem evSameX : Ev SameX := evS evVarsX fun j h => by have e := same_ok (G := ov 1100000 j) (k := 1100000) (by omega) h; unfold SameX at e ⊢; (intros; refine ov_W ?_; apply e <;> assumption)
theorem evOvX : Ev OvX := by
  refine ⟨16, fun j hj => ?_⟩
  obtain ⟨j', rfl⟩ : ∃ j', j = j' + 16 := ⟨j - 16, by omega⟩
  intro k K h1 h2
  obtain rfl | rfl | rfl | rfl | rfl : k = 7 ∨ k = 8 ∨ k = 9 ∨ k = 10 ∨ k = 11 := by omega
  · show _ = _
    kernel_rfl
  · show _ = _
    kernel_rfl
  · show _ = _
    kernel_rfl
  · show _ = _
    kernel_rfl
  · show _ = _
    kernel_rfl
theorem evOverLaw : Ev OverOK := evS (evA (evA evKnX evOvX) (evA (evA evLifeX evERun) (evA evRRun evSameX))) fun j h => by
  have e := over_law (G := ov 1100000 j) (k := 1100000) h.1.1 h.1.2 h.2.1.1 h.2.1.2 h.2.2.1 h.2.2.2
  unfold OverOK at e ⊢; (intros; refine ov_W ?_; apply e <;> assumption)
end Go.Proofs.Ytdfjodnkplbffaa.Vm
