/- Functions of the program, told by the machine of values, and what they answer: a part. -/
import Derived.Test.YtdfjodnkplbffaaMo1
import Derived.Laws.BitsLemmas
import Derived.RowKit
import Derived.Test.YtdfjodnkplbffaaMoV4
open Go Go.VM
set_option linter.unusedVariables false
set_option maxRecDepth 100000
set_option maxHeartbeats 4000000
namespace Go.Proofs.Ytdfjodnkplbffaa.Vm
def P16_0h : Pat := { tmps := unds [.stat (.one (.ptr 0 0) .pt), .undef, .var (.int .i64) .pr, .undef, .stat (.one (.ptr 5 0) .pt), .undef, .undef, .var (.sl 8) (.own true), .var (.int .i64) .pr] 148 [], boxes := nons [some [.var (.sl 1) .ro true, .var (.int .i64) .pr false], none, none, none, none, some [.var (.sl 1) .ro false, .var (.sl 1) .ro false, .var (.sl 1) .ro false, .var (.sl 1) .ro false]] 152 [] }
def P16_0x : Pat := { tmps := unds [] 7 (unds [.var (.sl 8) (.own true)] 149 []), boxes := nons [some [.var (.sl 1) .ro true, .var (.int .i64) .pr false]] 157 [] }
def b16_0 {R : Type} (G : ORC R) (k : Nat) (X : Int → List V → Int → List V → Int → List V → List V → List V → List V → Option R) (Ko : List V → List V → Int → Option R) (xi13 : Int) (xl14 : List V) (xi15 : Int) (xl16 : List V) (xi17 : Int) (xl18 xl19 : List V) (xl20 xl21 : List V) : Option R :=
  (bif (decide (xi15 > 0)) then (G 36 [.int .i64 10, .sl 1 xl16, .int .i64 xi17] fun o22 => uI .i64 o22 fun n24 r23 => uI .i64 r23 fun n26 r25 => unNil r25 (G 23 [.agg [.sl 1 xl18, .sl 1 xl19, .sl 1 xl20, .sl 1 xl21], .int .i64 2, .sl 1 xl16, .int .i64 n26] fun o27 => uA o27 fun l29 r28 => uI .i64 l29 fun n31 r30 => uI .i64 r30 fun n33 r32 => uS r32 fun s35 r34 => uL 5 r34 fun l37 r36 => uI .i64 r36 fun n39 r38 => unNil r38 (uI .i64 r28 fun n41 r40 => unNil r40 (bif (decide (n24 < 3)) then (bif (decide ((xl18.length : Int) > 0)) then (G 37 [.sl 1 xl18, .str ⟨#[]⟩, .sl 1 xl16, .int .i64 n41] fun o42 => uS o42 fun s44 r43 => uI .i64 r43 fun n46 r45 => unNil r45 (bif (decide (List.length xl14 + 1 ≤ 1073741824)) then (X xi13 (xl14 ++ [.agg [.int .i64 1, .str s44, .str ⟨#[]⟩, .sl 5 [.agg [.int .i64 n31, .int .i64 n33, .str s35, .sl 5 l37, .int .i64 n39]], .int .i64 0, .sl 8 [], .sl 8 [], .int .i64 0]]) (IntKind.i64.wrap (xi15 - 1)) xl16 n46 xl18 xl19 xl20 xl21) else none)) else (bif (n24 == 3) then (G 36 [.int .i64 8, .sl 1 xl16, .int .i64 n41] fun o47 => uI .i64 o47 fun n49 r48 => uI .i64 r48 fun n51 r50 => unNil r50 (G 38 [.int .i64 n49] fun o52 => uS o52 fun s54 r53 => unNil r53 (G 36 [.int .i64 2, .sl 1 xl16, .int .i64 n51] fun o55 => uI .i64 o55 fun n57 r56 => uI .i64 r56 fun n59 r58 => unNil r58 (bif ((decide (0 ≤ n57)) && (decide (n57 ≤ 1))) then (bif (decide (List.length xl14 + 1 ≤ 1073741824)) then (X xi13 (xl14 ++ [.agg [.int .i64 2, .str ⟨#[]⟩, .str s54, .sl 5 (List.take (Int.toNat n57) [.agg [.int .i64 n31, .int .i64 n33, .str s35, .sl 5 l37, .int .i64 n39]]), .int .i64 0, .sl 8 [], .sl 8 [], .int .i64 0]]) (IntKind.i64.wrap (xi15 - 1)) xl16 n59 xl18 xl19 xl20 xl21) else none) else none)))) else (bif (decide (n24 < 7)) then (bif (decide ((xl19.length : Int) > 0)) then (G 37 [.sl 1 xl19, .str ⟨#[]⟩, .sl 1 xl16, .int .i64 n41] fun o60 => uS o60 fun s62 r61 => uI .i64 r61 fun n64 r63 => unNil r63 (G 36 [.int .i64 3, .sl 1 xl16, .int .i64 n64] fun o65 => uI .i64 o65 fun n67 r66 => uI .i64 r66 fun n69 r68 => unNil r68 (G 38 [.int .i64 n67] fun o70 => uS o70 fun s72 r71 => unNil r71 (G 36 [.int .i64 2, .sl 1 xl16, .int .i64 n69] fun o73 => uI .i64 o73 fun n75 r74 => uI .i64 r74 fun n77 r76 => unNil r76 (bif ((decide (0 ≤ n75)) && (decide (n75 ≤ 1))) then (bif (decide (List.length xl14 + 1 ≤ 1073741824)) then (X xi13 (xl14 ++ [.agg [.int .i64 3, .str s62, .str s72, .sl 5 (List.take (Int.toNat n75) [.agg [.int .i64 n31, .int .i64 n33, .str s35, .sl 5 l37, .int .i64 n39]]), .int .i64 0, .sl 8 [], .sl 8 [], .int .i64 0]]) (IntKind.i64.wrap (xi15 - 1)) xl16 n77 xl18 xl19 xl20 xl21) else none) else none))))) else (bif (n24 == 7) then (bif (decide ((xl20.length : Int) > 0)) then (G 37 [.sl 1 xl20, .str ⟨#[]⟩, .sl 1 xl16, .int .i64 n41] fun o78 => uS o78 fun s80 r79 => uI .i64 r79 fun n82 r81 => unNil r81 (G 36 [.int .i64 3, .sl 1 xl16, .int .i64 n82] fun o83 => uI .i64 o83 fun n85 r84 => uI .i64 r84 fun n87 r86 => unNil r86 (bif (decide (List.length xl14 + 1 ≤ 1073741824)) then (X xi13 (xl14 ++ [.agg [.int .i64 4, .str s80, .str ⟨#[]⟩, .sl 5 [.agg [.int .i64 1, .int .i64 (IntKind.i64.wrap (1 + n85)), .str ⟨#[]⟩, .sl 5 [], .int .i64 0]], .int .i64 0, .sl 8 [], .sl 8 [], .int .i64 0]]) (IntKind.i64.wrap (xi15 - 1)) xl16 n87 xl18 xl19 xl20 xl21) else none))) else (bif (n24 == 8) then (bif (decide ((xl20.length : Int) > 0)) then (G 37 [.sl 1 xl20, .str ⟨#[]⟩, .sl 1 xl16, .int .i64 n41] fun o88 => uS o88 fun s90 r89 => uI .i64 r89 fun n92 r91 => unNil r91 (bif (decide (List.length xl14 + 1 ≤ 1073741824)) then (X xi13 (xl14 ++ [.agg [.int .i64 5, .str s90, .str ⟨#[]⟩, .sl 5 [], .int .i64 0, .sl 8 [], .sl 8 [], .int .i64 0]]) (IntKind.i64.wrap (xi15 - 1)) xl16 n92 xl18 xl19 xl20 xl21) else none)) else (bif (decide (xi13 > 0)) then (bif ((Int.tmod n24 2) == 0) then (G 16 [.agg [.sl 1 xl18, .sl 1 xl19, .sl 1 xl20, .sl 1 xl21], .int .i64 (IntKind.i64.wrap (xi13 - 1)), .sl 1 xl16, .int .i64 n41] fun o93 => uL 8 o93 fun l95 r94 => uI .i64 r94 fun n97 r96 => unNil r96 (G 16 [.agg [.sl 1 xl18, .sl 1 xl19, .sl 1 xl20, .sl 1 xl21], .int .i64 (IntKind.i64.wrap (xi13 - 1)), .sl 1 xl16, .int .i64 n97] fun o98 => uL 8 o98 fun l100 r99 => uI .i64 r99 fun n102 r101 => unNil r101 (bif (decide (List.length xl14 + 1 ≤ 1073741824)) then (X xi13 (xl14 ++ [.agg [.int .i64 6, .str ⟨#[]⟩, .str ⟨#[]⟩, .sl 5 [.agg [.int .i64 n31, .int .i64 n33, .str s35, .sl 5 l37, .int .i64 n39]], .int .i64 0, .sl 8 l95, .sl 8 l100, .int .i64 0]]) (IntKind.i64.wrap (xi15 - 1)) xl16 n102 xl18 xl19 xl20 xl21) else none))) else (bif (decide (xi13 > 0)) then (G 36 [.int .i64 4, .sl 1 xl16, .int .i64 n41] fun o103 => uI .i64 o103 fun n105 r104 => uI .i64 r104 fun n107 r106 => unNil r106 (G 16 [.agg [.sl 1 xl18, .sl 1 xl19, .sl 1 xl20, .sl 1 xl21], .int .i64 (IntKind.i64.wrap (xi13 - 1)), .sl 1 xl16, .int .i64 n107] fun o108 => uL 8 o108 fun l110 r109 => uI .i64 r109 fun n112 r111 => unNil r111 (bif (decide (List.length xl14 + 1 ≤ 1073741824)) then (X xi13 (xl14 ++ [.agg [.int .i64 7, .str ⟨#[]⟩, .str ⟨#[]⟩, .sl 5 [], .int .i64 (IntKind.i64.wrap (1 + n105)), .sl 8 l110, .sl 8 [], .int .i64 0]]) (IntKind.i64.wrap (xi15 - 1)) xl16 n112 xl18 xl19 xl20 xl21) else none))) else (X xi13 xl14 (IntKind.i64.wrap (xi15 - 1)) xl16 n41 xl18 xl19 xl20 xl21))) else (bif (decide (xi13 > 0)) then (G 36 [.int .i64 4, .sl 1 xl16, .int .i64 n41] fun o113 => uI .i64 o113 fun n115 r114 => uI .i64 r114 fun n117 r116 => unNil r116 (G 16 [.agg [.sl 1 xl18, .sl 1 xl19, .sl 1 xl20, .sl 1 xl21], .int .i64 (IntKind.i64.wrap (xi13 - 1)), .sl 1 xl16, .int .i64 n117] fun o118 => uL 8 o118 fun l120 r119 => uI .i64 r119 fun n122 r121 => unNil r121 (bif (decide (List.length xl14 + 1 ≤ 1073741824)) then (X xi13 (xl14 ++ [.agg [.int .i64 7, .str ⟨#[]⟩, .str ⟨#[]⟩, .sl 5 [], .int .i64 (IntKind.i64.wrap (1 + n115)), .sl 8 l120, .sl 8 [], .int .i64 0]]) (IntKind.i64.wrap (xi15 - 1)) xl16 n122 xl18 xl19 xl20 xl21) else none))) else (X xi13 xl14 (IntKind.i64.wrap (xi15 - 1)) xl16 n41 xl18 xl19 xl20 xl21)))) else (bif (decide (xi13 > 0)) then (bif ((Int.tmod n24 2) == 0) then (G 16 [.agg [.sl 1 xl18, .sl 1 xl19, .sl 1 xl20, .sl 1 xl21], .int .i64 (IntKind.i64.wrap (xi13 - 1)), .sl 1 xl16, .int .i64 n41] fun o123 => uL 8 o123 fun l125 r124 => uI .i64 r124 fun n127 r126 => unNil r126 (G 16 [.agg [.sl 1 xl18, .sl 1 xl19, .sl 1 xl20, .sl 1 xl21], .int .i64 (IntKind.i64.wrap (xi13 - 1)), .sl 1 xl16, .int .i64 n127] fun o128 => uL 8 o128 fun l130 r129 => uI .i64 r129 fun n132 r131 => unNil r131 (bif (decide (List.length xl14 + 1 ≤ 1073741824)) then (X xi13 (xl14 ++ [.agg [.int .i64 6, .str ⟨#[]⟩, .str ⟨#[]⟩, .sl 5 [.agg [.int .i64 n31, .int .i64 n33, .str s35, .sl 5 l37, .int .i64 n39]], .int .i64 0, .sl 8 l125, .sl 8 l130, .int .i64 0]]) (IntKind.i64.wrap (xi15 - 1)) xl16 n132 xl18 xl19 xl20 xl21) else none))) else (bif (decide (xi13 > 0)) then (G 36 [.int .i64 4, .sl 1 xl16, .int .i64 n41] fun o133 => uI .i64 o133 fun n135 r134 => uI .i64 r134 fun n137 r136 => unNil r136 (G 16 [.agg [.sl 1 xl18, .sl 1 xl19, .sl 1 xl20, .sl 1 xl21], .int .i64 (IntKind.i64.wrap (xi13 - 1)), .sl 1 xl16, .int .i64 n137] fun o138 => uL 8 o138 fun l140 r139 => uI .i64 r139 fun n142 r141 => unNil r141 (bif (decide (List.length xl14 + 1 ≤ 1073741824)) then (X xi13 (xl14 ++ [.agg [.int .i64 7, .str ⟨#[]⟩, .str ⟨#[]⟩, .sl 5 [], .int .i64 (IntKind.i64.wrap (1 + n135)), .sl 8 l140, .sl 8 [], .int .i64 0]]) (IntKind.i64.wrap (xi15 - 1)) xl16 n142 xl18 xl19 xl20 xl21) else none))) else (X xi13 xl14 (IntKind.i64.wrap (xi15 - 1)) xl16 n41 xl18 xl19 xl20 xl21))) else (bif (decide (xi13 > 0)) then (G 36 [.int .i64 4, .sl 1 xl16, .int .i64 n41] fun o143 => uI .i64 o143 fun n145 r144 => uI .i64 r144 fun n147 r146 => unNil r146 (G 16 [.agg [.sl 1 xl18, .sl 1 xl19, .sl 1 xl20, .sl 1 xl21], .int .i64 (IntKind.i64.wrap (xi13 - 1)), .sl 1 xl16, .int .i64 n147] fun o148 => uL 8 o148 fun l150 r149 => uI .i64 r149 fun n152 r151 => unNil r151 (bif (decide (List.length xl14 + 1 ≤ 1073741824)) then (X xi13 (xl14 ++ [.agg [.int .i64 7, .str ⟨#[]⟩, .str ⟨#[]⟩, .sl 5 [], .int .i64 (IntKind.i64.wrap (1 + n145)), .sl 8 l150, .sl 8 [], .int .i64 0]]) (IntKind.i64.wrap (xi15 - 1)) xl16 n152 xl18 xl19 xl20 xl21) else none))) else (X xi13 xl14 (IntKind.i64.wrap (xi15 - 1)) xl16 n41 xl18 xl19 xl20 xl21))))) else (bif (n24 == 8) then (bif (decide ((xl20.length : Int) > 0)) then (G 37 [.sl 1 xl20, .str ⟨#[]⟩, .sl 1 xl16, .int .i64 n41] fun o153 => uS o153 fun s155 r154 => uI .i64 r154 fun n157 r156 => unNil r156 (bif (decide (List.length xl14 + 1 ≤ 1073741824)) then (X xi13 (xl14 ++ [.agg [.int .i64 5, .str s155, .str ⟨#[]⟩, .sl 5 [], .int .i64 0, .sl 8 [], .sl 8 [], .int .i64 0]]) (IntKind.i64.wrap (xi15 - 1)) xl16 n157 xl18 xl19 xl20 xl21) else none)) else (bif (decide (xi13 > 0)) then (bif ((Int.tmod n24 2) == 0) then (G 16 [.agg [.sl 1 xl18, .sl 1 xl19, .sl 1 xl20, .sl 1 xl21], .int .i64 (IntKind.i64.wrap (xi13 - 1)), .sl 1 xl16, .int .i64 n41] fun o158 => uL 8 o158 fun l160 r159 => uI .i64 r159 fun n162 r161 => unNil r161 (G 16 [.agg [.sl 1 xl18, .sl 1 xl19, .sl 1 xl20, .sl 1 xl21], .int .i64 (IntKind.i64.wrap (xi13 - 1)), .sl 1 xl16, .int .i64 n162] fun o163 => uL 8 o163 fun l165 r164 => uI .i64 r164 fun n167 r166 => unNil r166 (bif (decide (List.length xl14 + 1 ≤ 1073741824)) then (X xi13 (xl14 ++ [.agg [.int .i64 6, .str ⟨#[]⟩, .str ⟨#[]⟩, .sl 5 [.agg [.int .i64 n31, .int .i64 n33, .str s35, .sl 5 l37, .int .i64 n39]], .int .i64 0, .sl 8 l160, .sl 8 l165, .int .i64 0]]) (IntKind.i64.wrap (xi15 - 1)) xl16 n167 xl18 xl19 xl20 xl21) else none))) else (bif (decide (xi13 > 0)) then (G 36 [.int .i64 4, .sl 1 xl16, .int .i64 n41] fun o168 => uI .i64 o168 fun n170 r169 => uI .i64 r169 fun n172 r171 => unNil r171 (G 16 [.agg [.sl 1 xl18, .sl 1 xl19, .sl 1 xl20, .sl 1 xl21], .int .i64 (IntKind.i64.wrap (xi13 - 1)), .sl 1 xl16, .int .i64 n172] fun o173 => uL 8 o173 fun l175 r174 => uI .i64 r174 fun n177 r176 => unNil r176 (bif (decide (List.length xl14 + 1 ≤ 1073741824)) then (X xi13 (xl14 ++ [.agg [.int .i64 7, .str ⟨#[]⟩, .str ⟨#[]⟩, .sl 5 [], .int .i64 (IntKind.i64.wrap (1 + n170)), .sl 8 l175, .sl 8 [], .int .i64 0]]) (IntKind.i64.wrap (xi15 - 1)) xl16 n177 xl18 xl19 xl20 xl21) else none))) else (X xi13 xl14 (IntKind.i64.wrap (xi15 - 1)) xl16 n41 xl18 xl19 xl20 xl21))) else (bif (decide (xi13 > 0)) then (G 36 [.int .i64 4, .sl 1 xl16, .int .i64 n41] fun o178 => uI .i64 o178 fun n180 r179 => uI .i64 r179 fun n182 r181 => unNil r181 (G 16 [.agg [.sl 1 xl18, .sl 1 xl19, .sl 1 xl20, .sl 1 xl21], .int .i64 (IntKind.i64.wrap (xi13 - 1)), .sl 1 xl16, .int .i64 n182] fun o183 => uL 8 o183 fun l185 r184 => uI .i64 r184 fun n187 r186 => unNil r186 (bif (decide (List.length xl14 + 1 ≤ 1073741824)) then (X xi13 (xl14 ++ [.agg [.int .i64 7, .str ⟨#[]⟩, .str ⟨#[]⟩, .sl 5 [], .int .i64 (IntKind.i64.wrap (1 + n180)), .sl 8 l185, .sl 8 [], .int .i64 0]]) (IntKind.i64.wrap (xi15 - 1)) xl16 n187 xl18 xl19 xl20 xl21) else none))) else (X xi13 xl14 (IntKind.i64.wrap (xi15 - 1)) xl16 n41 xl18 xl19 xl20 xl21)))) else (bif (decide (xi13 > 0)) then (bif ((Int.tmod n24 2) == 0) then (G 16 [.agg [.sl 1 xl18, .sl 1 xl19, .sl 1 xl20, .sl 1 xl21], .int .i64 (IntKind.i64.wrap (xi13 - 1)), .sl 1 xl16, .int .i64 n41] fun o188 => uL 8 o188 fun l190 r189 => uI .i64 r189 fun n192 r191 => unNil r191 (G 16 [.agg [.sl 1 xl18, .sl 1 xl19, .sl 1 xl20, .sl 1 xl21], .int .i64 (IntKind.i64.wrap (xi13 - 1)), .sl 1 xl16, .int .i64 n192] fun o193 => uL 8 o193 fun l195 r194 => uI .i64 r194 fun n197 r196 => unNil r196 (bif (decide (List.length xl14 + 1 ≤ 1073741824)) then (X xi13 (xl14 ++ [.agg [.int .i64 6, .str ⟨#[]⟩, .str ⟨#[]⟩, .sl 5 [.agg [.int .i64 n31, .int .i64 n33, .str s35, .sl 5 l37, .int .i64 n39]], .int .i64 0, .sl 8 l190, .sl 8 l195, .int .i64 0]]) (IntKind.i64.wrap (xi15 - 1)) xl16 n197 xl18 xl19 xl20 xl21) else none))) else (bif (decide (xi13 > 0)) then (G 36 [.int .i64 4, .sl 1 xl16, .int .i64 n41] fun o198 => uI .i64 o198 fun n200 r199 => uI .i64 r199 fun n202 r201 => unNil r201 (G 16 [.agg [.sl 1 xl18, .sl 1 xl19, .sl 1 xl20, .sl 1 xl21], .int .i64 (IntKind.i64.wrap (xi13 - 1)), .sl 1 xl16, .int .i64 n202] fun o203 => uL 8 o203 fun l205 r204 => uI .i64 r204 fun n207 r206 => unNil r206 (bif (decide (List.length xl14 + 1 ≤ 1073741824)) then (X xi13 (xl14 ++ [.agg [.int .i64 7, .str ⟨#[]⟩, .str ⟨#[]⟩, .sl 5 [], .int .i64 (IntKind.i64.wrap (1 + n200)), .sl 8 l205, .sl 8 [], .int .i64 0]]) (IntKind.i64.wrap (xi15 - 1)) xl16 n207 xl18 xl19 xl20 xl21) else none))) else (X xi13 xl14 (IntKind.i64.wrap (xi15 - 1)) xl16 n41 xl18 xl19 xl20 xl21))) else (bif (decide (xi13 > 0)) then (G 36 [.int .i64 4, .sl 1 xl16, .int .i64 n41] fun o208 => uI .i64 o208 fun n210 r209 => uI .i64 r209 fun n212 r211 => unNil r211 (G 16 [.agg [.sl 1 xl18, .sl 1 xl19, .sl 1 xl20, .sl 1 xl21], .int .i64 (IntKind.i64.wrap (xi13 - 1)), .sl 1 xl16, .int .i64 n212] fun o213 => uL 8 o213 fun l215 r214 => uI .i64 r214 fun n217 r216 => unNil r216 (bif (decide (List.length xl14 + 1 ≤ 1073741824)) then (X xi13 (xl14 ++ [.agg [.int .i64 7, .str ⟨#[]⟩, .str ⟨#[]⟩, .sl 5 [], .int .i64 (IntKind.i64.wrap (1 + n210)), .sl 8 l215, .sl 8 [], .int .i64 0]]) (IntKind.i64.wrap (xi15 - 1)) xl16 n217 xl18 xl19 xl20 xl21) else none))) else (X xi13 xl14 (IntKind.i64.wrap (xi15 - 1)) xl16 n41 xl18 xl19 xl20 xl21)))))) else (bif (n24 == 7) then (bif (decide ((xl20.length : Int) > 0)) then (G 37 [.sl 1 xl20, .str ⟨#[]⟩, .sl 1 xl16, .int .i64 n41] fun o218 => uS o218 fun s220 r219 => uI .i64 r219 fun n222 r221 => unNil r221 (G 36 [.int .i64 3, .sl 1 xl16, .int .i64 n222] fun o223 => uI .i64 o223 fun n225 r224 => uI .i64 r224 fun n227 r226 => unNil r226 (bif (decide (List.length xl14 + 1 ≤ 1073741824)) then (X xi13 (xl14 ++ [.agg [.int .i64 4, .str s220, .str ⟨#[]⟩, .sl 5 [.agg [.int .i64 1, .int .i64 (IntKind.i64.wrap (1 + n225)), .str ⟨#[]⟩, .sl 5 [], .int .i64 0]], .int .i64 0, .sl 8 [], .sl 8 [], .int .i64 0]]) (IntKind.i64.wrap (xi15 - 1)) xl16 n227 xl18 xl19 xl20 xl21) else none))) else (bif (n24 == 8) then (bif (decide ((xl20.length : Int) > 0)) then (G 37 [.sl 1 xl20, .str ⟨#[]⟩, .sl 1 xl16, .int .i64 n41] fun o228 => uS o228 fun s230 r229 => uI .i64 r229 fun n232 r231 => unNil r231 (bif (decide (List.length xl14 + 1 ≤ 1073741824)) then (X xi13 (xl14 ++ [.agg [.int .i64 5, .str s230, .str ⟨#[]⟩, .sl 5 [], .int .i64 0, .sl 8 [], .sl 8 [], .int .i64 0]]) (IntKind.i64.wrap (xi15 - 1)) xl16 n232 xl18 xl19 xl20 xl21) else none)) else (bif (decide (xi13 > 0)) then (bif ((Int.tmod n24 2) == 0) then (G 16 [.agg [.sl 1 xl18, .sl 1 xl19, .sl 1 xl20, .sl 1 xl21], .int .i64 (IntKind.i64.wrap (xi13 - 1)), .sl 1 xl16, .int .i64 n41] fun o233 => uL 8 o233 fun l235 r234 => uI .i64 r234 fun n237 r236 => unNil r236 (G 16 [.agg [.sl 1 xl18, .sl 1 xl19, .sl 1 xl20, .sl 1 xl21], .int .i64 (IntKind.i64.wrap (xi13 - 1)), .sl 1 xl16, .int .i64 n237] fun o238 => uL 8 o238 fun l240 r239 => uI .i64 r239 fun n242 r241 => unNil r241 (bif (decide (List.length xl14 + 1 ≤ 1073741824)) then (X xi13 (xl14 ++ [.agg [.int .i64 6, .str ⟨#[]⟩, .str ⟨#[]⟩, .sl 5 [.agg [.int .i64 n31, .int .i64 n33, .str s35, .sl 5 l37, .int .i64 n39]], .int .i64 0, .sl 8 l235, .sl 8 l240, .int .i64 0]]) (IntKind.i64.wrap (xi15 - 1)) xl16 n242 xl18 xl19 xl20 xl21) else none))) else (bif (decide (xi13 > 0)) then (G 36 [.int .i64 4, .sl 1 xl16, .int .i64 n41] fun o243 => uI .i64 o243 fun n245 r244 => uI .i64 r244 fun n247 r246 => unNil r246 (G 16 [.agg [.sl 1 xl18, .sl 1 xl19, .sl 1 xl20, .sl 1 xl21], .int .i64 (IntKind.i64.wrap (xi13 - 1)), .sl 1 xl16, .int .i64 n247] fun o248 => uL 8 o248 fun l250 r249 => uI .i64 r249 fun n252 r251 => unNil r251 (bif (decide (List.length xl14 + 1 ≤ 1073741824)) then (X xi13 (xl14 ++ [.agg [.int .i64 7, .str ⟨#[]⟩, .str ⟨#[]⟩, .sl 5 [], .int .i64 (IntKind.i64.wrap (1 + n245)), .sl 8 l250, .sl 8 [], .int .i64 0]]) (IntKind.i64.wrap (xi15 - 1)) xl16 n252 xl18 xl19 xl20 xl21) else none))) else (X xi13 xl14 (IntKind.i64.wrap (xi15 - 1)) xl16 n41 xl18 xl19 xl20 xl21))) else (bif (decide (xi13 > 0)) then (G 36 [.int .i64 4, .sl 1 xl16, .int .i64 n41] fun o253 => uI .i64 o253 fun n255 r254 => uI .i64 r254 fun n257 r256 => unNil r256 (G 16 [.agg [.sl 1 xl18, .sl 1 xl19, .sl 1 xl20, .sl 1 xl21], .int .i64 (IntKind.i64.wrap (xi13 - 1)), .sl 1 xl16, .int .i64 n257] fun o258 => uL 8 o258 fun l260 r259 => uI .i64 r259 fun n262 r261 => unNil r261 (bif (decide (List.length xl14 + 1 ≤ 1073741824)) then (X xi13 (xl14 ++ [.agg [.int .i64 7, .str ⟨#[]⟩, .str ⟨#[]⟩, .sl 5 [], .int .i64 (IntKind.i64.wrap (1 + n255)), .sl 8 l260, .sl 8 [], .int .i64 0]]) (IntKind.i64.wrap (xi15 - 1)) xl16 n262 xl18 xl19 xl20 xl21) else none))) else (X xi13 xl14 (IntKind.i64.wrap (xi15 - 1)) xl16 n41 xl18 xl19 xl20 xl21)))) else (bif (decide (xi13 > 0)) then (bif ((Int.tmod n24 2) == 0) then (G 16 [.agg [.sl 1 xl18, .sl 1 xl19, .sl 1 xl20, .sl 1 xl21], .int .i64 (IntKind.i64.wrap (xi13 - 1)), .sl 1 xl16, .int .i64 n41] fun o263 => uL 8 o263 fun l265 r264 => uI .i64 r264 fun n267 r266 => unNil r266 (G 16 [.agg [.sl 1 xl18, .sl 1 xl19, .sl 1 xl20, .sl 1 xl21], .int .i64 (IntKind.i64.wrap (xi13 - 1)), .sl 1 xl16, .int .i64 n267] fun o268 => uL 8 o268 fun l270 r269 => uI .i64 r269 fun n272 r271 => unNil r271 (bif (decide (List.length xl14 + 1 ≤ 1073741824)) then (X xi13 (xl14 ++ [.agg [.int .i64 6, .str ⟨#[]⟩, .str ⟨#[]⟩, .sl 5 [.agg [.int .i64 n31, .int .i64 n33, .str s35, .sl 5 l37, .int .i64 n39]], .int .i64 0, .sl 8 l265, .sl 8 l270, .int .i64 0]]) (IntKind.i64.wrap (xi15 - 1)) xl16 n272 xl18 xl19 xl20 xl21) else none))) else (bif (decide (xi13 > 0)) then (G 36 [.int .i64 4, .sl 1 xl16, .int .i64 n41] fun o273 => uI .i64 o273 fun n275 r274 => uI .i64 r274 fun n277 r276 => unNil r276 (G 16 [.agg [.sl 1 xl18, .sl 1 xl19, .sl 1 xl20, .sl 1 xl21], .int .i64 (IntKind.i64.wrap (xi13 - 1)), .sl 1 xl16, .int .i64 n277] fun o278 => uL 8 o278 fun l280 r279 => uI .i64 r279 fun n282 r281 => unNil r281 (bif (decide (List.length xl14 + 1 ≤ 1073741824)) then (X xi13 (xl14 ++ [.agg [.int .i64 7, .str ⟨#[]⟩, .str ⟨#[]⟩, .sl 5 [], .int .i64 (IntKind.i64.wrap (1 + n275)), .sl 8 l280, .sl 8 [], .int .i64 0]]) (IntKind.i64.wrap (xi15 - 1)) xl16 n282 xl18 xl19 xl20 xl21) else none))) else (X xi13 xl14 (IntKind.i64.wrap (xi15 - 1)) xl16 n41 xl18 xl19 xl20 xl21))) else (bif (decide (xi13 > 0)) then (G 36 [.int .i64 4, .sl 1 xl16, .int .i64 n41] fun o283 => uI .i64 o283 fun n285 r284 => uI .i64 r284 fun n287 r286 => unNil r286 (G 16 [.agg [.sl 1 xl18, .sl 1 xl19, .sl 1 xl20, .sl 1 xl21], .int .i64 (IntKind.i64.wrap (xi13 - 1)), .sl 1 xl16, .int .i64 n287] fun o288 => uL 8 o288 fun l290 r289 => uI .i64 r289 fun n292 r291 => unNil r291 (bif (decide (List.length xl14 + 1 ≤ 1073741824)) then (X xi13 (xl14 ++ [.agg [.int .i64 7, .str ⟨#[]⟩, .str ⟨#[]⟩, .sl 5 [], .int .i64 (IntKind.i64.wrap (1 + n285)), .sl 8 l290, .sl 8 [], .int .i64 0]]) (IntKind.i64.wrap (xi15 - 1)) xl16 n292 xl18 xl19 xl20 xl21) else none))) else (X xi13 xl14 (IntKind.i64.wrap (xi15 - 1)) xl16 n41 xl18 xl19 xl20 xl21))))) else (bif (n24 == 8) then (bif (decide ((xl20.length : Int) > 0)) then (G 37 [.sl 1 xl20, .str ⟨#[]⟩, .sl 1 xl16, .int .i64 n41] fun o293 => uS o293 fun s295 r294 => uI .i64 r294 fun n297 r296 => unNil r296 (bif (decide (List.length xl14 + 1 ≤ 1073741824)) then (X xi13 (xl14 ++ [.agg [.int .i64 5, .str s295, .str ⟨#[]⟩, .sl 5 [], .int .i64 0, .sl 8 [], .sl 8 [], .int .i64 0]]) (IntKind.i64.wrap (xi15 - 1)) xl16 n297 xl18 xl19 xl20 xl21) else none)) else (bif (decide (xi13 > 0)) then (bif ((Int.tmod n24 2) == 0) then (G 16 [.agg [.sl 1 xl18, .sl 1 xl19, .sl 1 xl20, .sl 1 xl21], .int .i64 (IntKind.i64.wrap (xi13 - 1)), .sl 1 xl16, .int .i64 n41] fun o298 => uL 8 o298 fun l300 r299 => uI .i64 r299 fun n302 r301 => unNil r301 (G 16 [.agg [.sl 1 xl18, .sl 1 xl19, .sl 1 xl20, .sl 1 xl21], .int .i64 (IntKind.i64.wrap (xi13 - 1)), .sl 1 xl16, .int .i64 n302] fun o303 => uL 8 o303 fun l305 r304 => uI .i64 r304 fun n307 r306 => unNil r306 (bif (decide (List.length xl14 + 1 ≤ 1073741824)) then (X xi13 (xl14 ++ [.agg [.int .i64 6, .str ⟨#[]⟩, .str ⟨#[]⟩, .sl 5 [.agg [.int .i64 n31, .int .i64 n33, .str s35, .sl 5 l37, .int .i64 n39]], .int .i64 0, .sl 8 l300, .sl 8 l305, .int .i64 0]]) (IntKind.i64.wrap (xi15 - 1)) xl16 n307 xl18 xl19 xl20 xl21) else none))) else (bif (decide (xi13 > 0)) then (G 36 [.int .i64 4, .sl 1 xl16, .int .i64 n41] fun o308 => uI .i64 o308 fun n310 r309 => uI .i64 r309 fun n312 r311 => unNil r311 (G 16 [.agg [.sl 1 xl18, .sl 1 xl19, .sl 1 xl20, .sl 1 xl21], .int .i64 (IntKind.i64.wrap (xi13 - 1)), .sl 1 xl16, .int .i64 n312] fun o313 => uL 8 o313 fun l315 r314 => uI .i64 r314 fun n317 r316 => unNil r316 (bif (decide (List.length xl14 + 1 ≤ 1073741824)) then (X xi13 (xl14 ++ [.agg [.int .i64 7, .str ⟨#[]⟩, .str ⟨#[]⟩, .sl 5 [], .int .i64 (IntKind.i64.wrap (1 + n310)), .sl 8 l315, .sl 8 [], .int .i64 0]]) (IntKind.i64.wrap (xi15 - 1)) xl16 n317 xl18 xl19 xl20 xl21) else none))) else (X xi13 xl14 (IntKind.i64.wrap (xi15 - 1)) xl16 n41 xl18 xl19 xl20 xl21))) else (bif (decide (xi13 > 0)) then (G 36 [.int .i64 4, .sl 1 xl16, .int .i64 n41] fun o318 => uI .i64 o318 fun n320 r319 => uI .i64 r319 fun n322 r321 => unNil r321 (G 16 [.agg [.sl 1 xl18, .sl 1 xl19, .sl 1 xl20, .sl 1 xl21], .int .i64 (IntKind.i64.wrap (xi13 - 1)), .sl 1 xl16, .int .i64 n322] fun o323 => uL 8 o323 fun l325 r324 => uI .i64 r324 fun n327 r326 => unNil r326 (bif (decide (List.length xl14 + 1 ≤ 1073741824)) then (X xi13 (xl14 ++ [.agg [.int .i64 7, .str ⟨#[]⟩, .str ⟨#[]⟩, .sl 5 [], .int .i64 (IntKind.i64.wrap (1 + n320)), .sl 8 l325, .sl 8 [], .int .i64 0]]) (IntKind.i64.wrap (xi15 - 1)) xl16 n327 xl18 xl19 xl20 xl21) else none))) else (X xi13 xl14 (IntKind.i64.wrap (xi15 - 1)) xl16 n41 xl18 xl19 xl20 xl21)))) else (bif (decide (xi13 > 0)) then (bif ((Int.tmod n24 2) == 0) then (G 16 [.agg [.sl 1 xl18, .sl 1 xl19, .sl 1 xl20, .sl 1 xl21], .int .i64 (IntKind.i64.wrap (xi13 - 1)), .sl 1 xl16, .int .i64 n41] fun o328 => uL 8 o328 fun l330 r329 => uI .i64 r329 fun n332 r331 => unNil r331 (G 16 [.agg [.sl 1 xl18, .sl 1 xl19, .sl 1 xl20, .sl 1 xl21], .int .i64 (IntKind.i64.wrap (xi13 - 1)), .sl 1 xl16, .int .i64 n332] fun o333 => uL 8 o333 fun l335 r334 => uI .i64 r334 fun n337 r336 => unNil r336 (bif (decide (List.length xl14 + 1 ≤ 1073741824)) then (X xi13 (xl14 ++ [.agg [.int .i64 6, .str ⟨#[]⟩, .str ⟨#[]⟩, .sl 5 [.agg [.int .i64 n31, .int .i64 n33, .str s35, .sl 5 l37, .int .i64 n39]], .int .i64 0, .sl 8 l330, .sl 8 l335, .int .i64 0]]) (IntKind.i64.wrap (xi15 - 1)) xl16 n337 xl18 xl19 xl20 xl21) else none))) else (bif (decide (xi13 > 0)) then (G 36 [.int .i64 4, .sl 1 xl16, .int .i64 n41] fun o338 => uI .i64 o338 fun n340 r339 => uI .i64 r339 fun n342 r341 => unNil r341 (G 16 [.agg [.sl 1 xl18, .sl 1 xl19, .sl 1 xl20, .sl 1 xl21], .int .i64 (IntKind.i64.wrap (xi13 - 1)), .sl 1 xl16, .int .i64 n342] fun o343 => uL 8 o343 fun l345 r344 => uI .i64 r344 fun n347 r346 => unNil r346 (bif (decide (List.length xl14 + 1 ≤ 1073741824)) then (X xi13 (xl14 ++ [.agg [.int .i64 7, .str ⟨#[]⟩, .str ⟨#[]⟩, .sl 5 [], .int .i64 (IntKind.i64.wrap (1 + n340)), .sl 8 l345, .sl 8 [], .int .i64 0]]) (IntKind.i64.wrap (xi15 - 1)) xl16 n347 xl18 xl19 xl20 xl21) else none))) else (X xi13 xl14 (IntKind.i64.wrap (xi15 - 1)) xl16 n41 xl18 xl19 xl20 xl21))) else (bif (decide (xi13 > 0)) then (G 36 [.int .i64 4, .sl 1 xl16, .int .i64 n41] fun o348 => uI .i64 o348 fun n350 r349 => uI .i64 r349 fun n352 r351 => unNil r351 (G 16 [.agg [.sl 1 xl18, .sl 1 xl19, .sl 1 xl20, .sl 1 xl21], .int .i64 (IntKind.i64.wrap (xi13 - 1)), .sl 1 xl16, .int .i64 n352] fun o353 => uL 8 o353 fun l355 r354 => uI .i64 r354 fun n357 r356 => unNil r356 (bif (decide (List.length xl14 + 1 ≤ 1073741824)) then (X xi13 (xl14 ++ [.agg [.int .i64 7, .str ⟨#[]⟩, .str ⟨#[]⟩, .sl 5 [], .int .i64 (IntKind.i64.wrap (1 + n350)), .sl 8 l355, .sl 8 [], .int .i64 0]]) (IntKind.i64.wrap (xi15 - 1)) xl16 n357 xl18 xl19 xl20 xl21) else none))) else (X xi13 xl14 (IntKind.i64.wrap (xi15 - 1)) xl16 n41 xl18 xl19 xl20 xl21)))))))) else (bif (n24 == 3) then (G 36 [.int .i64 8, .sl 1 xl16, .int .i64 n41] fun o358 => uI .i64 o358 fun n360 r359 => uI .i64 r359 fun n362 r361 => unNil r361 (G 38 [.int .i64 n360] fun o363 => uS o363 fun s365 r364 => unNil r364 (G 36 [.int .i64 2, .sl 1 xl16, .int .i64 n362] fun o366 => uI .i64 o366 fun n368 r367 => uI .i64 r367 fun n370 r369 => unNil r369 (bif ((decide (0 ≤ n368)) && (decide (n368 ≤ 1))) then (bif (decide (List.length xl14 + 1 ≤ 1073741824)) then (X xi13 (xl14 ++ [.agg [.int .i64 2, .str ⟨#[]⟩, .str s365, .sl 5 (List.take (Int.toNat n368) [.agg [.int .i64 n31, .int .i64 n33, .str s35, .sl 5 l37, .int .i64 n39]]), .int .i64 0, .sl 8 [], .sl 8 [], .int .i64 0]]) (IntKind.i64.wrap (xi15 - 1)) xl16 n370 xl18 xl19 xl20 xl21) else none) else none)))) else (bif (decide (n24 < 7)) then (bif (decide ((xl19.length : Int) > 0)) then (G 37 [.sl 1 xl19, .str ⟨#[]⟩, .sl 1 xl16, .int .i64 n41] fun o371 => uS o371 fun s373 r372 => uI .i64 r372 fun n375 r374 => unNil r374 (G 36 [.int .i64 3, .sl 1 xl16, .int .i64 n375] fun o376 => uI .i64 o376 fun n378 r377 => uI .i64 r377 fun n380 r379 => unNil r379 (G 38 [.int .i64 n378] fun o381 => uS o381 fun s383 r382 => unNil r382 (G 36 [.int .i64 2, .sl 1 xl16, .int .i64 n380] fun o384 => uI .i64 o384 fun n386 r385 => uI .i64 r385 fun n388 r387 => unNil r387 (bif ((decide (0 ≤ n386)) && (decide (n386 ≤ 1))) then (bif (decide (List.length xl14 + 1 ≤ 1073741824)) then (X xi13 (xl14 ++ [.agg [.int .i64 3, .str s373, .str s383, .sl 5 (List.take (Int.toNat n386) [.agg [.int .i64 n31, .int .i64 n33, .str s35, .sl 5 l37, .int .i64 n39]]), .int .i64 0, .sl 8 [], .sl 8 [], .int .i64 0]]) (IntKind.i64.wrap (xi15 - 1)) xl16 n388 xl18 xl19 xl20 xl21) else none) else none))))) else (bif (n24 == 7) then (bif (decide ((xl20.length : Int) > 0)) then (G 37 [.sl 1 xl20, .str ⟨#[]⟩, .sl 1 xl16, .int .i64 n41] fun o389 => uS o389 fun s391 r390 => uI .i64 r390 fun n393 r392 => unNil r392 (G 36 [.int .i64 3, .sl 1 xl16, .int .i64 n393] fun o394 => uI .i64 o394 fun n396 r395 => uI .i64 r395 fun n398 r397 => unNil r397 (bif (decide (List.length xl14 + 1 ≤ 1073741824)) then (X xi13 (xl14 ++ [.agg [.int .i64 4, .str s391, .str ⟨#[]⟩, .sl 5 [.agg [.int .i64 1, .int .i64 (IntKind.i64.wrap (1 + n396)), .str ⟨#[]⟩, .sl 5 [], .int .i64 0]], .int .i64 0, .sl 8 [], .sl 8 [], .int .i64 0]]) (IntKind.i64.wrap (xi15 - 1)) xl16 n398 xl18 xl19 xl20 xl21) else none))) else (bif (n24 == 8) then (bif (decide ((xl20.length : Int) > 0)) then (G 37 [.sl 1 xl20, .str ⟨#[]⟩, .sl 1 xl16, .int .i64 n41] fun o399 => uS o399 fun s401 r400 => uI .i64 r400 fun n403 r402 => unNil r402 (bif (decide (List.length xl14 + 1 ≤ 1073741824)) then (X xi13 (xl14 ++ [.agg [.int .i64 5, .str s401, .str ⟨#[]⟩, .sl 5 [], .int .i64 0, .sl 8 [], .sl 8 [], .int .i64 0]]) (IntKind.i64.wrap (xi15 - 1)) xl16 n403 xl18 xl19 xl20 xl21) else none)) else (bif (decide (xi13 > 0)) then (bif ((Int.tmod n24 2) == 0) then (G 16 [.agg [.sl 1 xl18, .sl 1 xl19, .sl 1 xl20, .sl 1 xl21], .int .i64 (IntKind.i64.wrap (xi13 - 1)), .sl 1 xl16, .int .i64 n41] fun o404 => uL 8 o404 fun l406 r405 => uI .i64 r405 fun n408 r407 => unNil r407 (G 16 [.agg [.sl 1 xl18, .sl 1 xl19, .sl 1 xl20, .sl 1 xl21], .int .i64 (IntKind.i64.wrap (xi13 - 1)), .sl 1 xl16, .int .i64 n408] fun o409 => uL 8 o409 fun l411 r410 => uI .i64 r410 fun n413 r412 => unNil r412 (bif (decide (List.length xl14 + 1 ≤ 1073741824)) then (X xi13 (xl14 ++ [.agg [.int .i64 6, .str ⟨#[]⟩, .str ⟨#[]⟩, .sl 5 [.agg [.int .i64 n31, .int .i64 n33, .str s35, .sl 5 l37, .int .i64 n39]], .int .i64 0, .sl 8 l406, .sl 8 l411, .int .i64 0]]) (IntKind.i64.wrap (xi15 - 1)) xl16 n413 xl18 xl19 xl20 xl21) else none))) else (bif (decide (xi13 > 0)) then (G 36 [.int .i64 4, .sl 1 xl16, .int .i64 n41] fun o414 => uI .i64 o414 fun n416 r415 => uI .i64 r415 fun n418 r417 => unNil r417 (G 16 [.agg [.sl 1 xl18, .sl 1 xl19, .sl 1 xl20, .sl 1 xl21], .int .i64 (IntKind.i64.wrap (xi13 - 1)), .sl 1 xl16, .int .i64 n418] fun o419 => uL 8 o419 fun l421 r420 => uI .i64 r420 fun n423 r422 => unNil r422 (bif (decide (List.length xl14 + 1 ≤ 1073741824)) then (X xi13 (xl14 ++ [.agg [.int .i64 7, .str ⟨#[]⟩, .str ⟨#[]⟩, .sl 5 [], .int .i64 (IntKind.i64.wrap (1 + n416)), .sl 8 l421, .sl 8 [], .int .i64 0]]) (IntKind.i64.wrap (xi15 - 1)) xl16 n423 xl18 xl19 xl20 xl21) else none))) else (X xi13 xl14 (IntKind.i64.wrap (xi15 - 1)) xl16 n41 xl18 xl19 xl20 xl21))) else (bif (decide (xi13 > 0)) then (G 36 [.int .i64 4, .sl 1 xl16, .int .i64 n41] fun o424 => uI .i64 o424 fun n426 r425 => uI .i64 r425 fun n428 r427 => unNil r427 (G 16 [.agg [.sl 1 xl18, .sl 1 xl19, .sl 1 xl20, .sl 1 xl21], .int .i64 (IntKind.i64.wrap (xi13 - 1)), .sl 1 xl16, .int .i64 n428] fun o429 => uL 8 o429 fun l431 r430 => uI .i64 r430 fun n433 r432 => unNil r432 (bif (decide (List.length xl14 + 1 ≤ 1073741824)) then (X xi13 (xl14 ++ [.agg [.int .i64 7, .str ⟨#[]⟩, .str ⟨#[]⟩, .sl 5 [], .int .i64 (IntKind.i64.wrap (1 + n426)), .sl 8 l431, .sl 8 [], .int .i64 0]]) (IntKind.i64.wrap (xi15 - 1)) xl16 n433 xl18 xl19 xl20 xl21) else none))) else (X xi13 xl14 (IntKind.i64.wrap (xi15 - 1)) xl16 n41 xl18 xl19 xl20 xl21)))) else (bif (decide (xi13 > 0)) then (bif ((Int.tmod n24 2) == 0) then (G 16 [.agg [.sl 1 xl18, .sl 1 xl19, .sl 1 xl20, .sl 1 xl21], .int .i64 (IntKind.i64.wrap (xi13 - 1)), .sl 1 xl16, .int .i64 n41] fun o434 => uL 8 o434 fun l436 r435 => uI .i64 r435 fun n438 r437 => unNil r437 (G 16 [.agg [.sl 1 xl18, .sl 1 xl19, .sl 1 xl20, .sl 1 xl21], .int .i64 (IntKind.i64.wrap (xi13 - 1)), .sl 1 xl16, .int .i64 n438] fun o439 => uL 8 o439 fun l441 r440 => uI .i64 r440 fun n443 r442 => unNil r442 (bif (decide (List.length xl14 + 1 ≤ 1073741824)) then (X xi13 (xl14 ++ [.agg [.int .i64 6, .str ⟨#[]⟩, .str ⟨#[]⟩, .sl 5 [.agg [.int .i64 n31, .int .i64 n33, .str s35, .sl 5 l37, .int .i64 n39]], .int .i64 0, .sl 8 l436, .sl 8 l441, .int .i64 0]]) (IntKind.i64.wrap (xi15 - 1)) xl16 n443 xl18 xl19 xl20 xl21) else none))) else (bif (decide (xi13 > 0)) then (G 36 [.int .i64 4, .sl 1 xl16, .int .i64 n41] fun o444 => uI .i64 o444 fun n446 r445 => uI .i64 r445 fun n448 r447 => unNil r447 (G 16 [.agg [.sl 1 xl18, .sl 1 xl19, .sl 1 xl20, .sl 1 xl21], .int .i64 (IntKind.i64.wrap (xi13 - 1)), .sl 1 xl16, .int .i64 n448] fun o449 => uL 8 o449 fun l451 r450 => uI .i64 r450 fun n453 r452 => unNil r452 (bif (decide (List.length xl14 + 1 ≤ 1073741824)) then (X xi13 (xl14 ++ [.agg [.int .i64 7, .str ⟨#[]⟩, .str ⟨#[]⟩, .sl 5 [], .int .i64 (IntKind.i64.wrap (1 + n446)), .sl 8 l451, .sl 8 [], .int .i64 0]]) (IntKind.i64.wrap (xi15 - 1)) xl16 n453 xl18 xl19 xl20 xl21) else none))) else (X xi13 xl14 (IntKind.i64.wrap (xi15 - 1)) xl16 n41 xl18 xl19 xl20 xl21))) else (bif (decide (xi13 > 0)) then (G 36 [.int .i64 4, .sl 1 xl16, .int .i64 n41] fun o454 => uI .i64 o454 fun n456 r455 => uI .i64 r455 fun n458 r457 => unNil r457 (G 16 [.agg [.sl 1 xl18, .sl 1 xl19, .sl 1 xl20, .sl 1 xl21], .int .i64 (IntKind.i64.wrap (xi13 - 1)), .sl 1 xl16, .int .i64 n458] fun o459 => uL 8 o459 fun l461 r460 => uI .i64 r460 fun n463 r462 => unNil r462 (bif (decide (List.length xl14 + 1 ≤ 1073741824)) then (X xi13 (xl14 ++ [.agg [.int .i64 7, .str ⟨#[]⟩, .str ⟨#[]⟩, .sl 5 [], .int .i64 (IntKind.i64.wrap (1 + n456)), .sl 8 l461, .sl 8 [], .int .i64 0]]) (IntKind.i64.wrap (xi15 - 1)) xl16 n463 xl18 xl19 xl20 xl21) else none))) else (X xi13 xl14 (IntKind.i64.wrap (xi15 - 1)) xl16 n41 xl18 xl19 xl20 xl21))))) else (bif (n24 == 8) then (bif (decide ((xl20.length : Int) > 0)) then (G 37 [.sl 1 xl20, .str ⟨#[]⟩, .sl 1 xl16, .int .i64 n41] fun o464 => uS o464 fun s466 r465 => uI .i64 r465 fun n468 r467 => unNil r467 (bif (decide (List.length xl14 + 1 ≤ 1073741824)) then (X xi13 (xl14 ++ [.agg [.int .i64 5, .str s466, .str ⟨#[]⟩, .sl 5 [], .int .i64 0, .sl 8 [], .sl 8 [], .int .i64 0]]) (IntKind.i64.wrap (xi15 - 1)) xl16 n468 xl18 xl19 xl20 xl21) else none)) else (bif (decide (xi13 > 0)) then (bif ((Int.tmod n24 2) == 0) then (G 16 [.agg [.sl 1 xl18, .sl 1 xl19, .sl 1 xl20, .sl 1 xl21], .int .i64 (IntKind.i64.wrap (xi13 - 1)), .sl 1 xl16, .int .i64 n41] fun o469 => uL 8 o469 fun l471 r470 => uI .i64 r470 fun n473 r472 => unNil r472 (G 16 [.agg [.sl 1 xl18, .sl 1 xl19, .sl 1 xl20, .sl 1 xl21], .int .i64 (IntKind.i64.wrap (xi13 - 1)), .sl 1 xl16, .int .i64 n473] fun o474 => uL 8 o474 fun l476 r475 => uI .i64 r475 fun n478 r477 => unNil r477 (bif (decide (List.length xl14 + 1 ≤ 1073741824)) then (X xi13 (xl14 ++ [.agg [.int .i64 6, .str ⟨#[]⟩, .str ⟨#[]⟩, .sl 5 [.agg [.int .i64 n31, .int .i64 n33, .str s35, .sl 5 l37, .int .i64 n39]], .int .i64 0, .sl 8 l471, .sl 8 l476, .int .i64 0]]) (IntKind.i64.wrap (xi15 - 1)) xl16 n478 xl18 xl19 xl20 xl21) else none))) else (bif (decide (xi13 > 0)) then (G 36 [.int .i64 4, .sl 1 xl16, .int .i64 n41] fun o479 => uI .i64 o479 fun n481 r480 => uI .i64 r480 fun n483 r482 => unNil r482 (G 16 [.agg [.sl 1 xl18, .sl 1 xl19, .sl 1 xl20, .sl 1 xl21], .int .i64 (IntKind.i64.wrap (xi13 - 1)), .sl 1 xl16, .int .i64 n483] fun o484 => uL 8 o484 fun l486 r485 => uI .i64 r485 fun n488 r487 => unNil r487 (bif (decide (List.length xl14 + 1 ≤ 1073741824)) then (X xi13 (xl14 ++ [.agg [.int .i64 7, .str ⟨#[]⟩, .str ⟨#[]⟩, .sl 5 [], .int .i64 (IntKind.i64.wrap (1 + n481)), .sl 8 l486, .sl 8 [], .int .i64 0]]) (IntKind.i64.wrap (xi15 - 1)) xl16 n488 xl18 xl19 xl20 xl21) else none))) else (X xi13 xl14 (IntKind.i64.wrap (xi15 - 1)) xl16 n41 xl18 xl19 xl20 xl21))) else (bif (decide (xi13 > 0)) then (G 36 [.int .i64 4, .sl 1 xl16, .int .i64 n41] fun o489 => uI .i64 o489 fun n491 r490 => uI .i64 r490 fun n493 r492 => unNil r492 (G 16 [.agg [.sl 1 xl18, .sl 1 xl19, .sl 1 xl20, .sl 1 xl21], .int .i64 (IntKind.i64.wrap (xi13 - 1)), .sl 1 xl16, .int .i64 n493] fun o494 => uL 8 o494 fun l496 r495 => uI .i64 r495 fun n498 r497 => unNil r497 (bif (decide (List.length xl14 + 1 ≤ 1073741824)) then (X xi13 (xl14 ++ [.agg [.int .i64 7, .str ⟨#[]⟩, .str ⟨#[]⟩, .sl 5 [], .int .i64 (IntKind.i64.wrap (1 + n491)), .sl 8 l496, .sl 8 [], .int .i64 0]]) (IntKind.i64.wrap (xi15 - 1)) xl16 n498 xl18 xl19 xl20 xl21) else none))) else (X xi13 xl14 (IntKind.i64.wrap (xi15 - 1)) xl16 n41 xl18 xl19 xl20 xl21)))) else (bif (decide (xi13 > 0)) then (bif ((Int.tmod n24 2) == 0) then (G 16 [.agg [.sl 1 xl18, .sl 1 xl19, .sl 1 xl20, .sl 1 xl21], .int .i64 (IntKind.i64.wrap (xi13 - 1)), .sl 1 xl16, .int .i64 n41] fun o499 => uL 8 o499 fun l501 r500 => uI .i64 r500 fun n503 r502 => unNil r502 (G 16 [.agg [.sl 1 xl18, .sl 1 xl19, .sl 1 xl20, .sl 1 xl21], .int .i64 (IntKind.i64.wrap (xi13 - 1)), .sl 1 xl16, .int .i64 n503] fun o504 => uL 8 o504 fun l506 r505 => uI .i64 r505 fun n508 r507 => unNil r507 (bif (decide (List.length xl14 + 1 ≤ 1073741824)) then (X xi13 (xl14 ++ [.agg [.int .i64 6, .str ⟨#[]⟩, .str ⟨#[]⟩, .sl 5 [.agg [.int .i64 n31, .int .i64 n33, .str s35, .sl 5 l37, .int .i64 n39]], .int .i64 0, .sl 8 l501, .sl 8 l506, .int .i64 0]]) (IntKind.i64.wrap (xi15 - 1)) xl16 n508 xl18 xl19 xl20 xl21) else none))) else (bif (decide (xi13 > 0)) then (G 36 [.int .i64 4, .sl 1 xl16, .int .i64 n41] fun o509 => uI .i64 o509 fun n511 r510 => uI .i64 r510 fun n513 r512 => unNil r512 (G 16 [.agg [.sl 1 xl18, .sl 1 xl19, .sl 1 xl20, .sl 1 xl21], .int .i64 (IntKind.i64.wrap (xi13 - 1)), .sl 1 xl16, .int .i64 n513] fun o514 => uL 8 o514 fun l516 r515 => uI .i64 r515 fun n518 r517 => unNil r517 (bif (decide (List.length xl14 + 1 ≤ 1073741824)) then (X xi13 (xl14 ++ [.agg [.int .i64 7, .str ⟨#[]⟩, .str ⟨#[]⟩, .sl 5 [], .int .i64 (IntKind.i64.wrap (1 + n511)), .sl 8 l516, .sl 8 [], .int .i64 0]]) (IntKind.i64.wrap (xi15 - 1)) xl16 n518 xl18 xl19 xl20 xl21) else none))) else (X xi13 xl14 (IntKind.i64.wrap (xi15 - 1)) xl16 n41 xl18 xl19 xl20 xl21))) else (bif (decide (xi13 > 0)) then (G 36 [.int .i64 4, .sl 1 xl16, .int .i64 n41] fun o519 => uI .i64 o519 fun n521 r520 => uI .i64 r520 fun n523 r522 => unNil r522 (G 16 [.agg [.sl 1 xl18, .sl 1 xl19, .sl 1 xl20, .sl 1 xl21], .int .i64 (IntKind.i64.wrap (xi13 - 1)), .sl 1 xl16, .int .i64 n523] fun o524 => uL 8 o524 fun l526 r525 => uI .i64 r525 fun n528 r527 => unNil r527 (bif (decide (List.length xl14 + 1 ≤ 1073741824)) then (X xi13 (xl14 ++ [.agg [.int .i64 7, .str ⟨#[]⟩, .str ⟨#[]⟩, .sl 5 [], .int .i64 (IntKind.i64.wrap (1 + n521)), .sl 8 l526, .sl 8 [], .int .i64 0]]) (IntKind.i64.wrap (xi15 - 1)) xl16 n528 xl18 xl19 xl20 xl21) else none))) else (X xi13 xl14 (IntKind.i64.wrap (xi15 - 1)) xl16 n41 xl18 xl19 xl20 xl21)))))) else (bif (n24 == 7) then (bif (decide ((xl20.length : Int) > 0)) then (G 37 [.sl 1 xl20, .str ⟨#[]⟩, .sl 1 xl16, .int .i64 n41] fun o529 => uS o529 fun s531 r530 => uI .i64 r530 fun n533 r532 => unNil r532 (G 36 [.int .i64 3, .sl 1 xl16, .int .i64 n533] fun o534 => uI .i64 o534 fun n536 r535 => uI .i64 r535 fun n538 r537 => unNil r537 (bif (decide (List.length xl14 + 1 ≤ 1073741824)) then (X xi13 (xl14 ++ [.agg [.int .i64 4, .str s531, .str ⟨#[]⟩, .sl 5 [.agg [.int .i64 1, .int .i64 (IntKind.i64.wrap (1 + n536)), .str ⟨#[]⟩, .sl 5 [], .int .i64 0]], .int .i64 0, .sl 8 [], .sl 8 [], .int .i64 0]]) (IntKind.i64.wrap (xi15 - 1)) xl16 n538 xl18 xl19 xl20 xl21) else none))) else (bif (n24 == 8) then (bif (decide ((xl20.length : Int) > 0)) then (G 37 [.sl 1 xl20, .str ⟨#[]⟩, .sl 1 xl16, .int .i64 n41] fun o539 => uS o539 fun s541 r540 => uI .i64 r540 fun n543 r542 => unNil r542 (bif (decide (List.length xl14 + 1 ≤ 1073741824)) then (X xi13 (xl14 ++ [.agg [.int .i64 5, .str s541, .str ⟨#[]⟩, .sl 5 [], .int .i64 0, .sl 8 [], .sl 8 [], .int .i64 0]]) (IntKind.i64.wrap (xi15 - 1)) xl16 n543 xl18 xl19 xl20 xl21) else none)) else (bif (decide (xi13 > 0)) then (bif ((Int.tmod n24 2) == 0) then (G 16 [.agg [.sl 1 xl18, .sl 1 xl19, .sl 1 xl20, .sl 1 xl21], .int .i64 (IntKind.i64.wrap (xi13 - 1)), .sl 1 xl16, .int .i64 n41] fun o544 => uL 8 o544 fun l546 r545 => uI .i64 r545 fun n548 r547 => unNil r547 (G 16 [.agg [.sl 1 xl18, .sl 1 xl19, .sl 1 xl20, .sl 1 xl21], .int .i64 (IntKind.i64.wrap (xi13 - 1)), .sl 1 xl16, .int .i64 n548] fun o549 => uL 8 o549 fun l551 r550 => uI .i64 r550 fun n553 r552 => unNil r552 (bif (decide (List.length xl14 + 1 ≤ 1073741824)) then (X xi13 (xl14 ++ [.agg [.int .i64 6, .str ⟨#[]⟩, .str ⟨#[]⟩, .sl 5 [.agg [.int .i64 n31, .int .i64 n33, .str s35, .sl 5 l37, .int .i64 n39]], .int .i64 0, .sl 8 l546, .sl 8 l551, .int .i64 0]]) (IntKind.i64.wrap (xi15 - 1)) xl16 n553 xl18 xl19 xl20 xl21) else none))) else (bif (decide (xi13 > 0)) then (G 36 [.int .i64 4, .sl 1 xl16, .int .i64 n41] fun o554 => uI .i64 o554 fun n556 r555 => uI .i64 r555 fun n558 r557 => unNil r557 (G 16 [.agg [.sl 1 xl18, .sl 1 xl19, .sl 1 xl20, .sl 1 xl21], .int .i64 (IntKind.i64.wrap (xi13 - 1)), .sl 1 xl16, .int .i64 n558] fun o559 => uL 8 o559 fun l561 r560 => uI .i64 r560 fun n563 r562 => unNil r562 (bif (decide (List.length xl14 + 1 ≤ 1073741824)) then (X xi13 (xl14 ++ [.agg [.int .i64 7, .str ⟨#[]⟩, .str ⟨#[]⟩, .sl 5 [], .int .i64 (IntKind.i64.wrap (1 + n556)), .sl 8 l561, .sl 8 [], .int .i64 0]]) (IntKind.i64.wrap (xi15 - 1)) xl16 n563 xl18 xl19 xl20 xl21) else none))) else (X xi13 xl14 (IntKind.i64.wrap (xi15 - 1)) xl16 n41 xl18 xl19 xl20 xl21))) else (bif (decide (xi13 > 0)) then (G 36 [.int .i64 4, .sl 1 xl16, .int .i64 n41] fun o564 => uI .i64 o564 fun n566 r565 => uI .i64 r565 fun n568 r567 => unNil r567 (G 16 [.agg [.sl 1 xl18, .sl 1 xl19, .sl 1 xl20, .sl 1 xl21], .int .i64 (IntKind.i64.wrap (xi13 - 1)), .sl 1 xl16, .int .i64 n568] fun o569 => uL 8 o569 fun l571 r570 => uI .i64 r570 fun n573 r572 => unNil r572 (bif (decide (List.length xl14 + 1 ≤ 1073741824)) then (X xi13 (xl14 ++ [.agg [.int .i64 7, .str ⟨#[]⟩, .str ⟨#[]⟩, .sl 5 [], .int .i64 (IntKind.i64.wrap (1 + n566)), .sl 8 l571, .sl 8 [], .int .i64 0]]) (IntKind.i64.wrap (xi15 - 1)) xl16 n573 xl18 xl19 xl20 xl21) else none))) else (X xi13 xl14 (IntKind.i64.wrap (xi15 - 1)) xl16 n41 xl18 xl19 xl20 xl21)))) else (bif (decide (xi13 > 0)) then (bif ((Int.tmod n24 2) == 0) then (G 16 [.agg [.sl 1 xl18, .sl 1 xl19, .sl 1 xl20, .sl 1 xl21], .int .i64 (IntKind.i64.wrap (xi13 - 1)), .sl 1 xl16, .int .i64 n41] fun o574 => uL 8 o574 fun l576 r575 => uI .i64 r575 fun n578 r577 => unNil r577 (G 16 [.agg [.sl 1 xl18, .sl 1 xl19, .sl 1 xl20, .sl 1 xl21], .int .i64 (IntKind.i64.wrap (xi13 - 1)), .sl 1 xl16, .int .i64 n578] fun o579 => uL 8 o579 fun l581 r580 => uI .i64 r580 fun n583 r582 => unNil r582 (bif (decide (List.length xl14 + 1 ≤ 1073741824)) then (X xi13 (xl14 ++ [.agg [.int .i64 6, .str ⟨#[]⟩, .str ⟨#[]⟩, .sl 5 [.agg [.int .i64 n31, .int .i64 n33, .str s35, .sl 5 l37, .int .i64 n39]], .int .i64 0, .sl 8 l576, .sl 8 l581, .int .i64 0]]) (IntKind.i64.wrap (xi15 - 1)) xl16 n583 xl18 xl19 xl20 xl21) else none))) else (bif (decide (xi13 > 0)) then (G 36 [.int .i64 4, .sl 1 xl16, .int .i64 n41] fun o584 => uI .i64 o584 fun n586 r585 => uI .i64 r585 fun n588 r587 => unNil r587 (G 16 [.agg [.sl 1 xl18, .sl 1 xl19, .sl 1 xl20, .sl 1 xl21], .int .i64 (IntKind.i64.wrap (xi13 - 1)), .sl 1 xl16, .int .i64 n588] fun o589 => uL 8 o589 fun l591 r590 => uI .i64 r590 fun n593 r592 => unNil r592 (bif (decide (List.length xl14 + 1 ≤ 1073741824)) then (X xi13 (xl14 ++ [.agg [.int .i64 7, .str ⟨#[]⟩, .str ⟨#[]⟩, .sl 5 [], .int .i64 (IntKind.i64.wrap (1 + n586)), .sl 8 l591, .sl 8 [], .int .i64 0]]) (IntKind.i64.wrap (xi15 - 1)) xl16 n593 xl18 xl19 xl20 xl21) else none))) else (X xi13 xl14 (IntKind.i64.wrap (xi15 - 1)) xl16 n41 xl18 xl19 xl20 xl21))) else (bif (decide (xi13 > 0)) then (G 36 [.int .i64 4, .sl 1 xl16, .int .i64 n41] fun o594 => uI .i64 o594 fun n596 r595 => uI .i64 r595 fun n598 r597 => unNil r597 (G 16 [.agg [.sl 1 xl18, .sl 1 xl19, .sl 1 xl20, .sl 1 xl21], .int .i64 (IntKind.i64.wrap (xi13 - 1)), .sl 1 xl16, .int .i64 n598] fun o599 => uL 8 o599 fun l601 r600 => uI .i64 r600 fun n603 r602 => unNil r602 (bif (decide (List.length xl14 + 1 ≤ 1073741824)) then (X xi13 (xl14 ++ [.agg [.int .i64 7, .str ⟨#[]⟩, .str ⟨#[]⟩, .sl 5 [], .int .i64 (IntKind.i64.wrap (1 + n596)), .sl 8 l601, .sl 8 [], .int .i64 0]]) (IntKind.i64.wrap (xi15 - 1)) xl16 n603 xl18 xl19 xl20 xl21) else none))) else (X xi13 xl14 (IntKind.i64.wrap (xi15 - 1)) xl16 n41 xl18 xl19 xl20 xl21))))) else (bif (n24 == 8) then (bif (decide ((xl20.length : Int) > 0)) then (G 37 [.sl 1 xl20, .str ⟨#[]⟩, .sl 1 xl16, .int .i64 n41] fun o604 => uS o604 fun s606 r605 => uI .i64 r605 fun n608 r607 => unNil r607 (bif (decide (List.length xl14 + 1 ≤ 1073741824)) then (X xi13 (xl14 ++ [.agg [.int .i64 5, .str s606, .str ⟨#[]⟩, .sl 5 [], .int .i64 0, .sl 8 [], .sl 8 [], .int .i64 0]]) (IntKind.i64.wrap (xi15 - 1)) xl16 n608 xl18 xl19 xl20 xl21) else none)) else (bif (decide (xi13 > 0)) then (bif ((Int.tmod n24 2) == 0) then (G 16 [.agg [.sl 1 xl18, .sl 1 xl19, .sl 1 xl20, .sl 1 xl21], .int .i64 (IntKind.i64.wrap (xi13 - 1)), .sl 1 xl16, .int .i64 n41] fun o609 => uL 8 o609 fun l611 r610 => uI .i64 r610 fun n613 r612 => unNil r612 (G 16 [.agg [.sl 1 xl18, .sl 1 xl19, .sl 1 xl20, .sl 1 xl21], .int .i64 (IntKind.i64.wrap (xi13 - 1)), .sl 1 xl16, .int .i64 n613] fun o614 => uL 8 o614 fun l616 r615 => uI .i64 r615 fun n618 r617 => unNil r617 (bif (decide (List.length xl14 + 1 ≤ 1073741824)) then (X xi13 (xl14 ++ [.agg [.int .i64 6, .str ⟨#[]⟩, .str ⟨#[]⟩, .sl 5 [.agg [.int .i64 n31, .int .i64 n33, .str s35, .sl 5 l37, .int .i64 n39]], .int .i64 0, .sl 8 l611, .sl 8 l616, .int .i64 0]]) (IntKind.i64.wrap (xi15 - 1)) xl16 n618 xl18 xl19 xl20 xl21) else none))) else (bif (decide (xi13 > 0)) then (G 36 [.int .i64 4, .sl 1 xl16, .int .i64 n41] fun o619 => uI .i64 o619 fun n621 r620 => uI .i64 r620 fun n623 r622 => unNil r622 (G 16 [.agg [.sl 1 xl18, .sl 1 xl19, .sl 1 xl20, .sl 1 xl21], .int .i64 (IntKind.i64.wrap (xi13 - 1)), .sl 1 xl16, .int .i64 n623] fun o624 => uL 8 o624 fun l626 r625 => uI .i64 r625 fun n628 r627 => unNil r627 (bif (decide (List.length xl14 + 1 ≤ 1073741824)) then (X xi13 (xl14 ++ [.agg [.int .i64 7, .str ⟨#[]⟩, .str ⟨#[]⟩, .sl 5 [], .int .i64 (IntKind.i64.wrap (1 + n621)), .sl 8 l626, .sl 8 [], .int .i64 0]]) (IntKind.i64.wrap (xi15 - 1)) xl16 n628 xl18 xl19 xl20 xl21) else none))) else (X xi13 xl14 (IntKind.i64.wrap (xi15 - 1)) xl16 n41 xl18 xl19 xl20 xl21))) else (bif (decide (xi13 > 0)) then (G 36 [.int .i64 4, .sl 1 xl16, .int .i64 n41] fun o629 => uI .i64 o629 fun n631 r630 => uI .i64 r630 fun n633 r632 => unNil r632 (G 16 [.agg [.sl 1 xl18, .sl 1 xl19, .sl 1 xl20, .sl 1 xl21], .int .i64 (IntKind.i64.wrap (xi13 - 1)), .sl 1 xl16, .int .i64 n633] fun o634 => uL 8 o634 fun l636 r635 => uI .i64 r635 fun n638 r637 => unNil r637 (bif (decide (List.length xl14 + 1 ≤ 1073741824)) then (X xi13 (xl14 ++ [.agg [.int .i64 7, .str ⟨#[]⟩, .str ⟨#[]⟩, .sl 5 [], .int .i64 (IntKind.i64.wrap (1 + n631)), .sl 8 l636, .sl 8 [], .int .i64 0]]) (IntKind.i64.wrap (xi15 - 1)) xl16 n638 xl18 xl19 xl20 xl21) else none))) else (X xi13 xl14 (IntKind.i64.wrap (xi15 - 1)) xl16 n41 xl18 xl19 xl20 xl21)))) else (bif (decide (xi13 > 0)) then (bif ((Int.tmod n24 2) == 0) then (G 16 [.agg [.sl 1 xl18, .sl 1 xl19, .sl 1 xl20, .sl 1 xl21], .int .i64 (IntKind.i64.wrap (xi13 - 1)), .sl 1 xl16, .int .i64 n41] fun o639 => uL 8 o639 fun l641 r640 => uI .i64 r640 fun n643 r642 => unNil r642 (G 16 [.agg [.sl 1 xl18, .sl 1 xl19, .sl 1 xl20, .sl 1 xl21], .int .i64 (IntKind.i64.wrap (xi13 - 1)), .sl 1 xl16, .int .i64 n643] fun o644 => uL 8 o644 fun l646 r645 => uI .i64 r645 fun n648 r647 => unNil r647 (bif (decide (List.length xl14 + 1 ≤ 1073741824)) then (X xi13 (xl14 ++ [.agg [.int .i64 6, .str ⟨#[]⟩, .str ⟨#[]⟩, .sl 5 [.agg [.int .i64 n31, .int .i64 n33, .str s35, .sl 5 l37, .int .i64 n39]], .int .i64 0, .sl 8 l641, .sl 8 l646, .int .i64 0]]) (IntKind.i64.wrap (xi15 - 1)) xl16 n648 xl18 xl19 xl20 xl21) else none))) else (bif (decide (xi13 > 0)) then (G 36 [.int .i64 4, .sl 1 xl16, .int .i64 n41] fun o649 => uI .i64 o649 fun n651 r650 => uI .i64 r650 fun n653 r652 => unNil r652 (G 16 [.agg [.sl 1 xl18, .sl 1 xl19, .sl 1 xl20, .sl 1 xl21], .int .i64 (IntKind.i64.wrap (xi13 - 1)), .sl 1 xl16, .int .i64 n653] fun o654 => uL 8 o654 fun l656 r655 => uI .i64 r655 fun n658 r657 => unNil r657 (bif (decide (List.length xl14 + 1 ≤ 1073741824)) then (X xi13 (xl14 ++ [.agg [.int .i64 7, .str ⟨#[]⟩, .str ⟨#[]⟩, .sl 5 [], .int .i64 (IntKind.i64.wrap (1 + n651)), .sl 8 l656, .sl 8 [], .int .i64 0]]) (IntKind.i64.wrap (xi15 - 1)) xl16 n658 xl18 xl19 xl20 xl21) else none))) else (X xi13 xl14 (IntKind.i64.wrap (xi15 - 1)) xl16 n41 xl18 xl19 xl20 xl21))) else (bif (decide (xi13 > 0)) then (G 36 [.int .i64 4, .sl 1 xl16, .int .i64 n41] fun o659 => uI .i64 o659 fun n661 r660 => uI .i64 r660 fun n663 r662 => unNil r662 (G 16 [.agg [.sl 1 xl18, .sl 1 xl19, .sl 1 xl20, .sl 1 xl21], .int .i64 (IntKind.i64.wrap (xi13 - 1)), .sl 1 xl16, .int .i64 n663] fun o664 => uL 8 o664 fun l666 r665 => uI .i64 r665 fun n668 r667 => unNil r667 (bif (decide (List.length xl14 + 1 ≤ 1073741824)) then (X xi13 (xl14 ++ [.agg [.int .i64 7, .str ⟨#[]⟩, .str ⟨#[]⟩, .sl 5 [], .int .i64 (IntKind.i64.wrap (1 + n661)), .sl 8 l666, .sl 8 [], .int .i64 0]]) (IntKind.i64.wrap (xi15 - 1)) xl16 n668 xl18 xl19 xl20 xl21) else none))) else (X xi13 xl14 (IntKind.i64.wrap (xi15 - 1)) xl16 n41 xl18 xl19 xl20 xl21))))))))))) else (Ko xl14 xl16 xi17))
def l16_0g {R : Type} (G : ORC R) (k : Nat) (Ko : List V → List V → Int → Option R) : Nat → Int → List V → Int → List V → Int → List V → List V → List V → List V → Option R
  | 0 => fun _ _ _ _ _ _ _ _ _ => none
  | j + 1 => b16_0 G k (l16_0g G k Ko j) Ko
def l16_0 {R : Type} (G : ORC R) (k : Nat) (xi13 : Int) (xl14 : List V) (xi15 : Int) (xl16 : List V) (xi17 : Int) (xl18 xl19 : List V) (xl20 xl21 : List V) (Ko : List V → List V → Int → Option R) : Option R := l16_0g G k Ko k xi13 xl14 xi15 xl16 xi17 xl18 xl19 xl20 xl21
def rd16_0 {R : Type} (G : ORC R) (k : Nat) (K : Ex → St → Option R) (j : Nat) (vs : List V) : Option R := match vs with
  | [.int .i64 xi13, .sl 8 xl14, .int .i64 xi15, .sl 1 xl16, .int .i64 xi17, .sl 1 xl18, .sl 1 xl19, .sl 1 xl20, .sl 1 xl21] => l16_0g G k (fun yl672 yl673 yi674 => K .normal (P16_0x.inst [.sl 8 yl672, .sl 1 yl673, .int .i64 yi674])) j xi13 xl14 xi15 xl16 xi17 xl18 xl19 xl20 xl21
  | _ => none
def L16 {R : Type} (G : ORC R) (k : Nat) : Nat → St → (Ex → St → Option R) → Option R
  | 0, S, K => P16_0h.mat S fun vs => rd16_0 G k K k vs
  | _, _, _ => none
def f16 {R : Type} (G : ORC R) (k : Nat) (al1 al2 : List V) (al3 al4 : List V) (ai5 : Int) (bl6 : List V) (bi7 : Int) (K : List V → Option R) : Option R :=
  (G 36 [.int .i64 3, .sl 1 bl6, .int .i64 bi7] fun o8 => uI .i64 o8 fun n10 r9 => uI .i64 r9 fun n12 r11 => unNil r11 (l16_0 G k ai5 [] n10 bl6 n12 al1 al2 al3 al4 (fun yl669 yl670 yi671 => K [.sl 8 yl669, .int .i64 yi671])))
noncomputable def D16_0 : LoopD := { id := 0, body := loopAt 0 (bodyOf Try.f16), head := P16_0h, out := P16_0x, ret := default }
theorem l16_0_is {R : Type} (G : ORC R) (k : Nat) (X : List V → Option R) (K : Ex → St → Option R) (xi13 : Int) (xl14 : List V) (xi15 : Int) (xl16 : List V) (xi17 : Int) (xl18 xl19 : List V) (xl20 xl21 : List V) :
    roundOf (TAB.env 16) G (L16 G k) D16_0 X K [.int .i64 xi13, .sl 8 xl14, .int .i64 xi15, .sl 1 xl16, .int .i64 xi17, .sl 1 xl18, .sl 1 xl19, .sl 1 xl20, .sl 1 xl21] = b16_0 G k (fun xi13 xl14 xi15 xl16 xi17 xl18 xl19 xl20 xl21 => X [.int .i64 xi13, .sl 8 xl14, .int .i64 xi15, .sl 1 xl16, .int .i64 xi17, .sl 1 xl18, .sl 1 xl19, .sl 1 xl20, .sl 1 xl21]) (fun yl672 yl673 yi674 => K .normal (P16_0x.inst [.sl 8 yl672, .sl 1 yl673, .int .i64 yi674])) xi13 xl14 xi15 xl16 xi17 xl18 xl19 xl20 xl21 := by kernel_rfl
theorem f16_is {R : Type} (G : ORC R) (k : Nat) (K : List V → Option R) (al1 al2 : List V) (al3 al4 : List V) (ai5 : Int) (bl6 : List V) (bi7 : Int) :
    callF (TAB.env 16) G (L16 G k) Try.f16 S16 [.agg [.sl 1 al1, .sl 1 al2, .sl 1 al3, .sl 1 al4], .int .i64 ai5, .sl 1 bl6, .int .i64 bi7] K = f16 G k al1 al2 al3 al4 ai5 bl6 bi7 K := by kernel_rfl
theorem li16_0 {R : Type} (G : ORC R) (k : Nat) : LoopIs (TAB.env 16) G (L16 G k) 0 (loopAt 0 (bodyOf Try.f16)) :=
  ⟨D16_0, fun j vs K => rd16_0 G k K j vs, k, rfl, rfl, by kernel_rfl, by kernel_rfl, by kernel_rfl, (fun vs K => by unfold rd16_0; dsimp only; split <;> rfl),
    (fun j vs K r h => by
      unfold rd16_0 at h
      dsimp only at h
      split at h
      · rw [l16_0_is]; exact h
      · cases h), (fun S K r h => h)⟩
theorem lo16 : loopsOf (bodyOf Try.f16) = [(0, loopAt 0 (bodyOf Try.f16))] := by kernel_rfl
theorem la16 {R : Type} (G : ORC R) (k : Nat) : LoopsAre (TAB.env 16) G (L16 G k) (bodyOf Try.f16) :=
  loopsAre_of (by rw [lo16]; intro p hp; simp only [List.mem_cons, List.not_mem_nil, or_false] at hp; subst hp; exact li16_0 G k)
def g16 {R : Type} (G : ORC R) (k : Nat) (args : List V) (K : List V → Option R) : Option R := match args with
  | [.agg [.sl 1 al1, .sl 1 al2, .sl 1 al3, .sl 1 al4], .int .i64 ai5, .sl 1 bl6, .int .i64 bi7] => f16 G k al1 al2 al3 al4 ai5 bl6 bi7 K
  | _ => none
theorem s16 {R : Type} {G : ORC R} {k : Nat} (hG : Sound Try.prog TAB G) (args : List V) (K : List V → Option R) (r : R) (h : g16 G k args K = some r) : ∃ o, CallOK Try.prog TAB.env 16 args o ∧ K o = some r := by
  unfold g16 at h
  split at h
  · rw [← f16_is] at h
    exact callF_sound (f := 16) TAB_chk MO hG Try.func16 (sg := S16) (by kernel_rfl) (by kernel_rfl) (la16 G k) h
  · cases h
def L86 {R : Type} (_ : ORC R) (_ : Nat) : Nat → St → (Ex → St → Option R) → Option R := fun _ _ _ => none
def f86 {R : Type} (G : ORC R) (k : Nat) (al1 al2 : List V) (al3 al4 : List V) (al5 al6 : List V) (K : List V → Option R) : Option R :=
  (bif ((al2.length : Int) == 0) then (bif (decide (List.length al1 + 1 ≤ 1073741824)) then (K [.sl 4 (al1 ++ [.agg [.int .i64 1, .int .i64 0, .int .i64 0, .str ⟨#[]⟩]])]) else none) else (bif (decide (0 < (al2.length : Int))) then (nthK al2 0 fun e7 => V.asAgg e7 fun l8 => G 42 [.sl 4 al1, .agg l8, .agg [.sl 1 al3, .sl 1 al4, .sl 1 al5, .sl 7 al6]] fun o9 => uL 4 o9 fun l11 r10 => unNil r10 (K [.sl 4 l11])) else none))
theorem f86_is {R : Type} (G : ORC R) (k : Nat) (K : List V → Option R) (al1 al2 : List V) (al3 al4 : List V) (al5 al6 : List V) :
    callF (TAB.env 86) G (L86 G k) Try.f86 S86 [.sl 4 al1, .sl 5 al2, .agg [.sl 1 al3, .sl 1 al4, .sl 1 al5, .sl 7 al6]] K = f86 G k al1 al2 al3 al4 al5 al6 K := by kernel_rfl
theorem lo86 : loopsOf (bodyOf Try.f86) = [] := by kernel_rfl
theorem la86 {R : Type} (G : ORC R) (k : Nat) : LoopsAre (TAB.env 86) G (L86 G k) (bodyOf Try.f86) :=
  loopsAre_of (by rw [lo86]; intro p hp; cases hp)
def g86 {R : Type} (G : ORC R) (k : Nat) (args : List V) (K : List V → Option R) : Option R := match args with
  | [.sl 4 al1, .sl 5 al2, .agg [.sl 1 al3, .sl 1 al4, .sl 1 al5, .sl 7 al6]] => f86 G k al1 al2 al3 al4 al5 al6 K
  | _ => none
theorem s86 {R : Type} {G : ORC R} {k : Nat} (hG : Sound Try.prog TAB G) (args : List V) (K : List V → Option R) (r : R) (h : g86 G k args K = some r) : ∃ o, CallOK Try.prog TAB.env 86 args o ∧ K o = some r := by
  unfold g86 at h
  split at h
  · rw [← f86_is] at h
    exact callF_sound (f := 86) TAB_chk MO hG Try.func86 (sg := S86) (by kernel_rfl) (by kernel_rfl) (la86 G k) h
  · cases h
def L54 {R : Type} (_ : ORC R) (_ : Nat) : Nat → St → (Ex → St → Option R) → Option R := fun _ _ _ => none
def f54 {R : Type} (G : ORC R) (k : Nat) (al1 : List V) (ai2 : Int) (as3 as4 : ByteArray) (al5 : List V) (ai6 : Int) (al7 al8 : List V) (ai9 : Int) (al10 al11 : List V) (al12 al13 : List V) (K : List V → Option R) : Option R :=
  (bif (ai2 == 1) then (G 86 [.sl 4 al1, .sl 5 al5, .agg [.sl 1 al10, .sl 1 al11, .sl 1 al12, .sl 7 al13]] fun o14 => uL 4 o14 fun l16 r15 => unNil r15 (G 61 [.sl 1 al10, .str as3] fun o17 => uI .i64 o17 fun n19 r18 => unNil r18 (bif (decide (List.length l16 + 1 ≤ 1073741824)) then (K [.sl 4 (l16 ++ [.agg [.int .i64 18, .int .i64 n19, .int .i64 0, .str ⟨#[]⟩]])]) else none))) else (bif (ai2 == 2) then (G 86 [.sl 4 al1, .sl 5 al5, .agg [.sl 1 al10, .sl 1 al11, .sl 1 al12, .sl 7 al13]] fun o20 => uL 4 o20 fun l22 r21 => unNil r21 (bif (decide (List.length l22 + 1 ≤ 1073741824)) then (K [.sl 4 (l22 ++ [.agg [.int .i64 19, .int .i64 0, .int .i64 0, .str as4]])]) else none)) else (bif (ai2 == 3) then (G 86 [.sl 4 al1, .sl 5 al5, .agg [.sl 1 al10, .sl 1 al11, .sl 1 al12, .sl 7 al13]] fun o23 => uL 4 o23 fun l25 r24 => unNil r24 (G 61 [.sl 1 al11, .str as3] fun o26 => uI .i64 o26 fun n28 r27 => unNil r27 (bif (decide (List.length l25 + 1 ≤ 1073741824)) then (K [.sl 4 (l25 ++ [.agg [.int .i64 20, .int .i64 n28, .int .i64 0, .str as4]])]) else none))) else (bif (ai2 == 4) then (G 86 [.sl 4 al1, .sl 5 al5, .agg [.sl 1 al10, .sl 1 al11, .sl 1 al12, .sl 7 al13]] fun o29 => uL 4 o29 fun l31 r30 => unNil r30 (G 61 [.sl 1 al12, .str as3] fun o32 => uI .i64 o32 fun n34 r33 => unNil r33 (bif (decide (List.length l31 + 1 ≤ 1073741824)) then (K [.sl 4 (l31 ++ [.agg [.int .i64 21, .int .i64 n34, .int .i64 0, .str ⟨#[]⟩]])]) else none))) else (bif (ai2 == 5) then (G 61 [.sl 1 al12, .str as3] fun o35 => uI .i64 o35 fun n37 r36 => unNil r36 (bif (decide (List.length al1 + 1 ≤ 1073741824)) then (K [.sl 4 (al1 ++ [.agg [.int .i64 22, .int .i64 n37, .int .i64 0, .str ⟨#[]⟩]])]) else none)) else (bif (ai2 == 7) then (bif (decide (List.length al1 + 1 ≤ 1073741824)) then (G 40 [.sl 4 (al1 ++ [.agg [.int .i64 25, .int .i64 0, .int .i64 ai6, .str ⟨#[]⟩]]), .sl 8 al7, .agg [.sl 1 al10, .sl 1 al11, .sl 1 al12, .sl 7 al13]] fun o38 => uL 4 o38 fun l40 r39 => unNil r39 (bif (decide (List.length l40 + 1 ≤ 1073741824)) then (bif ((decide (0 ≤ (al1.length : Int))) && (decide ((al1.length : Int) < ((List.length (l40 ++ [.agg [.int .i64 26, .int .i64 (al1.length : Int), .int .i64 0, .str ⟨#[]⟩]]) : Nat) : Int)))) then (nthK (l40 ++ [.agg [.int .i64 26, .int .i64 (al1.length : Int), .int .i64 0, .str ⟨#[]⟩]]) (Int.toNat (al1.length : Int)) fun e41 => ca4 e41 fun c42 c43 c44 c45 => K [.sl 4 (List.set (l40 ++ [.agg [.int .i64 26, .int .i64 (al1.length : Int), .int .i64 0, .str ⟨#[]⟩]]) (Int.toNat (al1.length : Int)) (.agg [c42, .int .i64 ((List.length (l40 ++ [.agg [.int .i64 26, .int .i64 (al1.length : Int), .int .i64 0, .str ⟨#[]⟩]]) : Nat) : Int), c44, c45]))]) else none) else none)) else none) else (bif (decide (0 < (al5.length : Int))) then (nthK al5 0 fun e46 => V.asAgg e46 fun l47 => G 42 [.sl 4 al1, .agg l47, .agg [.sl 1 al10, .sl 1 al11, .sl 1 al12, .sl 7 al13]] fun o48 => uL 4 o48 fun l50 r49 => unNil r49 (bif (decide (List.length l50 + 1 ≤ 1073741824)) then (G 40 [.sl 4 (l50 ++ [.agg [.int .i64 24, .int .i64 0, .int .i64 0, .str ⟨#[]⟩]]), .sl 8 al7, .agg [.sl 1 al10, .sl 1 al11, .sl 1 al12, .sl 7 al13]] fun o51 => uL 4 o51 fun l53 r52 => unNil r52 (bif (decide ((al8.length : Int) > 0)) then (bif (decide (List.length l53 + 1 ≤ 1073741824)) then (bif ((decide (0 ≤ (l50.length : Int))) && (decide ((l50.length : Int) < ((List.length (l53 ++ [.agg [.int .i64 23, .int .i64 0, .int .i64 0, .str ⟨#[]⟩]]) : Nat) : Int)))) then (nthK (l53 ++ [.agg [.int .i64 23, .int .i64 0, .int .i64 0, .str ⟨#[]⟩]]) (Int.toNat (l50.length : Int)) fun e54 => ca4 e54 fun c55 c56 c57 c58 => G 40 [.sl 4 (List.set (l53 ++ [.agg [.int .i64 23, .int .i64 0, .int .i64 0, .str ⟨#[]⟩]]) (Int.toNat (l50.length : Int)) (.agg [c55, .int .i64 ((List.length (l53 ++ [.agg [.int .i64 23, .int .i64 0, .int .i64 0, .str ⟨#[]⟩]]) : Nat) : Int), c57, c58])), .sl 8 al8, .agg [.sl 1 al10, .sl 1 al11, .sl 1 al12, .sl 7 al13]] fun o59 => uL 4 o59 fun l61 r60 => unNil r60 (bif ((decide (0 ≤ (l53.length : Int))) && (decide ((l53.length : Int) < (l61.length : Int)))) then (nthK l61 (Int.toNat (l53.length : Int)) fun e62 => ca4 e62 fun c63 c64 c65 c66 => K [.sl 4 (List.set l61 (Int.toNat (l53.length : Int)) (.agg [c63, .int .i64 (l61.length : Int), c65, c66]))]) else none)) else none) else none) else (bif ((decide (0 ≤ (l50.length : Int))) && (decide ((l50.length : Int) < (l53.length : Int)))) then (nthK l53 (Int.toNat (l50.length : Int)) fun e67 => ca4 e67 fun c68 c69 c70 c71 => K [.sl 4 (List.set l53 (Int.toNat (l50.length : Int)) (.agg [c68, .int .i64 (l53.length : Int), c70, c71]))]) else none))) else none)) else none)))))))
theorem f54_is {R : Type} (G : ORC R) (k : Nat) (K : List V → Option R) (al1 : List V) (ai2 : Int) (as3 as4 : ByteArray) (al5 : List V) (ai6 : Int) (al7 al8 : List V) (ai9 : Int) (al10 al11 : List V) (al12 al13 : List V) :
    callF (TAB.env 54) G (L54 G k) Try.f54 S54 [.sl 4 al1, .agg [.int .i64 ai2, .str as3, .str as4, .sl 5 al5, .int .i64 ai6, .sl 8 al7, .sl 8 al8, .int .i64 ai9], .agg [.sl 1 al10, .sl 1 al11, .sl 1 al12, .sl 7 al13]] K = f54 G k al1 ai2 as3 as4 al5 ai6 al7 al8 ai9 al10 al11 al12 al13 K := by kernel_rfl
theorem lo54 : loopsOf (bodyOf Try.f54) = [] := by kernel_rfl
theorem la54 {R : Type} (G : ORC R) (k : Nat) : LoopsAre (TAB.env 54) G (L54 G k) (bodyOf Try.f54) :=
  loopsAre_of (by rw [lo54]; intro p hp; cases hp)
def g54 {R : Type} (G : ORC R) (k : Nat) (args : List V) (K : List V → Option R) : Option R := match args with
  | [.sl 4 al1, .agg [.int .i64 ai2, .str as3, .str as4, .sl 5 al5, .int .i64 ai6, .sl 8 al7, .sl 8 al8, .int .i64 ai9], .agg [.sl 1 al10, .sl 1 al11, .sl 1 al12, .sl 7 al13]] => f54 G k al1 ai2 as3 as4 al5 ai6 al7 al8 ai9 al10 al11 al12 al13 K
  | _ => none
theorem s54 {R : Type} {G : ORC R} {k : Nat} (hG : Sound Try.prog TAB G) (args : List V) (K : List V → Option R) (r : R) (h : g54 G k args K = some r) : ∃ o, CallOK Try.prog TAB.env 54 args o ∧ K o = some r := by
  unfold g54 at h
  split at h
  · rw [← f54_is] at h
    exact callF_sound (f := 54) TAB_chk MO hG Try.func54 (sg := S54) (by kernel_rfl) (by kernel_rfl) (la54 G k) h
  · cases h
def P40_0h : Pat := { tmps := unds [.var (.sl 4) (.own true), .var (.sl 8) .ro, .undef, .undef, .undef, .stat (.one (.ptr 5 0) .pt), .undef, .var (.int .i64) .pr] 14 [], boxes := nons [] 5 (nons [some [.var (.sl 1) .ro false, .var (.sl 1) .ro false, .var (.sl 1) .ro false, .var (.sl 7) .ro false]] 16 []) }
def P40_0x : Pat := { tmps := unds [.var (.sl 4) (.own true)] 21 [], boxes := nons [] 22 [] }
def b40_0 {R : Type} (G : ORC R) (k : Nat) (X : List V → List V → Int → List V → List V → List V → List V → Option R) (Ko : List V → Option R) (xl7 xl8 : List V) (xi9 : Int) (xl10 xl11 : List V) (xl12 xl13 : List V) : Option R :=
  (bif (decide (xi9 < (xl8.length : Int))) then (bif ((decide (0 ≤ xi9)) && (decide (xi9 < (xl8.length : Int)))) then (nthK xl8 (Int.toNat xi9) fun e14 => V.asAgg e14 fun l15 => G 54 [.sl 4 xl7, .agg l15, .agg [.sl 1 xl10, .sl 1 xl11, .sl 1 xl12, .sl 7 xl13]] fun o16 => uL 4 o16 fun l18 r17 => unNil r17 (X l18 xl8 (IntKind.i64.wrap (xi9 + 1)) xl10 xl11 xl12 xl13)) else none) else (Ko xl7))
def l40_0g {R : Type} (G : ORC R) (k : Nat) (Ko : List V → Option R) : Nat → List V → List V → Int → List V → List V → List V → List V → Option R
  | 0 => fun _ _ _ _ _ _ _ => none
  | j + 1 => b40_0 G k (l40_0g G k Ko j) Ko
def l40_0 {R : Type} (G : ORC R) (k : Nat) (xl7 xl8 : List V) (xi9 : Int) (xl10 xl11 : List V) (xl12 xl13 : List V) (Ko : List V → Option R) : Option R := l40_0g G k Ko k xl7 xl8 xi9 xl10 xl11 xl12 xl13
def rd40_0 {R : Type} (G : ORC R) (k : Nat) (K : Ex → St → Option R) (j : Nat) (vs : List V) : Option R := match vs with
  | [.sl 4 xl7, .sl 8 xl8, .int .i64 xi9, .sl 1 xl10, .sl 1 xl11, .sl 1 xl12, .sl 7 xl13] => l40_0g G k (fun yl20 => K .normal (P40_0x.inst [.sl 4 yl20])) j xl7 xl8 xi9 xl10 xl11 xl12 xl13
  | _ => none
def L40 {R : Type} (G : ORC R) (k : Nat) : Nat → St → (Ex → St → Option R) → Option R
  | 0, S, K => P40_0h.mat S fun vs => rd40_0 G k K k vs
  | _, _, _ => none
def f40 {R : Type} (G : ORC R) (k : Nat) (al1 al2 : List V) (al3 al4 : List V) (al5 al6 : List V) (K : List V → Option R) : Option R :=
  (l40_0 G k al1 al2 0 al3 al4 al5 al6 (fun yl19 => K [.sl 4 yl19]))
noncomputable def D40_0 : LoopD := { id := 0, body := loopAt 0 (bodyOf Try.f40), head := P40_0h, out := P40_0x, ret := default }
theorem l40_0_is {R : Type} (G : ORC R) (k : Nat) (X : List V → Option R) (K : Ex → St → Option R) (xl7 xl8 : List V) (xi9 : Int) (xl10 xl11 : List V) (xl12 xl13 : List V) :
    roundOf (TAB.env 40) G (L40 G k) D40_0 X K [.sl 4 xl7, .sl 8 xl8, .int .i64 xi9, .sl 1 xl10, .sl 1 xl11, .sl 1 xl12, .sl 7 xl13] = b40_0 G k (fun xl7 xl8 xi9 xl10 xl11 xl12 xl13 => X [.sl 4 xl7, .sl 8 xl8, .int .i64 xi9, .sl 1 xl10, .sl 1 xl11, .sl 1 xl12, .sl 7 xl13]) (fun yl20 => K .normal (P40_0x.inst [.sl 4 yl20])) xl7 xl8 xi9 xl10 xl11 xl12 xl13 := by kernel_rfl
theorem f40_is {R : Type} (G : ORC R) (k : Nat) (K : List V → Option R) (al1 al2 : List V) (al3 al4 : List V) (al5 al6 : List V) :
    callF (TAB.env 40) G (L40 G k) Try.f40 S40 [.sl 4 al1, .sl 8 al2, .agg [.sl 1 al3, .sl 1 al4, .sl 1 al5, .sl 7 al6]] K = f40 G k al1 al2 al3 al4 al5 al6 K := by kernel_rfl
theorem li40_0 {R : Type} (G : ORC R) (k : Nat) : LoopIs (TAB.env 40) G (L40 G k) 0 (loopAt 0 (bodyOf Try.f40)) :=
  ⟨D40_0, fun j vs K => rd40_0 G k K j vs, k, rfl, rfl, by kernel_rfl, by kernel_rfl, by kernel_rfl, (fun vs K => by unfold rd40_0; dsimp only; split <;> rfl),
    (fun j vs K r h => by
      unfold rd40_0 at h
      dsimp only at h
      split at h
      · rw [l40_0_is]; exact h
      · cases h), (fun S K r h => h)⟩
theorem lo40 : loopsOf (bodyOf Try.f40) = [(0, loopAt 0 (bodyOf Try.f40))] := by kernel_rfl
theorem la40 {R : Type} (G : ORC R) (k : Nat) : LoopsAre (TAB.env 40) G (L40 G k) (bodyOf Try.f40) :=
  loopsAre_of (by rw [lo40]; intro p hp; simp only [List.mem_cons, List.not_mem_nil, or_false] at hp; subst hp; exact li40_0 G k)
def g40 {R : Type} (G : ORC R) (k : Nat) (args : List V) (K : List V → Option R) : Option R := match args with
  | [.sl 4 al1, .sl 8 al2, .agg [.sl 1 al3, .sl 1 al4, .sl 1 al5, .sl 7 al6]] => f40 G k al1 al2 al3 al4 al5 al6 K
  | _ => none
theorem s40 {R : Type} {G : ORC R} {k : Nat} (hG : Sound Try.prog TAB G) (args : List V) (K : List V → Option R) (r : R) (h : g40 G k args K = some r) : ∃ o, CallOK Try.prog TAB.env 40 args o ∧ K o = some r := by
  unfold g40 at h
  split at h
  · rw [← f40_is] at h
    exact callF_sound (f := 40) TAB_chk MO hG Try.func40 (sg := S40) (by kernel_rfl) (by kernel_rfl) (la40 G k) h
  · cases h
def L19 {R : Type} (_ : ORC R) (_ : Nat) : Nat → St → (Ex → St → Option R) → Option R := fun _ _ _ => none
def f19 {R : Type} (G : ORC R) (k : Nat) (al1 al2 : List V) (al3 al4 al5 : List V) (K : List V → Option R) : Option R :=
  (G 40 [.sl 4 [], .sl 8 al1, .agg [.sl 1 al2, .sl 1 al3, .sl 1 al4, .sl 7 al5]] fun o6 => uL 4 o6 fun l8 r7 => unNil r7 (K [.sl 4 l8]))
theorem f19_is {R : Type} (G : ORC R) (k : Nat) (K : List V → Option R) (al1 al2 : List V) (al3 al4 al5 : List V) :
    callF (TAB.env 19) G (L19 G k) Try.f19 S19 [.sl 8 al1, .agg [.sl 1 al2, .sl 1 al3, .sl 1 al4, .sl 7 al5]] K = f19 G k al1 al2 al3 al4 al5 K := by kernel_rfl
theorem lo19 : loopsOf (bodyOf Try.f19) = [] := by kernel_rfl
theorem la19 {R : Type} (G : ORC R) (k : Nat) : LoopsAre (TAB.env 19) G (L19 G k) (bodyOf Try.f19) :=
  loopsAre_of (by rw [lo19]; intro p hp; cases hp)
def g19 {R : Type} (G : ORC R) (k : Nat) (args : List V) (K : List V → Option R) : Option R := match args with
  | [.sl 8 al1, .agg [.sl 1 al2, .sl 1 al3, .sl 1 al4, .sl 7 al5]] => f19 G k al1 al2 al3 al4 al5 K
  | _ => none
theorem s19 {R : Type} {G : ORC R} {k : Nat} (hG : Sound Try.prog TAB G) (args : List V) (K : List V → Option R) (r : R) (h : g19 G k args K = some r) : ∃ o, CallOK Try.prog TAB.env 19 args o ∧ K o = some r := by
  unfold g19 at h
  split at h
  · rw [← f19_is] at h
    exact callF_sound (f := 19) TAB_chk MO hG Try.func19 (sg := S19) (by kernel_rfl) (by kernel_rfl) (la19 G k) h
  · cases h
def L25 {R : Type} (_ : ORC R) (_ : Nat) : Nat → St → (Ex → St → Option R) → Option R := fun _ _ _ => none
def f25 {R : Type} (G : ORC R) (k : Nat) (ai1 ai2 : Int) (as3 : ByteArray) (al4 : List V) (ai5 : Int) (al6 al7 : List V) (al8 al9 : List V) (K : List V → Option R) : Option R :=
  (G 42 [.sl 4 [], .agg [.int .i64 ai1, .int .i64 ai2, .str as3, .sl 5 al4, .int .i64 ai5], .agg [.sl 1 al6, .sl 1 al7, .sl 1 al8, .sl 7 al9]] fun o10 => uL 4 o10 fun l12 r11 => unNil r11 (K [.sl 4 l12]))
theorem f25_is {R : Type} (G : ORC R) (k : Nat) (K : List V → Option R) (ai1 ai2 : Int) (as3 : ByteArray) (al4 : List V) (ai5 : Int) (al6 al7 : List V) (al8 al9 : List V) :
    callF (TAB.env 25) G (L25 G k) Try.f25 S25 [.agg [.int .i64 ai1, .int .i64 ai2, .str as3, .sl 5 al4, .int .i64 ai5], .agg [.sl 1 al6, .sl 1 al7, .sl 1 al8, .sl 7 al9]] K = f25 G k ai1 ai2 as3 al4 ai5 al6 al7 al8 al9 K := by kernel_rfl
theorem lo25 : loopsOf (bodyOf Try.f25) = [] := by kernel_rfl
theorem la25 {R : Type} (G : ORC R) (k : Nat) : LoopsAre (TAB.env 25) G (L25 G k) (bodyOf Try.f25) :=
  loopsAre_of (by rw [lo25]; intro p hp; cases hp)
def g25 {R : Type} (G : ORC R) (k : Nat) (args : List V) (K : List V → Option R) : Option R := match args with
  | [.agg [.int .i64 ai1, .int .i64 ai2, .str as3, .sl 5 al4, .int .i64 ai5], .agg [.sl 1 al6, .sl 1 al7, .sl 1 al8, .sl 7 al9]] => f25 G k ai1 ai2 as3 al4 ai5 al6 al7 al8 al9 K
  | _ => none
theorem s25 {R : Type} {G : ORC R} {k : Nat} (hG : Sound Try.prog TAB G) (args : List V) (K : List V → Option R) (r : R) (h : g25 G k args K = some r) : ∃ o, CallOK Try.prog TAB.env 25 args o ∧ K o = some r := by
  unfold g25 at h
  split at h
  · rw [← f25_is] at h
    exact callF_sound (f := 25) TAB_chk MO hG Try.func25 (sg := S25) (by kernel_rfl) (by kernel_rfl) (la25 G k) h
  · cases h
def L7 {R : Type} (_ : ORC R) (_ : Nat) : Nat → St → (Ex → St → Option R) → Option R := fun _ _ _ => none
def f7 {R : Type} (G : ORC R) (k : Nat) (al1 : List V) (K : List V → Option R) : Option R :=
  (bif (decide ((al1.length : Int) > 150)) then (G 14 [] fun o2 => uB o2 fun b4 r3 => unNil r3 (K [.bool b4])) else (G 15 [] fun o5 => uA o5 fun l7 r6 => uL 1 l7 fun l9 r8 => uL 1 r8 fun l11 r10 => uL 1 r10 fun l13 r12 => uL 1 r12 fun l15 r14 => unNil r14 (uA r6 fun l17 r16 => uL 1 l17 fun l19 r18 => uL 1 r18 fun l21 r20 => uL 1 r20 fun l23 r22 => uL 7 r22 fun l25 r24 => unNil r24 (uA r16 fun l27 r26 => uL 1 l27 fun l29 r28 => uL 1 r28 fun l31 r30 => uL 1 r30 fun l33 r32 => uL 7 r32 fun l35 r34 => unNil r34 (unNil r26 (G 23 [.agg [.sl 1 l9, .sl 1 l11, .sl 1 l13, .sl 1 l15], .int .i64 5, .sl 1 al1, .int .i64 0] fun o36 => uA o36 fun l38 r37 => uI .i64 l38 fun n40 r39 => uI .i64 r39 fun n42 r41 => uS r41 fun s44 r43 => uL 5 r43 fun l46 r45 => uI .i64 r45 fun n48 r47 => unNil r47 (uI .i64 r37 fun n50 r49 => unNil r49 (G 24 [.agg [.int .i64 n40, .int .i64 n42, .str s44, .sl 5 l46, .int .i64 n48], .agg [.sl 1 l19, .sl 1 l21, .sl 1 l23, .sl 7 l25]] fun o51 => uL 4 o51 fun l53 r52 => unNil r52 (G 25 [.agg [.int .i64 n40, .int .i64 n42, .str s44, .sl 5 l46, .int .i64 n48], .agg [.sl 1 l29, .sl 1 l31, .sl 1 l33, .sl 7 l35]] fun o54 => uL 4 o54 fun l56 r55 => unNil r55 (G 17 [.sl 4 l53, .sl 4 l56] fun o57 => uB o57 fun b59 r58 => unNil r58 (bif b59 then (G 14 [] fun o60 => uB o60 fun b62 r61 => unNil r61 (K [.bool b62])) else (K [.bool false]))))))))))))
theorem f7_is {R : Type} (G : ORC R) (k : Nat) (K : List V → Option R) (al1 : List V) :
    callF (TAB.env 7) G (L7 G k) Try.f7 S7 [.sl 1 al1] K = f7 G k al1 K := by kernel_rfl
theorem lo7 : loopsOf (bodyOf Try.f7) = [] := by kernel_rfl
theorem la7 {R : Type} (G : ORC R) (k : Nat) : LoopsAre (TAB.env 7) G (L7 G k) (bodyOf Try.f7) :=
  loopsAre_of (by rw [lo7]; intro p hp; cases hp)
def g7 {R : Type} (G : ORC R) (k : Nat) (args : List V) (K : List V → Option R) : Option R := match args with
  | [.sl 1 al1] => f7 G k al1 K
  | _ => none
theorem s7 {R : Type} {G : ORC R} {k : Nat} (hG : Sound Try.prog TAB G) (args : List V) (K : List V → Option R) (r : R) (h : g7 G k args K = some r) : ∃ o, CallOK Try.prog TAB.env 7 args o ∧ K o = some r := by
  unfold g7 at h
  split at h
  · rw [← f7_is] at h
    exact callF_sound (f := 7) TAB_chk MO hG Try.func7 (sg := S7) (by kernel_rfl) (by kernel_rfl) (la7 G k) h
  · cases h
def L26 {R : Type} (_ : ORC R) (_ : Nat) : Nat → St → (Ex → St → Option R) → Option R := fun _ _ _ => none
def f26 {R : Type} (G : ORC R) (k : Nat)  (K : List V → Option R) : Option R :=
  (G 31 [.sl 4 [.agg [.int .i64 1, .int .i64 0, .int .i64 1, .str ⟨#[]⟩], .agg [.int .i64 1, .int .i64 0, .int .i64 0, .str ⟨#[]⟩], .agg [.int .i64 8, .int .i64 0, .int .i64 0, .str ⟨#[]⟩]], .agg [.sl 1 [], .sl 1 [], .sl 1 []], .int .i64 0, .int .i64 9] fun o1 => uA o1 fun l3 r2 => uI .i64 l3 fun n5 r4 => uL 1 r4 fun l7 r6 => uL 2 r6 fun l9 r8 => uL 4 r8 fun l11 r10 => uI .i64 r10 fun n13 r12 => uI .i64 r12 fun n15 r14 => unNil r14 (unNil r2 (G 31 [.sl 4 [.agg [.int .i64 3, .int .i64 0, .int .i64 0, .str ⟨#[]⟩], .agg [.int .i64 20, .int .i64 1, .int .i64 0, .str ⟨#[101]⟩]], .agg [.sl 1 [], .sl 1 [], .sl 1 []], .int .i64 7, .int .i64 9] fun o16 => uA o16 fun l18 r17 => uI .i64 l18 fun n20 r19 => uL 1 r19 fun l22 r21 => uL 2 r21 fun l24 r23 => uL 4 r23 fun l26 r25 => uI .i64 r25 fun n28 r27 => uI .i64 r27 fun n30 r29 => unNil r29 (unNil r17 (bif (n15 == 3) then (bif (n13 == 3) then (bif (n30 == 0) then (bif ((l26.length : Int) == 1) then (bif (decide (0 < (l26.length : Int))) then (nthK l26 0 fun e31 => V.asAgg e31 fun l32 => ce4 l32 fun c33 c34 c35 c36 => V.asInt c33 fun k42 n43 => bif ((decide (k42 = .i64)) && true) then (V.asInt c34 fun k44 n45 => bif ((decide (k44 = .i64)) && true) then (V.asStr c35 fun s46 => V.asInt c36 fun k47 n48 => bif ((decide (k47 = .i64)) && true) then (K [.bool ((n43 == 1) && ((n45 == 1) && ((ByteArray.toList s46 == ByteArray.toList ⟨#[101]⟩) && ((n48 == 7) && true))))]) else none) else none) else none) else none) else (K [.bool false])) else (K [.bool false])) else (K [.bool false])) else (K [.bool false]))))))
theorem f26_is {R : Type} (G : ORC R) (k : Nat) (K : List V → Option R)  :
    callF (TAB.env 26) G (L26 G k) Try.f26 S26 [] K = f26 G k  K := by kernel_rfl
theorem lo26 : loopsOf (bodyOf Try.f26) = [] := by kernel_rfl
theorem la26 {R : Type} (G : ORC R) (k : Nat) : LoopsAre (TAB.env 26) G (L26 G k) (bodyOf Try.f26) :=
  loopsAre_of (by rw [lo26]; intro p hp; cases hp)
def g26 {R : Type} (G : ORC R) (k : Nat) (args : List V) (K : List V → Option R) : Option R := match args with
  | [] => f26 G k  K
  | _ => none
theorem s26 {R : Type} {G : ORC R} {k : Nat} (hG : Sound Try.prog TAB G) (args : List V) (K : List V → Option R) (r : R) (h : g26 G k args K = some r) : ∃ o, CallOK Try.prog TAB.env 26 args o ∧ K o = some r := by
  unfold g26 at h
  split at h
  · rw [← f26_is] at h
    exact callF_sound (f := 26) TAB_chk MO hG Try.func26 (sg := S26) (by kernel_rfl) (by kernel_rfl) (la26 G k) h
  · cases h
def L27 {R : Type} (_ : ORC R) (_ : Nat) : Nat → St → (Ex → St → Option R) → Option R := fun _ _ _ => none
def f27 {R : Type} (G : ORC R) (k : Nat) (al1 : List V) (ab2 : Bool) (K : List V → Option R) : Option R :=
  (G 35 [.agg [.str ⟨#[]⟩, .int .i64 0, .int .i64 0, .sl 3 [], .sl 3 [], .sl 3 [], .sl 7 [.agg [.int .i64 1, .str ⟨#[105, 100, 108, 101]⟩, .sl 8 [], .sl 8 [], .sl 5 [], .sl 7 [], .int .i64 0], .agg [.int .i64 1, .str ⟨#[98, 117, 115, 121]⟩, .sl 8 [], .sl 8 [], .sl 5 [], .sl 7 [], .int .i64 0]], .int .i64 0]] fun o3 => uL 7 o3 fun l5 r4 => unNil r4 (bif ab2 then (G 16 [.agg [.sl 1 [.str ⟨#[120]⟩, .str ⟨#[121]⟩], .sl 1 [.str ⟨#[112]⟩, .str ⟨#[113]⟩], .sl 1 [.str ⟨#[116]⟩], .sl 1 [.str ⟨#[105, 100, 108, 101]⟩, .str ⟨#[98, 117, 115, 121]⟩]], .int .i64 3, .sl 1 al1, .int .i64 0] fun o6 => uL 8 o6 fun l8 r7 => uI .i64 r7 fun n10 r9 => unNil r9 (G 19 [.sl 8 l8, .agg [.sl 1 [.str ⟨#[120]⟩, .str ⟨#[121]⟩], .sl 1 [.str ⟨#[112]⟩, .str ⟨#[113]⟩], .sl 1 [.str ⟨#[116]⟩], .sl 7 l5]] fun o11 => uL 4 o11 fun l13 r12 => unNil r12 (K [.sl 4 l13]))) else (G 23 [.agg [.sl 1 [.str ⟨#[120]⟩, .str ⟨#[121]⟩], .sl 1 [.str ⟨#[112]⟩, .str ⟨#[113]⟩], .sl 1 [.str ⟨#[116]⟩], .sl 1 [.str ⟨#[105, 100, 108, 101]⟩, .str ⟨#[98, 117, 115, 121]⟩]], .int .i64 5, .sl 1 al1, .int .i64 0] fun o14 => uA o14 fun l16 r15 => uI .i64 l16 fun n18 r17 => uI .i64 r17 fun n20 r19 => uS r19 fun s22 r21 => uL 5 r21 fun l24 r23 => uI .i64 r23 fun n26 r25 => unNil r25 (uI .i64 r15 fun n28 r27 => unNil r27 (G 25 [.agg [.int .i64 n18, .int .i64 n20, .str s22, .sl 5 l24, .int .i64 n26], .agg [.sl 1 [.str ⟨#[120]⟩, .str ⟨#[121]⟩], .sl 1 [.str ⟨#[112]⟩, .str ⟨#[113]⟩], .sl 1 [.str ⟨#[116]⟩], .sl 7 l5]] fun o29 => uL 4 o29 fun l31 r30 => unNil r30 (K [.sl 4 l31]))))))
theorem f27_is {R : Type} (G : ORC R) (k : Nat) (K : List V → Option R) (al1 : List V) (ab2 : Bool) :
    callF (TAB.env 27) G (L27 G k) Try.f27 S27 [.sl 1 al1, .bool ab2] K = f27 G k al1 ab2 K := by kernel_rfl
theorem lo27 : loopsOf (bodyOf Try.f27) = [] := by kernel_rfl
theorem la27 {R : Type} (G : ORC R) (k : Nat) : LoopsAre (TAB.env 27) G (L27 G k) (bodyOf Try.f27) :=
  loopsAre_of (by rw [lo27]; intro p hp; cases hp)
def g27 {R : Type} (G : ORC R) (k : Nat) (args : List V) (K : List V → Option R) : Option R := match args with
  | [.sl 1 al1, .bool ab2] => f27 G k al1 ab2 K
  | _ => none
theorem s27 {R : Type} {G : ORC R} {k : Nat} (hG : Sound Try.prog TAB G) (args : List V) (K : List V → Option R) (r : R) (h : g27 G k args K = some r) : ∃ o, CallOK Try.prog TAB.env 27 args o ∧ K o = some r := by
  unfold g27 at h
  split at h
  · rw [← f27_is] at h
    exact callF_sound (f := 27) TAB_chk MO hG Try.func27 (sg := S27) (by kernel_rfl) (by kernel_rfl) (la27 G k) h
  · cases h
def L28 {R : Type} (_ : ORC R) (_ : Nat) : Nat → St → (Ex → St → Option R) → Option R := fun _ _ _ => none
def f28 {R : Type} (G : ORC R) (k : Nat) (ai1 ai2 : Int) (ab3 : Bool) (K : List V → Option R) : Option R :=
  (bif ab3 then (K [.agg [.sl 1 [.int .i64 0, .int .i64 2], .sl 1 [.int .i64 ai1, .int .i64 ai2], .sl 1 []]]) else (K [.agg [.sl 1 [.int .i64 0, .int .i64 1], .sl 1 [.int .i64 ai1, .int .i64 ai2], .sl 1 []]]))
theorem f28_is {R : Type} (G : ORC R) (k : Nat) (K : List V → Option R) (ai1 ai2 : Int) (ab3 : Bool) :
    callF (TAB.env 28) G (L28 G k) Try.f28 S28 [.int .i64 ai1, .int .i64 ai2, .bool ab3] K = f28 G k ai1 ai2 ab3 K := by kernel_rfl
theorem lo28 : loopsOf (bodyOf Try.f28) = [] := by kernel_rfl
theorem la28 {R : Type} (G : ORC R) (k : Nat) : LoopsAre (TAB.env 28) G (L28 G k) (bodyOf Try.f28) :=
  loopsAre_of (by rw [lo28]; intro p hp; cases hp)
def g28 {R : Type} (G : ORC R) (k : Nat) (args : List V) (K : List V → Option R) : Option R := match args with
  | [.int .i64 ai1, .int .i64 ai2, .bool ab3] => f28 G k ai1 ai2 ab3 K
  | _ => none
theorem s28 {R : Type} {G : ORC R} {k : Nat} (hG : Sound Try.prog TAB G) (args : List V) (K : List V → Option R) (r : R) (h : g28 G k args K = some r) : ∃ o, CallOK Try.prog TAB.env 28 args o ∧ K o = some r := by
  unfold g28 at h
  split at h
  · rw [← f28_is] at h
    exact callF_sound (f := 28) TAB_chk MO hG Try.func28 (sg := S28) (by kernel_rfl) (by kernel_rfl) (la28 G k) h
  · cases h
def P21_0h : Pat := { tmps := unds [.var (.sl 4) .ro, .var (.int .i64) .pr, .undef, .undef, .undef, .var (.int .i64) .pr, .var (.int .i64) .pr] 36 [], boxes := nons [] 43 [] }
def P21_0x : Pat := { tmps := unds [] 5 (unds [.var (.int .i64) .pr] 37 []), boxes := nons [] 43 [] }
def b21_0 {R : Type} (G : ORC R) (k : Nat) (X : List V → Int → Int → Int → Option R) (Ko : Int → Option R) (xl3 : List V) (xi4 xi5 xi6 : Int) : Option R :=
  (bif (decide (xi6 < xi4)) then (bif ((decide (0 ≤ xi6)) && (decide (xi6 < (xl3.length : Int)))) then (nthK xl3 (Int.toNat xi6) fun e7 => ca4 e7 fun c8 c9 c10 c11 => aI .i64 c8 fun n12 => bif (n12 == 25) then (bif ((decide (0 ≤ xi6)) && (decide (xi6 < (xl3.length : Int)))) then (nthK xl3 (Int.toNat xi6) fun e13 => ca4 e13 fun c14 c15 c16 c17 => aI .i64 c15 fun n18 => bif (decide (xi4 < n18)) then (bif ((decide (0 ≤ xi6)) && (decide (xi6 < (xl3.length : Int)))) then (nthK xl3 (Int.toNat xi6) fun e19 => ca4 e19 fun c20 c21 c22 c23 => aI .i64 c22 fun n24 => X xl3 xi4 (IntKind.i64.wrap (xi5 * n24)) (IntKind.i64.wrap (xi6 + 1))) else none) else (X xl3 xi4 xi5 (IntKind.i64.wrap (xi6 + 1)))) else none) else (X xl3 xi4 xi5 (IntKind.i64.wrap (xi6 + 1)))) else none) else (Ko xi5))
def l21_0g {R : Type} (G : ORC R) (k : Nat) (Ko : Int → Option R) : Nat → List V → Int → Int → Int → Option R
  | 0 => fun _ _ _ _ => none
  | j + 1 => b21_0 G k (l21_0g G k Ko j) Ko
def l21_0 {R : Type} (G : ORC R) (k : Nat) (xl3 : List V) (xi4 xi5 xi6 : Int) (Ko : Int → Option R) : Option R := l21_0g G k Ko k xl3 xi4 xi5 xi6
def rd21_0 {R : Type} (G : ORC R) (k : Nat) (K : Ex → St → Option R) (j : Nat) (vs : List V) : Option R := match vs with
  | [.sl 4 xl3, .int .i64 xi4, .int .i64 xi5, .int .i64 xi6] => l21_0g G k (fun yi26 => K .normal (P21_0x.inst [.int .i64 yi26])) j xl3 xi4 xi5 xi6
  | _ => none
def L21 {R : Type} (G : ORC R) (k : Nat) : Nat → St → (Ex → St → Option R) → Option R
  | 0, S, K => P21_0h.mat S fun vs => rd21_0 G k K k vs
  | _, _, _ => none
def f21 {R : Type} (G : ORC R) (k : Nat) (al1 : List V) (ai2 : Int) (K : List V → Option R) : Option R :=
  (bif (decide (ai2 < 0)) then (K [.int .i64 0]) else (bif (decide (ai2 ≥ (al1.length : Int))) then (K [.int .i64 0]) else (l21_0 G k al1 ai2 1 0 (fun yi25 => K [.int .i64 yi25]))))
noncomputable def D21_0 : LoopD := { id := 0, body := loopAt 0 (bodyOf Try.f21), head := P21_0h, out := P21_0x, ret := default }
theorem l21_0_is {R : Type} (G : ORC R) (k : Nat) (X : List V → Option R) (K : Ex → St → Option R) (xl3 : List V) (xi4 xi5 xi6 : Int) :
    roundOf (TAB.env 21) G (L21 G k) D21_0 X K [.sl 4 xl3, .int .i64 xi4, .int .i64 xi5, .int .i64 xi6] = b21_0 G k (fun xl3 xi4 xi5 xi6 => X [.sl 4 xl3, .int .i64 xi4, .int .i64 xi5, .int .i64 xi6]) (fun yi26 => K .normal (P21_0x.inst [.int .i64 yi26])) xl3 xi4 xi5 xi6 := by kernel_rfl
theorem f21_is {R : Type} (G : ORC R) (k : Nat) (K : List V → Option R) (al1 : List V) (ai2 : Int) :
    callF (TAB.env 21) G (L21 G k) Try.f21 S21 [.sl 4 al1, .int .i64 ai2] K = f21 G k al1 ai2 K := by kernel_rfl
theorem li21_0 {R : Type} (G : ORC R) (k : Nat) : LoopIs (TAB.env 21) G (L21 G k) 0 (loopAt 0 (bodyOf Try.f21)) :=
  ⟨D21_0, fun j vs K => rd21_0 G k K j vs, k, rfl, rfl, by kernel_rfl, by kernel_rfl, by kernel_rfl, (fun vs K => by unfold rd21_0; dsimp only; split <;> rfl),
    (fun j vs K r h => by
      unfold rd21_0 at h
      dsimp only at h
      split at h
      · rw [l21_0_is]; exact h
      · cases h), (fun S K r h => h)⟩
theorem lo21 : loopsOf (bodyOf Try.f21) = [(0, loopAt 0 (bodyOf Try.f21))] := by kernel_rfl
theorem la21 {R : Type} (G : ORC R) (k : Nat) : LoopsAre (TAB.env 21) G (L21 G k) (bodyOf Try.f21) :=
  loopsAre_of (by rw [lo21]; intro p hp; simp only [List.mem_cons, List.not_mem_nil, or_false] at hp; subst hp; exact li21_0 G k)
def g21 {R : Type} (G : ORC R) (k : Nat) (args : List V) (K : List V → Option R) : Option R := match args with
  | [.sl 4 al1, .int .i64 ai2] => f21 G k al1 ai2 K
  | _ => none
theorem s21 {R : Type} {G : ORC R} {k : Nat} (hG : Sound Try.prog TAB G) (args : List V) (K : List V → Option R) (r : R) (h : g21 G k args K = some r) : ∃ o, CallOK Try.prog TAB.env 21 args o ∧ K o = some r := by
  unfold g21 at h
  split at h
  · rw [← f21_is] at h
    exact callF_sound (f := 21) TAB_chk MO hG Try.func21 (sg := S21) (by kernel_rfl) (by kernel_rfl) (la21 G k) h
  · cases h
def P34_0h : Pat := { tmps := unds [.var (.sl 4) .ro, .undef, .undef, .var (.int .i64) .pr, .var (.int .i64) .pr] 12 [], boxes := nons [] 17 [] }
def P34_0x : Pat := { tmps := unds [.undef, .undef, .undef, .var (.int .i64) .pr] 13 [], boxes := nons [] 17 [] }
def b34_0 {R : Type} (G : ORC R) (k : Nat) (X : List V → Int → Int → Option R) (Ko : Int → Option R) (xl2 : List V) (xi3 xi4 : Int) : Option R :=
  (bif (decide (xi4 < (xl2.length : Int))) then (G 21 [.sl 4 xl2, .int .i64 xi4] fun o5 => uI .i64 o5 fun n7 r6 => unNil r6 (X xl2 (IntKind.i64.wrap (xi3 + n7)) (IntKind.i64.wrap (xi4 + 1)))) else (Ko xi3))
def l34_0g {R : Type} (G : ORC R) (k : Nat) (Ko : Int → Option R) : Nat → List V → Int → Int → Option R
  | 0 => fun _ _ _ => none
  | j + 1 => b34_0 G k (l34_0g G k Ko j) Ko
def l34_0 {R : Type} (G : ORC R) (k : Nat) (xl2 : List V) (xi3 xi4 : Int) (Ko : Int → Option R) : Option R := l34_0g G k Ko k xl2 xi3 xi4
def rd34_0 {R : Type} (G : ORC R) (k : Nat) (K : Ex → St → Option R) (j : Nat) (vs : List V) : Option R := match vs with
  | [.sl 4 xl2, .int .i64 xi3, .int .i64 xi4] => l34_0g G k (fun yi9 => K .normal (P34_0x.inst [.int .i64 yi9])) j xl2 xi3 xi4
  | _ => none
def L34 {R : Type} (G : ORC R) (k : Nat) : Nat → St → (Ex → St → Option R) → Option R
  | 0, S, K => P34_0h.mat S fun vs => rd34_0 G k K k vs
  | _, _, _ => none
def f34 {R : Type} (G : ORC R) (k : Nat) (al1 : List V) (K : List V → Option R) : Option R :=
  (l34_0 G k al1 0 0 (fun yi8 => K [.int .i64 yi8]))
noncomputable def D34_0 : LoopD := { id := 0, body := loopAt 0 (bodyOf Try.f34), head := P34_0h, out := P34_0x, ret := default }
theorem l34_0_is {R : Type} (G : ORC R) (k : Nat) (X : List V → Option R) (K : Ex → St → Option R) (xl2 : List V) (xi3 xi4 : Int) :
    roundOf (TAB.env 34) G (L34 G k) D34_0 X K [.sl 4 xl2, .int .i64 xi3, .int .i64 xi4] = b34_0 G k (fun xl2 xi3 xi4 => X [.sl 4 xl2, .int .i64 xi3, .int .i64 xi4]) (fun yi9 => K .normal (P34_0x.inst [.int .i64 yi9])) xl2 xi3 xi4 := by kernel_rfl
theorem f34_is {R : Type} (G : ORC R) (k : Nat) (K : List V → Option R) (al1 : List V) :
    callF (TAB.env 34) G (L34 G k) Try.f34 S34 [.sl 4 al1] K = f34 G k al1 K := by kernel_rfl
theorem li34_0 {R : Type} (G : ORC R) (k : Nat) : LoopIs (TAB.env 34) G (L34 G k) 0 (loopAt 0 (bodyOf Try.f34)) :=
  ⟨D34_0, fun j vs K => rd34_0 G k K j vs, k, rfl, rfl, by kernel_rfl, by kernel_rfl, by kernel_rfl, (fun vs K => by unfold rd34_0; dsimp only; split <;> rfl),
    (fun j vs K r h => by
      unfold rd34_0 at h
      dsimp only at h
      split at h
      · rw [l34_0_is]; exact h
      · cases h), (fun S K r h => h)⟩
theorem lo34 : loopsOf (bodyOf Try.f34) = [(0, loopAt 0 (bodyOf Try.f34))] := by kernel_rfl
theorem la34 {R : Type} (G : ORC R) (k : Nat) : LoopsAre (TAB.env 34) G (L34 G k) (bodyOf Try.f34) :=
  loopsAre_of (by rw [lo34]; intro p hp; simp only [List.mem_cons, List.not_mem_nil, or_false] at hp; subst hp; exact li34_0 G k)
def g34 {R : Type} (G : ORC R) (k : Nat) (args : List V) (K : List V → Option R) : Option R := match args with
  | [.sl 4 al1] => f34 G k al1 K
  | _ => none
theorem s34 {R : Type} {G : ORC R} {k : Nat} (hG : Sound Try.prog TAB G) (args : List V) (K : List V → Option R) (r : R) (h : g34 G k args K = some r) : ∃ o, CallOK Try.prog TAB.env 34 args o ∧ K o = some r := by
  unfold g34 at h
  split at h
  · rw [← f34_is] at h
    exact callF_sound (f := 34) TAB_chk MO hG Try.func34 (sg := S34) (by kernel_rfl) (by kernel_rfl) (la34 G k) h
  · cases h
def P10_0h : Pat := { tmps := unds [] 11 (unds [.var (.sl 4) .ro, .stat (.one (.ptr 12 0) .pt), .stat (.one (.ptr 13 0) .pt), .stat (.one (.ptr 14 0) .pt), .var (.int .i64) .pr] 115 []), boxes := nons [] 12 (nons [some [.var (.int .i64) .pr false, .var (.sl 1) (.own false) false, .var (.sl 2) (.own false) false, .var (.sl 4) (.own false) false, .var (.int .i64) .pr false, .var (.int .i64) .pr false], some [.var .any .pr false, .var .any .pr false], some [.var (.int .i64) .pr false, .var (.int .i64) .pr false]] 116 []) }
def P10_0x : Pat := { tmps := unds [] 11 (unds [.var (.sl 4) .ro, .stat (.one (.ptr 12 0) .pt), .stat (.one (.ptr 13 0) .pt), .stat (.one (.ptr 14 0) .pt)] 116 []), boxes := nons [] 12 (nons [some [.var (.int .i64) .pr false, .var (.sl 1) (.own false) false, .var (.sl 2) (.own false) false, .var (.sl 4) (.own false) false, .var (.int .i64) .pr false, .var (.int .i64) .pr false], some [.var .any .pr false, .var .any .pr false], some [.var (.int .i64) .pr false, .var (.int .i64) .pr false]] 116 []) }
def P10_0r : Pat := { tmps := unds [] 10 (unds [.var .bool .pr] 120 []), boxes := nons [] 131 [] }
def b10_0 {R : Type} (G : ORC R) (k : Nat) (X : List V → Int → Int → List V → List V → List V → Int → Int → V → V → Int → Int → Option R) (Ko : List V → Int → List V → List V → List V → Int → Int → V → V → Int → Int → Option R) (Kr : Bool → Option R) (xl36 : List V) (xi37 xi38 : Int) (xl39 xl40 xl41 : List V) (xi42 xi43 : Int) (xv44 xv45 : V) (xi46 xi47 : Int) : Option R :=
  (bif (decide (xi37 < (xl41.length : Int))) then (bif ((decide (0 ≤ xi37)) && (decide (xi37 < (xl41.length : Int)))) then (nthK xl41 (Int.toNat xi37) fun e48 => ca4 e48 fun c49 c50 c51 c52 => aI .i64 c49 fun n53 => bif (n53 == 1) then (bif ((decide (0 ≤ xi37)) && (decide (xi37 < (xl41.length : Int)))) then (nthK xl41 (Int.toNat xi37) fun e54 => ca4 e54 fun c55 c56 c57 c58 => aI .i64 c56 fun n59 => bif (decide (n59 < 0)) then (Kr false) else (bif ((decide (0 ≤ xi37)) && (decide (xi37 < (xl41.length : Int)))) then (nthK xl41 (Int.toNat xi37) fun e60 => ca4 e60 fun c61 c62 c63 c64 => aI .i64 c62 fun n65 => bif (decide (n65 > 1)) then (Kr false) else (bif ((decide (0 ≤ xi37)) && (decide (xi37 < (xl41.length : Int)))) then (nthK xl41 (Int.toNat xi37) fun e66 => ca4 e66 fun c67 c68 c69 c70 => aI .i64 c68 fun n71 => bif ((decide (0 ≤ n71)) && (decide (n71 < 2))) then (nthK [xv44, xv45] (Int.toNat n71) fun e72 => aI .i64 e72 fun n73 => bif ((decide (0 ≤ n71)) && (decide (n71 < 2))) then (X xl36 (IntKind.i64.wrap (xi37 + 1)) xi38 xl39 xl40 xl41 xi42 xi43 (bif (0 == (Int.toNat n71)) then (.int .i64 (IntKind.i64.wrap (n73 + 1))) else xv44) (bif (1 == (Int.toNat n71)) then (.int .i64 (IntKind.i64.wrap (n73 + 1))) else xv45) xi46 xi47) else none) else none) else none)) else none)) else none) else (X xl36 (IntKind.i64.wrap (xi37 + 1)) xi38 xl39 xl40 xl41 xi42 xi43 xv44 xv45 xi46 xi47)) else none) else (Ko xl36 xi38 xl39 xl40 xl41 xi42 xi43 xv44 xv45 xi46 xi47))
def l10_0g {R : Type} (G : ORC R) (k : Nat) (Ko : List V → Int → List V → List V → List V → Int → Int → V → V → Int → Int → Option R) (Kr : Bool → Option R) : Nat → List V → Int → Int → List V → List V → List V → Int → Int → V → V → Int → Int → Option R
  | 0 => fun _ _ _ _ _ _ _ _ _ _ _ _ => none
  | j + 1 => b10_0 G k (l10_0g G k Ko Kr j) Ko Kr
def l10_0 {R : Type} (G : ORC R) (k : Nat) (xl36 : List V) (xi37 xi38 : Int) (xl39 xl40 xl41 : List V) (xi42 xi43 : Int) (xv44 xv45 : V) (xi46 xi47 : Int) (Ko : List V → Int → List V → List V → List V → Int → Int → V → V → Int → Int → Option R) (Kr : Bool → Option R) : Option R := l10_0g G k Ko Kr k xl36 xi37 xi38 xl39 xl40 xl41 xi42 xi43 xv44 xv45 xi46 xi47
def P10_2h : Pat := { tmps := unds [] 11 (unds [.var (.sl 4) .ro, .stat (.one (.ptr 12 0) .pt), .stat (.one (.ptr 13 0) .pt), .stat (.one (.ptr 14 0) .pt), .undef, .var (.int .i64) .pr] 114 []), boxes := nons [] 12 (nons [some [.var (.int .i64) .pr false, .var (.sl 1) (.own false) false, .var (.sl 2) (.own false) false, .var (.sl 4) (.own false) false, .var (.int .i64) .pr false, .var (.int .i64) .pr false], some [.var .any .pr false, .var .any .pr false], some [.var .any .pr false, .var .any .pr false]] 116 []) }
def P10_2x : Pat := { tmps := unds [] 11 (unds [.var (.sl 4) .ro, .stat (.one (.ptr 12 0) .pt), .stat (.one (.ptr 13 0) .pt), .stat (.one (.ptr 14 0) .pt)] 116 []), boxes := nons [] 12 (nons [some [.var (.int .i64) .pr false, .var (.sl 1) (.own false) false, .var (.sl 2) (.own false) false, .var (.sl 4) (.own false) false, .var (.int .i64) .pr false, .var (.int .i64) .pr false], some [.var .any .pr false, .var .any .pr false], some [.var .any .pr false, .var .any .pr false]] 116 []) }
def b10_2 {R : Type} (G : ORC R) (k : Nat) (X : List V → Int → Int → List V → List V → List V → Int → Int → V → V → V → V → Option R) (Ko : List V → Int → List V → List V → List V → Int → Int → V → V → V → V → Option R) (xl85 : List V) (xi86 xi87 : Int) (xl88 xl89 xl90 : List V) (xi91 xi92 : Int) (xv93 xv94 : V) (xv95 xv96 : V) : Option R :=
  (bif (decide (xi86 < (xl85.length : Int))) then (bif ((decide (0 ≤ xi86)) && (decide (xi86 < (xl85.length : Int)))) then (nthK xl85 (Int.toNat xi86) fun e97 => ca4 e97 fun c98 c99 c100 c101 => aI .i64 c98 fun n102 => bif (n102 == 20) then (bif ((decide (0 ≤ xi86)) && (decide (xi86 < (xl85.length : Int)))) then (nthK xl85 (Int.toNat xi86) fun e103 => ca4 e103 fun c104 c105 c106 c107 => aI .i64 c105 fun n108 => bif ((decide (0 ≤ xi86)) && (decide (xi86 < (xl85.length : Int)))) then (nthK xl85 (Int.toNat xi86) fun e109 => ca4 e109 fun c110 c111 c112 c113 => aI .i64 c111 fun n114 => bif ((decide (0 ≤ n114)) && (decide (n114 < 2))) then (nthK [xv95, xv96] (Int.toNat n114) fun e115 => G 21 [.sl 4 xl85, .int .i64 xi86] fun o116 => uI .i64 o116 fun n118 r117 => unNil r117 (aI .i64 e115 fun n119 => bif ((decide (0 ≤ n108)) && (decide (n108 < 2))) then (X xl85 (IntKind.i64.wrap (xi86 + 1)) xi87 xl88 xl89 xl90 xi91 xi92 xv93 xv94 (bif (0 == (Int.toNat n108)) then (.int .i64 (IntKind.i64.wrap (n119 + n118))) else xv95) (bif (1 == (Int.toNat n108)) then (.int .i64 (IntKind.i64.wrap (n119 + n118))) else xv96)) else none)) else none) else none) else none) else (X xl85 (IntKind.i64.wrap (xi86 + 1)) xi87 xl88 xl89 xl90 xi91 xi92 xv93 xv94 xv95 xv96)) else none) else (Ko xl85 xi87 xl88 xl89 xl90 xi91 xi92 xv93 xv94 xv95 xv96))
def l10_2g {R : Type} (G : ORC R) (k : Nat) (Ko : List V → Int → List V → List V → List V → Int → Int → V → V → V → V → Option R) : Nat → List V → Int → Int → List V → List V → List V → Int → Int → V → V → V → V → Option R
  | 0 => fun _ _ _ _ _ _ _ _ _ _ _ _ => none
  | j + 1 => b10_2 G k (l10_2g G k Ko j) Ko
def l10_2 {R : Type} (G : ORC R) (k : Nat) (xl85 : List V) (xi86 xi87 : Int) (xl88 xl89 xl90 : List V) (xi91 xi92 : Int) (xv93 xv94 : V) (xv95 xv96 : V) (Ko : List V → Int → List V → List V → List V → Int → Int → V → V → V → V → Option R) : Option R := l10_2g G k Ko k xl85 xi86 xi87 xl88 xl89 xl90 xi91 xi92 xv93 xv94 xv95 xv96
def rd10_0 {R : Type} (G : ORC R) (k : Nat) (K : Ex → St → Option R) (j : Nat) (vs : List V) : Option R := match vs with
  | [.sl 4 xl36, .int .i64 xi37, .int .i64 xi38, .sl 1 xl39, .sl 2 xl40, .sl 4 xl41, .int .i64 xi42, .int .i64 xi43, xv44, xv45, .int .i64 xi46, .int .i64 xi47] => l10_0g G k (fun yl145 yi146 yl147 yl148 yl149 yi150 yi151 yv152 yv153 yi154 yi155 => K .normal (P10_0x.inst [.sl 4 yl145, .int .i64 yi146, .sl 1 yl147, .sl 2 yl148, .sl 4 yl149, .int .i64 yi150, .int .i64 yi151, yv152, yv153, .int .i64 yi154, .int .i64 yi155])) (fun yb156 => K .ret (P10_0r.inst [.bool yb156])) j xl36 xi37 xi38 xl39 xl40 xl41 xi42 xi43 xv44 xv45 xi46 xi47
  | _ => none
def rd10_2 {R : Type} (G : ORC R) (k : Nat) (K : Ex → St → Option R) (j : Nat) (vs : List V) : Option R := match vs with
  | [.sl 4 xl85, .int .i64 xi86, .int .i64 xi87, .sl 1 xl88, .sl 2 xl89, .sl 4 xl90, .int .i64 xi91, .int .i64 xi92, xv93, xv94, xv95, xv96] => l10_2g G k (fun yl157 yi158 yl159 yl160 yl161 yi162 yi163 yv164 yv165 yv166 yv167 => K .normal (P10_2x.inst [.sl 4 yl157, .int .i64 yi158, .sl 1 yl159, .sl 2 yl160, .sl 4 yl161, .int .i64 yi162, .int .i64 yi163, yv164, yv165, yv166, yv167])) j xl85 xi86 xi87 xl88 xl89 xl90 xi91 xi92 xv93 xv94 xv95 xv96
  | _ => none
def L10 {R : Type} (G : ORC R) (k : Nat) : Nat → St → (Ex → St → Option R) → Option R
  | 0, S, K => P10_0h.mat S fun vs => rd10_0 G k K k vs
  | 2, S, K => P10_2h.mat S fun vs => rd10_2 G k K k vs
  | _, _, _ => none
def f10 {R : Type} (G : ORC R) (k : Nat) (al1 : List V) (ab2 : Bool) (ai3 ai4 ai5 : Int) (K : List V → Option R) : Option R :=
  (bif (decide ((al1.length : Int) > 200)) then (G 26 [] fun o6 => uB o6 fun b8 r7 => unNil r7 (K [.bool b8])) else (G 27 [.sl 1 al1, .bool ab2] fun o9 => uL 4 o9 fun l11 r10 => unNil r10 (G 28 [.int .i64 ai3, .int .i64 ai4, .bool true] fun o12 => uA o12 fun l14 r13 => uL 1 l14 fun l16 r15 => uL 1 r15 fun l18 r17 => uL 1 r17 fun l20 r19 => unNil r19 (unNil r13 (G 31 [.sl 4 l11, .agg [.sl 1 l16, .sl 1 l18, .sl 1 l20], .int .i64 ai5, .int .i64 1048576] fun o21 => uA o21 fun l23 r22 => uI .i64 l23 fun n25 r24 => uL 1 r24 fun l27 r26 => uL 2 r26 fun l29 r28 => uL 4 r28 fun l31 r30 => uI .i64 r30 fun n33 r32 => uI .i64 r32 fun n35 r34 => unNil r34 (unNil r22 (l10_0 G k l11 0 n25 l27 l29 l31 n33 n35 (.int .i64 0) (.int .i64 0) 0 0 (fun yl74 yi75 yl76 yl77 yl78 yi79 yi80 yv81 yv82 yi83 yi84 => l10_2 G k yl74 0 yi75 yl76 yl77 yl78 yi79 yi80 yv81 yv82 (.int .i64 yi83) (.int .i64 yi84) (fun yl120 yi121 yl122 yl123 yl124 yi125 yi126 yv127 yv128 yv129 yv130 => G 34 [.sl 4 yl120] fun o131 => uI .i64 o131 fun n133 r132 => unNil r132 (bif (decide (yi125 ≤ n133)) then (aI .i64 yv127 fun n134 => aI .i64 yv129 fun n135 => bif (decide (n134 ≤ n135)) then (aI .i64 yv128 fun n136 => aI .i64 yv130 fun n137 => bif (decide (n136 ≤ n137)) then (bif (yi126 == 0) then (G 26 [] fun o138 => uB o138 fun b140 r139 => unNil r139 (K [.bool b140])) else (bif (yi121 == 0) then (G 26 [] fun o141 => uB o141 fun b143 r142 => unNil r142 (K [.bool b143])) else (K [.bool false]))) else (K [.bool false])) else (K [.bool false])) else (K [.bool false])))) (fun yb144 => K [.bool yb144]))))))))
noncomputable def D10_0 : LoopD := { id := 0, body := loopAt 0 (bodyOf Try.f10), head := P10_0h, out := P10_0x, ret := P10_0r }
theorem l10_0_is {R : Type} (G : ORC R) (k : Nat) (X : List V → Option R) (K : Ex → St → Option R) (xl36 : List V) (xi37 xi38 : Int) (xl39 xl40 xl41 : List V) (xi42 xi43 : Int) (xv44 xv45 : V) (xi46 xi47 : Int) :
    roundOf (TAB.env 10) G (L10 G k) D10_0 X K [.sl 4 xl36, .int .i64 xi37, .int .i64 xi38, .sl 1 xl39, .sl 2 xl40, .sl 4 xl41, .int .i64 xi42, .int .i64 xi43, xv44, xv45, .int .i64 xi46, .int .i64 xi47] = b10_0 G k (fun xl36 xi37 xi38 xl39 xl40 xl41 xi42 xi43 xv44 xv45 xi46 xi47 => X [.sl 4 xl36, .int .i64 xi37, .int .i64 xi38, .sl 1 xl39, .sl 2 xl40, .sl 4 xl41, .int .i64 xi42, .int .i64 xi43, xv44, xv45, .int .i64 xi46, .int .i64 xi47]) (fun yl145 yi146 yl147 yl148 yl149 yi150 yi151 yv152 yv153 yi154 yi155 => K .normal (P10_0x.inst [.sl 4 yl145, .int .i64 yi146, .sl 1 yl147, .sl 2 yl148, .sl 4 yl149, .int .i64 yi150, .int .i64 yi151, yv152, yv153, .int .i64 yi154, .int .i64 yi155])) (fun yb156 => K .ret (P10_0r.inst [.bool yb156])) xl36 xi37 xi38 xl39 xl40 xl41 xi42 xi43 xv44 xv45 xi46 xi47 := by kernel_rfl
noncomputable def D10_2 : LoopD := { id := 2, body := loopAt 2 (bodyOf Try.f10), head := P10_2h, out := P10_2x, ret := default }
theorem l10_2_is {R : Type} (G : ORC R) (k : Nat) (X : List V → Option R) (K : Ex → St → Option R) (xl85 : List V) (xi86 xi87 : Int) (xl88 xl89 xl90 : List V) (xi91 xi92 : Int) (xv93 xv94 : V) (xv95 xv96 : V) :
    roundOf (TAB.env 10) G (L10 G k) D10_2 X K [.sl 4 xl85, .int .i64 xi86, .int .i64 xi87, .sl 1 xl88, .sl 2 xl89, .sl 4 xl90, .int .i64 xi91, .int .i64 xi92, xv93, xv94, xv95, xv96] = b10_2 G k (fun xl85 xi86 xi87 xl88 xl89 xl90 xi91 xi92 xv93 xv94 xv95 xv96 => X [.sl 4 xl85, .int .i64 xi86, .int .i64 xi87, .sl 1 xl88, .sl 2 xl89, .sl 4 xl90, .int .i64 xi91, .int .i64 xi92, xv93, xv94, xv95, xv96]) (fun yl157 yi158 yl159 yl160 yl161 yi162 yi163 yv164 yv165 yv166 yv167 => K .normal (P10_2x.inst [.sl 4 yl157, .int .i64 yi158, .sl 1 yl159, .sl 2 yl160, .sl 4 yl161, .int .i64 yi162, .int .i64 yi163, yv164, yv165, yv166, yv167])) xl85 xi86 xi87 xl88 xl89 xl90 xi91 xi92 xv93 xv94 xv95 xv96 := by kernel_rfl
theorem f10_is {R : Type} (G : ORC R) (k : Nat) (K : List V → Option R) (al1 : List V) (ab2 : Bool) (ai3 ai4 ai5 : Int) :
    callF (TAB.env 10) G (L10 G k) Try.f10 S10 [.sl 1 al1, .bool ab2, .int .i64 ai3, .int .i64 ai4, .int .i64 ai5] K = f10 G k al1 ab2 ai3 ai4 ai5 K := by kernel_rfl
theorem li10_0 {R : Type} (G : ORC R) (k : Nat) : LoopIs (TAB.env 10) G (L10 G k) 0 (loopAt 0 (bodyOf Try.f10)) :=
  ⟨D10_0, fun j vs K => rd10_0 G k K j vs, k, rfl, rfl, by kernel_rfl, by kernel_rfl, by kernel_rfl, (fun vs K => by unfold rd10_0; dsimp only; split <;> rfl),
    (fun j vs K r h => by
      unfold rd10_0 at h
      dsimp only at h
      split at h
      · rw [l10_0_is]; exact h
      · cases h), (fun S K r h => h)⟩
theorem li10_2 {R : Type} (G : ORC R) (k : Nat) : LoopIs (TAB.env 10) G (L10 G k) 2 (loopAt 2 (bodyOf Try.f10)) :=
  ⟨D10_2, fun j vs K => rd10_2 G k K j vs, k, rfl, rfl, by kernel_rfl, by kernel_rfl, by kernel_rfl, (fun vs K => by unfold rd10_2; dsimp only; split <;> rfl),
    (fun j vs K r h => by
      unfold rd10_2 at h
      dsimp only at h
      split at h
      · rw [l10_2_is]; exact h
      · cases h), (fun S K r h => h)⟩
theorem lo10 : loopsOf (bodyOf Try.f10) = [(0, loopAt 0 (bodyOf Try.f10)), (2, loopAt 2 (bodyOf Try.f10))] := by kernel_rfl
theorem la10 {R : Type} (G : ORC R) (k : Nat) : LoopsAre (TAB.env 10) G (L10 G k) (bodyOf Try.f10) :=
  loopsAre_of (by rw [lo10]; intro p hp; simp only [List.mem_cons, List.not_mem_nil, or_false] at hp; rcases hp with rfl | rfl <;> first | exact li10_0 G k | exact li10_2 G k)
def g10 {R : Type} (G : ORC R) (k : Nat) (args : List V) (K : List V → Option R) : Option R := match args with
  | [.sl 1 al1, .bool ab2, .int .i64 ai3, .int .i64 ai4, .int .i64 ai5] => f10 G k al1 ab2 ai3 ai4 ai5 K
  | _ => none
theorem s10 {R : Type} {G : ORC R} {k : Nat} (hG : Sound Try.prog TAB G) (args : List V) (K : List V → Option R) (r : R) (h : g10 G k args K = some r) : ∃ o, CallOK Try.prog TAB.env 10 args o ∧ K o = some r := by
  unfold g10 at h
  split at h
  · rw [← f10_is] at h
    exact callF_sound (f := 10) TAB_chk MO hG Try.func10 (sg := S10) (by kernel_rfl) (by kernel_rfl) (la10 G k) h
  · cases h
def L35 {R : Type} (_ : ORC R) (_ : Nat) : Nat → St → (Ex → St → Option R) → Option R := fun _ _ _ => none
def f35 {R : Type} (G : ORC R) (k : Nat) (as1 : ByteArray) (ai2 ai3 : Int) (al4 al5 : List V) (al6 al7 : List V) (ai8 : Int) (K : List V → Option R) : Option R :=
  (G 50 [.sl 7 [.agg [.int .i64 2, .int .i64 (-1), .int .i64 0, .int .i64 (-1), .int .i64 (-1), .int .i64 (-1), .str ⟨#[]⟩]], .sl 7 al7, .int .i64 0] fun o9 => uL 7 o9 fun l11 r10 => unNil r10 (bif (decide (0 < (l11.length : Int))) then (nthK l11 0 fun e12 => ca7 e12 fun c13 c14 c15 c16 c17 c18 c19 => K [.sl 7 (List.set l11 0 (.agg [c13, c14, .int .i64 (IntKind.i64.wrap ((l11.length : Int) - 1)), c16, c17, c18, c19]))]) else none))
theorem f35_is {R : Type} (G : ORC R) (k : Nat) (K : List V → Option R) (as1 : ByteArray) (ai2 ai3 : Int) (al4 al5 : List V) (al6 al7 : List V) (ai8 : Int) :
    callF (TAB.env 35) G (L35 G k) Try.f35 S35 [.agg [.str as1, .int .i64 ai2, .int .i64 ai3, .sl 3 al4, .sl 3 al5, .sl 3 al6, .sl 7 al7, .int .i64 ai8]] K = f35 G k as1 ai2 ai3 al4 al5 al6 al7 ai8 K := by kernel_rfl
theorem lo35 : loopsOf (bodyOf Try.f35) = [] := by kernel_rfl
theorem la35 {R : Type} (G : ORC R) (k : Nat) : LoopsAre (TAB.env 35) G (L35 G k) (bodyOf Try.f35) :=
  loopsAre_of (by rw [lo35]; intro p hp; cases hp)
def g35 {R : Type} (G : ORC R) (k : Nat) (args : List V) (K : List V → Option R) : Option R := match args with
  | [.agg [.str as1, .int .i64 ai2, .int .i64 ai3, .sl 3 al4, .sl 3 al5, .sl 3 al6, .sl 7 al7, .int .i64 ai8]] => f35 G k as1 ai2 ai3 al4 al5 al6 al7 ai8 K
  | _ => none
theorem s35 {R : Type} {G : ORC R} {k : Nat} (hG : Sound Try.prog TAB G) (args : List V) (K : List V → Option R) (r : R) (h : g35 G k args K = some r) : ∃ o, CallOK Try.prog TAB.env 35 args o ∧ K o = some r := by
  unfold g35 at h
  split at h
  · rw [← f35_is] at h
    exact callF_sound (f := 35) TAB_chk MO hG Try.func35 (sg := S35) (by kernel_rfl) (by kernel_rfl) (la35 G k) h
  · cases h
def P50_0h : Pat := { tmps := unds [.var (.sl 7) (.own true), .var (.sl 7) .ro, .var (.int .i64) .pr, .undef, .undef, .undef, .undef, .var (.int .i64) .pr] 66 [], boxes := nons [] 74 [] }
def P50_0x : Pat := { tmps := unds [.var (.sl 7) (.own true)] 73 [], boxes := nons [] 74 [] }
def b50_0 {R : Type} (G : ORC R) (k : Nat) (X : List V → List V → Int → Int → Option R) (Ko : List V → Option R) (xl4 xl5 : List V) (xi6 xi7 : Int) : Option R :=
  (bif (decide (xi7 < (xl5.length : Int))) then (bif ((decide (0 ≤ xi7)) && (decide (xi7 < (xl5.length : Int)))) then (nthK xl5 (Int.toNat xi7) fun e8 => V.asAgg e8 fun l9 => G 82 [.agg l9] fun o10 => uI .i64 o10 fun n12 r11 => unNil r11 (bif ((decide (0 ≤ xi7)) && (decide (xi7 < (xl5.length : Int)))) then (nthK xl5 (Int.toNat xi7) fun e13 => ca7 e13 fun c14 c15 c16 c17 c18 c19 c20 => V.asStr c15 fun s21 => bif (decide (List.length xl4 + 1 ≤ 1073741824)) then (bif ((decide (0 ≤ xi6)) && (decide (xi6 < ((List.length (xl4 ++ [.agg [.int .i64 n12, .int .i64 xi6, .int .i64 0, .int .i64 (-1), .int .i64 (-1), .int .i64 (-1), .str s21]]) : Nat) : Int)))) then (nthK (xl4 ++ [.agg [.int .i64 n12, .int .i64 xi6, .int .i64 0, .int .i64 (-1), .int .i64 (-1), .int .i64 (-1), .str s21]]) (Int.toNat xi6) fun e22 => ca7 e22 fun c23 c24 c25 c26 c27 c28 c29 => aI .i64 c26 fun n30 => bif (decide (n30 < 0)) then (bif ((decide (0 ≤ xi6)) && (decide (xi6 < ((List.length (xl4 ++ [.agg [.int .i64 n12, .int .i64 xi6, .int .i64 0, .int .i64 (-1), .int .i64 (-1), .int .i64 (-1), .str s21]]) : Nat) : Int)))) then (nthK (xl4 ++ [.agg [.int .i64 n12, .int .i64 xi6, .int .i64 0, .int .i64 (-1), .int .i64 (-1), .int .i64 (-1), .str s21]]) (Int.toNat xi6) fun e31 => ca7 e31 fun c32 c33 c34 c35 c36 c37 c38 => aI .i64 c32 fun n39 => bif (n39 == 2) then (bif ((decide (0 ≤ (xl4.length : Int))) && (decide ((xl4.length : Int) < ((List.length (xl4 ++ [.agg [.int .i64 n12, .int .i64 xi6, .int .i64 0, .int .i64 (-1), .int .i64 (-1), .int .i64 (-1), .str s21]]) : Nat) : Int)))) then (nthK (xl4 ++ [.agg [.int .i64 n12, .int .i64 xi6, .int .i64 0, .int .i64 (-1), .int .i64 (-1), .int .i64 (-1), .str s21]]) (Int.toNat (xl4.length : Int)) fun e40 => ca7 e40 fun c41 c42 c43 c44 c45 c46 c47 => aI .i64 c41 fun n48 => aI .i64 c42 fun n49 => aI .i64 c43 fun n50 => aI .i64 c44 fun n51 => aI .i64 c45 fun n52 => aI .i64 c46 fun n53 => V.asStr c47 fun s54 => G 83 [.agg [.int .i64 n48, .int .i64 n49, .int .i64 n50, .int .i64 n51, .int .i64 n52, .int .i64 n53, .str s54]] fun o55 => uB o55 fun b57 r56 => unNil r56 (bif b57 then (bif ((decide (0 ≤ xi6)) && (decide (xi6 < ((List.length (xl4 ++ [.agg [.int .i64 n12, .int .i64 xi6, .int .i64 0, .int .i64 (-1), .int .i64 (-1), .int .i64 (-1), .str s21]]) : Nat) : Int)))) then (nthK (xl4 ++ [.agg [.int .i64 n12, .int .i64 xi6, .int .i64 0, .int .i64 (-1), .int .i64 (-1), .int .i64 (-1), .str s21]]) (Int.toNat xi6) fun e58 => ca7 e58 fun c59 c60 c61 c62 c63 c64 c65 => bif ((decide (0 ≤ xi7)) && (decide (xi7 < (xl5.length : Int)))) then (nthK xl5 (Int.toNat xi7) fun e66 => ca7 e66 fun c67 c68 c69 c70 c71 c72 c73 => V.asSl c72 fun z74 l75 => G 50 [.sl 7 (List.set (xl4 ++ [.agg [.int .i64 n12, .int .i64 xi6, .int .i64 0, .int .i64 (-1), .int .i64 (-1), .int .i64 (-1), .str s21]]) (Int.toNat xi6) (.agg [c59, c60, c61, .int .i64 (xl4.length : Int), c63, c64, c65])), .sl z74 l75, .int .i64 (xl4.length : Int)] fun o76 => uL 7 o76 fun l78 r77 => unNil r77 (bif ((decide (0 ≤ (xl4.length : Int))) && (decide ((xl4.length : Int) < (l78.length : Int)))) then (nthK l78 (Int.toNat (xl4.length : Int)) fun e79 => ca7 e79 fun c80 c81 c82 c83 c84 c85 c86 => X (List.set l78 (Int.toNat (xl4.length : Int)) (.agg [c80, c81, .int .i64 (IntKind.i64.wrap ((l78.length : Int) - 1)), c83, c84, c85, c86])) xl5 xi6 (IntKind.i64.wrap (xi7 + 1))) else none)) else none) else none) else (bif ((decide (0 ≤ xi7)) && (decide (xi7 < (xl5.length : Int)))) then (nthK xl5 (Int.toNat xi7) fun e87 => ca7 e87 fun c88 c89 c90 c91 c92 c93 c94 => V.asSl c93 fun z95 l96 => G 50 [.sl 7 (xl4 ++ [.agg [.int .i64 n12, .int .i64 xi6, .int .i64 0, .int .i64 (-1), .int .i64 (-1), .int .i64 (-1), .str s21]]), .sl z95 l96, .int .i64 (xl4.length : Int)] fun o97 => uL 7 o97 fun l99 r98 => unNil r98 (bif ((decide (0 ≤ (xl4.length : Int))) && (decide ((xl4.length : Int) < (l99.length : Int)))) then (nthK l99 (Int.toNat (xl4.length : Int)) fun e100 => ca7 e100 fun c101 c102 c103 c104 c105 c106 c107 => X (List.set l99 (Int.toNat (xl4.length : Int)) (.agg [c101, c102, .int .i64 (IntKind.i64.wrap ((l99.length : Int) - 1)), c104, c105, c106, c107])) xl5 xi6 (IntKind.i64.wrap (xi7 + 1))) else none)) else none))) else none) else (bif ((decide (0 ≤ xi7)) && (decide (xi7 < (xl5.length : Int)))) then (nthK xl5 (Int.toNat xi7) fun e108 => ca7 e108 fun c109 c110 c111 c112 c113 c114 c115 => V.asSl c114 fun z116 l117 => G 50 [.sl 7 (xl4 ++ [.agg [.int .i64 n12, .int .i64 xi6, .int .i64 0, .int .i64 (-1), .int .i64 (-1), .int .i64 (-1), .str s21]]), .sl z116 l117, .int .i64 (xl4.length : Int)] fun o118 => uL 7 o118 fun l120 r119 => unNil r119 (bif ((decide (0 ≤ (xl4.length : Int))) && (decide ((xl4.length : Int) < (l120.length : Int)))) then (nthK l120 (Int.toNat (xl4.length : Int)) fun e121 => ca7 e121 fun c122 c123 c124 c125 c126 c127 c128 => X (List.set l120 (Int.toNat (xl4.length : Int)) (.agg [c122, c123, .int .i64 (IntKind.i64.wrap ((l120.length : Int) - 1)), c125, c126, c127, c128])) xl5 xi6 (IntKind.i64.wrap (xi7 + 1))) else none)) else none)) else none) else (bif ((decide (0 ≤ xi7)) && (decide (xi7 < (xl5.length : Int)))) then (nthK xl5 (Int.toNat xi7) fun e129 => ca7 e129 fun c130 c131 c132 c133 c134 c135 c136 => V.asSl c135 fun z137 l138 => G 50 [.sl 7 (xl4 ++ [.agg [.int .i64 n12, .int .i64 xi6, .int .i64 0, .int .i64 (-1), .int .i64 (-1), .int .i64 (-1), .str s21]]), .sl z137 l138, .int .i64 (xl4.length : Int)] fun o139 => uL 7 o139 fun l141 r140 => unNil r140 (bif ((decide (0 ≤ (xl4.length : Int))) && (decide ((xl4.length : Int) < (l141.length : Int)))) then (nthK l141 (Int.toNat (xl4.length : Int)) fun e142 => ca7 e142 fun c143 c144 c145 c146 c147 c148 c149 => X (List.set l141 (Int.toNat (xl4.length : Int)) (.agg [c143, c144, .int .i64 (IntKind.i64.wrap ((l141.length : Int) - 1)), c146, c147, c148, c149])) xl5 xi6 (IntKind.i64.wrap (xi7 + 1))) else none)) else none)) else none) else none) else none)) else none) else (Ko xl4))
def l50_0g {R : Type} (G : ORC R) (k : Nat) (Ko : List V → Option R) : Nat → List V → List V → Int → Int → Option R
  | 0 => fun _ _ _ _ => none
  | j + 1 => b50_0 G k (l50_0g G k Ko j) Ko
def l50_0 {R : Type} (G : ORC R) (k : Nat) (xl4 xl5 : List V) (xi6 xi7 : Int) (Ko : List V → Option R) : Option R := l50_0g G k Ko k xl4 xl5 xi6 xi7
def rd50_0 {R : Type} (G : ORC R) (k : Nat) (K : Ex → St → Option R) (j : Nat) (vs : List V) : Option R := match vs with
  | [.sl 7 xl4, .sl 7 xl5, .int .i64 xi6, .int .i64 xi7] => l50_0g G k (fun yl151 => K .normal (P50_0x.inst [.sl 7 yl151])) j xl4 xl5 xi6 xi7
  | _ => none
def L50 {R : Type} (G : ORC R) (k : Nat) : Nat → St → (Ex → St → Option R) → Option R
  | 0, S, K => P50_0h.mat S fun vs => rd50_0 G k K k vs
  | _, _, _ => none
def f50 {R : Type} (G : ORC R) (k : Nat) (al1 al2 : List V) (ai3 : Int) (K : List V → Option R) : Option R :=
  (l50_0 G k al1 al2 ai3 0 (fun yl150 => K [.sl 7 yl150]))
noncomputable def D50_0 : LoopD := { id := 0, body := loopAt 0 (bodyOf Try.f50), head := P50_0h, out := P50_0x, ret := default }
theorem l50_0_is {R : Type} (G : ORC R) (k : Nat) (X : List V → Option R) (K : Ex → St → Option R) (xl4 xl5 : List V) (xi6 xi7 : Int) :
    roundOf (TAB.env 50) G (L50 G k) D50_0 X K [.sl 7 xl4, .sl 7 xl5, .int .i64 xi6, .int .i64 xi7] = b50_0 G k (fun xl4 xl5 xi6 xi7 => X [.sl 7 xl4, .sl 7 xl5, .int .i64 xi6, .int .i64 xi7]) (fun yl151 => K .normal (P50_0x.inst [.sl 7 yl151])) xl4 xl5 xi6 xi7 := by kernel_rfl
theorem f50_is {R : Type} (G : ORC R) (k : Nat) (K : List V → Option R) (al1 al2 : List V) (ai3 : Int) :
    callF (TAB.env 50) G (L50 G k) Try.f50 S50 [.sl 7 al1, .sl 7 al2, .int .i64 ai3] K = f50 G k al1 al2 ai3 K := by kernel_rfl
theorem li50_0 {R : Type} (G : ORC R) (k : Nat) : LoopIs (TAB.env 50) G (L50 G k) 0 (loopAt 0 (bodyOf Try.f50)) :=
  ⟨D50_0, fun j vs K => rd50_0 G k K j vs, k, rfl, rfl, by kernel_rfl, by kernel_rfl, by kernel_rfl, (fun vs K => by unfold rd50_0; dsimp only; split <;> rfl),
    (fun j vs K r h => by
      unfold rd50_0 at h
      dsimp only at h
      split at h
      · rw [l50_0_is]; exact h
      · cases h), (fun S K r h => h)⟩
theorem lo50 : loopsOf (bodyOf Try.f50) = [(0, loopAt 0 (bodyOf Try.f50))] := by kernel_rfl
theorem la50 {R : Type} (G : ORC R) (k : Nat) : LoopsAre (TAB.env 50) G (L50 G k) (bodyOf Try.f50) :=
  loopsAre_of (by rw [lo50]; intro p hp; simp only [List.mem_cons, List.not_mem_nil, or_false] at hp; subst hp; exact li50_0 G k)
def g50 {R : Type} (G : ORC R) (k : Nat) (args : List V) (K : List V → Option R) : Option R := match args with
  | [.sl 7 al1, .sl 7 al2, .int .i64 ai3] => f50 G k al1 al2 ai3 K
  | _ => none
theorem s50 {R : Type} {G : ORC R} {k : Nat} (hG : Sound Try.prog TAB G) (args : List V) (K : List V → Option R) (r : R) (h : g50 G k args K = some r) : ∃ o, CallOK Try.prog TAB.env 50 args o ∧ K o = some r := by
  unfold g50 at h
  split at h
  · rw [← f50_is] at h
    exact callF_sound (f := 50) TAB_chk MO hG Try.func50 (sg := S50) (by kernel_rfl) (by kernel_rfl) (la50 G k) h
  · cases h
def L82 {R : Type} (_ : ORC R) (_ : Nat) : Nat → St → (Ex → St → Option R) → Option R := fun _ _ _ => none
def f82 {R : Type} (G : ORC R) (k : Nat) (ai1 : Int) (as2 : ByteArray) (al3 al4 : List V) (al5 al6 : List V) (ai7 : Int) (K : List V → Option R) : Option R :=
  (bif (ai1 == 3) then (K [.int .i64 4]) else (bif (ai1 == 4) then (K [.int .i64 5]) else (bif (ai1 == 2) then (K [.int .i64 3]) else (bif ((al6.length : Int) == 0) then (K [.int .i64 1]) else (K [.int .i64 2])))))
theorem f82_is {R : Type} (G : ORC R) (k : Nat) (K : List V → Option R) (ai1 : Int) (as2 : ByteArray) (al3 al4 : List V) (al5 al6 : List V) (ai7 : Int) :
    callF (TAB.env 82) G (L82 G k) Try.f82 S82 [.agg [.int .i64 ai1, .str as2, .sl 8 al3, .sl 8 al4, .sl 5 al5, .sl 7 al6, .int .i64 ai7]] K = f82 G k ai1 as2 al3 al4 al5 al6 ai7 K := by kernel_rfl
theorem lo82 : loopsOf (bodyOf Try.f82) = [] := by kernel_rfl
theorem la82 {R : Type} (G : ORC R) (k : Nat) : LoopsAre (TAB.env 82) G (L82 G k) (bodyOf Try.f82) :=
  loopsAre_of (by rw [lo82]; intro p hp; cases hp)
def g82 {R : Type} (G : ORC R) (k : Nat) (args : List V) (K : List V → Option R) : Option R := match args with
  | [.agg [.int .i64 ai1, .str as2, .sl 8 al3, .sl 8 al4, .sl 5 al5, .sl 7 al6, .int .i64 ai7]] => f82 G k ai1 as2 al3 al4 al5 al6 ai7 K
  | _ => none
theorem s82 {R : Type} {G : ORC R} {k : Nat} (hG : Sound Try.prog TAB G) (args : List V) (K : List V → Option R) (r : R) (h : g82 G k args K = some r) : ∃ o, CallOK Try.prog TAB.env 82 args o ∧ K o = some r := by
  unfold g82 at h
  split at h
  · rw [← f82_is] at h
    exact callF_sound (f := 82) TAB_chk MO hG Try.func82 (sg := S82) (by kernel_rfl) (by kernel_rfl) (la82 G k) h
  · cases h
def L83 {R : Type} (_ : ORC R) (_ : Nat) : Nat → St → (Ex → St → Option R) → Option R := fun _ _ _ => none
def f83 {R : Type} (G : ORC R) (k : Nat) (ai1 ai2 : Int) (ai3 ai4 : Int) (ai5 ai6 : Int) (as7 : ByteArray) (K : List V → Option R) : Option R :=
  (K [.bool (decide (ai1 ≤ 3))])
theorem f83_is {R : Type} (G : ORC R) (k : Nat) (K : List V → Option R) (ai1 ai2 : Int) (ai3 ai4 : Int) (ai5 ai6 : Int) (as7 : ByteArray) :
    callF (TAB.env 83) G (L83 G k) Try.f83 S83 [.agg [.int .i64 ai1, .int .i64 ai2, .int .i64 ai3, .int .i64 ai4, .int .i64 ai5, .int .i64 ai6, .str as7]] K = f83 G k ai1 ai2 ai3 ai4 ai5 ai6 as7 K := by kernel_rfl
theorem lo83 : loopsOf (bodyOf Try.f83) = [] := by kernel_rfl
theorem la83 {R : Type} (G : ORC R) (k : Nat) : LoopsAre (TAB.env 83) G (L83 G k) (bodyOf Try.f83) :=
  loopsAre_of (by rw [lo83]; intro p hp; cases hp)
def g83 {R : Type} (G : ORC R) (k : Nat) (args : List V) (K : List V → Option R) : Option R := match args with
  | [.agg [.int .i64 ai1, .int .i64 ai2, .int .i64 ai3, .int .i64 ai4, .int .i64 ai5, .int .i64 ai6, .str as7]] => f83 G k ai1 ai2 ai3 ai4 ai5 ai6 as7 K
  | _ => none
theorem s83 {R : Type} {G : ORC R} {k : Nat} (hG : Sound Try.prog TAB G) (args : List V) (K : List V → Option R) (r : R) (h : g83 G k args K = some r) : ∃ o, CallOK Try.prog TAB.env 83 args o ∧ K o = some r := by
  unfold g83 at h
  split at h
  · rw [← f83_is] at h
    exact callF_sound (f := 83) TAB_chk MO hG Try.func83 (sg := S83) (by kernel_rfl) (by kernel_rfl) (la83 G k) h
  · cases h
open Go
open Go Go.RowKit
def InR (x : Int) : Prop := -9223372036854775808 ≤ x ∧ x ≤ 9223372036854775807
instance (x : Int) : Decidable (InR x) := by unfold InR; infer_instance
theorem wrap_in {x : Int} (h : InR x) : wrap64 x = x := by unfold InR at h; unfold wrap64; omega
theorem in_wrap (x : Int) : InR (wrap64 x) := by unfold InR wrap64; omega
theorem wrap_toNat (b : BitVec 64) : IntKind.i64.wrap (b.toNat : Int) = b.toInt := by
  rw [IntKind.wrap_i64, BitVec.toInt_eq_toNat_cond]
  have := b.isLt
  split <;> omega
theorem msb_ofInt {x : Int} (h : InR x) : (BitVec.ofInt 64 x).msb = decide (x < 0) := by
  unfold InR at h
  have e : (BitVec.ofInt 64 x).toInt = x := by
    rw [BitVec.toInt_ofInt]
    exact Int.bmod_eq_of_le (by omega) (by omega)
  rw [BitVec.msb_eq_toInt, e]
theorem and_xor_neg {a b c d : Int} (ha : InR a) (hb : InR b) (hc : InR c) (hd : InR d) :
    (bits .and .i64 (bits .xor .i64 a b) (bits .xor .i64 c d) < 0) ↔ ((a < 0) ≠ (b < 0) ∧ (c < 0) ≠ (d < 0)) := by
  have key : ∀ x y : Int, (bits .xor .i64 x y) = (BitVec.ofInt 64 x ^^^ BitVec.ofInt 64 y).toInt := fun x y => wrap_toNat _
  have key2 : ∀ x y : Int, (bits .and .i64 x y) = (BitVec.ofInt 64 x &&& BitVec.ofInt 64 y).toInt := fun x y => wrap_toNat _
  rw [key, key, key2, BitVec.ofInt_toInt, BitVec.ofInt_toInt]
  rw [show ∀ z : BitVec 64, (z.toInt < 0) ↔ z.msb = true from fun z => by rw [BitVec.msb_eq_toInt]; simp]
  rw [BitVec.msb_and, BitVec.msb_xor, BitVec.msb_xor, msb_ofInt ha, msb_ofInt hb, msb_ofInt hc, msb_ofInt hd]
  by_cases a < 0 <;> by_cases b < 0 <;> by_cases c < 0 <;> by_cases d < 0 <;> simp [*]
theorem add_test {a b : Int} (ha : InR a) (hb : InR b) :
    (bits .and .i64 (bits .xor .i64 a (wrap64 (a + b))) (bits .xor .i64 b (wrap64 (a + b))) < 0) ↔ ¬ InR (a + b) := by
  rw [and_xor_neg ha (in_wrap _) hb (in_wrap _)]
  unfold InR wrap64 at *
  constructor
  · intro ⟨h1, h2⟩ h3
    have h1' : ¬ (a < 0 ↔ (a + b + 9223372036854775808) % 18446744073709551616 - 9223372036854775808 < 0) := fun h => h1 (propext h)
    have h2' : ¬ (b < 0 ↔ (a + b + 9223372036854775808) % 18446744073709551616 - 9223372036854775808 < 0) := fun h => h2 (propext h)
    omega
  · intro h
    refine ⟨fun h1 => ?_, fun h1 => ?_⟩ <;> (have h1 := Iff.of_eq h1; omega)
theorem sub_test {a b : Int} (ha : InR a) (hb : InR b) :
    (bits .and .i64 (bits .xor .i64 a b) (bits .xor .i64 a (wrap64 (a - b))) < 0) ↔ ¬ InR (a - b) := by
  rw [and_xor_neg ha hb ha (in_wrap _)]
  unfold InR wrap64 at *
  constructor
  · intro ⟨h1, h2⟩ h3
    have h1' : ¬ (a < 0 ↔ b < 0) := fun h => h1 (propext h)
    have h2' : ¬ (a < 0 ↔ (a - b + 9223372036854775808) % 18446744073709551616 - 9223372036854775808 < 0) := fun h => h2 (propext h)
    omega
  · intro h
    refine ⟨fun h1 => ?_, fun h1 => ?_⟩ <;> (have h1 := Iff.of_eq h1; omega)
theorem tmod_bd (c : Int) {b : Int} (hb0 : b ≠ 0) : (b.natAbs : Int) > c.tmod b ∧ -(b.natAbs : Int) < c.tmod b := by
  have h : (c.tmod b).natAbs < b.natAbs := by
    rw [Int.natAbs_tmod]; exact Nat.mod_lt _ (by omega)
  omega
theorem tdiv_bd (c : Int) {b : Int} : (c.tdiv b).natAbs ≤ c.natAbs := by
  rw [Int.natAbs_tdiv]; exact Nat.div_le_self _ _
theorem mul_test {a b : Int} (ha : InR a) (hb : InR b) (hb0 : b ≠ 0) (h1 : ¬(b = -1 ∧ a = -9223372036854775808)) :
    wrap64 (Int.tdiv (wrap64 (a * b)) b) = a ↔ InR (a * b) := by
  constructor
  · intro h
    by_cases e : b = -1
    · subst e; unfold InR at *; omega
    · have hq := Int.mul_tdiv_add_tmod (wrap64 (a * b)) b
      have hm := tmod_bd (wrap64 (a * b)) hb0
      have hc := in_wrap (a * b)
      have hd := tdiv_bd (wrap64 (a * b)) (b := b)
      generalize hC : wrap64 (a * b) = c at *
      have hwc : (c - a * b) % 18446744073709551616 = 0 := by rw [← hC]; unfold wrap64; omega
      have hqr : InR (c.tdiv b) := by
        by_cases e1 : b = 1
        · subst e1; simpa using hc
        · -- |b| ≥ 2
          have h2 : (c.tdiv b).natAbs ≤ c.natAbs / 2 := by
            rw [Int.natAbs_tdiv]; exact Nat.div_le_div_left (by omega) (by omega)
          unfold InR at *; omega
      rw [wrap_in hqr] at h
      rw [h] at hq
      have : b * a = a * b := Int.mul_comm _ _
      rw [this] at hq
      generalize a * b = p at *
      have hp : p = c := by unfold InR at *; omega
      rw [hp]; exact hc
  · intro h
    rw [wrap_in h, Int.mul_tdiv_cancel _ hb0, wrap_in ha]
set_option linter.unusedSimpArgs false
set_option maxHeartbeats 8000000
section
variable {R : Type} {G : ORC R} {k : Nat} {K : List V → Option R}
def over (n : Int) : Int × Int := if InR n then (n, 0) else (0, 2)
def divR (a b : Int) : Int × Int := if b = 0 then (0, 3) else if b = -1 ∧ a = -9223372036854775808 then (0, 2) else (Int.tdiv a b, 0)
def modR (a b : Int) : Int × Int := if b = 0 then (0, 3) else if b = -1 then (0, 0) else (Int.tmod a b, 0)
def TwoX (f : FuncId) (F : Int → Int → Int × Int) (G : ORC R) : Prop := ∀ (a b : Int) (K : List V → Option R), InR a → InR b → W (fun o => o = [.int .i64 (F a b).1, .int .i64 (F a b).2]) K (G f [.int .i64 a, .int .i64 b] K)
def OneX (f : FuncId) (G : ORC R) : Prop := ∀ (a : Int) (K : List V → Option R), InR a → W (fun o => o = [.int .i64 (over (0 - a)).1, .int .i64 (over (0 - a)).2]) K (G f [.int .i64 a] K)
theorem wrap_w (x : Int) : IntKind.i64.wrap x = Go.RowKit.wrap64 x := by rw [IntKind.wrap_i64]; rfl
theorem over_in {n : Int} (h : InR n) : over n = (n, 0) := if_pos h
theorem over_out {n : Int} (h : ¬ InR n) : over n = (0, 2) := if_neg h
theorem nadd_ok : TwoX 95 (fun a b => over (a + b)) (fun _ args (K : List V → Option R) => g95 G k args K) := by
  intro a b K ha hb
  show W _ K (f95 G k a b K)
  unfold f95
  simp only [wrap_w]
  refine W_dec (fun h => W_ret ?_) (fun h => W_ret ?_)
  · have := (add_test ha hb).1 h
    rw [over_out this]
  · have : InR (a + b) := Decidable.byContradiction fun c => h ((add_test ha hb).2 c)
    rw [over_in this, wrap_in this]
theorem nsub_ok : TwoX 90 (fun a b => over (a - b)) (fun _ args (K : List V → Option R) => g90 G k args K) := by
  intro a b K ha hb
  show W _ K (f90 G k a b K)
  unfold f90
  simp only [wrap_w]
  refine W_dec (fun h => W_ret ?_) (fun h => W_ret ?_)
  · have := (sub_test ha hb).1 h
    rw [over_out this]
  · have : InR (a - b) := Decidable.byContradiction fun c => h ((sub_test ha hb).2 c)
    rw [over_in this, wrap_in this]
theorem nneg_ok (hS : TwoX 90 (fun a b => over (a - b)) G) : OneX 71 (fun _ args (K : List V → Option R) => g71 G k args K) := by
  intro a K ha
  show W _ K (f71 G k a K)
  unfold f71
  unfold TwoX at hS
  refine W_call (hS _ _ _ (by unfold InR; omega) ha) ?_
  rintro _ rfl
  (repeat(with_reducible apply U1))
  exact W_ret rfl
theorem nmul_ok : TwoX 92 (fun a b => over (a * b)) (fun _ args (K : List V → Option R) => g92 G k args K) := by
  intro a b K ha hb
  show W _ K (f92 G k a b K)
  unfold f92
  refine W_beqI (fun h => W_ret ?_) (fun h => ?_)
  · subst h; show _ = [V.int .i64 (over (0 * b)).1, V.int .i64 (over (0 * b)).2]; rw [Int.zero_mul]; rfl
  refine W_beqI (fun h' => W_ret ?_) (fun h' => ?_)
  · subst h'; show _ = [V.int .i64 (over (a * 0)).1, V.int .i64 (over (a * 0)).2]; rw [Int.mul_zero]; rfl
  have fin : ¬ (b = -1 ∧ a = -9223372036854775808) → W (fun o => o = [V.int .i64 (over (a * b)).1, V.int .i64 (over (a * b)).2]) K (bif (!(b == 0)) then (bif ((IntKind.i64.wrap (Int.tdiv (IntKind.i64.wrap (a * b)) b)) != a) then (K [(.int .i64 0), (.int .i64 2)]) else (K [(.int .i64 (IntKind.i64.wrap (a * b))), (.int .i64 0)])) else none) := fun h1 => by
    refine W_not (W_eqN h' ?_)
    simp only [wrap_w]
    have t := mul_test ha hb h' h1
    by_cases e : InR (a * b)
    · refine W_chk' (by rw [t.2 e]; simp) (W_ret ?_)
      rw [over_in e, wrap_in e]
    · refine W_chk (by simp only [bne_iff_ne, ne_eq]; exact fun c => e (t.1 c)) (W_ret ?_)
      rw [over_out e]
  refine W_beqI (fun e1 => ?_) (fun e1 => ?_)
  · refine W_beqI (fun e2 => W_ret ?_) (fun e2 => ?_)
    · subst e1; subst e2; rfl
    · refine W_beqI (fun e3 => ?_) (fun e3 => fin (fun h => e3 h.1))
      exact W_beqI (fun e4 => by omega) (fun e4 => fin (fun h => e4 h.2))
  · refine W_beqI (fun e3 => ?_) (fun e3 => fin (fun h => e3 h.1))
    refine W_beqI (fun e4 => W_ret ?_) (fun e4 => fin (fun h => e4 h.2))
    subst e3; subst e4; rfl
theorem tdiv_in {a b : Int} (ha : InR a) (h0 : b ≠ 0) (h1 : ¬ (b = -1 ∧ a = -9223372036854775808)) : InR (Int.tdiv a b) := by
  by_cases e1 : b = 1
  · subst e1; simpa using ha
  by_cases e2 : b = -1
  · subst e2
    have : Int.tdiv a (-1) = -a := by rw [Int.tdiv_neg]; simp
    rw [this]; unfold InR at *; omega
  · have h2 : (a.tdiv b).natAbs ≤ a.natAbs / 2 := by
      rw [Int.natAbs_tdiv]; exact Nat.div_le_div_left (by omega) (by omega)
    unfold InR at *; omega
theorem ndiv_ok (hN : OneX 71 G) : TwoX 93 divR (fun _ args (K : List V → Option R) => g93 G k args K) := by
  intro a b K ha hb
  show W _ K (f93 G k a b K)
  unfold f93
  refine W_beqI (fun h => W_ret ?_) (fun h => ?_)
  · rw [divR, if_pos h]
  refine W_beqI (fun h1 => ?_) (fun h1 => ?_)
  · unfold OneX at hN
    refine W_call (hN _ _ ha) ?_
    rintro _ rfl
    (repeat(with_reducible apply U1))
    refine W_ret ?_
    subst h1
    by_cases h2 : a = -9223372036854775808
    · subst h2; rfl
    · have : InR (0 - a) := by unfold InR at *; omega
      rw [over_in this, divR, if_neg h, if_neg (fun c => h2 c.2), Int.tdiv_neg, Int.tdiv_one]; simp
  · refine W_not (W_eqN h (W_ret ?_))
    have h2 : ¬ (b = -1 ∧ a = -9223372036854775808) := fun c => h1 c.1
    rw [divR, if_neg h, if_neg h2, wrap_w, wrap_in (tdiv_in ha h h2)]
theorem nmod_ok : TwoX 94 modR (fun _ args (K : List V → Option R) => g94 G k args K) := by
  intro a b K ha hb
  show W _ K (f94 G k a b K)
  unfold f94
  refine W_beqI (fun h => W_ret ?_) (fun h => ?_)
  · rw [modR, if_pos h]
  refine W_beqI (fun h1 => W_ret ?_) (fun h1 => ?_)
  · rw [modR, if_neg h, if_pos h1]
  · exact W_not (W_eqN h (W_ret (by rw [modR, if_neg h, if_neg h1])))
theorem over_r (n : Int) : InR (over n).1 := by
  unfold over; split
  · assumption
  · unfold InR; omega
theorem divR_r {a b : Int} (ha : InR a) : InR (divR a b).1 := by
  unfold divR
  split
  · unfold InR; omega
  · split
    · unfold InR; omega
    · rename_i h h1; exact tdiv_in ha h h1
theorem modR_r {a b : Int} (ha : InR a) (hb : InR b) : InR (modR a b).1 := by
  unfold modR
  split
  · unfold InR; omega
  · split
    · unfold InR; omega
    · rename_i h h1
      have h3 := Int.natAbs_tmod a b
      have h4 := Nat.mod_le a.natAbs b.natAbs
      have h5 : 0 < b.natAbs := by omega
      have h6 := Nat.mod_lt a.natAbs h5
      show InR (Int.tmod a b)
      unfold InR at *; omega
end
set_option maxHeartbeats 4000000
section
variable {R : Type} {G : ORC R} {k : Nat} {K : List V → Option R}
def PlaceS (G : ORC R) : Prop := ∀ (v n : Int) (K : List V → Option R), 0 < n → n ≤ 1099511627776 → W (fun o => ∃ x, o = [.int .i64 x] ∧ 0 ≤ x ∧ x < n) K (G 29 [.int .i64 v, .int .i64 n] K)
theorem place_ok : PlaceS (fun _ args (K : List V → Option R) => g29 G k args K) := by
  intro v n K h1 h2
  show W _ K (f29 G k v n K)
  unfold f29
  have ht := tmod_lt (v := v) h1
  refine W_not ?_
  refine W_beqI (fun h => by omega) (fun _ => ?_)
  refine W_dec (fun h => ?_) (fun h => ?_)
  · rw [wrap_id (by omega)]; exact W_ret ⟨_, rfl, by omega, by omega⟩
  · exact W_ret ⟨_, rfl, by omega, by omega⟩
def NextS (G : ORC R) : Prop := ∀ (n : Int) (L : List V) (i : Int) (K : List V → Option R), 0 < n → n ≤ 1099511627776 → RowS L i → W (fun o => ∃ x j, o = [.int .i64 x, .int .i64 j] ∧ 0 ≤ x ∧ x < n ∧ RowS L j) K (G 36 [.int .i64 n, .sl 1 L, .int .i64 i] K)
theorem next_ok (hP : PlaceS G) : NextS (fun _ args (K : List V → Option R) => g36 G k args K) := by
  intro n L i K h1 h2 hr
  obtain ⟨r1, r2, r3, r4⟩ := hr
  show W _ K (f36 G k n L i K)
  unfold f36
  have e1 : IntKind.i64.wrap (i + 1) = i + 1 := wrap_id (by omega)
  have e2 : IntKind.i64.wrap (i + 1 - 1) = i := by rw [wrap_id (by omega)]; omega
  rw [e1, e2]
  refine W_dec (fun h => ?_) (fun h => ?_)
  · exact W_ret ⟨_, _, rfl, by omega, by omega, r1, r2, r3, r4⟩
  · refine W_and (W_yes (by omega) (W_yes (by omega) ?_))
    refine W_nth (by omega) (fun v _ hv => ?_)
    obtain ⟨m, rfl, hm⟩ := r1 v hv
    refine W_aI ?_
    refine W_call (hP m n _ h1 h2) ?_
    rintro o ⟨x, rfl, x1, x2⟩
    refine W_uI (W_unNil ?_)
    exact W_ret ⟨_, _, rfl, x1, x2, r1, r2, by omega, by omega⟩
def EventS (G : ORC R) : Prop := ∀ (n : Int) (K : List V → Option R), W (fun o => ∃ s, o = [.str s] ∧ StrS s) K (G 38 [.int .i64 n] K)
theorem event_ok (hP : PlaceS G) : EventS (fun _ args (K : List V → Option R) => g38 G k args K) := by
  intro n K
  show W _ K (f38 G k n K)
  unfold f38
  refine W_call (hP n 8 _ (by omega) (by omega)) ?_
  rintro o ⟨x, rfl, x1, x2⟩
  refine W_uI (W_unNil ?_)
  refine W_and (W_yes (by omega) (W_yes (by omega) ?_))
  refine W_nth (by simp; omega) (fun v _ hv => ?_)
  simp only [List.mem_cons, List.not_mem_nil, or_false] at hv
  rcases hv with rfl | rfl | rfl | rfl | rfl | rfl | rfl | rfl <;> exact W_ret ⟨_, rfl, by unfold StrS; decide⟩
def PickS (G : ORC R) : Prop := ∀ (l : List V) (s : ByteArray) (L : List V) (i : Int) (m : Nat) (K : List V → Option R), StrsS m l → m ≤ 100000 → StrS s → RowS L i → W (fun o => ∃ t j, o = [.str t, .int .i64 j] ∧ StrS t ∧ (l = [] ∨ .str t ∈ l) ∧ RowS L j) K (G 37 [.sl 1 l, .str s, .sl 1 L, .int .i64 i] K)
theorem pick_ok (hN : NextS G) : PickS (fun _ args (K : List V → Option R) => g37 G k args K) := by
  intro l s L i m K hl hm hs hr
  show W _ K (f37 G k l s L i K)
  unfold f37
  have h1 := hl.1
  refine W_beqI (fun h => ?_) (fun h => ?_)
  · exact W_ret ⟨_, _, rfl, hs, .inl (List.eq_nil_of_length_eq_zero (by omega)), hr⟩
  · refine W_call (hN _ L i _ (by omega) (by omega) hr) ?_
    rintro o ⟨x, j, rfl, x1, x2, hr2⟩
    refine W_uI (W_uI (W_unNil ?_))
    refine W_and (W_yes (by omega) (W_yes (by omega) ?_))
    refine W_nth (by omega) (fun v _ hv => ?_)
    obtain ⟨t, rfl, ht⟩ := hl.2 v hv
    exact W_asStr (W_ret ⟨_, _, rfl, ht, .inr hv, hr2⟩)
end
set_option maxHeartbeats 8000000
section
variable {R : Type} {G : ORC R} {k : Nat} {K : List V → Option R}
def NamesNE (l : List Nd) : Prop := (∀ n, l[0]? = some n → n.name.toList = []) ∧ ∀ (j : Nat) n, l[j]? = some n → 0 < j → n.name.toList ≠ []
def FindOK (G : ORC R) : Prop := ∀ (l : List Nd) (s : ByteArray) (K : List V → Option R), l.length ≤ 1000 → W (fun o => o = [.int .i64 (findN l s)]) K (G 62 [.sl 7 (l.map Nd.v), .str s] K)
theorem find_loop {Q : List V → Prop} {K : List V → Option R} {Ko : Unit → Option R} {Kr : Int → Option R} {l : List Nd} {s : ByteArray} (hl : l.length ≤ 1000)
    (hKo : findN l s = -1 → W Q K (Ko ())) (hKr : ∀ i, i = findN l s → W Q K (Kr i)) :
    ∀ (j i : Nat), l.length - i < j → findGo s (l.drop i) i = findN l s → W Q K (l62_0g G k Ko Kr j (l.map Nd.v) s i)
  | 0, i, h1, h2 => by omega
  | j + 1, i, h1, h2 => by
    show W Q K (b62_0 G k (l62_0g G k Ko Kr j) Ko Kr (l.map Nd.v) s i)
    unfold b62_0
    simp only [List.length_map]
    refine W_dec (fun h => ?_) (fun h => ?_)
    · refine W_and (W_yes (by omega) (W_yes h ?_))
      refine W_nthN (by omega) (fun n hn => W_nd ?_)
      rw [Int.toNat_natCast] at hn
      have hd : l.drop i = n :: l.drop (i + 1) := by
        have hi : i < l.length := by omega
        rw [List.drop_eq_getElem_cons hi]
        rw [List.getElem?_eq_getElem hi] at hn; cases hn; rfl
      refine W_ce7 (W_asStr ?_)
      rw [hd] at h2
      unfold findGo at h2
      refine W_bool (fun e => ?_) (fun e => ?_)
      · rw [if_pos (beq_iff_eq.1 e)] at h2
        exact hKr _ h2
      · rw [if_neg (fun e' => by rw [e', beq_self_eq_true] at e; cases e)] at h2
        rw [wrap_id (n := (i : Int) + 1) (by omega)]
        exact find_loop hl hKo hKr j (i + 1) (by omega) h2
    · refine hKo ?_
      rw [← h2, List.drop_eq_nil_of_le (by omega)]; rfl
theorem find_ok (hk : 10000 ≤ k) : FindOK (fun _ args (K : List V → Option R) => g62 G k args K) := by
  intro l s K hl
  show W _ K (f62 G k (l.map Nd.v) s K)
  unfold f62 l62_0
  exact find_loop (Q := fun o => o = [.int .i64 (findN l s)]) (K := K) (Ko := fun _ => K [.int .i64 (-1)]) (Kr := fun i => K [.int .i64 i]) hl (fun e => W_ret (by rw [e])) (fun i e => W_ret (by rw [e])) k 1 (by omega) rfl
end
section
variable {R : Type} {G : ORC R} {k : Nat} {K : List V → Option R}
def ins (op a n : Int) : V := .agg [.int .i64 op, .int .i64 a, .int .i64 n, .str ⟨#[]⟩]
def insS (op a n : Int) (s : ByteArray) : V := .agg [.int .i64 op, .int .i64 a, .int .i64 n, .str s]
structure Nms where
  a : List V
  p : List V
  t : List V
  nd : List Nd
def Nms.v (N : Nms) : V := .agg [.sl 1 N.a, .sl 1 N.p, .sl 1 N.t, .sl 7 (N.nd.map Nd.v)]
def Nms.ok (N : Nms) : Prop := StrsS 100 N.a ∧ StrsS 100 N.p ∧ StrsS 100 N.t ∧ N.nd.length ≤ 1000 ∧ NamesNE N.nd
def plGo (s : ByteArray) : List V → Int → Int
  | .str t :: r, i => if t.toList = s.toList then i else plGo s r (i + 1)
  | _, _ => -1
def plN (l : List V) (s : ByteArray) : Int := plGo s l 0
def andX (at_ : Nat) (E0 E1 : List V) : List V :=
  E0 ++ ins 24 (at_ + E0.length + 1 + E1.length + 3) 0 :: (E1 ++ [ins 24 (at_ + E0.length + 1 + E1.length + 3) 0, ins 1 0 1, ins 23 (at_ + E0.length + 1 + E1.length + 4) 0, ins 1 0 0])
def orX (at_ : Nat) (E0 E1 : List V) : List V :=
  E0 ++ [ins 24 (at_ + E0.length + 3) 0, ins 1 0 1, ins 23 (at_ + E0.length + 3 + E1.length + 4) 0] ++ (E1 ++ [ins 24 (at_ + E0.length + 3 + E1.length + 3) 0, ins 1 0 1, ins 23 (at_ + E0.length + 3 + E1.length + 4) 0, ins 1 0 0])
def cE (N : Nms) : Nat → Nat → V → List V
  | d + 1, at_, .agg [.int _ kind, .int _ n, .str nm, .sl _ kids, _] =>
    if kind = 1 then [ins 1 0 n] else if kind = 2 then [ins 2 (plN N.a nm) 0] else if kind = 3 then [ins 3 0 0] else if kind = 4 then [ins 4 (findN N.nd nm) 0]
    else match kids with
      | [a] => cE N d at_ a ++ [ins kind 0 0]
      | [a, b] => let E0 := cE N d at_ a
        if kind = 18 then andX at_ E0 (cE N d (at_ + E0.length + 1) b)
        else if kind = 19 then orX at_ E0 (cE N d (at_ + E0.length + 3) b)
        else E0 ++ cE N d (at_ + E0.length) b ++ [ins kind 0 0]
      | _ => []
  | _, _, _ => []
theorem andX_len {a : Nat} {E0 E1 : List V} : (andX a E0 E1).length = E0.length + E1.length + 5 := by simp [andX]; omega
theorem orX_len {a : Nat} {E0 E1 : List V} : (orX a E0 E1).length = E0.length + E1.length + 7 := by simp [orX]; omega
theorem cE_len {N : Nms} : ∀ {d at_ : Nat} {e : V}, ExprS d e → (cE N d at_ e).length ≤ ce d
  | 0, _, _, h => h.elim
  | d + 1, at_, e, h => by
    obtain ⟨kind, n, nm, kids, rfl, x1, x2, x3, x4, x5, x6, x7⟩ := h
    have hce : ce (d + 1) = 2 * ce d + 8 := rfl
    unfold cE
    split
    · simp; omega
    split
    · simp; omega
    split
    · simp; omega
    split
    · simp; omega
    split
    · rename_i a
      have := cE_len (N := N) (at_ := at_) (x6 a (by simp))
      simp; omega
    · rename_i a b
      have h1 := cE_len (N := N) (at_ := at_) (x6 a (by simp))
      have h2 := fun q => cE_len (N := N) (at_ := q) (x6 b (by simp))
      dsimp only
      split
      · rw [andX_len]; have := h2 (at_ + (cE N d at_ a).length + 1); omega
      split
      · rw [orX_len]; have := h2 (at_ + (cE N d at_ a).length + 3); omega
      · simp; have := h2 (at_ + (cE N d at_ a).length); omega
    · simp
theorem set_at {L Q : List V} {x v : V} {i : Nat} (h : i = L.length) : (L ++ x :: Q).set i v = L ++ v :: Q := by subst h; simp
theorem get_at {L Q : List V} {x : V} {i : Nat} (h : i = L.length) : (L ++ x :: Q)[i]? = some x := by subst h; simp
theorem W_nth0 {Q : List V → Prop} {a : V} {l : List V} {F : V → Option R} (h : W Q K (F a)) : W Q K (nthK (a :: l) 0 F) := h
theorem W_nth1 {Q : List V → Prop} {a b : V} {l : List V} {F : V → Option R} (h : W Q K (F b)) : W Q K (nthK (a :: b :: l) 1 F) := h
def PlX (f : FuncId) (G : ORC R) : Prop := ∀ (l : List V) (s : ByteArray) (K : List V → Option R), StrsS 100 l → W (fun o => o = [.int .i64 (plN l s)]) K (G f [.sl 1 l, .str s] K)
theorem pl_go {s : ByteArray} : ∀ {l : List V} {m : Nat} {i : Int}, StrsS 100 l → m ≤ l.length → (∀ j t, j < m → l[j]? = some (.str t) → t.toList ≠ s.toList) → plGo s l i = plGo s (l.drop m) (i + m)
  | l, 0, i, h, h1, h2 => by simp
  | [], m + 1, i, h, h1, h2 => by simp at h1
  | v :: r, m + 1, i, h, h1, h2 => by
    obtain ⟨t, rfl, ht⟩ := h.2 v List.mem_cons_self
    have hne := h2 0 t (by omega) rfl
    rw [plGo, if_neg hne, List.drop_succ_cons]
    rw [pl_go (m := m) (i := i + 1) ⟨by have := h.1; simp at this; omega, fun v hv => h.2 v (List.mem_cons_of_mem _ hv)⟩ (by simp at h1; omega) (fun j t hj e => h2 (j + 1) t (by omega) (by simpa using e))]
    congr 1; omega
theorem pl_hit {s t : ByteArray} {l : List V} {m : Nat} (h : StrsS 100 l) (h2 : ∀ j t, j < m → l[j]? = some (.str t) → t.toList ≠ s.toList) (hm : l[m]? = some (.str t)) (he : t.toList = s.toList) : plN l s = m := by
  obtain ⟨hl, e⟩ := List.getElem?_eq_some_iff.1 hm
  unfold plN
  rw [pl_go h (Nat.le_of_lt hl) h2, List.drop_eq_getElem_cons hl, e, plGo, if_pos he]; omega
theorem pl_none {s : ByteArray} {l : List V} (h : StrsS 100 l) (h2 : ∀ j t, j < l.length → l[j]? = some (.str t) → t.toList ≠ s.toList) : plN l s = -1 := by
  unfold plN
  rw [pl_go h (Nat.le_refl _) h2, List.drop_length]; rfl
theorem plx_loop {Q : List V → Prop} {K : List V → Option R} {Ko : Unit → Option R} {Kr : Int → Option R} {l : List V} {s : ByteArray} (hl : StrsS 100 l) (hKo : plN l s = -1 → W Q K (Ko ())) (hKr : ∀ i, plN l s = i → W Q K (Kr i)) :
    ∀ (j m : Nat), l.length - m < j → m ≤ l.length → (∀ j t, j < m → l[j]? = some (.str t) → t.toList ≠ s.toList) → W Q K (l61_0g G k Ko Kr j l s m)
  | 0, m, h1, h2, h3 => by omega
  | j + 1, m, h1, h2, h3 => by
    show W Q K (b61_0 G k (l61_0g G k Ko Kr j) Ko Kr l s m)
    unfold b61_0
    have hll := hl.1
    refine W_dec (fun h => ?_) (fun h => hKo (pl_none hl (by rw [show l.length = m by omega]; exact h3)))
    obtain ⟨v, hv⟩ : ∃ v, l[m]? = some v := ⟨_, List.getElem?_eq_getElem (by omega)⟩
    obtain ⟨t, rfl, ht⟩ := hl.2 v (List.mem_of_getElem? hv)
    refine W_at (by omega) (by rw [Int.toNat_natCast]; exact hv) (W_asStr (W_bool (fun he => hKr m (pl_hit hl h3 hv (by simpa using he))) (fun he => ?_)))
    rw [wrap_id (n := (m : Int) + 1) (by omega)]
    refine plx_loop hl hKo hKr j (m + 1) (by omega) (by omega) (fun i u hi hu => ?_)
    by_cases e : i = m
    · subst e; rw [hv] at hu; cases hu; intro c; rw [c] at he; simp at he
    · exact h3 i u (by omega) hu
theorem plx_ok (hk : 10000 ≤ k) : PlX 61 (fun _ args (K : List V → Option R) => g61 G k args K) := by
  intro l s K hl
  show W _ K (f61 G k l s K)
  unfold f61 l61_0
  have hll := hl.1
  exact plx_loop (Q := fun o => o = [.int .i64 (plN l s)]) (K := K) hl (fun e => W_ret (by rw [e])) (fun i e => W_ret (by rw [e])) k 0 (by omega) (by omega) (fun j t h => by omega)
def OpX (f : FuncId) (G : ORC R) : Prop := ∀ (n : Int) (K : List V → Option R), 5 ≤ n → n ≤ 17 → W (fun o => o = [.int .i64 n]) K (G f [.int .i64 n] K)
theorem opx_ok : OpX 63 (fun _ args (K : List V → Option R) => g63 G k args K) := by
  intro n K h1 h2
  show W _ K (f63 G k n K)
  unfold f63
  refine W_beqI (fun e => W_ret (by rw [e])) (fun _ => ?_)
  refine W_beqI (fun e => W_ret (by rw [e])) (fun _ => W_ret ?_)
  rw [wrap_id (n := 7 + n) (by omega), wrap_id (n := 7 + n - 7) (by omega), show 7 + n - 7 = n by omega]
def RX (d : Nat) (G : ORC R) : Prop := ∀ (c : List V) (e : V) (N : Nms) (K : List V → Option R), ExprS d e → N.ok → c.length + ce d ≤ 1000000 → W (fun o => o = [.sl 4 (c ++ cE N d c.length e)]) K (G 42 [.sl 4 c, e, N.v] K)
def RBX (f : FuncId) (X : Nat → List V → List V → List V) (q : Nat) (d : Nat) (G : ORC R) : Prop := ∀ (c : List V) (kind n x : Int) (nm : ByteArray) (a b : V) (N : Nms) (K : List V → Option R), ExprS d a → ExprS d b → N.ok → c.length + ce (d + 1) ≤ 1000000 →
  W (fun o => o = [.sl 4 (c ++ X c.length (cE N d c.length a) (cE N d (c.length + (cE N d c.length a).length + q) b))]) K (G f [.sl 4 c, .agg [.int .i64 kind, .int .i64 n, .str nm, .sl 5 [a, b], .int .i64 x], N.v] K)
theorem randx_ok {d : Nat} (hE : RX d G) : RBX 64 andX 1 d (fun _ args (K : List V → Option R) => g64 G k args K) := by
  intro c kind n x nm a b N K ha hb hN hm
  show W _ K (f64 G k c kind n nm [a, b] x N.a N.p N.t (N.nd.map Nd.v) K)
  unfold f64
  have hce : ce (d + 1) = 2 * ce d + 8 := rfl
  unfold RX at hE
  cases d with
  | zero => exact ha.elim
  | succ d =>
  have l0 := cE_len (N := N) (at_ := c.length) ha
  have l1 := fun q => cE_len (N := N) (at_ := q) hb
  have ha' := ha
  have hb' := hb
  obtain ⟨_, _, _, _, rfl, _⟩ := ha
  obtain ⟨_, _, _, _, rfl, _⟩ := hb
  refine W_yes (by simp) (W_nth0 (W_asAgg ?_))
  refine W_call (hE c _ N _ ha' hN (by omega)) ?_
  rintro _ rfl
  generalize hE0 : cE N (d + 1) c.length _ = E0 at l0 ⊢
  refine W_uL (W_unNil (W_yes (by simp; omega) (W_yes (by simp) (W_nth1 (W_asAgg ?_)))))
  refine W_call (hE _ _ N _ hb' hN (by simp; omega)) ?_
  rintro _ rfl
  have hl : (c ++ E0 ++ [V.agg [.int .i64 24, .int .i64 0, .int .i64 0, .str ⟨#[]⟩]]).length = c.length + E0.length + 1 := by simp; omega
  rw [hl]
  have l1 := l1 (c.length + E0.length + 1)
  generalize hE1 : cE N (d + 1) (c.length + E0.length + 1) _ = E1 at l1 ⊢
  refine W_uL (W_unNil (W_yes (by simp; omega) ?_))
  have e1 : c ++ E0 ++ [V.agg [.int .i64 24, .int .i64 0, .int .i64 0, .str ⟨#[]⟩]] ++ E1 ++ [V.agg [.int .i64 24, .int .i64 0, .int .i64 0, .str ⟨#[]⟩], .agg [.int .i64 1, .int .i64 0, .int .i64 1, .str ⟨#[]⟩], .agg [.int .i64 23, .int .i64 0, .int .i64 0, .str ⟨#[]⟩]] = (c ++ E0) ++ ins 24 0 0 :: (E1 ++ [ins 24 0 0, ins 1 0 1, ins 23 0 0]) := by simp [ins]
  have hy : (c ++ E0 ++ [V.agg [.int .i64 24, .int .i64 0, .int .i64 0, .str ⟨#[]⟩]] ++ E1).length = c.length + E0.length + 1 + E1.length := by simp; omega
  rw [e1, hy]
  refine W_at (by omega) (get_at (by (first | (simp only [Int.toNat_natCast, List.length_append, List.length_cons, List.length_nil, List.length_set]; done) | (simp only [Int.toNat_natCast, List.length_append, List.length_cons, List.length_nil, List.length_set]; omega)))) (W_ca4 ?_)
  rw [set_at (L := c ++ E0) (by (first | (simp only [Int.toNat_natCast, List.length_append, List.length_cons, List.length_nil, List.length_set]; done) | (simp only [Int.toNat_natCast, List.length_append, List.length_cons, List.length_nil, List.length_set]; omega)))]
  have e2 : ∀ z : V, (c ++ E0) ++ z :: (E1 ++ [ins 24 0 0, ins 1 0 1, ins 23 0 0]) = (c ++ E0 ++ z :: E1) ++ ins 24 0 0 :: [ins 1 0 1, ins 23 0 0] := fun z => by simp
  rw [e2]
  refine W_at (by omega) (get_at (by (first | (simp only [Int.toNat_natCast, List.length_append, List.length_cons, List.length_nil, List.length_set]; done) | (simp only [Int.toNat_natCast, List.length_append, List.length_cons, List.length_nil, List.length_set]; omega)))) (W_ca4 ?_)
  rw [set_at (L := c ++ E0 ++ _ :: E1) (by (first | (simp only [Int.toNat_natCast, List.length_append, List.length_cons, List.length_nil, List.length_set]; done) | (simp only [Int.toNat_natCast, List.length_append, List.length_cons, List.length_nil, List.length_set]; omega)))]
  refine W_yes (by (first | (simp only [Int.toNat_natCast, List.length_append, List.length_cons, List.length_nil, List.length_set]; done) | (simp only [Int.toNat_natCast, List.length_append, List.length_cons, List.length_nil, List.length_set]; omega))) ?_
  rw [wrap_id (n := ((c.length + E0.length + 1 + E1.length : Nat) : Int) + 2) (by omega)]
  have e3 : ∀ z y w : V, (c ++ E0 ++ z :: E1 ++ [y, ins 1 0 1, ins 23 0 0]) ++ [w] = (c ++ E0 ++ z :: E1 ++ [y, ins 1 0 1]) ++ ins 23 0 0 :: [w] := fun z y w => by simp
  rw [e3]
  have hi : (((c.length + E0.length + 1 + E1.length : Nat) : Int) + 2).toNat = c.length + E0.length + 1 + E1.length + 2 := by omega
  refine W_at (by omega) (get_at (by rw [hi]; (first | (simp only [Int.toNat_natCast, List.length_append, List.length_cons, List.length_nil, List.length_set]; done) | (simp only [Int.toNat_natCast, List.length_append, List.length_cons, List.length_nil, List.length_set]; omega)))) (W_ca4 ?_)
  rw [hi, set_at (L := c ++ E0 ++ _ :: E1 ++ [_, ins 1 0 1]) (by (first | (simp only [Int.toNat_natCast, List.length_append, List.length_cons, List.length_nil, List.length_set]; done) | (simp only [Int.toNat_natCast, List.length_append, List.length_cons, List.length_nil, List.length_set]; omega)))]
  refine W_ret ?_
  simp [andX, ins]
  omega
theorem rorx_ok {d : Nat} (hE : RX d G) : RBX 65 orX 3 d (fun _ args (K : List V → Option R) => g65 G k args K) := by
  intro c kind n x nm a b N K ha hb hN hm
  show W _ K (f65 G k c kind n nm [a, b] x N.a N.p N.t (N.nd.map Nd.v) K)
  unfold f65
  have hce : ce (d + 1) = 2 * ce d + 8 := rfl
  unfold RX at hE
  cases d with
  | zero => exact ha.elim
  | succ d =>
  have l0 := cE_len (N := N) (at_ := c.length) ha
  have l1 := fun q => cE_len (N := N) (at_ := q) hb
  have ha' := ha
  have hb' := hb
  obtain ⟨_, _, _, _, rfl, _⟩ := ha
  obtain ⟨_, _, _, _, rfl, _⟩ := hb
  refine W_yes (by simp) (W_nth0 (W_asAgg ?_))
  refine W_call (hE c _ N _ ha' hN (by omega)) ?_
  rintro _ rfl
  generalize hE0 : cE N (d + 1) c.length _ = E0 at l0 ⊢
  refine W_uL (W_unNil (W_yes (by simp; omega) ?_))
  have e1 : c ++ E0 ++ [V.agg [.int .i64 24, .int .i64 0, .int .i64 0, .str ⟨#[]⟩], .agg [.int .i64 1, .int .i64 0, .int .i64 1, .str ⟨#[]⟩], .agg [.int .i64 23, .int .i64 0, .int .i64 0, .str ⟨#[]⟩]] = (c ++ E0) ++ ins 24 0 0 :: [ins 1 0 1, ins 23 0 0] := by simp [ins]
  rw [e1]
  refine W_at (by omega) (get_at (by (first | (simp only [Int.toNat_natCast, List.length_append, List.length_cons, List.length_nil, List.length_set]; done) | (simp only [Int.toNat_natCast, List.length_append, List.length_cons, List.length_nil, List.length_set]; omega)))) (W_ca4 ?_)
  rw [set_at (L := c ++ E0) (by (first | (simp only [Int.toNat_natCast, List.length_append, List.length_cons, List.length_nil, List.length_set]; done) | (simp only [Int.toNat_natCast, List.length_append, List.length_cons, List.length_nil, List.length_set]; omega)))]
  have hl : ∀ z : V, (c ++ E0 ++ z :: [ins 1 0 1, ins 23 0 0]).length = c.length + E0.length + 3 := fun z => by simp; omega
  rw [hl]
  refine W_yes (by simp) (W_nth1 (W_asAgg ?_))
  refine W_call (hE _ _ N _ hb' hN (by rw [hl]; omega)) ?_
  rintro _ rfl
  rw [hl]
  have l1 := l1 (c.length + E0.length + 3)
  generalize hE1 : cE N (d + 1) (c.length + E0.length + 3) _ = E1 at l1 ⊢
  refine W_uL (W_unNil (W_yes (by (first | (simp only [Int.toNat_natCast, List.length_append, List.length_cons, List.length_nil, List.length_set]; done) | (simp only [Int.toNat_natCast, List.length_append, List.length_cons, List.length_nil, List.length_set]; omega))) ?_))
  have e2 : ∀ z : V, c ++ E0 ++ z :: [ins 1 0 1, ins 23 0 0] ++ E1 ++ [V.agg [.int .i64 24, .int .i64 0, .int .i64 0, .str ⟨#[]⟩], .agg [.int .i64 1, .int .i64 0, .int .i64 1, .str ⟨#[]⟩], .agg [.int .i64 23, .int .i64 0, .int .i64 0, .str ⟨#[]⟩]] = (c ++ E0 ++ z :: [ins 1 0 1, ins 23 0 0] ++ E1) ++ ins 24 0 0 :: [ins 1 0 1, ins 23 0 0] := fun z => by simp [ins]
  rw [e2]
  refine W_at (by omega) (get_at (by (first | (simp only [Int.toNat_natCast, List.length_append, List.length_cons, List.length_nil, List.length_set]; done) | (simp only [Int.toNat_natCast, List.length_append, List.length_cons, List.length_nil, List.length_set]; omega)))) (W_ca4 ?_)
  rw [set_at (L := c ++ E0 ++ _ :: [ins 1 0 1, ins 23 0 0] ++ E1) (by (first | (simp only [Int.toNat_natCast, List.length_append, List.length_cons, List.length_nil, List.length_set]; done) | (simp only [Int.toNat_natCast, List.length_append, List.length_cons, List.length_nil, List.length_set]; omega)))]
  refine W_yes (by (first | (simp only [Int.toNat_natCast, List.length_append, List.length_cons, List.length_nil, List.length_set]; done) | (simp only [Int.toNat_natCast, List.length_append, List.length_cons, List.length_nil, List.length_set]; omega))) ?_
  have hx : ((c ++ E0).length : Int) = (c.length + E0.length : Nat) := by simp
  have hy : ∀ z : V, ((c ++ E0 ++ z :: [ins 1 0 1, ins 23 0 0] ++ E1).length : Int) = (c.length + E0.length + 3 + E1.length : Nat) := fun z => by simp; omega
  rw [hx, hy]
  rw [wrap_id (n := ((c.length + E0.length : Nat) : Int) + 2) (by omega), wrap_id (n := ((c.length + E0.length + 3 + E1.length : Nat) : Int) + 2) (by omega)]
  have e3 : ∀ z y w : V, c ++ E0 ++ z :: [ins 1 0 1, ins 23 0 0] ++ E1 ++ y :: [ins 1 0 1, ins 23 0 0] ++ [w] = (c ++ E0 ++ [z, ins 1 0 1]) ++ ins 23 0 0 :: (E1 ++ y :: [ins 1 0 1, ins 23 0 0, w]) := fun z y w => by simp
  rw [e3]
  have hi : (((c.length + E0.length : Nat) : Int) + 2).toNat = c.length + E0.length + 2 := by omega
  have hj : (((c.length + E0.length + 3 + E1.length : Nat) : Int) + 2).toNat = c.length + E0.length + 3 + E1.length + 2 := by omega
  refine W_at (by omega) (get_at (by rw [hi]; (first | (simp only [Int.toNat_natCast, List.length_append, List.length_cons, List.length_nil, List.length_set]; done) | (simp only [Int.toNat_natCast, List.length_append, List.length_cons, List.length_nil, List.length_set]; omega)))) (W_ca4 ?_)
  rw [hi, set_at (L := c ++ E0 ++ [_, ins 1 0 1]) (by (first | (simp only [Int.toNat_natCast, List.length_append, List.length_cons, List.length_nil, List.length_set]; done) | (simp only [Int.toNat_natCast, List.length_append, List.length_cons, List.length_nil, List.length_set]; omega)))]
  have e4 : ∀ z u y w : V, (c ++ E0 ++ [z, ins 1 0 1]) ++ u :: (E1 ++ y :: [ins 1 0 1, ins 23 0 0, w]) = (c ++ E0 ++ [z, ins 1 0 1] ++ u :: E1 ++ [y, ins 1 0 1]) ++ ins 23 0 0 :: [w] := fun z u y w => by simp
  rw [e4]
  refine W_at (by omega) (get_at (by rw [hj]; (first | (simp only [Int.toNat_natCast, List.length_append, List.length_cons, List.length_nil, List.length_set]; done) | (simp only [Int.toNat_natCast, List.length_append, List.length_cons, List.length_nil, List.length_set]; omega)))) (W_ca4 ?_)
  rw [hj, set_at (L := c ++ E0 ++ [_, ins 1 0 1] ++ _ :: E1 ++ [_, ins 1 0 1]) (by (first | (simp only [Int.toNat_natCast, List.length_append, List.length_cons, List.length_nil, List.length_set]; done) | (simp only [Int.toNat_natCast, List.length_append, List.length_cons, List.length_nil, List.length_set]; omega)))]
  refine W_ret ?_
  simp [orX, ins]
  omega
theorem rexprx_ok {d : Nat} (hPl : PlX 61 G) (hF : FindOK G) (hOp : OpX 63 G) (hE : RX d G) (hA : RBX 64 andX 1 d G) (hO : RBX 65 orX 3 d G) : RX (d + 1) (fun _ args (K : List V → Option R) => g42 G k args K) := by
  intro c e N K he hN hm
  have hlen := cE_len (N := N) (at_ := c.length) he
  obtain ⟨kind, n, nm, kids, rfl, x1, x2, x3, x4, x5, x6, x7⟩ := he
  show W _ K (f42 G k c kind n nm kids 0 N.a N.p N.t (N.nd.map Nd.v) K)
  unfold f42
  have hce : ce (d + 1) = 2 * ce d + 8 := rfl
  unfold RX at hE; unfold RBX at hA hO; unfold PlX at hPl; unfold FindOK at hF; unfold OpX at hOp
  have hc1 : c.length + 1 ≤ 1073741824 := by omega
  refine W_beqI (fun h => W_yes hc1 (W_ret (by unfold cE; rw [if_pos h]; rfl))) (fun h1 => ?_)
  refine W_beqI (fun h => ?_) (fun h2 => ?_)
  · refine W_call (hPl _ _ _ hN.1) ?_
    rintro _ rfl
    (repeat(with_reducible apply U1))
    exact W_yes hc1 (W_ret (by unfold cE; rw [if_neg h1, if_pos h]; rfl))
  refine W_beqI (fun h => W_yes hc1 (W_ret (by unfold cE; rw [if_neg h1, if_neg h2, if_pos h]; rfl))) (fun h3 => ?_)
  refine W_beqI (fun h => ?_) (fun h4 => ?_)
  · refine W_call (hF _ _ _ hN.2.2.2.1) ?_
    rintro _ rfl
    (repeat(with_reducible apply U1))
    exact W_yes hc1 (W_ret (by unfold cE; rw [if_neg h1, if_neg h2, if_neg h3, if_pos h]; rfl))
  have unary : (kind = 5 ∨ kind = 6) → W (fun o => o = [.sl 4 (c ++ cE N (d + 1) c.length (.agg [.int .i64 kind, .int .i64 n, .str nm, .sl 5 kids, .int .i64 0]))]) K
      (bif decide (0 < ((List.length kids : Nat) : Int)) then nthK kids 0 fun e17 => V.asAgg e17 fun l18 => G 42 [.sl 4 c, .agg l18, .agg [.sl 1 N.a, .sl 1 N.p, .sl 1 N.t, .sl 7 (N.nd.map Nd.v)]] fun o19 => uL 4 o19 fun l21 r20 => unNil r20 (G 63 [.int .i64 kind] fun o22 => uI .i64 o22 fun n24 r23 => unNil r23 (bif decide (List.length l21 + 1 ≤ 1073741824) then K [.sl 4 (l21 ++ [.agg [.int .i64 n24, .int .i64 0, .int .i64 0, .str ⟨#[]⟩]])] else none)) else none) := fun h => by
    have hk1 : kids.length = 1 := by omega
    obtain ⟨a, rfl⟩ : ∃ a, kids = [a] := by
      match kids, hk1 with
      | [a], _ => exact ⟨a, rfl⟩
    have ha := x6 a (by simp)
    have la := cE_len (N := N) (at_ := c.length) ha
    have ha' := ha
    cases d with
    | zero => exact ha.elim
    | succ d =>
    obtain ⟨_, _, _, _, rfl, _⟩ := ha
    refine W_yes (by simp) (W_nth0 (W_asAgg ?_))
    refine W_call (hE c _ N _ ha' hN (by omega)) ?_
    rintro _ rfl
    refine W_uL (W_unNil ?_)
    refine W_call (hOp _ _ (by omega) (by omega)) ?_
    rintro _ rfl
    refine W_uI (W_unNil (W_yes (by simp; omega) (W_ret ?_)))
    conv => rhs; unfold cE
    rw [if_neg h1, if_neg h2, if_neg h3, if_neg h4, List.append_assoc]
    rfl
  refine W_beqI (fun h5 => ?_) (fun h5 => ?_)
  · exact W_eqY h5 (unary (.inl h5))
  refine W_beqI (fun h6 => unary (.inr h6)) (fun h6 => ?_)
  have hk2 : kids.length = 2 := by omega
  obtain ⟨a, b, rfl⟩ : ∃ a b, kids = [a, b] := by
    match kids, hk2 with
    | [a, b], _ => exact ⟨a, b, rfl⟩
  have ha := x6 a (by simp)
  have hb := x6 b (by simp)
  refine W_beqI (fun h18 => ?_) (fun h18 => ?_)
  · refine W_call (hA c kind n 0 nm a b N _ ha hb hN hm) ?_
    rintro _ rfl
    refine W_uL (W_unNil (W_ret ?_))
    conv => rhs; unfold cE
    rw [if_neg h1, if_neg h2, if_neg h3, if_neg h4]
    dsimp only
    rw [if_pos h18]
  refine W_beqI (fun h19 => ?_) (fun h19 => ?_)
  · refine W_call (hO c kind n 0 nm a b N _ ha hb hN hm) ?_
    rintro _ rfl
    refine W_uL (W_unNil (W_ret ?_))
    conv => rhs; unfold cE
    rw [if_neg h1, if_neg h2, if_neg h3, if_neg h4]
    dsimp only
    rw [if_neg h18, if_pos h19]
  cases d with
  | zero => exact ha.elim
  | succ d =>
  have l0 := cE_len (N := N) (at_ := c.length) ha
  have l1 := fun q => cE_len (N := N) (at_ := q) hb
  have ha' := ha
  have hb' := hb
  have fin : ∀ E0 E1 : List V, E0 = cE N (d + 1) c.length a → E1 = cE N (d + 1) (c.length + E0.length) b → [V.sl 4 (c ++ E0 ++ E1 ++ [ins kind 0 0])] = [V.sl 4 (c ++ cE N (d + 1 + 1) c.length (.agg [.int .i64 kind, .int .i64 n, .str nm, .sl 5 [a, b], .int .i64 0]))] := fun E0 E1 q0 q1 => by
    conv => rhs; unfold cE
    rw [if_neg h1, if_neg h2, if_neg h3, if_neg h4]
    dsimp only
    rw [if_neg h18, if_neg h19, ← q0, ← q1]
    simp
  obtain ⟨_, _, _, _, rfl, _⟩ := ha
  obtain ⟨_, _, _, _, rfl, _⟩ := hb
  refine W_yes (by simp) (W_nth0 (W_asAgg ?_))
  refine W_call (hE c _ N _ ha' hN (by omega)) ?_
  rintro _ rfl
  generalize q0 : cE N (d + 1) c.length _ = E0 at l0 ⊢
  refine W_uL (W_unNil (W_yes (by simp) (W_nth1 (W_asAgg ?_))))
  refine W_call (hE _ _ N _ hb' hN (by simp; omega)) ?_
  rintro _ rfl
  rw [List.length_append]
  have l1 := l1 (c.length + E0.length)
  generalize q1 : cE N (d + 1) (c.length + E0.length) _ = E1 at l1 ⊢
  refine W_uL (W_unNil ?_)
  refine W_call (hOp _ _ (by omega) (by omega)) ?_
  rintro _ rfl
  exact W_uI (W_unNil (W_yes (by simp; omega) (W_ret (fin _ _ q0.symm q1.symm))))
end
set_option maxHeartbeats 16000000
section
variable {R : Type} {G : ORC R} {k : Nat} {K : List V → Option R}
def iv (l : List Int) : List V := l.map (.int .i64)
theorem iv_snoc {l : List Int} {x : Int} : iv (l ++ [x]) = iv l ++ [.int .i64 x] := by simp [iv]
theorem iv_len {l : List Int} : (iv l).length = l.length := by simp [iv]
theorem iv_set {l : List Int} {i : Nat} {x : Int} : (iv l).set i (.int .i64 x) = iv (l.set i x) := by simp [iv, List.map_set]
theorem iv_get {l : List Int} {i : Nat} {x : Int} (h : l[i]? = some x) : (iv l)[i]? = some (.int .i64 x) := by simp [iv, h]
def tr (b : Bool) : Int := if b then 1 else 0
def twoR (op x y : Int) : Int × Int :=
  if op = 7 then over (x * y) else if op = 8 then divR x y else if op = 9 then modR x y else if op = 10 then over (x + y) else if op = 11 then over (x - y)
  else if op = 12 then (tr (decide (x < y)), 0) else if op = 13 then (tr (decide (x ≤ y)), 0) else if op = 14 then (tr (decide (x > y)), 0) else if op = 15 then (tr (decide (x ≥ y)), 0) else if op = 16 then (tr (x == y), 0) else (tr (x != y), 0)
theorem tr_r {b : Bool} : InR (tr b) := by cases b <;> (unfold tr InR; simp)
theorem twoR_r {op x y : Int} (hx : InR x) (hy : InR y) : InR (twoR op x y).1 := by
  unfold twoR
  repeat' split
  all_goals first | exact over_r _ | exact divR_r hx | exact modR_r hx hy | exact tr_r
def cfOf (b : Bool) : List Int := [0, if b then 2 else 1]
def loOf (b : Bool) : Int := if b then 5 else 3
structure St where
  pc : Int
  row : List Int
  rnd : List Int
  vs : List Int
  ra : List V
  ef : List V
inductive Stp (b : Bool) (g : Int) : Int → Int → Int → ByteArray → St → Int → St → Prop
  | push {a n s p l r v ra ef} : InR n → Stp b g 1 a n s ⟨p, l, r, v, ra, ef⟩ 0 ⟨p + 1, l ++ [n], r, v, ra, ef⟩
  | load {i : Nat} {n s p l r v ra ef x} : v[i]? = some x → Stp b g 2 i n s ⟨p, l, r, v, ra, ef⟩ 0 ⟨p + 1, l ++ [x], r, v, ra, ef⟩
  | arg {a n s p l r v ra ef} : Stp b g 3 a n s ⟨p, l, r, v, ra, ef⟩ 0 ⟨p + 1, l ++ [g], r, v, ra, ef⟩
  | inn {a n s p l r v ra ef} : Stp b g 4 a n s ⟨p, l, r, v, ra, ef⟩ 0 ⟨p + 1, l ++ [tr (decide (a ∈ cfOf b))], r, v, ra, ef⟩
  | neg {a n s p l r v ra ef x} : InR x → Stp b g 5 a n s ⟨p, l ++ [x], r, v, ra, ef⟩ (over (0 - x)).2 ⟨p + 1, l ++ [(over (0 - x)).1], r, v, ra, ef⟩
  | not {a n s p l r v ra ef x} : Stp b g 6 a n s ⟨p, l ++ [x], r, v, ra, ef⟩ 0 ⟨p + 1, l ++ [tr (x == 0)], r, v, ra, ef⟩
  | two {op a n s p l r v ra ef x y} : 7 ≤ op → op ≤ 17 → InR x → InR y → Stp b g op a n s ⟨p, l ++ [x] ++ [y], r, v, ra, ef⟩ (twoR op x y).2 ⟨p + 1, l ++ [(twoR op x y).1], r, v, ra, ef⟩
  | store {i : Nat} {n s p l r v ra ef x} : i < v.length → Stp b g 18 i n s ⟨p, l ++ [x], r, v, ra, ef⟩ 0 ⟨p + 1, l, r, v.set i x, ra, ef⟩
  | raise {a n s p l r v ra ef x} : Stp b g 19 a n s ⟨p, l ++ [x], r, v, ra, ef⟩ 0 ⟨p + 1, l, r, v, ra ++ [.agg [.str s, .int .i64 x]], ef⟩
  | send {a n s p l r v ra ef x} : Stp b g 20 a n s ⟨p, l ++ [x], r, v, ra, ef⟩ 0 ⟨p + 1, l, r, v, ra, ef ++ [.agg [.int .i64 1, .int .i64 a, .str s, .int .i64 x]]⟩
  | arm {a n s p l r v ra ef x} : 1 ≤ x → x ≤ 65536 → Stp b g 21 a n s ⟨p, l ++ [x], r, v, ra, ef⟩ 0 ⟨p + 1, l, r, v, ra, ef ++ [.agg [.int .i64 2, .int .i64 a, .str ⟨#[]⟩, .int .i64 x]]⟩
  | armE {a n s p l r v ra ef x} : x < 1 ∨ x > 65536 → Stp b g 21 a n s ⟨p, l ++ [x], r, v, ra, ef⟩ 1 ⟨p + 1, l, r, v, ra, ef⟩
  | cancel {a n s p l r v ra ef} : Stp b g 22 a n s ⟨p, l, r, v, ra, ef⟩ 0 ⟨p + 1, l, r, v, ra, ef ++ [.agg [.int .i64 3, .int .i64 a, .str ⟨#[]⟩, .int .i64 0]]⟩
  | jump {i n s p l r v ra ef} : Stp b g 23 i n s ⟨p, l, r, v, ra, ef⟩ 0 ⟨i, l, r, v, ra, ef⟩
  | fals {i n s p l r v ra ef x} : Stp b g 24 i n s ⟨p, l ++ [x], r, v, ra, ef⟩ 0 ⟨if x = 0 then i else p + 1, l, r, v, ra, ef⟩
  | loop {a n s p l r v ra ef} : Stp b g 25 a n s ⟨p, l, r, v, ra, ef⟩ 0 ⟨p + 1, l, r ++ [n], v, ra, ef⟩
  | next1 {i n s p l r v ra ef x} : 0 ≤ i → i ≤ 1000000 → 1 < x → x ≤ 1000000 → Stp b g 26 i n s ⟨p, l, r ++ [x], v, ra, ef⟩ 0 ⟨i + 1, l, r ++ [x - 1], v, ra, ef⟩
  | next0 {i n s p l r v ra ef x} : x ≤ 1 → -1000000 ≤ x → Stp b g 26 i n s ⟨p, l, r ++ [x], v, ra, ef⟩ 0 ⟨p + 1, l, r, v, ra, ef⟩
theorem stp_len {b g op a n s st e st'} (h : Stp b g op a n s st e st') : st'.row.length ≤ st.row.length + 1 ∧ st'.rnd.length ≤ st.rnd.length + 1 ∧ st'.ra.length ≤ st.ra.length + 1 ∧ st'.ef.length ≤ st.ef.length + 1 := by
  cases h <;> simp <;> omega
theorem W_nthA {Q : List V → Prop} {v v' : V} {F : V → Option R} (h : W Q K (F v)) : W Q K (nthK [v, v'] (Int.toNat 0) F) := h
theorem W_nthB {Q : List V → Prop} {v v' : V} {F : V → Option R} (h : W Q K (F v')) : W Q K (nthK [v, v'] (Int.toNat 1) F) := h
def TrX (f : FuncId) (G : ORC R) : Prop := ∀ (b : Bool) (K : List V → Option R), W (fun o => o = [.int .i64 (tr b)]) K (G f [.bool b] K)
theorem ntr_ok : TrX 68 (fun _ args (K : List V → Option R) => g68 G k args K) := by
  intro b K
  show W _ K (f68 G k b K)
  unfold f68
  cases b <;> exact W_ret rfl
def inB (a : Int) : Bool := decide (0 ≤ a) && decide (a < 128)
def InX (G : ORC R) : Prop := ∀ (a : Int) (K : List V → Option R), W (fun o => o = [.bool (inB a)]) K (G 89 [.int .i64 a] K)
theorem inx_ok : InX (fun _ args (K : List V → Option R) => g89 G k args K) := by
  intro a K
  show W _ K (f89 G k a K)
  unfold f89
  refine W_dec (fun h => W_ret ?_) (fun h => W_ret ?_)
  · rw [inB, decide_eq_true h, Bool.true_and]
  · rw [inB, decide_eq_false (by omega), Bool.false_and]
def wiF (lo hi a : Int) : Int × Int :=
  if a < 64 then (bits .or .u64 lo (IntKind.u64.wrap (1 * 2 ^ (min (Int.toNat (Int.tmod a 64)) IntKind.u64.bits))), hi) else (lo, bits .or .u64 hi (IntKind.u64.wrap (1 * 2 ^ (min (Int.toNat (Int.tmod a 64)) IntKind.u64.bits))))
def WiX (G : ORC R) : Prop := ∀ (lo hi a : Int) (K : List V → Option R), W (fun o => o = [.agg [.int .u64 (if inB a then wiF lo hi a else (lo, hi)).1, .int .u64 (if inB a then wiF lo hi a else (lo, hi)).2]]) K (G 66 [.agg [.int .u64 lo, .int .u64 hi], .int .i64 a] K)
theorem wix_ok (hI : InX G) : WiX (fun _ args (K : List V → Option R) => g66 G k args K) := by
  intro lo hi a K
  show W _ K (f66 G k lo hi a K)
  unfold f66
  unfold InX at hI
  refine W_call (hI _ _) ?_
  rintro _ rfl
  (repeat(with_reducible apply U1))
  refine W_bool (fun h => ?_) (fun h => W_ret (by simp [h]))
  have hb : 0 ≤ a ∧ a < 128 := by simpa [inB] using h
  have e1 : Int.tdiv a 64 = a / 64 := Int.tdiv_eq_ediv_of_nonneg hb.1
  have e2 : Int.tmod a 64 = a % 64 := Int.tmod_eq_emod_of_nonneg hb.1
  simp only [h, if_true]
  unfold wiF
  have c0 : ((0 : Nat) == Int.toNat 0) = true := rfl
  have c1 : ((1 : Nat) == Int.toNat 0) = false := rfl
  have c2 : ((0 : Nat) == Int.toNat 1) = false := rfl
  have c3 : ((1 : Nat) == Int.toNat 1) = true := rfl
  by_cases h64 : a < 64
  · have e3 : IntKind.i64.wrap (Int.tdiv a 64) = 0 := by rw [e1, wrap_id (by omega)]; omega
    rw [e3, if_pos h64]
    simp only [c0, c1, cond_true, cond_false]
    refine W_and (W_yes (by omega) (W_yes (by omega) (W_nthA (W_yes (by omega) ?_))))
    refine W_aI (W_and (W_yes (by omega) (W_yes (by omega) (W_aI (W_aI (W_ret rfl))))))
  · have e3 : IntKind.i64.wrap (Int.tdiv a 64) = 1 := by rw [e1, wrap_id (by omega)]; omega
    rw [e3, if_neg h64]
    simp only [c2, c3, cond_true, cond_false]
    refine W_and (W_yes (by omega) (W_yes (by omega) (W_nthB (W_yes (by omega) ?_))))
    refine W_aI (W_and (W_yes (by omega) (W_yes (by omega) (W_aI (W_aI (W_ret rfl))))))
def HasX (G : ORC R) : Prop := ∀ (b : Bool) (a : Int) (K : List V → Option R), W (fun o => o = [.bool (decide (a ∈ cfOf b))]) K (G 69 [.agg [.int .u64 (loOf b), .int .u64 0], .int .i64 a] K)
theorem has_all : ∀ b : Bool, ∀ i : Fin 128, (((wiF (loOf b) 0 (i.val : Int)).1 == loOf b) && (((wiF (loOf b) 0 (i.val : Int)).2 == 0) && true)) = decide ((i.val : Int) ∈ cfOf b) := by decide +kernel
theorem cf_in {b : Bool} {a : Int} (h : a ∈ cfOf b) : 0 ≤ a ∧ a < 128 := by
  unfold cfOf at h; cases b <;> simp at h <;> omega
theorem hasx_ok (hW : WiX G) (hI : InX G) : HasX (fun _ args (K : List V → Option R) => g69 G k args K) := by
  intro b a K
  show W _ K (f69 G k (loOf b) 0 a K)
  unfold f69
  unfold WiX at hW; unfold InX at hI
  refine W_call (hW _ _ _ _) ?_
  rintro _ rfl
  (repeat(with_reducible apply U1))
  by_cases h : inB a = true
  · have hb : 0 ≤ a ∧ a < 128 := by simpa [inB] using h
    obtain ⟨i, rfl⟩ : ∃ i : Nat, a = i := ⟨a.toNat, by omega⟩
    have e := has_all b ⟨i, by omega⟩
    simp only [h, if_true]
    refine W_bool (fun h1 => ?_) (fun h1 => W_ret ?_)
    · refine W_call (hI _ _) ?_
      rintro _ rfl
      (repeat(with_reducible apply U1))
      refine W_ret ?_
      rw [h, ← e, h1]
    · rw [← e, h1]
  · have h' : inB a = false := by simpa using h
    have hn : decide (a ∈ cfOf b) = false := decide_eq_false fun c => by have := cf_in c; simp [inB] at h'; omega
    simp only [h', if_false, Bool.false_eq_true]
    rw [hn]
    refine W_chk (by simp) ?_
    refine W_call (hI _ _) ?_
    rintro _ rfl
    (repeat(with_reducible apply U1))
    exact W_ret (by rw [h'])
def OfX (G : ORC R) : Prop := ∀ (b : Bool) (K : List V → Option R), W (fun o => o = [.agg [.int .u64 (loOf b), .int .u64 0]]) K (G 44 [.sl 1 (iv (cfOf b))] K)
theorem ofx_ok (hk : 1000 ≤ k) (hW : WiX G) : OfX (fun _ args (K : List V → Option R) => g44 G k args K) := by
  intro b K
  show W _ K (f44 G k (iv (cfOf b)) K)
  unfold f44 l44_0
  unfold WiX at hW
  obtain ⟨j, rfl⟩ : ∃ j, k = j + 3 := ⟨k - 3, by omega⟩
  have hl : (iv (cfOf b)).length = 2 := by rw [iv_len]; rfl
  rw [hl]
  have w1 : IntKind.i64.wrap (0 + 1) = 1 := rfl
  have w2 : IntKind.i64.wrap (1 + 1) = 2 := rfl
  show W _ K (b44_0 G (j + 3) (l44_0g G (j + 3) _ (j + 2)) _ (iv (cfOf b)) _ 0 _ _ _ _)
  unfold b44_0
  refine W_yes (by omega) (W_at (v := .int .i64 0) (by omega) rfl (W_aI ?_))
  refine W_call (hW _ _ _ _) ?_
  rintro _ rfl
  (repeat(with_reducible apply U1))
  rw [w1]
  show W _ K (b44_0 G (j + 3) (l44_0g G (j + 3) _ (j + 1)) _ (iv (cfOf b)) _ 1 _ _ _ _)
  unfold b44_0
  refine W_yes (by omega) (W_at (v := .int .i64 (if b then 2 else 1)) (by omega) rfl (W_aI ?_))
  refine W_call (hW _ _ _ _) ?_
  rintro _ rfl
  (repeat(with_reducible apply U1))
  rw [w2]
  show W _ K (b44_0 G (j + 3) (l44_0g G (j + 3) _ j) _ (iv (cfOf b)) _ 2 _ _ _ _)
  unfold b44_0
  refine W_no (by omega) (W_ret ?_)
  cases b <;> kernel_rfl
def SureX (G : ORC R) : Prop := ∀ (n e : Int) (K : List V → Option R), W (fun o => o = if e = 0 then [.bool false, .int .i64 0, .int .i64 n] else [.bool true, .int .i64 e, .int .i64 0]) K (G 70 [.int .i64 n, .int .i64 e] K)
theorem sure_ok : SureX (fun _ args (K : List V → Option R) => g70 G k args K) := by
  intro n e K
  show W _ K (f70 G k n e K)
  unfold f70
  refine W_bool (fun h => W_ret ?_) (fun h => W_ret ?_)
  · rw [if_neg (by simpa using h)]
  · rw [if_pos (by simpa using h)]
def PairX (G : ORC R) : Prop := ∀ (op x y : Int) (K : List V → Option R), 7 ≤ op → op ≤ 17 → InR x → InR y → W (fun o => o = if (twoR op x y).2 = 0 then [.bool false, .int .i64 0, .int .i64 (twoR op x y).1] else [.bool true, .int .i64 (twoR op x y).2, .int .i64 0]) K (G 75 [.int .i64 op, .int .i64 x, .int .i64 y] K)
theorem pair_ok (hM : TwoX 92 (fun a b => over (a * b)) G) (hD : TwoX 93 divR G) (hMo : TwoX 94 modR G) (hA : TwoX 95 (fun a b => over (a + b)) G) (hSu : TwoX 90 (fun a b => over (a - b)) G) (hS : SureX G) (hT : TrX 68 G) : PairX (fun _ args (K : List V → Option R) => g75 G k args K) := by
  intro op x y K h1 h2 hx hy
  show W _ K (f75 G k op x y K)
  unfold TwoX at hM hD hMo hA hSu; unfold SureX at hS; unfold TrX at hT
  have num : ∀ (f : FuncId) (F : Int → Int → Int × Int), (∀ (a b : Int) (K : List V → Option R), InR a → InR b → W (fun o => o = [.int .i64 (F a b).1, .int .i64 (F a b).2]) K (G f [.int .i64 a, .int .i64 b] K)) → twoR op x y = F x y →
      W (fun o => o = if (twoR op x y).2 = 0 then [.bool false, .int .i64 0, .int .i64 (twoR op x y).1] else [.bool true, .int .i64 (twoR op x y).2, .int .i64 0]) K (G f [.int .i64 x, .int .i64 y] fun o4 => (uI .i64 o4 fun n6 r5 => (uI .i64 r5 fun n8 r7 => (unNil r7 (G 70 [(.int .i64 n6), (.int .i64 n8)] fun o9 => (uB o9 fun b11 r10 => (uI .i64 r10 fun n13 r12 => (uI .i64 r12 fun n15 r14 => (unNil r14 (bif b11 then (K [(.bool true), (.int .i64 n13), (.int .i64 0)]) else (K [(.bool false), (.int .i64 0), (.int .i64 n15)]))))))))))) := fun f F hF he => by
    refine W_call (hF _ _ _ hx hy) ?_
    rintro _ rfl
    (repeat(with_reducible apply U1))
    rw [he]
    refine W_call (hS _ _ _) ?_
    rintro _ rfl
    by_cases e0 : (F x y).2 = 0
    · rw [if_pos e0]
      (repeat(with_reducible apply U1))
      exact W_ret rfl
    · rw [if_neg e0]
      (repeat(with_reducible apply U1))
      exact W_ret rfl
  have cmp : ∀ b : Bool, twoR op x y = (tr b, 0) → W (fun o => o = if (twoR op x y).2 = 0 then [.bool false, .int .i64 0, .int .i64 (twoR op x y).1] else [.bool true, .int .i64 (twoR op x y).2, .int .i64 0]) K (G 68 [(.bool b)] fun o64 => (uI .i64 o64 fun n66 r65 => (unNil r65 (K [(.bool false), (.int .i64 0), (.int .i64 n66)])))) := fun b he => by
    refine W_call (hT _ _) ?_
    rintro _ rfl
    (repeat(with_reducible apply U1))
    rw [he]
    exact W_ret rfl
  unfold f75
  refine W_beqI (fun e => num _ _ hM (by unfold twoR; simp [e])) (fun e7 => ?_)
  refine W_beqI (fun e => num _ _ hD (by unfold twoR; simp [e])) (fun e8 => ?_)
  refine W_beqI (fun e => num _ _ hMo (by unfold twoR; simp [e])) (fun e9 => ?_)
  refine W_beqI (fun e => num _ _ hA (by unfold twoR; simp [e])) (fun e10 => ?_)
  refine W_beqI (fun e => num _ _ hSu (by unfold twoR; simp [e])) (fun e11 => ?_)
  refine W_beqI (fun e => cmp _ (by unfold twoR; simp [e])) (fun e12 => ?_)
  refine W_beqI (fun e => cmp _ (by unfold twoR; simp [e])) (fun e13 => ?_)
  refine W_beqI (fun e => cmp _ (by unfold twoR; simp [e])) (fun e14 => ?_)
  refine W_beqI (fun e => cmp _ (by unfold twoR; simp [e])) (fun e15 => ?_)
  refine W_beqI (fun e => cmp _ (by unfold twoR; simp [e])) (fun e16 => cmp _ (by unfold twoR; simp [e7, e8, e9, e10, e11, e12, e13, e14, e15, e16]))
end
section
variable {R : Type} {G : ORC R} {k : Nat} {K : List V → Option R} {Q : List V → Prop}
theorem W_show {x y : Option R} (h : x = y) (hy : W Q K y) : W Q K x := by rw [h]; exact hy
theorem W_neY {a b : Int} {A B : Option R} (h : a ≠ b) (h1 : W Q K A) : W Q K (bif a != b then A else B) := by rw [bne, beq_eq_false_iff_ne.2 h]; exact h1
theorem W_neN {a b : Int} {A B : Option R} (h : a = b) (h1 : W Q K B) : W Q K (bif a != b then A else B) := by rw [bne, beq_iff_eq.2 h]; exact h1
theorem gl {E : List V} {v : V} : (E ++ [v])[((E.length : Nat) : Int).toNat]? = some v := by rw [Int.toNat_natCast]; simp
theorem tl {E : List V} {v : V} : (E ++ [v]).take ((E.length : Nat) : Int).toNat = E := by rw [Int.toNat_natCast]; simp
theorem sl {E : List V} {v w : V} : (E ++ [v]).set ((E.length : Nat) : Int).toNat w = E ++ [w] := by rw [Int.toNat_natCast]; simp
theorem wl {E : List V} {v : V} (h : E.length ≤ 1000000000) : IntKind.i64.wrap ((((E ++ [v]).length : Nat) : Int) - 1) = E.length := by
  rw [List.length_append, List.length_singleton, wrap_id (by omega)]; omega
def TakeX (G : ORC R) : Prop := ∀ (x : Int) (c : List V) (lo hi g : Int) (R1 R2 : List V) (p val : Int) (vs ra ef : List V) (co cd : Int) (K : List V → Option R), R1.length ≤ 1000000000 → W (fun o => o = [.int .i64 x, .int .u64 lo, .int .u64 hi, .int .i64 g, .sl 1 R1, .sl 1 R2, .int .i64 p, .int .i64 val, .sl 1 vs, .sl 2 ra, .sl 4 ef, .int .i64 co, .int .i64 cd]) K (G 72 [.sl 4 c, .int .u64 lo, .int .u64 hi, .int .i64 g, .sl 1 (R1 ++ [.int .i64 x]), .sl 1 R2, .int .i64 p, .int .i64 val, .sl 1 vs, .sl 2 ra, .sl 4 ef, .int .i64 co, .int .i64 cd] K)
theorem take_ok : TakeX (fun _ args (K : List V → Option R) => g72 G k args K) := by
  intro x c lo hi g R1 R2 p val vs ra ef co cd K hl
  refine W_show (y := f72 G k c lo hi g (R1 ++ [.int .i64 x]) R2 p val vs ra ef co cd K) (by kernel_rfl) ?_
  unfold f72
  rw [wl hl]
  refine W_at (by omega) gl (W_aI (W_and (W_yes (by omega) (W_yes (by rw [List.length_append]; omega) ?_))))
  rw [tl]
  exact W_ret rfl
def MPutX (G : ORC R) : Prop := ∀ (n : Int) (c : List V) (lo hi g : Int) (R1 R2 : List V) (p val : Int) (vs ra ef : List V) (co cd : Int) (K : List V → Option R), R1.length ≤ 1000000000 → W (fun o => o = [.int .u64 lo, .int .u64 hi, .int .i64 g, .sl 1 (R1 ++ [.int .i64 n]), .sl 1 R2, .int .i64 p, .int .i64 val, .sl 1 vs, .sl 2 ra, .sl 4 ef, .int .i64 co, .int .i64 cd]) K (G 67 [.int .i64 n, .sl 4 c, .int .u64 lo, .int .u64 hi, .int .i64 g, .sl 1 R1, .sl 1 R2, .int .i64 p, .int .i64 val, .sl 1 vs, .sl 2 ra, .sl 4 ef, .int .i64 co, .int .i64 cd] K)
theorem put_ok : MPutX (fun _ args (K : List V → Option R) => g67 G k args K) := by
  intro n c lo hi g R1 R2 p val vs ra ef co cd K hl
  refine W_show (y := f67 G k n c lo hi g R1 R2 p val vs ra ef co cd K) (by kernel_rfl) ?_
  unfold f67
  exact W_yes (by omega) (W_ret rfl)
def EffX (G : ORC R) : Prop := ∀ (kd a : Int) (s : ByteArray) (n : Int) (c : List V) (lo hi g : Int) (R1 R2 : List V) (p val : Int) (vs ra ef : List V) (co cd : Int) (K : List V → Option R), ef.length ≤ 1000000000 → W (fun o => o = [.int .u64 lo, .int .u64 hi, .int .i64 g, .sl 1 R1, .sl 1 R2, .int .i64 p, .int .i64 val, .sl 1 vs, .sl 2 ra, .sl 4 (ef ++ [.agg [.int .i64 kd, .int .i64 a, .str s, .int .i64 n]]), .int .i64 co, .int .i64 cd]) K (G 91 [.int .i64 kd, .int .i64 a, .agg [.str s, .int .i64 n], .sl 4 c, .int .u64 lo, .int .u64 hi, .int .i64 g, .sl 1 R1, .sl 1 R2, .int .i64 p, .int .i64 val, .sl 1 vs, .sl 2 ra, .sl 4 ef, .int .i64 co, .int .i64 cd] K)
theorem eff_ok : EffX (fun _ args (K : List V → Option R) => g91 G k args K) := by
  intro kd a s n c lo hi g R1 R2 p val vs ra ef co cd K hl
  refine W_show (y := f91 G k kd a s n c lo hi g R1 R2 p val vs ra ef co cd K) (by kernel_rfl) ?_
  unfold f91
  exact W_yes (by omega) (W_ret rfl)
def oE (lo hi g val co cd : Int) (st : St) : List V := [.int .u64 lo, .int .u64 hi, .int .i64 g, .sl 1 (iv st.row), .sl 1 (iv st.rnd), .int .i64 st.pc, .int .i64 val, .sl 1 (iv st.vs), .sl 2 st.ra, .sl 4 st.ef, .int .i64 co, .int .i64 cd]
def Small (st : St) : Prop := 0 ≤ st.pc ∧ st.pc ≤ 1000000 ∧ st.row.length ≤ 100000000 ∧ st.rnd.length ≤ 100000000 ∧ st.ra.length ≤ 100000000 ∧ st.ef.length ≤ 100000000
def Out (lo hi g val co cd : Int) (st : St) (e : Int) (st' : St) (o : List V) : Prop := if e = 0 then o = .bool false :: .int .i64 0 :: oE lo hi g val co cd st' else ∃ st2 : St, o = .bool true :: .int .i64 e :: oE lo hi g val co cd st2 ∧ st2.vs = st.vs ∧ st2.ra = st.ra ∧ st2.ef = st.ef
theorem out0 {lo hi g val co cd : Int} {st st' : St} {o : List V} (h : o = .bool false :: .int .i64 0 :: oE lo hi g val co cd st') : Out lo hi g val co cd st 0 st' o := by unfold Out; rw [if_pos rfl]; exact h
def TellX (G : ORC R) : Prop := ∀ (b : Bool) (g op a n : Int) (s : ByteArray) (st : St) (e : Int) (st' : St) (c : List V) (val co cd : Int) (K : List V → Option R), Stp b g op a n s st e st' → 19 ≤ op → op ≤ 22 → Small st →
  W (Out (loOf b) 0 g val co cd st e st') K (G 73 (insS op a n s :: .sl 4 c :: oE (loOf b) 0 g val co cd { st with pc := st.pc + 1 }) K)
theorem tell_ok (hT : TakeX G) (hE : EffX G) : TellX (fun _ args (K : List V → Option R) => g73 G k args K) := by
  intro b g op a n s st e st' c val co cd K h h1 h2 hs
  refine W_show (y := f73 G k op a n s c (loOf b) 0 g (iv st.row) (iv st.rnd) (st.pc + 1) val (iv st.vs) st.ra st.ef co cd K) (by kernel_rfl) ?_
  unfold f73
  unfold TakeX at hT; unfold EffX at hE; unfold Small at hs
  cases h <;> first | omega | skip
  · dsimp only at hs ⊢
    rw [iv_snoc]
    refine W_neY (by omega) (W_call (hT _ _ _ _ _ _ _ _ _ _ _ _ _ _ _ (by rw [iv_len]; simp at hs; omega)) ?_)
    rintro _ rfl
    (repeat(with_reducible apply U1))
    exact W_eqY rfl (W_yes (by omega) (W_ret (out0 rfl)))
  · dsimp only at hs ⊢
    rw [iv_snoc]
    refine W_neY (by omega) (W_call (hT _ _ _ _ _ _ _ _ _ _ _ _ _ _ _ (by rw [iv_len]; simp at hs; omega)) ?_)
    rintro _ rfl
    (repeat(with_reducible apply U1))
    refine W_eqN (by omega) (W_eqY rfl (W_call (hE _ _ _ _ _ _ _ _ _ _ _ _ _ _ _ _ _ _ (by omega)) ?_))
    rintro _ rfl
    (repeat(with_reducible apply U1))
    exact W_ret (out0 rfl)
  · dsimp only at hs ⊢
    rw [iv_snoc]
    refine W_neY (by omega) (W_call (hT _ _ _ _ _ _ _ _ _ _ _ _ _ _ _ (by rw [iv_len]; simp at hs; omega)) ?_)
    rintro _ rfl
    (repeat(with_reducible apply U1))
    refine W_eqN (by omega) (W_eqN (by omega) (W_eqY rfl (W_no (by omega) (W_no (by omega) (W_call (hE _ _ _ _ _ _ _ _ _ _ _ _ _ _ _ _ _ _ (by omega)) ?_)))))
    rintro _ rfl
    (repeat(with_reducible apply U1))
    exact W_ret (out0 rfl)
  · rename_i hx
    dsimp only at hs ⊢
    rw [iv_snoc]
    refine W_neY (by omega) (W_call (hT _ _ _ _ _ _ _ _ _ _ _ _ _ _ _ (by rw [iv_len]; simp at hs; omega)) ?_)
    rintro _ rfl
    (repeat(with_reducible apply U1))
    have fin : ∀ {p : Int} {l r v : List Int} {ra ef : List V} {x : Int}, Out (loOf b) 0 g val co cd ⟨p, l ++ [x], r, v, ra, ef⟩ 1 ⟨p + 1, l, r, v, ra, ef⟩ (.bool true :: .int .i64 1 :: oE (loOf b) 0 g val co cd ⟨p + 1, l, r, v, ra, ef⟩) := fun {p l r v ra ef x} => by
      unfold Out; rw [if_neg (by omega)]; exact ⟨⟨p + 1, l, r, v, ra, ef⟩, rfl, rfl, rfl, rfl⟩
    refine W_eqN (by omega) (W_eqN (by omega) (W_eqY rfl ?_))
    refine W_dec (fun _ => W_ret fin) (fun _ => W_dec (fun _ => W_ret fin) (fun _ => by omega))
  · dsimp only at hs ⊢
    refine W_neN rfl (W_eqN (by omega) (W_eqN (by omega) (W_eqN (by omega) (W_call (hE _ _ _ _ _ _ _ _ _ _ _ _ _ _ _ _ _ _ (by omega)) ?_))))
    rintro _ rfl
    (repeat(with_reducible apply U1))
    exact W_ret (out0 rfl)
def MoveX (G : ORC R) : Prop := ∀ (b : Bool) (g op a n : Int) (s : ByteArray) (st : St) (e : Int) (st' : St) (c : List V) (val co cd : Int) (K : List V → Option R), Stp b g op a n s st e st' → 23 ≤ op → Small st →
  W (fun o => e = 0 ∧ o = oE (loOf b) 0 g val co cd st') K (G 74 (insS op a n s :: .sl 4 c :: oE (loOf b) 0 g val co cd { st with pc := st.pc + 1 }) K)
theorem move_ok (hT : TakeX G) : MoveX (fun _ args (K : List V → Option R) => g74 G k args K) := by
  intro b g op a n s st e st' c val co cd K h h1 hs
  refine W_show (y := f74 G k op a n s c (loOf b) 0 g (iv st.row) (iv st.rnd) (st.pc + 1) val (iv st.vs) st.ra st.ef co cd K) (by kernel_rfl) ?_
  unfold f74
  unfold TakeX at hT; unfold Small at hs
  cases h <;> first | omega | skip
  · exact W_eqY rfl (W_ret ⟨rfl, rfl⟩)
  · dsimp only at hs ⊢
    rw [iv_snoc]
    refine W_eqN (by omega) (W_eqY rfl (W_call (hT _ _ _ _ _ _ _ _ _ _ _ _ _ _ _ (by rw [iv_len]; simp at hs; omega)) ?_))
    rintro _ rfl
    (repeat(with_reducible apply U1))
    refine W_beqI (fun hx => W_ret ⟨rfl, ?_⟩) (fun hx => W_ret ⟨rfl, ?_⟩)
    · rw [if_pos hx]; rfl
    · rw [if_neg hx]; rfl
  · dsimp only at hs ⊢
    refine W_eqN (by omega) (W_eqN (by omega) (W_eqY rfl (W_yes (by rw [iv_len]; omega) (W_ret ⟨rfl, ?_⟩))))
    rw [← iv_snoc]; rfl
  · rename_i hi hi2 hx hx2
    dsimp only at hs ⊢
    rw [iv_snoc, wl (by rw [iv_len]; simp at hs; omega)]
    refine W_eqN (by omega) (W_eqN (by omega) (W_eqN (by omega) ?_))
    refine W_at (by omega) gl (W_aI ?_)
    refine W_at (by omega) gl ?_
    rw [wrap_id (by omega), sl]
    refine W_at (by omega) gl (W_aI (W_yes (by omega) (W_ret ⟨rfl, ?_⟩)))
    rw [← iv_snoc, wrap_id (by omega)]; rfl
  · rename_i hx hx2
    dsimp only at hs ⊢
    rw [iv_snoc, wl (by rw [iv_len]; simp at hs; omega)]
    refine W_eqN (by omega) (W_eqN (by omega) (W_eqN (by omega) ?_))
    refine W_at (by omega) gl (W_aI ?_)
    refine W_at (by omega) gl ?_
    rw [wrap_id (by omega), sl]
    refine W_at (by omega) gl (W_aI (W_no (by omega) ?_))
    refine W_and (W_yes (by omega) (W_yes (by rw [List.length_append]; omega) ?_))
    rw [tl]
    exact W_ret ⟨rfl, rfl⟩
end
section
variable {R : Type} {G : ORC R} {k : Nat} {K : List V → Option R} {Q : List V → Prop}
theorem outE {lo hi g val co cd : Int} {st st' : St} {e : Int} {o : List V} (he : e ≠ 0) (st2 : St) (h : o = .bool true :: .int .i64 e :: oE lo hi g val co cd st2) (h1 : st2.vs = st.vs) (h2 : st2.ra = st.ra) (h3 : st2.ef = st.ef) : Out lo hi g val co cd st e st' o := by unfold Out; rw [if_neg he]; exact ⟨st2, h, h1, h2, h3⟩
def StepX (G : ORC R) : Prop := ∀ (b : Bool) (g op a n : Int) (s : ByteArray) (st : St) (e : Int) (st' : St) (c : List V) (val co cd : Int) (K : List V → Option R), Stp b g op a n s st e st' → InR g → Small st →
  W (Out (loOf b) 0 g val co cd st e st') K (G 46 (insS op a n s :: .sl 4 c :: oE (loOf b) 0 g val co cd st) K)
theorem step_ok (hT : TakeX G) (hP : MPutX G) (hTe : TellX G) (hM : MoveX G) (hH : HasX G) (hTr : TrX 68 G) (hN : OneX 71 G) (hS : SureX G) (hPa : PairX G) : StepX (fun _ args (K : List V → Option R) => g46 G k args K) := by
  intro b g op a n s st e st' c val co cd K h hg hs
  refine W_show (y := f46 G k op a n s c (loOf b) 0 g (iv st.row) (iv st.rnd) st.pc val (iv st.vs) st.ra st.ef co cd K) (by kernel_rfl) ?_
  have hs0 := hs
  unfold Small at hs
  by_cases hop : 19 ≤ op
  · have htell : op ≤ 22 → W (Out (loOf b) 0 g val co cd st e st') K (G 73 [(.agg [(.int .i64 op), (.int .i64 a), (.int .i64 n), (.str s)]), (.sl 4 c), (.int .u64 (loOf b)), (.int .u64 0), (.int .i64 g), (.sl 1 (iv st.row)), (.sl 1 (iv st.rnd)), (.int .i64 (st.pc + 1)), (.int .i64 val), (.sl 1 (iv st.vs)), (.sl 2 st.ra), (.sl 4 st.ef), (.int .i64 co), (.int .i64 cd)] K) := fun h2 => by
      unfold TellX at hTe; exact hTe b g op a n s st e st' c val co cd K h hop h2 hs0
    have htell' : op ≤ 22 → W (Out (loOf b) 0 g val co cd st e st') K (G 73 [(.agg [(.int .i64 op), (.int .i64 a), (.int .i64 n), (.str s)]), (.sl 4 c), (.int .u64 (loOf b)), (.int .u64 0), (.int .i64 g), (.sl 1 (iv st.row)), (.sl 1 (iv st.rnd)), (.int .i64 (st.pc + 1)), (.int .i64 val), (.sl 1 (iv st.vs)), (.sl 2 st.ra), (.sl 4 st.ef), (.int .i64 co), (.int .i64 cd)] fun o273 => uB o273 fun b275 r274 => uI .i64 r274 fun n277 r276 => uI .u64 r276 fun n279 r278 => uI .u64 r278 fun n281 r280 => uI .i64 r280 fun n283 r282 => uL 1 r282 fun l285 r284 => uL 1 r284 fun l287 r286 => uI .i64 r286 fun n289 r288 => uI .i64 r288 fun n291 r290 => uL 1 r290 fun l293 r292 => uL 2 r292 fun l295 r294 => uL 4 r294 fun l297 r296 => uI .i64 r296 fun n299 r298 => uI .i64 r298 fun n301 r300 => unNil r300 (bif b275 then (K [(.bool true), (.int .i64 n277), (.int .u64 n279), (.int .u64 n281), (.int .i64 n283), (.sl 1 l285), (.sl 1 l287), (.int .i64 n289), (.int .i64 n291), (.sl 1 l293), (.sl 2 l295), (.sl 4 l297), (.int .i64 n299), (.int .i64 n301)]) else (K [(.bool false), (.int .i64 0), (.int .u64 n279), (.int .u64 n281), (.int .i64 n283), (.sl 1 l285), (.sl 1 l287), (.int .i64 n289), (.int .i64 n291), (.sl 1 l293), (.sl 2 l295), (.sl 4 l297), (.int .i64 n299), (.int .i64 n301)]))) := fun h2 => by
      unfold TellX at hTe
      refine W_call (hTe b g op a n s st e st' c val co cd _ h hop h2 hs0) ?_
      intro o ho
      have ho0 := ho
      unfold Out at ho
      by_cases e0 : e = 0
      · rw [if_pos e0] at ho
        subst ho
        unfold oE at ho0 ⊢
        (repeat(with_reducible apply U1))
        exact W_ret ho0
      · rw [if_neg e0] at ho
        obtain ⟨st2, rfl, _⟩ := ho
        unfold oE at ho0 ⊢
        (repeat(with_reducible apply U1))
        exact W_ret ho0
    have hmove : 23 ≤ op → W (Out (loOf b) 0 g val co cd st e st') K (G 74 [(.agg [(.int .i64 op), (.int .i64 a), (.int .i64 n), (.str s)]), (.sl 4 c), (.int .u64 (loOf b)), (.int .u64 0), (.int .i64 g), (.sl 1 (iv st.row)), (.sl 1 (iv st.rnd)), (.int .i64 (st.pc + 1)), (.int .i64 val), (.sl 1 (iv st.vs)), (.sl 2 st.ra), (.sl 4 st.ef), (.int .i64 co), (.int .i64 cd)] fun o302 => uI .u64 o302 fun n304 r303 => uI .u64 r303 fun n306 r305 => uI .i64 r305 fun n308 r307 => uL 1 r307 fun l310 r309 => uL 1 r309 fun l312 r311 => uI .i64 r311 fun n314 r313 => uI .i64 r313 fun n316 r315 => uL 1 r315 fun l318 r317 => uL 2 r317 fun l320 r319 => uL 4 r319 fun l322 r321 => uI .i64 r321 fun n324 r323 => uI .i64 r323 fun n326 r325 => unNil r325 (K [(.bool false), (.int .i64 0), (.int .u64 n304), (.int .u64 n306), (.int .i64 n308), (.sl 1 l310), (.sl 1 l312), (.int .i64 n314), (.int .i64 n316), (.sl 1 l318), (.sl 2 l320), (.sl 4 l322), (.int .i64 n324), (.int .i64 n326)])) := fun h2 => by
      unfold MoveX at hM
      refine W_call (hM b g op a n s st e st' c val co cd _ h h2 hs0) ?_
      rintro _ ⟨rfl, rfl⟩
      unfold oE
      (repeat(with_reducible apply U1))
      exact W_ret (out0 rfl)
    have hop2 : op ≤ 26 := by cases h <;> omega
    unfold f46
    rw [wrap_id (n := st.pc + 1) (by omega)]
    clear hTe hM hT hP hH hTr hN hS hPa h hs hs0
    repeat' (first | (with_reducible exact htell' (by omega)) | (with_reducible exact hmove (by omega)) | (with_reducible (refine W_beqI (fun _ => ?_) (fun _ => ?_))) | (exfalso; omega))
  · have hl : st.row.length ≤ 100000000 := hs.2.2.1
    unfold TakeX at hT; unfold MPutX at hP; unfold HasX at hH; unfold TrX at hTr; unfold OneX at hN; unfold SureX at hS; unfold PairX at hPa
    cases h <;> first | (exfalso; omega) | skip
    all_goals dsimp only at hs hl ⊢
    all_goals unfold f46
    all_goals rw [wrap_id (by omega)]
    · refine W_eqY rfl (W_call (hP _ _ _ _ _ _ _ _ _ _ _ _ _ _ _ (by rw [iv_len]; omega)) ?_)
      rintro _ rfl
      (repeat(with_reducible apply U1))
      exact W_ret (out0 (by simp only [oE, iv_snoc]))
    · rename_i hv
      refine W_eqN (by omega) (W_eqY rfl (W_at (by omega) (by rw [Int.toNat_natCast]; exact iv_get hv) (W_aI (W_call (hP _ _ _ _ _ _ _ _ _ _ _ _ _ _ _ (by rw [iv_len]; omega)) ?_))))
      rintro _ rfl
      (repeat(with_reducible apply U1))
      exact W_ret (out0 (by simp only [oE, iv_snoc]))
    · refine W_eqN (by omega) (W_eqN (by omega) (W_eqY rfl (W_call (hP _ _ _ _ _ _ _ _ _ _ _ _ _ _ _ (by rw [iv_len]; omega)) ?_)))
      rintro _ rfl
      (repeat(with_reducible apply U1))
      exact W_ret (out0 (by simp only [oE, iv_snoc]))
    · refine W_eqN (by omega) (W_eqN (by omega) (W_eqN (by omega) (W_eqY rfl (W_call (hH _ _ _) ?_))))
      rintro _ rfl
      (repeat(with_reducible apply U1))
      refine W_call (hTr _ _) ?_
      rintro _ rfl
      (repeat(with_reducible apply U1))
      refine W_call (hP _ _ _ _ _ _ _ _ _ _ _ _ _ _ _ (by rw [iv_len]; omega)) ?_
      rintro _ rfl
      (repeat(with_reducible apply U1))
      exact W_ret (out0 (by simp only [oE, iv_snoc]))
    · rename_i hx
      rw [List.length_append] at hl
      rw [iv_snoc]
      refine W_eqN (by omega) (W_eqN (by omega) (W_eqN (by omega) (W_eqN (by omega) (W_eqY rfl (W_call (hT _ _ _ _ _ _ _ _ _ _ _ _ _ _ _ (by rw [iv_len]; omega)) ?_)))))
      rintro _ rfl
      (repeat(with_reducible apply U1))
      refine W_call (hN _ _ hx) ?_
      rintro _ rfl
      (repeat(with_reducible apply U1))
      refine W_call (hS _ _ _) ?_
      rintro _ rfl
      rename_i x
      by_cases e0 : (over (0 - x)).2 = 0
      · rw [if_pos e0]
        (repeat(with_reducible apply U1))
        refine W_call (hP _ _ _ _ _ _ _ _ _ _ _ _ _ _ _ (by rw [iv_len]; omega)) ?_
        rintro _ rfl
        (repeat(with_reducible apply U1))
        refine W_ret ?_
        rw [e0]
        exact out0 (by simp only [oE, iv_snoc])
      · rw [if_neg e0]
        (repeat(with_reducible apply U1))
        exact W_ret (outE e0 ⟨_, _, _, _, _, _⟩ rfl rfl rfl rfl)
    · rw [List.length_append] at hl
      rw [iv_snoc]
      refine W_eqN (by omega) (W_eqN (by omega) (W_eqN (by omega) (W_eqN (by omega) (W_eqN (by omega) (W_eqY rfl (W_call (hT _ _ _ _ _ _ _ _ _ _ _ _ _ _ _ (by rw [iv_len]; omega)) ?_))))))
      rintro _ rfl
      (repeat(with_reducible apply U1))
      refine W_call (hTr _ _) ?_
      rintro _ rfl
      (repeat(with_reducible apply U1))
      refine W_call (hP _ _ _ _ _ _ _ _ _ _ _ _ _ _ _ (by rw [iv_len]; omega)) ?_
      rintro _ rfl
      (repeat(with_reducible apply U1))
      exact W_ret (out0 (by simp only [oE, iv_snoc]))
    · rename_i p l r v ra ef x y hx hy h1 h2
      have fin : W (Out (loOf b) 0 g val co cd ⟨p, l ++ [x] ++ [y], r, v, ra, ef⟩ (twoR op x y).2 ⟨p + 1, l ++ [(twoR op x y).1], r, v, ra, ef⟩) K (G 72 [(.sl 4 c), (.int .u64 (loOf b)), (.int .u64 0), (.int .i64 g), (.sl 1 (iv (l ++ [x] ++ [y]))), (.sl 1 (iv r)), (.int .i64 (p + 1)), (.int .i64 val), (.sl 1 (iv v)), (.sl 2 ra), (.sl 4 ef), (.int .i64 co), (.int .i64 cd)] fun o327 => uI .i64 o327 fun n329 r328 => uI .u64 r328 fun n331 r330 => uI .u64 r330 fun n333 r332 => uI .i64 r332 fun n335 r334 => uL 1 r334 fun l337 r336 => uL 1 r336 fun l339 r338 => uI .i64 r338 fun n341 r340 => uI .i64 r340 fun n343 r342 => uL 1 r342 fun l345 r344 => uL 2 r344 fun l347 r346 => uL 4 r346 fun l349 r348 => uI .i64 r348 fun n351 r350 => uI .i64 r350 fun n353 r352 => unNil r352 (G 72 [(.sl 4 c), (.int .u64 n331), (.int .u64 n333), (.int .i64 n335), (.sl 1 l337), (.sl 1 l339), (.int .i64 n341), (.int .i64 n343), (.sl 1 l345), (.sl 2 l347), (.sl 4 l349), (.int .i64 n351), (.int .i64 n353)] fun o354 => uI .i64 o354 fun n356 r355 => uI .u64 r355 fun n358 r357 => uI .u64 r357 fun n360 r359 => uI .i64 r359 fun n362 r361 => uL 1 r361 fun l364 r363 => uL 1 r363 fun l366 r365 => uI .i64 r365 fun n368 r367 => uI .i64 r367 fun n370 r369 => uL 1 r369 fun l372 r371 => uL 2 r371 fun l374 r373 => uL 4 r373 fun l376 r375 => uI .i64 r375 fun n378 r377 => uI .i64 r377 fun n380 r379 => unNil r379 (G 75 [(.int .i64 op), (.int .i64 n356), (.int .i64 n329)] fun o381 => uB o381 fun b383 r382 => uI .i64 r382 fun n385 r384 => uI .i64 r384 fun n387 r386 => unNil r386 (bif b383 then (K [(.bool true), (.int .i64 n385), (.int .u64 n358), (.int .u64 n360), (.int .i64 n362), (.sl 1 l364), (.sl 1 l366), (.int .i64 n368), (.int .i64 n370), (.sl 1 l372), (.sl 2 l374), (.sl 4 l376), (.int .i64 n378), (.int .i64 n380)]) else (G 67 [(.int .i64 n387), (.sl 4 c), (.int .u64 n358), (.int .u64 n360), (.int .i64 n362), (.sl 1 l364), (.sl 1 l366), (.int .i64 n368), (.int .i64 n370), (.sl 1 l372), (.sl 2 l374), (.sl 4 l376), (.int .i64 n378), (.int .i64 n380)] fun o388 => uI .u64 o388 fun n390 r389 => uI .u64 r389 fun n392 r391 => uI .i64 r391 fun n394 r393 => uL 1 r393 fun l396 r395 => uL 1 r395 fun l398 r397 => uI .i64 r397 fun n400 r399 => uI .i64 r399 fun n402 r401 => uL 1 r401 fun l404 r403 => uL 2 r403 fun l406 r405 => uL 4 r405 fun l408 r407 => uI .i64 r407 fun n410 r409 => uI .i64 r409 fun n412 r411 => unNil r411 (K [(.bool false), (.int .i64 0), (.int .u64 n390), (.int .u64 n392), (.int .i64 n394), (.sl 1 l396), (.sl 1 l398), (.int .i64 n400), (.int .i64 n402), (.sl 1 l404), (.sl 2 l406), (.sl 4 l408), (.int .i64 n410), (.int .i64 n412)])))))) := by
        rw [List.length_append, List.length_append] at hl
        rw [iv_snoc]
        refine W_call (hT _ _ _ _ _ _ _ _ _ _ _ _ _ _ _ (by rw [iv_len, List.length_append]; omega)) ?_
        rintro _ rfl
        (repeat(with_reducible apply U1))
        rw [iv_snoc]
        refine W_call (hT _ _ _ _ _ _ _ _ _ _ _ _ _ _ _ (by rw [iv_len]; omega)) ?_
        rintro _ rfl
        (repeat(with_reducible apply U1))
        refine W_call (hPa _ _ _ _ h1 h2 hx hy) ?_
        rintro _ rfl
        by_cases e0 : (twoR op x y).2 = 0
        · rw [if_pos e0]
          (repeat(with_reducible apply U1))
          refine W_call (hP _ _ _ _ _ _ _ _ _ _ _ _ _ _ _ (by rw [iv_len]; omega)) ?_
          rintro _ rfl
          (repeat(with_reducible apply U1))
          refine W_ret ?_
          rw [e0]
          exact out0 (by simp only [oE, iv_snoc])
        · rw [if_neg e0]
          (repeat(with_reducible apply U1))
          exact W_ret (outE e0 ⟨_, _, _, _, _, _⟩ rfl rfl rfl rfl)
      clear hT hP hH hTr hN hS hPa hs hs0
      repeat' (first | (with_reducible exact fin) | (with_reducible (refine W_eqN ?_ ?_)); (focus omega) | (with_reducible (refine W_beqI (fun _ => ?_) (fun _ => ?_))) | (exfalso; omega))
    · rename_i hi
      rw [List.length_append] at hl
      rw [iv_snoc]
      refine W_eqN (by omega) (W_eqN (by omega) (W_eqN (by omega) (W_eqN (by omega) (W_eqN (by omega) (W_eqN (by omega) (W_eqY rfl (W_call (hT _ _ _ _ _ _ _ _ _ _ _ _ _ _ _ (by rw [iv_len]; omega)) ?_)))))))
      rintro _ rfl
      (repeat(with_reducible apply U1))
      refine W_at (by omega) (by rw [Int.toNat_natCast]; exact iv_get (List.getElem?_eq_getElem hi)) (W_ret (out0 ?_))
      rw [Int.toNat_natCast, iv_set]; rfl
end
section
variable {R : Type} {G : ORC R} {k : Nat} {K : List V → Option R} {Q : List V → Prop}
end
section
variable {R : Type} {G : ORC R} {k : Nat} {K : List V → Option R} {Q : List V → Prop}
structure Dn where
  v : Int
  vs : List Int
  ra : List V
  ef : List V
  co : Int
  cd : Int
def Dn.l (d : Dn) : V := .agg [.int .i64 d.v, .sl 1 (iv d.vs), .sl 2 d.ra, .sl 4 d.ef, .int .i64 d.co, .int .i64 d.cd]
def lastI (l : List Int) : Int := l.getLast?.getD 0
inductive Run (b : Bool) (g : Int) (c : List V) (F : Int) : St → Int → Dn → Prop
  | fin {st : St} {co : Int} : (c.length : Int) ≤ st.pc → Run b g c F st co ⟨lastI st.row, st.vs, st.ra, st.ef, co, 0⟩
  | fuel {st : St} {co : Int} : 0 ≤ st.pc → st.pc < c.length → F ≤ co → Run b g c F st co ⟨0, st.vs, st.ra, st.ef, co, 4⟩
  | err {st : St} {co op a n : Int} {s : ByteArray} {e : Int} {st' : St} : 0 ≤ st.pc → c[st.pc.toNat]? = some (insS op a n s) → co < F → Stp b g op a n s st e st' → e ≠ 0 → Run b g c F st co ⟨0, st.vs, st.ra, st.ef, co + 1, e⟩
  | step {st : St} {co op a n : Int} {s : ByteArray} {st' : St} {d : Dn} : 0 ≤ st.pc → c[st.pc.toNat]? = some (insS op a n s) → co < F → Stp b g op a n s st 0 st' → Run b g c F st' (co + 1) d → Run b g c F st co d
def Bd (st : St) (co : Int) : Prop := (st.row.length : Int) ≤ co ∧ (st.rnd.length : Int) ≤ co ∧ (st.ra.length : Int) ≤ co ∧ (st.ef.length : Int) ≤ co
theorem bd_step {b g op a n s st e st' co} (h : Stp b g op a n s st e st') (hb : Bd st co) : Bd st' (co + 1) := by
  obtain ⟨h1, h2, h3, h4⟩ := stp_len h
  unfold Bd at *; omega
theorem get_lt {c : List V} {pc : Int} {v : V} (h0 : 0 ≤ pc) (h : c[pc.toNat]? = some v) : pc < c.length := by
  have := (List.getElem?_eq_some_iff.1 h).1; omega
theorem small_of {c : List V} {st : St} {co : Int} (hc : c.length ≤ 9999) (hb : Bd st co) (h0 : 0 ≤ st.pc) (h1 : st.pc < c.length) (h2 : co < 1048576) : Small st := by
  unfold Small; unfold Bd at hb; omega
theorem last_snoc {l : List Int} {x : Int} : lastI (l ++ [x]) = x := by simp [lastI]
theorem row_cases (l : List Int) : l = [] ∨ ∃ l' x, l = l' ++ [x] := by
  rcases List.eq_nil_or_concat l with h | ⟨l', x, h⟩
  · exact .inl h
  · exact .inr ⟨l', x, by simpa using h⟩
theorem erun_ok {b : Bool} {g : Int} {c : List V} {F : Int} (hSt : StepX G) (hg : InR g) (hc : c.length ≤ 9999) (hF : F ≤ 1048576) {st : St} {co : Int} {d : Dn} (h : Run b g c F st co d) {Q : List V → Prop} {K : List V → Option R}
    {Ko : Int → List V → List V → List V → Int → Int → List V → Int → Int → Int → List V → List V → Int → Option R} {Kp : Int → Int → List V → List V → List V → Int → Int → Option R} :
    (∀ (st : St) (co : Int), (st.row.length : Int) ≤ co → co ≤ 1048576 → d = ⟨lastI st.row, st.vs, st.ra, st.ef, co, 0⟩ → W Q K (Ko 0 (iv st.vs) st.ra st.ef co 0 c (loOf b) 0 g (iv st.row) (iv st.rnd) st.pc)) →
    (∀ (vs : List Int) (ra ef : List V) (co e : Int), d = ⟨0, vs, ra, ef, co, e⟩ → W Q K (Kp e 0 (iv vs) ra ef co 0)) →
    ∀ j : Nat, 0 ≤ co → co ≤ 1048576 → Bd st co → 1048576 - co < j → W Q K (l31_0g G k Ko Kp j c F 0 (iv st.vs) st.ra st.ef co 0 c (loOf b) 0 g (iv st.row) (iv st.rnd) st.pc) := by
  induction h with
  | @fin st co h =>
    intro hKo hKp j h0 h1 hb hj
    obtain ⟨j, rfl⟩ : ∃ j', j = j' + 1 := ⟨j - 1, by omega⟩
    show W Q K (b31_0 G k (l31_0g G k Ko Kp j) Ko Kp c F 0 (iv st.vs) st.ra st.ef co 0 c (loOf b) 0 g (iv st.row) (iv st.rnd) st.pc)
    unfold b31_0
    exact W_yes (by omega) (W_no (by omega) (hKo st co hb.1 h1 rfl))
  | @fuel st co h2 h3 h4 =>
    intro hKo hKp j h0 h1 hb hj
    obtain ⟨j, rfl⟩ : ∃ j', j = j' + 1 := ⟨j - 1, by omega⟩
    show W Q K (b31_0 G k (l31_0g G k Ko Kp j) Ko Kp c F 0 (iv st.vs) st.ra st.ef co 0 c (loOf b) 0 g (iv st.row) (iv st.rnd) st.pc)
    unfold b31_0
    exact W_yes (by omega) (W_yes (by omega) (W_yes (by omega) (hKp _ _ _ _ _ rfl)))
  | @err st co op a n s e st' h2 h3 h4 h5 h6 =>
    intro hKo hKp j h0 h1 hb hj
    obtain ⟨j, rfl⟩ : ∃ j', j = j' + 1 := ⟨j - 1, by omega⟩
    have hlt := get_lt h2 h3
    show W Q K (b31_0 G k (l31_0g G k Ko Kp j) Ko Kp c F 0 (iv st.vs) st.ra st.ef co 0 c (loOf b) 0 g (iv st.row) (iv st.rnd) st.pc)
    unfold b31_0
    refine W_yes (by omega) (W_yes (by omega) (W_no (by omega) (W_at h2 h3 (W_asAgg ?_))))
    rw [wrap_id (n := co + 1) (by omega)]
    unfold StepX at hSt
    refine W_call (hSt b g op a n s st e st' c 0 (co + 1) 0 _ h5 hg (small_of hc hb h2 hlt (by omega))) ?_
    intro o ho
    unfold Out at ho
    rw [if_neg h6] at ho
    obtain ⟨st2, rfl, e1, e2, e3⟩ := ho
    unfold oE
    (repeat(with_reducible apply U1))
    rw [e1, e2, e3]
    exact hKp _ _ _ _ _ rfl
  | @step st co op a n s st' d h2 h3 h4 h5 h6 ih =>
    intro hKo hKp j h0 h1 hb hj
    obtain ⟨j, rfl⟩ : ∃ j', j = j' + 1 := ⟨j - 1, by omega⟩
    have hlt := get_lt h2 h3
    show W Q K (b31_0 G k (l31_0g G k Ko Kp j) Ko Kp c F 0 (iv st.vs) st.ra st.ef co 0 c (loOf b) 0 g (iv st.row) (iv st.rnd) st.pc)
    unfold b31_0
    refine W_yes (by omega) (W_yes (by omega) (W_no (by omega) (W_at h2 h3 (W_asAgg ?_))))
    rw [wrap_id (n := co + 1) (by omega)]
    unfold StepX at hSt
    refine W_call (hSt b g op a n s st 0 st' c 0 (co + 1) 0 _ h5 hg (small_of hc hb h2 hlt (by omega))) ?_
    intro o ho
    unfold Out at ho
    rw [if_pos rfl] at ho
    subst ho
    unfold oE
    (repeat(with_reducible apply U1))
    exact ih hKo hKp j (by omega) (by omega) (bd_step h5 hb) (by omega)
def clip (F : Int) : Int := if 0 < (if 1048576 < F then 1048576 else F) then (if 1048576 < F then 1048576 else F) else 0
theorem clip_le (F : Int) : clip F ≤ 1048576 ∧ 0 ≤ clip F := by unfold clip; split <;> split <;> omega
def lifeV (b : Bool) (x y : Int) : V := .agg [.sl 1 (iv (cfOf b)), .sl 1 (iv [x, y]), .sl 1 []]
def RunX (f : FuncId) (G : ORC R) : Prop := ∀ (b : Bool) (g : Int) (c : List V) (x y F : Int) (d : Dn) (K : List V → Option R), Run b g c (clip F) ⟨0, [], [], [x, y], [], []⟩ 0 d → c.length ≤ 9999 → InR g → W (fun o => o = [d.l]) K (G f [.sl 4 c, lifeV b x y, .int .i64 g, .int .i64 F] K)
def CloneX (G : ORC R) : Prop := ∀ (l : List V) (K : List V → Option R), l.length ≤ 1000000 → W (fun o => o = [.sl 1 l]) K (G 43 [.sl 1 l] K)
theorem clone_ok : CloneX (fun _ args (K : List V → Option R) => g43 G k args K) := by
  intro l K hl
  show W _ K (bif decide (l.length ≤ 1000000) then K [.sl 1 l] else none)
  exact W_yes hl (W_ret rfl)
theorem erunx_ok (hk : 1048578 ≤ k) (hC : CloneX G) (hO : OfX G) (hSt : StepX G) : RunX 31 (fun _ args (K : List V → Option R) => g31 G k args K) := by
  intro b g c x y F d K h hc hg
  refine W_show (y := f31 G k c (iv (cfOf b)) (iv [x, y]) [] g F K) (by kernel_rfl) ?_
  unfold f31
  unfold CloneX at hC; unfold OfX at hO
  refine W_call (hC _ _ (by rw [iv_len]; simp)) ?_
  rintro _ rfl
  (repeat(with_reducible apply U1))
  refine W_call (hO _ _) ?_
  rintro _ rfl
  (repeat(with_reducible apply U1))
  simp only [Bool.cond_decide]
  unfold l31_0
  refine erun_ok (st := ⟨0, [], [], [x, y], [], []⟩) (co := 0) hSt hg hc (clip_le F).1 h ?_ ?_ k (by omega) (by omega) ⟨by simp, by simp, by simp, by simp⟩ (by omega)
  · intro st co h1 h2 hd
    rcases row_cases st.row with h0 | ⟨l', x', h0⟩
    · rw [h0, iv]
      rw [if_neg (by simp)]
      refine W_ret ?_
      rw [hd, h0]; rfl
    · rw [h0] at h1 ⊢
      rw [List.length_append, List.length_singleton] at h1
      rw [iv_snoc, wl (by rw [iv_len]; omega), if_pos (by rw [List.length_append, List.length_singleton]; omega)]
      refine W_at (by omega) gl (W_aI (W_ret ?_))
      rw [hd, h0, last_snoc]; rfl
  · intro vs ra ef co e hd
    refine W_ret ?_
    rw [hd]; rfl
end
set_option maxHeartbeats 8000000
section
variable {R : Type} {G : ORC R} {k : Nat} {K : List V → Option R}
def wr (N : Nms) (c : List V) : List V := [.sl 1 N.a, .sl 1 N.p, .sl 1 N.t, .sl 7 (N.nd.map Nd.v), .sl 4 c]
end
section
variable {R : Type} {G : ORC R} {k : Nat} {K : List V → Option R}
end
section
variable {R : Type} {G : ORC R} {k : Nat} {K : List V → Option R}
end
section
variable {R : Type} {G : ORC R} {k : Nat} {K : List V → Option R}
end
set_option maxHeartbeats 4000000
section
variable {R : Type} {G : ORC R} {k : Nat} {K : List V → Option R}
theorem strs0 : StrS ⟨#[]⟩ := by unfold StrS; decide
end
set_option maxHeartbeats 8000000
section
variable {R : Type} {G : ORC R} {k : Nat} {K : List V → Option R}
end
section
def cX (N : Nms) (at_ : Nat) : List V → List V
  | [] => [ins 1 0 0]
  | e :: _ => cE N 3 at_ e
def cR (F : Nat → V → List V) : Nat → List V → List V
  | _, [] => []
  | at_, a :: r => F at_ a ++ cR F (at_ + (F at_ a).length) r
def loopX (at_ : Nat) (n : Int) (B : List V) : List V := ins 25 (at_ + B.length + 2 : Nat) n :: (B ++ [ins 26 at_ 0])
def ifX (at_ : Nat) (E B : List V) : List V := E ++ ins 24 (at_ + E.length + 1 + B.length : Nat) 0 :: B
def elX (at_ : Nat) (E B C : List V) : List V := E ++ ins 24 (at_ + E.length + 1 + B.length + 1 : Nat) 0 :: (B ++ ins 23 (at_ + E.length + 1 + B.length + 1 + C.length : Nat) 0 :: C)
def chX (F : Nat → V → List V) (at_ : Nat) (E th : List V) : List V → List V
  | [] => ifX at_ E (cR F (at_ + E.length + 1) th)
  | e :: r => elX at_ E (cR F (at_ + E.length + 1) th) (cR F (at_ + E.length + 1 + (cR F (at_ + E.length + 1) th).length + 1) (e :: r))
def cA (N : Nms) : Nat → Nat → V → List V
  | d + 1, at_, .agg [.int _ kind, .str nm, .str ev, .sl _ x, .int _ n, .sl _ th, .sl _ el, _] =>
    if kind = 1 then cX N at_ x ++ [ins 18 (plN N.a nm) 0] else if kind = 2 then cX N at_ x ++ [insS 19 0 0 ev] else if kind = 3 then cX N at_ x ++ [insS 20 (plN N.p nm) 0 ev]
    else if kind = 4 then cX N at_ x ++ [ins 21 (plN N.t nm) 0] else if kind = 5 then [ins 22 (plN N.t nm) 0]
    else if kind = 7 then loopX at_ n (cR (cA N d) (at_ + 1) th)
    else chX (cA N d) at_ (cX N at_ x) th el
  | _, _, _ => []
def ca : Nat → Nat
  | 0 => 0
  | d + 1 => ce 3 + 2 + 4 * ca d
theorem loopX_len {a : Nat} {n : Int} {B : List V} : (loopX a n B).length = B.length + 2 := by simp [loopX]
theorem ifX_len {a : Nat} {E B : List V} : (ifX a E B).length = E.length + B.length + 1 := by simp [ifX]; omega
theorem elX_len {a : Nat} {E B C : List V} : (elX a E B C).length = E.length + B.length + C.length + 2 := by simp [elX]; omega
theorem ce3 : 1 ≤ ce 3 := by decide
theorem cX_len {N : Nms} {at_ : Nat} {x : List V} (h : ∀ e ∈ x, ExprS 3 e) : (cX N at_ x).length ≤ ce 3 := by
  cases x with
  | nil => exact ce3
  | cons e r => exact cE_len (h e List.mem_cons_self)
theorem cR_len {F : Nat → V → List V} {m : Nat} : ∀ {l : List V} {at_ : Nat}, (∀ q, ∀ a ∈ l, (F q a).length ≤ m) → (cR F at_ l).length ≤ l.length * m
  | [], _, _ => by simp [cR]
  | a :: r, at_, h => by
    have h1 := h at_ a List.mem_cons_self
    have h2 := cR_len (F := F) (l := r) (at_ := at_ + (F at_ a).length) fun q a ha => h q a (List.mem_cons_of_mem _ ha)
    rw [cR, List.length_append, List.length_cons, Nat.succ_mul]; omega
theorem cA_len {N : Nms} : ∀ {d at_ : Nat} {a : V}, ActS d a → (cA N d at_ a).length ≤ ca d
  | 0, _, _, h => h.elim
  | d + 1, at_, a, h => by
    obtain ⟨kind, nm, ev, x, n, th, el, rfl, x1, x2, x3, x4, x5, x6, x7, x8, x9, x10, x11, x12⟩ := h
    have hca : ca (d + 1) = ce 3 + 2 + 4 * ca d := rfl
    have lx := cX_len (N := N) (at_ := at_) x7
    have lt := fun q => cR_len (F := cA N d) (m := ca d) (l := th) (at_ := q) fun q a ha => cA_len (x11 a ha)
    have le := fun q => cR_len (F := cA N d) (m := ca d) (l := el) (at_ := q) fun q a ha => cA_len (x12 a ha)
    have mt : th.length * ca d ≤ 2 * ca d := Nat.mul_le_mul_right _ x9
    have me : el.length * ca d ≤ 2 * ca d := Nat.mul_le_mul_right _ x10
    have := ce3
    unfold cA
    split
    · simp; omega
    split
    · simp; omega
    split
    · simp; omega
    split
    · simp; omega
    split
    · simp; omega
    split
    · rw [loopX_len]; have := lt (at_ + 1); omega
    have l1 := lt (at_ + (cX N at_ x).length + 1)
    have l2 := le (at_ + (cX N at_ x).length + 1 + (cR (cA N d) (at_ + (cX N at_ x).length + 1) th).length + 1)
    cases el with
    | nil => rw [chX, ifX_len]; omega
    | cons e r => rw [chX, elX_len]; omega
theorem cBl_len {N : Nms} {d at_ : Nat} {l : List V} (h : BlockS d l) : (cR (cA N d) at_ l).length ≤ 2 * ca d :=
  Nat.le_trans (cR_len (m := ca d) fun q a ha => cA_len (h.2 a ha)) (Nat.mul_le_mul_right _ h.1)
end
section
inductive Seg (e : Nat) : Nat → List V → List Int → Prop
  | nil {p : Nat} : Seg e p [] []
  | one {p : Nat} {op a n : Int} {s : ByteArray} {c : List V} {t : List Int} : op ≠ 25 → op ≠ 26 → (op = 23 ∨ op = 24 → (p : Int) < a ∧ a ≤ e) → Seg e (p + 1) c t → Seg e p (insS op a n s :: c) (1 :: t)
  | loop {p : Nat} {n : Int} {B c : List V} {tb t : List Int} : 1 ≤ n → n ≤ 16 → Seg e (p + 1) B tb → p + B.length + 2 ≤ e → Seg e (p + B.length + 2) c t →
      Seg e p (ins 25 (p + B.length + 2 : Nat) n :: (B ++ ins 26 p 0 :: c)) (1 :: (tb.map (n * ·) ++ n :: t))
theorem seg_app {e : Nat} {p q : Nat} {c c' : List V} {t t' : List Int} (h : Seg e p c t) (hq : q = p + c.length) (h' : Seg e q c' t') : Seg e p (c ++ c') (t ++ t') := by
  induction h with
  | nil => rw [List.length_nil, Nat.add_zero] at hq; subst hq; exact h'
  | one h1 h2 h3 h4 ih => exact .one h1 h2 h3 (ih (by rw [List.length_cons] at hq; omega))
  | @loop p n B c tb t h1 h2 h3 h4 h5 ih1 ih2 =>
    have := Seg.loop h1 h2 h3 h4 (ih2 (by simp at hq; omega))
    simpa using this
theorem seg_one {e p : Nat} {op a n : Int} {s : ByteArray} (h1 : op ≠ 25) (h2 : op ≠ 26) (h3 : op = 23 ∨ op = 24 → (p : Int) < a ∧ a ≤ e) : Seg e p [insS op a n s] [1] := .one h1 h2 h3 .nil
theorem seg_len {e p : Nat} {c : List V} {t : List Int} (h : Seg e p c t) : c.length = t.length := by
  induction h with
  | nil => rfl
  | one _ _ _ _ ih => simp [ih]
  | loop _ _ _ _ _ ih1 ih2 => simp [ih1, ih2]
def Sh (F : Nat → List V) (t : List Int) (m : Int) : Prop := (∀ q e, q + t.length ≤ e → Seg e q (F q) t) ∧ ∀ x ∈ t, 1 ≤ x ∧ x ≤ m
theorem sh_len {F : Nat → List V} {t : List Int} {m : Int} (h : Sh F t m) (q : Nat) : (F q).length = t.length := seg_len (h.1 q (q + t.length) (Nat.le_refl _))
theorem sh_mono {F : Nat → List V} {t : List Int} {m m' : Int} (h : Sh F t m) (hm : m ≤ m') : Sh F t m' := ⟨h.1, fun x hx => ⟨(h.2 x hx).1, Int.le_trans (h.2 x hx).2 hm⟩⟩
theorem sh_nil {m : Int} : Sh (fun _ => []) [] m := ⟨fun q e h => .nil, fun x hx => by cases hx⟩
theorem sh_eq {F F' : Nat → List V} {t : List Int} {m : Int} (h : Sh F t m) (he : ∀ q, F' q = F q) : Sh F' t m := ⟨fun q e hq => by rw [he]; exact h.1 q e hq, h.2⟩
theorem sh_app {F F' : Nat → List V} {t t' : List Int} {m : Int} (h : Sh F t m) (h' : Sh F' t' m) : Sh (fun q => F q ++ F' (q + (F q).length)) (t ++ t') m := by
  refine ⟨fun q e hq => ?_, fun x hx => ?_⟩
  · rw [List.length_append] at hq
    exact seg_app (h.1 q e (by omega)) rfl (by rw [sh_len h q]; exact h'.1 _ e (by omega))
  · rcases List.mem_append.1 hx with hx | hx
    · exact h.2 x hx
    · exact h'.2 x hx
theorem sh_one {op a n : Int} {s : ByteArray} {m : Int} (hm : 1 ≤ m) (h1 : op ≤ 22) : Sh (fun _ => [insS op a n s]) [1] m :=
  ⟨fun q e hq => seg_one (by omega) (by omega) (fun h => by omega), fun x hx => by rw [List.mem_singleton.1 hx]; omega⟩
theorem sh_loop {F : Nat → List V} {t : List Int} {m n : Int} (h1 : 1 ≤ n) (h2 : n ≤ 16) (hm : 1 ≤ m) (h : Sh F t m) : Sh (fun q => loopX q n (F (q + 1))) (1 :: (t.map (n * ·) ++ [n])) (16 * m) := by
  refine ⟨fun q e hq => ?_, fun x hx => ?_⟩
  · simp only [List.length_cons, List.length_append, List.length_map, List.length_nil] at hq
    exact .loop h1 h2 (h.1 _ e (by omega)) (by rw [sh_len h]; omega) .nil
  · simp only [List.mem_cons, List.mem_append, List.mem_map, List.not_mem_nil, or_false] at hx
    rcases hx with rfl | ⟨y, hy, rfl⟩ | rfl
    · omega
    · obtain ⟨y1, y2⟩ := h.2 y hy
      have e1 : 1 * 1 ≤ n * y := Int.mul_le_mul h1 y1 (by omega) (by omega)
      have e2 : n * y ≤ 16 * m := Int.mul_le_mul h2 y2 (by omega) (by omega)
      omega
    · omega
theorem sh_and {F F' : Nat → List V} {t t' : List Int} {m : Int} (hm : 1 ≤ m) (h : Sh F t m) (h' : Sh F' t' m) : Sh (fun q => andX q (F q) (F' (q + (F q).length + 1))) (t ++ (1 :: (t' ++ [1, 1, 1, 1]))) m := by
  refine ⟨fun q e hq => ?_, fun x hx => ?_⟩
  · simp only [List.length_append, List.length_cons, List.length_nil] at hq
    have l := sh_len h q
    have l' := sh_len h' (q + (F q).length + 1)
    refine seg_app (h.1 q e (by omega)) rfl (.one (by omega) (by omega) (fun _ => by omega) (seg_app (h'.1 _ e (by omega)) rfl ?_))
    exact .one (by omega) (by omega) (fun _ => by omega) (.one (by omega) (by omega) (fun _ => by omega) (.one (by omega) (by omega) (fun _ => by omega) (seg_one (by omega) (by omega) (fun _ => by omega))))
  · simp only [List.mem_append, List.mem_cons, List.not_mem_nil, or_false] at hx
    rcases hx with hx | rfl | hx | rfl | rfl | rfl | rfl
    · exact h.2 x hx
    · omega
    · exact h'.2 x hx
    all_goals omega
theorem sh_or {F F' : Nat → List V} {t t' : List Int} {m : Int} (hm : 1 ≤ m) (h : Sh F t m) (h' : Sh F' t' m) : Sh (fun q => orX q (F q) (F' (q + (F q).length + 3))) (t ++ (1 :: 1 :: 1 :: (t' ++ [1, 1, 1, 1]))) m := by
  refine ⟨fun q e hq => ?_, fun x hx => ?_⟩
  · simp only [List.length_append, List.length_cons, List.length_nil] at hq
    have l := sh_len h q
    have l' := sh_len h' (q + (F q).length + 3)
    have ho : ∀ (q : Nat) (A B : List V), orX q A B = A ++ ins 24 (q + A.length + 3) 0 :: ins 1 0 1 :: ins 23 (q + A.length + 3 + B.length + 4) 0 :: (B ++ [ins 24 (q + A.length + 3 + B.length + 3) 0, ins 1 0 1, ins 23 (q + A.length + 3 + B.length + 4) 0, ins 1 0 0]) := fun q A B => by simp [orX]
    show Seg e q (orX q (F q) (F' (q + (F q).length + 3))) _
    rw [ho]
    refine seg_app (h.1 q e (by omega)) rfl (.one (by omega) (by omega) (fun _ => by omega) (.one (by omega) (by omega) (fun _ => by omega) (.one (by omega) (by omega) (fun _ => by omega) (seg_app (h'.1 _ e (by omega)) rfl ?_))))
    exact .one (by omega) (by omega) (fun _ => by omega) (.one (by omega) (by omega) (fun _ => by omega) (.one (by omega) (by omega) (fun _ => by omega) (seg_one (by omega) (by omega) (fun _ => by omega))))
  · simp only [List.mem_append, List.mem_cons, List.not_mem_nil, or_false] at hx
    rcases hx with hx | rfl | rfl | rfl | hx | rfl | rfl | rfl | rfl
    · exact h.2 x hx
    · omega
    · omega
    · omega
    · exact h'.2 x hx
    all_goals omega
theorem cE_sh {N : Nms} : ∀ {d : Nat} {x : V}, ExprS d x → ∃ t, Sh (fun q => cE N d q x) t 1
  | 0, _, h => h.elim
  | d + 1, x, h => by
    obtain ⟨kind, n, nm, kids, rfl, x1, x2, x3, x4, x5, x6, x7⟩ := h
    by_cases h1 : kind = 1
    · exact ⟨[1], sh_eq (sh_one (op := 1) (a := 0) (n := n) (s := ⟨#[]⟩) (by omega) (by omega)) fun q => by (conv => lhs; unfold cE); rw [if_pos h1]; rfl⟩
    by_cases h2 : kind = 2
    · exact ⟨[1], sh_eq (sh_one (op := 2) (a := plN N.a nm) (n := 0) (s := ⟨#[]⟩) (by omega) (by omega)) fun q => by (conv => lhs; unfold cE); rw [if_neg h1, if_pos h2]; rfl⟩
    by_cases h3 : kind = 3
    · exact ⟨[1], sh_eq (sh_one (op := 3) (a := 0) (n := 0) (s := ⟨#[]⟩) (by omega) (by omega)) fun q => by (conv => lhs; unfold cE); rw [if_neg h1, if_neg h2, if_pos h3]; rfl⟩
    by_cases h4 : kind = 4
    · exact ⟨[1], sh_eq (sh_one (op := 4) (a := findN N.nd nm) (n := 0) (s := ⟨#[]⟩) (by omega) (by omega)) fun q => by (conv => lhs; unfold cE); rw [if_neg h1, if_neg h2, if_neg h3, if_pos h4]; rfl⟩
    have hk : kids.length = 1 ∨ kids.length = 2 := by omega
    match kids, hk, x6 with
    | [a], _, x6 =>
      obtain ⟨t, ht⟩ := cE_sh (N := N) (x6 a (by simp))
      exact ⟨t ++ [1], sh_eq (sh_app ht (sh_one (op := kind) (a := 0) (n := 0) (s := ⟨#[]⟩) (by omega) (by omega))) fun q => by (conv => lhs; unfold cE); rw [if_neg h1, if_neg h2, if_neg h3, if_neg h4]; rfl⟩
    | [a, b], _, x6 =>
      obtain ⟨t, ht⟩ := cE_sh (N := N) (x6 a (by simp))
      obtain ⟨t', ht'⟩ := cE_sh (N := N) (x6 b (by simp))
      by_cases h18 : kind = 18
      · exact ⟨_, sh_eq (sh_and (by omega) ht ht') fun q => by (conv => lhs; unfold cE); rw [if_neg h1, if_neg h2, if_neg h3, if_neg h4]; dsimp only; rw [if_pos h18]⟩
      by_cases h19 : kind = 19
      · exact ⟨_, sh_eq (sh_or (by omega) ht ht') fun q => by (conv => lhs; unfold cE); rw [if_neg h1, if_neg h2, if_neg h3, if_neg h4]; dsimp only; rw [if_neg h18, if_pos h19]⟩
      · exact ⟨_, sh_eq (sh_app (sh_app ht ht') (sh_one (op := kind) (a := 0) (n := 0) (s := ⟨#[]⟩) (by omega) (by omega))) fun q => by (conv => lhs; unfold cE); rw [if_neg h1, if_neg h2, if_neg h3, if_neg h4]; dsimp only; rw [if_neg h18, if_neg h19]; rfl⟩
theorem cX_sh {N : Nms} {x : List V} (h : ∀ e ∈ x, ExprS 3 e) : ∃ t, Sh (fun q => cX N q x) t 1 := by
  cases x with
  | nil => exact ⟨[1], sh_one (op := 1) (a := 0) (n := 0) (s := ⟨#[]⟩) (by omega) (by omega)⟩
  | cons e r => exact cE_sh (N := N) (h e List.mem_cons_self)
theorem sh_if {F F' : Nat → List V} {t t' : List Int} {m : Int} (hm : 1 ≤ m) (h : Sh F t m) (h' : Sh F' t' m) : Sh (fun q => ifX q (F q) (F' (q + (F q).length + 1))) (t ++ 1 :: t') m := by
  refine ⟨fun q e hq => ?_, fun x hx => ?_⟩
  · simp only [List.length_append, List.length_cons] at hq
    have l := sh_len h q
    have l' := sh_len h' (q + (F q).length + 1)
    exact seg_app (h.1 q e (by omega)) rfl (.one (by omega) (by omega) (fun _ => by omega) (h'.1 _ e (by omega)))
  · simp only [List.mem_append, List.mem_cons] at hx
    rcases hx with hx | rfl | hx
    · exact h.2 x hx
    · omega
    · exact h'.2 x hx
theorem sh_el {F F' F'' : Nat → List V} {t t' t'' : List Int} {m : Int} (hm : 1 ≤ m) (h : Sh F t m) (h' : Sh F' t' m) (h'' : Sh F'' t'' m) :
    Sh (fun q => elX q (F q) (F' (q + (F q).length + 1)) (F'' (q + (F q).length + 1 + (F' (q + (F q).length + 1)).length + 1))) (t ++ 1 :: (t' ++ 1 :: t'')) m := by
  refine ⟨fun q e hq => ?_, fun x hx => ?_⟩
  · simp only [List.length_append, List.length_cons] at hq
    have l := sh_len h q
    have l' := sh_len h' (q + (F q).length + 1)
    have l'' := sh_len h'' (q + (F q).length + 1 + (F' (q + (F q).length + 1)).length + 1)
    exact seg_app (h.1 q e (by omega)) rfl (.one (by omega) (by omega) (fun _ => by omega) (seg_app (h'.1 _ e (by omega)) rfl (.one (by omega) (by omega) (fun _ => by omega) (h''.1 _ e (by omega)))))
  · simp only [List.mem_append, List.mem_cons] at hx
    rcases hx with hx | rfl | hx | rfl | hx
    · exact h.2 x hx
    · omega
    · exact h'.2 x hx
    · omega
    · exact h''.2 x hx
def cm : Nat → Int
  | 0 => 1
  | d + 1 => 16 * cm d
theorem cm_pos : ∀ d, 1 ≤ cm d
  | 0 => by decide
  | d + 1 => by have := cm_pos d; show 1 ≤ 16 * cm d; omega
end
section
variable {R : Type} {G : ORC R} {k : Nat} {K : List V → Option R}
def nd0 : List Nd := [⟨2, -1, 2, 1, -1, -1, ⟨#[]⟩⟩, ⟨1, 0, 1, -1, -1, -1, ⟨#[105, 100, 108, 101]⟩⟩, ⟨1, 0, 2, -1, -1, -1, ⟨#[98, 117, 115, 121]⟩⟩]
def N0 : Nms := ⟨[.str ⟨#[120]⟩, .str ⟨#[121]⟩], [.str ⟨#[112]⟩, .str ⟨#[113]⟩], [.str ⟨#[116]⟩], nd0⟩
def scS : List V := [.str ⟨#[105, 100, 108, 101]⟩, .str ⟨#[98, 117, 115, 121]⟩]
theorem N0_ok : N0.ok := by
  refine ⟨⟨by decide, ?_⟩, ⟨by decide, ?_⟩, ⟨by decide, ?_⟩, by decide, ?_, ?_⟩
  · intro v hv
    simp only [N0, List.mem_cons, List.not_mem_nil, or_false] at hv
    rcases hv with rfl | rfl
    · exact ⟨_, rfl, by unfold StrS; decide⟩
    · exact ⟨_, rfl, by unfold StrS; decide⟩
  · intro v hv
    simp only [N0, List.mem_cons, List.not_mem_nil, or_false] at hv
    rcases hv with rfl | rfl
    · exact ⟨_, rfl, by unfold StrS; decide⟩
    · exact ⟨_, rfl, by unfold StrS; decide⟩
  · intro v hv
    simp only [N0, List.mem_cons, List.not_mem_nil, or_false] at hv
    rcases hv with rfl
    exact ⟨_, rfl, by unfold StrS; decide⟩
  · intro n hn
    simp only [N0, nd0, List.getElem?_cons_zero, Option.some.injEq] at hn
    subst hn; rw [ba_toList]
  · intro j n hn hj
    match j, hj with
    | 1, _ => simp [N0, nd0] at hn; subst hn; rw [ba_toList]; simp
    | 2, _ => simp [N0, nd0] at hn; subst hn; rw [ba_toList]; simp
    | j + 3, _ => simp [N0, nd0] at hn
end
set_option maxHeartbeats 4000000
section
variable {R : Type} {G : ORC R} {k : Nat} {K : List V → Option R}
def ExprM (A : List V) : Nat → V → Prop
  | 0, _ => False
  | d + 1, v => ∃ kind n nm kids, v = .agg [.int .i64 kind, .int .i64 n, .str nm, .sl 5 kids, .int .i64 0] ∧ I64 n ∧ StrS nm ∧ 1 ≤ kind ∧ kind ≤ 19 ∧ kids.length ≤ 2 ∧ (∀ e ∈ kids, ExprM A d e) ∧
      (kind ≤ 4 ∨ (kind ≤ 6 ∧ kids.length = 1) ∨ (7 ≤ kind ∧ kids.length = 2)) ∧ (kind = 2 → .str nm ∈ A)
theorem ExprM.s {A : List V} : ∀ {d : Nat} {v : V}, ExprM A d v → ExprS d v
  | 0, _, h => h.elim
  | d + 1, v, ⟨kind, n, nm, kids, h1, h2, h3, h4, h5, h6, h7, h8, h9⟩ => ⟨kind, n, nm, kids, h1, h2, h3, h4, h5, h6, fun e he => (h7 e he).s, h8⟩
def ExprOKM (d : Nat) (G : ORC R) : Prop := ∀ (a b c s L : List V) (n i : Int) (K : List V → Option R), n = (d : Int) → a ≠ [] → StrsS 100 a → StrsS 100 s → RowS L i →
  W (fun o => ∃ e j, o = [e, .int .i64 j] ∧ ExprM a (d + 1) e ∧ RowS L j) K (G 23 [.agg [.sl 1 a, .sl 1 b, .sl 1 c, .sl 1 s], .int .i64 n, .sl 1 L, .int .i64 i] K)
theorem exprM_mk {A : List V} {d : Nat} {kind n : Int} {nm : ByteArray} {kids : List V} (h1 : I64 n) (h2 : StrS nm) (h3 : 1 ≤ kind ∧ kind ≤ 19) (h4 : kids.length ≤ 2) (h5 : ∀ e ∈ kids, ExprM A d e) (h6 : kind ≤ 4 ∨ (kind ≤ 6 ∧ kids.length = 1) ∨ (7 ≤ kind ∧ kids.length = 2)) (h7 : kind = 2 → .str nm ∈ A) :
    ExprM A (d + 1) (.agg [.int .i64 kind, .int .i64 n, .str nm, .sl 5 kids, .int .i64 0]) := ⟨kind, n, nm, kids, rfl, h1, h2, h3.1, h3.2, h4, h5, h6, h7⟩
theorem oneM_mem {A : List V} {d : Nat} {a : V} (h : ExprM A d a) : ∀ e ∈ [a], ExprM A d e := fun e he => by rw [List.mem_singleton.1 he]; exact h
theorem twoM_mem {A : List V} {d : Nat} {a b : V} (h : ExprM A d a) (h' : ExprM A d b) : ∀ e ∈ [a, b], ExprM A d e := fun e he => by
  simp only [List.mem_cons, List.not_mem_nil, or_false] at he
  rcases he with rfl | rfl
  · exact h
  · exact h'
theorem exprM_ok {d : Nat} (hd : d ≤ 20) (hN : NextS G) (hPk : PickS G) (hE : ∀ d', d = d' + 1 → ExprOKM d' G) : ExprOKM d (fun _ args (K : List V → Option R) => g23 G k args K) := by
  intro a b c s L n i K hn ha0 ha hs hr
  show W _ K (f23 G k a b c s n L i K)
  unfold f23
  unfold NextS at hN; unfold PickS at hPk; unfold ExprOKM at hE
  have la := ha.1
  have lss := hs.1
  have hE' : n ≠ 0 → ∃ d', d = d' + 1 := fun h => ⟨d - 1, by omega⟩
  have hEn : ∀ d', d = d' + 1 → IntKind.i64.wrap (n - 1) = (d' : Int) := fun d' h => by rw [wrap_id (by omega)]; omega
  refine W_call (hN _ _ _ _ (by omega) (by omega) hr) ?_
  rintro o ⟨x, i1, rfl, x1, x2, hr1⟩
  have ht := tmod_lt (v := x) (n := 6) (by omega)
  by_cases hn0 : n = 0
  · clear hE' hEn hE
    repeat' (first
      | with_reducible (first | (refine W_uI ?_) | (refine W_uS ?_) | (refine W_uL ?_) | (refine W_uA ?_) | (refine W_uB ?_) | (refine W_aI ?_) | (refine W_aL ?_) | (refine W_ca3 ?_) | (refine W_ce3 ?_) | (refine W_ca4 ?_) | (refine W_ce4 ?_) | (refine W_ca5 ?_) | (refine W_ce5 ?_) | (refine W_ca6 ?_) | (refine W_ce6 ?_) | (refine W_ca7 ?_) | (refine W_ce7 ?_) | (refine W_ca8 ?_) | (refine W_ce8 ?_) | (refine W_unCons ?_) | (refine W_unNil ?_) | (refine W_asInt ?_) | (refine W_asStr ?_) | (refine W_asSl ?_) | (refine W_asAgg ?_) | (refine W_kd ?_) | (refine W_z ?_))
      | ((with_reducible (refine W_call (hN _ _ _ _ ?_ ?_ (by assumption)) ?_)); omega; omega; rintro _ ⟨_, _, rfl, _, _, _⟩)
      | ((with_reducible (refine W_call (hPk _ _ _ _ 100 _ (by assumption) ?_ strs0 (by assumption)) ?_)); omega; rintro _ ⟨_, _, rfl, _, _, _⟩)
      | (with_reducible (refine W_and ?_)) | ((with_reducible (refine W_yes ?_ ?_)); omega) | ((with_reducible (refine W_no ?_ ?_)); omega) | ((with_reducible (refine W_eqY ?_ ?_)); omega) | ((with_reducible (refine W_eqN ?_ ?_)); omega)
      | (with_reducible (refine W_dec (fun _ => ?_) (fun _ => ?_))) | (with_reducible (refine W_beqI (fun _ => ?_) (fun _ => ?_)))
      | ((with_reducible (refine W_nth ?_ (fun v _ hv => ?_))); (simp; omega); simp only [List.mem_cons, List.not_mem_nil, or_false] at hv; rcases hv with rfl | rfl | rfl | rfl | rfl | rfl)
      | (refine W_ret ⟨_, _, rfl, exprM_mk (by unfold I64; omega) (by first | assumption | exact strs0) ⟨by omega, by omega⟩ (by simp) (by simp) (by omega) (by first | (intro; omega) | exact fun _ => Or.resolve_left (by assumption) ha0 | (intro h; rw [wrap_id (by omega)] at h; omega)), by assumption⟩))
  · obtain ⟨d', rfl⟩ := hE' hn0
    have hEn := hEn d' rfl
    have hE := hE d' rfl
    clear hE'
    repeat' (first
      | with_reducible (first | (refine W_uI ?_) | (refine W_uS ?_) | (refine W_uL ?_) | (refine W_uA ?_) | (refine W_uB ?_) | (refine W_aI ?_) | (refine W_aL ?_) | (refine W_ca3 ?_) | (refine W_ce3 ?_) | (refine W_ca4 ?_) | (refine W_ce4 ?_) | (refine W_ca5 ?_) | (refine W_ce5 ?_) | (refine W_ca6 ?_) | (refine W_ce6 ?_) | (refine W_ca7 ?_) | (refine W_ce7 ?_) | (refine W_ca8 ?_) | (refine W_ce8 ?_) | (refine W_unCons ?_) | (refine W_unNil ?_) | (refine W_asInt ?_) | (refine W_asStr ?_) | (refine W_asSl ?_) | (refine W_asAgg ?_) | (refine W_kd ?_) | (refine W_z ?_))
      | ((with_reducible (refine W_call (hN _ _ _ _ ?_ ?_ (by assumption)) ?_)); omega; omega; rintro _ ⟨_, _, rfl, _, _, _⟩)
      | ((with_reducible (refine W_call (hPk _ _ _ _ 100 _ (by assumption) ?_ strs0 (by assumption)) ?_)); omega; rintro _ ⟨_, _, rfl, _, _, _⟩)
      | ((with_reducible (refine W_call (hE _ _ _ _ _ _ _ _ hEn ha0 (by assumption) (by assumption) (by assumption)) ?_)); rintro _ ⟨_, _, rfl, he, _⟩; have he2 := he; obtain ⟨_, _, _, _, rfl, _⟩ := he)
      | (with_reducible (refine W_and ?_)) | ((with_reducible (refine W_yes ?_ ?_)); omega) | ((with_reducible (refine W_no ?_ ?_)); omega) | ((with_reducible (refine W_eqY ?_ ?_)); omega) | ((with_reducible (refine W_eqN ?_ ?_)); omega)
      | (with_reducible (refine W_dec (fun _ => ?_) (fun _ => ?_))) | (with_reducible (refine W_beqI (fun _ => ?_) (fun _ => ?_)))
      | ((with_reducible (refine W_nth ?_ (fun v _ hv => ?_))); (simp; omega); simp only [List.mem_cons, List.not_mem_nil, or_false] at hv; rcases hv with rfl | rfl | rfl | rfl | rfl | rfl)
      | (refine W_ret ⟨_, _, rfl, exprM_mk (by unfold I64; omega) (by first | assumption | exact strs0) ⟨by first | omega | (rw [wrap_id (by omega)]; omega), by first | omega | (rw [wrap_id (by omega)]; omega)⟩ (by simp) (by first | exact twoM_mem (by assumption) (by assumption) | exact oneM_mem (by assumption) | simp) (by first | exact .inr (.inr ⟨by rw [wrap_id (by omega)]; omega, rfl⟩) | exact .inr (.inl ⟨by rw [wrap_id (by omega)]; omega, rfl⟩) | omega) (by first | (intro; omega) | exact fun _ => Or.resolve_left (by assumption) ha0 | (intro h; rw [wrap_id (by omega)] at h; omega)), by assumption⟩))
end
set_option maxHeartbeats 8000000
section
variable {R : Type} {G : ORC R} {k : Nat} {K : List V → Option R}
theorem i64_0 : I64 0 := by unfold I64; omega
end
section
variable {R : Type} {G : ORC R} {k : Nat} {K : List V → Option R}
def ActM (A B : List V) : Nat → V → Prop
  | 0, _ => False
  | d + 1, v => ∃ kind nm ev x n th el, v = .agg [.int .i64 kind, .str nm, .str ev, .sl 5 x, .int .i64 n, .sl 8 th, .sl 8 el, .int .i64 0] ∧ ActN kind n ∧ StrS nm ∧ StrS ev ∧ 1 ≤ kind ∧ kind ≤ 7 ∧ x.length ≤ 1 ∧ (∀ e ∈ x, ExprM A 3 e) ∧ (kind = 6 → x.length = 1) ∧
      th.length ≤ 2 ∧ el.length ≤ 2 ∧ (∀ a ∈ th, ActM A B d a) ∧ (∀ a ∈ el, ActM A B d a) ∧ (kind = 1 → .str nm ∈ A) ∧ (kind = 3 → .str nm ∈ B)
theorem ActM.s {A B : List V} : ∀ {d : Nat} {v : V}, ActM A B d v → ActS d v
  | 0, _, h => h.elim
  | d + 1, v, ⟨kind, nm, ev, x, n, th, el, h1, h2, h3, h4, h5, h6, h7, h8, h9, h10, h11, h12, h13, _, _⟩ =>
    ⟨kind, nm, ev, x, n, th, el, h1, h2, h3, h4, h5, h6, h7, fun e he => (h8 e he).s, h9, h10, h11, fun a ha => (h12 a ha).s, fun a ha => (h13 a ha).s⟩
def BlockM (A B : List V) (d : Nat) (l : List V) : Prop := l.length ≤ 2 ∧ ∀ a ∈ l, ActM A B d a
theorem BlockM.s {A B : List V} {d : Nat} {l : List V} (h : BlockM A B d l) : BlockS d l := ⟨h.1, fun a ha => (h.2 a ha).s⟩
def BlockOKM (d : Nat) (G : ORC R) : Prop := ∀ (a b c s L : List V) (n i : Int) (K : List V → Option R), n = (d : Int) → a ≠ [] → b ≠ [] → StrsS 100 a → StrsS 100 b → StrsS 100 c → StrsS 100 s → RowS L i →
  W (fun o => ∃ q j, o = [.sl 8 q, .int .i64 j] ∧ BlockM a b (d + 1) q ∧ RowS L j) K (G 16 [.agg [.sl 1 a, .sl 1 b, .sl 1 c, .sl 1 s], .int .i64 n, .sl 1 L, .int .i64 i] K)
theorem actM_mk {A B : List V} {d : Nat} {kind n : Int} {nm ev : ByteArray} {x th el : List V} (h1 : ActN kind n) (h2 : StrS nm) (h3 : StrS ev) (h4 : 1 ≤ kind ∧ kind ≤ 7) (h5 : x.length ≤ 1) (h6 : ∀ e ∈ x, ExprM A 3 e) (h7 : kind = 6 → x.length = 1) (h8 : BlockM A B d th) (h9 : BlockM A B d el) (h10 : kind = 1 → .str nm ∈ A) (h11 : kind = 3 → .str nm ∈ B) :
    ActM A B (d + 1) (.agg [.int .i64 kind, .str nm, .str ev, .sl 5 x, .int .i64 n, .sl 8 th, .sl 8 el, .int .i64 0]) := ⟨kind, nm, ev, x, n, th, el, rfl, h1, h2, h3, h4.1, h4.2, h5, h6, h7, h8.1, h9.1, h8.2, h9.2, h10, h11⟩
theorem blockM0 {A B : List V} {d : Nat} : BlockM A B d [] := ⟨by simp, by simp⟩
theorem takeM_one {A : List V} {e : V} {n : Nat} (h : ExprM A 3 e) : (List.take n [e]).length ≤ 1 ∧ ∀ v ∈ List.take n [e], ExprM A 3 v :=
  ⟨by simp [List.length_take]; omega, fun v hv => oneM_mem h v (List.mem_of_mem_take hv)⟩
theorem numM_of {A : List V} {n : Int} (h : I64 n) : ∀ e ∈ [V.agg [.int .i64 1, .int .i64 n, .str ⟨#[]⟩, .sl 5 [], .int .i64 0]], ExprM A 3 e := oneM_mem (exprM_mk (d := 2) h strs0 ⟨by omega, by omega⟩ (by simp) (by simp) (by omega) (by intro h; omega))
theorem blockM_round {d : Nat} (hd : d ≤ 3) (hN : NextS G) (hPk : PickS G) (hEv : EventS G) (hE : ExprOKM 2 G) (hB : ∀ d', d = d' + 1 → BlockOKM d' G) {Q : List V → Prop} {K : List V → Option R} {a b c s L acc : List V} {n i dd : Int}
    (X : Int → List V → Int → List V → Int → List V → List V → List V → List V → Option R) (Ko : List V → List V → Int → Option R)
    (hdd : dd = (d : Int)) (ha0 : a ≠ []) (hb0 : b ≠ []) (ha : StrsS 100 a) (hb : StrsS 100 b) (hc : StrsS 100 c) (hs : StrsS 100 s) (hr : RowS L i) (hn : n > 0) (hacc : acc.length ≤ 2)
    (hX1 : ∀ v j, ActM a b (d + 1) v → RowS L j → W Q K (X dd (acc ++ [v]) (IntKind.i64.wrap (n - 1)) L j a b c s))
    (hX0 : ∀ j, RowS L j → W Q K (X dd acc (IntKind.i64.wrap (n - 1)) L j a b c s)) :
    W Q K (b16_0 G k X Ko dd acc n L i a b c s) := by
  unfold b16_0
  unfold NextS at hN; unfold PickS at hPk; unfold EventS at hEv; unfold ExprOKM at hE; unfold BlockOKM at hB
  have la := ha.1
  have lb := hb.1
  have lc := hc.1
  refine W_yes hn ?_
  refine W_call (hN _ _ _ _ (by omega) (by omega) hr) ?_
  rintro _ ⟨x, i1, rfl, x1, x2, hr1⟩
  refine W_uI (W_uI (W_unNil ?_))
  refine W_call (hE _ _ _ _ _ _ _ _ (by rfl) ha0 ha hs hr1) ?_
  rintro _ ⟨e, i2, rfl, he, hr2⟩
  have he2 := he
  obtain ⟨_, _, _, _, rfl, _⟩ := he
  repeat (with_reducible (first | (refine W_uI ?_) | (refine W_uS ?_) | (refine W_uL ?_) | (refine W_uA ?_) | (refine W_uB ?_) | (refine W_aI ?_) | (refine W_aL ?_) | (refine W_ca3 ?_) | (refine W_ce3 ?_) | (refine W_ca4 ?_) | (refine W_ce4 ?_) | (refine W_ca5 ?_) | (refine W_ce5 ?_) | (refine W_ca6 ?_) | (refine W_ce6 ?_) | (refine W_ca7 ?_) | (refine W_ce7 ?_) | (refine W_ca8 ?_) | (refine W_ce8 ?_) | (refine W_unCons ?_) | (refine W_unNil ?_) | (refine W_asInt ?_) | (refine W_asStr ?_) | (refine W_asSl ?_) | (refine W_asAgg ?_) | (refine W_kd ?_) | (refine W_z ?_)))
  have ht := takeM_one (n := 0) he2
  by_cases hd0 : d = 0
  · have hdd0 : ¬ dd > 0 := by omega
    clear hB
    repeat' (first
      | with_reducible (first | (refine W_uI ?_) | (refine W_uS ?_) | (refine W_uL ?_) | (refine W_uA ?_) | (refine W_uB ?_) | (refine W_aI ?_) | (refine W_aL ?_) | (refine W_ca3 ?_) | (refine W_ce3 ?_) | (refine W_ca4 ?_) | (refine W_ce4 ?_) | (refine W_ca5 ?_) | (refine W_ce5 ?_) | (refine W_ca6 ?_) | (refine W_ce6 ?_) | (refine W_ca7 ?_) | (refine W_ce7 ?_) | (refine W_ca8 ?_) | (refine W_ce8 ?_) | (refine W_unCons ?_) | (refine W_unNil ?_) | (refine W_asInt ?_) | (refine W_asStr ?_) | (refine W_asSl ?_) | (refine W_asAgg ?_) | (refine W_kd ?_) | (refine W_z ?_))
      | ((with_reducible (refine W_call (hN _ _ _ _ ?_ ?_ (by assumption)) ?_)); omega; omega; rintro _ ⟨_, _, rfl, _, _, _⟩)
      | ((with_reducible (refine W_call (hPk _ _ _ _ 100 _ (by assumption) ?_ strs0 (by assumption)) ?_)); omega; rintro _ ⟨_, _, rfl, _, _, _⟩)
      | ((with_reducible (refine W_call (hEv _ _) ?_)); rintro _ ⟨_, rfl, _⟩)
      | (with_reducible (refine W_and ?_)) | ((with_reducible (refine W_no hdd0 ?_))) | ((with_reducible (refine W_yes ?_ ?_)); omega) | ((with_reducible (refine W_no ?_ ?_)); omega) | ((with_reducible (refine W_eqY ?_ ?_)); omega) | ((with_reducible (refine W_eqN ?_ ?_)); omega)
      | (with_reducible (refine W_dec (fun _ => ?_) (fun _ => ?_))) | (with_reducible (refine W_beqI (fun _ => ?_) (fun _ => ?_)))
      | (with_reducible (exact hX0 _ (by assumption)))
      | ((with_reducible (refine hX1 _ _ ?_ (by assumption)));
         exact actM_mk (by first | exact ⟨i64_0, by omega⟩ | (rw [wrap_id (by omega)]; unfold ActN I64; omega)) (by first | assumption | exact strs0) (by first | assumption | exact strs0) ⟨by omega, by omega⟩
           (by first | exact Nat.le_refl 1 | exact Nat.zero_le 1 | exact (takeM_one he2).1) (by first | exact oneM_mem he2 | exact (takeM_one he2).2 | exact numM_of (by rw [wrap_id (by omega)]; unfold I64; omega) | simp) (by first | omega | exact fun _ => rfl) blockM0 blockM0 (by first | (intro; omega) | exact fun _ => Or.resolve_left (by assumption) ha0 | (intro h; rw [wrap_id (by omega)] at h; omega)) (by first | (intro; omega) | exact fun _ => Or.resolve_left (by assumption) hb0 | (intro h; rw [wrap_id (by omega)] at h; omega))))
  · obtain ⟨d', rfl⟩ : ∃ d', d = d' + 1 := ⟨d - 1, by omega⟩
    have hdd0 : dd > 0 := by omega
    have hB := hB d' rfl
    have hBn : IntKind.i64.wrap (dd - 1) = (d' : Int) := by rw [wrap_id (by omega)]; omega
    repeat' (first
      | with_reducible (first | (refine W_uI ?_) | (refine W_uS ?_) | (refine W_uL ?_) | (refine W_uA ?_) | (refine W_uB ?_) | (refine W_aI ?_) | (refine W_aL ?_) | (refine W_ca3 ?_) | (refine W_ce3 ?_) | (refine W_ca4 ?_) | (refine W_ce4 ?_) | (refine W_ca5 ?_) | (refine W_ce5 ?_) | (refine W_ca6 ?_) | (refine W_ce6 ?_) | (refine W_ca7 ?_) | (refine W_ce7 ?_) | (refine W_ca8 ?_) | (refine W_ce8 ?_) | (refine W_unCons ?_) | (refine W_unNil ?_) | (refine W_asInt ?_) | (refine W_asStr ?_) | (refine W_asSl ?_) | (refine W_asAgg ?_) | (refine W_kd ?_) | (refine W_z ?_))
      | ((with_reducible (refine W_call (hN _ _ _ _ ?_ ?_ (by assumption)) ?_)); omega; omega; rintro _ ⟨_, _, rfl, _, _, _⟩)
      | ((with_reducible (refine W_call (hPk _ _ _ _ 100 _ (by assumption) ?_ strs0 (by assumption)) ?_)); omega; rintro _ ⟨_, _, rfl, _, _, _⟩)
      | ((with_reducible (refine W_call (hEv _ _) ?_)); rintro _ ⟨_, rfl, _⟩)
      | ((with_reducible (refine W_call (hB _ _ _ _ _ _ _ _ hBn ha0 hb0 (by assumption) (by assumption) (by assumption) (by assumption) (by assumption)) ?_)); rintro _ ⟨_, _, rfl, _, _⟩)
      | (with_reducible (refine W_and ?_)) | ((with_reducible (refine W_yes hdd0 ?_))) | ((with_reducible (refine W_yes ?_ ?_)); omega) | ((with_reducible (refine W_no ?_ ?_)); omega) | ((with_reducible (refine W_eqY ?_ ?_)); omega) | ((with_reducible (refine W_eqN ?_ ?_)); omega)
      | (with_reducible (refine W_dec (fun _ => ?_) (fun _ => ?_))) | (with_reducible (refine W_beqI (fun _ => ?_) (fun _ => ?_)))
      | (with_reducible (exact hX0 _ (by assumption)))
      | ((with_reducible (refine hX1 _ _ ?_ (by assumption)));
         exact actM_mk (by first | exact ⟨i64_0, by omega⟩ | (rw [wrap_id (by omega)]; unfold ActN I64; omega)) (by first | assumption | exact strs0) (by first | assumption | exact strs0) ⟨by omega, by omega⟩
           (by first | exact Nat.le_refl 1 | exact Nat.zero_le 1 | exact (takeM_one he2).1) (by first | exact oneM_mem he2 | exact (takeM_one he2).2 | exact numM_of (by rw [wrap_id (by omega)]; unfold I64; omega) | simp) (by first | omega | exact fun _ => rfl) (by first | assumption | exact blockM0) (by first | assumption | exact blockM0) (by first | (intro; omega) | exact fun _ => Or.resolve_left (by assumption) ha0 | (intro h; rw [wrap_id (by omega)] at h; omega)) (by first | (intro; omega) | exact fun _ => Or.resolve_left (by assumption) hb0 | (intro h; rw [wrap_id (by omega)] at h; omega))))
theorem blockM_loop {d : Nat} (hd : d ≤ 3) (hN : NextS G) (hPk : PickS G) (hEv : EventS G) (hE : ExprOKM 2 G) (hB : ∀ d', d = d' + 1 → BlockOKM d' G) {Q : List V → Prop} {K : List V → Option R} {a b c s L : List V} {dd : Int} {Ko : List V → List V → Int → Option R}
    (hdd : dd = (d : Int)) (ha0 : a ≠ []) (hb0 : b ≠ []) (ha : StrsS 100 a) (hb : StrsS 100 b) (hc : StrsS 100 c) (hs : StrsS 100 s) (hKo : ∀ q j, BlockM a b (d + 1) q → RowS L j → W Q K (Ko q L j)) :
    ∀ (j : Nat) (acc : List V) (n i : Int), n < j → (acc.length : Int) + n ≤ 2 → 0 ≤ n → (∀ v ∈ acc, ActM a b (d + 1) v) → RowS L i → W Q K (l16_0g G k Ko j dd acc n L i a b c s)
  | 0, acc, n, i, h1, h2, h3, h4, h5 => by omega
  | j + 1, acc, n, i, h1, h2, h3, h4, h5 => by
    show W Q K (b16_0 G k (l16_0g G k Ko j) Ko dd acc n L i a b c s)
    by_cases hn : n > 0
    · refine blockM_round hd hN hPk hEv hE hB _ _ hdd ha0 hb0 ha hb hc hs h5 hn (by omega) (fun v j' hv hj => ?_) (fun j' hj => ?_)
      · refine blockM_loop hd hN hPk hEv hE hB hdd ha0 hb0 ha hb hc hs hKo j _ _ j' (by rw [wrap_id (by omega)]; omega) (by rw [wrap_id (by omega)]; simp; omega) (by rw [wrap_id (by omega)]; omega) ?_ hj
        intro w hw
        rcases List.mem_append.1 hw with hw | hw
        · exact h4 w hw
        · rw [List.mem_singleton.1 hw]; exact hv
      · exact blockM_loop hd hN hPk hEv hE hB hdd ha0 hb0 ha hb hc hs hKo j _ _ j' (by rw [wrap_id (by omega)]; omega) (by rw [wrap_id (by omega)]; omega) (by rw [wrap_id (by omega)]; omega) h4 hj
    · unfold b16_0
      exact W_no hn (hKo acc i ⟨by omega, h4⟩ h5)
theorem blockM_ok {d : Nat} (hk : 1000 ≤ k) (hd : d ≤ 3) (hN : NextS G) (hPk : PickS G) (hEv : EventS G) (hE : ExprOKM 2 G) (hB : ∀ d', d = d' + 1 → BlockOKM d' G) : BlockOKM d (fun _ args (K : List V → Option R) => g16 G k args K) := by
  intro a b c s L n i K hn ha0 hb0 ha hb hc hs hr
  show W _ K (f16 G k a b c s n L i K)
  unfold f16
  refine W_call (hN _ _ _ _ (by omega) (by omega) hr) ?_
  rintro _ ⟨x, i1, rfl, x1, x2, hr1⟩
  refine W_uI (W_uI (W_unNil ?_))
  unfold l16_0
  exact blockM_loop hd hN hPk hEv hE hB hn ha0 hb0 ha hb hc hs (fun q j hq hj => W_ret ⟨_, _, rfl, hq, hj⟩) k [] x i1 (by omega) (by simp; omega) x1 (by simp) hr1
end
set_option maxHeartbeats 16000000
section
def smI : List Int → Int
  | [] => 0
  | x :: r => x + smI r
theorem smI_app : ∀ {a b : List Int}, smI (a ++ b) = smI a + smI b
  | [], b => by simp [smI]
  | x :: a, b => by rw [List.cons_append, smI, smI, smI_app]; omega
theorem smI_mul {n : Int} : ∀ {a : List Int}, smI (a.map (n * ·)) = n * smI a
  | [] => by simp [smI]
  | x :: a => by rw [List.map_cons, smI, smI, smI_mul, Int.mul_add]
theorem smI_pos : ∀ {a : List Int}, (∀ x ∈ a, 1 ≤ x) → 0 ≤ smI a
  | [], _ => by simp [smI]
  | x :: a, h => by have := h x List.mem_cons_self; have := smI_pos fun y hy => h y (List.mem_cons_of_mem _ hy); rw [smI]; omega
theorem smI_ones : ∀ {a : List Int}, (∀ x ∈ a, 1 ≤ x ∧ x ≤ 1) → smI a = a.length
  | [], _ => rfl
  | x :: a, h => by
    have := h x List.mem_cons_self
    rw [smI, smI_ones fun y hy => h y (List.mem_cons_of_mem _ hy), List.length_cons]; omega
def isS (p : Int) : V → Bool
  | .agg (.int _ op :: .int _ a :: _) => op == 20 && a == p
  | _ => false
def wS (p : Int) : List V → List Int → Int
  | v :: c, x :: t => (if isS p v then x else 0) + wS p c t
  | _, _ => 0
theorem wS_app {p : Int} : ∀ {a b : List V} {t t' : List Int}, a.length = t.length → wS p (a ++ b) (t ++ t') = wS p a t + wS p b t'
  | [], b, [], t', _ => by simp [wS]
  | v :: a, b, x :: t, t', h => by rw [List.cons_append, List.cons_append, wS, wS, wS_app (by simpa using h)]; omega
theorem wS_mul {p n : Int} : ∀ {a : List V} {t : List Int}, wS p a (t.map (n * ·)) = n * wS p a t
  | [], t => by simp [wS]
  | v :: a, [] => by simp [wS]
  | v :: a, x :: t => by
    rw [List.map_cons, wS, wS, wS_mul, Int.mul_add]
    split <;> simp
theorem wS_pos {p : Int} : ∀ {a : List V} {t : List Int}, (∀ x ∈ t, 1 ≤ x) → 0 ≤ wS p a t
  | [], t, _ => by simp [wS]
  | v :: a, [], _ => by simp [wS]
  | v :: a, x :: t, h => by
    have h1 := h x List.mem_cons_self
    have h2 := wS_pos (p := p) (a := a) fun y hy => h y (List.mem_cons_of_mem _ hy)
    rw [wS]; split <;> omega
def isF (p : Int) : V → Bool
  | .agg (.int _ kd :: .int _ a :: _) => kd == 1 && a == p
  | _ => false
def nS (p : Int) (l : List V) : Int := (l.countP (isF p) : Nat)
theorem nS_snoc {p : Int} {l : List V} {v : V} : nS p (l ++ [v]) = nS p l + if isF p v then 1 else 0 := by
  unfold nS; rw [List.countP_append, List.countP_singleton]; split <;> simp
structure Lim where
  M : Int
  S : Int → Int
def Lim.ok (L : Lim) (st : St) (co : Int) : Prop := co ≤ L.M ∧ ∀ p, nS p st.ef ≤ L.S p
inductive Wp (b : Bool) (g : Int) (c : List V) (L : Lim) (Q : St → Int → Prop) : St → Int → Prop
  | done {st : St} {co : Int} : Q st co → Wp b g c L Q st co
  | err {st : St} {co op a n : Int} {s : ByteArray} {e : Int} {st' : St} : 0 ≤ st.pc → c[st.pc.toNat]? = some (insS op a n s) → Stp b g op a n s st e st' → e ≠ 0 → L.ok st (co + 1) → Wp b g c L Q st co
  | step {st : St} {co op a n : Int} {s : ByteArray} {st' : St} : 0 ≤ st.pc → c[st.pc.toNat]? = some (insS op a n s) → Stp b g op a n s st 0 st' → Wp b g c L Q st' (co + 1) → Wp b g c L Q st co
theorem wp_seq {b g c L Q Q'} {st : St} {co : Int} (h : Wp b g c L Q st co) : (∀ st' co', Q st' co' → Wp b g c L Q' st' co') → Wp b g c L Q' st co := by
  induction h with
  | done h => exact fun k => k _ _ h
  | err h1 h2 h3 h4 h5 => exact fun _ => .err h1 h2 h3 h4 h5
  | step h1 h2 h3 _ ih => exact fun k => .step h1 h2 h3 (ih k)
def At (c : List V) (q : Nat) (C : List V) : Prop := ∃ A D, c = A ++ (C ++ D) ∧ A.length = q
theorem at_app {c : List V} {q : Nat} {C C' : List V} (h : At c q (C ++ C')) : At c q C ∧ At c (q + C.length) C' := by
  obtain ⟨A, D, rfl, rfl⟩ := h
  exact ⟨⟨A, C' ++ D, by simp, rfl⟩, ⟨A ++ C, D, by simp, by simp⟩⟩
theorem at_cons {c : List V} {q : Nat} {v : V} {C : List V} (h : At c q (v :: C)) : c[((q : Nat) : Int).toNat]? = some v ∧ At c (q + 1) C := by
  obtain ⟨A, D, rfl, rfl⟩ := h
  exact ⟨by rw [Int.toNat_natCast]; simp, ⟨A ++ [v], D, by simp, by simp⟩⟩
def Inv (st : St) : Prop := st.vs.length = 2 ∧ ∀ x ∈ st.vs, InR x
def DoE (b : Bool) (g : Int) (c : List V) (L : Lim) (q : Nat) (C : List V) : Prop := ∀ (l r v : List Int) (ra ef : List V) (co : Int), Inv ⟨q, l, r, v, ra, ef⟩ → co + C.length ≤ L.M → (∀ p, nS p ef ≤ L.S p) →
  Wp b g c L (fun st' co' => co' ≤ co + C.length ∧ ∃ y, InR y ∧ st' = ⟨(q + C.length : Nat), l ++ [y], r, v, ra, ef⟩) ⟨q, l, r, v, ra, ef⟩ co
theorem pl_in {s : ByteArray} : ∀ {l : List V} {i : Int}, (∀ v ∈ l, ∃ t, v = .str t) → .str s ∈ l → ∃ j : Nat, j < l.length ∧ plGo s l i = i + j
  | [], _, _, h => by cases h
  | v :: r, i, hl, h => by
    obtain ⟨t, rfl⟩ := hl v List.mem_cons_self
    unfold plGo
    by_cases e : t.toList = s.toList
    · rw [if_pos e]; exact ⟨0, by simp, by simp⟩
    · rw [if_neg e]
      rcases List.mem_cons.1 h with h | h
      · injection h with h; subst h; exact absurd rfl e
      · obtain ⟨j, h1, h2⟩ := pl_in (i := i + 1) (fun v hv => hl v (List.mem_cons_of_mem _ hv)) h
        exact ⟨j + 1, by simp; omega, by rw [h2]; omega⟩
theorem i64_r {n : Int} (h : I64 n) : InR n := h
section
variable {b : Bool} {g : Int} {c : List V} {L : Lim}
theorem doE_one {q : Nat} {op a n : Int} {s : ByteArray} (hat : At c q [insS op a n s]) (h : ∀ (l r v : List Int) (ra ef : List V), Inv ⟨q, l, r, v, ra, ef⟩ → ∃ y, InR y ∧ Stp b g op a n s ⟨q, l, r, v, ra, ef⟩ 0 ⟨q + 1, l ++ [y], r, v, ra, ef⟩) : DoE b g c L q [insS op a n s] := by
  intro l r v ra ef co hi hm hs
  obtain ⟨y, hy, hst⟩ := h l r v ra ef hi
  rw [List.length_singleton] at *
  exact .step (Int.natCast_nonneg q) (at_cons hat).1 hst (.done ⟨by omega, y, hy, rfl⟩)
theorem doE_then {q : Nat} {C : List V} (h : DoE b g c L q C) {l r v : List Int} {ra ef : List V} {co : Int} {Q : St → Int → Prop} (hi : Inv ⟨q, l, r, v, ra, ef⟩) (hm : co + C.length ≤ L.M) (hs : ∀ p, nS p ef ≤ L.S p)
    (k : ∀ y co', InR y → co' ≤ co + C.length → Wp b g c L Q ⟨(q + C.length : Nat), l ++ [y], r, v, ra, ef⟩ co') : Wp b g c L Q ⟨q, l, r, v, ra, ef⟩ co :=
  wp_seq (h l r v ra ef co hi hm hs) fun st' co' ⟨h1, y, hy, h2⟩ => by subst h2; exact k y co' hy h1
theorem inv_any {p p' : Int} {l l' r r' v : List Int} {ra ra' ef ef' : List V} (h : Inv ⟨p, l, r, v, ra, ef⟩) : Inv ⟨p', l', r', v, ra', ef'⟩ := h
theorem doE_un {q : Nat} {C : List V} {op : Int} (ho : op = 5 ∨ op = 6) (h : DoE b g c L q C) (hat : At c q (C ++ [ins op 0 0])) : DoE b g c L q (C ++ [ins op 0 0]) := by
  intro l r v ra ef co hi hm hs
  rw [List.length_append, List.length_singleton] at *
  refine doE_then h hi (by omega) hs fun y co' hy hco => ?_
  have h1 := (at_cons (at_app hat).2).1
  rcases ho with rfl | rfl
  · by_cases e0 : (over (0 - y)).2 = 0
    · exact .step (Int.natCast_nonneg _) h1 (e0 ▸ Stp.neg hy) (.done ⟨by omega, _, over_r _, rfl⟩)
    · exact .err (Int.natCast_nonneg _) h1 (Stp.neg hy) e0 ⟨by omega, hs⟩
  · exact .step (Int.natCast_nonneg _) h1 Stp.not (.done ⟨by omega, _, tr_r, rfl⟩)
theorem doE_two {q : Nat} {C C' : List V} {op : Int} (h7 : 7 ≤ op) (h17 : op ≤ 17) (h : DoE b g c L q C) (h' : DoE b g c L (q + C.length) C') (hat : At c q (C ++ C' ++ [ins op 0 0])) : DoE b g c L q (C ++ C' ++ [ins op 0 0]) := by
  intro l r v ra ef co hi hm hs
  rw [List.length_append, List.length_append, List.length_singleton] at *
  refine doE_then h hi (by omega) hs fun x co1 hx h1 => ?_
  refine doE_then h' (inv_any hi) (by omega) hs fun y co2 hy h2 => ?_
  have ha := (at_cons (at_app hat).2).1
  rw [List.length_append, ← Nat.add_assoc] at ha
  by_cases e0 : (twoR op x y).2 = 0
  · exact .step (Int.natCast_nonneg _) ha (e0 ▸ Stp.two h7 h17 hx hy) (.done ⟨by omega, _, twoR_r hx hy, by congr 1; omega⟩)
  · exact .err (Int.natCast_nonneg _) ha (Stp.two h7 h17 hx hy) e0 ⟨by omega, hs⟩
theorem r01 : InR 0 ∧ InR 1 := by unfold InR; omega
theorem wp_false {q t : Nat} {l r v : List Int} {ra ef : List V} {co y : Int} {Q : St → Int → Prop} {n : Int} {s : ByteArray} (h : c[((q : Nat) : Int).toNat]? = some (insS 24 (t : Int) n s))
    (h0 : y = 0 → Wp b g c L Q ⟨t, l, r, v, ra, ef⟩ (co + 1)) (h1 : y ≠ 0 → Wp b g c L Q ⟨(q + 1 : Nat), l, r, v, ra, ef⟩ (co + 1)) : Wp b g c L Q ⟨q, l ++ [y], r, v, ra, ef⟩ co := by
  refine .step (Int.natCast_nonneg q) h Stp.fals ?_
  by_cases e : y = 0
  · rw [if_pos e]; exact h0 e
  · rw [if_neg e]; exact h1 e
theorem wp_push {q : Nat} {l r v : List Int} {ra ef : List V} {co n a : Int} {Q : St → Int → Prop} {s : ByteArray} (h : c[((q : Nat) : Int).toNat]? = some (insS 1 a n s)) (hn : InR n) (k : Wp b g c L Q ⟨(q + 1 : Nat), l ++ [n], r, v, ra, ef⟩ (co + 1)) : Wp b g c L Q ⟨q, l, r, v, ra, ef⟩ co :=
  .step (Int.natCast_nonneg q) h (Stp.push hn) k
theorem wp_jump {q t : Nat} {l r v : List Int} {ra ef : List V} {co n : Int} {Q : St → Int → Prop} {s : ByteArray} (h : c[((q : Nat) : Int).toNat]? = some (insS 23 (t : Int) n s)) (k : Wp b g c L Q ⟨t, l, r, v, ra, ef⟩ (co + 1)) : Wp b g c L Q ⟨q, l, r, v, ra, ef⟩ co :=
  .step (Int.natCast_nonneg q) h Stp.jump k
theorem doE_and {q : Nat} {C C' : List V} (h : DoE b g c L q C) (h' : DoE b g c L (q + C.length + 1) C') (hat : At c q (andX q C C')) : DoE b g c L q (andX q C C') := by
  intro l r v ra ef co hi hm hs
  rw [andX_len] at *
  unfold andX at hat
  obtain ⟨a1, a2⟩ := at_app hat
  obtain ⟨a3, a4⟩ := at_cons a2
  obtain ⟨a5, a6⟩ := at_app a4
  obtain ⟨a7, a8⟩ := at_cons a6
  obtain ⟨a9, a10⟩ := at_cons a8
  obtain ⟨a11, a12⟩ := at_cons a10
  obtain ⟨a13, _⟩ := at_cons a12
  have zero : ∀ co', co' ≤ co + C.length + C'.length + 2 → Wp b g c L (fun st' co' => co' ≤ co + ((C.length + C'.length + 5 : Nat) : Int) ∧ ∃ y, InR y ∧ st' = ⟨(q + (C.length + C'.length + 5) : Nat), l ++ [y], r, v, ra, ef⟩) ⟨(q + C.length + 1 + C'.length + 3 : Nat), l, r, v, ra, ef⟩ co' := fun co' hc => by
    refine wp_push (by have := a13; rw [show q + C.length + 1 + C'.length + 1 + 1 + 1 = q + C.length + 1 + C'.length + 3 by omega] at this; exact this) r01.1 (.done ⟨by omega, 0, r01.1, ?_⟩)
    congr 1; omega
  refine doE_then h hi (by omega) hs fun x co1 hx h1 => ?_
  refine wp_false (t := q + C.length + 1 + C'.length + 3) a3 (fun _ => zero _ (by omega)) (fun _ => ?_)
  refine doE_then h' (inv_any hi) (by omega) hs fun y co2 hy h2 => ?_
  refine wp_false (t := q + C.length + 1 + C'.length + 3) a7 (fun _ => zero _ (by omega)) (fun _ => ?_)
  refine wp_push a9 r01.2 ?_
  refine wp_jump (t := q + C.length + 1 + C'.length + 4) a11 (.done ⟨by omega, 1, r01.2, ?_⟩)
  congr 1; omega
theorem doE_or {q : Nat} {C C' : List V} (h : DoE b g c L q C) (h' : DoE b g c L (q + C.length + 3) C') (hat : At c q (orX q C C')) : DoE b g c L q (orX q C C') := by
  intro l r v ra ef co hi hm hs
  rw [orX_len] at *
  unfold orX at hat
  rw [List.append_assoc] at hat
  obtain ⟨a1, a2⟩ := at_app hat
  rw [List.cons_append, List.cons_append, List.cons_append, List.nil_append] at a2
  obtain ⟨a3, a4⟩ := at_cons a2
  obtain ⟨a5, a6⟩ := at_cons a4
  obtain ⟨a7, a8⟩ := at_cons a6
  rw [show q + C.length + 1 + 1 + 1 = q + C.length + 3 by omega] at a8
  obtain ⟨a9, a10⟩ := at_app a8
  obtain ⟨a11, a12⟩ := at_cons a10
  obtain ⟨a13, a14⟩ := at_cons a12
  obtain ⟨a15, a16⟩ := at_cons a14
  obtain ⟨a17, _⟩ := at_cons a16
  have fin : ∀ y co', InR y → co' ≤ co + C.length + C'.length + 5 → Wp b g c L (fun st' co' => co' ≤ co + ((C.length + C'.length + 7 : Nat) : Int) ∧ ∃ y, InR y ∧ st' = ⟨(q + (C.length + C'.length + 7) : Nat), l ++ [y], r, v, ra, ef⟩) ⟨(q + C.length + 3 + C'.length + 4 : Nat), l ++ [y], r, v, ra, ef⟩ co' := fun y co' hy hc => by
    refine .done ⟨by omega, y, hy, ?_⟩
    congr 1; omega
  refine doE_then h hi (by omega) hs fun x co1 hx h1 => ?_
  refine wp_false (t := q + C.length + 3) a3 (fun _ => ?_) (fun _ => ?_)
  · refine doE_then h' (inv_any hi) (by omega) hs fun y co2 hy h2 => ?_
    refine wp_false (t := q + C.length + 3 + C'.length + 3) a11 (fun _ => ?_) (fun _ => ?_)
    · refine wp_push (by have := a17; rw [show q + C.length + 3 + C'.length + 1 + 1 + 1 = q + C.length + 3 + C'.length + 3 by omega] at this; exact this) r01.1 ?_
      exact fin 0 _ r01.1 (by omega)
    · refine wp_push a13 r01.2 (wp_jump (t := q + C.length + 3 + C'.length + 4) a15 (fin 1 _ r01.2 (by omega)))
  · exact wp_push a5 r01.2 (wp_jump (t := q + C.length + 3 + C'.length + 4) a7 (fin 1 _ r01.2 (by omega)))
theorem n0_str : ∀ v ∈ N0.a, ∃ t, v = V.str t := fun v hv => by obtain ⟨t, h, _⟩ := N0_ok.1.2 v hv; exact ⟨t, h⟩
theorem cE_do (hg : InR g) : ∀ {d q : Nat} {x : V}, ExprM N0.a d x → At c q (cE N0 d q x) → DoE b g c L q (cE N0 d q x)
  | 0, _, _, h, _ => h.elim
  | d + 1, q, x, h, hat => by
    obtain ⟨kind, n, nm, kids, rfl, x1, x2, x3, x4, x5, x6, x7, x8⟩ := h
    by_cases h1 : kind = 1
    · have e : cE N0 (d + 1) q (.agg [.int .i64 kind, .int .i64 n, .str nm, .sl 5 kids, .int .i64 0]) = [ins 1 0 n] := by (conv => lhs; unfold cE); rw [if_pos h1]
      rw [e] at hat ⊢
      exact doE_one hat fun l r v ra ef hi => ⟨n, i64_r x1, Stp.push (i64_r x1)⟩
    by_cases h2 : kind = 2
    · have e : cE N0 (d + 1) q (.agg [.int .i64 kind, .int .i64 n, .str nm, .sl 5 kids, .int .i64 0]) = [ins 2 (plN N0.a nm) 0] := by (conv => lhs; unfold cE); rw [if_neg h1, if_pos h2]
      rw [e] at hat ⊢
      obtain ⟨j, hj, hp⟩ := pl_in (i := 0) n0_str (x8 h2)
      have hp' : plN N0.a nm = (j : Int) := by unfold plN; rw [hp]; omega
      rw [hp'] at hat ⊢
      refine doE_one hat fun l r v ra ef hi => ?_
      have hlt : j < v.length := by have := hi.1; simp [N0] at hj; dsimp only at this; omega
      exact ⟨v[j], hi.2 _ (List.getElem_mem hlt), Stp.load (List.getElem?_eq_getElem hlt)⟩
    by_cases h3 : kind = 3
    · have e : cE N0 (d + 1) q (.agg [.int .i64 kind, .int .i64 n, .str nm, .sl 5 kids, .int .i64 0]) = [ins 3 0 0] := by (conv => lhs; unfold cE); rw [if_neg h1, if_neg h2, if_pos h3]
      rw [e] at hat ⊢
      exact doE_one hat fun l r v ra ef hi => ⟨g, hg, Stp.arg⟩
    by_cases h4 : kind = 4
    · have e : cE N0 (d + 1) q (.agg [.int .i64 kind, .int .i64 n, .str nm, .sl 5 kids, .int .i64 0]) = [ins 4 (findN N0.nd nm) 0] := by (conv => lhs; unfold cE); rw [if_neg h1, if_neg h2, if_neg h3, if_pos h4]
      rw [e] at hat ⊢
      exact doE_one hat fun l r v ra ef hi => ⟨_, tr_r, Stp.inn⟩
    have hk : kids.length = 1 ∨ kids.length = 2 := by omega
    match kids, hk, x6, x7, hat with
    | [a], _, x6, x7, hat =>
      have e : cE N0 (d + 1) q (.agg [.int .i64 kind, .int .i64 n, .str nm, .sl 5 [a], .int .i64 0]) = cE N0 d q a ++ [ins kind 0 0] := by (conv => lhs; unfold cE); rw [if_neg h1, if_neg h2, if_neg h3, if_neg h4]
      rw [e] at hat ⊢
      exact doE_un (by simp at x7; omega) (cE_do hg (x6 a (by simp)) (at_app hat).1) hat
    | [a, a'], _, x6, x7, hat =>
      by_cases h18 : kind = 18
      · have e : cE N0 (d + 1) q (.agg [.int .i64 kind, .int .i64 n, .str nm, .sl 5 [a, a'], .int .i64 0]) = andX q (cE N0 d q a) (cE N0 d (q + (cE N0 d q a).length + 1) a') := by (conv => lhs; unfold cE); rw [if_neg h1, if_neg h2, if_neg h3, if_neg h4]; dsimp only; rw [if_pos h18]
        rw [e] at hat ⊢
        have hat' := hat
        unfold andX at hat'
        obtain ⟨a1, a2⟩ := at_app hat'
        exact doE_and (cE_do hg (x6 a (by simp)) a1) (cE_do hg (x6 a' (by simp)) (at_app (at_cons a2).2).1) hat
      by_cases h19 : kind = 19
      · have e : cE N0 (d + 1) q (.agg [.int .i64 kind, .int .i64 n, .str nm, .sl 5 [a, a'], .int .i64 0]) = orX q (cE N0 d q a) (cE N0 d (q + (cE N0 d q a).length + 3) a') := by (conv => lhs; unfold cE); rw [if_neg h1, if_neg h2, if_neg h3, if_neg h4]; dsimp only; rw [if_neg h18, if_pos h19]
        rw [e] at hat ⊢
        have hat' := hat
        unfold orX at hat'
        rw [List.append_assoc] at hat'
        obtain ⟨a1, a2⟩ := at_app hat'
        have a3 := (at_app a2).2
        exact doE_or (cE_do hg (x6 a (by simp)) a1) (cE_do hg (x6 a' (by simp)) (at_app a3).1) hat
      · have e : cE N0 (d + 1) q (.agg [.int .i64 kind, .int .i64 n, .str nm, .sl 5 [a, a'], .int .i64 0]) = cE N0 d q a ++ cE N0 d (q + (cE N0 d q a).length) a' ++ [ins kind 0 0] := by (conv => lhs; unfold cE); rw [if_neg h1, if_neg h2, if_neg h3, if_neg h4]; dsimp only; rw [if_neg h18, if_neg h19]
        rw [e] at hat ⊢
        have a1 := at_app (at_app hat).1
        exact doE_two (by simp at x7; omega) (by omega) (cE_do hg (x6 a (by simp)) a1.1) (cE_do hg (x6 a' (by simp)) a1.2) hat
end
end
section
variable {b : Bool} {g : Int} {c : List V} {L : Lim}
def DoA (b : Bool) (g : Int) (c : List V) (L : Lim) (q : Nat) (C : List V) (t : List Int) : Prop := ∀ (l r v : List Int) (ra ef : List V) (co : Int), Inv ⟨q, l, r, v, ra, ef⟩ → co + smI t ≤ L.M → (∀ p, nS p ef + wS p C t ≤ L.S p) →
  Wp b g c L (fun st' co' => co' ≤ co + smI t ∧ ∃ v' ra' ef', st' = ⟨(q + C.length : Nat), l, r, v', ra', ef'⟩ ∧ Inv st' ∧ ∀ p, nS p ef' ≤ nS p ef + wS p C t) ⟨q, l, r, v, ra, ef⟩ co
theorem doA_then {q : Nat} {C : List V} {t : List Int} (h : DoA b g c L q C t) {l r v : List Int} {ra ef : List V} {co : Int} {Q : St → Int → Prop} (hi : Inv ⟨q, l, r, v, ra, ef⟩) (hm : co + smI t ≤ L.M) (hs : ∀ p, nS p ef + wS p C t ≤ L.S p)
    (k : ∀ v' ra' ef' co', Inv ⟨(q + C.length : Nat), l, r, v', ra', ef'⟩ → co' ≤ co + smI t → (∀ p, nS p ef' ≤ nS p ef + wS p C t) → Wp b g c L Q ⟨(q + C.length : Nat), l, r, v', ra', ef'⟩ co') : Wp b g c L Q ⟨q, l, r, v, ra, ef⟩ co :=
  wp_seq (h l r v ra ef co hi hm hs) fun st' co' ⟨h1, v', ra', ef', h2, h3, h4⟩ => by subst h2; exact k v' ra' ef' co' h3 h1 h4
theorem doA_nil {q : Nat} : DoA b g c L q [] [] := fun l r v ra ef co hi hm hs => .done ⟨by simp [smI], v, ra, ef, by simp, hi, fun p => by simp [wS]⟩
def Ones (t : List Int) : Prop := ∀ x ∈ t, 1 ≤ x
theorem doA_app {q : Nat} {C C' : List V} {t t' : List Int} (ht' : Ones t') (hl : C.length = t.length) (h : DoA b g c L q C t) (h' : DoA b g c L (q + C.length) C' t') : DoA b g c L q (C ++ C') (t ++ t') := by
  intro l r v ra ef co hi hm hs
  rw [smI_app] at hm ⊢
  have h1 := smI_pos ht'
  have h2 := fun p => wS_pos (p := p) (a := C') ht'
  have e := fun p => wS_app (p := p) (a := C) (b := C') (t := t) (t' := t') hl
  refine doA_then h hi (by omega) (fun p => by have := hs p; have := h2 p; have := e p; omega) fun v1 ra1 ef1 co1 hi1 hc1 hn1 => ?_
  refine doA_then h' (inv_any hi1) (by omega) (fun p => by have := hs p; have := hn1 p; have := e p; omega) fun v2 ra2 ef2 co2 hi2 hc2 hn2 => ?_
  refine .done ⟨by omega, v2, ra2, ef2, by rw [List.length_append, Nat.add_assoc], inv_any hi2, fun p => by have := hn1 p; have := hn2 p; have := e p; omega⟩
theorem doA_x {q : Nat} {C : List V} {tx : List Int} {op a n : Int} {s : ByteArray} (h : DoE b g c L q C) (hat : At c q (C ++ [insS op a n s])) (hl : C.length = tx.length) (ht : smI tx = C.length) (hw : ∀ p, 0 ≤ wS p C tx)
    (hx : ∀ (p : Int) (l r v : List Int) (ra ef : List V) (y : Int), InR y → Inv ⟨p, l, r, v, ra, ef⟩ → ∃ e v' ra' ef', Stp b g op a n s ⟨p, l ++ [y], r, v, ra, ef⟩ e ⟨p + 1, l, r, v', ra', ef'⟩ ∧ Inv ⟨p, l, r, v', ra', ef'⟩ ∧ (∀ p, nS p ef' ≤ nS p ef + if isS p (insS op a n s) then 1 else 0)) : DoA b g c L q (C ++ [insS op a n s]) (tx ++ [1]) := by
  intro l r v ra ef co hi hm hs
  have e1 : smI (tx ++ [1]) = C.length + 1 := by rw [smI_app, ht]; rfl
  have e2 : ∀ p, wS p (C ++ [insS op a n s]) (tx ++ [1]) = wS p C tx + if isS p (insS op a n s) then 1 else 0 := fun p => by rw [wS_app hl]; simp [wS]
  rw [e1] at hm ⊢
  refine doE_then h hi (by omega) (fun p => by have := hs p; have := hw p; have := e2 p; split at this <;> omega) fun y co1 hy hc => ?_
  obtain ⟨e, v', ra', ef', k1, k2, k3⟩ := hx (q + C.length : Nat) l r v ra ef y hy (inv_any hi)
  have ha := (at_cons (at_app hat).2).1
  by_cases e0 : e = 0
  · subst e0
    refine .step (Int.natCast_nonneg _) ha k1 (.done ⟨by omega, v', ra', ef', ?_, inv_any k2, fun p => by have := k3 p; have := e2 p; have := hw p; omega⟩)
    rw [List.length_append, List.length_singleton]; congr 1
  · exact .err (Int.natCast_nonneg _) ha k1 e0 ⟨by omega, fun p => by have := hs p; have := hw p; have := e2 p; dsimp only; split at this <;> omega⟩
theorem isS_no {p op a n : Int} {s : ByteArray} (h : op ≠ 20) : isS p (insS op a n s) = false := by simp [isS, insS, h]
theorem doA_loop {q : Nat} {B : List V} {tb : List Int} {n : Int} (h1 : 1 ≤ n) (h2 : n ≤ 16) (ht : Ones tb) (hl : B.length = tb.length) (hq : q ≤ 900000) (h : DoA b g c L (q + 1) B tb) (hat : At c q (loopX q n B)) : DoA b g c L q (loopX q n B) (1 :: (tb.map (n * ·) ++ [n])) := by
  intro l r v ra ef co hi hm hs
  have p1 := smI_pos ht
  have p2 := fun p => wS_pos (p := p) (a := B) ht
  have e1 : smI (1 :: (tb.map (n * ·) ++ [n])) = 1 + (n * smI tb + n) := by rw [smI, smI_app, smI_mul]; simp [smI]
  have e2 : ∀ p, wS p (loopX q n B) (1 :: (tb.map (n * ·) ++ [n])) = n * wS p B tb := fun p => by
    unfold loopX
    rw [wS, show ins 25 (q + B.length + 2 : Nat) n = insS 25 (q + B.length + 2 : Nat) n ⟨#[]⟩ from rfl, isS_no (by omega), wS_app (by simpa using hl), wS_mul, wS, show ins 26 (q : Int) 0 = insS 26 q 0 ⟨#[]⟩ from rfl, isS_no (by omega)]
    simp [wS]
  unfold loopX at hat
  obtain ⟨a1, a2⟩ := at_cons hat
  obtain ⟨a3, a4⟩ := at_app a2
  obtain ⟨a5, _⟩ := at_cons a4
  have round : ∀ (m : Nat), (m : Int) < 16 → ∀ (v : List Int) (ra ef : List V) (co : Int), Inv ⟨q, l, r, v, ra, ef⟩ → co + ((m : Int) * (smI tb + 1) + (smI tb + 1)) ≤ L.M → (∀ p, nS p ef + ((m : Int) * wS p B tb + wS p B tb) ≤ L.S p) →
      Wp b g c L (fun st' co' => co' ≤ co + ((m : Int) * (smI tb + 1) + (smI tb + 1)) ∧ ∃ v' ra' ef', st' = ⟨(q + B.length + 2 : Nat), l, r, v', ra', ef'⟩ ∧ Inv st' ∧ ∀ p, nS p ef' ≤ nS p ef + ((m : Int) * wS p B tb + wS p B tb)) ⟨(q + 1 : Nat), l, r ++ [(m : Int) + 1], v, ra, ef⟩ co := by
    intro m
    induction m with
    | zero =>
      intro hm16 v ra ef co hi hm hs
      refine doA_then h (inv_any hi) (by omega) (fun p => by have := hs p; omega) fun v1 ra1 ef1 co1 hi1 hc1 hn1 => ?_
      refine .step (Int.natCast_nonneg _) a5 (Stp.next0 (by omega) (by omega)) (.done ⟨by omega, v1, ra1, ef1, by congr 1; omega, inv_any hi1, fun p => by have := hn1 p; omega⟩)
    | succ m ih =>
      intro hm16 v ra ef co hi hm hs
      have m1 : ((m + 1 : Nat) : Int) * (smI tb + 1) = (m : Int) * (smI tb + 1) + (smI tb + 1) := by rw [Int.natCast_add, Int.add_mul]; simp
      have m2 : ∀ p, ((m + 1 : Nat) : Int) * wS p B tb = (m : Int) * wS p B tb + wS p B tb := fun p => by rw [Int.natCast_add, Int.add_mul]; simp
      have p3 : 0 ≤ (m : Int) * (smI tb + 1) := Int.mul_nonneg (by omega) (by omega)
      have p4 : ∀ p, 0 ≤ (m : Int) * wS p B tb := fun p => Int.mul_nonneg (by omega) (p2 p)
      rw [m1] at hm ⊢
      refine doA_then h (inv_any hi) (by omega) (fun p => by have := hs p; have := m2 p; have := p4 p; have := p2 p; omega) fun v1 ra1 ef1 co1 hi1 hc1 hn1 => ?_
      refine .step (Int.natCast_nonneg _) a5 (Stp.next1 (by omega) (by omega) (by omega) (by omega)) ?_
      have := ih (by omega) v1 ra1 ef1 (co1 + 1) (inv_any hi1) (by omega) (fun p => by have := hs p; have := hn1 p; have := m2 p; omega)
      rw [show (((m + 1 : Nat) : Int) + 1 - 1) = (m : Int) + 1 by omega]
      refine wp_seq this fun st' co' ⟨k1, v', ra', ef', k2, k3, k4⟩ => .done ⟨by omega, v', ra', ef', k2, k3, fun p => by have := k4 p; have := hn1 p; have := m2 p; omega⟩
  obtain ⟨m, rfl⟩ : ∃ m : Nat, n = (m : Int) + 1 := ⟨(n - 1).toNat, by omega⟩
  have f1 : ((m : Int) + 1) * smI tb + ((m : Int) + 1) = (m : Int) * (smI tb + 1) + (smI tb + 1) := by rw [Int.add_mul, Int.mul_add]; omega
  have f2 : ∀ p, ((m : Int) + 1) * wS p B tb = (m : Int) * wS p B tb + wS p B tb := fun p => by rw [Int.add_mul]; omega
  rw [e1, f1] at hm ⊢
  refine .step (Int.natCast_nonneg q) a1 Stp.loop ?_
  have := round m (by omega) v ra ef (co + 1) (inv_any hi) (by omega) (fun p => by have := hs p; rw [e2, f2] at this; exact this)
  refine wp_seq this fun st' co' ⟨k1, v', ra', ef', k2, k3, k4⟩ => .done ⟨by omega, v', ra', ef', ?_, k3, fun p => by rw [e2, f2]; exact k4 p⟩
  rw [k2, loopX_len]
  congr 1
theorem doA_if {q : Nat} {E B : List V} {tx tb : List Int} (hlx : E.length = tx.length) (htx : smI tx = E.length) (hx1 : Ones tx) (ht : Ones tb) (h : DoE b g c L q E) (h' : DoA b g c L (q + E.length + 1) B tb) (hat : At c q (ifX q E B)) : DoA b g c L q (ifX q E B) (tx ++ 1 :: tb) := by
  intro l r v ra ef co hi hm hs
  have p1 := smI_pos ht
  have p2 := fun p => wS_pos (p := p) (a := B) ht
  have p3 := fun p => wS_pos (p := p) (a := E) hx1
  have e1 : smI (tx ++ 1 :: tb) = E.length + 1 + smI tb := by rw [smI_app, htx, smI]; omega
  have e2 : ∀ p, wS p (ifX q E B) (tx ++ 1 :: tb) = wS p E tx + wS p B tb := fun p => by
    unfold ifX
    rw [wS_app hlx, wS, show ins 24 (q + E.length + 1 + B.length : Nat) 0 = insS 24 (q + E.length + 1 + B.length : Nat) 0 ⟨#[]⟩ from rfl, isS_no (by omega)]; simp
  rw [e1] at hm ⊢
  unfold ifX at hat
  obtain ⟨a1, a2⟩ := at_app hat
  obtain ⟨a3, a4⟩ := at_cons a2
  refine doE_then h hi (by omega) (fun p => by have := hs p; have := e2 p; have := p2 p; have := p3 p; omega) fun y co1 hy hc => ?_
  refine wp_false (t := q + E.length + 1 + B.length) a3 (fun _ => ?_) (fun _ => ?_)
  · refine .done ⟨by omega, v, ra, ef, by rw [ifX_len]; congr 1; omega, inv_any hi, fun p => by have := e2 p; have := p2 p; have := p3 p; omega⟩
  · refine doA_then h' (inv_any hi) (by omega) (fun p => by have := hs p; have := e2 p; have := p3 p; omega) fun v1 ra1 ef1 co2 hi1 hc1 hn1 => ?_
    exact .done ⟨by omega, v1, ra1, ef1, by rw [ifX_len]; congr 1; omega, inv_any hi1, fun p => by have := e2 p; have := hn1 p; have := p3 p; omega⟩
theorem doA_el {q : Nat} {E B C : List V} {tx tb tc : List Int} (hlx : E.length = tx.length) (hlb : B.length = tb.length) (htx : smI tx = E.length) (hx1 : Ones tx) (ht : Ones tb) (htc : Ones tc) (h : DoE b g c L q E) (h' : DoA b g c L (q + E.length + 1) B tb) (h'' : DoA b g c L (q + E.length + 1 + B.length + 1) C tc) (hat : At c q (elX q E B C)) : DoA b g c L q (elX q E B C) (tx ++ 1 :: (tb ++ 1 :: tc)) := by
  intro l r v ra ef co hi hm hs
  have p1 := smI_pos ht
  have p1' := smI_pos htc
  have p2 := fun p => wS_pos (p := p) (a := B) ht
  have p2' := fun p => wS_pos (p := p) (a := C) htc
  have p3 := fun p => wS_pos (p := p) (a := E) hx1
  have e1 : smI (tx ++ 1 :: (tb ++ 1 :: tc)) = E.length + 1 + smI tb + 1 + smI tc := by rw [smI_app, htx, smI, smI_app, smI]; omega
  have e2 : ∀ p, wS p (elX q E B C) (tx ++ 1 :: (tb ++ 1 :: tc)) = wS p E tx + wS p B tb + wS p C tc := fun p => by
    unfold elX
    rw [wS_app hlx, wS, show ∀ i : Nat, ins 24 (i : Int) 0 = insS 24 i 0 ⟨#[]⟩ from fun _ => rfl, isS_no (by omega), wS_app hlb, wS, show ∀ i : Nat, ins 23 (i : Int) 0 = insS 23 i 0 ⟨#[]⟩ from fun _ => rfl, isS_no (by omega)]; simp; omega
  rw [e1] at hm ⊢
  unfold elX at hat
  obtain ⟨a1, a2⟩ := at_app hat
  obtain ⟨a3, a4⟩ := at_cons a2
  obtain ⟨a5, a6⟩ := at_app a4
  obtain ⟨a7, a8⟩ := at_cons a6
  refine doE_then h hi (by omega) (fun p => by have := hs p; have := e2 p; have := p2 p; have := p2' p; have := p3 p; omega) fun y co1 hy hc => ?_
  refine wp_false (t := q + E.length + 1 + B.length + 1) a3 (fun _ => ?_) (fun _ => ?_)
  · refine doA_then h'' (inv_any hi) (by omega) (fun p => by have := hs p; have := e2 p; have := p3 p; have := p2 p; omega) fun v1 ra1 ef1 co2 hi1 hc1 hn1 => ?_
    exact .done ⟨by omega, v1, ra1, ef1, by rw [elX_len]; congr 1; omega, inv_any hi1, fun p => by have := e2 p; have := hn1 p; have := p3 p; have := p2 p; omega⟩
  · refine doA_then h' (inv_any hi) (by omega) (fun p => by have := hs p; have := e2 p; have := p3 p; have := p2' p; omega) fun v1 ra1 ef1 co2 hi1 hc1 hn1 => ?_
    refine wp_jump (t := q + E.length + 1 + B.length + 1 + C.length) a7 ?_
    exact .done ⟨by omega, v1, ra1, ef1, by rw [elX_len]; congr 1; omega, inv_any hi1, fun p => by have := e2 p; have := hn1 p; have := p3 p; have := p2' p; omega⟩
theorem sh_ones {F : Nat → List V} {t : List Int} {m : Int} (h : Sh F t m) : Ones t := fun x hx => (h.2 x hx).1
theorem cX_do (hg : InR g) {x : List V} (hx : ∀ e ∈ x, ExprM N0.a 3 e) : ∃ t, Sh (fun q => cX N0 q x) t 1 ∧ ∀ (L : Lim) q, At c q (cX N0 q x) → DoE b g c L q (cX N0 q x) ∧ (cX N0 q x).length = t.length ∧ smI t = (cX N0 q x).length := by
  obtain ⟨t, ht⟩ := cX_sh (N := N0) (x := x) fun e he => (hx e he).s
  refine ⟨t, ht, fun L q hat => ⟨?_, sh_len ht q, by rw [sh_len ht q]; exact smI_ones ht.2⟩⟩
  cases x with
  | nil => exact doE_one hat fun l r v ra ef hi => ⟨0, r01.1, Stp.push r01.1⟩
  | cons e r => exact cE_do hg (hx e List.mem_cons_self) hat
def ActDo (b : Bool) (g : Int) (c : List V) (F : Nat → List V) (m : Int) : Prop := ∃ t, Sh F t m ∧ ∀ (L : Lim) q, At c q (F q) → DoA b g c L q (F q) t
theorem cR_do {F : Nat → V → List V} {m : Int} : ∀ {l : List V}, (∀ a ∈ l, ActDo b g c (fun q => F q a) m) → ActDo b g c (fun q => cR F q l) m
  | [], _ => ⟨[], sh_nil, fun L q _ => doA_nil⟩
  | a :: r, h => by
    obtain ⟨t, ht, k⟩ := h a List.mem_cons_self
    obtain ⟨t', ht', k'⟩ := cR_do fun a ha => h a (List.mem_cons_of_mem _ ha)
    refine ⟨t ++ t', sh_app ht ht', fun L q hat => ?_⟩
    obtain ⟨a1, a2⟩ := at_app hat
    exact doA_app (sh_ones ht') (sh_len ht q) (k L q a1) (k' L _ a2)
theorem actdo_mono {F : Nat → List V} {m m' : Int} (h : ActDo b g c F m) (hm : m ≤ m') : ActDo b g c F m' := by
  obtain ⟨t, h1, h2⟩ := h
  exact ⟨t, sh_mono h1 hm, h2⟩
theorem actdo_eq {F F' : Nat → List V} {m : Int} (h : ActDo b g c F m) (he : ∀ q, F' q = F q) : ActDo b g c F' m := by
  have : F' = F := funext he
  rw [this]; exact h
theorem inv_set {p p' : Int} {l l' r r' v : List Int} {ra ra' ef ef' : List V} {i : Nat} {x : Int} (h : Inv ⟨p, l, r, v, ra, ef⟩) (hx : InR x) : Inv ⟨p', l', r', v.set i x, ra', ef'⟩ := by
  refine ⟨by simpa using h.1, fun y hy => ?_⟩
  rcases List.mem_or_eq_of_mem_set hy with hy | rfl
  · exact h.2 y hy
  · exact hx
theorem isF_no {p kd a n : Int} {s : ByteArray} (h : kd ≠ 1) : isF p (.agg [.int .i64 kd, .int .i64 a, .str s, .int .i64 n]) = false := by simp [isF, h]
theorem cA_do (hg : InR g) (hc : c.length ≤ 9999) : ∀ {d : Nat} {a : V}, ActM N0.a N0.p d a → ActDo b g c (fun q => cA N0 d q a) (cm d)
  | 0, _, h => h.elim
  | d + 1, a, h => by
    obtain ⟨kind, nm, ev, x, n, th, el, rfl, x1, x2, x3, x4, x5, x6, x7, x8, x9, x10, x11, x12, x13, x14⟩ := h
    have hp := cm_pos d
    have hcm : cm (d + 1) = 16 * cm d := rfl
    obtain ⟨tx, hx1, hxd⟩ := cX_do (b := b) (g := g) (c := c) hg x7
    have hx := sh_mono hx1 (m' := cm d) (by omega)
    have hx' := sh_mono hx1 (m' := cm (d + 1)) (by omega)
    have hox := sh_ones hx1
    obtain ⟨tt, ht, htd⟩ := cR_do (F := cA N0 d) (m := cm d) (l := th) fun a ha => cA_do hg hc (x11 a ha)
    obtain ⟨te, he, hed⟩ := cR_do (F := cA N0 d) (m := cm d) (l := el) fun a ha => cA_do hg hc (x12 a ha)
    have xs : ∀ {op a n : Int} {s : ByteArray}, op ≤ 22 → (∀ (p : Int) (l r v : List Int) (ra ef : List V) (y : Int), InR y → Inv ⟨p, l, r, v, ra, ef⟩ → ∃ e v' ra' ef', Stp b g op a n s ⟨p, l ++ [y], r, v, ra, ef⟩ e ⟨p + 1, l, r, v', ra', ef'⟩ ∧ Inv ⟨p, l, r, v', ra', ef'⟩ ∧ (∀ p, nS p ef' ≤ nS p ef + if isS p (insS op a n s) then 1 else 0)) →
        ActDo b g c (fun q => cX N0 q x ++ [insS op a n s]) (cm (d + 1)) := fun {op a n s} h22 hs => by
      refine ⟨tx ++ [1], sh_app hx' (sh_one (by omega) h22), fun L q hat => ?_⟩
      obtain ⟨k1, k2, k3⟩ := hxd L q (at_app hat).1
      exact doA_x k1 hat k2 k3 (fun p => wS_pos hox) hs
    by_cases h1 : kind = 1
    · refine actdo_eq (F := fun q => cX N0 q x ++ [insS 18 (plN N0.a nm) 0 ⟨#[]⟩]) ?_ fun q => by (conv => lhs; unfold cA); rw [if_pos h1]; rfl
      obtain ⟨j, hj, hpl⟩ := pl_in (i := 0) n0_str (x13 h1)
      have hp' : plN N0.a nm = (j : Int) := by unfold plN; rw [hpl]; omega
      rw [hp']
      refine xs (op := 18) (by omega) fun p l r v ra ef y hy hi => ?_
      have hlt : j < v.length := by have := hi.1; simp [N0] at hj; dsimp only at this; omega
      exact ⟨0, _, _, _, Stp.store hlt, inv_set hi hy, fun p => by rw [isS_no (by omega)]; simp⟩
    by_cases h2 : kind = 2
    · refine actdo_eq (F := fun q => cX N0 q x ++ [insS 19 0 0 ev]) ?_ fun q => by (conv => lhs; unfold cA); rw [if_neg h1, if_pos h2]
      refine xs (op := 19) (by omega) fun p l r v ra ef y hy hi => ?_
      exact ⟨0, _, _, _, Stp.raise, inv_any hi, fun p => by rw [isS_no (by omega)]; simp⟩
    by_cases h3 : kind = 3
    · refine actdo_eq (F := fun q => cX N0 q x ++ [insS 20 (plN N0.p nm) 0 ev]) ?_ fun q => by (conv => lhs; unfold cA); rw [if_neg h1, if_neg h2, if_pos h3]
      refine xs (op := 20) (by omega) fun p l r v ra ef y hy hi => ?_
      refine ⟨0, _, _, _, Stp.send, inv_any hi, fun p => ?_⟩
      rw [nS_snoc]
      have : isF p (.agg [.int .i64 1, .int .i64 (plN N0.p nm), .str ev, .int .i64 y]) = isS p (insS 20 (plN N0.p nm) 0 ev) := by simp [isF, isS, insS]
      rw [this]; exact Int.le_refl _
    by_cases h4 : kind = 4
    · refine actdo_eq (F := fun q => cX N0 q x ++ [insS 21 (plN N0.t nm) 0 ⟨#[]⟩]) ?_ fun q => by (conv => lhs; unfold cA); rw [if_neg h1, if_neg h2, if_neg h3, if_pos h4]; rfl
      refine xs (op := 21) (by omega) fun p l r v ra ef y hy hi => ?_
      by_cases hy1 : 1 ≤ y ∧ y ≤ 65536
      · exact ⟨0, _, _, _, Stp.arm hy1.1 hy1.2, inv_any hi, fun p => by rw [isS_no (by omega), nS_snoc, isF_no (by omega)]; simp⟩
      · exact ⟨1, _, _, _, Stp.armE (by omega), inv_any hi, fun p => by rw [isS_no (by omega)]; simp⟩
    by_cases h5 : kind = 5
    · refine actdo_eq (F := fun q => [ins 22 (plN N0.t nm) 0]) ?_ fun q => by (conv => lhs; unfold cA); rw [if_neg h1, if_neg h2, if_neg h3, if_neg h4, if_pos h5]
      refine ⟨[1], sh_one (op := 22) (a := plN N0.t nm) (n := 0) (s := ⟨#[]⟩) (by omega) (by omega), fun L q hat => ?_⟩
      intro l r v ra ef co hi hm hs
      have ha := (at_cons hat).1
      refine .step (Int.natCast_nonneg q) ha Stp.cancel (.done ⟨by simp [smI], v, ra, _, rfl, inv_any hi, fun p => ?_⟩)
      have := hs p
      rw [nS_snoc, isF_no (by omega)]
      have := wS_pos (p := p) (a := [ins 22 (plN N0.t nm) 0]) (t := [1]) (by simp)
      simp; omega
    by_cases h7 : kind = 7
    · obtain ⟨n1, n2⟩ := x1.2 h7
      refine actdo_eq (F := fun q => loopX q n (cR (cA N0 d) (q + 1) th)) ?_ fun q => by (conv => lhs; unfold cA); rw [if_neg h1, if_neg h2, if_neg h3, if_neg h4, if_neg h5, if_pos h7]
      refine ⟨_, sh_loop n1 n2 hp ht, fun L q hat => ?_⟩
      have hat' := hat
      unfold loopX at hat'
      have hq : q ≤ 900000 := by
        obtain ⟨A, D, e1, e2⟩ := hat'
        have := congrArg List.length e1
        simp at this; omega
      exact doA_loop n1 n2 (sh_ones ht) (sh_len ht _) hq (htd L _ (at_app (at_cons hat').2).1) hat
    have hch : ∀ q, cA N0 (d + 1) q (.agg [.int .i64 kind, .str nm, .str ev, .sl 5 x, .int .i64 n, .sl 8 th, .sl 8 el, .int .i64 0]) = chX (cA N0 d) q (cX N0 q x) th el := fun q => by (conv => lhs; unfold cA); rw [if_neg h1, if_neg h2, if_neg h3, if_neg h4, if_neg h5, if_neg h7]
    refine actdo_eq (actdo_mono ?_ (m := cm d) (by omega)) hch
    cases el with
    | nil =>
      refine ⟨_, sh_if hp hx ht, fun L q hat => ?_⟩
      have hat' := hat
      unfold chX ifX at hat'
      obtain ⟨a1, a2⟩ := at_app hat'
      obtain ⟨k1, k2, k3⟩ := hxd L q a1
      exact doA_if k2 k3 hox (sh_ones ht) k1 (htd L _ (at_cons a2).2) hat
    | cons e r =>
      refine ⟨_, sh_el hp hx ht he, fun L q hat => ?_⟩
      have hat' := hat
      unfold chX elX at hat'
      obtain ⟨a1, a2⟩ := at_app hat'
      obtain ⟨k1, k2, k3⟩ := hxd L q a1
      obtain ⟨a5, a6⟩ := at_app (at_cons a2).2
      exact doA_el k2 (sh_len ht _) k3 hox (sh_ones ht) (sh_ones he) k1 (htd L _ a5) (hed L _ (at_cons a6).2) hat
theorem cBl_do (hg : InR g) (hc : c.length ≤ 9999) {d : Nat} {l : List V} (h : BlockM N0.a N0.p d l) : ActDo b g c (fun q => cR (cA N0 d) q l) (cm d) := cR_do fun a ha => cA_do hg hc (h.2 a ha)
end
end Go.Proofs.Ytdfjodnkplbffaa.Vm
