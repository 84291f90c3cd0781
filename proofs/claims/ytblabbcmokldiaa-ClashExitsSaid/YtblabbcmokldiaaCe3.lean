/- Functions of the program, told by the machine of values, and what they answer: part 3. -/
import Derived.Test.YtblabbcmokldiaaCe1
import Derived.Test.YtblabbcmokldiaaCe2
import Derived.Test.YtblabbcmokldiaaV4
open Go Go.VM
set_option linter.unusedVariables false
set_option maxRecDepth 100000
set_option maxHeartbeats 4000000
namespace Go.Proofs.Ytblabbcmokldiaa.Vm
/-! ### (*cotillion/cotillionref21.laying).states: function 104 -/
def P104_2h : Pat := { tmps := unds [.stat (.one (.ptr 0 0) .pt), .var (.sl 7) .ro, .undef, .undef, .var (.int .i64) .pr, .stat (.one (.ptr 6 0) .pt), .var (.int .i64) .pr, .undef, .undef, .var (.int .i64) .pr] 136 [], boxes := nons [some [.var .str .pr false, .var (.int .i64) .pr false, .var (.int .i64) .pr false, .var (.sl 1) .ro true, .var (.sl 1) .ro true, .var (.sl 1) .ro true, .var (.sl 7) (.own true) false, .var (.sl 6) (.own true) false, .var (.sl 1) (.own true) false, .var (.sl 1) .ro true, .var (.sl 1) .ro true, .var (.sl 1) .ro true, .var (.sl 7) .ro true]] 5 (nons [some [.var (.int .i64) .pr false, .var .str .pr false, .var .any .ro false, .var .any .ro false, .var .any .ro false, .var .any .ro false, .var (.int .i64) .pr false]] 140 []) }
def P104_2x : Pat := { tmps := unds [.stat (.one (.ptr 0 0) .pt), .var (.sl 7) .ro, .undef, .undef, .var (.int .i64) .pr, .stat (.one (.ptr 6 0) .pt)] 140 [], boxes := nons [some [.var .str .pr false, .var (.int .i64) .pr false, .var (.int .i64) .pr false, .var (.sl 1) .ro true, .var (.sl 1) .ro true, .var (.sl 1) .ro true, .var (.sl 7) (.own true) false, .var (.sl 6) (.own true) false, .var (.sl 1) (.own true) false, .var (.sl 1) .ro true, .var (.sl 1) .ro true, .var (.sl 1) .ro true, .var (.sl 7) .ro true]] 5 (nons [some [.var (.int .i64) .pr false, .var .str .pr false, .var .any .ro false, .var .any .ro false, .var .any .ro false, .var .any .ro false, .var (.int .i64) .pr false]] 140 []) }
def b104_2 {R : Type} (G : ORC R) (k : Nat) (X : List V → Int → Int → Int → ByteArray → Int → Int → List V → List V → List V → List V → List V → List V → List V → List V → List V → List V → Int → ByteArray → V → V → V → V → Int → Option R) (Ko : List V → Int → ByteArray → Int → Int → List V → List V → List V → List V → List V → List V → List V → List V → List V → List V → Int → ByteArray → V → V → V → V → Int → Option R) (xl99 : List V) (xi100 xi101 xi102 : Int) (xs103 : ByteArray) (xi104 xi105 : Int) (xl106 xl107 : List V) (xl108 xl109 : List V) (xl110 xl111 : List V) (xl112 xl113 : List V) (xl114 xl115 : List V) (xi116 : Int) (xs117 : ByteArray) (xv118 xv119 : V) (xv120 xv121 : V) (xi122 : Int) : Option R :=
  (V.asSl xv120 fun z123 l124 => (bif (decide (xi102 < ((List.length l124 : Nat) : Int))) then (V.asSl xv120 fun z125 l126 => (bif (((z125 == 5) && (decide (0 ≤ xi102))) && (decide (xi102 < ((List.length l126 : Nat) : Int)))) then (nthK l126 (Int.toNat xi102) fun e127 => (V.asAgg e127 fun l128 => (ce5 l128 fun c129 c130 c131 c132 c133 => (V.asStr c129 fun s140 => (V.asSl c130 fun z141 l142 => (V.asStr c131 fun s143 => (V.asSl c132 fun z144 l145 => (aI .i64 c133 fun n146 => (G 19 [(.sl 7 xl109), (.str s143)] fun o147 => (uI .i64 o147 fun n149 r148 => (unNil r148 (bif (decide (n149 ≥ 0)) then (G 40 [(.sl 7 xl109), (.int .i64 xi101), (.int .i64 n149)] fun o150 => (uI .i64 o150 fun n152 r151 => (unNil r151 (bif (decide (((List.length l142 : Nat) : Int) > 0)) then (bif (((z141 == 5) && true) && (decide (0 < ((List.length l142 : Nat) : Int)))) then (nthK l142 0 fun e153 => (V.asAgg e153 fun l154 => (G 126 [(.agg l154), (.agg [(.sl 1 xl112), (.sl 1 xl113), (.sl 1 xl114), (.sl 7 xl115)])] fun o155 => (uL 4 o155 fun l157 r156 => (unNil r156 (bif (decide (List.length xl111 + 1 ≤ 1073741824)) then (G 125 [(.sl z144 l145), (.str xs103), (.int .i64 xi104), (.int .i64 xi105), (.sl 1 xl106), (.sl 1 xl107), (.sl 1 xl108), (.sl 7 xl109), (.sl 6 xl110), (.sl 1 (xl111 ++ [(.sl 4 l157)])), (.sl 1 xl112), (.sl 1 xl113), (.sl 1 xl114), (.sl 7 xl115)] fun o158 => (uI .i64 o158 fun n160 r159 => (uS r159 fun s162 r161 => (uI .i64 r161 fun n164 r163 => (uI .i64 r163 fun n166 r165 => (uL 1 r165 fun l168 r167 => (unNil r167 (bif (decide (List.length xl110 + 1 ≤ 1073741824)) then (X xl99 xi100 xi101 (IntKind.i64.wrap (xi102 + 1)) s162 n164 n166 xl106 xl107 xl108 xl109 (xl110 ++ [(.agg [(.int .i64 xi101), (.int .i64 n149), (.int .i64 n152), (.int .i64 (IntKind.i64.wrap (((List.length (xl111 ++ [(.sl 4 l157)]) : Nat) : Int) - 1))), (.int .i64 n160), (.str s140)])]) l168 xl112 xl113 xl114 xl115 xi116 xs117 xv118 xv119 xv120 xv121 xi122) else none)))))))) else none)))))) else none) else (G 125 [(.sl z144 l145), (.str xs103), (.int .i64 xi104), (.int .i64 xi105), (.sl 1 xl106), (.sl 1 xl107), (.sl 1 xl108), (.sl 7 xl109), (.sl 6 xl110), (.sl 1 xl111), (.sl 1 xl112), (.sl 1 xl113), (.sl 1 xl114), (.sl 7 xl115)] fun o169 => (uI .i64 o169 fun n171 r170 => (uS r170 fun s173 r172 => (uI .i64 r172 fun n175 r174 => (uI .i64 r174 fun n177 r176 => (uL 1 r176 fun l179 r178 => (unNil r178 (bif (decide (List.length xl110 + 1 ≤ 1073741824)) then (X xl99 xi100 xi101 (IntKind.i64.wrap (xi102 + 1)) s173 n175 n177 xl106 xl107 xl108 xl109 (xl110 ++ [(.agg [(.int .i64 xi101), (.int .i64 n149), (.int .i64 n152), (.int .i64 (-1)), (.int .i64 n171), (.str s140)])]) l179 xl112 xl113 xl114 xl115 xi116 xs117 xv118 xv119 xv120 xv121 xi122) else none)))))))))))) else (bif (decide (((List.length l142 : Nat) : Int) > 0)) then (bif (((z141 == 5) && true) && (decide (0 < ((List.length l142 : Nat) : Int)))) then (nthK l142 0 fun e180 => (V.asAgg e180 fun l181 => (G 126 [(.agg l181), (.agg [(.sl 1 xl112), (.sl 1 xl113), (.sl 1 xl114), (.sl 7 xl115)])] fun o182 => (uL 4 o182 fun l184 r183 => (unNil r183 (bif (decide (List.length xl111 + 1 ≤ 1073741824)) then (G 125 [(.sl z144 l145), (.str xs103), (.int .i64 xi104), (.int .i64 xi105), (.sl 1 xl106), (.sl 1 xl107), (.sl 1 xl108), (.sl 7 xl109), (.sl 6 xl110), (.sl 1 (xl111 ++ [(.sl 4 l184)])), (.sl 1 xl112), (.sl 1 xl113), (.sl 1 xl114), (.sl 7 xl115)] fun o185 => (uI .i64 o185 fun n187 r186 => (uS r186 fun s189 r188 => (uI .i64 r188 fun n191 r190 => (uI .i64 r190 fun n193 r192 => (uL 1 r192 fun l195 r194 => (unNil r194 (bif (decide (List.length xl110 + 1 ≤ 1073741824)) then (X xl99 xi100 xi101 (IntKind.i64.wrap (xi102 + 1)) s189 n191 n193 xl106 xl107 xl108 xl109 (xl110 ++ [(.agg [(.int .i64 xi101), (.int .i64 n149), (.int .i64 (-1)), (.int .i64 (IntKind.i64.wrap (((List.length (xl111 ++ [(.sl 4 l184)]) : Nat) : Int) - 1))), (.int .i64 n187), (.str s140)])]) l195 xl112 xl113 xl114 xl115 xi116 xs117 xv118 xv119 xv120 xv121 xi122) else none)))))))) else none)))))) else none) else (G 125 [(.sl z144 l145), (.str xs103), (.int .i64 xi104), (.int .i64 xi105), (.sl 1 xl106), (.sl 1 xl107), (.sl 1 xl108), (.sl 7 xl109), (.sl 6 xl110), (.sl 1 xl111), (.sl 1 xl112), (.sl 1 xl113), (.sl 1 xl114), (.sl 7 xl115)] fun o196 => (uI .i64 o196 fun n198 r197 => (uS r197 fun s200 r199 => (uI .i64 r199 fun n202 r201 => (uI .i64 r201 fun n204 r203 => (uL 1 r203 fun l206 r205 => (unNil r205 (bif (decide (List.length xl110 + 1 ≤ 1073741824)) then (X xl99 xi100 xi101 (IntKind.i64.wrap (xi102 + 1)) s200 n202 n204 xl106 xl107 xl108 xl109 (xl110 ++ [(.agg [(.int .i64 xi101), (.int .i64 n149), (.int .i64 (-1)), (.int .i64 (-1)), (.int .i64 n198), (.str s140)])]) l206 xl112 xl113 xl114 xl115 xi116 xs117 xv118 xv119 xv120 xv121 xi122) else none))))))))))))))))))))) else none)) else (Ko xl99 xi100 xs103 xi104 xi105 xl106 xl107 xl108 xl109 xl110 xl111 xl112 xl113 xl114 xl115 xi116 xs117 xv118 xv119 xv120 xv121 xi122)))
def l104_2g {R : Type} (G : ORC R) (k : Nat) (Ko : List V → Int → ByteArray → Int → Int → List V → List V → List V → List V → List V → List V → List V → List V → List V → List V → Int → ByteArray → V → V → V → V → Int → Option R) : Nat → List V → Int → Int → Int → ByteArray → Int → Int → List V → List V → List V → List V → List V → List V → List V → List V → List V → List V → Int → ByteArray → V → V → V → V → Int → Option R
  | 0 => fun _ _ _ _ _ _ _ _ _ _ _ _ _ _ _ _ _ _ _ _ _ _ _ _ => none
  | j + 1 => b104_2 G k (l104_2g G k Ko j) Ko
def l104_2 {R : Type} (G : ORC R) (k : Nat) (xl99 : List V) (xi100 xi101 xi102 : Int) (xs103 : ByteArray) (xi104 xi105 : Int) (xl106 xl107 : List V) (xl108 xl109 : List V) (xl110 xl111 : List V) (xl112 xl113 : List V) (xl114 xl115 : List V) (xi116 : Int) (xs117 : ByteArray) (xv118 xv119 : V) (xv120 xv121 : V) (xi122 : Int) (Ko : List V → Int → ByteArray → Int → Int → List V → List V → List V → List V → List V → List V → List V → List V → List V → List V → Int → ByteArray → V → V → V → V → Int → Option R) : Option R := l104_2g G k Ko k xl99 xi100 xi101 xi102 xs103 xi104 xi105 xl106 xl107 xl108 xl109 xl110 xl111 xl112 xl113 xl114 xl115 xi116 xs117 xv118 xv119 xv120 xv121 xi122
def P104_0h : Pat := { tmps := unds [.stat (.one (.ptr 0 0) .pt), .var (.sl 7) .ro, .undef, .undef, .var (.int .i64) .pr] 141 [], boxes := nons [some [.var .str .pr false, .var (.int .i64) .pr false, .var (.int .i64) .pr false, .var (.sl 1) .ro true, .var (.sl 1) .ro true, .var (.sl 1) .ro true, .var (.sl 7) (.own true) false, .var (.sl 6) (.own true) false, .var (.sl 1) (.own true) false, .var (.sl 1) .ro true, .var (.sl 1) .ro true, .var (.sl 1) .ro true, .var (.sl 7) .ro true]] 146 [] }
def P104_0x : Pat := { tmps := unds [] 146 [], boxes := nons [some [.var .str .pr false, .var (.int .i64) .pr false, .var (.int .i64) .pr false, .var (.sl 1) .ro true, .var (.sl 1) .ro true, .var (.sl 1) .ro true, .var (.sl 7) (.own true) false, .var (.sl 6) (.own true) false, .var (.sl 1) (.own true) false, .var (.sl 1) .ro true, .var (.sl 1) .ro true, .var (.sl 1) .ro true, .var (.sl 7) .ro true]] 146 [] }
def b104_0 {R : Type} (G : ORC R) (k : Nat) (X : List V → Int → ByteArray → Int → Int → List V → List V → List V → List V → List V → List V → List V → List V → List V → List V → Option R) (Ko : ByteArray → Int → Int → List V → List V → List V → List V → List V → List V → List V → List V → List V → List V → Option R) (xl15 : List V) (xi16 : Int) (xs17 : ByteArray) (xi18 xi19 : Int) (xl20 xl21 : List V) (xl22 xl23 : List V) (xl24 xl25 : List V) (xl26 xl27 : List V) (xl28 xl29 : List V) : Option R :=
  (bif (decide (xi16 < ((List.length xl15 : Nat) : Int))) then (bif ((decide (0 ≤ xi16)) && (decide (xi16 < ((List.length xl15 : Nat) : Int)))) then (nthK xl15 (Int.toNat xi16) fun e30 => (V.asAgg e30 fun l31 => (ce7 l31 fun c32 c33 c34 c35 c36 c37 c38 => (aI .i64 c32 fun n47 => (V.asStr c33 fun s48 => (V.asSl c34 fun z49 l50 => (V.asSl c35 fun z51 l52 => (V.asSl c36 fun z53 l54 => (V.asSl c37 fun z55 l56 => (aI .i64 c38 fun n57 => (G 19 [(.sl 7 xl23), (.str s48)] fun o58 => (uI .i64 o58 fun n60 r59 => (unNil r59 (G 125 [(.sl z49 l50), (.str xs17), (.int .i64 xi18), (.int .i64 xi19), (.sl 1 xl20), (.sl 1 xl21), (.sl 1 xl22), (.sl 7 xl23), (.sl 6 xl24), (.sl 1 xl25), (.sl 1 xl26), (.sl 1 xl27), (.sl 1 xl28), (.sl 7 xl29)] fun o61 => (uI .i64 o61 fun n63 r62 => (uS r62 fun s65 r64 => (uI .i64 r64 fun n67 r66 => (uI .i64 r66 fun n69 r68 => (uL 1 r68 fun l71 r70 => (unNil r70 (G 125 [(.sl z51 l52), (.str s65), (.int .i64 n67), (.int .i64 n69), (.sl 1 xl20), (.sl 1 xl21), (.sl 1 xl22), (.sl 7 xl23), (.sl 6 xl24), (.sl 1 l71), (.sl 1 xl26), (.sl 1 xl27), (.sl 1 xl28), (.sl 7 xl29)] fun o72 => (uI .i64 o72 fun n74 r73 => (uS r73 fun s76 r75 => (uI .i64 r75 fun n78 r77 => (uI .i64 r77 fun n80 r79 => (uL 1 r79 fun l82 r81 => (unNil r81 (bif ((decide (0 ≤ n60)) && (decide (n60 < ((List.length xl23 : Nat) : Int)))) then (nthK xl23 (Int.toNat n60) fun e83 => (ca7 e83 fun c84 c85 c86 c87 c88 c89 c90 => (bif ((decide (0 ≤ n60)) && (decide (n60 < ((List.length (List.set xl23 (Int.toNat n60) (.agg [c84, c85, c86, c87, (.int .i64 n63), c89, c90])) : Nat) : Int)))) then (nthK (List.set xl23 (Int.toNat n60) (.agg [c84, c85, c86, c87, (.int .i64 n63), c89, c90])) (Int.toNat n60) fun e91 => (ca7 e91 fun c92 c93 c94 c95 c96 c97 c98 => (l104_2 G k xl15 xi16 n60 0 s76 n78 n80 xl20 xl21 xl22 (List.set (List.set xl23 (Int.toNat n60) (.agg [c84, c85, c86, c87, (.int .i64 n63), c89, c90])) (Int.toNat n60) (.agg [c92, c93, c94, c95, c96, (.int .i64 n74), c98])) xl24 l82 xl26 xl27 xl28 xl29 n47 s48 (.sl z49 l50) (.sl z51 l52) (.sl z53 l54) (.sl z55 l56) n57 (fun yl99 yi100 ys101 yi102 yi103 yl104 yl105 yl106 yl107 yl108 yl109 yl110 yl111 yl112 yl113 yi114 ys115 yv116 yv117 yv118 yv119 yi120 => (V.asSl yv119 fun z121 l122 => (G 104 [(.sl z121 l122), (.str ys101), (.int .i64 yi102), (.int .i64 yi103), (.sl 1 yl104), (.sl 1 yl105), (.sl 1 yl106), (.sl 7 yl107), (.sl 6 yl108), (.sl 1 yl109), (.sl 1 yl110), (.sl 1 yl111), (.sl 1 yl112), (.sl 7 yl113)] fun o123 => (uS o123 fun s125 r124 => (uI .i64 r124 fun n127 r126 => (uI .i64 r126 fun n129 r128 => (uL 7 r128 fun l131 r130 => (uL 6 r130 fun l133 r132 => (uL 1 r132 fun l135 r134 => (unNil r134 (X yl99 (IntKind.i64.wrap (yi100 + 1)) s125 n127 n129 yl104 yl105 yl106 l131 l133 l135 yl110 yl111 yl112 yl113)))))))))))))) else none))) else none)))))))))))))))))))))))))))) else none) else (Ko xs17 xi18 xi19 xl20 xl21 xl22 xl23 xl24 xl25 xl26 xl27 xl28 xl29))
def l104_0g {R : Type} (G : ORC R) (k : Nat) (Ko : ByteArray → Int → Int → List V → List V → List V → List V → List V → List V → List V → List V → List V → List V → Option R) : Nat → List V → Int → ByteArray → Int → Int → List V → List V → List V → List V → List V → List V → List V → List V → List V → List V → Option R
  | 0 => fun _ _ _ _ _ _ _ _ _ _ _ _ _ _ _ => none
  | j + 1 => b104_0 G k (l104_0g G k Ko j) Ko
def l104_0 {R : Type} (G : ORC R) (k : Nat) (xl15 : List V) (xi16 : Int) (xs17 : ByteArray) (xi18 xi19 : Int) (xl20 xl21 : List V) (xl22 xl23 : List V) (xl24 xl25 : List V) (xl26 xl27 : List V) (xl28 xl29 : List V) (Ko : ByteArray → Int → Int → List V → List V → List V → List V → List V → List V → List V → List V → List V → List V → Option R) : Option R := l104_0g G k Ko k xl15 xi16 xs17 xi18 xi19 xl20 xl21 xl22 xl23 xl24 xl25 xl26 xl27 xl28 xl29
def rd104_2 {R : Type} (G : ORC R) (k : Nat) (K : Ex → St → Option R) (j : Nat) (vs : List V) : Option R := match vs with
  | [(.sl 7 xl99), (.int .i64 xi100), (.int .i64 xi101), (.int .i64 xi102), (.str xs103), (.int .i64 xi104), (.int .i64 xi105), (.sl 1 xl106), (.sl 1 xl107), (.sl 1 xl108), (.sl 7 xl109), (.sl 6 xl110), (.sl 1 xl111), (.sl 1 xl112), (.sl 1 xl113), (.sl 1 xl114), (.sl 7 xl115), (.int .i64 xi116), (.str xs117), xv118, xv119, xv120, xv121, (.int .i64 xi122)] => l104_2g G k (fun yl149 yi150 ys151 yi152 yi153 yl154 yl155 yl156 yl157 yl158 yl159 yl160 yl161 yl162 yl163 yi164 ys165 yv166 yv167 yv168 yv169 yi170 => K .normal (P104_2x.inst [(.sl 7 yl149), (.int .i64 yi150), (.str ys151), (.int .i64 yi152), (.int .i64 yi153), (.sl 1 yl154), (.sl 1 yl155), (.sl 1 yl156), (.sl 7 yl157), (.sl 6 yl158), (.sl 1 yl159), (.sl 1 yl160), (.sl 1 yl161), (.sl 1 yl162), (.sl 7 yl163), (.int .i64 yi164), (.str ys165), yv166, yv167, yv168, yv169, (.int .i64 yi170)])) j xl99 xi100 xi101 xi102 xs103 xi104 xi105 xl106 xl107 xl108 xl109 xl110 xl111 xl112 xl113 xl114 xl115 xi116 xs117 xv118 xv119 xv120 xv121 xi122
  | _ => none
def rd104_0 {R : Type} (G : ORC R) (k : Nat) (K : Ex → St → Option R) (j : Nat) (vs : List V) : Option R := match vs with
  | [(.sl 7 xl15), (.int .i64 xi16), (.str xs17), (.int .i64 xi18), (.int .i64 xi19), (.sl 1 xl20), (.sl 1 xl21), (.sl 1 xl22), (.sl 7 xl23), (.sl 6 xl24), (.sl 1 xl25), (.sl 1 xl26), (.sl 1 xl27), (.sl 1 xl28), (.sl 7 xl29)] => l104_0g G k (fun ys171 yi172 yi173 yl174 yl175 yl176 yl177 yl178 yl179 yl180 yl181 yl182 yl183 => K .normal (P104_0x.inst [(.str ys171), (.int .i64 yi172), (.int .i64 yi173), (.sl 1 yl174), (.sl 1 yl175), (.sl 1 yl176), (.sl 7 yl177), (.sl 6 yl178), (.sl 1 yl179), (.sl 1 yl180), (.sl 1 yl181), (.sl 1 yl182), (.sl 7 yl183)])) j xl15 xi16 xs17 xi18 xi19 xl20 xl21 xl22 xl23 xl24 xl25 xl26 xl27 xl28 xl29
  | _ => none
def L104 {R : Type} (G : ORC R) (k : Nat) : Nat → St → (Ex → St → Option R) → Option R
  | 2, S, K => P104_2h.mat S fun vs => rd104_2 G k K k vs
  | 0, S, K => P104_0h.mat S fun vs => rd104_0 G k K k vs
  | _, _, _ => none
def f104 {R : Type} (G : ORC R) (k : Nat) (al1 : List V) (bs2 : ByteArray) (bi3 bi4 : Int) (bl5 bl6 : List V) (bl7 bl8 : List V) (bl9 bl10 : List V) (bl11 bl12 : List V) (bl13 bl14 : List V) (K : List V → Option R) : Option R :=
  (l104_0 G k al1 0 bs2 bi3 bi4 bl5 bl6 bl7 bl8 bl9 bl10 bl11 bl12 bl13 bl14 (fun ys136 yi137 yi138 yl139 yl140 yl141 yl142 yl143 yl144 yl145 yl146 yl147 yl148 => (K [(.str ys136), (.int .i64 yi137), (.int .i64 yi138), (.sl 7 yl142), (.sl 6 yl143), (.sl 1 yl144)])))
noncomputable def D104_2 : LoopD := { id := 2, body := loopAt 2 (bodyOf Try.f104), head := P104_2h, out := P104_2x, ret := default }
theorem l104_2_is {R : Type} (G : ORC R) (k : Nat) (X : List V → Option R) (K : Ex → St → Option R) (xl99 : List V) (xi100 xi101 xi102 : Int) (xs103 : ByteArray) (xi104 xi105 : Int) (xl106 xl107 : List V) (xl108 xl109 : List V) (xl110 xl111 : List V) (xl112 xl113 : List V) (xl114 xl115 : List V) (xi116 : Int) (xs117 : ByteArray) (xv118 xv119 : V) (xv120 xv121 : V) (xi122 : Int) :
    roundOf (TAB.env 104) G (L104 G k) D104_2 X K [(.sl 7 xl99), (.int .i64 xi100), (.int .i64 xi101), (.int .i64 xi102), (.str xs103), (.int .i64 xi104), (.int .i64 xi105), (.sl 1 xl106), (.sl 1 xl107), (.sl 1 xl108), (.sl 7 xl109), (.sl 6 xl110), (.sl 1 xl111), (.sl 1 xl112), (.sl 1 xl113), (.sl 1 xl114), (.sl 7 xl115), (.int .i64 xi116), (.str xs117), xv118, xv119, xv120, xv121, (.int .i64 xi122)] = b104_2 G k (fun xl99 xi100 xi101 xi102 xs103 xi104 xi105 xl106 xl107 xl108 xl109 xl110 xl111 xl112 xl113 xl114 xl115 xi116 xs117 xv118 xv119 xv120 xv121 xi122 => X [(.sl 7 xl99), (.int .i64 xi100), (.int .i64 xi101), (.int .i64 xi102), (.str xs103), (.int .i64 xi104), (.int .i64 xi105), (.sl 1 xl106), (.sl 1 xl107), (.sl 1 xl108), (.sl 7 xl109), (.sl 6 xl110), (.sl 1 xl111), (.sl 1 xl112), (.sl 1 xl113), (.sl 1 xl114), (.sl 7 xl115), (.int .i64 xi116), (.str xs117), xv118, xv119, xv120, xv121, (.int .i64 xi122)]) (fun yl149 yi150 ys151 yi152 yi153 yl154 yl155 yl156 yl157 yl158 yl159 yl160 yl161 yl162 yl163 yi164 ys165 yv166 yv167 yv168 yv169 yi170 => K .normal (P104_2x.inst [(.sl 7 yl149), (.int .i64 yi150), (.str ys151), (.int .i64 yi152), (.int .i64 yi153), (.sl 1 yl154), (.sl 1 yl155), (.sl 1 yl156), (.sl 7 yl157), (.sl 6 yl158), (.sl 1 yl159), (.sl 1 yl160), (.sl 1 yl161), (.sl 1 yl162), (.sl 7 yl163), (.int .i64 yi164), (.str ys165), yv166, yv167, yv168, yv169, (.int .i64 yi170)])) xl99 xi100 xi101 xi102 xs103 xi104 xi105 xl106 xl107 xl108 xl109 xl110 xl111 xl112 xl113 xl114 xl115 xi116 xs117 xv118 xv119 xv120 xv121 xi122 := by kernel_rfl
noncomputable def D104_0 : LoopD := { id := 0, body := loopAt 0 (bodyOf Try.f104), head := P104_0h, out := P104_0x, ret := default }
theorem l104_0_is {R : Type} (G : ORC R) (k : Nat) (X : List V → Option R) (K : Ex → St → Option R) (xl15 : List V) (xi16 : Int) (xs17 : ByteArray) (xi18 xi19 : Int) (xl20 xl21 : List V) (xl22 xl23 : List V) (xl24 xl25 : List V) (xl26 xl27 : List V) (xl28 xl29 : List V) :
    roundOf (TAB.env 104) G (L104 G k) D104_0 X K [(.sl 7 xl15), (.int .i64 xi16), (.str xs17), (.int .i64 xi18), (.int .i64 xi19), (.sl 1 xl20), (.sl 1 xl21), (.sl 1 xl22), (.sl 7 xl23), (.sl 6 xl24), (.sl 1 xl25), (.sl 1 xl26), (.sl 1 xl27), (.sl 1 xl28), (.sl 7 xl29)] = b104_0 G k (fun xl15 xi16 xs17 xi18 xi19 xl20 xl21 xl22 xl23 xl24 xl25 xl26 xl27 xl28 xl29 => X [(.sl 7 xl15), (.int .i64 xi16), (.str xs17), (.int .i64 xi18), (.int .i64 xi19), (.sl 1 xl20), (.sl 1 xl21), (.sl 1 xl22), (.sl 7 xl23), (.sl 6 xl24), (.sl 1 xl25), (.sl 1 xl26), (.sl 1 xl27), (.sl 1 xl28), (.sl 7 xl29)]) (fun ys171 yi172 yi173 yl174 yl175 yl176 yl177 yl178 yl179 yl180 yl181 yl182 yl183 => K .normal (P104_0x.inst [(.str ys171), (.int .i64 yi172), (.int .i64 yi173), (.sl 1 yl174), (.sl 1 yl175), (.sl 1 yl176), (.sl 7 yl177), (.sl 6 yl178), (.sl 1 yl179), (.sl 1 yl180), (.sl 1 yl181), (.sl 1 yl182), (.sl 7 yl183)])) xl15 xi16 xs17 xi18 xi19 xl20 xl21 xl22 xl23 xl24 xl25 xl26 xl27 xl28 xl29 := by kernel_rfl
theorem f104_is {R : Type} (G : ORC R) (k : Nat) (K : List V → Option R) (al1 : List V) (bs2 : ByteArray) (bi3 bi4 : Int) (bl5 bl6 : List V) (bl7 bl8 : List V) (bl9 bl10 : List V) (bl11 bl12 : List V) (bl13 bl14 : List V) :
    callF (TAB.env 104) G (L104 G k) Try.f104 S104 [(.sl 7 al1), (.str bs2), (.int .i64 bi3), (.int .i64 bi4), (.sl 1 bl5), (.sl 1 bl6), (.sl 1 bl7), (.sl 7 bl8), (.sl 6 bl9), (.sl 1 bl10), (.sl 1 bl11), (.sl 1 bl12), (.sl 1 bl13), (.sl 7 bl14)] K = f104 G k al1 bs2 bi3 bi4 bl5 bl6 bl7 bl8 bl9 bl10 bl11 bl12 bl13 bl14 K := by kernel_rfl
theorem li104_2 {R : Type} (G : ORC R) (k : Nat) : LoopIs (TAB.env 104) G (L104 G k) 2 (loopAt 2 (bodyOf Try.f104)) :=
  ⟨D104_2, fun j vs K => rd104_2 G k K j vs, k, rfl, rfl, by kernel_rfl, by kernel_rfl, by kernel_rfl, (fun vs K => by unfold rd104_2; dsimp only; split <;> rfl),
    (fun j vs K r h => by
      unfold rd104_2 at h
      dsimp only at h
      split at h
      · rw [l104_2_is]; exact h
      · cases h), (fun S K r h => h)⟩
theorem li104_0 {R : Type} (G : ORC R) (k : Nat) : LoopIs (TAB.env 104) G (L104 G k) 0 (loopAt 0 (bodyOf Try.f104)) :=
  ⟨D104_0, fun j vs K => rd104_0 G k K j vs, k, rfl, rfl, by kernel_rfl, by kernel_rfl, by kernel_rfl, (fun vs K => by unfold rd104_0; dsimp only; split <;> rfl),
    (fun j vs K r h => by
      unfold rd104_0 at h
      dsimp only at h
      split at h
      · rw [l104_0_is]; exact h
      · cases h), (fun S K r h => h)⟩
theorem lo104 : loopsOf (bodyOf Try.f104) = [(0, loopAt 0 (bodyOf Try.f104)), (2, loopAt 2 (bodyOf Try.f104))] := by kernel_rfl
theorem la104 {R : Type} (G : ORC R) (k : Nat) : LoopsAre (TAB.env 104) G (L104 G k) (bodyOf Try.f104) :=
  loopsAre_of (by rw [lo104]; intro p hp; simp only [List.mem_cons, List.not_mem_nil, or_false] at hp; rcases hp with rfl | rfl <;> first | exact li104_0 G k | exact li104_2 G k)
def g104 {R : Type} (G : ORC R) (k : Nat) (args : List V) (K : List V → Option R) : Option R := match args with
  | [(.sl 7 al1), (.str bs2), (.int .i64 bi3), (.int .i64 bi4), (.sl 1 bl5), (.sl 1 bl6), (.sl 1 bl7), (.sl 7 bl8), (.sl 6 bl9), (.sl 1 bl10), (.sl 1 bl11), (.sl 1 bl12), (.sl 1 bl13), (.sl 7 bl14)] => f104 G k al1 bs2 bi3 bi4 bl5 bl6 bl7 bl8 bl9 bl10 bl11 bl12 bl13 bl14 K
  | _ => none
theorem s104 {R : Type} {G : ORC R} {k : Nat} (hG : Sound Try.prog TAB G) (args : List V) (K : List V → Option R) (r : R) (h : g104 G k args K = some r) : ∃ o, CallOK Try.prog TAB.env 104 args o ∧ K o = some r := by
  unfold g104 at h
  split at h
  · rw [← f104_is] at h
    exact callF_sound (f := 104) TAB_chk MO hG Try.func104 (sg := S104) (by kernel_rfl) (by kernel_rfl) (la104 G k) h
  · cases h
end Go.Proofs.Ytblabbcmokldiaa.Vm
open Go Go.VM
set_option linter.unusedVariables false
set_option maxRecDepth 100000
set_option maxHeartbeats 4000000
namespace Go.Proofs.Ytblabbcmokldiaa.Vm
/-! ### cotillion/cotillionref21.Table: function 86 -/
def P86_0h : Pat := { tmps := unds [.undef, .stat (.one (.ptr 1 0) .pt), .stat (.one (.ptr 2 0) .pt), .stat (.one (.ptr 8 0) .pt), .var (.int .i64) .pr] 54 [], boxes := nons [none, some [.var .str .pr false, .var (.int .i64) .pr false, .var (.int .i64) .pr false, .var (.sl 3) .ro false, .var (.sl 3) .ro false, .var (.sl 3) .ro false, .var (.sl 7) .ro false, .var (.int .i64) .pr false], some [.var .str .pr false, .var (.int .i64) .pr false, .var (.int .i64) .pr false, .var (.sl 1) (.own true) false, .var (.sl 1) (.own true) false, .var (.sl 1) (.own true) false, .var (.sl 7) (.own true) false, .var (.sl 6) (.own true) false, .var (.sl 1) (.own true) false]] 5 (nons [some [.var .str .pr false, .var (.int .i64) .pr false, .var (.int .i64) .pr false, .var (.sl 1) (.own true) false, .var (.sl 1) .ro false, .var (.sl 1) .ro false, .var (.sl 7) (.own true) false, .var (.sl 6) (.own true) false, .var (.sl 1) (.own true) false, .var (.sl 1) .ro false, .var (.sl 1) .ro false, .var (.sl 1) .ro false, .var (.sl 7) .ro false]] 50 []) }
def P86_0x : Pat := { tmps := unds [.undef, .stat (.one (.ptr 1 0) .pt), .stat (.one (.ptr 2 0) .pt), .stat (.one (.ptr 8 0) .pt)] 55 [], boxes := nons [none, some [.var .str .pr false, .var (.int .i64) .pr false, .var (.int .i64) .pr false, .var (.sl 3) .ro false, .var (.sl 3) .ro false, .var (.sl 3) .ro false, .var (.sl 7) .ro false, .var (.int .i64) .pr false], some [.var .str .pr false, .var (.int .i64) .pr false, .var (.int .i64) .pr false, .var (.sl 1) (.own true) false, .var (.sl 1) (.own true) false, .var (.sl 1) (.own true) false, .var (.sl 7) (.own true) false, .var (.sl 6) (.own true) false, .var (.sl 1) (.own true) false]] 5 (nons [some [.var .str .pr false, .var (.int .i64) .pr false, .var (.int .i64) .pr false, .var (.sl 1) (.own true) false, .var (.sl 1) .ro false, .var (.sl 1) .ro false, .var (.sl 7) (.own true) false, .var (.sl 6) (.own true) false, .var (.sl 1) (.own true) false, .var (.sl 1) .ro false, .var (.sl 1) .ro false, .var (.sl 1) .ro false, .var (.sl 7) .ro false]] 50 []) }
def b86_0 {R : Type} (G : ORC R) (k : Nat) (X : Int → ByteArray → Int → Int → List V → List V → List V → List V → Int → ByteArray → Int → Int → List V → List V → List V → List V → List V → List V → ByteArray → Int → Int → List V → List V → List V → List V → List V → List V → List V → List V → List V → List V → Option R) (Ko : ByteArray → Int → Int → List V → List V → List V → List V → Int → ByteArray → Int → Int → List V → List V → List V → List V → List V → List V → ByteArray → Int → Int → List V → List V → List V → List V → List V → List V → List V → List V → List V → List V → Option R) (xi29 : Int) (xs30 : ByteArray) (xi31 xi32 : Int) (xl33 xl34 : List V) (xl35 xl36 : List V) (xi37 : Int) (xs38 : ByteArray) (xi39 xi40 : Int) (xl41 xl42 : List V) (xl43 xl44 : List V) (xl45 xl46 : List V) (xs47 : ByteArray) (xi48 xi49 : Int) (xl50 xl51 : List V) (xl52 xl53 : List V) (xl54 xl55 : List V) (xl56 xl57 : List V) (xl58 xl59 : List V) : Option R :=
  (bif (decide (xi29 < ((List.length xl33 : Nat) : Int))) then (bif ((decide (0 ≤ xi29)) && (decide (xi29 < ((List.length xl33 : Nat) : Int)))) then (nthK xl33 (Int.toNat xi29) fun e60 => (ca3 e60 fun c61 c62 c63 => (aI .i64 c62 fun n64 => (bif (decide (List.length xl50 + 1 ≤ 1073741824)) then (X (IntKind.i64.wrap (xi29 + 1)) xs30 xi31 xi32 xl33 xl34 xl35 xl36 xi37 xs38 xi39 xi40 xl41 xl42 xl43 xl44 xl45 xl46 xs47 xi48 xi49 (xl50 ++ [(.int .i64 n64)]) xl51 xl52 xl53 xl54 xl55 xl56 xl57 xl58 xl59) else none)))) else none) else (Ko xs30 xi31 xi32 xl33 xl34 xl35 xl36 xi37 xs38 xi39 xi40 xl41 xl42 xl43 xl44 xl45 xl46 xs47 xi48 xi49 xl50 xl51 xl52 xl53 xl54 xl55 xl56 xl57 xl58 xl59))
def l86_0g {R : Type} (G : ORC R) (k : Nat) (Ko : ByteArray → Int → Int → List V → List V → List V → List V → Int → ByteArray → Int → Int → List V → List V → List V → List V → List V → List V → ByteArray → Int → Int → List V → List V → List V → List V → List V → List V → List V → List V → List V → List V → Option R) : Nat → Int → ByteArray → Int → Int → List V → List V → List V → List V → Int → ByteArray → Int → Int → List V → List V → List V → List V → List V → List V → ByteArray → Int → Int → List V → List V → List V → List V → List V → List V → List V → List V → List V → List V → Option R
  | 0 => fun _ _ _ _ _ _ _ _ _ _ _ _ _ _ _ _ _ _ _ _ _ _ _ _ _ _ _ _ _ _ _ => none
  | j + 1 => b86_0 G k (l86_0g G k Ko j) Ko
def l86_0 {R : Type} (G : ORC R) (k : Nat) (xi29 : Int) (xs30 : ByteArray) (xi31 xi32 : Int) (xl33 xl34 : List V) (xl35 xl36 : List V) (xi37 : Int) (xs38 : ByteArray) (xi39 xi40 : Int) (xl41 xl42 : List V) (xl43 xl44 : List V) (xl45 xl46 : List V) (xs47 : ByteArray) (xi48 xi49 : Int) (xl50 xl51 : List V) (xl52 xl53 : List V) (xl54 xl55 : List V) (xl56 xl57 : List V) (xl58 xl59 : List V) (Ko : ByteArray → Int → Int → List V → List V → List V → List V → Int → ByteArray → Int → Int → List V → List V → List V → List V → List V → List V → ByteArray → Int → Int → List V → List V → List V → List V → List V → List V → List V → List V → List V → List V → Option R) : Option R := l86_0g G k Ko k xi29 xs30 xi31 xi32 xl33 xl34 xl35 xl36 xi37 xs38 xi39 xi40 xl41 xl42 xl43 xl44 xl45 xl46 xs47 xi48 xi49 xl50 xl51 xl52 xl53 xl54 xl55 xl56 xl57 xl58 xl59
def rd86_0 {R : Type} (G : ORC R) (k : Nat) (K : Ex → St → Option R) (j : Nat) (vs : List V) : Option R := match vs with
  | [(.int .i64 xi29), (.str xs30), (.int .i64 xi31), (.int .i64 xi32), (.sl 3 xl33), (.sl 3 xl34), (.sl 3 xl35), (.sl 7 xl36), (.int .i64 xi37), (.str xs38), (.int .i64 xi39), (.int .i64 xi40), (.sl 1 xl41), (.sl 1 xl42), (.sl 1 xl43), (.sl 7 xl44), (.sl 6 xl45), (.sl 1 xl46), (.str xs47), (.int .i64 xi48), (.int .i64 xi49), (.sl 1 xl50), (.sl 1 xl51), (.sl 1 xl52), (.sl 7 xl53), (.sl 6 xl54), (.sl 1 xl55), (.sl 1 xl56), (.sl 1 xl57), (.sl 1 xl58), (.sl 7 xl59)] => l86_0g G k (fun ys108 yi109 yi110 yl111 yl112 yl113 yl114 yi115 ys116 yi117 yi118 yl119 yl120 yl121 yl122 yl123 yl124 ys125 yi126 yi127 yl128 yl129 yl130 yl131 yl132 yl133 yl134 yl135 yl136 yl137 => K .normal (P86_0x.inst [(.str ys108), (.int .i64 yi109), (.int .i64 yi110), (.sl 3 yl111), (.sl 3 yl112), (.sl 3 yl113), (.sl 7 yl114), (.int .i64 yi115), (.str ys116), (.int .i64 yi117), (.int .i64 yi118), (.sl 1 yl119), (.sl 1 yl120), (.sl 1 yl121), (.sl 7 yl122), (.sl 6 yl123), (.sl 1 yl124), (.str ys125), (.int .i64 yi126), (.int .i64 yi127), (.sl 1 yl128), (.sl 1 yl129), (.sl 1 yl130), (.sl 7 yl131), (.sl 6 yl132), (.sl 1 yl133), (.sl 1 yl134), (.sl 1 yl135), (.sl 1 yl136), (.sl 7 yl137)])) j xi29 xs30 xi31 xi32 xl33 xl34 xl35 xl36 xi37 xs38 xi39 xi40 xl41 xl42 xl43 xl44 xl45 xl46 xs47 xi48 xi49 xl50 xl51 xl52 xl53 xl54 xl55 xl56 xl57 xl58 xl59
  | _ => none
def L86 {R : Type} (G : ORC R) (k : Nat) : Nat → St → (Ex → St → Option R) → Option R
  | 0, S, K => P86_0h.mat S fun vs => rd86_0 G k K k vs
  | _, _, _ => none
def f86 {R : Type} (G : ORC R) (k : Nat) (as1 : ByteArray) (ai2 ai3 : Int) (al4 al5 : List V) (al6 al7 : List V) (ai8 : Int) (K : List V → Option R) : Option R :=
  (G 102 [(.agg [(.str as1), (.int .i64 ai2), (.int .i64 ai3), (.sl 3 al4), (.sl 3 al5), (.sl 3 al6), (.sl 7 al7), (.int .i64 ai8)])] fun o9 => (uA o9 fun l11 r10 => (uL 1 l11 fun l13 r12 => (uL 1 r12 fun l15 r14 => (uL 1 r14 fun l17 r16 => (uL 7 r16 fun l19 r18 => (unNil r18 (unNil r10 (G 103 [(.sl 3 al5)] fun o20 => (uL 1 o20 fun l22 r21 => (unNil r21 (G 103 [(.sl 3 al6)] fun o23 => (uL 1 o23 fun l25 r24 => (unNil r24 (G 14 [(.agg [(.str as1), (.int .i64 ai2), (.int .i64 ai3), (.sl 3 al4), (.sl 3 al5), (.sl 3 al6), (.sl 7 al7), (.int .i64 ai8)])] fun o26 => (uL 7 o26 fun l28 r27 => (unNil r27 (l86_0 G k 0 as1 ai2 ai3 al4 al5 al6 al7 ai8 ⟨#[]⟩ 0 0 [] [] [] [] [] [] as1 ai2 ai3 [] l22 l25 l28 [] [] l13 l15 l17 l19 (fun ys65 yi66 yi67 yl68 yl69 yl70 yl71 yi72 ys73 yi74 yi75 yl76 yl77 yl78 yl79 yl80 yl81 ys82 yi83 yi84 yl85 yl86 yl87 yl88 yl89 yl90 yl91 yl92 yl93 yl94 => (G 104 [(.sl 7 yl71), (.str ys82), (.int .i64 yi83), (.int .i64 yi84), (.sl 1 yl85), (.sl 1 yl86), (.sl 1 yl87), (.sl 7 yl88), (.sl 6 yl89), (.sl 1 yl90), (.sl 1 yl91), (.sl 1 yl92), (.sl 1 yl93), (.sl 7 yl94)] fun o95 => (uS o95 fun s97 r96 => (uI .i64 r96 fun n99 r98 => (uI .i64 r98 fun n101 r100 => (uL 7 r100 fun l103 r102 => (uL 6 r102 fun l105 r104 => (uL 1 r104 fun l107 r106 => (unNil r106 (K [(.agg [(.str s97), (.int .i64 n99), (.int .i64 n101), (.sl 1 yl85), (.sl 1 yl86), (.sl 1 yl87), (.sl 7 l103), (.sl 6 l105), (.sl 1 l107)])]))))))))))))))))))))))))))))
noncomputable def D86_0 : LoopD := { id := 0, body := loopAt 0 (bodyOf Try.f86), head := P86_0h, out := P86_0x, ret := default }
theorem l86_0_is {R : Type} (G : ORC R) (k : Nat) (X : List V → Option R) (K : Ex → St → Option R) (xi29 : Int) (xs30 : ByteArray) (xi31 xi32 : Int) (xl33 xl34 : List V) (xl35 xl36 : List V) (xi37 : Int) (xs38 : ByteArray) (xi39 xi40 : Int) (xl41 xl42 : List V) (xl43 xl44 : List V) (xl45 xl46 : List V) (xs47 : ByteArray) (xi48 xi49 : Int) (xl50 xl51 : List V) (xl52 xl53 : List V) (xl54 xl55 : List V) (xl56 xl57 : List V) (xl58 xl59 : List V) :
    roundOf (TAB.env 86) G (L86 G k) D86_0 X K [(.int .i64 xi29), (.str xs30), (.int .i64 xi31), (.int .i64 xi32), (.sl 3 xl33), (.sl 3 xl34), (.sl 3 xl35), (.sl 7 xl36), (.int .i64 xi37), (.str xs38), (.int .i64 xi39), (.int .i64 xi40), (.sl 1 xl41), (.sl 1 xl42), (.sl 1 xl43), (.sl 7 xl44), (.sl 6 xl45), (.sl 1 xl46), (.str xs47), (.int .i64 xi48), (.int .i64 xi49), (.sl 1 xl50), (.sl 1 xl51), (.sl 1 xl52), (.sl 7 xl53), (.sl 6 xl54), (.sl 1 xl55), (.sl 1 xl56), (.sl 1 xl57), (.sl 1 xl58), (.sl 7 xl59)] = b86_0 G k (fun xi29 xs30 xi31 xi32 xl33 xl34 xl35 xl36 xi37 xs38 xi39 xi40 xl41 xl42 xl43 xl44 xl45 xl46 xs47 xi48 xi49 xl50 xl51 xl52 xl53 xl54 xl55 xl56 xl57 xl58 xl59 => X [(.int .i64 xi29), (.str xs30), (.int .i64 xi31), (.int .i64 xi32), (.sl 3 xl33), (.sl 3 xl34), (.sl 3 xl35), (.sl 7 xl36), (.int .i64 xi37), (.str xs38), (.int .i64 xi39), (.int .i64 xi40), (.sl 1 xl41), (.sl 1 xl42), (.sl 1 xl43), (.sl 7 xl44), (.sl 6 xl45), (.sl 1 xl46), (.str xs47), (.int .i64 xi48), (.int .i64 xi49), (.sl 1 xl50), (.sl 1 xl51), (.sl 1 xl52), (.sl 7 xl53), (.sl 6 xl54), (.sl 1 xl55), (.sl 1 xl56), (.sl 1 xl57), (.sl 1 xl58), (.sl 7 xl59)]) (fun ys108 yi109 yi110 yl111 yl112 yl113 yl114 yi115 ys116 yi117 yi118 yl119 yl120 yl121 yl122 yl123 yl124 ys125 yi126 yi127 yl128 yl129 yl130 yl131 yl132 yl133 yl134 yl135 yl136 yl137 => K .normal (P86_0x.inst [(.str ys108), (.int .i64 yi109), (.int .i64 yi110), (.sl 3 yl111), (.sl 3 yl112), (.sl 3 yl113), (.sl 7 yl114), (.int .i64 yi115), (.str ys116), (.int .i64 yi117), (.int .i64 yi118), (.sl 1 yl119), (.sl 1 yl120), (.sl 1 yl121), (.sl 7 yl122), (.sl 6 yl123), (.sl 1 yl124), (.str ys125), (.int .i64 yi126), (.int .i64 yi127), (.sl 1 yl128), (.sl 1 yl129), (.sl 1 yl130), (.sl 7 yl131), (.sl 6 yl132), (.sl 1 yl133), (.sl 1 yl134), (.sl 1 yl135), (.sl 1 yl136), (.sl 7 yl137)])) xi29 xs30 xi31 xi32 xl33 xl34 xl35 xl36 xi37 xs38 xi39 xi40 xl41 xl42 xl43 xl44 xl45 xl46 xs47 xi48 xi49 xl50 xl51 xl52 xl53 xl54 xl55 xl56 xl57 xl58 xl59 := by kernel_rfl
theorem f86_is {R : Type} (G : ORC R) (k : Nat) (K : List V → Option R) (as1 : ByteArray) (ai2 ai3 : Int) (al4 al5 : List V) (al6 al7 : List V) (ai8 : Int) :
    callF (TAB.env 86) G (L86 G k) Try.f86 S86 [(.agg [(.str as1), (.int .i64 ai2), (.int .i64 ai3), (.sl 3 al4), (.sl 3 al5), (.sl 3 al6), (.sl 7 al7), (.int .i64 ai8)])] K = f86 G k as1 ai2 ai3 al4 al5 al6 al7 ai8 K := by kernel_rfl
theorem li86_0 {R : Type} (G : ORC R) (k : Nat) : LoopIs (TAB.env 86) G (L86 G k) 0 (loopAt 0 (bodyOf Try.f86)) :=
  ⟨D86_0, fun j vs K => rd86_0 G k K j vs, k, rfl, rfl, by kernel_rfl, by kernel_rfl, by kernel_rfl, (fun vs K => by unfold rd86_0; dsimp only; split <;> rfl),
    (fun j vs K r h => by
      unfold rd86_0 at h
      dsimp only at h
      split at h
      · rw [l86_0_is]; exact h
      · cases h), (fun S K r h => h)⟩
theorem lo86 : loopsOf (bodyOf Try.f86) = [(0, loopAt 0 (bodyOf Try.f86))] := by kernel_rfl
theorem la86 {R : Type} (G : ORC R) (k : Nat) : LoopsAre (TAB.env 86) G (L86 G k) (bodyOf Try.f86) :=
  loopsAre_of (by rw [lo86]; intro p hp; simp only [List.mem_cons, List.not_mem_nil, or_false] at hp; subst hp; exact li86_0 G k)
def g86 {R : Type} (G : ORC R) (k : Nat) (args : List V) (K : List V → Option R) : Option R := match args with
  | [(.agg [(.str as1), (.int .i64 ai2), (.int .i64 ai3), (.sl 3 al4), (.sl 3 al5), (.sl 3 al6), (.sl 7 al7), (.int .i64 ai8)])] => f86 G k as1 ai2 ai3 al4 al5 al6 al7 ai8 K
  | _ => none
theorem s86 {R : Type} {G : ORC R} {k : Nat} (hG : Sound Try.prog TAB G) (args : List V) (K : List V → Option R) (r : R) (h : g86 G k args K = some r) : ∃ o, CallOK Try.prog TAB.env 86 args o ∧ K o = some r := by
  unfold g86 at h
  split at h
  · rw [← f86_is] at h
    exact callF_sound (f := 86) TAB_chk MO hG Try.func86 (sg := S86) (by kernel_rfl) (by kernel_rfl) (la86 G k) h
  · cases h
end Go.Proofs.Ytblabbcmokldiaa.Vm
open Go Go.VM
set_option linter.unusedVariables false
set_option linter.unusedSimpArgs false
set_option maxRecDepth 100000
set_option maxHeartbeats 8000000
namespace Go.Proofs.Ytblabbcmokldiaa.Vm
section
variable {R : Type} {G : ORC R} {k : Nat} {K : List V → Option R}
def TextsOK (G : ORC R) : Prop := ∀ (l : List V) (K : List V → Option R), NamedS 100 l → W (fun o => ∃ q, o = [.sl 1 q] ∧ StrsS 100 q) K (G 103 [.sl 3 l] K)
theorem texts_loop {Q : List V → Prop} {K : List V → Option R} {Ko : List V → Option R} {l : List V} (hl : NamedS 100 l) (hKo : ∀ q, StrsS 100 q → W Q K (Ko q)) :
    ∀ (j : Nat) (acc : List V) (i : Int), 0 ≤ i → i ≤ (l.length : Int) → (l.length : Int) - i < j → StrsS i.toNat acc → W Q K (l103_0g G k Ko j l acc i)
  | 0, acc, i, h1, h2, h3, h4 => by omega
  | j + 1, acc, i, h1, h2, h3, h4 => by
    show W Q K (b103_0 G k (l103_0g G k Ko j) Ko l acc i)
    unfold b103_0
    have hll := hl.1
    have hla := h4.1
    refine W_dec (fun h => ?_) (fun h => hKo acc ⟨by omega, h4.2⟩)
    refine W_and (W_yes h1 (W_yes h ?_))
    refine W_nth (by omega) (fun v _ hv => ?_)
    obtain ⟨t, n, rfl, ht, hn⟩ := hl.2 v hv
    refine W_ca3 (W_asStr (W_yes (by omega) ?_))
    rw [wrap_id (n := i + 1) (by omega)]
    refine texts_loop hl hKo j _ (i + 1) (by omega) (by omega) (by omega) ?_
    rw [show (i + 1).toNat = i.toNat + 1 by omega]
    exact strs_snoc h4 ht
theorem texts_ok (hk : 1000 ≤ k) : TextsOK (fun _ args (K : List V → Option R) => g103 G k args K) := by
  intro l K hl
  show W _ K (f103 G k l K)
  unfold f103 l103_0
  exact texts_loop hl (fun q hq => W_ret ⟨_, rfl, hq⟩) k [] 0 (by omega) (by omega) (by have := hl.1; omega) ⟨by simp, by simp⟩
def NamesC (G : ORC R) : Prop := ∀ (nm : ByteArray) (x y z : Int) (a b c states : List V) (K : List V → Option R), NamedS 100 a → NamedS 100 b → NamedS 100 c → (∀ s ∈ states, StateS 2 3 s ∧ kindV s ≤ 2) → nszL 3 states ≤ 900 →
  W (fun o => ∃ p q t, o = [namV p q t (ndsOf states)] ∧ NamS p q t (ndsOf states)) K (G 102 [.agg [.str nm, .int .i64 x, .int .i64 y, .sl 3 a, .sl 3 b, .sl 3 c, .sl 7 states, .int .i64 z]] K)
theorem ndsOf_len {states : List V} : (ndsOf states).length = 1 + nszL 3 states := by unfold ndsOf; rw [List.length_cons, forest_len]; omega
theorem names_c (hT : TextsOK G) (hN : NodesOK G) : NamesC (fun _ args (K : List V → Option R) => g102 G k args K) := by
  intro nm x y z a b c states K ha hb hc hs hl
  show W _ K (f102 G k nm x y a b c states z K)
  unfold f102
  unfold TextsOK at hT
  refine W_call (hT _ _ ha) ?_
  rintro _ ⟨q1, rfl, hq1⟩
  refine W_uL (W_unNil (W_call (hT _ _ hb) ?_))
  rintro _ ⟨q2, rfl, hq2⟩
  refine W_uL (W_unNil (W_call (hT _ _ hc) ?_))
  rintro _ ⟨q3, rfl, hq3⟩
  refine W_uL (W_unNil (W_call (hN nm x y a b c states z _ hs hl) ?_))
  rintro _ rfl
  exact W_uL (W_unNil (W_ret ⟨_, _, _, rfl, hq1, hq2, hq3, by rw [ndsOf_len]; omega⟩))
def LbOK (G : ORC R) : Prop := ∀ (l : List V) (nm : ByteArray) (x y : Int) (v1 v2 v3 ns es codes a p t : List V) (nd : List Nd) (K : List V → Option R), BlockS 3 l → NamS a p t nd → CodesS codes → codes.length ≤ 1000000 →
  W (fun o => ∃ r codes', o = [.int .i64 r, .str nm, .int .i64 x, .int .i64 y, .sl 1 codes'] ∧ -1 ≤ r ∧ CodesS codes' ∧ codes'.length ≤ codes.length + 1) K
    (G 125 [.sl 8 l, .str nm, .int .i64 x, .int .i64 y, .sl 1 v1, .sl 1 v2, .sl 1 v3, .sl 7 ns, .sl 6 es, .sl 1 codes, .sl 1 a, .sl 1 p, .sl 1 t, .sl 7 (nd.map Nd.v)] K)
theorem lb_ok (hB : BlkOK 3 G) : LbOK (fun _ args (K : List V → Option R) => g125 G k args K) := by
  intro l nm x y v1 v2 v3 ns es codes a p t nd K hl hn hc hcl
  show W _ K (f125 G k l nm x y v1 v2 v3 ns es codes a p t (nd.map Nd.v) K)
  unfold f125
  unfold BlkOK namV at hB
  refine W_beqI (fun _ => W_ret ⟨_, _, rfl, by omega, hc, by omega⟩) (fun _ => ?_)
  refine W_call (hB l a p t nd _ hl hn) ?_
  rintro _ ⟨c1, rfl, a1, b1, b2⟩
  refine W_uL (W_unNil (W_yes (by omega) (W_ret ⟨_, _, rfl, ?_, codes_snoc hc a1, by simp⟩)))
  simp only [List.length_append, List.length_cons, List.length_nil]
  rw [wrap_id (by omega)]; omega
def StsOK (d : Nat) (G : ORC R) : Prop := ∀ (l : List V) (nm : ByteArray) (x y : Int) (v1 v2 v3 es codes a p t : List V) (ns ns0 nd : List Nd) (K : List V → Option R), (∀ s ∈ l, StateS 2 d s) → NamesIn ns0 d l → CoreEq ns ns0 → ns0.length ≤ 1000 → (∀ e ∈ es, EdgeS ns0 e) → es.length + 2 * nszL d l ≤ 100000 → CodesS codes → codes.length + 6 * nszL d l ≤ 100000 → NamS a p t nd → l.length ≤ 4 →
  W (fun o => ∃ ns' es' codes', o = [.str nm, .int .i64 x, .int .i64 y, .sl 7 (ns'.map Nd.v), .sl 6 es', .sl 1 codes'] ∧ CoreEq ns' ns0 ∧ (∀ e ∈ es', EdgeS ns0 e) ∧ es'.length ≤ es.length + 2 * nszL d l ∧ CodesS codes' ∧ codes'.length ≤ codes.length + 6 * nszL d l) K
    (G 104 [.sl 7 l, .str nm, .int .i64 x, .int .i64 y, .sl 1 v1, .sl 1 v2, .sl 1 v3, .sl 7 (ns.map Nd.v), .sl 6 es, .sl 1 codes, .sl 1 a, .sl 1 p, .sl 1 t, .sl 7 (nd.map Nd.v)] K)
theorem edge_snoc {ns : List Nd} {es : List V} {fr to dom gd ac : Int} {ev : ByteArray} (h : ∀ e ∈ es, EdgeS ns e) (h1 : 1 ≤ fr) (h2 : fr < ns.length) (h3 : StrS ev) (h4 : (to = -1 ∧ dom = -1) ∨ (1 ≤ to ∧ to < ns.length ∧ dom = domN ns fr to)) (h5 : -1 ≤ gd) (h6 : -1 ≤ ac) :
    ∀ e ∈ es ++ [.agg [.int .i64 fr, .int .i64 to, .int .i64 dom, .int .i64 gd, .int .i64 ac, .str ev]], EdgeS ns e := mem_snoc h ⟨fr, to, dom, gd, ac, ev, rfl, h1, h2, h3, h4, h5, h6⟩
theorem st_trans (hF : FindOK G) (hD : DomOK G) (hLb : LbOK G) (hG : GdOK G) {Q : List V → Prop} {K : List V → Option R} {l v1 v2 v3 a p t tr : List V} {i fr z kind : Int} {nm sn : ByteArray} {x y : Int} {e1 e2 e4 : V} {ns ns0 nd : List Nd} {Ko : List V → Int → ByteArray → Int → Int → List V → List V → List V → List V → List V → List V → List V → List V → List V → List V → Int → ByteArray → V → V → V → V → Int → Option R}
    (hc : CoreEq ns ns0) (hl0 : ns0.length ≤ 1000) (hn : NamS a p t nd) (hfr : 1 ≤ fr ∧ fr < ns0.length) (htr : tr.length ≤ 2) (htt : ∀ w ∈ tr, TransS w) {m1 m2 : Nat} (hm1 : m1 ≤ 100000) (hm2 : m2 ≤ 100000)
    (hKo : ∀ es codes, (∀ e ∈ es, EdgeS ns0 e) → es.length ≤ m1 → CodesS codes → codes.length ≤ m2 → W Q K (Ko l i nm x y v1 v2 v3 (ns.map Nd.v) es codes a p t (nd.map Nd.v) kind sn e1 e2 (.sl 5 tr) e4 z)) :
    ∀ (j : Nat) (q : Int) (es codes : List V), tr.length - q < j → 0 ≤ q → q ≤ tr.length → (∀ e ∈ es, EdgeS ns0 e) → es.length + (tr.length - q) ≤ m1 → CodesS codes → codes.length + 2 * (tr.length - q) ≤ m2 →
      W Q K (l104_2g G k Ko j l i fr q nm x y v1 v2 v3 (ns.map Nd.v) es codes a p t (nd.map Nd.v) kind sn e1 e2 (.sl 5 tr) e4 z)
  | 0, q, es, codes, h1, h2, h3, h4, h5, h6, h7 => by omega
  | j + 1, q, es, codes, h1, h2, h3, h4, h5, h6, h7 => by
    show W Q K (b104_2 G k (l104_2g G k Ko j) Ko l i fr q nm x y v1 v2 v3 (ns.map Nd.v) es codes a p t (nd.map Nd.v) kind sn e1 e2 (.sl 5 tr) e4 z)
    unfold b104_2
    refine W_asSl (W_dec (fun h => ?_) (fun h => hKo es codes h4 (by omega) h6 (by omega)))
    refine W_asSl (W_and (W_and (W_z (W_yes h2 (W_yes h ?_)))))
    refine W_nth (by omega) (fun v _ hv => ?_)
    obtain ⟨ev, gd, tg, acts, rfl, t1, t2, t3, t4, t5⟩ := htt v hv
    refine W_ca5 (W_asStr (W_asSl (W_asStr (W_asSl (W_aI ?_)))))
    have hnl : ns.length = ns0.length := hc.len
    unfold FindOK at hF; unfold DomOK at hD; unfold LbOK at hLb; unfold GdOK namV at hG
    refine W_call (hF ns tg _ (by omega)) ?_
    rintro _ rfl
    refine W_uI (W_unNil ?_)
    rw [findN_core hc]
    rw [wrap_id (n := q + 1) (by omega)]
    have next : ∀ (to dom gdn ac : Int) (codes' : List V), ((to = -1 ∧ dom = -1) ∨ (1 ≤ to ∧ to < ns0.length ∧ dom = domN ns0 fr to)) → -1 ≤ gdn → -1 ≤ ac → CodesS codes' → codes'.length ≤ codes.length + 2 →
        W Q K (l104_2g G k Ko j l i fr (q + 1) nm x y v1 v2 v3 (ns.map Nd.v) (es ++ [.agg [.int .i64 fr, .int .i64 to, .int .i64 dom, .int .i64 gdn, .int .i64 ac, .str ev]]) codes' a p t (nd.map Nd.v) kind sn e1 e2 (.sl 5 tr) e4 z) := by
      intro to dom gdn ac codes' k1 k2 k3 k4 k5
      exact st_trans hF hD hLb hG hc hl0 hn hfr htr htt hm1 hm2 hKo j (q + 1) _ codes' (by omega) (by omega) (by omega) (edge_snoc h4 hfr.1 hfr.2 t1 k1 k2 k3) (by simp; omega) k4 (by omega)
    have guard : ∀ (to dom : Int), ((to = -1 ∧ dom = -1) ∨ (1 ≤ to ∧ to < ns0.length ∧ dom = domN ns0 fr to)) → ∀ F : List V → Option R,
        (∀ c1, AllI c1 → W Q K (F [.sl 4 c1])) → gd.length > 0 → W Q K (nthK gd 0 fun e => V.asAgg e fun l => G 126 [.agg l, .agg [.sl 1 a, .sl 1 p, .sl 1 t, .sl 7 (nd.map Nd.v)]] F) := by
      intro to dom _ F hFc hg
      refine W_nth hg (fun v _ hv => ?_)
      have h1 := t4 v hv
      have h1' := h1
      obtain ⟨_, _, _, _, rfl, _⟩ := h1
      refine W_asAgg (W_call (hG _ a p t nd _ h1' hn) ?_)
      rintro _ ⟨c1, rfl, a1, _⟩
      exact hFc c1 a1
    have hcl : codes.length ≤ 100000 := by omega
    refine W_dec (fun hge => ?_) (fun hlt => ?_)
    · have hto : 1 ≤ findN ns0 tg ∧ findN ns0 tg < ns0.length := by rcases findN_at (l := ns0) (s := tg) with e | e <;> omega
      refine W_call (hD ns fr _ _ (by omega)) ?_
      rintro _ rfl
      rw [domN_core hc]
      refine W_uI (W_unNil ?_)
      refine W_dec (fun hg => ?_) (fun hg => ?_)
      · refine W_and (W_and (W_z (W_chk rfl (W_yes (by omega) ?_))))
        refine guard _ _ (.inr ⟨hto.1, hto.2, rfl⟩) _ (fun c1 a1 => ?_) (by omega)
        refine W_uL (W_unNil (W_yes (by omega) ?_))
        refine W_call (hLb acts nm x y v1 v2 v3 _ _ _ a p t nd _ t5 hn (codes_snoc h6 a1) (by simp; omega)) ?_
        rintro _ ⟨r, codes', rfl, r1, r2, r3⟩
        simp only [List.length_append, List.length_cons, List.length_nil] at r3
        refine W_uI (W_uS (W_uI (W_uI (W_uL (W_unNil (W_yes (by omega) ?_))))))
        exact next _ _ _ _ _ (.inr ⟨hto.1, hto.2, rfl⟩) (by simp only [List.length_append, List.length_cons, List.length_nil]; rw [wrap_id (by omega)]; omega) r1 r2 (by omega)
      · refine W_call (hLb acts nm x y v1 v2 v3 _ _ _ a p t nd _ t5 hn h6 (by omega)) ?_
        rintro _ ⟨r, codes', rfl, r1, r2, r3⟩
        refine W_uI (W_uS (W_uI (W_uI (W_uL (W_unNil (W_yes (by omega) ?_))))))
        exact next _ _ _ _ _ (.inr ⟨hto.1, hto.2, rfl⟩) (by omega) r1 r2 (by omega)
    · have hto : findN ns0 tg = -1 := by rcases findN_at (l := ns0) (s := tg) with e | e <;> omega
      refine W_dec (fun hg => ?_) (fun hg => ?_)
      · refine W_and (W_and (W_z (W_chk rfl (W_yes (by omega) ?_))))
        refine guard _ _ (.inl ⟨hto, rfl⟩) _ (fun c1 a1 => ?_) (by omega)
        refine W_uL (W_unNil (W_yes (by omega) ?_))
        refine W_call (hLb acts nm x y v1 v2 v3 _ _ _ a p t nd _ t5 hn (codes_snoc h6 a1) (by simp; omega)) ?_
        rintro _ ⟨r, codes', rfl, r1, r2, r3⟩
        simp only [List.length_append, List.length_cons, List.length_nil] at r3
        refine W_uI (W_uS (W_uI (W_uI (W_uL (W_unNil (W_yes (by omega) ?_))))))
        exact next _ _ _ _ _ (.inl ⟨hto, rfl⟩) (by simp only [List.length_append, List.length_cons, List.length_nil]; rw [wrap_id (by omega)]; omega) r1 r2 (by omega)
      · refine W_call (hLb acts nm x y v1 v2 v3 _ _ _ a p t nd _ t5 hn h6 (by omega)) ?_
        rintro _ ⟨r, codes', rfl, r1, r2, r3⟩
        refine W_uI (W_uS (W_uI (W_uI (W_uL (W_unNil (W_yes (by omega) ?_))))))
        exact next _ _ _ _ _ (.inl ⟨hto, rfl⟩) (by omega) r1 r2 (by omega)
theorem sts_loop {d : Nat} (hk : 1000 ≤ k) (hF : FindOK G) (hD : DomOK G) (hLb : LbOK G) (hG : GdOK G) (hS : ∀ d', d = d' + 1 → StsOK d' G) {Q : List V → Prop} {K : List V → Option R} {l v1 v2 v3 a p t : List V} {nm : ByteArray} {x y : Int} {ns0 nd : List Nd} {Ko : ByteArray → Int → Int → List V → List V → List V → List V → List V → List V → List V → List V → List V → List V → Option R}
    (hl : ∀ s ∈ l, StateS 2 d s) (hnm : NamesIn ns0 d l) (hl0 : ns0.length ≤ 1000) (hn : NamS a p t nd) (hll : l.length ≤ 4) {M1 M2 : Nat} (hM1 : M1 ≤ 100000) (hM2 : M2 ≤ 100000)
    (hKo : ∀ ns es codes, CoreEq ns ns0 → (∀ e ∈ es, EdgeS ns0 e) → es.length ≤ M1 → CodesS codes → codes.length ≤ M2 → W Q K (Ko nm x y v1 v2 v3 (ns.map Nd.v) es codes a p t (nd.map Nd.v))) :
    ∀ (B A : List V) (j : Nat) (ns : List Nd) (es codes : List V), l = A ++ B → B.length < j → CoreEq ns ns0 → (∀ e ∈ es, EdgeS ns0 e) → es.length + 2 * nszL d B ≤ M1 → CodesS codes → codes.length + 6 * nszL d B ≤ M2 →
      W Q K (l104_0g G k Ko j l A.length nm x y v1 v2 v3 (ns.map Nd.v) es codes a p t (nd.map Nd.v))
  | B, A, 0, ns, es, codes, h1, h2, h3, h4, h5, h6, h7 => by omega
  | [], A, j + 1, ns, es, codes, h1, h2, h3, h4, h5, h6, h7 => by
    show W Q K (b104_0 G k (l104_0g G k Ko j) Ko l A.length nm x y v1 v2 v3 (ns.map Nd.v) es codes a p t (nd.map Nd.v))
    unfold b104_0
    refine W_no (by rw [h1]; simp) ?_
    exact hKo ns es codes h3 h4 (by omega) h6 (by omega)
  | b :: B, A, j + 1, ns, es, codes, h1, h2, h3, h4, h5, h6, h7 => by
    show W Q K (b104_0 G k (l104_0g G k Ko j) Ko l A.length nm x y v1 v2 v3 (ns.map Nd.v) es codes a p t (nd.map Nd.v))
    unfold b104_0
    have hbl : b ∈ l := by rw [h1]; simp
    have hb := hl b hbl
    cases d with
    | zero => exact hb.elim
    | succ d =>
    have hbn := hnm.mem hbl
    rw [nszL_cons] at h5 h7
    have hA4 : A.length + (B.length + 1) ≤ 4 := by rw [h1] at hll; simpa using hll
    obtain ⟨kind, sn, en, ex, tr, kids, rfl, x1, x2, x3, x4, x5, x6, x7, x8, x9, x10, x11, x12, x13⟩ := hb
    have hkb : stKids (.agg [.int .i64 kind, .str sn, .sl 8 en, .sl 8 ex, .sl 5 tr, .sl 7 kids, .int .i64 0]) = kids := rfl
    have hsn : stName (.agg [.int .i64 kind, .str sn, .sl 8 en, .sl 8 ex, .sl 5 tr, .sl 7 kids, .int .i64 0]) = sn := rfl
    rw [hkb] at h5 h7 hbn
    rw [hsn] at hbn
    have hlt : (A.length : Int) < ((l.length : Nat) : Int) := by rw [h1]; simp; omega
    refine W_yes hlt (W_and (W_yes (by omega) (W_yes hlt ?_)))
    refine W_nth (by omega) (fun v hv _ => ?_)
    rw [h1] at hv
    have hvb : v = .agg [.int .i64 kind, .str sn, .sl 8 en, .sl 8 ex, .sl 5 tr, .sl 7 kids, .int .i64 0] := by simp at hv; exact hv.symm
    subst hvb
    (repeat (with_reducible (first | (refine W_uI ?_) | (refine W_uS ?_) | (refine W_uL ?_) | (refine W_uA ?_) | (refine W_uB ?_) | (refine W_aI ?_) | (refine W_aL ?_) | (refine W_ca3 ?_) | (refine W_ce3 ?_) | (refine W_ca4 ?_) | (refine W_ce4 ?_) | (refine W_ca5 ?_) | (refine W_ce5 ?_) | (refine W_ca6 ?_) | (refine W_ce6 ?_) | (refine W_ca7 ?_) | (refine W_ce7 ?_) | (refine W_ca8 ?_) | (refine W_ce8 ?_) | (refine W_nd7 ?_) | (refine W_unCons ?_) | (refine W_unNil ?_) | (refine W_asInt ?_) | (refine W_asBool ?_) | (refine W_asStr ?_) | (refine W_asSl ?_) | (refine W_asAgg ?_) | (refine W_kd ?_) | (refine W_z ?_))))
    have hnl : ns.length = ns0.length := h3.len
    have hS' := hS d rfl
    have hF0 := hF; have hD0 := hD; have hLb0 := hLb; have hG0 := hG
    unfold FindOK at hF; unfold LbOK at hLb
    refine W_call (hF ns sn _ (by omega)) ?_
    rintro _ rfl
    rw [findN_core h3]
    (repeat (with_reducible (first | (refine W_uI ?_) | (refine W_uS ?_) | (refine W_uL ?_) | (refine W_uA ?_) | (refine W_uB ?_) | (refine W_aI ?_) | (refine W_aL ?_) | (refine W_ca3 ?_) | (refine W_ce3 ?_) | (refine W_ca4 ?_) | (refine W_ce4 ?_) | (refine W_ca5 ?_) | (refine W_ce5 ?_) | (refine W_ca6 ?_) | (refine W_ce6 ?_) | (refine W_ca7 ?_) | (refine W_ce7 ?_) | (refine W_ca8 ?_) | (refine W_ce8 ?_) | (refine W_nd7 ?_) | (refine W_unCons ?_) | (refine W_unNil ?_) | (refine W_asInt ?_) | (refine W_asBool ?_) | (refine W_asStr ?_) | (refine W_asSl ?_) | (refine W_asAgg ?_) | (refine W_kd ?_) | (refine W_z ?_))))
    have hat : 1 ≤ findN ns0 sn ∧ findN ns0 sn < ns0.length := by rcases findN_at (l := ns0) (s := sn) with e | e; exact absurd e hbn.1; exact e
    refine W_call (hLb en nm x y v1 v2 v3 _ _ _ a p t nd _ x5.mono hn h6 (by omega)) ?_
    rintro _ ⟨r1, codes1, rfl, r11, r12, r13⟩
    (repeat (with_reducible (first | (refine W_uI ?_) | (refine W_uS ?_) | (refine W_uL ?_) | (refine W_uA ?_) | (refine W_uB ?_) | (refine W_aI ?_) | (refine W_aL ?_) | (refine W_ca3 ?_) | (refine W_ce3 ?_) | (refine W_ca4 ?_) | (refine W_ce4 ?_) | (refine W_ca5 ?_) | (refine W_ce5 ?_) | (refine W_ca6 ?_) | (refine W_ce6 ?_) | (refine W_ca7 ?_) | (refine W_ce7 ?_) | (refine W_ca8 ?_) | (refine W_ce8 ?_) | (refine W_nd7 ?_) | (refine W_unCons ?_) | (refine W_unNil ?_) | (refine W_asInt ?_) | (refine W_asBool ?_) | (refine W_asStr ?_) | (refine W_asSl ?_) | (refine W_asAgg ?_) | (refine W_kd ?_) | (refine W_z ?_))))
    refine W_call (hLb ex nm x y v1 v2 v3 _ _ _ a p t nd _ x6.mono hn r12 (by omega)) ?_
    rintro _ ⟨r2, codes2, rfl, r21, r22, r23⟩
    (repeat (with_reducible (first | (refine W_uI ?_) | (refine W_uS ?_) | (refine W_uL ?_) | (refine W_uA ?_) | (refine W_uB ?_) | (refine W_aI ?_) | (refine W_aL ?_) | (refine W_ca3 ?_) | (refine W_ce3 ?_) | (refine W_ca4 ?_) | (refine W_ce4 ?_) | (refine W_ca5 ?_) | (refine W_ce5 ?_) | (refine W_ca6 ?_) | (refine W_ce6 ?_) | (refine W_ca7 ?_) | (refine W_ce7 ?_) | (refine W_ca8 ?_) | (refine W_ce8 ?_) | (refine W_nd7 ?_) | (refine W_unCons ?_) | (refine W_unNil ?_) | (refine W_asInt ?_) | (refine W_asBool ?_) | (refine W_asStr ?_) | (refine W_asSl ?_) | (refine W_asAgg ?_) | (refine W_kd ?_) | (refine W_z ?_))))
    generalize hate : findN ns0 sn = at_ at *
    refine W_and (W_yes (by omega) (W_yes (by rw [List.length_map]; omega) ?_))
    refine W_nthN (by omega) (fun n1 hn1 => W_nd ?_)
    (repeat (with_reducible (first | (refine W_uI ?_) | (refine W_uS ?_) | (refine W_uL ?_) | (refine W_uA ?_) | (refine W_uB ?_) | (refine W_aI ?_) | (refine W_aL ?_) | (refine W_ca3 ?_) | (refine W_ce3 ?_) | (refine W_ca4 ?_) | (refine W_ce4 ?_) | (refine W_ca5 ?_) | (refine W_ce5 ?_) | (refine W_ca6 ?_) | (refine W_ce6 ?_) | (refine W_ca7 ?_) | (refine W_ce7 ?_) | (refine W_ca8 ?_) | (refine W_ce8 ?_) | (refine W_nd7 ?_) | (refine W_unCons ?_) | (refine W_unNil ?_) | (refine W_asInt ?_) | (refine W_asBool ?_) | (refine W_asStr ?_) | (refine W_asSl ?_) | (refine W_asAgg ?_) | (refine W_kd ?_) | (refine W_z ?_))))
    have e1 : List.set (ns.map Nd.v) (Int.toNat at_) (V.agg [.int .i64 n1.kind, .int .i64 n1.parent, .int .i64 n1.last, .int .i64 n1.init, .int .i64 r1, .int .i64 n1.exit, .str n1.name]) = (ns.set (Int.toNat at_) { n1 with entry := r1 }).map Nd.v := by
      rw [show V.agg [.int .i64 n1.kind, .int .i64 n1.parent, .int .i64 n1.last, .int .i64 n1.init, .int .i64 r1, .int .i64 n1.exit, .str n1.name] = ({ n1 with entry := r1 } : Nd).v from rfl, set_map]
    rw [e1]
    have c1 : CoreEq (ns.set (Int.toNat at_) { n1 with entry := r1 }) ns0 := core_set h3 hn1 rfl
    generalize hns1 : ns.set (Int.toNat at_) { n1 with entry := r1 } = ns1 at *
    have hnl1 : ns1.length = ns0.length := c1.len
    refine W_and (W_yes (by omega) (W_yes (by rw [List.length_map]; omega) ?_))
    refine W_nthN (by omega) (fun n2 hn2 => W_nd ?_)
    (repeat (with_reducible (first | (refine W_uI ?_) | (refine W_uS ?_) | (refine W_uL ?_) | (refine W_uA ?_) | (refine W_uB ?_) | (refine W_aI ?_) | (refine W_aL ?_) | (refine W_ca3 ?_) | (refine W_ce3 ?_) | (refine W_ca4 ?_) | (refine W_ce4 ?_) | (refine W_ca5 ?_) | (refine W_ce5 ?_) | (refine W_ca6 ?_) | (refine W_ce6 ?_) | (refine W_ca7 ?_) | (refine W_ce7 ?_) | (refine W_ca8 ?_) | (refine W_ce8 ?_) | (refine W_nd7 ?_) | (refine W_unCons ?_) | (refine W_unNil ?_) | (refine W_asInt ?_) | (refine W_asBool ?_) | (refine W_asStr ?_) | (refine W_asSl ?_) | (refine W_asAgg ?_) | (refine W_kd ?_) | (refine W_z ?_))))
    have e2 : List.set (ns1.map Nd.v) (Int.toNat at_) (V.agg [.int .i64 n2.kind, .int .i64 n2.parent, .int .i64 n2.last, .int .i64 n2.init, .int .i64 n2.entry, .int .i64 r2, .str n2.name]) = (ns1.set (Int.toNat at_) { n2 with exit := r2 }).map Nd.v := by
      rw [show V.agg [.int .i64 n2.kind, .int .i64 n2.parent, .int .i64 n2.last, .int .i64 n2.init, .int .i64 n2.entry, .int .i64 r2, .str n2.name] = ({ n2 with exit := r2 } : Nd).v from rfl, set_map]
    rw [e2]
    have c2 : CoreEq (ns1.set (Int.toNat at_) { n2 with exit := r2 }) ns0 := core_set c1 hn2 rfl
    generalize hns2 : ns1.set (Int.toNat at_) { n2 with exit := r2 } = ns2 at *
    unfold l104_2
    refine st_trans (m1 := es.length + 2) (m2 := codes2.length + 4) hF0 hD0 hLb0 hG0 c2 hl0 hn hat x7 x8 (by omega) (by omega) ?_ k 0 es codes2 (by omega) (by omega) (by omega) h4 (by omega) r22 (by omega)
    intro es3 codes3 s1 s2 s3 s4
    refine W_asSl ?_
    refine W_call (hS' kids nm x y v1 v2 v3 es3 codes3 a p t ns2 ns0 nd _ x10 hbn.2 c2 hl0 s1 (by omega) s3 (by omega) hn x9) ?_
    rintro _ ⟨ns4, es4, codes4, rfl, u1, u2, u3, u4, u5⟩
    (repeat (with_reducible (first | (refine W_uI ?_) | (refine W_uS ?_) | (refine W_uL ?_) | (refine W_uA ?_) | (refine W_uB ?_) | (refine W_aI ?_) | (refine W_aL ?_) | (refine W_ca3 ?_) | (refine W_ce3 ?_) | (refine W_ca4 ?_) | (refine W_ce4 ?_) | (refine W_ca5 ?_) | (refine W_ce5 ?_) | (refine W_ca6 ?_) | (refine W_ce6 ?_) | (refine W_ca7 ?_) | (refine W_ce7 ?_) | (refine W_ca8 ?_) | (refine W_ce8 ?_) | (refine W_nd7 ?_) | (refine W_unCons ?_) | (refine W_unNil ?_) | (refine W_asInt ?_) | (refine W_asBool ?_) | (refine W_asStr ?_) | (refine W_asSl ?_) | (refine W_asAgg ?_) | (refine W_kd ?_) | (refine W_z ?_))))
    rw [wrap_id (n := (A.length : Int) + 1) (by omega)]
    have e := sts_loop hk hF0 hD0 hLb0 hG0 hS hl hnm hl0 hn hll hM1 hM2 hKo B (A ++ [.agg [.int .i64 kind, .str sn, .sl 8 en, .sl 8 ex, .sl 5 tr, .sl 7 kids, .int .i64 0]]) j ns4 es4 codes4 (by rw [h1]; simp) (by simp at h2; omega) u1 u2 (by omega) u4 (by omega)
    simp only [List.length_append, List.length_cons, List.length_nil, Nat.zero_add, Int.natCast_add, Int.natCast_one] at e
    exact e
theorem sts_ok {d : Nat} (hk : 1000 ≤ k) (hF : FindOK G) (hD : DomOK G) (hLb : LbOK G) (hG : GdOK G) (hS : ∀ d', d = d' + 1 → StsOK d' G) : StsOK d (fun _ args (K : List V → Option R) => g104 G k args K) := by
  intro l nm x y v1 v2 v3 es codes a p t ns ns0 nd K h1 h2 h3 h4 h5 h6 h7 h8 h9 h10
  show W _ K (f104 G k l nm x y v1 v2 v3 (ns.map Nd.v) es codes a p t (nd.map Nd.v) K)
  unfold f104 l104_0
  exact sts_loop (M1 := es.length + 2 * nszL d l) (M2 := codes.length + 6 * nszL d l) hk hF hD hLb hG hS h1 h2 h4 h9 h10 h6 h8 (fun ns' es' codes' k1 k2 k3 k4 k5 => W_ret ⟨_, _, _, rfl, k1, k2, k3, k4, k5⟩) l [] k ns es codes rfl (by omega) h3 h5 (Nat.le_refl _) h7 (Nat.le_refl _)
/-- A table of a chart by numbers. -/
def TableS (v : V) : Prop := ∃ nm st fu vars ports timers ns ns0 es codes, v = .agg [.str nm, .int .i64 st, .int .i64 fu, .sl 1 vars, .sl 1 ports, .sl 1 timers, .sl 7 (ns.map Nd.v), .sl 6 es, .sl 1 codes] ∧ IntsS vars ∧ StrsS 100 ports ∧ StrsS 100 timers ∧
  CoreEq ns ns0 ∧ (∃ states, ns0 = ndsOf states ∧ states ≠ [] ∧ (∀ s ∈ states, StateS 2 3 s ∧ kindV s ≤ 2)) ∧ ns0.length ≤ 10 ∧ (∀ e ∈ es, EdgeS ns0 e) ∧ es.length ≤ 18 ∧ CodesS codes ∧ codes.length ≤ 54
def TabOK (G : ORC R) : Prop := ∀ (c : V) (K : List V → Option R), ChartS c → W (fun o => ∃ v, o = [v] ∧ TableS v) K (G 86 [c] K)
theorem vars_loop {Q : List V → Prop} {K : List V → Option R} {Ko : ByteArray → Int → Int → List V → List V → List V → List V → Int → ByteArray → Int → Int → List V → List V → List V → List V → List V → List V → ByteArray → Int → Int → List V → List V → List V → List V → List V → List V → List V → List V → List V → List V → Option R}
    {s1 s2 s3 : ByteArray} {z1 z2 z3 z4 z5 z6 z7 : Int} {l q1 q2 q3 q4 q5 q6 q7 q8 q9 r1 r2 r3 r4 r5 r6 r7 r8 r9 : List V} (hl : NamedS 100 l)
    (hKo : ∀ vs, IntsS vs → W Q K (Ko s1 z1 z2 l q1 q2 q3 z3 s2 z4 z5 q4 q5 q6 q7 q8 q9 s3 z6 z7 vs r1 r2 r3 r4 r5 r6 r7 r8 r9)) :
    ∀ (j : Nat) (i : Int) (vs : List V), 0 ≤ i → l.length - i < j → i ≤ l.length → vs.length = i.toNat → IntsS vs → W Q K (l86_0g G k Ko j i s1 z1 z2 l q1 q2 q3 z3 s2 z4 z5 q4 q5 q6 q7 q8 q9 s3 z6 z7 vs r1 r2 r3 r4 r5 r6 r7 r8 r9)
  | 0, i, vs, h1, h2, h3, h4, h5 => by omega
  | j + 1, i, vs, h1, h2, h3, h4, h5 => by
    show W Q K (b86_0 G k (l86_0g G k Ko j) Ko i s1 z1 z2 l q1 q2 q3 z3 s2 z4 z5 q4 q5 q6 q7 q8 q9 s3 z6 z7 vs r1 r2 r3 r4 r5 r6 r7 r8 r9)
    unfold b86_0
    have hll := hl.1
    refine W_dec (fun h => ?_) (fun h => hKo vs h5)
    refine W_and (W_yes h1 (W_yes h (W_nth (by omega) (fun v _ hv => ?_))))
    obtain ⟨s, n, rfl, _, hn⟩ := hl.2 v hv
    refine W_ca3 (W_aI (W_yes (by omega) ?_))
    rw [wrap_id (n := i + 1) (by omega)]
    exact vars_loop hl hKo j (i + 1) _ (by omega) (by omega) (by omega) (by simp; omega) (mem_snoc h5 ⟨n, rfl, hn⟩)
theorem tab_ok (hk : 1000 ≤ k) (hNm : NamesC G) (hT : TextsOK G) (hN : NodesOK G) (hS : StsOK 3 G) : TabOK (fun _ args (K : List V → Option R) => g86 G k args K) := by
  intro c K hc
  obtain ⟨nm, st, fu, vars, ports, timers, states, rfl, x1, x2, x3, x4, x5, x6, x7, x8, x9, x10, x11, x12, x13⟩ := hc
  show W _ K (f86 G k nm st fu vars ports timers states 0 K)
  unfold f86
  unfold TextsOK at hT
  refine W_call (hNm nm st fu 0 vars ports timers states _ x6 x7 x8 x11 (by omega)) ?_
  rintro _ ⟨p, q, t, rfl, hn⟩
  (repeat (with_reducible (first | (refine W_uI ?_) | (refine W_uS ?_) | (refine W_uL ?_) | (refine W_uA ?_) | (refine W_uB ?_) | (refine W_aI ?_) | (refine W_aL ?_) | (refine W_ca3 ?_) | (refine W_ce3 ?_) | (refine W_ca4 ?_) | (refine W_ce4 ?_) | (refine W_ca5 ?_) | (refine W_ce5 ?_) | (refine W_ca6 ?_) | (refine W_ce6 ?_) | (refine W_ca7 ?_) | (refine W_ce7 ?_) | (refine W_ca8 ?_) | (refine W_ce8 ?_) | (refine W_nd7 ?_) | (refine W_unCons ?_) | (refine W_unNil ?_) | (refine W_asInt ?_) | (refine W_asBool ?_) | (refine W_asStr ?_) | (refine W_asSl ?_) | (refine W_asAgg ?_) | (refine W_kd ?_) | (refine W_z ?_))))
  refine W_call (hT _ _ x7) ?_
  rintro _ ⟨q2, rfl, hq2⟩
  (repeat (with_reducible (first | (refine W_uI ?_) | (refine W_uS ?_) | (refine W_uL ?_) | (refine W_uA ?_) | (refine W_uB ?_) | (refine W_aI ?_) | (refine W_aL ?_) | (refine W_ca3 ?_) | (refine W_ce3 ?_) | (refine W_ca4 ?_) | (refine W_ce4 ?_) | (refine W_ca5 ?_) | (refine W_ce5 ?_) | (refine W_ca6 ?_) | (refine W_ce6 ?_) | (refine W_ca7 ?_) | (refine W_ce7 ?_) | (refine W_ca8 ?_) | (refine W_ce8 ?_) | (refine W_nd7 ?_) | (refine W_unCons ?_) | (refine W_unNil ?_) | (refine W_asInt ?_) | (refine W_asBool ?_) | (refine W_asStr ?_) | (refine W_asSl ?_) | (refine W_asAgg ?_) | (refine W_kd ?_) | (refine W_z ?_))))
  refine W_call (hT _ _ x8) ?_
  rintro _ ⟨q3, rfl, hq3⟩
  (repeat (with_reducible (first | (refine W_uI ?_) | (refine W_uS ?_) | (refine W_uL ?_) | (refine W_uA ?_) | (refine W_uB ?_) | (refine W_aI ?_) | (refine W_aL ?_) | (refine W_ca3 ?_) | (refine W_ce3 ?_) | (refine W_ca4 ?_) | (refine W_ce4 ?_) | (refine W_ca5 ?_) | (refine W_ce5 ?_) | (refine W_ca6 ?_) | (refine W_ce6 ?_) | (refine W_ca7 ?_) | (refine W_ce7 ?_) | (refine W_ca8 ?_) | (refine W_ce8 ?_) | (refine W_nd7 ?_) | (refine W_unCons ?_) | (refine W_unNil ?_) | (refine W_asInt ?_) | (refine W_asBool ?_) | (refine W_asStr ?_) | (refine W_asSl ?_) | (refine W_asAgg ?_) | (refine W_kd ?_) | (refine W_z ?_))))
  refine W_call (hN nm st fu vars ports timers states 0 _ x11 (by omega)) ?_
  rintro _ rfl
  (repeat (with_reducible (first | (refine W_uI ?_) | (refine W_uS ?_) | (refine W_uL ?_) | (refine W_uA ?_) | (refine W_uB ?_) | (refine W_aI ?_) | (refine W_aL ?_) | (refine W_ca3 ?_) | (refine W_ce3 ?_) | (refine W_ca4 ?_) | (refine W_ce4 ?_) | (refine W_ca5 ?_) | (refine W_ce5 ?_) | (refine W_ca6 ?_) | (refine W_ce6 ?_) | (refine W_ca7 ?_) | (refine W_ce7 ?_) | (refine W_ca8 ?_) | (refine W_ce8 ?_) | (refine W_nd7 ?_) | (refine W_unCons ?_) | (refine W_unNil ?_) | (refine W_asInt ?_) | (refine W_asBool ?_) | (refine W_asStr ?_) | (refine W_asSl ?_) | (refine W_asAgg ?_) | (refine W_kd ?_) | (refine W_z ?_))))
  unfold l86_0
  refine vars_loop x6 ?_ k 0 [] (by omega) (by have := x6.1; omega) (by omega) rfl (by intro v hv; cases hv)
  intro vs hvs
  have hlen := ndsOf_len (states := states)
  refine W_call (hS states nm st fu vs q2 q3 [] [] p q t (ndsOf states) (ndsOf states) (ndsOf states) _ (fun s hs => (x11 s hs).1) namesIn_ndsOf rfl (by omega) (by intro e he; cases he) (by simp; omega) (by intro e he; cases he) (by simp; omega) hn (by omega)) ?_
  rintro _ ⟨ns, es, codes, rfl, u1, u2, u3, u4, u5⟩
  simp only [List.length_nil, Nat.zero_add] at u3 u5
  (repeat (with_reducible (first | (refine W_uI ?_) | (refine W_uS ?_) | (refine W_uL ?_) | (refine W_uA ?_) | (refine W_uB ?_) | (refine W_aI ?_) | (refine W_aL ?_) | (refine W_ca3 ?_) | (refine W_ce3 ?_) | (refine W_ca4 ?_) | (refine W_ce4 ?_) | (refine W_ca5 ?_) | (refine W_ce5 ?_) | (refine W_ca6 ?_) | (refine W_ce6 ?_) | (refine W_ca7 ?_) | (refine W_ce7 ?_) | (refine W_ca8 ?_) | (refine W_ce8 ?_) | (refine W_nd7 ?_) | (refine W_unCons ?_) | (refine W_unNil ?_) | (refine W_asInt ?_) | (refine W_asBool ?_) | (refine W_asStr ?_) | (refine W_asSl ?_) | (refine W_asAgg ?_) | (refine W_kd ?_) | (refine W_z ?_))))
  exact W_ret ⟨_, rfl, nm, st, fu, vs, q2, q3, ns, ndsOf states, es, codes, rfl, hvs, hq2, hq3, u1, ⟨states, rfl, x10, x11⟩, by omega, u2, by omega, u4, by omega⟩
end
end Go.Proofs.Ytblabbcmokldiaa.Vm
open Go Go.VM
set_option linter.unusedVariables false
set_option maxRecDepth 100000
set_option maxHeartbeats 4000000
namespace Go.Proofs.Ytblabbcmokldiaa.Vm
/-! ### cotillion/flat.is: function 63 -/
def L63 {R : Type} (_ : ORC R) (_ : Nat) : Nat → St → (Ex → St → Option R) → Option R := fun _ _ _ => none
def f63 {R : Type} (G : ORC R) (k : Nat) (al1 : List V) (ai2 : Int) (K : List V → Option R) : Option R :=
  (bif (decide (ai2 ≥ 0)) then (K [(.bool (decide (ai2 < ((List.length al1 : Nat) : Int))))]) else (K [(.bool false)]))
theorem f63_is {R : Type} (G : ORC R) (k : Nat) (K : List V → Option R) (al1 : List V) (ai2 : Int) :
    callF (TAB.env 63) G (L63 G k) Try.f63 S63 [(.sl 7 al1), (.int .i64 ai2)] K = f63 G k al1 ai2 K := by kernel_rfl
theorem lo63 : loopsOf (bodyOf Try.f63) = [] := by kernel_rfl
theorem la63 {R : Type} (G : ORC R) (k : Nat) : LoopsAre (TAB.env 63) G (L63 G k) (bodyOf Try.f63) :=
  loopsAre_of (by rw [lo63]; intro p hp; cases hp)
def g63 {R : Type} (G : ORC R) (k : Nat) (args : List V) (K : List V → Option R) : Option R := match args with
  | [(.sl 7 al1), (.int .i64 ai2)] => f63 G k al1 ai2 K
  | _ => none
theorem s63 {R : Type} {G : ORC R} {k : Nat} (hG : Sound Try.prog TAB G) (args : List V) (K : List V → Option R) (r : R) (h : g63 G k args K = some r) : ∃ o, CallOK Try.prog TAB.env 63 args o ∧ K o = some r := by
  unfold g63 at h
  split at h
  · rw [← f63_is] at h
    exact callF_sound (f := 63) TAB_chk MO hG Try.func63 (sg := S63) (by kernel_rfl) (by kernel_rfl) (la63 G k) h
  · cases h
end Go.Proofs.Ytblabbcmokldiaa.Vm
open Go Go.VM
set_option linter.unusedVariables false
set_option maxRecDepth 100000
set_option maxHeartbeats 4000000
namespace Go.Proofs.Ytblabbcmokldiaa.Vm
/-! ### cotillion/flat.In: function 20 -/
def L20 {R : Type} (_ : ORC R) (_ : Nat) : Nat → St → (Ex → St → Option R) → Option R := fun _ _ _ => none
def f20 {R : Type} (G : ORC R) (k : Nat) (al1 : List V) (ai2 ai3 : Int) (K : List V → Option R) : Option R :=
  (G 63 [(.sl 7 al1), (.int .i64 ai2)] fun o4 => (uB o4 fun b6 r5 => (unNil r5 (bif b6 then (G 63 [(.sl 7 al1), (.int .i64 ai3)] fun o7 => (uB o7 fun b9 r8 => (unNil r8 (bif b9 then (bif (decide (ai2 ≥ ai3)) then (bif ((decide (0 ≤ ai3)) && (decide (ai3 < ((List.length al1 : Nat) : Int)))) then (nthK al1 (Int.toNat ai3) fun e10 => (ca7 e10 fun c11 c12 c13 c14 c15 c16 c17 => (aI .i64 c13 fun n18 => (K [(.bool (decide (ai2 ≤ n18)))])))) else none) else (K [(.bool false)])) else (K [(.bool false)]))))) else (K [(.bool false)])))))
theorem f20_is {R : Type} (G : ORC R) (k : Nat) (K : List V → Option R) (al1 : List V) (ai2 ai3 : Int) :
    callF (TAB.env 20) G (L20 G k) Try.f20 S20 [(.sl 7 al1), (.int .i64 ai2), (.int .i64 ai3)] K = f20 G k al1 ai2 ai3 K := by kernel_rfl
theorem lo20 : loopsOf (bodyOf Try.f20) = [] := by kernel_rfl
theorem la20 {R : Type} (G : ORC R) (k : Nat) : LoopsAre (TAB.env 20) G (L20 G k) (bodyOf Try.f20) :=
  loopsAre_of (by rw [lo20]; intro p hp; cases hp)
def g20 {R : Type} (G : ORC R) (k : Nat) (args : List V) (K : List V → Option R) : Option R := match args with
  | [(.sl 7 al1), (.int .i64 ai2), (.int .i64 ai3)] => f20 G k al1 ai2 ai3 K
  | _ => none
theorem s20 {R : Type} {G : ORC R} {k : Nat} (hG : Sound Try.prog TAB G) (args : List V) (K : List V → Option R) (r : R) (h : g20 G k args K = some r) : ∃ o, CallOK Try.prog TAB.env 20 args o ∧ K o = some r := by
  unfold g20 at h
  split at h
  · rw [← f20_is] at h
    exact callF_sound (f := 20) TAB_chk MO hG Try.func20 (sg := S20) (by kernel_rfl) (by kernel_rfl) (la20 G k) h
  · cases h
end Go.Proofs.Ytblabbcmokldiaa.Vm
open Go Go.VM
set_option linter.unusedVariables false
set_option linter.unusedSimpArgs false
set_option maxRecDepth 100000
set_option maxHeartbeats 8000000
namespace Go.Proofs.Ytblabbcmokldiaa.Vm
section
variable {R : Type} {G : ORC R} {k : Nat} {K : List V → Option R}
def CIsOK (G : ORC R) : Prop := ∀ (l : List V) (i : Int) (K : List V → Option R), W (fun o => o = [.bool (decide (0 ≤ i ∧ i < l.length))]) K (G 63 [.sl 7 l, .int .i64 i] K)
theorem cis_ok : CIsOK (fun _ args (K : List V → Option R) => g63 G k args K) := by
  intro l i K
  show W _ K (f63 G k l i K)
  unfold f63
  refine W_dec (fun h => ?_) (fun h => ?_)
  · exact W_ret (by congr 3; simp; omega)
  · exact W_ret (by congr 2; symm; rw [decide_eq_false]; omega)
def CInOK (G : ORC R) : Prop := ∀ (l : List Nd) (a b : Int) (K : List V → Option R), W (fun o => o = [.bool (inN l a b)]) K (G 20 [.sl 7 (l.map Nd.v), .int .i64 a, .int .i64 b] K)
theorem cin_ok (hI : CIsOK G) : CInOK (fun _ args (K : List V → Option R) => g20 G k args K) := by
  intro l a b K
  show W _ K (f20 G k (l.map Nd.v) a b K)
  unfold f20
  unfold CIsOK at hI
  have no : ¬ (0 ≤ a ∧ a < l.length ∧ 0 ≤ b ∧ b < l.length ∧ a ≥ b) → inN l a b = false := fun h => by unfold inN; rw [decide_eq_false h]; rfl
  refine W_call (hI _ _ _) ?_
  rintro _ rfl
  (repeat (with_reducible (first | (refine W_uI ?_) | (refine W_uS ?_) | (refine W_uL ?_) | (refine W_uA ?_) | (refine W_uB ?_) | (refine W_aI ?_) | (refine W_aL ?_) | (refine W_ca3 ?_) | (refine W_ce3 ?_) | (refine W_ca4 ?_) | (refine W_ce4 ?_) | (refine W_ca5 ?_) | (refine W_ce5 ?_) | (refine W_ca6 ?_) | (refine W_ce6 ?_) | (refine W_ca7 ?_) | (refine W_ce7 ?_) | (refine W_ca8 ?_) | (refine W_ce8 ?_) | (refine W_nd7 ?_) | (refine W_unCons ?_) | (refine W_unNil ?_) | (refine W_asInt ?_) | (refine W_asBool ?_) | (refine W_asStr ?_) | (refine W_asSl ?_) | (refine W_asAgg ?_) | (refine W_kd ?_) | (refine W_z ?_))))
  simp only [List.length_map]
  refine W_dec (fun h1 => ?_) (fun h1 => W_ret (by rw [no (by omega)]))
  refine W_call (hI _ _ _) ?_
  rintro _ rfl
  (repeat (with_reducible (first | (refine W_uI ?_) | (refine W_uS ?_) | (refine W_uL ?_) | (refine W_uA ?_) | (refine W_uB ?_) | (refine W_aI ?_) | (refine W_aL ?_) | (refine W_ca3 ?_) | (refine W_ce3 ?_) | (refine W_ca4 ?_) | (refine W_ce4 ?_) | (refine W_ca5 ?_) | (refine W_ce5 ?_) | (refine W_ca6 ?_) | (refine W_ce6 ?_) | (refine W_ca7 ?_) | (refine W_ce7 ?_) | (refine W_ca8 ?_) | (refine W_ce8 ?_) | (refine W_nd7 ?_) | (refine W_unCons ?_) | (refine W_unNil ?_) | (refine W_asInt ?_) | (refine W_asBool ?_) | (refine W_asStr ?_) | (refine W_asSl ?_) | (refine W_asAgg ?_) | (refine W_kd ?_) | (refine W_z ?_))))
  simp only [List.length_map]
  refine W_dec (fun h2 => ?_) (fun h2 => W_ret (by rw [no (by omega)]))
  refine W_dec (fun h3 => ?_) (fun h3 => W_ret (by rw [no (by omega)]))
  refine W_and (W_yes h2.1 (W_yes h2.2 ?_))
  refine W_nthN (by omega) (fun n hn => W_nd ?_)
  (repeat (with_reducible (first | (refine W_uI ?_) | (refine W_uS ?_) | (refine W_uL ?_) | (refine W_uA ?_) | (refine W_uB ?_) | (refine W_aI ?_) | (refine W_aL ?_) | (refine W_ca3 ?_) | (refine W_ce3 ?_) | (refine W_ca4 ?_) | (refine W_ce4 ?_) | (refine W_ca5 ?_) | (refine W_ce5 ?_) | (refine W_ca6 ?_) | (refine W_ce6 ?_) | (refine W_ca7 ?_) | (refine W_ce7 ?_) | (refine W_ca8 ?_) | (refine W_ce8 ?_) | (refine W_nd7 ?_) | (refine W_unCons ?_) | (refine W_unNil ?_) | (refine W_asInt ?_) | (refine W_asBool ?_) | (refine W_asStr ?_) | (refine W_asSl ?_) | (refine W_asAgg ?_) | (refine W_kd ?_) | (refine W_z ?_))))
  have e : inN l a b = decide (a ≤ n.last) := by
    unfold inN
    rw [decide_eq_true (show 0 ≤ a ∧ a < l.length ∧ 0 ≤ b ∧ b < l.length ∧ a ≥ b from ⟨h1.1, h1.2, h2.1, h2.2, h3⟩), hn]; rfl
  exact W_ret (by rw [e])
end
end Go.Proofs.Ytblabbcmokldiaa.Vm
open Go Go.VM
set_option linter.unusedVariables false
set_option maxRecDepth 100000
set_option maxHeartbeats 4000000
namespace Go.Proofs.Ytblabbcmokldiaa.Vm
/-! ### cotillion/cotillionlaw15.table: function 52 -/
def L52 {R : Type} (_ : ORC R) (_ : Nat) : Nat → St → (Ex → St → Option R) → Option R := fun _ _ _ => none
def f52 {R : Type} (G : ORC R) (k : Nat) (al1 : List V) (K : List V → Option R) : Option R :=
  (G 59 [(.str ⟨#[99]⟩), (.int .i64 1), (.sl 1 al1), (.int .i64 0)] fun o2 => (uA o2 fun l4 r3 => (uS l4 fun s6 r5 => (uI .i64 r5 fun n8 r7 => (uI .i64 r7 fun n10 r9 => (uL 3 r9 fun l12 r11 => (uL 3 r11 fun l14 r13 => (uL 3 r13 fun l16 r15 => (uL 7 r15 fun l18 r17 => (uI .i64 r17 fun n20 r19 => (unNil r19 (uI .i64 r3 fun n22 r21 => (unNil r21 (G 86 [(.agg [(.str s6), (.int .i64 n8), (.int .i64 n10), (.sl 3 l12), (.sl 3 l14), (.sl 3 l16), (.sl 7 l18), (.int .i64 n20)])] fun o23 => (uA o23 fun l25 r24 => (uS l25 fun s27 r26 => (uI .i64 r26 fun n29 r28 => (uI .i64 r28 fun n31 r30 => (uL 1 r30 fun l33 r32 => (uL 1 r32 fun l35 r34 => (uL 1 r34 fun l37 r36 => (uL 7 r36 fun l39 r38 => (uL 6 r38 fun l41 r40 => (uL 1 r40 fun l43 r42 => (unNil r42 (unNil r24 (K [(.agg [(.str s27), (.int .i64 n29), (.int .i64 n31), (.sl 1 l33), (.sl 1 l35), (.sl 1 l37), (.sl 7 l39), (.sl 6 l41), (.sl 1 l43)])])))))))))))))))))))))))))))
theorem f52_is {R : Type} (G : ORC R) (k : Nat) (K : List V → Option R) (al1 : List V) :
    callF (TAB.env 52) G (L52 G k) Try.f52 S52 [(.sl 1 al1)] K = f52 G k al1 K := by kernel_rfl
theorem lo52 : loopsOf (bodyOf Try.f52) = [] := by kernel_rfl
theorem la52 {R : Type} (G : ORC R) (k : Nat) : LoopsAre (TAB.env 52) G (L52 G k) (bodyOf Try.f52) :=
  loopsAre_of (by rw [lo52]; intro p hp; cases hp)
def g52 {R : Type} (G : ORC R) (k : Nat) (args : List V) (K : List V → Option R) : Option R := match args with
  | [(.sl 1 al1)] => f52 G k al1 K
  | _ => none
theorem s52 {R : Type} {G : ORC R} {k : Nat} (hG : Sound Try.prog TAB G) (args : List V) (K : List V → Option R) (r : R) (h : g52 G k args K = some r) : ∃ o, CallOK Try.prog TAB.env 52 args o ∧ K o = some r := by
  unfold g52 at h
  split at h
  · rw [← f52_is] at h
    exact callF_sound (f := 52) TAB_chk MO hG Try.func52 (sg := S52) (by kernel_rfl) (by kernel_rfl) (la52 G k) h
  · cases h
end Go.Proofs.Ytblabbcmokldiaa.Vm
open Go Go.VM
set_option linter.unusedVariables false
set_option maxRecDepth 100000
set_option maxHeartbeats 4000000
namespace Go.Proofs.Ytblabbcmokldiaa.Vm
/-! ### cotillion/cotillionref15.Pair: function 54 -/
def L54 {R : Type} (_ : ORC R) (_ : Nat) : Nat → St → (Ex → St → Option R) → Option R := fun _ _ _ => none
def f54 {R : Type} (G : ORC R) (k : Nat) (al1 : List V) (ai2 ai3 : Int) (ai4 ai5 ai6 : Int) (as7 : ByteArray) (ai8 ai9 : Int) (ai10 ai11 ai12 : Int) (as13 : ByteArray) (K : List V → Option R) : Option R :=
  (bif (decide (ai4 ≥ 0)) then (bif (decide (ai10 ≥ 0)) then (G 21 [(.sl 7 al1), (.int .i64 ai4), (.int .i64 ai10)] fun o14 => (uB o14 fun b16 r15 => (unNil r15 (bif b16 then (K [(.bool true)]) else (G 21 [(.sl 7 al1), (.int .i64 ai10), (.int .i64 ai4)] fun o17 => (uB o17 fun b19 r18 => (unNil r18 (K [(.bool b19)])))))))) else (K [(.bool false)])) else (K [(.bool false)]))
theorem f54_is {R : Type} (G : ORC R) (k : Nat) (K : List V → Option R) (al1 : List V) (ai2 ai3 : Int) (ai4 ai5 ai6 : Int) (as7 : ByteArray) (ai8 ai9 : Int) (ai10 ai11 ai12 : Int) (as13 : ByteArray) :
    callF (TAB.env 54) G (L54 G k) Try.f54 S54 [(.sl 7 al1), (.agg [(.int .i64 ai2), (.int .i64 ai3), (.int .i64 ai4), (.int .i64 ai5), (.int .i64 ai6), (.str as7)]), (.agg [(.int .i64 ai8), (.int .i64 ai9), (.int .i64 ai10), (.int .i64 ai11), (.int .i64 ai12), (.str as13)])] K = f54 G k al1 ai2 ai3 ai4 ai5 ai6 as7 ai8 ai9 ai10 ai11 ai12 as13 K := by kernel_rfl
theorem lo54 : loopsOf (bodyOf Try.f54) = [] := by kernel_rfl
theorem la54 {R : Type} (G : ORC R) (k : Nat) : LoopsAre (TAB.env 54) G (L54 G k) (bodyOf Try.f54) :=
  loopsAre_of (by rw [lo54]; intro p hp; cases hp)
def g54 {R : Type} (G : ORC R) (k : Nat) (args : List V) (K : List V → Option R) : Option R := match args with
  | [(.sl 7 al1), (.agg [(.int .i64 ai2), (.int .i64 ai3), (.int .i64 ai4), (.int .i64 ai5), (.int .i64 ai6), (.str as7)]), (.agg [(.int .i64 ai8), (.int .i64 ai9), (.int .i64 ai10), (.int .i64 ai11), (.int .i64 ai12), (.str as13)])] => f54 G k al1 ai2 ai3 ai4 ai5 ai6 as7 ai8 ai9 ai10 ai11 ai12 as13 K
  | _ => none
theorem s54 {R : Type} {G : ORC R} {k : Nat} (hG : Sound Try.prog TAB G) (args : List V) (K : List V → Option R) (r : R) (h : g54 G k args K = some r) : ∃ o, CallOK Try.prog TAB.env 54 args o ∧ K o = some r := by
  unfold g54 at h
  split at h
  · rw [← f54_is] at h
    exact callF_sound (f := 54) TAB_chk MO hG Try.func54 (sg := S54) (by kernel_rfl) (by kernel_rfl) (la54 G k) h
  · cases h
end Go.Proofs.Ytblabbcmokldiaa.Vm
open Go Go.VM
set_option linter.unusedVariables false
set_option maxRecDepth 100000
set_option maxHeartbeats 4000000
namespace Go.Proofs.Ytblabbcmokldiaa.Vm
/-! ### cotillion/clash.Pair: function 55 -/
def L55 {R : Type} (_ : ORC R) (_ : Nat) : Nat → St → (Ex → St → Option R) → Option R := fun _ _ _ => none
def f55 {R : Type} (G : ORC R) (k : Nat) (al1 : List V) (ai2 ai3 : Int) (ai4 ai5 ai6 : Int) (as7 : ByteArray) (ai8 ai9 : Int) (ai10 ai11 ai12 : Int) (as13 : ByteArray) (K : List V → Option R) : Option R :=
  (bif (ai4 != (-1)) then (bif (ai10 != (-1)) then (G 20 [(.sl 7 al1), (.int .i64 ai4), (.int .i64 ai10)] fun o14 => (uB o14 fun b16 r15 => (unNil r15 (bif b16 then (K [(.bool true)]) else (G 20 [(.sl 7 al1), (.int .i64 ai10), (.int .i64 ai4)] fun o17 => (uB o17 fun b19 r18 => (unNil r18 (K [(.bool b19)])))))))) else (K [(.bool false)])) else (K [(.bool false)]))
theorem f55_is {R : Type} (G : ORC R) (k : Nat) (K : List V → Option R) (al1 : List V) (ai2 ai3 : Int) (ai4 ai5 ai6 : Int) (as7 : ByteArray) (ai8 ai9 : Int) (ai10 ai11 ai12 : Int) (as13 : ByteArray) :
    callF (TAB.env 55) G (L55 G k) Try.f55 S55 [(.sl 7 al1), (.agg [(.int .i64 ai2), (.int .i64 ai3), (.int .i64 ai4), (.int .i64 ai5), (.int .i64 ai6), (.str as7)]), (.agg [(.int .i64 ai8), (.int .i64 ai9), (.int .i64 ai10), (.int .i64 ai11), (.int .i64 ai12), (.str as13)])] K = f55 G k al1 ai2 ai3 ai4 ai5 ai6 as7 ai8 ai9 ai10 ai11 ai12 as13 K := by kernel_rfl
theorem lo55 : loopsOf (bodyOf Try.f55) = [] := by kernel_rfl
theorem la55 {R : Type} (G : ORC R) (k : Nat) : LoopsAre (TAB.env 55) G (L55 G k) (bodyOf Try.f55) :=
  loopsAre_of (by rw [lo55]; intro p hp; cases hp)
def g55 {R : Type} (G : ORC R) (k : Nat) (args : List V) (K : List V → Option R) : Option R := match args with
  | [(.sl 7 al1), (.agg [(.int .i64 ai2), (.int .i64 ai3), (.int .i64 ai4), (.int .i64 ai5), (.int .i64 ai6), (.str as7)]), (.agg [(.int .i64 ai8), (.int .i64 ai9), (.int .i64 ai10), (.int .i64 ai11), (.int .i64 ai12), (.str as13)])] => f55 G k al1 ai2 ai3 ai4 ai5 ai6 as7 ai8 ai9 ai10 ai11 ai12 as13 K
  | _ => none
theorem s55 {R : Type} {G : ORC R} {k : Nat} (hG : Sound Try.prog TAB G) (args : List V) (K : List V → Option R) (r : R) (h : g55 G k args K = some r) : ∃ o, CallOK Try.prog TAB.env 55 args o ∧ K o = some r := by
  unfold g55 at h
  split at h
  · rw [← f55_is] at h
    exact callF_sound (f := 55) TAB_chk MO hG Try.func55 (sg := S55) (by kernel_rfl) (by kernel_rfl) (la55 G k) h
  · cases h
end Go.Proofs.Ytblabbcmokldiaa.Vm
open Go Go.VM
set_option linter.unusedVariables false
set_option maxRecDepth 100000
set_option maxHeartbeats 4000000
namespace Go.Proofs.Ytblabbcmokldiaa.Vm
/-! ### cotillion/clash.Matrix: function 53 -/
def P53_2h : Pat := { tmps := unds [.var (.sl 7) .ro, .var (.sl 6) .ro, .undef, .undef, .undef, .var (.sl 1) (.own false), .undef, .stat (.one (.ptr 7 0) .pt), .var (.sl 1) (.own true), .undef, .undef, .var (.sl 6) .ro, .var (.int .i64) .pr, .var (.int .i64) .pr] 6 (unds [.var (.sl 6) .ro, .var (.int .i64) .pr, .var (.int .i64) .pr] 18 []), boxes := nons [] 7 (nons [some [.var (.int .i64) .pr false, .var (.int .i64) .pr false, .var (.int .i64) .pr false, .var (.int .i64) .pr false, .var (.int .i64) .pr false, .var .str .pr false]] 33 []) }
def P53_2x : Pat := { tmps := unds [.var (.sl 7) .ro, .var (.sl 6) .ro, .undef, .undef, .undef, .var (.sl 1) (.own false), .undef, .undef, .var (.sl 1) (.own true), .undef, .undef, .var (.sl 6) .ro, .var (.int .i64) .pr, .var (.int .i64) .pr] 27 [], boxes := nons [] 41 [] }
def b53_2 {R : Type} (G : ORC R) (k : Nat) (X : List V → List V → List V → List V → List V → Int → Int → List V → Int → Int → Int → Int → Int → Int → Int → ByteArray → Option R) (Ko : List V → List V → List V → List V → List V → Int → Int → Option R) (xl30 xl31 : List V) (xl32 xl33 xl34 : List V) (xi35 xi36 : Int) (xl37 : List V) (xi38 xi39 : Int) (xi40 xi41 : Int) (xi42 xi43 xi44 : Int) (xs45 : ByteArray) : Option R :=
  (bif (decide (xi39 < xi38)) then (bif ((decide (0 ≤ xi39)) && (decide (xi39 < ((List.length xl37 : Nat) : Int)))) then (nthK xl37 (Int.toNat xi39) fun e46 => (V.asAgg e46 fun l47 => (ce6 l47 fun c48 c49 c50 c51 c52 c53 => (aI .i64 c48 fun n61 => (aI .i64 c49 fun n62 => (aI .i64 c50 fun n63 => (aI .i64 c51 fun n64 => (aI .i64 c52 fun n65 => (V.asStr c53 fun s66 => (G 55 [(.sl 7 xl30), (.agg [(.int .i64 xi40), (.int .i64 xi41), (.int .i64 xi42), (.int .i64 xi43), (.int .i64 xi44), (.str xs45)]), (.agg [(.int .i64 n61), (.int .i64 n62), (.int .i64 n63), (.int .i64 n64), (.int .i64 n65), (.str s66)])] fun o67 => (uB o67 fun b69 r68 => (unNil r68 (bif ((decide (0 ≤ xi39)) && (decide (xi39 < ((List.length xl33 : Nat) : Int)))) then (nthK xl33 (Int.toNat xi39) fun e70 => (X xl30 xl31 xl32 (List.set xl33 (Int.toNat xi39) (.bool b69)) xl34 xi35 xi36 xl37 xi38 (IntKind.i64.wrap (xi39 + 1)) xi40 xi41 xi42 xi43 xi44 xs45)) else none))))))))))))) else none) else (Ko xl30 xl31 xl32 xl33 xl34 xi35 xi36))
def l53_2g {R : Type} (G : ORC R) (k : Nat) (Ko : List V → List V → List V → List V → List V → Int → Int → Option R) : Nat → List V → List V → List V → List V → List V → Int → Int → List V → Int → Int → Int → Int → Int → Int → Int → ByteArray → Option R
  | 0 => fun _ _ _ _ _ _ _ _ _ _ _ _ _ _ _ _ => none
  | j + 1 => b53_2 G k (l53_2g G k Ko j) Ko
def l53_2 {R : Type} (G : ORC R) (k : Nat) (xl30 xl31 : List V) (xl32 xl33 xl34 : List V) (xi35 xi36 : Int) (xl37 : List V) (xi38 xi39 : Int) (xi40 xi41 : Int) (xi42 xi43 xi44 : Int) (xs45 : ByteArray) (Ko : List V → List V → List V → List V → List V → Int → Int → Option R) : Option R := l53_2g G k Ko k xl30 xl31 xl32 xl33 xl34 xi35 xi36 xl37 xi38 xi39 xi40 xi41 xi42 xi43 xi44 xs45
def P53_0h : Pat := { tmps := unds [.var (.sl 7) .ro, .var (.sl 6) .ro, .undef, .undef, .undef, .var (.sl 1) (.own false)] 5 (unds [.var (.sl 6) .ro, .var (.int .i64) .pr, .var (.int .i64) .pr] 27 []), boxes := nons [] 41 [] }
def P53_0x : Pat := { tmps := unds [] 5 (unds [.var (.sl 1) (.own false)] 35 []), boxes := nons [] 41 [] }
def b53_0 {R : Type} (G : ORC R) (k : Nat) (X : List V → List V → List V → List V → Int → Int → Option R) (Ko : List V → Option R) (xl3 xl4 : List V) (xl5 xl6 : List V) (xi7 xi8 : Int) : Option R :=
  (bif (decide (xi8 < xi7)) then (bif ((decide (0 ≤ xi8)) && (decide (xi8 < ((List.length xl6 : Nat) : Int)))) then (nthK xl6 (Int.toNat xi8) fun e9 => (V.asAgg e9 fun l10 => (ce6 l10 fun c11 c12 c13 c14 c15 c16 => (aI .i64 c11 fun n24 => (aI .i64 c12 fun n25 => (aI .i64 c13 fun n26 => (aI .i64 c14 fun n27 => (aI .i64 c15 fun n28 => (V.asStr c16 fun s29 => (bif (((decide (0 ≤ ((List.length xl4 : Nat) : Int))) && (decide (((List.length xl4 : Nat) : Int) ≤ ((List.length xl4 : Nat) : Int)))) && (decide (((List.length xl4 : Nat) : Int) ≤ 1073741824))) then (l53_2 G k xl3 xl4 xl5 (List.replicate (Int.toNat ((List.length xl4 : Nat) : Int)) (.bool false)) xl6 xi7 xi8 xl4 ((List.length xl4 : Nat) : Int) 0 n24 n25 n26 n27 n28 s29 (fun yl30 yl31 yl32 yl33 yl34 yi35 yi36 => (bif (decide (List.length yl32 + 1 ≤ 1073741824)) then (X yl30 yl31 (yl32 ++ [(.sl 1 yl33)]) yl34 yi35 (IntKind.i64.wrap (yi36 + 1))) else none))) else none)))))))))) else none) else (Ko xl5))
def l53_0g {R : Type} (G : ORC R) (k : Nat) (Ko : List V → Option R) : Nat → List V → List V → List V → List V → Int → Int → Option R
  | 0 => fun _ _ _ _ _ _ => none
  | j + 1 => b53_0 G k (l53_0g G k Ko j) Ko
def l53_0 {R : Type} (G : ORC R) (k : Nat) (xl3 xl4 : List V) (xl5 xl6 : List V) (xi7 xi8 : Int) (Ko : List V → Option R) : Option R := l53_0g G k Ko k xl3 xl4 xl5 xl6 xi7 xi8
def rd53_2 {R : Type} (G : ORC R) (k : Nat) (K : Ex → St → Option R) (j : Nat) (vs : List V) : Option R := match vs with
  | [(.sl 7 xl30), (.sl 6 xl31), (.sl 1 xl32), (.sl 1 xl33), (.sl 6 xl34), (.int .i64 xi35), (.int .i64 xi36), (.sl 6 xl37), (.int .i64 xi38), (.int .i64 xi39), (.int .i64 xi40), (.int .i64 xi41), (.int .i64 xi42), (.int .i64 xi43), (.int .i64 xi44), (.str xs45)] => l53_2g G k (fun yl38 yl39 yl40 yl41 yl42 yi43 yi44 => K .normal (P53_2x.inst [(.sl 7 yl38), (.sl 6 yl39), (.sl 1 yl40), (.sl 1 yl41), (.sl 6 yl42), (.int .i64 yi43), (.int .i64 yi44)])) j xl30 xl31 xl32 xl33 xl34 xi35 xi36 xl37 xi38 xi39 xi40 xi41 xi42 xi43 xi44 xs45
  | _ => none
def rd53_0 {R : Type} (G : ORC R) (k : Nat) (K : Ex → St → Option R) (j : Nat) (vs : List V) : Option R := match vs with
  | [(.sl 7 xl3), (.sl 6 xl4), (.sl 1 xl5), (.sl 6 xl6), (.int .i64 xi7), (.int .i64 xi8)] => l53_0g G k (fun yl45 => K .normal (P53_0x.inst [(.sl 1 yl45)])) j xl3 xl4 xl5 xl6 xi7 xi8
  | _ => none
def L53 {R : Type} (G : ORC R) (k : Nat) : Nat → St → (Ex → St → Option R) → Option R
  | 2, S, K => P53_2h.mat S fun vs => rd53_2 G k K k vs
  | 0, S, K => P53_0h.mat S fun vs => rd53_0 G k K k vs
  | _, _, _ => none
def f53 {R : Type} (G : ORC R) (k : Nat) (al1 al2 : List V) (K : List V → Option R) : Option R :=
  (l53_0 G k al1 al2 [] al2 ((List.length al2 : Nat) : Int) 0 (fun yl37 => (K [(.sl 1 yl37)])))
noncomputable def D53_2 : LoopD := { id := 2, body := loopAt 2 (bodyOf Try.f53), head := P53_2h, out := P53_2x, ret := default }
theorem l53_2_is {R : Type} (G : ORC R) (k : Nat) (X : List V → Option R) (K : Ex → St → Option R) (xl30 xl31 : List V) (xl32 xl33 xl34 : List V) (xi35 xi36 : Int) (xl37 : List V) (xi38 xi39 : Int) (xi40 xi41 : Int) (xi42 xi43 xi44 : Int) (xs45 : ByteArray) :
    roundOf (TAB.env 53) G (L53 G k) D53_2 X K [(.sl 7 xl30), (.sl 6 xl31), (.sl 1 xl32), (.sl 1 xl33), (.sl 6 xl34), (.int .i64 xi35), (.int .i64 xi36), (.sl 6 xl37), (.int .i64 xi38), (.int .i64 xi39), (.int .i64 xi40), (.int .i64 xi41), (.int .i64 xi42), (.int .i64 xi43), (.int .i64 xi44), (.str xs45)] = b53_2 G k (fun xl30 xl31 xl32 xl33 xl34 xi35 xi36 xl37 xi38 xi39 xi40 xi41 xi42 xi43 xi44 xs45 => X [(.sl 7 xl30), (.sl 6 xl31), (.sl 1 xl32), (.sl 1 xl33), (.sl 6 xl34), (.int .i64 xi35), (.int .i64 xi36), (.sl 6 xl37), (.int .i64 xi38), (.int .i64 xi39), (.int .i64 xi40), (.int .i64 xi41), (.int .i64 xi42), (.int .i64 xi43), (.int .i64 xi44), (.str xs45)]) (fun yl38 yl39 yl40 yl41 yl42 yi43 yi44 => K .normal (P53_2x.inst [(.sl 7 yl38), (.sl 6 yl39), (.sl 1 yl40), (.sl 1 yl41), (.sl 6 yl42), (.int .i64 yi43), (.int .i64 yi44)])) xl30 xl31 xl32 xl33 xl34 xi35 xi36 xl37 xi38 xi39 xi40 xi41 xi42 xi43 xi44 xs45 := by kernel_rfl
noncomputable def D53_0 : LoopD := { id := 0, body := loopAt 0 (bodyOf Try.f53), head := P53_0h, out := P53_0x, ret := default }
theorem l53_0_is {R : Type} (G : ORC R) (k : Nat) (X : List V → Option R) (K : Ex → St → Option R) (xl3 xl4 : List V) (xl5 xl6 : List V) (xi7 xi8 : Int) :
    roundOf (TAB.env 53) G (L53 G k) D53_0 X K [(.sl 7 xl3), (.sl 6 xl4), (.sl 1 xl5), (.sl 6 xl6), (.int .i64 xi7), (.int .i64 xi8)] = b53_0 G k (fun xl3 xl4 xl5 xl6 xi7 xi8 => X [(.sl 7 xl3), (.sl 6 xl4), (.sl 1 xl5), (.sl 6 xl6), (.int .i64 xi7), (.int .i64 xi8)]) (fun yl45 => K .normal (P53_0x.inst [(.sl 1 yl45)])) xl3 xl4 xl5 xl6 xi7 xi8 := by kernel_rfl
theorem f53_is {R : Type} (G : ORC R) (k : Nat) (K : List V → Option R) (al1 al2 : List V) :
    callF (TAB.env 53) G (L53 G k) Try.f53 S53 [(.sl 7 al1), (.sl 6 al2)] K = f53 G k al1 al2 K := by kernel_rfl
theorem li53_2 {R : Type} (G : ORC R) (k : Nat) : LoopIs (TAB.env 53) G (L53 G k) 2 (loopAt 2 (bodyOf Try.f53)) :=
  ⟨D53_2, fun j vs K => rd53_2 G k K j vs, k, rfl, rfl, by kernel_rfl, by kernel_rfl, by kernel_rfl, (fun vs K => by unfold rd53_2; dsimp only; split <;> rfl),
    (fun j vs K r h => by
      unfold rd53_2 at h
      dsimp only at h
      split at h
      · rw [l53_2_is]; exact h
      · cases h), (fun S K r h => h)⟩
theorem li53_0 {R : Type} (G : ORC R) (k : Nat) : LoopIs (TAB.env 53) G (L53 G k) 0 (loopAt 0 (bodyOf Try.f53)) :=
  ⟨D53_0, fun j vs K => rd53_0 G k K j vs, k, rfl, rfl, by kernel_rfl, by kernel_rfl, by kernel_rfl, (fun vs K => by unfold rd53_0; dsimp only; split <;> rfl),
    (fun j vs K r h => by
      unfold rd53_0 at h
      dsimp only at h
      split at h
      · rw [l53_0_is]; exact h
      · cases h), (fun S K r h => h)⟩
theorem lo53 : loopsOf (bodyOf Try.f53) = [(0, loopAt 0 (bodyOf Try.f53)), (2, loopAt 2 (bodyOf Try.f53))] := by kernel_rfl
theorem la53 {R : Type} (G : ORC R) (k : Nat) : LoopsAre (TAB.env 53) G (L53 G k) (bodyOf Try.f53) :=
  loopsAre_of (by rw [lo53]; intro p hp; simp only [List.mem_cons, List.not_mem_nil, or_false] at hp; rcases hp with rfl | rfl <;> first | exact li53_0 G k | exact li53_2 G k)
def g53 {R : Type} (G : ORC R) (k : Nat) (args : List V) (K : List V → Option R) : Option R := match args with
  | [(.sl 7 al1), (.sl 6 al2)] => f53 G k al1 al2 K
  | _ => none
theorem s53 {R : Type} {G : ORC R} {k : Nat} (hG : Sound Try.prog TAB G) (args : List V) (K : List V → Option R) (r : R) (h : g53 G k args K = some r) : ∃ o, CallOK Try.prog TAB.env 53 args o ∧ K o = some r := by
  unfold g53 at h
  split at h
  · rw [← f53_is] at h
    exact callF_sound (f := 53) TAB_chk MO hG Try.func53 (sg := S53) (by kernel_rfl) (by kernel_rfl) (la53 G k) h
  · cases h
end Go.Proofs.Ytblabbcmokldiaa.Vm
open Go Go.VM
set_option linter.unusedVariables false
set_option linter.unusedSimpArgs false
set_option maxRecDepth 100000
set_option maxHeartbeats 8000000
namespace Go.Proofs.Ytblabbcmokldiaa.Vm
section
variable {R : Type} {G : ORC R} {k : Nat} {K : List V → Option R}
def TblOK (G : ORC R) : Prop := ∀ (v : List V) (K : List V → Option R), IntsS v → v.length ≤ 200 → W (fun o => ∃ t, o = [t] ∧ TableS t) K (G 52 [.sl 1 v] K)
theorem tbl_ok (hC : ChartOK G) (hT : TabOK G) : TblOK (fun _ args (K : List V → Option R) => g52 G k args K) := by
  intro v K hv hl
  show W _ K (f52 G k v K)
  unfold f52
  unfold ChartOK at hC; unfold TabOK at hT
  refine W_call (hC _ 1 v 0 _ (by unfold StrS; decide) (by omega) (by omega) ⟨hv, by omega, by omega, by omega⟩) ?_
  rintro _ ⟨c, j, rfl, hc, _⟩
  have hc' := hc
  obtain ⟨_, _, _, _, _, _, _, rfl, _⟩ := hc
  (repeat (with_reducible (first | (refine W_uI ?_) | (refine W_uS ?_) | (refine W_uL ?_) | (refine W_uA ?_) | (refine W_uB ?_) | (refine W_aI ?_) | (refine W_aL ?_) | (refine W_ca3 ?_) | (refine W_ce3 ?_) | (refine W_ca4 ?_) | (refine W_ce4 ?_) | (refine W_ca5 ?_) | (refine W_ce5 ?_) | (refine W_ca6 ?_) | (refine W_ce6 ?_) | (refine W_ca7 ?_) | (refine W_ce7 ?_) | (refine W_ca8 ?_) | (refine W_ce8 ?_) | (refine W_nd7 ?_) | (refine W_unCons ?_) | (refine W_unNil ?_) | (refine W_asInt ?_) | (refine W_asBool ?_) | (refine W_asStr ?_) | (refine W_asSl ?_) | (refine W_asAgg ?_) | (refine W_kd ?_) | (refine W_z ?_))))
  refine W_call (hT _ _ hc') ?_
  rintro _ ⟨t, rfl, ht⟩
  have ht' := ht
  obtain ⟨_, _, _, _, _, _, _, _, _, _, rfl, _⟩ := ht
  (repeat (with_reducible (first | (refine W_uI ?_) | (refine W_uS ?_) | (refine W_uL ?_) | (refine W_uA ?_) | (refine W_uB ?_) | (refine W_aI ?_) | (refine W_aL ?_) | (refine W_ca3 ?_) | (refine W_ce3 ?_) | (refine W_ca4 ?_) | (refine W_ce4 ?_) | (refine W_ca5 ?_) | (refine W_ce5 ?_) | (refine W_ca6 ?_) | (refine W_ce6 ?_) | (refine W_ca7 ?_) | (refine W_ce7 ?_) | (refine W_ca8 ?_) | (refine W_ce8 ?_) | (refine W_nd7 ?_) | (refine W_unCons ?_) | (refine W_unNil ?_) | (refine W_asInt ?_) | (refine W_asBool ?_) | (refine W_asStr ?_) | (refine W_asSl ?_) | (refine W_asAgg ?_) | (refine W_kd ?_) | (refine W_z ?_))))
  exact W_ret ⟨_, rfl, ht'⟩
def pairN (l : List Nd) (a b : Int) : Bool := decide (a ≥ 0) && decide (b ≥ 0) && (inN l a b || inN l b a)
theorem pairN_comm {l : List Nd} {a b : Int} : pairN l a b = pairN l b a := by unfold pairN; rw [Bool.and_comm (decide (a ≥ 0)), Bool.or_comm]
def RPairOK (G : ORC R) : Prop := ∀ (l : List Nd) (a1 a2 a3 a4 a5 b1 b2 b3 b4 b5 : Int) (s t : ByteArray) (K : List V → Option R), W (fun o => o = [.bool (pairN l a3 b3)]) K
  (G 54 [.sl 7 (l.map Nd.v), .agg [.int .i64 a1, .int .i64 a2, .int .i64 a3, .int .i64 a4, .int .i64 a5, .str s], .agg [.int .i64 b1, .int .i64 b2, .int .i64 b3, .int .i64 b4, .int .i64 b5, .str t]] K)
theorem rpair_ok (hI : InOK G) : RPairOK (fun _ args (K : List V → Option R) => g54 G k args K) := by
  intro l a1 a2 a3 a4 a5 b1 b2 b3 b4 b5 s t K
  show W _ K (f54 G k (l.map Nd.v) a1 a2 a3 a4 a5 s b1 b2 b3 b4 b5 t K)
  unfold f54
  unfold InOK at hI
  refine W_dec (fun h1 => ?_) (fun h1 => W_ret (by unfold pairN; rw [decide_eq_false h1]; rfl))
  refine W_dec (fun h2 => ?_) (fun h2 => W_ret (by unfold pairN; rw [decide_eq_false h2, Bool.and_false]; rfl))
  refine W_call (hI _ _ _ _) ?_
  rintro _ rfl
  (repeat (with_reducible (first | (refine W_uI ?_) | (refine W_uS ?_) | (refine W_uL ?_) | (refine W_uA ?_) | (refine W_uB ?_) | (refine W_aI ?_) | (refine W_aL ?_) | (refine W_ca3 ?_) | (refine W_ce3 ?_) | (refine W_ca4 ?_) | (refine W_ce4 ?_) | (refine W_ca5 ?_) | (refine W_ce5 ?_) | (refine W_ca6 ?_) | (refine W_ce6 ?_) | (refine W_ca7 ?_) | (refine W_ce7 ?_) | (refine W_ca8 ?_) | (refine W_ce8 ?_) | (refine W_nd7 ?_) | (refine W_unCons ?_) | (refine W_unNil ?_) | (refine W_asInt ?_) | (refine W_asBool ?_) | (refine W_asStr ?_) | (refine W_asSl ?_) | (refine W_asAgg ?_) | (refine W_kd ?_) | (refine W_z ?_))))
  refine W_bool (fun e => W_ret (by unfold pairN; rw [decide_eq_true h1, decide_eq_true h2, e]; rfl)) (fun e => ?_)
  refine W_call (hI _ _ _ _) ?_
  rintro _ rfl
  (repeat (with_reducible (first | (refine W_uI ?_) | (refine W_uS ?_) | (refine W_uL ?_) | (refine W_uA ?_) | (refine W_uB ?_) | (refine W_aI ?_) | (refine W_aL ?_) | (refine W_ca3 ?_) | (refine W_ce3 ?_) | (refine W_ca4 ?_) | (refine W_ce4 ?_) | (refine W_ca5 ?_) | (refine W_ce5 ?_) | (refine W_ca6 ?_) | (refine W_ce6 ?_) | (refine W_ca7 ?_) | (refine W_ce7 ?_) | (refine W_ca8 ?_) | (refine W_ce8 ?_) | (refine W_nd7 ?_) | (refine W_unCons ?_) | (refine W_unNil ?_) | (refine W_asInt ?_) | (refine W_asBool ?_) | (refine W_asStr ?_) | (refine W_asSl ?_) | (refine W_asAgg ?_) | (refine W_kd ?_) | (refine W_z ?_))))
  exact W_ret (by unfold pairN; rw [decide_eq_true h1, decide_eq_true h2, e]; rfl)
def CPairOK (G : ORC R) : Prop := ∀ (l : List Nd) (a1 a2 a3 a4 a5 b1 b2 b3 b4 b5 : Int) (s t : ByteArray) (K : List V → Option R), -1 ≤ a3 → -1 ≤ b3 → W (fun o => o = [.bool (pairN l a3 b3)]) K
  (G 55 [.sl 7 (l.map Nd.v), .agg [.int .i64 a1, .int .i64 a2, .int .i64 a3, .int .i64 a4, .int .i64 a5, .str s], .agg [.int .i64 b1, .int .i64 b2, .int .i64 b3, .int .i64 b4, .int .i64 b5, .str t]] K)
theorem cpair_ok (hI : CInOK G) : CPairOK (fun _ args (K : List V → Option R) => g55 G k args K) := by
  intro l a1 a2 a3 a4 a5 b1 b2 b3 b4 b5 s t K ha hb
  show W _ K (f55 G k (l.map Nd.v) a1 a2 a3 a4 a5 s b1 b2 b3 b4 b5 t K)
  unfold f55
  unfold CInOK at hI
  refine W_bool (fun h1 => ?_) (fun h1 => W_ret (by unfold pairN; rw [decide_eq_false (p := a3 ≥ 0) (by simp at h1; omega)]; rfl))
  refine W_bool (fun h2 => ?_) (fun h2 => W_ret (by unfold pairN; rw [decide_eq_false (p := b3 ≥ 0) (by simp at h2; omega), Bool.and_false]; rfl))
  have g1 : a3 ≥ 0 := by simp at h1; omega
  have g2 : b3 ≥ 0 := by simp at h2; omega
  refine W_call (hI _ _ _ _) ?_
  rintro _ rfl
  (repeat (with_reducible (first | (refine W_uI ?_) | (refine W_uS ?_) | (refine W_uL ?_) | (refine W_uA ?_) | (refine W_uB ?_) | (refine W_aI ?_) | (refine W_aL ?_) | (refine W_ca3 ?_) | (refine W_ce3 ?_) | (refine W_ca4 ?_) | (refine W_ce4 ?_) | (refine W_ca5 ?_) | (refine W_ce5 ?_) | (refine W_ca6 ?_) | (refine W_ce6 ?_) | (refine W_ca7 ?_) | (refine W_ce7 ?_) | (refine W_ca8 ?_) | (refine W_ce8 ?_) | (refine W_nd7 ?_) | (refine W_unCons ?_) | (refine W_unNil ?_) | (refine W_asInt ?_) | (refine W_asBool ?_) | (refine W_asStr ?_) | (refine W_asSl ?_) | (refine W_asAgg ?_) | (refine W_kd ?_) | (refine W_z ?_))))
  refine W_bool (fun e => W_ret (by unfold pairN; rw [decide_eq_true g1, decide_eq_true g2, e]; rfl)) (fun e => ?_)
  refine W_call (hI _ _ _ _) ?_
  rintro _ rfl
  (repeat (with_reducible (first | (refine W_uI ?_) | (refine W_uS ?_) | (refine W_uL ?_) | (refine W_uA ?_) | (refine W_uB ?_) | (refine W_aI ?_) | (refine W_aL ?_) | (refine W_ca3 ?_) | (refine W_ce3 ?_) | (refine W_ca4 ?_) | (refine W_ce4 ?_) | (refine W_ca5 ?_) | (refine W_ce5 ?_) | (refine W_ca6 ?_) | (refine W_ce6 ?_) | (refine W_ca7 ?_) | (refine W_ce7 ?_) | (refine W_ca8 ?_) | (refine W_ce8 ?_) | (refine W_nd7 ?_) | (refine W_unCons ?_) | (refine W_unNil ?_) | (refine W_asInt ?_) | (refine W_asBool ?_) | (refine W_asStr ?_) | (refine W_asSl ?_) | (refine W_asAgg ?_) | (refine W_kd ?_) | (refine W_z ?_))))
  exact W_ret (by unfold pairN; rw [decide_eq_true g1, decide_eq_true g2, e]; rfl)
/-- An edge, with a domain that may be. -/
def EdS (v : V) : Prop := ∃ fr to dom gd ac ev, v = .agg [.int .i64 fr, .int .i64 to, .int .i64 dom, .int .i64 gd, .int .i64 ac, .str ev] ∧ -1 ≤ dom
def domE : V → Int
  | .agg [_, _, .int _ d, _, _, _] => d
  | _ => -1
def rowP (l : List Nd) (a : Int) (es : List V) : List V := es.map fun b => .bool (pairN l a (domE b))
def rowsP (l : List Nd) (as_ es : List V) : List V := as_.map fun a => .sl 1 (rowP l (domE a) es)
theorem set_mid {L Q : List V} {x v : V} : (L ++ x :: Q).set L.length v = L ++ v :: Q := by simp
def MatOK (G : ORC R) : Prop := ∀ (l : List Nd) (es : List V) (K : List V → Option R), (∀ e ∈ es, EdS e) → es.length ≤ 1000 → W (fun o => o = [.sl 1 (rowsP l es es)]) K (G 53 [.sl 7 (l.map Nd.v), .sl 6 es] K)
theorem mat_in (hP : CPairOK G) {Q : List V → Prop} {K : List V → Option R} {l : List Nd} {es out : List V} {i : Int} {a1 a2 a3 a4 a5 : Int} {s : ByteArray} (he : ∀ e ∈ es, EdS e) (hel : es.length ≤ 1000) (ha3 : -1 ≤ a3)
    {Ko : List V → List V → List V → List V → List V → Int → Int → Option R} (hKo : W Q K (Ko (l.map Nd.v) es out (rowP l a3 es) es (es.length : Int) i)) :
    ∀ (B A : List V) (j : Nat), es = A ++ B → B.length < j → W Q K (l53_2g G k Ko j (l.map Nd.v) es out (rowP l a3 A ++ List.replicate B.length (.bool false)) es (es.length : Int) i es (es.length : Int) (A.length : Int) a1 a2 a3 a4 a5 s)
  | B, A, 0, h1, h2 => by omega
  | [], A, j + 1, h1, h2 => by
    rw [List.length_nil, List.replicate_zero]
    show W Q K (b53_2 G k (l53_2g G k Ko j) Ko (l.map Nd.v) es out (rowP l a3 A ++ []) es (es.length : Int) i es (es.length : Int) (A.length : Int) a1 a2 a3 a4 a5 s)
    unfold b53_2
    rw [List.append_nil] at h1 ⊢
    refine W_no (by rw [h1]; omega) ?_
    rw [← h1]; exact hKo
  | b :: B, A, j + 1, h1, h2 => by
    rw [List.length_cons, List.replicate_succ, show l53_2g G k Ko (j + 1) = b53_2 G k (l53_2g G k Ko j) Ko from rfl]
    unfold b53_2
    have hlt : A.length < es.length := by rw [h1]; simp
    have hlr : (rowP l a3 A).length = A.length := by simp [rowP]
    refine W_yes (by omega) (W_and (W_yes (by omega) (W_yes (by omega) ?_)))
    refine W_nth (by omega) (fun v hv _ => ?_)
    have hvb : v = b := by rw [h1] at hv; simp at hv; exact hv.symm
    subst hvb
    obtain ⟨b1, b2, b3, b4, b5, t, rfl, hb3⟩ := he v (by rw [h1]; simp)
    (repeat (with_reducible (first | (refine W_uI ?_) | (refine W_uS ?_) | (refine W_uL ?_) | (refine W_uA ?_) | (refine W_uB ?_) | (refine W_aI ?_) | (refine W_aL ?_) | (refine W_ca3 ?_) | (refine W_ce3 ?_) | (refine W_ca4 ?_) | (refine W_ce4 ?_) | (refine W_ca5 ?_) | (refine W_ce5 ?_) | (refine W_ca6 ?_) | (refine W_ce6 ?_) | (refine W_ca7 ?_) | (refine W_ce7 ?_) | (refine W_ca8 ?_) | (refine W_ce8 ?_) | (refine W_nd7 ?_) | (refine W_unCons ?_) | (refine W_unNil ?_) | (refine W_asInt ?_) | (refine W_asBool ?_) | (refine W_asStr ?_) | (refine W_asSl ?_) | (refine W_asAgg ?_) | (refine W_kd ?_) | (refine W_z ?_))))
    unfold CPairOK at hP
    refine W_call (hP l a1 a2 a3 a4 a5 b1 b2 b3 b4 b5 s t _ ha3 hb3) ?_
    rintro _ rfl
    (repeat (with_reducible (first | (refine W_uI ?_) | (refine W_uS ?_) | (refine W_uL ?_) | (refine W_uA ?_) | (refine W_uB ?_) | (refine W_aI ?_) | (refine W_aL ?_) | (refine W_ca3 ?_) | (refine W_ce3 ?_) | (refine W_ca4 ?_) | (refine W_ce4 ?_) | (refine W_ca5 ?_) | (refine W_ce5 ?_) | (refine W_ca6 ?_) | (refine W_ce6 ?_) | (refine W_ca7 ?_) | (refine W_ce7 ?_) | (refine W_ca8 ?_) | (refine W_ce8 ?_) | (refine W_nd7 ?_) | (refine W_unCons ?_) | (refine W_unNil ?_) | (refine W_asInt ?_) | (refine W_asBool ?_) | (refine W_asStr ?_) | (refine W_asSl ?_) | (refine W_asAgg ?_) | (refine W_kd ?_) | (refine W_z ?_))))
    refine W_and (W_yes (by omega) (W_yes (by rw [List.length_append, hlr, List.length_cons]; omega) ?_))
    refine W_nth (by rw [List.length_append, hlr, List.length_cons]; omega) (fun v _ _ => ?_)
    rw [wrap_id (n := (A.length : Int) + 1) (by omega)]
    have e := mat_in hP he hel ha3 hKo B (A ++ [.agg [.int .i64 b1, .int .i64 b2, .int .i64 b3, .int .i64 b4, .int .i64 b5, .str t]]) j (by rw [h1]; simp) (by simp at h2; omega) (i := i) (out := out) (a1 := a1) (a2 := a2) (a4 := a4) (a5 := a5) (s := s)
    have e2 : List.set (rowP l a3 A ++ (.bool false) :: List.replicate B.length (.bool false)) (Int.toNat (A.length : Int)) (.bool (pairN l a3 b3)) = rowP l a3 (A ++ [.agg [.int .i64 b1, .int .i64 b2, .int .i64 b3, .int .i64 b4, .int .i64 b5, .str t]]) ++ List.replicate B.length (.bool false) := by
      rw [Int.toNat_natCast, ← hlr, set_mid]; simp [rowP, domE]
    rw [e2]
    simp only [List.length_append, List.length_cons, List.length_nil, Nat.zero_add, Int.natCast_add, Int.natCast_one] at e
    exact e
theorem mat_out (hk : 1000 < k) (hP : CPairOK G) {Q : List V → Prop} {K : List V → Option R} {l : List Nd} {es : List V} (he : ∀ e ∈ es, EdS e) (hel : es.length ≤ 1000)
    {Ko : List V → Option R} (hKo : W Q K (Ko (rowsP l es es))) :
    ∀ (B A : List V) (j : Nat), es = A ++ B → B.length < j → W Q K (l53_0g G k Ko j (l.map Nd.v) es (rowsP l A es) es (es.length : Int) (A.length : Int))
  | B, A, 0, h1, h2 => by omega
  | [], A, j + 1, h1, h2 => by
    show W Q K (b53_0 G k (l53_0g G k Ko j) Ko (l.map Nd.v) es (rowsP l A es) es (es.length : Int) (A.length : Int))
    unfold b53_0
    rw [List.append_nil] at h1
    refine W_no (by rw [h1]; omega) ?_
    rw [← h1]; exact hKo
  | b :: B, A, j + 1, h1, h2 => by
    show W Q K (b53_0 G k (l53_0g G k Ko j) Ko (l.map Nd.v) es (rowsP l A es) es (es.length : Int) (A.length : Int))
    unfold b53_0
    have hlt : A.length < es.length := by rw [h1]; simp
    refine W_yes (by omega) (W_and (W_yes (by omega) (W_yes (by omega) ?_)))
    refine W_nth (by omega) (fun v hv _ => ?_)
    have hvb : v = b := by rw [h1] at hv; simp at hv; exact hv.symm
    subst hvb
    obtain ⟨b1, b2, b3, b4, b5, t, rfl, hb3⟩ := he v (by rw [h1]; simp)
    (repeat (with_reducible (first | (refine W_uI ?_) | (refine W_uS ?_) | (refine W_uL ?_) | (refine W_uA ?_) | (refine W_uB ?_) | (refine W_aI ?_) | (refine W_aL ?_) | (refine W_ca3 ?_) | (refine W_ce3 ?_) | (refine W_ca4 ?_) | (refine W_ce4 ?_) | (refine W_ca5 ?_) | (refine W_ce5 ?_) | (refine W_ca6 ?_) | (refine W_ce6 ?_) | (refine W_ca7 ?_) | (refine W_ce7 ?_) | (refine W_ca8 ?_) | (refine W_ce8 ?_) | (refine W_nd7 ?_) | (refine W_unCons ?_) | (refine W_unNil ?_) | (refine W_asInt ?_) | (refine W_asBool ?_) | (refine W_asStr ?_) | (refine W_asSl ?_) | (refine W_asAgg ?_) | (refine W_kd ?_) | (refine W_z ?_))))
    refine W_and (W_and (W_yes (by omega) (W_yes (by omega) (W_yes (by omega) ?_))))
    rw [Int.toNat_natCast]
    unfold l53_2
    refine mat_in hP he hel hb3 ?_ es [] k rfl (by omega)
    refine W_yes (by simp [rowsP]; omega) ?_
    rw [wrap_id (n := (A.length : Int) + 1) (by omega)]
    have e := mat_out hk hP he hel hKo B (A ++ [.agg [.int .i64 b1, .int .i64 b2, .int .i64 b3, .int .i64 b4, .int .i64 b5, .str t]]) j (by rw [h1]; simp) (by simp at h2; omega)
    have e2 : rowsP l A es ++ [.sl 1 (rowP l b3 es)] = rowsP l (A ++ [.agg [.int .i64 b1, .int .i64 b2, .int .i64 b3, .int .i64 b4, .int .i64 b5, .str t]]) es := by simp [rowsP, domE]
    rw [e2]
    simp only [List.length_append, List.length_cons, List.length_nil, Nat.zero_add, Int.natCast_add, Int.natCast_one] at e
    exact e
theorem mat_ok (hk : 1000 < k) (hP : CPairOK G) : MatOK (fun _ args (K : List V → Option R) => g53 G k args K) := by
  intro l es K he hel
  show W _ K (f53 G k (l.map Nd.v) es K)
  unfold f53 l53_0
  exact mat_out (Q := fun o => o = [.sl 1 (rowsP l es es)]) (K := K) (k := k) (Ko := fun q => K [.sl 1 q]) hk hP he hel (W_ret rfl) es [] k rfl (by omega)
theorem domGo_ge {l : List Nd} {a b : Int} (i : Nat) : -1 ≤ domGo l a b i := by rcases domGo_at (l := l) (a := a) (b := b) (i := i) with h | ⟨j, _, h, _⟩ <;> omega
theorem edge_ed {ns : List Nd} {e : V} (h : EdgeS ns e) : EdS e := by
  obtain ⟨fr, to, dom, gd, ac, ev, rfl, _, _, _, h4, _⟩ := h
  refine ⟨fr, to, dom, gd, ac, ev, rfl, ?_⟩
  rcases h4 with ⟨_, h⟩ | ⟨_, _, h⟩
  · omega
  · rw [h]; exact domGo_ge _
end
end Go.Proofs.Ytblabbcmokldiaa.Vm
open Go Go.VM
set_option linter.unusedVariables false
set_option maxRecDepth 100000
set_option maxHeartbeats 4000000
namespace Go.Proofs.Ytblabbcmokldiaa.Vm
/-! ### cotillion/cotillionlaw15.ClashExits: function 12 -/
def P12_2h : Pat := { tmps := unds [] 5 (unds [.stat (.one (.ptr 5 0) .pt), .var (.sl 1) .ro, .var (.int .i64) .pr, .var (.int .i64) .pr] 81 []), boxes := nons [] 5 (nons [some [.var .str .pr false, .var (.int .i64) .pr false, .var (.int .i64) .pr false, .var (.sl 1) .ro false, .var (.sl 1) .ro false, .var (.sl 1) .ro false, .var (.sl 7) .ro false, .var (.sl 6) .ro false, .var (.sl 1) .ro false]] 84 []) }
def P12_2x : Pat := { tmps := unds [] 5 (unds [.stat (.one (.ptr 5 0) .pt), .var (.sl 1) .ro, .var (.int .i64) .pr] 82 []), boxes := nons [] 5 (nons [some [.var .str .pr false, .var (.int .i64) .pr false, .var (.int .i64) .pr false, .var (.sl 1) .ro false, .var (.sl 1) .ro false, .var (.sl 1) .ro false, .var (.sl 7) .ro false, .var (.sl 6) .ro false, .var (.sl 1) .ro false]] 84 []) }
def P12_2r : Pat := { tmps := unds [.undef, .undef, .undef, .undef, .var .bool .pr] 85 [], boxes := nons [] 90 [] }
def b12_2 {R : Type} (G : ORC R) (k : Nat) (X : List V → Int → Int → ByteArray → Int → Int → List V → List V → List V → List V → List V → List V → Option R) (Ko : List V → Int → ByteArray → Int → Int → List V → List V → List V → List V → List V → List V → Option R) (Kr : Bool → Option R) (xl46 : List V) (xi47 xi48 : Int) (xs49 : ByteArray) (xi50 xi51 : Int) (xl52 xl53 : List V) (xl54 xl55 : List V) (xl56 xl57 : List V) : Option R :=
  (bif (decide (xi48 < ((List.length xl56 : Nat) : Int))) then (bif ((decide (0 ≤ xi47)) && (decide (xi47 < ((List.length xl56 : Nat) : Int)))) then (nthK xl56 (Int.toNat xi47) fun e58 => (V.asAgg e58 fun l59 => (bif ((decide (0 ≤ xi48)) && (decide (xi48 < ((List.length xl56 : Nat) : Int)))) then (nthK xl56 (Int.toNat xi48) fun e60 => (V.asAgg e60 fun l61 => (ce6 l59 fun c62 c63 c64 c65 c66 c67 => (aI .i64 c62 fun n75 => (aI .i64 c63 fun n76 => (aI .i64 c64 fun n77 => (aI .i64 c65 fun n78 => (aI .i64 c66 fun n79 => (V.asStr c67 fun s80 => (ce6 l61 fun c81 c82 c83 c84 c85 c86 => (aI .i64 c81 fun n94 => (aI .i64 c82 fun n95 => (aI .i64 c83 fun n96 => (aI .i64 c84 fun n97 => (aI .i64 c85 fun n98 => (V.asStr c86 fun s99 => (G 34 [(.sl 1 xl46), (.int .i64 n75)] fun o100 => (uB o100 fun b102 r101 => (unNil r101 (bif (!b102) then (X xl46 xi47 (IntKind.i64.wrap (xi48 + 1)) xs49 xi50 xi51 xl52 xl53 xl54 xl55 xl56 xl57) else (G 34 [(.sl 1 xl46), (.int .i64 n94)] fun o103 => (uB o103 fun b105 r104 => (unNil r104 (bif (!b105) then (X xl46 xi47 (IntKind.i64.wrap (xi48 + 1)) xs49 xi50 xi51 xl52 xl53 xl54 xl55 xl56 xl57) else (G 47 [(.sl 7 xl55), (.sl 1 xl46), (.sl 1 [(.int .i64 n77)])] fun o106 => (uL 1 o106 fun l108 r107 => (unNil r107 (G 47 [(.sl 7 xl55), (.sl 1 xl46), (.sl 1 [(.int .i64 n96)])] fun o109 => (uL 1 o109 fun l111 r110 => (unNil r110 (G 57 [(.sl 1 l108), (.sl 1 l111)] fun o112 => (uL 1 o112 fun l114 r113 => (unNil r113 (G 55 [(.sl 7 xl55), (.agg [(.int .i64 n75), (.int .i64 n76), (.int .i64 n77), (.int .i64 n78), (.int .i64 n79), (.str s80)]), (.agg [(.int .i64 n94), (.int .i64 n95), (.int .i64 n96), (.int .i64 n97), (.int .i64 n98), (.str s99)])] fun o115 => (uB o115 fun b117 r116 => (unNil r116 (bif (!(b117 == (decide (((List.length l114 : Nat) : Int) > 0)))) then (Kr false) else (X xl46 xi47 (IntKind.i64.wrap (xi48 + 1)) xs49 xi50 xi51 xl52 xl53 xl54 xl55 xl56 xl57)))))))))))))))))))))))))))))))))))))) else none))) else none) else (Ko xl46 xi47 xs49 xi50 xi51 xl52 xl53 xl54 xl55 xl56 xl57))
def l12_2g {R : Type} (G : ORC R) (k : Nat) (Ko : List V → Int → ByteArray → Int → Int → List V → List V → List V → List V → List V → List V → Option R) (Kr : Bool → Option R) : Nat → List V → Int → Int → ByteArray → Int → Int → List V → List V → List V → List V → List V → List V → Option R
  | 0 => fun _ _ _ _ _ _ _ _ _ _ _ _ => none
  | j + 1 => b12_2 G k (l12_2g G k Ko Kr j) Ko Kr
def l12_2 {R : Type} (G : ORC R) (k : Nat) (xl46 : List V) (xi47 xi48 : Int) (xs49 : ByteArray) (xi50 xi51 : Int) (xl52 xl53 : List V) (xl54 xl55 : List V) (xl56 xl57 : List V) (Ko : List V → Int → ByteArray → Int → Int → List V → List V → List V → List V → List V → List V → Option R) (Kr : Bool → Option R) : Option R := l12_2g G k Ko Kr k xl46 xi47 xi48 xs49 xi50 xi51 xl52 xl53 xl54 xl55 xl56 xl57
def P12_0h : Pat := { tmps := unds [] 5 (unds [.stat (.one (.ptr 5 0) .pt), .var (.sl 1) .ro, .var (.int .i64) .pr] 82 []), boxes := nons [] 5 (nons [some [.var .str .pr false, .var (.int .i64) .pr false, .var (.int .i64) .pr false, .var (.sl 1) .ro false, .var (.sl 1) .ro false, .var (.sl 1) .ro false, .var (.sl 7) .ro false, .var (.sl 6) .ro false, .var (.sl 1) .ro false]] 84 []) }
def P12_0x : Pat := { tmps := unds [] 90 [], boxes := nons [] 90 [] }
def P12_0r : Pat := { tmps := unds [.undef, .undef, .undef, .undef, .var .bool .pr] 85 [], boxes := nons [] 90 [] }
def b12_0 {R : Type} (G : ORC R) (k : Nat) (X : List V → Int → ByteArray → Int → Int → List V → List V → List V → List V → List V → List V → Option R) (Ko : Unit → Option R) (Kr : Bool → Option R) (xl35 : List V) (xi36 : Int) (xs37 : ByteArray) (xi38 xi39 : Int) (xl40 xl41 : List V) (xl42 xl43 : List V) (xl44 xl45 : List V) : Option R :=
  (bif (decide (xi36 < ((List.length xl44 : Nat) : Int))) then (l12_2 G k xl35 xi36 0 xs37 xi38 xi39 xl40 xl41 xl42 xl43 xl44 xl45 (fun yl46 yi47 ys48 yi49 yi50 yl51 yl52 yl53 yl54 yl55 yl56 => (X yl46 (IntKind.i64.wrap (yi47 + 1)) ys48 yi49 yi50 yl51 yl52 yl53 yl54 yl55 yl56)) (fun yb57 => (Kr yb57))) else (Ko ()))
def l12_0g {R : Type} (G : ORC R) (k : Nat) (Ko : Unit → Option R) (Kr : Bool → Option R) : Nat → List V → Int → ByteArray → Int → Int → List V → List V → List V → List V → List V → List V → Option R
  | 0 => fun _ _ _ _ _ _ _ _ _ _ _ => none
  | j + 1 => b12_0 G k (l12_0g G k Ko Kr j) Ko Kr
def l12_0 {R : Type} (G : ORC R) (k : Nat) (xl35 : List V) (xi36 : Int) (xs37 : ByteArray) (xi38 xi39 : Int) (xl40 xl41 : List V) (xl42 xl43 : List V) (xl44 xl45 : List V) (Ko : Unit → Option R) (Kr : Bool → Option R) : Option R := l12_0g G k Ko Kr k xl35 xi36 xs37 xi38 xi39 xl40 xl41 xl42 xl43 xl44 xl45
def rd12_2 {R : Type} (G : ORC R) (k : Nat) (K : Ex → St → Option R) (j : Nat) (vs : List V) : Option R := match vs with
  | [(.sl 1 xl46), (.int .i64 xi47), (.int .i64 xi48), (.str xs49), (.int .i64 xi50), (.int .i64 xi51), (.sl 1 xl52), (.sl 1 xl53), (.sl 1 xl54), (.sl 7 xl55), (.sl 6 xl56), (.sl 1 xl57)] => l12_2g G k (fun yl62 yi63 ys64 yi65 yi66 yl67 yl68 yl69 yl70 yl71 yl72 => K .normal (P12_2x.inst [(.sl 1 yl62), (.int .i64 yi63), (.str ys64), (.int .i64 yi65), (.int .i64 yi66), (.sl 1 yl67), (.sl 1 yl68), (.sl 1 yl69), (.sl 7 yl70), (.sl 6 yl71), (.sl 1 yl72)])) (fun yb73 => K .ret (P12_2r.inst [(.bool yb73)])) j xl46 xi47 xi48 xs49 xi50 xi51 xl52 xl53 xl54 xl55 xl56 xl57
  | _ => none
def rd12_0 {R : Type} (G : ORC R) (k : Nat) (K : Ex → St → Option R) (j : Nat) (vs : List V) : Option R := match vs with
  | [(.sl 1 xl35), (.int .i64 xi36), (.str xs37), (.int .i64 xi38), (.int .i64 xi39), (.sl 1 xl40), (.sl 1 xl41), (.sl 1 xl42), (.sl 7 xl43), (.sl 6 xl44), (.sl 1 xl45)] => l12_0g G k (fun _ => K .normal (P12_0x.inst [])) (fun yb74 => K .ret (P12_0r.inst [(.bool yb74)])) j xl35 xi36 xs37 xi38 xi39 xl40 xl41 xl42 xl43 xl44 xl45
  | _ => none
def L12 {R : Type} (G : ORC R) (k : Nat) : Nat → St → (Ex → St → Option R) → Option R
  | 2, S, K => P12_2h.mat S fun vs => rd12_2 G k K k vs
  | 0, S, K => P12_0h.mat S fun vs => rd12_0 G k K k vs
  | _, _, _ => none
def f12 {R : Type} (G : ORC R) (k : Nat) (al1 al2 : List V) (K : List V → Option R) : Option R :=
  (bif (decide (((List.length al1 : Nat) : Int) > 200)) then (G 51 [] fun o3 => (uB o3 fun b5 r4 => (unNil r4 (K [(.bool b5)])))) else (bif (decide (((List.length al2 : Nat) : Int) > 40)) then (G 51 [] fun o6 => (uB o6 fun b8 r7 => (unNil r7 (K [(.bool b8)])))) else (G 52 [(.sl 1 al1)] fun o9 => (uA o9 fun l11 r10 => (uS l11 fun s13 r12 => (uI .i64 r12 fun n15 r14 => (uI .i64 r14 fun n17 r16 => (uL 1 r16 fun l19 r18 => (uL 1 r18 fun l21 r20 => (uL 1 r20 fun l23 r22 => (uL 7 r22 fun l25 r24 => (uL 6 r24 fun l27 r26 => (uL 1 r26 fun l29 r28 => (unNil r28 (unNil r10 (G 56 [(.sl 7 l25), (.int .i64 0), (.sl 1 al2), (.int .i64 0)] fun o30 => (uL 1 o30 fun l32 r31 => (uI .i64 r31 fun n34 r33 => (unNil r33 (l12_0 G k l32 0 s13 n15 n17 l19 l21 l23 l25 l27 l29 (fun (_ : Unit) => (G 51 [] fun o58 => (uB o58 fun b60 r59 => (unNil r59 (K [(.bool b60)]))))) (fun yb61 => (K [(.bool yb61)]))))))))))))))))))))))
noncomputable def D12_2 : LoopD := { id := 2, body := loopAt 2 (bodyOf Try.f12), head := P12_2h, out := P12_2x, ret := P12_2r }
theorem l12_2_is {R : Type} (G : ORC R) (k : Nat) (X : List V → Option R) (K : Ex → St → Option R) (xl46 : List V) (xi47 xi48 : Int) (xs49 : ByteArray) (xi50 xi51 : Int) (xl52 xl53 : List V) (xl54 xl55 : List V) (xl56 xl57 : List V) :
    roundOf (TAB.env 12) G (L12 G k) D12_2 X K [(.sl 1 xl46), (.int .i64 xi47), (.int .i64 xi48), (.str xs49), (.int .i64 xi50), (.int .i64 xi51), (.sl 1 xl52), (.sl 1 xl53), (.sl 1 xl54), (.sl 7 xl55), (.sl 6 xl56), (.sl 1 xl57)] = b12_2 G k (fun xl46 xi47 xi48 xs49 xi50 xi51 xl52 xl53 xl54 xl55 xl56 xl57 => X [(.sl 1 xl46), (.int .i64 xi47), (.int .i64 xi48), (.str xs49), (.int .i64 xi50), (.int .i64 xi51), (.sl 1 xl52), (.sl 1 xl53), (.sl 1 xl54), (.sl 7 xl55), (.sl 6 xl56), (.sl 1 xl57)]) (fun yl62 yi63 ys64 yi65 yi66 yl67 yl68 yl69 yl70 yl71 yl72 => K .normal (P12_2x.inst [(.sl 1 yl62), (.int .i64 yi63), (.str ys64), (.int .i64 yi65), (.int .i64 yi66), (.sl 1 yl67), (.sl 1 yl68), (.sl 1 yl69), (.sl 7 yl70), (.sl 6 yl71), (.sl 1 yl72)])) (fun yb73 => K .ret (P12_2r.inst [(.bool yb73)])) xl46 xi47 xi48 xs49 xi50 xi51 xl52 xl53 xl54 xl55 xl56 xl57 := by kernel_rfl
noncomputable def D12_0 : LoopD := { id := 0, body := loopAt 0 (bodyOf Try.f12), head := P12_0h, out := P12_0x, ret := P12_0r }
theorem l12_0_is {R : Type} (G : ORC R) (k : Nat) (X : List V → Option R) (K : Ex → St → Option R) (xl35 : List V) (xi36 : Int) (xs37 : ByteArray) (xi38 xi39 : Int) (xl40 xl41 : List V) (xl42 xl43 : List V) (xl44 xl45 : List V) :
    roundOf (TAB.env 12) G (L12 G k) D12_0 X K [(.sl 1 xl35), (.int .i64 xi36), (.str xs37), (.int .i64 xi38), (.int .i64 xi39), (.sl 1 xl40), (.sl 1 xl41), (.sl 1 xl42), (.sl 7 xl43), (.sl 6 xl44), (.sl 1 xl45)] = b12_0 G k (fun xl35 xi36 xs37 xi38 xi39 xl40 xl41 xl42 xl43 xl44 xl45 => X [(.sl 1 xl35), (.int .i64 xi36), (.str xs37), (.int .i64 xi38), (.int .i64 xi39), (.sl 1 xl40), (.sl 1 xl41), (.sl 1 xl42), (.sl 7 xl43), (.sl 6 xl44), (.sl 1 xl45)]) (fun _ => K .normal (P12_0x.inst [])) (fun yb74 => K .ret (P12_0r.inst [(.bool yb74)])) xl35 xi36 xs37 xi38 xi39 xl40 xl41 xl42 xl43 xl44 xl45 := by kernel_rfl
theorem f12_is {R : Type} (G : ORC R) (k : Nat) (K : List V → Option R) (al1 al2 : List V) :
    callF (TAB.env 12) G (L12 G k) Try.f12 S12 [(.sl 1 al1), (.sl 1 al2)] K = f12 G k al1 al2 K := by kernel_rfl
theorem li12_2 {R : Type} (G : ORC R) (k : Nat) : LoopIs (TAB.env 12) G (L12 G k) 2 (loopAt 2 (bodyOf Try.f12)) :=
  ⟨D12_2, fun j vs K => rd12_2 G k K j vs, k, rfl, rfl, by kernel_rfl, by kernel_rfl, by kernel_rfl, (fun vs K => by unfold rd12_2; dsimp only; split <;> rfl),
    (fun j vs K r h => by
      unfold rd12_2 at h
      dsimp only at h
      split at h
      · rw [l12_2_is]; exact h
      · cases h), (fun S K r h => h)⟩
theorem li12_0 {R : Type} (G : ORC R) (k : Nat) : LoopIs (TAB.env 12) G (L12 G k) 0 (loopAt 0 (bodyOf Try.f12)) :=
  ⟨D12_0, fun j vs K => rd12_0 G k K j vs, k, rfl, rfl, by kernel_rfl, by kernel_rfl, by kernel_rfl, (fun vs K => by unfold rd12_0; dsimp only; split <;> rfl),
    (fun j vs K r h => by
      unfold rd12_0 at h
      dsimp only at h
      split at h
      · rw [l12_0_is]; exact h
      · cases h), (fun S K r h => h)⟩
theorem lo12 : loopsOf (bodyOf Try.f12) = [(0, loopAt 0 (bodyOf Try.f12)), (2, loopAt 2 (bodyOf Try.f12))] := by kernel_rfl
theorem la12 {R : Type} (G : ORC R) (k : Nat) : LoopsAre (TAB.env 12) G (L12 G k) (bodyOf Try.f12) :=
  loopsAre_of (by rw [lo12]; intro p hp; simp only [List.mem_cons, List.not_mem_nil, or_false] at hp; rcases hp with rfl | rfl <;> first | exact li12_0 G k | exact li12_2 G k)
def g12 {R : Type} (G : ORC R) (k : Nat) (args : List V) (K : List V → Option R) : Option R := match args with
  | [(.sl 1 al1), (.sl 1 al2)] => f12 G k al1 al2 K
  | _ => none
theorem s12 {R : Type} {G : ORC R} {k : Nat} (hG : Sound Try.prog TAB G) (args : List V) (K : List V → Option R) (r : R) (h : g12 G k args K = some r) : ∃ o, CallOK Try.prog TAB.env 12 args o ∧ K o = some r := by
  unfold g12 at h
  split at h
  · rw [← f12_is] at h
    exact callF_sound (f := 12) TAB_chk MO hG Try.func12 (sg := S12) (by kernel_rfl) (by kernel_rfl) (la12 G k) h
  · cases h
end Go.Proofs.Ytblabbcmokldiaa.Vm
open Go Go.VM
set_option linter.unusedVariables false
set_option linter.unusedSimpArgs false
set_option maxRecDepth 100000
set_option maxHeartbeats 8000000
namespace Go.Proofs.Ytblabbcmokldiaa.Vm
section
variable {R : Type} {G : ORC R} {k : Nat} {K : List V → Option R}
theorem inN_iff {ns : List Nd} {a b : Int} : inN ns a b = true ↔ 0 ≤ b ∧ b ≤ a ∧ a < ns.length ∧ ∃ n, ns[b.toNat]? = some n ∧ a ≤ n.last := by
  unfold inN
  rw [Bool.and_eq_true, decide_eq_true_eq]
  constructor
  · rintro ⟨⟨h1, h2, h3, h4, h5⟩, h6⟩
    cases hn : ns[b.toNat]? with
    | none => rw [hn] at h6; simp at h6
    | some n => rw [hn] at h6; exact ⟨h3, h5, h2, n, rfl, by simpa using h6⟩
  · rintro ⟨h1, h2, h3, n, h4, h5⟩
    rw [h4]
    exact ⟨⟨by omega, h3, h1, by omega, h2⟩, by simpa using h5⟩
/-- What lies in what lies in a node lies in it. -/
theorem inN_trans {ns : List Nd} (T : Tree ns) {a b c : Int} (h1 : inN ns a b = true) (h2 : inN ns b c = true) : inN ns a c = true := by
  obtain ⟨a1, a2, a3, n, a4, a5⟩ := inN_iff.1 h1
  obtain ⟨b1, b2, b3, m, b4, b5⟩ := inN_iff.1 h2
  refine inN_iff.2 ⟨b1, by omega, a3, m, b4, ?_⟩
  have key : ∀ d j : Nat, j < d → b ≤ j → (j : Int) ≤ n.last → (j : Int) ≤ m.last := by
    intro d
    induction d with
    | zero => intro j h; omega
    | succ d ih =>
      intro j hj h2 h3
      by_cases e : (j : Int) = b
      · omega
      · have hnl := T.seg.last b.toNat n a4
        obtain ⟨x, hx⟩ : ∃ x, ns[j]? = some x := ⟨_, List.getElem?_eq_getElem (by omega)⟩
        have l1 := T.seg.lam b.toNat j n x a4 hx (by omega)
        have l2 := T.seg.lam c.toNat j m x b4 hx (by omega)
        have l3 := T.seg.par j x hx
        have := ih x.parent.toNat (by omega) (by omega) (by omega)
        omega
  have := key (a.toNat + 1) a.toNat (by omega) (by omega) (by omega)
  omega
theorem dom_in {ns : List Nd} {a b : Int} : domN ns a b = -1 ∨ (0 ≤ domN ns a b ∧ isEx ns (domN ns a b) a = true) := by
  rcases domGo_at (l := ns) (a := a) (b := b) (i := ns.length) with e | ⟨i, h1, h2, h3⟩
  · exact .inl e
  · right
    have e : domN ns a b = i := h2
    rw [e]
    unfold domAt at h3
    simp only [Bool.and_eq_true, decide_eq_true_eq] at h3
    refine ⟨by omega, ?_⟩
    unfold isEx
    rw [h3.1.2, beq_eq_false_iff_ne.2 (fun e => h3.1.1.1.2 e.symm)]; rfl
theorem isEx_iff {ns : List Nd} {d c : Int} : isEx ns d c = true ↔ c ≠ d ∧ inN ns c d = true := by unfold isEx; simp
/-- Two are in each other's way just if there is what both would leave. -/
theorem pair_exits {ns : List Nd} (T : Tree ns) {C : List Int} {fa fb da db : Int} (ha : da = -1 ∨ (0 ≤ da ∧ isEx ns da fa = true)) (hb : db = -1 ∨ (0 ≤ db ∧ isEx ns db fb = true)) (hfa : fa ∈ C) (hfb : fb ∈ C) :
    pairN ns da db = decide (((ivs (andL (exitN ns C da) (exitN ns C db))).length : Int) > 0) := by
  have hm : ∀ c, c ∈ andL (exitN ns C da) (exitN ns C db) ↔ c ∈ C ∧ isEx ns da c = true ∧ isEx ns db c = true := fun c => by
    rw [andL_eq, List.mem_filter, hasL_iff]
    unfold exitN
    rw [List.mem_reverse, List.mem_reverse, List.mem_filter, List.mem_filter]
    exact ⟨fun h => ⟨h.1.1, h.1.2, h.2.2⟩, fun h => ⟨⟨h.1, h.2.1⟩, h.1, h.2.2⟩⟩
  have hp : pairN ns da db = true ↔ da ≥ 0 ∧ db ≥ 0 ∧ (inN ns da db = true ∨ inN ns db da = true) := by
    unfold pairN; rw [Bool.and_eq_true, Bool.and_eq_true, decide_eq_true_eq, decide_eq_true_eq, Bool.or_eq_true, and_assoc]
  have up : ∀ {f d e : Int}, isEx ns d f = true → inN ns d e = true → isEx ns e f = true := fun h1 h2 => by
    rw [isEx_iff] at h1 ⊢
    refine ⟨?_, inN_trans T h1.2 h2⟩
    have k1 := inN_iff.1 h1.2
    have k2 := inN_iff.1 h2
    have := h1.1
    omega
  have main : pairN ns da db = true ↔ ((ivs (andL (exitN ns C da) (exitN ns C db))).length : Int) > 0 := by
    rw [hp, ivs_len]
    constructor
    · rintro ⟨h1, h2, h3⟩
      have : ∃ c, c ∈ andL (exitN ns C da) (exitN ns C db) := by
        rcases h3 with h3 | h3
        · have := (ha.resolve_left (by omega)).2
          exact ⟨fa, (hm fa).2 ⟨hfa, this, up this h3⟩⟩
        · have := (hb.resolve_left (by omega)).2
          exact ⟨fb, (hm fb).2 ⟨hfb, up this h3, this⟩⟩
      obtain ⟨c, hc⟩ := this
      have := List.length_pos_of_mem hc
      omega
    · intro h
      obtain ⟨c, hc⟩ := List.exists_mem_of_length_pos (l := andL (exitN ns C da) (exitN ns C db)) (by omega)
      obtain ⟨_, h1, h2⟩ := (hm c).1 hc
      obtain ⟨a1, a2, a3, n, a4, a5⟩ := inN_iff.1 (isEx_iff.1 h1).2
      obtain ⟨b1, b2, b3, m, b4, b5⟩ := inN_iff.1 (isEx_iff.1 h2).2
      refine ⟨a1, b1, ?_⟩
      rcases Int.le_total da db with h | h
      · exact .inr (inN_iff.2 ⟨a1, h, by omega, n, a4, by omega⟩)
      · exact .inl (inN_iff.2 ⟨b1, h, by omega, m, b4, by omega⟩)
  by_cases h : pairN ns da db = true
  · rw [h, decide_eq_true (main.1 h)]
  · rw [Bool.eq_false_iff.2 h, decide_eq_false (fun c => h (main.2 c))]
theorem edge_open {ns ns0 : List Nd} (hc : CoreEq ns ns0) {e : V} (h : EdgeS ns0 e) : ∃ fr to dom gd ac ev, e = .agg [.int .i64 fr, .int .i64 to, .int .i64 dom, .int .i64 gd, .int .i64 ac, .str ev] ∧ -1 ≤ dom ∧ (dom = -1 ∨ (0 ≤ dom ∧ isEx ns dom fr = true)) := by
  obtain ⟨fr, to, dom, gd, ac, ev, rfl, _, _, _, h4, _⟩ := h
  refine ⟨fr, to, dom, gd, ac, ev, rfl, ?_⟩
  rcases h4 with ⟨_, h⟩ | ⟨_, _, h⟩
  · exact ⟨by omega, .inl h⟩
  · rw [h, ← domN_core hc]
    have := dom_in (ns := ns) (a := fr) (b := to)
    exact ⟨by rcases this with e | e <;> omega, this⟩
variable {Q : List V → Prop} {ns ns0 : List Nd} {es vars ports timers codes : List V} {nm : ByteArray} {st fu : Int}
theorem exits_in (hH : HasOK G) (hE : ExitOK G) (hA : AndOK G) (hCP : CPairOK G) (T : Tree ns) (hc : CoreEq ns ns0) (he : ∀ e ∈ es, EdgeS ns0 e) (hel : es.length ≤ 100) {C : List Int} (hC : C.length ≤ 200) {a : Nat} {ea : V} (hea : es[a]? = some ea)
    {Ko : List V → Int → ByteArray → Int → Int → List V → List V → List V → List V → List V → List V → Option R} {Kr : Bool → Option R} (hKo : W Q K (Ko (ivs C) a nm st fu vars ports timers (ns.map Nd.v) es codes)) :
    ∀ (j b : Nat), es.length - b < j → b ≤ es.length → W Q K (l12_2g G k Ko Kr j (ivs C) a b nm st fu vars ports timers (ns.map Nd.v) es codes)
  | 0, b, h1, h2 => by omega
  | j + 1, b, h1, h2 => by
    show W Q K (b12_2 G k (l12_2g G k Ko Kr j) Ko Kr (ivs C) a b nm st fu vars ports timers (ns.map Nd.v) es codes)
    unfold b12_2
    refine W_dec (fun h => ?_) (fun _ => hKo)
    obtain ⟨eb, heb⟩ : ∃ eb, es[b]? = some eb := ⟨_, List.getElem?_eq_getElem (by omega)⟩
    obtain ⟨a1, a2, a3, a4, a5, s, rfl, ha3, da⟩ := edge_open hc (he ea (List.mem_of_getElem? hea))
    obtain ⟨b1, b2, b3, b4, b5, t, rfl, hb3, db⟩ := edge_open hc (he eb (List.mem_of_getElem? heb))
    have next : W Q K (l12_2g G k Ko Kr j (ivs C) a (IntKind.i64.wrap ((b : Int) + 1)) nm st fu vars ports timers (ns.map Nd.v) es codes) := by
      rw [wrap_id (n := (b : Int) + 1) (by omega)]
      exact exits_in hH hE hA hCP T hc he hel hC hea hKo j (b + 1) (by omega) (by omega)
    unfold HasOK at hH; unfold ExitOK at hE; unfold AndOK at hA; unfold CPairOK at hCP
    refine W_at (by omega) (by rw [Int.toNat_natCast]; exact hea) (W_asAgg ?_)
    refine W_at (by omega) (by rw [Int.toNat_natCast]; exact heb) (W_asAgg ?_)
    (repeat (with_reducible (first | (refine W_uI ?_) | (refine W_uS ?_) | (refine W_uL ?_) | (refine W_uA ?_) | (refine W_uB ?_) | (refine W_aI ?_) | (refine W_aL ?_) | (refine W_ca3 ?_) | (refine W_ce3 ?_) | (refine W_ca4 ?_) | (refine W_ce4 ?_) | (refine W_ca5 ?_) | (refine W_ce5 ?_) | (refine W_ca6 ?_) | (refine W_ce6 ?_) | (refine W_ca7 ?_) | (refine W_ce7 ?_) | (refine W_ca8 ?_) | (refine W_ce8 ?_) | (refine W_nd7 ?_) | (refine W_unCons ?_) | (refine W_unNil ?_) | (refine W_asInt ?_) | (refine W_asBool ?_) | (refine W_asStr ?_) | (refine W_asSl ?_) | (refine W_asAgg ?_) | (refine W_kd ?_) | (refine W_z ?_))))
    refine W_call (hH _ _ _ (by omega)) ?_
    rintro _ rfl
    (repeat (with_reducible (first | (refine W_uI ?_) | (refine W_uS ?_) | (refine W_uL ?_) | (refine W_uA ?_) | (refine W_uB ?_) | (refine W_aI ?_) | (refine W_aL ?_) | (refine W_ca3 ?_) | (refine W_ce3 ?_) | (refine W_ca4 ?_) | (refine W_ce4 ?_) | (refine W_ca5 ?_) | (refine W_ce5 ?_) | (refine W_ca6 ?_) | (refine W_ce6 ?_) | (refine W_ca7 ?_) | (refine W_ce7 ?_) | (refine W_ca8 ?_) | (refine W_ce8 ?_) | (refine W_nd7 ?_) | (refine W_unCons ?_) | (refine W_unNil ?_) | (refine W_asInt ?_) | (refine W_asBool ?_) | (refine W_asStr ?_) | (refine W_asSl ?_) | (refine W_asAgg ?_) | (refine W_kd ?_) | (refine W_z ?_))))
    refine W_not (W_bool (fun ha => ?_) (fun _ => next))
    refine W_call (hH _ _ _ (by omega)) ?_
    rintro _ rfl
    (repeat (with_reducible (first | (refine W_uI ?_) | (refine W_uS ?_) | (refine W_uL ?_) | (refine W_uA ?_) | (refine W_uB ?_) | (refine W_aI ?_) | (refine W_aL ?_) | (refine W_ca3 ?_) | (refine W_ce3 ?_) | (refine W_ca4 ?_) | (refine W_ce4 ?_) | (refine W_ca5 ?_) | (refine W_ce5 ?_) | (refine W_ca6 ?_) | (refine W_ce6 ?_) | (refine W_ca7 ?_) | (refine W_ce7 ?_) | (refine W_ca8 ?_) | (refine W_ce8 ?_) | (refine W_nd7 ?_) | (refine W_unCons ?_) | (refine W_unNil ?_) | (refine W_asInt ?_) | (refine W_asBool ?_) | (refine W_asStr ?_) | (refine W_asSl ?_) | (refine W_asAgg ?_) | (refine W_kd ?_) | (refine W_z ?_))))
    refine W_not (W_bool (fun hb => ?_) (fun _ => next))
    have xl : ∀ d, (exitN ns C d).length ≤ 9000 := fun d => by unfold exitN; rw [List.length_reverse]; exact Nat.le_trans (List.length_filter_le _ _) (by omega)
    refine W_call (hE _ _ _ _ (by omega)) ?_
    rintro _ rfl
    (repeat (with_reducible (first | (refine W_uI ?_) | (refine W_uS ?_) | (refine W_uL ?_) | (refine W_uA ?_) | (refine W_uB ?_) | (refine W_aI ?_) | (refine W_aL ?_) | (refine W_ca3 ?_) | (refine W_ce3 ?_) | (refine W_ca4 ?_) | (refine W_ce4 ?_) | (refine W_ca5 ?_) | (refine W_ce5 ?_) | (refine W_ca6 ?_) | (refine W_ce6 ?_) | (refine W_ca7 ?_) | (refine W_ce7 ?_) | (refine W_ca8 ?_) | (refine W_ce8 ?_) | (refine W_nd7 ?_) | (refine W_unCons ?_) | (refine W_unNil ?_) | (refine W_asInt ?_) | (refine W_asBool ?_) | (refine W_asStr ?_) | (refine W_asSl ?_) | (refine W_asAgg ?_) | (refine W_kd ?_) | (refine W_z ?_))))
    refine W_call (hE _ _ _ _ (by omega)) ?_
    rintro _ rfl
    (repeat (with_reducible (first | (refine W_uI ?_) | (refine W_uS ?_) | (refine W_uL ?_) | (refine W_uA ?_) | (refine W_uB ?_) | (refine W_aI ?_) | (refine W_aL ?_) | (refine W_ca3 ?_) | (refine W_ce3 ?_) | (refine W_ca4 ?_) | (refine W_ce4 ?_) | (refine W_ca5 ?_) | (refine W_ce5 ?_) | (refine W_ca6 ?_) | (refine W_ce6 ?_) | (refine W_ca7 ?_) | (refine W_ce7 ?_) | (refine W_ca8 ?_) | (refine W_ce8 ?_) | (refine W_nd7 ?_) | (refine W_unCons ?_) | (refine W_unNil ?_) | (refine W_asInt ?_) | (refine W_asBool ?_) | (refine W_asStr ?_) | (refine W_asSl ?_) | (refine W_asAgg ?_) | (refine W_kd ?_) | (refine W_z ?_))))
    refine W_call (hA _ _ _ (xl _) (xl _)) ?_
    rintro _ rfl
    (repeat (with_reducible (first | (refine W_uI ?_) | (refine W_uS ?_) | (refine W_uL ?_) | (refine W_uA ?_) | (refine W_uB ?_) | (refine W_aI ?_) | (refine W_aL ?_) | (refine W_ca3 ?_) | (refine W_ce3 ?_) | (refine W_ca4 ?_) | (refine W_ce4 ?_) | (refine W_ca5 ?_) | (refine W_ce5 ?_) | (refine W_ca6 ?_) | (refine W_ce6 ?_) | (refine W_ca7 ?_) | (refine W_ce7 ?_) | (refine W_ca8 ?_) | (refine W_ce8 ?_) | (refine W_nd7 ?_) | (refine W_unCons ?_) | (refine W_unNil ?_) | (refine W_asInt ?_) | (refine W_asBool ?_) | (refine W_asStr ?_) | (refine W_asSl ?_) | (refine W_asAgg ?_) | (refine W_kd ?_) | (refine W_z ?_))))
    refine W_call (hCP _ _ _ _ _ _ _ _ _ _ _ _ _ _ ha3 hb3) ?_
    rintro _ rfl
    (repeat (with_reducible (first | (refine W_uI ?_) | (refine W_uS ?_) | (refine W_uL ?_) | (refine W_uA ?_) | (refine W_uB ?_) | (refine W_aI ?_) | (refine W_aL ?_) | (refine W_ca3 ?_) | (refine W_ce3 ?_) | (refine W_ca4 ?_) | (refine W_ce4 ?_) | (refine W_ca5 ?_) | (refine W_ce5 ?_) | (refine W_ca6 ?_) | (refine W_ce6 ?_) | (refine W_ca7 ?_) | (refine W_ce7 ?_) | (refine W_ca8 ?_) | (refine W_ce8 ?_) | (refine W_nd7 ?_) | (refine W_unCons ?_) | (refine W_unNil ?_) | (refine W_asInt ?_) | (refine W_asBool ?_) | (refine W_asStr ?_) | (refine W_asSl ?_) | (refine W_asAgg ?_) | (refine W_kd ?_) | (refine W_z ?_))))
    refine W_not (W_chk ?_ next)
    rw [pair_exits T da db (hasL_iff.1 ha) (hasL_iff.1 hb)]
    exact beq_self_eq_true _
theorem exits_out (hk : 10000 ≤ k) (hH : HasOK G) (hE : ExitOK G) (hA : AndOK G) (hCP : CPairOK G) (T : Tree ns) (hc : CoreEq ns ns0) (he : ∀ e ∈ es, EdgeS ns0 e) (hel : es.length ≤ 100) {C : List Int} (hC : C.length ≤ 200)
    {Ko : Unit → Option R} {Kr : Bool → Option R} (hKo : W Q K (Ko ())) :
    ∀ (j a : Nat), es.length - a < j → a ≤ es.length → W Q K (l12_0g G k Ko Kr j (ivs C) a nm st fu vars ports timers (ns.map Nd.v) es codes)
  | 0, a, h1, h2 => by omega
  | j + 1, a, h1, h2 => by
    show W Q K (b12_0 G k (l12_0g G k Ko Kr j) Ko Kr (ivs C) a nm st fu vars ports timers (ns.map Nd.v) es codes)
    unfold b12_0
    refine W_dec (fun h => ?_) (fun _ => hKo)
    obtain ⟨ea, hea⟩ : ∃ ea, es[a]? = some ea := ⟨_, List.getElem?_eq_getElem (by omega)⟩
    unfold l12_2
    refine exits_in hH hE hA hCP T hc he hel hC hea ?_ k 0 (by omega) (by omega)
    rw [wrap_id (n := (a : Int) + 1) (by omega)]
    exact exits_out hk hH hE hA hCP T hc he hel hC hKo j (a + 1) (by omega) (by omega)
def KnExOK (G : ORC R) : Prop := ∀ K : List V → Option R, G 51 [] K = K [.bool true]
def ExitsOK (G : ORC R) : Prop := ∀ (v w : List V) (K : List V → Option R), IntsS v → IntsS w → W (fun o => o = [.bool true]) K (G 12 [.sl 1 v, .sl 1 w] K)
theorem exits_ok (hk : 10000 ≤ k) (hKn : KnExOK G) (hT : TblOK G) (hS : SomeL 200 G) (hH : HasOK G) (hE : ExitOK G) (hA : AndOK G) (hCP : CPairOK G) : ExitsOK (fun _ args (K : List V → Option R) => g12 G k args K) := by
  intro v w K hv hw
  show W _ K (f12 G k v w K)
  unfold f12
  have kn : W (fun o => o = [.bool true]) K (G 51 [] fun o => uB o fun b r => unNil r (K [.bool b])) := by
    rw [hKn]; exact W_uB (W_unNil (W_ret rfl))
  refine W_dec (fun _ => kn) (fun h => ?_)
  refine W_dec (fun _ => kn) (fun h2 => ?_)
  have hT' := hT
  unfold TblOK at hT'; unfold SomeL at hS
  refine W_call (hT' v _ hv (by omega)) ?_
  rintro _ ⟨t, rfl, nm, st, fu, vars, ports, timers, ns, ns0, es, codes, rfl, t1, t2, t3, t4, ⟨states, t51, t52, t53⟩, t6, t7, t8, t9⟩
  (repeat (with_reducible (first | (refine W_uI ?_) | (refine W_uS ?_) | (refine W_uL ?_) | (refine W_uA ?_) | (refine W_uB ?_) | (refine W_aI ?_) | (refine W_aL ?_) | (refine W_ca3 ?_) | (refine W_ce3 ?_) | (refine W_ca4 ?_) | (refine W_ce4 ?_) | (refine W_ca5 ?_) | (refine W_ce5 ?_) | (refine W_ca6 ?_) | (refine W_ce6 ?_) | (refine W_ca7 ?_) | (refine W_ce7 ?_) | (refine W_ca8 ?_) | (refine W_ce8 ?_) | (refine W_nd7 ?_) | (refine W_unCons ?_) | (refine W_unNil ?_) | (refine W_asInt ?_) | (refine W_asBool ?_) | (refine W_asStr ?_) | (refine W_asSl ?_) | (refine W_asAgg ?_) | (refine W_kd ?_) | (refine W_z ?_))))
  have T0 := tree_nds t53 t52
  rw [← t51] at T0
  have T := tree_core t4 T0
  have hl := t4.len
  obtain ⟨n0, h0⟩ : ∃ n, ns[0]? = some n := ⟨_, List.getElem?_eq_getElem (by have := T.pos; omega)⟩
  have hr0 := T.root n0 h0
  refine W_call (hS ns 0 n0 w 0 _ T (by omega) h0 (by omega) (by omega) ⟨hw, by omega, by omega, by omega⟩) ?_
  rintro _ ⟨C, j, rfl, hC, hj⟩
  (repeat (with_reducible (first | (refine W_uI ?_) | (refine W_uS ?_) | (refine W_uL ?_) | (refine W_uA ?_) | (refine W_uB ?_) | (refine W_aI ?_) | (refine W_aL ?_) | (refine W_ca3 ?_) | (refine W_ce3 ?_) | (refine W_ca4 ?_) | (refine W_ce4 ?_) | (refine W_ca5 ?_) | (refine W_ce5 ?_) | (refine W_ca6 ?_) | (refine W_ce6 ?_) | (refine W_ca7 ?_) | (refine W_ce7 ?_) | (refine W_ca8 ?_) | (refine W_ce8 ?_) | (refine W_nd7 ?_) | (refine W_unCons ?_) | (refine W_unNil ?_) | (refine W_asInt ?_) | (refine W_asBool ?_) | (refine W_asStr ?_) | (refine W_asSl ?_) | (refine W_asAgg ?_) | (refine W_kd ?_) | (refine W_z ?_))))
  unfold l12_0
  exact exits_out hk hH hE hA hCP T t4 t7 (by omega) (by omega) kn k 0 (by omega) (by omega)
end
end Go.Proofs.Ytblabbcmokldiaa.Vm
open Go Go.VM
set_option linter.unusedVariables false
set_option maxRecDepth 100000
set_option maxHeartbeats 4000000
namespace Go.Proofs.Ytblabbcmokldiaa.Vm
/-! ### cotillion/cotillionlaw15.known: function 51 -/
def L51 {R : Type} (_ : ORC R) (_ : Nat) : Nat → St → (Ex → St → Option R) → Option R := fun _ _ _ => none
def f51 {R : Type} (G : ORC R) (k : Nat)  (K : List V → Option R) : Option R :=
  (G 14 [(.agg [(.str ⟨#[]⟩), (.int .i64 0), (.int .i64 0), (.sl 3 []), (.sl 3 []), (.sl 3 []), (.sl 7 [(.agg [(.int .i64 1), (.str ⟨#[97]⟩), (.sl 8 []), (.sl 8 []), (.sl 5 []), (.sl 7 []), (.int .i64 0)])]), (.int .i64 0)])] fun o1 => (uL 7 o1 fun l3 r2 => (unNil r2 (G 55 [(.sl 7 l3), (.agg [(.int .i64 1), (.int .i64 (-1)), (.int .i64 (-1)), (.int .i64 0), (.int .i64 0), (.str ⟨#[]⟩)]), (.agg [(.int .i64 1), (.int .i64 (-1)), (.int .i64 (-1)), (.int .i64 0), (.int .i64 0), (.str ⟨#[]⟩)])] fun o4 => (uB o4 fun b6 r5 => (unNil r5 (bif (!b6) then (G 55 [(.sl 7 l3), (.agg [(.int .i64 1), (.int .i64 (-1)), (.int .i64 (-1)), (.int .i64 0), (.int .i64 0), (.str ⟨#[]⟩)]), (.agg [(.int .i64 1), (.int .i64 1), (.int .i64 0), (.int .i64 0), (.int .i64 0), (.str ⟨#[]⟩)])] fun o7 => (uB o7 fun b9 r8 => (unNil r8 (bif (!b9) then (G 55 [(.sl 7 l3), (.agg [(.int .i64 1), (.int .i64 1), (.int .i64 0), (.int .i64 0), (.int .i64 0), (.str ⟨#[]⟩)]), (.agg [(.int .i64 1), (.int .i64 1), (.int .i64 0), (.int .i64 0), (.int .i64 0), (.str ⟨#[]⟩)])] fun o10 => (uB o10 fun b12 r11 => (unNil r11 (bif b12 then (G 53 [(.sl 7 l3), (.sl 6 [(.agg [(.int .i64 1), (.int .i64 (-1)), (.int .i64 (-1)), (.int .i64 0), (.int .i64 0), (.str ⟨#[]⟩)]), (.agg [(.int .i64 1), (.int .i64 1), (.int .i64 0), (.int .i64 0), (.int .i64 0), (.str ⟨#[]⟩)])])] fun o13 => (uL 1 o13 fun l15 r14 => (unNil r14 (K [(.bool (((List.length l15 : Nat) : Int) == 2))])))) else (K [(.bool false)]))))) else (K [(.bool false)]))))) else (K [(.bool false)]))))))))
theorem f51_is {R : Type} (G : ORC R) (k : Nat) (K : List V → Option R)  :
    callF (TAB.env 51) G (L51 G k) Try.f51 S51 [] K = f51 G k  K := by kernel_rfl
theorem lo51 : loopsOf (bodyOf Try.f51) = [] := by kernel_rfl
theorem la51 {R : Type} (G : ORC R) (k : Nat) : LoopsAre (TAB.env 51) G (L51 G k) (bodyOf Try.f51) :=
  loopsAre_of (by rw [lo51]; intro p hp; cases hp)
def g51 {R : Type} (G : ORC R) (k : Nat) (args : List V) (K : List V → Option R) : Option R := match args with
  | [] => f51 G k  K
  | _ => none
theorem s51 {R : Type} {G : ORC R} {k : Nat} (hG : Sound Try.prog TAB G) (args : List V) (K : List V → Option R) (r : R) (h : g51 G k args K = some r) : ∃ o, CallOK Try.prog TAB.env 51 args o ∧ K o = some r := by
  unfold g51 at h
  split at h
  · rw [← f51_is] at h
    exact callF_sound (f := 51) TAB_chk MO hG Try.func51 (sg := S51) (by kernel_rfl) (by kernel_rfl) (la51 G k) h
  · cases h
end Go.Proofs.Ytblabbcmokldiaa.Vm
open Go Go.VM
set_option linter.unusedVariables false
set_option maxRecDepth 100000
namespace Go.Proofs.Ytblabbcmokldiaa.Vm
def gxB (k : Nat) (G : ORC (List V)) : ORC (List V) := fun f args K => match f with
    | 12 => g12 G k args K
    | 14 => g14 G k args K
    | 19 => g19 G k args K
    | 20 => g20 G k args K
    | 21 => g21 G k args K
    | 24 => g24 G k args K
    | 25 => g25 G k args K
    | 26 => g26 G k args K
    | 34 => g34 G k args K
    | 36 => g36 G k args K
    | 40 => g40 G k args K
    | 47 => g47 G k args K
    | 51 => g51 G k args K
    | 52 => g52 G k args K
    | 53 => g53 G k args K
    | 55 => g55 G k args K
    | 56 => g56 G k args K
    | 57 => g57 G k args K
    | 58 => g58 G k args K
    | 59 => g59 G k args K
    | 63 => g63 G k args K
    | 64 => g64 G k args K
    | 66 => g66 G k args K
    | 67 => g67 G k args K
    | 68 => g68 G k args K
    | 86 => g86 G k args K
    | 87 => g87 G k args K
    | 88 => g88 G k args K
    | 89 => g89 G k args K
    | 90 => g90 G k args K
    | 91 => g91 G k args K
    | 92 => g92 G k args K
    | 102 => g102 G k args K
    | 103 => g103 G k args K
    | 104 => g104 G k args K
    | 105 => g105 G k args K
    | 106 => g106 G k args K
    | 107 => g107 G k args K
    | 108 => g108 G k args K
    | 109 => g109 G k args K
    | 125 => g125 G k args K
    | 126 => g126 G k args K
    | 127 => g127 G k args K
    | 134 => g134 G k args K
    | 135 => g135 G k args K
    | 137 => g137 G k args K
    | 138 => g138 G k args K
    | 139 => g139 G k args K
    | 140 => g140 G k args K
    | 141 => g141 G k args K
    | 142 => g142 G k args K
    | 143 => g143 G k args K
    | _ => none
def gx (k : Nat) : Nat → ORC (List V)
  | 0 => fun _ _ _ => none
  | j + 1 => fun f args K => (gxB k (gx k j) f args some).bind K
theorem gx_sound (k : Nat) : ∀ j, Sound Try.prog TAB (gx k j)
  | 0 => fun f args K r h => by cases h
  | j + 1 => fun f args K r h => by
    have ih := gx_sound k j
    have h : (gxB k (gx k j) f args some).bind K = some r := h
    cases hb : gxB k (gx k j) f args some with
    | none => rw [hb] at h; cases h
    | some o =>
    rw [hb] at h
    have key : ∃ o', CallOK Try.prog TAB.env f args o' ∧ some o' = some o := by
      unfold gxB at hb
      split at hb
      · exact s12 ih args some o hb
      · exact s14 ih args some o hb
      · exact s19 ih args some o hb
      · exact s20 ih args some o hb
      · exact s21 ih args some o hb
      · exact s24 ih args some o hb
      · exact s25 ih args some o hb
      · exact s26 ih args some o hb
      · exact s34 ih args some o hb
      · exact s36 ih args some o hb
      · exact s40 ih args some o hb
      · exact s47 ih args some o hb
      · exact s51 ih args some o hb
      · exact s52 ih args some o hb
      · exact s53 ih args some o hb
      · exact s55 ih args some o hb
      · exact s56 ih args some o hb
      · exact s57 ih args some o hb
      · exact s58 ih args some o hb
      · exact s59 ih args some o hb
      · exact s63 ih args some o hb
      · exact s64 ih args some o hb
      · exact s66 ih args some o hb
      · exact s67 ih args some o hb
      · exact s68 ih args some o hb
      · exact s86 ih args some o hb
      · exact s87 ih args some o hb
      · exact s88 ih args some o hb
      · exact s89 ih args some o hb
      · exact s90 ih args some o hb
      · exact s91 ih args some o hb
      · exact s92 ih args some o hb
      · exact s102 ih args some o hb
      · exact s103 ih args some o hb
      · exact s104 ih args some o hb
      · exact s105 ih args some o hb
      · exact s106 ih args some o hb
      · exact s107 ih args some o hb
      · exact s108 ih args some o hb
      · exact s109 ih args some o hb
      · exact s125 ih args some o hb
      · exact s126 ih args some o hb
      · exact s127 ih args some o hb
      · exact s134 ih args some o hb
      · exact s135 ih args some o hb
      · exact s137 ih args some o hb
      · exact s138 ih args some o hb
      · exact s139 ih args some o hb
      · exact s140 ih args some o hb
      · exact s141 ih args some o hb
      · exact s142 ih args some o hb
      · exact s143 ih args some o hb
      · cases hb
    obtain ⟨o', h1, h2⟩ := key
    cases h2
    exact ⟨o, h1, h⟩
theorem gx_U {k j : Nat} {f : FuncId} {args : List V} {Q : List V → Prop} (h : W Q some (gxB k (gx k j) f args some)) : ∃ o, Q o ∧ ∀ K, gx k (j + 1) f args K = K o := by
  obtain ⟨o, q, e⟩ := h
  exact ⟨o, q, fun K => by show (gxB k (gx k j) f args some).bind K = _; rw [e]; rfl⟩
theorem gx_W {k j : Nat} {f : FuncId} {args : List V} {Q : List V → Prop} {K : List V → Option (List V)} (h : W Q some (gxB k (gx k j) f args some)) : W Q K (gx k (j + 1) f args K) := by
  obtain ⟨o, q, e⟩ := gx_U h
  exact ⟨o, q, e K⟩
end Go.Proofs.Ytblabbcmokldiaa.Vm
open Go Go.VM
set_option linter.unusedVariables false
set_option linter.unusedSimpArgs false
set_option maxRecDepth 100000
set_option maxHeartbeats 8000000
namespace Go.Proofs.Ytblabbcmokldiaa.Vm
section
def Ev (P : ORC (List V) → Prop) : Prop := ∃ N, ∀ j, N ≤ j → P (gx 10000 j)
theorem ev0 {P : ORC (List V) → Prop} (h : ∀ j, P (gx 10000 (j + 1))) : Ev P := ⟨1, fun j hj => by obtain ⟨j', rfl⟩ : ∃ j', j = j' + 1 := ⟨j - 1, by omega⟩; exact h j'⟩
theorem evS {A P : ORC (List V) → Prop} (hA : Ev A) (h : ∀ j, A (gx 10000 j) → P (gx 10000 (j + 1))) : Ev P := by
  obtain ⟨N, hN⟩ := hA
  refine ⟨N + 1, fun j hj => ?_⟩
  obtain ⟨j', rfl⟩ : ∃ j', j = j' + 1 := ⟨j - 1, by omega⟩
  exact h j' (hN j' (by omega))
theorem evA {A B : ORC (List V) → Prop} (hA : Ev A) (hB : Ev B) : Ev fun G => A G ∧ B G := by
  obtain ⟨N, hN⟩ := hA
  obtain ⟨M, hM⟩ := hB
  exact ⟨N + M, fun j hj => ⟨hN j (by omega), hM j (by omega)⟩⟩
theorem evT {P : ORC (List V) → Prop} (h : ∀ G, P G) : Ev P := ⟨0, fun j _ => h _⟩
theorem evPlace : Ev PlaceS := ev0 fun j => by have e := place_ok (G := gx 10000 j) (k := 10000); unfold PlaceS at e ⊢; (intros; refine gx_W ?_; apply e <;> assumption)
theorem evNext : Ev NextS := evS evPlace fun j h => by have e := next_ok (G := gx 10000 j) (k := 10000) h; unfold NextS at e ⊢; (intros; refine gx_W ?_; apply e <;> assumption)
theorem evEvent : Ev EventS := evS evPlace fun j h => by have e := event_ok (G := gx 10000 j) (k := 10000) h; unfold EventS at e ⊢; (intros; refine gx_W ?_; apply e <;> assumption)
theorem evPick : Ev PickS := evS evNext fun j h => by have e := pick_ok (G := gx 10000 j) (k := 10000) h; unfold PickS at e ⊢; (intros; refine gx_W ?_; apply e <;> assumption)
theorem evDec1 : Ev (DecS 1) := ev0 fun j => by have e := dec_step (G := gx 10000 j) (k := 10000) (d := 0) (by omega) (.inl rfl); unfold DecS at e ⊢; (intros; refine gx_W ?_; apply e <;> assumption)
theorem evDec2 : Ev (DecS 2) := evS evDec1 fun j h => by have e := dec_step (G := gx 10000 j) (k := 10000) (d := 1) (by omega) (.inr h); unfold DecS at e ⊢; (intros; refine gx_W ?_; apply e <;> assumption)
theorem evDec3 : Ev (DecS 3) := evS evDec2 fun j h => by have e := dec_step (G := gx 10000 j) (k := 10000) (d := 2) (by omega) (.inr h); unfold DecS at e ⊢; (intros; refine gx_W ?_; apply e <;> assumption)
theorem evDig : Ev DigS := evS evDec3 fun j h => by have e := dig_ok (G := gx 10000 j) (k := 10000) h; unfold DigS at e ⊢; (intros; refine gx_W ?_; apply e <;> assumption)
theorem evNames : Ev NamesS := evS evDig fun j h => by have e := names_ok (G := gx 10000 j) (k := 10000) (by omega) h; unfold NamesS at e ⊢; (intros; refine gx_W ?_; apply e <;> assumption)
theorem evNumd : Ev NumdS := evS evNext fun j h => by have e := named_ok (G := gx 10000 j) (k := 10000) (by omega) h; unfold NumdS at e ⊢; (intros; refine gx_W ?_; apply e <;> assumption)
theorem evPlain : Ev PlainS := ev0 fun j => by have e := plain_ok (G := gx 10000 j) (k := 10000) (by omega); unfold PlainS at e ⊢; (intros; refine gx_W ?_; apply e <;> assumption)
theorem evExpr : ∀ d, d ≤ 2 → Ev (ExprOK d)
  | 0, _ => evS (evA evNext evPick) fun j h => by have e := expr_ok (G := gx 10000 j) (k := 10000) (d := 0) (by omega) h.1 h.2 (fun d' e => by omega); unfold ExprOK at e ⊢; (intros; refine gx_W ?_; apply e <;> assumption)
  | d + 1, hd => evS (evA (evA evNext evPick) (evExpr d (by omega))) fun j h => by have e := expr_ok (G := gx 10000 j) (k := 10000) (d := d + 1) hd h.1.1 h.1.2 (fun d' e => by cases e; exact h.2); unfold ExprOK at e ⊢; (intros; refine gx_W ?_; apply e <;> assumption)
theorem evBlock : ∀ d, d ≤ 2 → Ev (BlockOK d)
  | 0, _ => evS (evA (evA evNext evPick) (evA evEvent (evExpr 2 (by omega)))) fun j h => by have e := block_ok (G := gx 10000 j) (k := 10000) (d := 0) (by omega) (by omega) h.1.1 h.1.2 h.2.1 h.2.2 (fun d' e => by omega); unfold BlockOK at e ⊢; (intros; refine gx_W ?_; apply e <;> assumption)
  | d + 1, hd => evS (evA (evA (evA evNext evPick) (evA evEvent (evExpr 2 (by omega)))) (evBlock d (by omega))) fun j h => by have e := block_ok (G := gx 10000 j) (k := 10000) (d := d + 1) (by omega) hd h.1.1.1 h.1.1.2 h.1.2.1 h.1.2.2 (fun d' e => by cases e; exact h.2); unfold BlockOK at e ⊢; (intros; refine gx_W ?_; apply e <;> assumption)
theorem evSt : ∀ d, d ≤ 2 → Ev (StOK d)
  | 0, _ => evS (evA evNext evDig) fun j h => by have e := st_ok (G := gx 10000 j) (k := 10000) (d := 0) (by omega) (by omega) h.1 h.2 (fun d' e => by omega); unfold StOK at e ⊢; (intros; refine gx_W ?_; apply e <;> assumption)
  | d + 1, hd => evS (evA (evA evNext evDig) (evSt d (by omega))) fun j h => by have e := st_ok (G := gx 10000 j) (k := 10000) (d := d + 1) (by omega) (by omega) h.1.1 h.1.2 (fun d' e => by cases e; exact h.2); unfold StOK at e ⊢; (intros; refine gx_W ?_; apply e <;> assumption)
theorem evFill : ∀ d, Ev (FillOK d)
  | 0 => evT fun G x a p c s all L left i K h => h.elim
  | d + 1 => evS (evA (evA (evA evNext evPick) (evA evEvent (evExpr 2 (by omega)))) (evA (evA (evBlock 2 (by omega)) (evBlock 1 (by omega))) (evFill d))) fun j h => by have e := fill_ok (G := gx 10000 j) (k := 10000) (d := d + 1) (by omega) h.1.1.1 h.1.1.2 h.1.2.1 h.1.2.2 h.2.1.1 h.2.1.2 (fun d' e => by cases e; exact h.2.2); unfold FillOK at e ⊢; (intros; refine gx_W ?_; apply e <;> assumption)
theorem evChart : Ev ChartOK := evS (evA (evA (evA evNext evNames) (evA evNumd evPlain)) (evA (evSt 2 (by omega)) (evFill 3))) fun j h => by have e := chart_ok (G := gx 10000 j) (k := 10000) (by omega) h.1.1.1 h.1.1.2 h.1.2.1 h.1.2.2 h.2.1 h.2.2; unfold ChartOK at e ⊢; (intros; refine gx_W ?_; apply e <;> assumption)
theorem evKind : Ev KindOK := ev0 fun j => by have e := kind_ok (G := gx 10000 j) (k := 10000); unfold KindOK at e ⊢; (intros; refine gx_W ?_; apply e <;> assumption)
theorem evIsSt : Ev IsStOK := ev0 fun j => by have e := isst_ok (G := gx 10000 j) (k := 10000); unfold IsStOK at e ⊢; (intros; refine gx_W ?_; apply e <;> assumption)
theorem evPut : ∀ d, Ev (PutOK d)
  | 0 => evS (evA evKind evIsSt) fun j h => by have e := put_ok (G := gx 10000 j) (k := 10000) (d := 0) (by omega) h.1 h.2 (fun d' e => by omega); unfold PutOK at e ⊢; (intros; refine gx_W ?_; apply e <;> assumption)
  | d + 1 => evS (evA (evA evKind evIsSt) (evPut d)) fun j h => by have e := put_ok (G := gx 10000 j) (k := 10000) (d := d + 1) (by omega) h.1.1 h.1.2 (fun d' e => by cases e; exact h.2); unfold PutOK at e ⊢; (intros; refine gx_W ?_; apply e <;> assumption)
theorem evNodes : Ev NodesOK := evS (evPut 3) fun j h => by have e := nodes_ok (G := gx 10000 j) (k := 10000) h; unfold NodesOK at e ⊢; (intros; refine gx_W ?_; apply e <;> assumption)
theorem evIs : Ev IsOK := ev0 fun j => by have e := is_ok (G := gx 10000 j) (k := 10000); unfold IsOK at e ⊢; (intros; refine gx_W ?_; apply e <;> assumption)
theorem evIn : Ev InOK := evS evIs fun j h => by have e := in_ok (G := gx 10000 j) (k := 10000) h; unfold InOK at e ⊢; (intros; refine gx_W ?_; apply e <;> assumption)
end
end Go.Proofs.Ytblabbcmokldiaa.Vm
open Go Go.VM
set_option linter.unusedVariables false
set_option linter.unusedSimpArgs false
set_option maxRecDepth 100000
set_option maxHeartbeats 8000000
namespace Go.Proofs.Ytblabbcmokldiaa.Vm
section
theorem evFind : Ev FindOK := ev0 fun j => by have e := find_ok (G := gx 10000 j) (k := 10000) (by omega); unfold FindOK at e ⊢; (intros; refine gx_W ?_; apply e <;> assumption)
theorem evDom : Ev DomOK := evS (evA evIs evIn) fun j h => by have e := dom_ok (G := gx 10000 j) (k := 10000) (by omega) h.1 h.2; unfold DomOK at e ⊢; (intros; refine gx_W ?_; apply e <;> assumption)
theorem evPl : Ev PlOK := ev0 fun j => by have e := pl_ok (G := gx 10000 j) (k := 10000) (by omega); unfold PlOK at e ⊢; (intros; refine gx_W ?_; apply e <;> assumption)
theorem evOp : Ev OpOK := ev0 fun j => by have e := op_ok (G := gx 10000 j) (k := 10000); unfold OpOK at e ⊢; (intros; refine gx_W ?_; apply e <;> assumption)
theorem evRExpr : ∀ d, Ev (RExprOK d)
  | 0 => evT fun G c e a p t nd K _ h => h.elim
  | d + 1 => evS (evA (evA (evA evPl evFind) (evA evOp (evRExpr d))) (evA (P1 d) (P2 d))) fun j h => by have e := rexpr_ok (G := gx 10000 j) (k := 10000) h.1.1.1 h.1.1.2 h.1.2.1 h.1.2.2 h.2.1 h.2.2; unfold RExprOK at e ⊢; (intros; refine gx_W ?_; apply e <;> assumption)
where
  P1 (d : Nat) : Ev (RBothOK 140 d) := evS (evRExpr d) fun j h => by have e := rand_ok (G := gx 10000 j) (k := 10000) h; unfold RBothOK at e ⊢; (intros; refine gx_W ?_; apply e <;> assumption)
  P2 (d : Nat) : Ev (RBothOK 141 d) := evS (evRExpr d) fun j h => by have e := ror_ok (G := gx 10000 j) (k := 10000) h; unfold RBothOK at e ⊢; (intros; refine gx_W ?_; apply e <;> assumption)
theorem evRArg : Ev RArgOK := evS (evRExpr 3) fun j h => by have e := rarg_ok (G := gx 10000 j) (k := 10000) h; unfold RArgOK at e ⊢; (intros; refine gx_W ?_; apply e <;> assumption)
theorem evRBl : ∀ d, Ev (RBlOK d)
  | 0 => evS (A := RActOK 0) (evT fun G c e a p t nd K _ h => h.elim) fun j h => by have e := rbl_ok (G := gx 10000 j) (k := 10000) (by omega) h; unfold RBlOK at e ⊢; (intros; refine gx_W ?_; apply e <;> assumption)
  | d + 1 => evS (A := RActOK (d + 1)) (evS (evA (evA evPl (evRExpr 3)) (evA evRArg (evRBl d))) fun j h => by have e := ract_ok (G := gx 10000 j) (k := 10000) h.1.1 h.1.2 h.2.1 h.2.2; unfold RActOK at e ⊢; (intros; refine gx_W ?_; apply e <;> assumption)) fun j h => by have e := rbl_ok (G := gx 10000 j) (k := 10000) (by omega) h; unfold RBlOK at e ⊢; (intros; refine gx_W ?_; apply e <;> assumption)
theorem evBlk : Ev (BlkOK 3) := evS (evRBl 3) fun j h => by have e := blk_ok (G := gx 10000 j) (k := 10000) (by decide) h; unfold BlkOK at e ⊢; (intros; refine gx_W ?_; apply e <;> assumption)
theorem evGd : Ev GdOK := evS (evRExpr 3) fun j h => by have e := gd_ok (G := gx 10000 j) (k := 10000) h; unfold GdOK at e ⊢; (intros; refine gx_W ?_; apply e <;> assumption)
theorem evTexts : Ev TextsOK := ev0 fun j => by have e := texts_ok (G := gx 10000 j) (k := 10000) (by omega); unfold TextsOK at e ⊢; (intros; refine gx_W ?_; apply e <;> assumption)
theorem evNamesC : Ev NamesC := evS (evA evTexts evNodes) fun j h => by have e := names_c (G := gx 10000 j) (k := 10000) h.1 h.2; unfold NamesC at e ⊢; (intros; refine gx_W ?_; apply e <;> assumption)
theorem evLb : Ev LbOK := evS evBlk fun j h => by have e := lb_ok (G := gx 10000 j) (k := 10000) h; unfold LbOK at e ⊢; (intros; refine gx_W ?_; apply e <;> assumption)
theorem evSts : ∀ d, Ev (StsOK d)
  | 0 => evS (evA (evA evFind evDom) (evA evLb evGd)) fun j h => by have e := sts_ok (G := gx 10000 j) (k := 10000) (d := 0) (by omega) h.1.1 h.1.2 h.2.1 h.2.2 (fun d' e => by omega); unfold StsOK at e ⊢; (intros; refine gx_W ?_; apply e <;> assumption)
  | d + 1 => evS (evA (evA (evA evFind evDom) (evA evLb evGd)) (evSts d)) fun j h => by have e := sts_ok (G := gx 10000 j) (k := 10000) (d := d + 1) (by omega) h.1.1.1 h.1.1.2 h.1.2.1 h.1.2.2 (fun d' e => by cases e; exact h.2); unfold StsOK at e ⊢; (intros; refine gx_W ?_; apply e <;> assumption)
theorem evTab : Ev TabOK := evS (evA (evA evNamesC evTexts) (evA evNodes (evSts 3))) fun j h => by have e := tab_ok (G := gx 10000 j) (k := 10000) (by omega) h.1.1 h.1.2 h.2.1 h.2.2; unfold TabOK at e ⊢; (intros; refine gx_W ?_; apply e <;> assumption)
theorem evTbl : Ev TblOK := evS (evA evChart evTab) fun j h => by have e := tbl_ok (G := gx 10000 j) (k := 10000) h.1 h.2; unfold TblOK at e ⊢; (intros; refine gx_W ?_; apply e <;> assumption)
theorem evCIs : Ev CIsOK := ev0 fun j => by have e := cis_ok (G := gx 10000 j) (k := 10000); unfold CIsOK at e ⊢; (intros; refine gx_W ?_; apply e <;> assumption)
theorem evCIn : Ev CInOK := evS evCIs fun j h => by have e := cin_ok (G := gx 10000 j) (k := 10000) h; unfold CInOK at e ⊢; (intros; refine gx_W ?_; apply e <;> assumption)
theorem evCPair : Ev CPairOK := evS evCIn fun j h => by have e := cpair_ok (G := gx 10000 j) (k := 10000) h; unfold CPairOK at e ⊢; (intros; refine gx_W ?_; apply e <;> assumption)
end
end Go.Proofs.Ytblabbcmokldiaa.Vm
