/- Functions of the program, told by the machine of values, and what they answer: part 2. -/
import Derived.Test.YtblabbcmokldiaaLd1
import Derived.Test.YtblabbcmokldiaaV4
open Go Go.VM
set_option linter.unusedVariables false
set_option maxRecDepth 100000
set_option maxHeartbeats 4000000
namespace Go.Proofs.Ytblabbcmokldiaa.Vm
/-! ### cotillion/cotillionref37.Chart: function 59 -/
def P59_0h : Pat := { tmps := unds [] 6 (unds [.stat (.one (.ptr 7 0) .pt), .stat (.one (.ptr 18 0) .pt), .stat (.one (.ptr 9 0) .pt), .var (.int .i64) .pr] 133 []), boxes := nons [some [.var (.sl 1) .ro true, .var (.int .i64) .pr false]] 6 (nons [some [.var .str .pr false, .var (.int .i64) .pr false, .var (.int .i64) .pr false, .var (.sl 3) (.own true) false, .var (.sl 3) (.own true) false, .var (.sl 3) (.own true) false, .var (.sl 7) (.own true) false, .var (.int .i64) .pr false], none, some [.var .str .pr false, .var (.int .i64) .pr false, .var (.int .i64) .pr false, .var (.sl 3) .ro false, .var (.sl 3) .ro false, .var (.sl 3) .ro false, .var (.sl 7) (.own true) false, .var (.int .i64) .pr false]] 8 (nons [some [.stat ⟨(.ptr 0 0), .pt, 0, false⟩, .var (.sl 1) .ro false, .var (.sl 1) .ro false, .var (.sl 1) .ro false, .var (.sl 1) (.own true) false, .var (.int .i64) .pr false, .var (.sl 1) (.own true) false]] 125 [])) }
def P59_0x : Pat := { tmps := unds [] 6 (unds [.stat (.one (.ptr 7 0) .pt), .stat (.one (.ptr 18 0) .pt), .stat (.one (.ptr 9 0) .pt)] 134 []), boxes := nons [some [.var (.sl 1) .ro true, .var (.int .i64) .pr false]] 6 (nons [some [.var .str .pr false, .var (.int .i64) .pr false, .var (.int .i64) .pr false, .var (.sl 3) (.own true) false, .var (.sl 3) (.own true) false, .var (.sl 3) (.own true) false, .var (.sl 7) (.own true) false, .var (.int .i64) .pr false], none, some [.var .str .pr false, .var (.int .i64) .pr false, .var (.int .i64) .pr false, .var (.sl 3) .ro false, .var (.sl 3) .ro false, .var (.sl 3) .ro false, .var (.sl 7) (.own true) false, .var (.int .i64) .pr false]] 8 (nons [some [.stat ⟨(.ptr 0 0), .pt, 0, false⟩, .var (.sl 1) .ro false, .var (.sl 1) .ro false, .var (.sl 1) .ro false, .var (.sl 1) (.own true) false, .var (.int .i64) .pr false, .var (.sl 1) (.own true) false]] 125 [])) }
def b59_0 {R : Type} (G : ORC R) (k : Nat) (X : Int → List V → Int → ByteArray → Int → Int → List V → List V → List V → List V → Int → ByteArray → Int → Int → List V → List V → List V → List V → Int → List V → List V → List V → List V → Int → List V → Option R) (Ko : List V → Int → ByteArray → Int → Int → List V → List V → List V → List V → Int → ByteArray → Int → Int → List V → List V → List V → List V → Int → List V → List V → List V → List V → Int → List V → Option R) (xi57 : Int) (xl58 : List V) (xi59 : Int) (xs60 : ByteArray) (xi61 xi62 : Int) (xl63 xl64 : List V) (xl65 xl66 : List V) (xi67 : Int) (xs68 : ByteArray) (xi69 xi70 : Int) (xl71 xl72 : List V) (xl73 xl74 : List V) (xi75 : Int) (xl76 xl77 : List V) (xl78 xl79 : List V) (xi80 : Int) (xl81 : List V) : Option R :=
  (bif (decide (xi57 > 0)) then (bif (decide (xi80 > 0)) then (G 91 [(.int .i64 2), (.bool false), (.sl 1 xl76), (.sl 1 xl77), (.sl 1 xl78), (.sl 1 xl79), (.int .i64 xi80), (.sl 1 xl81), (.sl 1 xl58), (.int .i64 xi59)] fun o82 => (uA o82 fun l84 r83 => (uI .i64 l84 fun n86 r85 => (uS r85 fun s88 r87 => (uL 8 r87 fun l90 r89 => (uL 8 r89 fun l92 r91 => (uL 5 r91 fun l94 r93 => (uL 7 r93 fun l96 r95 => (uI .i64 r95 fun n98 r97 => (unNil r97 (uI .i64 r83 fun n100 r99 => (uL 1 r99 fun l102 r101 => (uI .i64 r101 fun n104 r103 => (unNil r103 (bif (decide (List.length xl74 + 1 ≤ 1073741824)) then (X (IntKind.i64.wrap (xi57 - 1)) xl58 n104 xs60 xi61 xi62 xl63 xl64 xl65 xl66 xi67 xs68 xi69 xi70 xl71 xl72 xl73 (xl74 ++ [(.agg [(.int .i64 n86), (.str s88), (.sl 8 l90), (.sl 8 l92), (.sl 5 l94), (.sl 7 l96), (.int .i64 n98)])]) xi75 xl76 xl77 xl78 xl79 n100 l102) else none))))))))))))))) else (bif (((List.length xl74 : Nat) : Int) == 0) then (G 91 [(.int .i64 2), (.bool false), (.sl 1 xl76), (.sl 1 xl77), (.sl 1 xl78), (.sl 1 xl79), (.int .i64 xi80), (.sl 1 xl81), (.sl 1 xl58), (.int .i64 xi59)] fun o105 => (uA o105 fun l107 r106 => (uI .i64 l107 fun n109 r108 => (uS r108 fun s111 r110 => (uL 8 r110 fun l113 r112 => (uL 8 r112 fun l115 r114 => (uL 5 r114 fun l117 r116 => (uL 7 r116 fun l119 r118 => (uI .i64 r118 fun n121 r120 => (unNil r120 (uI .i64 r106 fun n123 r122 => (uL 1 r122 fun l125 r124 => (uI .i64 r124 fun n127 r126 => (unNil r126 (bif (decide (List.length xl74 + 1 ≤ 1073741824)) then (X (IntKind.i64.wrap (xi57 - 1)) xl58 n127 xs60 xi61 xi62 xl63 xl64 xl65 xl66 xi67 xs68 xi69 xi70 xl71 xl72 xl73 (xl74 ++ [(.agg [(.int .i64 n109), (.str s111), (.sl 8 l113), (.sl 8 l115), (.sl 5 l117), (.sl 7 l119), (.int .i64 n121)])]) xi75 xl76 xl77 xl78 xl79 n123 l125) else none))))))))))))))) else (Ko xl58 xi59 xs60 xi61 xi62 xl63 xl64 xl65 xl66 xi67 xs68 xi69 xi70 xl71 xl72 xl73 xl74 xi75 xl76 xl77 xl78 xl79 xi80 xl81))) else (Ko xl58 xi59 xs60 xi61 xi62 xl63 xl64 xl65 xl66 xi67 xs68 xi69 xi70 xl71 xl72 xl73 xl74 xi75 xl76 xl77 xl78 xl79 xi80 xl81))
def l59_0g {R : Type} (G : ORC R) (k : Nat) (Ko : List V → Int → ByteArray → Int → Int → List V → List V → List V → List V → Int → ByteArray → Int → Int → List V → List V → List V → List V → Int → List V → List V → List V → List V → Int → List V → Option R) : Nat → Int → List V → Int → ByteArray → Int → Int → List V → List V → List V → List V → Int → ByteArray → Int → Int → List V → List V → List V → List V → Int → List V → List V → List V → List V → Int → List V → Option R
  | 0 => fun _ _ _ _ _ _ _ _ _ _ _ _ _ _ _ _ _ _ _ _ _ _ _ _ _ => none
  | j + 1 => b59_0 G k (l59_0g G k Ko j) Ko
def l59_0 {R : Type} (G : ORC R) (k : Nat) (xi57 : Int) (xl58 : List V) (xi59 : Int) (xs60 : ByteArray) (xi61 xi62 : Int) (xl63 xl64 : List V) (xl65 xl66 : List V) (xi67 : Int) (xs68 : ByteArray) (xi69 xi70 : Int) (xl71 xl72 : List V) (xl73 xl74 : List V) (xi75 : Int) (xl76 xl77 : List V) (xl78 xl79 : List V) (xi80 : Int) (xl81 : List V) (Ko : List V → Int → ByteArray → Int → Int → List V → List V → List V → List V → Int → ByteArray → Int → Int → List V → List V → List V → List V → Int → List V → List V → List V → List V → Int → List V → Option R) : Option R := l59_0g G k Ko k xi57 xl58 xi59 xs60 xi61 xi62 xl63 xl64 xl65 xl66 xi67 xs68 xi69 xi70 xl71 xl72 xl73 xl74 xi75 xl76 xl77 xl78 xl79 xi80 xl81
def P59_2h : Pat := { tmps := unds [] 6 (unds [.stat (.one (.ptr 7 0) .pt), .stat (.one (.ptr 18 0) .pt), .stat (.one (.ptr 9 0) .pt), .undef, .var (.int .i64) .pr] 132 []), boxes := nons [some [.var (.sl 1) .ro true, .var (.int .i64) .pr false]] 6 (nons [some [.var .str .pr false, .var (.int .i64) .pr false, .var (.int .i64) .pr false, .var (.sl 3) (.own true) false, .var (.sl 3) (.own true) false, .var (.sl 3) (.own true) false, .var (.sl 7) (.own true) false, .var (.int .i64) .pr false], none, some [.var .str .pr false, .var (.int .i64) .pr false, .var (.int .i64) .pr false, .var (.sl 3) .ro false, .var (.sl 3) .ro false, .var (.sl 3) .ro false, .var (.sl 7) (.own true) false, .var (.int .i64) .pr false]] 8 (nons [some [.stat ⟨(.ptr 0 0), .pt, 0, false⟩, .var (.sl 1) .ro false, .var (.sl 1) .ro false, .var (.sl 1) .ro false, .var (.sl 1) (.own true) false, .var (.int .i64) .pr false, .var (.sl 1) (.own true) false]] 125 [])) }
def P59_2x : Pat := { tmps := unds [] 6 (unds [.stat (.one (.ptr 7 0) .pt), .stat (.one (.ptr 18 0) .pt), .stat (.one (.ptr 9 0) .pt)] 134 []), boxes := nons [some [.var (.sl 1) .ro true, .var (.int .i64) .pr false]] 6 (nons [some [.var .str .pr false, .var (.int .i64) .pr false, .var (.int .i64) .pr false, .var (.sl 3) (.own true) false, .var (.sl 3) (.own true) false, .var (.sl 3) (.own true) false, .var (.sl 7) (.own true) false, .var (.int .i64) .pr false], none, some [.var .str .pr false, .var (.int .i64) .pr false, .var (.int .i64) .pr false, .var (.sl 3) .ro false, .var (.sl 3) .ro false, .var (.sl 3) .ro false, .var (.sl 7) (.own true) false, .var (.int .i64) .pr false]] 8 (nons [some [.stat ⟨(.ptr 0 0), .pt, 0, false⟩, .var (.sl 1) .ro false, .var (.sl 1) .ro false, .var (.sl 1) .ro false, .var (.sl 1) (.own true) false, .var (.int .i64) .pr false, .var (.sl 1) (.own true) false]] 125 [])) }
def b59_2 {R : Type} (G : ORC R) (k : Nat) (X : Int → List V → Int → ByteArray → Int → Int → List V → List V → List V → List V → Int → ByteArray → Int → Int → List V → List V → List V → List V → Int → List V → List V → List V → List V → Int → List V → Option R) (Ko : List V → Int → ByteArray → Int → Int → List V → List V → List V → List V → Int → ByteArray → Int → Int → List V → List V → List V → List V → Int → List V → List V → List V → List V → Int → List V → Option R) (xi152 : Int) (xl153 : List V) (xi154 : Int) (xs155 : ByteArray) (xi156 xi157 : Int) (xl158 xl159 : List V) (xl160 xl161 : List V) (xi162 : Int) (xs163 : ByteArray) (xi164 xi165 : Int) (xl166 xl167 : List V) (xl168 xl169 : List V) (xi170 : Int) (xl171 xl172 : List V) (xl173 xl174 : List V) (xi175 : Int) (xl176 : List V) : Option R :=
  (bif (decide (xi152 < ((List.length xl176 : Nat) : Int))) then (bif ((decide (0 ≤ xi152)) && (decide (xi152 < ((List.length xl176 : Nat) : Int)))) then (nthK xl176 (Int.toNat xi152) fun e177 => (V.asStr e177 fun s178 => (bif (decide (0 < ((ByteArray.size s178 : Nat) : Int))) then (bif (((List.getD s178.data.toList 0 0).toNat : Int) == 115) then (bif ((decide (0 ≤ xi152)) && (decide (xi152 < ((List.length xl176 : Nat) : Int)))) then (nthK xl176 (Int.toNat xi152) fun e179 => (V.asStr e179 fun s180 => (bif (decide (List.length xl174 + 1 ≤ 1073741824)) then (X (IntKind.i64.wrap (xi152 + 1)) xl153 xi154 xs155 xi156 xi157 xl158 xl159 xl160 xl161 xi162 xs163 xi164 xi165 xl166 xl167 xl168 xl169 xi170 xl171 xl172 xl173 (xl174 ++ [(.str s180)]) xi175 xl176) else none))) else none) else (X (IntKind.i64.wrap (xi152 + 1)) xl153 xi154 xs155 xi156 xi157 xl158 xl159 xl160 xl161 xi162 xs163 xi164 xi165 xl166 xl167 xl168 xl169 xi170 xl171 xl172 xl173 xl174 xi175 xl176)) else none))) else none) else (Ko xl153 xi154 xs155 xi156 xi157 xl158 xl159 xl160 xl161 xi162 xs163 xi164 xi165 xl166 xl167 xl168 xl169 xi170 xl171 xl172 xl173 xl174 xi175 xl176))
def l59_2g {R : Type} (G : ORC R) (k : Nat) (Ko : List V → Int → ByteArray → Int → Int → List V → List V → List V → List V → Int → ByteArray → Int → Int → List V → List V → List V → List V → Int → List V → List V → List V → List V → Int → List V → Option R) : Nat → Int → List V → Int → ByteArray → Int → Int → List V → List V → List V → List V → Int → ByteArray → Int → Int → List V → List V → List V → List V → Int → List V → List V → List V → List V → Int → List V → Option R
  | 0 => fun _ _ _ _ _ _ _ _ _ _ _ _ _ _ _ _ _ _ _ _ _ _ _ _ _ => none
  | j + 1 => b59_2 G k (l59_2g G k Ko j) Ko
def l59_2 {R : Type} (G : ORC R) (k : Nat) (xi152 : Int) (xl153 : List V) (xi154 : Int) (xs155 : ByteArray) (xi156 xi157 : Int) (xl158 xl159 : List V) (xl160 xl161 : List V) (xi162 : Int) (xs163 : ByteArray) (xi164 xi165 : Int) (xl166 xl167 : List V) (xl168 xl169 : List V) (xi170 : Int) (xl171 xl172 : List V) (xl173 xl174 : List V) (xi175 : Int) (xl176 : List V) (Ko : List V → Int → ByteArray → Int → Int → List V → List V → List V → List V → Int → ByteArray → Int → Int → List V → List V → List V → List V → Int → List V → List V → List V → List V → Int → List V → Option R) : Option R := l59_2g G k Ko k xi152 xl153 xi154 xs155 xi156 xi157 xl158 xl159 xl160 xl161 xi162 xs163 xi164 xi165 xl166 xl167 xl168 xl169 xi170 xl171 xl172 xl173 xl174 xi175 xl176
def P59_4h : Pat := { tmps := unds [] 6 (unds [.stat (.one (.ptr 7 0) .pt), .stat (.one (.ptr 18 0) .pt), .stat (.one (.ptr 9 0) .pt), .undef, .undef, .var (.int .i64) .pr] 131 []), boxes := nons [some [.var (.sl 1) .ro true, .var (.int .i64) .pr false]] 6 (nons [some [.var .str .pr false, .var (.int .i64) .pr false, .var (.int .i64) .pr false, .var (.sl 3) (.own true) false, .var (.sl 3) (.own true) false, .var (.sl 3) (.own true) false, .var (.sl 7) (.own true) false, .var (.int .i64) .pr false], none, some [.var .str .pr false, .var (.int .i64) .pr false, .var (.int .i64) .pr false, .var (.sl 3) .ro false, .var (.sl 3) .ro false, .var (.sl 3) .ro false, .var (.sl 7) (.own true) false, .var (.int .i64) .pr false]] 8 (nons [some [.stat ⟨(.ptr 0 0), .pt, 0, false⟩, .var (.sl 1) .ro false, .var (.sl 1) .ro false, .var (.sl 1) .ro false, .var (.sl 1) (.own true) false, .var (.int .i64) .pr false, .var (.sl 1) (.own true) false]] 125 [])) }
def P59_4x : Pat := { tmps := unds [] 6 (unds [.stat (.one (.ptr 7 0) .pt), .undef, .stat (.one (.ptr 9 0) .pt)] 134 []), boxes := nons [some [.var (.sl 1) .ro true, .var (.int .i64) .pr false]] 6 (nons [some [.var .str .pr false, .var (.int .i64) .pr false, .var (.int .i64) .pr false, .var (.sl 3) (.own true) false, .var (.sl 3) (.own true) false, .var (.sl 3) (.own true) false, .var (.sl 7) (.own true) false, .var (.int .i64) .pr false], none, some [.var .str .pr false, .var (.int .i64) .pr false, .var (.int .i64) .pr false, .var (.sl 3) .ro false, .var (.sl 3) .ro false, .var (.sl 3) .ro false, .var (.sl 7) (.own true) false, .var (.int .i64) .pr false]] 134 []) }
def b59_4 {R : Type} (G : ORC R) (k : Nat) (X : Int → List V → Int → ByteArray → Int → Int → List V → List V → List V → List V → Int → ByteArray → Int → Int → List V → List V → List V → List V → Int → List V → List V → List V → List V → Int → List V → Option R) (Ko : List V → Int → ByteArray → Int → Int → List V → List V → List V → List V → Int → ByteArray → Int → Int → List V → List V → List V → List V → Int → Option R) (xi205 : Int) (xl206 : List V) (xi207 : Int) (xs208 : ByteArray) (xi209 xi210 : Int) (xl211 xl212 : List V) (xl213 xl214 : List V) (xi215 : Int) (xs216 : ByteArray) (xi217 xi218 : Int) (xl219 xl220 : List V) (xl221 xl222 : List V) (xi223 : Int) (xl224 xl225 : List V) (xl226 xl227 : List V) (xi228 : Int) (xl229 : List V) : Option R :=
  (bif (decide (xi205 < ((List.length xl222 : Nat) : Int))) then (bif ((decide (0 ≤ xi205)) && (decide (xi205 < ((List.length xl222 : Nat) : Int)))) then (nthK xl222 (Int.toNat xi205) fun e230 => (V.asAgg e230 fun l231 => (G 92 [(.agg l231), (.sl 1 xl224), (.sl 1 xl225), (.sl 1 xl226), (.sl 1 xl227), (.int .i64 xi228), (.sl 1 xl229), (.sl 1 xl206), (.int .i64 xi207)] fun o232 => (uA o232 fun l234 r233 => (uI .i64 l234 fun n236 r235 => (uS r235 fun s238 r237 => (uL 8 r237 fun l240 r239 => (uL 8 r239 fun l242 r241 => (uL 5 r241 fun l244 r243 => (uL 7 r243 fun l246 r245 => (uI .i64 r245 fun n248 r247 => (unNil r247 (uI .i64 r233 fun n250 r249 => (uI .i64 r249 fun n252 r251 => (unNil r251 (bif ((decide (0 ≤ xi205)) && (decide (xi205 < ((List.length (List.set xl222 (Int.toNat xi205) .undef) : Nat) : Int)))) then (nthK (List.set xl222 (Int.toNat xi205) .undef) (Int.toNat xi205) fun e253 => (X (IntKind.i64.wrap (xi205 + 1)) xl206 n252 xs208 xi209 xi210 xl211 xl212 xl213 xl214 xi215 xs216 xi217 xi218 xl219 xl220 xl221 (List.set (List.set xl222 (Int.toNat xi205) .undef) (Int.toNat xi205) (.agg [(.int .i64 n236), (.str s238), (.sl 8 l240), (.sl 8 l242), (.sl 5 l244), (.sl 7 l246), (.int .i64 n248)])) xi223 xl224 xl225 xl226 xl227 n250 xl229)) else none)))))))))))))))) else none) else (Ko xl206 xi207 xs208 xi209 xi210 xl211 xl212 xl213 xl214 xi215 xs216 xi217 xi218 xl219 xl220 xl221 xl222 xi223))
def l59_4g {R : Type} (G : ORC R) (k : Nat) (Ko : List V → Int → ByteArray → Int → Int → List V → List V → List V → List V → Int → ByteArray → Int → Int → List V → List V → List V → List V → Int → Option R) : Nat → Int → List V → Int → ByteArray → Int → Int → List V → List V → List V → List V → Int → ByteArray → Int → Int → List V → List V → List V → List V → Int → List V → List V → List V → List V → Int → List V → Option R
  | 0 => fun _ _ _ _ _ _ _ _ _ _ _ _ _ _ _ _ _ _ _ _ _ _ _ _ _ => none
  | j + 1 => b59_4 G k (l59_4g G k Ko j) Ko
def l59_4 {R : Type} (G : ORC R) (k : Nat) (xi205 : Int) (xl206 : List V) (xi207 : Int) (xs208 : ByteArray) (xi209 xi210 : Int) (xl211 xl212 : List V) (xl213 xl214 : List V) (xi215 : Int) (xs216 : ByteArray) (xi217 xi218 : Int) (xl219 xl220 : List V) (xl221 xl222 : List V) (xi223 : Int) (xl224 xl225 : List V) (xl226 xl227 : List V) (xi228 : Int) (xl229 : List V) (Ko : List V → Int → ByteArray → Int → Int → List V → List V → List V → List V → Int → ByteArray → Int → Int → List V → List V → List V → List V → Int → Option R) : Option R := l59_4g G k Ko k xi205 xl206 xi207 xs208 xi209 xi210 xl211 xl212 xl213 xl214 xi215 xs216 xi217 xi218 xl219 xl220 xl221 xl222 xi223 xl224 xl225 xl226 xl227 xi228 xl229
def rd59_0 {R : Type} (G : ORC R) (k : Nat) (K : Ex → St → Option R) (j : Nat) (vs : List V) : Option R := match vs with
  | [(.int .i64 xi57), (.sl 1 xl58), (.int .i64 xi59), (.str xs60), (.int .i64 xi61), (.int .i64 xi62), (.sl 3 xl63), (.sl 3 xl64), (.sl 3 xl65), (.sl 7 xl66), (.int .i64 xi67), (.str xs68), (.int .i64 xi69), (.int .i64 xi70), (.sl 3 xl71), (.sl 3 xl72), (.sl 3 xl73), (.sl 7 xl74), (.int .i64 xi75), (.sl 1 xl76), (.sl 1 xl77), (.sl 1 xl78), (.sl 1 xl79), (.int .i64 xi80), (.sl 1 xl81)] => l59_0g G k (fun yl272 yi273 ys274 yi275 yi276 yl277 yl278 yl279 yl280 yi281 ys282 yi283 yi284 yl285 yl286 yl287 yl288 yi289 yl290 yl291 yl292 yl293 yi294 yl295 => K .normal (P59_0x.inst [(.sl 1 yl272), (.int .i64 yi273), (.str ys274), (.int .i64 yi275), (.int .i64 yi276), (.sl 3 yl277), (.sl 3 yl278), (.sl 3 yl279), (.sl 7 yl280), (.int .i64 yi281), (.str ys282), (.int .i64 yi283), (.int .i64 yi284), (.sl 3 yl285), (.sl 3 yl286), (.sl 3 yl287), (.sl 7 yl288), (.int .i64 yi289), (.sl 1 yl290), (.sl 1 yl291), (.sl 1 yl292), (.sl 1 yl293), (.int .i64 yi294), (.sl 1 yl295)])) j xi57 xl58 xi59 xs60 xi61 xi62 xl63 xl64 xl65 xl66 xi67 xs68 xi69 xi70 xl71 xl72 xl73 xl74 xi75 xl76 xl77 xl78 xl79 xi80 xl81
  | _ => none
def rd59_2 {R : Type} (G : ORC R) (k : Nat) (K : Ex → St → Option R) (j : Nat) (vs : List V) : Option R := match vs with
  | [(.int .i64 xi152), (.sl 1 xl153), (.int .i64 xi154), (.str xs155), (.int .i64 xi156), (.int .i64 xi157), (.sl 3 xl158), (.sl 3 xl159), (.sl 3 xl160), (.sl 7 xl161), (.int .i64 xi162), (.str xs163), (.int .i64 xi164), (.int .i64 xi165), (.sl 3 xl166), (.sl 3 xl167), (.sl 3 xl168), (.sl 7 xl169), (.int .i64 xi170), (.sl 1 xl171), (.sl 1 xl172), (.sl 1 xl173), (.sl 1 xl174), (.int .i64 xi175), (.sl 1 xl176)] => l59_2g G k (fun yl296 yi297 ys298 yi299 yi300 yl301 yl302 yl303 yl304 yi305 ys306 yi307 yi308 yl309 yl310 yl311 yl312 yi313 yl314 yl315 yl316 yl317 yi318 yl319 => K .normal (P59_2x.inst [(.sl 1 yl296), (.int .i64 yi297), (.str ys298), (.int .i64 yi299), (.int .i64 yi300), (.sl 3 yl301), (.sl 3 yl302), (.sl 3 yl303), (.sl 7 yl304), (.int .i64 yi305), (.str ys306), (.int .i64 yi307), (.int .i64 yi308), (.sl 3 yl309), (.sl 3 yl310), (.sl 3 yl311), (.sl 7 yl312), (.int .i64 yi313), (.sl 1 yl314), (.sl 1 yl315), (.sl 1 yl316), (.sl 1 yl317), (.int .i64 yi318), (.sl 1 yl319)])) j xi152 xl153 xi154 xs155 xi156 xi157 xl158 xl159 xl160 xl161 xi162 xs163 xi164 xi165 xl166 xl167 xl168 xl169 xi170 xl171 xl172 xl173 xl174 xi175 xl176
  | _ => none
def rd59_4 {R : Type} (G : ORC R) (k : Nat) (K : Ex → St → Option R) (j : Nat) (vs : List V) : Option R := match vs with
  | [(.int .i64 xi205), (.sl 1 xl206), (.int .i64 xi207), (.str xs208), (.int .i64 xi209), (.int .i64 xi210), (.sl 3 xl211), (.sl 3 xl212), (.sl 3 xl213), (.sl 7 xl214), (.int .i64 xi215), (.str xs216), (.int .i64 xi217), (.int .i64 xi218), (.sl 3 xl219), (.sl 3 xl220), (.sl 3 xl221), (.sl 7 xl222), (.int .i64 xi223), (.sl 1 xl224), (.sl 1 xl225), (.sl 1 xl226), (.sl 1 xl227), (.int .i64 xi228), (.sl 1 xl229)] => l59_4g G k (fun yl320 yi321 ys322 yi323 yi324 yl325 yl326 yl327 yl328 yi329 ys330 yi331 yi332 yl333 yl334 yl335 yl336 yi337 => K .normal (P59_4x.inst [(.sl 1 yl320), (.int .i64 yi321), (.str ys322), (.int .i64 yi323), (.int .i64 yi324), (.sl 3 yl325), (.sl 3 yl326), (.sl 3 yl327), (.sl 7 yl328), (.int .i64 yi329), (.str ys330), (.int .i64 yi331), (.int .i64 yi332), (.sl 3 yl333), (.sl 3 yl334), (.sl 3 yl335), (.sl 7 yl336), (.int .i64 yi337)])) j xi205 xl206 xi207 xs208 xi209 xi210 xl211 xl212 xl213 xl214 xi215 xs216 xi217 xi218 xl219 xl220 xl221 xl222 xi223 xl224 xl225 xl226 xl227 xi228 xl229
  | _ => none
def L59 {R : Type} (G : ORC R) (k : Nat) : Nat → St → (Ex → St → Option R) → Option R
  | 0, S, K => P59_0h.mat S fun vs => rd59_0 G k K k vs
  | 2, S, K => P59_2h.mat S fun vs => rd59_2 G k K k vs
  | 4, S, K => P59_4h.mat S fun vs => rd59_4 G k K k vs
  | _, _, _ => none
def f59 {R : Type} (G : ORC R) (k : Nat) (as1 : ByteArray) (ai2 : Int) (bl3 : List V) (bi4 : Int) (K : List V → Option R) : Option R :=
  (G 68 [(.int .i64 8), (.sl 1 bl3), (.int .i64 bi4)] fun o5 => (uI .i64 o5 fun n7 r6 => (uI .i64 r6 fun n9 r8 => (unNil r8 (G 68 [(.int .i64 3), (.sl 1 bl3), (.int .i64 n9)] fun o10 => (uI .i64 o10 fun n12 r11 => (uI .i64 r11 fun n14 r13 => (unNil r13 (G 88 [(.str ⟨#[118]⟩), (.int .i64 n12)] fun o15 => (uL 1 o15 fun l17 r16 => (unNil r16 (G 88 [(.str ⟨#[112]⟩), (.int .i64 ai2)] fun o18 => (uL 1 o18 fun l20 r19 => (unNil r19 (G 68 [(.int .i64 3), (.sl 1 bl3), (.int .i64 n14)] fun o21 => (uI .i64 o21 fun n23 r22 => (uI .i64 r22 fun n25 r24 => (unNil r24 (G 88 [(.str ⟨#[116]⟩), (.int .i64 n23)] fun o26 => (uL 1 o26 fun l28 r27 => (unNil r27 (G 68 [(.int .i64 5), (.sl 1 bl3), (.int .i64 n25)] fun o29 => (uI .i64 o29 fun n31 r30 => (uI .i64 r30 fun n33 r32 => (unNil r32 (G 68 [(.int .i64 4), (.sl 1 bl3), (.int .i64 n33)] fun o34 => (uI .i64 o34 fun n36 r35 => (uI .i64 r35 fun n38 r37 => (unNil r37 (bif ((decide (0 ≤ n36)) && (decide (n36 < 4))) then (nthK [(.int .i64 40), (.int .i64 12), (.int .i64 4), (.int .i64 200)] (Int.toNat n36) fun e39 => (aI .i64 e39 fun n40 => (G 89 [(.sl 1 l17), (.sl 1 bl3), (.int .i64 n38)] fun o41 => (uL 3 o41 fun l43 r42 => (uI .i64 r42 fun n45 r44 => (unNil r44 (G 90 [(.sl 1 l20)] fun o46 => (uL 3 o46 fun l48 r47 => (unNil r47 (G 90 [(.sl 1 l28)] fun o49 => (uL 3 o49 fun l51 r50 => (unNil r50 (G 68 [(.int .i64 2), (.sl 1 bl3), (.int .i64 n45)] fun o52 => (uI .i64 o52 fun n54 r53 => (uI .i64 r53 fun n56 r55 => (unNil r55 (l59_0 G k (IntKind.i64.wrap (1 + n54)) bl3 n56 ⟨#[]⟩ 0 0 [] [] [] [] 0 as1 (IntKind.i64.wrap (2 + n31)) n40 l43 l48 l51 [] 0 l17 l20 l28 [] (IntKind.i64.wrap (2 + n7)) [] (fun yl128 yi129 ys130 yi131 yi132 yl133 yl134 yl135 yl136 yi137 ys138 yi139 yi140 yl141 yl142 yl143 yl144 yi145 yl146 yl147 yl148 yl149 yi150 yl151 => (l59_2 G k 0 yl128 yi129 ys130 yi131 yi132 yl133 yl134 yl135 yl136 yi137 ys138 yi139 yi140 yl141 yl142 yl143 yl144 yi145 yl146 yl147 yl148 yl149 yi150 yl151 (fun yl181 yi182 ys183 yi184 yi185 yl186 yl187 yl188 yl189 yi190 ys191 yi192 yi193 yl194 yl195 yl196 yl197 yi198 yl199 yl200 yl201 yl202 yi203 yl204 => (l59_4 G k 0 yl181 yi182 ys183 yi184 yi185 yl186 yl187 yl188 yl189 yi190 ys191 yi192 yi193 yl194 yl195 yl196 yl197 yi198 yl199 yl200 yl201 yl202 yi203 yl204 (fun yl254 yi255 ys256 yi257 yi258 yl259 yl260 yl261 yl262 yi263 ys264 yi265 yi266 yl267 yl268 yl269 yl270 yi271 => (K [(.agg [(.str ys264), (.int .i64 yi265), (.int .i64 yi266), (.sl 3 yl267), (.sl 3 yl268), (.sl 3 yl269), (.sl 7 yl270), (.int .i64 yi271)]), (.int .i64 yi255)]))))))))))))))))))))))) else none))))))))))))))))))))))))))))))
noncomputable def D59_0 : LoopD := { id := 0, body := loopAt 0 (bodyOf Try.f59), head := P59_0h, out := P59_0x, ret := default }
theorem l59_0_is {R : Type} (G : ORC R) (k : Nat) (X : List V → Option R) (K : Ex → St → Option R) (xi57 : Int) (xl58 : List V) (xi59 : Int) (xs60 : ByteArray) (xi61 xi62 : Int) (xl63 xl64 : List V) (xl65 xl66 : List V) (xi67 : Int) (xs68 : ByteArray) (xi69 xi70 : Int) (xl71 xl72 : List V) (xl73 xl74 : List V) (xi75 : Int) (xl76 xl77 : List V) (xl78 xl79 : List V) (xi80 : Int) (xl81 : List V) :
    roundOf (TAB.env 59) G (L59 G k) D59_0 X K [(.int .i64 xi57), (.sl 1 xl58), (.int .i64 xi59), (.str xs60), (.int .i64 xi61), (.int .i64 xi62), (.sl 3 xl63), (.sl 3 xl64), (.sl 3 xl65), (.sl 7 xl66), (.int .i64 xi67), (.str xs68), (.int .i64 xi69), (.int .i64 xi70), (.sl 3 xl71), (.sl 3 xl72), (.sl 3 xl73), (.sl 7 xl74), (.int .i64 xi75), (.sl 1 xl76), (.sl 1 xl77), (.sl 1 xl78), (.sl 1 xl79), (.int .i64 xi80), (.sl 1 xl81)] = b59_0 G k (fun xi57 xl58 xi59 xs60 xi61 xi62 xl63 xl64 xl65 xl66 xi67 xs68 xi69 xi70 xl71 xl72 xl73 xl74 xi75 xl76 xl77 xl78 xl79 xi80 xl81 => X [(.int .i64 xi57), (.sl 1 xl58), (.int .i64 xi59), (.str xs60), (.int .i64 xi61), (.int .i64 xi62), (.sl 3 xl63), (.sl 3 xl64), (.sl 3 xl65), (.sl 7 xl66), (.int .i64 xi67), (.str xs68), (.int .i64 xi69), (.int .i64 xi70), (.sl 3 xl71), (.sl 3 xl72), (.sl 3 xl73), (.sl 7 xl74), (.int .i64 xi75), (.sl 1 xl76), (.sl 1 xl77), (.sl 1 xl78), (.sl 1 xl79), (.int .i64 xi80), (.sl 1 xl81)]) (fun yl272 yi273 ys274 yi275 yi276 yl277 yl278 yl279 yl280 yi281 ys282 yi283 yi284 yl285 yl286 yl287 yl288 yi289 yl290 yl291 yl292 yl293 yi294 yl295 => K .normal (P59_0x.inst [(.sl 1 yl272), (.int .i64 yi273), (.str ys274), (.int .i64 yi275), (.int .i64 yi276), (.sl 3 yl277), (.sl 3 yl278), (.sl 3 yl279), (.sl 7 yl280), (.int .i64 yi281), (.str ys282), (.int .i64 yi283), (.int .i64 yi284), (.sl 3 yl285), (.sl 3 yl286), (.sl 3 yl287), (.sl 7 yl288), (.int .i64 yi289), (.sl 1 yl290), (.sl 1 yl291), (.sl 1 yl292), (.sl 1 yl293), (.int .i64 yi294), (.sl 1 yl295)])) xi57 xl58 xi59 xs60 xi61 xi62 xl63 xl64 xl65 xl66 xi67 xs68 xi69 xi70 xl71 xl72 xl73 xl74 xi75 xl76 xl77 xl78 xl79 xi80 xl81 := by kernel_rfl
noncomputable def D59_2 : LoopD := { id := 2, body := loopAt 2 (bodyOf Try.f59), head := P59_2h, out := P59_2x, ret := default }
theorem l59_2_is {R : Type} (G : ORC R) (k : Nat) (X : List V → Option R) (K : Ex → St → Option R) (xi152 : Int) (xl153 : List V) (xi154 : Int) (xs155 : ByteArray) (xi156 xi157 : Int) (xl158 xl159 : List V) (xl160 xl161 : List V) (xi162 : Int) (xs163 : ByteArray) (xi164 xi165 : Int) (xl166 xl167 : List V) (xl168 xl169 : List V) (xi170 : Int) (xl171 xl172 : List V) (xl173 xl174 : List V) (xi175 : Int) (xl176 : List V) :
    roundOf (TAB.env 59) G (L59 G k) D59_2 X K [(.int .i64 xi152), (.sl 1 xl153), (.int .i64 xi154), (.str xs155), (.int .i64 xi156), (.int .i64 xi157), (.sl 3 xl158), (.sl 3 xl159), (.sl 3 xl160), (.sl 7 xl161), (.int .i64 xi162), (.str xs163), (.int .i64 xi164), (.int .i64 xi165), (.sl 3 xl166), (.sl 3 xl167), (.sl 3 xl168), (.sl 7 xl169), (.int .i64 xi170), (.sl 1 xl171), (.sl 1 xl172), (.sl 1 xl173), (.sl 1 xl174), (.int .i64 xi175), (.sl 1 xl176)] = b59_2 G k (fun xi152 xl153 xi154 xs155 xi156 xi157 xl158 xl159 xl160 xl161 xi162 xs163 xi164 xi165 xl166 xl167 xl168 xl169 xi170 xl171 xl172 xl173 xl174 xi175 xl176 => X [(.int .i64 xi152), (.sl 1 xl153), (.int .i64 xi154), (.str xs155), (.int .i64 xi156), (.int .i64 xi157), (.sl 3 xl158), (.sl 3 xl159), (.sl 3 xl160), (.sl 7 xl161), (.int .i64 xi162), (.str xs163), (.int .i64 xi164), (.int .i64 xi165), (.sl 3 xl166), (.sl 3 xl167), (.sl 3 xl168), (.sl 7 xl169), (.int .i64 xi170), (.sl 1 xl171), (.sl 1 xl172), (.sl 1 xl173), (.sl 1 xl174), (.int .i64 xi175), (.sl 1 xl176)]) (fun yl296 yi297 ys298 yi299 yi300 yl301 yl302 yl303 yl304 yi305 ys306 yi307 yi308 yl309 yl310 yl311 yl312 yi313 yl314 yl315 yl316 yl317 yi318 yl319 => K .normal (P59_2x.inst [(.sl 1 yl296), (.int .i64 yi297), (.str ys298), (.int .i64 yi299), (.int .i64 yi300), (.sl 3 yl301), (.sl 3 yl302), (.sl 3 yl303), (.sl 7 yl304), (.int .i64 yi305), (.str ys306), (.int .i64 yi307), (.int .i64 yi308), (.sl 3 yl309), (.sl 3 yl310), (.sl 3 yl311), (.sl 7 yl312), (.int .i64 yi313), (.sl 1 yl314), (.sl 1 yl315), (.sl 1 yl316), (.sl 1 yl317), (.int .i64 yi318), (.sl 1 yl319)])) xi152 xl153 xi154 xs155 xi156 xi157 xl158 xl159 xl160 xl161 xi162 xs163 xi164 xi165 xl166 xl167 xl168 xl169 xi170 xl171 xl172 xl173 xl174 xi175 xl176 := by kernel_rfl
noncomputable def D59_4 : LoopD := { id := 4, body := loopAt 4 (bodyOf Try.f59), head := P59_4h, out := P59_4x, ret := default }
theorem l59_4_is {R : Type} (G : ORC R) (k : Nat) (X : List V → Option R) (K : Ex → St → Option R) (xi205 : Int) (xl206 : List V) (xi207 : Int) (xs208 : ByteArray) (xi209 xi210 : Int) (xl211 xl212 : List V) (xl213 xl214 : List V) (xi215 : Int) (xs216 : ByteArray) (xi217 xi218 : Int) (xl219 xl220 : List V) (xl221 xl222 : List V) (xi223 : Int) (xl224 xl225 : List V) (xl226 xl227 : List V) (xi228 : Int) (xl229 : List V) :
    roundOf (TAB.env 59) G (L59 G k) D59_4 X K [(.int .i64 xi205), (.sl 1 xl206), (.int .i64 xi207), (.str xs208), (.int .i64 xi209), (.int .i64 xi210), (.sl 3 xl211), (.sl 3 xl212), (.sl 3 xl213), (.sl 7 xl214), (.int .i64 xi215), (.str xs216), (.int .i64 xi217), (.int .i64 xi218), (.sl 3 xl219), (.sl 3 xl220), (.sl 3 xl221), (.sl 7 xl222), (.int .i64 xi223), (.sl 1 xl224), (.sl 1 xl225), (.sl 1 xl226), (.sl 1 xl227), (.int .i64 xi228), (.sl 1 xl229)] = b59_4 G k (fun xi205 xl206 xi207 xs208 xi209 xi210 xl211 xl212 xl213 xl214 xi215 xs216 xi217 xi218 xl219 xl220 xl221 xl222 xi223 xl224 xl225 xl226 xl227 xi228 xl229 => X [(.int .i64 xi205), (.sl 1 xl206), (.int .i64 xi207), (.str xs208), (.int .i64 xi209), (.int .i64 xi210), (.sl 3 xl211), (.sl 3 xl212), (.sl 3 xl213), (.sl 7 xl214), (.int .i64 xi215), (.str xs216), (.int .i64 xi217), (.int .i64 xi218), (.sl 3 xl219), (.sl 3 xl220), (.sl 3 xl221), (.sl 7 xl222), (.int .i64 xi223), (.sl 1 xl224), (.sl 1 xl225), (.sl 1 xl226), (.sl 1 xl227), (.int .i64 xi228), (.sl 1 xl229)]) (fun yl320 yi321 ys322 yi323 yi324 yl325 yl326 yl327 yl328 yi329 ys330 yi331 yi332 yl333 yl334 yl335 yl336 yi337 => K .normal (P59_4x.inst [(.sl 1 yl320), (.int .i64 yi321), (.str ys322), (.int .i64 yi323), (.int .i64 yi324), (.sl 3 yl325), (.sl 3 yl326), (.sl 3 yl327), (.sl 7 yl328), (.int .i64 yi329), (.str ys330), (.int .i64 yi331), (.int .i64 yi332), (.sl 3 yl333), (.sl 3 yl334), (.sl 3 yl335), (.sl 7 yl336), (.int .i64 yi337)])) xi205 xl206 xi207 xs208 xi209 xi210 xl211 xl212 xl213 xl214 xi215 xs216 xi217 xi218 xl219 xl220 xl221 xl222 xi223 xl224 xl225 xl226 xl227 xi228 xl229 := by kernel_rfl
theorem f59_is {R : Type} (G : ORC R) (k : Nat) (K : List V → Option R) (as1 : ByteArray) (ai2 : Int) (bl3 : List V) (bi4 : Int) :
    callF (TAB.env 59) G (L59 G k) Try.f59 S59 [(.str as1), (.int .i64 ai2), (.sl 1 bl3), (.int .i64 bi4)] K = f59 G k as1 ai2 bl3 bi4 K := by kernel_rfl
theorem li59_0 {R : Type} (G : ORC R) (k : Nat) : LoopIs (TAB.env 59) G (L59 G k) 0 (loopAt 0 (bodyOf Try.f59)) :=
  ⟨D59_0, fun j vs K => rd59_0 G k K j vs, k, rfl, rfl, by kernel_rfl, by kernel_rfl, by kernel_rfl, (fun vs K => by unfold rd59_0; dsimp only; split <;> rfl),
    (fun j vs K r h => by
      unfold rd59_0 at h
      dsimp only at h
      split at h
      · rw [l59_0_is]; exact h
      · cases h), (fun S K r h => h)⟩
theorem li59_2 {R : Type} (G : ORC R) (k : Nat) : LoopIs (TAB.env 59) G (L59 G k) 2 (loopAt 2 (bodyOf Try.f59)) :=
  ⟨D59_2, fun j vs K => rd59_2 G k K j vs, k, rfl, rfl, by kernel_rfl, by kernel_rfl, by kernel_rfl, (fun vs K => by unfold rd59_2; dsimp only; split <;> rfl),
    (fun j vs K r h => by
      unfold rd59_2 at h
      dsimp only at h
      split at h
      · rw [l59_2_is]; exact h
      · cases h), (fun S K r h => h)⟩
theorem li59_4 {R : Type} (G : ORC R) (k : Nat) : LoopIs (TAB.env 59) G (L59 G k) 4 (loopAt 4 (bodyOf Try.f59)) :=
  ⟨D59_4, fun j vs K => rd59_4 G k K j vs, k, rfl, rfl, by kernel_rfl, by kernel_rfl, by kernel_rfl, (fun vs K => by unfold rd59_4; dsimp only; split <;> rfl),
    (fun j vs K r h => by
      unfold rd59_4 at h
      dsimp only at h
      split at h
      · rw [l59_4_is]; exact h
      · cases h), (fun S K r h => h)⟩
theorem lo59 : loopsOf (bodyOf Try.f59) = [(0, loopAt 0 (bodyOf Try.f59)), (2, loopAt 2 (bodyOf Try.f59)), (4, loopAt 4 (bodyOf Try.f59))] := by kernel_rfl
theorem la59 {R : Type} (G : ORC R) (k : Nat) : LoopsAre (TAB.env 59) G (L59 G k) (bodyOf Try.f59) :=
  loopsAre_of (by rw [lo59]; intro p hp; simp only [List.mem_cons, List.not_mem_nil, or_false] at hp; rcases hp with rfl | rfl | rfl <;> first | exact li59_0 G k | exact li59_2 G k | exact li59_4 G k)
def g59 {R : Type} (G : ORC R) (k : Nat) (args : List V) (K : List V → Option R) : Option R := match args with
  | [(.str as1), (.int .i64 ai2), (.sl 1 bl3), (.int .i64 bi4)] => f59 G k as1 ai2 bl3 bi4 K
  | _ => none
theorem s59 {R : Type} {G : ORC R} {k : Nat} (hG : Sound Try.prog TAB G) (args : List V) (K : List V → Option R) (r : R) (h : g59 G k args K = some r) : ∃ o, CallOK Try.prog TAB.env 59 args o ∧ K o = some r := by
  unfold g59 at h
  split at h
  · rw [← f59_is] at h
    exact callF_sound (f := 59) TAB_chk MO hG Try.func59 (sg := S59) (by kernel_rfl) (by kernel_rfl) (la59 G k) h
  · cases h
end Go.Proofs.Ytblabbcmokldiaa.Vm
open Go Go.VM
set_option linter.unusedVariables false
set_option maxRecDepth 100000
set_option maxHeartbeats 8000000
namespace Go.Proofs.Ytblabbcmokldiaa.Vm
section
variable {R : Type} {G : ORC R} {k : Nat}
def ChartOK (G : ORC R) : Prop := ∀ (nm : ByteArray) (np : Int) (L : List V) (i : Int) (K : List V → Option R), StrS nm → 0 ≤ np → np ≤ 100 → RowS L i →
  W (fun o => ∃ c j, o = [c, .int .i64 j] ∧ ChartS c ∧ RowS L j) K (G 59 [.str nm, .int .i64 np, .sl 1 L, .int .i64 i] K)
variable {Q : List V → Prop} {K : List V → Option R} {L a p c q1 q2 q3 q4 vars ports timers : List V} {s1 nm : ByteArray} {z1 z2 z3 z4 st fu : Int}
theorem chart_loop0 (hS : StOK 2 G) {Ko : List V → Int → ByteArray → Int → Int → List V → List V → List V → List V → Int → ByteArray → Int → Int → List V → List V → List V → List V → Int → List V → List V → List V → List V → Int → List V → Option R}
    {s : List V} {T : Int} (hT : T ≤ 20)
    (hKo : ∀ states j left all, (nmVL 3 states = all ∧ NmI all) → states.length ≤ 2 → states ≠ [] → (∀ v ∈ states, StateS 0 3 v ∧ kindV v ≤ 2) → 0 ≤ left → left + (List.length all : Int) = T → NmsS all → RowS L j → W Q K (Ko L j s1 z1 z2 q1 q2 q3 q4 z3 nm st fu vars ports timers states z4 a p c s left all)) :
    ∀ (j : Nat) (n i left : Int) (states all : List V), (nmVL 3 states = all ∧ NmI all) → n < j → 0 ≤ n → (states.length : Int) + n ≤ 2 → (states = [] → 1 ≤ left ∧ 0 < n) → 0 ≤ left → left + (List.length all : Int) = T → NmsS all → RowS L i → (∀ v ∈ states, StateS 0 3 v ∧ kindV v ≤ 2) →
      W Q K (l59_0g G k Ko j n L i s1 z1 z2 q1 q2 q3 q4 z3 nm st fu vars ports timers states z4 a p c s left all)
  | 0, n, i, left, states, all, a0, a1, a2, a3, a4, a5, a6, a7, a8, a9 => by omega
  | j + 1, n, i, left, states, all, a0, a1, a2, a3, a4, a5, a6, a7, a8, a9 => by
    show W Q K (b59_0 G k (l59_0g G k Ko j) Ko n L i s1 z1 z2 q1 q2 q3 q4 z3 nm st fu vars ports timers states z4 a p c s left all)
    unfold b59_0
    by_cases hn : n > 0
    · refine W_yes hn ?_
      by_cases hl : left > 0
      · refine W_yes hl ?_
        refine W_call (hS false a p c s all L _ left i _ (by rfl) (by omega) (by omega) a7 a0.2 a8) ?_
        rintro _ ⟨x, left', all', j', rfl, b1, b2, b3, b4, b5, b6, b7, b8, b8'⟩
        have b1' := b1
        have b9 : nmVL 3 (states ++ [x]) = all' ∧ NmI all' := ⟨by rw [nmVL_app, a0.1, b8]; simp [nmVL], b8'⟩
        obtain ⟨_, _, _, _, _, _, rfl, _⟩ := b1
        repeat (with_reducible (first | (refine W_uI ?_) | (refine W_uS ?_) | (refine W_uL ?_) | (refine W_uA ?_) | (refine W_uB ?_) | (refine W_aI ?_) | (refine W_aL ?_) | (refine W_ca3 ?_) | (refine W_ce3 ?_) | (refine W_ca4 ?_) | (refine W_ce4 ?_) | (refine W_ca5 ?_) | (refine W_ce5 ?_) | (refine W_ca6 ?_) | (refine W_ce6 ?_) | (refine W_ca7 ?_) | (refine W_ce7 ?_) | (refine W_ca8 ?_) | (refine W_ce8 ?_) | (refine W_unCons ?_) | (refine W_unNil ?_) | (refine W_asInt ?_) | (refine W_asStr ?_) | (refine W_asSl ?_) | (refine W_asAgg ?_) | (refine W_kd ?_) | (refine W_z ?_)))
        refine W_yes (by omega) ?_
        have e1 : IntKind.i64.wrap (n - 1) = n - 1 := wrap_id (by omega)
        rw [e1]
        exact chart_loop0 hS hT hKo j _ _ _ _ _ b9 (by omega) (by omega) (by simp; omega) (by simp) b3 (by omega) b6 b7 (mem_snoc a9 ⟨b1', b2⟩)
      · refine W_no hl ?_
        have hacc : states ≠ [] := fun h => by have := (a4 h).1; omega
        have hlen : ((states.length : Nat) : Int) ≠ 0 := fun h => hacc (List.eq_nil_of_length_eq_zero (by omega))
        refine W_eqN hlen ?_
        exact hKo states i left all a0 (by omega) hacc a9 a5 a6 a7 a8
    · exact W_no hn (hKo states i left all a0 (by omega) (fun h => by have := (a4 h).2; omega) a9 a5 a6 a7 a8)
theorem chart_loop2 {Ko : List V → Int → ByteArray → Int → Int → List V → List V → List V → List V → Int → ByteArray → Int → Int → List V → List V → List V → List V → Int → List V → List V → List V → List V → Int → List V → Option R}
    {states all : List V} {at_ left : Int} (hall : NmsS all) (hlen : all.length ≤ 20)
    (hKo : ∀ s, StrsS 20 s → W Q K (Ko L at_ s1 z1 z2 q1 q2 q3 q4 z3 nm st fu vars ports timers states z4 a p c s left all)) :
    ∀ (j : Nat) (i : Int) (s : List V), (all.length : Int) - i < j → 0 ≤ i → i ≤ all.length → StrsS i.toNat s →
      W Q K (l59_2g G k Ko j i L at_ s1 z1 z2 q1 q2 q3 q4 z3 nm st fu vars ports timers states z4 a p c s left all)
  | 0, i, s, a1, a2, a3, a4 => by omega
  | j + 1, i, s, a1, a2, a3, a4 => by
    show W Q K (b59_2 G k (l59_2g G k Ko j) Ko i L at_ s1 z1 z2 q1 q2 q3 q4 z3 nm st fu vars ports timers states z4 a p c s left all)
    unfold b59_2
    have hs := a4.1
    refine W_dec (fun h => ?_) (fun h => hKo s ⟨by omega, a4.2⟩)
    have e1 : IntKind.i64.wrap (i + 1) = i + 1 := wrap_id (by omega)
    rw [e1]
    refine W_and (W_yes a2 (W_yes h ?_))
    refine W_nth (by omega) (fun v hv hm => ?_)
    obtain ⟨t, rfl, t1, t2⟩ := hall v hm
    refine W_asStr (W_yes (by omega) ?_)
    refine W_beqI (fun _ => ?_) (fun _ => ?_)
    · refine W_and (W_yes a2 (W_yes h ?_))
      refine W_nth (by omega) (fun w hw _ => ?_)
      rw [hv] at hw; cases hw
      refine W_asStr (W_yes (by omega) ?_)
      exact chart_loop2 hall hlen hKo j (i + 1) _ (by omega) (by omega) (by omega) (by rw [show (i + 1).toNat = i.toNat + 1 by omega]; exact strs_snoc a4 t1)
    · exact chart_loop2 hall hlen hKo j (i + 1) _ (by omega) (by omega) (by omega) ⟨by omega, a4.2⟩
theorem chart_loop4 (hF : FillOK 3 G) {Ko : List V → Int → ByteArray → Int → Int → List V → List V → List V → List V → Int → ByteArray → Int → Int → List V → List V → List V → List V → Int → Option R}
    {s all : List V} {left : Int} (ha : StrsS 100 a) (hp : StrsS 100 p) (hc : StrsS 100 c) (hs : StrsS 100 s) (hall : NmsS all) (hlen : all.length ≤ 20) {m : Nat} {M : List V}
    (hKo : ∀ states j, states.length = m → nmVL 3 states = M → (∀ v ∈ states, StateS 2 3 v ∧ kindV v ≤ 2) → RowS L j → W Q K (Ko L j s1 z1 z2 q1 q2 q3 q4 z3 nm st fu vars ports timers states z4)) :
    ∀ (B A : List V) (j : Nat) (i : Int), B.length < j → A.length + B.length ≤ 4 → (∀ v ∈ A, StateS 2 3 v ∧ kindV v ≤ 2) → (∀ v ∈ B, StateS 0 3 v ∧ kindV v ≤ 2) → A.length + B.length = m → nmVL 3 (A ++ B) = M → RowS L i →
      W Q K (l59_4g G k Ko j (A.length : Int) L i s1 z1 z2 q1 q2 q3 q4 z3 nm st fu vars ports timers (A ++ B) z4 a p c s left all)
  | B, A, 0, i, a1, a2, a3, a4, a5, aM, a6 => by omega
  | [], A, j + 1, i, a1, a2, a3, a4, a5, aM, a6 => by
    show W Q K (b59_4 G k (l59_4g G k Ko j) Ko (A.length : Int) L i s1 z1 z2 q1 q2 q3 q4 z3 nm st fu vars ports timers (A ++ []) z4 a p c s left all)
    unfold b59_4
    refine W_no (by simp) ?_
    rw [List.append_nil] at aM ⊢
    exact hKo A i (by simpa using a5) aM a3 a6
  | b :: B, A, j + 1, i, a1, a2, a3, a4, a5, aM, a6 => by
    show W Q K (b59_4 G k (l59_4g G k Ko j) Ko (A.length : Int) L i s1 z1 z2 q1 q2 q3 q4 z3 nm st fu vars ports timers (A ++ b :: B) z4 a p c s left all)
    unfold b59_4
    simp only [List.length_cons] at a1 a2 a5
    have hlt : (A.length : Int) < (((A ++ b :: B).length : Nat) : Int) := by simp; omega
    refine W_yes hlt (W_and (W_yes (by omega) (W_yes hlt ?_)))
    refine W_nth (by omega) (fun v hv _ => ?_)
    have hvb : v = b := by simp at hv; exact hv.symm
    subst hvb
    have hb := a4 v List.mem_cons_self
    have hbk := hb
    obtain ⟨⟨_, _, _, _, _, _, rfl, _⟩, _⟩ := hb
    refine W_asAgg ?_
    refine W_call (hF _ a p c s all L left i _ hbk.1 ha hp hc hs hall hlen a6) ?_
    rintro _ ⟨y, j', rfl, b1, b2, b3, b4⟩
    have b1' := b1
    have b5 : nmVL 3 ((A ++ [y]) ++ B) = M := by rw [← aM]; simp only [nmVL, List.flatMap_append, List.flatMap_cons, List.flatMap_nil, List.append_nil, List.append_assoc]; rw [b4]
    obtain ⟨_, _, _, _, _, _, rfl, _⟩ := b1
    repeat (with_reducible (first | (refine W_uI ?_) | (refine W_uS ?_) | (refine W_uL ?_) | (refine W_uA ?_) | (refine W_uB ?_) | (refine W_aI ?_) | (refine W_aL ?_) | (refine W_ca3 ?_) | (refine W_ce3 ?_) | (refine W_ca4 ?_) | (refine W_ce4 ?_) | (refine W_ca5 ?_) | (refine W_ce5 ?_) | (refine W_ca6 ?_) | (refine W_ce6 ?_) | (refine W_ca7 ?_) | (refine W_ce7 ?_) | (refine W_ca8 ?_) | (refine W_ce8 ?_) | (refine W_unCons ?_) | (refine W_unNil ?_) | (refine W_asInt ?_) | (refine W_asStr ?_) | (refine W_asSl ?_) | (refine W_asAgg ?_) | (refine W_kd ?_) | (refine W_z ?_)))
    rw [Int.toNat_natCast, set2]
    refine W_and (W_yes (by omega) (W_yes (by rw [List.length_set]; exact hlt) ?_))
    refine W_nth (by rw [List.length_set]; omega) (fun v _ _ => ?_)
    rw [wrap_id (n := (A.length : Int) + 1) (by omega)]
    have e := chart_loop4 hF (left := left) ha hp hc hs hall hlen hKo B (A ++ [_]) j j' (by omega) (by simp; omega) (mem_snoc a3 ⟨b1', by rw [b2]; exact hbk.2⟩) (fun t ht => a4 t (List.mem_cons_of_mem _ ht)) (by simp; omega) b5 b3
    simp only [List.append_assoc, List.singleton_append, List.length_append, List.length_cons, List.length_nil, Nat.zero_add, Int.natCast_add, Int.natCast_one] at e
    exact e
theorem sz1 (c : UInt8) : (⟨#[c]⟩ : ByteArray).size ≤ 10 := by show (1 : Nat) ≤ 10; omega
theorem chart_ok (hk : 1000 ≤ k) (hN : NextS G) (hNm : NamesS G) (hNd : NumdS G) (hPl : PlainS G) (hS : StOK 2 G) (hF : FillOK 3 G) : ChartOK (fun _ args (K : List V → Option R) => g59 G k args K) := by
  intro nm np L i K hnm h1 h2 hr
  show W _ K (f59 G k nm np L i K)
  unfold f59
  unfold NextS at hN; unfold NamesS at hNm; unfold NumdS at hNd; unfold PlainS at hPl
  refine W_call (hN _ _ _ _ (by omega) (by omega) hr) ?_
  rintro _ ⟨x1, i1, rfl, x11, x12, r1⟩
  refine W_uI (W_uI (W_unNil ?_))
  refine W_call (hN _ _ _ _ (by omega) (by omega) r1) ?_
  rintro _ ⟨x2, i2, rfl, x21, x22, r2⟩
  refine W_uI (W_uI (W_unNil ?_))
  refine W_call (hNm _ _ _ (sz1 _) x21 (by omega)) ?_
  rintro _ ⟨l1, rfl, hl1⟩
  refine W_uL (W_unNil ?_)
  refine W_call (hNm _ _ _ (sz1 _) h1 h2) ?_
  rintro _ ⟨l2, rfl, hl2⟩
  refine W_uL (W_unNil ?_)
  refine W_call (hN _ _ _ _ (by omega) (by omega) r2) ?_
  rintro _ ⟨x3, i3, rfl, x31, x32, r3⟩
  refine W_uI (W_uI (W_unNil ?_))
  refine W_call (hNm _ _ _ (sz1 _) x31 (by omega)) ?_
  rintro _ ⟨l3, rfl, hl3⟩
  refine W_uL (W_unNil ?_)
  refine W_call (hN _ _ _ _ (by omega) (by omega) r3) ?_
  rintro _ ⟨x4, i4, rfl, x41, x42, r4⟩
  refine W_uI (W_uI (W_unNil ?_))
  refine W_call (hN _ _ _ _ (by omega) (by omega) r4) ?_
  rintro _ ⟨x5, i5, rfl, x51, x52, r5⟩
  refine W_uI (W_uI (W_unNil ?_))
  refine W_and (W_yes (by omega) (W_yes (by omega) ?_))
  refine W_nth (by simp; omega) (fun v _ hv => ?_)
  have hv2 : ∃ fu, v = .int .i64 fu ∧ 4 ≤ fu ∧ fu ≤ 200 := by
    simp only [List.mem_cons, List.not_mem_nil, or_false] at hv
    rcases hv with rfl | rfl | rfl | rfl <;> exact ⟨_, rfl, by omega, by omega⟩
  obtain ⟨fu, rfl, fu1, fu2⟩ := hv2
  refine W_aI ?_
  refine W_call (hNd _ _ _ _ hl1 r5) ?_
  rintro _ ⟨v1, i6, rfl, hv1, r6⟩
  refine W_uL (W_uI (W_unNil ?_))
  refine W_call (hPl _ _ hl2) ?_
  rintro _ ⟨v2, rfl, hv2⟩
  refine W_uL (W_unNil ?_)
  refine W_call (hPl _ _ hl3) ?_
  rintro _ ⟨v3, rfl, hv3⟩
  refine W_uL (W_unNil ?_)
  refine W_call (hN _ _ _ _ (by omega) (by omega) r6) ?_
  rintro _ ⟨x7, i7, rfl, x71, x72, r7⟩
  refine W_uI (W_uI (W_unNil ?_))
  have e1 : IntKind.i64.wrap (1 + x7) = 1 + x7 := wrap_id (by omega)
  have e2 : IntKind.i64.wrap (2 + x1) = 2 + x1 := wrap_id (by omega)
  have e3 : IntKind.i64.wrap (2 + x4) = 2 + x4 := wrap_id (by omega)
  rw [e1, e2, e3]
  unfold l59_0
  refine chart_loop0 (T := 2 + x1) hS (by omega) ?_ k _ _ _ _ _ ⟨rfl, fun i v h => by simp at h⟩ (by omega) (by omega) (by simp; omega) (fun _ => ⟨by omega, by omega⟩) (by omega) (by simp) (by intro v hv; simp at hv) r7 (by simp)
  intro states j left all c0 c1 c2 c3 c4 c5 c6 c7
  unfold l59_2
  refine chart_loop2 c6 (by omega) ?_ k 0 [] (by omega) (by omega) (by omega) ⟨by simp, by simp⟩
  intro s hs
  unfold l59_4
  refine chart_loop4 (A := []) (m := states.length) (M := nmVL 3 states) hF hl1 hl2 hl3 ⟨by have := hs.1; omega, hs.2⟩ c6 (by omega) ?_ states k j (by omega) (by simp; omega) (by simp) c3 (by simp) rfl c7
  intro states' j' d1 dM d2 d3
  exact W_ret ⟨_, _, rfl, ⟨nm, _, fu, v1, v2, v3, states', rfl, hnm, by omega, by omega, fu1, fu2, hv1, hv2, hv3, by omega, fun h => c2 (List.eq_nil_of_length_eq_zero (by rw [← d1, h]; rfl)), d2, by have := nmVL_len (d := 3) (l := states'); rw [dM, c0.1] at this; omega, by rw [dM, c0.1]; exact c0.2⟩, d3⟩
end
end Go.Proofs.Ytblabbcmokldiaa.Vm
open Go Go.VM
set_option linter.unusedVariables false
set_option maxRecDepth 100000
set_option maxHeartbeats 4000000
namespace Go.Proofs.Ytblabbcmokldiaa.Vm
/-! ### cotillion/cotillionref13.kind: function 87 -/
def L87 {R : Type} (_ : ORC R) (_ : Nat) : Nat → St → (Ex → St → Option R) → Option R := fun _ _ _ => none
def f87 {R : Type} (G : ORC R) (k : Nat) (ai1 : Int) (as2 : ByteArray) (al3 al4 : List V) (al5 al6 : List V) (ai7 : Int) (K : List V → Option R) : Option R :=
  (bif (ai1 == 3) then (K [(.int .i64 4)]) else (bif (ai1 == 4) then (K [(.int .i64 5)]) else (bif (ai1 == 2) then (K [(.int .i64 3)]) else (bif (((List.length al6 : Nat) : Int) == 0) then (K [(.int .i64 1)]) else (K [(.int .i64 2)])))))
theorem f87_is {R : Type} (G : ORC R) (k : Nat) (K : List V → Option R) (ai1 : Int) (as2 : ByteArray) (al3 al4 : List V) (al5 al6 : List V) (ai7 : Int) :
    callF (TAB.env 87) G (L87 G k) Try.f87 S87 [(.agg [(.int .i64 ai1), (.str as2), (.sl 8 al3), (.sl 8 al4), (.sl 5 al5), (.sl 7 al6), (.int .i64 ai7)])] K = f87 G k ai1 as2 al3 al4 al5 al6 ai7 K := by kernel_rfl
theorem lo87 : loopsOf (bodyOf Try.f87) = [] := by kernel_rfl
theorem la87 {R : Type} (G : ORC R) (k : Nat) : LoopsAre (TAB.env 87) G (L87 G k) (bodyOf Try.f87) :=
  loopsAre_of (by rw [lo87]; intro p hp; cases hp)
def g87 {R : Type} (G : ORC R) (k : Nat) (args : List V) (K : List V → Option R) : Option R := match args with
  | [(.agg [(.int .i64 ai1), (.str as2), (.sl 8 al3), (.sl 8 al4), (.sl 5 al5), (.sl 7 al6), (.int .i64 ai7)])] => f87 G k ai1 as2 al3 al4 al5 al6 ai7 K
  | _ => none
theorem s87 {R : Type} {G : ORC R} {k : Nat} (hG : Sound Try.prog TAB G) (args : List V) (K : List V → Option R) (r : R) (h : g87 G k args K = some r) : ∃ o, CallOK Try.prog TAB.env 87 args o ∧ K o = some r := by
  unfold g87 at h
  split at h
  · rw [← f87_is] at h
    exact callF_sound (f := 87) TAB_chk MO hG Try.func87 (sg := S87) (by kernel_rfl) (by kernel_rfl) (la87 G k) h
  · cases h
end Go.Proofs.Ytblabbcmokldiaa.Vm
open Go Go.VM
set_option linter.unusedVariables false
set_option maxRecDepth 100000
set_option maxHeartbeats 4000000
namespace Go.Proofs.Ytblabbcmokldiaa.Vm
/-! ### cotillion/cotillionref13.IsState: function 66 -/
def L66 {R : Type} (_ : ORC R) (_ : Nat) : Nat → St → (Ex → St → Option R) → Option R := fun _ _ _ => none
def f66 {R : Type} (G : ORC R) (k : Nat) (ai1 ai2 : Int) (ai3 ai4 : Int) (ai5 ai6 : Int) (as7 : ByteArray) (K : List V → Option R) : Option R :=
  (K [(.bool (decide (ai1 ≤ 3)))])
theorem f66_is {R : Type} (G : ORC R) (k : Nat) (K : List V → Option R) (ai1 ai2 : Int) (ai3 ai4 : Int) (ai5 ai6 : Int) (as7 : ByteArray) :
    callF (TAB.env 66) G (L66 G k) Try.f66 S66 [(.agg [(.int .i64 ai1), (.int .i64 ai2), (.int .i64 ai3), (.int .i64 ai4), (.int .i64 ai5), (.int .i64 ai6), (.str as7)])] K = f66 G k ai1 ai2 ai3 ai4 ai5 ai6 as7 K := by kernel_rfl
theorem lo66 : loopsOf (bodyOf Try.f66) = [] := by kernel_rfl
theorem la66 {R : Type} (G : ORC R) (k : Nat) : LoopsAre (TAB.env 66) G (L66 G k) (bodyOf Try.f66) :=
  loopsAre_of (by rw [lo66]; intro p hp; cases hp)
def g66 {R : Type} (G : ORC R) (k : Nat) (args : List V) (K : List V → Option R) : Option R := match args with
  | [(.agg [(.int .i64 ai1), (.int .i64 ai2), (.int .i64 ai3), (.int .i64 ai4), (.int .i64 ai5), (.int .i64 ai6), (.str as7)])] => f66 G k ai1 ai2 ai3 ai4 ai5 ai6 as7 K
  | _ => none
theorem s66 {R : Type} {G : ORC R} {k : Nat} (hG : Sound Try.prog TAB G) (args : List V) (K : List V → Option R) (r : R) (h : g66 G k args K = some r) : ∃ o, CallOK Try.prog TAB.env 66 args o ∧ K o = some r := by
  unfold g66 at h
  split at h
  · rw [← f66_is] at h
    exact callF_sound (f := 66) TAB_chk MO hG Try.func66 (sg := S66) (by kernel_rfl) (by kernel_rfl) (la66 G k) h
  · cases h
end Go.Proofs.Ytblabbcmokldiaa.Vm
open Go Go.VM
set_option linter.unusedVariables false
set_option maxRecDepth 100000
set_option maxHeartbeats 4000000
namespace Go.Proofs.Ytblabbcmokldiaa.Vm
/-! ### cotillion/cotillionref13.put: function 58 -/
def P58_0h : Pat := { tmps := unds [.var (.sl 7) (.own true), .var (.sl 7) .ro, .var (.int .i64) .pr, .undef, .undef, .undef, .undef, .var (.int .i64) .pr] 66 [], boxes := nons [] 74 [] }
def P58_0x : Pat := { tmps := unds [.var (.sl 7) (.own true)] 73 [], boxes := nons [] 74 [] }
def b58_0 {R : Type} (G : ORC R) (k : Nat) (X : List V → List V → Int → Int → Option R) (Ko : List V → Option R) (xl4 xl5 : List V) (xi6 xi7 : Int) : Option R :=
  (bif (decide (xi7 < ((List.length xl5 : Nat) : Int))) then (bif ((decide (0 ≤ xi7)) && (decide (xi7 < ((List.length xl5 : Nat) : Int)))) then (nthK xl5 (Int.toNat xi7) fun e8 => (V.asAgg e8 fun l9 => (G 87 [(.agg l9)] fun o10 => (uI .i64 o10 fun n12 r11 => (unNil r11 (bif ((decide (0 ≤ xi7)) && (decide (xi7 < ((List.length xl5 : Nat) : Int)))) then (nthK xl5 (Int.toNat xi7) fun e13 => (ca7 e13 fun c14 c15 c16 c17 c18 c19 c20 => (V.asStr c15 fun s21 => (bif (decide (List.length xl4 + 1 ≤ 1073741824)) then (bif ((decide (0 ≤ xi6)) && (decide (xi6 < ((List.length (xl4 ++ [(.agg [(.int .i64 n12), (.int .i64 xi6), (.int .i64 0), (.int .i64 (-1)), (.int .i64 (-1)), (.int .i64 (-1)), (.str s21)])]) : Nat) : Int)))) then (nthK (xl4 ++ [(.agg [(.int .i64 n12), (.int .i64 xi6), (.int .i64 0), (.int .i64 (-1)), (.int .i64 (-1)), (.int .i64 (-1)), (.str s21)])]) (Int.toNat xi6) fun e22 => (ca7 e22 fun c23 c24 c25 c26 c27 c28 c29 => (aI .i64 c26 fun n30 => (bif (decide (n30 < 0)) then (bif ((decide (0 ≤ xi6)) && (decide (xi6 < ((List.length (xl4 ++ [(.agg [(.int .i64 n12), (.int .i64 xi6), (.int .i64 0), (.int .i64 (-1)), (.int .i64 (-1)), (.int .i64 (-1)), (.str s21)])]) : Nat) : Int)))) then (nthK (xl4 ++ [(.agg [(.int .i64 n12), (.int .i64 xi6), (.int .i64 0), (.int .i64 (-1)), (.int .i64 (-1)), (.int .i64 (-1)), (.str s21)])]) (Int.toNat xi6) fun e31 => (ca7 e31 fun c32 c33 c34 c35 c36 c37 c38 => (aI .i64 c32 fun n39 => (bif (n39 == 2) then (bif ((decide (0 ≤ ((List.length xl4 : Nat) : Int))) && (decide (((List.length xl4 : Nat) : Int) < ((List.length (xl4 ++ [(.agg [(.int .i64 n12), (.int .i64 xi6), (.int .i64 0), (.int .i64 (-1)), (.int .i64 (-1)), (.int .i64 (-1)), (.str s21)])]) : Nat) : Int)))) then (nthK (xl4 ++ [(.agg [(.int .i64 n12), (.int .i64 xi6), (.int .i64 0), (.int .i64 (-1)), (.int .i64 (-1)), (.int .i64 (-1)), (.str s21)])]) (Int.toNat ((List.length xl4 : Nat) : Int)) fun e40 => (ca7 e40 fun c41 c42 c43 c44 c45 c46 c47 => (aI .i64 c41 fun n48 => (aI .i64 c42 fun n49 => (aI .i64 c43 fun n50 => (aI .i64 c44 fun n51 => (aI .i64 c45 fun n52 => (aI .i64 c46 fun n53 => (V.asStr c47 fun s54 => (G 66 [(.agg [(.int .i64 n48), (.int .i64 n49), (.int .i64 n50), (.int .i64 n51), (.int .i64 n52), (.int .i64 n53), (.str s54)])] fun o55 => (uB o55 fun b57 r56 => (unNil r56 (bif b57 then (bif ((decide (0 ≤ xi6)) && (decide (xi6 < ((List.length (xl4 ++ [(.agg [(.int .i64 n12), (.int .i64 xi6), (.int .i64 0), (.int .i64 (-1)), (.int .i64 (-1)), (.int .i64 (-1)), (.str s21)])]) : Nat) : Int)))) then (nthK (xl4 ++ [(.agg [(.int .i64 n12), (.int .i64 xi6), (.int .i64 0), (.int .i64 (-1)), (.int .i64 (-1)), (.int .i64 (-1)), (.str s21)])]) (Int.toNat xi6) fun e58 => (ca7 e58 fun c59 c60 c61 c62 c63 c64 c65 => (bif ((decide (0 ≤ xi7)) && (decide (xi7 < ((List.length xl5 : Nat) : Int)))) then (nthK xl5 (Int.toNat xi7) fun e66 => (ca7 e66 fun c67 c68 c69 c70 c71 c72 c73 => (V.asSl c72 fun z74 l75 => (G 58 [(.sl 7 (List.set (xl4 ++ [(.agg [(.int .i64 n12), (.int .i64 xi6), (.int .i64 0), (.int .i64 (-1)), (.int .i64 (-1)), (.int .i64 (-1)), (.str s21)])]) (Int.toNat xi6) (.agg [c59, c60, c61, (.int .i64 ((List.length xl4 : Nat) : Int)), c63, c64, c65]))), (.sl z74 l75), (.int .i64 ((List.length xl4 : Nat) : Int))] fun o76 => (uL 7 o76 fun l78 r77 => (unNil r77 (bif ((decide (0 ≤ ((List.length xl4 : Nat) : Int))) && (decide (((List.length xl4 : Nat) : Int) < ((List.length l78 : Nat) : Int)))) then (nthK l78 (Int.toNat ((List.length xl4 : Nat) : Int)) fun e79 => (ca7 e79 fun c80 c81 c82 c83 c84 c85 c86 => (X (List.set l78 (Int.toNat ((List.length xl4 : Nat) : Int)) (.agg [c80, c81, (.int .i64 (IntKind.i64.wrap (((List.length l78 : Nat) : Int) - 1))), c83, c84, c85, c86])) xl5 xi6 (IntKind.i64.wrap (xi7 + 1))))) else none))))))) else none))) else none) else (bif ((decide (0 ≤ xi7)) && (decide (xi7 < ((List.length xl5 : Nat) : Int)))) then (nthK xl5 (Int.toNat xi7) fun e87 => (ca7 e87 fun c88 c89 c90 c91 c92 c93 c94 => (V.asSl c93 fun z95 l96 => (G 58 [(.sl 7 (xl4 ++ [(.agg [(.int .i64 n12), (.int .i64 xi6), (.int .i64 0), (.int .i64 (-1)), (.int .i64 (-1)), (.int .i64 (-1)), (.str s21)])])), (.sl z95 l96), (.int .i64 ((List.length xl4 : Nat) : Int))] fun o97 => (uL 7 o97 fun l99 r98 => (unNil r98 (bif ((decide (0 ≤ ((List.length xl4 : Nat) : Int))) && (decide (((List.length xl4 : Nat) : Int) < ((List.length l99 : Nat) : Int)))) then (nthK l99 (Int.toNat ((List.length xl4 : Nat) : Int)) fun e100 => (ca7 e100 fun c101 c102 c103 c104 c105 c106 c107 => (X (List.set l99 (Int.toNat ((List.length xl4 : Nat) : Int)) (.agg [c101, c102, (.int .i64 (IntKind.i64.wrap (((List.length l99 : Nat) : Int) - 1))), c104, c105, c106, c107])) xl5 xi6 (IntKind.i64.wrap (xi7 + 1))))) else none))))))) else none)))))))))))))) else none) else (bif ((decide (0 ≤ xi7)) && (decide (xi7 < ((List.length xl5 : Nat) : Int)))) then (nthK xl5 (Int.toNat xi7) fun e108 => (ca7 e108 fun c109 c110 c111 c112 c113 c114 c115 => (V.asSl c114 fun z116 l117 => (G 58 [(.sl 7 (xl4 ++ [(.agg [(.int .i64 n12), (.int .i64 xi6), (.int .i64 0), (.int .i64 (-1)), (.int .i64 (-1)), (.int .i64 (-1)), (.str s21)])])), (.sl z116 l117), (.int .i64 ((List.length xl4 : Nat) : Int))] fun o118 => (uL 7 o118 fun l120 r119 => (unNil r119 (bif ((decide (0 ≤ ((List.length xl4 : Nat) : Int))) && (decide (((List.length xl4 : Nat) : Int) < ((List.length l120 : Nat) : Int)))) then (nthK l120 (Int.toNat ((List.length xl4 : Nat) : Int)) fun e121 => (ca7 e121 fun c122 c123 c124 c125 c126 c127 c128 => (X (List.set l120 (Int.toNat ((List.length xl4 : Nat) : Int)) (.agg [c122, c123, (.int .i64 (IntKind.i64.wrap (((List.length l120 : Nat) : Int) - 1))), c125, c126, c127, c128])) xl5 xi6 (IntKind.i64.wrap (xi7 + 1))))) else none))))))) else none))))) else none) else (bif ((decide (0 ≤ xi7)) && (decide (xi7 < ((List.length xl5 : Nat) : Int)))) then (nthK xl5 (Int.toNat xi7) fun e129 => (ca7 e129 fun c130 c131 c132 c133 c134 c135 c136 => (V.asSl c135 fun z137 l138 => (G 58 [(.sl 7 (xl4 ++ [(.agg [(.int .i64 n12), (.int .i64 xi6), (.int .i64 0), (.int .i64 (-1)), (.int .i64 (-1)), (.int .i64 (-1)), (.str s21)])])), (.sl z137 l138), (.int .i64 ((List.length xl4 : Nat) : Int))] fun o139 => (uL 7 o139 fun l141 r140 => (unNil r140 (bif ((decide (0 ≤ ((List.length xl4 : Nat) : Int))) && (decide (((List.length xl4 : Nat) : Int) < ((List.length l141 : Nat) : Int)))) then (nthK l141 (Int.toNat ((List.length xl4 : Nat) : Int)) fun e142 => (ca7 e142 fun c143 c144 c145 c146 c147 c148 c149 => (X (List.set l141 (Int.toNat ((List.length xl4 : Nat) : Int)) (.agg [c143, c144, (.int .i64 (IntKind.i64.wrap (((List.length l141 : Nat) : Int) - 1))), c146, c147, c148, c149])) xl5 xi6 (IntKind.i64.wrap (xi7 + 1))))) else none))))))) else none))))) else none) else none)))) else none)))))) else none) else (Ko xl4))
def l58_0g {R : Type} (G : ORC R) (k : Nat) (Ko : List V → Option R) : Nat → List V → List V → Int → Int → Option R
  | 0 => fun _ _ _ _ => none
  | j + 1 => b58_0 G k (l58_0g G k Ko j) Ko
def l58_0 {R : Type} (G : ORC R) (k : Nat) (xl4 xl5 : List V) (xi6 xi7 : Int) (Ko : List V → Option R) : Option R := l58_0g G k Ko k xl4 xl5 xi6 xi7
def rd58_0 {R : Type} (G : ORC R) (k : Nat) (K : Ex → St → Option R) (j : Nat) (vs : List V) : Option R := match vs with
  | [(.sl 7 xl4), (.sl 7 xl5), (.int .i64 xi6), (.int .i64 xi7)] => l58_0g G k (fun yl151 => K .normal (P58_0x.inst [(.sl 7 yl151)])) j xl4 xl5 xi6 xi7
  | _ => none
def L58 {R : Type} (G : ORC R) (k : Nat) : Nat → St → (Ex → St → Option R) → Option R
  | 0, S, K => P58_0h.mat S fun vs => rd58_0 G k K k vs
  | _, _, _ => none
def f58 {R : Type} (G : ORC R) (k : Nat) (al1 al2 : List V) (ai3 : Int) (K : List V → Option R) : Option R :=
  (l58_0 G k al1 al2 ai3 0 (fun yl150 => (K [(.sl 7 yl150)])))
noncomputable def D58_0 : LoopD := { id := 0, body := loopAt 0 (bodyOf Try.f58), head := P58_0h, out := P58_0x, ret := default }
theorem l58_0_is {R : Type} (G : ORC R) (k : Nat) (X : List V → Option R) (K : Ex → St → Option R) (xl4 xl5 : List V) (xi6 xi7 : Int) :
    roundOf (TAB.env 58) G (L58 G k) D58_0 X K [(.sl 7 xl4), (.sl 7 xl5), (.int .i64 xi6), (.int .i64 xi7)] = b58_0 G k (fun xl4 xl5 xi6 xi7 => X [(.sl 7 xl4), (.sl 7 xl5), (.int .i64 xi6), (.int .i64 xi7)]) (fun yl151 => K .normal (P58_0x.inst [(.sl 7 yl151)])) xl4 xl5 xi6 xi7 := by kernel_rfl
theorem f58_is {R : Type} (G : ORC R) (k : Nat) (K : List V → Option R) (al1 al2 : List V) (ai3 : Int) :
    callF (TAB.env 58) G (L58 G k) Try.f58 S58 [(.sl 7 al1), (.sl 7 al2), (.int .i64 ai3)] K = f58 G k al1 al2 ai3 K := by kernel_rfl
theorem li58_0 {R : Type} (G : ORC R) (k : Nat) : LoopIs (TAB.env 58) G (L58 G k) 0 (loopAt 0 (bodyOf Try.f58)) :=
  ⟨D58_0, fun j vs K => rd58_0 G k K j vs, k, rfl, rfl, by kernel_rfl, by kernel_rfl, by kernel_rfl, (fun vs K => by unfold rd58_0; dsimp only; split <;> rfl),
    (fun j vs K r h => by
      unfold rd58_0 at h
      dsimp only at h
      split at h
      · rw [l58_0_is]; exact h
      · cases h), (fun S K r h => h)⟩
theorem lo58 : loopsOf (bodyOf Try.f58) = [(0, loopAt 0 (bodyOf Try.f58))] := by kernel_rfl
theorem la58 {R : Type} (G : ORC R) (k : Nat) : LoopsAre (TAB.env 58) G (L58 G k) (bodyOf Try.f58) :=
  loopsAre_of (by rw [lo58]; intro p hp; simp only [List.mem_cons, List.not_mem_nil, or_false] at hp; subst hp; exact li58_0 G k)
def g58 {R : Type} (G : ORC R) (k : Nat) (args : List V) (K : List V → Option R) : Option R := match args with
  | [(.sl 7 al1), (.sl 7 al2), (.int .i64 ai3)] => f58 G k al1 al2 ai3 K
  | _ => none
theorem s58 {R : Type} {G : ORC R} {k : Nat} (hG : Sound Try.prog TAB G) (args : List V) (K : List V → Option R) (r : R) (h : g58 G k args K = some r) : ∃ o, CallOK Try.prog TAB.env 58 args o ∧ K o = some r := by
  unfold g58 at h
  split at h
  · rw [← f58_is] at h
    exact callF_sound (f := 58) TAB_chk MO hG Try.func58 (sg := S58) (by kernel_rfl) (by kernel_rfl) (la58 G k) h
  · cases h
end Go.Proofs.Ytblabbcmokldiaa.Vm
open Go Go.VM
set_option linter.unusedVariables false
set_option maxRecDepth 100000
set_option maxHeartbeats 4000000
namespace Go.Proofs.Ytblabbcmokldiaa.Vm
/-! ### cotillion/cotillionref13.Nodes: function 14 -/
def L14 {R : Type} (_ : ORC R) (_ : Nat) : Nat → St → (Ex → St → Option R) → Option R := fun _ _ _ => none
def f14 {R : Type} (G : ORC R) (k : Nat) (as1 : ByteArray) (ai2 ai3 : Int) (al4 al5 : List V) (al6 al7 : List V) (ai8 : Int) (K : List V → Option R) : Option R :=
  (G 58 [(.sl 7 [(.agg [(.int .i64 2), (.int .i64 (-1)), (.int .i64 0), (.int .i64 (-1)), (.int .i64 (-1)), (.int .i64 (-1)), (.str ⟨#[]⟩)])]), (.sl 7 al7), (.int .i64 0)] fun o9 => (uL 7 o9 fun l11 r10 => (unNil r10 (bif (decide (0 < ((List.length l11 : Nat) : Int))) then (nthK l11 0 fun e12 => (ca7 e12 fun c13 c14 c15 c16 c17 c18 c19 => (K [(.sl 7 (List.set l11 0 (.agg [c13, c14, (.int .i64 (IntKind.i64.wrap (((List.length l11 : Nat) : Int) - 1))), c16, c17, c18, c19])))]))) else none))))
theorem f14_is {R : Type} (G : ORC R) (k : Nat) (K : List V → Option R) (as1 : ByteArray) (ai2 ai3 : Int) (al4 al5 : List V) (al6 al7 : List V) (ai8 : Int) :
    callF (TAB.env 14) G (L14 G k) Try.f14 S14 [(.agg [(.str as1), (.int .i64 ai2), (.int .i64 ai3), (.sl 3 al4), (.sl 3 al5), (.sl 3 al6), (.sl 7 al7), (.int .i64 ai8)])] K = f14 G k as1 ai2 ai3 al4 al5 al6 al7 ai8 K := by kernel_rfl
theorem lo14 : loopsOf (bodyOf Try.f14) = [] := by kernel_rfl
theorem la14 {R : Type} (G : ORC R) (k : Nat) : LoopsAre (TAB.env 14) G (L14 G k) (bodyOf Try.f14) :=
  loopsAre_of (by rw [lo14]; intro p hp; cases hp)
def g14 {R : Type} (G : ORC R) (k : Nat) (args : List V) (K : List V → Option R) : Option R := match args with
  | [(.agg [(.str as1), (.int .i64 ai2), (.int .i64 ai3), (.sl 3 al4), (.sl 3 al5), (.sl 3 al6), (.sl 7 al7), (.int .i64 ai8)])] => f14 G k as1 ai2 ai3 al4 al5 al6 al7 ai8 K
  | _ => none
theorem s14 {R : Type} {G : ORC R} {k : Nat} (hG : Sound Try.prog TAB G) (args : List V) (K : List V → Option R) (r : R) (h : g14 G k args K = some r) : ∃ o, CallOK Try.prog TAB.env 14 args o ∧ K o = some r := by
  unfold g14 at h
  split at h
  · rw [← f14_is] at h
    exact callF_sound (f := 14) TAB_chk MO hG Try.func14 (sg := S14) (by kernel_rfl) (by kernel_rfl) (la14 G k) h
  · cases h
end Go.Proofs.Ytblabbcmokldiaa.Vm
open Go Go.VM
set_option linter.unusedVariables false
set_option maxRecDepth 100000
set_option maxHeartbeats 8000000
namespace Go.Proofs.Ytblabbcmokldiaa.Vm
section
variable {R : Type} {G : ORC R} {k : Nat} {K : List V → Option R}
def KindOK (G : ORC R) : Prop := ∀ (v : V) (m d : Nat) (K : List V → Option R), StateS m d v → W (fun o => o = [.int .i64 (ndKind v)]) K (G 87 [v] K)
theorem kind_ok : KindOK (fun _ args (K : List V → Option R) => g87 G k args K) := by
  intro v m d K hv
  cases d with
  | zero => exact hv.elim
  | succ d =>
  obtain ⟨kind, nm, en, ex, tr, kids, rfl, _⟩ := hv
  show W _ K (f87 G k kind nm en ex tr kids 0 K)
  unfold f87
  have e : ndKind (.agg [.int .i64 kind, .str nm, .sl 8 en, .sl 8 ex, .sl 5 tr, .sl 7 kids, .int .i64 0]) = if kind = 3 then 4 else if kind = 4 then 5 else if kind = 2 then 3 else if kids.length = 0 then 1 else 2 := rfl
  rw [e]
  refine W_beqI (fun h => ?_) (fun h => ?_)
  · exact W_ret (by rw [if_pos h])
  refine W_beqI (fun h1 => ?_) (fun h1 => ?_)
  · exact W_ret (by rw [if_neg h, if_pos h1])
  refine W_beqI (fun h2 => ?_) (fun h2 => ?_)
  · exact W_ret (by rw [if_neg h, if_neg h1, if_pos h2])
  refine W_beqI (fun h3 => ?_) (fun h3 => ?_)
  · exact W_ret (by rw [if_neg h, if_neg h1, if_neg h2, if_pos (by omega)])
  · exact W_ret (by rw [if_neg h, if_neg h1, if_neg h2, if_neg (by omega)])
def IsStOK (G : ORC R) : Prop := ∀ (n : Nd) (K : List V → Option R), W (fun o => o = [.bool (decide (n.kind ≤ 3))]) K (G 66 [n.v] K)
theorem isst_ok : IsStOK (fun _ args (K : List V → Option R) => g66 G k args K) := by
  intro n K
  show W _ K (f66 G k n.kind n.parent n.last n.init n.entry n.exit n.name K)
  unfold f66
  exact W_ret rfl
def PutOK (d : Nat) (G : ORC R) : Prop := ∀ (l : List Nd) (kids : List V) (up : Nat) (K : List V → Option R), (∀ s ∈ kids, StateS 2 d s) → (∀ s r, kids = s :: r → kindV s ≤ 2) → up < l.length → l.length + nszL d kids ≤ 1000 →
  W (fun o => o = [.sl 7 ((fixup l up l.length kids ++ forest d up l.length kids).map Nd.v)]) K (G 58 [.sl 7 (l.map Nd.v), .sl 7 kids, .int .i64 up] K)
theorem fixup_one {P : List Nd} {nd : Nd} {n : Nat} {s : V} {kids : List V} (hn : P.length = n) (hi : nd.init = -1) (hk : nd.kind = ndKind s) (hs : stKids s = kids) :
    fixup (P ++ [nd]) n (n + 1) kids = P ++ [{ nd with init := if ndKind s = 2 then (n : Int) + 1 else -1 }] := by
  subst hn
  unfold fixup
  cases kids with
  | nil =>
    have h2 : ndKind s ≠ 2 := by unfold ndKind; rw [hs]; simp; omega
    simp only [if_neg h2]
    rw [← hi]
  | cons a r =>
    simp only [List.getElem?_append_right (Nat.le_refl _), Nat.sub_self, List.getElem?_cons_zero]
    by_cases h2 : ndKind s = 2
    · rw [if_pos ⟨by omega, by omega⟩, if_pos h2]; simp
    · rw [if_neg (by omega), if_neg h2, ← hi]
theorem put_loop {d : Nat} (hKd : KindOK G) (hSt : IsStOK G) (hP : ∀ d', d = d' + 1 → PutOK d' G) {Q : List V → Prop} {K : List V → Option R} {Ko : List V → Option R} {l0 : List Nd} {kids : List V} {up : Nat}
    (hk : ∀ s ∈ kids, StateS 2 d s) (hh : ∀ s r, kids = s :: r → kindV s ≤ 2) (hup : up < l0.length) (hsz : l0.length + nszL d kids ≤ 1000)
    (hKo : W Q K (Ko ((fixup l0 up l0.length kids ++ forest d up l0.length kids).map Nd.v))) :
    ∀ (B A : List V) (j : Nat), kids = A ++ B → B.length < j → W Q K (l58_0g G k Ko j ((fixup l0 up l0.length A ++ forest d up l0.length A).map Nd.v) (A ++ B) up A.length)
  | B, A, 0, h1, h2 => by omega
  | [], A, j + 1, h1, h2 => by
    show W Q K (b58_0 G k (l58_0g G k Ko j) Ko ((fixup l0 up l0.length A ++ forest d up l0.length A).map Nd.v) (A ++ []) up A.length)
    unfold b58_0
    refine W_no (by simp) ?_
    rw [List.append_nil] at h1
    rw [← h1]; exact hKo
  | b :: B, A, j + 1, h1, h2 => by
    show W Q K (b58_0 G k (l58_0g G k Ko j) Ko ((fixup l0 up l0.length A ++ forest d up l0.length A).map Nd.v) (A ++ b :: B) up A.length)
    unfold b58_0
    have hb : StateS 2 d b := hk b (by rw [h1]; simp)
    have hbk := hb
    cases d with
    | zero => exact hb.elim
    | succ d =>
    simp only [List.length_cons] at h2
    have hAl := nszL_len (d := d) (l := A)
    have hnsz : nszL (d + 1) kids = nszL (d + 1) A + (1 + nszL d (stKids b) + nszL (d + 1) B) := by rw [h1, nszL_app, nszL_cons]
    obtain ⟨kind, nm, en, ex, tr, kb, rfl, x1, x2, x3, x4, x5, x6, x7, x8, x9, x10, x11, x12, x13⟩ := hb
    have hkb : stKids (.agg [.int .i64 kind, .str nm, .sl 8 en, .sl 8 ex, .sl 5 tr, .sl 7 kb, .int .i64 0]) = kb := rfl
    have hnb : stName (.agg [.int .i64 kind, .str nm, .sl 8 en, .sl 8 ex, .sl 5 tr, .sl 7 kb, .int .i64 0]) = nm := rfl
    have hkk : kindV (.agg [.int .i64 kind, .str nm, .sl 8 en, .sl 8 ex, .sl 5 tr, .sl 7 kb, .int .i64 0]) = kind := rfl
    generalize hbe : (V.agg [.int .i64 kind, .str nm, .sl 8 en, .sl 8 ex, .sl 5 tr, .sl 7 kb, .int .i64 0]) = b at *
    have hcl : (fixup l0 up l0.length A ++ forest (d + 1) up l0.length A).length = l0.length + nszL (d + 1) A := by rw [List.length_append, fixup_len, forest_len]
    have hlt : (A.length : Int) < (((A ++ b :: B).length : Nat) : Int) := by simp; omega
    have hnthb : ∀ v, (A ++ b :: B)[Int.toNat (A.length : Int)]? = some v → v = b := fun v hv => by simp at hv; exact hv.symm
    refine W_yes hlt (W_and (W_yes (by omega) (W_yes hlt ?_)))
    refine W_nth (by omega) (fun v hv _ => ?_)
    rw [hnthb v hv, ← hbe]
    refine W_asAgg ?_
    rw [hbe]
    refine W_call (hKd b 2 (d + 1) _ hbk) ?_
    rintro _ rfl
    refine W_uI (W_unNil ?_)
    refine W_and (W_yes (by omega) (W_yes hlt ?_))
    refine W_nth (by omega) (fun v hv _ => ?_)
    rw [hnthb v hv, ← hbe]
    refine W_ca7 (W_asStr ?_)
    rw [hbe]
    generalize hcur : fixup l0 up l0.length A ++ forest (d + 1) up l0.length A = cur at *
    generalize hn0 : cur.length = n at *
    have hnd : List.map Nd.v cur ++ [.agg [.int .i64 (ndKind b), .int .i64 (up : Int), .int .i64 0, .int .i64 (-1), .int .i64 (-1), .int .i64 (-1), .str nm]] = (cur ++ [(⟨ndKind b, up, 0, -1, -1, -1, nm⟩ : Nd)]).map Nd.v := by rw [List.map_append]; rfl
    rw [hnd]
    refine W_yes (by rw [List.length_map]; omega) ?_
    simp only [List.length_map, hn0, List.length_append, List.length_cons, List.length_nil]
    have hupn : up < n := by omega
    refine W_and (W_yes (by omega) (W_yes (by omega) ?_))
    refine W_nthN (by simp; omega) (fun n1 hn1 => W_nd ?_)
    refine W_ce7 (W_aI ?_)
    have hn1' : cur[up]? = some n1 := by
      rw [Int.toNat_natCast, List.getElem?_append_left (by omega)] at hn1; exact hn1
    -- what the parent is told
    have hcur1 : A = [] → cur = l0 := fun h => by rw [← hcur, h, fixup_nil]; simp [forest]
    have hcur2 : A ≠ [] → ¬ (n1.init < 0 ∧ n1.kind = 2) := by
      intro hA hc
      rw [← hcur, List.getElem?_append_left (by rw [fixup_len]; exact hup)] at hn1'
      cases A with
      | nil => exact hA rfl
      | cons a r =>
        have e0 : l0[up]? = some l0[up] := List.getElem?_eq_getElem hup
        unfold fixup at hn1'
        simp only [e0] at hn1'
        by_cases hq : l0[up].init < 0 ∧ l0[up].kind = 2
        · rw [if_pos hq, List.getElem?_set_self hup] at hn1'
          cases hn1'
          have := hc.1
          simp at this; omega
        · rw [if_neg hq, e0] at hn1'
          cases hn1'; exact hq hc
    have hfx : fixup l0 up l0.length (A ++ [b]) ++ forest (d + 1) up l0.length A = if n1.init < 0 ∧ n1.kind = 2 then cur.set up { n1 with init := n } else cur := by
      by_cases hA : A = []
      · have hc := hcur1 hA
        subst hA
        have hn00 : n = l0.length := by rw [← hn0, hc]
        rw [← hn00]
        rw [hc] at hn1' ⊢
        unfold fixup
        simp only [List.nil_append, hn1']
        rw [show forest (d + 1) (up : Int) n [] = [] by rw [forest], List.append_nil]
      · rw [if_neg (hcur2 hA), ← hcur]
        congr 1
        unfold fixup
        cases A with
        | nil => exact absurd rfl hA
        | cons a r => cases l0[up]? <;> rfl
    -- the rest of the round
    have fin : ∀ L2 : List Nd, L2 = (fixup l0 up l0.length (A ++ [b]) ++ forest (d + 1) up l0.length A) ++ [(⟨ndKind b, up, 0, -1, -1, -1, nm⟩ : Nd)] → ∀ (n2 : Nd) (len : Int), len = ((fixup L2 n (n + 1) kb ++ forest d n (n + 1) kb).length : Int) - 1 → (fixup L2 n (n + 1) kb ++ forest d n (n + 1) kb)[n]? = some n2 →
        (fixup L2 n (n + 1) kb ++ forest d n (n + 1) kb).set n { n2 with last := len } = fixup l0 up l0.length (A ++ [b]) ++ forest (d + 1) up l0.length (A ++ [b]) := by
      intro L2 hL2 n2 len hlen hn2
      have hPl : (fixup l0 up l0.length (A ++ [b]) ++ forest (d + 1) up l0.length A).length = n := by rw [List.length_append, fixup_len, forest_len]; omega
      generalize hPe : fixup l0 up l0.length (A ++ [b]) ++ forest (d + 1) up l0.length A = P at *
      rw [hL2] at hn2 hlen ⊢
      rw [fixup_one hPl rfl rfl hkb] at hn2 hlen ⊢
      rw [List.append_assoc, List.getElem?_append_right (by omega)] at hn2
      rw [hPl, Nat.sub_self] at hn2
      simp only [List.cons_append, List.nil_append, List.getElem?_cons_zero, Option.some.injEq] at hn2
      rw [List.append_assoc, ← hPl, List.set_append_right _ _ (Nat.le_refl _), Nat.sub_self]
      simp only [List.cons_append, List.nil_append, List.set_cons_zero]
      rw [forest_app, ← List.append_assoc, hPe]
      congr 1
      rw [forest, hkb, hnb, show forest (d + 1) (up : Int) (l0.length + nszL (d + 1) A + 1 + nszL d kb) [] = [] by rw [forest], List.append_nil]
      have hnn : l0.length + nszL (d + 1) A = n := by omega
      rw [hnn, ← hn2, hPl]
      congr 1
      rw [hlen]
      simp only [List.length_append, List.length_cons, List.length_nil, forest_len, hPl]
      congr 1
      omega
    have rest : ∀ (L2 : List Nd), L2 = (fixup l0 up l0.length (A ++ [b]) ++ forest (d + 1) up l0.length A) ++ [(⟨ndKind b, up, 0, -1, -1, -1, nm⟩ : Nd)] → ∀ F : List V → Option R,
        (∀ n2 : Nd, (fixup L2 n (n + 1) kb ++ forest d n (n + 1) kb)[n]? = some n2 → W Q K (F [.sl 7 ((fixup L2 n (n + 1) kb ++ forest d n (n + 1) kb).map Nd.v)])) → W Q K (G 58 [.sl 7 (L2.map Nd.v), .sl 7 kb, .int .i64 (n : Int)] F) := by
      intro L2 hL2 F hF
      have hPl : (fixup l0 up l0.length (A ++ [b]) ++ forest (d + 1) up l0.length A).length = n := by rw [List.length_append, fixup_len, forest_len]; omega
      have hL2l : L2.length = n + 1 := by rw [hL2, List.length_append, hPl]; rfl
      have hsz2 : n + 1 + nszL d kb ≤ 1000 := by rw [hkb] at hnsz; omega
      refine W_call (hP d rfl L2 kb n F x10 x12 (by omega) (by omega)) ?_
      rintro _ rfl
      rw [hL2l]
      have hl : n < (fixup L2 n (n + 1) kb ++ forest d n (n + 1) kb).length := by rw [List.length_append, fixup_len]; omega
      exact hF _ (List.getElem?_eq_getElem hl)
    have hnm1 : ∀ m : Nd, (cur ++ [(⟨ndKind b, up, 0, -1, -1, -1, nm⟩ : Nd)])[Int.toNat (up : Int)]? = some m → m = n1 := fun m hm => by rw [hn1] at hm; cases hm; rfl
    generalize hPe : fixup l0 up l0.length (A ++ [b]) ++ forest (d + 1) up l0.length A = P at hfx rest fin
    refine W_dec (fun hi => ?_) (fun hi => ?_)
    · refine W_and (W_yes (by omega) (W_yes (by omega) ?_))
      refine W_nthN (by simp; omega) (fun m hm => W_nd ?_)
      rw [hnm1 m hm]
      refine W_ce7 (W_aI ?_)
      refine W_beqI (fun hk2 => ?_) (fun hk2 => ?_)
      · have hA : A = [] := Classical.byContradiction fun h => hcur2 h ⟨hi, hk2⟩
        have hbk2 : kindV b ≤ 2 := hh b B (by rw [h1, hA]; rfl)
        have hnk : ndKind b ≤ 3 := by unfold ndKind; split; omega; split; omega; split; omega; split <;> omega
        rw [if_pos ⟨hi, hk2⟩] at hfx
        refine W_and (W_yes (by omega) (W_yes (by omega) ?_))
        refine W_nthN (by simp; omega) (fun m hm => W_nd ?_)
        have hm2 : m = ⟨ndKind b, up, 0, -1, -1, -1, nm⟩ := by
          rw [Int.toNat_natCast, List.getElem?_append_right (by omega), hn0, Nat.sub_self] at hm
          simp at hm; exact hm.symm
        subst hm2
        refine W_ce7 (W_aI (W_aI (W_aI (W_aI (W_aI (W_aI (W_asStr ?_)))))))
        refine W_call (hSt ⟨ndKind b, up, 0, -1, -1, -1, nm⟩ _) ?_
        rintro _ rfl
        refine W_uB (W_unNil (W_yes hnk ?_))
        refine W_and (W_yes (by omega) (W_yes (by omega) ?_))
        refine W_nthN (by simp; omega) (fun m hm => W_nd ?_)
        rw [hnm1 m hm]
        refine W_ce7 ?_
        have hset : List.set (List.map Nd.v (cur ++ [(⟨ndKind b, up, 0, -1, -1, -1, nm⟩ : Nd)])) (Int.toNat (up : Int)) (V.agg [.int .i64 n1.kind, .int .i64 n1.parent, .int .i64 n1.last, .int .i64 (n : Int), .int .i64 n1.entry, .int .i64 n1.exit, .str n1.name]) = (P ++ [(⟨ndKind b, up, 0, -1, -1, -1, nm⟩ : Nd)]).map Nd.v := by
          rw [Int.toNat_natCast, show V.agg [.int .i64 n1.kind, .int .i64 n1.parent, .int .i64 n1.last, .int .i64 (n : Int), .int .i64 n1.entry, .int .i64 n1.exit, .str n1.name] = ({ n1 with init := n } : Nd).v from rfl, set_map, List.set_append_left _ _ (by omega), hfx]
        rw [hset]
        refine W_and (W_yes (by omega) (W_yes (by omega) ?_))
        refine W_nth (by omega) (fun v hv _ => ?_)
        rw [hnthb v hv, ← hbe]
        refine W_ca7 (W_asSl ?_)
        rw [hbe]
        refine rest _ rfl _ (fun n2 hn2 => ?_)
        refine W_uL (W_unNil ?_)
        have hlen2 : (fixup (P ++ [(⟨ndKind b, up, 0, -1, -1, -1, nm⟩ : Nd)]) n (n + 1) kb ++ forest d n (n + 1) kb).length = n + 1 + nszL d kb := by
          have hPl : P.length = n := by rw [← hPe, List.length_append, fixup_len, forest_len]; omega
          rw [List.length_append, fixup_len, forest_len, List.length_append, hPl]; rfl
        refine W_and (W_yes (by omega) (W_yes (by rw [List.length_map]; omega) ?_))
        refine W_nthN (by rw [Int.toNat_natCast]; omega) (fun m hm => W_nd ?_)
        rw [Int.toNat_natCast] at hm
        refine W_ce7 ?_
        rw [hkb] at hnsz
        have hw : IntKind.i64.wrap (((List.map Nd.v (fixup (P ++ [(⟨ndKind b, up, 0, -1, -1, -1, nm⟩ : Nd)]) n (n + 1) kb ++ forest d n (n + 1) kb)).length : Int) - 1) = ((fixup (P ++ [(⟨ndKind b, up, 0, -1, -1, -1, nm⟩ : Nd)]) n (n + 1) kb ++ forest d n (n + 1) kb).length : Int) - 1 := by
          rw [List.length_map]; exact wrap_id (by omega)
        rw [hw, wrap_id (n := (A.length : Int) + 1) (by omega)]
        have hset2 : ∀ len : Int, len = ((fixup (P ++ [(⟨ndKind b, up, 0, -1, -1, -1, nm⟩ : Nd)]) n (n + 1) kb ++ forest d n (n + 1) kb).length : Int) - 1 → List.set (List.map Nd.v (fixup (P ++ [(⟨ndKind b, up, 0, -1, -1, -1, nm⟩ : Nd)]) n (n + 1) kb ++ forest d n (n + 1) kb)) (Int.toNat (n : Int)) (V.agg [.int .i64 m.kind, .int .i64 m.parent, .int .i64 len, .int .i64 m.init, .int .i64 m.entry, .int .i64 m.exit, .str m.name]) = (fixup l0 up l0.length (A ++ [b]) ++ forest (d + 1) up l0.length (A ++ [b])).map Nd.v := by
          intro len hlen
          rw [Int.toNat_natCast, show V.agg [.int .i64 m.kind, .int .i64 m.parent, .int .i64 len, .int .i64 m.init, .int .i64 m.entry, .int .i64 m.exit, .str m.name] = ({ m with last := len } : Nd).v from rfl, set_map, fin _ rfl m len hlen hm]
        rw [hset2 _ rfl]
        have e := put_loop hKd hSt hP hk hh hup hsz hKo B (A ++ [b]) j (by rw [h1]; simp) (by omega)
        simp only [List.append_assoc, List.singleton_append, List.length_append, List.length_cons, List.length_nil, Nat.zero_add, Int.natCast_add, Int.natCast_one] at e
        exact e
      · rw [if_neg (by rintro ⟨_, h⟩; exact hk2 h)] at hfx
        rw [← hfx]
        refine W_and (W_yes (by omega) (W_yes (by omega) ?_))
        refine W_nth (by omega) (fun v hv _ => ?_)
        rw [hnthb v hv, ← hbe]
        refine W_ca7 (W_asSl ?_)
        rw [hbe]
        refine rest _ rfl _ (fun n2 hn2 => ?_)
        refine W_uL (W_unNil ?_)
        have hlen2 : (fixup (P ++ [(⟨ndKind b, up, 0, -1, -1, -1, nm⟩ : Nd)]) n (n + 1) kb ++ forest d n (n + 1) kb).length = n + 1 + nszL d kb := by
          have hPl : P.length = n := by rw [← hPe, List.length_append, fixup_len, forest_len]; omega
          rw [List.length_append, fixup_len, forest_len, List.length_append, hPl]; rfl
        refine W_and (W_yes (by omega) (W_yes (by rw [List.length_map]; omega) ?_))
        refine W_nthN (by rw [Int.toNat_natCast]; omega) (fun m hm => W_nd ?_)
        rw [Int.toNat_natCast] at hm
        refine W_ce7 ?_
        rw [hkb] at hnsz
        have hw : IntKind.i64.wrap (((List.map Nd.v (fixup (P ++ [(⟨ndKind b, up, 0, -1, -1, -1, nm⟩ : Nd)]) n (n + 1) kb ++ forest d n (n + 1) kb)).length : Int) - 1) = ((fixup (P ++ [(⟨ndKind b, up, 0, -1, -1, -1, nm⟩ : Nd)]) n (n + 1) kb ++ forest d n (n + 1) kb).length : Int) - 1 := by
          rw [List.length_map]; exact wrap_id (by omega)
        rw [hw, wrap_id (n := (A.length : Int) + 1) (by omega)]
        have hset2 : ∀ len : Int, len = ((fixup (P ++ [(⟨ndKind b, up, 0, -1, -1, -1, nm⟩ : Nd)]) n (n + 1) kb ++ forest d n (n + 1) kb).length : Int) - 1 → List.set (List.map Nd.v (fixup (P ++ [(⟨ndKind b, up, 0, -1, -1, -1, nm⟩ : Nd)]) n (n + 1) kb ++ forest d n (n + 1) kb)) (Int.toNat (n : Int)) (V.agg [.int .i64 m.kind, .int .i64 m.parent, .int .i64 len, .int .i64 m.init, .int .i64 m.entry, .int .i64 m.exit, .str m.name]) = (fixup l0 up l0.length (A ++ [b]) ++ forest (d + 1) up l0.length (A ++ [b])).map Nd.v := by
          intro len hlen
          rw [Int.toNat_natCast, show V.agg [.int .i64 m.kind, .int .i64 m.parent, .int .i64 len, .int .i64 m.init, .int .i64 m.entry, .int .i64 m.exit, .str m.name] = ({ m with last := len } : Nd).v from rfl, set_map, fin _ rfl m len hlen hm]
        rw [hset2 _ rfl]
        have e := put_loop hKd hSt hP hk hh hup hsz hKo B (A ++ [b]) j (by rw [h1]; simp) (by omega)
        simp only [List.append_assoc, List.singleton_append, List.length_append, List.length_cons, List.length_nil, Nat.zero_add, Int.natCast_add, Int.natCast_one] at e
        exact e
    · rw [if_neg (by rintro ⟨h, _⟩; exact hi h)] at hfx
      rw [← hfx]
      refine W_and (W_yes (by omega) (W_yes (by omega) ?_))
      refine W_nth (by omega) (fun v hv _ => ?_)
      rw [hnthb v hv, ← hbe]
      refine W_ca7 (W_asSl ?_)
      rw [hbe]
      refine rest _ rfl _ (fun n2 hn2 => ?_)
      refine W_uL (W_unNil ?_)
      have hlen2 : (fixup (P ++ [(⟨ndKind b, up, 0, -1, -1, -1, nm⟩ : Nd)]) n (n + 1) kb ++ forest d n (n + 1) kb).length = n + 1 + nszL d kb := by
        have hPl : P.length = n := by rw [← hPe, List.length_append, fixup_len, forest_len]; omega
        rw [List.length_append, fixup_len, forest_len, List.length_append, hPl]; rfl
      refine W_and (W_yes (by omega) (W_yes (by rw [List.length_map]; omega) ?_))
      refine W_nthN (by rw [Int.toNat_natCast]; omega) (fun m hm => W_nd ?_)
      rw [Int.toNat_natCast] at hm
      refine W_ce7 ?_
      rw [hkb] at hnsz
      have hw : IntKind.i64.wrap (((List.map Nd.v (fixup (P ++ [(⟨ndKind b, up, 0, -1, -1, -1, nm⟩ : Nd)]) n (n + 1) kb ++ forest d n (n + 1) kb)).length : Int) - 1) = ((fixup (P ++ [(⟨ndKind b, up, 0, -1, -1, -1, nm⟩ : Nd)]) n (n + 1) kb ++ forest d n (n + 1) kb).length : Int) - 1 := by
        rw [List.length_map]; exact wrap_id (by omega)
      rw [hw, wrap_id (n := (A.length : Int) + 1) (by omega)]
      have hset2 : ∀ len : Int, len = ((fixup (P ++ [(⟨ndKind b, up, 0, -1, -1, -1, nm⟩ : Nd)]) n (n + 1) kb ++ forest d n (n + 1) kb).length : Int) - 1 → List.set (List.map Nd.v (fixup (P ++ [(⟨ndKind b, up, 0, -1, -1, -1, nm⟩ : Nd)]) n (n + 1) kb ++ forest d n (n + 1) kb)) (Int.toNat (n : Int)) (V.agg [.int .i64 m.kind, .int .i64 m.parent, .int .i64 len, .int .i64 m.init, .int .i64 m.entry, .int .i64 m.exit, .str m.name]) = (fixup l0 up l0.length (A ++ [b]) ++ forest (d + 1) up l0.length (A ++ [b])).map Nd.v := by
        intro len hlen
        rw [Int.toNat_natCast, show V.agg [.int .i64 m.kind, .int .i64 m.parent, .int .i64 len, .int .i64 m.init, .int .i64 m.entry, .int .i64 m.exit, .str m.name] = ({ m with last := len } : Nd).v from rfl, set_map, fin _ rfl m len hlen hm]
      rw [hset2 _ rfl]
      have e := put_loop hKd hSt hP hk hh hup hsz hKo B (A ++ [b]) j (by rw [h1]; simp) (by omega)
      simp only [List.append_assoc, List.singleton_append, List.length_append, List.length_cons, List.length_nil, Nat.zero_add, Int.natCast_add, Int.natCast_one] at e
      exact e
theorem put_ok {d : Nat} (hk : 10000 ≤ k) (hKd : KindOK G) (hSt : IsStOK G) (hP : ∀ d', d = d' + 1 → PutOK d' G) : PutOK d (fun _ args (K : List V → Option R) => g58 G k args K) := by
  intro l kids up K h1 h2 h3 h4
  show W _ K (f58 G k (l.map Nd.v) kids up K)
  unfold f58 l58_0
  have hlen : kids.length ≤ nszL d kids ∨ kids = [] := by
    cases d with
    | zero =>
      cases kids with
      | nil => exact .inr rfl
      | cons a r => exact (h1 a (by simp)).elim
    | succ d => exact .inl nszL_len
  have hl2 : kids.length < k := by
    rcases hlen with h | h
    · omega
    · rw [h]; simp; omega
  have e := put_loop (Q := fun o => o = [.sl 7 ((fixup l up l.length kids ++ forest d up l.length kids).map Nd.v)]) (K := K) (k := k) (Ko := fun yl => K [.sl 7 yl]) hKd hSt hP h1 h2 h3 h4 (W_ret rfl) kids [] k rfl hl2
  rw [fixup_nil, List.nil_append] at e
  have hf : forest d (up : Int) l.length [] = [] := by cases d <;> rw [forest]
  rw [hf, List.append_nil] at e
  exact e
def NodesOK (G : ORC R) : Prop := ∀ (nm : ByteArray) (x y : Int) (a b c states : List V) (z : Int) (K : List V → Option R), (∀ s ∈ states, StateS 2 3 s ∧ kindV s ≤ 2) → nszL 3 states ≤ 900 →
  W (fun o => o = [.sl 7 ((ndsOf states).map Nd.v)]) K (G 14 [.agg [.str nm, .int .i64 x, .int .i64 y, .sl 3 a, .sl 3 b, .sl 3 c, .sl 7 states, .int .i64 z]] K)
theorem nodes_ok (hP : PutOK 3 G) : NodesOK (fun _ args (K : List V → Option R) => g14 G k args K) := by
  intro nm x y a b c states z K h1 h2
  show W _ K (f14 G k nm x y a b c states z K)
  unfold f14
  refine W_call (hP [(⟨2, -1, 0, -1, -1, -1, ⟨#[]⟩⟩ : Nd)] states 0 _ (fun s hs => (h1 s hs).1) (fun s r e => (h1 s (by rw [e]; simp)).2) (by simp) (by simp; omega)) ?_
  rintro _ rfl
  refine W_uL (W_unNil ?_)
  have hl : (fixup [(⟨2, -1, 0, -1, -1, -1, ⟨#[]⟩⟩ : Nd)] 0 1 states ++ forest 3 (0 : Nat) 1 states).length = 1 + nszL 3 states := by rw [List.length_append, fixup_len, forest_len]; rfl
  simp only [List.length_cons, List.length_nil, Nat.zero_add, List.length_map, hl]
  have hl0 : (0 : Int) < ((1 + nszL 3 states : Nat) : Int) := by omega
  refine W_yes (by omega) ?_
  refine W_nthN (by rw [hl]; omega) (fun n hn => W_nd ?_)
  refine W_ce7 ?_
  rw [wrap_id (by omega)]
  refine W_ret ?_
  have e : (fixup [(⟨2, -1, 0, -1, -1, -1, ⟨#[]⟩⟩ : Nd)] 0 1 states ++ forest 3 (0 : Nat) 1 states).set 0 { n with last := ((1 + nszL 3 states : Nat) : Int) - 1 } = ndsOf states := by
    have hq : ((1 + nszL 3 states : Nat) : Int) - 1 = (nszL 3 states : Nat) := by omega
    rw [hq]
    unfold ndsOf
    cases states with
    | nil =>
      rw [fixup_nil] at hn ⊢
      simp at hn; subst hn; rfl
    | cons s r =>
      have hf : fixup [(⟨2, -1, 0, -1, -1, -1, ⟨#[]⟩⟩ : Nd)] 0 1 (s :: r) = [⟨2, -1, 0, 1, -1, -1, ⟨#[]⟩⟩] := by unfold fixup; simp
      rw [hf] at hn ⊢
      simp at hn; subst hn; simp
  rw [← e, ← set_map]; rfl
end
end Go.Proofs.Ytblabbcmokldiaa.Vm
open Go Go.VM
set_option linter.unusedVariables false
set_option maxRecDepth 100000
set_option maxHeartbeats 4000000
namespace Go.Proofs.Ytblabbcmokldiaa.Vm
/-! ### cotillion/cotillionref13.Find: function 19 -/
def P19_0h : Pat := { tmps := unds [.var (.sl 7) .ro, .var .str .pr, .undef, .undef, .undef, .var (.int .i64) .pr] 14 [], boxes := nons [] 20 [] }
def P19_0x : Pat := { tmps := unds [] 20 [], boxes := nons [] 20 [] }
def P19_0r : Pat := { tmps := unds [.undef, .undef, .undef, .undef, .var (.int .i64) .pr] 15 [], boxes := nons [] 20 [] }
def b19_0 {R : Type} (G : ORC R) (k : Nat) (X : List V → ByteArray → Int → Option R) (Ko : Unit → Option R) (Kr : Int → Option R) (xl3 : List V) (xs4 : ByteArray) (xi5 : Int) : Option R :=
  (bif (decide (xi5 < ((List.length xl3 : Nat) : Int))) then (bif ((decide (0 ≤ xi5)) && (decide (xi5 < ((List.length xl3 : Nat) : Int)))) then (nthK xl3 (Int.toNat xi5) fun e6 => (ca7 e6 fun c7 c8 c9 c10 c11 c12 c13 => (V.asStr c13 fun s14 => (bif (ByteArray.toList s14 == ByteArray.toList xs4) then (Kr xi5) else (X xl3 xs4 (IntKind.i64.wrap (xi5 + 1))))))) else none) else (Ko ()))
def l19_0g {R : Type} (G : ORC R) (k : Nat) (Ko : Unit → Option R) (Kr : Int → Option R) : Nat → List V → ByteArray → Int → Option R
  | 0 => fun _ _ _ => none
  | j + 1 => b19_0 G k (l19_0g G k Ko Kr j) Ko Kr
def l19_0 {R : Type} (G : ORC R) (k : Nat) (xl3 : List V) (xs4 : ByteArray) (xi5 : Int) (Ko : Unit → Option R) (Kr : Int → Option R) : Option R := l19_0g G k Ko Kr k xl3 xs4 xi5
def rd19_0 {R : Type} (G : ORC R) (k : Nat) (K : Ex → St → Option R) (j : Nat) (vs : List V) : Option R := match vs with
  | [(.sl 7 xl3), (.str xs4), (.int .i64 xi5)] => l19_0g G k (fun _ => K .normal (P19_0x.inst [])) (fun yi16 => K .ret (P19_0r.inst [(.int .i64 yi16)])) j xl3 xs4 xi5
  | _ => none
def L19 {R : Type} (G : ORC R) (k : Nat) : Nat → St → (Ex → St → Option R) → Option R
  | 0, S, K => P19_0h.mat S fun vs => rd19_0 G k K k vs
  | _, _, _ => none
def f19 {R : Type} (G : ORC R) (k : Nat) (al1 : List V) (as2 : ByteArray) (K : List V → Option R) : Option R :=
  (l19_0 G k al1 as2 1 (fun (_ : Unit) => (K [(.int .i64 (-1))])) (fun yi15 => (K [(.int .i64 yi15)])))
noncomputable def D19_0 : LoopD := { id := 0, body := loopAt 0 (bodyOf Try.f19), head := P19_0h, out := P19_0x, ret := P19_0r }
theorem l19_0_is {R : Type} (G : ORC R) (k : Nat) (X : List V → Option R) (K : Ex → St → Option R) (xl3 : List V) (xs4 : ByteArray) (xi5 : Int) :
    roundOf (TAB.env 19) G (L19 G k) D19_0 X K [(.sl 7 xl3), (.str xs4), (.int .i64 xi5)] = b19_0 G k (fun xl3 xs4 xi5 => X [(.sl 7 xl3), (.str xs4), (.int .i64 xi5)]) (fun _ => K .normal (P19_0x.inst [])) (fun yi16 => K .ret (P19_0r.inst [(.int .i64 yi16)])) xl3 xs4 xi5 := by kernel_rfl
theorem f19_is {R : Type} (G : ORC R) (k : Nat) (K : List V → Option R) (al1 : List V) (as2 : ByteArray) :
    callF (TAB.env 19) G (L19 G k) Try.f19 S19 [(.sl 7 al1), (.str as2)] K = f19 G k al1 as2 K := by kernel_rfl
theorem li19_0 {R : Type} (G : ORC R) (k : Nat) : LoopIs (TAB.env 19) G (L19 G k) 0 (loopAt 0 (bodyOf Try.f19)) :=
  ⟨D19_0, fun j vs K => rd19_0 G k K j vs, k, rfl, rfl, by kernel_rfl, by kernel_rfl, by kernel_rfl, (fun vs K => by unfold rd19_0; dsimp only; split <;> rfl),
    (fun j vs K r h => by
      unfold rd19_0 at h
      dsimp only at h
      split at h
      · rw [l19_0_is]; exact h
      · cases h), (fun S K r h => h)⟩
theorem lo19 : loopsOf (bodyOf Try.f19) = [(0, loopAt 0 (bodyOf Try.f19))] := by kernel_rfl
theorem la19 {R : Type} (G : ORC R) (k : Nat) : LoopsAre (TAB.env 19) G (L19 G k) (bodyOf Try.f19) :=
  loopsAre_of (by rw [lo19]; intro p hp; simp only [List.mem_cons, List.not_mem_nil, or_false] at hp; subst hp; exact li19_0 G k)
def g19 {R : Type} (G : ORC R) (k : Nat) (args : List V) (K : List V → Option R) : Option R := match args with
  | [(.sl 7 al1), (.str as2)] => f19 G k al1 as2 K
  | _ => none
theorem s19 {R : Type} {G : ORC R} {k : Nat} (hG : Sound Try.prog TAB G) (args : List V) (K : List V → Option R) (r : R) (h : g19 G k args K = some r) : ∃ o, CallOK Try.prog TAB.env 19 args o ∧ K o = some r := by
  unfold g19 at h
  split at h
  · rw [← f19_is] at h
    exact callF_sound (f := 19) TAB_chk MO hG Try.func19 (sg := S19) (by kernel_rfl) (by kernel_rfl) (la19 G k) h
  · cases h
end Go.Proofs.Ytblabbcmokldiaa.Vm
open Go Go.VM
set_option linter.unusedVariables false
set_option maxRecDepth 100000
set_option maxHeartbeats 4000000
namespace Go.Proofs.Ytblabbcmokldiaa.Vm
/-! ### cotillion/cotillionref13.Is: function 64 -/
def L64 {R : Type} (_ : ORC R) (_ : Nat) : Nat → St → (Ex → St → Option R) → Option R := fun _ _ _ => none
def f64 {R : Type} (G : ORC R) (k : Nat) (al1 : List V) (ai2 : Int) (K : List V → Option R) : Option R :=
  (bif (decide (ai2 ≥ 0)) then (K [(.bool (decide (ai2 < ((List.length al1 : Nat) : Int))))]) else (K [(.bool false)]))
theorem f64_is {R : Type} (G : ORC R) (k : Nat) (K : List V → Option R) (al1 : List V) (ai2 : Int) :
    callF (TAB.env 64) G (L64 G k) Try.f64 S64 [(.sl 7 al1), (.int .i64 ai2)] K = f64 G k al1 ai2 K := by kernel_rfl
theorem lo64 : loopsOf (bodyOf Try.f64) = [] := by kernel_rfl
theorem la64 {R : Type} (G : ORC R) (k : Nat) : LoopsAre (TAB.env 64) G (L64 G k) (bodyOf Try.f64) :=
  loopsAre_of (by rw [lo64]; intro p hp; cases hp)
def g64 {R : Type} (G : ORC R) (k : Nat) (args : List V) (K : List V → Option R) : Option R := match args with
  | [(.sl 7 al1), (.int .i64 ai2)] => f64 G k al1 ai2 K
  | _ => none
theorem s64 {R : Type} {G : ORC R} {k : Nat} (hG : Sound Try.prog TAB G) (args : List V) (K : List V → Option R) (r : R) (h : g64 G k args K = some r) : ∃ o, CallOK Try.prog TAB.env 64 args o ∧ K o = some r := by
  unfold g64 at h
  split at h
  · rw [← f64_is] at h
    exact callF_sound (f := 64) TAB_chk MO hG Try.func64 (sg := S64) (by kernel_rfl) (by kernel_rfl) (la64 G k) h
  · cases h
end Go.Proofs.Ytblabbcmokldiaa.Vm
open Go Go.VM
set_option linter.unusedVariables false
set_option maxRecDepth 100000
set_option maxHeartbeats 4000000
namespace Go.Proofs.Ytblabbcmokldiaa.Vm
/-! ### cotillion/cotillionref13.In: function 21 -/
def L21 {R : Type} (_ : ORC R) (_ : Nat) : Nat → St → (Ex → St → Option R) → Option R := fun _ _ _ => none
def f21 {R : Type} (G : ORC R) (k : Nat) (al1 : List V) (ai2 ai3 : Int) (K : List V → Option R) : Option R :=
  (G 64 [(.sl 7 al1), (.int .i64 ai2)] fun o4 => (uB o4 fun b6 r5 => (unNil r5 (bif b6 then (G 64 [(.sl 7 al1), (.int .i64 ai3)] fun o7 => (uB o7 fun b9 r8 => (unNil r8 (bif b9 then (bif (decide (ai2 ≥ ai3)) then (bif ((decide (0 ≤ ai3)) && (decide (ai3 < ((List.length al1 : Nat) : Int)))) then (nthK al1 (Int.toNat ai3) fun e10 => (ca7 e10 fun c11 c12 c13 c14 c15 c16 c17 => (aI .i64 c13 fun n18 => (K [(.bool (decide (ai2 ≤ n18)))])))) else none) else (K [(.bool false)])) else (K [(.bool false)]))))) else (K [(.bool false)])))))
theorem f21_is {R : Type} (G : ORC R) (k : Nat) (K : List V → Option R) (al1 : List V) (ai2 ai3 : Int) :
    callF (TAB.env 21) G (L21 G k) Try.f21 S21 [(.sl 7 al1), (.int .i64 ai2), (.int .i64 ai3)] K = f21 G k al1 ai2 ai3 K := by kernel_rfl
theorem lo21 : loopsOf (bodyOf Try.f21) = [] := by kernel_rfl
theorem la21 {R : Type} (G : ORC R) (k : Nat) : LoopsAre (TAB.env 21) G (L21 G k) (bodyOf Try.f21) :=
  loopsAre_of (by rw [lo21]; intro p hp; cases hp)
def g21 {R : Type} (G : ORC R) (k : Nat) (args : List V) (K : List V → Option R) : Option R := match args with
  | [(.sl 7 al1), (.int .i64 ai2), (.int .i64 ai3)] => f21 G k al1 ai2 ai3 K
  | _ => none
theorem s21 {R : Type} {G : ORC R} {k : Nat} (hG : Sound Try.prog TAB G) (args : List V) (K : List V → Option R) (r : R) (h : g21 G k args K = some r) : ∃ o, CallOK Try.prog TAB.env 21 args o ∧ K o = some r := by
  unfold g21 at h
  split at h
  · rw [← f21_is] at h
    exact callF_sound (f := 21) TAB_chk MO hG Try.func21 (sg := S21) (by kernel_rfl) (by kernel_rfl) (la21 G k) h
  · cases h
end Go.Proofs.Ytblabbcmokldiaa.Vm
open Go Go.VM
set_option linter.unusedVariables false
set_option maxRecDepth 100000
set_option maxHeartbeats 4000000
namespace Go.Proofs.Ytblabbcmokldiaa.Vm
/-! ### cotillion/cotillionref14.Dom: function 40 -/
def P40_0h : Pat := { tmps := unds [.var (.sl 7) .ro, .var (.int .i64) .pr, .var (.int .i64) .pr, .undef, .undef, .undef, .undef, .var (.int .i64) .pr, .var (.int .i64) .pr] 46 [], boxes := nons [] 55 [] }
def P40_0x : Pat := { tmps := unds [] 7 (unds [.var (.int .i64) .pr] 47 []), boxes := nons [] 55 [] }
def b40_0 {R : Type} (G : ORC R) (k : Nat) (X : List V → Int → Int → Int → Int → Option R) (Ko : Int → Option R) (xl10 : List V) (xi11 xi12 : Int) (xi13 xi14 : Int) : Option R :=
  (bif (decide (xi14 < ((List.length xl10 : Nat) : Int))) then (bif ((decide (0 ≤ xi14)) && (decide (xi14 < ((List.length xl10 : Nat) : Int)))) then (nthK xl10 (Int.toNat xi14) fun e15 => (ca7 e15 fun c16 c17 c18 c19 c20 c21 c22 => (aI .i64 c16 fun n23 => (bif (n23 == 2) then (bif (xi14 != xi11) then (bif (xi14 != xi12) then (G 21 [(.sl 7 xl10), (.int .i64 xi11), (.int .i64 xi14)] fun o24 => (uB o24 fun b26 r25 => (unNil r25 (bif b26 then (G 21 [(.sl 7 xl10), (.int .i64 xi12), (.int .i64 xi14)] fun o27 => (uB o27 fun b29 r28 => (unNil r28 (bif b29 then (X xl10 xi11 xi12 xi14 (IntKind.i64.wrap (xi14 + 1))) else (X xl10 xi11 xi12 xi13 (IntKind.i64.wrap (xi14 + 1))))))) else (X xl10 xi11 xi12 xi13 (IntKind.i64.wrap (xi14 + 1))))))) else (X xl10 xi11 xi12 xi13 (IntKind.i64.wrap (xi14 + 1)))) else (X xl10 xi11 xi12 xi13 (IntKind.i64.wrap (xi14 + 1)))) else (X xl10 xi11 xi12 xi13 (IntKind.i64.wrap (xi14 + 1))))))) else none) else (Ko xi13))
def l40_0g {R : Type} (G : ORC R) (k : Nat) (Ko : Int → Option R) : Nat → List V → Int → Int → Int → Int → Option R
  | 0 => fun _ _ _ _ _ => none
  | j + 1 => b40_0 G k (l40_0g G k Ko j) Ko
def l40_0 {R : Type} (G : ORC R) (k : Nat) (xl10 : List V) (xi11 xi12 : Int) (xi13 xi14 : Int) (Ko : Int → Option R) : Option R := l40_0g G k Ko k xl10 xi11 xi12 xi13 xi14
def rd40_0 {R : Type} (G : ORC R) (k : Nat) (K : Ex → St → Option R) (j : Nat) (vs : List V) : Option R := match vs with
  | [(.sl 7 xl10), (.int .i64 xi11), (.int .i64 xi12), (.int .i64 xi13), (.int .i64 xi14)] => l40_0g G k (fun yi31 => K .normal (P40_0x.inst [(.int .i64 yi31)])) j xl10 xi11 xi12 xi13 xi14
  | _ => none
def L40 {R : Type} (G : ORC R) (k : Nat) : Nat → St → (Ex → St → Option R) → Option R
  | 0, S, K => P40_0h.mat S fun vs => rd40_0 G k K k vs
  | _, _, _ => none
def f40 {R : Type} (G : ORC R) (k : Nat) (al1 : List V) (ai2 ai3 : Int) (K : List V → Option R) : Option R :=
  (G 64 [(.sl 7 al1), (.int .i64 ai2)] fun o4 => (uB o4 fun b6 r5 => (unNil r5 (bif (!b6) then (K [(.int .i64 (-1))]) else (G 64 [(.sl 7 al1), (.int .i64 ai3)] fun o7 => (uB o7 fun b9 r8 => (unNil r8 (bif (!b9) then (K [(.int .i64 (-1))]) else (l40_0 G k al1 ai2 ai3 (-1) 0 (fun yi30 => (K [(.int .i64 yi30)])))))))))))
noncomputable def D40_0 : LoopD := { id := 0, body := loopAt 0 (bodyOf Try.f40), head := P40_0h, out := P40_0x, ret := default }
theorem l40_0_is {R : Type} (G : ORC R) (k : Nat) (X : List V → Option R) (K : Ex → St → Option R) (xl10 : List V) (xi11 xi12 : Int) (xi13 xi14 : Int) :
    roundOf (TAB.env 40) G (L40 G k) D40_0 X K [(.sl 7 xl10), (.int .i64 xi11), (.int .i64 xi12), (.int .i64 xi13), (.int .i64 xi14)] = b40_0 G k (fun xl10 xi11 xi12 xi13 xi14 => X [(.sl 7 xl10), (.int .i64 xi11), (.int .i64 xi12), (.int .i64 xi13), (.int .i64 xi14)]) (fun yi31 => K .normal (P40_0x.inst [(.int .i64 yi31)])) xl10 xi11 xi12 xi13 xi14 := by kernel_rfl
theorem f40_is {R : Type} (G : ORC R) (k : Nat) (K : List V → Option R) (al1 : List V) (ai2 ai3 : Int) :
    callF (TAB.env 40) G (L40 G k) Try.f40 S40 [(.sl 7 al1), (.int .i64 ai2), (.int .i64 ai3)] K = f40 G k al1 ai2 ai3 K := by kernel_rfl
theorem li40_0 {R : Type} (G : ORC R) (k : Nat) : LoopIs (TAB.env 40) G (L40 G k) 0 (loopAt 0 (bodyOf Try.f40)) :=
  ⟨D40_0, fun j vs K => rd40_0 G k K j vs, k, rfl, rfl, by kernel_rfl, by kernel_rfl, by kernel_rfl, (fun vs K => by unfold rd40_0; dsimp only; split <;> rfl),
    (fun j vs K r h => by
      unfold rd40_0 at h
      dsimp only at h
      split at h
      · rw [l40_0_is]; exact h
      · cases h), (fun S K r h => h)⟩
theorem lo40 : loopsOf (bodyOf Try.f40) = [(0, loopAt 0 (bodyOf Try.f40))] := by kernel_rfl
theorem la40 {R : Type} (G : ORC R) (k : Nat) : LoopsAre (TAB.env 40) G (L40 G k) (bodyOf Try.f40) :=
  loopsAre_of (by rw [lo40]; intro p hp; simp only [List.mem_cons, List.not_mem_nil, or_false] at hp; subst hp; exact li40_0 G k)
def g40 {R : Type} (G : ORC R) (k : Nat) (args : List V) (K : List V → Option R) : Option R := match args with
  | [(.sl 7 al1), (.int .i64 ai2), (.int .i64 ai3)] => f40 G k al1 ai2 ai3 K
  | _ => none
theorem s40 {R : Type} {G : ORC R} {k : Nat} (hG : Sound Try.prog TAB G) (args : List V) (K : List V → Option R) (r : R) (h : g40 G k args K = some r) : ∃ o, CallOK Try.prog TAB.env 40 args o ∧ K o = some r := by
  unfold g40 at h
  split at h
  · rw [← f40_is] at h
    exact callF_sound (f := 40) TAB_chk MO hG Try.func40 (sg := S40) (by kernel_rfl) (by kernel_rfl) (la40 G k) h
  · cases h
end Go.Proofs.Ytblabbcmokldiaa.Vm
open Go Go.VM
set_option linter.unusedVariables false
set_option maxRecDepth 100000
set_option maxHeartbeats 8000000
namespace Go.Proofs.Ytblabbcmokldiaa.Vm
section
variable {R : Type} {G : ORC R} {k : Nat} {K : List V → Option R}
def FindOK (G : ORC R) : Prop := ∀ (l : List Nd) (s : ByteArray) (K : List V → Option R), l.length ≤ 1000 → W (fun o => o = [.int .i64 (findN l s)]) K (G 19 [.sl 7 (l.map Nd.v), .str s] K)
theorem find_loop {Q : List V → Prop} {K : List V → Option R} {Ko : Unit → Option R} {Kr : Int → Option R} {l : List Nd} {s : ByteArray} (hl : l.length ≤ 1000)
    (hKo : findN l s = -1 → W Q K (Ko ())) (hKr : ∀ i, i = findN l s → W Q K (Kr i)) :
    ∀ (j i : Nat), l.length - i < j → findGo s (l.drop i) i = findN l s → W Q K (l19_0g G k Ko Kr j (l.map Nd.v) s i)
  | 0, i, h1, h2 => by omega
  | j + 1, i, h1, h2 => by
    show W Q K (b19_0 G k (l19_0g G k Ko Kr j) Ko Kr (l.map Nd.v) s i)
    unfold b19_0
    simp only [List.length_map]
    refine W_dec (fun h => ?_) (fun h => ?_)
    · refine W_and (W_yes (by omega) (W_yes h ?_))
      refine W_nthN (by omega) (fun n hn => W_nd ?_)
      rw [Int.toNat_natCast] at hn
      have hd : l.drop i = n :: l.drop (i + 1) := by
        have hi : i < l.length := by omega
        rw [List.drop_eq_getElem_cons hi]
        rw [List.getElem?_eq_getElem hi] at hn; cases hn; rfl
      refine W_ce7 (W_asStr ?_)
      rw [hd] at h2
      unfold findGo at h2
      refine W_bool (fun e => ?_) (fun e => ?_)
      · rw [if_pos (beq_iff_eq.1 e)] at h2
        exact hKr _ h2
      · rw [if_neg (fun e' => by rw [e', beq_self_eq_true] at e; cases e)] at h2
        rw [wrap_id (n := (i : Int) + 1) (by omega)]
        exact find_loop hl hKo hKr j (i + 1) (by omega) h2
    · refine hKo ?_
      rw [← h2, List.drop_eq_nil_of_le (by omega)]; rfl
theorem find_ok (hk : 10000 ≤ k) : FindOK (fun _ args (K : List V → Option R) => g19 G k args K) := by
  intro l s K hl
  show W _ K (f19 G k (l.map Nd.v) s K)
  unfold f19 l19_0
  exact find_loop (Q := fun o => o = [.int .i64 (findN l s)]) (K := K) (Ko := fun _ => K [.int .i64 (-1)]) (Kr := fun i => K [.int .i64 i]) hl (fun e => W_ret (by rw [e])) (fun i e => W_ret (by rw [e])) k 1 (by omega) rfl
def IsOK (G : ORC R) : Prop := ∀ (l : List V) (i : Int) (K : List V → Option R), W (fun o => o = [.bool (decide (0 ≤ i ∧ i < l.length))]) K (G 64 [.sl 7 l, .int .i64 i] K)
theorem is_ok : IsOK (fun _ args (K : List V → Option R) => g64 G k args K) := by
  intro l i K
  show W _ K (f64 G k l i K)
  unfold f64
  refine W_dec (fun h => ?_) (fun h => ?_)
  · exact W_ret (by congr 3; simp; omega)
  · exact W_ret (by congr 2; symm; rw [decide_eq_false]; omega)
def InOK (G : ORC R) : Prop := ∀ (l : List Nd) (a b : Int) (K : List V → Option R), W (fun o => o = [.bool (inN l a b)]) K (G 21 [.sl 7 (l.map Nd.v), .int .i64 a, .int .i64 b] K)
theorem in_ok (hI : IsOK G) : InOK (fun _ args (K : List V → Option R) => g21 G k args K) := by
  intro l a b K
  show W _ K (f21 G k (l.map Nd.v) a b K)
  unfold f21
  unfold IsOK at hI
  have no : ¬ (0 ≤ a ∧ a < l.length ∧ 0 ≤ b ∧ b < l.length ∧ a ≥ b) → inN l a b = false := fun h => by unfold inN; rw [decide_eq_false h]; rfl
  refine W_call (hI _ _ _) ?_
  rintro _ rfl
  refine W_uB (W_unNil ?_)
  simp only [List.length_map]
  refine W_dec (fun h1 => ?_) (fun h1 => W_ret (by rw [no (by omega)]))
  refine W_call (hI _ _ _) ?_
  rintro _ rfl
  refine W_uB (W_unNil ?_)
  simp only [List.length_map]
  refine W_dec (fun h2 => ?_) (fun h2 => W_ret (by rw [no (by omega)]))
  refine W_dec (fun h3 => ?_) (fun h3 => W_ret (by rw [no (by omega)]))
  refine W_and (W_yes h2.1 (W_yes h2.2 ?_))
  refine W_nthN (by omega) (fun n hn => W_nd ?_)
  refine W_ce7 (W_aI ?_)
  have e : inN l a b = decide (a ≤ n.last) := by
    unfold inN
    rw [decide_eq_true (show 0 ≤ a ∧ a < l.length ∧ 0 ≤ b ∧ b < l.length ∧ a ≥ b from ⟨h1.1, h1.2, h2.1, h2.2, h3⟩), hn]; rfl
  exact W_ret (by rw [e])
def DomOK (G : ORC R) : Prop := ∀ (l : List Nd) (a b : Int) (K : List V → Option R), l.length ≤ 1000 → W (fun o => o = [.int .i64 (domN l a b)]) K (G 40 [.sl 7 (l.map Nd.v), .int .i64 a, .int .i64 b] K)
theorem dom_no {l : List Nd} {a b : Int} (h : ¬ (0 ≤ a ∧ a < l.length) ∨ ¬ (0 ≤ b ∧ b < l.length)) : ∀ i, domGo l a b i = -1
  | 0 => rfl
  | i + 1 => by
    unfold domGo
    have e : domAt l a b i = false := by
      unfold domAt
      rcases h with h | h
      · rw [show inN l a i = false by unfold inN; rw [decide_eq_false (by omega)]; rfl]; simp
      · rw [show inN l b i = false by unfold inN; rw [decide_eq_false (by omega)]; rfl]; simp
    rw [if_neg (by rw [e]; simp)]
    exact dom_no h i
theorem dom_loop (hI : InOK G) {Q : List V → Prop} {K : List V → Option R} {Ko : Int → Option R} {l : List Nd} {a b : Int} (hl : l.length ≤ 1000)
    (hKo : W Q K (Ko (domN l a b))) :
    ∀ (j i : Nat), l.length - i < j → i ≤ l.length → W Q K (l40_0g G k Ko j (l.map Nd.v) a b (domGo l a b i) i)
  | 0, i, h1, h2 => by omega
  | j + 1, i, h1, h2 => by
    show W Q K (b40_0 G k (l40_0g G k Ko j) Ko (l.map Nd.v) a b (domGo l a b i) i)
    unfold b40_0
    simp only [List.length_map]
    unfold InOK at hI
    refine W_dec (fun h => ?_) (fun h => ?_)
    · have hi : i < l.length := by omega
      have hgo : ∀ d, domGo l a b (i + 1) = d → W Q K (l40_0g G k Ko j (l.map Nd.v) a b d (IntKind.i64.wrap ((i : Int) + 1))) := by
        intro d hd
        rw [wrap_id (n := (i : Int) + 1) (by omega), ← hd]
        exact dom_loop hI hl hKo j (i + 1) (by omega) (by omega)
      have hN : domAt l a b i = false → domGo l a b (i + 1) = domGo l a b i := fun e => by
        show (if domAt l a b i = true then (i : Int) else domGo l a b i) = _
        rw [if_neg (by rw [e]; simp)]
      have hY : domAt l a b i = true → domGo l a b (i + 1) = i := fun e => by
        show (if domAt l a b i = true then (i : Int) else domGo l a b i) = _
        rw [if_pos e]
      refine W_and (W_yes (by omega) (W_yes h ?_))
      refine W_nthN (by omega) (fun n hn => W_nd ?_)
      rw [Int.toNat_natCast] at hn
      have hat : domAt l a b i = (decide (n.kind = 2) && decide ((i : Int) ≠ a) && decide ((i : Int) ≠ b) && inN l a i && inN l b i) := by unfold domAt; rw [hn]
      refine W_ce7 (W_aI ?_)
      refine W_beqI (fun e1 => ?_) (fun e1 => hgo _ (hN (by rw [hat, decide_eq_false e1]; rfl)))
      refine W_bool (fun e2 => ?_) (fun e2 => hgo _ (hN (by rw [hat]; simp at e2; simp [e2])))
      refine W_bool (fun e3 => ?_) (fun e3 => hgo _ (hN (by rw [hat]; simp at e3; simp [e3])))
      refine W_call (hI _ _ _ _) ?_
      rintro _ rfl
      refine W_uB (W_unNil ?_)
      refine W_bool (fun e4 => ?_) (fun e4 => hgo _ (hN (by rw [hat, e4]; simp)))
      refine W_call (hI _ _ _ _) ?_
      rintro _ rfl
      refine W_uB (W_unNil ?_)
      refine W_bool (fun e5 => ?_) (fun e5 => hgo _ (hN (by rw [hat, e5]; simp)))
      refine hgo _ (hY ?_)
      rw [hat, e4, e5, decide_eq_true e1]
      simp at e2 e3
      simp [e2, e3]
    · have he : i = l.length := by omega
      subst he
      exact hKo
theorem dom_ok (hk : 10000 ≤ k) (hIs : IsOK G) (hI : InOK G) : DomOK (fun _ args (K : List V → Option R) => g40 G k args K) := by
  intro l a b K hl
  show W _ K (f40 G k (l.map Nd.v) a b K)
  unfold f40
  unfold IsOK at hIs
  refine W_call (hIs _ _ _) ?_
  rintro _ rfl
  refine W_uB (W_unNil (W_not ?_))
  simp only [List.length_map]
  refine W_dec (fun h1 => ?_) (fun h1 => W_ret (by unfold domN; rw [dom_no (.inl h1)]))
  refine W_call (hIs _ _ _) ?_
  rintro _ rfl
  refine W_uB (W_unNil (W_not ?_))
  simp only [List.length_map]
  refine W_dec (fun h2 => ?_) (fun h2 => W_ret (by unfold domN; rw [dom_no (.inr h2)]))
  unfold l40_0
  exact dom_loop (Q := fun o => o = [.int .i64 (domN l a b)]) (K := K) (Ko := fun d => K [.int .i64 d]) hI hl (W_ret rfl) k 0 (by omega) (by omega)
end
end Go.Proofs.Ytblabbcmokldiaa.Vm
open Go Go.VM
set_option linter.unusedVariables false
set_option maxRecDepth 100000
set_option maxHeartbeats 4000000
namespace Go.Proofs.Ytblabbcmokldiaa.Vm
/-! ### cotillion/cotillionlaw14.LccaDoms: function 7 -/
def L7 {R : Type} (_ : ORC R) (_ : Nat) : Nat → St → (Ex → St → Option R) → Option R := fun _ _ _ => none
def f7 {R : Type} (G : ORC R) (k : Nat) (al1 : List V) (ai2 ai3 : Int) (K : List V → Option R) : Option R :=
  (bif (decide (((List.length al1 : Nat) : Int) > 200)) then (G 37 [] fun o4 => (uB o4 fun b6 r5 => (unNil r5 (K [(.bool b6)])))) else (G 38 [(.sl 1 al1)] fun o7 => (uL 7 o7 fun l9 r8 => (unNil r8 (G 25 [(.int .i64 ai2), (.int .i64 ((List.length l9 : Nat) : Int))] fun o10 => (uI .i64 o10 fun n12 r11 => (unNil r11 (G 25 [(.int .i64 ai3), (.int .i64 ((List.length l9 : Nat) : Int))] fun o13 => (uI .i64 o13 fun n15 r14 => (unNil r14 (G 39 [(.sl 7 l9), (.int .i64 n12), (.int .i64 n15)] fun o16 => (uI .i64 o16 fun n18 r17 => (unNil r17 (G 40 [(.sl 7 l9), (.int .i64 n12), (.int .i64 n15)] fun o19 => (uI .i64 o19 fun n21 r20 => (unNil r20 (bif (n18 != n21) then (K [(.bool false)]) else (G 39 [(.sl 7 l9), (.int .i64 ai2), (.int .i64 ai3)] fun o22 => (uI .i64 o22 fun n24 r23 => (unNil r23 (G 40 [(.sl 7 l9), (.int .i64 ai2), (.int .i64 ai3)] fun o25 => (uI .i64 o25 fun n27 r26 => (unNil r26 (bif (n24 != n27) then (K [(.bool false)]) else (G 39 [(.sl 7 l9), (.int .i64 n15), (.int .i64 n12)] fun o28 => (uI .i64 o28 fun n30 r29 => (unNil r29 (bif (n18 != n30) then (K [(.bool false)]) else (bif (n12 == 0) then (bif (true == (decide (n18 < 0))) then (bif (decide (n18 < 0)) then (G 37 [] fun o31 => (uB o31 fun b33 r32 => (unNil r32 (K [(.bool b33)])))) else (bif ((decide (0 ≤ n18)) && (decide (n18 < ((List.length l9 : Nat) : Int)))) then (nthK l9 (Int.toNat n18) fun e34 => (ca7 e34 fun c35 c36 c37 c38 c39 c40 c41 => (aI .i64 c35 fun n42 => (bif (n42 == 2) then (bif (decide (n18 < n12)) then (bif (decide (n18 < n15)) then (G 20 [(.sl 7 l9), (.int .i64 n12), (.int .i64 n18)] fun o43 => (uB o43 fun b45 r44 => (unNil r44 (bif b45 then (G 20 [(.sl 7 l9), (.int .i64 n15), (.int .i64 n18)] fun o46 => (uB o46 fun b48 r47 => (unNil r47 (bif b48 then (G 37 [] fun o49 => (uB o49 fun b51 r50 => (unNil r50 (K [(.bool b51)])))) else (K [(.bool false)]))))) else (K [(.bool false)]))))) else (K [(.bool false)])) else (K [(.bool false)])) else (K [(.bool false)]))))) else none)) else (K [(.bool false)])) else (bif ((n15 == 0) == (decide (n18 < 0))) then (bif (decide (n18 < 0)) then (G 37 [] fun o52 => (uB o52 fun b54 r53 => (unNil r53 (K [(.bool b54)])))) else (bif ((decide (0 ≤ n18)) && (decide (n18 < ((List.length l9 : Nat) : Int)))) then (nthK l9 (Int.toNat n18) fun e55 => (ca7 e55 fun c56 c57 c58 c59 c60 c61 c62 => (aI .i64 c56 fun n63 => (bif (n63 == 2) then (bif (decide (n18 < n12)) then (bif (decide (n18 < n15)) then (G 20 [(.sl 7 l9), (.int .i64 n12), (.int .i64 n18)] fun o64 => (uB o64 fun b66 r65 => (unNil r65 (bif b66 then (G 20 [(.sl 7 l9), (.int .i64 n15), (.int .i64 n18)] fun o67 => (uB o67 fun b69 r68 => (unNil r68 (bif b69 then (G 37 [] fun o70 => (uB o70 fun b72 r71 => (unNil r71 (K [(.bool b72)])))) else (K [(.bool false)]))))) else (K [(.bool false)]))))) else (K [(.bool false)])) else (K [(.bool false)])) else (K [(.bool false)]))))) else none)) else (K [(.bool false)])))))))))))))))))))))))))))))))
theorem f7_is {R : Type} (G : ORC R) (k : Nat) (K : List V → Option R) (al1 : List V) (ai2 ai3 : Int) :
    callF (TAB.env 7) G (L7 G k) Try.f7 S7 [(.sl 1 al1), (.int .i64 ai2), (.int .i64 ai3)] K = f7 G k al1 ai2 ai3 K := by kernel_rfl
theorem lo7 : loopsOf (bodyOf Try.f7) = [] := by kernel_rfl
theorem la7 {R : Type} (G : ORC R) (k : Nat) : LoopsAre (TAB.env 7) G (L7 G k) (bodyOf Try.f7) :=
  loopsAre_of (by rw [lo7]; intro p hp; cases hp)
def g7 {R : Type} (G : ORC R) (k : Nat) (args : List V) (K : List V → Option R) : Option R := match args with
  | [(.sl 1 al1), (.int .i64 ai2), (.int .i64 ai3)] => f7 G k al1 ai2 ai3 K
  | _ => none
theorem s7 {R : Type} {G : ORC R} {k : Nat} (hG : Sound Try.prog TAB G) (args : List V) (K : List V → Option R) (r : R) (h : g7 G k args K = some r) : ∃ o, CallOK Try.prog TAB.env 7 args o ∧ K o = some r := by
  unfold g7 at h
  split at h
  · rw [← f7_is] at h
    exact callF_sound (f := 7) TAB_chk MO hG Try.func7 (sg := S7) (by kernel_rfl) (by kernel_rfl) (la7 G k) h
  · cases h
end Go.Proofs.Ytblabbcmokldiaa.Vm
open Go Go.VM
set_option linter.unusedVariables false
set_option maxRecDepth 100000
set_option maxHeartbeats 4000000
namespace Go.Proofs.Ytblabbcmokldiaa.Vm
/-! ### cotillion/flat.In: function 20 -/
def L20 {R : Type} (_ : ORC R) (_ : Nat) : Nat → St → (Ex → St → Option R) → Option R := fun _ _ _ => none
def f20 {R : Type} (G : ORC R) (k : Nat) (al1 : List V) (ai2 ai3 : Int) (K : List V → Option R) : Option R :=
  (G 63 [(.sl 7 al1), (.int .i64 ai2)] fun o4 => (uB o4 fun b6 r5 => (unNil r5 (bif b6 then (G 63 [(.sl 7 al1), (.int .i64 ai3)] fun o7 => (uB o7 fun b9 r8 => (unNil r8 (bif b9 then (bif (decide (ai2 ≥ ai3)) then (bif ((decide (0 ≤ ai3)) && (decide (ai3 < ((List.length al1 : Nat) : Int)))) then (nthK al1 (Int.toNat ai3) fun e10 => (ca7 e10 fun c11 c12 c13 c14 c15 c16 c17 => (aI .i64 c13 fun n18 => (K [(.bool (decide (ai2 ≤ n18)))])))) else none) else (K [(.bool false)])) else (K [(.bool false)]))))) else (K [(.bool false)])))))
theorem f20_is {R : Type} (G : ORC R) (k : Nat) (K : List V → Option R) (al1 : List V) (ai2 ai3 : Int) :
    callF (TAB.env 20) G (L20 G k) Try.f20 S20 [(.sl 7 al1), (.int .i64 ai2), (.int .i64 ai3)] K = f20 G k al1 ai2 ai3 K := by kernel_rfl
theorem lo20 : loopsOf (bodyOf Try.f20) = [] := by kernel_rfl
theorem la20 {R : Type} (G : ORC R) (k : Nat) : LoopsAre (TAB.env 20) G (L20 G k) (bodyOf Try.f20) :=
  loopsAre_of (by rw [lo20]; intro p hp; cases hp)
def g20 {R : Type} (G : ORC R) (k : Nat) (args : List V) (K : List V → Option R) : Option R := match args with
  | [(.sl 7 al1), (.int .i64 ai2), (.int .i64 ai3)] => f20 G k al1 ai2 ai3 K
  | _ => none
theorem s20 {R : Type} {G : ORC R} {k : Nat} (hG : Sound Try.prog TAB G) (args : List V) (K : List V → Option R) (r : R) (h : g20 G k args K = some r) : ∃ o, CallOK Try.prog TAB.env 20 args o ∧ K o = some r := by
  unfold g20 at h
  split at h
  · rw [← f20_is] at h
    exact callF_sound (f := 20) TAB_chk MO hG Try.func20 (sg := S20) (by kernel_rfl) (by kernel_rfl) (la20 G k) h
  · cases h
end Go.Proofs.Ytblabbcmokldiaa.Vm
open Go Go.VM
set_option linter.unusedVariables false
set_option maxRecDepth 100000
set_option maxHeartbeats 4000000
namespace Go.Proofs.Ytblabbcmokldiaa.Vm
/-! ### cotillion/cotillionref3.Same: function 22 -/
def P22_0h : Pat := { tmps := unds [.var (.sl 1) .ro, .var (.sl 1) .ro, .undef, .undef, .undef, .var (.int .i64) .pr] 20 [], boxes := nons [] 26 [] }
def P22_0x : Pat := { tmps := unds [] 26 [], boxes := nons [] 26 [] }
def P22_0r : Pat := { tmps := unds [.undef, .undef, .undef, .undef, .var .bool .pr] 21 [], boxes := nons [] 26 [] }
def b22_0 {R : Type} (G : ORC R) (k : Nat) (X : List V → List V → Int → Option R) (Ko : Unit → Option R) (Kr : Bool → Option R) (xl3 xl4 : List V) (xi5 : Int) : Option R :=
  (bif (decide (xi5 < ((List.length xl3 : Nat) : Int))) then (bif ((decide (0 ≤ xi5)) && (decide (xi5 < ((List.length xl3 : Nat) : Int)))) then (nthK xl3 (Int.toNat xi5) fun e6 => (aI .i64 e6 fun n7 => (bif ((decide (0 ≤ xi5)) && (decide (xi5 < ((List.length xl4 : Nat) : Int)))) then (nthK xl4 (Int.toNat xi5) fun e8 => (aI .i64 e8 fun n9 => (bif (n7 != n9) then (Kr false) else (X xl3 xl4 (IntKind.i64.wrap (xi5 + 1)))))) else none))) else none) else (Ko ()))
def l22_0g {R : Type} (G : ORC R) (k : Nat) (Ko : Unit → Option R) (Kr : Bool → Option R) : Nat → List V → List V → Int → Option R
  | 0 => fun _ _ _ => none
  | j + 1 => b22_0 G k (l22_0g G k Ko Kr j) Ko Kr
def l22_0 {R : Type} (G : ORC R) (k : Nat) (xl3 xl4 : List V) (xi5 : Int) (Ko : Unit → Option R) (Kr : Bool → Option R) : Option R := l22_0g G k Ko Kr k xl3 xl4 xi5
def rd22_0 {R : Type} (G : ORC R) (k : Nat) (K : Ex → St → Option R) (j : Nat) (vs : List V) : Option R := match vs with
  | [(.sl 1 xl3), (.sl 1 xl4), (.int .i64 xi5)] => l22_0g G k (fun _ => K .normal (P22_0x.inst [])) (fun yb11 => K .ret (P22_0r.inst [(.bool yb11)])) j xl3 xl4 xi5
  | _ => none
def L22 {R : Type} (G : ORC R) (k : Nat) : Nat → St → (Ex → St → Option R) → Option R
  | 0, S, K => P22_0h.mat S fun vs => rd22_0 G k K k vs
  | _, _, _ => none
def f22 {R : Type} (G : ORC R) (k : Nat) (al1 al2 : List V) (K : List V → Option R) : Option R :=
  (bif (((List.length al1 : Nat) : Int) != ((List.length al2 : Nat) : Int)) then (K [(.bool false)]) else (l22_0 G k al1 al2 0 (fun (_ : Unit) => (K [(.bool true)])) (fun yb10 => (K [(.bool yb10)]))))
noncomputable def D22_0 : LoopD := { id := 0, body := loopAt 0 (bodyOf Try.f22), head := P22_0h, out := P22_0x, ret := P22_0r }
theorem l22_0_is {R : Type} (G : ORC R) (k : Nat) (X : List V → Option R) (K : Ex → St → Option R) (xl3 xl4 : List V) (xi5 : Int) :
    roundOf (TAB.env 22) G (L22 G k) D22_0 X K [(.sl 1 xl3), (.sl 1 xl4), (.int .i64 xi5)] = b22_0 G k (fun xl3 xl4 xi5 => X [(.sl 1 xl3), (.sl 1 xl4), (.int .i64 xi5)]) (fun _ => K .normal (P22_0x.inst [])) (fun yb11 => K .ret (P22_0r.inst [(.bool yb11)])) xl3 xl4 xi5 := by kernel_rfl
theorem f22_is {R : Type} (G : ORC R) (k : Nat) (K : List V → Option R) (al1 al2 : List V) :
    callF (TAB.env 22) G (L22 G k) Try.f22 S22 [(.sl 1 al1), (.sl 1 al2)] K = f22 G k al1 al2 K := by kernel_rfl
theorem li22_0 {R : Type} (G : ORC R) (k : Nat) : LoopIs (TAB.env 22) G (L22 G k) 0 (loopAt 0 (bodyOf Try.f22)) :=
  ⟨D22_0, fun j vs K => rd22_0 G k K j vs, k, rfl, rfl, by kernel_rfl, by kernel_rfl, by kernel_rfl, (fun vs K => by unfold rd22_0; dsimp only; split <;> rfl),
    (fun j vs K r h => by
      unfold rd22_0 at h
      dsimp only at h
      split at h
      · rw [l22_0_is]; exact h
      · cases h), (fun S K r h => h)⟩
theorem lo22 : loopsOf (bodyOf Try.f22) = [(0, loopAt 0 (bodyOf Try.f22))] := by kernel_rfl
theorem la22 {R : Type} (G : ORC R) (k : Nat) : LoopsAre (TAB.env 22) G (L22 G k) (bodyOf Try.f22) :=
  loopsAre_of (by rw [lo22]; intro p hp; simp only [List.mem_cons, List.not_mem_nil, or_false] at hp; subst hp; exact li22_0 G k)
def g22 {R : Type} (G : ORC R) (k : Nat) (args : List V) (K : List V → Option R) : Option R := match args with
  | [(.sl 1 al1), (.sl 1 al2)] => f22 G k al1 al2 K
  | _ => none
theorem s22 {R : Type} {G : ORC R} {k : Nat} (hG : Sound Try.prog TAB G) (args : List V) (K : List V → Option R) (r : R) (h : g22 G k args K = some r) : ∃ o, CallOK Try.prog TAB.env 22 args o ∧ K o = some r := by
  unfold g22 at h
  split at h
  · rw [← f22_is] at h
    exact callF_sound (f := 22) TAB_chk MO hG Try.func22 (sg := S22) (by kernel_rfl) (by kernel_rfl) (la22 G k) h
  · cases h
end Go.Proofs.Ytblabbcmokldiaa.Vm
open Go Go.VM
set_option linter.unusedVariables false
set_option maxRecDepth 100000
set_option maxHeartbeats 4000000
namespace Go.Proofs.Ytblabbcmokldiaa.Vm
/-! ### cotillion/flat.Kids: function 23 -/
def P23_0h : Pat := { tmps := unds [.var (.sl 7) .ro, .var (.int .i64) .pr, .undef, .undef, .undef, .var (.sl 1) (.own true), .undef, .undef, .var (.sl 7) .ro, .var (.int .i64) .pr, .var (.int .i64) .pr] 19 [], boxes := nons [] 30 [] }
def P23_0x : Pat := { tmps := unds [] 5 (unds [.var (.sl 1) (.own true)] 24 []), boxes := nons [] 30 [] }
def b23_0 {R : Type} (G : ORC R) (k : Nat) (X : List V → Int → List V → List V → Int → Int → Option R) (Ko : List V → Option R) (xl3 : List V) (xi4 : Int) (xl5 xl6 : List V) (xi7 xi8 : Int) : Option R :=
  (bif (decide (xi8 < xi7)) then (bif ((decide (0 ≤ xi8)) && (decide (xi8 < ((List.length xl6 : Nat) : Int)))) then (nthK xl6 (Int.toNat xi8) fun e9 => (V.asAgg e9 fun l10 => (ce7 l10 fun c11 c12 c13 c14 c15 c16 c17 => (aI .i64 c11 fun n26 => (aI .i64 c12 fun n27 => (aI .i64 c13 fun n28 => (aI .i64 c14 fun n29 => (aI .i64 c15 fun n30 => (aI .i64 c16 fun n31 => (V.asStr c17 fun s32 => (G 63 [(.sl 7 xl3), (.int .i64 xi4)] fun o33 => (uB o33 fun b35 r34 => (unNil r34 (bif b35 then (bif (n27 == xi4) then (bif (decide (List.length xl5 + 1 ≤ 1073741824)) then (X xl3 xi4 (xl5 ++ [(.int .i64 xi8)]) xl6 xi7 (IntKind.i64.wrap (xi8 + 1))) else none) else (X xl3 xi4 xl5 xl6 xi7 (IntKind.i64.wrap (xi8 + 1)))) else (X xl3 xi4 xl5 xl6 xi7 (IntKind.i64.wrap (xi8 + 1))))))))))))))))) else none) else (Ko xl5))
def l23_0g {R : Type} (G : ORC R) (k : Nat) (Ko : List V → Option R) : Nat → List V → Int → List V → List V → Int → Int → Option R
  | 0 => fun _ _ _ _ _ _ => none
  | j + 1 => b23_0 G k (l23_0g G k Ko j) Ko
def l23_0 {R : Type} (G : ORC R) (k : Nat) (xl3 : List V) (xi4 : Int) (xl5 xl6 : List V) (xi7 xi8 : Int) (Ko : List V → Option R) : Option R := l23_0g G k Ko k xl3 xi4 xl5 xl6 xi7 xi8
def rd23_0 {R : Type} (G : ORC R) (k : Nat) (K : Ex → St → Option R) (j : Nat) (vs : List V) : Option R := match vs with
  | [(.sl 7 xl3), (.int .i64 xi4), (.sl 1 xl5), (.sl 7 xl6), (.int .i64 xi7), (.int .i64 xi8)] => l23_0g G k (fun yl37 => K .normal (P23_0x.inst [(.sl 1 yl37)])) j xl3 xi4 xl5 xl6 xi7 xi8
  | _ => none
def L23 {R : Type} (G : ORC R) (k : Nat) : Nat → St → (Ex → St → Option R) → Option R
  | 0, S, K => P23_0h.mat S fun vs => rd23_0 G k K k vs
  | _, _, _ => none
def f23 {R : Type} (G : ORC R) (k : Nat) (al1 : List V) (ai2 : Int) (K : List V → Option R) : Option R :=
  (l23_0 G k al1 ai2 [] al1 ((List.length al1 : Nat) : Int) 0 (fun yl36 => (K [(.sl 1 yl36)])))
noncomputable def D23_0 : LoopD := { id := 0, body := loopAt 0 (bodyOf Try.f23), head := P23_0h, out := P23_0x, ret := default }
theorem l23_0_is {R : Type} (G : ORC R) (k : Nat) (X : List V → Option R) (K : Ex → St → Option R) (xl3 : List V) (xi4 : Int) (xl5 xl6 : List V) (xi7 xi8 : Int) :
    roundOf (TAB.env 23) G (L23 G k) D23_0 X K [(.sl 7 xl3), (.int .i64 xi4), (.sl 1 xl5), (.sl 7 xl6), (.int .i64 xi7), (.int .i64 xi8)] = b23_0 G k (fun xl3 xi4 xl5 xl6 xi7 xi8 => X [(.sl 7 xl3), (.int .i64 xi4), (.sl 1 xl5), (.sl 7 xl6), (.int .i64 xi7), (.int .i64 xi8)]) (fun yl37 => K .normal (P23_0x.inst [(.sl 1 yl37)])) xl3 xi4 xl5 xl6 xi7 xi8 := by kernel_rfl
theorem f23_is {R : Type} (G : ORC R) (k : Nat) (K : List V → Option R) (al1 : List V) (ai2 : Int) :
    callF (TAB.env 23) G (L23 G k) Try.f23 S23 [(.sl 7 al1), (.int .i64 ai2)] K = f23 G k al1 ai2 K := by kernel_rfl
theorem li23_0 {R : Type} (G : ORC R) (k : Nat) : LoopIs (TAB.env 23) G (L23 G k) 0 (loopAt 0 (bodyOf Try.f23)) :=
  ⟨D23_0, fun j vs K => rd23_0 G k K j vs, k, rfl, rfl, by kernel_rfl, by kernel_rfl, by kernel_rfl, (fun vs K => by unfold rd23_0; dsimp only; split <;> rfl),
    (fun j vs K r h => by
      unfold rd23_0 at h
      dsimp only at h
      split at h
      · rw [l23_0_is]; exact h
      · cases h), (fun S K r h => h)⟩
theorem lo23 : loopsOf (bodyOf Try.f23) = [(0, loopAt 0 (bodyOf Try.f23))] := by kernel_rfl
theorem la23 {R : Type} (G : ORC R) (k : Nat) : LoopsAre (TAB.env 23) G (L23 G k) (bodyOf Try.f23) :=
  loopsAre_of (by rw [lo23]; intro p hp; simp only [List.mem_cons, List.not_mem_nil, or_false] at hp; subst hp; exact li23_0 G k)
def g23 {R : Type} (G : ORC R) (k : Nat) (args : List V) (K : List V → Option R) : Option R := match args with
  | [(.sl 7 al1), (.int .i64 ai2)] => f23 G k al1 ai2 K
  | _ => none
theorem s23 {R : Type} {G : ORC R} {k : Nat} (hG : Sound Try.prog TAB G) (args : List V) (K : List V → Option R) (r : R) (h : g23 G k args K = some r) : ∃ o, CallOK Try.prog TAB.env 23 args o ∧ K o = some r := by
  unfold g23 at h
  split at h
  · rw [← f23_is] at h
    exact callF_sound (f := 23) TAB_chk MO hG Try.func23 (sg := S23) (by kernel_rfl) (by kernel_rfl) (la23 G k) h
  · cases h
end Go.Proofs.Ytblabbcmokldiaa.Vm
open Go Go.VM
set_option linter.unusedVariables false
set_option maxRecDepth 100000
set_option maxHeartbeats 4000000
namespace Go.Proofs.Ytblabbcmokldiaa.Vm
/-! ### cotillion/cotillionlaw14.known: function 37 -/
def L37 {R : Type} (_ : ORC R) (_ : Nat) : Nat → St → (Ex → St → Option R) → Option R := fun _ _ _ => none
def f37 {R : Type} (G : ORC R) (k : Nat)  (K : List V → Option R) : Option R :=
  (G 14 [(.agg [(.str ⟨#[]⟩), (.int .i64 0), (.int .i64 0), (.sl 3 []), (.sl 3 []), (.sl 3 []), (.sl 7 [(.agg [(.int .i64 1), (.str ⟨#[97]⟩), (.sl 8 []), (.sl 8 []), (.sl 5 []), (.sl 7 [(.agg [(.int .i64 1), (.str ⟨#[98]⟩), (.sl 8 []), (.sl 8 []), (.sl 5 []), (.sl 7 []), (.int .i64 0)]), (.agg [(.int .i64 3), (.str ⟨#[104]⟩), (.sl 8 []), (.sl 8 []), (.sl 5 []), (.sl 7 []), (.int .i64 0)])]), (.int .i64 0)]), (.agg [(.int .i64 1), (.str ⟨#[99]⟩), (.sl 8 []), (.sl 8 []), (.sl 5 []), (.sl 7 []), (.int .i64 0)])]), (.int .i64 0)])] fun o1 => (uL 7 o1 fun l3 r2 => (unNil r2 (G 39 [(.sl 7 l3), (.int .i64 2), (.int .i64 4)] fun o4 => (uI .i64 o4 fun n6 r5 => (unNil r5 (bif (n6 == 0) then (G 43 [(.sl 7 l3), (.sl 2 [(.agg [(.int .i64 3), (.int .i64 0)])]), (.sl 1 [])] fun o7 => (uL 1 o7 fun l9 r8 => (unNil r8 (G 22 [(.sl 1 l9), (.sl 1 [(.int .i64 1), (.int .i64 2)])] fun o10 => (uB o10 fun b12 r11 => (unNil r11 (bif b12 then (G 45 [(.sl 7 l3)] fun o13 => (uL 1 o13 fun l15 r14 => (unNil r14 (G 22 [(.sl 1 l15), (.sl 1 [(.int .i64 0), (.int .i64 1), (.int .i64 2)])] fun o16 => (uB o16 fun b18 r17 => (unNil r17 (K [(.bool b18)]))))))) else (K [(.bool false)])))))))) else (K [(.bool false)]))))))))
theorem f37_is {R : Type} (G : ORC R) (k : Nat) (K : List V → Option R)  :
    callF (TAB.env 37) G (L37 G k) Try.f37 S37 [] K = f37 G k  K := by kernel_rfl
theorem lo37 : loopsOf (bodyOf Try.f37) = [] := by kernel_rfl
theorem la37 {R : Type} (G : ORC R) (k : Nat) : LoopsAre (TAB.env 37) G (L37 G k) (bodyOf Try.f37) :=
  loopsAre_of (by rw [lo37]; intro p hp; cases hp)
def g37 {R : Type} (G : ORC R) (k : Nat) (args : List V) (K : List V → Option R) : Option R := match args with
  | [] => f37 G k  K
  | _ => none
theorem s37 {R : Type} {G : ORC R} {k : Nat} (hG : Sound Try.prog TAB G) (args : List V) (K : List V → Option R) (r : R) (h : g37 G k args K = some r) : ∃ o, CallOK Try.prog TAB.env 37 args o ∧ K o = some r := by
  unfold g37 at h
  split at h
  · rw [← f37_is] at h
    exact callF_sound (f := 37) TAB_chk MO hG Try.func37 (sg := S37) (by kernel_rfl) (by kernel_rfl) (la37 G k) h
  · cases h
end Go.Proofs.Ytblabbcmokldiaa.Vm
open Go Go.VM
set_option linter.unusedVariables false
set_option maxRecDepth 100000
set_option maxHeartbeats 4000000
namespace Go.Proofs.Ytblabbcmokldiaa.Vm
/-! ### cotillion/cotillionlaw14.nodes: function 38 -/
def L38 {R : Type} (_ : ORC R) (_ : Nat) : Nat → St → (Ex → St → Option R) → Option R := fun _ _ _ => none
def f38 {R : Type} (G : ORC R) (k : Nat) (al1 : List V) (K : List V → Option R) : Option R :=
  (G 59 [(.str ⟨#[99]⟩), (.int .i64 1), (.sl 1 al1), (.int .i64 0)] fun o2 => (uA o2 fun l4 r3 => (uS l4 fun s6 r5 => (uI .i64 r5 fun n8 r7 => (uI .i64 r7 fun n10 r9 => (uL 3 r9 fun l12 r11 => (uL 3 r11 fun l14 r13 => (uL 3 r13 fun l16 r15 => (uL 7 r15 fun l18 r17 => (uI .i64 r17 fun n20 r19 => (unNil r19 (uI .i64 r3 fun n22 r21 => (unNil r21 (G 14 [(.agg [(.str s6), (.int .i64 n8), (.int .i64 n10), (.sl 3 l12), (.sl 3 l14), (.sl 3 l16), (.sl 7 l18), (.int .i64 n20)])] fun o23 => (uL 7 o23 fun l25 r24 => (unNil r24 (K [(.sl 7 l25)])))))))))))))))))
theorem f38_is {R : Type} (G : ORC R) (k : Nat) (K : List V → Option R) (al1 : List V) :
    callF (TAB.env 38) G (L38 G k) Try.f38 S38 [(.sl 1 al1)] K = f38 G k al1 K := by kernel_rfl
theorem lo38 : loopsOf (bodyOf Try.f38) = [] := by kernel_rfl
theorem la38 {R : Type} (G : ORC R) (k : Nat) : LoopsAre (TAB.env 38) G (L38 G k) (bodyOf Try.f38) :=
  loopsAre_of (by rw [lo38]; intro p hp; cases hp)
def g38 {R : Type} (G : ORC R) (k : Nat) (args : List V) (K : List V → Option R) : Option R := match args with
  | [(.sl 1 al1)] => f38 G k al1 K
  | _ => none
theorem s38 {R : Type} {G : ORC R} {k : Nat} (hG : Sound Try.prog TAB G) (args : List V) (K : List V → Option R) (r : R) (h : g38 G k args K = some r) : ∃ o, CallOK Try.prog TAB.env 38 args o ∧ K o = some r := by
  unfold g38 at h
  split at h
  · rw [← f38_is] at h
    exact callF_sound (f := 38) TAB_chk MO hG Try.func38 (sg := S38) (by kernel_rfl) (by kernel_rfl) (la38 G k) h
  · cases h
end Go.Proofs.Ytblabbcmokldiaa.Vm
open Go Go.VM
set_option linter.unusedVariables false
set_option maxRecDepth 100000
set_option maxHeartbeats 4000000
namespace Go.Proofs.Ytblabbcmokldiaa.Vm
/-! ### cotillion/lcca.Dom: function 39 -/
def P39_0h : Pat := { tmps := unds [.var (.sl 7) .ro, .var (.int .i64) .pr, .var (.int .i64) .pr, .undef, .undef, .undef, .undef, .var (.int .i64) .pr] 26 [], boxes := nons [] 34 [] }
def P39_0x : Pat := { tmps := unds [] 34 [], boxes := nons [] 34 [] }
def P39_0r : Pat := { tmps := unds [] 6 (unds [.var (.int .i64) .pr] 27 []), boxes := nons [] 34 [] }
def b39_0 {R : Type} (G : ORC R) (k : Nat) (X : List V → Int → Int → Int → Option R) (Ko : Unit → Option R) (Kr : Int → Option R) (xl4 : List V) (xi5 xi6 xi7 : Int) : Option R :=
  (bif (decide (xi7 ≥ 0)) then (bif ((decide (0 ≤ xi7)) && (decide (xi7 < ((List.length xl4 : Nat) : Int)))) then (nthK xl4 (Int.toNat xi7) fun e8 => (ca7 e8 fun c9 c10 c11 c12 c13 c14 c15 => (aI .i64 c9 fun n16 => (bif (n16 == 2) then (G 69 [(.sl 7 xl4), (.int .i64 xi5), (.int .i64 xi7)] fun o17 => (uB o17 fun b19 r18 => (unNil r18 (bif b19 then (G 69 [(.sl 7 xl4), (.int .i64 xi6), (.int .i64 xi7)] fun o20 => (uB o20 fun b22 r21 => (unNil r21 (bif b22 then (Kr xi7) else (X xl4 xi5 xi6 (IntKind.i64.wrap (xi7 - 1))))))) else (X xl4 xi5 xi6 (IntKind.i64.wrap (xi7 - 1))))))) else (X xl4 xi5 xi6 (IntKind.i64.wrap (xi7 - 1))))))) else none) else (Ko ()))
def l39_0g {R : Type} (G : ORC R) (k : Nat) (Ko : Unit → Option R) (Kr : Int → Option R) : Nat → List V → Int → Int → Int → Option R
  | 0 => fun _ _ _ _ => none
  | j + 1 => b39_0 G k (l39_0g G k Ko Kr j) Ko Kr
def l39_0 {R : Type} (G : ORC R) (k : Nat) (xl4 : List V) (xi5 xi6 xi7 : Int) (Ko : Unit → Option R) (Kr : Int → Option R) : Option R := l39_0g G k Ko Kr k xl4 xi5 xi6 xi7
def rd39_0 {R : Type} (G : ORC R) (k : Nat) (K : Ex → St → Option R) (j : Nat) (vs : List V) : Option R := match vs with
  | [(.sl 7 xl4), (.int .i64 xi5), (.int .i64 xi6), (.int .i64 xi7)] => l39_0g G k (fun _ => K .normal (P39_0x.inst [])) (fun yi24 => K .ret (P39_0r.inst [(.int .i64 yi24)])) j xl4 xi5 xi6 xi7
  | _ => none
def L39 {R : Type} (G : ORC R) (k : Nat) : Nat → St → (Ex → St → Option R) → Option R
  | 0, S, K => P39_0h.mat S fun vs => rd39_0 G k K k vs
  | _, _, _ => none
def f39 {R : Type} (G : ORC R) (k : Nat) (al1 : List V) (ai2 ai3 : Int) (K : List V → Option R) : Option R :=
  (l39_0 G k al1 ai2 ai3 (IntKind.i64.wrap (((List.length al1 : Nat) : Int) - 1)) (fun (_ : Unit) => (K [(.int .i64 (-1))])) (fun yi23 => (K [(.int .i64 yi23)])))
noncomputable def D39_0 : LoopD := { id := 0, body := loopAt 0 (bodyOf Try.f39), head := P39_0h, out := P39_0x, ret := P39_0r }
theorem l39_0_is {R : Type} (G : ORC R) (k : Nat) (X : List V → Option R) (K : Ex → St → Option R) (xl4 : List V) (xi5 xi6 xi7 : Int) :
    roundOf (TAB.env 39) G (L39 G k) D39_0 X K [(.sl 7 xl4), (.int .i64 xi5), (.int .i64 xi6), (.int .i64 xi7)] = b39_0 G k (fun xl4 xi5 xi6 xi7 => X [(.sl 7 xl4), (.int .i64 xi5), (.int .i64 xi6), (.int .i64 xi7)]) (fun _ => K .normal (P39_0x.inst [])) (fun yi24 => K .ret (P39_0r.inst [(.int .i64 yi24)])) xl4 xi5 xi6 xi7 := by kernel_rfl
theorem f39_is {R : Type} (G : ORC R) (k : Nat) (K : List V → Option R) (al1 : List V) (ai2 ai3 : Int) :
    callF (TAB.env 39) G (L39 G k) Try.f39 S39 [(.sl 7 al1), (.int .i64 ai2), (.int .i64 ai3)] K = f39 G k al1 ai2 ai3 K := by kernel_rfl
theorem li39_0 {R : Type} (G : ORC R) (k : Nat) : LoopIs (TAB.env 39) G (L39 G k) 0 (loopAt 0 (bodyOf Try.f39)) :=
  ⟨D39_0, fun j vs K => rd39_0 G k K j vs, k, rfl, rfl, by kernel_rfl, by kernel_rfl, by kernel_rfl, (fun vs K => by unfold rd39_0; dsimp only; split <;> rfl),
    (fun j vs K r h => by
      unfold rd39_0 at h
      dsimp only at h
      split at h
      · rw [l39_0_is]; exact h
      · cases h), (fun S K r h => h)⟩
theorem lo39 : loopsOf (bodyOf Try.f39) = [(0, loopAt 0 (bodyOf Try.f39))] := by kernel_rfl
theorem la39 {R : Type} (G : ORC R) (k : Nat) : LoopsAre (TAB.env 39) G (L39 G k) (bodyOf Try.f39) :=
  loopsAre_of (by rw [lo39]; intro p hp; simp only [List.mem_cons, List.not_mem_nil, or_false] at hp; subst hp; exact li39_0 G k)
def g39 {R : Type} (G : ORC R) (k : Nat) (args : List V) (K : List V → Option R) : Option R := match args with
  | [(.sl 7 al1), (.int .i64 ai2), (.int .i64 ai3)] => f39 G k al1 ai2 ai3 K
  | _ => none
theorem s39 {R : Type} {G : ORC R} {k : Nat} (hG : Sound Try.prog TAB G) (args : List V) (K : List V → Option R) (r : R) (h : g39 G k args K = some r) : ∃ o, CallOK Try.prog TAB.env 39 args o ∧ K o = some r := by
  unfold g39 at h
  split at h
  · rw [← f39_is] at h
    exact callF_sound (f := 39) TAB_chk MO hG Try.func39 (sg := S39) (by kernel_rfl) (by kernel_rfl) (la39 G k) h
  · cases h
end Go.Proofs.Ytblabbcmokldiaa.Vm
open Go Go.VM
set_option linter.unusedVariables false
set_option maxRecDepth 100000
set_option maxHeartbeats 4000000
namespace Go.Proofs.Ytblabbcmokldiaa.Vm
/-! ### cotillion/lcca.Enter: function 43 -/
def P43_2h : Pat := { tmps := unds [.var (.sl 7) .ro] 6 (unds [.stat (.one (.ptr 18 0) .pt), .undef, .stat (.one (.ptr 9 0) .pt)] 9 (unds [.var (.sl 2) .ro, .var (.int .i64) .pr, .var (.int .i64) .pr] 22 (unds [.var (.sl 1) .ro, .var (.int .i64) .pr, .var (.int .i64) .pr] 12 []))), boxes := nons [] 9 (nons [some [.var (.int .i64) .pr false, .var (.int .i64) .pr false]] 8 (nons [some [.var (.sl 7) .ro false, .var (.sl 1) .ro false, .var (.sl 1) (.own true) false, .var (.int .i64) .pr false]] 40 [])) }
def P43_2x : Pat := { tmps := unds [.var (.sl 7) .ro] 6 (unds [.stat (.one (.ptr 18 0) .pt)] 11 (unds [.var (.sl 2) .ro, .var (.int .i64) .pr, .var (.int .i64) .pr] 37 [])), boxes := nons [] 18 (nons [some [.var (.sl 7) .ro false, .var (.sl 1) .ro false, .var (.sl 1) (.own true) false, .var (.int .i64) .pr false]] 40 []) }
def b43_2 {R : Type} (G : ORC R) (k : Nat) (X : List V → List V → Int → Int → List V → Int → Int → Int → Int → List V → List V → List V → Int → Option R) (Ko : List V → List V → Int → Int → List V → List V → List V → Int → Option R) (xl39 xl40 : List V) (xi41 xi42 : Int) (xl43 : List V) (xi44 xi45 : Int) (xi46 xi47 : Int) (xl48 xl49 xl50 : List V) (xi51 : Int) : Option R :=
  (bif (decide (xi45 < xi44)) then (bif ((decide (0 ≤ xi45)) && (decide (xi45 < ((List.length xl43 : Nat) : Int)))) then (nthK xl43 (Int.toNat xi45) fun e52 => (aI .i64 e52 fun n53 => (G 73 [(.int .i64 n53), (.int .i64 xi47), (.sl 7 xl48), (.sl 1 xl49), (.sl 1 xl50), (.int .i64 xi51)] fun o54 => (uL 1 o54 fun l56 r55 => (uI .i64 r55 fun n58 r57 => (unNil r57 (X xl39 xl40 xi41 xi42 xl43 xi44 (IntKind.i64.wrap (xi45 + 1)) xi46 xi47 xl48 xl49 l56 n58))))))) else none) else (Ko xl39 xl40 xi41 xi42 xl48 xl49 xl50 xi51))
def l43_2g {R : Type} (G : ORC R) (k : Nat) (Ko : List V → List V → Int → Int → List V → List V → List V → Int → Option R) : Nat → List V → List V → Int → Int → List V → Int → Int → Int → Int → List V → List V → List V → Int → Option R
  | 0 => fun _ _ _ _ _ _ _ _ _ _ _ _ _ => none
  | j + 1 => b43_2 G k (l43_2g G k Ko j) Ko
def l43_2 {R : Type} (G : ORC R) (k : Nat) (xl39 xl40 : List V) (xi41 xi42 : Int) (xl43 : List V) (xi44 xi45 : Int) (xi46 xi47 : Int) (xl48 xl49 xl50 : List V) (xi51 : Int) (Ko : List V → List V → Int → Int → List V → List V → List V → Int → Option R) : Option R := l43_2g G k Ko k xl39 xl40 xi41 xi42 xl43 xi44 xi45 xi46 xi47 xl48 xl49 xl50 xi51
def P43_0h : Pat := { tmps := unds [.var (.sl 7) .ro] 6 (unds [.stat (.one (.ptr 18 0) .pt)] 11 (unds [.var (.sl 2) .ro, .var (.int .i64) .pr, .var (.int .i64) .pr] 37 [])), boxes := nons [] 18 (nons [some [.var (.sl 7) .ro false, .var (.sl 1) .ro false, .var (.sl 1) (.own true) false, .var (.int .i64) .pr false]] 40 []) }
def P43_0x : Pat := { tmps := unds [] 7 (unds [.stat (.one (.ptr 18 0) .pt)] 51 []), boxes := nons [] 18 (nons [some [.var (.sl 7) .ro false, .var (.sl 1) .ro false, .var (.sl 1) (.own true) false, .var (.int .i64) .pr false]] 40 []) }
def b43_0 {R : Type} (G : ORC R) (k : Nat) (X : List V → List V → Int → Int → List V → List V → List V → Int → Option R) (Ko : List V → List V → List V → Int → Option R) (xl4 xl5 : List V) (xi6 xi7 : Int) (xl8 xl9 xl10 : List V) (xi11 : Int) : Option R :=
  (bif (decide (xi7 < xi6)) then (bif ((decide (0 ≤ xi7)) && (decide (xi7 < ((List.length xl5 : Nat) : Int)))) then (nthK xl5 (Int.toNat xi7) fun e12 => (V.asAgg e12 fun l13 => (ce2 l13 fun c14 c15 => (aI .i64 c14 fun n19 => (aI .i64 c15 fun n20 => (G 70 [(.sl 7 xl4), (.int .i64 n19)] fun o21 => (uB o21 fun b23 r22 => (unNil r22 (bif (!b23) then (X xl4 xl5 xi6 (IntKind.i64.wrap (xi7 + 1)) xl8 xl9 xl10 xi11) else (G 70 [(.sl 7 xl4), (.int .i64 n20)] fun o24 => (uB o24 fun b26 r25 => (unNil r25 (bif (!b26) then (X xl4 xl5 xi6 (IntKind.i64.wrap (xi7 + 1)) xl8 xl9 xl10 xi11) else (G 71 [(.int .i64 n19), (.sl 7 xl8), (.sl 1 xl9), (.sl 1 xl10), (.int .i64 xi11)] fun o27 => (uL 1 o27 fun l29 r28 => (uI .i64 r28 fun n31 r30 => (unNil r30 (G 72 [(.int .i64 n19), (.sl 7 xl8), (.sl 1 xl9), (.sl 1 l29), (.int .i64 n31)] fun o32 => (uL 1 o32 fun l34 r33 => (uL 1 r33 fun l36 r35 => (uI .i64 r35 fun n38 r37 => (unNil r37 (l43_2 G k xl4 xl5 xi6 xi7 l34 ((List.length l34 : Nat) : Int) 0 n19 n20 xl8 xl9 l36 n38 (fun yl39 yl40 yi41 yi42 yl43 yl44 yl45 yi46 => (X yl39 yl40 yi41 (IntKind.i64.wrap (yi42 + 1)) yl43 yl44 yl45 yi46))))))))))))))))))))))))) else none) else (Ko xl8 xl9 xl10 xi11))
def l43_0g {R : Type} (G : ORC R) (k : Nat) (Ko : List V → List V → List V → Int → Option R) : Nat → List V → List V → Int → Int → List V → List V → List V → Int → Option R
  | 0 => fun _ _ _ _ _ _ _ _ => none
  | j + 1 => b43_0 G k (l43_0g G k Ko j) Ko
def l43_0 {R : Type} (G : ORC R) (k : Nat) (xl4 xl5 : List V) (xi6 xi7 : Int) (xl8 xl9 xl10 : List V) (xi11 : Int) (Ko : List V → List V → List V → Int → Option R) : Option R := l43_0g G k Ko k xl4 xl5 xi6 xi7 xl8 xl9 xl10 xi11
def rd43_2 {R : Type} (G : ORC R) (k : Nat) (K : Ex → St → Option R) (j : Nat) (vs : List V) : Option R := match vs with
  | [(.sl 7 xl39), (.sl 2 xl40), (.int .i64 xi41), (.int .i64 xi42), (.sl 1 xl43), (.int .i64 xi44), (.int .i64 xi45), (.int .i64 xi46), (.int .i64 xi47), (.sl 7 xl48), (.sl 1 xl49), (.sl 1 xl50), (.int .i64 xi51)] => l43_2g G k (fun yl58 yl59 yi60 yi61 yl62 yl63 yl64 yi65 => K .normal (P43_2x.inst [(.sl 7 yl58), (.sl 2 yl59), (.int .i64 yi60), (.int .i64 yi61), (.sl 7 yl62), (.sl 1 yl63), (.sl 1 yl64), (.int .i64 yi65)])) j xl39 xl40 xi41 xi42 xl43 xi44 xi45 xi46 xi47 xl48 xl49 xl50 xi51
  | _ => none
def rd43_0 {R : Type} (G : ORC R) (k : Nat) (K : Ex → St → Option R) (j : Nat) (vs : List V) : Option R := match vs with
  | [(.sl 7 xl4), (.sl 2 xl5), (.int .i64 xi6), (.int .i64 xi7), (.sl 7 xl8), (.sl 1 xl9), (.sl 1 xl10), (.int .i64 xi11)] => l43_0g G k (fun yl66 yl67 yl68 yi69 => K .normal (P43_0x.inst [(.sl 7 yl66), (.sl 1 yl67), (.sl 1 yl68), (.int .i64 yi69)])) j xl4 xl5 xi6 xi7 xl8 xl9 xl10 xi11
  | _ => none
def L43 {R : Type} (G : ORC R) (k : Nat) : Nat → St → (Ex → St → Option R) → Option R
  | 2, S, K => P43_2h.mat S fun vs => rd43_2 G k K k vs
  | 0, S, K => P43_0h.mat S fun vs => rd43_0 G k K k vs
  | _, _, _ => none
def f43 {R : Type} (G : ORC R) (k : Nat) (al1 al2 al3 : List V) (K : List V → Option R) : Option R :=
  (bif (((decide (0 ≤ ((List.length al1 : Nat) : Int))) && (decide (((List.length al1 : Nat) : Int) ≤ ((List.length al1 : Nat) : Int)))) && (decide (((List.length al1 : Nat) : Int) ≤ 1073741824))) then (l43_0 G k al1 al2 ((List.length al2 : Nat) : Int) 0 al1 al3 (List.replicate (Int.toNat ((List.length al1 : Nat) : Int)) (.bool false)) 65536 (fun yl47 yl48 yl49 yi50 => (G 74 [(.sl 7 yl47), (.sl 1 yl48), (.sl 1 yl49), (.int .i64 yi50)] fun o51 => (uL 1 o51 fun l53 r52 => (uL 1 r52 fun l55 r54 => (uI .i64 r54 fun n57 r56 => (unNil r56 (K [(.sl 1 l53)])))))))) else none)
noncomputable def D43_2 : LoopD := { id := 2, body := loopAt 2 (bodyOf Try.f43), head := P43_2h, out := P43_2x, ret := default }
theorem l43_2_is {R : Type} (G : ORC R) (k : Nat) (X : List V → Option R) (K : Ex → St → Option R) (xl39 xl40 : List V) (xi41 xi42 : Int) (xl43 : List V) (xi44 xi45 : Int) (xi46 xi47 : Int) (xl48 xl49 xl50 : List V) (xi51 : Int) :
    roundOf (TAB.env 43) G (L43 G k) D43_2 X K [(.sl 7 xl39), (.sl 2 xl40), (.int .i64 xi41), (.int .i64 xi42), (.sl 1 xl43), (.int .i64 xi44), (.int .i64 xi45), (.int .i64 xi46), (.int .i64 xi47), (.sl 7 xl48), (.sl 1 xl49), (.sl 1 xl50), (.int .i64 xi51)] = b43_2 G k (fun xl39 xl40 xi41 xi42 xl43 xi44 xi45 xi46 xi47 xl48 xl49 xl50 xi51 => X [(.sl 7 xl39), (.sl 2 xl40), (.int .i64 xi41), (.int .i64 xi42), (.sl 1 xl43), (.int .i64 xi44), (.int .i64 xi45), (.int .i64 xi46), (.int .i64 xi47), (.sl 7 xl48), (.sl 1 xl49), (.sl 1 xl50), (.int .i64 xi51)]) (fun yl58 yl59 yi60 yi61 yl62 yl63 yl64 yi65 => K .normal (P43_2x.inst [(.sl 7 yl58), (.sl 2 yl59), (.int .i64 yi60), (.int .i64 yi61), (.sl 7 yl62), (.sl 1 yl63), (.sl 1 yl64), (.int .i64 yi65)])) xl39 xl40 xi41 xi42 xl43 xi44 xi45 xi46 xi47 xl48 xl49 xl50 xi51 := by kernel_rfl
noncomputable def D43_0 : LoopD := { id := 0, body := loopAt 0 (bodyOf Try.f43), head := P43_0h, out := P43_0x, ret := default }
theorem l43_0_is {R : Type} (G : ORC R) (k : Nat) (X : List V → Option R) (K : Ex → St → Option R) (xl4 xl5 : List V) (xi6 xi7 : Int) (xl8 xl9 xl10 : List V) (xi11 : Int) :
    roundOf (TAB.env 43) G (L43 G k) D43_0 X K [(.sl 7 xl4), (.sl 2 xl5), (.int .i64 xi6), (.int .i64 xi7), (.sl 7 xl8), (.sl 1 xl9), (.sl 1 xl10), (.int .i64 xi11)] = b43_0 G k (fun xl4 xl5 xi6 xi7 xl8 xl9 xl10 xi11 => X [(.sl 7 xl4), (.sl 2 xl5), (.int .i64 xi6), (.int .i64 xi7), (.sl 7 xl8), (.sl 1 xl9), (.sl 1 xl10), (.int .i64 xi11)]) (fun yl66 yl67 yl68 yi69 => K .normal (P43_0x.inst [(.sl 7 yl66), (.sl 1 yl67), (.sl 1 yl68), (.int .i64 yi69)])) xl4 xl5 xi6 xi7 xl8 xl9 xl10 xi11 := by kernel_rfl
theorem f43_is {R : Type} (G : ORC R) (k : Nat) (K : List V → Option R) (al1 al2 al3 : List V) :
    callF (TAB.env 43) G (L43 G k) Try.f43 S43 [(.sl 7 al1), (.sl 2 al2), (.sl 1 al3)] K = f43 G k al1 al2 al3 K := by kernel_rfl
theorem li43_2 {R : Type} (G : ORC R) (k : Nat) : LoopIs (TAB.env 43) G (L43 G k) 2 (loopAt 2 (bodyOf Try.f43)) :=
  ⟨D43_2, fun j vs K => rd43_2 G k K j vs, k, rfl, rfl, by kernel_rfl, by kernel_rfl, by kernel_rfl, (fun vs K => by unfold rd43_2; dsimp only; split <;> rfl),
    (fun j vs K r h => by
      unfold rd43_2 at h
      dsimp only at h
      split at h
      · rw [l43_2_is]; exact h
      · cases h), (fun S K r h => h)⟩
theorem li43_0 {R : Type} (G : ORC R) (k : Nat) : LoopIs (TAB.env 43) G (L43 G k) 0 (loopAt 0 (bodyOf Try.f43)) :=
  ⟨D43_0, fun j vs K => rd43_0 G k K j vs, k, rfl, rfl, by kernel_rfl, by kernel_rfl, by kernel_rfl, (fun vs K => by unfold rd43_0; dsimp only; split <;> rfl),
    (fun j vs K r h => by
      unfold rd43_0 at h
      dsimp only at h
      split at h
      · rw [l43_0_is]; exact h
      · cases h), (fun S K r h => h)⟩
theorem lo43 : loopsOf (bodyOf Try.f43) = [(0, loopAt 0 (bodyOf Try.f43)), (2, loopAt 2 (bodyOf Try.f43))] := by kernel_rfl
theorem la43 {R : Type} (G : ORC R) (k : Nat) : LoopsAre (TAB.env 43) G (L43 G k) (bodyOf Try.f43) :=
  loopsAre_of (by rw [lo43]; intro p hp; simp only [List.mem_cons, List.not_mem_nil, or_false] at hp; rcases hp with rfl | rfl <;> first | exact li43_0 G k | exact li43_2 G k)
def g43 {R : Type} (G : ORC R) (k : Nat) (args : List V) (K : List V → Option R) : Option R := match args with
  | [(.sl 7 al1), (.sl 2 al2), (.sl 1 al3)] => f43 G k al1 al2 al3 K
  | _ => none
theorem s43 {R : Type} {G : ORC R} {k : Nat} (hG : Sound Try.prog TAB G) (args : List V) (K : List V → Option R) (r : R) (h : g43 G k args K = some r) : ∃ o, CallOK Try.prog TAB.env 43 args o ∧ K o = some r := by
  unfold g43 at h
  split at h
  · rw [← f43_is] at h
    exact callF_sound (f := 43) TAB_chk MO hG Try.func43 (sg := S43) (by kernel_rfl) (by kernel_rfl) (la43 G k) h
  · cases h
end Go.Proofs.Ytblabbcmokldiaa.Vm
open Go Go.VM
set_option linter.unusedVariables false
set_option maxRecDepth 100000
set_option maxHeartbeats 4000000
namespace Go.Proofs.Ytblabbcmokldiaa.Vm
/-! ### cotillion/lcca.Begin: function 45 -/
def L45 {R : Type} (_ : ORC R) (_ : Nat) : Nat → St → (Ex → St → Option R) → Option R := fun _ _ _ => none
def f45 {R : Type} (G : ORC R) (k : Nat) (al1 : List V) (K : List V → Option R) : Option R :=
  (bif (((decide (0 ≤ ((List.length al1 : Nat) : Int))) && (decide (((List.length al1 : Nat) : Int) ≤ ((List.length al1 : Nat) : Int)))) && (decide (((List.length al1 : Nat) : Int) ≤ 1073741824))) then (G 71 [(.int .i64 0), (.sl 7 al1), (.sl 1 []), (.sl 1 (List.replicate (Int.toNat ((List.length al1 : Nat) : Int)) (.bool false))), (.int .i64 65536)] fun o2 => (uL 1 o2 fun l4 r3 => (uI .i64 r3 fun n6 r5 => (unNil r5 (G 74 [(.sl 7 al1), (.sl 1 []), (.sl 1 l4), (.int .i64 n6)] fun o7 => (uL 1 o7 fun l9 r8 => (uL 1 r8 fun l11 r10 => (uI .i64 r10 fun n13 r12 => (unNil r12 (K [(.sl 1 l9)])))))))))) else none)
theorem f45_is {R : Type} (G : ORC R) (k : Nat) (K : List V → Option R) (al1 : List V) :
    callF (TAB.env 45) G (L45 G k) Try.f45 S45 [(.sl 7 al1)] K = f45 G k al1 K := by kernel_rfl
theorem lo45 : loopsOf (bodyOf Try.f45) = [] := by kernel_rfl
theorem la45 {R : Type} (G : ORC R) (k : Nat) : LoopsAre (TAB.env 45) G (L45 G k) (bodyOf Try.f45) :=
  loopsAre_of (by rw [lo45]; intro p hp; cases hp)
def g45 {R : Type} (G : ORC R) (k : Nat) (args : List V) (K : List V → Option R) : Option R := match args with
  | [(.sl 7 al1)] => f45 G k al1 K
  | _ => none
theorem s45 {R : Type} {G : ORC R} {k : Nat} (hG : Sound Try.prog TAB G) (args : List V) (K : List V → Option R) (r : R) (h : g45 G k args K = some r) : ∃ o, CallOK Try.prog TAB.env 45 args o ∧ K o = some r := by
  unfold g45 at h
  split at h
  · rw [← f45_is] at h
    exact callF_sound (f := 45) TAB_chk MO hG Try.func45 (sg := S45) (by kernel_rfl) (by kernel_rfl) (la45 G k) h
  · cases h
end Go.Proofs.Ytblabbcmokldiaa.Vm
open Go Go.VM
set_option linter.unusedVariables false
set_option maxRecDepth 100000
set_option maxHeartbeats 4000000
namespace Go.Proofs.Ytblabbcmokldiaa.Vm
/-! ### cotillion/flat.is: function 63 -/
def L63 {R : Type} (_ : ORC R) (_ : Nat) : Nat → St → (Ex → St → Option R) → Option R := fun _ _ _ => none
def f63 {R : Type} (G : ORC R) (k : Nat) (al1 : List V) (ai2 : Int) (K : List V → Option R) : Option R :=
  (bif (decide (ai2 ≥ 0)) then (K [(.bool (decide (ai2 < ((List.length al1 : Nat) : Int))))]) else (K [(.bool false)]))
theorem f63_is {R : Type} (G : ORC R) (k : Nat) (K : List V → Option R) (al1 : List V) (ai2 : Int) :
    callF (TAB.env 63) G (L63 G k) Try.f63 S63 [(.sl 7 al1), (.int .i64 ai2)] K = f63 G k al1 ai2 K := by kernel_rfl
theorem lo63 : loopsOf (bodyOf Try.f63) = [] := by kernel_rfl
theorem la63 {R : Type} (G : ORC R) (k : Nat) : LoopsAre (TAB.env 63) G (L63 G k) (bodyOf Try.f63) :=
  loopsAre_of (by rw [lo63]; intro p hp; cases hp)
def g63 {R : Type} (G : ORC R) (k : Nat) (args : List V) (K : List V → Option R) : Option R := match args with
  | [(.sl 7 al1), (.int .i64 ai2)] => f63 G k al1 ai2 K
  | _ => none
theorem s63 {R : Type} {G : ORC R} {k : Nat} (hG : Sound Try.prog TAB G) (args : List V) (K : List V → Option R) (r : R) (h : g63 G k args K = some r) : ∃ o, CallOK Try.prog TAB.env 63 args o ∧ K o = some r := by
  unfold g63 at h
  split at h
  · rw [← f63_is] at h
    exact callF_sound (f := 63) TAB_chk MO hG Try.func63 (sg := S63) (by kernel_rfl) (by kernel_rfl) (la63 G k) h
  · cases h
end Go.Proofs.Ytblabbcmokldiaa.Vm
open Go Go.VM
set_option linter.unusedVariables false
set_option maxRecDepth 100000
set_option maxHeartbeats 4000000
namespace Go.Proofs.Ytblabbcmokldiaa.Vm
/-! ### cotillion/lcca.inside: function 69 -/
def L69 {R : Type} (_ : ORC R) (_ : Nat) : Nat → St → (Ex → St → Option R) → Option R := fun _ _ _ => none
def f69 {R : Type} (G : ORC R) (k : Nat) (al1 : List V) (ai2 ai3 : Int) (K : List V → Option R) : Option R :=
  (bif (ai2 != ai3) then (G 20 [(.sl 7 al1), (.int .i64 ai2), (.int .i64 ai3)] fun o4 => (uB o4 fun b6 r5 => (unNil r5 (K [(.bool b6)])))) else (K [(.bool false)]))
theorem f69_is {R : Type} (G : ORC R) (k : Nat) (K : List V → Option R) (al1 : List V) (ai2 ai3 : Int) :
    callF (TAB.env 69) G (L69 G k) Try.f69 S69 [(.sl 7 al1), (.int .i64 ai2), (.int .i64 ai3)] K = f69 G k al1 ai2 ai3 K := by kernel_rfl
theorem lo69 : loopsOf (bodyOf Try.f69) = [] := by kernel_rfl
theorem la69 {R : Type} (G : ORC R) (k : Nat) : LoopsAre (TAB.env 69) G (L69 G k) (bodyOf Try.f69) :=
  loopsAre_of (by rw [lo69]; intro p hp; cases hp)
def g69 {R : Type} (G : ORC R) (k : Nat) (args : List V) (K : List V → Option R) : Option R := match args with
  | [(.sl 7 al1), (.int .i64 ai2), (.int .i64 ai3)] => f69 G k al1 ai2 ai3 K
  | _ => none
theorem s69 {R : Type} {G : ORC R} {k : Nat} (hG : Sound Try.prog TAB G) (args : List V) (K : List V → Option R) (r : R) (h : g69 G k args K = some r) : ∃ o, CallOK Try.prog TAB.env 69 args o ∧ K o = some r := by
  unfold g69 at h
  split at h
  · rw [← f69_is] at h
    exact callF_sound (f := 69) TAB_chk MO hG Try.func69 (sg := S69) (by kernel_rfl) (by kernel_rfl) (la69 G k) h
  · cases h
end Go.Proofs.Ytblabbcmokldiaa.Vm
open Go Go.VM
set_option linter.unusedVariables false
set_option maxRecDepth 100000
set_option maxHeartbeats 4000000
namespace Go.Proofs.Ytblabbcmokldiaa.Vm
/-! ### cotillion/lcca.is: function 70 -/
def L70 {R : Type} (_ : ORC R) (_ : Nat) : Nat → St → (Ex → St → Option R) → Option R := fun _ _ _ => none
def f70 {R : Type} (G : ORC R) (k : Nat) (al1 : List V) (ai2 : Int) (K : List V → Option R) : Option R :=
  (bif (decide (ai2 ≥ 0)) then (K [(.bool (decide (ai2 < ((List.length al1 : Nat) : Int))))]) else (K [(.bool false)]))
theorem f70_is {R : Type} (G : ORC R) (k : Nat) (K : List V → Option R) (al1 : List V) (ai2 : Int) :
    callF (TAB.env 70) G (L70 G k) Try.f70 S70 [(.sl 7 al1), (.int .i64 ai2)] K = f70 G k al1 ai2 K := by kernel_rfl
theorem lo70 : loopsOf (bodyOf Try.f70) = [] := by kernel_rfl
theorem la70 {R : Type} (G : ORC R) (k : Nat) : LoopsAre (TAB.env 70) G (L70 G k) (bodyOf Try.f70) :=
  loopsAre_of (by rw [lo70]; intro p hp; cases hp)
def g70 {R : Type} (G : ORC R) (k : Nat) (args : List V) (K : List V → Option R) : Option R := match args with
  | [(.sl 7 al1), (.int .i64 ai2)] => f70 G k al1 ai2 K
  | _ => none
theorem s70 {R : Type} {G : ORC R} {k : Nat} (hG : Sound Try.prog TAB G) (args : List V) (K : List V → Option R) (r : R) (h : g70 G k args K = some r) : ∃ o, CallOK Try.prog TAB.env 70 args o ∧ K o = some r := by
  unfold g70 at h
  split at h
  · rw [← f70_is] at h
    exact callF_sound (f := 70) TAB_chk MO hG Try.func70 (sg := S70) (by kernel_rfl) (by kernel_rfl) (la70 G k) h
  · cases h
end Go.Proofs.Ytblabbcmokldiaa.Vm
open Go Go.VM
set_option linter.unusedVariables false
set_option maxRecDepth 100000
set_option maxHeartbeats 4000000
namespace Go.Proofs.Ytblabbcmokldiaa.Vm
/-! ### (*cotillion/lcca.entry).down: function 71 -/
def P71_0h : Pat := { tmps := unds [.stat (.one (.ptr 0 0) .pt), .var (.int .i64) .pr, .undef, .undef, .var (.sl 1) .ro] 27 (unds [.var (.sl 1) .ro, .var (.int .i64) .pr, .var (.int .i64) .pr] 53 []), boxes := nons [some [.var (.sl 7) .ro true, .var (.sl 1) .ro true, .var (.sl 1) (.own true) false, .var (.int .i64) .pr false]] 88 [] }
def P71_0x : Pat := { tmps := unds [.stat (.one (.ptr 0 0) .pt), .var (.int .i64) .pr, .undef, .undef, .var (.sl 1) .ro] 83 [], boxes := nons [some [.var (.sl 7) .ro true, .var (.sl 1) .ro true, .var (.sl 1) (.own true) false, .var (.int .i64) .pr false]] 88 [] }
def b71_0 {R : Type} (G : ORC R) (k : Nat) (X : Int → List V → List V → Int → Int → List V → List V → List V → Int → Option R) (Ko : Int → List V → List V → List V → List V → Int → Option R) (xi28 : Int) (xl29 xl30 : List V) (xi31 xi32 : Int) (xl33 xl34 xl35 : List V) (xi36 : Int) : Option R :=
  (bif (decide (xi32 < xi31)) then (bif ((decide (0 ≤ xi32)) && (decide (xi32 < ((List.length xl30 : Nat) : Int)))) then (nthK xl30 (Int.toNat xi32) fun e37 => (aI .i64 e37 fun n38 => (G 71 [(.int .i64 n38), (.sl 7 xl33), (.sl 1 xl34), (.sl 1 xl35), (.int .i64 xi36)] fun o39 => (uL 1 o39 fun l41 r40 => (uI .i64 r40 fun n43 r42 => (unNil r42 (X xi28 xl29 xl30 xi31 (IntKind.i64.wrap (xi32 + 1)) xl33 xl34 l41 n43))))))) else none) else (Ko xi28 xl29 xl33 xl34 xl35 xi36))
def l71_0g {R : Type} (G : ORC R) (k : Nat) (Ko : Int → List V → List V → List V → List V → Int → Option R) : Nat → Int → List V → List V → Int → Int → List V → List V → List V → Int → Option R
  | 0 => fun _ _ _ _ _ _ _ _ _ => none
  | j + 1 => b71_0 G k (l71_0g G k Ko j) Ko
def l71_0 {R : Type} (G : ORC R) (k : Nat) (xi28 : Int) (xl29 xl30 : List V) (xi31 xi32 : Int) (xl33 xl34 xl35 : List V) (xi36 : Int) (Ko : Int → List V → List V → List V → List V → Int → Option R) : Option R := l71_0g G k Ko k xi28 xl29 xl30 xi31 xi32 xl33 xl34 xl35 xi36
def P71_2h : Pat := { tmps := unds [.stat (.one (.ptr 0 0) .pt), .var (.int .i64) .pr] 40 (unds [.var (.sl 1) .ro, .var (.int .i64) .pr, .var (.int .i64) .pr] 43 []), boxes := nons [some [.var (.sl 7) .ro true, .var (.sl 1) .ro true, .var (.sl 1) (.own true) false, .var (.int .i64) .pr false]] 88 [] }
def P71_2x : Pat := { tmps := unds [] 88 [], boxes := nons [some [.var (.sl 7) .ro true, .var (.sl 1) .ro true, .var (.sl 1) (.own true) false, .var (.int .i64) .pr false]] 88 [] }
def b71_2 {R : Type} (G : ORC R) (k : Nat) (X : Int → List V → Int → Int → List V → List V → List V → Int → Option R) (Ko : List V → List V → List V → Int → Option R) (xi50 : Int) (xl51 : List V) (xi52 xi53 : Int) (xl54 xl55 xl56 : List V) (xi57 : Int) : Option R :=
  (bif (decide (xi53 < xi52)) then (bif ((decide (0 ≤ xi53)) && (decide (xi53 < ((List.length xl51 : Nat) : Int)))) then (nthK xl51 (Int.toNat xi53) fun e58 => (aI .i64 e58 fun n59 => (bif ((decide (0 ≤ xi50)) && (decide (xi50 < ((List.length xl54 : Nat) : Int)))) then (nthK xl54 (Int.toNat xi50) fun e60 => (ca7 e60 fun c61 c62 c63 c64 c65 c66 c67 => (aI .i64 c62 fun n68 => (G 73 [(.int .i64 n59), (.int .i64 n68), (.sl 7 xl54), (.sl 1 xl55), (.sl 1 xl56), (.int .i64 xi57)] fun o69 => (uL 1 o69 fun l71 r70 => (uI .i64 r70 fun n73 r72 => (unNil r72 (X xi50 xl51 xi52 (IntKind.i64.wrap (xi53 + 1)) xl54 xl55 l71 n73)))))))) else none))) else none) else (Ko xl54 xl55 xl56 xi57))
def l71_2g {R : Type} (G : ORC R) (k : Nat) (Ko : List V → List V → List V → Int → Option R) : Nat → Int → List V → Int → Int → List V → List V → List V → Int → Option R
  | 0 => fun _ _ _ _ _ _ _ _ => none
  | j + 1 => b71_2 G k (l71_2g G k Ko j) Ko
def l71_2 {R : Type} (G : ORC R) (k : Nat) (xi50 : Int) (xl51 : List V) (xi52 xi53 : Int) (xl54 xl55 xl56 : List V) (xi57 : Int) (Ko : List V → List V → List V → Int → Option R) : Option R := l71_2g G k Ko k xi50 xl51 xi52 xi53 xl54 xl55 xl56 xi57
def rd71_0 {R : Type} (G : ORC R) (k : Nat) (K : Ex → St → Option R) (j : Nat) (vs : List V) : Option R := match vs with
  | [(.int .i64 xi28), (.sl 1 xl29), (.sl 1 xl30), (.int .i64 xi31), (.int .i64 xi32), (.sl 7 xl33), (.sl 1 xl34), (.sl 1 xl35), (.int .i64 xi36)] => l71_0g G k (fun yi112 yl113 yl114 yl115 yl116 yi117 => K .normal (P71_0x.inst [(.int .i64 yi112), (.sl 1 yl113), (.sl 7 yl114), (.sl 1 yl115), (.sl 1 yl116), (.int .i64 yi117)])) j xi28 xl29 xl30 xi31 xi32 xl33 xl34 xl35 xi36
  | _ => none
def rd71_2 {R : Type} (G : ORC R) (k : Nat) (K : Ex → St → Option R) (j : Nat) (vs : List V) : Option R := match vs with
  | [(.int .i64 xi50), (.sl 1 xl51), (.int .i64 xi52), (.int .i64 xi53), (.sl 7 xl54), (.sl 1 xl55), (.sl 1 xl56), (.int .i64 xi57)] => l71_2g G k (fun yl118 yl119 yl120 yi121 => K .normal (P71_2x.inst [(.sl 7 yl118), (.sl 1 yl119), (.sl 1 yl120), (.int .i64 yi121)])) j xi50 xl51 xi52 xi53 xl54 xl55 xl56 xi57
  | _ => none
def L71 {R : Type} (G : ORC R) (k : Nat) : Nat → St → (Ex → St → Option R) → Option R
  | 0, S, K => P71_0h.mat S fun vs => rd71_0 G k K k vs
  | 2, S, K => P71_2h.mat S fun vs => rd71_2 G k K k vs
  | _, _, _ => none
def f71 {R : Type} (G : ORC R) (k : Nat) (ai1 : Int) (bl2 bl3 bl4 : List V) (bi5 : Int) (K : List V → Option R) : Option R :=
  (G 70 [(.sl 7 bl2), (.int .i64 ai1)] fun o6 => (uB o6 fun b8 r7 => (unNil r7 (bif (!b8) then (K [(.sl 1 bl4), (.int .i64 bi5)]) else (G 94 [(.sl 7 bl2), (.sl 1 bl3), (.sl 1 bl4), (.int .i64 bi5)] fun o9 => (uB o9 fun b11 r10 => (uL 1 r10 fun l13 r12 => (uI .i64 r12 fun n15 r14 => (unNil r14 (bif (!b11) then (K [(.sl 1 l13), (.int .i64 n15)]) else (bif ((decide (0 ≤ ai1)) && (decide (ai1 < ((List.length bl2 : Nat) : Int)))) then (nthK bl2 (Int.toNat ai1) fun e16 => (V.asAgg e16 fun l17 => (G 78 [(.agg l17)] fun o18 => (uB o18 fun b20 r19 => (unNil r19 (bif b20 then (G 72 [(.int .i64 ai1), (.sl 7 bl2), (.sl 1 bl3), (.sl 1 l13), (.int .i64 n15)] fun o21 => (uL 1 o21 fun l23 r22 => (uL 1 r22 fun l25 r24 => (uI .i64 r24 fun n27 r26 => (unNil r26 (l71_0 G k ai1 l23 l23 ((List.length l23 : Nat) : Int) 0 bl2 bl3 l25 n27 (fun yi44 yl45 yl46 yl47 yl48 yi49 => (l71_2 G k yi44 yl45 ((List.length yl45 : Nat) : Int) 0 yl46 yl47 yl48 yi49 (fun yl74 yl75 yl76 yi77 => (K [(.sl 1 yl76), (.int .i64 yi77)])))))))))) else (bif ((decide (0 ≤ ai1)) && (decide (ai1 < ((List.length l13 : Nat) : Int)))) then (nthK l13 (Int.toNat ai1) fun e78 => (bif ((decide (0 ≤ ai1)) && (decide (ai1 < ((List.length bl2 : Nat) : Int)))) then (nthK bl2 (Int.toNat ai1) fun e79 => (ca7 e79 fun c80 c81 c82 c83 c84 c85 c86 => (aI .i64 c80 fun n87 => (bif (n87 == 2) then (bif ((decide (0 ≤ ai1)) && (decide (ai1 < ((List.length bl2 : Nat) : Int)))) then (nthK bl2 (Int.toNat ai1) fun e88 => (ca7 e88 fun c89 c90 c91 c92 c93 c94 c95 => (aI .i64 c92 fun n96 => (G 71 [(.int .i64 n96), (.sl 7 bl2), (.sl 1 bl3), (.sl 1 (List.set l13 (Int.toNat ai1) (.bool true))), (.int .i64 n15)] fun o97 => (uL 1 o97 fun l99 r98 => (uI .i64 r98 fun n101 r100 => (unNil r100 (G 95 [(.int .i64 ai1), (.sl 7 bl2), (.sl 1 bl3), (.sl 1 l99), (.int .i64 n101)] fun o102 => (uL 1 o102 fun l104 r103 => (uI .i64 r103 fun n106 r105 => (unNil r105 (K [(.sl 1 l104), (.int .i64 n106)])))))))))))) else none) else (G 95 [(.int .i64 ai1), (.sl 7 bl2), (.sl 1 bl3), (.sl 1 (List.set l13 (Int.toNat ai1) (.bool true))), (.int .i64 n15)] fun o107 => (uL 1 o107 fun l109 r108 => (uI .i64 r108 fun n111 r110 => (unNil r110 (K [(.sl 1 l109), (.int .i64 n111)]))))))))) else none)) else none))))))) else none)))))))))))
noncomputable def D71_0 : LoopD := { id := 0, body := loopAt 0 (bodyOf Try.f71), head := P71_0h, out := P71_0x, ret := default }
theorem l71_0_is {R : Type} (G : ORC R) (k : Nat) (X : List V → Option R) (K : Ex → St → Option R) (xi28 : Int) (xl29 xl30 : List V) (xi31 xi32 : Int) (xl33 xl34 xl35 : List V) (xi36 : Int) :
    roundOf (TAB.env 71) G (L71 G k) D71_0 X K [(.int .i64 xi28), (.sl 1 xl29), (.sl 1 xl30), (.int .i64 xi31), (.int .i64 xi32), (.sl 7 xl33), (.sl 1 xl34), (.sl 1 xl35), (.int .i64 xi36)] = b71_0 G k (fun xi28 xl29 xl30 xi31 xi32 xl33 xl34 xl35 xi36 => X [(.int .i64 xi28), (.sl 1 xl29), (.sl 1 xl30), (.int .i64 xi31), (.int .i64 xi32), (.sl 7 xl33), (.sl 1 xl34), (.sl 1 xl35), (.int .i64 xi36)]) (fun yi112 yl113 yl114 yl115 yl116 yi117 => K .normal (P71_0x.inst [(.int .i64 yi112), (.sl 1 yl113), (.sl 7 yl114), (.sl 1 yl115), (.sl 1 yl116), (.int .i64 yi117)])) xi28 xl29 xl30 xi31 xi32 xl33 xl34 xl35 xi36 := by kernel_rfl
noncomputable def D71_2 : LoopD := { id := 2, body := loopAt 2 (bodyOf Try.f71), head := P71_2h, out := P71_2x, ret := default }
theorem l71_2_is {R : Type} (G : ORC R) (k : Nat) (X : List V → Option R) (K : Ex → St → Option R) (xi50 : Int) (xl51 : List V) (xi52 xi53 : Int) (xl54 xl55 xl56 : List V) (xi57 : Int) :
    roundOf (TAB.env 71) G (L71 G k) D71_2 X K [(.int .i64 xi50), (.sl 1 xl51), (.int .i64 xi52), (.int .i64 xi53), (.sl 7 xl54), (.sl 1 xl55), (.sl 1 xl56), (.int .i64 xi57)] = b71_2 G k (fun xi50 xl51 xi52 xi53 xl54 xl55 xl56 xi57 => X [(.int .i64 xi50), (.sl 1 xl51), (.int .i64 xi52), (.int .i64 xi53), (.sl 7 xl54), (.sl 1 xl55), (.sl 1 xl56), (.int .i64 xi57)]) (fun yl118 yl119 yl120 yi121 => K .normal (P71_2x.inst [(.sl 7 yl118), (.sl 1 yl119), (.sl 1 yl120), (.int .i64 yi121)])) xi50 xl51 xi52 xi53 xl54 xl55 xl56 xi57 := by kernel_rfl
theorem f71_is {R : Type} (G : ORC R) (k : Nat) (K : List V → Option R) (ai1 : Int) (bl2 bl3 bl4 : List V) (bi5 : Int) :
    callF (TAB.env 71) G (L71 G k) Try.f71 S71 [(.int .i64 ai1), (.sl 7 bl2), (.sl 1 bl3), (.sl 1 bl4), (.int .i64 bi5)] K = f71 G k ai1 bl2 bl3 bl4 bi5 K := by kernel_rfl
theorem li71_0 {R : Type} (G : ORC R) (k : Nat) : LoopIs (TAB.env 71) G (L71 G k) 0 (loopAt 0 (bodyOf Try.f71)) :=
  ⟨D71_0, fun j vs K => rd71_0 G k K j vs, k, rfl, rfl, by kernel_rfl, by kernel_rfl, by kernel_rfl, (fun vs K => by unfold rd71_0; dsimp only; split <;> rfl),
    (fun j vs K r h => by
      unfold rd71_0 at h
      dsimp only at h
      split at h
      · rw [l71_0_is]; exact h
      · cases h), (fun S K r h => h)⟩
theorem li71_2 {R : Type} (G : ORC R) (k : Nat) : LoopIs (TAB.env 71) G (L71 G k) 2 (loopAt 2 (bodyOf Try.f71)) :=
  ⟨D71_2, fun j vs K => rd71_2 G k K j vs, k, rfl, rfl, by kernel_rfl, by kernel_rfl, by kernel_rfl, (fun vs K => by unfold rd71_2; dsimp only; split <;> rfl),
    (fun j vs K r h => by
      unfold rd71_2 at h
      dsimp only at h
      split at h
      · rw [l71_2_is]; exact h
      · cases h), (fun S K r h => h)⟩
theorem lo71 : loopsOf (bodyOf Try.f71) = [(0, loopAt 0 (bodyOf Try.f71)), (2, loopAt 2 (bodyOf Try.f71))] := by kernel_rfl
theorem la71 {R : Type} (G : ORC R) (k : Nat) : LoopsAre (TAB.env 71) G (L71 G k) (bodyOf Try.f71) :=
  loopsAre_of (by rw [lo71]; intro p hp; simp only [List.mem_cons, List.not_mem_nil, or_false] at hp; rcases hp with rfl | rfl <;> first | exact li71_0 G k | exact li71_2 G k)
def g71 {R : Type} (G : ORC R) (k : Nat) (args : List V) (K : List V → Option R) : Option R := match args with
  | [(.int .i64 ai1), (.sl 7 bl2), (.sl 1 bl3), (.sl 1 bl4), (.int .i64 bi5)] => f71 G k ai1 bl2 bl3 bl4 bi5 K
  | _ => none
theorem s71 {R : Type} {G : ORC R} {k : Nat} (hG : Sound Try.prog TAB G) (args : List V) (K : List V → Option R) (r : R) (h : g71 G k args K = some r) : ∃ o, CallOK Try.prog TAB.env 71 args o ∧ K o = some r := by
  unfold g71 at h
  split at h
  · rw [← f71_is] at h
    exact callF_sound (f := 71) TAB_chk MO hG Try.func71 (sg := S71) (by kernel_rfl) (by kernel_rfl) (la71 G k) h
  · cases h
end Go.Proofs.Ytblabbcmokldiaa.Vm
open Go Go.VM
set_option linter.unusedVariables false
set_option maxRecDepth 100000
set_option maxHeartbeats 4000000
namespace Go.Proofs.Ytblabbcmokldiaa.Vm
/-! ### (*cotillion/lcca.entry).means: function 72 -/
def L72 {R : Type} (_ : ORC R) (_ : Nat) : Nat → St → (Ex → St → Option R) → Option R := fun _ _ _ => none
def f72 {R : Type} (G : ORC R) (k : Nat) (ai1 : Int) (bl2 bl3 bl4 : List V) (bi5 : Int) (K : List V → Option R) : Option R :=
  (bif ((decide (0 ≤ ai1)) && (decide (ai1 < ((List.length bl2 : Nat) : Int)))) then (nthK bl2 (Int.toNat ai1) fun e6 => (V.asAgg e6 fun l7 => (G 78 [(.agg l7)] fun o8 => (uB o8 fun b10 r9 => (unNil r9 (bif (!b10) then (K [(.sl 1 [(.int .i64 ai1)]), (.sl 1 bl4), (.int .i64 bi5)]) else (bif (decide (ai1 < ((List.length bl3 : Nat) : Int))) then (bif ((decide (0 ≤ ai1)) && (decide (ai1 < ((List.length bl3 : Nat) : Int)))) then (nthK bl3 (Int.toNat ai1) fun e11 => (V.asSl e11 fun z12 l13 => (bif (decide (((List.length l13 : Nat) : Int) > 0)) then (bif ((decide (0 ≤ ai1)) && (decide (ai1 < ((List.length bl3 : Nat) : Int)))) then (nthK bl3 (Int.toNat ai1) fun e14 => (V.asSl e14 fun z15 l16 => (K [(.sl z15 l16), (.sl 1 bl4), (.int .i64 bi5)]))) else none) else (bif ((decide (0 ≤ ai1)) && (decide (ai1 < ((List.length bl2 : Nat) : Int)))) then (nthK bl2 (Int.toNat ai1) fun e17 => (ca7 e17 fun c18 c19 c20 c21 c22 c23 c24 => (aI .i64 c19 fun n25 => (G 70 [(.sl 7 bl2), (.int .i64 n25)] fun o26 => (uB o26 fun b28 r27 => (unNil r27 (bif (!b28) then (K [(.sl 1 []), (.sl 1 bl4), (.int .i64 bi5)]) else (bif ((decide (0 ≤ n25)) && (decide (n25 < ((List.length bl2 : Nat) : Int)))) then (nthK bl2 (Int.toNat n25) fun e29 => (ca7 e29 fun c30 c31 c32 c33 c34 c35 c36 => (aI .i64 c30 fun n37 => (bif (n37 == 2) then (bif ((decide (0 ≤ n25)) && (decide (n25 < ((List.length bl2 : Nat) : Int)))) then (nthK bl2 (Int.toNat n25) fun e38 => (ca7 e38 fun c39 c40 c41 c42 c43 c44 c45 => (aI .i64 c42 fun n46 => (K [(.sl 1 [(.int .i64 n46)]), (.sl 1 bl4), (.int .i64 bi5)])))) else none) else (G 96 [(.sl 7 bl2), (.int .i64 n25)] fun o47 => (uL 1 o47 fun l49 r48 => (unNil r48 (K [(.sl 1 l49), (.sl 1 bl4), (.int .i64 bi5)])))))))) else none)))))))) else none)))) else none) else (bif ((decide (0 ≤ ai1)) && (decide (ai1 < ((List.length bl2 : Nat) : Int)))) then (nthK bl2 (Int.toNat ai1) fun e50 => (ca7 e50 fun c51 c52 c53 c54 c55 c56 c57 => (aI .i64 c52 fun n58 => (G 70 [(.sl 7 bl2), (.int .i64 n58)] fun o59 => (uB o59 fun b61 r60 => (unNil r60 (bif (!b61) then (K [(.sl 1 []), (.sl 1 bl4), (.int .i64 bi5)]) else (bif ((decide (0 ≤ n58)) && (decide (n58 < ((List.length bl2 : Nat) : Int)))) then (nthK bl2 (Int.toNat n58) fun e62 => (ca7 e62 fun c63 c64 c65 c66 c67 c68 c69 => (aI .i64 c63 fun n70 => (bif (n70 == 2) then (bif ((decide (0 ≤ n58)) && (decide (n58 < ((List.length bl2 : Nat) : Int)))) then (nthK bl2 (Int.toNat n58) fun e71 => (ca7 e71 fun c72 c73 c74 c75 c76 c77 c78 => (aI .i64 c75 fun n79 => (K [(.sl 1 [(.int .i64 n79)]), (.sl 1 bl4), (.int .i64 bi5)])))) else none) else (G 96 [(.sl 7 bl2), (.int .i64 n58)] fun o80 => (uL 1 o80 fun l82 r81 => (unNil r81 (K [(.sl 1 l82), (.sl 1 bl4), (.int .i64 bi5)])))))))) else none)))))))) else none)))))))) else none)
theorem f72_is {R : Type} (G : ORC R) (k : Nat) (K : List V → Option R) (ai1 : Int) (bl2 bl3 bl4 : List V) (bi5 : Int) :
    callF (TAB.env 72) G (L72 G k) Try.f72 S72 [(.int .i64 ai1), (.sl 7 bl2), (.sl 1 bl3), (.sl 1 bl4), (.int .i64 bi5)] K = f72 G k ai1 bl2 bl3 bl4 bi5 K := by kernel_rfl
theorem lo72 : loopsOf (bodyOf Try.f72) = [] := by kernel_rfl
theorem la72 {R : Type} (G : ORC R) (k : Nat) : LoopsAre (TAB.env 72) G (L72 G k) (bodyOf Try.f72) :=
  loopsAre_of (by rw [lo72]; intro p hp; cases hp)
def g72 {R : Type} (G : ORC R) (k : Nat) (args : List V) (K : List V → Option R) : Option R := match args with
  | [(.int .i64 ai1), (.sl 7 bl2), (.sl 1 bl3), (.sl 1 bl4), (.int .i64 bi5)] => f72 G k ai1 bl2 bl3 bl4 bi5 K
  | _ => none
theorem s72 {R : Type} {G : ORC R} {k : Nat} (hG : Sound Try.prog TAB G) (args : List V) (K : List V → Option R) (r : R) (h : g72 G k args K = some r) : ∃ o, CallOK Try.prog TAB.env 72 args o ∧ K o = some r := by
  unfold g72 at h
  split at h
  · rw [← f72_is] at h
    exact callF_sound (f := 72) TAB_chk MO hG Try.func72 (sg := S72) (by kernel_rfl) (by kernel_rfl) (la72 G k) h
  · cases h
end Go.Proofs.Ytblabbcmokldiaa.Vm
open Go Go.VM
set_option linter.unusedVariables false
set_option maxRecDepth 100000
set_option maxHeartbeats 4000000
namespace Go.Proofs.Ytblabbcmokldiaa.Vm
/-! ### (*cotillion/lcca.entry).up: function 73 -/
def P73_0h : Pat := { tmps := unds [.stat (.one (.ptr 0 0) .pt), .var (.int .i64) .pr, .var (.int .i64) .pr, .undef, .undef, .undef, .var (.int .i64) .pr] 44 [], boxes := nons [some [.var (.sl 7) .ro true, .var (.sl 1) .ro true, .var (.sl 1) (.own true) false, .var (.int .i64) .pr false]] 51 [] }
def P73_0x : Pat := { tmps := unds [] 51 [], boxes := nons [some [.var (.sl 7) .ro true, .var (.sl 1) .ro true, .var (.sl 1) (.own true) false, .var (.int .i64) .pr false]] 51 [] }
def b73_0 {R : Type} (G : ORC R) (k : Nat) (X : Int → Int → Int → List V → List V → List V → Int → Option R) (Ko : List V → List V → List V → Int → Option R) (xi7 xi8 xi9 : Int) (xl10 xl11 xl12 : List V) (xi13 : Int) : Option R :=
  (bif (decide (xi9 > xi8)) then (G 70 [(.sl 7 xl10), (.int .i64 xi9)] fun o14 => (uB o14 fun b16 r15 => (unNil r15 (bif b16 then (G 69 [(.sl 7 xl10), (.int .i64 xi7), (.int .i64 xi9)] fun o17 => (uB o17 fun b19 r18 => (unNil r18 (bif b19 then (G 69 [(.sl 7 xl10), (.int .i64 xi9), (.int .i64 xi8)] fun o20 => (uB o20 fun b22 r21 => (unNil r21 (bif b22 then (G 94 [(.sl 7 xl10), (.sl 1 xl11), (.sl 1 xl12), (.int .i64 xi13)] fun o23 => (uB o23 fun b25 r24 => (uL 1 r24 fun l27 r26 => (uI .i64 r26 fun n29 r28 => (unNil r28 (bif b25 then (bif ((decide (0 ≤ xi9)) && (decide (xi9 < ((List.length l27 : Nat) : Int)))) then (nthK l27 (Int.toNat xi9) fun e30 => (G 95 [(.int .i64 xi9), (.sl 7 xl10), (.sl 1 xl11), (.sl 1 (List.set l27 (Int.toNat xi9) (.bool true))), (.int .i64 n29)] fun o31 => (uL 1 o31 fun l33 r32 => (uI .i64 r32 fun n35 r34 => (unNil r34 (X xi7 xi8 (IntKind.i64.wrap (xi9 - 1)) xl10 xl11 l33 n35)))))) else none) else (X xi7 xi8 (IntKind.i64.wrap (xi9 - 1)) xl10 xl11 l27 n29))))))) else (X xi7 xi8 (IntKind.i64.wrap (xi9 - 1)) xl10 xl11 xl12 xi13))))) else (X xi7 xi8 (IntKind.i64.wrap (xi9 - 1)) xl10 xl11 xl12 xi13))))) else (X xi7 xi8 (IntKind.i64.wrap (xi9 - 1)) xl10 xl11 xl12 xi13))))) else (Ko xl10 xl11 xl12 xi13))
def l73_0g {R : Type} (G : ORC R) (k : Nat) (Ko : List V → List V → List V → Int → Option R) : Nat → Int → Int → Int → List V → List V → List V → Int → Option R
  | 0 => fun _ _ _ _ _ _ _ => none
  | j + 1 => b73_0 G k (l73_0g G k Ko j) Ko
def l73_0 {R : Type} (G : ORC R) (k : Nat) (xi7 xi8 xi9 : Int) (xl10 xl11 xl12 : List V) (xi13 : Int) (Ko : List V → List V → List V → Int → Option R) : Option R := l73_0g G k Ko k xi7 xi8 xi9 xl10 xl11 xl12 xi13
def rd73_0 {R : Type} (G : ORC R) (k : Nat) (K : Ex → St → Option R) (j : Nat) (vs : List V) : Option R := match vs with
  | [(.int .i64 xi7), (.int .i64 xi8), (.int .i64 xi9), (.sl 7 xl10), (.sl 1 xl11), (.sl 1 xl12), (.int .i64 xi13)] => l73_0g G k (fun yl40 yl41 yl42 yi43 => K .normal (P73_0x.inst [(.sl 7 yl40), (.sl 1 yl41), (.sl 1 yl42), (.int .i64 yi43)])) j xi7 xi8 xi9 xl10 xl11 xl12 xi13
  | _ => none
def L73 {R : Type} (G : ORC R) (k : Nat) : Nat → St → (Ex → St → Option R) → Option R
  | 0, S, K => P73_0h.mat S fun vs => rd73_0 G k K k vs
  | _, _, _ => none
def f73 {R : Type} (G : ORC R) (k : Nat) (ai1 ai2 : Int) (bl3 bl4 bl5 : List V) (bi6 : Int) (K : List V → Option R) : Option R :=
  (l73_0 G k ai1 ai2 (IntKind.i64.wrap (ai1 - 1)) bl3 bl4 bl5 bi6 (fun yl36 yl37 yl38 yi39 => (K [(.sl 1 yl38), (.int .i64 yi39)])))
noncomputable def D73_0 : LoopD := { id := 0, body := loopAt 0 (bodyOf Try.f73), head := P73_0h, out := P73_0x, ret := default }
theorem l73_0_is {R : Type} (G : ORC R) (k : Nat) (X : List V → Option R) (K : Ex → St → Option R) (xi7 xi8 xi9 : Int) (xl10 xl11 xl12 : List V) (xi13 : Int) :
    roundOf (TAB.env 73) G (L73 G k) D73_0 X K [(.int .i64 xi7), (.int .i64 xi8), (.int .i64 xi9), (.sl 7 xl10), (.sl 1 xl11), (.sl 1 xl12), (.int .i64 xi13)] = b73_0 G k (fun xi7 xi8 xi9 xl10 xl11 xl12 xi13 => X [(.int .i64 xi7), (.int .i64 xi8), (.int .i64 xi9), (.sl 7 xl10), (.sl 1 xl11), (.sl 1 xl12), (.int .i64 xi13)]) (fun yl40 yl41 yl42 yi43 => K .normal (P73_0x.inst [(.sl 7 yl40), (.sl 1 yl41), (.sl 1 yl42), (.int .i64 yi43)])) xi7 xi8 xi9 xl10 xl11 xl12 xi13 := by kernel_rfl
theorem f73_is {R : Type} (G : ORC R) (k : Nat) (K : List V → Option R) (ai1 ai2 : Int) (bl3 bl4 bl5 : List V) (bi6 : Int) :
    callF (TAB.env 73) G (L73 G k) Try.f73 S73 [(.int .i64 ai1), (.int .i64 ai2), (.sl 7 bl3), (.sl 1 bl4), (.sl 1 bl5), (.int .i64 bi6)] K = f73 G k ai1 ai2 bl3 bl4 bl5 bi6 K := by kernel_rfl
theorem li73_0 {R : Type} (G : ORC R) (k : Nat) : LoopIs (TAB.env 73) G (L73 G k) 0 (loopAt 0 (bodyOf Try.f73)) :=
  ⟨D73_0, fun j vs K => rd73_0 G k K j vs, k, rfl, rfl, by kernel_rfl, by kernel_rfl, by kernel_rfl, (fun vs K => by unfold rd73_0; dsimp only; split <;> rfl),
    (fun j vs K r h => by
      unfold rd73_0 at h
      dsimp only at h
      split at h
      · rw [l73_0_is]; exact h
      · cases h), (fun S K r h => h)⟩
theorem lo73 : loopsOf (bodyOf Try.f73) = [(0, loopAt 0 (bodyOf Try.f73))] := by kernel_rfl
theorem la73 {R : Type} (G : ORC R) (k : Nat) : LoopsAre (TAB.env 73) G (L73 G k) (bodyOf Try.f73) :=
  loopsAre_of (by rw [lo73]; intro p hp; simp only [List.mem_cons, List.not_mem_nil, or_false] at hp; subst hp; exact li73_0 G k)
def g73 {R : Type} (G : ORC R) (k : Nat) (args : List V) (K : List V → Option R) : Option R := match args with
  | [(.int .i64 ai1), (.int .i64 ai2), (.sl 7 bl3), (.sl 1 bl4), (.sl 1 bl5), (.int .i64 bi6)] => f73 G k ai1 ai2 bl3 bl4 bl5 bi6 K
  | _ => none
theorem s73 {R : Type} {G : ORC R} {k : Nat} (hG : Sound Try.prog TAB G) (args : List V) (K : List V → Option R) (r : R) (h : g73 G k args K = some r) : ∃ o, CallOK Try.prog TAB.env 73 args o ∧ K o = some r := by
  unfold g73 at h
  split at h
  · rw [← f73_is] at h
    exact callF_sound (f := 73) TAB_chk MO hG Try.func73 (sg := S73) (by kernel_rfl) (by kernel_rfl) (la73 G k) h
  · cases h
end Go.Proofs.Ytblabbcmokldiaa.Vm
open Go Go.VM
set_option linter.unusedVariables false
set_option maxRecDepth 100000
set_option maxHeartbeats 4000000
namespace Go.Proofs.Ytblabbcmokldiaa.Vm
/-! ### (*cotillion/lcca.entry).list: function 74 -/
def P74_0h : Pat := { tmps := unds [.undef, .undef, .undef, .var (.sl 1) (.own true)] 5 (unds [.stat (.ref (.b 0 2) 0), .var (.int .i64) .pr, .var (.int .i64) .pr] 11 []), boxes := nons [some [.var (.sl 7) .ro true, .var (.sl 1) .ro true, .var (.sl 1) (.own true) false, .var (.int .i64) .pr false]] 23 [] }
def P74_0x : Pat := { tmps := unds [.undef, .undef, .undef, .var (.sl 1) (.own true)] 19 [], boxes := nons [some [.var (.sl 7) .ro true, .var (.sl 1) .ro true, .var (.sl 1) (.own true) false, .var (.int .i64) .pr false]] 23 [] }
def b74_0 {R : Type} (G : ORC R) (k : Nat) (X : List V → Int → Int → List V → List V → List V → Int → Option R) (Ko : List V → List V → List V → List V → Int → Option R) (xl5 : List V) (xi6 xi7 : Int) (xl8 xl9 xl10 : List V) (xi11 : Int) : Option R :=
  (bif (decide (xi7 < xi6)) then (bif ((decide (0 ≤ xi7)) && (decide (xi7 < ((List.length xl10 : Nat) : Int)))) then (nthK xl10 (Int.toNat xi7) fun e12 => (V.asBool e12 fun b13 => (bif b13 then (bif (decide (List.length xl5 + 1 ≤ 1073741824)) then (X (xl5 ++ [(.int .i64 xi7)]) xi6 (IntKind.i64.wrap (xi7 + 1)) xl8 xl9 xl10 xi11) else none) else (X xl5 xi6 (IntKind.i64.wrap (xi7 + 1)) xl8 xl9 xl10 xi11)))) else none) else (Ko xl5 xl8 xl9 xl10 xi11))
def l74_0g {R : Type} (G : ORC R) (k : Nat) (Ko : List V → List V → List V → List V → Int → Option R) : Nat → List V → Int → Int → List V → List V → List V → Int → Option R
  | 0 => fun _ _ _ _ _ _ _ => none
  | j + 1 => b74_0 G k (l74_0g G k Ko j) Ko
def l74_0 {R : Type} (G : ORC R) (k : Nat) (xl5 : List V) (xi6 xi7 : Int) (xl8 xl9 xl10 : List V) (xi11 : Int) (Ko : List V → List V → List V → List V → Int → Option R) : Option R := l74_0g G k Ko k xl5 xi6 xi7 xl8 xl9 xl10 xi11
def rd74_0 {R : Type} (G : ORC R) (k : Nat) (K : Ex → St → Option R) (j : Nat) (vs : List V) : Option R := match vs with
  | [(.sl 1 xl5), (.int .i64 xi6), (.int .i64 xi7), (.sl 7 xl8), (.sl 1 xl9), (.sl 1 xl10), (.int .i64 xi11)] => l74_0g G k (fun yl19 yl20 yl21 yl22 yi23 => K .normal (P74_0x.inst [(.sl 1 yl19), (.sl 7 yl20), (.sl 1 yl21), (.sl 1 yl22), (.int .i64 yi23)])) j xl5 xi6 xi7 xl8 xl9 xl10 xi11
  | _ => none
def L74 {R : Type} (G : ORC R) (k : Nat) : Nat → St → (Ex → St → Option R) → Option R
  | 0, S, K => P74_0h.mat S fun vs => rd74_0 G k K k vs
  | _, _, _ => none
def f74 {R : Type} (G : ORC R) (k : Nat) (bl1 bl2 bl3 : List V) (bi4 : Int) (K : List V → Option R) : Option R :=
  (l74_0 G k [] ((List.length bl3 : Nat) : Int) 0 bl1 bl2 bl3 bi4 (fun yl14 yl15 yl16 yl17 yi18 => (K [(.sl 1 yl14), (.sl 1 yl17), (.int .i64 yi18)])))
noncomputable def D74_0 : LoopD := { id := 0, body := loopAt 0 (bodyOf Try.f74), head := P74_0h, out := P74_0x, ret := default }
theorem l74_0_is {R : Type} (G : ORC R) (k : Nat) (X : List V → Option R) (K : Ex → St → Option R) (xl5 : List V) (xi6 xi7 : Int) (xl8 xl9 xl10 : List V) (xi11 : Int) :
    roundOf (TAB.env 74) G (L74 G k) D74_0 X K [(.sl 1 xl5), (.int .i64 xi6), (.int .i64 xi7), (.sl 7 xl8), (.sl 1 xl9), (.sl 1 xl10), (.int .i64 xi11)] = b74_0 G k (fun xl5 xi6 xi7 xl8 xl9 xl10 xi11 => X [(.sl 1 xl5), (.int .i64 xi6), (.int .i64 xi7), (.sl 7 xl8), (.sl 1 xl9), (.sl 1 xl10), (.int .i64 xi11)]) (fun yl19 yl20 yl21 yl22 yi23 => K .normal (P74_0x.inst [(.sl 1 yl19), (.sl 7 yl20), (.sl 1 yl21), (.sl 1 yl22), (.int .i64 yi23)])) xl5 xi6 xi7 xl8 xl9 xl10 xi11 := by kernel_rfl
theorem f74_is {R : Type} (G : ORC R) (k : Nat) (K : List V → Option R) (bl1 bl2 bl3 : List V) (bi4 : Int) :
    callF (TAB.env 74) G (L74 G k) Try.f74 S74 [(.sl 7 bl1), (.sl 1 bl2), (.sl 1 bl3), (.int .i64 bi4)] K = f74 G k bl1 bl2 bl3 bi4 K := by kernel_rfl
theorem li74_0 {R : Type} (G : ORC R) (k : Nat) : LoopIs (TAB.env 74) G (L74 G k) 0 (loopAt 0 (bodyOf Try.f74)) :=
  ⟨D74_0, fun j vs K => rd74_0 G k K j vs, k, rfl, rfl, by kernel_rfl, by kernel_rfl, by kernel_rfl, (fun vs K => by unfold rd74_0; dsimp only; split <;> rfl),
    (fun j vs K r h => by
      unfold rd74_0 at h
      dsimp only at h
      split at h
      · rw [l74_0_is]; exact h
      · cases h), (fun S K r h => h)⟩
theorem lo74 : loopsOf (bodyOf Try.f74) = [(0, loopAt 0 (bodyOf Try.f74))] := by kernel_rfl
theorem la74 {R : Type} (G : ORC R) (k : Nat) : LoopsAre (TAB.env 74) G (L74 G k) (bodyOf Try.f74) :=
  loopsAre_of (by rw [lo74]; intro p hp; simp only [List.mem_cons, List.not_mem_nil, or_false] at hp; subst hp; exact li74_0 G k)
def g74 {R : Type} (G : ORC R) (k : Nat) (args : List V) (K : List V → Option R) : Option R := match args with
  | [(.sl 7 bl1), (.sl 1 bl2), (.sl 1 bl3), (.int .i64 bi4)] => f74 G k bl1 bl2 bl3 bi4 K
  | _ => none
theorem s74 {R : Type} {G : ORC R} {k : Nat} (hG : Sound Try.prog TAB G) (args : List V) (K : List V → Option R) (r : R) (h : g74 G k args K = some r) : ∃ o, CallOK Try.prog TAB.env 74 args o ∧ K o = some r := by
  unfold g74 at h
  split at h
  · rw [← f74_is] at h
    exact callF_sound (f := 74) TAB_chk MO hG Try.func74 (sg := S74) (by kernel_rfl) (by kernel_rfl) (la74 G k) h
  · cases h
end Go.Proofs.Ytblabbcmokldiaa.Vm
open Go Go.VM
set_option linter.unusedVariables false
set_option maxRecDepth 100000
set_option maxHeartbeats 4000000
namespace Go.Proofs.Ytblabbcmokldiaa.Vm
/-! ### cotillion/lcca.history: function 78 -/
def L78 {R : Type} (_ : ORC R) (_ : Nat) : Nat → St → (Ex → St → Option R) → Option R := fun _ _ _ => none
def f78 {R : Type} (G : ORC R) (k : Nat) (ai1 ai2 : Int) (ai3 ai4 : Int) (ai5 ai6 : Int) (as7 : ByteArray) (K : List V → Option R) : Option R :=
  (bif (ai1 == 4) then (K [(.bool true)]) else (K [(.bool (ai1 == 5))]))
theorem f78_is {R : Type} (G : ORC R) (k : Nat) (K : List V → Option R) (ai1 ai2 : Int) (ai3 ai4 : Int) (ai5 ai6 : Int) (as7 : ByteArray) :
    callF (TAB.env 78) G (L78 G k) Try.f78 S78 [(.agg [(.int .i64 ai1), (.int .i64 ai2), (.int .i64 ai3), (.int .i64 ai4), (.int .i64 ai5), (.int .i64 ai6), (.str as7)])] K = f78 G k ai1 ai2 ai3 ai4 ai5 ai6 as7 K := by kernel_rfl
theorem lo78 : loopsOf (bodyOf Try.f78) = [] := by kernel_rfl
theorem la78 {R : Type} (G : ORC R) (k : Nat) : LoopsAre (TAB.env 78) G (L78 G k) (bodyOf Try.f78) :=
  loopsAre_of (by rw [lo78]; intro p hp; cases hp)
def g78 {R : Type} (G : ORC R) (k : Nat) (args : List V) (K : List V → Option R) : Option R := match args with
  | [(.agg [(.int .i64 ai1), (.int .i64 ai2), (.int .i64 ai3), (.int .i64 ai4), (.int .i64 ai5), (.int .i64 ai6), (.str as7)])] => f78 G k ai1 ai2 ai3 ai4 ai5 ai6 as7 K
  | _ => none
theorem s78 {R : Type} {G : ORC R} {k : Nat} (hG : Sound Try.prog TAB G) (args : List V) (K : List V → Option R) (r : R) (h : g78 G k args K = some r) : ∃ o, CallOK Try.prog TAB.env 78 args o ∧ K o = some r := by
  unfold g78 at h
  split at h
  · rw [← f78_is] at h
    exact callF_sound (f := 78) TAB_chk MO hG Try.func78 (sg := S78) (by kernel_rfl) (by kernel_rfl) (la78 G k) h
  · cases h
end Go.Proofs.Ytblabbcmokldiaa.Vm
open Go Go.VM
set_option linter.unusedVariables false
set_option maxRecDepth 100000
set_option maxHeartbeats 4000000
namespace Go.Proofs.Ytblabbcmokldiaa.Vm
/-! ### (*cotillion/lcca.entry).more: function 94 -/
def L94 {R : Type} (_ : ORC R) (_ : Nat) : Nat → St → (Ex → St → Option R) → Option R := fun _ _ _ => none
def f94 {R : Type} (G : ORC R) (k : Nat) (bl1 bl2 bl3 : List V) (bi4 : Int) (K : List V → Option R) : Option R :=
  (K [(.bool (decide ((IntKind.i64.wrap (bi4 - 1)) ≥ 0))), (.sl 1 bl3), (.int .i64 (IntKind.i64.wrap (bi4 - 1)))])
theorem f94_is {R : Type} (G : ORC R) (k : Nat) (K : List V → Option R) (bl1 bl2 bl3 : List V) (bi4 : Int) :
    callF (TAB.env 94) G (L94 G k) Try.f94 S94 [(.sl 7 bl1), (.sl 1 bl2), (.sl 1 bl3), (.int .i64 bi4)] K = f94 G k bl1 bl2 bl3 bi4 K := by kernel_rfl
theorem lo94 : loopsOf (bodyOf Try.f94) = [] := by kernel_rfl
theorem la94 {R : Type} (G : ORC R) (k : Nat) : LoopsAre (TAB.env 94) G (L94 G k) (bodyOf Try.f94) :=
  loopsAre_of (by rw [lo94]; intro p hp; cases hp)
def g94 {R : Type} (G : ORC R) (k : Nat) (args : List V) (K : List V → Option R) : Option R := match args with
  | [(.sl 7 bl1), (.sl 1 bl2), (.sl 1 bl3), (.int .i64 bi4)] => f94 G k bl1 bl2 bl3 bi4 K
  | _ => none
theorem s94 {R : Type} {G : ORC R} {k : Nat} (hG : Sound Try.prog TAB G) (args : List V) (K : List V → Option R) (r : R) (h : g94 G k args K = some r) : ∃ o, CallOK Try.prog TAB.env 94 args o ∧ K o = some r := by
  unfold g94 at h
  split at h
  · rw [← f94_is] at h
    exact callF_sound (f := 94) TAB_chk MO hG Try.func94 (sg := S94) (by kernel_rfl) (by kernel_rfl) (la94 G k) h
  · cases h
end Go.Proofs.Ytblabbcmokldiaa.Vm
open Go Go.VM
set_option linter.unusedVariables false
set_option maxRecDepth 100000
set_option maxHeartbeats 4000000
namespace Go.Proofs.Ytblabbcmokldiaa.Vm
/-! ### (*cotillion/lcca.entry).rest: function 95 -/
def P95_0h : Pat := { tmps := unds [.stat (.one (.ptr 0 0) .pt)] 19 (unds [.var (.sl 1) .ro, .var (.int .i64) .pr, .var (.int .i64) .pr] 10 []), boxes := nons [some [.var (.sl 7) .ro true, .var (.sl 1) .ro true, .var (.sl 1) (.own true) false, .var (.int .i64) .pr false]] 33 [] }
def P95_0x : Pat := { tmps := unds [] 33 [], boxes := nons [some [.var (.sl 7) .ro true, .var (.sl 1) .ro true, .var (.sl 1) (.own true) false, .var (.int .i64) .pr false]] 33 [] }
def b95_0 {R : Type} (G : ORC R) (k : Nat) (X : List V → Int → Int → List V → List V → List V → Int → Option R) (Ko : List V → List V → List V → Int → Option R) (xl18 : List V) (xi19 xi20 : Int) (xl21 xl22 xl23 : List V) (xi24 : Int) : Option R :=
  (bif (decide (xi20 < xi19)) then (bif ((decide (0 ≤ xi20)) && (decide (xi20 < ((List.length xl18 : Nat) : Int)))) then (nthK xl18 (Int.toNat xi20) fun e25 => (aI .i64 e25 fun n26 => (G 110 [(.int .i64 n26), (.sl 7 xl21), (.sl 1 xl22), (.sl 1 xl23), (.int .i64 xi24)] fun o27 => (uB o27 fun b29 r28 => (uL 1 r28 fun l31 r30 => (uI .i64 r30 fun n33 r32 => (unNil r32 (bif b29 then (G 71 [(.int .i64 n26), (.sl 7 xl21), (.sl 1 xl22), (.sl 1 l31), (.int .i64 n33)] fun o34 => (uL 1 o34 fun l36 r35 => (uI .i64 r35 fun n38 r37 => (unNil r37 (X xl18 xi19 (IntKind.i64.wrap (xi20 + 1)) xl21 xl22 l36 n38))))) else (X xl18 xi19 (IntKind.i64.wrap (xi20 + 1)) xl21 xl22 l31 n33))))))))) else none) else (Ko xl21 xl22 xl23 xi24))
def l95_0g {R : Type} (G : ORC R) (k : Nat) (Ko : List V → List V → List V → Int → Option R) : Nat → List V → Int → Int → List V → List V → List V → Int → Option R
  | 0 => fun _ _ _ _ _ _ _ => none
  | j + 1 => b95_0 G k (l95_0g G k Ko j) Ko
def l95_0 {R : Type} (G : ORC R) (k : Nat) (xl18 : List V) (xi19 xi20 : Int) (xl21 xl22 xl23 : List V) (xi24 : Int) (Ko : List V → List V → List V → Int → Option R) : Option R := l95_0g G k Ko k xl18 xi19 xi20 xl21 xl22 xl23 xi24
def rd95_0 {R : Type} (G : ORC R) (k : Nat) (K : Ex → St → Option R) (j : Nat) (vs : List V) : Option R := match vs with
  | [(.sl 1 xl18), (.int .i64 xi19), (.int .i64 xi20), (.sl 7 xl21), (.sl 1 xl22), (.sl 1 xl23), (.int .i64 xi24)] => l95_0g G k (fun yl43 yl44 yl45 yi46 => K .normal (P95_0x.inst [(.sl 7 yl43), (.sl 1 yl44), (.sl 1 yl45), (.int .i64 yi46)])) j xl18 xi19 xi20 xl21 xl22 xl23 xi24
  | _ => none
def L95 {R : Type} (G : ORC R) (k : Nat) : Nat → St → (Ex → St → Option R) → Option R
  | 0, S, K => P95_0h.mat S fun vs => rd95_0 G k K k vs
  | _, _, _ => none
def f95 {R : Type} (G : ORC R) (k : Nat) (ai1 : Int) (bl2 bl3 bl4 : List V) (bi5 : Int) (K : List V → Option R) : Option R :=
  (bif ((decide (0 ≤ ai1)) && (decide (ai1 < ((List.length bl2 : Nat) : Int)))) then (nthK bl2 (Int.toNat ai1) fun e6 => (ca7 e6 fun c7 c8 c9 c10 c11 c12 c13 => (aI .i64 c7 fun n14 => (bif (n14 != 3) then (K [(.sl 1 bl4), (.int .i64 bi5)]) else (G 96 [(.sl 7 bl2), (.int .i64 ai1)] fun o15 => (uL 1 o15 fun l17 r16 => (unNil r16 (l95_0 G k l17 ((List.length l17 : Nat) : Int) 0 bl2 bl3 bl4 bi5 (fun yl39 yl40 yl41 yi42 => (K [(.sl 1 yl41), (.int .i64 yi42)])))))))))) else none)
noncomputable def D95_0 : LoopD := { id := 0, body := loopAt 0 (bodyOf Try.f95), head := P95_0h, out := P95_0x, ret := default }
theorem l95_0_is {R : Type} (G : ORC R) (k : Nat) (X : List V → Option R) (K : Ex → St → Option R) (xl18 : List V) (xi19 xi20 : Int) (xl21 xl22 xl23 : List V) (xi24 : Int) :
    roundOf (TAB.env 95) G (L95 G k) D95_0 X K [(.sl 1 xl18), (.int .i64 xi19), (.int .i64 xi20), (.sl 7 xl21), (.sl 1 xl22), (.sl 1 xl23), (.int .i64 xi24)] = b95_0 G k (fun xl18 xi19 xi20 xl21 xl22 xl23 xi24 => X [(.sl 1 xl18), (.int .i64 xi19), (.int .i64 xi20), (.sl 7 xl21), (.sl 1 xl22), (.sl 1 xl23), (.int .i64 xi24)]) (fun yl43 yl44 yl45 yi46 => K .normal (P95_0x.inst [(.sl 7 yl43), (.sl 1 yl44), (.sl 1 yl45), (.int .i64 yi46)])) xl18 xi19 xi20 xl21 xl22 xl23 xi24 := by kernel_rfl
theorem f95_is {R : Type} (G : ORC R) (k : Nat) (K : List V → Option R) (ai1 : Int) (bl2 bl3 bl4 : List V) (bi5 : Int) :
    callF (TAB.env 95) G (L95 G k) Try.f95 S95 [(.int .i64 ai1), (.sl 7 bl2), (.sl 1 bl3), (.sl 1 bl4), (.int .i64 bi5)] K = f95 G k ai1 bl2 bl3 bl4 bi5 K := by kernel_rfl
theorem li95_0 {R : Type} (G : ORC R) (k : Nat) : LoopIs (TAB.env 95) G (L95 G k) 0 (loopAt 0 (bodyOf Try.f95)) :=
  ⟨D95_0, fun j vs K => rd95_0 G k K j vs, k, rfl, rfl, by kernel_rfl, by kernel_rfl, by kernel_rfl, (fun vs K => by unfold rd95_0; dsimp only; split <;> rfl),
    (fun j vs K r h => by
      unfold rd95_0 at h
      dsimp only at h
      split at h
      · rw [l95_0_is]; exact h
      · cases h), (fun S K r h => h)⟩
theorem lo95 : loopsOf (bodyOf Try.f95) = [(0, loopAt 0 (bodyOf Try.f95))] := by kernel_rfl
theorem la95 {R : Type} (G : ORC R) (k : Nat) : LoopsAre (TAB.env 95) G (L95 G k) (bodyOf Try.f95) :=
  loopsAre_of (by rw [lo95]; intro p hp; simp only [List.mem_cons, List.not_mem_nil, or_false] at hp; subst hp; exact li95_0 G k)
def g95 {R : Type} (G : ORC R) (k : Nat) (args : List V) (K : List V → Option R) : Option R := match args with
  | [(.int .i64 ai1), (.sl 7 bl2), (.sl 1 bl3), (.sl 1 bl4), (.int .i64 bi5)] => f95 G k ai1 bl2 bl3 bl4 bi5 K
  | _ => none
theorem s95 {R : Type} {G : ORC R} {k : Nat} (hG : Sound Try.prog TAB G) (args : List V) (K : List V → Option R) (r : R) (h : g95 G k args K = some r) : ∃ o, CallOK Try.prog TAB.env 95 args o ∧ K o = some r := by
  unfold g95 at h
  split at h
  · rw [← f95_is] at h
    exact callF_sound (f := 95) TAB_chk MO hG Try.func95 (sg := S95) (by kernel_rfl) (by kernel_rfl) (la95 G k) h
  · cases h
end Go.Proofs.Ytblabbcmokldiaa.Vm
open Go Go.VM
set_option linter.unusedVariables false
set_option maxRecDepth 100000
set_option maxHeartbeats 4000000
namespace Go.Proofs.Ytblabbcmokldiaa.Vm
/-! ### cotillion/lcca.states: function 96 -/
def L96 {R : Type} (_ : ORC R) (_ : Nat) : Nat → St → (Ex → St → Option R) → Option R := fun _ _ _ => none
def f96 {R : Type} (G : ORC R) (k : Nat) (al1 : List V) (ai2 : Int) (K : List V → Option R) : Option R :=
  (G 23 [(.sl 7 al1), (.int .i64 ai2)] fun o3 => (uL 1 o3 fun l5 r4 => (unNil r4 (G 65647 [(.sl 1 l5), (.sl 7 al1)] fun o6 => (uL 1 o6 fun l8 r7 => (unNil r7 (K [(.sl 1 l8)])))))))
theorem f96_is {R : Type} (G : ORC R) (k : Nat) (K : List V → Option R) (al1 : List V) (ai2 : Int) :
    callF (TAB.env 96) G (L96 G k) Try.f96 S96 [(.sl 7 al1), (.int .i64 ai2)] K = f96 G k al1 ai2 K := by kernel_rfl
theorem lo96 : loopsOf (bodyOf Try.f96) = [] := by kernel_rfl
theorem la96 {R : Type} (G : ORC R) (k : Nat) : LoopsAre (TAB.env 96) G (L96 G k) (bodyOf Try.f96) :=
  loopsAre_of (by rw [lo96]; intro p hp; cases hp)
def g96 {R : Type} (G : ORC R) (k : Nat) (args : List V) (K : List V → Option R) : Option R := match args with
  | [(.sl 7 al1), (.int .i64 ai2)] => f96 G k al1 ai2 K
  | _ => none
theorem s96 {R : Type} {G : ORC R} {k : Nat} (hG : Sound Try.prog TAB G) (args : List V) (K : List V → Option R) (r : R) (h : g96 G k args K = some r) : ∃ o, CallOK Try.prog TAB.env 96 args o ∧ K o = some r := by
  unfold g96 at h
  split at h
  · rw [← f96_is] at h
    exact callF_sound (f := 96) TAB_chk MO hG Try.func96 (sg := S96) (by kernel_rfl) (by kernel_rfl) (la96 G k) h
  · cases h
end Go.Proofs.Ytblabbcmokldiaa.Vm
open Go Go.VM
set_option linter.unusedVariables false
set_option maxRecDepth 100000
set_option maxHeartbeats 4000000
namespace Go.Proofs.Ytblabbcmokldiaa.Vm
/-! ### (*cotillion/lcca.entry).empty: function 110 -/
def P110_0h : Pat := { tmps := unds [.stat (.one (.ptr 0 0) .pt), .var (.int .i64) .pr] 8 (unds [.stat (.ref (.b 0 2) 0), .var (.int .i64) .pr, .var (.int .i64) .pr] 15 []), boxes := nons [some [.var (.sl 7) .ro true, .var (.sl 1) .ro true, .var (.sl 1) (.own true) false, .var (.int .i64) .pr false]] 28 [] }
def P110_0x : Pat := { tmps := unds [] 28 [], boxes := nons [some [.var (.sl 7) .ro true, .var (.sl 1) .ro true, .var (.sl 1) (.own true) false, .var (.int .i64) .pr false]] 28 [] }
def P110_0r : Pat := { tmps := unds [.undef, .undef, .undef, .undef, .var .bool .pr] 23 [], boxes := nons [some [.var (.sl 7) .ro true, .var (.sl 1) .ro true, .var (.sl 1) (.own true) false, .var (.int .i64) .pr false]] 28 [] }
def b110_0 {R : Type} (G : ORC R) (k : Nat) (X : Int → Int → Int → List V → List V → List V → Int → Option R) (Ko : List V → List V → List V → Int → Option R) (Kr : Bool → List V → List V → List V → Int → Option R) (xi6 xi7 xi8 : Int) (xl9 xl10 xl11 : List V) (xi12 : Int) : Option R :=
  (bif (decide (xi8 < xi7)) then (bif ((decide (0 ≤ xi8)) && (decide (xi8 < ((List.length xl11 : Nat) : Int)))) then (nthK xl11 (Int.toNat xi8) fun e13 => (V.asBool e13 fun b14 => (bif b14 then (G 20 [(.sl 7 xl9), (.int .i64 xi8), (.int .i64 xi6)] fun o15 => (uB o15 fun b17 r16 => (unNil r16 (bif b17 then (Kr false xl9 xl10 xl11 xi12) else (X xi6 xi7 (IntKind.i64.wrap (xi8 + 1)) xl9 xl10 xl11 xi12))))) else (X xi6 xi7 (IntKind.i64.wrap (xi8 + 1)) xl9 xl10 xl11 xi12)))) else none) else (Ko xl9 xl10 xl11 xi12))
def l110_0g {R : Type} (G : ORC R) (k : Nat) (Ko : List V → List V → List V → Int → Option R) (Kr : Bool → List V → List V → List V → Int → Option R) : Nat → Int → Int → Int → List V → List V → List V → Int → Option R
  | 0 => fun _ _ _ _ _ _ _ => none
  | j + 1 => b110_0 G k (l110_0g G k Ko Kr j) Ko Kr
def l110_0 {R : Type} (G : ORC R) (k : Nat) (xi6 xi7 xi8 : Int) (xl9 xl10 xl11 : List V) (xi12 : Int) (Ko : List V → List V → List V → Int → Option R) (Kr : Bool → List V → List V → List V → Int → Option R) : Option R := l110_0g G k Ko Kr k xi6 xi7 xi8 xl9 xl10 xl11 xi12
def rd110_0 {R : Type} (G : ORC R) (k : Nat) (K : Ex → St → Option R) (j : Nat) (vs : List V) : Option R := match vs with
  | [(.int .i64 xi6), (.int .i64 xi7), (.int .i64 xi8), (.sl 7 xl9), (.sl 1 xl10), (.sl 1 xl11), (.int .i64 xi12)] => l110_0g G k (fun yl27 yl28 yl29 yi30 => K .normal (P110_0x.inst [(.sl 7 yl27), (.sl 1 yl28), (.sl 1 yl29), (.int .i64 yi30)])) (fun yb31 yl32 yl33 yl34 yi35 => K .ret (P110_0r.inst [(.bool yb31), (.sl 7 yl32), (.sl 1 yl33), (.sl 1 yl34), (.int .i64 yi35)])) j xi6 xi7 xi8 xl9 xl10 xl11 xi12
  | _ => none
def L110 {R : Type} (G : ORC R) (k : Nat) : Nat → St → (Ex → St → Option R) → Option R
  | 0, S, K => P110_0h.mat S fun vs => rd110_0 G k K k vs
  | _, _, _ => none
def f110 {R : Type} (G : ORC R) (k : Nat) (ai1 : Int) (bl2 bl3 bl4 : List V) (bi5 : Int) (K : List V → Option R) : Option R :=
  (l110_0 G k ai1 ((List.length bl4 : Nat) : Int) 0 bl2 bl3 bl4 bi5 (fun yl18 yl19 yl20 yi21 => (K [(.bool true), (.sl 1 yl20), (.int .i64 yi21)])) (fun yb22 yl23 yl24 yl25 yi26 => (K [(.bool yb22), (.sl 1 yl25), (.int .i64 yi26)])))
noncomputable def D110_0 : LoopD := { id := 0, body := loopAt 0 (bodyOf Try.f110), head := P110_0h, out := P110_0x, ret := P110_0r }
theorem l110_0_is {R : Type} (G : ORC R) (k : Nat) (X : List V → Option R) (K : Ex → St → Option R) (xi6 xi7 xi8 : Int) (xl9 xl10 xl11 : List V) (xi12 : Int) :
    roundOf (TAB.env 110) G (L110 G k) D110_0 X K [(.int .i64 xi6), (.int .i64 xi7), (.int .i64 xi8), (.sl 7 xl9), (.sl 1 xl10), (.sl 1 xl11), (.int .i64 xi12)] = b110_0 G k (fun xi6 xi7 xi8 xl9 xl10 xl11 xi12 => X [(.int .i64 xi6), (.int .i64 xi7), (.int .i64 xi8), (.sl 7 xl9), (.sl 1 xl10), (.sl 1 xl11), (.int .i64 xi12)]) (fun yl27 yl28 yl29 yi30 => K .normal (P110_0x.inst [(.sl 7 yl27), (.sl 1 yl28), (.sl 1 yl29), (.int .i64 yi30)])) (fun yb31 yl32 yl33 yl34 yi35 => K .ret (P110_0r.inst [(.bool yb31), (.sl 7 yl32), (.sl 1 yl33), (.sl 1 yl34), (.int .i64 yi35)])) xi6 xi7 xi8 xl9 xl10 xl11 xi12 := by kernel_rfl
theorem f110_is {R : Type} (G : ORC R) (k : Nat) (K : List V → Option R) (ai1 : Int) (bl2 bl3 bl4 : List V) (bi5 : Int) :
    callF (TAB.env 110) G (L110 G k) Try.f110 S110 [(.int .i64 ai1), (.sl 7 bl2), (.sl 1 bl3), (.sl 1 bl4), (.int .i64 bi5)] K = f110 G k ai1 bl2 bl3 bl4 bi5 K := by kernel_rfl
theorem li110_0 {R : Type} (G : ORC R) (k : Nat) : LoopIs (TAB.env 110) G (L110 G k) 0 (loopAt 0 (bodyOf Try.f110)) :=
  ⟨D110_0, fun j vs K => rd110_0 G k K j vs, k, rfl, rfl, by kernel_rfl, by kernel_rfl, by kernel_rfl, (fun vs K => by unfold rd110_0; dsimp only; split <;> rfl),
    (fun j vs K r h => by
      unfold rd110_0 at h
      dsimp only at h
      split at h
      · rw [l110_0_is]; exact h
      · cases h), (fun S K r h => h)⟩
theorem lo110 : loopsOf (bodyOf Try.f110) = [(0, loopAt 0 (bodyOf Try.f110))] := by kernel_rfl
theorem la110 {R : Type} (G : ORC R) (k : Nat) : LoopsAre (TAB.env 110) G (L110 G k) (bodyOf Try.f110) :=
  loopsAre_of (by rw [lo110]; intro p hp; simp only [List.mem_cons, List.not_mem_nil, or_false] at hp; subst hp; exact li110_0 G k)
def g110 {R : Type} (G : ORC R) (k : Nat) (args : List V) (K : List V → Option R) : Option R := match args with
  | [(.int .i64 ai1), (.sl 7 bl2), (.sl 1 bl3), (.sl 1 bl4), (.int .i64 bi5)] => f110 G k ai1 bl2 bl3 bl4 bi5 K
  | _ => none
theorem s110 {R : Type} {G : ORC R} {k : Nat} (hG : Sound Try.prog TAB G) (args : List V) (K : List V → Option R) (r : R) (h : g110 G k args K = some r) : ∃ o, CallOK Try.prog TAB.env 110 args o ∧ K o = some r := by
  unfold g110 at h
  split at h
  · rw [← f110_is] at h
    exact callF_sound (f := 110) TAB_chk MO hG Try.func110 (sg := S110) (by kernel_rfl) (by kernel_rfl) (la110 G k) h
  · cases h
end Go.Proofs.Ytblabbcmokldiaa.Vm
open Go Go.VM
set_option linter.unusedVariables false
set_option maxRecDepth 100000
set_option maxHeartbeats 4000000
namespace Go.Proofs.Ytblabbcmokldiaa.Vm
/-! ### cotillion/lcca.states$1: function 112 -/
def L112 {R : Type} (_ : ORC R) (_ : Nat) : Nat → St → (Ex → St → Option R) → Option R := fun _ _ _ => none
def f112 {R : Type} (G : ORC R) (k : Nat) (ai1 : Int) (bl2 : List V) (K : List V → Option R) : Option R :=
  (bif ((decide (0 ≤ ai1)) && (decide (ai1 < ((List.length bl2 : Nat) : Int)))) then (nthK bl2 (Int.toNat ai1) fun e3 => (V.asAgg e3 fun l4 => (G 78 [(.agg l4)] fun o5 => (uB o5 fun b7 r6 => (unNil r6 (K [(.bool b7)])))))) else none)
theorem f112_is {R : Type} (G : ORC R) (k : Nat) (K : List V → Option R) (ai1 : Int) (bl2 : List V) :
    callF (TAB.env 112) G (L112 G k) Try.f112 S112 [(.int .i64 ai1), (.sl 7 bl2)] K = f112 G k ai1 bl2 K := by kernel_rfl
theorem lo112 : loopsOf (bodyOf Try.f112) = [] := by kernel_rfl
theorem la112 {R : Type} (G : ORC R) (k : Nat) : LoopsAre (TAB.env 112) G (L112 G k) (bodyOf Try.f112) :=
  loopsAre_of (by rw [lo112]; intro p hp; cases hp)
def g112 {R : Type} (G : ORC R) (k : Nat) (args : List V) (K : List V → Option R) : Option R := match args with
  | [(.int .i64 ai1), (.sl 7 bl2)] => f112 G k ai1 bl2 K
  | _ => none
theorem s112 {R : Type} {G : ORC R} {k : Nat} (hG : Sound Try.prog TAB G) (args : List V) (K : List V → Option R) (r : R) (h : g112 G k args K = some r) : ∃ o, CallOK Try.prog TAB.env 112 args o ∧ K o = some r := by
  unfold g112 at h
  split at h
  · rw [← f112_is] at h
    exact callF_sound (f := 112) TAB_chk MO hG Try.func112 (sg := S112) (by kernel_rfl) (by kernel_rfl) (la112 G k) h
  · cases h
end Go.Proofs.Ytblabbcmokldiaa.Vm
open Go Go.VM
set_option linter.unusedVariables false
set_option maxRecDepth 100000
set_option maxHeartbeats 4000000
namespace Go.Proofs.Ytblabbcmokldiaa.Vm
/-! ### slices.DeleteFunc[[]int,int]: function 65647 -/
def P65647_0h : Pat := { tmps := unds [.var (.sl 1) .ro, .stat (.one (.fn 112 [(.ptr 0 0)]) .pt), .undef, .undef, .undef, .var (.int .i64) .pr, .var (.int .i64) .pr] 35 [], boxes := nons [some [.var (.sl 7) .ro true]] 42 [] }
def P65647_0x : Pat := { tmps := unds [.var (.sl 1) .ro, .undef, .undef, .undef, .undef, .var (.int .i64) .pr] 36 [], boxes := nons [some [.var (.sl 7) .ro true]] 42 [] }
def b65647_0 {R : Type} (G : ORC R) (k : Nat) (X : List V → Int → Int → List V → Option R) (Ko : List V → Int → List V → Option R) (xl6 : List V) (xi7 xi8 : Int) (xl9 : List V) : Option R :=
  (bif (decide (xi8 < ((List.length xl6 : Nat) : Int))) then (bif ((decide (0 ≤ xi8)) && (decide (xi8 < ((List.length xl6 : Nat) : Int)))) then (nthK xl6 (Int.toNat xi8) fun e10 => (aI .i64 e10 fun n11 => (G 112 [(.int .i64 n11), (.sl 7 xl9)] fun o12 => (uB o12 fun b14 r13 => (unNil r13 (bif (!b14) then (bif ((decide (0 ≤ xi7)) && (decide (xi7 < ((List.length xl6 : Nat) : Int)))) then (nthK xl6 (Int.toNat xi7) fun e15 => none) else none) else (X xl6 xi7 (IntKind.i64.wrap (xi8 + 1)) xl9))))))) else none) else (Ko xl6 xi7 xl9))
def l65647_0g {R : Type} (G : ORC R) (k : Nat) (Ko : List V → Int → List V → Option R) : Nat → List V → Int → Int → List V → Option R
  | 0 => fun _ _ _ _ => none
  | j + 1 => b65647_0 G k (l65647_0g G k Ko j) Ko
def l65647_0 {R : Type} (G : ORC R) (k : Nat) (xl6 : List V) (xi7 xi8 : Int) (xl9 : List V) (Ko : List V → Int → List V → Option R) : Option R := l65647_0g G k Ko k xl6 xi7 xi8 xl9
def rd65647_0 {R : Type} (G : ORC R) (k : Nat) (K : Ex → St → Option R) (j : Nat) (vs : List V) : Option R := match vs with
  | [(.sl 1 xl6), (.int .i64 xi7), (.int .i64 xi8), (.sl 7 xl9)] => l65647_0g G k (fun yl19 yi20 yl21 => K .normal (P65647_0x.inst [(.sl 1 yl19), (.int .i64 yi20), (.sl 7 yl21)])) j xl6 xi7 xi8 xl9
  | _ => none
def L65647 {R : Type} (G : ORC R) (k : Nat) : Nat → St → (Ex → St → Option R) → Option R
  | 0, S, K => P65647_0h.mat S fun vs => rd65647_0 G k K k vs
  | _, _, _ => none
def f65647 {R : Type} (G : ORC R) (k : Nat) (al1 bl2 : List V) (K : List V → Option R) : Option R :=
  (G 131171 [(.sl 1 al1), (.sl 7 bl2)] fun o3 => (uI .i64 o3 fun n5 r4 => (unNil r4 (bif (n5 == (-1)) then (K [(.sl 1 al1)]) else (l65647_0 G k al1 n5 (IntKind.i64.wrap (n5 + 1)) bl2 (fun yl16 yi17 yl18 => (bif (((decide (0 ≤ yi17)) && (decide (yi17 ≤ ((List.length yl16 : Nat) : Int)))) && (decide (((List.length yl16 : Nat) : Int) ≤ ((List.length yl16 : Nat) : Int)))) then none else none)))))))
noncomputable def D65647_0 : LoopD := { id := 0, body := loopAt 0 (bodyOf Try.f111), head := P65647_0h, out := P65647_0x, ret := default }
theorem l65647_0_is {R : Type} (G : ORC R) (k : Nat) (X : List V → Option R) (K : Ex → St → Option R) (xl6 : List V) (xi7 xi8 : Int) (xl9 : List V) :
    roundOf (TAB.env 65647) G (L65647 G k) D65647_0 X K [(.sl 1 xl6), (.int .i64 xi7), (.int .i64 xi8), (.sl 7 xl9)] = b65647_0 G k (fun xl6 xi7 xi8 xl9 => X [(.sl 1 xl6), (.int .i64 xi7), (.int .i64 xi8), (.sl 7 xl9)]) (fun yl19 yi20 yl21 => K .normal (P65647_0x.inst [(.sl 1 yl19), (.int .i64 yi20), (.sl 7 yl21)])) xl6 xi7 xi8 xl9 := by kernel_rfl
theorem f65647_is {R : Type} (G : ORC R) (k : Nat) (K : List V → Option R) (al1 bl2 : List V) :
    callF (TAB.env 65647) G (L65647 G k) Try.f111 S65647 [(.sl 1 al1), (.sl 7 bl2)] K = f65647 G k al1 bl2 K := by kernel_rfl
theorem li65647_0 {R : Type} (G : ORC R) (k : Nat) : LoopIs (TAB.env 65647) G (L65647 G k) 0 (loopAt 0 (bodyOf Try.f111)) :=
  ⟨D65647_0, fun j vs K => rd65647_0 G k K j vs, k, rfl, rfl, by kernel_rfl, by kernel_rfl, by kernel_rfl, (fun vs K => by unfold rd65647_0; dsimp only; split <;> rfl),
    (fun j vs K r h => by
      unfold rd65647_0 at h
      dsimp only at h
      split at h
      · rw [l65647_0_is]; exact h
      · cases h), (fun S K r h => h)⟩
theorem lo65647 : loopsOf (bodyOf Try.f111) = [(0, loopAt 0 (bodyOf Try.f111))] := by kernel_rfl
theorem la65647 {R : Type} (G : ORC R) (k : Nat) : LoopsAre (TAB.env 65647) G (L65647 G k) (bodyOf Try.f111) :=
  loopsAre_of (by rw [lo65647]; intro p hp; simp only [List.mem_cons, List.not_mem_nil, or_false] at hp; subst hp; exact li65647_0 G k)
def g65647 {R : Type} (G : ORC R) (k : Nat) (args : List V) (K : List V → Option R) : Option R := match args with
  | [(.sl 1 al1), (.sl 7 bl2)] => f65647 G k al1 bl2 K
  | _ => none
theorem s65647 {R : Type} {G : ORC R} {k : Nat} (hG : Sound Try.prog TAB G) (args : List V) (K : List V → Option R) (r : R) (h : g65647 G k args K = some r) : ∃ o, CallOK Try.prog TAB.env 65647 args o ∧ K o = some r := by
  unfold g65647 at h
  split at h
  · rw [← f65647_is] at h
    exact callF_sound (f := 65647) TAB_chk MO hG Try.func111 (sg := S65647) (by kernel_rfl) (by kernel_rfl) (la65647 G k) h
  · cases h
end Go.Proofs.Ytblabbcmokldiaa.Vm
open Go Go.VM
set_option linter.unusedVariables false
set_option maxRecDepth 100000
set_option maxHeartbeats 4000000
namespace Go.Proofs.Ytblabbcmokldiaa.Vm
/-! ### slices.IndexFunc[[]int,int]: function 131171 -/
def P131171_0h : Pat := { tmps := unds [.var (.sl 1) .ro, .stat (.one (.fn 112 [(.ptr 0 0)]) .pt)] 5 (unds [.var (.int .i64) .pr, .var (.int .i64) .pr] 10 []), boxes := nons [some [.var (.sl 7) .ro true]] 19 [] }
def P131171_0x : Pat := { tmps := unds [] 19 [], boxes := nons [some [.var (.sl 7) .ro true]] 19 [] }
def P131171_0r : Pat := { tmps := unds [.undef, .undef, .undef, .undef, .var (.int .i64) .pr] 14 [], boxes := nons [some [.var (.sl 7) .ro true]] 19 [] }
def b131171_0 {R : Type} (G : ORC R) (k : Nat) (X : List V → Int → Int → List V → Option R) (Ko : List V → Option R) (Kr : Int → List V → Option R) (xl3 : List V) (xi4 xi5 : Int) (xl6 : List V) : Option R :=
  (bif (decide (xi5 < xi4)) then (bif ((decide (0 ≤ xi5)) && (decide (xi5 < ((List.length xl3 : Nat) : Int)))) then (nthK xl3 (Int.toNat xi5) fun e7 => (aI .i64 e7 fun n8 => (G 112 [(.int .i64 n8), (.sl 7 xl6)] fun o9 => (uB o9 fun b11 r10 => (unNil r10 (bif b11 then (Kr xi5 xl6) else (X xl3 xi4 (IntKind.i64.wrap (xi5 + 1)) xl6))))))) else none) else (Ko xl6))
def l131171_0g {R : Type} (G : ORC R) (k : Nat) (Ko : List V → Option R) (Kr : Int → List V → Option R) : Nat → List V → Int → Int → List V → Option R
  | 0 => fun _ _ _ _ => none
  | j + 1 => b131171_0 G k (l131171_0g G k Ko Kr j) Ko Kr
def l131171_0 {R : Type} (G : ORC R) (k : Nat) (xl3 : List V) (xi4 xi5 : Int) (xl6 : List V) (Ko : List V → Option R) (Kr : Int → List V → Option R) : Option R := l131171_0g G k Ko Kr k xl3 xi4 xi5 xl6
def rd131171_0 {R : Type} (G : ORC R) (k : Nat) (K : Ex → St → Option R) (j : Nat) (vs : List V) : Option R := match vs with
  | [(.sl 1 xl3), (.int .i64 xi4), (.int .i64 xi5), (.sl 7 xl6)] => l131171_0g G k (fun yl15 => K .normal (P131171_0x.inst [(.sl 7 yl15)])) (fun yi16 yl17 => K .ret (P131171_0r.inst [(.int .i64 yi16), (.sl 7 yl17)])) j xl3 xi4 xi5 xl6
  | _ => none
def L131171 {R : Type} (G : ORC R) (k : Nat) : Nat → St → (Ex → St → Option R) → Option R
  | 0, S, K => P131171_0h.mat S fun vs => rd131171_0 G k K k vs
  | _, _, _ => none
def f131171 {R : Type} (G : ORC R) (k : Nat) (al1 bl2 : List V) (K : List V → Option R) : Option R :=
  (l131171_0 G k al1 ((List.length al1 : Nat) : Int) 0 bl2 (fun yl12 => (K [(.int .i64 (-1))])) (fun yi13 yl14 => (K [(.int .i64 yi13)])))
noncomputable def D131171_0 : LoopD := { id := 0, body := loopAt 0 (bodyOf Try.f99), head := P131171_0h, out := P131171_0x, ret := P131171_0r }
theorem l131171_0_is {R : Type} (G : ORC R) (k : Nat) (X : List V → Option R) (K : Ex → St → Option R) (xl3 : List V) (xi4 xi5 : Int) (xl6 : List V) :
    roundOf (TAB.env 131171) G (L131171 G k) D131171_0 X K [(.sl 1 xl3), (.int .i64 xi4), (.int .i64 xi5), (.sl 7 xl6)] = b131171_0 G k (fun xl3 xi4 xi5 xl6 => X [(.sl 1 xl3), (.int .i64 xi4), (.int .i64 xi5), (.sl 7 xl6)]) (fun yl15 => K .normal (P131171_0x.inst [(.sl 7 yl15)])) (fun yi16 yl17 => K .ret (P131171_0r.inst [(.int .i64 yi16), (.sl 7 yl17)])) xl3 xi4 xi5 xl6 := by kernel_rfl
theorem f131171_is {R : Type} (G : ORC R) (k : Nat) (K : List V → Option R) (al1 bl2 : List V) :
    callF (TAB.env 131171) G (L131171 G k) Try.f99 S131171 [(.sl 1 al1), (.sl 7 bl2)] K = f131171 G k al1 bl2 K := by kernel_rfl
theorem li131171_0 {R : Type} (G : ORC R) (k : Nat) : LoopIs (TAB.env 131171) G (L131171 G k) 0 (loopAt 0 (bodyOf Try.f99)) :=
  ⟨D131171_0, fun j vs K => rd131171_0 G k K j vs, k, rfl, rfl, by kernel_rfl, by kernel_rfl, by kernel_rfl, (fun vs K => by unfold rd131171_0; dsimp only; split <;> rfl),
    (fun j vs K r h => by
      unfold rd131171_0 at h
      dsimp only at h
      split at h
      · rw [l131171_0_is]; exact h
      · cases h), (fun S K r h => h)⟩
theorem lo131171 : loopsOf (bodyOf Try.f99) = [(0, loopAt 0 (bodyOf Try.f99))] := by kernel_rfl
theorem la131171 {R : Type} (G : ORC R) (k : Nat) : LoopsAre (TAB.env 131171) G (L131171 G k) (bodyOf Try.f99) :=
  loopsAre_of (by rw [lo131171]; intro p hp; simp only [List.mem_cons, List.not_mem_nil, or_false] at hp; subst hp; exact li131171_0 G k)
def g131171 {R : Type} (G : ORC R) (k : Nat) (args : List V) (K : List V → Option R) : Option R := match args with
  | [(.sl 1 al1), (.sl 7 bl2)] => f131171 G k al1 bl2 K
  | _ => none
theorem s131171 {R : Type} {G : ORC R} {k : Nat} (hG : Sound Try.prog TAB G) (args : List V) (K : List V → Option R) (r : R) (h : g131171 G k args K = some r) : ∃ o, CallOK Try.prog TAB.env 131171 args o ∧ K o = some r := by
  unfold g131171 at h
  split at h
  · rw [← f131171_is] at h
    exact callF_sound (f := 131171) TAB_chk MO hG Try.func99 (sg := S131171) (by kernel_rfl) (by kernel_rfl) (la131171 G k) h
  · cases h
end Go.Proofs.Ytblabbcmokldiaa.Vm
open Go Go.VM
set_option linter.unusedVariables false
set_option maxRecDepth 100000
namespace Go.Proofs.Ytblabbcmokldiaa.Vm
def glB (k : Nat) (G : ORC (List V)) : ORC (List V) := fun f args K => match f with
    | 7 => g7 G k args K
    | 14 => g14 G k args K
    | 20 => g20 G k args K
    | 21 => g21 G k args K
    | 22 => g22 G k args K
    | 23 => g23 G k args K
    | 25 => g25 G k args K
    | 37 => g37 G k args K
    | 38 => g38 G k args K
    | 39 => g39 G k args K
    | 40 => g40 G k args K
    | 43 => g43 G k args K
    | 45 => g45 G k args K
    | 58 => g58 G k args K
    | 59 => g59 G k args K
    | 63 => g63 G k args K
    | 64 => g64 G k args K
    | 66 => g66 G k args K
    | 68 => g68 G k args K
    | 69 => g69 G k args K
    | 70 => g70 G k args K
    | 71 => g71 G k args K
    | 72 => g72 G k args K
    | 73 => g73 G k args K
    | 74 => g74 G k args K
    | 78 => g78 G k args K
    | 87 => g87 G k args K
    | 88 => g88 G k args K
    | 89 => g89 G k args K
    | 90 => g90 G k args K
    | 91 => g91 G k args K
    | 92 => g92 G k args K
    | 94 => g94 G k args K
    | 95 => g95 G k args K
    | 96 => g96 G k args K
    | 105 => g105 G k args K
    | 106 => g106 G k args K
    | 107 => g107 G k args K
    | 108 => g108 G k args K
    | 109 => g109 G k args K
    | 110 => g110 G k args K
    | 112 => g112 G k args K
    | 127 => g127 G k args K
    | 65647 => g65647 G k args K
    | 131171 => g131171 G k args K
    | _ => none
def gl (k : Nat) : Nat → ORC (List V)
  | 0 => fun _ _ _ => none
  | j + 1 => fun f args K => (glB k (gl k j) f args some).bind K
theorem gl_sound (k : Nat) : ∀ j, Sound Try.prog TAB (gl k j)
  | 0 => fun f args K r h => by cases h
  | j + 1 => fun f args K r h => by
    have ih := gl_sound k j
    have h : (glB k (gl k j) f args some).bind K = some r := h
    cases hb : glB k (gl k j) f args some with
    | none => rw [hb] at h; cases h
    | some o =>
    rw [hb] at h
    have key : ∃ o', CallOK Try.prog TAB.env f args o' ∧ some o' = some o := by
      unfold glB at hb
      split at hb
      · exact s7 ih args some o hb
      · exact s14 ih args some o hb
      · exact s20 ih args some o hb
      · exact s21 ih args some o hb
      · exact s22 ih args some o hb
      · exact s23 ih args some o hb
      · exact s25 ih args some o hb
      · exact s37 ih args some o hb
      · exact s38 ih args some o hb
      · exact s39 ih args some o hb
      · exact s40 ih args some o hb
      · exact s43 ih args some o hb
      · exact s45 ih args some o hb
      · exact s58 ih args some o hb
      · exact s59 ih args some o hb
      · exact s63 ih args some o hb
      · exact s64 ih args some o hb
      · exact s66 ih args some o hb
      · exact s68 ih args some o hb
      · exact s69 ih args some o hb
      · exact s70 ih args some o hb
      · exact s71 ih args some o hb
      · exact s72 ih args some o hb
      · exact s73 ih args some o hb
      · exact s74 ih args some o hb
      · exact s78 ih args some o hb
      · exact s87 ih args some o hb
      · exact s88 ih args some o hb
      · exact s89 ih args some o hb
      · exact s90 ih args some o hb
      · exact s91 ih args some o hb
      · exact s92 ih args some o hb
      · exact s94 ih args some o hb
      · exact s95 ih args some o hb
      · exact s96 ih args some o hb
      · exact s105 ih args some o hb
      · exact s106 ih args some o hb
      · exact s107 ih args some o hb
      · exact s108 ih args some o hb
      · exact s109 ih args some o hb
      · exact s110 ih args some o hb
      · exact s112 ih args some o hb
      · exact s127 ih args some o hb
      · exact s65647 ih args some o hb
      · exact s131171 ih args some o hb
      · cases hb
    obtain ⟨o', h1, h2⟩ := key
    cases h2
    exact ⟨o, h1, h⟩
theorem gl_U {k j : Nat} {f : FuncId} {args : List V} {Q : List V → Prop} (h : W Q some (glB k (gl k j) f args some)) : ∃ o, Q o ∧ ∀ K, gl k (j + 1) f args K = K o := by
  obtain ⟨o, q, e⟩ := h
  exact ⟨o, q, fun K => by show (glB k (gl k j) f args some).bind K = _; rw [e]; rfl⟩
theorem gl_W {k j : Nat} {f : FuncId} {args : List V} {Q : List V → Prop} {K : List V → Option (List V)} (h : W Q some (glB k (gl k j) f args some)) : W Q K (gl k (j + 1) f args K) := by
  obtain ⟨o, q, e⟩ := gl_U h
  exact ⟨o, q, e K⟩
end Go.Proofs.Ytblabbcmokldiaa.Vm
open Go Go.VM
set_option linter.unusedVariables false
set_option linter.unusedSimpArgs false
set_option maxRecDepth 100000
set_option maxHeartbeats 8000000
namespace Go.Proofs.Ytblabbcmokldiaa.Vm
section
def Ev (P : ORC (List V) → Prop) : Prop := ∃ N, ∀ j, N ≤ j → P (gl 10000 j)
theorem ev0 {P : ORC (List V) → Prop} (h : ∀ j, P (gl 10000 (j + 1))) : Ev P := ⟨1, fun j hj => by obtain ⟨j', rfl⟩ : ∃ j', j = j' + 1 := ⟨j - 1, by omega⟩; exact h j'⟩
theorem evS {A P : ORC (List V) → Prop} (hA : Ev A) (h : ∀ j, A (gl 10000 j) → P (gl 10000 (j + 1))) : Ev P := by
  obtain ⟨N, hN⟩ := hA
  refine ⟨N + 1, fun j hj => ?_⟩
  obtain ⟨j', rfl⟩ : ∃ j', j = j' + 1 := ⟨j - 1, by omega⟩
  exact h j' (hN j' (by omega))
theorem evA {A B : ORC (List V) → Prop} (hA : Ev A) (hB : Ev B) : Ev fun G => A G ∧ B G := by
  obtain ⟨N, hN⟩ := hA
  obtain ⟨M, hM⟩ := hB
  exact ⟨N + M, fun j hj => ⟨hN j (by omega), hM j (by omega)⟩⟩
theorem evT {P : ORC (List V) → Prop} (h : ∀ G, P G) : Ev P := ⟨0, fun j _ => h _⟩
theorem evPlace : Ev PlaceS := ev0 fun j => by have e := place_ok (G := gl 10000 j) (k := 10000); unfold PlaceS at e ⊢; (intros; refine gl_W ?_; apply e <;> assumption)
theorem evNext : Ev NextS := evS evPlace fun j h => by have e := next_ok (G := gl 10000 j) (k := 10000) h; unfold NextS at e ⊢; (intros; refine gl_W ?_; apply e <;> assumption)
theorem evEvent : Ev EventS := evS evPlace fun j h => by have e := event_ok (G := gl 10000 j) (k := 10000) h; unfold EventS at e ⊢; (intros; refine gl_W ?_; apply e <;> assumption)
theorem evPick : Ev PickS := evS evNext fun j h => by have e := pick_ok (G := gl 10000 j) (k := 10000) h; unfold PickS at e ⊢; (intros; refine gl_W ?_; apply e <;> assumption)
theorem evDec1 : Ev (DecS 1) := ev0 fun j => by have e := dec_step (G := gl 10000 j) (k := 10000) (d := 0) (by omega) (.inl rfl); unfold DecS at e ⊢; (intros; refine gl_W ?_; apply e <;> assumption)
theorem evDec2 : Ev (DecS 2) := evS evDec1 fun j h => by have e := dec_step (G := gl 10000 j) (k := 10000) (d := 1) (by omega) (.inr h); unfold DecS at e ⊢; (intros; refine gl_W ?_; apply e <;> assumption)
theorem evDec3 : Ev (DecS 3) := evS evDec2 fun j h => by have e := dec_step (G := gl 10000 j) (k := 10000) (d := 2) (by omega) (.inr h); unfold DecS at e ⊢; (intros; refine gl_W ?_; apply e <;> assumption)
theorem evDig : Ev DigS := evS evDec3 fun j h => by have e := dig_ok (G := gl 10000 j) (k := 10000) h; unfold DigS at e ⊢; (intros; refine gl_W ?_; apply e <;> assumption)
theorem evNames : Ev NamesS := evS evDig fun j h => by have e := names_ok (G := gl 10000 j) (k := 10000) (by omega) h; unfold NamesS at e ⊢; (intros; refine gl_W ?_; apply e <;> assumption)
theorem evNumd : Ev NumdS := evS evNext fun j h => by have e := named_ok (G := gl 10000 j) (k := 10000) (by omega) h; unfold NumdS at e ⊢; (intros; refine gl_W ?_; apply e <;> assumption)
theorem evPlain : Ev PlainS := ev0 fun j => by have e := plain_ok (G := gl 10000 j) (k := 10000) (by omega); unfold PlainS at e ⊢; (intros; refine gl_W ?_; apply e <;> assumption)
theorem evExpr : ∀ d, d ≤ 2 → Ev (ExprOK d)
  | 0, _ => evS (evA evNext evPick) fun j h => by have e := expr_ok (G := gl 10000 j) (k := 10000) (d := 0) (by omega) h.1 h.2 (fun d' e => by omega); unfold ExprOK at e ⊢; (intros; refine gl_W ?_; apply e <;> assumption)
  | d + 1, hd => evS (evA (evA evNext evPick) (evExpr d (by omega))) fun j h => by have e := expr_ok (G := gl 10000 j) (k := 10000) (d := d + 1) hd h.1.1 h.1.2 (fun d' e => by cases e; exact h.2); unfold ExprOK at e ⊢; (intros; refine gl_W ?_; apply e <;> assumption)
theorem evBlock : ∀ d, d ≤ 2 → Ev (BlockOK d)
  | 0, _ => evS (evA (evA evNext evPick) (evA evEvent (evExpr 2 (by omega)))) fun j h => by have e := block_ok (G := gl 10000 j) (k := 10000) (d := 0) (by omega) (by omega) h.1.1 h.1.2 h.2.1 h.2.2 (fun d' e => by omega); unfold BlockOK at e ⊢; (intros; refine gl_W ?_; apply e <;> assumption)
  | d + 1, hd => evS (evA (evA (evA evNext evPick) (evA evEvent (evExpr 2 (by omega)))) (evBlock d (by omega))) fun j h => by have e := block_ok (G := gl 10000 j) (k := 10000) (d := d + 1) (by omega) hd h.1.1.1 h.1.1.2 h.1.2.1 h.1.2.2 (fun d' e => by cases e; exact h.2); unfold BlockOK at e ⊢; (intros; refine gl_W ?_; apply e <;> assumption)
theorem evSt : ∀ d, d ≤ 2 → Ev (StOK d)
  | 0, _ => evS (evA evNext evDig) fun j h => by have e := st_ok (G := gl 10000 j) (k := 10000) (d := 0) (by omega) (by omega) h.1 h.2 (fun d' e => by omega); unfold StOK at e ⊢; (intros; refine gl_W ?_; apply e <;> assumption)
  | d + 1, hd => evS (evA (evA evNext evDig) (evSt d (by omega))) fun j h => by have e := st_ok (G := gl 10000 j) (k := 10000) (d := d + 1) (by omega) (by omega) h.1.1 h.1.2 (fun d' e => by cases e; exact h.2); unfold StOK at e ⊢; (intros; refine gl_W ?_; apply e <;> assumption)
theorem evFill : ∀ d, Ev (FillOK d)
  | 0 => evT fun G x a p c s all L left i K h => h.elim
  | d + 1 => evS (evA (evA (evA evNext evPick) (evA evEvent (evExpr 2 (by omega)))) (evA (evA (evBlock 2 (by omega)) (evBlock 1 (by omega))) (evFill d))) fun j h => by have e := fill_ok (G := gl 10000 j) (k := 10000) (d := d + 1) (by omega) h.1.1.1 h.1.1.2 h.1.2.1 h.1.2.2 h.2.1.1 h.2.1.2 (fun d' e => by cases e; exact h.2.2); unfold FillOK at e ⊢; (intros; refine gl_W ?_; apply e <;> assumption)
theorem evChart : Ev ChartOK := evS (evA (evA (evA evNext evNames) (evA evNumd evPlain)) (evA (evSt 2 (by omega)) (evFill 3))) fun j h => by have e := chart_ok (G := gl 10000 j) (k := 10000) (by omega) h.1.1.1 h.1.1.2 h.1.2.1 h.1.2.2 h.2.1 h.2.2; unfold ChartOK at e ⊢; (intros; refine gl_W ?_; apply e <;> assumption)
theorem evKind : Ev KindOK := ev0 fun j => by have e := kind_ok (G := gl 10000 j) (k := 10000); unfold KindOK at e ⊢; (intros; refine gl_W ?_; apply e <;> assumption)
theorem evIsSt : Ev IsStOK := ev0 fun j => by have e := isst_ok (G := gl 10000 j) (k := 10000); unfold IsStOK at e ⊢; (intros; refine gl_W ?_; apply e <;> assumption)
theorem evPut : ∀ d, Ev (PutOK d)
  | 0 => evS (evA evKind evIsSt) fun j h => by have e := put_ok (G := gl 10000 j) (k := 10000) (d := 0) (by omega) h.1 h.2 (fun d' e => by omega); unfold PutOK at e ⊢; (intros; refine gl_W ?_; apply e <;> assumption)
  | d + 1 => evS (evA (evA evKind evIsSt) (evPut d)) fun j h => by have e := put_ok (G := gl 10000 j) (k := 10000) (d := d + 1) (by omega) h.1.1 h.1.2 (fun d' e => by cases e; exact h.2); unfold PutOK at e ⊢; (intros; refine gl_W ?_; apply e <;> assumption)
theorem evNodes : Ev NodesOK := evS (evPut 3) fun j h => by have e := nodes_ok (G := gl 10000 j) (k := 10000) h; unfold NodesOK at e ⊢; (intros; refine gl_W ?_; apply e <;> assumption)
theorem evIs : Ev IsOK := ev0 fun j => by have e := is_ok (G := gl 10000 j) (k := 10000); unfold IsOK at e ⊢; (intros; refine gl_W ?_; apply e <;> assumption)
theorem evIn : Ev InOK := evS evIs fun j h => by have e := in_ok (G := gl 10000 j) (k := 10000) h; unfold InOK at e ⊢; (intros; refine gl_W ?_; apply e <;> assumption)
end
end Go.Proofs.Ytblabbcmokldiaa.Vm
open Go Go.VM
set_option linter.unusedVariables false
set_option linter.unusedSimpArgs false
set_option maxRecDepth 100000
set_option maxHeartbeats 8000000
namespace Go.Proofs.Ytblabbcmokldiaa.Vm
section
variable {R : Type} {G : ORC R} {k : Nat} {K : List V → Option R}
def CIsOK (G : ORC R) : Prop := ∀ (l : List V) (i : Int) (K : List V → Option R), W (fun o => o = [.bool (decide (0 ≤ i ∧ i < l.length))]) K (G 63 [.sl 7 l, .int .i64 i] K)
theorem cis_ok : CIsOK (fun _ args (K : List V → Option R) => g63 G k args K) := by
  intro l i K
  show W _ K (f63 G k l i K)
  unfold f63
  refine W_dec (fun h => ?_) (fun h => ?_)
  · exact W_ret (by congr 3; simp; omega)
  · exact W_ret (by congr 2; symm; rw [decide_eq_false]; omega)
def CInOK (G : ORC R) : Prop := ∀ (l : List Nd) (a b : Int) (K : List V → Option R), W (fun o => o = [.bool (inN l a b)]) K (G 20 [.sl 7 (l.map Nd.v), .int .i64 a, .int .i64 b] K)
theorem cin_ok (hI : CIsOK G) : CInOK (fun _ args (K : List V → Option R) => g20 G k args K) := by
  intro l a b K
  show W _ K (f20 G k (l.map Nd.v) a b K)
  unfold f20
  unfold CIsOK at hI
  have no : ¬ (0 ≤ a ∧ a < l.length ∧ 0 ≤ b ∧ b < l.length ∧ a ≥ b) → inN l a b = false := fun h => by unfold inN; rw [decide_eq_false h]; rfl
  refine W_call (hI _ _ _) ?_
  rintro _ rfl
  (repeat (with_reducible (first | (refine W_uI ?_) | (refine W_uS ?_) | (refine W_uL ?_) | (refine W_uA ?_) | (refine W_uB ?_) | (refine W_aI ?_) | (refine W_aL ?_) | (refine W_ca3 ?_) | (refine W_ce3 ?_) | (refine W_ca4 ?_) | (refine W_ce4 ?_) | (refine W_ca5 ?_) | (refine W_ce5 ?_) | (refine W_ca6 ?_) | (refine W_ce6 ?_) | (refine W_ca7 ?_) | (refine W_ce7 ?_) | (refine W_ca8 ?_) | (refine W_ce8 ?_) | (refine W_nd7 ?_) | (refine W_unCons ?_) | (refine W_unNil ?_) | (refine W_asInt ?_) | (refine W_asBool ?_) | (refine W_asStr ?_) | (refine W_asSl ?_) | (refine W_asAgg ?_) | (refine W_kd ?_) | (refine W_z ?_))))
  simp only [List.length_map]
  refine W_dec (fun h1 => ?_) (fun h1 => W_ret (by rw [no (by omega)]))
  refine W_call (hI _ _ _) ?_
  rintro _ rfl
  (repeat (with_reducible (first | (refine W_uI ?_) | (refine W_uS ?_) | (refine W_uL ?_) | (refine W_uA ?_) | (refine W_uB ?_) | (refine W_aI ?_) | (refine W_aL ?_) | (refine W_ca3 ?_) | (refine W_ce3 ?_) | (refine W_ca4 ?_) | (refine W_ce4 ?_) | (refine W_ca5 ?_) | (refine W_ce5 ?_) | (refine W_ca6 ?_) | (refine W_ce6 ?_) | (refine W_ca7 ?_) | (refine W_ce7 ?_) | (refine W_ca8 ?_) | (refine W_ce8 ?_) | (refine W_nd7 ?_) | (refine W_unCons ?_) | (refine W_unNil ?_) | (refine W_asInt ?_) | (refine W_asBool ?_) | (refine W_asStr ?_) | (refine W_asSl ?_) | (refine W_asAgg ?_) | (refine W_kd ?_) | (refine W_z ?_))))
  simp only [List.length_map]
  refine W_dec (fun h2 => ?_) (fun h2 => W_ret (by rw [no (by omega)]))
  refine W_dec (fun h3 => ?_) (fun h3 => W_ret (by rw [no (by omega)]))
  refine W_and (W_yes h2.1 (W_yes h2.2 ?_))
  refine W_nthN (by omega) (fun n hn => W_nd ?_)
  (repeat (with_reducible (first | (refine W_uI ?_) | (refine W_uS ?_) | (refine W_uL ?_) | (refine W_uA ?_) | (refine W_uB ?_) | (refine W_aI ?_) | (refine W_aL ?_) | (refine W_ca3 ?_) | (refine W_ce3 ?_) | (refine W_ca4 ?_) | (refine W_ce4 ?_) | (refine W_ca5 ?_) | (refine W_ce5 ?_) | (refine W_ca6 ?_) | (refine W_ce6 ?_) | (refine W_ca7 ?_) | (refine W_ce7 ?_) | (refine W_ca8 ?_) | (refine W_ce8 ?_) | (refine W_nd7 ?_) | (refine W_unCons ?_) | (refine W_unNil ?_) | (refine W_asInt ?_) | (refine W_asBool ?_) | (refine W_asStr ?_) | (refine W_asSl ?_) | (refine W_asAgg ?_) | (refine W_kd ?_) | (refine W_z ?_))))
  have e : inN l a b = decide (a ≤ n.last) := by
    unfold inN
    rw [decide_eq_true (show 0 ≤ a ∧ a < l.length ∧ 0 ≤ b ∧ b < l.length ∧ a ≥ b from ⟨h1.1, h1.2, h2.1, h2.2, h3⟩), hn]; rfl
  exact W_ret (by rw [e])
end
end Go.Proofs.Ytblabbcmokldiaa.Vm
open Go Go.VM
set_option linter.unusedVariables false
set_option linter.unusedSimpArgs false
set_option maxRecDepth 100000
set_option maxHeartbeats 8000000
namespace Go.Proofs.Ytblabbcmokldiaa.Vm
section
variable {R : Type} {G : ORC R} {k : Nat} {K : List V → Option R}
def insN (l : List Nd) (a b : Int) : Bool := decide (a ≠ b) && inN l a b
def InsOK (G : ORC R) : Prop := ∀ (l : List Nd) (a b : Int) (K : List V → Option R), W (fun o => o = [.bool (insN l a b)]) K (G 69 [.sl 7 (l.map Nd.v), .int .i64 a, .int .i64 b] K)
theorem ins_ok (hI : CInOK G) : InsOK (fun _ args (K : List V → Option R) => g69 G k args K) := by
  intro l a b K
  show W _ K (f69 G k (l.map Nd.v) a b K)
  unfold f69
  unfold CInOK at hI
  by_cases h : a = b
  · exact W_chk' (by simp [h]) (W_ret (by unfold insN; simp [h]))
  · refine W_chk (by simp [h]) ?_
    refine W_call (hI _ _ _ _) ?_
    rintro _ rfl
    (repeat (with_reducible (first | (refine W_uI ?_) | (refine W_uS ?_) | (refine W_uL ?_) | (refine W_uA ?_) | (refine W_uB ?_) | (refine W_aI ?_) | (refine W_aL ?_) | (refine W_ca3 ?_) | (refine W_ce3 ?_) | (refine W_ca4 ?_) | (refine W_ce4 ?_) | (refine W_ca5 ?_) | (refine W_ce5 ?_) | (refine W_ca6 ?_) | (refine W_ce6 ?_) | (refine W_ca7 ?_) | (refine W_ce7 ?_) | (refine W_ca8 ?_) | (refine W_ce8 ?_) | (refine W_nd7 ?_) | (refine W_unCons ?_) | (refine W_unNil ?_) | (refine W_asInt ?_) | (refine W_asBool ?_) | (refine W_asStr ?_) | (refine W_asSl ?_) | (refine W_asAgg ?_) | (refine W_kd ?_) | (refine W_z ?_))))
    exact W_ret (by unfold insN; simp [h])
def CDomOK (G : ORC R) : Prop := ∀ (l : List Nd) (a b : Int) (K : List V → Option R), l.length ≤ 1000 → W (fun o => o = [.int .i64 (domN l a b)]) K (G 39 [.sl 7 (l.map Nd.v), .int .i64 a, .int .i64 b] K)
theorem cdom_loop (hI : InsOK G) {Q : List V → Prop} {K : List V → Option R} {Ko : Unit → Option R} {Kr : Int → Option R} {l : List Nd} {a b : Int} (hl : l.length ≤ 1000)
    (hKo : domN l a b = -1 → W Q K (Ko ())) (hKr : ∀ x, x = domN l a b → W Q K (Kr x)) :
    ∀ (j i : Nat), i < j → i ≤ l.length → domGo l a b i = domN l a b → W Q K (l39_0g G k Ko Kr j (l.map Nd.v) a b ((i : Int) - 1))
  | 0, i, h1, h2, h3 => by omega
  | j + 1, 0, h1, h2, h3 => by
    show W Q K (b39_0 G k (l39_0g G k Ko Kr j) Ko Kr (l.map Nd.v) a b (((0 : Nat) : Int) - 1))
    unfold b39_0
    exact W_no (by omega) (hKo h3.symm)
  | j + 1, i + 1, h1, h2, h3 => by
    show W Q K (b39_0 G k (l39_0g G k Ko Kr j) Ko Kr (l.map Nd.v) a b (((i + 1 : Nat) : Int) - 1))
    unfold b39_0
    rw [show (((i + 1 : Nat) : Int) - 1) = (i : Int) by omega]
    obtain ⟨n, hn⟩ : ∃ n, l[i]? = some n := ⟨_, List.getElem?_eq_getElem (by omega)⟩
    have hat : domAt l a b i = (decide (n.kind = 2) && decide ((i : Int) ≠ a) && decide ((i : Int) ≠ b) && inN l a i && inN l b i) := by unfold domAt; rw [hn]
    have hgo : domAt l a b i = false → W Q K (l39_0g G k Ko Kr j (l.map Nd.v) a b (IntKind.i64.wrap ((i : Int) - 1))) := fun e => by
      rw [wrap_id (n := (i : Int) - 1) (by omega)]
      refine cdom_loop hI hl hKo hKr j i (by omega) (by omega) ?_
      rw [← h3, domGo, if_neg (by rw [e]; simp)]
    refine W_yes (by omega) ?_
    refine W_at (by omega) (by rw [Int.toNat_natCast]; exact nd_get hn) (W_nd7 (W_aI ?_))
    unfold InsOK at hI
    refine W_beqI (fun e1 => ?_) (fun e1 => hgo (by rw [hat, decide_eq_false e1]; rfl))
    refine W_call (hI _ _ _ _) ?_
    rintro _ rfl
    (repeat (with_reducible (first | (refine W_uI ?_) | (refine W_uS ?_) | (refine W_uL ?_) | (refine W_uA ?_) | (refine W_uB ?_) | (refine W_aI ?_) | (refine W_aL ?_) | (refine W_ca3 ?_) | (refine W_ce3 ?_) | (refine W_ca4 ?_) | (refine W_ce4 ?_) | (refine W_ca5 ?_) | (refine W_ce5 ?_) | (refine W_ca6 ?_) | (refine W_ce6 ?_) | (refine W_ca7 ?_) | (refine W_ce7 ?_) | (refine W_ca8 ?_) | (refine W_ce8 ?_) | (refine W_nd7 ?_) | (refine W_unCons ?_) | (refine W_unNil ?_) | (refine W_asInt ?_) | (refine W_asBool ?_) | (refine W_asStr ?_) | (refine W_asSl ?_) | (refine W_asAgg ?_) | (refine W_kd ?_) | (refine W_z ?_))))
    refine W_bool (fun e2 => ?_) (fun e2 => hgo (by rw [hat]; unfold insN at e2; simp at e2 ⊢; intro _ h4 _ h5; exact absurd (e2 (fun c => h4 c.symm)) (by rw [h5]; simp)))
    refine W_call (hI _ _ _ _) ?_
    rintro _ rfl
    (repeat (with_reducible (first | (refine W_uI ?_) | (refine W_uS ?_) | (refine W_uL ?_) | (refine W_uA ?_) | (refine W_uB ?_) | (refine W_aI ?_) | (refine W_aL ?_) | (refine W_ca3 ?_) | (refine W_ce3 ?_) | (refine W_ca4 ?_) | (refine W_ce4 ?_) | (refine W_ca5 ?_) | (refine W_ce5 ?_) | (refine W_ca6 ?_) | (refine W_ce6 ?_) | (refine W_ca7 ?_) | (refine W_ce7 ?_) | (refine W_ca8 ?_) | (refine W_ce8 ?_) | (refine W_nd7 ?_) | (refine W_unCons ?_) | (refine W_unNil ?_) | (refine W_asInt ?_) | (refine W_asBool ?_) | (refine W_asStr ?_) | (refine W_asSl ?_) | (refine W_asAgg ?_) | (refine W_kd ?_) | (refine W_z ?_))))
    refine W_bool (fun e3 => ?_) (fun e3 => hgo (by rw [hat]; unfold insN at e3; simp at e3 ⊢; intro _ _ h4 _; exact e3 (fun c => h4 c.symm)))
    refine hKr _ ?_
    rw [← h3, domGo, if_pos]
    rw [hat]
    unfold insN at e2 e3
    simp at e2 e3 ⊢
    exact ⟨⟨⟨⟨e1, fun c => e2.1 c.symm⟩, fun c => e3.1 c.symm⟩, e2.2⟩, e3.2⟩
theorem cdom_ok (hk : 10000 ≤ k) (hI : InsOK G) : CDomOK (fun _ args (K : List V → Option R) => g39 G k args K) := by
  intro l a b K hl
  show W _ K (f39 G k (l.map Nd.v) a b K)
  unfold f39 l39_0
  simp only [List.length_map]
  rw [wrap_id (n := (l.length : Int) - 1) (by omega)]
  exact cdom_loop (Q := fun o => o = [.int .i64 (domN l a b)]) (K := K) (Ko := fun _ => K [.int .i64 (-1)]) (Kr := fun x => K [.int .i64 x]) hI hl (fun e => W_ret (by rw [e])) (fun x e => W_ret (by rw [e])) k l.length (by omega) (Nat.le_refl _) rfl
theorem domAt_comm {l : List Nd} {a b : Int} {i : Nat} : domAt l a b i = domAt l b a i := by
  unfold domAt
  cases l[i]? with
  | none => simp
  | some n => simp only; rw [Bool.eq_iff_iff]; simp; constructor <;> rintro ⟨⟨⟨⟨h1, h2⟩, h3⟩, h4⟩, h5⟩ <;> exact ⟨⟨⟨⟨h1, h3⟩, h2⟩, h5⟩, h4⟩
theorem domGo_comm {l : List Nd} {a b : Int} : ∀ {i : Nat}, domGo l a b i = domGo l b a i
  | 0 => rfl
  | i + 1 => by rw [domGo, domGo, domAt_comm, domGo_comm (i := i)]
theorem domGo_ge {l : List Nd} {a b : Int} {x : Nat} (h : domAt l a b x = true) : ∀ {i : Nat}, x < i → 0 ≤ domGo l a b i
  | 0, hx => by omega
  | i + 1, hx => by
    rw [domGo]
    split
    · omega
    · rename_i hn
      refine domGo_ge h (i := i) ?_
      by_cases e : x = i
      · subst e; exact absurd h hn
      · omega
/-- Nodes of a chart by numbers. -/
def ChN (ns : List Nd) : Prop := ∃ states, ns = ndsOf states ∧ (∀ s ∈ states, StateS 2 3 s ∧ kindV s ≤ 2) ∧ states ≠ [] ∧ nszL 3 states ≤ 9 ∧ NmI (nmVL 3 states)
theorem ChN.len {ns : List Nd} (h : ChN ns) : ns.length ≤ 10 := by
  obtain ⟨states, rfl, _, _, h, _⟩ := h
  unfold ndsOf; rw [List.length_cons, forest_len]; omega
theorem ChN.tree {ns : List Nd} (h : ChN ns) : Tree ns := by
  obtain ⟨states, rfl, h1, h2, _⟩ := h
  exact tree_nds h1 h2
theorem dom_zero {ns : List Nd} {b : Int} : ∀ {i : Nat}, domGo ns 0 b i = -1
  | 0 => rfl
  | i + 1 => by
    rw [domGo, if_neg, dom_zero]
    intro h
    unfold domAt inN at h
    simp only [Bool.and_eq_true, decide_eq_true_eq] at h
    omega
theorem dom_pos {ns : List Nd} (T : Tree ns) {a b : Int} (h1 : 0 < a) (h2 : a < ns.length) (h3 : 0 < b) (h4 : b < ns.length) : 0 ≤ domN ns a b := by
  obtain ⟨n, hn⟩ : ∃ n, ns[0]? = some n := ⟨_, List.getElem?_eq_getElem (by omega)⟩
  obtain ⟨r1, r2, r3⟩ := T.root n hn
  refine domGo_ge (x := 0) ?_ (by omega)
  unfold domAt inN
  simp only [hn, Int.natCast_zero, Int.toNat_zero, Bool.and_eq_true, decide_eq_true_eq]
  omega
theorem dom_of {ns : List Nd} {a b : Int} (h : 0 ≤ domN ns a b) : ∃ (i : Nat) (n : Nd), domN ns a b = i ∧ ns[i]? = some n ∧ n.kind = 2 ∧ (i : Int) < a ∧ (i : Int) < b ∧ inN ns a i = true ∧ inN ns b i = true := by
  rcases domGo_at (l := ns) (a := a) (b := b) (i := ns.length) with e | ⟨i, h1, h2, h3⟩
  · have : domN ns a b = -1 := e
    omega
  · obtain ⟨n, hn⟩ : ∃ n, ns[i]? = some n := ⟨_, List.getElem?_eq_getElem h1⟩
    unfold domAt at h3
    rw [hn] at h3
    simp only [Bool.and_eq_true, decide_eq_true_eq] at h3
    obtain ⟨⟨⟨⟨k1, k2⟩, k3⟩, k4⟩, k5⟩ := h3
    have k4' := k4; have k5' := k5
    unfold inN at k4' k5'
    simp only [Bool.and_eq_true, decide_eq_true_eq] at k4' k5'
    exact ⟨i, n, h2, hn, k1, by omega, by omega, k4, k5⟩
def NdsOK (G : ORC R) : Prop := ∀ (v : List V) (K : List V → Option R), IntsS v → v.length ≤ 200 → W (fun o => ∃ ns, o = [.sl 7 (ns.map Nd.v)] ∧ ChN ns) K (G 38 [.sl 1 v] K)
theorem nds_ok (hC : ChartOK G) (hN : NodesOK G) : NdsOK (fun _ args (K : List V → Option R) => g38 G k args K) := by
  intro v K h1 h2
  show W _ K (f38 G k v K)
  unfold f38
  unfold ChartOK at hC; unfold NodesOK at hN
  refine W_call (hC _ _ v 0 _ (by unfold StrS; decide) (by omega) (by omega) ⟨h1, by omega, by omega, by omega⟩) ?_
  rintro _ ⟨c, j, rfl, hc, hj⟩
  obtain ⟨nm, st, fu, vars, ports, timers, states, rfl, x1, x2, x3, x4, x5, x6, x7, x8, x9, x10, x11, x12, x13⟩ := hc
  (repeat (with_reducible (first | (refine W_uI ?_) | (refine W_uS ?_) | (refine W_uL ?_) | (refine W_uA ?_) | (refine W_uB ?_) | (refine W_aI ?_) | (refine W_aL ?_) | (refine W_ca3 ?_) | (refine W_ce3 ?_) | (refine W_ca4 ?_) | (refine W_ce4 ?_) | (refine W_ca5 ?_) | (refine W_ce5 ?_) | (refine W_ca6 ?_) | (refine W_ce6 ?_) | (refine W_ca7 ?_) | (refine W_ce7 ?_) | (refine W_ca8 ?_) | (refine W_ce8 ?_) | (refine W_nd7 ?_) | (refine W_unCons ?_) | (refine W_unNil ?_) | (refine W_asInt ?_) | (refine W_asBool ?_) | (refine W_asStr ?_) | (refine W_asSl ?_) | (refine W_asAgg ?_) | (refine W_kd ?_) | (refine W_z ?_))))
  refine W_call (hN _ _ _ _ _ _ _ _ _ x11 (by omega)) ?_
  rintro _ rfl
  (repeat (with_reducible (first | (refine W_uI ?_) | (refine W_uS ?_) | (refine W_uL ?_) | (refine W_uA ?_) | (refine W_uB ?_) | (refine W_aI ?_) | (refine W_aL ?_) | (refine W_ca3 ?_) | (refine W_ce3 ?_) | (refine W_ca4 ?_) | (refine W_ce4 ?_) | (refine W_ca5 ?_) | (refine W_ce5 ?_) | (refine W_ca6 ?_) | (refine W_ce6 ?_) | (refine W_ca7 ?_) | (refine W_ce7 ?_) | (refine W_ca8 ?_) | (refine W_ce8 ?_) | (refine W_nd7 ?_) | (refine W_unCons ?_) | (refine W_unNil ?_) | (refine W_asInt ?_) | (refine W_asBool ?_) | (refine W_asStr ?_) | (refine W_asSl ?_) | (refine W_asAgg ?_) | (refine W_kd ?_) | (refine W_z ?_))))
  exact W_ret ⟨_, rfl, states, rfl, x11, x10, x12, x13⟩
def KnLOK (G : ORC R) : Prop := ∀ K : List V → Option R, G 37 [] K = K [.bool true]
theorem knl_go (hKn : KnLOK G) : W (fun o => o = [.bool true]) K (G 37 [] fun o => uB o fun b r => unNil r (K [.bool b])) := by
  rw [hKn]; exact W_uB (W_unNil (W_ret rfl))
def DomsLawOK (G : ORC R) : Prop := ∀ (v : List V) (i j : Int) (K : List V → Option R), IntsS v → W (fun o => o = [.bool true]) K (G 7 [.sl 1 v, .int .i64 i, .int .i64 j] K)
theorem doms_law (hKn : KnLOK G) (hN : NdsOK G) (hP : PlaceS G) (hD : DomOK G) (hCD : CDomOK G) (hI : CInOK G) : DomsLawOK (fun _ args (K : List V → Option R) => g7 G k args K) := by
  intro v i j K hv
  show W _ K (f7 G k v i j K)
  unfold f7
  refine W_dec (fun _ => knl_go hKn) (fun h => ?_)
  unfold NdsOK at hN; unfold PlaceS at hP; unfold DomOK at hD; unfold CDomOK at hCD; unfold CInOK at hI
  refine W_call (hN v _ hv (by omega)) ?_
  rintro _ ⟨ns, rfl, hc⟩
  have hl := hc.len
  have T := hc.tree
  have hpos := T.pos
  (repeat (with_reducible (first | (refine W_uI ?_) | (refine W_uS ?_) | (refine W_uL ?_) | (refine W_uA ?_) | (refine W_uB ?_) | (refine W_aI ?_) | (refine W_aL ?_) | (refine W_ca3 ?_) | (refine W_ce3 ?_) | (refine W_ca4 ?_) | (refine W_ce4 ?_) | (refine W_ca5 ?_) | (refine W_ce5 ?_) | (refine W_ca6 ?_) | (refine W_ce6 ?_) | (refine W_ca7 ?_) | (refine W_ce7 ?_) | (refine W_ca8 ?_) | (refine W_ce8 ?_) | (refine W_nd7 ?_) | (refine W_unCons ?_) | (refine W_unNil ?_) | (refine W_asInt ?_) | (refine W_asBool ?_) | (refine W_asStr ?_) | (refine W_asSl ?_) | (refine W_asAgg ?_) | (refine W_kd ?_) | (refine W_z ?_))))
  refine W_call (hP _ _ _ (by rw [List.length_map]; omega) (by rw [List.length_map]; omega)) ?_
  rintro _ ⟨a, rfl, a1, a2⟩
  (repeat (with_reducible (first | (refine W_uI ?_) | (refine W_uS ?_) | (refine W_uL ?_) | (refine W_uA ?_) | (refine W_uB ?_) | (refine W_aI ?_) | (refine W_aL ?_) | (refine W_ca3 ?_) | (refine W_ce3 ?_) | (refine W_ca4 ?_) | (refine W_ce4 ?_) | (refine W_ca5 ?_) | (refine W_ce5 ?_) | (refine W_ca6 ?_) | (refine W_ce6 ?_) | (refine W_ca7 ?_) | (refine W_ce7 ?_) | (refine W_ca8 ?_) | (refine W_ce8 ?_) | (refine W_nd7 ?_) | (refine W_unCons ?_) | (refine W_unNil ?_) | (refine W_asInt ?_) | (refine W_asBool ?_) | (refine W_asStr ?_) | (refine W_asSl ?_) | (refine W_asAgg ?_) | (refine W_kd ?_) | (refine W_z ?_))))
  refine W_call (hP _ _ _ (by rw [List.length_map]; omega) (by rw [List.length_map]; omega)) ?_
  rintro _ ⟨b, rfl, b1, b2⟩
  rw [List.length_map] at a2 b2
  (repeat (with_reducible (first | (refine W_uI ?_) | (refine W_uS ?_) | (refine W_uL ?_) | (refine W_uA ?_) | (refine W_uB ?_) | (refine W_aI ?_) | (refine W_aL ?_) | (refine W_ca3 ?_) | (refine W_ce3 ?_) | (refine W_ca4 ?_) | (refine W_ce4 ?_) | (refine W_ca5 ?_) | (refine W_ce5 ?_) | (refine W_ca6 ?_) | (refine W_ce6 ?_) | (refine W_ca7 ?_) | (refine W_ce7 ?_) | (refine W_ca8 ?_) | (refine W_ce8 ?_) | (refine W_nd7 ?_) | (refine W_unCons ?_) | (refine W_unNil ?_) | (refine W_asInt ?_) | (refine W_asBool ?_) | (refine W_asStr ?_) | (refine W_asSl ?_) | (refine W_asAgg ?_) | (refine W_kd ?_) | (refine W_z ?_))))
  refine W_call (hCD _ _ _ _ (by omega)) ?_
  rintro _ rfl
  (repeat (with_reducible (first | (refine W_uI ?_) | (refine W_uS ?_) | (refine W_uL ?_) | (refine W_uA ?_) | (refine W_uB ?_) | (refine W_aI ?_) | (refine W_aL ?_) | (refine W_ca3 ?_) | (refine W_ce3 ?_) | (refine W_ca4 ?_) | (refine W_ce4 ?_) | (refine W_ca5 ?_) | (refine W_ce5 ?_) | (refine W_ca6 ?_) | (refine W_ce6 ?_) | (refine W_ca7 ?_) | (refine W_ce7 ?_) | (refine W_ca8 ?_) | (refine W_ce8 ?_) | (refine W_nd7 ?_) | (refine W_unCons ?_) | (refine W_unNil ?_) | (refine W_asInt ?_) | (refine W_asBool ?_) | (refine W_asStr ?_) | (refine W_asSl ?_) | (refine W_asAgg ?_) | (refine W_kd ?_) | (refine W_z ?_))))
  refine W_call (hD _ _ _ _ (by omega)) ?_
  rintro _ rfl
  (repeat (with_reducible (first | (refine W_uI ?_) | (refine W_uS ?_) | (refine W_uL ?_) | (refine W_uA ?_) | (refine W_uB ?_) | (refine W_aI ?_) | (refine W_aL ?_) | (refine W_ca3 ?_) | (refine W_ce3 ?_) | (refine W_ca4 ?_) | (refine W_ce4 ?_) | (refine W_ca5 ?_) | (refine W_ce5 ?_) | (refine W_ca6 ?_) | (refine W_ce6 ?_) | (refine W_ca7 ?_) | (refine W_ce7 ?_) | (refine W_ca8 ?_) | (refine W_ce8 ?_) | (refine W_nd7 ?_) | (refine W_unCons ?_) | (refine W_unNil ?_) | (refine W_asInt ?_) | (refine W_asBool ?_) | (refine W_asStr ?_) | (refine W_asSl ?_) | (refine W_asAgg ?_) | (refine W_kd ?_) | (refine W_z ?_))))
  refine W_chk' (by simp) ?_
  refine W_call (hCD _ _ _ _ (by omega)) ?_
  rintro _ rfl
  (repeat (with_reducible (first | (refine W_uI ?_) | (refine W_uS ?_) | (refine W_uL ?_) | (refine W_uA ?_) | (refine W_uB ?_) | (refine W_aI ?_) | (refine W_aL ?_) | (refine W_ca3 ?_) | (refine W_ce3 ?_) | (refine W_ca4 ?_) | (refine W_ce4 ?_) | (refine W_ca5 ?_) | (refine W_ce5 ?_) | (refine W_ca6 ?_) | (refine W_ce6 ?_) | (refine W_ca7 ?_) | (refine W_ce7 ?_) | (refine W_ca8 ?_) | (refine W_ce8 ?_) | (refine W_nd7 ?_) | (refine W_unCons ?_) | (refine W_unNil ?_) | (refine W_asInt ?_) | (refine W_asBool ?_) | (refine W_asStr ?_) | (refine W_asSl ?_) | (refine W_asAgg ?_) | (refine W_kd ?_) | (refine W_z ?_))))
  refine W_call (hD _ _ _ _ (by omega)) ?_
  rintro _ rfl
  (repeat (with_reducible (first | (refine W_uI ?_) | (refine W_uS ?_) | (refine W_uL ?_) | (refine W_uA ?_) | (refine W_uB ?_) | (refine W_aI ?_) | (refine W_aL ?_) | (refine W_ca3 ?_) | (refine W_ce3 ?_) | (refine W_ca4 ?_) | (refine W_ce4 ?_) | (refine W_ca5 ?_) | (refine W_ce5 ?_) | (refine W_ca6 ?_) | (refine W_ce6 ?_) | (refine W_ca7 ?_) | (refine W_ce7 ?_) | (refine W_ca8 ?_) | (refine W_ce8 ?_) | (refine W_nd7 ?_) | (refine W_unCons ?_) | (refine W_unNil ?_) | (refine W_asInt ?_) | (refine W_asBool ?_) | (refine W_asStr ?_) | (refine W_asSl ?_) | (refine W_asAgg ?_) | (refine W_kd ?_) | (refine W_z ?_))))
  refine W_chk' (by simp) ?_
  refine W_call (hCD _ _ _ _ (by omega)) ?_
  rintro _ rfl
  (repeat (with_reducible (first | (refine W_uI ?_) | (refine W_uS ?_) | (refine W_uL ?_) | (refine W_uA ?_) | (refine W_uB ?_) | (refine W_aI ?_) | (refine W_aL ?_) | (refine W_ca3 ?_) | (refine W_ce3 ?_) | (refine W_ca4 ?_) | (refine W_ce4 ?_) | (refine W_ca5 ?_) | (refine W_ce5 ?_) | (refine W_ca6 ?_) | (refine W_ce6 ?_) | (refine W_ca7 ?_) | (refine W_ce7 ?_) | (refine W_ca8 ?_) | (refine W_ce8 ?_) | (refine W_nd7 ?_) | (refine W_unCons ?_) | (refine W_unNil ?_) | (refine W_asInt ?_) | (refine W_asBool ?_) | (refine W_asStr ?_) | (refine W_asSl ?_) | (refine W_asAgg ?_) | (refine W_kd ?_) | (refine W_z ?_))))
  refine W_chk' (by rw [show domN ns b a = domN ns a b from domGo_comm]; simp) ?_
  refine W_beqI (fun ha => ?_) (fun ha => ?_)
  · have e : domN ns a b = -1 := by rw [ha]; exact dom_zero
    rw [e]
    exact W_chk (by simp) (W_yes (by omega) (knl_go hKn))
  · by_cases hb : b = 0
    · have e : domN ns a b = -1 := by rw [hb]; show domGo ns a 0 ns.length = -1; rw [domGo_comm]; exact dom_zero
      rw [e]
      exact W_chk (by simp [hb]) (W_yes (by omega) (knl_go hKn))
    · have hd := dom_pos T (a := a) (b := b) (by omega) a2 (by omega) b2
      obtain ⟨x, n, e, hn, q1, q2, q3, q4, q5⟩ := dom_of hd
      rw [e]
      refine W_chk (by rw [beq_eq_false_iff_ne.2 hb, decide_eq_false (show ¬ ((x : Int) < 0) by omega)]; rfl) (W_no (by omega) ?_)
      refine W_at (by omega) (by rw [Int.toNat_natCast]; exact nd_get hn) (W_nd7 (W_aI ?_))
      refine W_eqY q1 (W_yes q2 (W_yes q3 ?_))
      refine W_call (hI _ _ _ _) ?_
      rintro _ rfl
      (repeat (with_reducible (first | (refine W_uI ?_) | (refine W_uS ?_) | (refine W_uL ?_) | (refine W_uA ?_) | (refine W_uB ?_) | (refine W_aI ?_) | (refine W_aL ?_) | (refine W_ca3 ?_) | (refine W_ce3 ?_) | (refine W_ca4 ?_) | (refine W_ce4 ?_) | (refine W_ca5 ?_) | (refine W_ce5 ?_) | (refine W_ca6 ?_) | (refine W_ce6 ?_) | (refine W_ca7 ?_) | (refine W_ce7 ?_) | (refine W_ca8 ?_) | (refine W_ce8 ?_) | (refine W_nd7 ?_) | (refine W_unCons ?_) | (refine W_unNil ?_) | (refine W_asInt ?_) | (refine W_asBool ?_) | (refine W_asStr ?_) | (refine W_asSl ?_) | (refine W_asAgg ?_) | (refine W_kd ?_) | (refine W_z ?_))))
      refine W_chk q4 ?_
      refine W_call (hI _ _ _ _) ?_
      rintro _ rfl
      (repeat (with_reducible (first | (refine W_uI ?_) | (refine W_uS ?_) | (refine W_uL ?_) | (refine W_uA ?_) | (refine W_uB ?_) | (refine W_aI ?_) | (refine W_aL ?_) | (refine W_ca3 ?_) | (refine W_ce3 ?_) | (refine W_ca4 ?_) | (refine W_ce4 ?_) | (refine W_ca5 ?_) | (refine W_ce5 ?_) | (refine W_ca6 ?_) | (refine W_ce6 ?_) | (refine W_ca7 ?_) | (refine W_ce7 ?_) | (refine W_ca8 ?_) | (refine W_ce8 ?_) | (refine W_nd7 ?_) | (refine W_unCons ?_) | (refine W_unNil ?_) | (refine W_asInt ?_) | (refine W_asBool ?_) | (refine W_asStr ?_) | (refine W_asSl ?_) | (refine W_asAgg ?_) | (refine W_kd ?_) | (refine W_z ?_))))
      exact W_chk q5 (knl_go hKn)
end
end Go.Proofs.Ytblabbcmokldiaa.Vm
