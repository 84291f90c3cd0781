/- Functions of the program, told by the machine of values, and what they answer: part 2. -/
import Derived.Test.YtblabbcmokldiaaFf1
import Derived.Test.YtblabbcmokldiaaV4
open Go Go.VM
set_option linter.unusedVariables false
set_option maxRecDepth 100000
set_option maxHeartbeats 4000000
namespace Go.Proofs.Ytblabbcmokldiaa.Vm
/-! ### cotillion/cotillionref37.Chart: function 59 -/
def P59_0h : Pat := { tmps := unds [] 6 (unds [.stat (.one (.ptr 7 0) .pt), .stat (.one (.ptr 18 0) .pt), .stat (.one (.ptr 9 0) .pt), .var (.int .i64) .pr] 133 []), boxes := nons [some [.var (.sl 1) .ro true, .var (.int .i64) .pr false]] 6 (nons [some [.var .str .pr false, .var (.int .i64) .pr false, .var (.int .i64) .pr false, .var (.sl 3) (.own true) false, .var (.sl 3) (.own true) false, .var (.sl 3) (.own true) false, .var (.sl 7) (.own true) false, .var (.int .i64) .pr false], none, some [.var .str .pr false, .var (.int .i64) .pr false, .var (.int .i64) .pr false, .var (.sl 3) .ro false, .var (.sl 3) .ro false, .var (.sl 3) .ro false, .var (.sl 7) (.own true) false, .var (.int .i64) .pr false]] 8 (nons [some [.stat ⟨(.ptr 0 0), .pt, 0, false⟩, .var (.sl 1) .ro false, .var (.sl 1) .ro false, .var (.sl 1) .ro false, .var (.sl 1) (.own true) false, .var (.int .i64) .pr false, .var (.sl 1) (.own true) false]] 125 [])) }
def P59_0x : Pat := { tmps := unds [] 6 (unds [.stat (.one (.ptr 7 0) .pt), .stat (.one (.ptr 18 0) .pt), .stat (.one (.ptr 9 0) .pt)] 134 []), boxes := nons [some [.var (.sl 1) .ro true, .var (.int .i64) .pr false]] 6 (nons [some [.var .str .pr false, .var (.int .i64) .pr false, .var (.int .i64) .pr false, .var (.sl 3) (.own true) false, .var (.sl 3) (.own true) false, .var (.sl 3) (.own true) false, .var (.sl 7) (.own true) false, .var (.int .i64) .pr false], none, some [.var .str .pr false, .var (.int .i64) .pr false, .var (.int .i64) .pr false, .var (.sl 3) .ro false, .var (.sl 3) .ro false, .var (.sl 3) .ro false, .var (.sl 7) (.own true) false, .var (.int .i64) .pr false]] 8 (nons [some [.stat ⟨(.ptr 0 0), .pt, 0, false⟩, .var (.sl 1) .ro false, .var (.sl 1) .ro false, .var (.sl 1) .ro false, .var (.sl 1) (.own true) false, .var (.int .i64) .pr false, .var (.sl 1) (.own true) false]] 125 [])) }
def b59_0 {R : Type} (G : ORC R) (k : Nat) (X : Int → List V → Int → ByteArray → Int → Int → List V → List V → List V → List V → Int → ByteArray → Int → Int → List V → List V → List V → List V → Int → List V → List V → List V → List V → Int → List V → Option R) (Ko : List V → Int → ByteArray → Int → Int → List V → List V → List V → List V → Int → ByteArray → Int → Int → List V → List V → List V → List V → Int → List V → List V → List V → List V → Int → List V → Option R) (xi57 : Int) (xl58 : List V) (xi59 : Int) (xs60 : ByteArray) (xi61 xi62 : Int) (xl63 xl64 : List V) (xl65 xl66 : List V) (xi67 : Int) (xs68 : ByteArray) (xi69 xi70 : Int) (xl71 xl72 : List V) (xl73 xl74 : List V) (xi75 : Int) (xl76 xl77 : List V) (xl78 xl79 : List V) (xi80 : Int) (xl81 : List V) : Option R :=
  (bif (decide (xi57 > 0)) then (bif (decide (xi80 > 0)) then (G 91 [(.int .i64 2), (.bool false), (.sl 1 xl76), (.sl 1 xl77), (.sl 1 xl78), (.sl 1 xl79), (.int .i64 xi80), (.sl 1 xl81), (.sl 1 xl58), (.int .i64 xi59)] fun o82 => (uA o82 fun l84 r83 => (uI .i64 l84 fun n86 r85 => (uS r85 fun s88 r87 => (uL 8 r87 fun l90 r89 => (uL 8 r89 fun l92 r91 => (uL 5 r91 fun l94 r93 => (uL 7 r93 fun l96 r95 => (uI .i64 r95 fun n98 r97 => (unNil r97 (uI .i64 r83 fun n100 r99 => (uL 1 r99 fun l102 r101 => (uI .i64 r101 fun n104 r103 => (unNil r103 (bif (decide (List.length xl74 + 1 ≤ 1073741824)) then (X (IntKind.i64.wrap (xi57 - 1)) xl58 n104 xs60 xi61 xi62 xl63 xl64 xl65 xl66 xi67 xs68 xi69 xi70 xl71 xl72 xl73 (xl74 ++ [(.agg [(.int .i64 n86), (.str s88), (.sl 8 l90), (.sl 8 l92), (.sl 5 l94), (.sl 7 l96), (.int .i64 n98)])]) xi75 xl76 xl77 xl78 xl79 n100 l102) else none))))))))))))))) else (bif (((List.length xl74 : Nat) : Int) == 0) then (G 91 [(.int .i64 2), (.bool false), (.sl 1 xl76), (.sl 1 xl77), (.sl 1 xl78), (.sl 1 xl79), (.int .i64 xi80), (.sl 1 xl81), (.sl 1 xl58), (.int .i64 xi59)] fun o105 => (uA o105 fun l107 r106 => (uI .i64 l107 fun n109 r108 => (uS r108 fun s111 r110 => (uL 8 r110 fun l113 r112 => (uL 8 r112 fun l115 r114 => (uL 5 r114 fun l117 r116 => (uL 7 r116 fun l119 r118 => (uI .i64 r118 fun n121 r120 => (unNil r120 (uI .i64 r106 fun n123 r122 => (uL 1 r122 fun l125 r124 => (uI .i64 r124 fun n127 r126 => (unNil r126 (bif (decide (List.length xl74 + 1 ≤ 1073741824)) then (X (IntKind.i64.wrap (xi57 - 1)) xl58 n127 xs60 xi61 xi62 xl63 xl64 xl65 xl66 xi67 xs68 xi69 xi70 xl71 xl72 xl73 (xl74 ++ [(.agg [(.int .i64 n109), (.str s111), (.sl 8 l113), (.sl 8 l115), (.sl 5 l117), (.sl 7 l119), (.int .i64 n121)])]) xi75 xl76 xl77 xl78 xl79 n123 l125) else none))))))))))))))) else (Ko xl58 xi59 xs60 xi61 xi62 xl63 xl64 xl65 xl66 xi67 xs68 xi69 xi70 xl71 xl72 xl73 xl74 xi75 xl76 xl77 xl78 xl79 xi80 xl81))) else (Ko xl58 xi59 xs60 xi61 xi62 xl63 xl64 xl65 xl66 xi67 xs68 xi69 xi70 xl71 xl72 xl73 xl74 xi75 xl76 xl77 xl78 xl79 xi80 xl81))
def l59_0g {R : Type} (G : ORC R) (k : Nat) (Ko : List V → Int → ByteArray → Int → Int → List V → List V → List V → List V → Int → ByteArray → Int → Int → List V → List V → List V → List V → Int → List V → List V → List V → List V → Int → List V → Option R) : Nat → Int → List V → Int → ByteArray → Int → Int → List V → List V → List V → List V → Int → ByteArray → Int → Int → List V → List V → List V → List V → Int → List V → List V → List V → List V → Int → List V → Option R
  | 0 => fun _ _ _ _ _ _ _ _ _ _ _ _ _ _ _ _ _ _ _ _ _ _ _ _ _ => none
  | j + 1 => b59_0 G k (l59_0g G k Ko j) Ko
def l59_0 {R : Type} (G : ORC R) (k : Nat) (xi57 : Int) (xl58 : List V) (xi59 : Int) (xs60 : ByteArray) (xi61 xi62 : Int) (xl63 xl64 : List V) (xl65 xl66 : List V) (xi67 : Int) (xs68 : ByteArray) (xi69 xi70 : Int) (xl71 xl72 : List V) (xl73 xl74 : List V) (xi75 : Int) (xl76 xl77 : List V) (xl78 xl79 : List V) (xi80 : Int) (xl81 : List V) (Ko : List V → Int → ByteArray → Int → Int → List V → List V → List V → List V → Int → ByteArray → Int → Int → List V → List V → List V → List V → Int → List V → List V → List V → List V → Int → List V → Option R) : Option R := l59_0g G k Ko k xi57 xl58 xi59 xs60 xi61 xi62 xl63 xl64 xl65 xl66 xi67 xs68 xi69 xi70 xl71 xl72 xl73 xl74 xi75 xl76 xl77 xl78 xl79 xi80 xl81
def P59_2h : Pat := { tmps := unds [] 6 (unds [.stat (.one (.ptr 7 0) .pt), .stat (.one (.ptr 18 0) .pt), .stat (.one (.ptr 9 0) .pt), .undef, .var (.int .i64) .pr] 132 []), boxes := nons [some [.var (.sl 1) .ro true, .var (.int .i64) .pr false]] 6 (nons [some [.var .str .pr false, .var (.int .i64) .pr false, .var (.int .i64) .pr false, .var (.sl 3) (.own true) false, .var (.sl 3) (.own true) false, .var (.sl 3) (.own true) false, .var (.sl 7) (.own true) false, .var (.int .i64) .pr false], none, some [.var .str .pr false, .var (.int .i64) .pr false, .var (.int .i64) .pr false, .var (.sl 3) .ro false, .var (.sl 3) .ro false, .var (.sl 3) .ro false, .var (.sl 7) (.own true) false, .var (.int .i64) .pr false]] 8 (nons [some [.stat ⟨(.ptr 0 0), .pt, 0, false⟩, .var (.sl 1) .ro false, .var (.sl 1) .ro false, .var (.sl 1) .ro false, .var (.sl 1) (.own true) false, .var (.int .i64) .pr false, .var (.sl 1) (.own true) false]] 125 [])) }
def P59_2x : Pat := { tmps := unds [] 6 (unds [.stat (.one (.ptr 7 0) .pt), .stat (.one (.ptr 18 0) .pt), .stat (.one (.ptr 9 0) .pt)] 134 []), boxes := nons [some [.var (.sl 1) .ro true, .var (.int .i64) .pr false]] 6 (nons [some [.var .str .pr false, .var (.int .i64) .pr false, .var (.int .i64) .pr false, .var (.sl 3) (.own true) false, .var (.sl 3) (.own true) false, .var (.sl 3) (.own true) false, .var (.sl 7) (.own true) false, .var (.int .i64) .pr false], none, some [.var .str .pr false, .var (.int .i64) .pr false, .var (.int .i64) .pr false, .var (.sl 3) .ro false, .var (.sl 3) .ro false, .var (.sl 3) .ro false, .var (.sl 7) (.own true) false, .var (.int .i64) .pr false]] 8 (nons [some [.stat ⟨(.ptr 0 0), .pt, 0, false⟩, .var (.sl 1) .ro false, .var (.sl 1) .ro false, .var (.sl 1) .ro false, .var (.sl 1) (.own true) false, .var (.int .i64) .pr false, .var (.sl 1) (.own true) false]] 125 [])) }
def b59_2 {R : Type} (G : ORC R) (k : Nat) (X : Int → List V → Int → ByteArray → Int → Int → List V → List V → List V → List V → Int → ByteArray → Int → Int → List V → List V → List V → List V → Int → List V → List V → List V → List V → Int → List V → Option R) (Ko : List V → Int → ByteArray → Int → Int → List V → List V → List V → List V → Int → ByteArray → Int → Int → List V → List V → List V → List V → Int → List V → List V → List V → List V → Int → List V → Option R) (xi152 : Int) (xl153 : List V) (xi154 : Int) (xs155 : ByteArray) (xi156 xi157 : Int) (xl158 xl159 : List V) (xl160 xl161 : List V) (xi162 : Int) (xs163 : ByteArray) (xi164 xi165 : Int) (xl166 xl167 : List V) (xl168 xl169 : List V) (xi170 : Int) (xl171 xl172 : List V) (xl173 xl174 : List V) (xi175 : Int) (xl176 : List V) : Option R :=
  (bif (decide (xi152 < ((List.length xl176 : Nat) : Int))) then (bif ((decide (0 ≤ xi152)) && (decide (xi152 < ((List.length xl176 : Nat) : Int)))) then (nthK xl176 (Int.toNat xi152) fun e177 => (V.asStr e177 fun s178 => (bif (decide (0 < ((ByteArray.size s178 : Nat) : Int))) then (bif (((List.getD s178.data.toList 0 0).toNat : Int) == 115) then (bif ((decide (0 ≤ xi152)) && (decide (xi152 < ((List.length xl176 : Nat) : Int)))) then (nthK xl176 (Int.toNat xi152) fun e179 => (V.asStr e179 fun s180 => (bif (decide (List.length xl174 + 1 ≤ 1073741824)) then (X (IntKind.i64.wrap (xi152 + 1)) xl153 xi154 xs155 xi156 xi157 xl158 xl159 xl160 xl161 xi162 xs163 xi164 xi165 xl166 xl167 xl168 xl169 xi170 xl171 xl172 xl173 (xl174 ++ [(.str s180)]) xi175 xl176) else none))) else none) else (X (IntKind.i64.wrap (xi152 + 1)) xl153 xi154 xs155 xi156 xi157 xl158 xl159 xl160 xl161 xi162 xs163 xi164 xi165 xl166 xl167 xl168 xl169 xi170 xl171 xl172 xl173 xl174 xi175 xl176)) else none))) else none) else (Ko xl153 xi154 xs155 xi156 xi157 xl158 xl159 xl160 xl161 xi162 xs163 xi164 xi165 xl166 xl167 xl168 xl169 xi170 xl171 xl172 xl173 xl174 xi175 xl176))
def l59_2g {R : Type} (G : ORC R) (k : Nat) (Ko : List V → Int → ByteArray → Int → Int → List V → List V → List V → List V → Int → ByteArray → Int → Int → List V → List V → List V → List V → Int → List V → List V → List V → List V → Int → List V → Option R) : Nat → Int → List V → Int → ByteArray → Int → Int → List V → List V → List V → List V → Int → ByteArray → Int → Int → List V → List V → List V → List V → Int → List V → List V → List V → List V → Int → List V → Option R
  | 0 => fun _ _ _ _ _ _ _ _ _ _ _ _ _ _ _ _ _ _ _ _ _ _ _ _ _ => none
  | j + 1 => b59_2 G k (l59_2g G k Ko j) Ko
def l59_2 {R : Type} (G : ORC R) (k : Nat) (xi152 : Int) (xl153 : List V) (xi154 : Int) (xs155 : ByteArray) (xi156 xi157 : Int) (xl158 xl159 : List V) (xl160 xl161 : List V) (xi162 : Int) (xs163 : ByteArray) (xi164 xi165 : Int) (xl166 xl167 : List V) (xl168 xl169 : List V) (xi170 : Int) (xl171 xl172 : List V) (xl173 xl174 : List V) (xi175 : Int) (xl176 : List V) (Ko : List V → Int → ByteArray → Int → Int → List V → List V → List V → List V → Int → ByteArray → Int → Int → List V → List V → List V → List V → Int → List V → List V → List V → List V → Int → List V → Option R) : Option R := l59_2g G k Ko k xi152 xl153 xi154 xs155 xi156 xi157 xl158 xl159 xl160 xl161 xi162 xs163 xi164 xi165 xl166 xl167 xl168 xl169 xi170 xl171 xl172 xl173 xl174 xi175 xl176
def P59_4h : Pat := { tmps := unds [] 6 (unds [.stat (.one (.ptr 7 0) .pt), .stat (.one (.ptr 18 0) .pt), .stat (.one (.ptr 9 0) .pt), .undef, .undef, .var (.int .i64) .pr] 131 []), boxes := nons [some [.var (.sl 1) .ro true, .var (.int .i64) .pr false]] 6 (nons [some [.var .str .pr false, .var (.int .i64) .pr false, .var (.int .i64) .pr false, .var (.sl 3) (.own true) false, .var (.sl 3) (.own true) false, .var (.sl 3) (.own true) false, .var (.sl 7) (.own true) false, .var (.int .i64) .pr false], none, some [.var .str .pr false, .var (.int .i64) .pr false, .var (.int .i64) .pr false, .var (.sl 3) .ro false, .var (.sl 3) .ro false, .var (.sl 3) .ro false, .var (.sl 7) (.own true) false, .var (.int .i64) .pr false]] 8 (nons [some [.stat ⟨(.ptr 0 0), .pt, 0, false⟩, .var (.sl 1) .ro false, .var (.sl 1) .ro false, .var (.sl 1) .ro false, .var (.sl 1) (.own true) false, .var (.int .i64) .pr false, .var (.sl 1) (.own true) false]] 125 [])) }
def P59_4x : Pat := { tmps := unds [] 6 (unds [.stat (.one (.ptr 7 0) .pt), .undef, .stat (.one (.ptr 9 0) .pt)] 134 []), boxes := nons [some [.var (.sl 1) .ro true, .var (.int .i64) .pr false]] 6 (nons [some [.var .str .pr false, .var (.int .i64) .pr false, .var (.int .i64) .pr false, .var (.sl 3) (.own true) false, .var (.sl 3) (.own true) false, .var (.sl 3) (.own true) false, .var (.sl 7) (.own true) false, .var (.int .i64) .pr false], none, some [.var .str .pr false, .var (.int .i64) .pr false, .var (.int .i64) .pr false, .var (.sl 3) .ro false, .var (.sl 3) .ro false, .var (.sl 3) .ro false, .var (.sl 7) (.own true) false, .var (.int .i64) .pr false]] 134 []) }
def b59_4 {R : Type} (G : ORC R) (k : Nat) (X : Int → List V → Int → ByteArray → Int → Int → List V → List V → List V → List V → Int → ByteArray → Int → Int → List V → List V → List V → List V → Int → List V → List V → List V → List V → Int → List V → Option R) (Ko : List V → Int → ByteArray → Int → Int → List V → List V → List V → List V → Int → ByteArray → Int → Int → List V → List V → List V → List V → Int → Option R) (xi205 : Int) (xl206 : List V) (xi207 : Int) (xs208 : ByteArray) (xi209 xi210 : Int) (xl211 xl212 : List V) (xl213 xl214 : List V) (xi215 : Int) (xs216 : ByteArray) (xi217 xi218 : Int) (xl219 xl220 : List V) (xl221 xl222 : List V) (xi223 : Int) (xl224 xl225 : List V) (xl226 xl227 : List V) (xi228 : Int) (xl229 : List V) : Option R :=
  (bif (decide (xi205 < ((List.length xl222 : Nat) : Int))) then (bif ((decide (0 ≤ xi205)) && (decide (xi205 < ((List.length xl222 : Nat) : Int)))) then (nthK xl222 (Int.toNat xi205) fun e230 => (V.asAgg e230 fun l231 => (G 92 [(.agg l231), (.sl 1 xl224), (.sl 1 xl225), (.sl 1 xl226), (.sl 1 xl227), (.int .i64 xi228), (.sl 1 xl229), (.sl 1 xl206), (.int .i64 xi207)] fun o232 => (uA o232 fun l234 r233 => (uI .i64 l234 fun n236 r235 => (uS r235 fun s238 r237 => (uL 8 r237 fun l240 r239 => (uL 8 r239 fun l242 r241 => (uL 5 r241 fun l244 r243 => (uL 7 r243 fun l246 r245 => (uI .i64 r245 fun n248 r247 => (unNil r247 (uI .i64 r233 fun n250 r249 => (uI .i64 r249 fun n252 r251 => (unNil r251 (bif ((decide (0 ≤ xi205)) && (decide (xi205 < ((List.length (List.set xl222 (Int.toNat xi205) .undef) : Nat) : Int)))) then (nthK (List.set xl222 (Int.toNat xi205) .undef) (Int.toNat xi205) fun e253 => (X (IntKind.i64.wrap (xi205 + 1)) xl206 n252 xs208 xi209 xi210 xl211 xl212 xl213 xl214 xi215 xs216 xi217 xi218 xl219 xl220 xl221 (List.set (List.set xl222 (Int.toNat xi205) .undef) (Int.toNat xi205) (.agg [(.int .i64 n236), (.str s238), (.sl 8 l240), (.sl 8 l242), (.sl 5 l244), (.sl 7 l246), (.int .i64 n248)])) xi223 xl224 xl225 xl226 xl227 n250 xl229)) else none)))))))))))))))) else none) else (Ko xl206 xi207 xs208 xi209 xi210 xl211 xl212 xl213 xl214 xi215 xs216 xi217 xi218 xl219 xl220 xl221 xl222 xi223))
def l59_4g {R : Type} (G : ORC R) (k : Nat) (Ko : List V → Int → ByteArray → Int → Int → List V → List V → List V → List V → Int → ByteArray → Int → Int → List V → List V → List V → List V → Int → Option R) : Nat → Int → List V → Int → ByteArray → Int → Int → List V → List V → List V → List V → Int → ByteArray → Int → Int → List V → List V → List V → List V → Int → List V → List V → List V → List V → Int → List V → Option R
  | 0 => fun _ _ _ _ _ _ _ _ _ _ _ _ _ _ _ _ _ _ _ _ _ _ _ _ _ => none
  | j + 1 => b59_4 G k (l59_4g G k Ko j) Ko
def l59_4 {R : Type} (G : ORC R) (k : Nat) (xi205 : Int) (xl206 : List V) (xi207 : Int) (xs208 : ByteArray) (xi209 xi210 : Int) (xl211 xl212 : List V) (xl213 xl214 : List V) (xi215 : Int) (xs216 : ByteArray) (xi217 xi218 : Int) (xl219 xl220 : List V) (xl221 xl222 : List V) (xi223 : Int) (xl224 xl225 : List V) (xl226 xl227 : List V) (xi228 : Int) (xl229 : List V) (Ko : List V → Int → ByteArray → Int → Int → List V → List V → List V → List V → Int → ByteArray → Int → Int → List V → List V → List V → List V → Int → Option R) : Option R := l59_4g G k Ko k xi205 xl206 xi207 xs208 xi209 xi210 xl211 xl212 xl213 xl214 xi215 xs216 xi217 xi218 xl219 xl220 xl221 xl222 xi223 xl224 xl225 xl226 xl227 xi228 xl229
def rd59_0 {R : Type} (G : ORC R) (k : Nat) (K : Ex → St → Option R) (j : Nat) (vs : List V) : Option R := match vs with
  | [(.int .i64 xi57), (.sl 1 xl58), (.int .i64 xi59), (.str xs60), (.int .i64 xi61), (.int .i64 xi62), (.sl 3 xl63), (.sl 3 xl64), (.sl 3 xl65), (.sl 7 xl66), (.int .i64 xi67), (.str xs68), (.int .i64 xi69), (.int .i64 xi70), (.sl 3 xl71), (.sl 3 xl72), (.sl 3 xl73), (.sl 7 xl74), (.int .i64 xi75), (.sl 1 xl76), (.sl 1 xl77), (.sl 1 xl78), (.sl 1 xl79), (.int .i64 xi80), (.sl 1 xl81)] => l59_0g G k (fun yl272 yi273 ys274 yi275 yi276 yl277 yl278 yl279 yl280 yi281 ys282 yi283 yi284 yl285 yl286 yl287 yl288 yi289 yl290 yl291 yl292 yl293 yi294 yl295 => K .normal (P59_0x.inst [(.sl 1 yl272), (.int .i64 yi273), (.str ys274), (.int .i64 yi275), (.int .i64 yi276), (.sl 3 yl277), (.sl 3 yl278), (.sl 3 yl279), (.sl 7 yl280), (.int .i64 yi281), (.str ys282), (.int .i64 yi283), (.int .i64 yi284), (.sl 3 yl285), (.sl 3 yl286), (.sl 3 yl287), (.sl 7 yl288), (.int .i64 yi289), (.sl 1 yl290), (.sl 1 yl291), (.sl 1 yl292), (.sl 1 yl293), (.int .i64 yi294), (.sl 1 yl295)])) j xi57 xl58 xi59 xs60 xi61 xi62 xl63 xl64 xl65 xl66 xi67 xs68 xi69 xi70 xl71 xl72 xl73 xl74 xi75 xl76 xl77 xl78 xl79 xi80 xl81
  | _ => none
def rd59_2 {R : Type} (G : ORC R) (k : Nat) (K : Ex → St → Option R) (j : Nat) (vs : List V) : Option R := match vs with
  | [(.int .i64 xi152), (.sl 1 xl153), (.int .i64 xi154), (.str xs155), (.int .i64 xi156), (.int .i64 xi157), (.sl 3 xl158), (.sl 3 xl159), (.sl 3 xl160), (.sl 7 xl161), (.int .i64 xi162), (.str xs163), (.int .i64 xi164), (.int .i64 xi165), (.sl 3 xl166), (.sl 3 xl167), (.sl 3 xl168), (.sl 7 xl169), (.int .i64 xi170), (.sl 1 xl171), (.sl 1 xl172), (.sl 1 xl173), (.sl 1 xl174), (.int .i64 xi175), (.sl 1 xl176)] => l59_2g G k (fun yl296 yi297 ys298 yi299 yi300 yl301 yl302 yl303 yl304 yi305 ys306 yi307 yi308 yl309 yl310 yl311 yl312 yi313 yl314 yl315 yl316 yl317 yi318 yl319 => K .normal (P59_2x.inst [(.sl 1 yl296), (.int .i64 yi297), (.str ys298), (.int .i64 yi299), (.int .i64 yi300), (.sl 3 yl301), (.sl 3 yl302), (.sl 3 yl303), (.sl 7 yl304), (.int .i64 yi305), (.str ys306), (.int .i64 yi307), (.int .i64 yi308), (.sl 3 yl309), (.sl 3 yl310), (.sl 3 yl311), (.sl 7 yl312), (.int .i64 yi313), (.sl 1 yl314), (.sl 1 yl315), (.sl 1 yl316), (.sl 1 yl317), (.int .i64 yi318), (.sl 1 yl319)])) j xi152 xl153 xi154 xs155 xi156 xi157 xl158 xl159 xl160 xl161 xi162 xs163 xi164 xi165 xl166 xl167 xl168 xl169 xi170 xl171 xl172 xl173 xl174 xi175 xl176
  | _ => none
def rd59_4 {R : Type} (G : ORC R) (k : Nat) (K : Ex → St → Option R) (j : Nat) (vs : List V) : Option R := match vs with
  | [(.int .i64 xi205), (.sl 1 xl206), (.int .i64 xi207), (.str xs208), (.int .i64 xi209), (.int .i64 xi210), (.sl 3 xl211), (.sl 3 xl212), (.sl 3 xl213), (.sl 7 xl214), (.int .i64 xi215), (.str xs216), (.int .i64 xi217), (.int .i64 xi218), (.sl 3 xl219), (.sl 3 xl220), (.sl 3 xl221), (.sl 7 xl222), (.int .i64 xi223), (.sl 1 xl224), (.sl 1 xl225), (.sl 1 xl226), (.sl 1 xl227), (.int .i64 xi228), (.sl 1 xl229)] => l59_4g G k (fun yl320 yi321 ys322 yi323 yi324 yl325 yl326 yl327 yl328 yi329 ys330 yi331 yi332 yl333 yl334 yl335 yl336 yi337 => K .normal (P59_4x.inst [(.sl 1 yl320), (.int .i64 yi321), (.str ys322), (.int .i64 yi323), (.int .i64 yi324), (.sl 3 yl325), (.sl 3 yl326), (.sl 3 yl327), (.sl 7 yl328), (.int .i64 yi329), (.str ys330), (.int .i64 yi331), (.int .i64 yi332), (.sl 3 yl333), (.sl 3 yl334), (.sl 3 yl335), (.sl 7 yl336), (.int .i64 yi337)])) j xi205 xl206 xi207 xs208 xi209 xi210 xl211 xl212 xl213 xl214 xi215 xs216 xi217 xi218 xl219 xl220 xl221 xl222 xi223 xl224 xl225 xl226 xl227 xi228 xl229
  | _ => none
def L59 {R : Type} (G : ORC R) (k : Nat) : Nat → St → (Ex → St → Option R) → Option R
  | 0, S, K => P59_0h.mat S fun vs => rd59_0 G k K k vs
  | 2, S, K => P59_2h.mat S fun vs => rd59_2 G k K k vs
  | 4, S, K => P59_4h.mat S fun vs => rd59_4 G k K k vs
  | _, _, _ => none
def f59 {R : Type} (G : ORC R) (k : Nat) (as1 : ByteArray) (ai2 : Int) (bl3 : List V) (bi4 : Int) (K : List V → Option R) : Option R :=
  (G 68 [(.int .i64 8), (.sl 1 bl3), (.int .i64 bi4)] fun o5 => (uI .i64 o5 fun n7 r6 => (uI .i64 r6 fun n9 r8 => (unNil r8 (G 68 [(.int .i64 3), (.sl 1 bl3), (.int .i64 n9)] fun o10 => (uI .i64 o10 fun n12 r11 => (uI .i64 r11 fun n14 r13 => (unNil r13 (G 88 [(.str ⟨#[118]⟩), (.int .i64 n12)] fun o15 => (uL 1 o15 fun l17 r16 => (unNil r16 (G 88 [(.str ⟨#[112]⟩), (.int .i64 ai2)] fun o18 => (uL 1 o18 fun l20 r19 => (unNil r19 (G 68 [(.int .i64 3), (.sl 1 bl3), (.int .i64 n14)] fun o21 => (uI .i64 o21 fun n23 r22 => (uI .i64 r22 fun n25 r24 => (unNil r24 (G 88 [(.str ⟨#[116]⟩), (.int .i64 n23)] fun o26 => (uL 1 o26 fun l28 r27 => (unNil r27 (G 68 [(.int .i64 5), (.sl 1 bl3), (.int .i64 n25)] fun o29 => (uI .i64 o29 fun n31 r30 => (uI .i64 r30 fun n33 r32 => (unNil r32 (G 68 [(.int .i64 4), (.sl 1 bl3), (.int .i64 n33)] fun o34 => (uI .i64 o34 fun n36 r35 => (uI .i64 r35 fun n38 r37 => (unNil r37 (bif ((decide (0 ≤ n36)) && (decide (n36 < 4))) then (nthK [(.int .i64 40), (.int .i64 12), (.int .i64 4), (.int .i64 200)] (Int.toNat n36) fun e39 => (aI .i64 e39 fun n40 => (G 89 [(.sl 1 l17), (.sl 1 bl3), (.int .i64 n38)] fun o41 => (uL 3 o41 fun l43 r42 => (uI .i64 r42 fun n45 r44 => (unNil r44 (G 90 [(.sl 1 l20)] fun o46 => (uL 3 o46 fun l48 r47 => (unNil r47 (G 90 [(.sl 1 l28)] fun o49 => (uL 3 o49 fun l51 r50 => (unNil r50 (G 68 [(.int .i64 2), (.sl 1 bl3), (.int .i64 n45)] fun o52 => (uI .i64 o52 fun n54 r53 => (uI .i64 r53 fun n56 r55 => (unNil r55 (l59_0 G k (IntKind.i64.wrap (1 + n54)) bl3 n56 ⟨#[]⟩ 0 0 [] [] [] [] 0 as1 (IntKind.i64.wrap (2 + n31)) n40 l43 l48 l51 [] 0 l17 l20 l28 [] (IntKind.i64.wrap (2 + n7)) [] (fun yl128 yi129 ys130 yi131 yi132 yl133 yl134 yl135 yl136 yi137 ys138 yi139 yi140 yl141 yl142 yl143 yl144 yi145 yl146 yl147 yl148 yl149 yi150 yl151 => (l59_2 G k 0 yl128 yi129 ys130 yi131 yi132 yl133 yl134 yl135 yl136 yi137 ys138 yi139 yi140 yl141 yl142 yl143 yl144 yi145 yl146 yl147 yl148 yl149 yi150 yl151 (fun yl181 yi182 ys183 yi184 yi185 yl186 yl187 yl188 yl189 yi190 ys191 yi192 yi193 yl194 yl195 yl196 yl197 yi198 yl199 yl200 yl201 yl202 yi203 yl204 => (l59_4 G k 0 yl181 yi182 ys183 yi184 yi185 yl186 yl187 yl188 yl189 yi190 ys191 yi192 yi193 yl194 yl195 yl196 yl197 yi198 yl199 yl200 yl201 yl202 yi203 yl204 (fun yl254 yi255 ys256 yi257 yi258 yl259 yl260 yl261 yl262 yi263 ys264 yi265 yi266 yl267 yl268 yl269 yl270 yi271 => (K [(.agg [(.str ys264), (.int .i64 yi265), (.int .i64 yi266), (.sl 3 yl267), (.sl 3 yl268), (.sl 3 yl269), (.sl 7 yl270), (.int .i64 yi271)]), (.int .i64 yi255)]))))))))))))))))))))))) else none))))))))))))))))))))))))))))))
noncomputable def D59_0 : LoopD := { id := 0, body := loopAt 0 (bodyOf Try.f59), head := P59_0h, out := P59_0x, ret := default }
theorem l59_0_is {R : Type} (G : ORC R) (k : Nat) (X : List V → Option R) (K : Ex → St → Option R) (xi57 : Int) (xl58 : List V) (xi59 : Int) (xs60 : ByteArray) (xi61 xi62 : Int) (xl63 xl64 : List V) (xl65 xl66 : List V) (xi67 : Int) (xs68 : ByteArray) (xi69 xi70 : Int) (xl71 xl72 : List V) (xl73 xl74 : List V) (xi75 : Int) (xl76 xl77 : List V) (xl78 xl79 : List V) (xi80 : Int) (xl81 : List V) :
    roundOf (TAB.env 59) G (L59 G k) D59_0 X K [(.int .i64 xi57), (.sl 1 xl58), (.int .i64 xi59), (.str xs60), (.int .i64 xi61), (.int .i64 xi62), (.sl 3 xl63), (.sl 3 xl64), (.sl 3 xl65), (.sl 7 xl66), (.int .i64 xi67), (.str xs68), (.int .i64 xi69), (.int .i64 xi70), (.sl 3 xl71), (.sl 3 xl72), (.sl 3 xl73), (.sl 7 xl74), (.int .i64 xi75), (.sl 1 xl76), (.sl 1 xl77), (.sl 1 xl78), (.sl 1 xl79), (.int .i64 xi80), (.sl 1 xl81)] = b59_0 G k (fun xi57 xl58 xi59 xs60 xi61 xi62 xl63 xl64 xl65 xl66 xi67 xs68 xi69 xi70 xl71 xl72 xl73 xl74 xi75 xl76 xl77 xl78 xl79 xi80 xl81 => X [(.int .i64 xi57), (.sl 1 xl58), (.int .i64 xi59), (.str xs60), (.int .i64 xi61), (.int .i64 xi62), (.sl 3 xl63), (.sl 3 xl64), (.sl 3 xl65), (.sl 7 xl66), (.int .i64 xi67), (.str xs68), (.int .i64 xi69), (.int .i64 xi70), (.sl 3 xl71), (.sl 3 xl72), (.sl 3 xl73), (.sl 7 xl74), (.int .i64 xi75), (.sl 1 xl76), (.sl 1 xl77), (.sl 1 xl78), (.sl 1 xl79), (.int .i64 xi80), (.sl 1 xl81)]) (fun yl272 yi273 ys274 yi275 yi276 yl277 yl278 yl279 yl280 yi281 ys282 yi283 yi284 yl285 yl286 yl287 yl288 yi289 yl290 yl291 yl292 yl293 yi294 yl295 => K .normal (P59_0x.inst [(.sl 1 yl272), (.int .i64 yi273), (.str ys274), (.int .i64 yi275), (.int .i64 yi276), (.sl 3 yl277), (.sl 3 yl278), (.sl 3 yl279), (.sl 7 yl280), (.int .i64 yi281), (.str ys282), (.int .i64 yi283), (.int .i64 yi284), (.sl 3 yl285), (.sl 3 yl286), (.sl 3 yl287), (.sl 7 yl288), (.int .i64 yi289), (.sl 1 yl290), (.sl 1 yl291), (.sl 1 yl292), (.sl 1 yl293), (.int .i64 yi294), (.sl 1 yl295)])) xi57 xl58 xi59 xs60 xi61 xi62 xl63 xl64 xl65 xl66 xi67 xs68 xi69 xi70 xl71 xl72 xl73 xl74 xi75 xl76 xl77 xl78 xl79 xi80 xl81 := by kernel_rfl
noncomputable def D59_2 : LoopD := { id := 2, body := loopAt 2 (bodyOf Try.f59), head := P59_2h, out := P59_2x, ret := default }
theorem l59_2_is {R : Type} (G : ORC R) (k : Nat) (X : List V → Option R) (K : Ex → St → Option R) (xi152 : Int) (xl153 : List V) (xi154 : Int) (xs155 : ByteArray) (xi156 xi157 : Int) (xl158 xl159 : List V) (xl160 xl161 : List V) (xi162 : Int) (xs163 : ByteArray) (xi164 xi165 : Int) (xl166 xl167 : List V) (xl168 xl169 : List V) (xi170 : Int) (xl171 xl172 : List V) (xl173 xl174 : List V) (xi175 : Int) (xl176 : List V) :
    roundOf (TAB.env 59) G (L59 G k) D59_2 X K [(.int .i64 xi152), (.sl 1 xl153), (.int .i64 xi154), (.str xs155), (.int .i64 xi156), (.int .i64 xi157), (.sl 3 xl158), (.sl 3 xl159), (.sl 3 xl160), (.sl 7 xl161), (.int .i64 xi162), (.str xs163), (.int .i64 xi164), (.int .i64 xi165), (.sl 3 xl166), (.sl 3 xl167), (.sl 3 xl168), (.sl 7 xl169), (.int .i64 xi170), (.sl 1 xl171), (.sl 1 xl172), (.sl 1 xl173), (.sl 1 xl174), (.int .i64 xi175), (.sl 1 xl176)] = b59_2 G k (fun xi152 xl153 xi154 xs155 xi156 xi157 xl158 xl159 xl160 xl161 xi162 xs163 xi164 xi165 xl166 xl167 xl168 xl169 xi170 xl171 xl172 xl173 xl174 xi175 xl176 => X [(.int .i64 xi152), (.sl 1 xl153), (.int .i64 xi154), (.str xs155), (.int .i64 xi156), (.int .i64 xi157), (.sl 3 xl158), (.sl 3 xl159), (.sl 3 xl160), (.sl 7 xl161), (.int .i64 xi162), (.str xs163), (.int .i64 xi164), (.int .i64 xi165), (.sl 3 xl166), (.sl 3 xl167), (.sl 3 xl168), (.sl 7 xl169), (.int .i64 xi170), (.sl 1 xl171), (.sl 1 xl172), (.sl 1 xl173), (.sl 1 xl174), (.int .i64 xi175), (.sl 1 xl176)]) (fun yl296 yi297 ys298 yi299 yi300 yl301 yl302 yl303 yl304 yi305 ys306 yi307 yi308 yl309 yl310 yl311 yl312 yi313 yl314 yl315 yl316 yl317 yi318 yl319 => K .normal (P59_2x.inst [(.sl 1 yl296), (.int .i64 yi297), (.str ys298), (.int .i64 yi299), (.int .i64 yi300), (.sl 3 yl301), (.sl 3 yl302), (.sl 3 yl303), (.sl 7 yl304), (.int .i64 yi305), (.str ys306), (.int .i64 yi307), (.int .i64 yi308), (.sl 3 yl309), (.sl 3 yl310), (.sl 3 yl311), (.sl 7 yl312), (.int .i64 yi313), (.sl 1 yl314), (.sl 1 yl315), (.sl 1 yl316), (.sl 1 yl317), (.int .i64 yi318), (.sl 1 yl319)])) xi152 xl153 xi154 xs155 xi156 xi157 xl158 xl159 xl160 xl161 xi162 xs163 xi164 xi165 xl166 xl167 xl168 xl169 xi170 xl171 xl172 xl173 xl174 xi175 xl176 := by kernel_rfl
noncomputable def D59_4 : LoopD := { id := 4, body := loopAt 4 (bodyOf Try.f59), head := P59_4h, out := P59_4x, ret := default }
theorem l59_4_is {R : Type} (G : ORC R) (k : Nat) (X : List V → Option R) (K : Ex → St → Option R) (xi205 : Int) (xl206 : List V) (xi207 : Int) (xs208 : ByteArray) (xi209 xi210 : Int) (xl211 xl212 : List V) (xl213 xl214 : List V) (xi215 : Int) (xs216 : ByteArray) (xi217 xi218 : Int) (xl219 xl220 : List V) (xl221 xl222 : List V) (xi223 : Int) (xl224 xl225 : List V) (xl226 xl227 : List V) (xi228 : Int) (xl229 : List V) :
    roundOf (TAB.env 59) G (L59 G k) D59_4 X K [(.int .i64 xi205), (.sl 1 xl206), (.int .i64 xi207), (.str xs208), (.int .i64 xi209), (.int .i64 xi210), (.sl 3 xl211), (.sl 3 xl212), (.sl 3 xl213), (.sl 7 xl214), (.int .i64 xi215), (.str xs216), (.int .i64 xi217), (.int .i64 xi218), (.sl 3 xl219), (.sl 3 xl220), (.sl 3 xl221), (.sl 7 xl222), (.int .i64 xi223), (.sl 1 xl224), (.sl 1 xl225), (.sl 1 xl226), (.sl 1 xl227), (.int .i64 xi228), (.sl 1 xl229)] = b59_4 G k (fun xi205 xl206 xi207 xs208 xi209 xi210 xl211 xl212 xl213 xl214 xi215 xs216 xi217 xi218 xl219 xl220 xl221 xl222 xi223 xl224 xl225 xl226 xl227 xi228 xl229 => X [(.int .i64 xi205), (.sl 1 xl206), (.int .i64 xi207), (.str xs208), (.int .i64 xi209), (.int .i64 xi210), (.sl 3 xl211), (.sl 3 xl212), (.sl 3 xl213), (.sl 7 xl214), (.int .i64 xi215), (.str xs216), (.int .i64 xi217), (.int .i64 xi218), (.sl 3 xl219), (.sl 3 xl220), (.sl 3 xl221), (.sl 7 xl222), (.int .i64 xi223), (.sl 1 xl224), (.sl 1 xl225), (.sl 1 xl226), (.sl 1 xl227), (.int .i64 xi228), (.sl 1 xl229)]) (fun yl320 yi321 ys322 yi323 yi324 yl325 yl326 yl327 yl328 yi329 ys330 yi331 yi332 yl333 yl334 yl335 yl336 yi337 => K .normal (P59_4x.inst [(.sl 1 yl320), (.int .i64 yi321), (.str ys322), (.int .i64 yi323), (.int .i64 yi324), (.sl 3 yl325), (.sl 3 yl326), (.sl 3 yl327), (.sl 7 yl328), (.int .i64 yi329), (.str ys330), (.int .i64 yi331), (.int .i64 yi332), (.sl 3 yl333), (.sl 3 yl334), (.sl 3 yl335), (.sl 7 yl336), (.int .i64 yi337)])) xi205 xl206 xi207 xs208 xi209 xi210 xl211 xl212 xl213 xl214 xi215 xs216 xi217 xi218 xl219 xl220 xl221 xl222 xi223 xl224 xl225 xl226 xl227 xi228 xl229 := by kernel_rfl
theorem f59_is {R : Type} (G : ORC R) (k : Nat) (K : List V → Option R) (as1 : ByteArray) (ai2 : Int) (bl3 : List V) (bi4 : Int) :
    callF (TAB.env 59) G (L59 G k) Try.f59 S59 [(.str as1), (.int .i64 ai2), (.sl 1 bl3), (.int .i64 bi4)] K = f59 G k as1 ai2 bl3 bi4 K := by kernel_rfl
theorem li59_0 {R : Type} (G : ORC R) (k : Nat) : LoopIs (TAB.env 59) G (L59 G k) 0 (loopAt 0 (bodyOf Try.f59)) :=
  ⟨D59_0, fun j vs K => rd59_0 G k K j vs, k, rfl, rfl, by kernel_rfl, by kernel_rfl, by kernel_rfl, (fun vs K => by unfold rd59_0; dsimp only; split <;> rfl),
    (fun j vs K r h => by
      unfold rd59_0 at h
      dsimp only at h
      split at h
      · rw [l59_0_is]; exact h
      · cases h), (fun S K r h => h)⟩
theorem li59_2 {R : Type} (G : ORC R) (k : Nat) : LoopIs (TAB.env 59) G (L59 G k) 2 (loopAt 2 (bodyOf Try.f59)) :=
  ⟨D59_2, fun j vs K => rd59_2 G k K j vs, k, rfl, rfl, by kernel_rfl, by kernel_rfl, by kernel_rfl, (fun vs K => by unfold rd59_2; dsimp only; split <;> rfl),
    (fun j vs K r h => by
      unfold rd59_2 at h
      dsimp only at h
      split at h
      · rw [l59_2_is]; exact h
      · cases h), (fun S K r h => h)⟩
theorem li59_4 {R : Type} (G : ORC R) (k : Nat) : LoopIs (TAB.env 59) G (L59 G k) 4 (loopAt 4 (bodyOf Try.f59)) :=
  ⟨D59_4, fun j vs K => rd59_4 G k K j vs, k, rfl, rfl, by kernel_rfl, by kernel_rfl, by kernel_rfl, (fun vs K => by unfold rd59_4; dsimp only; split <;> rfl),
    (fun j vs K r h => by
      unfold rd59_4 at h
      dsimp only at h
      split at h
      · rw [l59_4_is]; exact h
      · cases h), (fun S K r h => h)⟩
theorem lo59 : loopsOf (bodyOf Try.f59) = [(0, loopAt 0 (bodyOf Try.f59)), (2, loopAt 2 (bodyOf Try.f59)), (4, loopAt 4 (bodyOf Try.f59))] := by kernel_rfl
theorem la59 {R : Type} (G : ORC R) (k : Nat) : LoopsAre (TAB.env 59) G (L59 G k) (bodyOf Try.f59) :=
  loopsAre_of (by rw [lo59]; intro p hp; simp only [List.mem_cons, List.not_mem_nil, or_false] at hp; rcases hp with rfl | rfl | rfl <;> first | exact li59_0 G k | exact li59_2 G k | exact li59_4 G k)
def g59 {R : Type} (G : ORC R) (k : Nat) (args : List V) (K : List V → Option R) : Option R := match args with
  | [(.str as1), (.int .i64 ai2), (.sl 1 bl3), (.int .i64 bi4)] => f59 G k as1 ai2 bl3 bi4 K
  | _ => none
theorem s59 {R : Type} {G : ORC R} {k : Nat} (hG : Sound Try.prog TAB G) (args : List V) (K : List V → Option R) (r : R) (h : g59 G k args K = some r) : ∃ o, CallOK Try.prog TAB.env 59 args o ∧ K o = some r := by
  unfold g59 at h
  split at h
  · rw [← f59_is] at h
    exact callF_sound (f := 59) TAB_chk MO hG Try.func59 (sg := S59) (by kernel_rfl) (by kernel_rfl) (la59 G k) h
  · cases h
end Go.Proofs.Ytblabbcmokldiaa.Vm
open Go Go.VM
set_option linter.unusedVariables false
set_option maxRecDepth 100000
set_option maxHeartbeats 8000000
namespace Go.Proofs.Ytblabbcmokldiaa.Vm
section
variable {R : Type} {G : ORC R} {k : Nat}
def ChartOK (G : ORC R) : Prop := ∀ (nm : ByteArray) (np : Int) (L : List V) (i : Int) (K : List V → Option R), StrS nm → 0 ≤ np → np ≤ 100 → RowS L i →
  W (fun o => ∃ c j, o = [c, .int .i64 j] ∧ ChartS c ∧ RowS L j) K (G 59 [.str nm, .int .i64 np, .sl 1 L, .int .i64 i] K)
variable {Q : List V → Prop} {K : List V → Option R} {L a p c q1 q2 q3 q4 vars ports timers : List V} {s1 nm : ByteArray} {z1 z2 z3 z4 st fu : Int}
theorem chart_loop0 (hS : StOK 2 G) {Ko : List V → Int → ByteArray → Int → Int → List V → List V → List V → List V → Int → ByteArray → Int → Int → List V → List V → List V → List V → Int → List V → List V → List V → List V → Int → List V → Option R}
    {s : List V} {T : Int} (hT : T ≤ 20)
    (hKo : ∀ states j left all, (nmVL 3 states = all ∧ NmI all) → states.length ≤ 2 → states ≠ [] → (∀ v ∈ states, StateS 0 3 v ∧ kindV v ≤ 2) → 0 ≤ left → left + (List.length all : Int) = T → NmsS all → RowS L j → W Q K (Ko L j s1 z1 z2 q1 q2 q3 q4 z3 nm st fu vars ports timers states z4 a p c s left all)) :
    ∀ (j : Nat) (n i left : Int) (states all : List V), (nmVL 3 states = all ∧ NmI all) → n < j → 0 ≤ n → (states.length : Int) + n ≤ 2 → (states = [] → 1 ≤ left ∧ 0 < n) → 0 ≤ left → left + (List.length all : Int) = T → NmsS all → RowS L i → (∀ v ∈ states, StateS 0 3 v ∧ kindV v ≤ 2) →
      W Q K (l59_0g G k Ko j n L i s1 z1 z2 q1 q2 q3 q4 z3 nm st fu vars ports timers states z4 a p c s left all)
  | 0, n, i, left, states, all, a0, a1, a2, a3, a4, a5, a6, a7, a8, a9 => by omega
  | j + 1, n, i, left, states, all, a0, a1, a2, a3, a4, a5, a6, a7, a8, a9 => by
    show W Q K (b59_0 G k (l59_0g G k Ko j) Ko n L i s1 z1 z2 q1 q2 q3 q4 z3 nm st fu vars ports timers states z4 a p c s left all)
    unfold b59_0
    by_cases hn : n > 0
    · refine W_yes hn ?_
      by_cases hl : left > 0
      · refine W_yes hl ?_
        refine W_call (hS false a p c s all L _ left i _ (by rfl) (by omega) (by omega) a7 a0.2 a8) ?_
        rintro _ ⟨x, left', all', j', rfl, b1, b2, b3, b4, b5, b6, b7, b8, b8'⟩
        have b1' := b1
        have b9 : nmVL 3 (states ++ [x]) = all' ∧ NmI all' := ⟨by rw [nmVL_app, a0.1, b8]; simp [nmVL], b8'⟩
        obtain ⟨_, _, _, _, _, _, rfl, _⟩ := b1
        repeat (with_reducible (first | (refine W_uI ?_) | (refine W_uS ?_) | (refine W_uL ?_) | (refine W_uA ?_) | (refine W_uB ?_) | (refine W_aI ?_) | (refine W_aL ?_) | (refine W_ca3 ?_) | (refine W_ce3 ?_) | (refine W_ca4 ?_) | (refine W_ce4 ?_) | (refine W_ca5 ?_) | (refine W_ce5 ?_) | (refine W_ca6 ?_) | (refine W_ce6 ?_) | (refine W_ca7 ?_) | (refine W_ce7 ?_) | (refine W_ca8 ?_) | (refine W_ce8 ?_) | (refine W_unCons ?_) | (refine W_unNil ?_) | (refine W_asInt ?_) | (refine W_asStr ?_) | (refine W_asSl ?_) | (refine W_asAgg ?_) | (refine W_kd ?_) | (refine W_z ?_)))
        refine W_yes (by omega) ?_
        have e1 : IntKind.i64.wrap (n - 1) = n - 1 := wrap_id (by omega)
        rw [e1]
        exact chart_loop0 hS hT hKo j _ _ _ _ _ b9 (by omega) (by omega) (by simp; omega) (by simp) b3 (by omega) b6 b7 (mem_snoc a9 ⟨b1', b2⟩)
      · refine W_no hl ?_
        have hacc : states ≠ [] := fun h => by have := (a4 h).1; omega
        have hlen : ((states.length : Nat) : Int) ≠ 0 := fun h => hacc (List.eq_nil_of_length_eq_zero (by omega))
        refine W_eqN hlen ?_
        exact hKo states i left all a0 (by omega) hacc a9 a5 a6 a7 a8
    · exact W_no hn (hKo states i left all a0 (by omega) (fun h => by have := (a4 h).2; omega) a9 a5 a6 a7 a8)
theorem chart_loop2 {Ko : List V → Int → ByteArray → Int → Int → List V → List V → List V → List V → Int → ByteArray → Int → Int → List V → List V → List V → List V → Int → List V → List V → List V → List V → Int → List V → Option R}
    {states all : List V} {at_ left : Int} (hall : NmsS all) (hlen : all.length ≤ 20)
    (hKo : ∀ s, StrsS 20 s → W Q K (Ko L at_ s1 z1 z2 q1 q2 q3 q4 z3 nm st fu vars ports timers states z4 a p c s left all)) :
    ∀ (j : Nat) (i : Int) (s : List V), (all.length : Int) - i < j → 0 ≤ i → i ≤ all.length → StrsS i.toNat s →
      W Q K (l59_2g G k Ko j i L at_ s1 z1 z2 q1 q2 q3 q4 z3 nm st fu vars ports timers states z4 a p c s left all)
  | 0, i, s, a1, a2, a3, a4 => by omega
  | j + 1, i, s, a1, a2, a3, a4 => by
    show W Q K (b59_2 G k (l59_2g G k Ko j) Ko i L at_ s1 z1 z2 q1 q2 q3 q4 z3 nm st fu vars ports timers states z4 a p c s left all)
    unfold b59_2
    have hs := a4.1
    refine W_dec (fun h => ?_) (fun h => hKo s ⟨by omega, a4.2⟩)
    have e1 : IntKind.i64.wrap (i + 1) = i + 1 := wrap_id (by omega)
    rw [e1]
    refine W_and (W_yes a2 (W_yes h ?_))
    refine W_nth (by omega) (fun v hv hm => ?_)
    obtain ⟨t, rfl, t1, t2⟩ := hall v hm
    refine W_asStr (W_yes (by omega) ?_)
    refine W_beqI (fun _ => ?_) (fun _ => ?_)
    · refine W_and (W_yes a2 (W_yes h ?_))
      refine W_nth (by omega) (fun w hw _ => ?_)
      rw [hv] at hw; cases hw
      refine W_asStr (W_yes (by omega) ?_)
      exact chart_loop2 hall hlen hKo j (i + 1) _ (by omega) (by omega) (by omega) (by rw [show (i + 1).toNat = i.toNat + 1 by omega]; exact strs_snoc a4 t1)
    · exact chart_loop2 hall hlen hKo j (i + 1) _ (by omega) (by omega) (by omega) ⟨by omega, a4.2⟩
theorem chart_loop4 (hF : FillOK 3 G) {Ko : List V → Int → ByteArray → Int → Int → List V → List V → List V → List V → Int → ByteArray → Int → Int → List V → List V → List V → List V → Int → Option R}
    {s all : List V} {left : Int} (ha : StrsS 100 a) (hp : StrsS 100 p) (hc : StrsS 100 c) (hs : StrsS 100 s) (hall : NmsS all) (hlen : all.length ≤ 20) {m : Nat} {M : List V}
    (hKo : ∀ states j, states.length = m → nmVL 3 states = M → (∀ v ∈ states, StateS 2 3 v ∧ kindV v ≤ 2) → RowS L j → W Q K (Ko L j s1 z1 z2 q1 q2 q3 q4 z3 nm st fu vars ports timers states z4)) :
    ∀ (B A : List V) (j : Nat) (i : Int), B.length < j → A.length + B.length ≤ 4 → (∀ v ∈ A, StateS 2 3 v ∧ kindV v ≤ 2) → (∀ v ∈ B, StateS 0 3 v ∧ kindV v ≤ 2) → A.length + B.length = m → nmVL 3 (A ++ B) = M → RowS L i →
      W Q K (l59_4g G k Ko j (A.length : Int) L i s1 z1 z2 q1 q2 q3 q4 z3 nm st fu vars ports timers (A ++ B) z4 a p c s left all)
  | B, A, 0, i, a1, a2, a3, a4, a5, aM, a6 => by omega
  | [], A, j + 1, i, a1, a2, a3, a4, a5, aM, a6 => by
    show W Q K (b59_4 G k (l59_4g G k Ko j) Ko (A.length : Int) L i s1 z1 z2 q1 q2 q3 q4 z3 nm st fu vars ports timers (A ++ []) z4 a p c s left all)
    unfold b59_4
    refine W_no (by simp) ?_
    rw [List.append_nil] at aM ⊢
    exact hKo A i (by simpa using a5) aM a3 a6
  | b :: B, A, j + 1, i, a1, a2, a3, a4, a5, aM, a6 => by
    show W Q K (b59_4 G k (l59_4g G k Ko j) Ko (A.length : Int) L i s1 z1 z2 q1 q2 q3 q4 z3 nm st fu vars ports timers (A ++ b :: B) z4 a p c s left all)
    unfold b59_4
    simp only [List.length_cons] at a1 a2 a5
    have hlt : (A.length : Int) < (((A ++ b :: B).length : Nat) : Int) := by simp; omega
    refine W_yes hlt (W_and (W_yes (by omega) (W_yes hlt ?_)))
    refine W_nth (by omega) (fun v hv _ => ?_)
    have hvb : v = b := by simp at hv; exact hv.symm
    subst hvb
    have hb := a4 v List.mem_cons_self
    have hbk := hb
    obtain ⟨⟨_, _, _, _, _, _, rfl, _⟩, _⟩ := hb
    refine W_asAgg ?_
    refine W_call (hF _ a p c s all L left i _ hbk.1 ha hp hc hs hall hlen a6) ?_
    rintro _ ⟨y, j', rfl, b1, b2, b3, b4⟩
    have b1' := b1
    have b5 : nmVL 3 ((A ++ [y]) ++ B) = M := by rw [← aM]; simp only [nmVL, List.flatMap_append, List.flatMap_cons, List.flatMap_nil, List.append_nil, List.append_assoc]; rw [b4]
    obtain ⟨_, _, _, _, _, _, rfl, _⟩ := b1
    repeat (with_reducible (first | (refine W_uI ?_) | (refine W_uS ?_) | (refine W_uL ?_) | (refine W_uA ?_) | (refine W_uB ?_) | (refine W_aI ?_) | (refine W_aL ?_) | (refine W_ca3 ?_) | (refine W_ce3 ?_) | (refine W_ca4 ?_) | (refine W_ce4 ?_) | (refine W_ca5 ?_) | (refine W_ce5 ?_) | (refine W_ca6 ?_) | (refine W_ce6 ?_) | (refine W_ca7 ?_) | (refine W_ce7 ?_) | (refine W_ca8 ?_) | (refine W_ce8 ?_) | (refine W_unCons ?_) | (refine W_unNil ?_) | (refine W_asInt ?_) | (refine W_asStr ?_) | (refine W_asSl ?_) | (refine W_asAgg ?_) | (refine W_kd ?_) | (refine W_z ?_)))
    rw [Int.toNat_natCast, set2]
    refine W_and (W_yes (by omega) (W_yes (by rw [List.length_set]; exact hlt) ?_))
    refine W_nth (by rw [List.length_set]; omega) (fun v _ _ => ?_)
    rw [wrap_id (n := (A.length : Int) + 1) (by omega)]
    have e := chart_loop4 hF (left := left) ha hp hc hs hall hlen hKo B (A ++ [_]) j j' (by omega) (by simp; omega) (mem_snoc a3 ⟨b1', by rw [b2]; exact hbk.2⟩) (fun t ht => a4 t (List.mem_cons_of_mem _ ht)) (by simp; omega) b5 b3
    simp only [List.append_assoc, List.singleton_append, List.length_append, List.length_cons, List.length_nil, Nat.zero_add, Int.natCast_add, Int.natCast_one] at e
    exact e
theorem sz1 (c : UInt8) : (⟨#[c]⟩ : ByteArray).size ≤ 10 := by show (1 : Nat) ≤ 10; omega
theorem chart_ok (hk : 1000 ≤ k) (hN : NextS G) (hNm : NamesS G) (hNd : NumdS G) (hPl : PlainS G) (hS : StOK 2 G) (hF : FillOK 3 G) : ChartOK (fun _ args (K : List V → Option R) => g59 G k args K) := by
  intro nm np L i K hnm h1 h2 hr
  show W _ K (f59 G k nm np L i K)
  unfold f59
  unfold NextS at hN; unfold NamesS at hNm; unfold NumdS at hNd; unfold PlainS at hPl
  refine W_call (hN _ _ _ _ (by omega) (by omega) hr) ?_
  rintro _ ⟨x1, i1, rfl, x11, x12, r1⟩
  refine W_uI (W_uI (W_unNil ?_))
  refine W_call (hN _ _ _ _ (by omega) (by omega) r1) ?_
  rintro _ ⟨x2, i2, rfl, x21, x22, r2⟩
  refine W_uI (W_uI (W_unNil ?_))
  refine W_call (hNm _ _ _ (sz1 _) x21 (by omega)) ?_
  rintro _ ⟨l1, rfl, hl1⟩
  refine W_uL (W_unNil ?_)
  refine W_call (hNm _ _ _ (sz1 _) h1 h2) ?_
  rintro _ ⟨l2, rfl, hl2⟩
  refine W_uL (W_unNil ?_)
  refine W_call (hN _ _ _ _ (by omega) (by omega) r2) ?_
  rintro _ ⟨x3, i3, rfl, x31, x32, r3⟩
  refine W_uI (W_uI (W_unNil ?_))
  refine W_call (hNm _ _ _ (sz1 _) x31 (by omega)) ?_
  rintro _ ⟨l3, rfl, hl3⟩
  refine W_uL (W_unNil ?_)
  refine W_call (hN _ _ _ _ (by omega) (by omega) r3) ?_
  rintro _ ⟨x4, i4, rfl, x41, x42, r4⟩
  refine W_uI (W_uI (W_unNil ?_))
  refine W_call (hN _ _ _ _ (by omega) (by omega) r4) ?_
  rintro _ ⟨x5, i5, rfl, x51, x52, r5⟩
  refine W_uI (W_uI (W_unNil ?_))
  refine W_and (W_yes (by omega) (W_yes (by omega) ?_))
  refine W_nth (by simp; omega) (fun v _ hv => ?_)
  have hv2 : ∃ fu, v = .int .i64 fu ∧ 4 ≤ fu ∧ fu ≤ 200 := by
    simp only [List.mem_cons, List.not_mem_nil, or_false] at hv
    rcases hv with rfl | rfl | rfl | rfl <;> exact ⟨_, rfl, by omega, by omega⟩
  obtain ⟨fu, rfl, fu1, fu2⟩ := hv2
  refine W_aI ?_
  refine W_call (hNd _ _ _ _ hl1 r5) ?_
  rintro _ ⟨v1, i6, rfl, hv1, r6⟩
  refine W_uL (W_uI (W_unNil ?_))
  refine W_call (hPl _ _ hl2) ?_
  rintro _ ⟨v2, rfl, hv2⟩
  refine W_uL (W_unNil ?_)
  refine W_call (hPl _ _ hl3) ?_
  rintro _ ⟨v3, rfl, hv3⟩
  refine W_uL (W_unNil ?_)
  refine W_call (hN _ _ _ _ (by omega) (by omega) r6) ?_
  rintro _ ⟨x7, i7, rfl, x71, x72, r7⟩
  refine W_uI (W_uI (W_unNil ?_))
  have e1 : IntKind.i64.wrap (1 + x7) = 1 + x7 := wrap_id (by omega)
  have e2 : IntKind.i64.wrap (2 + x1) = 2 + x1 := wrap_id (by omega)
  have e3 : IntKind.i64.wrap (2 + x4) = 2 + x4 := wrap_id (by omega)
  rw [e1, e2, e3]
  unfold l59_0
  refine chart_loop0 (T := 2 + x1) hS (by omega) ?_ k _ _ _ _ _ ⟨rfl, fun i v h => by simp at h⟩ (by omega) (by omega) (by simp; omega) (fun _ => ⟨by omega, by omega⟩) (by omega) (by simp) (by intro v hv; simp at hv) r7 (by simp)
  intro states j left all c0 c1 c2 c3 c4 c5 c6 c7
  unfold l59_2
  refine chart_loop2 c6 (by omega) ?_ k 0 [] (by omega) (by omega) (by omega) ⟨by simp, by simp⟩
  intro s hs
  unfold l59_4
  refine chart_loop4 (A := []) (m := states.length) (M := nmVL 3 states) hF hl1 hl2 hl3 ⟨by have := hs.1; omega, hs.2⟩ c6 (by omega) ?_ states k j (by omega) (by simp; omega) (by simp) c3 (by simp) rfl c7
  intro states' j' d1 dM d2 d3
  exact W_ret ⟨_, _, rfl, ⟨nm, _, fu, v1, v2, v3, states', rfl, hnm, by omega, by omega, fu1, fu2, hv1, hv2, hv3, by omega, fun h => c2 (List.eq_nil_of_length_eq_zero (by rw [← d1, h]; rfl)), d2, by have := nmVL_len (d := 3) (l := states'); rw [dM, c0.1] at this; omega, by rw [dM, c0.1]; exact c0.2⟩, d3⟩
end
end Go.Proofs.Ytblabbcmokldiaa.Vm
open Go Go.VM
set_option linter.unusedVariables false
set_option maxRecDepth 100000
set_option maxHeartbeats 4000000
namespace Go.Proofs.Ytblabbcmokldiaa.Vm
/-! ### cotillion/cotillionref13.kind: function 87 -/
def L87 {R : Type} (_ : ORC R) (_ : Nat) : Nat → St → (Ex → St → Option R) → Option R := fun _ _ _ => none
def f87 {R : Type} (G : ORC R) (k : Nat) (ai1 : Int) (as2 : ByteArray) (al3 al4 : List V) (al5 al6 : List V) (ai7 : Int) (K : List V → Option R) : Option R :=
  (bif (ai1 == 3) then (K [(.int .i64 4)]) else (bif (ai1 == 4) then (K [(.int .i64 5)]) else (bif (ai1 == 2) then (K [(.int .i64 3)]) else (bif (((List.length al6 : Nat) : Int) == 0) then (K [(.int .i64 1)]) else (K [(.int .i64 2)])))))
theorem f87_is {R : Type} (G : ORC R) (k : Nat) (K : List V → Option R) (ai1 : Int) (as2 : ByteArray) (al3 al4 : List V) (al5 al6 : List V) (ai7 : Int) :
    callF (TAB.env 87) G (L87 G k) Try.f87 S87 [(.agg [(.int .i64 ai1), (.str as2), (.sl 8 al3), (.sl 8 al4), (.sl 5 al5), (.sl 7 al6), (.int .i64 ai7)])] K = f87 G k ai1 as2 al3 al4 al5 al6 ai7 K := by kernel_rfl
theorem lo87 : loopsOf (bodyOf Try.f87) = [] := by kernel_rfl
theorem la87 {R : Type} (G : ORC R) (k : Nat) : LoopsAre (TAB.env 87) G (L87 G k) (bodyOf Try.f87) :=
  loopsAre_of (by rw [lo87]; intro p hp; cases hp)
def g87 {R : Type} (G : ORC R) (k : Nat) (args : List V) (K : List V → Option R) : Option R := match args with
  | [(.agg [(.int .i64 ai1), (.str as2), (.sl 8 al3), (.sl 8 al4), (.sl 5 al5), (.sl 7 al6), (.int .i64 ai7)])] => f87 G k ai1 as2 al3 al4 al5 al6 ai7 K
  | _ => none
theorem s87 {R : Type} {G : ORC R} {k : Nat} (hG : Sound Try.prog TAB G) (args : List V) (K : List V → Option R) (r : R) (h : g87 G k args K = some r) : ∃ o, CallOK Try.prog TAB.env 87 args o ∧ K o = some r := by
  unfold g87 at h
  split at h
  · rw [← f87_is] at h
    exact callF_sound (f := 87) TAB_chk MO hG Try.func87 (sg := S87) (by kernel_rfl) (by kernel_rfl) (la87 G k) h
  · cases h
end Go.Proofs.Ytblabbcmokldiaa.Vm
open Go Go.VM
set_option linter.unusedVariables false
set_option maxRecDepth 100000
set_option maxHeartbeats 4000000
namespace Go.Proofs.Ytblabbcmokldiaa.Vm
/-! ### cotillion/cotillionref13.IsState: function 66 -/
def L66 {R : Type} (_ : ORC R) (_ : Nat) : Nat → St → (Ex → St → Option R) → Option R := fun _ _ _ => none
def f66 {R : Type} (G : ORC R) (k : Nat) (ai1 ai2 : Int) (ai3 ai4 : Int) (ai5 ai6 : Int) (as7 : ByteArray) (K : List V → Option R) : Option R :=
  (K [(.bool (decide (ai1 ≤ 3)))])
theorem f66_is {R : Type} (G : ORC R) (k : Nat) (K : List V → Option R) (ai1 ai2 : Int) (ai3 ai4 : Int) (ai5 ai6 : Int) (as7 : ByteArray) :
    callF (TAB.env 66) G (L66 G k) Try.f66 S66 [(.agg [(.int .i64 ai1), (.int .i64 ai2), (.int .i64 ai3), (.int .i64 ai4), (.int .i64 ai5), (.int .i64 ai6), (.str as7)])] K = f66 G k ai1 ai2 ai3 ai4 ai5 ai6 as7 K := by kernel_rfl
theorem lo66 : loopsOf (bodyOf Try.f66) = [] := by kernel_rfl
theorem la66 {R : Type} (G : ORC R) (k : Nat) : LoopsAre (TAB.env 66) G (L66 G k) (bodyOf Try.f66) :=
  loopsAre_of (by rw [lo66]; intro p hp; cases hp)
def g66 {R : Type} (G : ORC R) (k : Nat) (args : List V) (K : List V → Option R) : Option R := match args with
  | [(.agg [(.int .i64 ai1), (.int .i64 ai2), (.int .i64 ai3), (.int .i64 ai4), (.int .i64 ai5), (.int .i64 ai6), (.str as7)])] => f66 G k ai1 ai2 ai3 ai4 ai5 ai6 as7 K
  | _ => none
theorem s66 {R : Type} {G : ORC R} {k : Nat} (hG : Sound Try.prog TAB G) (args : List V) (K : List V → Option R) (r : R) (h : g66 G k args K = some r) : ∃ o, CallOK Try.prog TAB.env 66 args o ∧ K o = some r := by
  unfold g66 at h
  split at h
  · rw [← f66_is] at h
    exact callF_sound (f := 66) TAB_chk MO hG Try.func66 (sg := S66) (by kernel_rfl) (by kernel_rfl) (la66 G k) h
  · cases h
end Go.Proofs.Ytblabbcmokldiaa.Vm
open Go Go.VM
set_option linter.unusedVariables false
set_option maxRecDepth 100000
set_option maxHeartbeats 4000000
namespace Go.Proofs.Ytblabbcmokldiaa.Vm
/-! ### cotillion/cotillionref13.put: function 58 -/
def P58_0h : Pat := { tmps := unds [.var (.sl 7) (.own true), .var (.sl 7) .ro, .var (.int .i64) .pr, .undef, .undef, .undef, .undef, .var (.int .i64) .pr] 66 [], boxes := nons [] 74 [] }
def P58_0x : Pat := { tmps := unds [.var (.sl 7) (.own true)] 73 [], boxes := nons [] 74 [] }
def b58_0 {R : Type} (G : ORC R) (k : Nat) (X : List V → List V → Int → Int → Option R) (Ko : List V → Option R) (xl4 xl5 : List V) (xi6 xi7 : Int) : Option R :=
  (bif (decide (xi7 < ((List.length xl5 : Nat) : Int))) then (bif ((decide (0 ≤ xi7)) && (decide (xi7 < ((List.length xl5 : Nat) : Int)))) then (nthK xl5 (Int.toNat xi7) fun e8 => (V.asAgg e8 fun l9 => (G 87 [(.agg l9)] fun o10 => (uI .i64 o10 fun n12 r11 => (unNil r11 (bif ((decide (0 ≤ xi7)) && (decide (xi7 < ((List.length xl5 : Nat) : Int)))) then (nthK xl5 (Int.toNat xi7) fun e13 => (ca7 e13 fun c14 c15 c16 c17 c18 c19 c20 => (V.asStr c15 fun s21 => (bif (decide (List.length xl4 + 1 ≤ 1073741824)) then (bif ((decide (0 ≤ xi6)) && (decide (xi6 < ((List.length (xl4 ++ [(.agg [(.int .i64 n12), (.int .i64 xi6), (.int .i64 0), (.int .i64 (-1)), (.int .i64 (-1)), (.int .i64 (-1)), (.str s21)])]) : Nat) : Int)))) then (nthK (xl4 ++ [(.agg [(.int .i64 n12), (.int .i64 xi6), (.int .i64 0), (.int .i64 (-1)), (.int .i64 (-1)), (.int .i64 (-1)), (.str s21)])]) (Int.toNat xi6) fun e22 => (ca7 e22 fun c23 c24 c25 c26 c27 c28 c29 => (aI .i64 c26 fun n30 => (bif (decide (n30 < 0)) then (bif ((decide (0 ≤ xi6)) && (decide (xi6 < ((List.length (xl4 ++ [(.agg [(.int .i64 n12), (.int .i64 xi6), (.int .i64 0), (.int .i64 (-1)), (.int .i64 (-1)), (.int .i64 (-1)), (.str s21)])]) : Nat) : Int)))) then (nthK (xl4 ++ [(.agg [(.int .i64 n12), (.int .i64 xi6), (.int .i64 0), (.int .i64 (-1)), (.int .i64 (-1)), (.int .i64 (-1)), (.str s21)])]) (Int.toNat xi6) fun e31 => (ca7 e31 fun c32 c33 c34 c35 c36 c37 c38 => (aI .i64 c32 fun n39 => (bif (n39 == 2) then (bif ((decide (0 ≤ ((List.length xl4 : Nat) : Int))) && (decide (((List.length xl4 : Nat) : Int) < ((List.length (xl4 ++ [(.agg [(.int .i64 n12), (.int .i64 xi6), (.int .i64 0), (.int .i64 (-1)), (.int .i64 (-1)), (.int .i64 (-1)), (.str s21)])]) : Nat) : Int)))) then (nthK (xl4 ++ [(.agg [(.int .i64 n12), (.int .i64 xi6), (.int .i64 0), (.int .i64 (-1)), (.int .i64 (-1)), (.int .i64 (-1)), (.str s21)])]) (Int.toNat ((List.length xl4 : Nat) : Int)) fun e40 => (ca7 e40 fun c41 c42 c43 c44 c45 c46 c47 => (aI .i64 c41 fun n48 => (aI .i64 c42 fun n49 => (aI .i64 c43 fun n50 => (aI .i64 c44 fun n51 => (aI .i64 c45 fun n52 => (aI .i64 c46 fun n53 => (V.asStr c47 fun s54 => (G 66 [(.agg [(.int .i64 n48), (.int .i64 n49), (.int .i64 n50), (.int .i64 n51), (.int .i64 n52), (.int .i64 n53), (.str s54)])] fun o55 => (uB o55 fun b57 r56 => (unNil r56 (bif b57 then (bif ((decide (0 ≤ xi6)) && (decide (xi6 < ((List.length (xl4 ++ [(.agg [(.int .i64 n12), (.int .i64 xi6), (.int .i64 0), (.int .i64 (-1)), (.int .i64 (-1)), (.int .i64 (-1)), (.str s21)])]) : Nat) : Int)))) then (nthK (xl4 ++ [(.agg [(.int .i64 n12), (.int .i64 xi6), (.int .i64 0), (.int .i64 (-1)), (.int .i64 (-1)), (.int .i64 (-1)), (.str s21)])]) (Int.toNat xi6) fun e58 => (ca7 e58 fun c59 c60 c61 c62 c63 c64 c65 => (bif ((decide (0 ≤ xi7)) && (decide (xi7 < ((List.length xl5 : Nat) : Int)))) then (nthK xl5 (Int.toNat xi7) fun e66 => (ca7 e66 fun c67 c68 c69 c70 c71 c72 c73 => (V.asSl c72 fun z74 l75 => (G 58 [(.sl 7 (List.set (xl4 ++ [(.agg [(.int .i64 n12), (.int .i64 xi6), (.int .i64 0), (.int .i64 (-1)), (.int .i64 (-1)), (.int .i64 (-1)), (.str s21)])]) (Int.toNat xi6) (.agg [c59, c60, c61, (.int .i64 ((List.length xl4 : Nat) : Int)), c63, c64, c65]))), (.sl z74 l75), (.int .i64 ((List.length xl4 : Nat) : Int))] fun o76 => (uL 7 o76 fun l78 r77 => (unNil r77 (bif ((decide (0 ≤ ((List.length xl4 : Nat) : Int))) && (decide (((List.length xl4 : Nat) : Int) < ((List.length l78 : Nat) : Int)))) then (nthK l78 (Int.toNat ((List.length xl4 : Nat) : Int)) fun e79 => (ca7 e79 fun c80 c81 c82 c83 c84 c85 c86 => (X (List.set l78 (Int.toNat ((List.length xl4 : Nat) : Int)) (.agg [c80, c81, (.int .i64 (IntKind.i64.wrap (((List.length l78 : Nat) : Int) - 1))), c83, c84, c85, c86])) xl5 xi6 (IntKind.i64.wrap (xi7 + 1))))) else none))))))) else none))) else none) else (bif ((decide (0 ≤ xi7)) && (decide (xi7 < ((List.length xl5 : Nat) : Int)))) then (nthK xl5 (Int.toNat xi7) fun e87 => (ca7 e87 fun c88 c89 c90 c91 c92 c93 c94 => (V.asSl c93 fun z95 l96 => (G 58 [(.sl 7 (xl4 ++ [(.agg [(.int .i64 n12), (.int .i64 xi6), (.int .i64 0), (.int .i64 (-1)), (.int .i64 (-1)), (.int .i64 (-1)), (.str s21)])])), (.sl z95 l96), (.int .i64 ((List.length xl4 : Nat) : Int))] fun o97 => (uL 7 o97 fun l99 r98 => (unNil r98 (bif ((decide (0 ≤ ((List.length xl4 : Nat) : Int))) && (decide (((List.length xl4 : Nat) : Int) < ((List.length l99 : Nat) : Int)))) then (nthK l99 (Int.toNat ((List.length xl4 : Nat) : Int)) fun e100 => (ca7 e100 fun c101 c102 c103 c104 c105 c106 c107 => (X (List.set l99 (Int.toNat ((List.length xl4 : Nat) : Int)) (.agg [c101, c102, (.int .i64 (IntKind.i64.wrap (((List.length l99 : Nat) : Int) - 1))), c104, c105, c106, c107])) xl5 xi6 (IntKind.i64.wrap (xi7 + 1))))) else none))))))) else none)))))))))))))) else none) else (bif ((decide (0 ≤ xi7)) && (decide (xi7 < ((List.length xl5 : Nat) : Int)))) then (nthK xl5 (Int.toNat xi7) fun e108 => (ca7 e108 fun c109 c110 c111 c112 c113 c114 c115 => (V.asSl c114 fun z116 l117 => (G 58 [(.sl 7 (xl4 ++ [(.agg [(.int .i64 n12), (.int .i64 xi6), (.int .i64 0), (.int .i64 (-1)), (.int .i64 (-1)), (.int .i64 (-1)), (.str s21)])])), (.sl z116 l117), (.int .i64 ((List.length xl4 : Nat) : Int))] fun o118 => (uL 7 o118 fun l120 r119 => (unNil r119 (bif ((decide (0 ≤ ((List.length xl4 : Nat) : Int))) && (decide (((List.length xl4 : Nat) : Int) < ((List.length l120 : Nat) : Int)))) then (nthK l120 (Int.toNat ((List.length xl4 : Nat) : Int)) fun e121 => (ca7 e121 fun c122 c123 c124 c125 c126 c127 c128 => (X (List.set l120 (Int.toNat ((List.length xl4 : Nat) : Int)) (.agg [c122, c123, (.int .i64 (IntKind.i64.wrap (((List.length l120 : Nat) : Int) - 1))), c125, c126, c127, c128])) xl5 xi6 (IntKind.i64.wrap (xi7 + 1))))) else none))))))) else none))))) else none) else (bif ((decide (0 ≤ xi7)) && (decide (xi7 < ((List.length xl5 : Nat) : Int)))) then (nthK xl5 (Int.toNat xi7) fun e129 => (ca7 e129 fun c130 c131 c132 c133 c134 c135 c136 => (V.asSl c135 fun z137 l138 => (G 58 [(.sl 7 (xl4 ++ [(.agg [(.int .i64 n12), (.int .i64 xi6), (.int .i64 0), (.int .i64 (-1)), (.int .i64 (-1)), (.int .i64 (-1)), (.str s21)])])), (.sl z137 l138), (.int .i64 ((List.length xl4 : Nat) : Int))] fun o139 => (uL 7 o139 fun l141 r140 => (unNil r140 (bif ((decide (0 ≤ ((List.length xl4 : Nat) : Int))) && (decide (((List.length xl4 : Nat) : Int) < ((List.length l141 : Nat) : Int)))) then (nthK l141 (Int.toNat ((List.length xl4 : Nat) : Int)) fun e142 => (ca7 e142 fun c143 c144 c145 c146 c147 c148 c149 => (X (List.set l141 (Int.toNat ((List.length xl4 : Nat) : Int)) (.agg [c143, c144, (.int .i64 (IntKind.i64.wrap (((List.length l141 : Nat) : Int) - 1))), c146, c147, c148, c149])) xl5 xi6 (IntKind.i64.wrap (xi7 + 1))))) else none))))))) else none))))) else none) else none)))) else none)))))) else none) else (Ko xl4))
def l58_0g {R : Type} (G : ORC R) (k : Nat) (Ko : List V → Option R) : Nat → List V → List V → Int → Int → Option R
  | 0 => fun _ _ _ _ => none
  | j + 1 => b58_0 G k (l58_0g G k Ko j) Ko
def l58_0 {R : Type} (G : ORC R) (k : Nat) (xl4 xl5 : List V) (xi6 xi7 : Int) (Ko : List V → Option R) : Option R := l58_0g G k Ko k xl4 xl5 xi6 xi7
def rd58_0 {R : Type} (G : ORC R) (k : Nat) (K : Ex → St → Option R) (j : Nat) (vs : List V) : Option R := match vs with
  | [(.sl 7 xl4), (.sl 7 xl5), (.int .i64 xi6), (.int .i64 xi7)] => l58_0g G k (fun yl151 => K .normal (P58_0x.inst [(.sl 7 yl151)])) j xl4 xl5 xi6 xi7
  | _ => none
def L58 {R : Type} (G : ORC R) (k : Nat) : Nat → St → (Ex → St → Option R) → Option R
  | 0, S, K => P58_0h.mat S fun vs => rd58_0 G k K k vs
  | _, _, _ => none
def f58 {R : Type} (G : ORC R) (k : Nat) (al1 al2 : List V) (ai3 : Int) (K : List V → Option R) : Option R :=
  (l58_0 G k al1 al2 ai3 0 (fun yl150 => (K [(.sl 7 yl150)])))
noncomputable def D58_0 : LoopD := { id := 0, body := loopAt 0 (bodyOf Try.f58), head := P58_0h, out := P58_0x, ret := default }
theorem l58_0_is {R : Type} (G : ORC R) (k : Nat) (X : List V → Option R) (K : Ex → St → Option R) (xl4 xl5 : List V) (xi6 xi7 : Int) :
    roundOf (TAB.env 58) G (L58 G k) D58_0 X K [(.sl 7 xl4), (.sl 7 xl5), (.int .i64 xi6), (.int .i64 xi7)] = b58_0 G k (fun xl4 xl5 xi6 xi7 => X [(.sl 7 xl4), (.sl 7 xl5), (.int .i64 xi6), (.int .i64 xi7)]) (fun yl151 => K .normal (P58_0x.inst [(.sl 7 yl151)])) xl4 xl5 xi6 xi7 := by kernel_rfl
theorem f58_is {R : Type} (G : ORC R) (k : Nat) (K : List V → Option R) (al1 al2 : List V) (ai3 : Int) :
    callF (TAB.env 58) G (L58 G k) Try.f58 S58 [(.sl 7 al1), (.sl 7 al2), (.int .i64 ai3)] K = f58 G k al1 al2 ai3 K := by kernel_rfl
theorem li58_0 {R : Type} (G : ORC R) (k : Nat) : LoopIs (TAB.env 58) G (L58 G k) 0 (loopAt 0 (bodyOf Try.f58)) :=
  ⟨D58_0, fun j vs K => rd58_0 G k K j vs, k, rfl, rfl, by kernel_rfl, by kernel_rfl, by kernel_rfl, (fun vs K => by unfold rd58_0; dsimp only; split <;> rfl),
    (fun j vs K r h => by
      unfold rd58_0 at h
      dsimp only at h
      split at h
      · rw [l58_0_is]; exact h
      · cases h), (fun S K r h => h)⟩
theorem lo58 : loopsOf (bodyOf Try.f58) = [(0, loopAt 0 (bodyOf Try.f58))] := by kernel_rfl
theorem la58 {R : Type} (G : ORC R) (k : Nat) : LoopsAre (TAB.env 58) G (L58 G k) (bodyOf Try.f58) :=
  loopsAre_of (by rw [lo58]; intro p hp; simp only [List.mem_cons, List.not_mem_nil, or_false] at hp; subst hp; exact li58_0 G k)
def g58 {R : Type} (G : ORC R) (k : Nat) (args : List V) (K : List V → Option R) : Option R := match args with
  | [(.sl 7 al1), (.sl 7 al2), (.int .i64 ai3)] => f58 G k al1 al2 ai3 K
  | _ => none
theorem s58 {R : Type} {G : ORC R} {k : Nat} (hG : Sound Try.prog TAB G) (args : List V) (K : List V → Option R) (r : R) (h : g58 G k args K = some r) : ∃ o, CallOK Try.prog TAB.env 58 args o ∧ K o = some r := by
  unfold g58 at h
  split at h
  · rw [← f58_is] at h
    exact callF_sound (f := 58) TAB_chk MO hG Try.func58 (sg := S58) (by kernel_rfl) (by kernel_rfl) (la58 G k) h
  · cases h
end Go.Proofs.Ytblabbcmokldiaa.Vm
open Go Go.VM
set_option linter.unusedVariables false
set_option maxRecDepth 100000
set_option maxHeartbeats 4000000
namespace Go.Proofs.Ytblabbcmokldiaa.Vm
/-! ### cotillion/cotillionref13.Nodes: function 14 -/
def L14 {R : Type} (_ : ORC R) (_ : Nat) : Nat → St → (Ex → St → Option R) → Option R := fun _ _ _ => none
def f14 {R : Type} (G : ORC R) (k : Nat) (as1 : ByteArray) (ai2 ai3 : Int) (al4 al5 : List V) (al6 al7 : List V) (ai8 : Int) (K : List V → Option R) : Option R :=
  (G 58 [(.sl 7 [(.agg [(.int .i64 2), (.int .i64 (-1)), (.int .i64 0), (.int .i64 (-1)), (.int .i64 (-1)), (.int .i64 (-1)), (.str ⟨#[]⟩)])]), (.sl 7 al7), (.int .i64 0)] fun o9 => (uL 7 o9 fun l11 r10 => (unNil r10 (bif (decide (0 < ((List.length l11 : Nat) : Int))) then (nthK l11 0 fun e12 => (ca7 e12 fun c13 c14 c15 c16 c17 c18 c19 => (K [(.sl 7 (List.set l11 0 (.agg [c13, c14, (.int .i64 (IntKind.i64.wrap (((List.length l11 : Nat) : Int) - 1))), c16, c17, c18, c19])))]))) else none))))
theorem f14_is {R : Type} (G : ORC R) (k : Nat) (K : List V → Option R) (as1 : ByteArray) (ai2 ai3 : Int) (al4 al5 : List V) (al6 al7 : List V) (ai8 : Int) :
    callF (TAB.env 14) G (L14 G k) Try.f14 S14 [(.agg [(.str as1), (.int .i64 ai2), (.int .i64 ai3), (.sl 3 al4), (.sl 3 al5), (.sl 3 al6), (.sl 7 al7), (.int .i64 ai8)])] K = f14 G k as1 ai2 ai3 al4 al5 al6 al7 ai8 K := by kernel_rfl
theorem lo14 : loopsOf (bodyOf Try.f14) = [] := by kernel_rfl
theorem la14 {R : Type} (G : ORC R) (k : Nat) : LoopsAre (TAB.env 14) G (L14 G k) (bodyOf Try.f14) :=
  loopsAre_of (by rw [lo14]; intro p hp; cases hp)
def g14 {R : Type} (G : ORC R) (k : Nat) (args : List V) (K : List V → Option R) : Option R := match args with
  | [(.agg [(.str as1), (.int .i64 ai2), (.int .i64 ai3), (.sl 3 al4), (.sl 3 al5), (.sl 3 al6), (.sl 7 al7), (.int .i64 ai8)])] => f14 G k as1 ai2 ai3 al4 al5 al6 al7 ai8 K
  | _ => none
theorem s14 {R : Type} {G : ORC R} {k : Nat} (hG : Sound Try.prog TAB G) (args : List V) (K : List V → Option R) (r : R) (h : g14 G k args K = some r) : ∃ o, CallOK Try.prog TAB.env 14 args o ∧ K o = some r := by
  unfold g14 at h
  split at h
  · rw [← f14_is] at h
    exact callF_sound (f := 14) TAB_chk MO hG Try.func14 (sg := S14) (by kernel_rfl) (by kernel_rfl) (la14 G k) h
  · cases h
end Go.Proofs.Ytblabbcmokldiaa.Vm
open Go Go.VM
set_option linter.unusedVariables false
set_option maxRecDepth 100000
set_option maxHeartbeats 8000000
namespace Go.Proofs.Ytblabbcmokldiaa.Vm
section
variable {R : Type} {G : ORC R} {k : Nat} {K : List V → Option R}
def KindOK (G : ORC R) : Prop := ∀ (v : V) (m d : Nat) (K : List V → Option R), StateS m d v → W (fun o => o = [.int .i64 (ndKind v)]) K (G 87 [v] K)
theorem kind_ok : KindOK (fun _ args (K : List V → Option R) => g87 G k args K) := by
  intro v m d K hv
  cases d with
  | zero => exact hv.elim
  | succ d =>
  obtain ⟨kind, nm, en, ex, tr, kids, rfl, _⟩ := hv
  show W _ K (f87 G k kind nm en ex tr kids 0 K)
  unfold f87
  have e : ndKind (.agg [.int .i64 kind, .str nm, .sl 8 en, .sl 8 ex, .sl 5 tr, .sl 7 kids, .int .i64 0]) = if kind = 3 then 4 else if kind = 4 then 5 else if kind = 2 then 3 else if kids.length = 0 then 1 else 2 := rfl
  rw [e]
  refine W_beqI (fun h => ?_) (fun h => ?_)
  · exact W_ret (by rw [if_pos h])
  refine W_beqI (fun h1 => ?_) (fun h1 => ?_)
  · exact W_ret (by rw [if_neg h, if_pos h1])
  refine W_beqI (fun h2 => ?_) (fun h2 => ?_)
  · exact W_ret (by rw [if_neg h, if_neg h1, if_pos h2])
  refine W_beqI (fun h3 => ?_) (fun h3 => ?_)
  · exact W_ret (by rw [if_neg h, if_neg h1, if_neg h2, if_pos (by omega)])
  · exact W_ret (by rw [if_neg h, if_neg h1, if_neg h2, if_neg (by omega)])
def IsStOK (G : ORC R) : Prop := ∀ (n : Nd) (K : List V → Option R), W (fun o => o = [.bool (decide (n.kind ≤ 3))]) K (G 66 [n.v] K)
theorem isst_ok : IsStOK (fun _ args (K : List V → Option R) => g66 G k args K) := by
  intro n K
  show W _ K (f66 G k n.kind n.parent n.last n.init n.entry n.exit n.name K)
  unfold f66
  exact W_ret rfl
def PutOK (d : Nat) (G : ORC R) : Prop := ∀ (l : List Nd) (kids : List V) (up : Nat) (K : List V → Option R), (∀ s ∈ kids, StateS 2 d s) → (∀ s r, kids = s :: r → kindV s ≤ 2) → up < l.length → l.length + nszL d kids ≤ 1000 →
  W (fun o => o = [.sl 7 ((fixup l up l.length kids ++ forest d up l.length kids).map Nd.v)]) K (G 58 [.sl 7 (l.map Nd.v), .sl 7 kids, .int .i64 up] K)
theorem fixup_one {P : List Nd} {nd : Nd} {n : Nat} {s : V} {kids : List V} (hn : P.length = n) (hi : nd.init = -1) (hk : nd.kind = ndKind s) (hs : stKids s = kids) :
    fixup (P ++ [nd]) n (n + 1) kids = P ++ [{ nd with init := if ndKind s = 2 then (n : Int) + 1 else -1 }] := by
  subst hn
  unfold fixup
  cases kids with
  | nil =>
    have h2 : ndKind s ≠ 2 := by unfold ndKind; rw [hs]; simp; omega
    simp only [if_neg h2]
    rw [← hi]
  | cons a r =>
    simp only [List.getElem?_append_right (Nat.le_refl _), Nat.sub_self, List.getElem?_cons_zero]
    by_cases h2 : ndKind s = 2
    · rw [if_pos ⟨by omega, by omega⟩, if_pos h2]; simp
    · rw [if_neg (by omega), if_neg h2, ← hi]
theorem put_loop {d : Nat} (hKd : KindOK G) (hSt : IsStOK G) (hP : ∀ d', d = d' + 1 → PutOK d' G) {Q : List V → Prop} {K : List V → Option R} {Ko : List V → Option R} {l0 : List Nd} {kids : List V} {up : Nat}
    (hk : ∀ s ∈ kids, StateS 2 d s) (hh : ∀ s r, kids = s :: r → kindV s ≤ 2) (hup : up < l0.length) (hsz : l0.length + nszL d kids ≤ 1000)
    (hKo : W Q K (Ko ((fixup l0 up l0.length kids ++ forest d up l0.length kids).map Nd.v))) :
    ∀ (B A : List V) (j : Nat), kids = A ++ B → B.length < j → W Q K (l58_0g G k Ko j ((fixup l0 up l0.length A ++ forest d up l0.length A).map Nd.v) (A ++ B) up A.length)
  | B, A, 0, h1, h2 => by omega
  | [], A, j + 1, h1, h2 => by
    show W Q K (b58_0 G k (l58_0g G k Ko j) Ko ((fixup l0 up l0.length A ++ forest d up l0.length A).map Nd.v) (A ++ []) up A.length)
    unfold b58_0
    refine W_no (by simp) ?_
    rw [List.append_nil] at h1
    rw [← h1]; exact hKo
  | b :: B, A, j + 1, h1, h2 => by
    show W Q K (b58_0 G k (l58_0g G k Ko j) Ko ((fixup l0 up l0.length A ++ forest d up l0.length A).map Nd.v) (A ++ b :: B) up A.length)
    unfold b58_0
    have hb : StateS 2 d b := hk b (by rw [h1]; simp)
    have hbk := hb
    cases d with
    | zero => exact hb.elim
    | succ d =>
    simp only [List.length_cons] at h2
    have hAl := nszL_len (d := d) (l := A)
    have hnsz : nszL (d + 1) kids = nszL (d + 1) A + (1 + nszL d (stKids b) + nszL (d + 1) B) := by rw [h1, nszL_app, nszL_cons]
    obtain ⟨kind, nm, en, ex, tr, kb, rfl, x1, x2, x3, x4, x5, x6, x7, x8, x9, x10, x11, x12, x13⟩ := hb
    have hkb : stKids (.agg [.int .i64 kind, .str nm, .sl 8 en, .sl 8 ex, .sl 5 tr, .sl 7 kb, .int .i64 0]) = kb := rfl
    have hnb : stName (.agg [.int .i64 kind, .str nm, .sl 8 en, .sl 8 ex, .sl 5 tr, .sl 7 kb, .int .i64 0]) = nm := rfl
    have hkk : kindV (.agg [.int .i64 kind, .str nm, .sl 8 en, .sl 8 ex, .sl 5 tr, .sl 7 kb, .int .i64 0]) = kind := rfl
    generalize hbe : (V.agg [.int .i64 kind, .str nm, .sl 8 en, .sl 8 ex, .sl 5 tr, .sl 7 kb, .int .i64 0]) = b at *
    have hcl : (fixup l0 up l0.length A ++ forest (d + 1) up l0.length A).length = l0.length + nszL (d + 1) A := by rw [List.length_append, fixup_len, forest_len]
    have hlt : (A.length : Int) < (((A ++ b :: B).length : Nat) : Int) := by simp; omega
    have hnthb : ∀ v, (A ++ b :: B)[Int.toNat (A.length : Int)]? = some v → v = b := fun v hv => by simp at hv; exact hv.symm
    refine W_yes hlt (W_and (W_yes (by omega) (W_yes hlt ?_)))
    refine W_nth (by omega) (fun v hv _ => ?_)
    rw [hnthb v hv, ← hbe]
    refine W_asAgg ?_
    rw [hbe]
    refine W_call (hKd b 2 (d + 1) _ hbk) ?_
    rintro _ rfl
    refine W_uI (W_unNil ?_)
    refine W_and (W_yes (by omega) (W_yes hlt ?_))
    refine W_nth (by omega) (fun v hv _ => ?_)
    rw [hnthb v hv, ← hbe]
    refine W_ca7 (W_asStr ?_)
    rw [hbe]
    generalize hcur : fixup l0 up l0.length A ++ forest (d + 1) up l0.length A = cur at *
    generalize hn0 : cur.length = n at *
    have hnd : List.map Nd.v cur ++ [.agg [.int .i64 (ndKind b), .int .i64 (up : Int), .int .i64 0, .int .i64 (-1), .int .i64 (-1), .int .i64 (-1), .str nm]] = (cur ++ [(⟨ndKind b, up, 0, -1, -1, -1, nm⟩ : Nd)]).map Nd.v := by rw [List.map_append]; rfl
    rw [hnd]
    refine W_yes (by rw [List.length_map]; omega) ?_
    simp only [List.length_map, hn0, List.length_append, List.length_cons, List.length_nil]
    have hupn : up < n := by omega
    refine W_and (W_yes (by omega) (W_yes (by omega) ?_))
    refine W_nthN (by simp; omega) (fun n1 hn1 => W_nd ?_)
    refine W_ce7 (W_aI ?_)
    have hn1' : cur[up]? = some n1 := by
      rw [Int.toNat_natCast, List.getElem?_append_left (by omega)] at hn1; exact hn1
    -- what the parent is told
    have hcur1 : A = [] → cur = l0 := fun h => by rw [← hcur, h, fixup_nil]; simp [forest]
    have hcur2 : A ≠ [] → ¬ (n1.init < 0 ∧ n1.kind = 2) := by
      intro hA hc
      rw [← hcur, List.getElem?_append_left (by rw [fixup_len]; exact hup)] at hn1'
      cases A with
      | nil => exact hA rfl
      | cons a r =>
        have e0 : l0[up]? = some l0[up] := List.getElem?_eq_getElem hup
        unfold fixup at hn1'
        simp only [e0] at hn1'
        by_cases hq : l0[up].init < 0 ∧ l0[up].kind = 2
        · rw [if_pos hq, List.getElem?_set_self hup] at hn1'
          cases hn1'
          have := hc.1
          simp at this; omega
        · rw [if_neg hq, e0] at hn1'
          cases hn1'; exact hq hc
    have hfx : fixup l0 up l0.length (A ++ [b]) ++ forest (d + 1) up l0.length A = if n1.init < 0 ∧ n1.kind = 2 then cur.set up { n1 with init := n } else cur := by
      by_cases hA : A = []
      · have hc := hcur1 hA
        subst hA
        have hn00 : n = l0.length := by rw [← hn0, hc]
        rw [← hn00]
        rw [hc] at hn1' ⊢
        unfold fixup
        simp only [List.nil_append, hn1']
        rw [show forest (d + 1) (up : Int) n [] = [] by rw [forest], List.append_nil]
      · rw [if_neg (hcur2 hA), ← hcur]
        congr 1
        unfold fixup
        cases A with
        | nil => exact absurd rfl hA
        | cons a r => cases l0[up]? <;> rfl
    -- the rest of the round
    have fin : ∀ L2 : List Nd, L2 = (fixup l0 up l0.length (A ++ [b]) ++ forest (d + 1) up l0.length A) ++ [(⟨ndKind b, up, 0, -1, -1, -1, nm⟩ : Nd)] → ∀ (n2 : Nd) (len : Int), len = ((fixup L2 n (n + 1) kb ++ forest d n (n + 1) kb).length : Int) - 1 → (fixup L2 n (n + 1) kb ++ forest d n (n + 1) kb)[n]? = some n2 →
        (fixup L2 n (n + 1) kb ++ forest d n (n + 1) kb).set n { n2 with last := len } = fixup l0 up l0.length (A ++ [b]) ++ forest (d + 1) up l0.length (A ++ [b]) := by
      intro L2 hL2 n2 len hlen hn2
      have hPl : (fixup l0 up l0.length (A ++ [b]) ++ forest (d + 1) up l0.length A).length = n := by rw [List.length_append, fixup_len, forest_len]; omega
      generalize hPe : fixup l0 up l0.length (A ++ [b]) ++ forest (d + 1) up l0.length A = P at *
      rw [hL2] at hn2 hlen ⊢
      rw [fixup_one hPl rfl rfl hkb] at hn2 hlen ⊢
      rw [List.append_assoc, List.getElem?_append_right (by omega)] at hn2
      rw [hPl, Nat.sub_self] at hn2
      simp only [List.cons_append, List.nil_append, List.getElem?_cons_zero, Option.some.injEq] at hn2
      rw [List.append_assoc, ← hPl, List.set_append_right _ _ (Nat.le_refl _), Nat.sub_self]
      simp only [List.cons_append, List.nil_append, List.set_cons_zero]
      rw [forest_app, ← List.append_assoc, hPe]
      congr 1
      rw [forest, hkb, hnb, show forest (d + 1) (up : Int) (l0.length + nszL (d + 1) A + 1 + nszL d kb) [] = [] by rw [forest], List.append_nil]
      have hnn : l0.length + nszL (d + 1) A = n := by omega
      rw [hnn, ← hn2, hPl]
      congr 1
      rw [hlen]
      simp only [List.length_append, List.length_cons, List.length_nil, forest_len, hPl]
      congr 1
      omega
    have rest : ∀ (L2 : List Nd), L2 = (fixup l0 up l0.length (A ++ [b]) ++ forest (d + 1) up l0.length A) ++ [(⟨ndKind b, up, 0, -1, -1, -1, nm⟩ : Nd)] → ∀ F : List V → Option R,
        (∀ n2 : Nd, (fixup L2 n (n + 1) kb ++ forest d n (n + 1) kb)[n]? = some n2 → W Q K (F [.sl 7 ((fixup L2 n (n + 1) kb ++ forest d n (n + 1) kb).map Nd.v)])) → W Q K (G 58 [.sl 7 (L2.map Nd.v), .sl 7 kb, .int .i64 (n : Int)] F) := by
      intro L2 hL2 F hF
      have hPl : (fixup l0 up l0.length (A ++ [b]) ++ forest (d + 1) up l0.length A).length = n := by rw [List.length_append, fixup_len, forest_len]; omega
      have hL2l : L2.length = n + 1 := by rw [hL2, List.length_append, hPl]; rfl
      have hsz2 : n + 1 + nszL d kb ≤ 1000 := by rw [hkb] at hnsz; omega
      refine W_call (hP d rfl L2 kb n F x10 x12 (by omega) (by omega)) ?_
      rintro _ rfl
      rw [hL2l]
      have hl : n < (fixup L2 n (n + 1) kb ++ forest d n (n + 1) kb).length := by rw [List.length_append, fixup_len]; omega
      exact hF _ (List.getElem?_eq_getElem hl)
    have hnm1 : ∀ m : Nd, (cur ++ [(⟨ndKind b, up, 0, -1, -1, -1, nm⟩ : Nd)])[Int.toNat (up : Int)]? = some m → m = n1 := fun m hm => by rw [hn1] at hm; cases hm; rfl
    generalize hPe : fixup l0 up l0.length (A ++ [b]) ++ forest (d + 1) up l0.length A = P at hfx rest fin
    refine W_dec (fun hi => ?_) (fun hi => ?_)
    · refine W_and (W_yes (by omega) (W_yes (by omega) ?_))
      refine W_nthN (by simp; omega) (fun m hm => W_nd ?_)
      rw [hnm1 m hm]
      refine W_ce7 (W_aI ?_)
      refine W_beqI (fun hk2 => ?_) (fun hk2 => ?_)
      · have hA : A = [] := Classical.byContradiction fun h => hcur2 h ⟨hi, hk2⟩
        have hbk2 : kindV b ≤ 2 := hh b B (by rw [h1, hA]; rfl)
        have hnk : ndKind b ≤ 3 := by unfold ndKind; split; omega; split; omega; split; omega; split <;> omega
        rw [if_pos ⟨hi, hk2⟩] at hfx
        refine W_and (W_yes (by omega) (W_yes (by omega) ?_))
        refine W_nthN (by simp; omega) (fun m hm => W_nd ?_)
        have hm2 : m = ⟨ndKind b, up, 0, -1, -1, -1, nm⟩ := by
          rw [Int.toNat_natCast, List.getElem?_append_right (by omega), hn0, Nat.sub_self] at hm
          simp at hm; exact hm.symm
        subst hm2
        refine W_ce7 (W_aI (W_aI (W_aI (W_aI (W_aI (W_aI (W_asStr ?_)))))))
        refine W_call (hSt ⟨ndKind b, up, 0, -1, -1, -1, nm⟩ _) ?_
        rintro _ rfl
        refine W_uB (W_unNil (W_yes hnk ?_))
        refine W_and (W_yes (by omega) (W_yes (by omega) ?_))
        refine W_nthN (by simp; omega) (fun m hm => W_nd ?_)
        rw [hnm1 m hm]
        refine W_ce7 ?_
        have hset : List.set (List.map Nd.v (cur ++ [(⟨ndKind b, up, 0, -1, -1, -1, nm⟩ : Nd)])) (Int.toNat (up : Int)) (V.agg [.int .i64 n1.kind, .int .i64 n1.parent, .int .i64 n1.last, .int .i64 (n : Int), .int .i64 n1.entry, .int .i64 n1.exit, .str n1.name]) = (P ++ [(⟨ndKind b, up, 0, -1, -1, -1, nm⟩ : Nd)]).map Nd.v := by
          rw [Int.toNat_natCast, show V.agg [.int .i64 n1.kind, .int .i64 n1.parent, .int .i64 n1.last, .int .i64 (n : Int), .int .i64 n1.entry, .int .i64 n1.exit, .str n1.name] = ({ n1 with init := n } : Nd).v from rfl, set_map, List.set_append_left _ _ (by omega), hfx]
        rw [hset]
        refine W_and (W_yes (by omega) (W_yes (by omega) ?_))
        refine W_nth (by omega) (fun v hv _ => ?_)
        rw [hnthb v hv, ← hbe]
        refine W_ca7 (W_asSl ?_)
        rw [hbe]
        refine rest _ rfl _ (fun n2 hn2 => ?_)
        refine W_uL (W_unNil ?_)
        have hlen2 : (fixup (P ++ [(⟨ndKind b, up, 0, -1, -1, -1, nm⟩ : Nd)]) n (n + 1) kb ++ forest d n (n + 1) kb).length = n + 1 + nszL d kb := by
          have hPl : P.length = n := by rw [← hPe, List.length_append, fixup_len, forest_len]; omega
          rw [List.length_append, fixup_len, forest_len, List.length_append, hPl]; rfl
        refine W_and (W_yes (by omega) (W_yes (by rw [List.length_map]; omega) ?_))
        refine W_nthN (by rw [Int.toNat_natCast]; omega) (fun m hm => W_nd ?_)
        rw [Int.toNat_natCast] at hm
        refine W_ce7 ?_
        rw [hkb] at hnsz
        have hw : IntKind.i64.wrap (((List.map Nd.v (fixup (P ++ [(⟨ndKind b, up, 0, -1, -1, -1, nm⟩ : Nd)]) n (n + 1) kb ++ forest d n (n + 1) kb)).length : Int) - 1) = ((fixup (P ++ [(⟨ndKind b, up, 0, -1, -1, -1, nm⟩ : Nd)]) n (n + 1) kb ++ forest d n (n + 1) kb).length : Int) - 1 := by
          rw [List.length_map]; exact wrap_id (by omega)
        rw [hw, wrap_id (n := (A.length : Int) + 1) (by omega)]
        have hset2 : ∀ len : Int, len = ((fixup (P ++ [(⟨ndKind b, up, 0, -1, -1, -1, nm⟩ : Nd)]) n (n + 1) kb ++ forest d n (n + 1) kb).length : Int) - 1 → List.set (List.map Nd.v (fixup (P ++ [(⟨ndKind b, up, 0, -1, -1, -1, nm⟩ : Nd)]) n (n + 1) kb ++ forest d n (n + 1) kb)) (Int.toNat (n : Int)) (V.agg [.int .i64 m.kind, .int .i64 m.parent, .int .i64 len, .int .i64 m.init, .int .i64 m.entry, .int .i64 m.exit, .str m.name]) = (fixup l0 up l0.length (A ++ [b]) ++ forest (d + 1) up l0.length (A ++ [b])).map Nd.v := by
          intro len hlen
          rw [Int.toNat_natCast, show V.agg [.int .i64 m.kind, .int .i64 m.parent, .int .i64 len, .int .i64 m.init, .int .i64 m.entry, .int .i64 m.exit, .str m.name] = ({ m with last := len } : Nd).v from rfl, set_map, fin _ rfl m len hlen hm]
        rw [hset2 _ rfl]
        have e := put_loop hKd hSt hP hk hh hup hsz hKo B (A ++ [b]) j (by rw [h1]; simp) (by omega)
        simp only [List.append_assoc, List.singleton_append, List.length_append, List.length_cons, List.length_nil, Nat.zero_add, Int.natCast_add, Int.natCast_one] at e
        exact e
      · rw [if_neg (by rintro ⟨_, h⟩; exact hk2 h)] at hfx
        rw [← hfx]
        refine W_and (W_yes (by omega) (W_yes (by omega) ?_))
        refine W_nth (by omega) (fun v hv _ => ?_)
        rw [hnthb v hv, ← hbe]
        refine W_ca7 (W_asSl ?_)
        rw [hbe]
        refine rest _ rfl _ (fun n2 hn2 => ?_)
        refine W_uL (W_unNil ?_)
        have hlen2 : (fixup (P ++ [(⟨ndKind b, up, 0, -1, -1, -1, nm⟩ : Nd)]) n (n + 1) kb ++ forest d n (n + 1) kb).length = n + 1 + nszL d kb := by
          have hPl : P.length = n := by rw [← hPe, List.length_append, fixup_len, forest_len]; omega
          rw [List.length_append, fixup_len, forest_len, List.length_append, hPl]; rfl
        refine W_and (W_yes (by omega) (W_yes (by rw [List.length_map]; omega) ?_))
        refine W_nthN (by rw [Int.toNat_natCast]; omega) (fun m hm => W_nd ?_)
        rw [Int.toNat_natCast] at hm
        refine W_ce7 ?_
        rw [hkb] at hnsz
        have hw : IntKind.i64.wrap (((List.map Nd.v (fixup (P ++ [(⟨ndKind b, up, 0, -1, -1, -1, nm⟩ : Nd)]) n (n + 1) kb ++ forest d n (n + 1) kb)).length : Int) - 1) = ((fixup (P ++ [(⟨ndKind b, up, 0, -1, -1, -1, nm⟩ : Nd)]) n (n + 1) kb ++ forest d n (n + 1) kb).length : Int) - 1 := by
          rw [List.length_map]; exact wrap_id (by omega)
        rw [hw, wrap_id (n := (A.length : Int) + 1) (by omega)]
        have hset2 : ∀ len : Int, len = ((fixup (P ++ [(⟨ndKind b, up, 0, -1, -1, -1, nm⟩ : Nd)]) n (n + 1) kb ++ forest d n (n + 1) kb).length : Int) - 1 → List.set (List.map Nd.v (fixup (P ++ [(⟨ndKind b, up, 0, -1, -1, -1, nm⟩ : Nd)]) n (n + 1) kb ++ forest d n (n + 1) kb)) (Int.toNat (n : Int)) (V.agg [.int .i64 m.kind, .int .i64 m.parent, .int .i64 len, .int .i64 m.init, .int .i64 m.entry, .int .i64 m.exit, .str m.name]) = (fixup l0 up l0.length (A ++ [b]) ++ forest (d + 1) up l0.length (A ++ [b])).map Nd.v := by
          intro len hlen
          rw [Int.toNat_natCast, show V.agg [.int .i64 m.kind, .int .i64 m.parent, .int .i64 len, .int .i64 m.init, .int .i64 m.entry, .int .i64 m.exit, .str m.name] = ({ m with last := len } : Nd).v from rfl, set_map, fin _ rfl m len hlen hm]
        rw [hset2 _ rfl]
        have e := put_loop hKd hSt hP hk hh hup hsz hKo B (A ++ [b]) j (by rw [h1]; simp) (by omega)
        simp only [List.append_assoc, List.singleton_append, List.length_append, List.length_cons, List.length_nil, Nat.zero_add, Int.natCast_add, Int.natCast_one] at e
        exact e
    · rw [if_neg (by rintro ⟨h, _⟩; exact hi h)] at hfx
      rw [← hfx]
      refine W_and (W_yes (by omega) (W_yes (by omega) ?_))
      refine W_nth (by omega) (fun v hv _ => ?_)
      rw [hnthb v hv, ← hbe]
      refine W_ca7 (W_asSl ?_)
      rw [hbe]
      refine rest _ rfl _ (fun n2 hn2 => ?_)
      refine W_uL (W_unNil ?_)
      have hlen2 : (fixup (P ++ [(⟨ndKind b, up, 0, -1, -1, -1, nm⟩ : Nd)]) n (n + 1) kb ++ forest d n (n + 1) kb).length = n + 1 + nszL d kb := by
        have hPl : P.length = n := by rw [← hPe, List.length_append, fixup_len, forest_len]; omega
        rw [List.length_append, fixup_len, forest_len, List.length_append, hPl]; rfl
      refine W_and (W_yes (by omega) (W_yes (by rw [List.length_map]; omega) ?_))
      refine W_nthN (by rw [Int.toNat_natCast]; omega) (fun m hm => W_nd ?_)
      rw [Int.toNat_natCast] at hm
      refine W_ce7 ?_
      rw [hkb] at hnsz
      have hw : IntKind.i64.wrap (((List.map Nd.v (fixup (P ++ [(⟨ndKind b, up, 0, -1, -1, -1, nm⟩ : Nd)]) n (n + 1) kb ++ forest d n (n + 1) kb)).length : Int) - 1) = ((fixup (P ++ [(⟨ndKind b, up, 0, -1, -1, -1, nm⟩ : Nd)]) n (n + 1) kb ++ forest d n (n + 1) kb).length : Int) - 1 := by
        rw [List.length_map]; exact wrap_id (by omega)
      rw [hw, wrap_id (n := (A.length : Int) + 1) (by omega)]
      have hset2 : ∀ len : Int, len = ((fixup (P ++ [(⟨ndKind b, up, 0, -1, -1, -1, nm⟩ : Nd)]) n (n + 1) kb ++ forest d n (n + 1) kb).length : Int) - 1 → List.set (List.map Nd.v (fixup (P ++ [(⟨ndKind b, up, 0, -1, -1, -1, nm⟩ : Nd)]) n (n + 1) kb ++ forest d n (n + 1) kb)) (Int.toNat (n : Int)) (V.agg [.int .i64 m.kind, .int .i64 m.parent, .int .i64 len, .int .i64 m.init, .int .i64 m.entry, .int .i64 m.exit, .str m.name]) = (fixup l0 up l0.length (A ++ [b]) ++ forest (d + 1) up l0.length (A ++ [b])).map Nd.v := by
        intro len hlen
        rw [Int.toNat_natCast, show V.agg [.int .i64 m.kind, .int .i64 m.parent, .int .i64 len, .int .i64 m.init, .int .i64 m.entry, .int .i64 m.exit, .str m.name] = ({ m with last := len } : Nd).v from rfl, set_map, fin _ rfl m len hlen hm]
      rw [hset2 _ rfl]
      have e := put_loop hKd hSt hP hk hh hup hsz hKo B (A ++ [b]) j (by rw [h1]; simp) (by omega)
      simp only [List.append_assoc, List.singleton_append, List.length_append, List.length_cons, List.length_nil, Nat.zero_add, Int.natCast_add, Int.natCast_one] at e
      exact e
theorem put_ok {d : Nat} (hk : 10000 ≤ k) (hKd : KindOK G) (hSt : IsStOK G) (hP : ∀ d', d = d' + 1 → PutOK d' G) : PutOK d (fun _ args (K : List V → Option R) => g58 G k args K) := by
  intro l kids up K h1 h2 h3 h4
  show W _ K (f58 G k (l.map Nd.v) kids up K)
  unfold f58 l58_0
  have hlen : kids.length ≤ nszL d kids ∨ kids = [] := by
    cases d with
    | zero =>
      cases kids with
      | nil => exact .inr rfl
      | cons a r => exact (h1 a (by simp)).elim
    | succ d => exact .inl nszL_len
  have hl2 : kids.length < k := by
    rcases hlen with h | h
    · omega
    · rw [h]; simp; omega
  have e := put_loop (Q := fun o => o = [.sl 7 ((fixup l up l.length kids ++ forest d up l.length kids).map Nd.v)]) (K := K) (k := k) (Ko := fun yl => K [.sl 7 yl]) hKd hSt hP h1 h2 h3 h4 (W_ret rfl) kids [] k rfl hl2
  rw [fixup_nil, List.nil_append] at e
  have hf : forest d (up : Int) l.length [] = [] := by cases d <;> rw [forest]
  rw [hf, List.append_nil] at e
  exact e
def NodesOK (G : ORC R) : Prop := ∀ (nm : ByteArray) (x y : Int) (a b c states : List V) (z : Int) (K : List V → Option R), (∀ s ∈ states, StateS 2 3 s ∧ kindV s ≤ 2) → nszL 3 states ≤ 900 →
  W (fun o => o = [.sl 7 ((ndsOf states).map Nd.v)]) K (G 14 [.agg [.str nm, .int .i64 x, .int .i64 y, .sl 3 a, .sl 3 b, .sl 3 c, .sl 7 states, .int .i64 z]] K)
theorem nodes_ok (hP : PutOK 3 G) : NodesOK (fun _ args (K : List V → Option R) => g14 G k args K) := by
  intro nm x y a b c states z K h1 h2
  show W _ K (f14 G k nm x y a b c states z K)
  unfold f14
  refine W_call (hP [(⟨2, -1, 0, -1, -1, -1, ⟨#[]⟩⟩ : Nd)] states 0 _ (fun s hs => (h1 s hs).1) (fun s r e => (h1 s (by rw [e]; simp)).2) (by simp) (by simp; omega)) ?_
  rintro _ rfl
  refine W_uL (W_unNil ?_)
  have hl : (fixup [(⟨2, -1, 0, -1, -1, -1, ⟨#[]⟩⟩ : Nd)] 0 1 states ++ forest 3 (0 : Nat) 1 states).length = 1 + nszL 3 states := by rw [List.length_append, fixup_len, forest_len]; rfl
  simp only [List.length_cons, List.length_nil, Nat.zero_add, List.length_map, hl]
  have hl0 : (0 : Int) < ((1 + nszL 3 states : Nat) : Int) := by omega
  refine W_yes (by omega) ?_
  refine W_nthN (by rw [hl]; omega) (fun n hn => W_nd ?_)
  refine W_ce7 ?_
  rw [wrap_id (by omega)]
  refine W_ret ?_
  have e : (fixup [(⟨2, -1, 0, -1, -1, -1, ⟨#[]⟩⟩ : Nd)] 0 1 states ++ forest 3 (0 : Nat) 1 states).set 0 { n with last := ((1 + nszL 3 states : Nat) : Int) - 1 } = ndsOf states := by
    have hq : ((1 + nszL 3 states : Nat) : Int) - 1 = (nszL 3 states : Nat) := by omega
    rw [hq]
    unfold ndsOf
    cases states with
    | nil =>
      rw [fixup_nil] at hn ⊢
      simp at hn; subst hn; rfl
    | cons s r =>
      have hf : fixup [(⟨2, -1, 0, -1, -1, -1, ⟨#[]⟩⟩ : Nd)] 0 1 (s :: r) = [⟨2, -1, 0, 1, -1, -1, ⟨#[]⟩⟩] := by unfold fixup; simp
      rw [hf] at hn ⊢
      simp at hn; subst hn; simp
  rw [← e, ← set_map]; rfl
end
end Go.Proofs.Ytblabbcmokldiaa.Vm
open Go Go.VM
set_option linter.unusedVariables false
set_option maxRecDepth 100000
set_option maxHeartbeats 4000000
namespace Go.Proofs.Ytblabbcmokldiaa.Vm
/-! ### cotillion/cotillionref13.Find: function 19 -/
def P19_0h : Pat := { tmps := unds [.var (.sl 7) .ro, .var .str .pr, .undef, .undef, .undef, .var (.int .i64) .pr] 14 [], boxes := nons [] 20 [] }
def P19_0x : Pat := { tmps := unds [] 20 [], boxes := nons [] 20 [] }
def P19_0r : Pat := { tmps := unds [.undef, .undef, .undef, .undef, .var (.int .i64) .pr] 15 [], boxes := nons [] 20 [] }
def b19_0 {R : Type} (G : ORC R) (k : Nat) (X : List V → ByteArray → Int → Option R) (Ko : Unit → Option R) (Kr : Int → Option R) (xl3 : List V) (xs4 : ByteArray) (xi5 : Int) : Option R :=
  (bif (decide (xi5 < ((List.length xl3 : Nat) : Int))) then (bif ((decide (0 ≤ xi5)) && (decide (xi5 < ((List.length xl3 : Nat) : Int)))) then (nthK xl3 (Int.toNat xi5) fun e6 => (ca7 e6 fun c7 c8 c9 c10 c11 c12 c13 => (V.asStr c13 fun s14 => (bif (ByteArray.toList s14 == ByteArray.toList xs4) then (Kr xi5) else (X xl3 xs4 (IntKind.i64.wrap (xi5 + 1))))))) else none) else (Ko ()))
def l19_0g {R : Type} (G : ORC R) (k : Nat) (Ko : Unit → Option R) (Kr : Int → Option R) : Nat → List V → ByteArray → Int → Option R
  | 0 => fun _ _ _ => none
  | j + 1 => b19_0 G k (l19_0g G k Ko Kr j) Ko Kr
def l19_0 {R : Type} (G : ORC R) (k : Nat) (xl3 : List V) (xs4 : ByteArray) (xi5 : Int) (Ko : Unit → Option R) (Kr : Int → Option R) : Option R := l19_0g G k Ko Kr k xl3 xs4 xi5
def rd19_0 {R : Type} (G : ORC R) (k : Nat) (K : Ex → St → Option R) (j : Nat) (vs : List V) : Option R := match vs with
  | [(.sl 7 xl3), (.str xs4), (.int .i64 xi5)] => l19_0g G k (fun _ => K .normal (P19_0x.inst [])) (fun yi16 => K .ret (P19_0r.inst [(.int .i64 yi16)])) j xl3 xs4 xi5
  | _ => none
def L19 {R : Type} (G : ORC R) (k : Nat) : Nat → St → (Ex → St → Option R) → Option R
  | 0, S, K => P19_0h.mat S fun vs => rd19_0 G k K k vs
  | _, _, _ => none
def f19 {R : Type} (G : ORC R) (k : Nat) (al1 : List V) (as2 : ByteArray) (K : List V → Option R) : Option R :=
  (l19_0 G k al1 as2 1 (fun (_ : Unit) => (K [(.int .i64 (-1))])) (fun yi15 => (K [(.int .i64 yi15)])))
noncomputable def D19_0 : LoopD := { id := 0, body := loopAt 0 (bodyOf Try.f19), head := P19_0h, out := P19_0x, ret := P19_0r }
theorem l19_0_is {R : Type} (G : ORC R) (k : Nat) (X : List V → Option R) (K : Ex → St → Option R) (xl3 : List V) (xs4 : ByteArray) (xi5 : Int) :
    roundOf (TAB.env 19) G (L19 G k) D19_0 X K [(.sl 7 xl3), (.str xs4), (.int .i64 xi5)] = b19_0 G k (fun xl3 xs4 xi5 => X [(.sl 7 xl3), (.str xs4), (.int .i64 xi5)]) (fun _ => K .normal (P19_0x.inst [])) (fun yi16 => K .ret (P19_0r.inst [(.int .i64 yi16)])) xl3 xs4 xi5 := by kernel_rfl
theorem f19_is {R : Type} (G : ORC R) (k : Nat) (K : List V → Option R) (al1 : List V) (as2 : ByteArray) :
    callF (TAB.env 19) G (L19 G k) Try.f19 S19 [(.sl 7 al1), (.str as2)] K = f19 G k al1 as2 K := by kernel_rfl
theorem li19_0 {R : Type} (G : ORC R) (k : Nat) : LoopIs (TAB.env 19) G (L19 G k) 0 (loopAt 0 (bodyOf Try.f19)) :=
  ⟨D19_0, fun j vs K => rd19_0 G k K j vs, k, rfl, rfl, by kernel_rfl, by kernel_rfl, by kernel_rfl, (fun vs K => by unfold rd19_0; dsimp only; split <;> rfl),
    (fun j vs K r h => by
      unfold rd19_0 at h
      dsimp only at h
      split at h
      · rw [l19_0_is]; exact h
      · cases h), (fun S K r h => h)⟩
theorem lo19 : loopsOf (bodyOf Try.f19) = [(0, loopAt 0 (bodyOf Try.f19))] := by kernel_rfl
theorem la19 {R : Type} (G : ORC R) (k : Nat) : LoopsAre (TAB.env 19) G (L19 G k) (bodyOf Try.f19) :=
  loopsAre_of (by rw [lo19]; intro p hp; simp only [List.mem_cons, List.not_mem_nil, or_false] at hp; subst hp; exact li19_0 G k)
def g19 {R : Type} (G : ORC R) (k : Nat) (args : List V) (K : List V → Option R) : Option R := match args with
  | [(.sl 7 al1), (.str as2)] => f19 G k al1 as2 K
  | _ => none
theorem s19 {R : Type} {G : ORC R} {k : Nat} (hG : Sound Try.prog TAB G) (args : List V) (K : List V → Option R) (r : R) (h : g19 G k args K = some r) : ∃ o, CallOK Try.prog TAB.env 19 args o ∧ K o = some r := by
  unfold g19 at h
  split at h
  · rw [← f19_is] at h
    exact callF_sound (f := 19) TAB_chk MO hG Try.func19 (sg := S19) (by kernel_rfl) (by kernel_rfl) (la19 G k) h
  · cases h
end Go.Proofs.Ytblabbcmokldiaa.Vm
open Go Go.VM
set_option linter.unusedVariables false
set_option maxRecDepth 100000
set_option maxHeartbeats 4000000
namespace Go.Proofs.Ytblabbcmokldiaa.Vm
/-! ### cotillion/cotillionref13.Is: function 64 -/
def L64 {R : Type} (_ : ORC R) (_ : Nat) : Nat → St → (Ex → St → Option R) → Option R := fun _ _ _ => none
def f64 {R : Type} (G : ORC R) (k : Nat) (al1 : List V) (ai2 : Int) (K : List V → Option R) : Option R :=
  (bif (decide (ai2 ≥ 0)) then (K [(.bool (decide (ai2 < ((List.length al1 : Nat) : Int))))]) else (K [(.bool false)]))
theorem f64_is {R : Type} (G : ORC R) (k : Nat) (K : List V → Option R) (al1 : List V) (ai2 : Int) :
    callF (TAB.env 64) G (L64 G k) Try.f64 S64 [(.sl 7 al1), (.int .i64 ai2)] K = f64 G k al1 ai2 K := by kernel_rfl
theorem lo64 : loopsOf (bodyOf Try.f64) = [] := by kernel_rfl
theorem la64 {R : Type} (G : ORC R) (k : Nat) : LoopsAre (TAB.env 64) G (L64 G k) (bodyOf Try.f64) :=
  loopsAre_of (by rw [lo64]; intro p hp; cases hp)
def g64 {R : Type} (G : ORC R) (k : Nat) (args : List V) (K : List V → Option R) : Option R := match args with
  | [(.sl 7 al1), (.int .i64 ai2)] => f64 G k al1 ai2 K
  | _ => none
theorem s64 {R : Type} {G : ORC R} {k : Nat} (hG : Sound Try.prog TAB G) (args : List V) (K : List V → Option R) (r : R) (h : g64 G k args K = some r) : ∃ o, CallOK Try.prog TAB.env 64 args o ∧ K o = some r := by
  unfold g64 at h
  split at h
  · rw [← f64_is] at h
    exact callF_sound (f := 64) TAB_chk MO hG Try.func64 (sg := S64) (by kernel_rfl) (by kernel_rfl) (la64 G k) h
  · cases h
end Go.Proofs.Ytblabbcmokldiaa.Vm
open Go Go.VM
set_option linter.unusedVariables false
set_option maxRecDepth 100000
set_option maxHeartbeats 4000000
namespace Go.Proofs.Ytblabbcmokldiaa.Vm
/-! ### cotillion/cotillionref13.In: function 21 -/
def L21 {R : Type} (_ : ORC R) (_ : Nat) : Nat → St → (Ex → St → Option R) → Option R := fun _ _ _ => none
def f21 {R : Type} (G : ORC R) (k : Nat) (al1 : List V) (ai2 ai3 : Int) (K : List V → Option R) : Option R :=
  (G 64 [(.sl 7 al1), (.int .i64 ai2)] fun o4 => (uB o4 fun b6 r5 => (unNil r5 (bif b6 then (G 64 [(.sl 7 al1), (.int .i64 ai3)] fun o7 => (uB o7 fun b9 r8 => (unNil r8 (bif b9 then (bif (decide (ai2 ≥ ai3)) then (bif ((decide (0 ≤ ai3)) && (decide (ai3 < ((List.length al1 : Nat) : Int)))) then (nthK al1 (Int.toNat ai3) fun e10 => (ca7 e10 fun c11 c12 c13 c14 c15 c16 c17 => (aI .i64 c13 fun n18 => (K [(.bool (decide (ai2 ≤ n18)))])))) else none) else (K [(.bool false)])) else (K [(.bool false)]))))) else (K [(.bool false)])))))
theorem f21_is {R : Type} (G : ORC R) (k : Nat) (K : List V → Option R) (al1 : List V) (ai2 ai3 : Int) :
    callF (TAB.env 21) G (L21 G k) Try.f21 S21 [(.sl 7 al1), (.int .i64 ai2), (.int .i64 ai3)] K = f21 G k al1 ai2 ai3 K := by kernel_rfl
theorem lo21 : loopsOf (bodyOf Try.f21) = [] := by kernel_rfl
theorem la21 {R : Type} (G : ORC R) (k : Nat) : LoopsAre (TAB.env 21) G (L21 G k) (bodyOf Try.f21) :=
  loopsAre_of (by rw [lo21]; intro p hp; cases hp)
def g21 {R : Type} (G : ORC R) (k : Nat) (args : List V) (K : List V → Option R) : Option R := match args with
  | [(.sl 7 al1), (.int .i64 ai2), (.int .i64 ai3)] => f21 G k al1 ai2 ai3 K
  | _ => none
theorem s21 {R : Type} {G : ORC R} {k : Nat} (hG : Sound Try.prog TAB G) (args : List V) (K : List V → Option R) (r : R) (h : g21 G k args K = some r) : ∃ o, CallOK Try.prog TAB.env 21 args o ∧ K o = some r := by
  unfold g21 at h
  split at h
  · rw [← f21_is] at h
    exact callF_sound (f := 21) TAB_chk MO hG Try.func21 (sg := S21) (by kernel_rfl) (by kernel_rfl) (la21 G k) h
  · cases h
end Go.Proofs.Ytblabbcmokldiaa.Vm
open Go Go.VM
set_option linter.unusedVariables false
set_option maxRecDepth 100000
set_option maxHeartbeats 4000000
namespace Go.Proofs.Ytblabbcmokldiaa.Vm
/-! ### cotillion/cotillionref14.Dom: function 40 -/
def P40_0h : Pat := { tmps := unds [.var (.sl 7) .ro, .var (.int .i64) .pr, .var (.int .i64) .pr, .undef, .undef, .undef, .undef, .var (.int .i64) .pr, .var (.int .i64) .pr] 46 [], boxes := nons [] 55 [] }
def P40_0x : Pat := { tmps := unds [] 7 (unds [.var (.int .i64) .pr] 47 []), boxes := nons [] 55 [] }
def b40_0 {R : Type} (G : ORC R) (k : Nat) (X : List V → Int → Int → Int → Int → Option R) (Ko : Int → Option R) (xl10 : List V) (xi11 xi12 : Int) (xi13 xi14 : Int) : Option R :=
  (bif (decide (xi14 < ((List.length xl10 : Nat) : Int))) then (bif ((decide (0 ≤ xi14)) && (decide (xi14 < ((List.length xl10 : Nat) : Int)))) then (nthK xl10 (Int.toNat xi14) fun e15 => (ca7 e15 fun c16 c17 c18 c19 c20 c21 c22 => (aI .i64 c16 fun n23 => (bif (n23 == 2) then (bif (xi14 != xi11) then (bif (xi14 != xi12) then (G 21 [(.sl 7 xl10), (.int .i64 xi11), (.int .i64 xi14)] fun o24 => (uB o24 fun b26 r25 => (unNil r25 (bif b26 then (G 21 [(.sl 7 xl10), (.int .i64 xi12), (.int .i64 xi14)] fun o27 => (uB o27 fun b29 r28 => (unNil r28 (bif b29 then (X xl10 xi11 xi12 xi14 (IntKind.i64.wrap (xi14 + 1))) else (X xl10 xi11 xi12 xi13 (IntKind.i64.wrap (xi14 + 1))))))) else (X xl10 xi11 xi12 xi13 (IntKind.i64.wrap (xi14 + 1))))))) else (X xl10 xi11 xi12 xi13 (IntKind.i64.wrap (xi14 + 1)))) else (X xl10 xi11 xi12 xi13 (IntKind.i64.wrap (xi14 + 1)))) else (X xl10 xi11 xi12 xi13 (IntKind.i64.wrap (xi14 + 1))))))) else none) else (Ko xi13))
def l40_0g {R : Type} (G : ORC R) (k : Nat) (Ko : Int → Option R) : Nat → List V → Int → Int → Int → Int → Option R
  | 0 => fun _ _ _ _ _ => none
  | j + 1 => b40_0 G k (l40_0g G k Ko j) Ko
def l40_0 {R : Type} (G : ORC R) (k : Nat) (xl10 : List V) (xi11 xi12 : Int) (xi13 xi14 : Int) (Ko : Int → Option R) : Option R := l40_0g G k Ko k xl10 xi11 xi12 xi13 xi14
def rd40_0 {R : Type} (G : ORC R) (k : Nat) (K : Ex → St → Option R) (j : Nat) (vs : List V) : Option R := match vs with
  | [(.sl 7 xl10), (.int .i64 xi11), (.int .i64 xi12), (.int .i64 xi13), (.int .i64 xi14)] => l40_0g G k (fun yi31 => K .normal (P40_0x.inst [(.int .i64 yi31)])) j xl10 xi11 xi12 xi13 xi14
  | _ => none
def L40 {R : Type} (G : ORC R) (k : Nat) : Nat → St → (Ex → St → Option R) → Option R
  | 0, S, K => P40_0h.mat S fun vs => rd40_0 G k K k vs
  | _, _, _ => none
def f40 {R : Type} (G : ORC R) (k : Nat) (al1 : List V) (ai2 ai3 : Int) (K : List V → Option R) : Option R :=
  (G 64 [(.sl 7 al1), (.int .i64 ai2)] fun o4 => (uB o4 fun b6 r5 => (unNil r5 (bif (!b6) then (K [(.int .i64 (-1))]) else (G 64 [(.sl 7 al1), (.int .i64 ai3)] fun o7 => (uB o7 fun b9 r8 => (unNil r8 (bif (!b9) then (K [(.int .i64 (-1))]) else (l40_0 G k al1 ai2 ai3 (-1) 0 (fun yi30 => (K [(.int .i64 yi30)])))))))))))
noncomputable def D40_0 : LoopD := { id := 0, body := loopAt 0 (bodyOf Try.f40), head := P40_0h, out := P40_0x, ret := default }
theorem l40_0_is {R : Type} (G : ORC R) (k : Nat) (X : List V → Option R) (K : Ex → St → Option R) (xl10 : List V) (xi11 xi12 : Int) (xi13 xi14 : Int) :
    roundOf (TAB.env 40) G (L40 G k) D40_0 X K [(.sl 7 xl10), (.int .i64 xi11), (.int .i64 xi12), (.int .i64 xi13), (.int .i64 xi14)] = b40_0 G k (fun xl10 xi11 xi12 xi13 xi14 => X [(.sl 7 xl10), (.int .i64 xi11), (.int .i64 xi12), (.int .i64 xi13), (.int .i64 xi14)]) (fun yi31 => K .normal (P40_0x.inst [(.int .i64 yi31)])) xl10 xi11 xi12 xi13 xi14 := by kernel_rfl
theorem f40_is {R : Type} (G : ORC R) (k : Nat) (K : List V → Option R) (al1 : List V) (ai2 ai3 : Int) :
    callF (TAB.env 40) G (L40 G k) Try.f40 S40 [(.sl 7 al1), (.int .i64 ai2), (.int .i64 ai3)] K = f40 G k al1 ai2 ai3 K := by kernel_rfl
theorem li40_0 {R : Type} (G : ORC R) (k : Nat) : LoopIs (TAB.env 40) G (L40 G k) 0 (loopAt 0 (bodyOf Try.f40)) :=
  ⟨D40_0, fun j vs K => rd40_0 G k K j vs, k, rfl, rfl, by kernel_rfl, by kernel_rfl, by kernel_rfl, (fun vs K => by unfold rd40_0; dsimp only; split <;> rfl),
    (fun j vs K r h => by
      unfold rd40_0 at h
      dsimp only at h
      split at h
      · rw [l40_0_is]; exact h
      · cases h), (fun S K r h => h)⟩
theorem lo40 : loopsOf (bodyOf Try.f40) = [(0, loopAt 0 (bodyOf Try.f40))] := by kernel_rfl
theorem la40 {R : Type} (G : ORC R) (k : Nat) : LoopsAre (TAB.env 40) G (L40 G k) (bodyOf Try.f40) :=
  loopsAre_of (by rw [lo40]; intro p hp; simp only [List.mem_cons, List.not_mem_nil, or_false] at hp; subst hp; exact li40_0 G k)
def g40 {R : Type} (G : ORC R) (k : Nat) (args : List V) (K : List V → Option R) : Option R := match args with
  | [(.sl 7 al1), (.int .i64 ai2), (.int .i64 ai3)] => f40 G k al1 ai2 ai3 K
  | _ => none
theorem s40 {R : Type} {G : ORC R} {k : Nat} (hG : Sound Try.prog TAB G) (args : List V) (K : List V → Option R) (r : R) (h : g40 G k args K = some r) : ∃ o, CallOK Try.prog TAB.env 40 args o ∧ K o = some r := by
  unfold g40 at h
  split at h
  · rw [← f40_is] at h
    exact callF_sound (f := 40) TAB_chk MO hG Try.func40 (sg := S40) (by kernel_rfl) (by kernel_rfl) (la40 G k) h
  · cases h
end Go.Proofs.Ytblabbcmokldiaa.Vm
open Go Go.VM
set_option linter.unusedVariables false
set_option maxRecDepth 100000
set_option maxHeartbeats 8000000
namespace Go.Proofs.Ytblabbcmokldiaa.Vm
section
variable {R : Type} {G : ORC R} {k : Nat} {K : List V → Option R}
def FindOK (G : ORC R) : Prop := ∀ (l : List Nd) (s : ByteArray) (K : List V → Option R), l.length ≤ 1000 → W (fun o => o = [.int .i64 (findN l s)]) K (G 19 [.sl 7 (l.map Nd.v), .str s] K)
theorem find_loop {Q : List V → Prop} {K : List V → Option R} {Ko : Unit → Option R} {Kr : Int → Option R} {l : List Nd} {s : ByteArray} (hl : l.length ≤ 1000)
    (hKo : findN l s = -1 → W Q K (Ko ())) (hKr : ∀ i, i = findN l s → W Q K (Kr i)) :
    ∀ (j i : Nat), l.length - i < j → findGo s (l.drop i) i = findN l s → W Q K (l19_0g G k Ko Kr j (l.map Nd.v) s i)
  | 0, i, h1, h2 => by omega
  | j + 1, i, h1, h2 => by
    show W Q K (b19_0 G k (l19_0g G k Ko Kr j) Ko Kr (l.map Nd.v) s i)
    unfold b19_0
    simp only [List.length_map]
    refine W_dec (fun h => ?_) (fun h => ?_)
    · refine W_and (W_yes (by omega) (W_yes h ?_))
      refine W_nthN (by omega) (fun n hn => W_nd ?_)
      rw [Int.toNat_natCast] at hn
      have hd : l.drop i = n :: l.drop (i + 1) := by
        have hi : i < l.length := by omega
        rw [List.drop_eq_getElem_cons hi]
        rw [List.getElem?_eq_getElem hi] at hn; cases hn; rfl
      refine W_ce7 (W_asStr ?_)
      rw [hd] at h2
      unfold findGo at h2
      refine W_bool (fun e => ?_) (fun e => ?_)
      · rw [if_pos (beq_iff_eq.1 e)] at h2
        exact hKr _ h2
      · rw [if_neg (fun e' => by rw [e', beq_self_eq_true] at e; cases e)] at h2
        rw [wrap_id (n := (i : Int) + 1) (by omega)]
        exact find_loop hl hKo hKr j (i + 1) (by omega) h2
    · refine hKo ?_
      rw [← h2, List.drop_eq_nil_of_le (by omega)]; rfl
theorem find_ok (hk : 10000 ≤ k) : FindOK (fun _ args (K : List V → Option R) => g19 G k args K) := by
  intro l s K hl
  show W _ K (f19 G k (l.map Nd.v) s K)
  unfold f19 l19_0
  exact find_loop (Q := fun o => o = [.int .i64 (findN l s)]) (K := K) (Ko := fun _ => K [.int .i64 (-1)]) (Kr := fun i => K [.int .i64 i]) hl (fun e => W_ret (by rw [e])) (fun i e => W_ret (by rw [e])) k 1 (by omega) rfl
def IsOK (G : ORC R) : Prop := ∀ (l : List V) (i : Int) (K : List V → Option R), W (fun o => o = [.bool (decide (0 ≤ i ∧ i < l.length))]) K (G 64 [.sl 7 l, .int .i64 i] K)
theorem is_ok : IsOK (fun _ args (K : List V → Option R) => g64 G k args K) := by
  intro l i K
  show W _ K (f64 G k l i K)
  unfold f64
  refine W_dec (fun h => ?_) (fun h => ?_)
  · exact W_ret (by congr 3; simp; omega)
  · exact W_ret (by congr 2; symm; rw [decide_eq_false]; omega)
def InOK (G : ORC R) : Prop := ∀ (l : List Nd) (a b : Int) (K : List V → Option R), W (fun o => o = [.bool (inN l a b)]) K (G 21 [.sl 7 (l.map Nd.v), .int .i64 a, .int .i64 b] K)
theorem in_ok (hI : IsOK G) : InOK (fun _ args (K : List V → Option R) => g21 G k args K) := by
  intro l a b K
  show W _ K (f21 G k (l.map Nd.v) a b K)
  unfold f21
  unfold IsOK at hI
  have no : ¬ (0 ≤ a ∧ a < l.length ∧ 0 ≤ b ∧ b < l.length ∧ a ≥ b) → inN l a b = false := fun h => by unfold inN; rw [decide_eq_false h]; rfl
  refine W_call (hI _ _ _) ?_
  rintro _ rfl
  refine W_uB (W_unNil ?_)
  simp only [List.length_map]
  refine W_dec (fun h1 => ?_) (fun h1 => W_ret (by rw [no (by omega)]))
  refine W_call (hI _ _ _) ?_
  rintro _ rfl
  refine W_uB (W_unNil ?_)
  simp only [List.length_map]
  refine W_dec (fun h2 => ?_) (fun h2 => W_ret (by rw [no (by omega)]))
  refine W_dec (fun h3 => ?_) (fun h3 => W_ret (by rw [no (by omega)]))
  refine W_and (W_yes h2.1 (W_yes h2.2 ?_))
  refine W_nthN (by omega) (fun n hn => W_nd ?_)
  refine W_ce7 (W_aI ?_)
  have e : inN l a b = decide (a ≤ n.last) := by
    unfold inN
    rw [decide_eq_true (show 0 ≤ a ∧ a < l.length ∧ 0 ≤ b ∧ b < l.length ∧ a ≥ b from ⟨h1.1, h1.2, h2.1, h2.2, h3⟩), hn]; rfl
  exact W_ret (by rw [e])
def DomOK (G : ORC R) : Prop := ∀ (l : List Nd) (a b : Int) (K : List V → Option R), l.length ≤ 1000 → W (fun o => o = [.int .i64 (domN l a b)]) K (G 40 [.sl 7 (l.map Nd.v), .int .i64 a, .int .i64 b] K)
theorem dom_no {l : List Nd} {a b : Int} (h : ¬ (0 ≤ a ∧ a < l.length) ∨ ¬ (0 ≤ b ∧ b < l.length)) : ∀ i, domGo l a b i = -1
  | 0 => rfl
  | i + 1 => by
    unfold domGo
    have e : domAt l a b i = false := by
      unfold domAt
      rcases h with h | h
      · rw [show inN l a i = false by unfold inN; rw [decide_eq_false (by omega)]; rfl]; simp
      · rw [show inN l b i = false by unfold inN; rw [decide_eq_false (by omega)]; rfl]; simp
    rw [if_neg (by rw [e]; simp)]
    exact dom_no h i
theorem dom_loop (hI : InOK G) {Q : List V → Prop} {K : List V → Option R} {Ko : Int → Option R} {l : List Nd} {a b : Int} (hl : l.length ≤ 1000)
    (hKo : W Q K (Ko (domN l a b))) :
    ∀ (j i : Nat), l.length - i < j → i ≤ l.length → W Q K (l40_0g G k Ko j (l.map Nd.v) a b (domGo l a b i) i)
  | 0, i, h1, h2 => by omega
  | j + 1, i, h1, h2 => by
    show W Q K (b40_0 G k (l40_0g G k Ko j) Ko (l.map Nd.v) a b (domGo l a b i) i)
    unfold b40_0
    simp only [List.length_map]
    unfold InOK at hI
    refine W_dec (fun h => ?_) (fun h => ?_)
    · have hi : i < l.length := by omega
      have hgo : ∀ d, domGo l a b (i + 1) = d → W Q K (l40_0g G k Ko j (l.map Nd.v) a b d (IntKind.i64.wrap ((i : Int) + 1))) := by
        intro d hd
        rw [wrap_id (n := (i : Int) + 1) (by omega), ← hd]
        exact dom_loop hI hl hKo j (i + 1) (by omega) (by omega)
      have hN : domAt l a b i = false → domGo l a b (i + 1) = domGo l a b i := fun e => by
        show (if domAt l a b i = true then (i : Int) else domGo l a b i) = _
        rw [if_neg (by rw [e]; simp)]
      have hY : domAt l a b i = true → domGo l a b (i + 1) = i := fun e => by
        show (if domAt l a b i = true then (i : Int) else domGo l a b i) = _
        rw [if_pos e]
      refine W_and (W_yes (by omega) (W_yes h ?_))
      refine W_nthN (by omega) (fun n hn => W_nd ?_)
      rw [Int.toNat_natCast] at hn
      have hat : domAt l a b i = (decide (n.kind = 2) && decide ((i : Int) ≠ a) && decide ((i : Int) ≠ b) && inN l a i && inN l b i) := by unfold domAt; rw [hn]
      refine W_ce7 (W_aI ?_)
      refine W_beqI (fun e1 => ?_) (fun e1 => hgo _ (hN (by rw [hat, decide_eq_false e1]; rfl)))
      refine W_bool (fun e2 => ?_) (fun e2 => hgo _ (hN (by rw [hat]; simp at e2; simp [e2])))
      refine W_bool (fun e3 => ?_) (fun e3 => hgo _ (hN (by rw [hat]; simp at e3; simp [e3])))
      refine W_call (hI _ _ _ _) ?_
      rintro _ rfl
      refine W_uB (W_unNil ?_)
      refine W_bool (fun e4 => ?_) (fun e4 => hgo _ (hN (by rw [hat, e4]; simp)))
      refine W_call (hI _ _ _ _) ?_
      rintro _ rfl
      refine W_uB (W_unNil ?_)
      refine W_bool (fun e5 => ?_) (fun e5 => hgo _ (hN (by rw [hat, e5]; simp)))
      refine hgo _ (hY ?_)
      rw [hat, e4, e5, decide_eq_true e1]
      simp at e2 e3
      simp [e2, e3]
    · have he : i = l.length := by omega
      subst he
      exact hKo
theorem dom_ok (hk : 10000 ≤ k) (hIs : IsOK G) (hI : InOK G) : DomOK (fun _ args (K : List V → Option R) => g40 G k args K) := by
  intro l a b K hl
  show W _ K (f40 G k (l.map Nd.v) a b K)
  unfold f40
  unfold IsOK at hIs
  refine W_call (hIs _ _ _) ?_
  rintro _ rfl
  refine W_uB (W_unNil (W_not ?_))
  simp only [List.length_map]
  refine W_dec (fun h1 => ?_) (fun h1 => W_ret (by unfold domN; rw [dom_no (.inl h1)]))
  refine W_call (hIs _ _ _) ?_
  rintro _ rfl
  refine W_uB (W_unNil (W_not ?_))
  simp only [List.length_map]
  refine W_dec (fun h2 => ?_) (fun h2 => W_ret (by unfold domN; rw [dom_no (.inr h2)]))
  unfold l40_0
  exact dom_loop (Q := fun o => o = [.int .i64 (domN l a b)]) (K := K) (Ko := fun d => K [.int .i64 d]) hI hl (W_ret rfl) k 0 (by omega) (by omega)
end
end Go.Proofs.Ytblabbcmokldiaa.Vm
open Go Go.VM
set_option linter.unusedVariables false
set_option maxRecDepth 100000
set_option maxHeartbeats 4000000
namespace Go.Proofs.Ytblabbcmokldiaa.Vm
/-! ### cotillion/cotillionlaw13.FlatFull: function 6 -/
def P6_0h : Pat := { tmps := unds [] 7 (unds [.var (.sl 7) .ro, .var (.sl 1) .ro] 6 (unds [.var (.int .i64) .pr, .var (.int .i64) .pr] 112 [])), boxes := nons [] 129 [] }
def P6_0x : Pat := { tmps := unds [] 7 (unds [.var (.sl 7) .ro, .var (.sl 1) .ro] 6 (unds [.var (.int .i64) .pr] 113 [])), boxes := nons [] 129 [] }
def P6_0r : Pat := { tmps := unds [] 6 (unds [.var .bool .pr] 122 []), boxes := nons [] 129 [] }
def b6_0 {R : Type} (G : ORC R) (k : Nat) (X : List V → List V → Int → Int → Option R) (Ko : List V → List V → Int → Option R) (Kr : Bool → Option R) (xl64 xl65 : List V) (xi66 xi67 : Int) : Option R :=
  (bif (decide (xi67 < ((List.length xl64 : Nat) : Int))) then (G 34 [(.sl 1 xl65), (.int .i64 xi67)] fun o68 => (uB o68 fun b70 r69 => (unNil r69 (bif (!b70) then (G 35 [(.sl 1 xl65), (.sl 1 [(.int .i64 xi67)])] fun o71 => (uL 1 o71 fun l73 r72 => (unNil r72 (G 29 [(.sl 7 xl64), (.sl 1 l73)] fun o74 => (uB o74 fun b76 r75 => (unNil r75 (bif b76 then (Kr false) else (X xl64 xl65 xi66 (IntKind.i64.wrap (xi67 + 1)))))))))) else (X xl64 xl65 xi66 (IntKind.i64.wrap (xi67 + 1))))))) else (Ko xl64 xl65 xi66))
def l6_0g {R : Type} (G : ORC R) (k : Nat) (Ko : List V → List V → Int → Option R) (Kr : Bool → Option R) : Nat → List V → List V → Int → Int → Option R
  | 0 => fun _ _ _ _ => none
  | j + 1 => b6_0 G k (l6_0g G k Ko Kr j) Ko Kr
def l6_0 {R : Type} (G : ORC R) (k : Nat) (xl64 xl65 : List V) (xi66 xi67 : Int) (Ko : List V → List V → Int → Option R) (Kr : Bool → Option R) : Option R := l6_0g G k Ko Kr k xl64 xl65 xi66 xi67
def rd6_0 {R : Type} (G : ORC R) (k : Nat) (K : Ex → St → Option R) (j : Nat) (vs : List V) : Option R := match vs with
  | [(.sl 7 xl64), (.sl 1 xl65), (.int .i64 xi66), (.int .i64 xi67)] => l6_0g G k (fun yl95 yl96 yi97 => K .normal (P6_0x.inst [(.sl 7 yl95), (.sl 1 yl96), (.int .i64 yi97)])) (fun yb98 => K .ret (P6_0r.inst [(.bool yb98)])) j xl64 xl65 xi66 xi67
  | _ => none
def L6 {R : Type} (G : ORC R) (k : Nat) : Nat → St → (Ex → St → Option R) → Option R
  | 0, S, K => P6_0h.mat S fun vs => rd6_0 G k K k vs
  | _, _, _ => none
def f6 {R : Type} (G : ORC R) (k : Nat) (al1 al2 : List V) (ai3 : Int) (K : List V → Option R) : Option R :=
  (bif (decide (((List.length al1 : Nat) : Int) > 200)) then (G 13 [] fun o4 => (uB o4 fun b6 r5 => (unNil r5 (K [(.bool b6)])))) else (bif (decide (((List.length al2 : Nat) : Int) > 40)) then (G 13 [] fun o7 => (uB o7 fun b9 r8 => (unNil r8 (K [(.bool b9)])))) else (G 15 [(.sl 1 al1)] fun o10 => (uA o10 fun l12 r11 => (uS l12 fun s14 r13 => (uI .i64 r13 fun n16 r15 => (uI .i64 r15 fun n18 r17 => (uL 3 r17 fun l20 r19 => (uL 3 r19 fun l22 r21 => (uL 3 r21 fun l24 r23 => (uL 7 r23 fun l26 r25 => (uI .i64 r25 fun n28 r27 => (unNil r27 (unNil r11 (G 14 [(.agg [(.str s14), (.int .i64 n16), (.int .i64 n18), (.sl 3 l20), (.sl 3 l22), (.sl 3 l24), (.sl 7 l26), (.int .i64 n28)])] fun o29 => (uL 7 o29 fun l31 r30 => (unNil r30 (G 33 [(.sl 7 l31), (.int .i64 0), (.sl 1 al2), (.int .i64 0)] fun o32 => (uL 1 o32 fun l34 r33 => (uI .i64 r33 fun n36 r35 => (unNil r35 (G 29 [(.sl 7 l31), (.sl 1 l34)] fun o37 => (uB o37 fun b39 r38 => (unNil r38 (bif (!b39) then (K [(.bool false)]) else (G 31 [(.sl 7 l31), (.sl 1 l34)] fun o40 => (uL 1 o40 fun l42 r41 => (unNil r41 (bif (((List.length l42 : Nat) : Int) == 0) then (K [(.bool false)]) else (G 25 [(.int .i64 ai3), (.int .i64 ((List.length l42 : Nat) : Int))] fun o43 => (uI .i64 o43 fun n45 r44 => (unNil r44 (bif (((decide (0 ≤ n45)) && (decide (n45 ≤ ((List.length l42 : Nat) : Int)))) && (decide (((List.length l42 : Nat) : Int) ≤ ((List.length l42 : Nat) : Int)))) then (bif (decide (0 + List.length (List.drop (Int.toNat n45) (List.take (Int.toNat ((List.length l42 : Nat) : Int)) l42)) ≤ 1073741824)) then (bif ((decide (0 ≤ n45)) && (decide (n45 ≤ ((List.length l42 : Nat) : Int)))) then (bif (decide (List.length ([] ++ (List.drop (Int.toNat n45) (List.take (Int.toNat ((List.length l42 : Nat) : Int)) l42))) + List.length (List.take (Int.toNat n45) l42) ≤ 1073741824)) then (G 27 [(.sl 7 l31), (.sl 1 (([] ++ (List.drop (Int.toNat n45) (List.take (Int.toNat ((List.length l42 : Nat) : Int)) l42))) ++ (List.take (Int.toNat n45) l42)))] fun o46 => (uL 1 o46 fun l48 r47 => (uB r47 fun b50 r49 => (unNil r49 (bif (decide (0 + List.length l42 ≤ 1073741824)) then (bif ((decide (0 ≤ n45)) && (decide (n45 < ((List.length l42 : Nat) : Int)))) then (nthK l42 (Int.toNat n45) fun e51 => (aI .i64 e51 fun n52 => (bif (decide (List.length ([] ++ l42) + 1 ≤ 1073741824)) then (G 27 [(.sl 7 l31), (.sl 1 (([] ++ l42) ++ [(.int .i64 n52)]))] fun o53 => (uL 1 o53 fun l55 r54 => (uB r54 fun b57 r56 => (unNil r56 (bif (!b50) then (K [(.bool false)]) else (bif b57 then (K [(.bool false)]) else (G 22 [(.sl 1 l48), (.sl 1 l34)] fun o58 => (uB o58 fun b60 r59 => (unNil r59 (bif (!b60) then (K [(.bool false)]) else (G 25 [(.int .i64 ai3), (.int .i64 ((List.length l34 : Nat) : Int))] fun o61 => (uI .i64 o61 fun n63 r62 => (unNil r62 (l6_0 G k l31 l34 (IntKind.i64.wrap (1 + n63)) 0 (fun yl77 yl78 yi79 => (bif (yi79 == ((List.length yl78 : Nat) : Int)) then (G 13 [] fun o80 => (uB o80 fun b82 r81 => (unNil r81 (K [(.bool b82)])))) else (bif ((decide (0 ≤ yi79)) && (decide (yi79 < ((List.length yl78 : Nat) : Int)))) then (nthK yl78 (Int.toNat yi79) fun e83 => (aI .i64 e83 fun n84 => (G 36 [(.sl 1 yl78), (.sl 1 [(.int .i64 n84)])] fun o85 => (uL 1 o85 fun l87 r86 => (unNil r86 (G 29 [(.sl 7 yl77), (.sl 1 l87)] fun o88 => (uB o88 fun b90 r89 => (unNil r89 (bif (!b90) then (G 13 [] fun o91 => (uB o91 fun b93 r92 => (unNil r92 (K [(.bool b93)])))) else (K [(.bool false)])))))))))) else none))) (fun yb94 => (K [(.bool yb94)])))))))))))))))) else none))) else none) else none))))) else none) else none) else none) else none)))))))))))))))))))))))))))))))))
noncomputable def D6_0 : LoopD := { id := 0, body := loopAt 0 (bodyOf Try.f6), head := P6_0h, out := P6_0x, ret := P6_0r }
theorem l6_0_is {R : Type} (G : ORC R) (k : Nat) (X : List V → Option R) (K : Ex → St → Option R) (xl64 xl65 : List V) (xi66 xi67 : Int) :
    roundOf (TAB.env 6) G (L6 G k) D6_0 X K [(.sl 7 xl64), (.sl 1 xl65), (.int .i64 xi66), (.int .i64 xi67)] = b6_0 G k (fun xl64 xl65 xi66 xi67 => X [(.sl 7 xl64), (.sl 1 xl65), (.int .i64 xi66), (.int .i64 xi67)]) (fun yl95 yl96 yi97 => K .normal (P6_0x.inst [(.sl 7 yl95), (.sl 1 yl96), (.int .i64 yi97)])) (fun yb98 => K .ret (P6_0r.inst [(.bool yb98)])) xl64 xl65 xi66 xi67 := by kernel_rfl
theorem f6_is {R : Type} (G : ORC R) (k : Nat) (K : List V → Option R) (al1 al2 : List V) (ai3 : Int) :
    callF (TAB.env 6) G (L6 G k) Try.f6 S6 [(.sl 1 al1), (.sl 1 al2), (.int .i64 ai3)] K = f6 G k al1 al2 ai3 K := by kernel_rfl
theorem li6_0 {R : Type} (G : ORC R) (k : Nat) : LoopIs (TAB.env 6) G (L6 G k) 0 (loopAt 0 (bodyOf Try.f6)) :=
  ⟨D6_0, fun j vs K => rd6_0 G k K j vs, k, rfl, rfl, by kernel_rfl, by kernel_rfl, by kernel_rfl, (fun vs K => by unfold rd6_0; dsimp only; split <;> rfl),
    (fun j vs K r h => by
      unfold rd6_0 at h
      dsimp only at h
      split at h
      · rw [l6_0_is]; exact h
      · cases h), (fun S K r h => h)⟩
theorem lo6 : loopsOf (bodyOf Try.f6) = [(0, loopAt 0 (bodyOf Try.f6))] := by kernel_rfl
theorem la6 {R : Type} (G : ORC R) (k : Nat) : LoopsAre (TAB.env 6) G (L6 G k) (bodyOf Try.f6) :=
  loopsAre_of (by rw [lo6]; intro p hp; simp only [List.mem_cons, List.not_mem_nil, or_false] at hp; subst hp; exact li6_0 G k)
def g6 {R : Type} (G : ORC R) (k : Nat) (args : List V) (K : List V → Option R) : Option R := match args with
  | [(.sl 1 al1), (.sl 1 al2), (.int .i64 ai3)] => f6 G k al1 al2 ai3 K
  | _ => none
theorem s6 {R : Type} {G : ORC R} {k : Nat} (hG : Sound Try.prog TAB G) (args : List V) (K : List V → Option R) (r : R) (h : g6 G k args K = some r) : ∃ o, CallOK Try.prog TAB.env 6 args o ∧ K o = some r := by
  unfold g6 at h
  split at h
  · rw [← f6_is] at h
    exact callF_sound (f := 6) TAB_chk MO hG Try.func6 (sg := S6) (by kernel_rfl) (by kernel_rfl) (la6 G k) h
  · cases h
end Go.Proofs.Ytblabbcmokldiaa.Vm
open Go Go.VM
set_option linter.unusedVariables false
set_option maxRecDepth 100000
set_option maxHeartbeats 4000000
namespace Go.Proofs.Ytblabbcmokldiaa.Vm
/-! ### cotillion/cotillionlaw13.known: function 13 -/
def L13 {R : Type} (_ : ORC R) (_ : Nat) : Nat → St → (Ex → St → Option R) → Option R := fun _ _ _ => none
def f13 {R : Type} (G : ORC R) (k : Nat)  (K : List V → Option R) : Option R :=
  (G 17 [(.agg [(.str ⟨#[]⟩), (.int .i64 0), (.int .i64 0), (.sl 3 []), (.sl 3 []), (.sl 3 []), (.sl 7 [(.agg [(.int .i64 1), (.str ⟨#[97]⟩), (.sl 8 []), (.sl 8 []), (.sl 5 []), (.sl 7 [(.agg [(.int .i64 1), (.str ⟨#[98]⟩), (.sl 8 []), (.sl 8 []), (.sl 5 []), (.sl 7 []), (.int .i64 0)]), (.agg [(.int .i64 3), (.str ⟨#[104]⟩), (.sl 8 []), (.sl 8 []), (.sl 5 []), (.sl 7 []), (.int .i64 0)])]), (.int .i64 0)]), (.agg [(.int .i64 1), (.str ⟨#[99]⟩), (.sl 8 []), (.sl 8 []), (.sl 5 []), (.sl 7 []), (.int .i64 0)])]), (.int .i64 0)])] fun o1 => (uL 7 o1 fun l3 r2 => (unNil r2 (bif (((List.length l3 : Nat) : Int) == 5) then (bif (decide (0 < ((List.length l3 : Nat) : Int))) then (nthK l3 0 fun e4 => (ca7 e4 fun c5 c6 c7 c8 c9 c10 c11 => (aI .i64 c7 fun n12 => (bif (n12 == 4) then (bif (decide (0 < ((List.length l3 : Nat) : Int))) then (nthK l3 0 fun e13 => (ca7 e13 fun c14 c15 c16 c17 c18 c19 c20 => (aI .i64 c17 fun n21 => (bif (n21 == 1) then (bif (decide (1 < ((List.length l3 : Nat) : Int))) then (nthK l3 1 fun e22 => (ca7 e22 fun c23 c24 c25 c26 c27 c28 c29 => (aI .i64 c25 fun n30 => (bif (n30 == 3) then (bif (decide (1 < ((List.length l3 : Nat) : Int))) then (nthK l3 1 fun e31 => (ca7 e31 fun c32 c33 c34 c35 c36 c37 c38 => (aI .i64 c35 fun n39 => (bif (n39 == 2) then (bif (decide (3 < ((List.length l3 : Nat) : Int))) then (nthK l3 3 fun e40 => (ca7 e40 fun c41 c42 c43 c44 c45 c46 c47 => (aI .i64 c41 fun n48 => (bif (n48 == 4) then (bif (decide (4 < ((List.length l3 : Nat) : Int))) then (nthK l3 4 fun e49 => (ca7 e49 fun c50 c51 c52 c53 c54 c55 c56 => (aI .i64 c51 fun n57 => (bif (n57 == 0) then (G 18 [(.sl 7 l3), (.str ⟨#[99]⟩)] fun o58 => (uI .i64 o58 fun n60 r59 => (unNil r59 (bif (n60 == 4) then (G 20 [(.sl 7 l3), (.int .i64 3), (.int .i64 1)] fun o61 => (uB o61 fun b63 r62 => (unNil r62 (bif b63 then (G 29 [(.sl 7 l3), (.sl 1 [(.int .i64 0), (.int .i64 1), (.int .i64 2)])] fun o64 => (uB o64 fun b66 r65 => (unNil r65 (bif b66 then (G 29 [(.sl 7 l3), (.sl 1 [(.int .i64 0), (.int .i64 1)])] fun o67 => (uB o67 fun b69 r68 => (unNil r68 (K [(.bool (!b69))])))) else (K [(.bool false)]))))) else (K [(.bool false)]))))) else (K [(.bool false)]))))) else (K [(.bool false)]))))) else none) else (K [(.bool false)]))))) else none) else (K [(.bool false)]))))) else none) else (K [(.bool false)]))))) else none) else (K [(.bool false)]))))) else none) else (K [(.bool false)]))))) else none) else (K [(.bool false)])))))
theorem f13_is {R : Type} (G : ORC R) (k : Nat) (K : List V → Option R)  :
    callF (TAB.env 13) G (L13 G k) Try.f13 S13 [] K = f13 G k  K := by kernel_rfl
theorem lo13 : loopsOf (bodyOf Try.f13) = [] := by kernel_rfl
theorem la13 {R : Type} (G : ORC R) (k : Nat) : LoopsAre (TAB.env 13) G (L13 G k) (bodyOf Try.f13) :=
  loopsAre_of (by rw [lo13]; intro p hp; cases hp)
def g13 {R : Type} (G : ORC R) (k : Nat) (args : List V) (K : List V → Option R) : Option R := match args with
  | [] => f13 G k  K
  | _ => none
theorem s13 {R : Type} {G : ORC R} {k : Nat} (hG : Sound Try.prog TAB G) (args : List V) (K : List V → Option R) (r : R) (h : g13 G k args K = some r) : ∃ o, CallOK Try.prog TAB.env 13 args o ∧ K o = some r := by
  unfold g13 at h
  split at h
  · rw [← f13_is] at h
    exact callF_sound (f := 13) TAB_chk MO hG Try.func13 (sg := S13) (by kernel_rfl) (by kernel_rfl) (la13 G k) h
  · cases h
end Go.Proofs.Ytblabbcmokldiaa.Vm
open Go Go.VM
set_option linter.unusedVariables false
set_option maxRecDepth 100000
set_option maxHeartbeats 4000000
namespace Go.Proofs.Ytblabbcmokldiaa.Vm
/-! ### cotillion/cotillionlaw13.made: function 15 -/
def L15 {R : Type} (_ : ORC R) (_ : Nat) : Nat → St → (Ex → St → Option R) → Option R := fun _ _ _ => none
def f15 {R : Type} (G : ORC R) (k : Nat) (al1 : List V) (K : List V → Option R) : Option R :=
  (G 59 [(.str ⟨#[99]⟩), (.int .i64 1), (.sl 1 al1), (.int .i64 0)] fun o2 => (uA o2 fun l4 r3 => (uS l4 fun s6 r5 => (uI .i64 r5 fun n8 r7 => (uI .i64 r7 fun n10 r9 => (uL 3 r9 fun l12 r11 => (uL 3 r11 fun l14 r13 => (uL 3 r13 fun l16 r15 => (uL 7 r15 fun l18 r17 => (uI .i64 r17 fun n20 r19 => (unNil r19 (uI .i64 r3 fun n22 r21 => (unNil r21 (K [(.agg [(.str s6), (.int .i64 n8), (.int .i64 n10), (.sl 3 l12), (.sl 3 l14), (.sl 3 l16), (.sl 7 l18), (.int .i64 n20)])]))))))))))))))
theorem f15_is {R : Type} (G : ORC R) (k : Nat) (K : List V → Option R) (al1 : List V) :
    callF (TAB.env 15) G (L15 G k) Try.f15 S15 [(.sl 1 al1)] K = f15 G k al1 K := by kernel_rfl
theorem lo15 : loopsOf (bodyOf Try.f15) = [] := by kernel_rfl
theorem la15 {R : Type} (G : ORC R) (k : Nat) : LoopsAre (TAB.env 15) G (L15 G k) (bodyOf Try.f15) :=
  loopsAre_of (by rw [lo15]; intro p hp; cases hp)
def g15 {R : Type} (G : ORC R) (k : Nat) (args : List V) (K : List V → Option R) : Option R := match args with
  | [(.sl 1 al1)] => f15 G k al1 K
  | _ => none
theorem s15 {R : Type} {G : ORC R} {k : Nat} (hG : Sound Try.prog TAB G) (args : List V) (K : List V → Option R) (r : R) (h : g15 G k args K = some r) : ∃ o, CallOK Try.prog TAB.env 15 args o ∧ K o = some r := by
  unfold g15 at h
  split at h
  · rw [← f15_is] at h
    exact callF_sound (f := 15) TAB_chk MO hG Try.func15 (sg := S15) (by kernel_rfl) (by kernel_rfl) (la15 G k) h
  · cases h
end Go.Proofs.Ytblabbcmokldiaa.Vm
open Go Go.VM
set_option linter.unusedVariables false
set_option maxRecDepth 100000
set_option maxHeartbeats 4000000
namespace Go.Proofs.Ytblabbcmokldiaa.Vm
/-! ### cotillion/flat.Nodes: function 17 -/
def L17 {R : Type} (_ : ORC R) (_ : Nat) : Nat → St → (Ex → St → Option R) → Option R := fun _ _ _ => none
def f17 {R : Type} (G : ORC R) (k : Nat) (as1 : ByteArray) (ai2 ai3 : Int) (al4 al5 : List V) (al6 al7 : List V) (ai8 : Int) (K : List V → Option R) : Option R :=
  (G 60 [(.sl 7 []), (.agg [(.int .i64 2), (.int .i64 (-1)), (.int .i64 0), (.int .i64 (-1)), (.int .i64 (-1)), (.int .i64 (-1)), (.str ⟨#[]⟩)]), (.sl 7 al7)] fun o9 => (uL 7 o9 fun l11 r10 => (unNil r10 (K [(.sl 7 l11)]))))
theorem f17_is {R : Type} (G : ORC R) (k : Nat) (K : List V → Option R) (as1 : ByteArray) (ai2 ai3 : Int) (al4 al5 : List V) (al6 al7 : List V) (ai8 : Int) :
    callF (TAB.env 17) G (L17 G k) Try.f17 S17 [(.agg [(.str as1), (.int .i64 ai2), (.int .i64 ai3), (.sl 3 al4), (.sl 3 al5), (.sl 3 al6), (.sl 7 al7), (.int .i64 ai8)])] K = f17 G k as1 ai2 ai3 al4 al5 al6 al7 ai8 K := by kernel_rfl
theorem lo17 : loopsOf (bodyOf Try.f17) = [] := by kernel_rfl
theorem la17 {R : Type} (G : ORC R) (k : Nat) : LoopsAre (TAB.env 17) G (L17 G k) (bodyOf Try.f17) :=
  loopsAre_of (by rw [lo17]; intro p hp; cases hp)
def g17 {R : Type} (G : ORC R) (k : Nat) (args : List V) (K : List V → Option R) : Option R := match args with
  | [(.agg [(.str as1), (.int .i64 ai2), (.int .i64 ai3), (.sl 3 al4), (.sl 3 al5), (.sl 3 al6), (.sl 7 al7), (.int .i64 ai8)])] => f17 G k as1 ai2 ai3 al4 al5 al6 al7 ai8 K
  | _ => none
theorem s17 {R : Type} {G : ORC R} {k : Nat} (hG : Sound Try.prog TAB G) (args : List V) (K : List V → Option R) (r : R) (h : g17 G k args K = some r) : ∃ o, CallOK Try.prog TAB.env 17 args o ∧ K o = some r := by
  unfold g17 at h
  split at h
  · rw [← f17_is] at h
    exact callF_sound (f := 17) TAB_chk MO hG Try.func17 (sg := S17) (by kernel_rfl) (by kernel_rfl) (la17 G k) h
  · cases h
end Go.Proofs.Ytblabbcmokldiaa.Vm
open Go Go.VM
set_option linter.unusedVariables false
set_option maxRecDepth 100000
set_option maxHeartbeats 4000000
namespace Go.Proofs.Ytblabbcmokldiaa.Vm
/-! ### cotillion/flat.Find: function 18 -/
def L18 {R : Type} (_ : ORC R) (_ : Nat) : Nat → St → (Ex → St → Option R) → Option R := fun _ _ _ => none
def f18 {R : Type} (G : ORC R) (k : Nat) (al1 : List V) (as2 : ByteArray) (K : List V → Option R) : Option R :=
  (bif (ByteArray.toList as2 == ByteArray.toList ⟨#[]⟩) then (K [(.int .i64 (-1))]) else (G 65597 [(.sl 7 al1), (.str as2)] fun o3 => (uI .i64 o3 fun n5 r4 => (uS r4 fun s7 r6 => (unNil r6 (K [(.int .i64 n5)]))))))
theorem f18_is {R : Type} (G : ORC R) (k : Nat) (K : List V → Option R) (al1 : List V) (as2 : ByteArray) :
    callF (TAB.env 18) G (L18 G k) Try.f18 S18 [(.sl 7 al1), (.str as2)] K = f18 G k al1 as2 K := by kernel_rfl
theorem lo18 : loopsOf (bodyOf Try.f18) = [] := by kernel_rfl
theorem la18 {R : Type} (G : ORC R) (k : Nat) : LoopsAre (TAB.env 18) G (L18 G k) (bodyOf Try.f18) :=
  loopsAre_of (by rw [lo18]; intro p hp; cases hp)
def g18 {R : Type} (G : ORC R) (k : Nat) (args : List V) (K : List V → Option R) : Option R := match args with
  | [(.sl 7 al1), (.str as2)] => f18 G k al1 as2 K
  | _ => none
theorem s18 {R : Type} {G : ORC R} {k : Nat} (hG : Sound Try.prog TAB G) (args : List V) (K : List V → Option R) (r : R) (h : g18 G k args K = some r) : ∃ o, CallOK Try.prog TAB.env 18 args o ∧ K o = some r := by
  unfold g18 at h
  split at h
  · rw [← f18_is] at h
    exact callF_sound (f := 18) TAB_chk MO hG Try.func18 (sg := S18) (by kernel_rfl) (by kernel_rfl) (la18 G k) h
  · cases h
end Go.Proofs.Ytblabbcmokldiaa.Vm
open Go Go.VM
set_option linter.unusedVariables false
set_option maxRecDepth 100000
set_option maxHeartbeats 4000000
namespace Go.Proofs.Ytblabbcmokldiaa.Vm
/-! ### cotillion/flat.In: function 20 -/
def L20 {R : Type} (_ : ORC R) (_ : Nat) : Nat → St → (Ex → St → Option R) → Option R := fun _ _ _ => none
def f20 {R : Type} (G : ORC R) (k : Nat) (al1 : List V) (ai2 ai3 : Int) (K : List V → Option R) : Option R :=
  (G 63 [(.sl 7 al1), (.int .i64 ai2)] fun o4 => (uB o4 fun b6 r5 => (unNil r5 (bif b6 then (G 63 [(.sl 7 al1), (.int .i64 ai3)] fun o7 => (uB o7 fun b9 r8 => (unNil r8 (bif b9 then (bif (decide (ai2 ≥ ai3)) then (bif ((decide (0 ≤ ai3)) && (decide (ai3 < ((List.length al1 : Nat) : Int)))) then (nthK al1 (Int.toNat ai3) fun e10 => (ca7 e10 fun c11 c12 c13 c14 c15 c16 c17 => (aI .i64 c13 fun n18 => (K [(.bool (decide (ai2 ≤ n18)))])))) else none) else (K [(.bool false)])) else (K [(.bool false)]))))) else (K [(.bool false)])))))
theorem f20_is {R : Type} (G : ORC R) (k : Nat) (K : List V → Option R) (al1 : List V) (ai2 ai3 : Int) :
    callF (TAB.env 20) G (L20 G k) Try.f20 S20 [(.sl 7 al1), (.int .i64 ai2), (.int .i64 ai3)] K = f20 G k al1 ai2 ai3 K := by kernel_rfl
theorem lo20 : loopsOf (bodyOf Try.f20) = [] := by kernel_rfl
theorem la20 {R : Type} (G : ORC R) (k : Nat) : LoopsAre (TAB.env 20) G (L20 G k) (bodyOf Try.f20) :=
  loopsAre_of (by rw [lo20]; intro p hp; cases hp)
def g20 {R : Type} (G : ORC R) (k : Nat) (args : List V) (K : List V → Option R) : Option R := match args with
  | [(.sl 7 al1), (.int .i64 ai2), (.int .i64 ai3)] => f20 G k al1 ai2 ai3 K
  | _ => none
theorem s20 {R : Type} {G : ORC R} {k : Nat} (hG : Sound Try.prog TAB G) (args : List V) (K : List V → Option R) (r : R) (h : g20 G k args K = some r) : ∃ o, CallOK Try.prog TAB.env 20 args o ∧ K o = some r := by
  unfold g20 at h
  split at h
  · rw [← f20_is] at h
    exact callF_sound (f := 20) TAB_chk MO hG Try.func20 (sg := S20) (by kernel_rfl) (by kernel_rfl) (la20 G k) h
  · cases h
end Go.Proofs.Ytblabbcmokldiaa.Vm
open Go Go.VM
set_option linter.unusedVariables false
set_option maxRecDepth 100000
set_option maxHeartbeats 4000000
namespace Go.Proofs.Ytblabbcmokldiaa.Vm
/-! ### cotillion/cotillionref3.Same: function 22 -/
def P22_0h : Pat := { tmps := unds [.var (.sl 1) .ro, .var (.sl 1) .ro, .undef, .undef, .undef, .var (.int .i64) .pr] 20 [], boxes := nons [] 26 [] }
def P22_0x : Pat := { tmps := unds [] 26 [], boxes := nons [] 26 [] }
def P22_0r : Pat := { tmps := unds [.undef, .undef, .undef, .undef, .var .bool .pr] 21 [], boxes := nons [] 26 [] }
def b22_0 {R : Type} (G : ORC R) (k : Nat) (X : List V → List V → Int → Option R) (Ko : Unit → Option R) (Kr : Bool → Option R) (xl3 xl4 : List V) (xi5 : Int) : Option R :=
  (bif (decide (xi5 < ((List.length xl3 : Nat) : Int))) then (bif ((decide (0 ≤ xi5)) && (decide (xi5 < ((List.length xl3 : Nat) : Int)))) then (nthK xl3 (Int.toNat xi5) fun e6 => (aI .i64 e6 fun n7 => (bif ((decide (0 ≤ xi5)) && (decide (xi5 < ((List.length xl4 : Nat) : Int)))) then (nthK xl4 (Int.toNat xi5) fun e8 => (aI .i64 e8 fun n9 => (bif (n7 != n9) then (Kr false) else (X xl3 xl4 (IntKind.i64.wrap (xi5 + 1)))))) else none))) else none) else (Ko ()))
def l22_0g {R : Type} (G : ORC R) (k : Nat) (Ko : Unit → Option R) (Kr : Bool → Option R) : Nat → List V → List V → Int → Option R
  | 0 => fun _ _ _ => none
  | j + 1 => b22_0 G k (l22_0g G k Ko Kr j) Ko Kr
def l22_0 {R : Type} (G : ORC R) (k : Nat) (xl3 xl4 : List V) (xi5 : Int) (Ko : Unit → Option R) (Kr : Bool → Option R) : Option R := l22_0g G k Ko Kr k xl3 xl4 xi5
def rd22_0 {R : Type} (G : ORC R) (k : Nat) (K : Ex → St → Option R) (j : Nat) (vs : List V) : Option R := match vs with
  | [(.sl 1 xl3), (.sl 1 xl4), (.int .i64 xi5)] => l22_0g G k (fun _ => K .normal (P22_0x.inst [])) (fun yb11 => K .ret (P22_0r.inst [(.bool yb11)])) j xl3 xl4 xi5
  | _ => none
def L22 {R : Type} (G : ORC R) (k : Nat) : Nat → St → (Ex → St → Option R) → Option R
  | 0, S, K => P22_0h.mat S fun vs => rd22_0 G k K k vs
  | _, _, _ => none
def f22 {R : Type} (G : ORC R) (k : Nat) (al1 al2 : List V) (K : List V → Option R) : Option R :=
  (bif (((List.length al1 : Nat) : Int) != ((List.length al2 : Nat) : Int)) then (K [(.bool false)]) else (l22_0 G k al1 al2 0 (fun (_ : Unit) => (K [(.bool true)])) (fun yb10 => (K [(.bool yb10)]))))
noncomputable def D22_0 : LoopD := { id := 0, body := loopAt 0 (bodyOf Try.f22), head := P22_0h, out := P22_0x, ret := P22_0r }
theorem l22_0_is {R : Type} (G : ORC R) (k : Nat) (X : List V → Option R) (K : Ex → St → Option R) (xl3 xl4 : List V) (xi5 : Int) :
    roundOf (TAB.env 22) G (L22 G k) D22_0 X K [(.sl 1 xl3), (.sl 1 xl4), (.int .i64 xi5)] = b22_0 G k (fun xl3 xl4 xi5 => X [(.sl 1 xl3), (.sl 1 xl4), (.int .i64 xi5)]) (fun _ => K .normal (P22_0x.inst [])) (fun yb11 => K .ret (P22_0r.inst [(.bool yb11)])) xl3 xl4 xi5 := by kernel_rfl
theorem f22_is {R : Type} (G : ORC R) (k : Nat) (K : List V → Option R) (al1 al2 : List V) :
    callF (TAB.env 22) G (L22 G k) Try.f22 S22 [(.sl 1 al1), (.sl 1 al2)] K = f22 G k al1 al2 K := by kernel_rfl
theorem li22_0 {R : Type} (G : ORC R) (k : Nat) : LoopIs (TAB.env 22) G (L22 G k) 0 (loopAt 0 (bodyOf Try.f22)) :=
  ⟨D22_0, fun j vs K => rd22_0 G k K j vs, k, rfl, rfl, by kernel_rfl, by kernel_rfl, by kernel_rfl, (fun vs K => by unfold rd22_0; dsimp only; split <;> rfl),
    (fun j vs K r h => by
      unfold rd22_0 at h
      dsimp only at h
      split at h
      · rw [l22_0_is]; exact h
      · cases h), (fun S K r h => h)⟩
theorem lo22 : loopsOf (bodyOf Try.f22) = [(0, loopAt 0 (bodyOf Try.f22))] := by kernel_rfl
theorem la22 {R : Type} (G : ORC R) (k : Nat) : LoopsAre (TAB.env 22) G (L22 G k) (bodyOf Try.f22) :=
  loopsAre_of (by rw [lo22]; intro p hp; simp only [List.mem_cons, List.not_mem_nil, or_false] at hp; subst hp; exact li22_0 G k)
def g22 {R : Type} (G : ORC R) (k : Nat) (args : List V) (K : List V → Option R) : Option R := match args with
  | [(.sl 1 al1), (.sl 1 al2)] => f22 G k al1 al2 K
  | _ => none
theorem s22 {R : Type} {G : ORC R} {k : Nat} (hG : Sound Try.prog TAB G) (args : List V) (K : List V → Option R) (r : R) (h : g22 G k args K = some r) : ∃ o, CallOK Try.prog TAB.env 22 args o ∧ K o = some r := by
  unfold g22 at h
  split at h
  · rw [← f22_is] at h
    exact callF_sound (f := 22) TAB_chk MO hG Try.func22 (sg := S22) (by kernel_rfl) (by kernel_rfl) (la22 G k) h
  · cases h
end Go.Proofs.Ytblabbcmokldiaa.Vm
open Go Go.VM
set_option linter.unusedVariables false
set_option maxRecDepth 100000
set_option maxHeartbeats 4000000
namespace Go.Proofs.Ytblabbcmokldiaa.Vm
/-! ### cotillion/flat.Kids: function 23 -/
def P23_0h : Pat := { tmps := unds [.var (.sl 7) .ro, .var (.int .i64) .pr, .undef, .undef, .undef, .var (.sl 1) (.own true), .undef, .undef, .var (.sl 7) .ro, .var (.int .i64) .pr, .var (.int .i64) .pr] 19 [], boxes := nons [] 30 [] }
def P23_0x : Pat := { tmps := unds [] 5 (unds [.var (.sl 1) (.own true)] 24 []), boxes := nons [] 30 [] }
def b23_0 {R : Type} (G : ORC R) (k : Nat) (X : List V → Int → List V → List V → Int → Int → Option R) (Ko : List V → Option R) (xl3 : List V) (xi4 : Int) (xl5 xl6 : List V) (xi7 xi8 : Int) : Option R :=
  (bif (decide (xi8 < xi7)) then (bif ((decide (0 ≤ xi8)) && (decide (xi8 < ((List.length xl6 : Nat) : Int)))) then (nthK xl6 (Int.toNat xi8) fun e9 => (V.asAgg e9 fun l10 => (ce7 l10 fun c11 c12 c13 c14 c15 c16 c17 => (aI .i64 c11 fun n26 => (aI .i64 c12 fun n27 => (aI .i64 c13 fun n28 => (aI .i64 c14 fun n29 => (aI .i64 c15 fun n30 => (aI .i64 c16 fun n31 => (V.asStr c17 fun s32 => (G 63 [(.sl 7 xl3), (.int .i64 xi4)] fun o33 => (uB o33 fun b35 r34 => (unNil r34 (bif b35 then (bif (n27 == xi4) then (bif (decide (List.length xl5 + 1 ≤ 1073741824)) then (X xl3 xi4 (xl5 ++ [(.int .i64 xi8)]) xl6 xi7 (IntKind.i64.wrap (xi8 + 1))) else none) else (X xl3 xi4 xl5 xl6 xi7 (IntKind.i64.wrap (xi8 + 1)))) else (X xl3 xi4 xl5 xl6 xi7 (IntKind.i64.wrap (xi8 + 1))))))))))))))))) else none) else (Ko xl5))
def l23_0g {R : Type} (G : ORC R) (k : Nat) (Ko : List V → Option R) : Nat → List V → Int → List V → List V → Int → Int → Option R
  | 0 => fun _ _ _ _ _ _ => none
  | j + 1 => b23_0 G k (l23_0g G k Ko j) Ko
def l23_0 {R : Type} (G : ORC R) (k : Nat) (xl3 : List V) (xi4 : Int) (xl5 xl6 : List V) (xi7 xi8 : Int) (Ko : List V → Option R) : Option R := l23_0g G k Ko k xl3 xi4 xl5 xl6 xi7 xi8
def rd23_0 {R : Type} (G : ORC R) (k : Nat) (K : Ex → St → Option R) (j : Nat) (vs : List V) : Option R := match vs with
  | [(.sl 7 xl3), (.int .i64 xi4), (.sl 1 xl5), (.sl 7 xl6), (.int .i64 xi7), (.int .i64 xi8)] => l23_0g G k (fun yl37 => K .normal (P23_0x.inst [(.sl 1 yl37)])) j xl3 xi4 xl5 xl6 xi7 xi8
  | _ => none
def L23 {R : Type} (G : ORC R) (k : Nat) : Nat → St → (Ex → St → Option R) → Option R
  | 0, S, K => P23_0h.mat S fun vs => rd23_0 G k K k vs
  | _, _, _ => none
def f23 {R : Type} (G : ORC R) (k : Nat) (al1 : List V) (ai2 : Int) (K : List V → Option R) : Option R :=
  (l23_0 G k al1 ai2 [] al1 ((List.length al1 : Nat) : Int) 0 (fun yl36 => (K [(.sl 1 yl36)])))
noncomputable def D23_0 : LoopD := { id := 0, body := loopAt 0 (bodyOf Try.f23), head := P23_0h, out := P23_0x, ret := default }
theorem l23_0_is {R : Type} (G : ORC R) (k : Nat) (X : List V → Option R) (K : Ex → St → Option R) (xl3 : List V) (xi4 : Int) (xl5 xl6 : List V) (xi7 xi8 : Int) :
    roundOf (TAB.env 23) G (L23 G k) D23_0 X K [(.sl 7 xl3), (.int .i64 xi4), (.sl 1 xl5), (.sl 7 xl6), (.int .i64 xi7), (.int .i64 xi8)] = b23_0 G k (fun xl3 xi4 xl5 xl6 xi7 xi8 => X [(.sl 7 xl3), (.int .i64 xi4), (.sl 1 xl5), (.sl 7 xl6), (.int .i64 xi7), (.int .i64 xi8)]) (fun yl37 => K .normal (P23_0x.inst [(.sl 1 yl37)])) xl3 xi4 xl5 xl6 xi7 xi8 := by kernel_rfl
theorem f23_is {R : Type} (G : ORC R) (k : Nat) (K : List V → Option R) (al1 : List V) (ai2 : Int) :
    callF (TAB.env 23) G (L23 G k) Try.f23 S23 [(.sl 7 al1), (.int .i64 ai2)] K = f23 G k al1 ai2 K := by kernel_rfl
theorem li23_0 {R : Type} (G : ORC R) (k : Nat) : LoopIs (TAB.env 23) G (L23 G k) 0 (loopAt 0 (bodyOf Try.f23)) :=
  ⟨D23_0, fun j vs K => rd23_0 G k K j vs, k, rfl, rfl, by kernel_rfl, by kernel_rfl, by kernel_rfl, (fun vs K => by unfold rd23_0; dsimp only; split <;> rfl),
    (fun j vs K r h => by
      unfold rd23_0 at h
      dsimp only at h
      split at h
      · rw [l23_0_is]; exact h
      · cases h), (fun S K r h => h)⟩
theorem lo23 : loopsOf (bodyOf Try.f23) = [(0, loopAt 0 (bodyOf Try.f23))] := by kernel_rfl
theorem la23 {R : Type} (G : ORC R) (k : Nat) : LoopsAre (TAB.env 23) G (L23 G k) (bodyOf Try.f23) :=
  loopsAre_of (by rw [lo23]; intro p hp; simp only [List.mem_cons, List.not_mem_nil, or_false] at hp; subst hp; exact li23_0 G k)
def g23 {R : Type} (G : ORC R) (k : Nat) (args : List V) (K : List V → Option R) : Option R := match args with
  | [(.sl 7 al1), (.int .i64 ai2)] => f23 G k al1 ai2 K
  | _ => none
theorem s23 {R : Type} {G : ORC R} {k : Nat} (hG : Sound Try.prog TAB G) (args : List V) (K : List V → Option R) (r : R) (h : g23 G k args K = some r) : ∃ o, CallOK Try.prog TAB.env 23 args o ∧ K o = some r := by
  unfold g23 at h
  split at h
  · rw [← f23_is] at h
    exact callF_sound (f := 23) TAB_chk MO hG Try.func23 (sg := S23) (by kernel_rfl) (by kernel_rfl) (la23 G k) h
  · cases h
end Go.Proofs.Ytblabbcmokldiaa.Vm
open Go Go.VM
set_option linter.unusedVariables false
set_option maxRecDepth 100000
set_option maxHeartbeats 4000000
namespace Go.Proofs.Ytblabbcmokldiaa.Vm
/-! ### cotillion/cotillionref13.Kids: function 24 -/
def P24_0h : Pat := { tmps := unds [.var (.sl 7) .ro, .var (.int .i64) .pr, .undef, .undef, .undef, .var (.sl 1) (.own true), .var (.int .i64) .pr] 23 [], boxes := nons [] 30 [] }
def P24_0x : Pat := { tmps := unds [] 5 (unds [.var (.sl 1) (.own true)] 24 []), boxes := nons [] 30 [] }
def b24_0 {R : Type} (G : ORC R) (k : Nat) (X : List V → Int → List V → Int → Option R) (Ko : List V → Option R) (xl3 : List V) (xi4 : Int) (xl5 : List V) (xi6 : Int) : Option R :=
  (bif (decide (xi6 < ((List.length xl3 : Nat) : Int))) then (G 64 [(.sl 7 xl3), (.int .i64 xi4)] fun o7 => (uB o7 fun b9 r8 => (unNil r8 (bif b9 then (bif ((decide (0 ≤ xi6)) && (decide (xi6 < ((List.length xl3 : Nat) : Int)))) then (nthK xl3 (Int.toNat xi6) fun e10 => (ca7 e10 fun c11 c12 c13 c14 c15 c16 c17 => (aI .i64 c12 fun n18 => (bif (n18 == xi4) then (bif (decide (List.length xl5 + 1 ≤ 1073741824)) then (X xl3 xi4 (xl5 ++ [(.int .i64 xi6)]) (IntKind.i64.wrap (xi6 + 1))) else none) else (X xl3 xi4 xl5 (IntKind.i64.wrap (xi6 + 1))))))) else none) else (Ko xl5))))) else (Ko xl5))
def l24_0g {R : Type} (G : ORC R) (k : Nat) (Ko : List V → Option R) : Nat → List V → Int → List V → Int → Option R
  | 0 => fun _ _ _ _ => none
  | j + 1 => b24_0 G k (l24_0g G k Ko j) Ko
def l24_0 {R : Type} (G : ORC R) (k : Nat) (xl3 : List V) (xi4 : Int) (xl5 : List V) (xi6 : Int) (Ko : List V → Option R) : Option R := l24_0g G k Ko k xl3 xi4 xl5 xi6
def rd24_0 {R : Type} (G : ORC R) (k : Nat) (K : Ex → St → Option R) (j : Nat) (vs : List V) : Option R := match vs with
  | [(.sl 7 xl3), (.int .i64 xi4), (.sl 1 xl5), (.int .i64 xi6)] => l24_0g G k (fun yl20 => K .normal (P24_0x.inst [(.sl 1 yl20)])) j xl3 xi4 xl5 xi6
  | _ => none
def L24 {R : Type} (G : ORC R) (k : Nat) : Nat → St → (Ex → St → Option R) → Option R
  | 0, S, K => P24_0h.mat S fun vs => rd24_0 G k K k vs
  | _, _, _ => none
def f24 {R : Type} (G : ORC R) (k : Nat) (al1 : List V) (ai2 : Int) (K : List V → Option R) : Option R :=
  (l24_0 G k al1 ai2 [] 0 (fun yl19 => (K [(.sl 1 yl19)])))
noncomputable def D24_0 : LoopD := { id := 0, body := loopAt 0 (bodyOf Try.f24), head := P24_0h, out := P24_0x, ret := default }
theorem l24_0_is {R : Type} (G : ORC R) (k : Nat) (X : List V → Option R) (K : Ex → St → Option R) (xl3 : List V) (xi4 : Int) (xl5 : List V) (xi6 : Int) :
    roundOf (TAB.env 24) G (L24 G k) D24_0 X K [(.sl 7 xl3), (.int .i64 xi4), (.sl 1 xl5), (.int .i64 xi6)] = b24_0 G k (fun xl3 xi4 xl5 xi6 => X [(.sl 7 xl3), (.int .i64 xi4), (.sl 1 xl5), (.int .i64 xi6)]) (fun yl20 => K .normal (P24_0x.inst [(.sl 1 yl20)])) xl3 xi4 xl5 xi6 := by kernel_rfl
theorem f24_is {R : Type} (G : ORC R) (k : Nat) (K : List V → Option R) (al1 : List V) (ai2 : Int) :
    callF (TAB.env 24) G (L24 G k) Try.f24 S24 [(.sl 7 al1), (.int .i64 ai2)] K = f24 G k al1 ai2 K := by kernel_rfl
theorem li24_0 {R : Type} (G : ORC R) (k : Nat) : LoopIs (TAB.env 24) G (L24 G k) 0 (loopAt 0 (bodyOf Try.f24)) :=
  ⟨D24_0, fun j vs K => rd24_0 G k K j vs, k, rfl, rfl, by kernel_rfl, by kernel_rfl, by kernel_rfl, (fun vs K => by unfold rd24_0; dsimp only; split <;> rfl),
    (fun j vs K r h => by
      unfold rd24_0 at h
      dsimp only at h
      split at h
      · rw [l24_0_is]; exact h
      · cases h), (fun S K r h => h)⟩
theorem lo24 : loopsOf (bodyOf Try.f24) = [(0, loopAt 0 (bodyOf Try.f24))] := by kernel_rfl
theorem la24 {R : Type} (G : ORC R) (k : Nat) : LoopsAre (TAB.env 24) G (L24 G k) (bodyOf Try.f24) :=
  loopsAre_of (by rw [lo24]; intro p hp; simp only [List.mem_cons, List.not_mem_nil, or_false] at hp; subst hp; exact li24_0 G k)
def g24 {R : Type} (G : ORC R) (k : Nat) (args : List V) (K : List V → Option R) : Option R := match args with
  | [(.sl 7 al1), (.int .i64 ai2)] => f24 G k al1 ai2 K
  | _ => none
theorem s24 {R : Type} {G : ORC R} {k : Nat} (hG : Sound Try.prog TAB G) (args : List V) (K : List V → Option R) (r : R) (h : g24 G k args K = some r) : ∃ o, CallOK Try.prog TAB.env 24 args o ∧ K o = some r := by
  unfold g24 at h
  split at h
  · rw [← f24_is] at h
    exact callF_sound (f := 24) TAB_chk MO hG Try.func24 (sg := S24) (by kernel_rfl) (by kernel_rfl) (la24 G k) h
  · cases h
end Go.Proofs.Ytblabbcmokldiaa.Vm
open Go Go.VM
set_option linter.unusedVariables false
set_option maxRecDepth 100000
set_option maxHeartbeats 4000000
namespace Go.Proofs.Ytblabbcmokldiaa.Vm
/-! ### cotillion/cotillionref3.Of: function 26 -/
def P26_0h : Pat := { tmps := unds [.var (.sl 1) .ro, .undef, .undef, .var (.sl 1) (.own true), .var (.int .i64) .pr] 12 [], boxes := nons [] 17 [] }
def P26_0x : Pat := { tmps := unds [.undef, .undef, .undef, .var (.sl 1) (.own true)] 13 [], boxes := nons [] 17 [] }
def b26_0 {R : Type} (G : ORC R) (k : Nat) (X : List V → List V → Int → Option R) (Ko : List V → Option R) (xl2 xl3 : List V) (xi4 : Int) : Option R :=
  (bif (decide (xi4 < 128)) then (G 34 [(.sl 1 xl2), (.int .i64 xi4)] fun o5 => (uB o5 fun b7 r6 => (unNil r6 (bif b7 then (bif (decide (List.length xl3 + 1 ≤ 1073741824)) then (X xl2 (xl3 ++ [(.int .i64 xi4)]) (IntKind.i64.wrap (xi4 + 1))) else none) else (X xl2 xl3 (IntKind.i64.wrap (xi4 + 1))))))) else (Ko xl3))
def l26_0g {R : Type} (G : ORC R) (k : Nat) (Ko : List V → Option R) : Nat → List V → List V → Int → Option R
  | 0 => fun _ _ _ => none
  | j + 1 => b26_0 G k (l26_0g G k Ko j) Ko
def l26_0 {R : Type} (G : ORC R) (k : Nat) (xl2 xl3 : List V) (xi4 : Int) (Ko : List V → Option R) : Option R := l26_0g G k Ko k xl2 xl3 xi4
def rd26_0 {R : Type} (G : ORC R) (k : Nat) (K : Ex → St → Option R) (j : Nat) (vs : List V) : Option R := match vs with
  | [(.sl 1 xl2), (.sl 1 xl3), (.int .i64 xi4)] => l26_0g G k (fun yl9 => K .normal (P26_0x.inst [(.sl 1 yl9)])) j xl2 xl3 xi4
  | _ => none
def L26 {R : Type} (G : ORC R) (k : Nat) : Nat → St → (Ex → St → Option R) → Option R
  | 0, S, K => P26_0h.mat S fun vs => rd26_0 G k K k vs
  | _, _, _ => none
def f26 {R : Type} (G : ORC R) (k : Nat) (al1 : List V) (K : List V → Option R) : Option R :=
  (l26_0 G k al1 [] 0 (fun yl8 => (K [(.sl 1 yl8)])))
noncomputable def D26_0 : LoopD := { id := 0, body := loopAt 0 (bodyOf Try.f26), head := P26_0h, out := P26_0x, ret := default }
theorem l26_0_is {R : Type} (G : ORC R) (k : Nat) (X : List V → Option R) (K : Ex → St → Option R) (xl2 xl3 : List V) (xi4 : Int) :
    roundOf (TAB.env 26) G (L26 G k) D26_0 X K [(.sl 1 xl2), (.sl 1 xl3), (.int .i64 xi4)] = b26_0 G k (fun xl2 xl3 xi4 => X [(.sl 1 xl2), (.sl 1 xl3), (.int .i64 xi4)]) (fun yl9 => K .normal (P26_0x.inst [(.sl 1 yl9)])) xl2 xl3 xi4 := by kernel_rfl
theorem f26_is {R : Type} (G : ORC R) (k : Nat) (K : List V → Option R) (al1 : List V) :
    callF (TAB.env 26) G (L26 G k) Try.f26 S26 [(.sl 1 al1)] K = f26 G k al1 K := by kernel_rfl
theorem li26_0 {R : Type} (G : ORC R) (k : Nat) : LoopIs (TAB.env 26) G (L26 G k) 0 (loopAt 0 (bodyOf Try.f26)) :=
  ⟨D26_0, fun j vs K => rd26_0 G k K j vs, k, rfl, rfl, by kernel_rfl, by kernel_rfl, by kernel_rfl, (fun vs K => by unfold rd26_0; dsimp only; split <;> rfl),
    (fun j vs K r h => by
      unfold rd26_0 at h
      dsimp only at h
      split at h
      · rw [l26_0_is]; exact h
      · cases h), (fun S K r h => h)⟩
theorem lo26 : loopsOf (bodyOf Try.f26) = [(0, loopAt 0 (bodyOf Try.f26))] := by kernel_rfl
theorem la26 {R : Type} (G : ORC R) (k : Nat) : LoopsAre (TAB.env 26) G (L26 G k) (bodyOf Try.f26) :=
  loopsAre_of (by rw [lo26]; intro p hp; simp only [List.mem_cons, List.not_mem_nil, or_false] at hp; subst hp; exact li26_0 G k)
def g26 {R : Type} (G : ORC R) (k : Nat) (args : List V) (K : List V → Option R) : Option R := match args with
  | [(.sl 1 al1)] => f26 G k al1 K
  | _ => none
theorem s26 {R : Type} {G : ORC R} {k : Nat} (hG : Sound Try.prog TAB G) (args : List V) (K : List V → Option R) (r : R) (h : g26 G k args K = some r) : ∃ o, CallOK Try.prog TAB.env 26 args o ∧ K o = some r := by
  unfold g26 at h
  split at h
  · rw [← f26_is] at h
    exact callF_sound (f := 26) TAB_chk MO hG Try.func26 (sg := S26) (by kernel_rfl) (by kernel_rfl) (la26 G k) h
  · cases h
end Go.Proofs.Ytblabbcmokldiaa.Vm
open Go Go.VM
set_option linter.unusedVariables false
set_option maxRecDepth 100000
set_option maxHeartbeats 4000000
namespace Go.Proofs.Ytblabbcmokldiaa.Vm
/-! ### cotillion/flat.Full: function 27 -/
def P27_2h : Pat := { tmps := unds [.var (.sl 7) .ro] 5 (unds [.var (.sl 1) (.own true), .undef, .var (.int .i64) .pr] 6 (unds [.var (.sl 1) .ro, .var (.int .i64) .pr, .var (.int .i64) .pr] 58 [])), boxes := nons [] 76 [] }
def P27_2x : Pat := { tmps := unds [.var (.sl 7) .ro] 5 (unds [.var (.sl 1) (.own true)] 8 (unds [.var (.sl 1) .ro, .var (.int .i64) .pr, .var (.int .i64) .pr] 58 [])), boxes := nons [] 76 [] }
def b27_2 {R : Type} (G : ORC R) (k : Nat) (X : List V → List V → Int → List V → Int → Int → Option R) (Ko : List V → List V → List V → Int → Int → Option R) (xl24 xl25 : List V) (xi26 : Int) (xl27 : List V) (xi28 xi29 : Int) : Option R :=
  (G 63 [(.sl 7 xl24), (.int .i64 xi26)] fun o30 => (uB o30 fun b32 r31 => (unNil r31 (bif b32 then (bif ((decide (0 ≤ xi26)) && (decide (xi26 < ((List.length xl25 : Nat) : Int)))) then (nthK xl25 (Int.toNat xi26) fun e33 => (V.asBool e33 fun b34 => (bif (!b34) then (bif ((decide (0 ≤ xi26)) && (decide (xi26 < ((List.length xl25 : Nat) : Int)))) then (nthK xl25 (Int.toNat xi26) fun e35 => (bif ((decide (0 ≤ xi26)) && (decide (xi26 < ((List.length xl24 : Nat) : Int)))) then (nthK xl24 (Int.toNat xi26) fun e36 => (ca7 e36 fun c37 c38 c39 c40 c41 c42 c43 => (aI .i64 c38 fun n44 => (X xl24 (List.set xl25 (Int.toNat xi26) (.bool true)) n44 xl27 xi28 xi29)))) else none)) else none) else (Ko xl24 xl25 xl27 xi28 xi29)))) else none) else (Ko xl24 xl25 xl27 xi28 xi29)))))
def l27_2g {R : Type} (G : ORC R) (k : Nat) (Ko : List V → List V → List V → Int → Int → Option R) : Nat → List V → List V → Int → List V → Int → Int → Option R
  | 0 => fun _ _ _ _ _ _ => none
  | j + 1 => b27_2 G k (l27_2g G k Ko j) Ko
def l27_2 {R : Type} (G : ORC R) (k : Nat) (xl24 xl25 : List V) (xi26 : Int) (xl27 : List V) (xi28 xi29 : Int) (Ko : List V → List V → List V → Int → Int → Option R) : Option R := l27_2g G k Ko k xl24 xl25 xi26 xl27 xi28 xi29
def P27_0h : Pat := { tmps := unds [.var (.sl 7) .ro] 5 (unds [.var (.sl 1) (.own true)] 8 (unds [.var (.sl 1) .ro, .var (.int .i64) .pr, .var (.int .i64) .pr] 58 [])), boxes := nons [] 76 [] }
def P27_0x : Pat := { tmps := unds [.var (.sl 7) .ro] 5 (unds [.var (.sl 1) (.own true)] 69 []), boxes := nons [] 76 [] }
def P27_0r : Pat := { tmps := unds [.undef, .undef, .undef, .undef, .var (.sl 1) (.own true), .var .bool .pr] 70 [], boxes := nons [] 76 [] }
def b27_0 {R : Type} (G : ORC R) (k : Nat) (X : List V → List V → List V → Int → Int → Option R) (Ko : List V → List V → Option R) (Kr : List V → Bool → Option R) (xl3 xl4 xl5 : List V) (xi6 xi7 : Int) : Option R :=
  (bif (decide (xi7 < xi6)) then (bif ((decide (0 ≤ xi7)) && (decide (xi7 < ((List.length xl5 : Nat) : Int)))) then (nthK xl5 (Int.toNat xi7) fun e8 => (aI .i64 e8 fun n9 => (G 63 [(.sl 7 xl3), (.int .i64 n9)] fun o10 => (uB o10 fun b12 r11 => (unNil r11 (bif (!b12) then (Kr [] false) else (bif ((decide (0 ≤ n9)) && (decide (n9 < ((List.length xl3 : Nat) : Int)))) then (nthK xl3 (Int.toNat n9) fun e13 => (ca7 e13 fun c14 c15 c16 c17 c18 c19 c20 => (aI .i64 c14 fun n21 => (bif (n21 != 1) then (Kr [] false) else (bif ((decide (0 ≤ n9)) && (decide (n9 < ((List.length xl4 : Nat) : Int)))) then (nthK xl4 (Int.toNat n9) fun e22 => (V.asBool e22 fun b23 => (bif b23 then (Kr [] false) else (l27_2 G k xl3 xl4 n9 xl5 xi6 xi7 (fun yl24 yl25 yl26 yi27 yi28 => (X yl24 yl25 yl26 yi27 (IntKind.i64.wrap (yi28 + 1)))))))) else none))))) else none))))))) else none) else (Ko xl3 xl4))
def l27_0g {R : Type} (G : ORC R) (k : Nat) (Ko : List V → List V → Option R) (Kr : List V → Bool → Option R) : Nat → List V → List V → List V → Int → Int → Option R
  | 0 => fun _ _ _ _ _ => none
  | j + 1 => b27_0 G k (l27_0g G k Ko Kr j) Ko Kr
def l27_0 {R : Type} (G : ORC R) (k : Nat) (xl3 xl4 xl5 : List V) (xi6 xi7 : Int) (Ko : List V → List V → Option R) (Kr : List V → Bool → Option R) : Option R := l27_0g G k Ko Kr k xl3 xl4 xl5 xi6 xi7
def P27_4h : Pat := { tmps := unds [.var (.sl 7) .ro] 5 (unds [.var (.sl 1) (.own true), .undef, .undef, .var (.sl 1) (.own true)] 48 (unds [.stat (.ref (.s 6) 0), .var (.int .i64) .pr, .var (.int .i64) .pr] 15 [])), boxes := nons [] 76 [] }
def P27_4x : Pat := { tmps := unds [.var (.sl 7) .ro] 8 (unds [.var (.sl 1) (.own true)] 66 []), boxes := nons [] 76 [] }
def b27_4 {R : Type} (G : ORC R) (k : Nat) (X : List V → List V → List V → Int → Int → Option R) (Ko : List V → List V → Option R) (xl31 xl32 xl33 : List V) (xi34 xi35 : Int) : Option R :=
  (bif (decide (xi35 < xi34)) then (bif ((decide (0 ≤ xi35)) && (decide (xi35 < ((List.length xl32 : Nat) : Int)))) then (nthK xl32 (Int.toNat xi35) fun e36 => (V.asBool e36 fun b37 => (bif b37 then (bif (decide (List.length xl33 + 1 ≤ 1073741824)) then (X xl31 xl32 (xl33 ++ [(.int .i64 xi35)]) xi34 (IntKind.i64.wrap (xi35 + 1))) else none) else (X xl31 xl32 xl33 xi34 (IntKind.i64.wrap (xi35 + 1)))))) else none) else (Ko xl31 xl33))
def l27_4g {R : Type} (G : ORC R) (k : Nat) (Ko : List V → List V → Option R) : Nat → List V → List V → List V → Int → Int → Option R
  | 0 => fun _ _ _ _ _ => none
  | j + 1 => b27_4 G k (l27_4g G k Ko j) Ko
def l27_4 {R : Type} (G : ORC R) (k : Nat) (xl31 xl32 xl33 : List V) (xi34 xi35 : Int) (Ko : List V → List V → Option R) : Option R := l27_4g G k Ko k xl31 xl32 xl33 xi34 xi35
def rd27_2 {R : Type} (G : ORC R) (k : Nat) (K : Ex → St → Option R) (j : Nat) (vs : List V) : Option R := match vs with
  | [(.sl 7 xl24), (.sl 1 xl25), (.int .i64 xi26), (.sl 1 xl27), (.int .i64 xi28), (.int .i64 xi29)] => l27_2g G k (fun yl45 yl46 yl47 yi48 yi49 => K .normal (P27_2x.inst [(.sl 7 yl45), (.sl 1 yl46), (.sl 1 yl47), (.int .i64 yi48), (.int .i64 yi49)])) j xl24 xl25 xi26 xl27 xi28 xi29
  | _ => none
def rd27_0 {R : Type} (G : ORC R) (k : Nat) (K : Ex → St → Option R) (j : Nat) (vs : List V) : Option R := match vs with
  | [(.sl 7 xl3), (.sl 1 xl4), (.sl 1 xl5), (.int .i64 xi6), (.int .i64 xi7)] => l27_0g G k (fun yl50 yl51 => K .normal (P27_0x.inst [(.sl 7 yl50), (.sl 1 yl51)])) (fun yl52 yb53 => K .ret (P27_0r.inst [(.sl 1 yl52), (.bool yb53)])) j xl3 xl4 xl5 xi6 xi7
  | _ => none
def rd27_4 {R : Type} (G : ORC R) (k : Nat) (K : Ex → St → Option R) (j : Nat) (vs : List V) : Option R := match vs with
  | [(.sl 7 xl31), (.sl 1 xl32), (.sl 1 xl33), (.int .i64 xi34), (.int .i64 xi35)] => l27_4g G k (fun yl54 yl55 => K .normal (P27_4x.inst [(.sl 7 yl54), (.sl 1 yl55)])) j xl31 xl32 xl33 xi34 xi35
  | _ => none
def L27 {R : Type} (G : ORC R) (k : Nat) : Nat → St → (Ex → St → Option R) → Option R
  | 2, S, K => P27_2h.mat S fun vs => rd27_2 G k K k vs
  | 0, S, K => P27_0h.mat S fun vs => rd27_0 G k K k vs
  | 4, S, K => P27_4h.mat S fun vs => rd27_4 G k K k vs
  | _, _, _ => none
def f27 {R : Type} (G : ORC R) (k : Nat) (al1 al2 : List V) (K : List V → Option R) : Option R :=
  (bif (((decide (0 ≤ ((List.length al1 : Nat) : Int))) && (decide (((List.length al1 : Nat) : Int) ≤ ((List.length al1 : Nat) : Int)))) && (decide (((List.length al1 : Nat) : Int) ≤ 1073741824))) then (l27_0 G k al1 (List.replicate (Int.toNat ((List.length al1 : Nat) : Int)) (.bool false)) al2 ((List.length al2 : Nat) : Int) 0 (fun yl29 yl30 => (l27_4 G k yl29 yl30 [] ((List.length yl30 : Nat) : Int) 0 (fun yl38 yl39 => (G 29 [(.sl 7 yl38), (.sl 1 yl39)] fun o40 => (uB o40 fun b42 r41 => (unNil r41 (bif (!b42) then (K [(.sl 1 []), (.bool false)]) else (K [(.sl 1 yl39), (.bool true)])))))))) (fun yl43 yb44 => (K [(.sl 1 yl43), (.bool yb44)]))) else none)
noncomputable def D27_2 : LoopD := { id := 2, body := loopAt 2 (bodyOf Try.f27), head := P27_2h, out := P27_2x, ret := default }
theorem l27_2_is {R : Type} (G : ORC R) (k : Nat) (X : List V → Option R) (K : Ex → St → Option R) (xl24 xl25 : List V) (xi26 : Int) (xl27 : List V) (xi28 xi29 : Int) :
    roundOf (TAB.env 27) G (L27 G k) D27_2 X K [(.sl 7 xl24), (.sl 1 xl25), (.int .i64 xi26), (.sl 1 xl27), (.int .i64 xi28), (.int .i64 xi29)] = b27_2 G k (fun xl24 xl25 xi26 xl27 xi28 xi29 => X [(.sl 7 xl24), (.sl 1 xl25), (.int .i64 xi26), (.sl 1 xl27), (.int .i64 xi28), (.int .i64 xi29)]) (fun yl45 yl46 yl47 yi48 yi49 => K .normal (P27_2x.inst [(.sl 7 yl45), (.sl 1 yl46), (.sl 1 yl47), (.int .i64 yi48), (.int .i64 yi49)])) xl24 xl25 xi26 xl27 xi28 xi29 := by kernel_rfl
noncomputable def D27_0 : LoopD := { id := 0, body := loopAt 0 (bodyOf Try.f27), head := P27_0h, out := P27_0x, ret := P27_0r }
theorem l27_0_is {R : Type} (G : ORC R) (k : Nat) (X : List V → Option R) (K : Ex → St → Option R) (xl3 xl4 xl5 : List V) (xi6 xi7 : Int) :
    roundOf (TAB.env 27) G (L27 G k) D27_0 X K [(.sl 7 xl3), (.sl 1 xl4), (.sl 1 xl5), (.int .i64 xi6), (.int .i64 xi7)] = b27_0 G k (fun xl3 xl4 xl5 xi6 xi7 => X [(.sl 7 xl3), (.sl 1 xl4), (.sl 1 xl5), (.int .i64 xi6), (.int .i64 xi7)]) (fun yl50 yl51 => K .normal (P27_0x.inst [(.sl 7 yl50), (.sl 1 yl51)])) (fun yl52 yb53 => K .ret (P27_0r.inst [(.sl 1 yl52), (.bool yb53)])) xl3 xl4 xl5 xi6 xi7 := by kernel_rfl
noncomputable def D27_4 : LoopD := { id := 4, body := loopAt 4 (bodyOf Try.f27), head := P27_4h, out := P27_4x, ret := default }
theorem l27_4_is {R : Type} (G : ORC R) (k : Nat) (X : List V → Option R) (K : Ex → St → Option R) (xl31 xl32 xl33 : List V) (xi34 xi35 : Int) :
    roundOf (TAB.env 27) G (L27 G k) D27_4 X K [(.sl 7 xl31), (.sl 1 xl32), (.sl 1 xl33), (.int .i64 xi34), (.int .i64 xi35)] = b27_4 G k (fun xl31 xl32 xl33 xi34 xi35 => X [(.sl 7 xl31), (.sl 1 xl32), (.sl 1 xl33), (.int .i64 xi34), (.int .i64 xi35)]) (fun yl54 yl55 => K .normal (P27_4x.inst [(.sl 7 yl54), (.sl 1 yl55)])) xl31 xl32 xl33 xi34 xi35 := by kernel_rfl
theorem f27_is {R : Type} (G : ORC R) (k : Nat) (K : List V → Option R) (al1 al2 : List V) :
    callF (TAB.env 27) G (L27 G k) Try.f27 S27 [(.sl 7 al1), (.sl 1 al2)] K = f27 G k al1 al2 K := by kernel_rfl
theorem li27_2 {R : Type} (G : ORC R) (k : Nat) : LoopIs (TAB.env 27) G (L27 G k) 2 (loopAt 2 (bodyOf Try.f27)) :=
  ⟨D27_2, fun j vs K => rd27_2 G k K j vs, k, rfl, rfl, by kernel_rfl, by kernel_rfl, by kernel_rfl, (fun vs K => by unfold rd27_2; dsimp only; split <;> rfl),
    (fun j vs K r h => by
      unfold rd27_2 at h
      dsimp only at h
      split at h
      · rw [l27_2_is]; exact h
      · cases h), (fun S K r h => h)⟩
theorem li27_0 {R : Type} (G : ORC R) (k : Nat) : LoopIs (TAB.env 27) G (L27 G k) 0 (loopAt 0 (bodyOf Try.f27)) :=
  ⟨D27_0, fun j vs K => rd27_0 G k K j vs, k, rfl, rfl, by kernel_rfl, by kernel_rfl, by kernel_rfl, (fun vs K => by unfold rd27_0; dsimp only; split <;> rfl),
    (fun j vs K r h => by
      unfold rd27_0 at h
      dsimp only at h
      split at h
      · rw [l27_0_is]; exact h
      · cases h), (fun S K r h => h)⟩
theorem li27_4 {R : Type} (G : ORC R) (k : Nat) : LoopIs (TAB.env 27) G (L27 G k) 4 (loopAt 4 (bodyOf Try.f27)) :=
  ⟨D27_4, fun j vs K => rd27_4 G k K j vs, k, rfl, rfl, by kernel_rfl, by kernel_rfl, by kernel_rfl, (fun vs K => by unfold rd27_4; dsimp only; split <;> rfl),
    (fun j vs K r h => by
      unfold rd27_4 at h
      dsimp only at h
      split at h
      · rw [l27_4_is]; exact h
      · cases h), (fun S K r h => h)⟩
theorem lo27 : loopsOf (bodyOf Try.f27) = [(0, loopAt 0 (bodyOf Try.f27)), (2, loopAt 2 (bodyOf Try.f27)), (4, loopAt 4 (bodyOf Try.f27))] := by kernel_rfl
theorem la27 {R : Type} (G : ORC R) (k : Nat) : LoopsAre (TAB.env 27) G (L27 G k) (bodyOf Try.f27) :=
  loopsAre_of (by rw [lo27]; intro p hp; simp only [List.mem_cons, List.not_mem_nil, or_false] at hp; rcases hp with rfl | rfl | rfl <;> first | exact li27_0 G k | exact li27_2 G k | exact li27_4 G k)
def g27 {R : Type} (G : ORC R) (k : Nat) (args : List V) (K : List V → Option R) : Option R := match args with
  | [(.sl 7 al1), (.sl 1 al2)] => f27 G k al1 al2 K
  | _ => none
theorem s27 {R : Type} {G : ORC R} {k : Nat} (hG : Sound Try.prog TAB G) (args : List V) (K : List V → Option R) (r : R) (h : g27 G k args K = some r) : ∃ o, CallOK Try.prog TAB.env 27 args o ∧ K o = some r := by
  unfold g27 at h
  split at h
  · rw [← f27_is] at h
    exact callF_sound (f := 27) TAB_chk MO hG Try.func27 (sg := S27) (by kernel_rfl) (by kernel_rfl) (la27 G k) h
  · cases h
end Go.Proofs.Ytblabbcmokldiaa.Vm
open Go Go.VM
set_option linter.unusedVariables false
set_option maxRecDepth 100000
set_option maxHeartbeats 4000000
namespace Go.Proofs.Ytblabbcmokldiaa.Vm
/-! ### cotillion/flat.Legal: function 29 -/
def P29_0h : Pat := { tmps := unds [.var (.sl 7) .ro, .var (.sl 1) .ro, .undef, .undef, .undef, .var (.sl 1) (.own true)] 20 (unds [.var (.sl 1) .ro, .var (.int .i64) .pr, .var (.int .i64) .pr] 115 []), boxes := nons [] 144 [] }
def P29_0x : Pat := { tmps := unds [.var (.sl 7) .ro, .var (.sl 1) .ro, .undef, .undef, .undef, .var (.sl 1) (.own true)] 138 [], boxes := nons [] 144 [] }
def P29_0r : Pat := { tmps := unds [.undef, .undef, .undef, .undef, .var .bool .pr] 139 [], boxes := nons [] 144 [] }
def b29_0 {R : Type} (G : ORC R) (k : Nat) (X : List V → List V → List V → List V → Int → Int → Option R) (Ko : List V → List V → List V → Option R) (Kr : Bool → Option R) (xl5 xl6 : List V) (xl7 xl8 : List V) (xi9 xi10 : Int) : Option R :=
  (bif (decide (xi10 < xi9)) then (bif ((decide (0 ≤ xi10)) && (decide (xi10 < ((List.length xl8 : Nat) : Int)))) then (nthK xl8 (Int.toNat xi10) fun e11 => (aI .i64 e11 fun n12 => (G 63 [(.sl 7 xl5), (.int .i64 n12)] fun o13 => (uB o13 fun b15 r14 => (unNil r14 (bif (!b15) then (Kr false) else (bif (decide (xi10 > 0)) then (bif ((decide (0 ≤ (IntKind.i64.wrap (xi10 - 1)))) && (decide ((IntKind.i64.wrap (xi10 - 1)) < ((List.length xl6 : Nat) : Int)))) then (nthK xl6 (Int.toNat (IntKind.i64.wrap (xi10 - 1))) fun e16 => (aI .i64 e16 fun n17 => (bif (decide (n12 ≤ n17)) then (Kr false) else (bif ((decide (0 ≤ n12)) && (decide (n12 < ((List.length xl5 : Nat) : Int)))) then (nthK xl5 (Int.toNat n12) fun e18 => (ca7 e18 fun c19 c20 c21 c22 c23 c24 c25 => (aI .i64 c19 fun n26 => (G 65 [(.int .i64 n26)] fun o27 => (uB o27 fun b29 r28 => (unNil r28 (bif b29 then (Kr false) else (bif (decide (n12 > 0)) then (bif ((decide (0 ≤ n12)) && (decide (n12 < ((List.length xl5 : Nat) : Int)))) then (nthK xl5 (Int.toNat n12) fun e30 => (ca7 e30 fun c31 c32 c33 c34 c35 c36 c37 => (aI .i64 c32 fun n38 => (G 63 [(.sl 7 xl5), (.int .i64 n38)] fun o39 => (uB o39 fun b41 r40 => (unNil r40 (bif (!b41) then (Kr false) else (bif ((decide (0 ≤ n12)) && (decide (n12 < ((List.length xl5 : Nat) : Int)))) then (nthK xl5 (Int.toNat n12) fun e42 => (ca7 e42 fun c43 c44 c45 c46 c47 c48 c49 => (aI .i64 c44 fun n50 => (bif ((decide (0 ≤ n50)) && (decide (n50 < ((List.length xl7 : Nat) : Int)))) then (nthK xl7 (Int.toNat n50) fun e51 => (V.asBool e51 fun b52 => (bif (!b52) then (Kr false) else (bif ((decide (0 ≤ n12)) && (decide (n12 < ((List.length xl7 : Nat) : Int)))) then (nthK xl7 (Int.toNat n12) fun e53 => (X xl5 xl6 (List.set xl7 (Int.toNat n12) (.bool true)) xl8 xi9 (IntKind.i64.wrap (xi10 + 1)))) else none)))) else none)))) else none)))))))) else none) else (bif ((decide (0 ≤ n12)) && (decide (n12 < ((List.length xl7 : Nat) : Int)))) then (nthK xl7 (Int.toNat n12) fun e54 => (X xl5 xl6 (List.set xl7 (Int.toNat n12) (.bool true)) xl8 xi9 (IntKind.i64.wrap (xi10 + 1)))) else none))))))))) else none)))) else none) else (bif ((decide (0 ≤ n12)) && (decide (n12 < ((List.length xl5 : Nat) : Int)))) then (nthK xl5 (Int.toNat n12) fun e55 => (ca7 e55 fun c56 c57 c58 c59 c60 c61 c62 => (aI .i64 c56 fun n63 => (G 65 [(.int .i64 n63)] fun o64 => (uB o64 fun b66 r65 => (unNil r65 (bif b66 then (Kr false) else (bif (decide (n12 > 0)) then (bif ((decide (0 ≤ n12)) && (decide (n12 < ((List.length xl5 : Nat) : Int)))) then (nthK xl5 (Int.toNat n12) fun e67 => (ca7 e67 fun c68 c69 c70 c71 c72 c73 c74 => (aI .i64 c69 fun n75 => (G 63 [(.sl 7 xl5), (.int .i64 n75)] fun o76 => (uB o76 fun b78 r77 => (unNil r77 (bif (!b78) then (Kr false) else (bif ((decide (0 ≤ n12)) && (decide (n12 < ((List.length xl5 : Nat) : Int)))) then (nthK xl5 (Int.toNat n12) fun e79 => (ca7 e79 fun c80 c81 c82 c83 c84 c85 c86 => (aI .i64 c81 fun n87 => (bif ((decide (0 ≤ n87)) && (decide (n87 < ((List.length xl7 : Nat) : Int)))) then (nthK xl7 (Int.toNat n87) fun e88 => (V.asBool e88 fun b89 => (bif (!b89) then (Kr false) else (bif ((decide (0 ≤ n12)) && (decide (n12 < ((List.length xl7 : Nat) : Int)))) then (nthK xl7 (Int.toNat n12) fun e90 => (X xl5 xl6 (List.set xl7 (Int.toNat n12) (.bool true)) xl8 xi9 (IntKind.i64.wrap (xi10 + 1)))) else none)))) else none)))) else none)))))))) else none) else (bif ((decide (0 ≤ n12)) && (decide (n12 < ((List.length xl7 : Nat) : Int)))) then (nthK xl7 (Int.toNat n12) fun e91 => (X xl5 xl6 (List.set xl7 (Int.toNat n12) (.bool true)) xl8 xi9 (IntKind.i64.wrap (xi10 + 1)))) else none))))))))) else none)))))))) else none) else (Ko xl5 xl6 xl7))
def l29_0g {R : Type} (G : ORC R) (k : Nat) (Ko : List V → List V → List V → Option R) (Kr : Bool → Option R) : Nat → List V → List V → List V → List V → Int → Int → Option R
  | 0 => fun _ _ _ _ _ _ => none
  | j + 1 => b29_0 G k (l29_0g G k Ko Kr j) Ko Kr
def l29_0 {R : Type} (G : ORC R) (k : Nat) (xl5 xl6 : List V) (xl7 xl8 : List V) (xi9 xi10 : Int) (Ko : List V → List V → List V → Option R) (Kr : Bool → Option R) : Option R := l29_0g G k Ko Kr k xl5 xl6 xl7 xl8 xi9 xi10
def P29_4h : Pat := { tmps := unds [.var (.sl 7) .ro, .undef, .undef, .undef, .undef, .var (.sl 1) (.own true), .undef, .undef, .undef, .var (.int .i64) .pr, .var (.int .i64) .pr, .var .bool .pr] 75 (unds [.var (.sl 1) .ro, .var (.int .i64) .pr, .var (.int .i64) .pr] 5 (unds [.var (.sl 1) .ro, .var (.int .i64) .pr, .var (.int .i64) .pr] 46 [])), boxes := nons [] 144 [] }
def P29_4x : Pat := { tmps := unds [.var (.sl 7) .ro, .undef, .undef, .undef, .undef, .var (.sl 1) (.own true), .undef, .undef, .undef, .var (.int .i64) .pr, .var (.int .i64) .pr, .var .bool .pr] 75 (unds [.var (.sl 1) .ro, .var (.int .i64) .pr, .var (.int .i64) .pr] 54 []), boxes := nons [] 144 [] }
def b29_4 {R : Type} (G : ORC R) (k : Nat) (X : List V → List V → Int → Int → Bool → List V → Int → Int → List V → Int → Int → Option R) (Ko : List V → List V → Int → Int → Bool → List V → Int → Int → Option R) (xl105 xl106 : List V) (xi107 xi108 : Int) (xb109 : Bool) (xl110 : List V) (xi111 xi112 : Int) (xl113 : List V) (xi114 xi115 : Int) : Option R :=
  (bif (decide (xi115 < xi114)) then (bif ((decide (0 ≤ xi115)) && (decide (xi115 < ((List.length xl113 : Nat) : Int)))) then (nthK xl113 (Int.toNat xi115) fun e116 => (aI .i64 e116 fun n117 => (bif ((decide (0 ≤ n117)) && (decide (n117 < ((List.length xl105 : Nat) : Int)))) then (nthK xl105 (Int.toNat n117) fun e118 => (ca7 e118 fun c119 c120 c121 c122 c123 c124 c125 => (aI .i64 c119 fun n126 => (G 65 [(.int .i64 n126)] fun o127 => (uB o127 fun b129 r128 => (unNil r128 (bif b129 then (X xl105 xl106 xi107 xi108 xb109 xl110 xi111 xi112 xl113 xi114 (IntKind.i64.wrap (xi115 + 1))) else (bif ((decide (0 ≤ n117)) && (decide (n117 < ((List.length xl106 : Nat) : Int)))) then (nthK xl106 (Int.toNat n117) fun e130 => (V.asBool e130 fun b131 => (bif b131 then (bif xb109 then (bif ((decide (0 ≤ n117)) && (decide (n117 < ((List.length xl106 : Nat) : Int)))) then (nthK xl106 (Int.toNat n117) fun e132 => (V.asBool e132 fun b133 => (X xl105 xl106 xi107 (IntKind.i64.wrap (xi108 + 1)) b133 xl110 xi111 xi112 xl113 xi114 (IntKind.i64.wrap (xi115 + 1))))) else none) else (X xl105 xl106 xi107 (IntKind.i64.wrap (xi108 + 1)) false xl110 xi111 xi112 xl113 xi114 (IntKind.i64.wrap (xi115 + 1)))) else (bif xb109 then (bif ((decide (0 ≤ n117)) && (decide (n117 < ((List.length xl106 : Nat) : Int)))) then (nthK xl106 (Int.toNat n117) fun e134 => (V.asBool e134 fun b135 => (X xl105 xl106 xi107 xi108 b135 xl110 xi111 xi112 xl113 xi114 (IntKind.i64.wrap (xi115 + 1))))) else none) else (X xl105 xl106 xi107 xi108 false xl110 xi111 xi112 xl113 xi114 (IntKind.i64.wrap (xi115 + 1))))))) else none)))))))) else none))) else none) else (Ko xl105 xl106 xi107 xi108 xb109 xl110 xi111 xi112))
def l29_4g {R : Type} (G : ORC R) (k : Nat) (Ko : List V → List V → Int → Int → Bool → List V → Int → Int → Option R) : Nat → List V → List V → Int → Int → Bool → List V → Int → Int → List V → Int → Int → Option R
  | 0 => fun _ _ _ _ _ _ _ _ _ _ _ => none
  | j + 1 => b29_4 G k (l29_4g G k Ko j) Ko
def l29_4 {R : Type} (G : ORC R) (k : Nat) (xl105 xl106 : List V) (xi107 xi108 : Int) (xb109 : Bool) (xl110 : List V) (xi111 xi112 : Int) (xl113 : List V) (xi114 xi115 : Int) (Ko : List V → List V → Int → Int → Bool → List V → Int → Int → Option R) : Option R := l29_4g G k Ko k xl105 xl106 xi107 xi108 xb109 xl110 xi111 xi112 xl113 xi114 xi115
def P29_2h : Pat := { tmps := unds [.var (.sl 7) .ro, .undef, .undef, .undef, .undef, .var (.sl 1) (.own true)] 81 (unds [.var (.sl 1) .ro, .var (.int .i64) .pr, .var (.int .i64) .pr] 54 []), boxes := nons [] 144 [] }
def P29_2x : Pat := { tmps := unds [] 144 [], boxes := nons [] 144 [] }
def P29_2r : Pat := { tmps := unds [.undef, .undef, .undef, .undef, .var .bool .pr] 139 [], boxes := nons [] 144 [] }
def b29_2 {R : Type} (G : ORC R) (k : Nat) (X : List V → List V → List V → Int → Int → Option R) (Ko : Unit → Option R) (Kr : Bool → Option R) (xl95 xl96 xl97 : List V) (xi98 xi99 : Int) : Option R :=
  (bif (decide (xi99 < xi98)) then (bif ((decide (0 ≤ xi99)) && (decide (xi99 < ((List.length xl97 : Nat) : Int)))) then (nthK xl97 (Int.toNat xi99) fun e100 => (aI .i64 e100 fun n101 => (G 23 [(.sl 7 xl95), (.int .i64 n101)] fun o102 => (uL 1 o102 fun l104 r103 => (unNil r103 (l29_4 G k xl95 xl96 n101 0 true xl97 xi98 xi99 l104 ((List.length l104 : Nat) : Int) 0 (fun yl105 yl106 yi107 yi108 yb109 yl110 yi111 yi112 => (bif ((decide (0 ≤ yi107)) && (decide (yi107 < ((List.length yl105 : Nat) : Int)))) then (nthK yl105 (Int.toNat yi107) fun e113 => (ca7 e113 fun c114 c115 c116 c117 c118 c119 c120 => (aI .i64 c114 fun n121 => (bif (n121 == 2) then (bif (yi108 != 1) then (Kr false) else (bif ((decide (0 ≤ yi107)) && (decide (yi107 < ((List.length yl105 : Nat) : Int)))) then (nthK yl105 (Int.toNat yi107) fun e122 => (ca7 e122 fun c123 c124 c125 c126 c127 c128 c129 => (aI .i64 c123 fun n130 => (bif (n130 == 3) then (bif (!yb109) then (Kr false) else (X yl105 yl106 yl110 yi111 (IntKind.i64.wrap (yi112 + 1)))) else (X yl105 yl106 yl110 yi111 (IntKind.i64.wrap (yi112 + 1))))))) else none)) else (bif ((decide (0 ≤ yi107)) && (decide (yi107 < ((List.length yl105 : Nat) : Int)))) then (nthK yl105 (Int.toNat yi107) fun e131 => (ca7 e131 fun c132 c133 c134 c135 c136 c137 c138 => (aI .i64 c132 fun n139 => (bif (n139 == 3) then (bif (!yb109) then (Kr false) else (X yl105 yl106 yl110 yi111 (IntKind.i64.wrap (yi112 + 1)))) else (X yl105 yl106 yl110 yi111 (IntKind.i64.wrap (yi112 + 1))))))) else none))))) else none)))))))) else none) else (Ko ()))
def l29_2g {R : Type} (G : ORC R) (k : Nat) (Ko : Unit → Option R) (Kr : Bool → Option R) : Nat → List V → List V → List V → Int → Int → Option R
  | 0 => fun _ _ _ _ _ => none
  | j + 1 => b29_2 G k (l29_2g G k Ko Kr j) Ko Kr
def l29_2 {R : Type} (G : ORC R) (k : Nat) (xl95 xl96 xl97 : List V) (xi98 xi99 : Int) (Ko : Unit → Option R) (Kr : Bool → Option R) : Option R := l29_2g G k Ko Kr k xl95 xl96 xl97 xi98 xi99
def rd29_0 {R : Type} (G : ORC R) (k : Nat) (K : Ex → St → Option R) (j : Nat) (vs : List V) : Option R := match vs with
  | [(.sl 7 xl5), (.sl 1 xl6), (.sl 1 xl7), (.sl 1 xl8), (.int .i64 xi9), (.int .i64 xi10)] => l29_0g G k (fun yl142 yl143 yl144 => K .normal (P29_0x.inst [(.sl 7 yl142), (.sl 1 yl143), (.sl 1 yl144)])) (fun yb145 => K .ret (P29_0r.inst [(.bool yb145)])) j xl5 xl6 xl7 xl8 xi9 xi10
  | _ => none
def rd29_4 {R : Type} (G : ORC R) (k : Nat) (K : Ex → St → Option R) (j : Nat) (vs : List V) : Option R := match vs with
  | [(.sl 7 xl105), (.sl 1 xl106), (.int .i64 xi107), (.int .i64 xi108), (.bool xb109), (.sl 1 xl110), (.int .i64 xi111), (.int .i64 xi112), (.sl 1 xl113), (.int .i64 xi114), (.int .i64 xi115)] => l29_4g G k (fun yl146 yl147 yi148 yi149 yb150 yl151 yi152 yi153 => K .normal (P29_4x.inst [(.sl 7 yl146), (.sl 1 yl147), (.int .i64 yi148), (.int .i64 yi149), (.bool yb150), (.sl 1 yl151), (.int .i64 yi152), (.int .i64 yi153)])) j xl105 xl106 xi107 xi108 xb109 xl110 xi111 xi112 xl113 xi114 xi115
  | _ => none
def rd29_2 {R : Type} (G : ORC R) (k : Nat) (K : Ex → St → Option R) (j : Nat) (vs : List V) : Option R := match vs with
  | [(.sl 7 xl95), (.sl 1 xl96), (.sl 1 xl97), (.int .i64 xi98), (.int .i64 xi99)] => l29_2g G k (fun _ => K .normal (P29_2x.inst [])) (fun yb154 => K .ret (P29_2r.inst [(.bool yb154)])) j xl95 xl96 xl97 xi98 xi99
  | _ => none
def L29 {R : Type} (G : ORC R) (k : Nat) : Nat → St → (Ex → St → Option R) → Option R
  | 0, S, K => P29_0h.mat S fun vs => rd29_0 G k K k vs
  | 4, S, K => P29_4h.mat S fun vs => rd29_4 G k K k vs
  | 2, S, K => P29_2h.mat S fun vs => rd29_2 G k K k vs
  | _, _, _ => none
def f29 {R : Type} (G : ORC R) (k : Nat) (al1 al2 : List V) (K : List V → Option R) : Option R :=
  (bif (((List.length al2 : Nat) : Int) == 0) then (K [(.bool false)]) else (bif (decide (0 < ((List.length al2 : Nat) : Int))) then (nthK al2 0 fun e3 => (aI .i64 e3 fun n4 => (bif (n4 != 0) then (K [(.bool false)]) else (bif (((decide (0 ≤ ((List.length al1 : Nat) : Int))) && (decide (((List.length al1 : Nat) : Int) ≤ ((List.length al1 : Nat) : Int)))) && (decide (((List.length al1 : Nat) : Int) ≤ 1073741824))) then (l29_0 G k al1 al2 (List.replicate (Int.toNat ((List.length al1 : Nat) : Int)) (.bool false)) al2 ((List.length al2 : Nat) : Int) 0 (fun yl92 yl93 yl94 => (l29_2 G k yl92 yl94 yl93 ((List.length yl93 : Nat) : Int) 0 (fun (_ : Unit) => (K [(.bool true)])) (fun yb140 => (K [(.bool yb140)])))) (fun yb141 => (K [(.bool yb141)]))) else none)))) else none))
noncomputable def D29_0 : LoopD := { id := 0, body := loopAt 0 (bodyOf Try.f29), head := P29_0h, out := P29_0x, ret := P29_0r }
theorem l29_0_is {R : Type} (G : ORC R) (k : Nat) (X : List V → Option R) (K : Ex → St → Option R) (xl5 xl6 : List V) (xl7 xl8 : List V) (xi9 xi10 : Int) :
    roundOf (TAB.env 29) G (L29 G k) D29_0 X K [(.sl 7 xl5), (.sl 1 xl6), (.sl 1 xl7), (.sl 1 xl8), (.int .i64 xi9), (.int .i64 xi10)] = b29_0 G k (fun xl5 xl6 xl7 xl8 xi9 xi10 => X [(.sl 7 xl5), (.sl 1 xl6), (.sl 1 xl7), (.sl 1 xl8), (.int .i64 xi9), (.int .i64 xi10)]) (fun yl142 yl143 yl144 => K .normal (P29_0x.inst [(.sl 7 yl142), (.sl 1 yl143), (.sl 1 yl144)])) (fun yb145 => K .ret (P29_0r.inst [(.bool yb145)])) xl5 xl6 xl7 xl8 xi9 xi10 := by kernel_rfl
noncomputable def D29_4 : LoopD := { id := 4, body := loopAt 4 (bodyOf Try.f29), head := P29_4h, out := P29_4x, ret := default }
theorem l29_4_is {R : Type} (G : ORC R) (k : Nat) (X : List V → Option R) (K : Ex → St → Option R) (xl105 xl106 : List V) (xi107 xi108 : Int) (xb109 : Bool) (xl110 : List V) (xi111 xi112 : Int) (xl113 : List V) (xi114 xi115 : Int) :
    roundOf (TAB.env 29) G (L29 G k) D29_4 X K [(.sl 7 xl105), (.sl 1 xl106), (.int .i64 xi107), (.int .i64 xi108), (.bool xb109), (.sl 1 xl110), (.int .i64 xi111), (.int .i64 xi112), (.sl 1 xl113), (.int .i64 xi114), (.int .i64 xi115)] = b29_4 G k (fun xl105 xl106 xi107 xi108 xb109 xl110 xi111 xi112 xl113 xi114 xi115 => X [(.sl 7 xl105), (.sl 1 xl106), (.int .i64 xi107), (.int .i64 xi108), (.bool xb109), (.sl 1 xl110), (.int .i64 xi111), (.int .i64 xi112), (.sl 1 xl113), (.int .i64 xi114), (.int .i64 xi115)]) (fun yl146 yl147 yi148 yi149 yb150 yl151 yi152 yi153 => K .normal (P29_4x.inst [(.sl 7 yl146), (.sl 1 yl147), (.int .i64 yi148), (.int .i64 yi149), (.bool yb150), (.sl 1 yl151), (.int .i64 yi152), (.int .i64 yi153)])) xl105 xl106 xi107 xi108 xb109 xl110 xi111 xi112 xl113 xi114 xi115 := by kernel_rfl
noncomputable def D29_2 : LoopD := { id := 2, body := loopAt 2 (bodyOf Try.f29), head := P29_2h, out := P29_2x, ret := P29_2r }
theorem l29_2_is {R : Type} (G : ORC R) (k : Nat) (X : List V → Option R) (K : Ex → St → Option R) (xl95 xl96 xl97 : List V) (xi98 xi99 : Int) :
    roundOf (TAB.env 29) G (L29 G k) D29_2 X K [(.sl 7 xl95), (.sl 1 xl96), (.sl 1 xl97), (.int .i64 xi98), (.int .i64 xi99)] = b29_2 G k (fun xl95 xl96 xl97 xi98 xi99 => X [(.sl 7 xl95), (.sl 1 xl96), (.sl 1 xl97), (.int .i64 xi98), (.int .i64 xi99)]) (fun _ => K .normal (P29_2x.inst [])) (fun yb154 => K .ret (P29_2r.inst [(.bool yb154)])) xl95 xl96 xl97 xi98 xi99 := by kernel_rfl
theorem f29_is {R : Type} (G : ORC R) (k : Nat) (K : List V → Option R) (al1 al2 : List V) :
    callF (TAB.env 29) G (L29 G k) Try.f29 S29 [(.sl 7 al1), (.sl 1 al2)] K = f29 G k al1 al2 K := by kernel_rfl
theorem li29_0 {R : Type} (G : ORC R) (k : Nat) : LoopIs (TAB.env 29) G (L29 G k) 0 (loopAt 0 (bodyOf Try.f29)) :=
  ⟨D29_0, fun j vs K => rd29_0 G k K j vs, k, rfl, rfl, by kernel_rfl, by kernel_rfl, by kernel_rfl, (fun vs K => by unfold rd29_0; dsimp only; split <;> rfl),
    (fun j vs K r h => by
      unfold rd29_0 at h
      dsimp only at h
      split at h
      · rw [l29_0_is]; exact h
      · cases h), (fun S K r h => h)⟩
theorem li29_4 {R : Type} (G : ORC R) (k : Nat) : LoopIs (TAB.env 29) G (L29 G k) 4 (loopAt 4 (bodyOf Try.f29)) :=
  ⟨D29_4, fun j vs K => rd29_4 G k K j vs, k, rfl, rfl, by kernel_rfl, by kernel_rfl, by kernel_rfl, (fun vs K => by unfold rd29_4; dsimp only; split <;> rfl),
    (fun j vs K r h => by
      unfold rd29_4 at h
      dsimp only at h
      split at h
      · rw [l29_4_is]; exact h
      · cases h), (fun S K r h => h)⟩
theorem li29_2 {R : Type} (G : ORC R) (k : Nat) : LoopIs (TAB.env 29) G (L29 G k) 2 (loopAt 2 (bodyOf Try.f29)) :=
  ⟨D29_2, fun j vs K => rd29_2 G k K j vs, k, rfl, rfl, by kernel_rfl, by kernel_rfl, by kernel_rfl, (fun vs K => by unfold rd29_2; dsimp only; split <;> rfl),
    (fun j vs K r h => by
      unfold rd29_2 at h
      dsimp only at h
      split at h
      · rw [l29_2_is]; exact h
      · cases h), (fun S K r h => h)⟩
theorem lo29 : loopsOf (bodyOf Try.f29) = [(0, loopAt 0 (bodyOf Try.f29)), (2, loopAt 2 (bodyOf Try.f29)), (4, loopAt 4 (bodyOf Try.f29))] := by kernel_rfl
theorem la29 {R : Type} (G : ORC R) (k : Nat) : LoopsAre (TAB.env 29) G (L29 G k) (bodyOf Try.f29) :=
  loopsAre_of (by rw [lo29]; intro p hp; simp only [List.mem_cons, List.not_mem_nil, or_false] at hp; rcases hp with rfl | rfl | rfl <;> first | exact li29_0 G k | exact li29_2 G k | exact li29_4 G k)
def g29 {R : Type} (G : ORC R) (k : Nat) (args : List V) (K : List V → Option R) : Option R := match args with
  | [(.sl 7 al1), (.sl 1 al2)] => f29 G k al1 al2 K
  | _ => none
theorem s29 {R : Type} {G : ORC R} {k : Nat} (hG : Sound Try.prog TAB G) (args : List V) (K : List V → Option R) (r : R) (h : g29 G k args K = some r) : ∃ o, CallOK Try.prog TAB.env 29 args o ∧ K o = some r := by
  unfold g29 at h
  split at h
  · rw [← f29_is] at h
    exact callF_sound (f := 29) TAB_chk MO hG Try.func29 (sg := S29) (by kernel_rfl) (by kernel_rfl) (la29 G k) h
  · cases h
end Go.Proofs.Ytblabbcmokldiaa.Vm
open Go Go.VM
set_option linter.unusedVariables false
set_option maxRecDepth 100000
set_option maxHeartbeats 4000000
namespace Go.Proofs.Ytblabbcmokldiaa.Vm
/-! ### cotillion/flat.Atomic: function 31 -/
def P31_0h : Pat := { tmps := unds [.var (.sl 7) .ro, .undef, .undef, .undef, .undef, .var (.sl 1) (.own true), .undef, .undef, .var (.sl 1) .ro, .var (.int .i64) .pr, .var (.int .i64) .pr] 20 [], boxes := nons [] 31 [] }
def P31_0x : Pat := { tmps := unds [] 5 (unds [.var (.sl 1) (.own true)] 25 []), boxes := nons [] 31 [] }
def b31_0 {R : Type} (G : ORC R) (k : Nat) (X : List V → List V → List V → Int → Int → Option R) (Ko : List V → Option R) (xl3 xl4 xl5 : List V) (xi6 xi7 : Int) : Option R :=
  (bif (decide (xi7 < xi6)) then (bif ((decide (0 ≤ xi7)) && (decide (xi7 < ((List.length xl5 : Nat) : Int)))) then (nthK xl5 (Int.toNat xi7) fun e8 => (aI .i64 e8 fun n9 => (G 63 [(.sl 7 xl3), (.int .i64 n9)] fun o10 => (uB o10 fun b12 r11 => (unNil r11 (bif b12 then (bif ((decide (0 ≤ n9)) && (decide (n9 < ((List.length xl3 : Nat) : Int)))) then (nthK xl3 (Int.toNat n9) fun e13 => (ca7 e13 fun c14 c15 c16 c17 c18 c19 c20 => (aI .i64 c14 fun n21 => (bif (n21 == 1) then (bif (decide (List.length xl4 + 1 ≤ 1073741824)) then (X xl3 (xl4 ++ [(.int .i64 n9)]) xl5 xi6 (IntKind.i64.wrap (xi7 + 1))) else none) else (X xl3 xl4 xl5 xi6 (IntKind.i64.wrap (xi7 + 1))))))) else none) else (X xl3 xl4 xl5 xi6 (IntKind.i64.wrap (xi7 + 1))))))))) else none) else (Ko xl4))
def l31_0g {R : Type} (G : ORC R) (k : Nat) (Ko : List V → Option R) : Nat → List V → List V → List V → Int → Int → Option R
  | 0 => fun _ _ _ _ _ => none
  | j + 1 => b31_0 G k (l31_0g G k Ko j) Ko
def l31_0 {R : Type} (G : ORC R) (k : Nat) (xl3 xl4 xl5 : List V) (xi6 xi7 : Int) (Ko : List V → Option R) : Option R := l31_0g G k Ko k xl3 xl4 xl5 xi6 xi7
def rd31_0 {R : Type} (G : ORC R) (k : Nat) (K : Ex → St → Option R) (j : Nat) (vs : List V) : Option R := match vs with
  | [(.sl 7 xl3), (.sl 1 xl4), (.sl 1 xl5), (.int .i64 xi6), (.int .i64 xi7)] => l31_0g G k (fun yl23 => K .normal (P31_0x.inst [(.sl 1 yl23)])) j xl3 xl4 xl5 xi6 xi7
  | _ => none
def L31 {R : Type} (G : ORC R) (k : Nat) : Nat → St → (Ex → St → Option R) → Option R
  | 0, S, K => P31_0h.mat S fun vs => rd31_0 G k K k vs
  | _, _, _ => none
def f31 {R : Type} (G : ORC R) (k : Nat) (al1 al2 : List V) (K : List V → Option R) : Option R :=
  (l31_0 G k al1 [] al2 ((List.length al2 : Nat) : Int) 0 (fun yl22 => (K [(.sl 1 yl22)])))
noncomputable def D31_0 : LoopD := { id := 0, body := loopAt 0 (bodyOf Try.f31), head := P31_0h, out := P31_0x, ret := default }
theorem l31_0_is {R : Type} (G : ORC R) (k : Nat) (X : List V → Option R) (K : Ex → St → Option R) (xl3 xl4 xl5 : List V) (xi6 xi7 : Int) :
    roundOf (TAB.env 31) G (L31 G k) D31_0 X K [(.sl 7 xl3), (.sl 1 xl4), (.sl 1 xl5), (.int .i64 xi6), (.int .i64 xi7)] = b31_0 G k (fun xl3 xl4 xl5 xi6 xi7 => X [(.sl 7 xl3), (.sl 1 xl4), (.sl 1 xl5), (.int .i64 xi6), (.int .i64 xi7)]) (fun yl23 => K .normal (P31_0x.inst [(.sl 1 yl23)])) xl3 xl4 xl5 xi6 xi7 := by kernel_rfl
theorem f31_is {R : Type} (G : ORC R) (k : Nat) (K : List V → Option R) (al1 al2 : List V) :
    callF (TAB.env 31) G (L31 G k) Try.f31 S31 [(.sl 7 al1), (.sl 1 al2)] K = f31 G k al1 al2 K := by kernel_rfl
theorem li31_0 {R : Type} (G : ORC R) (k : Nat) : LoopIs (TAB.env 31) G (L31 G k) 0 (loopAt 0 (bodyOf Try.f31)) :=
  ⟨D31_0, fun j vs K => rd31_0 G k K j vs, k, rfl, rfl, by kernel_rfl, by kernel_rfl, by kernel_rfl, (fun vs K => by unfold rd31_0; dsimp only; split <;> rfl),
    (fun j vs K r h => by
      unfold rd31_0 at h
      dsimp only at h
      split at h
      · rw [l31_0_is]; exact h
      · cases h), (fun S K r h => h)⟩
theorem lo31 : loopsOf (bodyOf Try.f31) = [(0, loopAt 0 (bodyOf Try.f31))] := by kernel_rfl
theorem la31 {R : Type} (G : ORC R) (k : Nat) : LoopsAre (TAB.env 31) G (L31 G k) (bodyOf Try.f31) :=
  loopsAre_of (by rw [lo31]; intro p hp; simp only [List.mem_cons, List.not_mem_nil, or_false] at hp; subst hp; exact li31_0 G k)
def g31 {R : Type} (G : ORC R) (k : Nat) (args : List V) (K : List V → Option R) : Option R := match args with
  | [(.sl 7 al1), (.sl 1 al2)] => f31 G k al1 al2 K
  | _ => none
theorem s31 {R : Type} {G : ORC R} {k : Nat} (hG : Sound Try.prog TAB G) (args : List V) (K : List V → Option R) (r : R) (h : g31 G k args K = some r) : ∃ o, CallOK Try.prog TAB.env 31 args o ∧ K o = some r := by
  unfold g31 at h
  split at h
  · rw [← f31_is] at h
    exact callF_sound (f := 31) TAB_chk MO hG Try.func31 (sg := S31) (by kernel_rfl) (by kernel_rfl) (la31 G k) h
  · cases h
end Go.Proofs.Ytblabbcmokldiaa.Vm
open Go Go.VM
set_option linter.unusedVariables false
set_option maxRecDepth 100000
set_option maxHeartbeats 4000000
namespace Go.Proofs.Ytblabbcmokldiaa.Vm
/-! ### cotillion/cotillionlaw13.some: function 33 -/
def P33_1h : Pat := { tmps := unds [.var (.sl 7) .ro, .stat (.one (.ptr 0 0) .pt)] 5 (unds [.var (.sl 1) (.own false), .var (.sl 1) .ro, .var (.int .i64) .pr] 42 []), boxes := nons [some [.var (.sl 1) .ro true, .var (.int .i64) .pr false]] 52 [] }
def P33_1x : Pat := { tmps := unds [] 7 (unds [.var (.sl 1) (.own false)] 44 []), boxes := nons [some [.var (.sl 1) .ro true, .var (.int .i64) .pr false]] 52 [] }
def b33_1 {R : Type} (G : ORC R) (k : Nat) (X : List V → List V → List V → Int → List V → Int → Option R) (Ko : List V → List V → Int → Option R) (xl29 xl30 xl31 : List V) (xi32 : Int) (xl33 : List V) (xi34 : Int) : Option R :=
  (bif (decide (xi32 < ((List.length xl31 : Nat) : Int))) then (bif ((decide (0 ≤ xi32)) && (decide (xi32 < ((List.length xl31 : Nat) : Int)))) then (nthK xl31 (Int.toNat xi32) fun e35 => (aI .i64 e35 fun n36 => (G 33 [(.sl 7 xl29), (.int .i64 n36), (.sl 1 xl33), (.int .i64 xi34)] fun o37 => (uL 1 o37 fun l39 r38 => (uI .i64 r38 fun n41 r40 => (unNil r40 (bif (decide (List.length xl30 + List.length l39 ≤ 1073741824)) then (X xl29 (xl30 ++ l39) xl31 (IntKind.i64.wrap (xi32 + 1)) xl33 n41) else none))))))) else none) else (Ko xl30 xl33 xi34))
def l33_1g {R : Type} (G : ORC R) (k : Nat) (Ko : List V → List V → Int → Option R) : Nat → List V → List V → List V → Int → List V → Int → Option R
  | 0 => fun _ _ _ _ _ _ => none
  | j + 1 => b33_1 G k (l33_1g G k Ko j) Ko
def l33_1 {R : Type} (G : ORC R) (k : Nat) (xl29 xl30 xl31 : List V) (xi32 : Int) (xl33 : List V) (xi34 : Int) (Ko : List V → List V → Int → Option R) : Option R := l33_1g G k Ko k xl29 xl30 xl31 xi32 xl33 xi34
def rd33_1 {R : Type} (G : ORC R) (k : Nat) (K : Ex → St → Option R) (j : Nat) (vs : List V) : Option R := match vs with
  | [(.sl 7 xl29), (.sl 1 xl30), (.sl 1 xl31), (.int .i64 xi32), (.sl 1 xl33), (.int .i64 xi34)] => l33_1g G k (fun yl45 yl46 yi47 => K .normal (P33_1x.inst [(.sl 1 yl45), (.sl 1 yl46), (.int .i64 yi47)])) j xl29 xl30 xl31 xi32 xl33 xi34
  | _ => none
def L33 {R : Type} (G : ORC R) (k : Nat) : Nat → St → (Ex → St → Option R) → Option R
  | 1, S, K => P33_1h.mat S fun vs => rd33_1 G k K k vs
  | _, _, _ => none
def f33 {R : Type} (G : ORC R) (k : Nat) (al1 : List V) (ai2 : Int) (bl3 : List V) (bi4 : Int) (K : List V → Option R) : Option R :=
  (G 67 [(.sl 7 al1), (.int .i64 ai2)] fun o5 => (uL 1 o5 fun l7 r6 => (unNil r6 (bif ((decide (0 ≤ ai2)) && (decide (ai2 < ((List.length al1 : Nat) : Int)))) then (nthK al1 (Int.toNat ai2) fun e8 => (ca7 e8 fun c9 c10 c11 c12 c13 c14 c15 => (aI .i64 c9 fun n16 => (bif (n16 == 2) then (G 68 [(.int .i64 ((List.length l7 : Nat) : Int)), (.sl 1 bl3), (.int .i64 bi4)] fun o17 => (uI .i64 o17 fun n19 r18 => (uI .i64 r18 fun n21 r20 => (unNil r20 (bif ((decide (0 ≤ n19)) && (decide (n19 < ((List.length l7 : Nat) : Int)))) then (nthK l7 (Int.toNat n19) fun e22 => (aI .i64 e22 fun n23 => (G 33 [(.sl 7 al1), (.int .i64 n23), (.sl 1 bl3), (.int .i64 n21)] fun o24 => (uL 1 o24 fun l26 r25 => (uI .i64 r25 fun n28 r27 => (unNil r27 (bif (decide (1 + List.length l26 ≤ 1073741824)) then (K [(.sl 1 ([(.int .i64 ai2)] ++ l26)), (.int .i64 n28)]) else none))))))) else none))))) else (bif (n16 == 3) then (l33_1 G k al1 [(.int .i64 ai2)] l7 0 bl3 bi4 (fun yl42 yl43 yi44 => (K [(.sl 1 yl42), (.int .i64 yi44)]))) else (K [(.sl 1 [(.int .i64 ai2)]), (.int .i64 bi4)])))))) else none))))
noncomputable def D33_1 : LoopD := { id := 1, body := loopAt 1 (bodyOf Try.f33), head := P33_1h, out := P33_1x, ret := default }
theorem l33_1_is {R : Type} (G : ORC R) (k : Nat) (X : List V → Option R) (K : Ex → St → Option R) (xl29 xl30 xl31 : List V) (xi32 : Int) (xl33 : List V) (xi34 : Int) :
    roundOf (TAB.env 33) G (L33 G k) D33_1 X K [(.sl 7 xl29), (.sl 1 xl30), (.sl 1 xl31), (.int .i64 xi32), (.sl 1 xl33), (.int .i64 xi34)] = b33_1 G k (fun xl29 xl30 xl31 xi32 xl33 xi34 => X [(.sl 7 xl29), (.sl 1 xl30), (.sl 1 xl31), (.int .i64 xi32), (.sl 1 xl33), (.int .i64 xi34)]) (fun yl45 yl46 yi47 => K .normal (P33_1x.inst [(.sl 1 yl45), (.sl 1 yl46), (.int .i64 yi47)])) xl29 xl30 xl31 xi32 xl33 xi34 := by kernel_rfl
theorem f33_is {R : Type} (G : ORC R) (k : Nat) (K : List V → Option R) (al1 : List V) (ai2 : Int) (bl3 : List V) (bi4 : Int) :
    callF (TAB.env 33) G (L33 G k) Try.f33 S33 [(.sl 7 al1), (.int .i64 ai2), (.sl 1 bl3), (.int .i64 bi4)] K = f33 G k al1 ai2 bl3 bi4 K := by kernel_rfl
theorem li33_1 {R : Type} (G : ORC R) (k : Nat) : LoopIs (TAB.env 33) G (L33 G k) 1 (loopAt 1 (bodyOf Try.f33)) :=
  ⟨D33_1, fun j vs K => rd33_1 G k K j vs, k, rfl, rfl, by kernel_rfl, by kernel_rfl, by kernel_rfl, (fun vs K => by unfold rd33_1; dsimp only; split <;> rfl),
    (fun j vs K r h => by
      unfold rd33_1 at h
      dsimp only at h
      split at h
      · rw [l33_1_is]; exact h
      · cases h), (fun S K r h => h)⟩
theorem lo33 : loopsOf (bodyOf Try.f33) = [(1, loopAt 1 (bodyOf Try.f33))] := by kernel_rfl
theorem la33 {R : Type} (G : ORC R) (k : Nat) : LoopsAre (TAB.env 33) G (L33 G k) (bodyOf Try.f33) :=
  loopsAre_of (by rw [lo33]; intro p hp; simp only [List.mem_cons, List.not_mem_nil, or_false] at hp; subst hp; exact li33_1 G k)
def g33 {R : Type} (G : ORC R) (k : Nat) (args : List V) (K : List V → Option R) : Option R := match args with
  | [(.sl 7 al1), (.int .i64 ai2), (.sl 1 bl3), (.int .i64 bi4)] => f33 G k al1 ai2 bl3 bi4 K
  | _ => none
theorem s33 {R : Type} {G : ORC R} {k : Nat} (hG : Sound Try.prog TAB G) (args : List V) (K : List V → Option R) (r : R) (h : g33 G k args K = some r) : ∃ o, CallOK Try.prog TAB.env 33 args o ∧ K o = some r := by
  unfold g33 at h
  split at h
  · rw [← f33_is] at h
    exact callF_sound (f := 33) TAB_chk MO hG Try.func33 (sg := S33) (by kernel_rfl) (by kernel_rfl) (la33 G k) h
  · cases h
end Go.Proofs.Ytblabbcmokldiaa.Vm
open Go Go.VM
set_option linter.unusedVariables false
set_option maxRecDepth 100000
set_option maxHeartbeats 4000000
namespace Go.Proofs.Ytblabbcmokldiaa.Vm
/-! ### cotillion/cotillionref3.Has: function 34 -/
def P34_0h : Pat := { tmps := unds [.var (.sl 1) .ro, .var (.int .i64) .pr, .undef, .undef, .undef, .var (.int .i64) .pr] 12 [], boxes := nons [] 18 [] }
def P34_0x : Pat := { tmps := unds [] 18 [], boxes := nons [] 18 [] }
def P34_0r : Pat := { tmps := unds [.undef, .undef, .undef, .undef, .var .bool .pr] 13 [], boxes := nons [] 18 [] }
def b34_0 {R : Type} (G : ORC R) (k : Nat) (X : List V → Int → Int → Option R) (Ko : Unit → Option R) (Kr : Bool → Option R) (xl3 : List V) (xi4 xi5 : Int) : Option R :=
  (bif (decide (xi5 < ((List.length xl3 : Nat) : Int))) then (bif ((decide (0 ≤ xi5)) && (decide (xi5 < ((List.length xl3 : Nat) : Int)))) then (nthK xl3 (Int.toNat xi5) fun e6 => (aI .i64 e6 fun n7 => (bif (n7 == xi4) then (Kr true) else (X xl3 xi4 (IntKind.i64.wrap (xi5 + 1)))))) else none) else (Ko ()))
def l34_0g {R : Type} (G : ORC R) (k : Nat) (Ko : Unit → Option R) (Kr : Bool → Option R) : Nat → List V → Int → Int → Option R
  | 0 => fun _ _ _ => none
  | j + 1 => b34_0 G k (l34_0g G k Ko Kr j) Ko Kr
def l34_0 {R : Type} (G : ORC R) (k : Nat) (xl3 : List V) (xi4 xi5 : Int) (Ko : Unit → Option R) (Kr : Bool → Option R) : Option R := l34_0g G k Ko Kr k xl3 xi4 xi5
def rd34_0 {R : Type} (G : ORC R) (k : Nat) (K : Ex → St → Option R) (j : Nat) (vs : List V) : Option R := match vs with
  | [(.sl 1 xl3), (.int .i64 xi4), (.int .i64 xi5)] => l34_0g G k (fun _ => K .normal (P34_0x.inst [])) (fun yb9 => K .ret (P34_0r.inst [(.bool yb9)])) j xl3 xi4 xi5
  | _ => none
def L34 {R : Type} (G : ORC R) (k : Nat) : Nat → St → (Ex → St → Option R) → Option R
  | 0, S, K => P34_0h.mat S fun vs => rd34_0 G k K k vs
  | _, _, _ => none
def f34 {R : Type} (G : ORC R) (k : Nat) (al1 : List V) (ai2 : Int) (K : List V → Option R) : Option R :=
  (l34_0 G k al1 ai2 0 (fun (_ : Unit) => (K [(.bool false)])) (fun yb8 => (K [(.bool yb8)])))
noncomputable def D34_0 : LoopD := { id := 0, body := loopAt 0 (bodyOf Try.f34), head := P34_0h, out := P34_0x, ret := P34_0r }
theorem l34_0_is {R : Type} (G : ORC R) (k : Nat) (X : List V → Option R) (K : Ex → St → Option R) (xl3 : List V) (xi4 xi5 : Int) :
    roundOf (TAB.env 34) G (L34 G k) D34_0 X K [(.sl 1 xl3), (.int .i64 xi4), (.int .i64 xi5)] = b34_0 G k (fun xl3 xi4 xi5 => X [(.sl 1 xl3), (.int .i64 xi4), (.int .i64 xi5)]) (fun _ => K .normal (P34_0x.inst [])) (fun yb9 => K .ret (P34_0r.inst [(.bool yb9)])) xl3 xi4 xi5 := by kernel_rfl
theorem f34_is {R : Type} (G : ORC R) (k : Nat) (K : List V → Option R) (al1 : List V) (ai2 : Int) :
    callF (TAB.env 34) G (L34 G k) Try.f34 S34 [(.sl 1 al1), (.int .i64 ai2)] K = f34 G k al1 ai2 K := by kernel_rfl
theorem li34_0 {R : Type} (G : ORC R) (k : Nat) : LoopIs (TAB.env 34) G (L34 G k) 0 (loopAt 0 (bodyOf Try.f34)) :=
  ⟨D34_0, fun j vs K => rd34_0 G k K j vs, k, rfl, rfl, by kernel_rfl, by kernel_rfl, by kernel_rfl, (fun vs K => by unfold rd34_0; dsimp only; split <;> rfl),
    (fun j vs K r h => by
      unfold rd34_0 at h
      dsimp only at h
      split at h
      · rw [l34_0_is]; exact h
      · cases h), (fun S K r h => h)⟩
theorem lo34 : loopsOf (bodyOf Try.f34) = [(0, loopAt 0 (bodyOf Try.f34))] := by kernel_rfl
theorem la34 {R : Type} (G : ORC R) (k : Nat) : LoopsAre (TAB.env 34) G (L34 G k) (bodyOf Try.f34) :=
  loopsAre_of (by rw [lo34]; intro p hp; simp only [List.mem_cons, List.not_mem_nil, or_false] at hp; subst hp; exact li34_0 G k)
def g34 {R : Type} (G : ORC R) (k : Nat) (args : List V) (K : List V → Option R) : Option R := match args with
  | [(.sl 1 al1), (.int .i64 ai2)] => f34 G k al1 ai2 K
  | _ => none
theorem s34 {R : Type} {G : ORC R} {k : Nat} (hG : Sound Try.prog TAB G) (args : List V) (K : List V → Option R) (r : R) (h : g34 G k args K = some r) : ∃ o, CallOK Try.prog TAB.env 34 args o ∧ K o = some r := by
  unfold g34 at h
  split at h
  · rw [← f34_is] at h
    exact callF_sound (f := 34) TAB_chk MO hG Try.func34 (sg := S34) (by kernel_rfl) (by kernel_rfl) (la34 G k) h
  · cases h
end Go.Proofs.Ytblabbcmokldiaa.Vm
open Go Go.VM
set_option linter.unusedVariables false
set_option maxRecDepth 100000
set_option maxHeartbeats 4000000
namespace Go.Proofs.Ytblabbcmokldiaa.Vm
/-! ### cotillion/cotillionref3.Or: function 35 -/
def L35 {R : Type} (_ : ORC R) (_ : Nat) : Nat → St → (Ex → St → Option R) → Option R := fun _ _ _ => none
def f35 {R : Type} (G : ORC R) (k : Nat) (al1 al2 : List V) (K : List V → Option R) : Option R :=
  (bif (decide (0 + List.length al1 ≤ 1073741824)) then (bif (decide (List.length ([] ++ al1) + List.length al2 ≤ 1073741824)) then (G 26 [(.sl 1 (([] ++ al1) ++ al2))] fun o3 => (uL 1 o3 fun l5 r4 => (unNil r4 (K [(.sl 1 l5)])))) else none) else none)
theorem f35_is {R : Type} (G : ORC R) (k : Nat) (K : List V → Option R) (al1 al2 : List V) :
    callF (TAB.env 35) G (L35 G k) Try.f35 S35 [(.sl 1 al1), (.sl 1 al2)] K = f35 G k al1 al2 K := by kernel_rfl
theorem lo35 : loopsOf (bodyOf Try.f35) = [] := by kernel_rfl
theorem la35 {R : Type} (G : ORC R) (k : Nat) : LoopsAre (TAB.env 35) G (L35 G k) (bodyOf Try.f35) :=
  loopsAre_of (by rw [lo35]; intro p hp; cases hp)
def g35 {R : Type} (G : ORC R) (k : Nat) (args : List V) (K : List V → Option R) : Option R := match args with
  | [(.sl 1 al1), (.sl 1 al2)] => f35 G k al1 al2 K
  | _ => none
theorem s35 {R : Type} {G : ORC R} {k : Nat} (hG : Sound Try.prog TAB G) (args : List V) (K : List V → Option R) (r : R) (h : g35 G k args K = some r) : ∃ o, CallOK Try.prog TAB.env 35 args o ∧ K o = some r := by
  unfold g35 at h
  split at h
  · rw [← f35_is] at h
    exact callF_sound (f := 35) TAB_chk MO hG Try.func35 (sg := S35) (by kernel_rfl) (by kernel_rfl) (la35 G k) h
  · cases h
end Go.Proofs.Ytblabbcmokldiaa.Vm
open Go Go.VM
set_option linter.unusedVariables false
set_option maxRecDepth 100000
set_option maxHeartbeats 4000000
namespace Go.Proofs.Ytblabbcmokldiaa.Vm
/-! ### cotillion/cotillionref3.Not: function 36 -/
def P36_0h : Pat := { tmps := unds [.var (.sl 1) .ro, .var (.sl 1) .ro, .undef, .undef, .undef, .var (.sl 1) (.own true), .var (.int .i64) .pr] 21 [], boxes := nons [] 28 [] }
def P36_0x : Pat := { tmps := unds [] 5 (unds [.var (.sl 1) (.own true)] 22 []), boxes := nons [] 28 [] }
def b36_0 {R : Type} (G : ORC R) (k : Nat) (X : List V → List V → List V → Int → Option R) (Ko : List V → Option R) (xl3 xl4 xl5 : List V) (xi6 : Int) : Option R :=
  (bif (decide (xi6 < ((List.length xl3 : Nat) : Int))) then (bif ((decide (0 ≤ xi6)) && (decide (xi6 < ((List.length xl3 : Nat) : Int)))) then (nthK xl3 (Int.toNat xi6) fun e7 => (aI .i64 e7 fun n8 => (G 34 [(.sl 1 xl4), (.int .i64 n8)] fun o9 => (uB o9 fun b11 r10 => (unNil r10 (bif (!b11) then (bif ((decide (0 ≤ xi6)) && (decide (xi6 < ((List.length xl3 : Nat) : Int)))) then (nthK xl3 (Int.toNat xi6) fun e12 => (aI .i64 e12 fun n13 => (bif (decide (List.length xl5 + 1 ≤ 1073741824)) then (X xl3 xl4 (xl5 ++ [(.int .i64 n13)]) (IntKind.i64.wrap (xi6 + 1))) else none))) else none) else (X xl3 xl4 xl5 (IntKind.i64.wrap (xi6 + 1))))))))) else none) else (Ko xl5))
def l36_0g {R : Type} (G : ORC R) (k : Nat) (Ko : List V → Option R) : Nat → List V → List V → List V → Int → Option R
  | 0 => fun _ _ _ _ => none
  | j + 1 => b36_0 G k (l36_0g G k Ko j) Ko
def l36_0 {R : Type} (G : ORC R) (k : Nat) (xl3 xl4 xl5 : List V) (xi6 : Int) (Ko : List V → Option R) : Option R := l36_0g G k Ko k xl3 xl4 xl5 xi6
def rd36_0 {R : Type} (G : ORC R) (k : Nat) (K : Ex → St → Option R) (j : Nat) (vs : List V) : Option R := match vs with
  | [(.sl 1 xl3), (.sl 1 xl4), (.sl 1 xl5), (.int .i64 xi6)] => l36_0g G k (fun yl15 => K .normal (P36_0x.inst [(.sl 1 yl15)])) j xl3 xl4 xl5 xi6
  | _ => none
def L36 {R : Type} (G : ORC R) (k : Nat) : Nat → St → (Ex → St → Option R) → Option R
  | 0, S, K => P36_0h.mat S fun vs => rd36_0 G k K k vs
  | _, _, _ => none
def f36 {R : Type} (G : ORC R) (k : Nat) (al1 al2 : List V) (K : List V → Option R) : Option R :=
  (l36_0 G k al1 al2 [] 0 (fun yl14 => (K [(.sl 1 yl14)])))
noncomputable def D36_0 : LoopD := { id := 0, body := loopAt 0 (bodyOf Try.f36), head := P36_0h, out := P36_0x, ret := default }
theorem l36_0_is {R : Type} (G : ORC R) (k : Nat) (X : List V → Option R) (K : Ex → St → Option R) (xl3 xl4 xl5 : List V) (xi6 : Int) :
    roundOf (TAB.env 36) G (L36 G k) D36_0 X K [(.sl 1 xl3), (.sl 1 xl4), (.sl 1 xl5), (.int .i64 xi6)] = b36_0 G k (fun xl3 xl4 xl5 xi6 => X [(.sl 1 xl3), (.sl 1 xl4), (.sl 1 xl5), (.int .i64 xi6)]) (fun yl15 => K .normal (P36_0x.inst [(.sl 1 yl15)])) xl3 xl4 xl5 xi6 := by kernel_rfl
theorem f36_is {R : Type} (G : ORC R) (k : Nat) (K : List V → Option R) (al1 al2 : List V) :
    callF (TAB.env 36) G (L36 G k) Try.f36 S36 [(.sl 1 al1), (.sl 1 al2)] K = f36 G k al1 al2 K := by kernel_rfl
theorem li36_0 {R : Type} (G : ORC R) (k : Nat) : LoopIs (TAB.env 36) G (L36 G k) 0 (loopAt 0 (bodyOf Try.f36)) :=
  ⟨D36_0, fun j vs K => rd36_0 G k K j vs, k, rfl, rfl, by kernel_rfl, by kernel_rfl, by kernel_rfl, (fun vs K => by unfold rd36_0; dsimp only; split <;> rfl),
    (fun j vs K r h => by
      unfold rd36_0 at h
      dsimp only at h
      split at h
      · rw [l36_0_is]; exact h
      · cases h), (fun S K r h => h)⟩
theorem lo36 : loopsOf (bodyOf Try.f36) = [(0, loopAt 0 (bodyOf Try.f36))] := by kernel_rfl
theorem la36 {R : Type} (G : ORC R) (k : Nat) : LoopsAre (TAB.env 36) G (L36 G k) (bodyOf Try.f36) :=
  loopsAre_of (by rw [lo36]; intro p hp; simp only [List.mem_cons, List.not_mem_nil, or_false] at hp; subst hp; exact li36_0 G k)
def g36 {R : Type} (G : ORC R) (k : Nat) (args : List V) (K : List V → Option R) : Option R := match args with
  | [(.sl 1 al1), (.sl 1 al2)] => f36 G k al1 al2 K
  | _ => none
theorem s36 {R : Type} {G : ORC R} {k : Nat} (hG : Sound Try.prog TAB G) (args : List V) (K : List V → Option R) (r : R) (h : g36 G k args K = some r) : ∃ o, CallOK Try.prog TAB.env 36 args o ∧ K o = some r := by
  unfold g36 at h
  split at h
  · rw [← f36_is] at h
    exact callF_sound (f := 36) TAB_chk MO hG Try.func36 (sg := S36) (by kernel_rfl) (by kernel_rfl) (la36 G k) h
  · cases h
end Go.Proofs.Ytblabbcmokldiaa.Vm
open Go Go.VM
set_option linter.unusedVariables false
set_option maxRecDepth 100000
set_option maxHeartbeats 4000000
namespace Go.Proofs.Ytblabbcmokldiaa.Vm
/-! ### cotillion/flat.add: function 60 -/
def P60_0h : Pat := { tmps := unds [.var (.sl 7) (.own true), .undef, .undef, .undef, .stat (.one (.ptr 4 0) .pt), .undef, .undef, .var (.int .i64) .pr] 9 (unds [.var (.sl 7) .ro, .var (.int .i64) .pr, .var (.int .i64) .pr] 45 []), boxes := nons [none, none, none, none, some [.var (.int .i64) .pr false, .var (.int .i64) .pr false, .var (.int .i64) .pr false, .var (.int .i64) .pr false, .var (.int .i64) .pr false, .var (.int .i64) .pr false, .var .str .pr false]] 60 [] }
def P60_0x : Pat := { tmps := unds [.var (.sl 7) (.own true)] 6 (unds [.var (.int .i64) .pr] 57 []), boxes := nons [] 65 [] }
def b60_0 {R : Type} (G : ORC R) (k : Nat) (X : List V → Int → List V → Int → Int → Int → Int → Int → Int → Int → Int → ByteArray → Option R) (Ko : List V → Int → Option R) (xl10 : List V) (xi11 : Int) (xl12 : List V) (xi13 xi14 : Int) (xi15 xi16 : Int) (xi17 xi18 : Int) (xi19 xi20 : Int) (xs21 : ByteArray) : Option R :=
  (bif (decide (xi14 < xi13)) then (bif ((decide (0 ≤ xi14)) && (decide (xi14 < ((List.length xl12 : Nat) : Int)))) then (nthK xl12 (Int.toNat xi14) fun e22 => (V.asAgg e22 fun l23 => (ce7 l23 fun c24 c25 c26 c27 c28 c29 c30 => (aI .i64 c24 fun n39 => (V.asStr c25 fun s40 => (V.asSl c26 fun z41 l42 => (V.asSl c27 fun z43 l44 => (V.asSl c28 fun z45 l46 => (V.asSl c29 fun z47 l48 => (aI .i64 c30 fun n49 => (G 93 [(.agg [(.int .i64 n39), (.str s40), (.sl z41 l42), (.sl z43 l44), (.sl z45 l46), (.sl z47 l48), (.int .i64 n49)])] fun o50 => (uI .i64 o50 fun n52 r51 => (unNil r51 (bif (xi15 == 2) then (bif ((decide (0 ≤ xi11)) && (decide (xi11 < ((List.length xl10 : Nat) : Int)))) then (nthK xl10 (Int.toNat xi11) fun e53 => (ca7 e53 fun c54 c55 c56 c57 c58 c59 c60 => (aI .i64 c57 fun n61 => (bif (decide (n61 < 0)) then (G 65 [(.int .i64 n52)] fun o62 => (uB o62 fun b64 r63 => (unNil r63 (bif (!b64) then (bif ((decide (0 ≤ xi11)) && (decide (xi11 < ((List.length xl10 : Nat) : Int)))) then (nthK xl10 (Int.toNat xi11) fun e65 => (ca7 e65 fun c66 c67 c68 c69 c70 c71 c72 => (G 60 [(.sl 7 (List.set xl10 (Int.toNat xi11) (.agg [c66, c67, c68, (.int .i64 ((List.length xl10 : Nat) : Int)), c70, c71, c72]))), (.agg [(.int .i64 n52), (.int .i64 xi11), (.int .i64 0), (.int .i64 (-1)), (.int .i64 (-1)), (.int .i64 (-1)), (.str s40)]), (.sl z47 l48)] fun o73 => (uL 7 o73 fun l75 r74 => (unNil r74 (X l75 xi11 xl12 xi13 (IntKind.i64.wrap (xi14 + 1)) xi15 xi16 xi17 xi18 xi19 xi20 xs21)))))) else none) else (G 60 [(.sl 7 xl10), (.agg [(.int .i64 n52), (.int .i64 xi11), (.int .i64 0), (.int .i64 (-1)), (.int .i64 (-1)), (.int .i64 (-1)), (.str s40)]), (.sl z47 l48)] fun o76 => (uL 7 o76 fun l78 r77 => (unNil r77 (X l78 xi11 xl12 xi13 (IntKind.i64.wrap (xi14 + 1)) xi15 xi16 xi17 xi18 xi19 xi20 xs21)))))))) else (G 60 [(.sl 7 xl10), (.agg [(.int .i64 n52), (.int .i64 xi11), (.int .i64 0), (.int .i64 (-1)), (.int .i64 (-1)), (.int .i64 (-1)), (.str s40)]), (.sl z47 l48)] fun o79 => (uL 7 o79 fun l81 r80 => (unNil r80 (X l81 xi11 xl12 xi13 (IntKind.i64.wrap (xi14 + 1)) xi15 xi16 xi17 xi18 xi19 xi20 xs21)))))))) else none) else (G 60 [(.sl 7 xl10), (.agg [(.int .i64 n52), (.int .i64 xi11), (.int .i64 0), (.int .i64 (-1)), (.int .i64 (-1)), (.int .i64 (-1)), (.str s40)]), (.sl z47 l48)] fun o82 => (uL 7 o82 fun l84 r83 => (unNil r83 (X l84 xi11 xl12 xi13 (IntKind.i64.wrap (xi14 + 1)) xi15 xi16 xi17 xi18 xi19 xi20 xs21)))))))))))))))))) else none) else (Ko xl10 xi11))
def l60_0g {R : Type} (G : ORC R) (k : Nat) (Ko : List V → Int → Option R) : Nat → List V → Int → List V → Int → Int → Int → Int → Int → Int → Int → Int → ByteArray → Option R
  | 0 => fun _ _ _ _ _ _ _ _ _ _ _ _ => none
  | j + 1 => b60_0 G k (l60_0g G k Ko j) Ko
def l60_0 {R : Type} (G : ORC R) (k : Nat) (xl10 : List V) (xi11 : Int) (xl12 : List V) (xi13 xi14 : Int) (xi15 xi16 : Int) (xi17 xi18 : Int) (xi19 xi20 : Int) (xs21 : ByteArray) (Ko : List V → Int → Option R) : Option R := l60_0g G k Ko k xl10 xi11 xl12 xi13 xi14 xi15 xi16 xi17 xi18 xi19 xi20 xs21
def rd60_0 {R : Type} (G : ORC R) (k : Nat) (K : Ex → St → Option R) (j : Nat) (vs : List V) : Option R := match vs with
  | [(.sl 7 xl10), (.int .i64 xi11), (.sl 7 xl12), (.int .i64 xi13), (.int .i64 xi14), (.int .i64 xi15), (.int .i64 xi16), (.int .i64 xi17), (.int .i64 xi18), (.int .i64 xi19), (.int .i64 xi20), (.str xs21)] => l60_0g G k (fun yl95 yi96 => K .normal (P60_0x.inst [(.sl 7 yl95), (.int .i64 yi96)])) j xl10 xi11 xl12 xi13 xi14 xi15 xi16 xi17 xi18 xi19 xi20 xs21
  | _ => none
def L60 {R : Type} (G : ORC R) (k : Nat) : Nat → St → (Ex → St → Option R) → Option R
  | 0, S, K => P60_0h.mat S fun vs => rd60_0 G k K k vs
  | _, _, _ => none
def f60 {R : Type} (G : ORC R) (k : Nat) (al1 : List V) (ai2 ai3 : Int) (ai4 ai5 : Int) (ai6 ai7 : Int) (as8 : ByteArray) (al9 : List V) (K : List V → Option R) : Option R :=
  (bif (decide (List.length al1 + 1 ≤ 1073741824)) then (l60_0 G k (al1 ++ [(.agg [(.int .i64 ai2), (.int .i64 ai3), (.int .i64 ai4), (.int .i64 ai5), (.int .i64 ai6), (.int .i64 ai7), (.str as8)])]) ((List.length al1 : Nat) : Int) al9 ((List.length al9 : Nat) : Int) 0 ai2 ai3 ai4 ai5 ai6 ai7 as8 (fun yl85 yi86 => (bif ((decide (0 ≤ yi86)) && (decide (yi86 < ((List.length yl85 : Nat) : Int)))) then (nthK yl85 (Int.toNat yi86) fun e87 => (ca7 e87 fun c88 c89 c90 c91 c92 c93 c94 => (K [(.sl 7 (List.set yl85 (Int.toNat yi86) (.agg [c88, c89, (.int .i64 (IntKind.i64.wrap (((List.length yl85 : Nat) : Int) - 1))), c91, c92, c93, c94])))]))) else none))) else none)
noncomputable def D60_0 : LoopD := { id := 0, body := loopAt 0 (bodyOf Try.f60), head := P60_0h, out := P60_0x, ret := default }
theorem l60_0_is {R : Type} (G : ORC R) (k : Nat) (X : List V → Option R) (K : Ex → St → Option R) (xl10 : List V) (xi11 : Int) (xl12 : List V) (xi13 xi14 : Int) (xi15 xi16 : Int) (xi17 xi18 : Int) (xi19 xi20 : Int) (xs21 : ByteArray) :
    roundOf (TAB.env 60) G (L60 G k) D60_0 X K [(.sl 7 xl10), (.int .i64 xi11), (.sl 7 xl12), (.int .i64 xi13), (.int .i64 xi14), (.int .i64 xi15), (.int .i64 xi16), (.int .i64 xi17), (.int .i64 xi18), (.int .i64 xi19), (.int .i64 xi20), (.str xs21)] = b60_0 G k (fun xl10 xi11 xl12 xi13 xi14 xi15 xi16 xi17 xi18 xi19 xi20 xs21 => X [(.sl 7 xl10), (.int .i64 xi11), (.sl 7 xl12), (.int .i64 xi13), (.int .i64 xi14), (.int .i64 xi15), (.int .i64 xi16), (.int .i64 xi17), (.int .i64 xi18), (.int .i64 xi19), (.int .i64 xi20), (.str xs21)]) (fun yl95 yi96 => K .normal (P60_0x.inst [(.sl 7 yl95), (.int .i64 yi96)])) xl10 xi11 xl12 xi13 xi14 xi15 xi16 xi17 xi18 xi19 xi20 xs21 := by kernel_rfl
theorem f60_is {R : Type} (G : ORC R) (k : Nat) (K : List V → Option R) (al1 : List V) (ai2 ai3 : Int) (ai4 ai5 : Int) (ai6 ai7 : Int) (as8 : ByteArray) (al9 : List V) :
    callF (TAB.env 60) G (L60 G k) Try.f60 S60 [(.sl 7 al1), (.agg [(.int .i64 ai2), (.int .i64 ai3), (.int .i64 ai4), (.int .i64 ai5), (.int .i64 ai6), (.int .i64 ai7), (.str as8)]), (.sl 7 al9)] K = f60 G k al1 ai2 ai3 ai4 ai5 ai6 ai7 as8 al9 K := by kernel_rfl
theorem li60_0 {R : Type} (G : ORC R) (k : Nat) : LoopIs (TAB.env 60) G (L60 G k) 0 (loopAt 0 (bodyOf Try.f60)) :=
  ⟨D60_0, fun j vs K => rd60_0 G k K j vs, k, rfl, rfl, by kernel_rfl, by kernel_rfl, by kernel_rfl, (fun vs K => by unfold rd60_0; dsimp only; split <;> rfl),
    (fun j vs K r h => by
      unfold rd60_0 at h
      dsimp only at h
      split at h
      · rw [l60_0_is]; exact h
      · cases h), (fun S K r h => h)⟩
theorem lo60 : loopsOf (bodyOf Try.f60) = [(0, loopAt 0 (bodyOf Try.f60))] := by kernel_rfl
theorem la60 {R : Type} (G : ORC R) (k : Nat) : LoopsAre (TAB.env 60) G (L60 G k) (bodyOf Try.f60) :=
  loopsAre_of (by rw [lo60]; intro p hp; simp only [List.mem_cons, List.not_mem_nil, or_false] at hp; subst hp; exact li60_0 G k)
def g60 {R : Type} (G : ORC R) (k : Nat) (args : List V) (K : List V → Option R) : Option R := match args with
  | [(.sl 7 al1), (.agg [(.int .i64 ai2), (.int .i64 ai3), (.int .i64 ai4), (.int .i64 ai5), (.int .i64 ai6), (.int .i64 ai7), (.str as8)]), (.sl 7 al9)] => f60 G k al1 ai2 ai3 ai4 ai5 ai6 ai7 as8 al9 K
  | _ => none
theorem s60 {R : Type} {G : ORC R} {k : Nat} (hG : Sound Try.prog TAB G) (args : List V) (K : List V → Option R) (r : R) (h : g60 G k args K = some r) : ∃ o, CallOK Try.prog TAB.env 60 args o ∧ K o = some r := by
  unfold g60 at h
  split at h
  · rw [← f60_is] at h
    exact callF_sound (f := 60) TAB_chk MO hG Try.func60 (sg := S60) (by kernel_rfl) (by kernel_rfl) (la60 G k) h
  · cases h
end Go.Proofs.Ytblabbcmokldiaa.Vm
open Go Go.VM
set_option linter.unusedVariables false
set_option maxRecDepth 100000
set_option maxHeartbeats 4000000
namespace Go.Proofs.Ytblabbcmokldiaa.Vm
/-! ### cotillion/flat.Find$1: function 62 -/
def L62 {R : Type} (_ : ORC R) (_ : Nat) : Nat → St → (Ex → St → Option R) → Option R := fun _ _ _ => none
def f62 {R : Type} (G : ORC R) (k : Nat) (ai1 ai2 : Int) (ai3 ai4 : Int) (ai5 ai6 : Int) (as7 bs8 : ByteArray) (K : List V → Option R) : Option R :=
  (K [(.bool (ByteArray.toList as7 == ByteArray.toList bs8)), (.str bs8)])
theorem f62_is {R : Type} (G : ORC R) (k : Nat) (K : List V → Option R) (ai1 ai2 : Int) (ai3 ai4 : Int) (ai5 ai6 : Int) (as7 bs8 : ByteArray) :
    callF (TAB.env 62) G (L62 G k) Try.f62 S62 [(.agg [(.int .i64 ai1), (.int .i64 ai2), (.int .i64 ai3), (.int .i64 ai4), (.int .i64 ai5), (.int .i64 ai6), (.str as7)]), (.str bs8)] K = f62 G k ai1 ai2 ai3 ai4 ai5 ai6 as7 bs8 K := by kernel_rfl
theorem lo62 : loopsOf (bodyOf Try.f62) = [] := by kernel_rfl
theorem la62 {R : Type} (G : ORC R) (k : Nat) : LoopsAre (TAB.env 62) G (L62 G k) (bodyOf Try.f62) :=
  loopsAre_of (by rw [lo62]; intro p hp; cases hp)
def g62 {R : Type} (G : ORC R) (k : Nat) (args : List V) (K : List V → Option R) : Option R := match args with
  | [(.agg [(.int .i64 ai1), (.int .i64 ai2), (.int .i64 ai3), (.int .i64 ai4), (.int .i64 ai5), (.int .i64 ai6), (.str as7)]), (.str bs8)] => f62 G k ai1 ai2 ai3 ai4 ai5 ai6 as7 bs8 K
  | _ => none
theorem s62 {R : Type} {G : ORC R} {k : Nat} (hG : Sound Try.prog TAB G) (args : List V) (K : List V → Option R) (r : R) (h : g62 G k args K = some r) : ∃ o, CallOK Try.prog TAB.env 62 args o ∧ K o = some r := by
  unfold g62 at h
  split at h
  · rw [← f62_is] at h
    exact callF_sound (f := 62) TAB_chk MO hG Try.func62 (sg := S62) (by kernel_rfl) (by kernel_rfl) (la62 G k) h
  · cases h
end Go.Proofs.Ytblabbcmokldiaa.Vm
open Go Go.VM
set_option linter.unusedVariables false
set_option maxRecDepth 100000
set_option maxHeartbeats 4000000
namespace Go.Proofs.Ytblabbcmokldiaa.Vm
/-! ### cotillion/flat.is: function 63 -/
def L63 {R : Type} (_ : ORC R) (_ : Nat) : Nat → St → (Ex → St → Option R) → Option R := fun _ _ _ => none
def f63 {R : Type} (G : ORC R) (k : Nat) (al1 : List V) (ai2 : Int) (K : List V → Option R) : Option R :=
  (bif (decide (ai2 ≥ 0)) then (K [(.bool (decide (ai2 < ((List.length al1 : Nat) : Int))))]) else (K [(.bool false)]))
theorem f63_is {R : Type} (G : ORC R) (k : Nat) (K : List V → Option R) (al1 : List V) (ai2 : Int) :
    callF (TAB.env 63) G (L63 G k) Try.f63 S63 [(.sl 7 al1), (.int .i64 ai2)] K = f63 G k al1 ai2 K := by kernel_rfl
theorem lo63 : loopsOf (bodyOf Try.f63) = [] := by kernel_rfl
theorem la63 {R : Type} (G : ORC R) (k : Nat) : LoopsAre (TAB.env 63) G (L63 G k) (bodyOf Try.f63) :=
  loopsAre_of (by rw [lo63]; intro p hp; cases hp)
def g63 {R : Type} (G : ORC R) (k : Nat) (args : List V) (K : List V → Option R) : Option R := match args with
  | [(.sl 7 al1), (.int .i64 ai2)] => f63 G k al1 ai2 K
  | _ => none
theorem s63 {R : Type} {G : ORC R} {k : Nat} (hG : Sound Try.prog TAB G) (args : List V) (K : List V → Option R) (r : R) (h : g63 G k args K = some r) : ∃ o, CallOK Try.prog TAB.env 63 args o ∧ K o = some r := by
  unfold g63 at h
  split at h
  · rw [← f63_is] at h
    exact callF_sound (f := 63) TAB_chk MO hG Try.func63 (sg := S63) (by kernel_rfl) (by kernel_rfl) (la63 G k) h
  · cases h
end Go.Proofs.Ytblabbcmokldiaa.Vm
open Go Go.VM
set_option linter.unusedVariables false
set_option maxRecDepth 100000
set_option maxHeartbeats 4000000
namespace Go.Proofs.Ytblabbcmokldiaa.Vm
/-! ### cotillion/flat.history: function 65 -/
def L65 {R : Type} (_ : ORC R) (_ : Nat) : Nat → St → (Ex → St → Option R) → Option R := fun _ _ _ => none
def f65 {R : Type} (G : ORC R) (k : Nat) (ai1 : Int) (K : List V → Option R) : Option R :=
  (bif (ai1 == 4) then (K [(.bool true)]) else (K [(.bool (ai1 == 5))]))
theorem f65_is {R : Type} (G : ORC R) (k : Nat) (K : List V → Option R) (ai1 : Int) :
    callF (TAB.env 65) G (L65 G k) Try.f65 S65 [(.int .i64 ai1)] K = f65 G k ai1 K := by kernel_rfl
theorem lo65 : loopsOf (bodyOf Try.f65) = [] := by kernel_rfl
theorem la65 {R : Type} (G : ORC R) (k : Nat) : LoopsAre (TAB.env 65) G (L65 G k) (bodyOf Try.f65) :=
  loopsAre_of (by rw [lo65]; intro p hp; cases hp)
def g65 {R : Type} (G : ORC R) (k : Nat) (args : List V) (K : List V → Option R) : Option R := match args with
  | [(.int .i64 ai1)] => f65 G k ai1 K
  | _ => none
theorem s65 {R : Type} {G : ORC R} {k : Nat} (hG : Sound Try.prog TAB G) (args : List V) (K : List V → Option R) (r : R) (h : g65 G k args K = some r) : ∃ o, CallOK Try.prog TAB.env 65 args o ∧ K o = some r := by
  unfold g65 at h
  split at h
  · rw [← f65_is] at h
    exact callF_sound (f := 65) TAB_chk MO hG Try.func65 (sg := S65) (by kernel_rfl) (by kernel_rfl) (la65 G k) h
  · cases h
end Go.Proofs.Ytblabbcmokldiaa.Vm
open Go Go.VM
set_option linter.unusedVariables false
set_option maxRecDepth 100000
set_option maxHeartbeats 4000000
namespace Go.Proofs.Ytblabbcmokldiaa.Vm
/-! ### cotillion/cotillionref13.States: function 67 -/
def P67_0h : Pat := { tmps := unds [.var (.sl 7) .ro, .undef, .undef, .undef, .undef, .var (.sl 1) (.own true), .var (.sl 1) .ro, .var (.int .i64) .pr] 25 [], boxes := nons [] 33 [] }
def P67_0x : Pat := { tmps := unds [] 5 (unds [.var (.sl 1) (.own true)] 27 []), boxes := nons [] 33 [] }
def b67_0 {R : Type} (G : ORC R) (k : Nat) (X : List V → List V → List V → Int → Option R) (Ko : List V → Option R) (xl6 xl7 xl8 : List V) (xi9 : Int) : Option R :=
  (bif (decide (xi9 < ((List.length xl8 : Nat) : Int))) then (bif ((decide (0 ≤ xi9)) && (decide (xi9 < ((List.length xl8 : Nat) : Int)))) then (nthK xl8 (Int.toNat xi9) fun e10 => (aI .i64 e10 fun n11 => (bif ((decide (0 ≤ n11)) && (decide (n11 < ((List.length xl6 : Nat) : Int)))) then (nthK xl6 (Int.toNat n11) fun e12 => (V.asAgg e12 fun l13 => (G 66 [(.agg l13)] fun o14 => (uB o14 fun b16 r15 => (unNil r15 (bif b16 then (bif ((decide (0 ≤ xi9)) && (decide (xi9 < ((List.length xl8 : Nat) : Int)))) then (nthK xl8 (Int.toNat xi9) fun e17 => (aI .i64 e17 fun n18 => (bif (decide (List.length xl7 + 1 ≤ 1073741824)) then (X xl6 (xl7 ++ [(.int .i64 n18)]) xl8 (IntKind.i64.wrap (xi9 + 1))) else none))) else none) else (X xl6 xl7 xl8 (IntKind.i64.wrap (xi9 + 1))))))))) else none))) else none) else (Ko xl7))
def l67_0g {R : Type} (G : ORC R) (k : Nat) (Ko : List V → Option R) : Nat → List V → List V → List V → Int → Option R
  | 0 => fun _ _ _ _ => none
  | j + 1 => b67_0 G k (l67_0g G k Ko j) Ko
def l67_0 {R : Type} (G : ORC R) (k : Nat) (xl6 xl7 xl8 : List V) (xi9 : Int) (Ko : List V → Option R) : Option R := l67_0g G k Ko k xl6 xl7 xl8 xi9
def rd67_0 {R : Type} (G : ORC R) (k : Nat) (K : Ex → St → Option R) (j : Nat) (vs : List V) : Option R := match vs with
  | [(.sl 7 xl6), (.sl 1 xl7), (.sl 1 xl8), (.int .i64 xi9)] => l67_0g G k (fun yl20 => K .normal (P67_0x.inst [(.sl 1 yl20)])) j xl6 xl7 xl8 xi9
  | _ => none
def L67 {R : Type} (G : ORC R) (k : Nat) : Nat → St → (Ex → St → Option R) → Option R
  | 0, S, K => P67_0h.mat S fun vs => rd67_0 G k K k vs
  | _, _, _ => none
def f67 {R : Type} (G : ORC R) (k : Nat) (al1 : List V) (ai2 : Int) (K : List V → Option R) : Option R :=
  (G 24 [(.sl 7 al1), (.int .i64 ai2)] fun o3 => (uL 1 o3 fun l5 r4 => (unNil r4 (l67_0 G k al1 [] l5 0 (fun yl19 => (K [(.sl 1 yl19)]))))))
noncomputable def D67_0 : LoopD := { id := 0, body := loopAt 0 (bodyOf Try.f67), head := P67_0h, out := P67_0x, ret := default }
theorem l67_0_is {R : Type} (G : ORC R) (k : Nat) (X : List V → Option R) (K : Ex → St → Option R) (xl6 xl7 xl8 : List V) (xi9 : Int) :
    roundOf (TAB.env 67) G (L67 G k) D67_0 X K [(.sl 7 xl6), (.sl 1 xl7), (.sl 1 xl8), (.int .i64 xi9)] = b67_0 G k (fun xl6 xl7 xl8 xi9 => X [(.sl 7 xl6), (.sl 1 xl7), (.sl 1 xl8), (.int .i64 xi9)]) (fun yl20 => K .normal (P67_0x.inst [(.sl 1 yl20)])) xl6 xl7 xl8 xi9 := by kernel_rfl
theorem f67_is {R : Type} (G : ORC R) (k : Nat) (K : List V → Option R) (al1 : List V) (ai2 : Int) :
    callF (TAB.env 67) G (L67 G k) Try.f67 S67 [(.sl 7 al1), (.int .i64 ai2)] K = f67 G k al1 ai2 K := by kernel_rfl
theorem li67_0 {R : Type} (G : ORC R) (k : Nat) : LoopIs (TAB.env 67) G (L67 G k) 0 (loopAt 0 (bodyOf Try.f67)) :=
  ⟨D67_0, fun j vs K => rd67_0 G k K j vs, k, rfl, rfl, by kernel_rfl, by kernel_rfl, by kernel_rfl, (fun vs K => by unfold rd67_0; dsimp only; split <;> rfl),
    (fun j vs K r h => by
      unfold rd67_0 at h
      dsimp only at h
      split at h
      · rw [l67_0_is]; exact h
      · cases h), (fun S K r h => h)⟩
theorem lo67 : loopsOf (bodyOf Try.f67) = [(0, loopAt 0 (bodyOf Try.f67))] := by kernel_rfl
theorem la67 {R : Type} (G : ORC R) (k : Nat) : LoopsAre (TAB.env 67) G (L67 G k) (bodyOf Try.f67) :=
  loopsAre_of (by rw [lo67]; intro p hp; simp only [List.mem_cons, List.not_mem_nil, or_false] at hp; subst hp; exact li67_0 G k)
def g67 {R : Type} (G : ORC R) (k : Nat) (args : List V) (K : List V → Option R) : Option R := match args with
  | [(.sl 7 al1), (.int .i64 ai2)] => f67 G k al1 ai2 K
  | _ => none
theorem s67 {R : Type} {G : ORC R} {k : Nat} (hG : Sound Try.prog TAB G) (args : List V) (K : List V → Option R) (r : R) (h : g67 G k args K = some r) : ∃ o, CallOK Try.prog TAB.env 67 args o ∧ K o = some r := by
  unfold g67 at h
  split at h
  · rw [← f67_is] at h
    exact callF_sound (f := 67) TAB_chk MO hG Try.func67 (sg := S67) (by kernel_rfl) (by kernel_rfl) (la67 G k) h
  · cases h
end Go.Proofs.Ytblabbcmokldiaa.Vm
open Go Go.VM
set_option linter.unusedVariables false
set_option maxRecDepth 100000
set_option maxHeartbeats 4000000
namespace Go.Proofs.Ytblabbcmokldiaa.Vm
/-! ### cotillion/flat.kind: function 93 -/
def L93 {R : Type} (_ : ORC R) (_ : Nat) : Nat → St → (Ex → St → Option R) → Option R := fun _ _ _ => none
def f93 {R : Type} (G : ORC R) (k : Nat) (ai1 : Int) (as2 : ByteArray) (al3 al4 : List V) (al5 al6 : List V) (ai7 : Int) (K : List V → Option R) : Option R :=
  (bif (ai1 == 2) then (K [(.int .i64 3)]) else (bif (ai1 == 3) then (K [(.int .i64 4)]) else (bif (ai1 == 4) then (K [(.int .i64 5)]) else (bif (decide (((List.length al6 : Nat) : Int) > 0)) then (K [(.int .i64 2)]) else (K [(.int .i64 1)])))))
theorem f93_is {R : Type} (G : ORC R) (k : Nat) (K : List V → Option R) (ai1 : Int) (as2 : ByteArray) (al3 al4 : List V) (al5 al6 : List V) (ai7 : Int) :
    callF (TAB.env 93) G (L93 G k) Try.f93 S93 [(.agg [(.int .i64 ai1), (.str as2), (.sl 8 al3), (.sl 8 al4), (.sl 5 al5), (.sl 7 al6), (.int .i64 ai7)])] K = f93 G k ai1 as2 al3 al4 al5 al6 ai7 K := by kernel_rfl
theorem lo93 : loopsOf (bodyOf Try.f93) = [] := by kernel_rfl
theorem la93 {R : Type} (G : ORC R) (k : Nat) : LoopsAre (TAB.env 93) G (L93 G k) (bodyOf Try.f93) :=
  loopsAre_of (by rw [lo93]; intro p hp; cases hp)
def g93 {R : Type} (G : ORC R) (k : Nat) (args : List V) (K : List V → Option R) : Option R := match args with
  | [(.agg [(.int .i64 ai1), (.str as2), (.sl 8 al3), (.sl 8 al4), (.sl 5 al5), (.sl 7 al6), (.int .i64 ai7)])] => f93 G k ai1 as2 al3 al4 al5 al6 ai7 K
  | _ => none
theorem s93 {R : Type} {G : ORC R} {k : Nat} (hG : Sound Try.prog TAB G) (args : List V) (K : List V → Option R) (r : R) (h : g93 G k args K = some r) : ∃ o, CallOK Try.prog TAB.env 93 args o ∧ K o = some r := by
  unfold g93 at h
  split at h
  · rw [← f93_is] at h
    exact callF_sound (f := 93) TAB_chk MO hG Try.func93 (sg := S93) (by kernel_rfl) (by kernel_rfl) (la93 G k) h
  · cases h
end Go.Proofs.Ytblabbcmokldiaa.Vm
open Go Go.VM
set_option linter.unusedVariables false
set_option maxRecDepth 100000
set_option maxHeartbeats 4000000
namespace Go.Proofs.Ytblabbcmokldiaa.Vm
/-! ### slices.IndexFunc[[]cotillion/api.Node,cotillion/api.Node]: function 65597 -/
def P65597_0h : Pat := { tmps := unds [.var (.sl 7) .ro, .stat (.one (.fn 62 [(.ptr 0 0)]) .pt)] 5 (unds [.var (.int .i64) .pr, .var (.int .i64) .pr] 10 []), boxes := nons [some [.var .str .pr false]] 19 [] }
def P65597_0x : Pat := { tmps := unds [] 19 [], boxes := nons [some [.var .str .pr false]] 19 [] }
def P65597_0r : Pat := { tmps := unds [.undef, .undef, .undef, .undef, .var (.int .i64) .pr] 14 [], boxes := nons [some [.var .str .pr false]] 19 [] }
def b65597_0 {R : Type} (G : ORC R) (k : Nat) (X : List V → Int → Int → ByteArray → Option R) (Ko : ByteArray → Option R) (Kr : Int → ByteArray → Option R) (xl3 : List V) (xi4 xi5 : Int) (xs6 : ByteArray) : Option R :=
  (bif (decide (xi5 < xi4)) then (bif ((decide (0 ≤ xi5)) && (decide (xi5 < ((List.length xl3 : Nat) : Int)))) then (nthK xl3 (Int.toNat xi5) fun e7 => (V.asAgg e7 fun l8 => (G 62 [(.agg l8), (.str xs6)] fun o9 => (uB o9 fun b11 r10 => (uS r10 fun s13 r12 => (unNil r12 (bif b11 then (Kr xi5 s13) else (X xl3 xi4 (IntKind.i64.wrap (xi5 + 1)) s13)))))))) else none) else (Ko xs6))
def l65597_0g {R : Type} (G : ORC R) (k : Nat) (Ko : ByteArray → Option R) (Kr : Int → ByteArray → Option R) : Nat → List V → Int → Int → ByteArray → Option R
  | 0 => fun _ _ _ _ => none
  | j + 1 => b65597_0 G k (l65597_0g G k Ko Kr j) Ko Kr
def l65597_0 {R : Type} (G : ORC R) (k : Nat) (xl3 : List V) (xi4 xi5 : Int) (xs6 : ByteArray) (Ko : ByteArray → Option R) (Kr : Int → ByteArray → Option R) : Option R := l65597_0g G k Ko Kr k xl3 xi4 xi5 xs6
def rd65597_0 {R : Type} (G : ORC R) (k : Nat) (K : Ex → St → Option R) (j : Nat) (vs : List V) : Option R := match vs with
  | [(.sl 7 xl3), (.int .i64 xi4), (.int .i64 xi5), (.str xs6)] => l65597_0g G k (fun ys17 => K .normal (P65597_0x.inst [(.str ys17)])) (fun yi18 ys19 => K .ret (P65597_0r.inst [(.int .i64 yi18), (.str ys19)])) j xl3 xi4 xi5 xs6
  | _ => none
def L65597 {R : Type} (G : ORC R) (k : Nat) : Nat → St → (Ex → St → Option R) → Option R
  | 0, S, K => P65597_0h.mat S fun vs => rd65597_0 G k K k vs
  | _, _, _ => none
def f65597 {R : Type} (G : ORC R) (k : Nat) (al1 : List V) (bs2 : ByteArray) (K : List V → Option R) : Option R :=
  (l65597_0 G k al1 ((List.length al1 : Nat) : Int) 0 bs2 (fun ys14 => (K [(.int .i64 (-1)), (.str ys14)])) (fun yi15 ys16 => (K [(.int .i64 yi15), (.str ys16)])))
noncomputable def D65597_0 : LoopD := { id := 0, body := loopAt 0 (bodyOf Try.f61), head := P65597_0h, out := P65597_0x, ret := P65597_0r }
theorem l65597_0_is {R : Type} (G : ORC R) (k : Nat) (X : List V → Option R) (K : Ex → St → Option R) (xl3 : List V) (xi4 xi5 : Int) (xs6 : ByteArray) :
    roundOf (TAB.env 65597) G (L65597 G k) D65597_0 X K [(.sl 7 xl3), (.int .i64 xi4), (.int .i64 xi5), (.str xs6)] = b65597_0 G k (fun xl3 xi4 xi5 xs6 => X [(.sl 7 xl3), (.int .i64 xi4), (.int .i64 xi5), (.str xs6)]) (fun ys17 => K .normal (P65597_0x.inst [(.str ys17)])) (fun yi18 ys19 => K .ret (P65597_0r.inst [(.int .i64 yi18), (.str ys19)])) xl3 xi4 xi5 xs6 := by kernel_rfl
theorem f65597_is {R : Type} (G : ORC R) (k : Nat) (K : List V → Option R) (al1 : List V) (bs2 : ByteArray) :
    callF (TAB.env 65597) G (L65597 G k) Try.f61 S65597 [(.sl 7 al1), (.str bs2)] K = f65597 G k al1 bs2 K := by kernel_rfl
theorem li65597_0 {R : Type} (G : ORC R) (k : Nat) : LoopIs (TAB.env 65597) G (L65597 G k) 0 (loopAt 0 (bodyOf Try.f61)) :=
  ⟨D65597_0, fun j vs K => rd65597_0 G k K j vs, k, rfl, rfl, by kernel_rfl, by kernel_rfl, by kernel_rfl, (fun vs K => by unfold rd65597_0; dsimp only; split <;> rfl),
    (fun j vs K r h => by
      unfold rd65597_0 at h
      dsimp only at h
      split at h
      · rw [l65597_0_is]; exact h
      · cases h), (fun S K r h => h)⟩
theorem lo65597 : loopsOf (bodyOf Try.f61) = [(0, loopAt 0 (bodyOf Try.f61))] := by kernel_rfl
theorem la65597 {R : Type} (G : ORC R) (k : Nat) : LoopsAre (TAB.env 65597) G (L65597 G k) (bodyOf Try.f61) :=
  loopsAre_of (by rw [lo65597]; intro p hp; simp only [List.mem_cons, List.not_mem_nil, or_false] at hp; subst hp; exact li65597_0 G k)
def g65597 {R : Type} (G : ORC R) (k : Nat) (args : List V) (K : List V → Option R) : Option R := match args with
  | [(.sl 7 al1), (.str bs2)] => f65597 G k al1 bs2 K
  | _ => none
theorem s65597 {R : Type} {G : ORC R} {k : Nat} (hG : Sound Try.prog TAB G) (args : List V) (K : List V → Option R) (r : R) (h : g65597 G k args K = some r) : ∃ o, CallOK Try.prog TAB.env 65597 args o ∧ K o = some r := by
  unfold g65597 at h
  split at h
  · rw [← f65597_is] at h
    exact callF_sound (f := 65597) TAB_chk MO hG Try.func61 (sg := S65597) (by kernel_rfl) (by kernel_rfl) (la65597 G k) h
  · cases h
end Go.Proofs.Ytblabbcmokldiaa.Vm
open Go Go.VM
set_option linter.unusedVariables false
set_option maxRecDepth 100000
namespace Go.Proofs.Ytblabbcmokldiaa.Vm
def ghB (k : Nat) (G : ORC (List V)) : ORC (List V) := fun f args K => match f with
    | 6 => g6 G k args K
    | 13 => g13 G k args K
    | 14 => g14 G k args K
    | 15 => g15 G k args K
    | 17 => g17 G k args K
    | 18 => g18 G k args K
    | 20 => g20 G k args K
    | 21 => g21 G k args K
    | 22 => g22 G k args K
    | 23 => g23 G k args K
    | 24 => g24 G k args K
    | 25 => g25 G k args K
    | 26 => g26 G k args K
    | 27 => g27 G k args K
    | 29 => g29 G k args K
    | 31 => g31 G k args K
    | 33 => g33 G k args K
    | 34 => g34 G k args K
    | 35 => g35 G k args K
    | 36 => g36 G k args K
    | 58 => g58 G k args K
    | 59 => g59 G k args K
    | 60 => g60 G k args K
    | 62 => g62 G k args K
    | 63 => g63 G k args K
    | 64 => g64 G k args K
    | 65 => g65 G k args K
    | 66 => g66 G k args K
    | 67 => g67 G k args K
    | 68 => g68 G k args K
    | 87 => g87 G k args K
    | 88 => g88 G k args K
    | 89 => g89 G k args K
    | 90 => g90 G k args K
    | 91 => g91 G k args K
    | 92 => g92 G k args K
    | 93 => g93 G k args K
    | 105 => g105 G k args K
    | 106 => g106 G k args K
    | 107 => g107 G k args K
    | 108 => g108 G k args K
    | 109 => g109 G k args K
    | 127 => g127 G k args K
    | 65597 => g65597 G k args K
    | _ => none
def gh (k : Nat) : Nat → ORC (List V)
  | 0 => fun _ _ _ => none
  | j + 1 => fun f args K => (ghB k (gh k j) f args some).bind K
theorem gh_sound (k : Nat) : ∀ j, Sound Try.prog TAB (gh k j)
  | 0 => fun f args K r h => by cases h
  | j + 1 => fun f args K r h => by
    have ih := gh_sound k j
    have h : (ghB k (gh k j) f args some).bind K = some r := h
    cases hb : ghB k (gh k j) f args some with
    | none => rw [hb] at h; cases h
    | some o =>
    rw [hb] at h
    have key : ∃ o', CallOK Try.prog TAB.env f args o' ∧ some o' = some o := by
      unfold ghB at hb
      split at hb
      · exact s6 ih args some o hb
      · exact s13 ih args some o hb
      · exact s14 ih args some o hb
      · exact s15 ih args some o hb
      · exact s17 ih args some o hb
      · exact s18 ih args some o hb
      · exact s20 ih args some o hb
      · exact s21 ih args some o hb
      · exact s22 ih args some o hb
      · exact s23 ih args some o hb
      · exact s24 ih args some o hb
      · exact s25 ih args some o hb
      · exact s26 ih args some o hb
      · exact s27 ih args some o hb
      · exact s29 ih args some o hb
      · exact s31 ih args some o hb
      · exact s33 ih args some o hb
      · exact s34 ih args some o hb
      · exact s35 ih args some o hb
      · exact s36 ih args some o hb
      · exact s58 ih args some o hb
      · exact s59 ih args some o hb
      · exact s60 ih args some o hb
      · exact s62 ih args some o hb
      · exact s63 ih args some o hb
      · exact s64 ih args some o hb
      · exact s65 ih args some o hb
      · exact s66 ih args some o hb
      · exact s67 ih args some o hb
      · exact s68 ih args some o hb
      · exact s87 ih args some o hb
      · exact s88 ih args some o hb
      · exact s89 ih args some o hb
      · exact s90 ih args some o hb
      · exact s91 ih args some o hb
      · exact s92 ih args some o hb
      · exact s93 ih args some o hb
      · exact s105 ih args some o hb
      · exact s106 ih args some o hb
      · exact s107 ih args some o hb
      · exact s108 ih args some o hb
      · exact s109 ih args some o hb
      · exact s127 ih args some o hb
      · exact s65597 ih args some o hb
      · cases hb
    obtain ⟨o', h1, h2⟩ := key
    cases h2
    exact ⟨o, h1, h⟩
theorem gh_U {k j : Nat} {f : FuncId} {args : List V} {Q : List V → Prop} (h : W Q some (ghB k (gh k j) f args some)) : ∃ o, Q o ∧ ∀ K, gh k (j + 1) f args K = K o := by
  obtain ⟨o, q, e⟩ := h
  exact ⟨o, q, fun K => by show (ghB k (gh k j) f args some).bind K = _; rw [e]; rfl⟩
theorem gh_W {k j : Nat} {f : FuncId} {args : List V} {Q : List V → Prop} {K : List V → Option (List V)} (h : W Q some (ghB k (gh k j) f args some)) : W Q K (gh k (j + 1) f args K) := by
  obtain ⟨o, q, e⟩ := gh_U h
  exact ⟨o, q, e K⟩
end Go.Proofs.Ytblabbcmokldiaa.Vm
open Go Go.VM
set_option linter.unusedVariables false
set_option linter.unusedSimpArgs false
set_option maxRecDepth 100000
set_option maxHeartbeats 8000000
namespace Go.Proofs.Ytblabbcmokldiaa.Vm
section
def Ev (P : ORC (List V) → Prop) : Prop := ∃ N, ∀ j, N ≤ j → P (gh 10000 j)
theorem ev0 {P : ORC (List V) → Prop} (h : ∀ j, P (gh 10000 (j + 1))) : Ev P := ⟨1, fun j hj => by obtain ⟨j', rfl⟩ : ∃ j', j = j' + 1 := ⟨j - 1, by omega⟩; exact h j'⟩
theorem evS {A P : ORC (List V) → Prop} (hA : Ev A) (h : ∀ j, A (gh 10000 j) → P (gh 10000 (j + 1))) : Ev P := by
  obtain ⟨N, hN⟩ := hA
  refine ⟨N + 1, fun j hj => ?_⟩
  obtain ⟨j', rfl⟩ : ∃ j', j = j' + 1 := ⟨j - 1, by omega⟩
  exact h j' (hN j' (by omega))
theorem evA {A B : ORC (List V) → Prop} (hA : Ev A) (hB : Ev B) : Ev fun G => A G ∧ B G := by
  obtain ⟨N, hN⟩ := hA
  obtain ⟨M, hM⟩ := hB
  exact ⟨N + M, fun j hj => ⟨hN j (by omega), hM j (by omega)⟩⟩
theorem evT {P : ORC (List V) → Prop} (h : ∀ G, P G) : Ev P := ⟨0, fun j _ => h _⟩
theorem evPlace : Ev PlaceS := ev0 fun j => by have e := place_ok (G := gh 10000 j) (k := 10000); unfold PlaceS at e ⊢; (intros; refine gh_W ?_; apply e <;> assumption)
theorem evNext : Ev NextS := evS evPlace fun j h => by have e := next_ok (G := gh 10000 j) (k := 10000) h; unfold NextS at e ⊢; (intros; refine gh_W ?_; apply e <;> assumption)
theorem evEvent : Ev EventS := evS evPlace fun j h => by have e := event_ok (G := gh 10000 j) (k := 10000) h; unfold EventS at e ⊢; (intros; refine gh_W ?_; apply e <;> assumption)
theorem evPick : Ev PickS := evS evNext fun j h => by have e := pick_ok (G := gh 10000 j) (k := 10000) h; unfold PickS at e ⊢; (intros; refine gh_W ?_; apply e <;> assumption)
theorem evDec1 : Ev (DecS 1) := ev0 fun j => by have e := dec_step (G := gh 10000 j) (k := 10000) (d := 0) (by omega) (.inl rfl); unfold DecS at e ⊢; (intros; refine gh_W ?_; apply e <;> assumption)
theorem evDec2 : Ev (DecS 2) := evS evDec1 fun j h => by have e := dec_step (G := gh 10000 j) (k := 10000) (d := 1) (by omega) (.inr h); unfold DecS at e ⊢; (intros; refine gh_W ?_; apply e <;> assumption)
theorem evDec3 : Ev (DecS 3) := evS evDec2 fun j h => by have e := dec_step (G := gh 10000 j) (k := 10000) (d := 2) (by omega) (.inr h); unfold DecS at e ⊢; (intros; refine gh_W ?_; apply e <;> assumption)
theorem evDig : Ev DigS := evS evDec3 fun j h => by have e := dig_ok (G := gh 10000 j) (k := 10000) h; unfold DigS at e ⊢; (intros; refine gh_W ?_; apply e <;> assumption)
theorem evNames : Ev NamesS := evS evDig fun j h => by have e := names_ok (G := gh 10000 j) (k := 10000) (by omega) h; unfold NamesS at e ⊢; (intros; refine gh_W ?_; apply e <;> assumption)
theorem evNumd : Ev NumdS := evS evNext fun j h => by have e := named_ok (G := gh 10000 j) (k := 10000) (by omega) h; unfold NumdS at e ⊢; (intros; refine gh_W ?_; apply e <;> assumption)
theorem evPlain : Ev PlainS := ev0 fun j => by have e := plain_ok (G := gh 10000 j) (k := 10000) (by omega); unfold PlainS at e ⊢; (intros; refine gh_W ?_; apply e <;> assumption)
theorem evExpr : ∀ d, d ≤ 2 → Ev (ExprOK d)
  | 0, _ => evS (evA evNext evPick) fun j h => by have e := expr_ok (G := gh 10000 j) (k := 10000) (d := 0) (by omega) h.1 h.2 (fun d' e => by omega); unfold ExprOK at e ⊢; (intros; refine gh_W ?_; apply e <;> assumption)
  | d + 1, hd => evS (evA (evA evNext evPick) (evExpr d (by omega))) fun j h => by have e := expr_ok (G := gh 10000 j) (k := 10000) (d := d + 1) hd h.1.1 h.1.2 (fun d' e => by cases e; exact h.2); unfold ExprOK at e ⊢; (intros; refine gh_W ?_; apply e <;> assumption)
theorem evBlock : ∀ d, d ≤ 2 → Ev (BlockOK d)
  | 0, _ => evS (evA (evA evNext evPick) (evA evEvent (evExpr 2 (by omega)))) fun j h => by have e := block_ok (G := gh 10000 j) (k := 10000) (d := 0) (by omega) (by omega) h.1.1 h.1.2 h.2.1 h.2.2 (fun d' e => by omega); unfold BlockOK at e ⊢; (intros; refine gh_W ?_; apply e <;> assumption)
  | d + 1, hd => evS (evA (evA (evA evNext evPick) (evA evEvent (evExpr 2 (by omega)))) (evBlock d (by omega))) fun j h => by have e := block_ok (G := gh 10000 j) (k := 10000) (d := d + 1) (by omega) hd h.1.1.1 h.1.1.2 h.1.2.1 h.1.2.2 (fun d' e => by cases e; exact h.2); unfold BlockOK at e ⊢; (intros; refine gh_W ?_; apply e <;> assumption)
theorem evSt : ∀ d, d ≤ 2 → Ev (StOK d)
  | 0, _ => evS (evA evNext evDig) fun j h => by have e := st_ok (G := gh 10000 j) (k := 10000) (d := 0) (by omega) (by omega) h.1 h.2 (fun d' e => by omega); unfold StOK at e ⊢; (intros; refine gh_W ?_; apply e <;> assumption)
  | d + 1, hd => evS (evA (evA evNext evDig) (evSt d (by omega))) fun j h => by have e := st_ok (G := gh 10000 j) (k := 10000) (d := d + 1) (by omega) (by omega) h.1.1 h.1.2 (fun d' e => by cases e; exact h.2); unfold StOK at e ⊢; (intros; refine gh_W ?_; apply e <;> assumption)
theorem evFill : ∀ d, Ev (FillOK d)
  | 0 => evT fun G x a p c s all L left i K h => h.elim
  | d + 1 => evS (evA (evA (evA evNext evPick) (evA evEvent (evExpr 2 (by omega)))) (evA (evA (evBlock 2 (by omega)) (evBlock 1 (by omega))) (evFill d))) fun j h => by have e := fill_ok (G := gh 10000 j) (k := 10000) (d := d + 1) (by omega) h.1.1.1 h.1.1.2 h.1.2.1 h.1.2.2 h.2.1.1 h.2.1.2 (fun d' e => by cases e; exact h.2.2); unfold FillOK at e ⊢; (intros; refine gh_W ?_; apply e <;> assumption)
theorem evChart : Ev ChartOK := evS (evA (evA (evA evNext evNames) (evA evNumd evPlain)) (evA (evSt 2 (by omega)) (evFill 3))) fun j h => by have e := chart_ok (G := gh 10000 j) (k := 10000) (by omega) h.1.1.1 h.1.1.2 h.1.2.1 h.1.2.2 h.2.1 h.2.2; unfold ChartOK at e ⊢; (intros; refine gh_W ?_; apply e <;> assumption)
theorem evKind : Ev KindOK := ev0 fun j => by have e := kind_ok (G := gh 10000 j) (k := 10000); unfold KindOK at e ⊢; (intros; refine gh_W ?_; apply e <;> assumption)
theorem evIsSt : Ev IsStOK := ev0 fun j => by have e := isst_ok (G := gh 10000 j) (k := 10000); unfold IsStOK at e ⊢; (intros; refine gh_W ?_; apply e <;> assumption)
theorem evPut : ∀ d, Ev (PutOK d)
  | 0 => evS (evA evKind evIsSt) fun j h => by have e := put_ok (G := gh 10000 j) (k := 10000) (d := 0) (by omega) h.1 h.2 (fun d' e => by omega); unfold PutOK at e ⊢; (intros; refine gh_W ?_; apply e <;> assumption)
  | d + 1 => evS (evA (evA evKind evIsSt) (evPut d)) fun j h => by have e := put_ok (G := gh 10000 j) (k := 10000) (d := d + 1) (by omega) h.1.1 h.1.2 (fun d' e => by cases e; exact h.2); unfold PutOK at e ⊢; (intros; refine gh_W ?_; apply e <;> assumption)
theorem evNodes : Ev NodesOK := evS (evPut 3) fun j h => by have e := nodes_ok (G := gh 10000 j) (k := 10000) h; unfold NodesOK at e ⊢; (intros; refine gh_W ?_; apply e <;> assumption)
theorem evIs : Ev IsOK := ev0 fun j => by have e := is_ok (G := gh 10000 j) (k := 10000); unfold IsOK at e ⊢; (intros; refine gh_W ?_; apply e <;> assumption)
theorem evIn : Ev InOK := evS evIs fun j h => by have e := in_ok (G := gh 10000 j) (k := 10000) h; unfold InOK at e ⊢; (intros; refine gh_W ?_; apply e <;> assumption)
end
end Go.Proofs.Ytblabbcmokldiaa.Vm
open Go Go.VM
set_option linter.unusedVariables false
set_option linter.unusedSimpArgs false
set_option maxRecDepth 100000
set_option maxHeartbeats 8000000
namespace Go.Proofs.Ytblabbcmokldiaa.Vm
section
variable {R : Type} {G : ORC R} {k : Nat} {K : List V → Option R}
def CIsOK (G : ORC R) : Prop := ∀ (l : List V) (i : Int) (K : List V → Option R), W (fun o => o = [.bool (decide (0 ≤ i ∧ i < l.length))]) K (G 63 [.sl 7 l, .int .i64 i] K)
theorem cis_ok : CIsOK (fun _ args (K : List V → Option R) => g63 G k args K) := by
  intro l i K
  show W _ K (f63 G k l i K)
  unfold f63
  refine W_dec (fun h => ?_) (fun h => ?_)
  · exact W_ret (by congr 3; simp; omega)
  · exact W_ret (by congr 2; symm; rw [decide_eq_false]; omega)
def CInOK (G : ORC R) : Prop := ∀ (l : List Nd) (a b : Int) (K : List V → Option R), W (fun o => o = [.bool (inN l a b)]) K (G 20 [.sl 7 (l.map Nd.v), .int .i64 a, .int .i64 b] K)
theorem cin_ok (hI : CIsOK G) : CInOK (fun _ args (K : List V → Option R) => g20 G k args K) := by
  intro l a b K
  show W _ K (f20 G k (l.map Nd.v) a b K)
  unfold f20
  unfold CIsOK at hI
  have no : ¬ (0 ≤ a ∧ a < l.length ∧ 0 ≤ b ∧ b < l.length ∧ a ≥ b) → inN l a b = false := fun h => by unfold inN; rw [decide_eq_false h]; rfl
  refine W_call (hI _ _ _) ?_
  rintro _ rfl
  (repeat (with_reducible (first | (refine W_uI ?_) | (refine W_uS ?_) | (refine W_uL ?_) | (refine W_uA ?_) | (refine W_uB ?_) | (refine W_aI ?_) | (refine W_aL ?_) | (refine W_ca3 ?_) | (refine W_ce3 ?_) | (refine W_ca4 ?_) | (refine W_ce4 ?_) | (refine W_ca5 ?_) | (refine W_ce5 ?_) | (refine W_ca6 ?_) | (refine W_ce6 ?_) | (refine W_ca7 ?_) | (refine W_ce7 ?_) | (refine W_ca8 ?_) | (refine W_ce8 ?_) | (refine W_nd7 ?_) | (refine W_unCons ?_) | (refine W_unNil ?_) | (refine W_asInt ?_) | (refine W_asBool ?_) | (refine W_asStr ?_) | (refine W_asSl ?_) | (refine W_asAgg ?_) | (refine W_kd ?_) | (refine W_z ?_))))
  simp only [List.length_map]
  refine W_dec (fun h1 => ?_) (fun h1 => W_ret (by rw [no (by omega)]))
  refine W_call (hI _ _ _) ?_
  rintro _ rfl
  (repeat (with_reducible (first | (refine W_uI ?_) | (refine W_uS ?_) | (refine W_uL ?_) | (refine W_uA ?_) | (refine W_uB ?_) | (refine W_aI ?_) | (refine W_aL ?_) | (refine W_ca3 ?_) | (refine W_ce3 ?_) | (refine W_ca4 ?_) | (refine W_ce4 ?_) | (refine W_ca5 ?_) | (refine W_ce5 ?_) | (refine W_ca6 ?_) | (refine W_ce6 ?_) | (refine W_ca7 ?_) | (refine W_ce7 ?_) | (refine W_ca8 ?_) | (refine W_ce8 ?_) | (refine W_nd7 ?_) | (refine W_unCons ?_) | (refine W_unNil ?_) | (refine W_asInt ?_) | (refine W_asBool ?_) | (refine W_asStr ?_) | (refine W_asSl ?_) | (refine W_asAgg ?_) | (refine W_kd ?_) | (refine W_z ?_))))
  simp only [List.length_map]
  refine W_dec (fun h2 => ?_) (fun h2 => W_ret (by rw [no (by omega)]))
  refine W_dec (fun h3 => ?_) (fun h3 => W_ret (by rw [no (by omega)]))
  refine W_and (W_yes h2.1 (W_yes h2.2 ?_))
  refine W_nthN (by omega) (fun n hn => W_nd ?_)
  (repeat (with_reducible (first | (refine W_uI ?_) | (refine W_uS ?_) | (refine W_uL ?_) | (refine W_uA ?_) | (refine W_uB ?_) | (refine W_aI ?_) | (refine W_aL ?_) | (refine W_ca3 ?_) | (refine W_ce3 ?_) | (refine W_ca4 ?_) | (refine W_ce4 ?_) | (refine W_ca5 ?_) | (refine W_ce5 ?_) | (refine W_ca6 ?_) | (refine W_ce6 ?_) | (refine W_ca7 ?_) | (refine W_ce7 ?_) | (refine W_ca8 ?_) | (refine W_ce8 ?_) | (refine W_nd7 ?_) | (refine W_unCons ?_) | (refine W_unNil ?_) | (refine W_asInt ?_) | (refine W_asBool ?_) | (refine W_asStr ?_) | (refine W_asSl ?_) | (refine W_asAgg ?_) | (refine W_kd ?_) | (refine W_z ?_))))
  have e : inN l a b = decide (a ≤ n.last) := by
    unfold inN
    rw [decide_eq_true (show 0 ≤ a ∧ a < l.length ∧ 0 ≤ b ∧ b < l.length ∧ a ≥ b from ⟨h1.1, h1.2, h2.1, h2.2, h3⟩), hn]; rfl
  exact W_ret (by rw [e])
end
end Go.Proofs.Ytblabbcmokldiaa.Vm
open Go Go.VM
set_option linter.unusedVariables false
set_option linter.unusedSimpArgs false
set_option maxRecDepth 100000
set_option maxHeartbeats 8000000
namespace Go.Proofs.Ytblabbcmokldiaa.Vm
section
variable {R : Type} {G : ORC R} {k : Nat} {K : List V → Option R}
def HistOK (G : ORC R) : Prop := ∀ (n : Int) (K : List V → Option R), W (fun o => o = [.bool (decide (n = 4 ∨ n = 5))]) K (G 65 [.int .i64 n] K)
theorem hist_ok : HistOK (fun _ args (K : List V → Option R) => g65 G k args K) := by
  intro n K
  show W _ K (f65 G k n K)
  unfold f65
  refine W_beqI (fun h => W_ret (by subst h; rfl)) (fun h => W_ret ?_)
  by_cases h5 : n = 5
  · subst h5; rfl
  · rw [beq_eq_false_iff_ne.2 h5, decide_eq_false (by omega)]
def CKindOK (G : ORC R) : Prop := ∀ (v : V) (m d : Nat) (K : List V → Option R), StateS m d v → W (fun o => o = [.int .i64 (ndKind v)]) K (G 93 [v] K)
theorem ckind_ok : CKindOK (fun _ args (K : List V → Option R) => g93 G k args K) := by
  intro v m d K hv
  cases d with
  | zero => exact hv.elim
  | succ d =>
  obtain ⟨kind, nm, en, ex, tr, kids, rfl, _⟩ := hv
  show W _ K (f93 G k kind nm en ex tr kids 0 K)
  unfold f93
  have e : ndKind (.agg [.int .i64 kind, .str nm, .sl 8 en, .sl 8 ex, .sl 5 tr, .sl 7 kids, .int .i64 0]) = if kind = 3 then 4 else if kind = 4 then 5 else if kind = 2 then 3 else if kids.length = 0 then 1 else 2 := rfl
  rw [e]
  refine W_beqI (fun h => W_ret (by subst h; rfl)) (fun h => ?_)
  refine W_beqI (fun h1 => W_ret (by subst h1; rfl)) (fun h1 => ?_)
  refine W_beqI (fun h2 => W_ret (by subst h2; rfl)) (fun h2 => ?_)
  refine W_dec (fun h3 => W_ret (by rw [if_neg h1, if_neg h2, if_neg h, if_neg (by omega)])) (fun h3 => W_ret (by rw [if_neg h1, if_neg h2, if_neg h, if_pos (by omega)]))
/-- A node with what is in it, as the program lays it. -/
def addN (d : Nat) (at_ : Nat) (n : Nd) (kids : List V) : List Nd :=
  { n with last := at_ + nszL d kids, init := if n.kind = 2 ∧ kids ≠ [] then (at_ : Int) + 1 else -1 } :: forest d at_ (at_ + 1) kids
def AddOK (d : Nat) (G : ORC R) : Prop := ∀ (l : List Nd) (n : Nd) (kids : List V) (K : List V → Option R), (∀ s ∈ kids, StateS 2 d s) → (∀ s r, kids = s :: r → kindV s ≤ 2) → n.init = -1 → l.length + 1 + nszL d kids ≤ 1000 →
  W (fun o => o = [.sl 7 ((l ++ addN d l.length n kids).map Nd.v)]) K (G 60 [.sl 7 (l.map Nd.v), n.v, .sl 7 kids] K)
/-- What stands there when so many kids are laid. -/
def mid (d : Nat) (l : List Nd) (n : Nd) (A : List V) : List Nd :=
  l ++ { n with init := if n.kind = 2 ∧ A ≠ [] then (l.length : Int) + 1 else -1 } :: forest d l.length (l.length + 1) A
theorem mid_len {d : Nat} {l : List Nd} {n : Nd} {A : List V} : (mid d l n A).length = l.length + 1 + nszL d A := by unfold mid; rw [List.length_append, List.length_cons, forest_len]; omega
theorem mid_at {d : Nat} {l : List Nd} {n : Nd} {A : List V} : (mid d l n A)[l.length]? = some { n with init := if n.kind = 2 ∧ A ≠ [] then (l.length : Int) + 1 else -1 } := by
  unfold mid; rw [List.getElem?_append_right (Nat.le_refl _), Nat.sub_self]; rfl
theorem add_loop {d : Nat} (hH : HistOK G) (hKd : CKindOK G) (hA : ∀ d', d = d' + 1 → AddOK d' G) {Q : List V → Prop} {K : List V → Option R} {Ko : List V → Int → Option R} {l : List Nd} {n : Nd} {kids : List V}
    (hk : ∀ s ∈ kids, StateS 2 d s) (hh : ∀ s r, kids = s :: r → kindV s ≤ 2) (hsz : l.length + 1 + nszL d kids ≤ 1000) (hKo : W Q K (Ko ((mid d l n kids).map Nd.v) l.length)) :
    ∀ (B A : List V) (j : Nat), kids = A ++ B → B.length < j → W Q K (l60_0g G k Ko j ((mid d l n A).map Nd.v) l.length kids kids.length A.length n.kind n.parent n.last (-1) n.entry n.exit n.name)
  | B, A, 0, h1, h2 => by omega
  | [], A, j + 1, h1, h2 => by
    show W Q K (b60_0 G k (l60_0g G k Ko j) Ko ((mid d l n A).map Nd.v) l.length kids kids.length A.length n.kind n.parent n.last (-1) n.entry n.exit n.name)
    unfold b60_0
    rw [List.append_nil] at h1
    subst h1
    exact W_no (by omega) hKo
  | b :: B, A, j + 1, h1, h2 => by
    show W Q K (b60_0 G k (l60_0g G k Ko j) Ko ((mid d l n A).map Nd.v) l.length kids kids.length A.length n.kind n.parent n.last (-1) n.entry n.exit n.name)
    unfold b60_0
    have hb : StateS 2 d b := hk b (by rw [h1]; simp)
    have hbk := hb
    cases d with
    | zero => exact hb.elim
    | succ d =>
    have hA := hA d rfl
    unfold HistOK at hH; unfold CKindOK at hKd; unfold AddOK at hA
    simp only [List.length_cons] at h2
    have hlen : kids.length = A.length + (B.length + 1) := by rw [h1]; simp
    have hlt : (A.length : Int) < (kids.length : Int) := by omega
    have hAl := nszL_len (d := d) (l := kids)
    have hAl2 := nszL_len (d := d) (l := A)
    have hnsz : nszL (d + 1) kids = nszL (d + 1) A + (1 + nszL d (stKids b) + nszL (d + 1) B) := by rw [h1, nszL_app, nszL_cons]
    have hml := mid_len (d := d + 1) (l := l) (n := n) (A := A)
    obtain ⟨q1, q2, q3, q4, q5, q6⟩ := hbk.kids
    -- the last step of a round
    have fin : ∀ L : List Nd, L = mid (d + 1) l n (A ++ [b]) → W Q K (l60_0g G k Ko j (L.map Nd.v) l.length kids kids.length (IntKind.i64.wrap ((A.length : Int) + 1)) n.kind n.parent n.last (-1) n.entry n.exit n.name) := by
      intro L hL
      rw [wrap_id (n := (A.length : Int) + 1) (by omega), hL]
      have := add_loop hH hKd (fun d' e => by cases e; exact hA) hk hh hsz hKo B (A ++ [b]) j (by rw [h1]; simp) (by omega)
      simpa using this
    have fin2 : ∀ M : List Nd, M = l ++ { n with init := if n.kind = 2 ∧ A ++ [b] ≠ [] then (l.length : Int) + 1 else -1 } :: forest (d + 1) l.length (l.length + 1) A →
        M ++ addN d M.length ⟨ndKind b, l.length, 0, -1, -1, -1, stName b⟩ (stKids b) = mid (d + 1) l n (A ++ [b]) := by
      intro M hM
      have hMl : M.length = l.length + 1 + nszL (d + 1) A := by rw [hM, List.length_append, List.length_cons, forest_len]; omega
      unfold mid
      rw [forest_app, hM, List.append_assoc, List.cons_append]
      rw [hM] at hMl
      rw [hMl]
      congr 3
      unfold addN
      rw [forest]
      have e2 : forest (d + 1) (l.length : Int) (l.length + 1 + nszL (d + 1) A + 1 + nszL d (stKids b)) [] = [] := by rw [forest]
      rw [e2, List.append_nil]
      congr 2
      · by_cases hk2 : ndKind b = 2
        · rw [if_pos ⟨hk2, q5 (.inl hk2)⟩, if_pos hk2]
        · rw [if_neg (fun h => hk2 h.1), if_neg hk2]
    obtain ⟨kind, nm, en, ex, tr, kb, rfl, x1, x2, x3, x4, x5, x6, x7, x8, x9, x10, x11, x12, x13⟩ := hb
    have hnsz' : nszL (d + 1) kids = nszL (d + 1) A + (1 + nszL d kb + nszL (d + 1) B) := hnsz
    refine W_yes hlt (W_and (W_yes (by omega) (W_yes hlt ?_)))
    refine W_nth (by omega) (fun v hv _ => ?_)
    have hv2 : kids[A.length]? = some (.agg [.int .i64 kind, .str nm, .sl 8 en, .sl 8 ex, .sl 5 tr, .sl 7 kb, .int .i64 0]) := by rw [h1]; simp
    rw [Int.toNat_natCast, hv2, Option.some.injEq] at hv
    rw [← hv]
    (repeat (with_reducible (first | (refine W_uI ?_) | (refine W_uS ?_) | (refine W_uL ?_) | (refine W_uA ?_) | (refine W_uB ?_) | (refine W_aI ?_) | (refine W_aL ?_) | (refine W_ca3 ?_) | (refine W_ce3 ?_) | (refine W_ca4 ?_) | (refine W_ce4 ?_) | (refine W_ca5 ?_) | (refine W_ce5 ?_) | (refine W_ca6 ?_) | (refine W_ce6 ?_) | (refine W_ca7 ?_) | (refine W_ce7 ?_) | (refine W_ca8 ?_) | (refine W_ce8 ?_) | (refine W_nd7 ?_) | (refine W_unCons ?_) | (refine W_unNil ?_) | (refine W_asInt ?_) | (refine W_asBool ?_) | (refine W_asStr ?_) | (refine W_asSl ?_) | (refine W_asAgg ?_) | (refine W_kd ?_) | (refine W_z ?_))))
    refine W_call (hKd _ 2 (d + 1) _ hbk) ?_
    rintro _ rfl
    (repeat (with_reducible (first | (refine W_uI ?_) | (refine W_uS ?_) | (refine W_uL ?_) | (refine W_uA ?_) | (refine W_uB ?_) | (refine W_aI ?_) | (refine W_aL ?_) | (refine W_ca3 ?_) | (refine W_ce3 ?_) | (refine W_ca4 ?_) | (refine W_ce4 ?_) | (refine W_ca5 ?_) | (refine W_ce5 ?_) | (refine W_ca6 ?_) | (refine W_ce6 ?_) | (refine W_ca7 ?_) | (refine W_ce7 ?_) | (refine W_ca8 ?_) | (refine W_ce8 ?_) | (refine W_nd7 ?_) | (refine W_unCons ?_) | (refine W_unNil ?_) | (refine W_asInt ?_) | (refine W_asBool ?_) | (refine W_asStr ?_) | (refine W_asSl ?_) | (refine W_asAgg ?_) | (refine W_kd ?_) | (refine W_z ?_))))
    have call : ∀ M : List Nd, M = l ++ { n with init := if n.kind = 2 ∧ A ++ [V.agg [.int .i64 kind, .str nm, .sl 8 en, .sl 8 ex, .sl 5 tr, .sl 7 kb, .int .i64 0]] ≠ [] then (l.length : Int) + 1 else -1 } :: forest (d + 1) l.length (l.length + 1) A →
        W Q K (G 60 [.sl 7 (M.map Nd.v), .agg [.int .i64 (ndKind (.agg [.int .i64 kind, .str nm, .sl 8 en, .sl 8 ex, .sl 5 tr, .sl 7 kb, .int .i64 0])), .int .i64 l.length, .int .i64 0, .int .i64 (-1), .int .i64 (-1), .int .i64 (-1), .str nm], .sl 7 kb] fun o => uL 7 o fun x r => unNil r (l60_0g G k Ko j x l.length kids kids.length (IntKind.i64.wrap ((A.length : Int) + 1)) n.kind n.parent n.last (-1) n.entry n.exit n.name)) := by
      intro M hM
      have hMl : M.length = l.length + 1 + nszL (d + 1) A := by rw [hM, List.length_append, List.length_cons, forest_len]; omega
      refine W_call (hA M ⟨ndKind (.agg [.int .i64 kind, .str nm, .sl 8 en, .sl 8 ex, .sl 5 tr, .sl 7 kb, .int .i64 0]), l.length, 0, -1, -1, -1, nm⟩ kb _ q1 q2 rfl (by omega)) ?_
      rintro _ rfl
      (repeat (with_reducible (first | (refine W_uI ?_) | (refine W_uS ?_) | (refine W_uL ?_) | (refine W_uA ?_) | (refine W_uB ?_) | (refine W_aI ?_) | (refine W_aL ?_) | (refine W_ca3 ?_) | (refine W_ce3 ?_) | (refine W_ca4 ?_) | (refine W_ce4 ?_) | (refine W_ca5 ?_) | (refine W_ce5 ?_) | (refine W_ca6 ?_) | (refine W_ce6 ?_) | (refine W_ca7 ?_) | (refine W_ce7 ?_) | (refine W_ca8 ?_) | (refine W_ce8 ?_) | (refine W_nd7 ?_) | (refine W_unCons ?_) | (refine W_unNil ?_) | (refine W_asInt ?_) | (refine W_asBool ?_) | (refine W_asStr ?_) | (refine W_asSl ?_) | (refine W_asAgg ?_) | (refine W_kd ?_) | (refine W_z ?_))))
      exact fin _ (fin2 M hM)
    have same : n.kind ≠ 2 ∨ A ≠ [] → mid (d + 1) l n A = l ++ { n with init := if n.kind = 2 ∧ A ++ [V.agg [.int .i64 kind, .str nm, .sl 8 en, .sl 8 ex, .sl 5 tr, .sl 7 kb, .int .i64 0]] ≠ [] then (l.length : Int) + 1 else -1 } :: forest (d + 1) l.length (l.length + 1) A := by
      intro h
      unfold mid
      rcases h with h | h
      · rw [if_neg (fun c => h c.1), if_neg (fun c => h c.1)]
      · by_cases h2 : n.kind = 2
        · rw [if_pos ⟨h2, h⟩, if_pos ⟨h2, by simp⟩]
        · rw [if_neg (fun c => h2 c.1), if_neg (fun c => h2 c.1)]
    refine W_beqI (fun hk2 => ?_) (fun hk2 => call _ (same (.inl hk2)))
    simp only [List.length_map]
    refine W_and (W_yes (by omega) (W_yes (by omega) ?_))
    refine W_nthN (by omega) (fun n1 hn1 => ?_)
    rw [Int.toNat_natCast, mid_at, Option.some.injEq] at hn1
    subst hn1
    (repeat (with_reducible (first | (refine W_uI ?_) | (refine W_uS ?_) | (refine W_uL ?_) | (refine W_uA ?_) | (refine W_uB ?_) | (refine W_aI ?_) | (refine W_aL ?_) | (refine W_ca3 ?_) | (refine W_ce3 ?_) | (refine W_ca4 ?_) | (refine W_ce4 ?_) | (refine W_ca5 ?_) | (refine W_ce5 ?_) | (refine W_ca6 ?_) | (refine W_ce6 ?_) | (refine W_ca7 ?_) | (refine W_ce7 ?_) | (refine W_ca8 ?_) | (refine W_ce8 ?_) | (refine W_nd7 ?_) | (refine W_unCons ?_) | (refine W_unNil ?_) | (refine W_asInt ?_) | (refine W_asBool ?_) | (refine W_asStr ?_) | (refine W_asSl ?_) | (refine W_asAgg ?_) | (refine W_kd ?_) | (refine W_z ?_))))
    refine W_dec (fun hi => ?_) (fun hi => call _ (same (.inr fun h => hi (by subst h; simp))))
    have hA0 : A = [] := by
      rcases Classical.em (A = []) with h | h
      · exact h
      · exfalso
        have hi2 : (if n.kind = 2 ∧ A ≠ [] then (l.length : Int) + 1 else -1) < 0 := hi
        rw [if_pos ⟨hk2, h⟩] at hi2; omega
    subst hA0
    refine W_call (hH _ _) ?_
    rintro _ rfl
    (repeat (with_reducible (first | (refine W_uI ?_) | (refine W_uS ?_) | (refine W_uL ?_) | (refine W_uA ?_) | (refine W_uB ?_) | (refine W_aI ?_) | (refine W_aL ?_) | (refine W_ca3 ?_) | (refine W_ce3 ?_) | (refine W_ca4 ?_) | (refine W_ce4 ?_) | (refine W_ca5 ?_) | (refine W_ce5 ?_) | (refine W_ca6 ?_) | (refine W_ce6 ?_) | (refine W_ca7 ?_) | (refine W_ce7 ?_) | (refine W_ca8 ?_) | (refine W_ce8 ?_) | (refine W_nd7 ?_) | (refine W_unCons ?_) | (refine W_unNil ?_) | (refine W_asInt ?_) | (refine W_asBool ?_) | (refine W_asStr ?_) | (refine W_asSl ?_) | (refine W_asAgg ?_) | (refine W_kd ?_) | (refine W_z ?_))))
    have hle := ndKind_le hbk (hh _ B (by rw [h1]; rfl))
    rw [decide_eq_false (show ¬ (ndKind (.agg [.int .i64 kind, .str nm, .sl 8 en, .sl 8 ex, .sl 5 tr, .sl 7 kb, .int .i64 0]) = 4 ∨ ndKind (.agg [.int .i64 kind, .str nm, .sl 8 en, .sl 8 ex, .sl 5 tr, .sl 7 kb, .int .i64 0]) = 5) by omega)]
    refine W_and (W_yes (by omega) (W_yes (by omega) ?_))
    refine W_nthN (by omega) (fun n1 hn1 => ?_)
    rw [Int.toNat_natCast, mid_at, Option.some.injEq] at hn1
    subst hn1
    (repeat (with_reducible (first | (refine W_uI ?_) | (refine W_uS ?_) | (refine W_uL ?_) | (refine W_uA ?_) | (refine W_uB ?_) | (refine W_aI ?_) | (refine W_aL ?_) | (refine W_ca3 ?_) | (refine W_ce3 ?_) | (refine W_ca4 ?_) | (refine W_ce4 ?_) | (refine W_ca5 ?_) | (refine W_ce5 ?_) | (refine W_ca6 ?_) | (refine W_ce6 ?_) | (refine W_ca7 ?_) | (refine W_ce7 ?_) | (refine W_ca8 ?_) | (refine W_ce8 ?_) | (refine W_nd7 ?_) | (refine W_unCons ?_) | (refine W_unNil ?_) | (refine W_asInt ?_) | (refine W_asBool ?_) | (refine W_asStr ?_) | (refine W_asSl ?_) | (refine W_asAgg ?_) | (refine W_kd ?_) | (refine W_z ?_))))
    have hml0 : (mid (d + 1) l n []).length = l.length + 1 := by rw [mid_len]; simp [nszL]
    have e5 : List.set (List.map Nd.v (mid (d + 1) l n [])) (Int.toNat (l.length : Int)) (.agg [.int .i64 n.kind, .int .i64 n.parent, .int .i64 n.last, .int .i64 ((mid (d + 1) l n []).length : Nat), .int .i64 n.entry, .int .i64 n.exit, .str n.name]) = (l ++ { n with init := (l.length : Int) + 1 } :: forest (d + 1) l.length (l.length + 1) []).map Nd.v := by
      have := set_map (l := mid (d + 1) l n []) (i := l.length) (n := { n with init := (l.length : Int) + 1 })
      rw [Int.toNat_natCast, hml0]
      refine Eq.trans ?_ (this.trans ?_)
      · rfl
      · unfold mid; simp
    rw [e5]
    exact call _ (by rw [if_pos ⟨hk2, by simp⟩])
theorem add_ok {d : Nat} (hk : 10000 ≤ k) (hH : HistOK G) (hKd : CKindOK G) (hA : ∀ d', d = d' + 1 → AddOK d' G) : AddOK d (fun _ args (K : List V → Option R) => g60 G k args K) := by
  intro l n kids K h1 h2 h3 h4
  show W _ K (f60 G k (l.map Nd.v) n.kind n.parent n.last n.init n.entry n.exit n.name kids K)
  unfold f60
  simp only [List.length_map, h3]
  refine W_yes (by omega) ?_
  have e0 : List.map Nd.v l ++ [V.agg [.int .i64 n.kind, .int .i64 n.parent, .int .i64 n.last, .int .i64 (-1), .int .i64 n.entry, .int .i64 n.exit, .str n.name]] = (mid d l n []).map Nd.v := by
    unfold mid
    have : forest d (l.length : Int) (l.length + 1) [] = [] := by cases d <;> rw [forest]
    rw [this]; simp [Nd.v]
  rw [e0]
  unfold l60_0
  have hl2 : kids.length ≤ nszL d kids := by
    cases d with
    | zero => cases kids with
              | nil => simp
              | cons a r => exact (h1 a List.mem_cons_self).elim
    | succ d => exact nszL_len
  have := add_loop (Q := fun o => o = [.sl 7 ((l ++ addN d l.length n kids).map Nd.v)]) (K := K) (k := k) hH hKd hA (n := n) (l := l) h1 h2 h4 (Ko := fun yl85 yi86 => (bif ((decide (0 ≤ yi86)) && (decide (yi86 < ((List.length yl85 : Nat) : Int)))) then (nthK yl85 (Int.toNat yi86) fun e87 => (ca7 e87 fun c88 c89 c90 c91 c92 c93 c94 => (K [(.sl 7 (List.set yl85 (Int.toNat yi86) (.agg [c88, c89, (.int .i64 (IntKind.i64.wrap (((List.length yl85 : Nat) : Int) - 1))), c91, c92, c93, c94])))]))) else none)) ?_ kids [] k rfl (by omega)
  · exact this
  · have hm := mid_len (d := d) (l := l) (n := n) (A := kids)
    simp only [List.length_map]
    refine W_and (W_yes (by omega) (W_yes (by omega) ?_))
    refine W_nthN (by omega) (fun n1 hn1 => ?_)
    rw [Int.toNat_natCast, mid_at, Option.some.injEq] at hn1
    subst hn1
    (repeat (with_reducible (first | (refine W_uI ?_) | (refine W_uS ?_) | (refine W_uL ?_) | (refine W_uA ?_) | (refine W_uB ?_) | (refine W_aI ?_) | (refine W_aL ?_) | (refine W_ca3 ?_) | (refine W_ce3 ?_) | (refine W_ca4 ?_) | (refine W_ce4 ?_) | (refine W_ca5 ?_) | (refine W_ce5 ?_) | (refine W_ca6 ?_) | (refine W_ce6 ?_) | (refine W_ca7 ?_) | (refine W_ce7 ?_) | (refine W_ca8 ?_) | (refine W_ce8 ?_) | (refine W_nd7 ?_) | (refine W_unCons ?_) | (refine W_unNil ?_) | (refine W_asInt ?_) | (refine W_asBool ?_) | (refine W_asStr ?_) | (refine W_asSl ?_) | (refine W_asAgg ?_) | (refine W_kd ?_) | (refine W_z ?_))))
    refine W_ret ?_
    rw [wrap_id (n := ((mid d l n kids).length : Int) - 1) (by omega), Int.toNat_natCast]
    have := set_map (l := mid d l n kids) (i := l.length) (n := { n with last := ((mid d l n kids).length : Int) - 1, init := if n.kind = 2 ∧ kids ≠ [] then (l.length : Int) + 1 else -1 })
    refine congrArg (fun x => [V.sl 7 x]) (Eq.trans ?_ (this.trans ?_))
    · rfl
    · rw [hm]; unfold mid addN; simp; rw [show (l.length : Int) + 1 + (nszL d kids : Int) - 1 = l.length + (nszL d kids : Int) by omega]
def CNodesOK (G : ORC R) : Prop := ∀ (nm : ByteArray) (x y : Int) (a b c states : List V) (z : Int) (K : List V → Option R), (∀ s ∈ states, StateS 2 3 s ∧ kindV s ≤ 2) → nszL 3 states ≤ 900 →
  W (fun o => o = [.sl 7 ((ndsOf states).map Nd.v)]) K (G 17 [.agg [.str nm, .int .i64 x, .int .i64 y, .sl 3 a, .sl 3 b, .sl 3 c, .sl 7 states, .int .i64 z]] K)
theorem cnodes_ok (hA : AddOK 3 G) : CNodesOK (fun _ args (K : List V → Option R) => g17 G k args K) := by
  intro nm x y a b c states z K h1 h2
  show W _ K (f17 G k nm x y a b c states z K)
  unfold f17
  refine W_call (hA [] ⟨2, -1, 0, -1, -1, -1, ⟨#[]⟩⟩ states _ (fun s hs => (h1 s hs).1) (fun s r e => (h1 s (by rw [e]; simp)).2) rfl (by simp; omega)) ?_
  rintro _ rfl
  (repeat (with_reducible (first | (refine W_uI ?_) | (refine W_uS ?_) | (refine W_uL ?_) | (refine W_uA ?_) | (refine W_uB ?_) | (refine W_aI ?_) | (refine W_aL ?_) | (refine W_ca3 ?_) | (refine W_ce3 ?_) | (refine W_ca4 ?_) | (refine W_ce4 ?_) | (refine W_ca5 ?_) | (refine W_ce5 ?_) | (refine W_ca6 ?_) | (refine W_ce6 ?_) | (refine W_ca7 ?_) | (refine W_ce7 ?_) | (refine W_ca8 ?_) | (refine W_ce8 ?_) | (refine W_nd7 ?_) | (refine W_unCons ?_) | (refine W_unNil ?_) | (refine W_asInt ?_) | (refine W_asBool ?_) | (refine W_asStr ?_) | (refine W_asSl ?_) | (refine W_asAgg ?_) | (refine W_kd ?_) | (refine W_z ?_))))
  refine W_ret ?_
  unfold addN ndsOf
  by_cases hs : states = []
  · subst hs; simp
  · simp [hs]
def KidsOK (f : FuncId) (G : ORC R) : Prop := ∀ (l : List Nd) (i : Int) (K : List V → Option R), l.length ≤ 1000 → W (fun o => o = [.sl 1 (ivs (kidsN l i))]) K (G f [.sl 7 (l.map Nd.v), .int .i64 i] K)
theorem ckids_loop (hI : CIsOK G) {Q : List V → Prop} {K : List V → Option R} {Ko : List V → Option R} {l : List Nd} {i : Int} (hl : l.length ≤ 1000) (hKo : W Q K (Ko (ivs (kidsN l i)))) :
    ∀ (j m : Nat), l.length - m < j → m ≤ l.length → W Q K (l23_0g G k Ko j (l.map Nd.v) i (ivs (kidsGo l i m)) (l.map Nd.v) l.length m)
  | 0, m, h1, h2 => by omega
  | j + 1, m, h1, h2 => by
    show W Q K (b23_0 G k (l23_0g G k Ko j) Ko (l.map Nd.v) i (ivs (kidsGo l i m)) (l.map Nd.v) l.length m)
    unfold b23_0
    have hgl := kidsGo_len (l := l) (i := i) (m := m)
    have hKo' : ¬ (m : Int) < l.length → W Q K (Ko (ivs (kidsGo l i m))) := fun h => by
      rw [show m = l.length by omega]; exact hKo
    refine W_dec (fun h => ?_) hKo'
    simp only [List.length_map]
    refine W_and (W_yes (by omega) (W_yes (by omega) ?_))
    refine W_nthN (by omega) (fun n hn => ?_)
    rw [Int.toNat_natCast] at hn
    unfold Nd.v
    (repeat (with_reducible (first | (refine W_uI ?_) | (refine W_uS ?_) | (refine W_uL ?_) | (refine W_uA ?_) | (refine W_uB ?_) | (refine W_aI ?_) | (refine W_aL ?_) | (refine W_ca3 ?_) | (refine W_ce3 ?_) | (refine W_ca4 ?_) | (refine W_ce4 ?_) | (refine W_ca5 ?_) | (refine W_ce5 ?_) | (refine W_ca6 ?_) | (refine W_ce6 ?_) | (refine W_ca7 ?_) | (refine W_ce7 ?_) | (refine W_ca8 ?_) | (refine W_ce8 ?_) | (refine W_nd7 ?_) | (refine W_unCons ?_) | (refine W_unNil ?_) | (refine W_asInt ?_) | (refine W_asBool ?_) | (refine W_asStr ?_) | (refine W_asSl ?_) | (refine W_asAgg ?_) | (refine W_kd ?_) | (refine W_z ?_))))
    unfold CIsOK at hI
    refine W_call (hI _ _ _) ?_
    rintro _ rfl
    (repeat (with_reducible (first | (refine W_uI ?_) | (refine W_uS ?_) | (refine W_uL ?_) | (refine W_uA ?_) | (refine W_uB ?_) | (refine W_aI ?_) | (refine W_aL ?_) | (refine W_ca3 ?_) | (refine W_ce3 ?_) | (refine W_ca4 ?_) | (refine W_ce4 ?_) | (refine W_ca5 ?_) | (refine W_ce5 ?_) | (refine W_ca6 ?_) | (refine W_ce6 ?_) | (refine W_ca7 ?_) | (refine W_ce7 ?_) | (refine W_ca8 ?_) | (refine W_ce8 ?_) | (refine W_nd7 ?_) | (refine W_unCons ?_) | (refine W_unNil ?_) | (refine W_asInt ?_) | (refine W_asBool ?_) | (refine W_asStr ?_) | (refine W_asSl ?_) | (refine W_asAgg ?_) | (refine W_kd ?_) | (refine W_z ?_))))
    simp only [List.length_map]
    have next : ∀ a, a = ivs (kidsGo l i (m + 1)) → W Q K (l23_0g G k Ko j (l.map Nd.v) i a (l.map Nd.v) l.length (IntKind.i64.wrap ((m : Int) + 1))) := fun a ha => by
      rw [wrap_id (n := (m : Int) + 1) (by omega), ha]
      exact ckids_loop hI hl hKo j (m + 1) (by omega) (by omega)
    have hk : isK l i m = (decide (0 ≤ i ∧ i < l.length) && decide (n.parent = i)) := by unfold isK; rw [hn]
    refine W_dec (fun hi => ?_) (fun hi => next _ (by rw [kidsGo, hk, decide_eq_false hi]; simp))
    refine W_beqI (fun hp => ?_) (fun hp => next _ (by rw [kidsGo, hk, decide_eq_false hp]; simp))
    refine W_yes (by rw [ivs_len]; omega) (next _ (by rw [kidsGo, hk, decide_eq_true hi, decide_eq_true hp]; simp [ivs]))
theorem ckids_ok (hk : 10000 ≤ k) (hI : CIsOK G) : KidsOK 23 (fun _ args (K : List V → Option R) => g23 G k args K) := by
  intro l i K hl
  show W _ K (f23 G k (l.map Nd.v) i K)
  unfold f23 l23_0
  simp only [List.length_map]
  exact ckids_loop (Q := fun o => o = [.sl 1 (ivs (kidsN l i))]) (K := K) (Ko := fun x => K [.sl 1 x]) hI hl (W_ret rfl) k 0 (by omega) (by omega)
theorem rkids_loop (hI : IsOK G) {Q : List V → Prop} {K : List V → Option R} {Ko : List V → Option R} {l : List Nd} {i : Int} (hl : l.length ≤ 1000) (hKo : W Q K (Ko (ivs (kidsN l i)))) :
    ∀ (j m : Nat), l.length - m < j → m ≤ l.length → W Q K (l24_0g G k Ko j (l.map Nd.v) i (ivs (kidsGo l i m)) m)
  | 0, m, h1, h2 => by omega
  | j + 1, m, h1, h2 => by
    show W Q K (b24_0 G k (l24_0g G k Ko j) Ko (l.map Nd.v) i (ivs (kidsGo l i m)) m)
    unfold b24_0
    have hgl := kidsGo_len (l := l) (i := i) (m := m)
    simp only [List.length_map]
    refine W_dec (fun h => ?_) (fun h => by rw [show m = l.length by omega]; exact hKo)
    unfold IsOK at hI
    refine W_call (hI _ _ _) ?_
    rintro _ rfl
    (repeat (with_reducible (first | (refine W_uI ?_) | (refine W_uS ?_) | (refine W_uL ?_) | (refine W_uA ?_) | (refine W_uB ?_) | (refine W_aI ?_) | (refine W_aL ?_) | (refine W_ca3 ?_) | (refine W_ce3 ?_) | (refine W_ca4 ?_) | (refine W_ce4 ?_) | (refine W_ca5 ?_) | (refine W_ce5 ?_) | (refine W_ca6 ?_) | (refine W_ce6 ?_) | (refine W_ca7 ?_) | (refine W_ce7 ?_) | (refine W_ca8 ?_) | (refine W_ce8 ?_) | (refine W_nd7 ?_) | (refine W_unCons ?_) | (refine W_unNil ?_) | (refine W_asInt ?_) | (refine W_asBool ?_) | (refine W_asStr ?_) | (refine W_asSl ?_) | (refine W_asAgg ?_) | (refine W_kd ?_) | (refine W_z ?_))))
    simp only [List.length_map]
    refine W_dec (fun hi => ?_) (fun hi => ?_)
    · refine W_and (W_yes (by omega) (W_yes (by omega) ?_))
      refine W_nthN (by omega) (fun n hn => ?_)
      rw [Int.toNat_natCast] at hn
      (repeat (with_reducible (first | (refine W_uI ?_) | (refine W_uS ?_) | (refine W_uL ?_) | (refine W_uA ?_) | (refine W_uB ?_) | (refine W_aI ?_) | (refine W_aL ?_) | (refine W_ca3 ?_) | (refine W_ce3 ?_) | (refine W_ca4 ?_) | (refine W_ce4 ?_) | (refine W_ca5 ?_) | (refine W_ce5 ?_) | (refine W_ca6 ?_) | (refine W_ce6 ?_) | (refine W_ca7 ?_) | (refine W_ce7 ?_) | (refine W_ca8 ?_) | (refine W_ce8 ?_) | (refine W_nd7 ?_) | (refine W_unCons ?_) | (refine W_unNil ?_) | (refine W_asInt ?_) | (refine W_asBool ?_) | (refine W_asStr ?_) | (refine W_asSl ?_) | (refine W_asAgg ?_) | (refine W_kd ?_) | (refine W_z ?_))))
      have next : ∀ a, a = ivs (kidsGo l i (m + 1)) → W Q K (l24_0g G k Ko j (l.map Nd.v) i a (IntKind.i64.wrap ((m : Int) + 1))) := fun a ha => by
        rw [wrap_id (n := (m : Int) + 1) (by omega), ha]
        exact rkids_loop hI hl hKo j (m + 1) (by omega) (by omega)
      have hk : isK l i m = (decide (0 ≤ i ∧ i < l.length) && decide (n.parent = i)) := by unfold isK; rw [hn]
      refine W_beqI (fun hp => ?_) (fun hp => next _ (by rw [kidsGo, hk, decide_eq_false hp]; simp))
      refine W_yes (by rw [ivs_len]; omega) (next _ (by rw [kidsGo, hk, decide_eq_true hi, decide_eq_true hp]; simp [ivs]))
    · have e0 : ∀ m, kidsGo l i m = [] := by
        intro m
        induction m with
        | zero => rfl
        | succ m ih => unfold kidsGo; rw [ih]; unfold isK; rw [decide_eq_false hi]; simp
      have : kidsN l i = kidsGo l i m := by unfold kidsN; rw [e0, e0]
      rw [← this]; exact hKo
theorem rkids_ok (hk : 10000 ≤ k) (hI : IsOK G) : KidsOK 24 (fun _ args (K : List V → Option R) => g24 G k args K) := by
  intro l i K hl
  show W _ K (f24 G k (l.map Nd.v) i K)
  unfold f24 l24_0
  exact rkids_loop (Q := fun o => o = [.sl 1 (ivs (kidsN l i))]) (K := K) (Ko := fun x => K [.sl 1 x]) hI hl (W_ret rfl) k 0 (by omega) (by omega)
def SameOK (G : ORC R) : Prop := ∀ (a b : List Int) (K : List V → Option R), a.length ≤ 9000 → W (fun o => o = [.bool (decide (a = b))]) K (G 22 [.sl 1 (ivs a), .sl 1 (ivs b)] K)
theorem ivs_get {l : List Int} {i : Nat} {n : Int} (h : l[i]? = some n) : (ivs l)[i]? = some (.int .i64 n) := by unfold ivs; rw [List.getElem?_map, h]; rfl
theorem same_loop {Q : List V → Prop} {K : List V → Option R} {Ko : Unit → Option R} {Kr : Bool → Option R} {a b : List Int} (hl : a.length = b.length) (h9 : a.length ≤ 9000) (hKo : a = b → W Q K (Ko ())) (hKr : a ≠ b → W Q K (Kr false)) :
    ∀ (j m : Nat), a.length - m < j → m ≤ a.length → (∀ i, i < m → a[i]? = b[i]?) → W Q K (l22_0g G k Ko Kr j (ivs a) (ivs b) m)
  | 0, m, h1, h2, h3 => by omega
  | j + 1, m, h1, h2, h3 => by
    show W Q K (b22_0 G k (l22_0g G k Ko Kr j) Ko Kr (ivs a) (ivs b) m)
    unfold b22_0
    simp only [ivs_len]
    refine W_dec (fun h => ?_) (fun h => hKo (List.ext_getElem? fun i => ?_))
    · obtain ⟨x, hx⟩ : ∃ x, a[m]? = some x := ⟨_, List.getElem?_eq_getElem (by omega)⟩
      obtain ⟨y, hy⟩ : ∃ y, b[m]? = some y := ⟨_, List.getElem?_eq_getElem (by omega)⟩
      refine W_and (W_yes (by omega) (W_yes (by omega) (W_nth (by rw [ivs_len]; omega) (fun v hv _ => ?_))))
      rw [Int.toNat_natCast, ivs_get hx, Option.some.injEq] at hv; rw [← hv]
      refine W_aI (W_and (W_yes (by omega) (W_yes (by omega) (W_nth (by rw [ivs_len]; omega) (fun v hv _ => ?_)))))
      rw [Int.toNat_natCast, ivs_get hy, Option.some.injEq] at hv; rw [← hv]
      refine W_aI ?_
      by_cases e : x = y
      · subst e
        refine W_chk' (by simp) ?_
        rw [wrap_id (n := (m : Int) + 1) (by omega)]
        refine same_loop hl h9 hKo hKr j (m + 1) (by omega) (by omega) (fun i hi => ?_)
        by_cases hm : i = m
        · rw [hm, hx, hy]
        · exact h3 i (by omega)
      · refine W_chk (by simp [e]) (hKr fun he => ?_)
        rw [he, hy] at hx; injection hx with hx; exact e hx.symm
    · by_cases hi : i < m
      · exact h3 i hi
      · rw [List.getElem?_eq_none (by omega), List.getElem?_eq_none (by omega)]
theorem same_ok (hk : 10000 ≤ k) : SameOK (fun _ args (K : List V → Option R) => g22 G k args K) := by
  intro a b K h9
  show W _ K (f22 G k (ivs a) (ivs b) K)
  unfold f22
  simp only [ivs_len]
  by_cases hl : a.length = b.length
  · refine W_chk' (by simp [hl]) ?_
    unfold l22_0
    exact same_loop (Q := fun o => o = [.bool (decide (a = b))]) (K := K) (Ko := fun _ => K [.bool true]) (Kr := fun x => K [.bool x]) hl h9 (fun e => W_ret (by rw [decide_eq_true e])) (fun e => W_ret (by rw [decide_eq_false e])) k 0 (by omega) (by omega) (fun i hi => by omega)
  · refine W_chk (by simp; omega) (W_ret ?_)
    rw [decide_eq_false (fun h => hl (by rw [h]))]
end
end Go.Proofs.Ytblabbcmokldiaa.Vm
open Go Go.VM
set_option linter.unusedVariables false
set_option linter.unusedSimpArgs false
set_option maxRecDepth 100000
set_option maxHeartbeats 8000000
namespace Go.Proofs.Ytblabbcmokldiaa.Vm
section
variable {R : Type} {G : ORC R} {k : Nat} {K : List V → Option R}
/-- The same chart, whatever comes behind it. -/
def MadeU (G : ORC R) : Prop := ∀ (v : List V), IntsS v → v.length ≤ 200 → ∃ c, ChartS c ∧ ∀ K : List V → Option R, G 15 [.sl 1 v] K = K [c]
def MadeOK (G : ORC R) : Prop := ∀ (v : List V) (K : List V → Option R), IntsS v → v.length ≤ 200 → W (fun o => ∃ c, o = [c] ∧ ChartS c) K (G 15 [.sl 1 v] K)
theorem made_ok (hC : ChartOK G) : MadeOK (fun _ args (K : List V → Option R) => g15 G k args K) := by
  intro v K h1 h2
  show W _ K (f15 G k v K)
  unfold f15
  unfold ChartOK at hC
  refine W_call (hC _ _ v 0 _ (by unfold StrS; decide) (by omega) (by omega) ⟨h1, by omega, by omega, by omega⟩) ?_
  rintro _ ⟨c, j, rfl, hc, hj⟩
  have hc' := hc
  obtain ⟨nm, st, fu, vars, ports, timers, states, rfl, _⟩ := hc
  (repeat (with_reducible (first | (refine W_uI ?_) | (refine W_uS ?_) | (refine W_uL ?_) | (refine W_uA ?_) | (refine W_uB ?_) | (refine W_aI ?_) | (refine W_aL ?_) | (refine W_ca3 ?_) | (refine W_ce3 ?_) | (refine W_ca4 ?_) | (refine W_ce4 ?_) | (refine W_ca5 ?_) | (refine W_ce5 ?_) | (refine W_ca6 ?_) | (refine W_ce6 ?_) | (refine W_ca7 ?_) | (refine W_ce7 ?_) | (refine W_ca8 ?_) | (refine W_ce8 ?_) | (refine W_nd7 ?_) | (refine W_unCons ?_) | (refine W_unNil ?_) | (refine W_asInt ?_) | (refine W_asBool ?_) | (refine W_asStr ?_) | (refine W_asSl ?_) | (refine W_asAgg ?_) | (refine W_kd ?_) | (refine W_z ?_))))
  exact W_ret ⟨_, rfl, hc'⟩
/-- The example holds. -/
def KnOK (G : ORC R) : Prop := ∀ K : List V → Option R, G 13 [] K = K [.bool true]
theorem kn_go (hKn : KnOK G) : W (fun o => o = [.bool true]) K (G 13 [] fun o => uB o fun b r => unNil r (K [.bool b])) := by
  rw [hKn]; exact W_uB (W_unNil (W_ret rfl))
end
end Go.Proofs.Ytblabbcmokldiaa.Vm
open Go Go.VM
set_option linter.unusedVariables false
set_option linter.unusedSimpArgs false
set_option maxRecDepth 100000
set_option maxHeartbeats 8000000
namespace Go.Proofs.Ytblabbcmokldiaa.Vm
theorem evHist : Ev HistOK := ev0 fun j => by have e := hist_ok (G := gh 10000 j) (k := 10000); unfold HistOK at e ⊢; (intros; refine gh_W ?_; apply e <;> assumption)
theorem evCIs : Ev CIsOK := ev0 fun j => by have e := cis_ok (G := gh 10000 j) (k := 10000); unfold CIsOK at e ⊢; (intros; refine gh_W ?_; apply e <;> assumption)
theorem evCKids : Ev (KidsOK 23) := evS evCIs fun j h => by have e := ckids_ok (G := gh 10000 j) (k := 10000) (by omega) h; unfold KidsOK at e ⊢; (intros; refine gh_W ?_; apply e <;> assumption)
theorem evRKids : Ev (KidsOK 24) := evS evIs fun j h => by have e := rkids_ok (G := gh 10000 j) (k := 10000) (by omega) h; unfold KidsOK at e ⊢; (intros; refine gh_W ?_; apply e <;> assumption)
theorem evSame : Ev SameOK := ev0 fun j => by have e := same_ok (G := gh 10000 j) (k := 10000) (by omega); unfold SameOK at e ⊢; (intros; refine gh_W ?_; apply e <;> assumption)
theorem evMade : Ev MadeOK := evS evChart fun j h => by have e := made_ok (G := gh 10000 j) (k := 10000) h; unfold MadeOK at e ⊢; (intros; refine gh_W ?_; apply e <;> assumption)
theorem evKn : Ev KnOK := by
  refine ⟨10, fun j hj => ?_⟩
  obtain ⟨j', rfl⟩ : ∃ j', j = j' + 10 := ⟨j - 10, by omega⟩
  intro K
  show _ = _
  kernel_rfl
end Go.Proofs.Ytblabbcmokldiaa.Vm
set_option linter.unusedVariables false
namespace Go.VM
def hasL (l : List Int) (i : Int) : Bool := decide (i ∈ l)
def notL (a b : List Int) : List Int := a.filter fun x => !hasL b x
def andL (a b : List Int) : List Int := notL a (notL a b)
theorem hasL_iff {l : List Int} {i : Int} : hasL l i = true ↔ i ∈ l := by simp [hasL]
theorem hasL_congr {s t : List Int} (h : ∀ x, x ∈ s ↔ x ∈ t) (i : Int) : hasL s i = hasL t i := by
  have := h i
  unfold hasL
  by_cases hs : i ∈ s
  · rw [decide_eq_true hs, decide_eq_true (this.1 hs)]
  · rw [decide_eq_false hs, decide_eq_false (fun h => hs (this.2 h))]
theorem andL_eq {a b : List Int} : andL a b = a.filter (hasL b) := by
  unfold andL notL
  apply List.filter_congr
  intro x hx
  simp [hasL, hx]
/-! The rising row of the numbers below m that stand in a row. -/
def ofGo (l : List Int) : Nat → List Int
  | 0 => []
  | m + 1 => ofGo l m ++ if hasL l m then [(m : Int)] else []
def ofL (l : List Int) : List Int := ofGo l 128
theorem ofGo_len {l : List Int} : ∀ {m : Nat}, (ofGo l m).length ≤ m
  | 0 => Nat.le_refl 0
  | m + 1 => by have := ofGo_len (l := l) (m := m); unfold ofGo; split <;> simp <;> omega
theorem mem_ofGo {l : List Int} {x : Int} : ∀ {m : Nat}, x ∈ ofGo l m ↔ 0 ≤ x ∧ x < m ∧ x ∈ l
  | 0 => by simp [ofGo]; omega
  | m + 1 => by
    unfold ofGo
    rw [List.mem_append, mem_ofGo (m := m)]
    by_cases hm : (m : Int) ∈ l
    · rw [if_pos (hasL_iff.2 hm), List.mem_singleton]
      constructor
      · rintro (⟨h1, h2, h3⟩ | h)
        · exact ⟨h1, by omega, h3⟩
        · exact ⟨by omega, by omega, h ▸ hm⟩
      · rintro ⟨h1, h2, h3⟩
        by_cases e : x = m
        · exact .inr e
        · exact .inl ⟨h1, by omega, h3⟩
    · rw [if_neg (fun h => hm (hasL_iff.1 h))]
      constructor
      · rintro (⟨h1, h2, h3⟩ | h)
        · exact ⟨h1, by omega, h3⟩
        · simp at h
      · rintro ⟨h1, h2, h3⟩
        by_cases e : x = m
        · exact absurd (e ▸ h3) hm
        · exact .inl ⟨h1, by omega, h3⟩
theorem ofGo_congr {s t : List Int} (h : ∀ x, x ∈ s ↔ x ∈ t) : ∀ {m : Nat}, ofGo s m = ofGo t m
  | 0 => rfl
  | m + 1 => by unfold ofGo; rw [ofGo_congr h (m := m), hasL_congr h]
theorem ofGo_more {l : List Int} {m : Nat} (h : ∀ x ∈ l, x < m) : ∀ {d : Nat}, ofGo l (m + d) = ofGo l m
  | 0 => rfl
  | d + 1 => by
    rw [show m + (d + 1) = (m + d) + 1 by omega, ofGo, ofGo_more h (d := d), if_neg, List.append_nil]
    intro hh
    have := h _ (hasL_iff.1 hh)
    omega
/-! Rows of truths. -/
def actV (n : Nat) (s : List Int) : List V := (List.range n).map fun j : Nat => .bool (hasL s j)
theorem actV_len {n : Nat} {s : List Int} : (actV n s).length = n := by simp [actV]
theorem actV_get {n : Nat} {s : List Int} {j : Nat} (h : j < n) : (actV n s)[j]? = some (.bool (hasL s j)) := by unfold actV; simp [h]
theorem actV_nil {n : Nat} : List.replicate n (V.bool false) = actV n [] := by
  apply List.ext_getElem?
  intro i
  by_cases h : i < n
  · rw [actV_get h]; simp [h, hasL]
  · rw [List.getElem?_eq_none (by simp; omega), List.getElem?_eq_none (by rw [actV_len]; omega)]
theorem actV_congr {n : Nat} {s t : List Int} (h : ∀ x, x ∈ s ↔ x ∈ t) : actV n s = actV n t := by
  unfold actV
  apply List.map_congr_left
  intro j _
  rw [hasL_congr h]
theorem actV_set {n : Nat} {s : List Int} {i : Int} (h0 : 0 ≤ i) (hi : i < n) : (actV n s).set i.toNat (.bool true) = actV n (s ++ [i]) := by
  apply List.ext_getElem?
  intro j
  rw [List.getElem?_set, actV_len]
  by_cases hj : i.toNat = j
  · subst hj
    rw [if_pos rfl, if_pos (by omega), actV_get (by omega)]
    congr 2
    symm; rw [hasL_iff]; simp; omega
  · rw [if_neg hj]
    by_cases h : j < n
    · rw [actV_get h, actV_get h]
      congr 2
      unfold hasL
      have : (j : Int) ∈ s ↔ (j : Int) ∈ s ++ [i] := by simp; omega
      by_cases hs : (j : Int) ∈ s
      · rw [decide_eq_true hs, decide_eq_true (this.1 hs)]
      · rw [decide_eq_false hs, decide_eq_false (fun h => hs (this.2 h))]
    · rw [List.getElem?_eq_none (by rw [actV_len]; omega), List.getElem?_eq_none (by rw [actV_len]; omega)]
/-! Configurations. -/
def isSt (ns : List Nd) (k : Int) : Bool := match ns[k.toNat]? with | some n => decide (n.kind ≤ 3) | none => false
def statesN (ns : List Nd) (i : Int) : List Int := (kidsN ns i).filter (isSt ns)
def StepA (ns : List Nd) (conf : List Int) (i : Nat) (c : Int) : Prop :=
  (0 ≤ c ∧ c < ns.length) ∧ (∀ p, 0 < i → conf[i - 1]? = some p → p < c) ∧ ∀ n, ns[c.toNat]? = some n → n.kind ≤ 3 ∧ (0 < c → n.parent ∈ conf)
def StepB (ns : List Nd) (conf : List Int) (c : Int) : Prop :=
  ∀ n, ns[c.toNat]? = some n → (n.kind = 2 → (andL (statesN ns c) conf).length = 1) ∧ (n.kind = 3 → (andL (statesN ns c) conf).length = (statesN ns c).length)
def LegalP (ns : List Nd) (conf : List Int) : Prop := (0 : Int) ∈ conf ∧ ∀ (i : Nat) c, conf[i]? = some c → StepA ns conf i c ∧ StepB ns conf c
theorem asc_le {ns : List Nd} {conf : List Int} (h : ∀ (i : Nat) c, conf[i]? = some c → StepA ns conf i c) {i : Nat} {a : Int} (ha : conf[i]? = some a) : ∀ {d : Nat} {b : Int}, conf[i + d]? = some b → a + d ≤ b
  | 0, b, hb => by
    have e : conf[i]? = some b := hb
    rw [ha] at e; injection e with e; omega
  | d + 1, b, hb => by
    have hlt := (List.getElem?_eq_some_iff.1 hb).1
    obtain ⟨m, hm⟩ : ∃ m, conf[i + d]? = some m := ⟨_, List.getElem?_eq_getElem (by omega)⟩
    have h1 := asc_le h ha (d := d) hm
    have h2 := (h _ _ hb).2.1 m (by omega) (by rw [show i + (d + 1) - 1 = i + d by omega]; exact hm)
    omega
theorem asc_take {ns : List Nd} {conf : List Int} (h : ∀ (i : Nat) c, conf[i]? = some c → StepA ns conf i c) {m : Nat} {c x : Int} (hc : conf[m]? = some c) (hx : x ∈ conf) (hlt : x < c) : x ∈ conf.take m := by
  obtain ⟨j, hj, e⟩ := List.mem_iff_getElem.1 hx
  have ej : conf[j]? = some x := by rw [List.getElem?_eq_getElem hj, e]
  by_cases hjm : j < m
  · exact List.mem_of_getElem? (i := j) (by rw [List.getElem?_take, if_pos hjm]; exact ej)
  · have := asc_le h hc (d := j - m) (by rw [show m + (j - m) = j by omega]; exact ej)
    omega
theorem legal_head {ns : List Nd} {conf : List Int} (h : LegalP ns conf) : conf[0]? = some 0 := by
  obtain ⟨j, hj, e⟩ := List.mem_iff_getElem.1 h.1
  have ej : conf[j]? = some 0 := by rw [List.getElem?_eq_getElem hj, e]
  obtain ⟨a, ha⟩ : ∃ a, conf[0]? = some a := ⟨_, List.getElem?_eq_getElem (by omega)⟩
  have h0 := (h.2 0 a ha).1.1
  have := asc_le (fun i c hc => (h.2 i c hc).1) ha (d := j) (by rw [Nat.zero_add]; exact ej)
  rw [ha]; congr 1; omega
theorem take_snoc {l : List Int} {m : Nat} {c : Int} (h : l[m]? = some c) : l.take (m + 1) = l.take m ++ [c] := by
  rw [List.take_add_one, h]; rfl
/-! The way up. -/
def chainF (ns : List Nd) : Nat → Int → List Int
  | 0, _ => []
  | f + 1, c => if 0 ≤ c then (match ns[c.toNat]? with | some n => c :: chainF ns f n.parent | none => []) else []
def chainN (ns : List Nd) (c : Int) : List Int := chainF ns (ns.length + 1) c
theorem chainF_neg {ns : List Nd} {f : Nat} {c : Int} (h : c < 0) : chainF ns f c = [] := by
  cases f with
  | zero => rfl
  | succ f => unfold chainF; rw [if_neg (by omega)]
theorem chainF_stable {ns : List Nd} (T : Tree ns) : ∀ (f f' : Nat) (c : Int), c < f → c < f' → chainF ns f c = chainF ns f' c
  | 0, f', c, h1, h2 => by rw [chainF_neg (by omega), chainF_neg (by omega)]
  | f + 1, 0, c, h1, h2 => by rw [chainF_neg (by omega), chainF_neg (by omega)]
  | f + 1, f' + 1, c, h1, h2 => by
    unfold chainF
    by_cases h0 : 0 ≤ c
    · rw [if_pos h0, if_pos h0]
      cases hn : ns[c.toNat]? with
      | none => rfl
      | some n =>
        have := T.seg.par c.toNat n hn
        show c :: _ = c :: _
        rw [chainF_stable T f f' n.parent (by omega) (by omega)]
    · rw [if_neg h0, if_neg h0]
theorem chain_neg {ns : List Nd} {c : Int} (h : c < 0) : chainN ns c = [] := chainF_neg h
theorem chain_cons {ns : List Nd} (T : Tree ns) {c : Int} {n : Nd} (h0 : 0 ≤ c) (hn : ns[c.toNat]? = some n) : chainN ns c = c :: chainN ns n.parent := by
  have := T.seg.par c.toNat n hn
  have hl := (List.getElem?_eq_some_iff.1 hn).1
  unfold chainN
  conv => lhs; unfold chainF
  rw [if_pos h0, hn]
  show c :: _ = c :: _
  rw [chainF_stable T ns.length (ns.length + 1) n.parent (by omega) (by omega)]
theorem chain_all {ns : List Nd} (T : Tree ns) : ∀ (f : Nat) (c : Int), c < f → c < ns.length → (chainN ns c).length ≤ f ∧ ∀ x ∈ chainN ns c, (0 ≤ x ∧ x ≤ c) ∧ (x = c ∨ ∃ n, ns[x.toNat]? = some n ∧ (n.kind = 2 ∨ n.kind = 3)) ∧ ∀ y ∈ chainN ns x, y ∈ chainN ns c
  | f, c, h1, h2 => by
    rcases Int.lt_or_le c 0 with h0 | h0
    · rw [chain_neg h0]; simp
    · cases f with
      | zero => omega
      | succ f =>
      obtain ⟨n, hn⟩ : ∃ n, ns[c.toNat]? = some n := ⟨_, List.getElem?_eq_getElem (by omega)⟩
      have hp := T.seg.par c.toNat n hn
      have ec := chain_cons T h0 hn
      obtain ⟨k1, k2⟩ := chain_all T f n.parent (by omega) (by omega)
      refine ⟨by rw [ec, List.length_cons]; omega, ?_⟩
      intro x hx
      rw [ec] at hx
      rcases List.mem_cons.1 hx with rfl | hx
      · exact ⟨⟨h0, Int.le_refl _⟩, .inl rfl, fun y hy => hy⟩
      · obtain ⟨⟨a1, a2⟩, a3, a4⟩ := k2 x hx
        refine ⟨⟨a1, by omega⟩, .inr ?_, fun y hy => by rw [ec]; exact List.mem_cons_of_mem _ (a4 y hy)⟩
        rcases a3 with rfl | a3
        · obtain ⟨p, p1, p2⟩ := T.seg.kid c.toNat n hn (by omega)
          exact ⟨p, by simpa using p1, p2⟩
        · exact a3
theorem chain_mem {ns : List Nd} (T : Tree ns) {c x : Int} (hc : c < ns.length) (hx : x ∈ chainN ns c) : (0 ≤ x ∧ x ≤ c) ∧ (x = c ∨ ∃ n, ns[x.toNat]? = some n ∧ (n.kind = 2 ∨ n.kind = 3)) ∧ ∀ y ∈ chainN ns x, y ∈ chainN ns c :=
  (chain_all T (c.toNat + 1) c (by omega) hc).2 x hx
def chainsN (ns : List Nd) (l : List Int) : List Int := l.flatMap (chainN ns)
theorem chains_snoc {ns : List Nd} {l : List Int} {c : Int} : chainsN ns (l ++ [c]) = chainsN ns l ++ chainN ns c := by simp [chainsN]
theorem mem_chains {ns : List Nd} {l : List Int} {x : Int} : x ∈ chainsN ns l ↔ ∃ c ∈ l, x ∈ chainN ns c := by simp [chainsN]
theorem chains_len {ns : List Nd} (T : Tree ns) : ∀ {l : List Int}, (∀ c ∈ l, c < ns.length) → (chainsN ns l).length ≤ l.length * ns.length
  | [], _ => by simp [chainsN]
  | c :: l, h => by
    have h1 := (chain_all T ns.length c (h c List.mem_cons_self) (h c List.mem_cons_self)).1
    have h2 := chains_len T (l := l) (fun c hc => h c (List.mem_cons_of_mem _ hc))
    unfold chainsN at *
    rw [List.flatMap_cons, List.length_append, List.length_cons, Nat.succ_mul]; omega
def atomAt (ns : List Nd) (c : Int) : Bool := decide (0 ≤ c ∧ c < ns.length) && (match ns[c.toNat]? with | some n => decide (n.kind = 1) | none => false)
def atomN (ns : List Nd) (conf : List Int) : List Int := conf.filter (atomAt ns)
def StepF (ns : List Nd) (l : List Int) (i : Nat) (c : Int) : Prop := atomAt ns c = true ∧ c ∉ l.take i
def GoodP (ns : List Nd) (l : List Int) : Prop := ∀ (i : Nat) c, l[i]? = some c → StepF ns l i c
/-- What Full answers. -/
def FullS (ns : List Nd) (l a : List Int) (p : Bool) : Prop :=
  (p = true → GoodP ns l ∧ LegalP ns (ofL (chainsN ns l)) ∧ a = ofL (chainsN ns l)) ∧ (p = false → a = [] ∧ ¬ (GoodP ns l ∧ LegalP ns (ofL (chainsN ns l))))
theorem full_same {ns : List Nd} {l a b : List Int} {p q : Bool} (h1 : FullS ns l a p) (h2 : FullS ns l b q) : p = q ∧ a = b := by
  cases p <;> cases q
  · exact ⟨rfl, (h1.2 rfl).1.trans (h2.2 rfl).1.symm⟩
  · exact absurd ⟨(h2.1 rfl).1, (h2.1 rfl).2.1⟩ (h1.2 rfl).2
  · exact absurd ⟨(h1.1 rfl).1, (h1.1 rfl).2.1⟩ (h2.2 rfl).2
  · exact ⟨rfl, (h1.1 rfl).2.2.trans (h2.1 rfl).2.2.symm⟩
theorem atomAt_iff {ns : List Nd} {c : Int} : atomAt ns c = true ↔ 0 ≤ c ∧ c < ns.length ∧ ∃ n, ns[c.toNat]? = some n ∧ n.kind = 1 := by
  unfold atomAt
  rw [Bool.and_eq_true, decide_eq_true_eq]
  constructor
  · rintro ⟨⟨h1, h2⟩, h3⟩
    cases hn : ns[c.toNat]? with
    | none => rw [hn] at h3; simp at h3
    | some n => rw [hn] at h3; exact ⟨h1, h2, n, rfl, by simpa using h3⟩
  · rintro ⟨h1, h2, n, h3, h4⟩
    rw [h3]; exact ⟨⟨h1, h2⟩, by simpa using h4⟩
/-- An atomic one lies on the ways up of atomic ones only if it is one of them. -/
theorem atom_chains {ns : List Nd} (T : Tree ns) {l : List Int} {c : Int} (hl : ∀ x ∈ l, atomAt ns x = true) (hc : atomAt ns c = true) : c ∈ chainsN ns l ↔ c ∈ l := by
  rw [mem_chains]
  obtain ⟨c0, c1, n, hn, hk⟩ := atomAt_iff.1 hc
  constructor
  · rintro ⟨x, hx, hm⟩
    have := atomAt_iff.1 (hl x hx)
    rcases (chain_mem T this.2.1 hm).2.1 with rfl | ⟨m, hm, hk2⟩
    · exact hx
    · rw [hn] at hm; cases hm; omega
  · intro h
    exact ⟨c, h, by rw [chain_cons T c0 hn]; exact List.mem_cons_self⟩
end Go.VM
