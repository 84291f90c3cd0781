/- Functions of the program, told by the machine of values, and what they answer: part 2. -/
import Derived.Test.YtblabbcmokldiaaCe1
import Derived.Test.YtblabbcmokldiaaV4
open Go Go.VM
set_option linter.unusedVariables false
set_option maxRecDepth 100000
set_option maxHeartbeats 4000000
namespace Go.Proofs.Ytblabbcmokldiaa.Vm
/-! ### cotillion/cotillionref37.Chart: function 59 -/
def P59_0h : Pat := { tmps := unds [] 6 (unds [.stat (.one (.ptr 7 0) .pt), .stat (.one (.ptr 18 0) .pt), .stat (.one (.ptr 9 0) .pt), .var (.int .i64) .pr] 133 []), boxes := nons [some [.var (.sl 1) .ro true, .var (.int .i64) .pr false]] 6 (nons [some [.var .str .pr false, .var (.int .i64) .pr false, .var (.int .i64) .pr false, .var (.sl 3) (.own true) false, .var (.sl 3) (.own true) false, .var (.sl 3) (.own true) false, .var (.sl 7) (.own true) false, .var (.int .i64) .pr false], none, some [.var .str .pr false, .var (.int .i64) .pr false, .var (.int .i64) .pr false, .var (.sl 3) .ro false, .var (.sl 3) .ro false, .var (.sl 3) .ro false, .var (.sl 7) (.own true) false, .var (.int .i64) .pr false]] 8 (nons [some [.stat ⟨(.ptr 0 0), .pt, 0, false⟩, .var (.sl 1) .ro false, .var (.sl 1) .ro false, .var (.sl 1) .ro false, .var (.sl 1) (.own true) false, .var (.int .i64) .pr false, .var (.sl 1) (.own true) false]] 125 [])) }
def P59_0x : Pat := { tmps := unds [] 6 (unds [.stat (.one (.ptr 7 0) .pt), .stat (.one (.ptr 18 0) .pt), .stat (.one (.ptr 9 0) .pt)] 134 []), boxes := nons [some [.var (.sl 1) .ro true, .var (.int .i64) .pr false]] 6 (nons [some [.var .str .pr false, .var (.int .i64) .pr false, .var (.int .i64) .pr false, .var (.sl 3) (.own true) false, .var (.sl 3) (.own true) false, .var (.sl 3) (.own true) false, .var (.sl 7) (.own true) false, .var (.int .i64) .pr false], none, some [.var .str .pr false, .var (.int .i64) .pr false, .var (.int .i64) .pr false, .var (.sl 3) .ro false, .var (.sl 3) .ro false, .var (.sl 3) .ro false, .var (.sl 7) (.own true) false, .var (.int .i64) .pr false]] 8 (nons [some [.stat ⟨(.ptr 0 0), .pt, 0, false⟩, .var (.sl 1) .ro false, .var (.sl 1) .ro false, .var (.sl 1) .ro false, .var (.sl 1) (.own true) false, .var (.int .i64) .pr false, .var (.sl 1) (.own true) false]] 125 [])) }
def b59_0 {R : Type} (G : ORC R) (k : Nat) (X : Int → List V → Int → ByteArray → Int → Int → List V → List V → List V → List V → Int → ByteArray → Int → Int → List V → List V → List V → List V → Int → List V → List V → List V → List V → Int → List V → Option R) (Ko : List V → Int → ByteArray → Int → Int → List V → List V → List V → List V → Int → ByteArray → Int → Int → List V → List V → List V → List V → Int → List V → List V → List V → List V → Int → List V → Option R) (xi57 : Int) (xl58 : List V) (xi59 : Int) (xs60 : ByteArray) (xi61 xi62 : Int) (xl63 xl64 : List V) (xl65 xl66 : List V) (xi67 : Int) (xs68 : ByteArray) (xi69 xi70 : Int) (xl71 xl72 : List V) (xl73 xl74 : List V) (xi75 : Int) (xl76 xl77 : List V) (xl78 xl79 : List V) (xi80 : Int) (xl81 : List V) : Option R :=
  (bif (decide (xi57 > 0)) then (bif (decide (xi80 > 0)) then (G 91 [(.int .i64 2), (.bool false), (.sl 1 xl76), (.sl 1 xl77), (.sl 1 xl78), (.sl 1 xl79), (.int .i64 xi80), (.sl 1 xl81), (.sl 1 xl58), (.int .i64 xi59)] fun o82 => (uA o82 fun l84 r83 => (uI .i64 l84 fun n86 r85 => (uS r85 fun s88 r87 => (uL 8 r87 fun l90 r89 => (uL 8 r89 fun l92 r91 => (uL 5 r91 fun l94 r93 => (uL 7 r93 fun l96 r95 => (uI .i64 r95 fun n98 r97 => (unNil r97 (uI .i64 r83 fun n100 r99 => (uL 1 r99 fun l102 r101 => (uI .i64 r101 fun n104 r103 => (unNil r103 (bif (decide (List.length xl74 + 1 ≤ 1073741824)) then (X (IntKind.i64.wrap (xi57 - 1)) xl58 n104 xs60 xi61 xi62 xl63 xl64 xl65 xl66 xi67 xs68 xi69 xi70 xl71 xl72 xl73 (xl74 ++ [(.agg [(.int .i64 n86), (.str s88), (.sl 8 l90), (.sl 8 l92), (.sl 5 l94), (.sl 7 l96), (.int .i64 n98)])]) xi75 xl76 xl77 xl78 xl79 n100 l102) else none))))))))))))))) else (bif (((List.length xl74 : Nat) : Int) == 0) then (G 91 [(.int .i64 2), (.bool false), (.sl 1 xl76), (.sl 1 xl77), (.sl 1 xl78), (.sl 1 xl79), (.int .i64 xi80), (.sl 1 xl81), (.sl 1 xl58), (.int .i64 xi59)] fun o105 => (uA o105 fun l107 r106 => (uI .i64 l107 fun n109 r108 => (uS r108 fun s111 r110 => (uL 8 r110 fun l113 r112 => (uL 8 r112 fun l115 r114 => (uL 5 r114 fun l117 r116 => (uL 7 r116 fun l119 r118 => (uI .i64 r118 fun n121 r120 => (unNil r120 (uI .i64 r106 fun n123 r122 => (uL 1 r122 fun l125 r124 => (uI .i64 r124 fun n127 r126 => (unNil r126 (bif (decide (List.length xl74 + 1 ≤ 1073741824)) then (X (IntKind.i64.wrap (xi57 - 1)) xl58 n127 xs60 xi61 xi62 xl63 xl64 xl65 xl66 xi67 xs68 xi69 xi70 xl71 xl72 xl73 (xl74 ++ [(.agg [(.int .i64 n109), (.str s111), (.sl 8 l113), (.sl 8 l115), (.sl 5 l117), (.sl 7 l119), (.int .i64 n121)])]) xi75 xl76 xl77 xl78 xl79 n123 l125) else none))))))))))))))) else (Ko xl58 xi59 xs60 xi61 xi62 xl63 xl64 xl65 xl66 xi67 xs68 xi69 xi70 xl71 xl72 xl73 xl74 xi75 xl76 xl77 xl78 xl79 xi80 xl81))) else (Ko xl58 xi59 xs60 xi61 xi62 xl63 xl64 xl65 xl66 xi67 xs68 xi69 xi70 xl71 xl72 xl73 xl74 xi75 xl76 xl77 xl78 xl79 xi80 xl81))
def l59_0g {R : Type} (G : ORC R) (k : Nat) (Ko : List V → Int → ByteArray → Int → Int → List V → List V → List V → List V → Int → ByteArray → Int → Int → List V → List V → List V → List V → Int → List V → List V → List V → List V → Int → List V → Option R) : Nat → Int → List V → Int → ByteArray → Int → Int → List V → List V → List V → List V → Int → ByteArray → Int → Int → List V → List V → List V → List V → Int → List V → List V → List V → List V → Int → List V → Option R
  | 0 => fun _ _ _ _ _ _ _ _ _ _ _ _ _ _ _ _ _ _ _ _ _ _ _ _ _ => none
  | j + 1 => b59_0 G k (l59_0g G k Ko j) Ko
def l59_0 {R : Type} (G : ORC R) (k : Nat) (xi57 : Int) (xl58 : List V) (xi59 : Int) (xs60 : ByteArray) (xi61 xi62 : Int) (xl63 xl64 : List V) (xl65 xl66 : List V) (xi67 : Int) (xs68 : ByteArray) (xi69 xi70 : Int) (xl71 xl72 : List V) (xl73 xl74 : List V) (xi75 : Int) (xl76 xl77 : List V) (xl78 xl79 : List V) (xi80 : Int) (xl81 : List V) (Ko : List V → Int → ByteArray → Int → Int → List V → List V → List V → List V → Int → ByteArray → Int → Int → List V → List V → List V → List V → Int → List V → List V → List V → List V → Int → List V → Option R) : Option R := l59_0g G k Ko k xi57 xl58 xi59 xs60 xi61 xi62 xl63 xl64 xl65 xl66 xi67 xs68 xi69 xi70 xl71 xl72 xl73 xl74 xi75 xl76 xl77 xl78 xl79 xi80 xl81
def P59_2h : Pat := { tmps := unds [] 6 (unds [.stat (.one (.ptr 7 0) .pt), .stat (.one (.ptr 18 0) .pt), .stat (.one (.ptr 9 0) .pt), .undef, .var (.int .i64) .pr] 132 []), boxes := nons [some [.var (.sl 1) .ro true, .var (.int .i64) .pr false]] 6 (nons [some [.var .str .pr false, .var (.int .i64) .pr false, .var (.int .i64) .pr false, .var (.sl 3) (.own true) false, .var (.sl 3) (.own true) false, .var (.sl 3) (.own true) false, .var (.sl 7) (.own true) false, .var (.int .i64) .pr false], none, some [.var .str .pr false, .var (.int .i64) .pr false, .var (.int .i64) .pr false, .var (.sl 3) .ro false, .var (.sl 3) .ro false, .var (.sl 3) .ro false, .var (.sl 7) (.own true) false, .var (.int .i64) .pr false]] 8 (nons [some [.stat ⟨(.ptr 0 0), .pt, 0, false⟩, .var (.sl 1) .ro false, .var (.sl 1) .ro false, .var (.sl 1) .ro false, .var (.sl 1) (.own true) false, .var (.int .i64) .pr false, .var (.sl 1) (.own true) false]] 125 [])) }
def P59_2x : Pat := { tmps := unds [] 6 (unds [.stat (.one (.ptr 7 0) .pt), .stat (.one (.ptr 18 0) .pt), .stat (.one (.ptr 9 0) .pt)] 134 []), boxes := nons [some [.var (.sl 1) .ro true, .var (.int .i64) .pr false]] 6 (nons [some [.var .str .pr false, .var (.int .i64) .pr false, .var (.int .i64) .pr false, .var (.sl 3) (.own true) false, .var (.sl 3) (.own true) false, .var (.sl 3) (.own true) false, .var (.sl 7) (.own true) false, .var (.int .i64) .pr false], none, some [.var .str .pr false, .var (.int .i64) .pr false, .var (.int .i64) .pr false, .var (.sl 3) .ro false, .var (.sl 3) .ro false, .var (.sl 3) .ro false, .var (.sl 7) (.own true) false, .var (.int .i64) .pr false]] 8 (nons [some [.stat ⟨(.ptr 0 0), .pt, 0, false⟩, .var (.sl 1) .ro false, .var (.sl 1) .ro false, .var (.sl 1) .ro false, .var (.sl 1) (.own true) false, .var (.int .i64) .pr false, .var (.sl 1) (.own true) false]] 125 [])) }
def b59_2 {R : Type} (G : ORC R) (k : Nat) (X : Int → List V → Int → ByteArray → Int → Int → List V → List V → List V → List V → Int → ByteArray → Int → Int → List V → List V → List V → List V → Int → List V → List V → List V → List V → Int → List V → Option R) (Ko : List V → Int → ByteArray → Int → Int → List V → List V → List V → List V → Int → ByteArray → Int → Int → List V → List V → List V → List V → Int → List V → List V → List V → List V → Int → List V → Option R) (xi152 : Int) (xl153 : List V) (xi154 : Int) (xs155 : ByteArray) (xi156 xi157 : Int) (xl158 xl159 : List V) (xl160 xl161 : List V) (xi162 : Int) (xs163 : ByteArray) (xi164 xi165 : Int) (xl166 xl167 : List V) (xl168 xl169 : List V) (xi170 : Int) (xl171 xl172 : List V) (xl173 xl174 : List V) (xi175 : Int) (xl176 : List V) : Option R :=
  (bif (decide (xi152 < ((List.length xl176 : Nat) : Int))) then (bif ((decide (0 ≤ xi152)) && (decide (xi152 < ((List.length xl176 : Nat) : Int)))) then (nthK xl176 (Int.toNat xi152) fun e177 => (V.asStr e177 fun s178 => (bif (decide (0 < ((ByteArray.size s178 : Nat) : Int))) then (bif (((List.getD s178.data.toList 0 0).toNat : Int) == 115) then (bif ((decide (0 ≤ xi152)) && (decide (xi152 < ((List.length xl176 : Nat) : Int)))) then (nthK xl176 (Int.toNat xi152) fun e179 => (V.asStr e179 fun s180 => (bif (decide (List.length xl174 + 1 ≤ 1073741824)) then (X (IntKind.i64.wrap (xi152 + 1)) xl153 xi154 xs155 xi156 xi157 xl158 xl159 xl160 xl161 xi162 xs163 xi164 xi165 xl166 xl167 xl168 xl169 xi170 xl171 xl172 xl173 (xl174 ++ [(.str s180)]) xi175 xl176) else none))) else none) else (X (IntKind.i64.wrap (xi152 + 1)) xl153 xi154 xs155 xi156 xi157 xl158 xl159 xl160 xl161 xi162 xs163 xi164 xi165 xl166 xl167 xl168 xl169 xi170 xl171 xl172 xl173 xl174 xi175 xl176)) else none))) else none) else (Ko xl153 xi154 xs155 xi156 xi157 xl158 xl159 xl160 xl161 xi162 xs163 xi164 xi165 xl166 xl167 xl168 xl169 xi170 xl171 xl172 xl173 xl174 xi175 xl176))
def l59_2g {R : Type} (G : ORC R) (k : Nat) (Ko : List V → Int → ByteArray → Int → Int → List V → List V → List V → List V → Int → ByteArray → Int → Int → List V → List V → List V → List V → Int → List V → List V → List V → List V → Int → List V → Option R) : Nat → Int → List V → Int → ByteArray → Int → Int → List V → List V → List V → List V → Int → ByteArray → Int → Int → List V → List V → List V → List V → Int → List V → List V → List V → List V → Int → List V → Option R
  | 0 => fun _ _ _ _ _ _ _ _ _ _ _ _ _ _ _ _ _ _ _ _ _ _ _ _ _ => none
  | j + 1 => b59_2 G k (l59_2g G k Ko j) Ko
def l59_2 {R : Type} (G : ORC R) (k : Nat) (xi152 : Int) (xl153 : List V) (xi154 : Int) (xs155 : ByteArray) (xi156 xi157 : Int) (xl158 xl159 : List V) (xl160 xl161 : List V) (xi162 : Int) (xs163 : ByteArray) (xi164 xi165 : Int) (xl166 xl167 : List V) (xl168 xl169 : List V) (xi170 : Int) (xl171 xl172 : List V) (xl173 xl174 : List V) (xi175 : Int) (xl176 : List V) (Ko : List V → Int → ByteArray → Int → Int → List V → List V → List V → List V → Int → ByteArray → Int → Int → List V → List V → List V → List V → Int → List V → List V → List V → List V → Int → List V → Option R) : Option R := l59_2g G k Ko k xi152 xl153 xi154 xs155 xi156 xi157 xl158 xl159 xl160 xl161 xi162 xs163 xi164 xi165 xl166 xl167 xl168 xl169 xi170 xl171 xl172 xl173 xl174 xi175 xl176
def P59_4h : Pat := { tmps := unds [] 6 (unds [.stat (.one (.ptr 7 0) .pt), .stat (.one (.ptr 18 0) .pt), .stat (.one (.ptr 9 0) .pt), .undef, .undef, .var (.int .i64) .pr] 131 []), boxes := nons [some [.var (.sl 1) .ro true, .var (.int .i64) .pr false]] 6 (nons [some [.var .str .pr false, .var (.int .i64) .pr false, .var (.int .i64) .pr false, .var (.sl 3) (.own true) false, .var (.sl 3) (.own true) false, .var (.sl 3) (.own true) false, .var (.sl 7) (.own true) false, .var (.int .i64) .pr false], none, some [.var .str .pr false, .var (.int .i64) .pr false, .var (.int .i64) .pr false, .var (.sl 3) .ro false, .var (.sl 3) .ro false, .var (.sl 3) .ro false, .var (.sl 7) (.own true) false, .var (.int .i64) .pr false]] 8 (nons [some [.stat ⟨(.ptr 0 0), .pt, 0, false⟩, .var (.sl 1) .ro false, .var (.sl 1) .ro false, .var (.sl 1) .ro false, .var (.sl 1) (.own true) false, .var (.int .i64) .pr false, .var (.sl 1) (.own true) false]] 125 [])) }
def P59_4x : Pat := { tmps := unds [] 6 (unds [.stat (.one (.ptr 7 0) .pt), .undef, .stat (.one (.ptr 9 0) .pt)] 134 []), boxes := nons [some [.var (.sl 1) .ro true, .var (.int .i64) .pr false]] 6 (nons [some [.var .str .pr false, .var (.int .i64) .pr false, .var (.int .i64) .pr false, .var (.sl 3) (.own true) false, .var (.sl 3) (.own true) false, .var (.sl 3) (.own true) false, .var (.sl 7) (.own true) false, .var (.int .i64) .pr false], none, some [.var .str .pr false, .var (.int .i64) .pr false, .var (.int .i64) .pr false, .var (.sl 3) .ro false, .var (.sl 3) .ro false, .var (.sl 3) .ro false, .var (.sl 7) (.own true) false, .var (.int .i64) .pr false]] 134 []) }
def b59_4 {R : Type} (G : ORC R) (k : Nat) (X : Int → List V → Int → ByteArray → Int → Int → List V → List V → List V → List V → Int → ByteArray → Int → Int → List V → List V → List V → List V → Int → List V → List V → List V → List V → Int → List V → Option R) (Ko : List V → Int → ByteArray → Int → Int → List V → List V → List V → List V → Int → ByteArray → Int → Int → List V → List V → List V → List V → Int → Option R) (xi205 : Int) (xl206 : List V) (xi207 : Int) (xs208 : ByteArray) (xi209 xi210 : Int) (xl211 xl212 : List V) (xl213 xl214 : List V) (xi215 : Int) (xs216 : ByteArray) (xi217 xi218 : Int) (xl219 xl220 : List V) (xl221 xl222 : List V) (xi223 : Int) (xl224 xl225 : List V) (xl226 xl227 : List V) (xi228 : Int) (xl229 : List V) : Option R :=
  (bif (decide (xi205 < ((List.length xl222 : Nat) : Int))) then (bif ((decide (0 ≤ xi205)) && (decide (xi205 < ((List.length xl222 : Nat) : Int)))) then (nthK xl222 (Int.toNat xi205) fun e230 => (V.asAgg e230 fun l231 => (G 92 [(.agg l231), (.sl 1 xl224), (.sl 1 xl225), (.sl 1 xl226), (.sl 1 xl227), (.int .i64 xi228), (.sl 1 xl229), (.sl 1 xl206), (.int .i64 xi207)] fun o232 => (uA o232 fun l234 r233 => (uI .i64 l234 fun n236 r235 => (uS r235 fun s238 r237 => (uL 8 r237 fun l240 r239 => (uL 8 r239 fun l242 r241 => (uL 5 r241 fun l244 r243 => (uL 7 r243 fun l246 r245 => (uI .i64 r245 fun n248 r247 => (unNil r247 (uI .i64 r233 fun n250 r249 => (uI .i64 r249 fun n252 r251 => (unNil r251 (bif ((decide (0 ≤ xi205)) && (decide (xi205 < ((List.length (List.set xl222 (Int.toNat xi205) .undef) : Nat) : Int)))) then (nthK (List.set xl222 (Int.toNat xi205) .undef) (Int.toNat xi205) fun e253 => (X (IntKind.i64.wrap (xi205 + 1)) xl206 n252 xs208 xi209 xi210 xl211 xl212 xl213 xl214 xi215 xs216 xi217 xi218 xl219 xl220 xl221 (List.set (List.set xl222 (Int.toNat xi205) .undef) (Int.toNat xi205) (.agg [(.int .i64 n236), (.str s238), (.sl 8 l240), (.sl 8 l242), (.sl 5 l244), (.sl 7 l246), (.int .i64 n248)])) xi223 xl224 xl225 xl226 xl227 n250 xl229)) else none)))))))))))))))) else none) else (Ko xl206 xi207 xs208 xi209 xi210 xl211 xl212 xl213 xl214 xi215 xs216 xi217 xi218 xl219 xl220 xl221 xl222 xi223))
def l59_4g {R : Type} (G : ORC R) (k : Nat) (Ko : List V → Int → ByteArray → Int → Int → List V → List V → List V → List V → Int → ByteArray → Int → Int → List V → List V → List V → List V → Int → Option R) : Nat → Int → List V → Int → ByteArray → Int → Int → List V → List V → List V → List V → Int → ByteArray → Int → Int → List V → List V → List V → List V → Int → List V → List V → List V → List V → Int → List V → Option R
  | 0 => fun _ _ _ _ _ _ _ _ _ _ _ _ _ _ _ _ _ _ _ _ _ _ _ _ _ => none
  | j + 1 => b59_4 G k (l59_4g G k Ko j) Ko
def l59_4 {R : Type} (G : ORC R) (k : Nat) (xi205 : Int) (xl206 : List V) (xi207 : Int) (xs208 : ByteArray) (xi209 xi210 : Int) (xl211 xl212 : List V) (xl213 xl214 : List V) (xi215 : Int) (xs216 : ByteArray) (xi217 xi218 : Int) (xl219 xl220 : List V) (xl221 xl222 : List V) (xi223 : Int) (xl224 xl225 : List V) (xl226 xl227 : List V) (xi228 : Int) (xl229 : List V) (Ko : List V → Int → ByteArray → Int → Int → List V → List V → List V → List V → Int → ByteArray → Int → Int → List V → List V → List V → List V → Int → Option R) : Option R := l59_4g G k Ko k xi205 xl206 xi207 xs208 xi209 xi210 xl211 xl212 xl213 xl214 xi215 xs216 xi217 xi218 xl219 xl220 xl221 xl222 xi223 xl224 xl225 xl226 xl227 xi228 xl229
def rd59_0 {R : Type} (G : ORC R) (k : Nat) (K : Ex → St → Option R) (j : Nat) (vs : List V) : Option R := match vs with
  | [(.int .i64 xi57), (.sl 1 xl58), (.int .i64 xi59), (.str xs60), (.int .i64 xi61), (.int .i64 xi62), (.sl 3 xl63), (.sl 3 xl64), (.sl 3 xl65), (.sl 7 xl66), (.int .i64 xi67), (.str xs68), (.int .i64 xi69), (.int .i64 xi70), (.sl 3 xl71), (.sl 3 xl72), (.sl 3 xl73), (.sl 7 xl74), (.int .i64 xi75), (.sl 1 xl76), (.sl 1 xl77), (.sl 1 xl78), (.sl 1 xl79), (.int .i64 xi80), (.sl 1 xl81)] => l59_0g G k (fun yl272 yi273 ys274 yi275 yi276 yl277 yl278 yl279 yl280 yi281 ys282 yi283 yi284 yl285 yl286 yl287 yl288 yi289 yl290 yl291 yl292 yl293 yi294 yl295 => K .normal (P59_0x.inst [(.sl 1 yl272), (.int .i64 yi273), (.str ys274), (.int .i64 yi275), (.int .i64 yi276), (.sl 3 yl277), (.sl 3 yl278), (.sl 3 yl279), (.sl 7 yl280), (.int .i64 yi281), (.str ys282), (.int .i64 yi283), (.int .i64 yi284), (.sl 3 yl285), (.sl 3 yl286), (.sl 3 yl287), (.sl 7 yl288), (.int .i64 yi289), (.sl 1 yl290), (.sl 1 yl291), (.sl 1 yl292), (.sl 1 yl293), (.int .i64 yi294), (.sl 1 yl295)])) j xi57 xl58 xi59 xs60 xi61 xi62 xl63 xl64 xl65 xl66 xi67 xs68 xi69 xi70 xl71 xl72 xl73 xl74 xi75 xl76 xl77 xl78 xl79 xi80 xl81
  | _ => none
def rd59_2 {R : Type} (G : ORC R) (k : Nat) (K : Ex → St → Option R) (j : Nat) (vs : List V) : Option R := match vs with
  | [(.int .i64 xi152), (.sl 1 xl153), (.int .i64 xi154), (.str xs155), (.int .i64 xi156), (.int .i64 xi157), (.sl 3 xl158), (.sl 3 xl159), (.sl 3 xl160), (.sl 7 xl161), (.int .i64 xi162), (.str xs163), (.int .i64 xi164), (.int .i64 xi165), (.sl 3 xl166), (.sl 3 xl167), (.sl 3 xl168), (.sl 7 xl169), (.int .i64 xi170), (.sl 1 xl171), (.sl 1 xl172), (.sl 1 xl173), (.sl 1 xl174), (.int .i64 xi175), (.sl 1 xl176)] => l59_2g G k (fun yl296 yi297 ys298 yi299 yi300 yl301 yl302 yl303 yl304 yi305 ys306 yi307 yi308 yl309 yl310 yl311 yl312 yi313 yl314 yl315 yl316 yl317 yi318 yl319 => K .normal (P59_2x.inst [(.sl 1 yl296), (.int .i64 yi297), (.str ys298), (.int .i64 yi299), (.int .i64 yi300), (.sl 3 yl301), (.sl 3 yl302), (.sl 3 yl303), (.sl 7 yl304), (.int .i64 yi305), (.str ys306), (.int .i64 yi307), (.int .i64 yi308), (.sl 3 yl309), (.sl 3 yl310), (.sl 3 yl311), (.sl 7 yl312), (.int .i64 yi313), (.sl 1 yl314), (.sl 1 yl315), (.sl 1 yl316), (.sl 1 yl317), (.int .i64 yi318), (.sl 1 yl319)])) j xi152 xl153 xi154 xs155 xi156 xi157 xl158 xl159 xl160 xl161 xi162 xs163 xi164 xi165 xl166 xl167 xl168 xl169 xi170 xl171 xl172 xl173 xl174 xi175 xl176
  | _ => none
def rd59_4 {R : Type} (G : ORC R) (k : Nat) (K : Ex → St → Option R) (j : Nat) (vs : List V) : Option R := match vs with
  | [(.int .i64 xi205), (.sl 1 xl206), (.int .i64 xi207), (.str xs208), (.int .i64 xi209), (.int .i64 xi210), (.sl 3 xl211), (.sl 3 xl212), (.sl 3 xl213), (.sl 7 xl214), (.int .i64 xi215), (.str xs216), (.int .i64 xi217), (.int .i64 xi218), (.sl 3 xl219), (.sl 3 xl220), (.sl 3 xl221), (.sl 7 xl222), (.int .i64 xi223), (.sl 1 xl224), (.sl 1 xl225), (.sl 1 xl226), (.sl 1 xl227), (.int .i64 xi228), (.sl 1 xl229)] => l59_4g G k (fun yl320 yi321 ys322 yi323 yi324 yl325 yl326 yl327 yl328 yi329 ys330 yi331 yi332 yl333 yl334 yl335 yl336 yi337 => K .normal (P59_4x.inst [(.sl 1 yl320), (.int .i64 yi321), (.str ys322), (.int .i64 yi323), (.int .i64 yi324), (.sl 3 yl325), (.sl 3 yl326), (.sl 3 yl327), (.sl 7 yl328), (.int .i64 yi329), (.str ys330), (.int .i64 yi331), (.int .i64 yi332), (.sl 3 yl333), (.sl 3 yl334), (.sl 3 yl335), (.sl 7 yl336), (.int .i64 yi337)])) j xi205 xl206 xi207 xs208 xi209 xi210 xl211 xl212 xl213 xl214 xi215 xs216 xi217 xi218 xl219 xl220 xl221 xl222 xi223 xl224 xl225 xl226 xl227 xi228 xl229
  | _ => none
def L59 {R : Type} (G : ORC R) (k : Nat) : Nat → St → (Ex → St → Option R) → Option R
  | 0, S, K => P59_0h.mat S fun vs => rd59_0 G k K k vs
  | 2, S, K => P59_2h.mat S fun vs => rd59_2 G k K k vs
  | 4, S, K => P59_4h.mat S fun vs => rd59_4 G k K k vs
  | _, _, _ => none
def f59 {R : Type} (G : ORC R) (k : Nat) (as1 : ByteArray) (ai2 : Int) (bl3 : List V) (bi4 : Int) (K : List V → Option R) : Option R :=
  (G 68 [(.int .i64 8), (.sl 1 bl3), (.int .i64 bi4)] fun o5 => (uI .i64 o5 fun n7 r6 => (uI .i64 r6 fun n9 r8 => (unNil r8 (G 68 [(.int .i64 3), (.sl 1 bl3), (.int .i64 n9)] fun o10 => (uI .i64 o10 fun n12 r11 => (uI .i64 r11 fun n14 r13 => (unNil r13 (G 88 [(.str ⟨#[118]⟩), (.int .i64 n12)] fun o15 => (uL 1 o15 fun l17 r16 => (unNil r16 (G 88 [(.str ⟨#[112]⟩), (.int .i64 ai2)] fun o18 => (uL 1 o18 fun l20 r19 => (unNil r19 (G 68 [(.int .i64 3), (.sl 1 bl3), (.int .i64 n14)] fun o21 => (uI .i64 o21 fun n23 r22 => (uI .i64 r22 fun n25 r24 => (unNil r24 (G 88 [(.str ⟨#[116]⟩), (.int .i64 n23)] fun o26 => (uL 1 o26 fun l28 r27 => (unNil r27 (G 68 [(.int .i64 5), (.sl 1 bl3), (.int .i64 n25)] fun o29 => (uI .i64 o29 fun n31 r30 => (uI .i64 r30 fun n33 r32 => (unNil r32 (G 68 [(.int .i64 4), (.sl 1 bl3), (.int .i64 n33)] fun o34 => (uI .i64 o34 fun n36 r35 => (uI .i64 r35 fun n38 r37 => (unNil r37 (bif ((decide (0 ≤ n36)) && (decide (n36 < 4))) then (nthK [(.int .i64 40), (.int .i64 12), (.int .i64 4), (.int .i64 200)] (Int.toNat n36) fun e39 => (aI .i64 e39 fun n40 => (G 89 [(.sl 1 l17), (.sl 1 bl3), (.int .i64 n38)] fun o41 => (uL 3 o41 fun l43 r42 => (uI .i64 r42 fun n45 r44 => (unNil r44 (G 90 [(.sl 1 l20)] fun o46 => (uL 3 o46 fun l48 r47 => (unNil r47 (G 90 [(.sl 1 l28)] fun o49 => (uL 3 o49 fun l51 r50 => (unNil r50 (G 68 [(.int .i64 2), (.sl 1 bl3), (.int .i64 n45)] fun o52 => (uI .i64 o52 fun n54 r53 => (uI .i64 r53 fun n56 r55 => (unNil r55 (l59_0 G k (IntKind.i64.wrap (1 + n54)) bl3 n56 ⟨#[]⟩ 0 0 [] [] [] [] 0 as1 (IntKind.i64.wrap (2 + n31)) n40 l43 l48 l51 [] 0 l17 l20 l28 [] (IntKind.i64.wrap (2 + n7)) [] (fun yl128 yi129 ys130 yi131 yi132 yl133 yl134 yl135 yl136 yi137 ys138 yi139 yi140 yl141 yl142 yl143 yl144 yi145 yl146 yl147 yl148 yl149 yi150 yl151 => (l59_2 G k 0 yl128 yi129 ys130 yi131 yi132 yl133 yl134 yl135 yl136 yi137 ys138 yi139 yi140 yl141 yl142 yl143 yl144 yi145 yl146 yl147 yl148 yl149 yi150 yl151 (fun yl181 yi182 ys183 yi184 yi185 yl186 yl187 yl188 yl189 yi190 ys191 yi192 yi193 yl194 yl195 yl196 yl197 yi198 yl199 yl200 yl201 yl202 yi203 yl204 => (l59_4 G k 0 yl181 yi182 ys183 yi184 yi185 yl186 yl187 yl188 yl189 yi190 ys191 yi192 yi193 yl194 yl195 yl196 yl197 yi198 yl199 yl200 yl201 yl202 yi203 yl204 (fun yl254 yi255 ys256 yi257 yi258 yl259 yl260 yl261 yl262 yi263 ys264 yi265 yi266 yl267 yl268 yl269 yl270 yi271 => (K [(.agg [(.str ys264), (.int .i64 yi265), (.int .i64 yi266), (.sl 3 yl267), (.sl 3 yl268), (.sl 3 yl269), (.sl 7 yl270), (.int .i64 yi271)]), (.int .i64 yi255)]))))))))))))))))))))))) else none))))))))))))))))))))))))))))))
noncomputable def D59_0 : LoopD := { id := 0, body := loopAt 0 (bodyOf Try.f59), head := P59_0h, out := P59_0x, ret := default }
theorem l59_0_is {R : Type} (G : ORC R) (k : Nat) (X : List V → Option R) (K : Ex → St → Option R) (xi57 : Int) (xl58 : List V) (xi59 : Int) (xs60 : ByteArray) (xi61 xi62 : Int) (xl63 xl64 : List V) (xl65 xl66 : List V) (xi67 : Int) (xs68 : ByteArray) (xi69 xi70 : Int) (xl71 xl72 : List V) (xl73 xl74 : List V) (xi75 : Int) (xl76 xl77 : List V) (xl78 xl79 : List V) (xi80 : Int) (xl81 : List V) :
    roundOf (TAB.env 59) G (L59 G k) D59_0 X K [(.int .i64 xi57), (.sl 1 xl58), (.int .i64 xi59), (.str xs60), (.int .i64 xi61), (.int .i64 xi62), (.sl 3 xl63), (.sl 3 xl64), (.sl 3 xl65), (.sl 7 xl66), (.int .i64 xi67), (.str xs68), (.int .i64 xi69), (.int .i64 xi70), (.sl 3 xl71), (.sl 3 xl72), (.sl 3 xl73), (.sl 7 xl74), (.int .i64 xi75), (.sl 1 xl76), (.sl 1 xl77), (.sl 1 xl78), (.sl 1 xl79), (.int .i64 xi80), (.sl 1 xl81)] = b59_0 G k (fun xi57 xl58 xi59 xs60 xi61 xi62 xl63 xl64 xl65 xl66 xi67 xs68 xi69 xi70 xl71 xl72 xl73 xl74 xi75 xl76 xl77 xl78 xl79 xi80 xl81 => X [(.int .i64 xi57), (.sl 1 xl58), (.int .i64 xi59), (.str xs60), (.int .i64 xi61), (.int .i64 xi62), (.sl 3 xl63), (.sl 3 xl64), (.sl 3 xl65), (.sl 7 xl66), (.int .i64 xi67), (.str xs68), (.int .i64 xi69), (.int .i64 xi70), (.sl 3 xl71), (.sl 3 xl72), (.sl 3 xl73), (.sl 7 xl74), (.int .i64 xi75), (.sl 1 xl76), (.sl 1 xl77), (.sl 1 xl78), (.sl 1 xl79), (.int .i64 xi80), (.sl 1 xl81)]) (fun yl272 yi273 ys274 yi275 yi276 yl277 yl278 yl279 yl280 yi281 ys282 yi283 yi284 yl285 yl286 yl287 yl288 yi289 yl290 yl291 yl292 yl293 yi294 yl295 => K .normal (P59_0x.inst [(.sl 1 yl272), (.int .i64 yi273), (.str ys274), (.int .i64 yi275), (.int .i64 yi276), (.sl 3 yl277), (.sl 3 yl278), (.sl 3 yl279), (.sl 7 yl280), (.int .i64 yi281), (.str ys282), (.int .i64 yi283), (.int .i64 yi284), (.sl 3 yl285), (.sl 3 yl286), (.sl 3 yl287), (.sl 7 yl288), (.int .i64 yi289), (.sl 1 yl290), (.sl 1 yl291), (.sl 1 yl292), (.sl 1 yl293), (.int .i64 yi294), (.sl 1 yl295)])) xi57 xl58 xi59 xs60 xi61 xi62 xl63 xl64 xl65 xl66 xi67 xs68 xi69 xi70 xl71 xl72 xl73 xl74 xi75 xl76 xl77 xl78 xl79 xi80 xl81 := by kernel_rfl
noncomputable def D59_2 : LoopD := { id := 2, body := loopAt 2 (bodyOf Try.f59), head := P59_2h, out := P59_2x, ret := default }
theorem l59_2_is {R : Type} (G : ORC R) (k : Nat) (X : List V → Option R) (K : Ex → St → Option R) (xi152 : Int) (xl153 : List V) (xi154 : Int) (xs155 : ByteArray) (xi156 xi157 : Int) (xl158 xl159 : List V) (xl160 xl161 : List V) (xi162 : Int) (xs163 : ByteArray) (xi164 xi165 : Int) (xl166 xl167 : List V) (xl168 xl169 : List V) (xi170 : Int) (xl171 xl172 : List V) (xl173 xl174 : List V) (xi175 : Int) (xl176 : List V) :
    roundOf (TAB.env 59) G (L59 G k) D59_2 X K [(.int .i64 xi152), (.sl 1 xl153), (.int .i64 xi154), (.str xs155), (.int .i64 xi156), (.int .i64 xi157), (.sl 3 xl158), (.sl 3 xl159), (.sl 3 xl160), (.sl 7 xl161), (.int .i64 xi162), (.str xs163), (.int .i64 xi164), (.int .i64 xi165), (.sl 3 xl166), (.sl 3 xl167), (.sl 3 xl168), (.sl 7 xl169), (.int .i64 xi170), (.sl 1 xl171), (.sl 1 xl172), (.sl 1 xl173), (.sl 1 xl174), (.int .i64 xi175), (.sl 1 xl176)] = b59_2 G k (fun xi152 xl153 xi154 xs155 xi156 xi157 xl158 xl159 xl160 xl161 xi162 xs163 xi164 xi165 xl166 xl167 xl168 xl169 xi170 xl171 xl172 xl173 xl174 xi175 xl176 => X [(.int .i64 xi152), (.sl 1 xl153), (.int .i64 xi154), (.str xs155), (.int .i64 xi156), (.int .i64 xi157), (.sl 3 xl158), (.sl 3 xl159), (.sl 3 xl160), (.sl 7 xl161), (.int .i64 xi162), (.str xs163), (.int .i64 xi164), (.int .i64 xi165), (.sl 3 xl166), (.sl 3 xl167), (.sl 3 xl168), (.sl 7 xl169), (.int .i64 xi170), (.sl 1 xl171), (.sl 1 xl172), (.sl 1 xl173), (.sl 1 xl174), (.int .i64 xi175), (.sl 1 xl176)]) (fun yl296 yi297 ys298 yi299 yi300 yl301 yl302 yl303 yl304 yi305 ys306 yi307 yi308 yl309 yl310 yl311 yl312 yi313 yl314 yl315 yl316 yl317 yi318 yl319 => K .normal (P59_2x.inst [(.sl 1 yl296), (.int .i64 yi297), (.str ys298), (.int .i64 yi299), (.int .i64 yi300), (.sl 3 yl301), (.sl 3 yl302), (.sl 3 yl303), (.sl 7 yl304), (.int .i64 yi305), (.str ys306), (.int .i64 yi307), (.int .i64 yi308), (.sl 3 yl309), (.sl 3 yl310), (.sl 3 yl311), (.sl 7 yl312), (.int .i64 yi313), (.sl 1 yl314), (.sl 1 yl315), (.sl 1 yl316), (.sl 1 yl317), (.int .i64 yi318), (.sl 1 yl319)])) xi152 xl153 xi154 xs155 xi156 xi157 xl158 xl159 xl160 xl161 xi162 xs163 xi164 xi165 xl166 xl167 xl168 xl169 xi170 xl171 xl172 xl173 xl174 xi175 xl176 := by kernel_rfl
noncomputable def D59_4 : LoopD := { id := 4, body := loopAt 4 (bodyOf Try.f59), head := P59_4h, out := P59_4x, ret := default }
theorem l59_4_is {R : Type} (G : ORC R) (k : Nat) (X : List V → Option R) (K : Ex → St → Option R) (xi205 : Int) (xl206 : List V) (xi207 : Int) (xs208 : ByteArray) (xi209 xi210 : Int) (xl211 xl212 : List V) (xl213 xl214 : List V) (xi215 : Int) (xs216 : ByteArray) (xi217 xi218 : Int) (xl219 xl220 : List V) (xl221 xl222 : List V) (xi223 : Int) (xl224 xl225 : List V) (xl226 xl227 : List V) (xi228 : Int) (xl229 : List V) :
    roundOf (TAB.env 59) G (L59 G k) D59_4 X K [(.int .i64 xi205), (.sl 1 xl206), (.int .i64 xi207), (.str xs208), (.int .i64 xi209), (.int .i64 xi210), (.sl 3 xl211), (.sl 3 xl212), (.sl 3 xl213), (.sl 7 xl214), (.int .i64 xi215), (.str xs216), (.int .i64 xi217), (.int .i64 xi218), (.sl 3 xl219), (.sl 3 xl220), (.sl 3 xl221), (.sl 7 xl222), (.int .i64 xi223), (.sl 1 xl224), (.sl 1 xl225), (.sl 1 xl226), (.sl 1 xl227), (.int .i64 xi228), (.sl 1 xl229)] = b59_4 G k (fun xi205 xl206 xi207 xs208 xi209 xi210 xl211 xl212 xl213 xl214 xi215 xs216 xi217 xi218 xl219 xl220 xl221 xl222 xi223 xl224 xl225 xl226 xl227 xi228 xl229 => X [(.int .i64 xi205), (.sl 1 xl206), (.int .i64 xi207), (.str xs208), (.int .i64 xi209), (.int .i64 xi210), (.sl 3 xl211), (.sl 3 xl212), (.sl 3 xl213), (.sl 7 xl214), (.int .i64 xi215), (.str xs216), (.int .i64 xi217), (.int .i64 xi218), (.sl 3 xl219), (.sl 3 xl220), (.sl 3 xl221), (.sl 7 xl222), (.int .i64 xi223), (.sl 1 xl224), (.sl 1 xl225), (.sl 1 xl226), (.sl 1 xl227), (.int .i64 xi228), (.sl 1 xl229)]) (fun yl320 yi321 ys322 yi323 yi324 yl325 yl326 yl327 yl328 yi329 ys330 yi331 yi332 yl333 yl334 yl335 yl336 yi337 => K .normal (P59_4x.inst [(.sl 1 yl320), (.int .i64 yi321), (.str ys322), (.int .i64 yi323), (.int .i64 yi324), (.sl 3 yl325), (.sl 3 yl326), (.sl 3 yl327), (.sl 7 yl328), (.int .i64 yi329), (.str ys330), (.int .i64 yi331), (.int .i64 yi332), (.sl 3 yl333), (.sl 3 yl334), (.sl 3 yl335), (.sl 7 yl336), (.int .i64 yi337)])) xi205 xl206 xi207 xs208 xi209 xi210 xl211 xl212 xl213 xl214 xi215 xs216 xi217 xi218 xl219 xl220 xl221 xl222 xi223 xl224 xl225 xl226 xl227 xi228 xl229 := by kernel_rfl
theorem f59_is {R : Type} (G : ORC R) (k : Nat) (K : List V → Option R) (as1 : ByteArray) (ai2 : Int) (bl3 : List V) (bi4 : Int) :
    callF (TAB.env 59) G (L59 G k) Try.f59 S59 [(.str as1), (.int .i64 ai2), (.sl 1 bl3), (.int .i64 bi4)] K = f59 G k as1 ai2 bl3 bi4 K := by kernel_rfl
theorem li59_0 {R : Type} (G : ORC R) (k : Nat) : LoopIs (TAB.env 59) G (L59 G k) 0 (loopAt 0 (bodyOf Try.f59)) :=
  ⟨D59_0, fun j vs K => rd59_0 G k K j vs, k, rfl, rfl, by kernel_rfl, by kernel_rfl, by kernel_rfl, (fun vs K => by unfold rd59_0; dsimp only; split <;> rfl),
    (fun j vs K r h => by
      unfold rd59_0 at h
      dsimp only at h
      split at h
      · rw [l59_0_is]; exact h
      · cases h), (fun S K r h => h)⟩
theorem li59_2 {R : Type} (G : ORC R) (k : Nat) : LoopIs (TAB.env 59) G (L59 G k) 2 (loopAt 2 (bodyOf Try.f59)) :=
  ⟨D59_2, fun j vs K => rd59_2 G k K j vs, k, rfl, rfl, by kernel_rfl, by kernel_rfl, by kernel_rfl, (fun vs K => by unfold rd59_2; dsimp only; split <;> rfl),
    (fun j vs K r h => by
      unfold rd59_2 at h
      dsimp only at h
      split at h
      · rw [l59_2_is]; exact h
      · cases h), (fun S K r h => h)⟩
theorem li59_4 {R : Type} (G : ORC R) (k : Nat) : LoopIs (TAB.env 59) G (L59 G k) 4 (loopAt 4 (bodyOf Try.f59)) :=
  ⟨D59_4, fun j vs K => rd59_4 G k K j vs, k, rfl, rfl, by kernel_rfl, by kernel_rfl, by kernel_rfl, (fun vs K => by unfold rd59_4; dsimp only; split <;> rfl),
    (fun j vs K r h => by
      unfold rd59_4 at h
      dsimp only at h
      split at h
      · rw [l59_4_is]; exact h
      · cases h), (fun S K r h => h)⟩
theorem lo59 : loopsOf (bodyOf Try.f59) = [(0, loopAt 0 (bodyOf Try.f59)), (2, loopAt 2 (bodyOf Try.f59)), (4, loopAt 4 (bodyOf Try.f59))] := by kernel_rfl
theorem la59 {R : Type} (G : ORC R) (k : Nat) : LoopsAre (TAB.env 59) G (L59 G k) (bodyOf Try.f59) :=
  loopsAre_of (by rw [lo59]; intro p hp; simp only [List.mem_cons, List.not_mem_nil, or_false] at hp; rcases hp with rfl | rfl | rfl <;> first | exact li59_0 G k | exact li59_2 G k | exact li59_4 G k)
def g59 {R : Type} (G : ORC R) (k : Nat) (args : List V) (K : List V → Option R) : Option R := match args with
  | [(.str as1), (.int .i64 ai2), (.sl 1 bl3), (.int .i64 bi4)] => f59 G k as1 ai2 bl3 bi4 K
  | _ => none
theorem s59 {R : Type} {G : ORC R} {k : Nat} (hG : Sound Try.prog TAB G) (args : List V) (K : List V → Option R) (r : R) (h : g59 G k args K = some r) : ∃ o, CallOK Try.prog TAB.env 59 args o ∧ K o = some r := by
  unfold g59 at h
  split at h
  · rw [← f59_is] at h
    exact callF_sound (f := 59) TAB_chk MO hG Try.func59 (sg := S59) (by kernel_rfl) (by kernel_rfl) (la59 G k) h
  · cases h
end Go.Proofs.Ytblabbcmokldiaa.Vm
open Go Go.VM
set_option linter.unusedVariables false
set_option maxRecDepth 100000
set_option maxHeartbeats 8000000
namespace Go.Proofs.Ytblabbcmokldiaa.Vm
section
variable {R : Type} {G : ORC R} {k : Nat}
def ChartOK (G : ORC R) : Prop := ∀ (nm : ByteArray) (np : Int) (L : List V) (i : Int) (K : List V → Option R), StrS nm → 0 ≤ np → np ≤ 100 → RowS L i →
  W (fun o => ∃ c j, o = [c, .int .i64 j] ∧ ChartS c ∧ RowS L j) K (G 59 [.str nm, .int .i64 np, .sl 1 L, .int .i64 i] K)
variable {Q : List V → Prop} {K : List V → Option R} {L a p c q1 q2 q3 q4 vars ports timers : List V} {s1 nm : ByteArray} {z1 z2 z3 z4 st fu : Int}
theorem chart_loop0 (hS : StOK 2 G) {Ko : List V → Int → ByteArray → Int → Int → List V → List V → List V → List V → Int → ByteArray → Int → Int → List V → List V → List V → List V → Int → List V → List V → List V → List V → Int → List V → Option R}
    {s : List V} {T : Int} (hT : T ≤ 20)
    (hKo : ∀ states j left all, (nmVL 3 states = all ∧ NmI all) → states.length ≤ 2 → states ≠ [] → (∀ v ∈ states, StateS 0 3 v ∧ kindV v ≤ 2) → 0 ≤ left → left + (List.length all : Int) = T → NmsS all → RowS L j → W Q K (Ko L j s1 z1 z2 q1 q2 q3 q4 z3 nm st fu vars ports timers states z4 a p c s left all)) :
    ∀ (j : Nat) (n i left : Int) (states all : List V), (nmVL 3 states = all ∧ NmI all) → n < j → 0 ≤ n → (states.length : Int) + n ≤ 2 → (states = [] → 1 ≤ left ∧ 0 < n) → 0 ≤ left → left + (List.length all : Int) = T → NmsS all → RowS L i → (∀ v ∈ states, StateS 0 3 v ∧ kindV v ≤ 2) →
      W Q K (l59_0g G k Ko j n L i s1 z1 z2 q1 q2 q3 q4 z3 nm st fu vars ports timers states z4 a p c s left all)
  | 0, n, i, left, states, all, a0, a1, a2, a3, a4, a5, a6, a7, a8, a9 => by omega
  | j + 1, n, i, left, states, all, a0, a1, a2, a3, a4, a5, a6, a7, a8, a9 => by
    show W Q K (b59_0 G k (l59_0g G k Ko j) Ko n L i s1 z1 z2 q1 q2 q3 q4 z3 nm st fu vars ports timers states z4 a p c s left all)
    unfold b59_0
    by_cases hn : n > 0
    · refine W_yes hn ?_
      by_cases hl : left > 0
      · refine W_yes hl ?_
        refine W_call (hS false a p c s all L _ left i _ (by rfl) (by omega) (by omega) a7 a0.2 a8) ?_
        rintro _ ⟨x, left', all', j', rfl, b1, b2, b3, b4, b5, b6, b7, b8, b8'⟩
        have b1' := b1
        have b9 : nmVL 3 (states ++ [x]) = all' ∧ NmI all' := ⟨by rw [nmVL_app, a0.1, b8]; simp [nmVL], b8'⟩
        obtain ⟨_, _, _, _, _, _, rfl, _⟩ := b1
        repeat (with_reducible (first | (refine W_uI ?_) | (refine W_uS ?_) | (refine W_uL ?_) | (refine W_uA ?_) | (refine W_uB ?_) | (refine W_aI ?_) | (refine W_aL ?_) | (refine W_ca3 ?_) | (refine W_ce3 ?_) | (refine W_ca4 ?_) | (refine W_ce4 ?_) | (refine W_ca5 ?_) | (refine W_ce5 ?_) | (refine W_ca6 ?_) | (refine W_ce6 ?_) | (refine W_ca7 ?_) | (refine W_ce7 ?_) | (refine W_ca8 ?_) | (refine W_ce8 ?_) | (refine W_unCons ?_) | (refine W_unNil ?_) | (refine W_asInt ?_) | (refine W_asStr ?_) | (refine W_asSl ?_) | (refine W_asAgg ?_) | (refine W_kd ?_) | (refine W_z ?_)))
        refine W_yes (by omega) ?_
        have e1 : IntKind.i64.wrap (n - 1) = n - 1 := wrap_id (by omega)
        rw [e1]
        exact chart_loop0 hS hT hKo j _ _ _ _ _ b9 (by omega) (by omega) (by simp; omega) (by simp) b3 (by omega) b6 b7 (mem_snoc a9 ⟨b1', b2⟩)
      · refine W_no hl ?_
        have hacc : states ≠ [] := fun h => by have := (a4 h).1; omega
        have hlen : ((states.length : Nat) : Int) ≠ 0 := fun h => hacc (List.eq_nil_of_length_eq_zero (by omega))
        refine W_eqN hlen ?_
        exact hKo states i left all a0 (by omega) hacc a9 a5 a6 a7 a8
    · exact W_no hn (hKo states i left all a0 (by omega) (fun h => by have := (a4 h).2; omega) a9 a5 a6 a7 a8)
theorem chart_loop2 {Ko : List V → Int → ByteArray → Int → Int → List V → List V → List V → List V → Int → ByteArray → Int → Int → List V → List V → List V → List V → Int → List V → List V → List V → List V → Int → List V → Option R}
    {states all : List V} {at_ left : Int} (hall : NmsS all) (hlen : all.length ≤ 20)
    (hKo : ∀ s, StrsS 20 s → W Q K (Ko L at_ s1 z1 z2 q1 q2 q3 q4 z3 nm st fu vars ports timers states z4 a p c s left all)) :
    ∀ (j : Nat) (i : Int) (s : List V), (all.length : Int) - i < j → 0 ≤ i → i ≤ all.length → StrsS i.toNat s →
      W Q K (l59_2g G k Ko j i L at_ s1 z1 z2 q1 q2 q3 q4 z3 nm st fu vars ports timers states z4 a p c s left all)
  | 0, i, s, a1, a2, a3, a4 => by omega
  | j + 1, i, s, a1, a2, a3, a4 => by
    show W Q K (b59_2 G k (l59_2g G k Ko j) Ko i L at_ s1 z1 z2 q1 q2 q3 q4 z3 nm st fu vars ports timers states z4 a p c s left all)
    unfold b59_2
    have hs := a4.1
    refine W_dec (fun h => ?_) (fun h => hKo s ⟨by omega, a4.2⟩)
    have e1 : IntKind.i64.wrap (i + 1) = i + 1 := wrap_id (by omega)
    rw [e1]
    refine W_and (W_yes a2 (W_yes h ?_))
    refine W_nth (by omega) (fun v hv hm => ?_)
    obtain ⟨t, rfl, t1, t2⟩ := hall v hm
    refine W_asStr (W_yes (by omega) ?_)
    refine W_beqI (fun _ => ?_) (fun _ => ?_)
    · refine W_and (W_yes a2 (W_yes h ?_))
      refine W_nth (by omega) (fun w hw _ => ?_)
      rw [hv] at hw; cases hw
      refine W_asStr (W_yes (by omega) ?_)
      exact chart_loop2 hall hlen hKo j (i + 1) _ (by omega) (by omega) (by omega) (by rw [show (i + 1).toNat = i.toNat + 1 by omega]; exact strs_snoc a4 t1)
    · exact chart_loop2 hall hlen hKo j (i + 1) _ (by omega) (by omega) (by omega) ⟨by omega, a4.2⟩
theorem chart_loop4 (hF : FillOK 3 G) {Ko : List V → Int → ByteArray → Int → Int → List V → List V → List V → List V → Int → ByteArray → Int → Int → List V → List V → List V → List V → Int → Option R}
    {s all : List V} {left : Int} (ha : StrsS 100 a) (hp : StrsS 100 p) (hc : StrsS 100 c) (hs : StrsS 100 s) (hall : NmsS all) (hlen : all.length ≤ 20) {m : Nat} {M : List V}
    (hKo : ∀ states j, states.length = m → nmVL 3 states = M → (∀ v ∈ states, StateS 2 3 v ∧ kindV v ≤ 2) → RowS L j → W Q K (Ko L j s1 z1 z2 q1 q2 q3 q4 z3 nm st fu vars ports timers states z4)) :
    ∀ (B A : List V) (j : Nat) (i : Int), B.length < j → A.length + B.length ≤ 4 → (∀ v ∈ A, StateS 2 3 v ∧ kindV v ≤ 2) → (∀ v ∈ B, StateS 0 3 v ∧ kindV v ≤ 2) → A.length + B.length = m → nmVL 3 (A ++ B) = M → RowS L i →
      W Q K (l59_4g G k Ko j (A.length : Int) L i s1 z1 z2 q1 q2 q3 q4 z3 nm st fu vars ports timers (A ++ B) z4 a p c s left all)
  | B, A, 0, i, a1, a2, a3, a4, a5, aM, a6 => by omega
  | [], A, j + 1, i, a1, a2, a3, a4, a5, aM, a6 => by
    show W Q K (b59_4 G k (l59_4g G k Ko j) Ko (A.length : Int) L i s1 z1 z2 q1 q2 q3 q4 z3 nm st fu vars ports timers (A ++ []) z4 a p c s left all)
    unfold b59_4
    refine W_no (by simp) ?_
    rw [List.append_nil] at aM ⊢
    exact hKo A i (by simpa using a5) aM a3 a6
  | b :: B, A, j + 1, i, a1, a2, a3, a4, a5, aM, a6 => by
    show W Q K (b59_4 G k (l59_4g G k Ko j) Ko (A.length : Int) L i s1 z1 z2 q1 q2 q3 q4 z3 nm st fu vars ports timers (A ++ b :: B) z4 a p c s left all)
    unfold b59_4
    simp only [List.length_cons] at a1 a2 a5
    have hlt : (A.length : Int) < (((A ++ b :: B).length : Nat) : Int) := by simp; omega
    refine W_yes hlt (W_and (W_yes (by omega) (W_yes hlt ?_)))
    refine W_nth (by omega) (fun v hv _ => ?_)
    have hvb : v = b := by simp at hv; exact hv.symm
    subst hvb
    have hb := a4 v List.mem_cons_self
    have hbk := hb
    obtain ⟨⟨_, _, _, _, _, _, rfl, _⟩, _⟩ := hb
    refine W_asAgg ?_
    refine W_call (hF _ a p c s all L left i _ hbk.1 ha hp hc hs hall hlen a6) ?_
    rintro _ ⟨y, j', rfl, b1, b2, b3, b4⟩
    have b1' := b1
    have b5 : nmVL 3 ((A ++ [y]) ++ B) = M := by rw [← aM]; simp only [nmVL, List.flatMap_append, List.flatMap_cons, List.flatMap_nil, List.append_nil, List.append_assoc]; rw [b4]
    obtain ⟨_, _, _, _, _, _, rfl, _⟩ := b1
    repeat (with_reducible (first | (refine W_uI ?_) | (refine W_uS ?_) | (refine W_uL ?_) | (refine W_uA ?_) | (refine W_uB ?_) | (refine W_aI ?_) | (refine W_aL ?_) | (refine W_ca3 ?_) | (refine W_ce3 ?_) | (refine W_ca4 ?_) | (refine W_ce4 ?_) | (refine W_ca5 ?_) | (refine W_ce5 ?_) | (refine W_ca6 ?_) | (refine W_ce6 ?_) | (refine W_ca7 ?_) | (refine W_ce7 ?_) | (refine W_ca8 ?_) | (refine W_ce8 ?_) | (refine W_unCons ?_) | (refine W_unNil ?_) | (refine W_asInt ?_) | (refine W_asStr ?_) | (refine W_asSl ?_) | (refine W_asAgg ?_) | (refine W_kd ?_) | (refine W_z ?_)))
    rw [Int.toNat_natCast, set2]
    refine W_and (W_yes (by omega) (W_yes (by rw [List.length_set]; exact hlt) ?_))
    refine W_nth (by rw [List.length_set]; omega) (fun v _ _ => ?_)
    rw [wrap_id (n := (A.length : Int) + 1) (by omega)]
    have e := chart_loop4 hF (left := left) ha hp hc hs hall hlen hKo B (A ++ [_]) j j' (by omega) (by simp; omega) (mem_snoc a3 ⟨b1', by rw [b2]; exact hbk.2⟩) (fun t ht => a4 t (List.mem_cons_of_mem _ ht)) (by simp; omega) b5 b3
    simp only [List.append_assoc, List.singleton_append, List.length_append, List.length_cons, List.length_nil, Nat.zero_add, Int.natCast_add, Int.natCast_one] at e
    exact e
theorem sz1 (c : UInt8) : (⟨#[c]⟩ : ByteArray).size ≤ 10 := by show (1 : Nat) ≤ 10; omega
theorem chart_ok (hk : 1000 ≤ k) (hN : NextS G) (hNm : NamesS G) (hNd : NumdS G) (hPl : PlainS G) (hS : StOK 2 G) (hF : FillOK 3 G) : ChartOK (fun _ args (K : List V → Option R) => g59 G k args K) := by
  intro nm np L i K hnm h1 h2 hr
  show W _ K (f59 G k nm np L i K)
  unfold f59
  unfold NextS at hN; unfold NamesS at hNm; unfold NumdS at hNd; unfold PlainS at hPl
  refine W_call (hN _ _ _ _ (by omega) (by omega) hr) ?_
  rintro _ ⟨x1, i1, rfl, x11, x12, r1⟩
  refine W_uI (W_uI (W_unNil ?_))
  refine W_call (hN _ _ _ _ (by omega) (by omega) r1) ?_
  rintro _ ⟨x2, i2, rfl, x21, x22, r2⟩
  refine W_uI (W_uI (W_unNil ?_))
  refine W_call (hNm _ _ _ (sz1 _) x21 (by omega)) ?_
  rintro _ ⟨l1, rfl, hl1⟩
  refine W_uL (W_unNil ?_)
  refine W_call (hNm _ _ _ (sz1 _) h1 h2) ?_
  rintro _ ⟨l2, rfl, hl2⟩
  refine W_uL (W_unNil ?_)
  refine W_call (hN _ _ _ _ (by omega) (by omega) r2) ?_
  rintro _ ⟨x3, i3, rfl, x31, x32, r3⟩
  refine W_uI (W_uI (W_unNil ?_))
  refine W_call (hNm _ _ _ (sz1 _) x31 (by omega)) ?_
  rintro _ ⟨l3, rfl, hl3⟩
  refine W_uL (W_unNil ?_)
  refine W_call (hN _ _ _ _ (by omega) (by omega) r3) ?_
  rintro _ ⟨x4, i4, rfl, x41, x42, r4⟩
  refine W_uI (W_uI (W_unNil ?_))
  refine W_call (hN _ _ _ _ (by omega) (by omega) r4) ?_
  rintro _ ⟨x5, i5, rfl, x51, x52, r5⟩
  refine W_uI (W_uI (W_unNil ?_))
  refine W_and (W_yes (by omega) (W_yes (by omega) ?_))
  refine W_nth (by simp; omega) (fun v _ hv => ?_)
  have hv2 : ∃ fu, v = .int .i64 fu ∧ 4 ≤ fu ∧ fu ≤ 200 := by
    simp only [List.mem_cons, List.not_mem_nil, or_false] at hv
    rcases hv with rfl | rfl | rfl | rfl <;> exact ⟨_, rfl, by omega, by omega⟩
  obtain ⟨fu, rfl, fu1, fu2⟩ := hv2
  refine W_aI ?_
  refine W_call (hNd _ _ _ _ hl1 r5) ?_
  rintro _ ⟨v1, i6, rfl, hv1, r6⟩
  refine W_uL (W_uI (W_unNil ?_))
  refine W_call (hPl _ _ hl2) ?_
  rintro _ ⟨v2, rfl, hv2⟩
  refine W_uL (W_unNil ?_)
  refine W_call (hPl _ _ hl3) ?_
  rintro _ ⟨v3, rfl, hv3⟩
  refine W_uL (W_unNil ?_)
  refine W_call (hN _ _ _ _ (by omega) (by omega) r6) ?_
  rintro _ ⟨x7, i7, rfl, x71, x72, r7⟩
  refine W_uI (W_uI (W_unNil ?_))
  have e1 : IntKind.i64.wrap (1 + x7) = 1 + x7 := wrap_id (by omega)
  have e2 : IntKind.i64.wrap (2 + x1) = 2 + x1 := wrap_id (by omega)
  have e3 : IntKind.i64.wrap (2 + x4) = 2 + x4 := wrap_id (by omega)
  rw [e1, e2, e3]
  unfold l59_0
  refine chart_loop0 (T := 2 + x1) hS (by omega) ?_ k _ _ _ _ _ ⟨rfl, fun i v h => by simp at h⟩ (by omega) (by omega) (by simp; omega) (fun _ => ⟨by omega, by omega⟩) (by omega) (by simp) (by intro v hv; simp at hv) r7 (by simp)
  intro states j left all c0 c1 c2 c3 c4 c5 c6 c7
  unfold l59_2
  refine chart_loop2 c6 (by omega) ?_ k 0 [] (by omega) (by omega) (by omega) ⟨by simp, by simp⟩
  intro s hs
  unfold l59_4
  refine chart_loop4 (A := []) (m := states.length) (M := nmVL 3 states) hF hl1 hl2 hl3 ⟨by have := hs.1; omega, hs.2⟩ c6 (by omega) ?_ states k j (by omega) (by simp; omega) (by simp) c3 (by simp) rfl c7
  intro states' j' d1 dM d2 d3
  exact W_ret ⟨_, _, rfl, ⟨nm, _, fu, v1, v2, v3, states', rfl, hnm, by omega, by omega, fu1, fu2, hv1, hv2, hv3, by omega, fun h => c2 (List.eq_nil_of_length_eq_zero (by rw [← d1, h]; rfl)), d2, by have := nmVL_len (d := 3) (l := states'); rw [dM, c0.1] at this; omega, by rw [dM, c0.1]; exact c0.2⟩, d3⟩
end
end Go.Proofs.Ytblabbcmokldiaa.Vm
open Go Go.VM
set_option linter.unusedVariables false
set_option maxRecDepth 100000
set_option maxHeartbeats 4000000
namespace Go.Proofs.Ytblabbcmokldiaa.Vm
/-! ### cotillion/cotillionref13.kind: function 87 -/
def L87 {R : Type} (_ : ORC R) (_ : Nat) : Nat → St → (Ex → St → Option R) → Option R := fun _ _ _ => none
def f87 {R : Type} (G : ORC R) (k : Nat) (ai1 : Int) (as2 : ByteArray) (al3 al4 : List V) (al5 al6 : List V) (ai7 : Int) (K : List V → Option R) : Option R :=
  (bif (ai1 == 3) then (K [(.int .i64 4)]) else (bif (ai1 == 4) then (K [(.int .i64 5)]) else (bif (ai1 == 2) then (K [(.int .i64 3)]) else (bif (((List.length al6 : Nat) : Int) == 0) then (K [(.int .i64 1)]) else (K [(.int .i64 2)])))))
theorem f87_is {R : Type} (G : ORC R) (k : Nat) (K : List V → Option R) (ai1 : Int) (as2 : ByteArray) (al3 al4 : List V) (al5 al6 : List V) (ai7 : Int) :
    callF (TAB.env 87) G (L87 G k) Try.f87 S87 [(.agg [(.int .i64 ai1), (.str as2), (.sl 8 al3), (.sl 8 al4), (.sl 5 al5), (.sl 7 al6), (.int .i64 ai7)])] K = f87 G k ai1 as2 al3 al4 al5 al6 ai7 K := by kernel_rfl
theorem lo87 : loopsOf (bodyOf Try.f87) = [] := by kernel_rfl
theorem la87 {R : Type} (G : ORC R) (k : Nat) : LoopsAre (TAB.env 87) G (L87 G k) (bodyOf Try.f87) :=
  loopsAre_of (by rw [lo87]; intro p hp; cases hp)
def g87 {R : Type} (G : ORC R) (k : Nat) (args : List V) (K : List V → Option R) : Option R := match args with
  | [(.agg [(.int .i64 ai1), (.str as2), (.sl 8 al3), (.sl 8 al4), (.sl 5 al5), (.sl 7 al6), (.int .i64 ai7)])] => f87 G k ai1 as2 al3 al4 al5 al6 ai7 K
  | _ => none
theorem s87 {R : Type} {G : ORC R} {k : Nat} (hG : Sound Try.prog TAB G) (args : List V) (K : List V → Option R) (r : R) (h : g87 G k args K = some r) : ∃ o, CallOK Try.prog TAB.env 87 args o ∧ K o = some r := by
  unfold g87 at h
  split at h
  · rw [← f87_is] at h
    exact callF_sound (f := 87) TAB_chk MO hG Try.func87 (sg := S87) (by kernel_rfl) (by kernel_rfl) (la87 G k) h
  · cases h
end Go.Proofs.Ytblabbcmokldiaa.Vm
open Go Go.VM
set_option linter.unusedVariables false
set_option maxRecDepth 100000
set_option maxHeartbeats 4000000
namespace Go.Proofs.Ytblabbcmokldiaa.Vm
/-! ### cotillion/cotillionref13.IsState: function 66 -/
def L66 {R : Type} (_ : ORC R) (_ : Nat) : Nat → St → (Ex → St → Option R) → Option R := fun _ _ _ => none
def f66 {R : Type} (G : ORC R) (k : Nat) (ai1 ai2 : Int) (ai3 ai4 : Int) (ai5 ai6 : Int) (as7 : ByteArray) (K : List V → Option R) : Option R :=
  (K [(.bool (decide (ai1 ≤ 3)))])
theorem f66_is {R : Type} (G : ORC R) (k : Nat) (K : List V → Option R) (ai1 ai2 : Int) (ai3 ai4 : Int) (ai5 ai6 : Int) (as7 : ByteArray) :
    callF (TAB.env 66) G (L66 G k) Try.f66 S66 [(.agg [(.int .i64 ai1), (.int .i64 ai2), (.int .i64 ai3), (.int .i64 ai4), (.int .i64 ai5), (.int .i64 ai6), (.str as7)])] K = f66 G k ai1 ai2 ai3 ai4 ai5 ai6 as7 K := by kernel_rfl
theorem lo66 : loopsOf (bodyOf Try.f66) = [] := by kernel_rfl
theorem la66 {R : Type} (G : ORC R) (k : Nat) : LoopsAre (TAB.env 66) G (L66 G k) (bodyOf Try.f66) :=
  loopsAre_of (by rw [lo66]; intro p hp; cases hp)
def g66 {R : Type} (G : ORC R) (k : Nat) (args : List V) (K : List V → Option R) : Option R := match args with
  | [(.agg [(.int .i64 ai1), (.int .i64 ai2), (.int .i64 ai3), (.int .i64 ai4), (.int .i64 ai5), (.int .i64 ai6), (.str as7)])] => f66 G k ai1 ai2 ai3 ai4 ai5 ai6 as7 K
  | _ => none
theorem s66 {R : Type} {G : ORC R} {k : Nat} (hG : Sound Try.prog TAB G) (args : List V) (K : List V → Option R) (r : R) (h : g66 G k args K = some r) : ∃ o, CallOK Try.prog TAB.env 66 args o ∧ K o = some r := by
  unfold g66 at h
  split at h
  · rw [← f66_is] at h
    exact callF_sound (f := 66) TAB_chk MO hG Try.func66 (sg := S66) (by kernel_rfl) (by kernel_rfl) (la66 G k) h
  · cases h
end Go.Proofs.Ytblabbcmokldiaa.Vm
open Go Go.VM
set_option linter.unusedVariables false
set_option maxRecDepth 100000
set_option maxHeartbeats 4000000
namespace Go.Proofs.Ytblabbcmokldiaa.Vm
/-! ### cotillion/cotillionref13.put: function 58 -/
def P58_0h : Pat := { tmps := unds [.var (.sl 7) (.own true), .var (.sl 7) .ro, .var (.int .i64) .pr, .undef, .undef, .undef, .undef, .var (.int .i64) .pr] 66 [], boxes := nons [] 74 [] }
def P58_0x : Pat := { tmps := unds [.var (.sl 7) (.own true)] 73 [], boxes := nons [] 74 [] }
def b58_0 {R : Type} (G : ORC R) (k : Nat) (X : List V → List V → Int → Int → Option R) (Ko : List V → Option R) (xl4 xl5 : List V) (xi6 xi7 : Int) : Option R :=
  (bif (decide (xi7 < ((List.length xl5 : Nat) : Int))) then (bif ((decide (0 ≤ xi7)) && (decide (xi7 < ((List.length xl5 : Nat) : Int)))) then (nthK xl5 (Int.toNat xi7) fun e8 => (V.asAgg e8 fun l9 => (G 87 [(.agg l9)] fun o10 => (uI .i64 o10 fun n12 r11 => (unNil r11 (bif ((decide (0 ≤ xi7)) && (decide (xi7 < ((List.length xl5 : Nat) : Int)))) then (nthK xl5 (Int.toNat xi7) fun e13 => (ca7 e13 fun c14 c15 c16 c17 c18 c19 c20 => (V.asStr c15 fun s21 => (bif (decide (List.length xl4 + 1 ≤ 1073741824)) then (bif ((decide (0 ≤ xi6)) && (decide (xi6 < ((List.length (xl4 ++ [(.agg [(.int .i64 n12), (.int .i64 xi6), (.int .i64 0), (.int .i64 (-1)), (.int .i64 (-1)), (.int .i64 (-1)), (.str s21)])]) : Nat) : Int)))) then (nthK (xl4 ++ [(.agg [(.int .i64 n12), (.int .i64 xi6), (.int .i64 0), (.int .i64 (-1)), (.int .i64 (-1)), (.int .i64 (-1)), (.str s21)])]) (Int.toNat xi6) fun e22 => (ca7 e22 fun c23 c24 c25 c26 c27 c28 c29 => (aI .i64 c26 fun n30 => (bif (decide (n30 < 0)) then (bif ((decide (0 ≤ xi6)) && (decide (xi6 < ((List.length (xl4 ++ [(.agg [(.int .i64 n12), (.int .i64 xi6), (.int .i64 0), (.int .i64 (-1)), (.int .i64 (-1)), (.int .i64 (-1)), (.str s21)])]) : Nat) : Int)))) then (nthK (xl4 ++ [(.agg [(.int .i64 n12), (.int .i64 xi6), (.int .i64 0), (.int .i64 (-1)), (.int .i64 (-1)), (.int .i64 (-1)), (.str s21)])]) (Int.toNat xi6) fun e31 => (ca7 e31 fun c32 c33 c34 c35 c36 c37 c38 => (aI .i64 c32 fun n39 => (bif (n39 == 2) then (bif ((decide (0 ≤ ((List.length xl4 : Nat) : Int))) && (decide (((List.length xl4 : Nat) : Int) < ((List.length (xl4 ++ [(.agg [(.int .i64 n12), (.int .i64 xi6), (.int .i64 0), (.int .i64 (-1)), (.int .i64 (-1)), (.int .i64 (-1)), (.str s21)])]) : Nat) : Int)))) then (nthK (xl4 ++ [(.agg [(.int .i64 n12), (.int .i64 xi6), (.int .i64 0), (.int .i64 (-1)), (.int .i64 (-1)), (.int .i64 (-1)), (.str s21)])]) (Int.toNat ((List.length xl4 : Nat) : Int)) fun e40 => (ca7 e40 fun c41 c42 c43 c44 c45 c46 c47 => (aI .i64 c41 fun n48 => (aI .i64 c42 fun n49 => (aI .i64 c43 fun n50 => (aI .i64 c44 fun n51 => (aI .i64 c45 fun n52 => (aI .i64 c46 fun n53 => (V.asStr c47 fun s54 => (G 66 [(.agg [(.int .i64 n48), (.int .i64 n49), (.int .i64 n50), (.int .i64 n51), (.int .i64 n52), (.int .i64 n53), (.str s54)])] fun o55 => (uB o55 fun b57 r56 => (unNil r56 (bif b57 then (bif ((decide (0 ≤ xi6)) && (decide (xi6 < ((List.length (xl4 ++ [(.agg [(.int .i64 n12), (.int .i64 xi6), (.int .i64 0), (.int .i64 (-1)), (.int .i64 (-1)), (.int .i64 (-1)), (.str s21)])]) : Nat) : Int)))) then (nthK (xl4 ++ [(.agg [(.int .i64 n12), (.int .i64 xi6), (.int .i64 0), (.int .i64 (-1)), (.int .i64 (-1)), (.int .i64 (-1)), (.str s21)])]) (Int.toNat xi6) fun e58 => (ca7 e58 fun c59 c60 c61 c62 c63 c64 c65 => (bif ((decide (0 ≤ xi7)) && (decide (xi7 < ((List.length xl5 : Nat) : Int)))) then (nthK xl5 (Int.toNat xi7) fun e66 => (ca7 e66 fun c67 c68 c69 c70 c71 c72 c73 => (V.asSl c72 fun z74 l75 => (G 58 [(.sl 7 (List.set (xl4 ++ [(.agg [(.int .i64 n12), (.int .i64 xi6), (.int .i64 0), (.int .i64 (-1)), (.int .i64 (-1)), (.int .i64 (-1)), (.str s21)])]) (Int.toNat xi6) (.agg [c59, c60, c61, (.int .i64 ((List.length xl4 : Nat) : Int)), c63, c64, c65]))), (.sl z74 l75), (.int .i64 ((List.length xl4 : Nat) : Int))] fun o76 => (uL 7 o76 fun l78 r77 => (unNil r77 (bif ((decide (0 ≤ ((List.length xl4 : Nat) : Int))) && (decide (((List.length xl4 : Nat) : Int) < ((List.length l78 : Nat) : Int)))) then (nthK l78 (Int.toNat ((List.length xl4 : Nat) : Int)) fun e79 => (ca7 e79 fun c80 c81 c82 c83 c84 c85 c86 => (X (List.set l78 (Int.toNat ((List.length xl4 : Nat) : Int)) (.agg [c80, c81, (.int .i64 (IntKind.i64.wrap (((List.length l78 : Nat) : Int) - 1))), c83, c84, c85, c86])) xl5 xi6 (IntKind.i64.wrap (xi7 + 1))))) else none))))))) else none))) else none) else (bif ((decide (0 ≤ xi7)) && (decide (xi7 < ((List.length xl5 : Nat) : Int)))) then (nthK xl5 (Int.toNat xi7) fun e87 => (ca7 e87 fun c88 c89 c90 c91 c92 c93 c94 => (V.asSl c93 fun z95 l96 => (G 58 [(.sl 7 (xl4 ++ [(.agg [(.int .i64 n12), (.int .i64 xi6), (.int .i64 0), (.int .i64 (-1)), (.int .i64 (-1)), (.int .i64 (-1)), (.str s21)])])), (.sl z95 l96), (.int .i64 ((List.length xl4 : Nat) : Int))] fun o97 => (uL 7 o97 fun l99 r98 => (unNil r98 (bif ((decide (0 ≤ ((List.length xl4 : Nat) : Int))) && (decide (((List.length xl4 : Nat) : Int) < ((List.length l99 : Nat) : Int)))) then (nthK l99 (Int.toNat ((List.length xl4 : Nat) : Int)) fun e100 => (ca7 e100 fun c101 c102 c103 c104 c105 c106 c107 => (X (List.set l99 (Int.toNat ((List.length xl4 : Nat) : Int)) (.agg [c101, c102, (.int .i64 (IntKind.i64.wrap (((List.length l99 : Nat) : Int) - 1))), c104, c105, c106, c107])) xl5 xi6 (IntKind.i64.wrap (xi7 + 1))))) else none))))))) else none)))))))))))))) else none) else (bif ((decide (0 ≤ xi7)) && (decide (xi7 < ((List.length xl5 : Nat) : Int)))) then (nthK xl5 (Int.toNat xi7) fun e108 => (ca7 e108 fun c109 c110 c111 c112 c113 c114 c115 => (V.asSl c114 fun z116 l117 => (G 58 [(.sl 7 (xl4 ++ [(.agg [(.int .i64 n12), (.int .i64 xi6), (.int .i64 0), (.int .i64 (-1)), (.int .i64 (-1)), (.int .i64 (-1)), (.str s21)])])), (.sl z116 l117), (.int .i64 ((List.length xl4 : Nat) : Int))] fun o118 => (uL 7 o118 fun l120 r119 => (unNil r119 (bif ((decide (0 ≤ ((List.length xl4 : Nat) : Int))) && (decide (((List.length xl4 : Nat) : Int) < ((List.length l120 : Nat) : Int)))) then (nthK l120 (Int.toNat ((List.length xl4 : Nat) : Int)) fun e121 => (ca7 e121 fun c122 c123 c124 c125 c126 c127 c128 => (X (List.set l120 (Int.toNat ((List.length xl4 : Nat) : Int)) (.agg [c122, c123, (.int .i64 (IntKind.i64.wrap (((List.length l120 : Nat) : Int) - 1))), c125, c126, c127, c128])) xl5 xi6 (IntKind.i64.wrap (xi7 + 1))))) else none))))))) else none))))) else none) else (bif ((decide (0 ≤ xi7)) && (decide (xi7 < ((List.length xl5 : Nat) : Int)))) then (nthK xl5 (Int.toNat xi7) fun e129 => (ca7 e129 fun c130 c131 c132 c133 c134 c135 c136 => (V.asSl c135 fun z137 l138 => (G 58 [(.sl 7 (xl4 ++ [(.agg [(.int .i64 n12), (.int .i64 xi6), (.int .i64 0), (.int .i64 (-1)), (.int .i64 (-1)), (.int .i64 (-1)), (.str s21)])])), (.sl z137 l138), (.int .i64 ((List.length xl4 : Nat) : Int))] fun o139 => (uL 7 o139 fun l141 r140 => (unNil r140 (bif ((decide (0 ≤ ((List.length xl4 : Nat) : Int))) && (decide (((List.length xl4 : Nat) : Int) < ((List.length l141 : Nat) : Int)))) then (nthK l141 (Int.toNat ((List.length xl4 : Nat) : Int)) fun e142 => (ca7 e142 fun c143 c144 c145 c146 c147 c148 c149 => (X (List.set l141 (Int.toNat ((List.length xl4 : Nat) : Int)) (.agg [c143, c144, (.int .i64 (IntKind.i64.wrap (((List.length l141 : Nat) : Int) - 1))), c146, c147, c148, c149])) xl5 xi6 (IntKind.i64.wrap (xi7 + 1))))) else none))))))) else none))))) else none) else none)))) else none)))))) else none) else (Ko xl4))
def l58_0g {R : Type} (G : ORC R) (k : Nat) (Ko : List V → Option R) : Nat → List V → List V → Int → Int → Option R
  | 0 => fun _ _ _ _ => none
  | j + 1 => b58_0 G k (l58_0g G k Ko j) Ko
def l58_0 {R : Type} (G : ORC R) (k : Nat) (xl4 xl5 : List V) (xi6 xi7 : Int) (Ko : List V → Option R) : Option R := l58_0g G k Ko k xl4 xl5 xi6 xi7
def rd58_0 {R : Type} (G : ORC R) (k : Nat) (K : Ex → St → Option R) (j : Nat) (vs : List V) : Option R := match vs with
  | [(.sl 7 xl4), (.sl 7 xl5), (.int .i64 xi6), (.int .i64 xi7)] => l58_0g G k (fun yl151 => K .normal (P58_0x.inst [(.sl 7 yl151)])) j xl4 xl5 xi6 xi7
  | _ => none
def L58 {R : Type} (G : ORC R) (k : Nat) : Nat → St → (Ex → St → Option R) → Option R
  | 0, S, K => P58_0h.mat S fun vs => rd58_0 G k K k vs
  | _, _, _ => none
def f58 {R : Type} (G : ORC R) (k : Nat) (al1 al2 : List V) (ai3 : Int) (K : List V → Option R) : Option R :=
  (l58_0 G k al1 al2 ai3 0 (fun yl150 => (K [(.sl 7 yl150)])))
noncomputable def D58_0 : LoopD := { id := 0, body := loopAt 0 (bodyOf Try.f58), head := P58_0h, out := P58_0x, ret := default }
theorem l58_0_is {R : Type} (G : ORC R) (k : Nat) (X : List V → Option R) (K : Ex → St → Option R) (xl4 xl5 : List V) (xi6 xi7 : Int) :
    roundOf (TAB.env 58) G (L58 G k) D58_0 X K [(.sl 7 xl4), (.sl 7 xl5), (.int .i64 xi6), (.int .i64 xi7)] = b58_0 G k (fun xl4 xl5 xi6 xi7 => X [(.sl 7 xl4), (.sl 7 xl5), (.int .i64 xi6), (.int .i64 xi7)]) (fun yl151 => K .normal (P58_0x.inst [(.sl 7 yl151)])) xl4 xl5 xi6 xi7 := by kernel_rfl
theorem f58_is {R : Type} (G : ORC R) (k : Nat) (K : List V → Option R) (al1 al2 : List V) (ai3 : Int) :
    callF (TAB.env 58) G (L58 G k) Try.f58 S58 [(.sl 7 al1), (.sl 7 al2), (.int .i64 ai3)] K = f58 G k al1 al2 ai3 K := by kernel_rfl
theorem li58_0 {R : Type} (G : ORC R) (k : Nat) : LoopIs (TAB.env 58) G (L58 G k) 0 (loopAt 0 (bodyOf Try.f58)) :=
  ⟨D58_0, fun j vs K => rd58_0 G k K j vs, k, rfl, rfl, by kernel_rfl, by kernel_rfl, by kernel_rfl, (fun vs K => by unfold rd58_0; dsimp only; split <;> rfl),
    (fun j vs K r h => by
      unfold rd58_0 at h
      dsimp only at h
      split at h
      · rw [l58_0_is]; exact h
      · cases h), (fun S K r h => h)⟩
theorem lo58 : loopsOf (bodyOf Try.f58) = [(0, loopAt 0 (bodyOf Try.f58))] := by kernel_rfl
theorem la58 {R : Type} (G : ORC R) (k : Nat) : LoopsAre (TAB.env 58) G (L58 G k) (bodyOf Try.f58) :=
  loopsAre_of (by rw [lo58]; intro p hp; simp only [List.mem_cons, List.not_mem_nil, or_false] at hp; subst hp; exact li58_0 G k)
def g58 {R : Type} (G : ORC R) (k : Nat) (args : List V) (K : List V → Option R) : Option R := match args with
  | [(.sl 7 al1), (.sl 7 al2), (.int .i64 ai3)] => f58 G k al1 al2 ai3 K
  | _ => none
theorem s58 {R : Type} {G : ORC R} {k : Nat} (hG : Sound Try.prog TAB G) (args : List V) (K : List V → Option R) (r : R) (h : g58 G k args K = some r) : ∃ o, CallOK Try.prog TAB.env 58 args o ∧ K o = some r := by
  unfold g58 at h
  split at h
  · rw [← f58_is] at h
    exact callF_sound (f := 58) TAB_chk MO hG Try.func58 (sg := S58) (by kernel_rfl) (by kernel_rfl) (la58 G k) h
  · cases h
end Go.Proofs.Ytblabbcmokldiaa.Vm
open Go Go.VM
set_option linter.unusedVariables false
set_option maxRecDepth 100000
set_option maxHeartbeats 4000000
namespace Go.Proofs.Ytblabbcmokldiaa.Vm
/-! ### cotillion/cotillionref13.Nodes: function 14 -/
def L14 {R : Type} (_ : ORC R) (_ : Nat) : Nat → St → (Ex → St → Option R) → Option R := fun _ _ _ => none
def f14 {R : Type} (G : ORC R) (k : Nat) (as1 : ByteArray) (ai2 ai3 : Int) (al4 al5 : List V) (al6 al7 : List V) (ai8 : Int) (K : List V → Option R) : Option R :=
  (G 58 [(.sl 7 [(.agg [(.int .i64 2), (.int .i64 (-1)), (.int .i64 0), (.int .i64 (-1)), (.int .i64 (-1)), (.int .i64 (-1)), (.str ⟨#[]⟩)])]), (.sl 7 al7), (.int .i64 0)] fun o9 => (uL 7 o9 fun l11 r10 => (unNil r10 (bif (decide (0 < ((List.length l11 : Nat) : Int))) then (nthK l11 0 fun e12 => (ca7 e12 fun c13 c14 c15 c16 c17 c18 c19 => (K [(.sl 7 (List.set l11 0 (.agg [c13, c14, (.int .i64 (IntKind.i64.wrap (((List.length l11 : Nat) : Int) - 1))), c16, c17, c18, c19])))]))) else none))))
theorem f14_is {R : Type} (G : ORC R) (k : Nat) (K : List V → Option R) (as1 : ByteArray) (ai2 ai3 : Int) (al4 al5 : List V) (al6 al7 : List V) (ai8 : Int) :
    callF (TAB.env 14) G (L14 G k) Try.f14 S14 [(.agg [(.str as1), (.int .i64 ai2), (.int .i64 ai3), (.sl 3 al4), (.sl 3 al5), (.sl 3 al6), (.sl 7 al7), (.int .i64 ai8)])] K = f14 G k as1 ai2 ai3 al4 al5 al6 al7 ai8 K := by kernel_rfl
theorem lo14 : loopsOf (bodyOf Try.f14) = [] := by kernel_rfl
theorem la14 {R : Type} (G : ORC R) (k : Nat) : LoopsAre (TAB.env 14) G (L14 G k) (bodyOf Try.f14) :=
  loopsAre_of (by rw [lo14]; intro p hp; cases hp)
def g14 {R : Type} (G : ORC R) (k : Nat) (args : List V) (K : List V → Option R) : Option R := match args with
  | [(.agg [(.str as1), (.int .i64 ai2), (.int .i64 ai3), (.sl 3 al4), (.sl 3 al5), (.sl 3 al6), (.sl 7 al7), (.int .i64 ai8)])] => f14 G k as1 ai2 ai3 al4 al5 al6 al7 ai8 K
  | _ => none
theorem s14 {R : Type} {G : ORC R} {k : Nat} (hG : Sound Try.prog TAB G) (args : List V) (K : List V → Option R) (r : R) (h : g14 G k args K = some r) : ∃ o, CallOK Try.prog TAB.env 14 args o ∧ K o = some r := by
  unfold g14 at h
  split at h
  · rw [← f14_is] at h
    exact callF_sound (f := 14) TAB_chk MO hG Try.func14 (sg := S14) (by kernel_rfl) (by kernel_rfl) (la14 G k) h
  · cases h
end Go.Proofs.Ytblabbcmokldiaa.Vm
open Go Go.VM
set_option linter.unusedVariables false
set_option maxRecDepth 100000
set_option maxHeartbeats 8000000
namespace Go.Proofs.Ytblabbcmokldiaa.Vm
section
variable {R : Type} {G : ORC R} {k : Nat} {K : List V → Option R}
def KindOK (G : ORC R) : Prop := ∀ (v : V) (m d : Nat) (K : List V → Option R), StateS m d v → W (fun o => o = [.int .i64 (ndKind v)]) K (G 87 [v] K)
theorem kind_ok : KindOK (fun _ args (K : List V → Option R) => g87 G k args K) := by
  intro v m d K hv
  cases d with
  | zero => exact hv.elim
  | succ d =>
  obtain ⟨kind, nm, en, ex, tr, kids, rfl, _⟩ := hv
  show W _ K (f87 G k kind nm en ex tr kids 0 K)
  unfold f87
  have e : ndKind (.agg [.int .i64 kind, .str nm, .sl 8 en, .sl 8 ex, .sl 5 tr, .sl 7 kids, .int .i64 0]) = if kind = 3 then 4 else if kind = 4 then 5 else if kind = 2 then 3 else if kids.length = 0 then 1 else 2 := rfl
  rw [e]
  refine W_beqI (fun h => ?_) (fun h => ?_)
  · exact W_ret (by rw [if_pos h])
  refine W_beqI (fun h1 => ?_) (fun h1 => ?_)
  · exact W_ret (by rw [if_neg h, if_pos h1])
  refine W_beqI (fun h2 => ?_) (fun h2 => ?_)
  · exact W_ret (by rw [if_neg h, if_neg h1, if_pos h2])
  refine W_beqI (fun h3 => ?_) (fun h3 => ?_)
  · exact W_ret (by rw [if_neg h, if_neg h1, if_neg h2, if_pos (by omega)])
  · exact W_ret (by rw [if_neg h, if_neg h1, if_neg h2, if_neg (by omega)])
def IsStOK (G : ORC R) : Prop := ∀ (n : Nd) (K : List V → Option R), W (fun o => o = [.bool (decide (n.kind ≤ 3))]) K (G 66 [n.v] K)
theorem isst_ok : IsStOK (fun _ args (K : List V → Option R) => g66 G k args K) := by
  intro n K
  show W _ K (f66 G k n.kind n.parent n.last n.init n.entry n.exit n.name K)
  unfold f66
  exact W_ret rfl
def PutOK (d : Nat) (G : ORC R) : Prop := ∀ (l : List Nd) (kids : List V) (up : Nat) (K : List V → Option R), (∀ s ∈ kids, StateS 2 d s) → (∀ s r, kids = s :: r → kindV s ≤ 2) → up < l.length → l.length + nszL d kids ≤ 1000 →
  W (fun o => o = [.sl 7 ((fixup l up l.length kids ++ forest d up l.length kids).map Nd.v)]) K (G 58 [.sl 7 (l.map Nd.v), .sl 7 kids, .int .i64 up] K)
theorem fixup_one {P : List Nd} {nd : Nd} {n : Nat} {s : V} {kids : List V} (hn : P.length = n) (hi : nd.init = -1) (hk : nd.kind = ndKind s) (hs : stKids s = kids) :
    fixup (P ++ [nd]) n (n + 1) kids = P ++ [{ nd with init := if ndKind s = 2 then (n : Int) + 1 else -1 }] := by
  subst hn
  unfold fixup
  cases kids with
  | nil =>
    have h2 : ndKind s ≠ 2 := by unfold ndKind; rw [hs]; simp; omega
    simp only [if_neg h2]
    rw [← hi]
  | cons a r =>
    simp only [List.getElem?_append_right (Nat.le_refl _), Nat.sub_self, List.getElem?_cons_zero]
    by_cases h2 : ndKind s = 2
    · rw [if_pos ⟨by omega, by omega⟩, if_pos h2]; simp
    · rw [if_neg (by omega), if_neg h2, ← hi]
theorem put_loop {d : Nat} (hKd : KindOK G) (hSt : IsStOK G) (hP : ∀ d', d = d' + 1 → PutOK d' G) {Q : List V → Prop} {K : List V → Option R} {Ko : List V → Option R} {l0 : List Nd} {kids : List V} {up : Nat}
    (hk : ∀ s ∈ kids, StateS 2 d s) (hh : ∀ s r, kids = s :: r → kindV s ≤ 2) (hup : up < l0.length) (hsz : l0.length + nszL d kids ≤ 1000)
    (hKo : W Q K (Ko ((fixup l0 up l0.length kids ++ forest d up l0.length kids).map Nd.v))) :
    ∀ (B A : List V) (j : Nat), kids = A ++ B → B.length < j → W Q K (l58_0g G k Ko j ((fixup l0 up l0.length A ++ forest d up l0.length A).map Nd.v) (A ++ B) up A.length)
  | B, A, 0, h1, h2 => by omega
  | [], A, j + 1, h1, h2 => by
    show W Q K (b58_0 G k (l58_0g G k Ko j) Ko ((fixup l0 up l0.length A ++ forest d up l0.length A).map Nd.v) (A ++ []) up A.length)
    unfold b58_0
    refine W_no (by simp) ?_
    rw [List.append_nil] at h1
    rw [← h1]; exact hKo
  | b :: B, A, j + 1, h1, h2 => by
    show W Q K (b58_0 G k (l58_0g G k Ko j) Ko ((fixup l0 up l0.length A ++ forest d up l0.length A).map Nd.v) (A ++ b :: B) up A.length)
    unfold b58_0
    have hb : StateS 2 d b := hk b (by rw [h1]; simp)
    have hbk := hb
    cases d with
    | zero => exact hb.elim
    | succ d =>
    simp only [List.length_cons] at h2
    have hAl := nszL_len (d := d) (l := A)
    have hnsz : nszL (d + 1) kids = nszL (d + 1) A + (1 + nszL d (stKids b) + nszL (d + 1) B) := by rw [h1, nszL_app, nszL_cons]
    obtain ⟨kind, nm, en, ex, tr, kb, rfl, x1, x2, x3, x4, x5, x6, x7, x8, x9, x10, x11, x12, x13⟩ := hb
    have hkb : stKids (.agg [.int .i64 kind, .str nm, .sl 8 en, .sl 8 ex, .sl 5 tr, .sl 7 kb, .int .i64 0]) = kb := rfl
    have hnb : stName (.agg [.int .i64 kind, .str nm, .sl 8 en, .sl 8 ex, .sl 5 tr, .sl 7 kb, .int .i64 0]) = nm := rfl
    have hkk : kindV (.agg [.int .i64 kind, .str nm, .sl 8 en, .sl 8 ex, .sl 5 tr, .sl 7 kb, .int .i64 0]) = kind := rfl
    generalize hbe : (V.agg [.int .i64 kind, .str nm, .sl 8 en, .sl 8 ex, .sl 5 tr, .sl 7 kb, .int .i64 0]) = b at *
    have hcl : (fixup l0 up l0.length A ++ forest (d + 1) up l0.length A).length = l0.length + nszL (d + 1) A := by rw [List.length_append, fixup_len, forest_len]
    have hlt : (A.length : Int) < (((A ++ b :: B).length : Nat) : Int) := by simp; omega
    have hnthb : ∀ v, (A ++ b :: B)[Int.toNat (A.length : Int)]? = some v → v = b := fun v hv => by simp at hv; exact hv.symm
    refine W_yes hlt (W_and (W_yes (by omega) (W_yes hlt ?_)))
    refine W_nth (by omega) (fun v hv _ => ?_)
    rw [hnthb v hv, ← hbe]
    refine W_asAgg ?_
    rw [hbe]
    refine W_call (hKd b 2 (d + 1) _ hbk) ?_
    rintro _ rfl
    refine W_uI (W_unNil ?_)
    refine W_and (W_yes (by omega) (W_yes hlt ?_))
    refine W_nth (by omega) (fun v hv _ => ?_)
    rw [hnthb v hv, ← hbe]
    refine W_ca7 (W_asStr ?_)
    rw [hbe]
    generalize hcur : fixup l0 up l0.length A ++ forest (d + 1) up l0.length A = cur at *
    generalize hn0 : cur.length = n at *
    have hnd : List.map Nd.v cur ++ [.agg [.int .i64 (ndKind b), .int .i64 (up : Int), .int .i64 0, .int .i64 (-1), .int .i64 (-1), .int .i64 (-1), .str nm]] = (cur ++ [(⟨ndKind b, up, 0, -1, -1, -1, nm⟩ : Nd)]).map Nd.v := by rw [List.map_append]; rfl
    rw [hnd]
    refine W_yes (by rw [List.length_map]; omega) ?_
    simp only [List.length_map, hn0, List.length_append, List.length_cons, List.length_nil]
    have hupn : up < n := by omega
    refine W_and (W_yes (by omega) (W_yes (by omega) ?_))
    refine W_nthN (by simp; omega) (fun n1 hn1 => W_nd ?_)
    refine W_ce7 (W_aI ?_)
    have hn1' : cur[up]? = some n1 := by
      rw [Int.toNat_natCast, List.getElem?_append_left (by omega)] at hn1; exact hn1
    -- what the parent is told
    have hcur1 : A = [] → cur = l0 := fun h => by rw [← hcur, h, fixup_nil]; simp [forest]
    have hcur2 : A ≠ [] → ¬ (n1.init < 0 ∧ n1.kind = 2) := by
      intro hA hc
      rw [← hcur, List.getElem?_append_left (by rw [fixup_len]; exact hup)] at hn1'
      cases A with
      | nil => exact hA rfl
      | cons a r =>
        have e0 : l0[up]? = some l0[up] := List.getElem?_eq_getElem hup
        unfold fixup at hn1'
        simp only [e0] at hn1'
        by_cases hq : l0[up].init < 0 ∧ l0[up].kind = 2
        · rw [if_pos hq, List.getElem?_set_self hup] at hn1'
          cases hn1'
          have := hc.1
          simp at this; omega
        · rw [if_neg hq, e0] at hn1'
          cases hn1'; exact hq hc
    have hfx : fixup l0 up l0.length (A ++ [b]) ++ forest (d + 1) up l0.length A = if n1.init < 0 ∧ n1.kind = 2 then cur.set up { n1 with init := n } else cur := by
      by_cases hA : A = []
      · have hc := hcur1 hA
        subst hA
        have hn00 : n = l0.length := by rw [← hn0, hc]
        rw [← hn00]
        rw [hc] at hn1' ⊢
        unfold fixup
        simp only [List.nil_append, hn1']
        rw [show forest (d + 1) (up : Int) n [] = [] by rw [forest], List.append_nil]
      · rw [if_neg (hcur2 hA), ← hcur]
        congr 1
        unfold fixup
        cases A with
        | nil => exact absurd rfl hA
        | cons a r => cases l0[up]? <;> rfl
    -- the rest of the round
    have fin : ∀ L2 : List Nd, L2 = (fixup l0 up l0.length (A ++ [b]) ++ forest (d + 1) up l0.length A) ++ [(⟨ndKind b, up, 0, -1, -1, -1, nm⟩ : Nd)] → ∀ (n2 : Nd) (len : Int), len = ((fixup L2 n (n + 1) kb ++ forest d n (n + 1) kb).length : Int) - 1 → (fixup L2 n (n + 1) kb ++ forest d n (n + 1) kb)[n]? = some n2 →
        (fixup L2 n (n + 1) kb ++ forest d n (n + 1) kb).set n { n2 with last := len } = fixup l0 up l0.length (A ++ [b]) ++ forest (d + 1) up l0.length (A ++ [b]) := by
      intro L2 hL2 n2 len hlen hn2
      have hPl : (fixup l0 up l0.length (A ++ [b]) ++ forest (d + 1) up l0.length A).length = n := by rw [List.length_append, fixup_len, forest_len]; omega
      generalize hPe : fixup l0 up l0.length (A ++ [b]) ++ forest (d + 1) up l0.length A = P at *
      rw [hL2] at hn2 hlen ⊢
      rw [fixup_one hPl rfl rfl hkb] at hn2 hlen ⊢
      rw [List.append_assoc, List.getElem?_append_right (by omega)] at hn2
      rw [hPl, Nat.sub_self] at hn2
      simp only [List.cons_append, List.nil_append, List.getElem?_cons_zero, Option.some.injEq] at hn2
      rw [List.append_assoc, ← hPl, List.set_append_right _ _ (Nat.le_refl _), Nat.sub_self]
      simp only [List.cons_append, List.nil_append, List.set_cons_zero]
      rw [forest_app, ← List.append_assoc, hPe]
      congr 1
      rw [forest, hkb, hnb, show forest (d + 1) (up : Int) (l0.length + nszL (d + 1) A + 1 + nszL d kb) [] = [] by rw [forest], List.append_nil]
      have hnn : l0.length + nszL (d + 1) A = n := by omega
      rw [hnn, ← hn2, hPl]
      congr 1
      rw [hlen]
      simp only [List.length_append, List.length_cons, List.length_nil, forest_len, hPl]
      congr 1
      omega
    have rest : ∀ (L2 : List Nd), L2 = (fixup l0 up l0.length (A ++ [b]) ++ forest (d + 1) up l0.length A) ++ [(⟨ndKind b, up, 0, -1, -1, -1, nm⟩ : Nd)] → ∀ F : List V → Option R,
        (∀ n2 : Nd, (fixup L2 n (n + 1) kb ++ forest d n (n + 1) kb)[n]? = some n2 → W Q K (F [.sl 7 ((fixup L2 n (n + 1) kb ++ forest d n (n + 1) kb).map Nd.v)])) → W Q K (G 58 [.sl 7 (L2.map Nd.v), .sl 7 kb, .int .i64 (n : Int)] F) := by
      intro L2 hL2 F hF
      have hPl : (fixup l0 up l0.length (A ++ [b]) ++ forest (d + 1) up l0.length A).length = n := by rw [List.length_append, fixup_len, forest_len]; omega
      have hL2l : L2.length = n + 1 := by rw [hL2, List.length_append, hPl]; rfl
      have hsz2 : n + 1 + nszL d kb ≤ 1000 := by rw [hkb] at hnsz; omega
      refine W_call (hP d rfl L2 kb n F x10 x12 (by omega) (by omega)) ?_
      rintro _ rfl
      rw [hL2l]
      have hl : n < (fixup L2 n (n + 1) kb ++ forest d n (n + 1) kb).length := by rw [List.length_append, fixup_len]; omega
      exact hF _ (List.getElem?_eq_getElem hl)
    have hnm1 : ∀ m : Nd, (cur ++ [(⟨ndKind b, up, 0, -1, -1, -1, nm⟩ : Nd)])[Int.toNat (up : Int)]? = some m → m = n1 := fun m hm => by rw [hn1] at hm; cases hm; rfl
    generalize hPe : fixup l0 up l0.length (A ++ [b]) ++ forest (d + 1) up l0.length A = P at hfx rest fin
    refine W_dec (fun hi => ?_) (fun hi => ?_)
    · refine W_and (W_yes (by omega) (W_yes (by omega) ?_))
      refine W_nthN (by simp; omega) (fun m hm => W_nd ?_)
      rw [hnm1 m hm]
      refine W_ce7 (W_aI ?_)
      refine W_beqI (fun hk2 => ?_) (fun hk2 => ?_)
      · have hA : A = [] := Classical.byContradiction fun h => hcur2 h ⟨hi, hk2⟩
        have hbk2 : kindV b ≤ 2 := hh b B (by rw [h1, hA]; rfl)
        have hnk : ndKind b ≤ 3 := by unfold ndKind; split; omega; split; omega; split; omega; split <;> omega
        rw [if_pos ⟨hi, hk2⟩] at hfx
        refine W_and (W_yes (by omega) (W_yes (by omega) ?_))
        refine W_nthN (by simp; omega) (fun m hm => W_nd ?_)
        have hm2 : m = ⟨ndKind b, up, 0, -1, -1, -1, nm⟩ := by
          rw [Int.toNat_natCast, List.getElem?_append_right (by omega), hn0, Nat.sub_self] at hm
          simp at hm; exact hm.symm
        subst hm2
        refine W_ce7 (W_aI (W_aI (W_aI (W_aI (W_aI (W_aI (W_asStr ?_)))))))
        refine W_call (hSt ⟨ndKind b, up, 0, -1, -1, -1, nm⟩ _) ?_
        rintro _ rfl
        refine W_uB (W_unNil (W_yes hnk ?_))
        refine W_and (W_yes (by omega) (W_yes (by omega) ?_))
        refine W_nthN (by simp; omega) (fun m hm => W_nd ?_)
        rw [hnm1 m hm]
        refine W_ce7 ?_
        have hset : List.set (List.map Nd.v (cur ++ [(⟨ndKind b, up, 0, -1, -1, -1, nm⟩ : Nd)])) (Int.toNat (up : Int)) (V.agg [.int .i64 n1.kind, .int .i64 n1.parent, .int .i64 n1.last, .int .i64 (n : Int), .int .i64 n1.entry, .int .i64 n1.exit, .str n1.name]) = (P ++ [(⟨ndKind b, up, 0, -1, -1, -1, nm⟩ : Nd)]).map Nd.v := by
          rw [Int.toNat_natCast, show V.agg [.int .i64 n1.kind, .int .i64 n1.parent, .int .i64 n1.last, .int .i64 (n : Int), .int .i64 n1.entry, .int .i64 n1.exit, .str n1.name] = ({ n1 with init := n } : Nd).v from rfl, set_map, List.set_append_left _ _ (by omega), hfx]
        rw [hset]
        refine W_and (W_yes (by omega) (W_yes (by omega) ?_))
        refine W_nth (by omega) (fun v hv _ => ?_)
        rw [hnthb v hv, ← hbe]
        refine W_ca7 (W_asSl ?_)
        rw [hbe]
        refine rest _ rfl _ (fun n2 hn2 => ?_)
        refine W_uL (W_unNil ?_)
        have hlen2 : (fixup (P ++ [(⟨ndKind b, up, 0, -1, -1, -1, nm⟩ : Nd)]) n (n + 1) kb ++ forest d n (n + 1) kb).length = n + 1 + nszL d kb := by
          have hPl : P.length = n := by rw [← hPe, List.length_append, fixup_len, forest_len]; omega
          rw [List.length_append, fixup_len, forest_len, List.length_append, hPl]; rfl
        refine W_and (W_yes (by omega) (W_yes (by rw [List.length_map]; omega) ?_))
        refine W_nthN (by rw [Int.toNat_natCast]; omega) (fun m hm => W_nd ?_)
        rw [Int.toNat_natCast] at hm
        refine W_ce7 ?_
        rw [hkb] at hnsz
        have hw : IntKind.i64.wrap (((List.map Nd.v (fixup (P ++ [(⟨ndKind b, up, 0, -1, -1, -1, nm⟩ : Nd)]) n (n + 1) kb ++ forest d n (n + 1) kb)).length : Int) - 1) = ((fixup (P ++ [(⟨ndKind b, up, 0, -1, -1, -1, nm⟩ : Nd)]) n (n + 1) kb ++ forest d n (n + 1) kb).length : Int) - 1 := by
          rw [List.length_map]; exact wrap_id (by omega)
        rw [hw, wrap_id (n := (A.length : Int) + 1) (by omega)]
        have hset2 : ∀ len : Int, len = ((fixup (P ++ [(⟨ndKind b, up, 0, -1, -1, -1, nm⟩ : Nd)]) n (n + 1) kb ++ forest d n (n + 1) kb).length : Int) - 1 → List.set (List.map Nd.v (fixup (P ++ [(⟨ndKind b, up, 0, -1, -1, -1, nm⟩ : Nd)]) n (n + 1) kb ++ forest d n (n + 1) kb)) (Int.toNat (n : Int)) (V.agg [.int .i64 m.kind, .int .i64 m.parent, .int .i64 len, .int .i64 m.init, .int .i64 m.entry, .int .i64 m.exit, .str m.name]) = (fixup l0 up l0.length (A ++ [b]) ++ forest (d + 1) up l0.length (A ++ [b])).map Nd.v := by
          intro len hlen
          rw [Int.toNat_natCast, show V.agg [.int .i64 m.kind, .int .i64 m.parent, .int .i64 len, .int .i64 m.init, .int .i64 m.entry, .int .i64 m.exit, .str m.name] = ({ m with last := len } : Nd).v from rfl, set_map, fin _ rfl m len hlen hm]
        rw [hset2 _ rfl]
        have e := put_loop hKd hSt hP hk hh hup hsz hKo B (A ++ [b]) j (by rw [h1]; simp) (by omega)
        simp only [List.append_assoc, List.singleton_append, List.length_append, List.length_cons, List.length_nil, Nat.zero_add, Int.natCast_add, Int.natCast_one] at e
        exact e
      · rw [if_neg (by rintro ⟨_, h⟩; exact hk2 h)] at hfx
        rw [← hfx]
        refine W_and (W_yes (by omega) (W_yes (by omega) ?_))
        refine W_nth (by omega) (fun v hv _ => ?_)
        rw [hnthb v hv, ← hbe]
        refine W_ca7 (W_asSl ?_)
        rw [hbe]
        refine rest _ rfl _ (fun n2 hn2 => ?_)
        refine W_uL (W_unNil ?_)
        have hlen2 : (fixup (P ++ [(⟨ndKind b, up, 0, -1, -1, -1, nm⟩ : Nd)]) n (n + 1) kb ++ forest d n (n + 1) kb).length = n + 1 + nszL d kb := by
          have hPl : P.length = n := by rw [← hPe, List.length_append, fixup_len, forest_len]; omega
          rw [List.length_append, fixup_len, forest_len, List.length_append, hPl]; rfl
        refine W_and (W_yes (by omega) (W_yes (by rw [List.length_map]; omega) ?_))
        refine W_nthN (by rw [Int.toNat_natCast]; omega) (fun m hm => W_nd ?_)
        rw [Int.toNat_natCast] at hm
        refine W_ce7 ?_
        rw [hkb] at hnsz
        have hw : IntKind.i64.wrap (((List.map Nd.v (fixup (P ++ [(⟨ndKind b, up, 0, -1, -1, -1, nm⟩ : Nd)]) n (n + 1) kb ++ forest d n (n + 1) kb)).length : Int) - 1) = ((fixup (P ++ [(⟨ndKind b, up, 0, -1, -1, -1, nm⟩ : Nd)]) n (n + 1) kb ++ forest d n (n + 1) kb).length : Int) - 1 := by
          rw [List.length_map]; exact wrap_id (by omega)
        rw [hw, wrap_id (n := (A.length : Int) + 1) (by omega)]
        have hset2 : ∀ len : Int, len = ((fixup (P ++ [(⟨ndKind b, up, 0, -1, -1, -1, nm⟩ : Nd)]) n (n + 1) kb ++ forest d n (n + 1) kb).length : Int) - 1 → List.set (List.map Nd.v (fixup (P ++ [(⟨ndKind b, up, 0, -1, -1, -1, nm⟩ : Nd)]) n (n + 1) kb ++ forest d n (n + 1) kb)) (Int.toNat (n : Int)) (V.agg [.int .i64 m.kind, .int .i64 m.parent, .int .i64 len, .int .i64 m.init, .int .i64 m.entry, .int .i64 m.exit, .str m.name]) = (fixup l0 up l0.length (A ++ [b]) ++ forest (d + 1) up l0.length (A ++ [b])).map Nd.v := by
          intro len hlen
          rw [Int.toNat_natCast, show V.agg [.int .i64 m.kind, .int .i64 m.parent, .int .i64 len, .int .i64 m.init, .int .i64 m.entry, .int .i64 m.exit, .str m.name] = ({ m with last := len } : Nd).v from rfl, set_map, fin _ rfl m len hlen hm]
        rw [hset2 _ rfl]
        have e := put_loop hKd hSt hP hk hh hup hsz hKo B (A ++ [b]) j (by rw [h1]; simp) (by omega)
        simp only [List.append_assoc, List.singleton_append, List.length_append, List.length_cons, List.length_nil, Nat.zero_add, Int.natCast_add, Int.natCast_one] at e
        exact e
    · rw [if_neg (by rintro ⟨h, _⟩; exact hi h)] at hfx
      rw [← hfx]
      refine W_and (W_yes (by omega) (W_yes (by omega) ?_))
      refine W_nth (by omega) (fun v hv _ => ?_)
      rw [hnthb v hv, ← hbe]
      refine W_ca7 (W_asSl ?_)
      rw [hbe]
      refine rest _ rfl _ (fun n2 hn2 => ?_)
      refine W_uL (W_unNil ?_)
      have hlen2 : (fixup (P ++ [(⟨ndKind b, up, 0, -1, -1, -1, nm⟩ : Nd)]) n (n + 1) kb ++ forest d n (n + 1) kb).length = n + 1 + nszL d kb := by
        have hPl : P.length = n := by rw [← hPe, List.length_append, fixup_len, forest_len]; omega
        rw [List.length_append, fixup_len, forest_len, List.length_append, hPl]; rfl
      refine W_and (W_yes (by omega) (W_yes (by rw [List.length_map]; omega) ?_))
      refine W_nthN (by rw [Int.toNat_natCast]; omega) (fun m hm => W_nd ?_)
      rw [Int.toNat_natCast] at hm
      refine W_ce7 ?_
      rw [hkb] at hnsz
      have hw : IntKind.i64.wrap (((List.map Nd.v (fixup (P ++ [(⟨ndKind b, up, 0, -1, -1, -1, nm⟩ : Nd)]) n (n + 1) kb ++ forest d n (n + 1) kb)).length : Int) - 1) = ((fixup (P ++ [(⟨ndKind b, up, 0, -1, -1, -1, nm⟩ : Nd)]) n (n + 1) kb ++ forest d n (n + 1) kb).length : Int) - 1 := by
        rw [List.length_map]; exact wrap_id (by omega)
      rw [hw, wrap_id (n := (A.length : Int) + 1) (by omega)]
      have hset2 : ∀ len : Int, len = ((fixup (P ++ [(⟨ndKind b, up, 0, -1, -1, -1, nm⟩ : Nd)]) n (n + 1) kb ++ forest d n (n + 1) kb).length : Int) - 1 → List.set (List.map Nd.v (fixup (P ++ [(⟨ndKind b, up, 0, -1, -1, -1, nm⟩ : Nd)]) n (n + 1) kb ++ forest d n (n + 1) kb)) (Int.toNat (n : Int)) (V.agg [.int .i64 m.kind, .int .i64 m.parent, .int .i64 len, .int .i64 m.init, .int .i64 m.entry, .int .i64 m.exit, .str m.name]) = (fixup l0 up l0.length (A ++ [b]) ++ forest (d + 1) up l0.length (A ++ [b])).map Nd.v := by
        intro len hlen
        rw [Int.toNat_natCast, show V.agg [.int .i64 m.kind, .int .i64 m.parent, .int .i64 len, .int .i64 m.init, .int .i64 m.entry, .int .i64 m.exit, .str m.name] = ({ m with last := len } : Nd).v from rfl, set_map, fin _ rfl m len hlen hm]
      rw [hset2 _ rfl]
      have e := put_loop hKd hSt hP hk hh hup hsz hKo B (A ++ [b]) j (by rw [h1]; simp) (by omega)
      simp only [List.append_assoc, List.singleton_append, List.length_append, List.length_cons, List.length_nil, Nat.zero_add, Int.natCast_add, Int.natCast_one] at e
      exact e
theorem put_ok {d : Nat} (hk : 10000 ≤ k) (hKd : KindOK G) (hSt : IsStOK G) (hP : ∀ d', d = d' + 1 → PutOK d' G) : PutOK d (fun _ args (K : List V → Option R) => g58 G k args K) := by
  intro l kids up K h1 h2 h3 h4
  show W _ K (f58 G k (l.map Nd.v) kids up K)
  unfold f58 l58_0
  have hlen : kids.length ≤ nszL d kids ∨ kids = [] := by
    cases d with
    | zero =>
      cases kids with
      | nil => exact .inr rfl
      | cons a r => exact (h1 a (by simp)).elim
    | succ d => exact .inl nszL_len
  have hl2 : kids.length < k := by
    rcases hlen with h | h
    · omega
    · rw [h]; simp; omega
  have e := put_loop (Q := fun o => o = [.sl 7 ((fixup l up l.length kids ++ forest d up l.length kids).map Nd.v)]) (K := K) (k := k) (Ko := fun yl => K [.sl 7 yl]) hKd hSt hP h1 h2 h3 h4 (W_ret rfl) kids [] k rfl hl2
  rw [fixup_nil, List.nil_append] at e
  have hf : forest d (up : Int) l.length [] = [] := by cases d <;> rw [forest]
  rw [hf, List.append_nil] at e
  exact e
def NodesOK (G : ORC R) : Prop := ∀ (nm : ByteArray) (x y : Int) (a b c states : List V) (z : Int) (K : List V → Option R), (∀ s ∈ states, StateS 2 3 s ∧ kindV s ≤ 2) → nszL 3 states ≤ 900 →
  W (fun o => o = [.sl 7 ((ndsOf states).map Nd.v)]) K (G 14 [.agg [.str nm, .int .i64 x, .int .i64 y, .sl 3 a, .sl 3 b, .sl 3 c, .sl 7 states, .int .i64 z]] K)
theorem nodes_ok (hP : PutOK 3 G) : NodesOK (fun _ args (K : List V → Option R) => g14 G k args K) := by
  intro nm x y a b c states z K h1 h2
  show W _ K (f14 G k nm x y a b c states z K)
  unfold f14
  refine W_call (hP [(⟨2, -1, 0, -1, -1, -1, ⟨#[]⟩⟩ : Nd)] states 0 _ (fun s hs => (h1 s hs).1) (fun s r e => (h1 s (by rw [e]; simp)).2) (by simp) (by simp; omega)) ?_
  rintro _ rfl
  refine W_uL (W_unNil ?_)
  have hl : (fixup [(⟨2, -1, 0, -1, -1, -1, ⟨#[]⟩⟩ : Nd)] 0 1 states ++ forest 3 (0 : Nat) 1 states).length = 1 + nszL 3 states := by rw [List.length_append, fixup_len, forest_len]; rfl
  simp only [List.length_cons, List.length_nil, Nat.zero_add, List.length_map, hl]
  have hl0 : (0 : Int) < ((1 + nszL 3 states : Nat) : Int) := by omega
  refine W_yes (by omega) ?_
  refine W_nthN (by rw [hl]; omega) (fun n hn => W_nd ?_)
  refine W_ce7 ?_
  rw [wrap_id (by omega)]
  refine W_ret ?_
  have e : (fixup [(⟨2, -1, 0, -1, -1, -1, ⟨#[]⟩⟩ : Nd)] 0 1 states ++ forest 3 (0 : Nat) 1 states).set 0 { n with last := ((1 + nszL 3 states : Nat) : Int) - 1 } = ndsOf states := by
    have hq : ((1 + nszL 3 states : Nat) : Int) - 1 = (nszL 3 states : Nat) := by omega
    rw [hq]
    unfold ndsOf
    cases states with
    | nil =>
      rw [fixup_nil] at hn ⊢
      simp at hn; subst hn; rfl
    | cons s r =>
      have hf : fixup [(⟨2, -1, 0, -1, -1, -1, ⟨#[]⟩⟩ : Nd)] 0 1 (s :: r) = [⟨2, -1, 0, 1, -1, -1, ⟨#[]⟩⟩] := by unfold fixup; simp
      rw [hf] at hn ⊢
      simp at hn; subst hn; simp
  rw [← e, ← set_map]; rfl
end
end Go.Proofs.Ytblabbcmokldiaa.Vm
open Go Go.VM
set_option linter.unusedVariables false
set_option maxRecDepth 100000
set_option maxHeartbeats 4000000
namespace Go.Proofs.Ytblabbcmokldiaa.Vm
/-! ### cotillion/cotillionref13.Find: function 19 -/
def P19_0h : Pat := { tmps := unds [.var (.sl 7) .ro, .var .str .pr, .undef, .undef, .undef, .var (.int .i64) .pr] 14 [], boxes := nons [] 20 [] }
def P19_0x : Pat := { tmps := unds [] 20 [], boxes := nons [] 20 [] }
def P19_0r : Pat := { tmps := unds [.undef, .undef, .undef, .undef, .var (.int .i64) .pr] 15 [], boxes := nons [] 20 [] }
def b19_0 {R : Type} (G : ORC R) (k : Nat) (X : List V → ByteArray → Int → Option R) (Ko : Unit → Option R) (Kr : Int → Option R) (xl3 : List V) (xs4 : ByteArray) (xi5 : Int) : Option R :=
  (bif (decide (xi5 < ((List.length xl3 : Nat) : Int))) then (bif ((decide (0 ≤ xi5)) && (decide (xi5 < ((List.length xl3 : Nat) : Int)))) then (nthK xl3 (Int.toNat xi5) fun e6 => (ca7 e6 fun c7 c8 c9 c10 c11 c12 c13 => (V.asStr c13 fun s14 => (bif (ByteArray.toList s14 == ByteArray.toList xs4) then (Kr xi5) else (X xl3 xs4 (IntKind.i64.wrap (xi5 + 1))))))) else none) else (Ko ()))
def l19_0g {R : Type} (G : ORC R) (k : Nat) (Ko : Unit → Option R) (Kr : Int → Option R) : Nat → List V → ByteArray → Int → Option R
  | 0 => fun _ _ _ => none
  | j + 1 => b19_0 G k (l19_0g G k Ko Kr j) Ko Kr
def l19_0 {R : Type} (G : ORC R) (k : Nat) (xl3 : List V) (xs4 : ByteArray) (xi5 : Int) (Ko : Unit → Option R) (Kr : Int → Option R) : Option R := l19_0g G k Ko Kr k xl3 xs4 xi5
def rd19_0 {R : Type} (G : ORC R) (k : Nat) (K : Ex → St → Option R) (j : Nat) (vs : List V) : Option R := match vs with
  | [(.sl 7 xl3), (.str xs4), (.int .i64 xi5)] => l19_0g G k (fun _ => K .normal (P19_0x.inst [])) (fun yi16 => K .ret (P19_0r.inst [(.int .i64 yi16)])) j xl3 xs4 xi5
  | _ => none
def L19 {R : Type} (G : ORC R) (k : Nat) : Nat → St → (Ex → St → Option R) → Option R
  | 0, S, K => P19_0h.mat S fun vs => rd19_0 G k K k vs
  | _, _, _ => none
def f19 {R : Type} (G : ORC R) (k : Nat) (al1 : List V) (as2 : ByteArray) (K : List V → Option R) : Option R :=
  (l19_0 G k al1 as2 1 (fun (_ : Unit) => (K [(.int .i64 (-1))])) (fun yi15 => (K [(.int .i64 yi15)])))
noncomputable def D19_0 : LoopD := { id := 0, body := loopAt 0 (bodyOf Try.f19), head := P19_0h, out := P19_0x, ret := P19_0r }
theorem l19_0_is {R : Type} (G : ORC R) (k : Nat) (X : List V → Option R) (K : Ex → St → Option R) (xl3 : List V) (xs4 : ByteArray) (xi5 : Int) :
    roundOf (TAB.env 19) G (L19 G k) D19_0 X K [(.sl 7 xl3), (.str xs4), (.int .i64 xi5)] = b19_0 G k (fun xl3 xs4 xi5 => X [(.sl 7 xl3), (.str xs4), (.int .i64 xi5)]) (fun _ => K .normal (P19_0x.inst [])) (fun yi16 => K .ret (P19_0r.inst [(.int .i64 yi16)])) xl3 xs4 xi5 := by kernel_rfl
theorem f19_is {R : Type} (G : ORC R) (k : Nat) (K : List V → Option R) (al1 : List V) (as2 : ByteArray) :
    callF (TAB.env 19) G (L19 G k) Try.f19 S19 [(.sl 7 al1), (.str as2)] K = f19 G k al1 as2 K := by kernel_rfl
theorem li19_0 {R : Type} (G : ORC R) (k : Nat) : LoopIs (TAB.env 19) G (L19 G k) 0 (loopAt 0 (bodyOf Try.f19)) :=
  ⟨D19_0, fun j vs K => rd19_0 G k K j vs, k, rfl, rfl, by kernel_rfl, by kernel_rfl, by kernel_rfl, (fun vs K => by unfold rd19_0; dsimp only; split <;> rfl),
    (fun j vs K r h => by
      unfold rd19_0 at h
      dsimp only at h
      split at h
      · rw [l19_0_is]; exact h
      · cases h), (fun S K r h => h)⟩
theorem lo19 : loopsOf (bodyOf Try.f19) = [(0, loopAt 0 (bodyOf Try.f19))] := by kernel_rfl
theorem la19 {R : Type} (G : ORC R) (k : Nat) : LoopsAre (TAB.env 19) G (L19 G k) (bodyOf Try.f19) :=
  loopsAre_of (by rw [lo19]; intro p hp; simp only [List.mem_cons, List.not_mem_nil, or_false] at hp; subst hp; exact li19_0 G k)
def g19 {R : Type} (G : ORC R) (k : Nat) (args : List V) (K : List V → Option R) : Option R := match args with
  | [(.sl 7 al1), (.str as2)] => f19 G k al1 as2 K
  | _ => none
theorem s19 {R : Type} {G : ORC R} {k : Nat} (hG : Sound Try.prog TAB G) (args : List V) (K : List V → Option R) (r : R) (h : g19 G k args K = some r) : ∃ o, CallOK Try.prog TAB.env 19 args o ∧ K o = some r := by
  unfold g19 at h
  split at h
  · rw [← f19_is] at h
    exact callF_sound (f := 19) TAB_chk MO hG Try.func19 (sg := S19) (by kernel_rfl) (by kernel_rfl) (la19 G k) h
  · cases h
end Go.Proofs.Ytblabbcmokldiaa.Vm
open Go Go.VM
set_option linter.unusedVariables false
set_option maxRecDepth 100000
set_option maxHeartbeats 4000000
namespace Go.Proofs.Ytblabbcmokldiaa.Vm
/-! ### cotillion/cotillionref13.Is: function 64 -/
def L64 {R : Type} (_ : ORC R) (_ : Nat) : Nat → St → (Ex → St → Option R) → Option R := fun _ _ _ => none
def f64 {R : Type} (G : ORC R) (k : Nat) (al1 : List V) (ai2 : Int) (K : List V → Option R) : Option R :=
  (bif (decide (ai2 ≥ 0)) then (K [(.bool (decide (ai2 < ((List.length al1 : Nat) : Int))))]) else (K [(.bool false)]))
theorem f64_is {R : Type} (G : ORC R) (k : Nat) (K : List V → Option R) (al1 : List V) (ai2 : Int) :
    callF (TAB.env 64) G (L64 G k) Try.f64 S64 [(.sl 7 al1), (.int .i64 ai2)] K = f64 G k al1 ai2 K := by kernel_rfl
theorem lo64 : loopsOf (bodyOf Try.f64) = [] := by kernel_rfl
theorem la64 {R : Type} (G : ORC R) (k : Nat) : LoopsAre (TAB.env 64) G (L64 G k) (bodyOf Try.f64) :=
  loopsAre_of (by rw [lo64]; intro p hp; cases hp)
def g64 {R : Type} (G : ORC R) (k : Nat) (args : List V) (K : List V → Option R) : Option R := match args with
  | [(.sl 7 al1), (.int .i64 ai2)] => f64 G k al1 ai2 K
  | _ => none
theorem s64 {R : Type} {G : ORC R} {k : Nat} (hG : Sound Try.prog TAB G) (args : List V) (K : List V → Option R) (r : R) (h : g64 G k args K = some r) : ∃ o, CallOK Try.prog TAB.env 64 args o ∧ K o = some r := by
  unfold g64 at h
  split at h
  · rw [← f64_is] at h
    exact callF_sound (f := 64) TAB_chk MO hG Try.func64 (sg := S64) (by kernel_rfl) (by kernel_rfl) (la64 G k) h
  · cases h
end Go.Proofs.Ytblabbcmokldiaa.Vm
open Go Go.VM
set_option linter.unusedVariables false
set_option maxRecDepth 100000
set_option maxHeartbeats 4000000
namespace Go.Proofs.Ytblabbcmokldiaa.Vm
/-! ### cotillion/cotillionref13.In: function 21 -/
def L21 {R : Type} (_ : ORC R) (_ : Nat) : Nat → St → (Ex → St → Option R) → Option R := fun _ _ _ => none
def f21 {R : Type} (G : ORC R) (k : Nat) (al1 : List V) (ai2 ai3 : Int) (K : List V → Option R) : Option R :=
  (G 64 [(.sl 7 al1), (.int .i64 ai2)] fun o4 => (uB o4 fun b6 r5 => (unNil r5 (bif b6 then (G 64 [(.sl 7 al1), (.int .i64 ai3)] fun o7 => (uB o7 fun b9 r8 => (unNil r8 (bif b9 then (bif (decide (ai2 ≥ ai3)) then (bif ((decide (0 ≤ ai3)) && (decide (ai3 < ((List.length al1 : Nat) : Int)))) then (nthK al1 (Int.toNat ai3) fun e10 => (ca7 e10 fun c11 c12 c13 c14 c15 c16 c17 => (aI .i64 c13 fun n18 => (K [(.bool (decide (ai2 ≤ n18)))])))) else none) else (K [(.bool false)])) else (K [(.bool false)]))))) else (K [(.bool false)])))))
theorem f21_is {R : Type} (G : ORC R) (k : Nat) (K : List V → Option R) (al1 : List V) (ai2 ai3 : Int) :
    callF (TAB.env 21) G (L21 G k) Try.f21 S21 [(.sl 7 al1), (.int .i64 ai2), (.int .i64 ai3)] K = f21 G k al1 ai2 ai3 K := by kernel_rfl
theorem lo21 : loopsOf (bodyOf Try.f21) = [] := by kernel_rfl
theorem la21 {R : Type} (G : ORC R) (k : Nat) : LoopsAre (TAB.env 21) G (L21 G k) (bodyOf Try.f21) :=
  loopsAre_of (by rw [lo21]; intro p hp; cases hp)
def g21 {R : Type} (G : ORC R) (k : Nat) (args : List V) (K : List V → Option R) : Option R := match args with
  | [(.sl 7 al1), (.int .i64 ai2), (.int .i64 ai3)] => f21 G k al1 ai2 ai3 K
  | _ => none
theorem s21 {R : Type} {G : ORC R} {k : Nat} (hG : Sound Try.prog TAB G) (args : List V) (K : List V → Option R) (r : R) (h : g21 G k args K = some r) : ∃ o, CallOK Try.prog TAB.env 21 args o ∧ K o = some r := by
  unfold g21 at h
  split at h
  · rw [← f21_is] at h
    exact callF_sound (f := 21) TAB_chk MO hG Try.func21 (sg := S21) (by kernel_rfl) (by kernel_rfl) (la21 G k) h
  · cases h
end Go.Proofs.Ytblabbcmokldiaa.Vm
open Go Go.VM
set_option linter.unusedVariables false
set_option maxRecDepth 100000
set_option maxHeartbeats 4000000
namespace Go.Proofs.Ytblabbcmokldiaa.Vm
/-! ### cotillion/cotillionref14.Dom: function 40 -/
def P40_0h : Pat := { tmps := unds [.var (.sl 7) .ro, .var (.int .i64) .pr, .var (.int .i64) .pr, .undef, .undef, .undef, .undef, .var (.int .i64) .pr, .var (.int .i64) .pr] 46 [], boxes := nons [] 55 [] }
def P40_0x : Pat := { tmps := unds [] 7 (unds [.var (.int .i64) .pr] 47 []), boxes := nons [] 55 [] }
def b40_0 {R : Type} (G : ORC R) (k : Nat) (X : List V → Int → Int → Int → Int → Option R) (Ko : Int → Option R) (xl10 : List V) (xi11 xi12 : Int) (xi13 xi14 : Int) : Option R :=
  (bif (decide (xi14 < ((List.length xl10 : Nat) : Int))) then (bif ((decide (0 ≤ xi14)) && (decide (xi14 < ((List.length xl10 : Nat) : Int)))) then (nthK xl10 (Int.toNat xi14) fun e15 => (ca7 e15 fun c16 c17 c18 c19 c20 c21 c22 => (aI .i64 c16 fun n23 => (bif (n23 == 2) then (bif (xi14 != xi11) then (bif (xi14 != xi12) then (G 21 [(.sl 7 xl10), (.int .i64 xi11), (.int .i64 xi14)] fun o24 => (uB o24 fun b26 r25 => (unNil r25 (bif b26 then (G 21 [(.sl 7 xl10), (.int .i64 xi12), (.int .i64 xi14)] fun o27 => (uB o27 fun b29 r28 => (unNil r28 (bif b29 then (X xl10 xi11 xi12 xi14 (IntKind.i64.wrap (xi14 + 1))) else (X xl10 xi11 xi12 xi13 (IntKind.i64.wrap (xi14 + 1))))))) else (X xl10 xi11 xi12 xi13 (IntKind.i64.wrap (xi14 + 1))))))) else (X xl10 xi11 xi12 xi13 (IntKind.i64.wrap (xi14 + 1)))) else (X xl10 xi11 xi12 xi13 (IntKind.i64.wrap (xi14 + 1)))) else (X xl10 xi11 xi12 xi13 (IntKind.i64.wrap (xi14 + 1))))))) else none) else (Ko xi13))
def l40_0g {R : Type} (G : ORC R) (k : Nat) (Ko : Int → Option R) : Nat → List V → Int → Int → Int → Int → Option R
  | 0 => fun _ _ _ _ _ => none
  | j + 1 => b40_0 G k (l40_0g G k Ko j) Ko
def l40_0 {R : Type} (G : ORC R) (k : Nat) (xl10 : List V) (xi11 xi12 : Int) (xi13 xi14 : Int) (Ko : Int → Option R) : Option R := l40_0g G k Ko k xl10 xi11 xi12 xi13 xi14
def rd40_0 {R : Type} (G : ORC R) (k : Nat) (K : Ex → St → Option R) (j : Nat) (vs : List V) : Option R := match vs with
  | [(.sl 7 xl10), (.int .i64 xi11), (.int .i64 xi12), (.int .i64 xi13), (.int .i64 xi14)] => l40_0g G k (fun yi31 => K .normal (P40_0x.inst [(.int .i64 yi31)])) j xl10 xi11 xi12 xi13 xi14
  | _ => none
def L40 {R : Type} (G : ORC R) (k : Nat) : Nat → St → (Ex → St → Option R) → Option R
  | 0, S, K => P40_0h.mat S fun vs => rd40_0 G k K k vs
  | _, _, _ => none
def f40 {R : Type} (G : ORC R) (k : Nat) (al1 : List V) (ai2 ai3 : Int) (K : List V → Option R) : Option R :=
  (G 64 [(.sl 7 al1), (.int .i64 ai2)] fun o4 => (uB o4 fun b6 r5 => (unNil r5 (bif (!b6) then (K [(.int .i64 (-1))]) else (G 64 [(.sl 7 al1), (.int .i64 ai3)] fun o7 => (uB o7 fun b9 r8 => (unNil r8 (bif (!b9) then (K [(.int .i64 (-1))]) else (l40_0 G k al1 ai2 ai3 (-1) 0 (fun yi30 => (K [(.int .i64 yi30)])))))))))))
noncomputable def D40_0 : LoopD := { id := 0, body := loopAt 0 (bodyOf Try.f40), head := P40_0h, out := P40_0x, ret := default }
theorem l40_0_is {R : Type} (G : ORC R) (k : Nat) (X : List V → Option R) (K : Ex → St → Option R) (xl10 : List V) (xi11 xi12 : Int) (xi13 xi14 : Int) :
    roundOf (TAB.env 40) G (L40 G k) D40_0 X K [(.sl 7 xl10), (.int .i64 xi11), (.int .i64 xi12), (.int .i64 xi13), (.int .i64 xi14)] = b40_0 G k (fun xl10 xi11 xi12 xi13 xi14 => X [(.sl 7 xl10), (.int .i64 xi11), (.int .i64 xi12), (.int .i64 xi13), (.int .i64 xi14)]) (fun yi31 => K .normal (P40_0x.inst [(.int .i64 yi31)])) xl10 xi11 xi12 xi13 xi14 := by kernel_rfl
theorem f40_is {R : Type} (G : ORC R) (k : Nat) (K : List V → Option R) (al1 : List V) (ai2 ai3 : Int) :
    callF (TAB.env 40) G (L40 G k) Try.f40 S40 [(.sl 7 al1), (.int .i64 ai2), (.int .i64 ai3)] K = f40 G k al1 ai2 ai3 K := by kernel_rfl
theorem li40_0 {R : Type} (G : ORC R) (k : Nat) : LoopIs (TAB.env 40) G (L40 G k) 0 (loopAt 0 (bodyOf Try.f40)) :=
  ⟨D40_0, fun j vs K => rd40_0 G k K j vs, k, rfl, rfl, by kernel_rfl, by kernel_rfl, by kernel_rfl, (fun vs K => by unfold rd40_0; dsimp only; split <;> rfl),
    (fun j vs K r h => by
      unfold rd40_0 at h
      dsimp only at h
      split at h
      · rw [l40_0_is]; exact h
      · cases h), (fun S K r h => h)⟩
theorem lo40 : loopsOf (bodyOf Try.f40) = [(0, loopAt 0 (bodyOf Try.f40))] := by kernel_rfl
theorem la40 {R : Type} (G : ORC R) (k : Nat) : LoopsAre (TAB.env 40) G (L40 G k) (bodyOf Try.f40) :=
  loopsAre_of (by rw [lo40]; intro p hp; simp only [List.mem_cons, List.not_mem_nil, or_false] at hp; subst hp; exact li40_0 G k)
def g40 {R : Type} (G : ORC R) (k : Nat) (args : List V) (K : List V → Option R) : Option R := match args with
  | [(.sl 7 al1), (.int .i64 ai2), (.int .i64 ai3)] => f40 G k al1 ai2 ai3 K
  | _ => none
theorem s40 {R : Type} {G : ORC R} {k : Nat} (hG : Sound Try.prog TAB G) (args : List V) (K : List V → Option R) (r : R) (h : g40 G k args K = some r) : ∃ o, CallOK Try.prog TAB.env 40 args o ∧ K o = some r := by
  unfold g40 at h
  split at h
  · rw [← f40_is] at h
    exact callF_sound (f := 40) TAB_chk MO hG Try.func40 (sg := S40) (by kernel_rfl) (by kernel_rfl) (la40 G k) h
  · cases h
end Go.Proofs.Ytblabbcmokldiaa.Vm
open Go Go.VM
set_option linter.unusedVariables false
set_option maxRecDepth 100000
set_option maxHeartbeats 8000000
namespace Go.Proofs.Ytblabbcmokldiaa.Vm
section
variable {R : Type} {G : ORC R} {k : Nat} {K : List V → Option R}
def FindOK (G : ORC R) : Prop := ∀ (l : List Nd) (s : ByteArray) (K : List V → Option R), l.length ≤ 1000 → W (fun o => o = [.int .i64 (findN l s)]) K (G 19 [.sl 7 (l.map Nd.v), .str s] K)
theorem find_loop {Q : List V → Prop} {K : List V → Option R} {Ko : Unit → Option R} {Kr : Int → Option R} {l : List Nd} {s : ByteArray} (hl : l.length ≤ 1000)
    (hKo : findN l s = -1 → W Q K (Ko ())) (hKr : ∀ i, i = findN l s → W Q K (Kr i)) :
    ∀ (j i : Nat), l.length - i < j → findGo s (l.drop i) i = findN l s → W Q K (l19_0g G k Ko Kr j (l.map Nd.v) s i)
  | 0, i, h1, h2 => by omega
  | j + 1, i, h1, h2 => by
    show W Q K (b19_0 G k (l19_0g G k Ko Kr j) Ko Kr (l.map Nd.v) s i)
    unfold b19_0
    simp only [List.length_map]
    refine W_dec (fun h => ?_) (fun h => ?_)
    · refine W_and (W_yes (by omega) (W_yes h ?_))
      refine W_nthN (by omega) (fun n hn => W_nd ?_)
      rw [Int.toNat_natCast] at hn
      have hd : l.drop i = n :: l.drop (i + 1) := by
        have hi : i < l.length := by omega
        rw [List.drop_eq_getElem_cons hi]
        rw [List.getElem?_eq_getElem hi] at hn; cases hn; rfl
      refine W_ce7 (W_asStr ?_)
      rw [hd] at h2
      unfold findGo at h2
      refine W_bool (fun e => ?_) (fun e => ?_)
      · rw [if_pos (beq_iff_eq.1 e)] at h2
        exact hKr _ h2
      · rw [if_neg (fun e' => by rw [e', beq_self_eq_true] at e; cases e)] at h2
        rw [wrap_id (n := (i : Int) + 1) (by omega)]
        exact find_loop hl hKo hKr j (i + 1) (by omega) h2
    · refine hKo ?_
      rw [← h2, List.drop_eq_nil_of_le (by omega)]; rfl
theorem find_ok (hk : 10000 ≤ k) : FindOK (fun _ args (K : List V → Option R) => g19 G k args K) := by
  intro l s K hl
  show W _ K (f19 G k (l.map Nd.v) s K)
  unfold f19 l19_0
  exact find_loop (Q := fun o => o = [.int .i64 (findN l s)]) (K := K) (Ko := fun _ => K [.int .i64 (-1)]) (Kr := fun i => K [.int .i64 i]) hl (fun e => W_ret (by rw [e])) (fun i e => W_ret (by rw [e])) k 1 (by omega) rfl
def IsOK (G : ORC R) : Prop := ∀ (l : List V) (i : Int) (K : List V → Option R), W (fun o => o = [.bool (decide (0 ≤ i ∧ i < l.length))]) K (G 64 [.sl 7 l, .int .i64 i] K)
theorem is_ok : IsOK (fun _ args (K : List V → Option R) => g64 G k args K) := by
  intro l i K
  show W _ K (f64 G k l i K)
  unfold f64
  refine W_dec (fun h => ?_) (fun h => ?_)
  · exact W_ret (by congr 3; simp; omega)
  · exact W_ret (by congr 2; symm; rw [decide_eq_false]; omega)
def InOK (G : ORC R) : Prop := ∀ (l : List Nd) (a b : Int) (K : List V → Option R), W (fun o => o = [.bool (inN l a b)]) K (G 21 [.sl 7 (l.map Nd.v), .int .i64 a, .int .i64 b] K)
theorem in_ok (hI : IsOK G) : InOK (fun _ args (K : List V → Option R) => g21 G k args K) := by
  intro l a b K
  show W _ K (f21 G k (l.map Nd.v) a b K)
  unfold f21
  unfold IsOK at hI
  have no : ¬ (0 ≤ a ∧ a < l.length ∧ 0 ≤ b ∧ b < l.length ∧ a ≥ b) → inN l a b = false := fun h => by unfold inN; rw [decide_eq_false h]; rfl
  refine W_call (hI _ _ _) ?_
  rintro _ rfl
  refine W_uB (W_unNil ?_)
  simp only [List.length_map]
  refine W_dec (fun h1 => ?_) (fun h1 => W_ret (by rw [no (by omega)]))
  refine W_call (hI _ _ _) ?_
  rintro _ rfl
  refine W_uB (W_unNil ?_)
  simp only [List.length_map]
  refine W_dec (fun h2 => ?_) (fun h2 => W_ret (by rw [no (by omega)]))
  refine W_dec (fun h3 => ?_) (fun h3 => W_ret (by rw [no (by omega)]))
  refine W_and (W_yes h2.1 (W_yes h2.2 ?_))
  refine W_nthN (by omega) (fun n hn => W_nd ?_)
  refine W_ce7 (W_aI ?_)
  have e : inN l a b = decide (a ≤ n.last) := by
    unfold inN
    rw [decide_eq_true (show 0 ≤ a ∧ a < l.length ∧ 0 ≤ b ∧ b < l.length ∧ a ≥ b from ⟨h1.1, h1.2, h2.1, h2.2, h3⟩), hn]; rfl
  exact W_ret (by rw [e])
def DomOK (G : ORC R) : Prop := ∀ (l : List Nd) (a b : Int) (K : List V → Option R), l.length ≤ 1000 → W (fun o => o = [.int .i64 (domN l a b)]) K (G 40 [.sl 7 (l.map Nd.v), .int .i64 a, .int .i64 b] K)
theorem dom_no {l : List Nd} {a b : Int} (h : ¬ (0 ≤ a ∧ a < l.length) ∨ ¬ (0 ≤ b ∧ b < l.length)) : ∀ i, domGo l a b i = -1
  | 0 => rfl
  | i + 1 => by
    unfold domGo
    have e : domAt l a b i = false := by
      unfold domAt
      rcases h with h | h
      · rw [show inN l a i = false by unfold inN; rw [decide_eq_false (by omega)]; rfl]; simp
      · rw [show inN l b i = false by unfold inN; rw [decide_eq_false (by omega)]; rfl]; simp
    rw [if_neg (by rw [e]; simp)]
    exact dom_no h i
theorem dom_loop (hI : InOK G) {Q : List V → Prop} {K : List V → Option R} {Ko : Int → Option R} {l : List Nd} {a b : Int} (hl : l.length ≤ 1000)
    (hKo : W Q K (Ko (domN l a b))) :
    ∀ (j i : Nat), l.length - i < j → i ≤ l.length → W Q K (l40_0g G k Ko j (l.map Nd.v) a b (domGo l a b i) i)
  | 0, i, h1, h2 => by omega
  | j + 1, i, h1, h2 => by
    show W Q K (b40_0 G k (l40_0g G k Ko j) Ko (l.map Nd.v) a b (domGo l a b i) i)
    unfold b40_0
    simp only [List.length_map]
    unfold InOK at hI
    refine W_dec (fun h => ?_) (fun h => ?_)
    · have hi : i < l.length := by omega
      have hgo : ∀ d, domGo l a b (i + 1) = d → W Q K (l40_0g G k Ko j (l.map Nd.v) a b d (IntKind.i64.wrap ((i : Int) + 1))) := by
        intro d hd
        rw [wrap_id (n := (i : Int) + 1) (by omega), ← hd]
        exact dom_loop hI hl hKo j (i + 1) (by omega) (by omega)
      have hN : domAt l a b i = false → domGo l a b (i + 1) = domGo l a b i := fun e => by
        show (if domAt l a b i = true then (i : Int) else domGo l a b i) = _
        rw [if_neg (by rw [e]; simp)]
      have hY : domAt l a b i = true → domGo l a b (i + 1) = i := fun e => by
        show (if domAt l a b i = true then (i : Int) else domGo l a b i) = _
        rw [if_pos e]
      refine W_and (W_yes (by omega) (W_yes h ?_))
      refine W_nthN (by omega) (fun n hn => W_nd ?_)
      rw [Int.toNat_natCast] at hn
      have hat : domAt l a b i = (decide (n.kind = 2) && decide ((i : Int) ≠ a) && decide ((i : Int) ≠ b) && inN l a i && inN l b i) := by unfold domAt; rw [hn]
      refine W_ce7 (W_aI ?_)
      refine W_beqI (fun e1 => ?_) (fun e1 => hgo _ (hN (by rw [hat, decide_eq_false e1]; rfl)))
      refine W_bool (fun e2 => ?_) (fun e2 => hgo _ (hN (by rw [hat]; simp at e2; simp [e2])))
      refine W_bool (fun e3 => ?_) (fun e3 => hgo _ (hN (by rw [hat]; simp at e3; simp [e3])))
      refine W_call (hI _ _ _ _) ?_
      rintro _ rfl
      refine W_uB (W_unNil ?_)
      refine W_bool (fun e4 => ?_) (fun e4 => hgo _ (hN (by rw [hat, e4]; simp)))
      refine W_call (hI _ _ _ _) ?_
      rintro _ rfl
      refine W_uB (W_unNil ?_)
      refine W_bool (fun e5 => ?_) (fun e5 => hgo _ (hN (by rw [hat, e5]; simp)))
      refine hgo _ (hY ?_)
      rw [hat, e4, e5, decide_eq_true e1]
      simp at e2 e3
      simp [e2, e3]
    · have he : i = l.length := by omega
      subst he
      exact hKo
theorem dom_ok (hk : 10000 ≤ k) (hIs : IsOK G) (hI : InOK G) : DomOK (fun _ args (K : List V → Option R) => g40 G k args K) := by
  intro l a b K hl
  show W _ K (f40 G k (l.map Nd.v) a b K)
  unfold f40
  unfold IsOK at hIs
  refine W_call (hIs _ _ _) ?_
  rintro _ rfl
  refine W_uB (W_unNil (W_not ?_))
  simp only [List.length_map]
  refine W_dec (fun h1 => ?_) (fun h1 => W_ret (by unfold domN; rw [dom_no (.inl h1)]))
  refine W_call (hIs _ _ _) ?_
  rintro _ rfl
  refine W_uB (W_unNil (W_not ?_))
  simp only [List.length_map]
  refine W_dec (fun h2 => ?_) (fun h2 => W_ret (by unfold domN; rw [dom_no (.inr h2)]))
  unfold l40_0
  exact dom_loop (Q := fun o => o = [.int .i64 (domN l a b)]) (K := K) (Ko := fun d => K [.int .i64 d]) hI hl (W_ret rfl) k 0 (by omega) (by omega)
end
end Go.Proofs.Ytblabbcmokldiaa.Vm
open Go Go.VM
set_option linter.unusedVariables false
set_option maxRecDepth 100000
set_option maxHeartbeats 4000000
namespace Go.Proofs.Ytblabbcmokldiaa.Vm
/-! ### cotillion/cotillionref13.Kids: function 24 -/
def P24_0h : Pat := { tmps := unds [.var (.sl 7) .ro, .var (.int .i64) .pr, .undef, .undef, .undef, .var (.sl 1) (.own true), .var (.int .i64) .pr] 23 [], boxes := nons [] 30 [] }
def P24_0x : Pat := { tmps := unds [] 5 (unds [.var (.sl 1) (.own true)] 24 []), boxes := nons [] 30 [] }
def b24_0 {R : Type} (G : ORC R) (k : Nat) (X : List V → Int → List V → Int → Option R) (Ko : List V → Option R) (xl3 : List V) (xi4 : Int) (xl5 : List V) (xi6 : Int) : Option R :=
  (bif (decide (xi6 < ((List.length xl3 : Nat) : Int))) then (G 64 [(.sl 7 xl3), (.int .i64 xi4)] fun o7 => (uB o7 fun b9 r8 => (unNil r8 (bif b9 then (bif ((decide (0 ≤ xi6)) && (decide (xi6 < ((List.length xl3 : Nat) : Int)))) then (nthK xl3 (Int.toNat xi6) fun e10 => (ca7 e10 fun c11 c12 c13 c14 c15 c16 c17 => (aI .i64 c12 fun n18 => (bif (n18 == xi4) then (bif (decide (List.length xl5 + 1 ≤ 1073741824)) then (X xl3 xi4 (xl5 ++ [(.int .i64 xi6)]) (IntKind.i64.wrap (xi6 + 1))) else none) else (X xl3 xi4 xl5 (IntKind.i64.wrap (xi6 + 1))))))) else none) else (Ko xl5))))) else (Ko xl5))
def l24_0g {R : Type} (G : ORC R) (k : Nat) (Ko : List V → Option R) : Nat → List V → Int → List V → Int → Option R
  | 0 => fun _ _ _ _ => none
  | j + 1 => b24_0 G k (l24_0g G k Ko j) Ko
def l24_0 {R : Type} (G : ORC R) (k : Nat) (xl3 : List V) (xi4 : Int) (xl5 : List V) (xi6 : Int) (Ko : List V → Option R) : Option R := l24_0g G k Ko k xl3 xi4 xl5 xi6
def rd24_0 {R : Type} (G : ORC R) (k : Nat) (K : Ex → St → Option R) (j : Nat) (vs : List V) : Option R := match vs with
  | [(.sl 7 xl3), (.int .i64 xi4), (.sl 1 xl5), (.int .i64 xi6)] => l24_0g G k (fun yl20 => K .normal (P24_0x.inst [(.sl 1 yl20)])) j xl3 xi4 xl5 xi6
  | _ => none
def L24 {R : Type} (G : ORC R) (k : Nat) : Nat → St → (Ex → St → Option R) → Option R
  | 0, S, K => P24_0h.mat S fun vs => rd24_0 G k K k vs
  | _, _, _ => none
def f24 {R : Type} (G : ORC R) (k : Nat) (al1 : List V) (ai2 : Int) (K : List V → Option R) : Option R :=
  (l24_0 G k al1 ai2 [] 0 (fun yl19 => (K [(.sl 1 yl19)])))
noncomputable def D24_0 : LoopD := { id := 0, body := loopAt 0 (bodyOf Try.f24), head := P24_0h, out := P24_0x, ret := default }
theorem l24_0_is {R : Type} (G : ORC R) (k : Nat) (X : List V → Option R) (K : Ex → St → Option R) (xl3 : List V) (xi4 : Int) (xl5 : List V) (xi6 : Int) :
    roundOf (TAB.env 24) G (L24 G k) D24_0 X K [(.sl 7 xl3), (.int .i64 xi4), (.sl 1 xl5), (.int .i64 xi6)] = b24_0 G k (fun xl3 xi4 xl5 xi6 => X [(.sl 7 xl3), (.int .i64 xi4), (.sl 1 xl5), (.int .i64 xi6)]) (fun yl20 => K .normal (P24_0x.inst [(.sl 1 yl20)])) xl3 xi4 xl5 xi6 := by kernel_rfl
theorem f24_is {R : Type} (G : ORC R) (k : Nat) (K : List V → Option R) (al1 : List V) (ai2 : Int) :
    callF (TAB.env 24) G (L24 G k) Try.f24 S24 [(.sl 7 al1), (.int .i64 ai2)] K = f24 G k al1 ai2 K := by kernel_rfl
theorem li24_0 {R : Type} (G : ORC R) (k : Nat) : LoopIs (TAB.env 24) G (L24 G k) 0 (loopAt 0 (bodyOf Try.f24)) :=
  ⟨D24_0, fun j vs K => rd24_0 G k K j vs, k, rfl, rfl, by kernel_rfl, by kernel_rfl, by kernel_rfl, (fun vs K => by unfold rd24_0; dsimp only; split <;> rfl),
    (fun j vs K r h => by
      unfold rd24_0 at h
      dsimp only at h
      split at h
      · rw [l24_0_is]; exact h
      · cases h), (fun S K r h => h)⟩
theorem lo24 : loopsOf (bodyOf Try.f24) = [(0, loopAt 0 (bodyOf Try.f24))] := by kernel_rfl
theorem la24 {R : Type} (G : ORC R) (k : Nat) : LoopsAre (TAB.env 24) G (L24 G k) (bodyOf Try.f24) :=
  loopsAre_of (by rw [lo24]; intro p hp; simp only [List.mem_cons, List.not_mem_nil, or_false] at hp; subst hp; exact li24_0 G k)
def g24 {R : Type} (G : ORC R) (k : Nat) (args : List V) (K : List V → Option R) : Option R := match args with
  | [(.sl 7 al1), (.int .i64 ai2)] => f24 G k al1 ai2 K
  | _ => none
theorem s24 {R : Type} {G : ORC R} {k : Nat} (hG : Sound Try.prog TAB G) (args : List V) (K : List V → Option R) (r : R) (h : g24 G k args K = some r) : ∃ o, CallOK Try.prog TAB.env 24 args o ∧ K o = some r := by
  unfold g24 at h
  split at h
  · rw [← f24_is] at h
    exact callF_sound (f := 24) TAB_chk MO hG Try.func24 (sg := S24) (by kernel_rfl) (by kernel_rfl) (la24 G k) h
  · cases h
end Go.Proofs.Ytblabbcmokldiaa.Vm
open Go Go.VM
set_option linter.unusedVariables false
set_option linter.unusedSimpArgs false
set_option maxRecDepth 100000
set_option maxHeartbeats 8000000
namespace Go.Proofs.Ytblabbcmokldiaa.Vm
section
variable {R : Type} {G : ORC R} {k : Nat} {K : List V → Option R}
def KidsOK (f : FuncId) (G : ORC R) : Prop := ∀ (l : List Nd) (i : Int) (K : List V → Option R), l.length ≤ 1000 → W (fun o => o = [.sl 1 (ivs (kidsN l i))]) K (G f [.sl 7 (l.map Nd.v), .int .i64 i] K)
theorem rkids_loop (hI : IsOK G) {Q : List V → Prop} {K : List V → Option R} {Ko : List V → Option R} {l : List Nd} {i : Int} (hl : l.length ≤ 1000) (hKo : W Q K (Ko (ivs (kidsN l i)))) :
    ∀ (j m : Nat), l.length - m < j → m ≤ l.length → W Q K (l24_0g G k Ko j (l.map Nd.v) i (ivs (kidsGo l i m)) m)
  | 0, m, h1, h2 => by omega
  | j + 1, m, h1, h2 => by
    show W Q K (b24_0 G k (l24_0g G k Ko j) Ko (l.map Nd.v) i (ivs (kidsGo l i m)) m)
    unfold b24_0
    have hgl := kidsGo_len (l := l) (i := i) (m := m)
    simp only [List.length_map]
    refine W_dec (fun h => ?_) (fun h => by rw [show m = l.length by omega]; exact hKo)
    unfold IsOK at hI
    refine W_call (hI _ _ _) ?_
    rintro _ rfl
    (repeat (with_reducible (first | (refine W_uI ?_) | (refine W_uS ?_) | (refine W_uL ?_) | (refine W_uA ?_) | (refine W_uB ?_) | (refine W_aI ?_) | (refine W_aL ?_) | (refine W_ca3 ?_) | (refine W_ce3 ?_) | (refine W_ca4 ?_) | (refine W_ce4 ?_) | (refine W_ca5 ?_) | (refine W_ce5 ?_) | (refine W_ca6 ?_) | (refine W_ce6 ?_) | (refine W_ca7 ?_) | (refine W_ce7 ?_) | (refine W_ca8 ?_) | (refine W_ce8 ?_) | (refine W_nd7 ?_) | (refine W_unCons ?_) | (refine W_unNil ?_) | (refine W_asInt ?_) | (refine W_asBool ?_) | (refine W_asStr ?_) | (refine W_asSl ?_) | (refine W_asAgg ?_) | (refine W_kd ?_) | (refine W_z ?_))))
    simp only [List.length_map]
    refine W_dec (fun hi => ?_) (fun hi => ?_)
    · refine W_and (W_yes (by omega) (W_yes (by omega) ?_))
      refine W_nthN (by omega) (fun n hn => ?_)
      rw [Int.toNat_natCast] at hn
      (repeat (with_reducible (first | (refine W_uI ?_) | (refine W_uS ?_) | (refine W_uL ?_) | (refine W_uA ?_) | (refine W_uB ?_) | (refine W_aI ?_) | (refine W_aL ?_) | (refine W_ca3 ?_) | (refine W_ce3 ?_) | (refine W_ca4 ?_) | (refine W_ce4 ?_) | (refine W_ca5 ?_) | (refine W_ce5 ?_) | (refine W_ca6 ?_) | (refine W_ce6 ?_) | (refine W_ca7 ?_) | (refine W_ce7 ?_) | (refine W_ca8 ?_) | (refine W_ce8 ?_) | (refine W_nd7 ?_) | (refine W_unCons ?_) | (refine W_unNil ?_) | (refine W_asInt ?_) | (refine W_asBool ?_) | (refine W_asStr ?_) | (refine W_asSl ?_) | (refine W_asAgg ?_) | (refine W_kd ?_) | (refine W_z ?_))))
      have next : ∀ a, a = ivs (kidsGo l i (m + 1)) → W Q K (l24_0g G k Ko j (l.map Nd.v) i a (IntKind.i64.wrap ((m : Int) + 1))) := fun a ha => by
        rw [wrap_id (n := (m : Int) + 1) (by omega), ha]
        exact rkids_loop hI hl hKo j (m + 1) (by omega) (by omega)
      have hk : isK l i m = (decide (0 ≤ i ∧ i < l.length) && decide (n.parent = i)) := by unfold isK; rw [hn]
      refine W_beqI (fun hp => ?_) (fun hp => next _ (by rw [kidsGo, hk, decide_eq_false hp]; simp))
      refine W_yes (by rw [ivs_len]; omega) (next _ (by rw [kidsGo, hk, decide_eq_true hi, decide_eq_true hp]; simp [ivs]))
    · have e0 : ∀ m, kidsGo l i m = [] := by
        intro m
        induction m with
        | zero => rfl
        | succ m ih => unfold kidsGo; rw [ih]; unfold isK; rw [decide_eq_false hi]; simp
      have : kidsN l i = kidsGo l i m := by unfold kidsN; rw [e0, e0]
      rw [← this]; exact hKo
theorem rkids_ok (hk : 10000 ≤ k) (hI : IsOK G) : KidsOK 24 (fun _ args (K : List V → Option R) => g24 G k args K) := by
  intro l i K hl
  show W _ K (f24 G k (l.map Nd.v) i K)
  unfold f24 l24_0
  exact rkids_loop (Q := fun o => o = [.sl 1 (ivs (kidsN l i))]) (K := K) (Ko := fun x => K [.sl 1 x]) hI hl (W_ret rfl) k 0 (by omega) (by omega)
end
end Go.Proofs.Ytblabbcmokldiaa.Vm
set_option linter.unusedVariables false
namespace Go.VM
def hasL (l : List Int) (i : Int) : Bool := decide (i ∈ l)
def notL (a b : List Int) : List Int := a.filter fun x => !hasL b x
def andL (a b : List Int) : List Int := notL a (notL a b)
theorem hasL_iff {l : List Int} {i : Int} : hasL l i = true ↔ i ∈ l := by simp [hasL]
theorem hasL_congr {s t : List Int} (h : ∀ x, x ∈ s ↔ x ∈ t) (i : Int) : hasL s i = hasL t i := by
  have := h i
  unfold hasL
  by_cases hs : i ∈ s
  · rw [decide_eq_true hs, decide_eq_true (this.1 hs)]
  · rw [decide_eq_false hs, decide_eq_false (fun h => hs (this.2 h))]
theorem andL_eq {a b : List Int} : andL a b = a.filter (hasL b) := by
  unfold andL notL
  apply List.filter_congr
  intro x hx
  simp [hasL, hx]
/-! The rising row of the numbers below m that stand in a row. -/
def ofGo (l : List Int) : Nat → List Int
  | 0 => []
  | m + 1 => ofGo l m ++ if hasL l m then [(m : Int)] else []
def ofL (l : List Int) : List Int := ofGo l 128
theorem ofGo_len {l : List Int} : ∀ {m : Nat}, (ofGo l m).length ≤ m
  | 0 => Nat.le_refl 0
  | m + 1 => by have := ofGo_len (l := l) (m := m); unfold ofGo; split <;> simp <;> omega
theorem mem_ofGo {l : List Int} {x : Int} : ∀ {m : Nat}, x ∈ ofGo l m ↔ 0 ≤ x ∧ x < m ∧ x ∈ l
  | 0 => by simp [ofGo]; omega
  | m + 1 => by
    unfold ofGo
    rw [List.mem_append, mem_ofGo (m := m)]
    by_cases hm : (m : Int) ∈ l
    · rw [if_pos (hasL_iff.2 hm), List.mem_singleton]
      constructor
      · rintro (⟨h1, h2, h3⟩ | h)
        · exact ⟨h1, by omega, h3⟩
        · exact ⟨by omega, by omega, h ▸ hm⟩
      · rintro ⟨h1, h2, h3⟩
        by_cases e : x = m
        · exact .inr e
        · exact .inl ⟨h1, by omega, h3⟩
    · rw [if_neg (fun h => hm (hasL_iff.1 h))]
      constructor
      · rintro (⟨h1, h2, h3⟩ | h)
        · exact ⟨h1, by omega, h3⟩
        · simp at h
      · rintro ⟨h1, h2, h3⟩
        by_cases e : x = m
        · exact absurd (e ▸ h3) hm
        · exact .inl ⟨h1, by omega, h3⟩
theorem ofGo_congr {s t : List Int} (h : ∀ x, x ∈ s ↔ x ∈ t) : ∀ {m : Nat}, ofGo s m = ofGo t m
  | 0 => rfl
  | m + 1 => by unfold ofGo; rw [ofGo_congr h (m := m), hasL_congr h]
theorem ofGo_more {l : List Int} {m : Nat} (h : ∀ x ∈ l, x < m) : ∀ {d : Nat}, ofGo l (m + d) = ofGo l m
  | 0 => rfl
  | d + 1 => by
    rw [show m + (d + 1) = (m + d) + 1 by omega, ofGo, ofGo_more h (d := d), if_neg, List.append_nil]
    intro hh
    have := h _ (hasL_iff.1 hh)
    omega
/-! States of nodes. -/
def isSt (ns : List Nd) (k : Int) : Bool := match ns[k.toNat]? with | some n => decide (n.kind ≤ 3) | none => false
def statesN (ns : List Nd) (i : Int) : List Int := (kidsN ns i).filter (isSt ns)
theorem take_snoc {l : List Int} {m : Nat} {c : Int} (h : l[m]? = some c) : l.take (m + 1) = l.take m ++ [c] := by
  rw [List.take_add_one, h]; rfl
end Go.VM
open Go Go.VM
set_option linter.unusedVariables false
set_option maxRecDepth 100000
set_option maxHeartbeats 4000000
namespace Go.Proofs.Ytblabbcmokldiaa.Vm
/-! ### cotillion/cotillionref3.Has: function 34 -/
def P34_0h : Pat := { tmps := unds [.var (.sl 1) .ro, .var (.int .i64) .pr, .undef, .undef, .undef, .var (.int .i64) .pr] 12 [], boxes := nons [] 18 [] }
def P34_0x : Pat := { tmps := unds [] 18 [], boxes := nons [] 18 [] }
def P34_0r : Pat := { tmps := unds [.undef, .undef, .undef, .undef, .var .bool .pr] 13 [], boxes := nons [] 18 [] }
def b34_0 {R : Type} (G : ORC R) (k : Nat) (X : List V → Int → Int → Option R) (Ko : Unit → Option R) (Kr : Bool → Option R) (xl3 : List V) (xi4 xi5 : Int) : Option R :=
  (bif (decide (xi5 < ((List.length xl3 : Nat) : Int))) then (bif ((decide (0 ≤ xi5)) && (decide (xi5 < ((List.length xl3 : Nat) : Int)))) then (nthK xl3 (Int.toNat xi5) fun e6 => (aI .i64 e6 fun n7 => (bif (n7 == xi4) then (Kr true) else (X xl3 xi4 (IntKind.i64.wrap (xi5 + 1)))))) else none) else (Ko ()))
def l34_0g {R : Type} (G : ORC R) (k : Nat) (Ko : Unit → Option R) (Kr : Bool → Option R) : Nat → List V → Int → Int → Option R
  | 0 => fun _ _ _ => none
  | j + 1 => b34_0 G k (l34_0g G k Ko Kr j) Ko Kr
def l34_0 {R : Type} (G : ORC R) (k : Nat) (xl3 : List V) (xi4 xi5 : Int) (Ko : Unit → Option R) (Kr : Bool → Option R) : Option R := l34_0g G k Ko Kr k xl3 xi4 xi5
def rd34_0 {R : Type} (G : ORC R) (k : Nat) (K : Ex → St → Option R) (j : Nat) (vs : List V) : Option R := match vs with
  | [(.sl 1 xl3), (.int .i64 xi4), (.int .i64 xi5)] => l34_0g G k (fun _ => K .normal (P34_0x.inst [])) (fun yb9 => K .ret (P34_0r.inst [(.bool yb9)])) j xl3 xi4 xi5
  | _ => none
def L34 {R : Type} (G : ORC R) (k : Nat) : Nat → St → (Ex → St → Option R) → Option R
  | 0, S, K => P34_0h.mat S fun vs => rd34_0 G k K k vs
  | _, _, _ => none
def f34 {R : Type} (G : ORC R) (k : Nat) (al1 : List V) (ai2 : Int) (K : List V → Option R) : Option R :=
  (l34_0 G k al1 ai2 0 (fun (_ : Unit) => (K [(.bool false)])) (fun yb8 => (K [(.bool yb8)])))
noncomputable def D34_0 : LoopD := { id := 0, body := loopAt 0 (bodyOf Try.f34), head := P34_0h, out := P34_0x, ret := P34_0r }
theorem l34_0_is {R : Type} (G : ORC R) (k : Nat) (X : List V → Option R) (K : Ex → St → Option R) (xl3 : List V) (xi4 xi5 : Int) :
    roundOf (TAB.env 34) G (L34 G k) D34_0 X K [(.sl 1 xl3), (.int .i64 xi4), (.int .i64 xi5)] = b34_0 G k (fun xl3 xi4 xi5 => X [(.sl 1 xl3), (.int .i64 xi4), (.int .i64 xi5)]) (fun _ => K .normal (P34_0x.inst [])) (fun yb9 => K .ret (P34_0r.inst [(.bool yb9)])) xl3 xi4 xi5 := by kernel_rfl
theorem f34_is {R : Type} (G : ORC R) (k : Nat) (K : List V → Option R) (al1 : List V) (ai2 : Int) :
    callF (TAB.env 34) G (L34 G k) Try.f34 S34 [(.sl 1 al1), (.int .i64 ai2)] K = f34 G k al1 ai2 K := by kernel_rfl
theorem li34_0 {R : Type} (G : ORC R) (k : Nat) : LoopIs (TAB.env 34) G (L34 G k) 0 (loopAt 0 (bodyOf Try.f34)) :=
  ⟨D34_0, fun j vs K => rd34_0 G k K j vs, k, rfl, rfl, by kernel_rfl, by kernel_rfl, by kernel_rfl, (fun vs K => by unfold rd34_0; dsimp only; split <;> rfl),
    (fun j vs K r h => by
      unfold rd34_0 at h
      dsimp only at h
      split at h
      · rw [l34_0_is]; exact h
      · cases h), (fun S K r h => h)⟩
theorem lo34 : loopsOf (bodyOf Try.f34) = [(0, loopAt 0 (bodyOf Try.f34))] := by kernel_rfl
theorem la34 {R : Type} (G : ORC R) (k : Nat) : LoopsAre (TAB.env 34) G (L34 G k) (bodyOf Try.f34) :=
  loopsAre_of (by rw [lo34]; intro p hp; simp only [List.mem_cons, List.not_mem_nil, or_false] at hp; subst hp; exact li34_0 G k)
def g34 {R : Type} (G : ORC R) (k : Nat) (args : List V) (K : List V → Option R) : Option R := match args with
  | [(.sl 1 al1), (.int .i64 ai2)] => f34 G k al1 ai2 K
  | _ => none
theorem s34 {R : Type} {G : ORC R} {k : Nat} (hG : Sound Try.prog TAB G) (args : List V) (K : List V → Option R) (r : R) (h : g34 G k args K = some r) : ∃ o, CallOK Try.prog TAB.env 34 args o ∧ K o = some r := by
  unfold g34 at h
  split at h
  · rw [← f34_is] at h
    exact callF_sound (f := 34) TAB_chk MO hG Try.func34 (sg := S34) (by kernel_rfl) (by kernel_rfl) (la34 G k) h
  · cases h
end Go.Proofs.Ytblabbcmokldiaa.Vm
open Go Go.VM
set_option linter.unusedVariables false
set_option maxRecDepth 100000
set_option maxHeartbeats 4000000
namespace Go.Proofs.Ytblabbcmokldiaa.Vm
/-! ### cotillion/cotillionref3.Of: function 26 -/
def P26_0h : Pat := { tmps := unds [.var (.sl 1) .ro, .undef, .undef, .var (.sl 1) (.own true), .var (.int .i64) .pr] 12 [], boxes := nons [] 17 [] }
def P26_0x : Pat := { tmps := unds [.undef, .undef, .undef, .var (.sl 1) (.own true)] 13 [], boxes := nons [] 17 [] }
def b26_0 {R : Type} (G : ORC R) (k : Nat) (X : List V → List V → Int → Option R) (Ko : List V → Option R) (xl2 xl3 : List V) (xi4 : Int) : Option R :=
  (bif (decide (xi4 < 128)) then (G 34 [(.sl 1 xl2), (.int .i64 xi4)] fun o5 => (uB o5 fun b7 r6 => (unNil r6 (bif b7 then (bif (decide (List.length xl3 + 1 ≤ 1073741824)) then (X xl2 (xl3 ++ [(.int .i64 xi4)]) (IntKind.i64.wrap (xi4 + 1))) else none) else (X xl2 xl3 (IntKind.i64.wrap (xi4 + 1))))))) else (Ko xl3))
def l26_0g {R : Type} (G : ORC R) (k : Nat) (Ko : List V → Option R) : Nat → List V → List V → Int → Option R
  | 0 => fun _ _ _ => none
  | j + 1 => b26_0 G k (l26_0g G k Ko j) Ko
def l26_0 {R : Type} (G : ORC R) (k : Nat) (xl2 xl3 : List V) (xi4 : Int) (Ko : List V → Option R) : Option R := l26_0g G k Ko k xl2 xl3 xi4
def rd26_0 {R : Type} (G : ORC R) (k : Nat) (K : Ex → St → Option R) (j : Nat) (vs : List V) : Option R := match vs with
  | [(.sl 1 xl2), (.sl 1 xl3), (.int .i64 xi4)] => l26_0g G k (fun yl9 => K .normal (P26_0x.inst [(.sl 1 yl9)])) j xl2 xl3 xi4
  | _ => none
def L26 {R : Type} (G : ORC R) (k : Nat) : Nat → St → (Ex → St → Option R) → Option R
  | 0, S, K => P26_0h.mat S fun vs => rd26_0 G k K k vs
  | _, _, _ => none
def f26 {R : Type} (G : ORC R) (k : Nat) (al1 : List V) (K : List V → Option R) : Option R :=
  (l26_0 G k al1 [] 0 (fun yl8 => (K [(.sl 1 yl8)])))
noncomputable def D26_0 : LoopD := { id := 0, body := loopAt 0 (bodyOf Try.f26), head := P26_0h, out := P26_0x, ret := default }
theorem l26_0_is {R : Type} (G : ORC R) (k : Nat) (X : List V → Option R) (K : Ex → St → Option R) (xl2 xl3 : List V) (xi4 : Int) :
    roundOf (TAB.env 26) G (L26 G k) D26_0 X K [(.sl 1 xl2), (.sl 1 xl3), (.int .i64 xi4)] = b26_0 G k (fun xl2 xl3 xi4 => X [(.sl 1 xl2), (.sl 1 xl3), (.int .i64 xi4)]) (fun yl9 => K .normal (P26_0x.inst [(.sl 1 yl9)])) xl2 xl3 xi4 := by kernel_rfl
theorem f26_is {R : Type} (G : ORC R) (k : Nat) (K : List V → Option R) (al1 : List V) :
    callF (TAB.env 26) G (L26 G k) Try.f26 S26 [(.sl 1 al1)] K = f26 G k al1 K := by kernel_rfl
theorem li26_0 {R : Type} (G : ORC R) (k : Nat) : LoopIs (TAB.env 26) G (L26 G k) 0 (loopAt 0 (bodyOf Try.f26)) :=
  ⟨D26_0, fun j vs K => rd26_0 G k K j vs, k, rfl, rfl, by kernel_rfl, by kernel_rfl, by kernel_rfl, (fun vs K => by unfold rd26_0; dsimp only; split <;> rfl),
    (fun j vs K r h => by
      unfold rd26_0 at h
      dsimp only at h
      split at h
      · rw [l26_0_is]; exact h
      · cases h), (fun S K r h => h)⟩
theorem lo26 : loopsOf (bodyOf Try.f26) = [(0, loopAt 0 (bodyOf Try.f26))] := by kernel_rfl
theorem la26 {R : Type} (G : ORC R) (k : Nat) : LoopsAre (TAB.env 26) G (L26 G k) (bodyOf Try.f26) :=
  loopsAre_of (by rw [lo26]; intro p hp; simp only [List.mem_cons, List.not_mem_nil, or_false] at hp; subst hp; exact li26_0 G k)
def g26 {R : Type} (G : ORC R) (k : Nat) (args : List V) (K : List V → Option R) : Option R := match args with
  | [(.sl 1 al1)] => f26 G k al1 K
  | _ => none
theorem s26 {R : Type} {G : ORC R} {k : Nat} (hG : Sound Try.prog TAB G) (args : List V) (K : List V → Option R) (r : R) (h : g26 G k args K = some r) : ∃ o, CallOK Try.prog TAB.env 26 args o ∧ K o = some r := by
  unfold g26 at h
  split at h
  · rw [← f26_is] at h
    exact callF_sound (f := 26) TAB_chk MO hG Try.func26 (sg := S26) (by kernel_rfl) (by kernel_rfl) (la26 G k) h
  · cases h
end Go.Proofs.Ytblabbcmokldiaa.Vm
open Go Go.VM
set_option linter.unusedVariables false
set_option maxRecDepth 100000
set_option maxHeartbeats 4000000
namespace Go.Proofs.Ytblabbcmokldiaa.Vm
/-! ### cotillion/cotillionref3.Not: function 36 -/
def P36_0h : Pat := { tmps := unds [.var (.sl 1) .ro, .var (.sl 1) .ro, .undef, .undef, .undef, .var (.sl 1) (.own true), .var (.int .i64) .pr] 21 [], boxes := nons [] 28 [] }
def P36_0x : Pat := { tmps := unds [] 5 (unds [.var (.sl 1) (.own true)] 22 []), boxes := nons [] 28 [] }
def b36_0 {R : Type} (G : ORC R) (k : Nat) (X : List V → List V → List V → Int → Option R) (Ko : List V → Option R) (xl3 xl4 xl5 : List V) (xi6 : Int) : Option R :=
  (bif (decide (xi6 < ((List.length xl3 : Nat) : Int))) then (bif ((decide (0 ≤ xi6)) && (decide (xi6 < ((List.length xl3 : Nat) : Int)))) then (nthK xl3 (Int.toNat xi6) fun e7 => (aI .i64 e7 fun n8 => (G 34 [(.sl 1 xl4), (.int .i64 n8)] fun o9 => (uB o9 fun b11 r10 => (unNil r10 (bif (!b11) then (bif ((decide (0 ≤ xi6)) && (decide (xi6 < ((List.length xl3 : Nat) : Int)))) then (nthK xl3 (Int.toNat xi6) fun e12 => (aI .i64 e12 fun n13 => (bif (decide (List.length xl5 + 1 ≤ 1073741824)) then (X xl3 xl4 (xl5 ++ [(.int .i64 n13)]) (IntKind.i64.wrap (xi6 + 1))) else none))) else none) else (X xl3 xl4 xl5 (IntKind.i64.wrap (xi6 + 1))))))))) else none) else (Ko xl5))
def l36_0g {R : Type} (G : ORC R) (k : Nat) (Ko : List V → Option R) : Nat → List V → List V → List V → Int → Option R
  | 0 => fun _ _ _ _ => none
  | j + 1 => b36_0 G k (l36_0g G k Ko j) Ko
def l36_0 {R : Type} (G : ORC R) (k : Nat) (xl3 xl4 xl5 : List V) (xi6 : Int) (Ko : List V → Option R) : Option R := l36_0g G k Ko k xl3 xl4 xl5 xi6
def rd36_0 {R : Type} (G : ORC R) (k : Nat) (K : Ex → St → Option R) (j : Nat) (vs : List V) : Option R := match vs with
  | [(.sl 1 xl3), (.sl 1 xl4), (.sl 1 xl5), (.int .i64 xi6)] => l36_0g G k (fun yl15 => K .normal (P36_0x.inst [(.sl 1 yl15)])) j xl3 xl4 xl5 xi6
  | _ => none
def L36 {R : Type} (G : ORC R) (k : Nat) : Nat → St → (Ex → St → Option R) → Option R
  | 0, S, K => P36_0h.mat S fun vs => rd36_0 G k K k vs
  | _, _, _ => none
def f36 {R : Type} (G : ORC R) (k : Nat) (al1 al2 : List V) (K : List V → Option R) : Option R :=
  (l36_0 G k al1 al2 [] 0 (fun yl14 => (K [(.sl 1 yl14)])))
noncomputable def D36_0 : LoopD := { id := 0, body := loopAt 0 (bodyOf Try.f36), head := P36_0h, out := P36_0x, ret := default }
theorem l36_0_is {R : Type} (G : ORC R) (k : Nat) (X : List V → Option R) (K : Ex → St → Option R) (xl3 xl4 xl5 : List V) (xi6 : Int) :
    roundOf (TAB.env 36) G (L36 G k) D36_0 X K [(.sl 1 xl3), (.sl 1 xl4), (.sl 1 xl5), (.int .i64 xi6)] = b36_0 G k (fun xl3 xl4 xl5 xi6 => X [(.sl 1 xl3), (.sl 1 xl4), (.sl 1 xl5), (.int .i64 xi6)]) (fun yl15 => K .normal (P36_0x.inst [(.sl 1 yl15)])) xl3 xl4 xl5 xi6 := by kernel_rfl
theorem f36_is {R : Type} (G : ORC R) (k : Nat) (K : List V → Option R) (al1 al2 : List V) :
    callF (TAB.env 36) G (L36 G k) Try.f36 S36 [(.sl 1 al1), (.sl 1 al2)] K = f36 G k al1 al2 K := by kernel_rfl
theorem li36_0 {R : Type} (G : ORC R) (k : Nat) : LoopIs (TAB.env 36) G (L36 G k) 0 (loopAt 0 (bodyOf Try.f36)) :=
  ⟨D36_0, fun j vs K => rd36_0 G k K j vs, k, rfl, rfl, by kernel_rfl, by kernel_rfl, by kernel_rfl, (fun vs K => by unfold rd36_0; dsimp only; split <;> rfl),
    (fun j vs K r h => by
      unfold rd36_0 at h
      dsimp only at h
      split at h
      · rw [l36_0_is]; exact h
      · cases h), (fun S K r h => h)⟩
theorem lo36 : loopsOf (bodyOf Try.f36) = [(0, loopAt 0 (bodyOf Try.f36))] := by kernel_rfl
theorem la36 {R : Type} (G : ORC R) (k : Nat) : LoopsAre (TAB.env 36) G (L36 G k) (bodyOf Try.f36) :=
  loopsAre_of (by rw [lo36]; intro p hp; simp only [List.mem_cons, List.not_mem_nil, or_false] at hp; subst hp; exact li36_0 G k)
def g36 {R : Type} (G : ORC R) (k : Nat) (args : List V) (K : List V → Option R) : Option R := match args with
  | [(.sl 1 al1), (.sl 1 al2)] => f36 G k al1 al2 K
  | _ => none
theorem s36 {R : Type} {G : ORC R} {k : Nat} (hG : Sound Try.prog TAB G) (args : List V) (K : List V → Option R) (r : R) (h : g36 G k args K = some r) : ∃ o, CallOK Try.prog TAB.env 36 args o ∧ K o = some r := by
  unfold g36 at h
  split at h
  · rw [← f36_is] at h
    exact callF_sound (f := 36) TAB_chk MO hG Try.func36 (sg := S36) (by kernel_rfl) (by kernel_rfl) (la36 G k) h
  · cases h
end Go.Proofs.Ytblabbcmokldiaa.Vm
open Go Go.VM
set_option linter.unusedVariables false
set_option maxRecDepth 100000
set_option maxHeartbeats 4000000
namespace Go.Proofs.Ytblabbcmokldiaa.Vm
/-! ### cotillion/cotillionref3.And: function 57 -/
def L57 {R : Type} (_ : ORC R) (_ : Nat) : Nat → St → (Ex → St → Option R) → Option R := fun _ _ _ => none
def f57 {R : Type} (G : ORC R) (k : Nat) (al1 al2 : List V) (K : List V → Option R) : Option R :=
  (G 36 [(.sl 1 al1), (.sl 1 al2)] fun o3 => (uL 1 o3 fun l5 r4 => (unNil r4 (G 36 [(.sl 1 al1), (.sl 1 l5)] fun o6 => (uL 1 o6 fun l8 r7 => (unNil r7 (K [(.sl 1 l8)])))))))
theorem f57_is {R : Type} (G : ORC R) (k : Nat) (K : List V → Option R) (al1 al2 : List V) :
    callF (TAB.env 57) G (L57 G k) Try.f57 S57 [(.sl 1 al1), (.sl 1 al2)] K = f57 G k al1 al2 K := by kernel_rfl
theorem lo57 : loopsOf (bodyOf Try.f57) = [] := by kernel_rfl
theorem la57 {R : Type} (G : ORC R) (k : Nat) : LoopsAre (TAB.env 57) G (L57 G k) (bodyOf Try.f57) :=
  loopsAre_of (by rw [lo57]; intro p hp; cases hp)
def g57 {R : Type} (G : ORC R) (k : Nat) (args : List V) (K : List V → Option R) : Option R := match args with
  | [(.sl 1 al1), (.sl 1 al2)] => f57 G k al1 al2 K
  | _ => none
theorem s57 {R : Type} {G : ORC R} {k : Nat} (hG : Sound Try.prog TAB G) (args : List V) (K : List V → Option R) (r : R) (h : g57 G k args K = some r) : ∃ o, CallOK Try.prog TAB.env 57 args o ∧ K o = some r := by
  unfold g57 at h
  split at h
  · rw [← f57_is] at h
    exact callF_sound (f := 57) TAB_chk MO hG Try.func57 (sg := S57) (by kernel_rfl) (by kernel_rfl) (la57 G k) h
  · cases h
end Go.Proofs.Ytblabbcmokldiaa.Vm
open Go Go.VM
set_option linter.unusedVariables false
set_option maxRecDepth 100000
set_option maxHeartbeats 4000000
namespace Go.Proofs.Ytblabbcmokldiaa.Vm
/-! ### cotillion/cotillionref13.States: function 67 -/
def P67_0h : Pat := { tmps := unds [.var (.sl 7) .ro, .undef, .undef, .undef, .undef, .var (.sl 1) (.own true), .var (.sl 1) .ro, .var (.int .i64) .pr] 25 [], boxes := nons [] 33 [] }
def P67_0x : Pat := { tmps := unds [] 5 (unds [.var (.sl 1) (.own true)] 27 []), boxes := nons [] 33 [] }
def b67_0 {R : Type} (G : ORC R) (k : Nat) (X : List V → List V → List V → Int → Option R) (Ko : List V → Option R) (xl6 xl7 xl8 : List V) (xi9 : Int) : Option R :=
  (bif (decide (xi9 < ((List.length xl8 : Nat) : Int))) then (bif ((decide (0 ≤ xi9)) && (decide (xi9 < ((List.length xl8 : Nat) : Int)))) then (nthK xl8 (Int.toNat xi9) fun e10 => (aI .i64 e10 fun n11 => (bif ((decide (0 ≤ n11)) && (decide (n11 < ((List.length xl6 : Nat) : Int)))) then (nthK xl6 (Int.toNat n11) fun e12 => (V.asAgg e12 fun l13 => (G 66 [(.agg l13)] fun o14 => (uB o14 fun b16 r15 => (unNil r15 (bif b16 then (bif ((decide (0 ≤ xi9)) && (decide (xi9 < ((List.length xl8 : Nat) : Int)))) then (nthK xl8 (Int.toNat xi9) fun e17 => (aI .i64 e17 fun n18 => (bif (decide (List.length xl7 + 1 ≤ 1073741824)) then (X xl6 (xl7 ++ [(.int .i64 n18)]) xl8 (IntKind.i64.wrap (xi9 + 1))) else none))) else none) else (X xl6 xl7 xl8 (IntKind.i64.wrap (xi9 + 1))))))))) else none))) else none) else (Ko xl7))
def l67_0g {R : Type} (G : ORC R) (k : Nat) (Ko : List V → Option R) : Nat → List V → List V → List V → Int → Option R
  | 0 => fun _ _ _ _ => none
  | j + 1 => b67_0 G k (l67_0g G k Ko j) Ko
def l67_0 {R : Type} (G : ORC R) (k : Nat) (xl6 xl7 xl8 : List V) (xi9 : Int) (Ko : List V → Option R) : Option R := l67_0g G k Ko k xl6 xl7 xl8 xi9
def rd67_0 {R : Type} (G : ORC R) (k : Nat) (K : Ex → St → Option R) (j : Nat) (vs : List V) : Option R := match vs with
  | [(.sl 7 xl6), (.sl 1 xl7), (.sl 1 xl8), (.int .i64 xi9)] => l67_0g G k (fun yl20 => K .normal (P67_0x.inst [(.sl 1 yl20)])) j xl6 xl7 xl8 xi9
  | _ => none
def L67 {R : Type} (G : ORC R) (k : Nat) : Nat → St → (Ex → St → Option R) → Option R
  | 0, S, K => P67_0h.mat S fun vs => rd67_0 G k K k vs
  | _, _, _ => none
def f67 {R : Type} (G : ORC R) (k : Nat) (al1 : List V) (ai2 : Int) (K : List V → Option R) : Option R :=
  (G 24 [(.sl 7 al1), (.int .i64 ai2)] fun o3 => (uL 1 o3 fun l5 r4 => (unNil r4 (l67_0 G k al1 [] l5 0 (fun yl19 => (K [(.sl 1 yl19)]))))))
noncomputable def D67_0 : LoopD := { id := 0, body := loopAt 0 (bodyOf Try.f67), head := P67_0h, out := P67_0x, ret := default }
theorem l67_0_is {R : Type} (G : ORC R) (k : Nat) (X : List V → Option R) (K : Ex → St → Option R) (xl6 xl7 xl8 : List V) (xi9 : Int) :
    roundOf (TAB.env 67) G (L67 G k) D67_0 X K [(.sl 7 xl6), (.sl 1 xl7), (.sl 1 xl8), (.int .i64 xi9)] = b67_0 G k (fun xl6 xl7 xl8 xi9 => X [(.sl 7 xl6), (.sl 1 xl7), (.sl 1 xl8), (.int .i64 xi9)]) (fun yl20 => K .normal (P67_0x.inst [(.sl 1 yl20)])) xl6 xl7 xl8 xi9 := by kernel_rfl
theorem f67_is {R : Type} (G : ORC R) (k : Nat) (K : List V → Option R) (al1 : List V) (ai2 : Int) :
    callF (TAB.env 67) G (L67 G k) Try.f67 S67 [(.sl 7 al1), (.int .i64 ai2)] K = f67 G k al1 ai2 K := by kernel_rfl
theorem li67_0 {R : Type} (G : ORC R) (k : Nat) : LoopIs (TAB.env 67) G (L67 G k) 0 (loopAt 0 (bodyOf Try.f67)) :=
  ⟨D67_0, fun j vs K => rd67_0 G k K j vs, k, rfl, rfl, by kernel_rfl, by kernel_rfl, by kernel_rfl, (fun vs K => by unfold rd67_0; dsimp only; split <;> rfl),
    (fun j vs K r h => by
      unfold rd67_0 at h
      dsimp only at h
      split at h
      · rw [l67_0_is]; exact h
      · cases h), (fun S K r h => h)⟩
theorem lo67 : loopsOf (bodyOf Try.f67) = [(0, loopAt 0 (bodyOf Try.f67))] := by kernel_rfl
theorem la67 {R : Type} (G : ORC R) (k : Nat) : LoopsAre (TAB.env 67) G (L67 G k) (bodyOf Try.f67) :=
  loopsAre_of (by rw [lo67]; intro p hp; simp only [List.mem_cons, List.not_mem_nil, or_false] at hp; subst hp; exact li67_0 G k)
def g67 {R : Type} (G : ORC R) (k : Nat) (args : List V) (K : List V → Option R) : Option R := match args with
  | [(.sl 7 al1), (.int .i64 ai2)] => f67 G k al1 ai2 K
  | _ => none
theorem s67 {R : Type} {G : ORC R} {k : Nat} (hG : Sound Try.prog TAB G) (args : List V) (K : List V → Option R) (r : R) (h : g67 G k args K = some r) : ∃ o, CallOK Try.prog TAB.env 67 args o ∧ K o = some r := by
  unfold g67 at h
  split at h
  · rw [← f67_is] at h
    exact callF_sound (f := 67) TAB_chk MO hG Try.func67 (sg := S67) (by kernel_rfl) (by kernel_rfl) (la67 G k) h
  · cases h
end Go.Proofs.Ytblabbcmokldiaa.Vm
open Go Go.VM
set_option linter.unusedVariables false
set_option linter.unusedSimpArgs false
set_option maxRecDepth 100000
set_option maxHeartbeats 8000000
namespace Go.Proofs.Ytblabbcmokldiaa.Vm
section
variable {R : Type} {G : ORC R} {k : Nat} {K : List V → Option R}
theorem ivs_atZ {l : List Int} {i : Nat} {n : Int} (h : l[i]? = some n) : (ivs l)[((i : Nat) : Int).toNat]? = some (.int .i64 n) := by rw [Int.toNat_natCast]; exact ivs_at h
theorem get_ex {l : List Int} {m : Nat} (h : m < l.length) : ∃ x, l[m]? = some x := ⟨_, List.getElem?_eq_getElem h⟩
def HasOK (G : ORC R) : Prop := ∀ (l : List Int) (i : Int) (K : List V → Option R), l.length ≤ 9000 → W (fun o => o = [.bool (hasL l i)]) K (G 34 [.sl 1 (ivs l), .int .i64 i] K)
theorem has_loop {Q : List V → Prop} {K : List V → Option R} {Ko : Unit → Option R} {Kr : Bool → Option R} {l : List Int} {i : Int} (hl : l.length ≤ 9000) (hKo : i ∉ l → W Q K (Ko ())) (hKr : i ∈ l → W Q K (Kr true)) :
    ∀ (j m : Nat), l.length - m < j → m ≤ l.length → i ∉ l.take m → W Q K (l34_0g G k Ko Kr j (ivs l) i m)
  | 0, m, h1, h2, h3 => by omega
  | j + 1, m, h1, h2, h3 => by
    show W Q K (b34_0 G k (l34_0g G k Ko Kr j) Ko Kr (ivs l) i m)
    unfold b34_0
    refine W_dec (fun h => ?_) (fun h => hKo (by rw [ivs_len] at h; rwa [List.take_of_length_le (by omega)] at h3))
    rw [ivs_len] at h
    obtain ⟨x, hx⟩ := get_ex (l := l) (m := m) (by omega)
    refine W_at (by omega) (ivs_atZ hx) (W_aI ?_)
    refine W_beqI (fun e => hKr (by subst e; exact List.mem_of_getElem? hx)) (fun e => ?_)
    rw [wrap_id (n := (m : Int) + 1) (by omega)]
    exact has_loop hl hKo hKr j (m + 1) (by omega) (by omega) (by rw [take_snoc hx, List.mem_append, List.mem_singleton]; rintro (h | h); exact h3 h; exact e h.symm)
theorem has_ok (hk : 10000 ≤ k) : HasOK (fun _ args (K : List V → Option R) => g34 G k args K) := by
  intro l i K hl
  show W _ K (f34 G k (ivs l) i K)
  unfold f34 l34_0
  exact has_loop (Q := fun o => o = [.bool (hasL l i)]) (K := K) hl (fun h => W_ret (by unfold hasL; rw [decide_eq_false h])) (fun h => W_ret (by unfold hasL; rw [decide_eq_true h])) k 0 (by omega) (by omega) (by simp)
def OfOK (G : ORC R) : Prop := ∀ (l : List Int) (K : List V → Option R), l.length ≤ 9000 → W (fun o => o = [.sl 1 (ivs (ofL l))]) K (G 26 [.sl 1 (ivs l)] K)
theorem of_loop (hH : HasOK G) {Q : List V → Prop} {K : List V → Option R} {Ko : List V → Option R} {l : List Int} (hl : l.length ≤ 9000) (hKo : W Q K (Ko (ivs (ofL l)))) :
    ∀ (j m : Nat), 128 - m < j → m ≤ 128 → W Q K (l26_0g G k Ko j (ivs l) (ivs (ofGo l m)) m)
  | 0, m, h1, h2 => by omega
  | j + 1, m, h1, h2 => by
    show W Q K (b26_0 G k (l26_0g G k Ko j) Ko (ivs l) (ivs (ofGo l m)) m)
    unfold b26_0
    refine W_dec (fun h => ?_) (fun h => by rw [show m = 128 by omega]; exact hKo)
    unfold HasOK at hH
    refine W_call (hH _ _ _ hl) ?_
    rintro _ rfl
    (repeat (with_reducible (first | (refine W_uI ?_) | (refine W_uS ?_) | (refine W_uL ?_) | (refine W_uA ?_) | (refine W_uB ?_) | (refine W_aI ?_) | (refine W_aL ?_) | (refine W_ca3 ?_) | (refine W_ce3 ?_) | (refine W_ca4 ?_) | (refine W_ce4 ?_) | (refine W_ca5 ?_) | (refine W_ce5 ?_) | (refine W_ca6 ?_) | (refine W_ce6 ?_) | (refine W_ca7 ?_) | (refine W_ce7 ?_) | (refine W_ca8 ?_) | (refine W_ce8 ?_) | (refine W_nd7 ?_) | (refine W_unCons ?_) | (refine W_unNil ?_) | (refine W_asInt ?_) | (refine W_asBool ?_) | (refine W_asStr ?_) | (refine W_asSl ?_) | (refine W_asAgg ?_) | (refine W_kd ?_) | (refine W_z ?_))))
    have hgl := ofGo_len (l := l) (m := m)
    have next : ∀ a, a = ivs (ofGo l (m + 1)) → W Q K (l26_0g G k Ko j (ivs l) a (IntKind.i64.wrap ((m : Int) + 1))) := fun a ha => by
      rw [wrap_id (n := (m : Int) + 1) (by omega), ha]
      exact of_loop hH hl hKo j (m + 1) (by omega) (by omega)
    refine W_bool (fun hb => W_yes (by rw [ivs_len]; omega) (next _ (by rw [ofGo, hb]; simp [ivs]))) (fun hb => next _ (by rw [ofGo, hb]; simp))
theorem of_ok (hk : 10000 ≤ k) (hH : HasOK G) : OfOK (fun _ args (K : List V → Option R) => g26 G k args K) := by
  intro l K hl
  show W _ K (f26 G k (ivs l) K)
  unfold f26 l26_0
  exact of_loop (Q := fun o => o = [.sl 1 (ivs (ofL l))]) (K := K) (Ko := fun x => K [.sl 1 x]) hH hl (W_ret rfl) k 0 (by omega) (by omega)
def NotOK (G : ORC R) : Prop := ∀ (a b : List Int) (K : List V → Option R), a.length ≤ 9000 → b.length ≤ 9000 → W (fun o => o = [.sl 1 (ivs (notL a b))]) K (G 36 [.sl 1 (ivs a), .sl 1 (ivs b)] K)
theorem notL_len {a b : List Int} : (notL a b).length ≤ a.length := List.length_filter_le _ _
theorem notL_snoc {a b : List Int} {x : Int} : notL (a ++ [x]) b = notL a b ++ if hasL b x then [] else [x] := by
  unfold notL; rw [List.filter_append, List.filter_cons]; cases hasL b x <;> simp
theorem not_loop (hH : HasOK G) {Q : List V → Prop} {K : List V → Option R} {Ko : List V → Option R} {a b : List Int} (ha : a.length ≤ 9000) (hb : b.length ≤ 9000) (hKo : W Q K (Ko (ivs (notL a b)))) :
    ∀ (j m : Nat), a.length - m < j → m ≤ a.length → W Q K (l36_0g G k Ko j (ivs a) (ivs b) (ivs (notL (a.take m) b)) m)
  | 0, m, h1, h2 => by omega
  | j + 1, m, h1, h2 => by
    show W Q K (b36_0 G k (l36_0g G k Ko j) Ko (ivs a) (ivs b) (ivs (notL (a.take m) b)) m)
    unfold b36_0
    refine W_dec (fun h => ?_) (fun h => by rw [ivs_len] at h; rw [List.take_of_length_le (by omega)]; exact hKo)
    rw [ivs_len] at h
    obtain ⟨x, hx⟩ := get_ex (l := a) (m := m) (by omega)
    have hnl := notL_len (a := a.take m) (b := b)
    rw [List.length_take] at hnl
    unfold HasOK at hH
    refine W_at (by omega) (ivs_atZ hx) (W_aI ?_)
    refine W_call (hH _ _ _ hb) ?_
    rintro _ rfl
    (repeat (with_reducible (first | (refine W_uI ?_) | (refine W_uS ?_) | (refine W_uL ?_) | (refine W_uA ?_) | (refine W_uB ?_) | (refine W_aI ?_) | (refine W_aL ?_) | (refine W_ca3 ?_) | (refine W_ce3 ?_) | (refine W_ca4 ?_) | (refine W_ce4 ?_) | (refine W_ca5 ?_) | (refine W_ce5 ?_) | (refine W_ca6 ?_) | (refine W_ce6 ?_) | (refine W_ca7 ?_) | (refine W_ce7 ?_) | (refine W_ca8 ?_) | (refine W_ce8 ?_) | (refine W_nd7 ?_) | (refine W_unCons ?_) | (refine W_unNil ?_) | (refine W_asInt ?_) | (refine W_asBool ?_) | (refine W_asStr ?_) | (refine W_asSl ?_) | (refine W_asAgg ?_) | (refine W_kd ?_) | (refine W_z ?_))))
    have next : ∀ c, c = ivs (notL (a.take (m + 1)) b) → W Q K (l36_0g G k Ko j (ivs a) (ivs b) c (IntKind.i64.wrap ((m : Int) + 1))) := fun c hc => by
      rw [wrap_id (n := (m : Int) + 1) (by omega), hc]
      exact not_loop hH ha hb hKo j (m + 1) (by omega) (by omega)
    refine W_not (W_bool (fun hb => next _ (by rw [take_snoc hx, notL_snoc, hb]; simp)) (fun hb => ?_))
    refine W_at (by omega) (ivs_atZ hx) (W_aI ?_)
    exact W_yes (by rw [ivs_len]; omega) (next _ (by rw [take_snoc hx, notL_snoc, hb]; simp [ivs]))
theorem not_ok (hk : 10000 ≤ k) (hH : HasOK G) : NotOK (fun _ args (K : List V → Option R) => g36 G k args K) := by
  intro a b K ha hb
  show W _ K (f36 G k (ivs a) (ivs b) K)
  unfold f36 l36_0
  exact not_loop (Q := fun o => o = [.sl 1 (ivs (notL a b))]) (K := K) (Ko := fun x => K [.sl 1 x]) hH ha hb (W_ret rfl) k 0 (by omega) (by omega)
def AndOK (G : ORC R) : Prop := ∀ (a b : List Int) (K : List V → Option R), a.length ≤ 9000 → b.length ≤ 9000 → W (fun o => o = [.sl 1 (ivs (andL a b))]) K (G 57 [.sl 1 (ivs a), .sl 1 (ivs b)] K)
theorem and_ok (hN : NotOK G) : AndOK (fun _ args (K : List V → Option R) => g57 G k args K) := by
  intro a b K ha hb
  show W _ K (f57 G k (ivs a) (ivs b) K)
  unfold f57
  unfold NotOK at hN
  refine W_call (hN _ _ _ ha hb) ?_
  rintro _ rfl
  (repeat (with_reducible (first | (refine W_uI ?_) | (refine W_uS ?_) | (refine W_uL ?_) | (refine W_uA ?_) | (refine W_uB ?_) | (refine W_aI ?_) | (refine W_aL ?_) | (refine W_ca3 ?_) | (refine W_ce3 ?_) | (refine W_ca4 ?_) | (refine W_ce4 ?_) | (refine W_ca5 ?_) | (refine W_ce5 ?_) | (refine W_ca6 ?_) | (refine W_ce6 ?_) | (refine W_ca7 ?_) | (refine W_ce7 ?_) | (refine W_ca8 ?_) | (refine W_ce8 ?_) | (refine W_nd7 ?_) | (refine W_unCons ?_) | (refine W_unNil ?_) | (refine W_asInt ?_) | (refine W_asBool ?_) | (refine W_asStr ?_) | (refine W_asSl ?_) | (refine W_asAgg ?_) | (refine W_kd ?_) | (refine W_z ?_))))
  refine W_call (hN _ _ _ ha (Nat.le_trans notL_len ha)) ?_
  rintro _ rfl
  (repeat (with_reducible (first | (refine W_uI ?_) | (refine W_uS ?_) | (refine W_uL ?_) | (refine W_uA ?_) | (refine W_uB ?_) | (refine W_aI ?_) | (refine W_aL ?_) | (refine W_ca3 ?_) | (refine W_ce3 ?_) | (refine W_ca4 ?_) | (refine W_ce4 ?_) | (refine W_ca5 ?_) | (refine W_ce5 ?_) | (refine W_ca6 ?_) | (refine W_ce6 ?_) | (refine W_ca7 ?_) | (refine W_ce7 ?_) | (refine W_ca8 ?_) | (refine W_ce8 ?_) | (refine W_nd7 ?_) | (refine W_unCons ?_) | (refine W_unNil ?_) | (refine W_asInt ?_) | (refine W_asBool ?_) | (refine W_asStr ?_) | (refine W_asSl ?_) | (refine W_asAgg ?_) | (refine W_kd ?_) | (refine W_z ?_))))
  exact W_ret rfl
/-! The states right in a node. -/
def StatesOK (G : ORC R) : Prop := ∀ (ns : List Nd) (i : Int) (K : List V → Option R), ns.length ≤ 1000 → W (fun o => o = [.sl 1 (ivs (statesN ns i))]) K (G 67 [.sl 7 (ns.map Nd.v), .int .i64 i] K)
theorem filt_snoc {l : List Int} {p : Int → Bool} {x : Int} : (l ++ [x]).filter p = l.filter p ++ if p x then [x] else [] := by
  rw [List.filter_append, List.filter_cons]; cases p x <;> simp
theorem kid_at {ns : List Nd} {i x : Int} {m : Nat} (h : (kidsN ns i)[m]? = some x) : ∃ (q : Nat) (n : Nd), x = q ∧ ns[q]? = some n ∧ q < ns.length ∧ isSt ns x = decide (n.kind ≤ 3) := by
  obtain ⟨q, n, h1, h2, h3, _⟩ := mem_kidsN.1 (List.mem_of_getElem? h)
  exact ⟨q, n, h1, h2, (List.getElem?_eq_some_iff.1 h2).1, by unfold isSt; rw [h1, Int.toNat_natCast, h2]⟩
theorem states_loop (hS : IsStOK G) {Q : List V → Prop} {K : List V → Option R} {Ko : List V → Option R} {ns : List Nd} {i : Int} (hl : ns.length ≤ 1000) (hKo : W Q K (Ko (ivs (statesN ns i)))) :
    ∀ (j m : Nat), (kidsN ns i).length - m < j → m ≤ (kidsN ns i).length → W Q K (l67_0g G k Ko j (ns.map Nd.v) (ivs (((kidsN ns i).take m).filter (isSt ns))) (ivs (kidsN ns i)) m)
  | 0, m, h1, h2 => by omega
  | j + 1, m, h1, h2 => by
    show W Q K (b67_0 G k (l67_0g G k Ko j) Ko (ns.map Nd.v) (ivs (((kidsN ns i).take m).filter (isSt ns))) (ivs (kidsN ns i)) m)
    unfold b67_0
    have hkl : (kidsN ns i).length ≤ ns.length := kidsGo_len
    refine W_dec (fun h => ?_) (fun h => by rw [ivs_len] at h; rw [List.take_of_length_le (by omega)]; exact hKo)
    rw [ivs_len] at h
    obtain ⟨x, hx⟩ := get_ex (l := kidsN ns i) (m := m) (by omega)
    obtain ⟨q, n, rfl, hn, hq, hst⟩ := kid_at hx
    have hfl := List.length_filter_le (isSt ns) ((kidsN ns i).take m)
    rw [List.length_take] at hfl
    unfold IsStOK at hS
    refine W_at (by omega) (ivs_atZ hx) (W_aI ?_)
    refine W_at (by omega) (by rw [Int.toNat_natCast]; exact nd_get hn) (W_asAgg ?_)
    refine W_call (hS n _) ?_
    rintro _ rfl
    (repeat (with_reducible (first | (refine W_uI ?_) | (refine W_uS ?_) | (refine W_uL ?_) | (refine W_uA ?_) | (refine W_uB ?_) | (refine W_aI ?_) | (refine W_aL ?_) | (refine W_ca3 ?_) | (refine W_ce3 ?_) | (refine W_ca4 ?_) | (refine W_ce4 ?_) | (refine W_ca5 ?_) | (refine W_ce5 ?_) | (refine W_ca6 ?_) | (refine W_ce6 ?_) | (refine W_ca7 ?_) | (refine W_ce7 ?_) | (refine W_ca8 ?_) | (refine W_ce8 ?_) | (refine W_nd7 ?_) | (refine W_unCons ?_) | (refine W_unNil ?_) | (refine W_asInt ?_) | (refine W_asBool ?_) | (refine W_asStr ?_) | (refine W_asSl ?_) | (refine W_asAgg ?_) | (refine W_kd ?_) | (refine W_z ?_))))
    have next : ∀ c, c = ivs (((kidsN ns i).take (m + 1)).filter (isSt ns)) → W Q K (l67_0g G k Ko j (ns.map Nd.v) c (ivs (kidsN ns i)) (IntKind.i64.wrap ((m : Int) + 1))) := fun c hc => by
      rw [wrap_id (n := (m : Int) + 1) (by omega), hc]
      exact states_loop hS hl hKo j (m + 1) (by omega) (by omega)
    rw [← hst]
    refine W_bool (fun hb => ?_) (fun hb => next _ (by rw [take_snoc hx, filt_snoc, hb]; simp))
    refine W_at (by omega) (ivs_atZ hx) (W_aI ?_)
    exact W_yes (by rw [ivs_len]; omega) (next _ (by rw [take_snoc hx, filt_snoc, hb]; simp [ivs]))
theorem states_ok (hk : 10000 ≤ k) (hK : KidsOK 24 G) (hS : IsStOK G) : StatesOK (fun _ args (K : List V → Option R) => g67 G k args K) := by
  intro ns i K hl
  show W _ K (f67 G k (ns.map Nd.v) i K)
  unfold f67
  unfold KidsOK at hK
  refine W_call (hK _ _ _ hl) ?_
  rintro _ rfl
  (repeat (with_reducible (first | (refine W_uI ?_) | (refine W_uS ?_) | (refine W_uL ?_) | (refine W_uA ?_) | (refine W_uB ?_) | (refine W_aI ?_) | (refine W_aL ?_) | (refine W_ca3 ?_) | (refine W_ce3 ?_) | (refine W_ca4 ?_) | (refine W_ce4 ?_) | (refine W_ca5 ?_) | (refine W_ce5 ?_) | (refine W_ca6 ?_) | (refine W_ce6 ?_) | (refine W_ca7 ?_) | (refine W_ce7 ?_) | (refine W_ca8 ?_) | (refine W_ce8 ?_) | (refine W_nd7 ?_) | (refine W_unCons ?_) | (refine W_unNil ?_) | (refine W_asInt ?_) | (refine W_asBool ?_) | (refine W_asStr ?_) | (refine W_asSl ?_) | (refine W_asAgg ?_) | (refine W_kd ?_) | (refine W_z ?_))))
  unfold l67_0
  have hkl : (kidsN ns i).length ≤ ns.length := kidsGo_len
  exact states_loop (Q := fun o => o = [.sl 1 (ivs (statesN ns i))]) (K := K) (Ko := fun x => K [.sl 1 x]) hS hl (W_ret rfl) k 0 (by omega) (by omega)
theorem statesN_len {ns : List Nd} {i : Int} : (statesN ns i).length ≤ ns.length := Nat.le_trans (List.length_filter_le _ _) kidsGo_len
theorem andL_len {a b : List Int} : (andL a b).length ≤ a.length := notL_len
/-! The document's Legal. -/
end
end Go.Proofs.Ytblabbcmokldiaa.Vm
set_option linter.unusedVariables false
namespace Go.VM
def Asc (l : List Int) : Prop := l.Pairwise fun a b => a < b
theorem mem_statesN {ns : List Nd} {a : Nat} {x : Int} (ha : a < ns.length) : x ∈ statesN ns a ↔ ∃ (q : Nat) (m : Nd), x = q ∧ ns[q]? = some m ∧ m.parent = a ∧ m.kind ≤ 3 := by
  unfold statesN
  rw [List.mem_filter, mem_kidsN]
  constructor
  · rintro ⟨⟨q, m, h1, h2, h3, _⟩, h4⟩
    refine ⟨q, m, h1, h2, h3, ?_⟩
    unfold isSt at h4
    rw [h1, Int.toNat_natCast, h2] at h4
    exact of_decide_eq_true h4
  · rintro ⟨q, m, h1, h2, h3, h4⟩
    refine ⟨⟨q, m, h1, h2, h3, by omega, by omega⟩, ?_⟩
    unfold isSt
    rw [h1, Int.toNat_natCast, h2]
    exact decide_eq_true h4
theorem kidsGo_asc {l : List Nd} {i : Int} : ∀ {m : Nat}, Asc (kidsGo l i m)
  | 0 => List.Pairwise.nil
  | m + 1 => by
    unfold kidsGo
    refine List.pairwise_append.2 ⟨kidsGo_asc (m := m), by split <;> simp, fun x hx y hy => ?_⟩
    obtain ⟨q, h1, h2, _⟩ := mem_kidsGo.1 hx
    split at hy
    · rw [List.mem_singleton] at hy; omega
    · simp at hy
theorem statesN_asc {ns : List Nd} {i : Int} : Asc (statesN ns i) := List.Pairwise.filter _ kidsGo_asc
theorem asc_one : ∀ {l : List Int} {x : Int}, Asc l → x ∈ l → (l.filter fun y => decide (y = x)).length = 1
  | [], x, _, h => by simp at h
  | a :: r, x, h, hx => by
    obtain ⟨h1, h2⟩ := List.pairwise_cons.1 h
    rw [List.filter_cons]
    by_cases e : a = x
    · rw [if_pos (decide_eq_true e), List.length_cons, List.filter_eq_nil_iff.2]
      · rfl
      · intro y hy
        have := h1 y hy
        simp; omega
    · rw [if_neg (by simpa using e)]
      rcases List.mem_cons.1 hx with h3 | h3
      · exact absurd h3.symm e
      · exact asc_one h2 h3
/-- What lies in a kid lies in its parent. -/
theorem kid_in {ns : List Nd} (T : Tree ns) {a k : Nat} {n m : Nd} (ha : ns[a]? = some n) (hk : ns[k]? = some m) (hp : m.parent = a) : a < k ∧ (k : Int) ≤ n.last ∧ m.last ≤ n.last := by
  have h0 := T.seg.par k m hk
  have h1 := T.seg.lam a k n m ha hk (by omega)
  have hal := T.seg.last a n ha
  refine ⟨by omega, by omega, ?_⟩
  have hkl := T.seg.last k m hk
  have key : ∀ d j : Nat, j < d → k ≤ j → (j : Int) ≤ m.last → (j : Int) ≤ n.last := by
    intro d
    induction d with
    | zero => intro j h; omega
    | succ d ih =>
      intro j hj h2 h3
      by_cases e : j = k
      · subst e; omega
      · obtain ⟨x, hx⟩ : ∃ x, ns[j]? = some x := ⟨_, List.getElem?_eq_getElem (by omega)⟩
        have l1 := T.seg.lam k j m x hk hx (by omega)
        have l2 := T.seg.lam a j n x ha hx (by omega)
        have l3 := T.seg.par j x hx
        have := ih x.parent.toNat (by omega) (by omega) (by omega)
        omega
  have := key (m.last.toNat + 1) m.last.toNat (by omega) (by omega) (by omega)
  omega
/-- Kids' ranges lie behind each other. -/
theorem kid_apart {ns : List Nd} (T : Tree ns) {a k k' : Nat} {m m' : Nd} (hk : ns[k]? = some m) (hp : m.parent = a) (hk' : ns[k']? = some m') (hp' : m'.parent = a) (h : k < k') : m.last < k' := by
  have l1 := T.seg.lam k k' m m' hk hk' h
  have l2 := T.seg.par k m hk
  omega
end Go.VM
open Go Go.VM
set_option linter.unusedVariables false
set_option maxRecDepth 100000
set_option maxHeartbeats 4000000
namespace Go.Proofs.Ytblabbcmokldiaa.Vm
/-! ### cotillion/cotillionref14.Exit: function 47 -/
def P47_2h : Pat := { tmps := unds [.var (.sl 7) .ro, .var (.sl 1) .ro, .var (.sl 1) .ro, .undef, .undef, .undef, .undef, .var (.sl 1) (.own true), .var (.int .i64) .pr, .var .bool .pr, .var (.int .i64) .pr] 46 [], boxes := nons [] 57 [] }
def P47_2x : Pat := { tmps := unds [.var (.sl 7) .ro, .var (.sl 1) .ro, .var (.sl 1) .ro, .undef, .undef, .undef, .undef, .var (.sl 1) (.own true), .var (.int .i64) .pr, .var .bool .pr] 47 [], boxes := nons [] 57 [] }
def b47_2 {R : Type} (G : ORC R) (k : Nat) (X : List V → List V → List V → List V → Int → Bool → Int → Option R) (Ko : List V → List V → List V → List V → Int → Bool → Option R) (xl9 xl10 : List V) (xl11 xl12 : List V) (xi13 : Int) (xb14 : Bool) (xi15 : Int) : Option R :=
  (bif (decide (xi15 < ((List.length xl11 : Nat) : Int))) then (bif xb14 then (X xl9 xl10 xl11 xl12 xi13 true (IntKind.i64.wrap (xi15 + 1))) else (bif ((decide (0 ≤ xi13)) && (decide (xi13 < ((List.length xl10 : Nat) : Int)))) then (nthK xl10 (Int.toNat xi13) fun e16 => (aI .i64 e16 fun n17 => (bif ((decide (0 ≤ xi15)) && (decide (xi15 < ((List.length xl11 : Nat) : Int)))) then (nthK xl11 (Int.toNat xi15) fun e18 => (aI .i64 e18 fun n19 => (bif (n17 != n19) then (bif ((decide (0 ≤ xi13)) && (decide (xi13 < ((List.length xl10 : Nat) : Int)))) then (nthK xl10 (Int.toNat xi13) fun e20 => (aI .i64 e20 fun n21 => (bif ((decide (0 ≤ xi15)) && (decide (xi15 < ((List.length xl11 : Nat) : Int)))) then (nthK xl11 (Int.toNat xi15) fun e22 => (aI .i64 e22 fun n23 => (G 21 [(.sl 7 xl9), (.int .i64 n21), (.int .i64 n23)] fun o24 => (uB o24 fun b26 r25 => (unNil r25 (X xl9 xl10 xl11 xl12 xi13 b26 (IntKind.i64.wrap (xi15 + 1)))))))) else none))) else none) else (X xl9 xl10 xl11 xl12 xi13 false (IntKind.i64.wrap (xi15 + 1)))))) else none))) else none)) else (Ko xl9 xl10 xl11 xl12 xi13 xb14))
def l47_2g {R : Type} (G : ORC R) (k : Nat) (Ko : List V → List V → List V → List V → Int → Bool → Option R) : Nat → List V → List V → List V → List V → Int → Bool → Int → Option R
  | 0 => fun _ _ _ _ _ _ _ => none
  | j + 1 => b47_2 G k (l47_2g G k Ko j) Ko
def l47_2 {R : Type} (G : ORC R) (k : Nat) (xl9 xl10 : List V) (xl11 xl12 : List V) (xi13 : Int) (xb14 : Bool) (xi15 : Int) (Ko : List V → List V → List V → List V → Int → Bool → Option R) : Option R := l47_2g G k Ko k xl9 xl10 xl11 xl12 xi13 xb14 xi15
def P47_0h : Pat := { tmps := unds [.var (.sl 7) .ro, .var (.sl 1) .ro, .var (.sl 1) .ro, .undef, .undef, .undef, .undef, .var (.sl 1) (.own true), .var (.int .i64) .pr] 48 [], boxes := nons [] 57 [] }
def P47_0x : Pat := { tmps := unds [] 7 (unds [.var (.sl 1) (.own true)] 49 []), boxes := nons [] 57 [] }
def b47_0 {R : Type} (G : ORC R) (k : Nat) (X : List V → List V → List V → List V → Int → Option R) (Ko : List V → Option R) (xl4 xl5 : List V) (xl6 xl7 : List V) (xi8 : Int) : Option R :=
  (bif (decide (xi8 ≥ 0)) then (l47_2 G k xl4 xl5 xl6 xl7 xi8 false 0 (fun yl9 yl10 yl11 yl12 yi13 yb14 => (bif yb14 then (bif ((decide (0 ≤ yi13)) && (decide (yi13 < ((List.length yl10 : Nat) : Int)))) then (nthK yl10 (Int.toNat yi13) fun e15 => (aI .i64 e15 fun n16 => (bif (decide (List.length yl12 + 1 ≤ 1073741824)) then (X yl9 yl10 yl11 (yl12 ++ [(.int .i64 n16)]) (IntKind.i64.wrap (yi13 - 1))) else none))) else none) else (X yl9 yl10 yl11 yl12 (IntKind.i64.wrap (yi13 - 1)))))) else (Ko xl7))
def l47_0g {R : Type} (G : ORC R) (k : Nat) (Ko : List V → Option R) : Nat → List V → List V → List V → List V → Int → Option R
  | 0 => fun _ _ _ _ _ => none
  | j + 1 => b47_0 G k (l47_0g G k Ko j) Ko
def l47_0 {R : Type} (G : ORC R) (k : Nat) (xl4 xl5 : List V) (xl6 xl7 : List V) (xi8 : Int) (Ko : List V → Option R) : Option R := l47_0g G k Ko k xl4 xl5 xl6 xl7 xi8
def rd47_2 {R : Type} (G : ORC R) (k : Nat) (K : Ex → St → Option R) (j : Nat) (vs : List V) : Option R := match vs with
  | [(.sl 7 xl9), (.sl 1 xl10), (.sl 1 xl11), (.sl 1 xl12), (.int .i64 xi13), (.bool xb14), (.int .i64 xi15)] => l47_2g G k (fun yl18 yl19 yl20 yl21 yi22 yb23 => K .normal (P47_2x.inst [(.sl 7 yl18), (.sl 1 yl19), (.sl 1 yl20), (.sl 1 yl21), (.int .i64 yi22), (.bool yb23)])) j xl9 xl10 xl11 xl12 xi13 xb14 xi15
  | _ => none
def rd47_0 {R : Type} (G : ORC R) (k : Nat) (K : Ex → St → Option R) (j : Nat) (vs : List V) : Option R := match vs with
  | [(.sl 7 xl4), (.sl 1 xl5), (.sl 1 xl6), (.sl 1 xl7), (.int .i64 xi8)] => l47_0g G k (fun yl24 => K .normal (P47_0x.inst [(.sl 1 yl24)])) j xl4 xl5 xl6 xl7 xi8
  | _ => none
def L47 {R : Type} (G : ORC R) (k : Nat) : Nat → St → (Ex → St → Option R) → Option R
  | 2, S, K => P47_2h.mat S fun vs => rd47_2 G k K k vs
  | 0, S, K => P47_0h.mat S fun vs => rd47_0 G k K k vs
  | _, _, _ => none
def f47 {R : Type} (G : ORC R) (k : Nat) (al1 al2 al3 : List V) (K : List V → Option R) : Option R :=
  (l47_0 G k al1 al2 al3 [] (IntKind.i64.wrap (((List.length al2 : Nat) : Int) - 1)) (fun yl17 => (K [(.sl 1 yl17)])))
noncomputable def D47_2 : LoopD := { id := 2, body := loopAt 2 (bodyOf Try.f47), head := P47_2h, out := P47_2x, ret := default }
theorem l47_2_is {R : Type} (G : ORC R) (k : Nat) (X : List V → Option R) (K : Ex → St → Option R) (xl9 xl10 : List V) (xl11 xl12 : List V) (xi13 : Int) (xb14 : Bool) (xi15 : Int) :
    roundOf (TAB.env 47) G (L47 G k) D47_2 X K [(.sl 7 xl9), (.sl 1 xl10), (.sl 1 xl11), (.sl 1 xl12), (.int .i64 xi13), (.bool xb14), (.int .i64 xi15)] = b47_2 G k (fun xl9 xl10 xl11 xl12 xi13 xb14 xi15 => X [(.sl 7 xl9), (.sl 1 xl10), (.sl 1 xl11), (.sl 1 xl12), (.int .i64 xi13), (.bool xb14), (.int .i64 xi15)]) (fun yl18 yl19 yl20 yl21 yi22 yb23 => K .normal (P47_2x.inst [(.sl 7 yl18), (.sl 1 yl19), (.sl 1 yl20), (.sl 1 yl21), (.int .i64 yi22), (.bool yb23)])) xl9 xl10 xl11 xl12 xi13 xb14 xi15 := by kernel_rfl
noncomputable def D47_0 : LoopD := { id := 0, body := loopAt 0 (bodyOf Try.f47), head := P47_0h, out := P47_0x, ret := default }
theorem l47_0_is {R : Type} (G : ORC R) (k : Nat) (X : List V → Option R) (K : Ex → St → Option R) (xl4 xl5 : List V) (xl6 xl7 : List V) (xi8 : Int) :
    roundOf (TAB.env 47) G (L47 G k) D47_0 X K [(.sl 7 xl4), (.sl 1 xl5), (.sl 1 xl6), (.sl 1 xl7), (.int .i64 xi8)] = b47_0 G k (fun xl4 xl5 xl6 xl7 xi8 => X [(.sl 7 xl4), (.sl 1 xl5), (.sl 1 xl6), (.sl 1 xl7), (.int .i64 xi8)]) (fun yl24 => K .normal (P47_0x.inst [(.sl 1 yl24)])) xl4 xl5 xl6 xl7 xi8 := by kernel_rfl
theorem f47_is {R : Type} (G : ORC R) (k : Nat) (K : List V → Option R) (al1 al2 al3 : List V) :
    callF (TAB.env 47) G (L47 G k) Try.f47 S47 [(.sl 7 al1), (.sl 1 al2), (.sl 1 al3)] K = f47 G k al1 al2 al3 K := by kernel_rfl
theorem li47_2 {R : Type} (G : ORC R) (k : Nat) : LoopIs (TAB.env 47) G (L47 G k) 2 (loopAt 2 (bodyOf Try.f47)) :=
  ⟨D47_2, fun j vs K => rd47_2 G k K j vs, k, rfl, rfl, by kernel_rfl, by kernel_rfl, by kernel_rfl, (fun vs K => by unfold rd47_2; dsimp only; split <;> rfl),
    (fun j vs K r h => by
      unfold rd47_2 at h
      dsimp only at h
      split at h
      · rw [l47_2_is]; exact h
      · cases h), (fun S K r h => h)⟩
theorem li47_0 {R : Type} (G : ORC R) (k : Nat) : LoopIs (TAB.env 47) G (L47 G k) 0 (loopAt 0 (bodyOf Try.f47)) :=
  ⟨D47_0, fun j vs K => rd47_0 G k K j vs, k, rfl, rfl, by kernel_rfl, by kernel_rfl, by kernel_rfl, (fun vs K => by unfold rd47_0; dsimp only; split <;> rfl),
    (fun j vs K r h => by
      unfold rd47_0 at h
      dsimp only at h
      split at h
      · rw [l47_0_is]; exact h
      · cases h), (fun S K r h => h)⟩
theorem lo47 : loopsOf (bodyOf Try.f47) = [(0, loopAt 0 (bodyOf Try.f47)), (2, loopAt 2 (bodyOf Try.f47))] := by kernel_rfl
theorem la47 {R : Type} (G : ORC R) (k : Nat) : LoopsAre (TAB.env 47) G (L47 G k) (bodyOf Try.f47) :=
  loopsAre_of (by rw [lo47]; intro p hp; simp only [List.mem_cons, List.not_mem_nil, or_false] at hp; rcases hp with rfl | rfl <;> first | exact li47_0 G k | exact li47_2 G k)
def g47 {R : Type} (G : ORC R) (k : Nat) (args : List V) (K : List V → Option R) : Option R := match args with
  | [(.sl 7 al1), (.sl 1 al2), (.sl 1 al3)] => f47 G k al1 al2 al3 K
  | _ => none
theorem s47 {R : Type} {G : ORC R} {k : Nat} (hG : Sound Try.prog TAB G) (args : List V) (K : List V → Option R) (r : R) (h : g47 G k args K = some r) : ∃ o, CallOK Try.prog TAB.env 47 args o ∧ K o = some r := by
  unfold g47 at h
  split at h
  · rw [← f47_is] at h
    exact callF_sound (f := 47) TAB_chk MO hG Try.func47 (sg := S47) (by kernel_rfl) (by kernel_rfl) (la47 G k) h
  · cases h
end Go.Proofs.Ytblabbcmokldiaa.Vm
open Go Go.VM
set_option linter.unusedVariables false
set_option maxRecDepth 100000
set_option maxHeartbeats 4000000
namespace Go.Proofs.Ytblabbcmokldiaa.Vm
/-! ### cotillion/cotillionlaw15.some: function 56 -/
def P56_1h : Pat := { tmps := unds [.var (.sl 7) .ro, .stat (.one (.ptr 0 0) .pt)] 5 (unds [.var (.sl 1) (.own false), .var (.sl 1) .ro, .var (.int .i64) .pr] 42 []), boxes := nons [some [.var (.sl 1) .ro true, .var (.int .i64) .pr false]] 52 [] }
def P56_1x : Pat := { tmps := unds [] 7 (unds [.var (.sl 1) (.own false)] 44 []), boxes := nons [some [.var (.sl 1) .ro true, .var (.int .i64) .pr false]] 52 [] }
def b56_1 {R : Type} (G : ORC R) (k : Nat) (X : List V → List V → List V → Int → List V → Int → Option R) (Ko : List V → List V → Int → Option R) (xl29 xl30 xl31 : List V) (xi32 : Int) (xl33 : List V) (xi34 : Int) : Option R :=
  (bif (decide (xi32 < ((List.length xl31 : Nat) : Int))) then (bif ((decide (0 ≤ xi32)) && (decide (xi32 < ((List.length xl31 : Nat) : Int)))) then (nthK xl31 (Int.toNat xi32) fun e35 => (aI .i64 e35 fun n36 => (G 56 [(.sl 7 xl29), (.int .i64 n36), (.sl 1 xl33), (.int .i64 xi34)] fun o37 => (uL 1 o37 fun l39 r38 => (uI .i64 r38 fun n41 r40 => (unNil r40 (bif (decide (List.length xl30 + List.length l39 ≤ 1073741824)) then (X xl29 (xl30 ++ l39) xl31 (IntKind.i64.wrap (xi32 + 1)) xl33 n41) else none))))))) else none) else (Ko xl30 xl33 xi34))
def l56_1g {R : Type} (G : ORC R) (k : Nat) (Ko : List V → List V → Int → Option R) : Nat → List V → List V → List V → Int → List V → Int → Option R
  | 0 => fun _ _ _ _ _ _ => none
  | j + 1 => b56_1 G k (l56_1g G k Ko j) Ko
def l56_1 {R : Type} (G : ORC R) (k : Nat) (xl29 xl30 xl31 : List V) (xi32 : Int) (xl33 : List V) (xi34 : Int) (Ko : List V → List V → Int → Option R) : Option R := l56_1g G k Ko k xl29 xl30 xl31 xi32 xl33 xi34
def rd56_1 {R : Type} (G : ORC R) (k : Nat) (K : Ex → St → Option R) (j : Nat) (vs : List V) : Option R := match vs with
  | [(.sl 7 xl29), (.sl 1 xl30), (.sl 1 xl31), (.int .i64 xi32), (.sl 1 xl33), (.int .i64 xi34)] => l56_1g G k (fun yl45 yl46 yi47 => K .normal (P56_1x.inst [(.sl 1 yl45), (.sl 1 yl46), (.int .i64 yi47)])) j xl29 xl30 xl31 xi32 xl33 xi34
  | _ => none
def L56 {R : Type} (G : ORC R) (k : Nat) : Nat → St → (Ex → St → Option R) → Option R
  | 1, S, K => P56_1h.mat S fun vs => rd56_1 G k K k vs
  | _, _, _ => none
def f56 {R : Type} (G : ORC R) (k : Nat) (al1 : List V) (ai2 : Int) (bl3 : List V) (bi4 : Int) (K : List V → Option R) : Option R :=
  (G 67 [(.sl 7 al1), (.int .i64 ai2)] fun o5 => (uL 1 o5 fun l7 r6 => (unNil r6 (bif ((decide (0 ≤ ai2)) && (decide (ai2 < ((List.length al1 : Nat) : Int)))) then (nthK al1 (Int.toNat ai2) fun e8 => (ca7 e8 fun c9 c10 c11 c12 c13 c14 c15 => (aI .i64 c9 fun n16 => (bif (n16 == 2) then (G 68 [(.int .i64 ((List.length l7 : Nat) : Int)), (.sl 1 bl3), (.int .i64 bi4)] fun o17 => (uI .i64 o17 fun n19 r18 => (uI .i64 r18 fun n21 r20 => (unNil r20 (bif ((decide (0 ≤ n19)) && (decide (n19 < ((List.length l7 : Nat) : Int)))) then (nthK l7 (Int.toNat n19) fun e22 => (aI .i64 e22 fun n23 => (G 56 [(.sl 7 al1), (.int .i64 n23), (.sl 1 bl3), (.int .i64 n21)] fun o24 => (uL 1 o24 fun l26 r25 => (uI .i64 r25 fun n28 r27 => (unNil r27 (bif (decide (1 + List.length l26 ≤ 1073741824)) then (K [(.sl 1 ([(.int .i64 ai2)] ++ l26)), (.int .i64 n28)]) else none))))))) else none))))) else (bif (n16 == 3) then (l56_1 G k al1 [(.int .i64 ai2)] l7 0 bl3 bi4 (fun yl42 yl43 yi44 => (K [(.sl 1 yl42), (.int .i64 yi44)]))) else (K [(.sl 1 [(.int .i64 ai2)]), (.int .i64 bi4)])))))) else none))))
noncomputable def D56_1 : LoopD := { id := 1, body := loopAt 1 (bodyOf Try.f56), head := P56_1h, out := P56_1x, ret := default }
theorem l56_1_is {R : Type} (G : ORC R) (k : Nat) (X : List V → Option R) (K : Ex → St → Option R) (xl29 xl30 xl31 : List V) (xi32 : Int) (xl33 : List V) (xi34 : Int) :
    roundOf (TAB.env 56) G (L56 G k) D56_1 X K [(.sl 7 xl29), (.sl 1 xl30), (.sl 1 xl31), (.int .i64 xi32), (.sl 1 xl33), (.int .i64 xi34)] = b56_1 G k (fun xl29 xl30 xl31 xi32 xl33 xi34 => X [(.sl 7 xl29), (.sl 1 xl30), (.sl 1 xl31), (.int .i64 xi32), (.sl 1 xl33), (.int .i64 xi34)]) (fun yl45 yl46 yi47 => K .normal (P56_1x.inst [(.sl 1 yl45), (.sl 1 yl46), (.int .i64 yi47)])) xl29 xl30 xl31 xi32 xl33 xi34 := by kernel_rfl
theorem f56_is {R : Type} (G : ORC R) (k : Nat) (K : List V → Option R) (al1 : List V) (ai2 : Int) (bl3 : List V) (bi4 : Int) :
    callF (TAB.env 56) G (L56 G k) Try.f56 S56 [(.sl 7 al1), (.int .i64 ai2), (.sl 1 bl3), (.int .i64 bi4)] K = f56 G k al1 ai2 bl3 bi4 K := by kernel_rfl
theorem li56_1 {R : Type} (G : ORC R) (k : Nat) : LoopIs (TAB.env 56) G (L56 G k) 1 (loopAt 1 (bodyOf Try.f56)) :=
  ⟨D56_1, fun j vs K => rd56_1 G k K j vs, k, rfl, rfl, by kernel_rfl, by kernel_rfl, by kernel_rfl, (fun vs K => by unfold rd56_1; dsimp only; split <;> rfl),
    (fun j vs K r h => by
      unfold rd56_1 at h
      dsimp only at h
      split at h
      · rw [l56_1_is]; exact h
      · cases h), (fun S K r h => h)⟩
theorem lo56 : loopsOf (bodyOf Try.f56) = [(1, loopAt 1 (bodyOf Try.f56))] := by kernel_rfl
theorem la56 {R : Type} (G : ORC R) (k : Nat) : LoopsAre (TAB.env 56) G (L56 G k) (bodyOf Try.f56) :=
  loopsAre_of (by rw [lo56]; intro p hp; simp only [List.mem_cons, List.not_mem_nil, or_false] at hp; subst hp; exact li56_1 G k)
def g56 {R : Type} (G : ORC R) (k : Nat) (args : List V) (K : List V → Option R) : Option R := match args with
  | [(.sl 7 al1), (.int .i64 ai2), (.sl 1 bl3), (.int .i64 bi4)] => f56 G k al1 ai2 bl3 bi4 K
  | _ => none
theorem s56 {R : Type} {G : ORC R} {k : Nat} (hG : Sound Try.prog TAB G) (args : List V) (K : List V → Option R) (r : R) (h : g56 G k args K = some r) : ∃ o, CallOK Try.prog TAB.env 56 args o ∧ K o = some r := by
  unfold g56 at h
  split at h
  · rw [← f56_is] at h
    exact callF_sound (f := 56) TAB_chk MO hG Try.func56 (sg := S56) (by kernel_rfl) (by kernel_rfl) (la56 G k) h
  · cases h
end Go.Proofs.Ytblabbcmokldiaa.Vm
open Go Go.VM
set_option linter.unusedVariables false
set_option linter.unusedSimpArgs false
set_option maxRecDepth 100000
set_option maxHeartbeats 8000000
namespace Go.Proofs.Ytblabbcmokldiaa.Vm
section
variable {R : Type} {G : ORC R} {k : Nat} {K : List V → Option R}
def isEx (ns : List Nd) (d c : Int) : Bool := !(c == d) && inN ns c d
def exitN (ns : List Nd) (C : List Int) (d : Int) : List Int := (C.filter (isEx ns d)).reverse
def ExitOK (G : ORC R) : Prop := ∀ (ns : List Nd) (C : List Int) (d : Int) (K : List V → Option R), C.length ≤ 9000 → W (fun o => o = [.sl 1 (ivs (exitN ns C d))]) K (G 47 [.sl 7 (ns.map Nd.v), .sl 1 (ivs C), .sl 1 [.int .i64 d]] K)
theorem exit_in (hI : InOK G) {Q : List V → Prop} {K : List V → Option R} {Ko : List V → List V → List V → List V → Int → Bool → Option R} {ns : List Nd} {C : List Int} {d : Int} {out : List V} {i : Nat} {c : Int} (hc : C[i]? = some c)
    (hKo : W Q K (Ko (ns.map Nd.v) (ivs C) [.int .i64 d] out i (isEx ns d c))) : ∀ j : Nat, 2 ≤ j → W Q K (l47_2g G k Ko j (ns.map Nd.v) (ivs C) [.int .i64 d] out i false 0)
  | 0, h => by omega
  | 1, h => by omega
  | j + 2, h => by
    show W Q K (b47_2 G k (l47_2g G k Ko (j + 1)) Ko (ns.map Nd.v) (ivs C) [.int .i64 d] out i false 0)
    unfold b47_2
    have last : ∀ b, b = isEx ns d c → W Q K (l47_2g G k Ko (j + 1) (ns.map Nd.v) (ivs C) [.int .i64 d] out i b (IntKind.i64.wrap (0 + 1))) := fun b hb => by
      show W Q K (b47_2 G k (l47_2g G k Ko j) Ko (ns.map Nd.v) (ivs C) [.int .i64 d] out i b (IntKind.i64.wrap (0 + 1)))
      unfold b47_2
      rw [hb]
      exact W_no (by rw [wrap_id (n := 0 + 1) (by omega)]; simp) hKo
    have hd : ([V.int .i64 d])[(0 : Int).toNat]? = some (.int .i64 d) := rfl
    unfold InOK at hI
    refine W_yes (by simp) (W_chk' rfl ?_)
    refine W_at (by omega) (ivs_atZ hc) (W_aI ?_)
    refine W_at (by omega) hd (W_aI ?_)
    refine W_not (W_beqI (fun e => last _ (by unfold isEx; rw [beq_iff_eq.2 e]; rfl)) (fun e => ?_))
    refine W_at (by omega) (ivs_atZ hc) (W_aI ?_)
    refine W_at (by omega) hd (W_aI ?_)
    refine W_call (hI _ _ _ _) ?_
    rintro _ rfl
    (repeat (with_reducible (first | (refine W_uI ?_) | (refine W_uS ?_) | (refine W_uL ?_) | (refine W_uA ?_) | (refine W_uB ?_) | (refine W_aI ?_) | (refine W_aL ?_) | (refine W_ca3 ?_) | (refine W_ce3 ?_) | (refine W_ca4 ?_) | (refine W_ce4 ?_) | (refine W_ca5 ?_) | (refine W_ce5 ?_) | (refine W_ca6 ?_) | (refine W_ce6 ?_) | (refine W_ca7 ?_) | (refine W_ce7 ?_) | (refine W_ca8 ?_) | (refine W_ce8 ?_) | (refine W_nd7 ?_) | (refine W_unCons ?_) | (refine W_unNil ?_) | (refine W_asInt ?_) | (refine W_asBool ?_) | (refine W_asStr ?_) | (refine W_asSl ?_) | (refine W_asAgg ?_) | (refine W_kd ?_) | (refine W_z ?_))))
    exact last _ (by unfold isEx; rw [beq_eq_false_iff_ne.2 e]; rfl)
theorem exit_loop (hk : 10000 ≤ k) (hI : InOK G) {Q : List V → Prop} {K : List V → Option R} {Ko : List V → Option R} {ns : List Nd} {C : List Int} {d : Int} (hcl : C.length ≤ 9000) (hKo : W Q K (Ko (ivs (exitN ns C d)))) :
    ∀ (j i : Nat), i < j → i ≤ C.length → W Q K (l47_0g G k Ko j (ns.map Nd.v) (ivs C) [.int .i64 d] (ivs ((C.drop i).filter (isEx ns d)).reverse) ((i : Int) - 1))
  | 0, i, h1, h2 => by omega
  | j + 1, i, h1, h2 => by
    show W Q K (b47_0 G k (l47_0g G k Ko j) Ko (ns.map Nd.v) (ivs C) [.int .i64 d] (ivs ((C.drop i).filter (isEx ns d)).reverse) ((i : Int) - 1))
    unfold b47_0
    refine W_dec (fun h => ?_) (fun h => by rw [show i = 0 by omega, List.drop_zero]; exact hKo)
    obtain ⟨i, rfl⟩ : ∃ i', i = i' + 1 := ⟨i - 1, by omega⟩
    rw [show ((i + 1 : Nat) : Int) - 1 = i by omega]
    obtain ⟨c, hc⟩ := get_ex (l := C) (m := i) (by omega)
    have hdr : C.drop i = c :: C.drop (i + 1) := by
      obtain ⟨hi, e⟩ := List.getElem?_eq_some_iff.1 hc
      rw [List.drop_eq_getElem_cons hi, e]
    have hfl : ((C.drop (i + 1)).filter (isEx ns d)).reverse.length ≤ 9000 := by rw [List.length_reverse]; exact Nat.le_trans (List.length_filter_le _ _) (by rw [List.length_drop]; omega)
    have next : ∀ a, a = ivs ((C.drop i).filter (isEx ns d)).reverse → W Q K (l47_0g G k Ko j (ns.map Nd.v) (ivs C) [.int .i64 d] a (IntKind.i64.wrap ((i : Int) - 1))) := fun a ha => by
      rw [wrap_id (n := (i : Int) - 1) (by omega), ha]
      exact exit_loop hk hI hcl hKo j i (by omega) (by omega)
    rw [hdr, List.filter_cons] at next
    unfold l47_2
    refine exit_in hI hc ?_ k (by omega)
    refine W_bool (fun hb => ?_) (fun hb => next _ (by rw [hb]; rfl))
    refine W_at (by omega) (ivs_atZ hc) (W_aI ?_)
    exact W_yes (by rw [ivs_len]; omega) (next _ (by rw [hb, if_pos rfl, List.reverse_cons, ivs_app]; rfl))
theorem exit_ok (hk : 10000 ≤ k) (hI : InOK G) : ExitOK (fun _ args (K : List V → Option R) => g47 G k args K) := by
  intro ns C d K hcl
  show W _ K (f47 G k (ns.map Nd.v) (ivs C) [.int .i64 d] K)
  unfold f47 l47_0
  rw [ivs_len, wrap_id (n := (C.length : Int) - 1) (by omega)]
  have e : ivs ((C.drop C.length).filter (isEx ns d)).reverse = [] := by rw [List.drop_length]; rfl
  have := exit_loop (Q := fun o => o = [.sl 1 (ivs (exitN ns C d))]) (K := K) (Ko := fun x => K [.sl 1 x]) hk hI hcl (W_ret rfl) k C.length (by omega) (Nat.le_refl _)
  rw [e] at this
  exact this
/-- A row, chosen kid by kid, is not longer than the part of the tree. -/
def SomeL (d : Nat) (G : ORC R) : Prop := ∀ (ns : List Nd) (a : Nat) (n : Nd) (b : List V) (i : Int) (K : List V → Option R), Tree ns → ns.length ≤ 100 → ns[a]? = some n → n.kind ≤ 3 → n.last - a < d → RowS b i →
  W (fun o => ∃ C j, o = [.sl 1 (ivs C), .int .i64 j] ∧ (C.length : Int) ≤ n.last + 1 - a ∧ RowS b j) K (G 56 [.sl 7 (ns.map Nd.v), .int .i64 a, .sl 1 b, .int .i64 i] K)
theorem some_loop {d : Nat} (hS : SomeL d G) {Q : List V → Prop} {K : List V → Option R} {Ko : List V → List V → Int → Option R} {ns : List Nd} {a : Nat} {n : Nd} {b : List V} (T : Tree ns) (hl : ns.length ≤ 100) (ha : ns[a]? = some n) (hd : n.last - a < (d + 1 : Nat))
    (hKo : ∀ (D : List Int) j, (D.length : Int) ≤ n.last + 1 - a → RowS b j → W Q K (Ko (ivs D) b j)) :
    ∀ (j m : Nat) (D : List Int) (i : Int), (statesN ns a).length - m < j → m ≤ (statesN ns a).length → (D.length : Int) ≤ n.last + 1 - a → (∀ x, (statesN ns a)[m]? = some x → (D.length : Int) + a ≤ x) → RowS b i → W Q K (l56_1g G k Ko j (ns.map Nd.v) (ivs D) (ivs (statesN ns a)) m b i)
  | 0, m, D, i, h1, h2, h3, h5, h4 => by omega
  | j + 1, m, D, i, h1, h2, h3, h5, h4 => by
    show W Q K (b56_1 G k (l56_1g G k Ko j) Ko (ns.map Nd.v) (ivs D) (ivs (statesN ns a)) m b i)
    unfold b56_1
    have hsl : (statesN ns a).length ≤ ns.length := statesN_len
    refine W_dec (fun h => ?_) (fun h => hKo D i h3 h4)
    rw [ivs_len] at h
    obtain ⟨x, hx⟩ := get_ex (l := statesN ns a) (m := m) (by omega)
    have h6 := h5 x hx
    obtain ⟨q, m2, rfl, g1, g2, g3⟩ := (mem_statesN (Tree.lt ha)).1 (List.mem_of_getElem? hx)
    have hki := kid_in T ha g1 g2
    refine W_at (by omega) (ivs_atZ hx) (W_aI ?_)
    have hS' := hS
    unfold SomeL at hS'
    refine W_call (hS' ns q m2 b i _ T hl g1 g3 (by omega) h4) ?_
    rintro _ ⟨C, j2, rfl, hC, hj2⟩
    (repeat (with_reducible (first | (refine W_uI ?_) | (refine W_uS ?_) | (refine W_uL ?_) | (refine W_uA ?_) | (refine W_uB ?_) | (refine W_aI ?_) | (refine W_aL ?_) | (refine W_ca3 ?_) | (refine W_ce3 ?_) | (refine W_ca4 ?_) | (refine W_ce4 ?_) | (refine W_ca5 ?_) | (refine W_ce5 ?_) | (refine W_ca6 ?_) | (refine W_ce6 ?_) | (refine W_ca7 ?_) | (refine W_ce7 ?_) | (refine W_ca8 ?_) | (refine W_ce8 ?_) | (refine W_nd7 ?_) | (refine W_unCons ?_) | (refine W_unNil ?_) | (refine W_asInt ?_) | (refine W_asBool ?_) | (refine W_asStr ?_) | (refine W_asSl ?_) | (refine W_asAgg ?_) | (refine W_kd ?_) | (refine W_z ?_))))
    have hal := T.seg.last a n ha
    have hql := T.seg.last q m2 g1
    refine W_yes (by rw [ivs_len, ivs_len]; omega) ?_
    rw [wrap_id (n := (m : Int) + 1) (by omega), ← ivs_app]
    refine some_loop hS T hl ha hd hKo j (m + 1) (D ++ C) j2 (by omega) (by omega) (by rw [List.length_append]; omega) (fun y hy => ?_) hj2
    obtain ⟨q', m3, rfl, e1, e2, e3⟩ := (mem_statesN (Tree.lt ha)).1 (List.mem_of_getElem? hy)
    obtain ⟨hm1, u1⟩ := List.getElem?_eq_some_iff.1 hx
    obtain ⟨hm2, u2⟩ := List.getElem?_eq_some_iff.1 hy
    have hlt := List.pairwise_iff_getElem.1 (statesN_asc (ns := ns) (i := a)) m (m + 1) hm1 hm2 (by omega)
    rw [u1, u2] at hlt
    have := kid_apart T g1 g2 e1 e2 (by omega)
    rw [List.length_append]
    omega
theorem some_ok {d : Nat} (hk : 10000 ≤ k) (hSt : StatesOK G) (hN : NextS G) (hS : ∀ d', d = d' + 1 → SomeL d' G) : SomeL d (fun _ args (K : List V → Option R) => g56 G k args K) := by
  intro ns a n b i K T hl ha hk3 hd hr
  show W _ K (f56 G k (ns.map Nd.v) a b i K)
  have hal := T.seg.last a n ha
  cases d with
  | zero => omega
  | succ d =>
  have hS := hS d rfl
  unfold f56
  unfold StatesOK at hSt; unfold NextS at hN
  have hla := Tree.lt ha
  refine W_call (hSt _ _ _ (by omega)) ?_
  rintro _ rfl
  (repeat (with_reducible (first | (refine W_uI ?_) | (refine W_uS ?_) | (refine W_uL ?_) | (refine W_uA ?_) | (refine W_uB ?_) | (refine W_aI ?_) | (refine W_aL ?_) | (refine W_ca3 ?_) | (refine W_ce3 ?_) | (refine W_ca4 ?_) | (refine W_ce4 ?_) | (refine W_ca5 ?_) | (refine W_ce5 ?_) | (refine W_ca6 ?_) | (refine W_ce6 ?_) | (refine W_ca7 ?_) | (refine W_ce7 ?_) | (refine W_ca8 ?_) | (refine W_ce8 ?_) | (refine W_nd7 ?_) | (refine W_unCons ?_) | (refine W_unNil ?_) | (refine W_asInt ?_) | (refine W_asBool ?_) | (refine W_asStr ?_) | (refine W_asSl ?_) | (refine W_asAgg ?_) | (refine W_kd ?_) | (refine W_z ?_))))
  refine W_at (by omega) (by rw [Int.toNat_natCast]; exact nd_get ha) (W_nd7 (W_aI ?_))
  have hsl : (statesN ns a).length ≤ ns.length := statesN_len
  refine W_beqI (fun h2 => ?_) (fun h2 => ?_)
  · obtain ⟨m, m1, m2, m3⟩ := T.seg.first a n ha (.inl h2)
    have hne : 0 < (statesN ns a).length := List.length_pos_of_mem ((mem_statesN hla).2 ⟨a + 1, m, rfl, m1, by omega, m3⟩)
    refine W_call (hN _ _ _ _ (by rw [ivs_len]; omega) (by rw [ivs_len]; omega) hr) ?_
    rintro _ ⟨x, j, rfl, x0, x1, hj⟩
    (repeat (with_reducible (first | (refine W_uI ?_) | (refine W_uS ?_) | (refine W_uL ?_) | (refine W_uA ?_) | (refine W_uB ?_) | (refine W_aI ?_) | (refine W_aL ?_) | (refine W_ca3 ?_) | (refine W_ce3 ?_) | (refine W_ca4 ?_) | (refine W_ce4 ?_) | (refine W_ca5 ?_) | (refine W_ce5 ?_) | (refine W_ca6 ?_) | (refine W_ce6 ?_) | (refine W_ca7 ?_) | (refine W_ce7 ?_) | (refine W_ca8 ?_) | (refine W_ce8 ?_) | (refine W_nd7 ?_) | (refine W_unCons ?_) | (refine W_unNil ?_) | (refine W_asInt ?_) | (refine W_asBool ?_) | (refine W_asStr ?_) | (refine W_asSl ?_) | (refine W_asAgg ?_) | (refine W_kd ?_) | (refine W_z ?_))))
    rw [ivs_len] at x1
    obtain ⟨y, hy⟩ := get_ex (l := statesN ns a) (m := x.toNat) (by omega)
    obtain ⟨q, m2, rfl, g1, g2, g3⟩ := (mem_statesN hla).1 (List.mem_of_getElem? hy)
    have hki := kid_in T ha g1 g2
    refine W_at x0 (ivs_at hy) (W_aI ?_)
    have hS' := hS
    unfold SomeL at hS'
    refine W_call (hS' ns q m2 b j _ T hl g1 g3 (by omega) hj) ?_
    rintro _ ⟨C, j2, rfl, hC, hj2⟩
    (repeat (with_reducible (first | (refine W_uI ?_) | (refine W_uS ?_) | (refine W_uL ?_) | (refine W_uA ?_) | (refine W_uB ?_) | (refine W_aI ?_) | (refine W_aL ?_) | (refine W_ca3 ?_) | (refine W_ce3 ?_) | (refine W_ca4 ?_) | (refine W_ce4 ?_) | (refine W_ca5 ?_) | (refine W_ce5 ?_) | (refine W_ca6 ?_) | (refine W_ce6 ?_) | (refine W_ca7 ?_) | (refine W_ce7 ?_) | (refine W_ca8 ?_) | (refine W_ce8 ?_) | (refine W_nd7 ?_) | (refine W_unCons ?_) | (refine W_unNil ?_) | (refine W_asInt ?_) | (refine W_asBool ?_) | (refine W_asStr ?_) | (refine W_asSl ?_) | (refine W_asAgg ?_) | (refine W_kd ?_) | (refine W_z ?_))))
    have hql := T.seg.last q m2 g1
    refine W_yes (by rw [ivs_len]; omega) (W_ret ⟨(a : Int) :: C, j2, rfl, by rw [List.length_cons]; omega, hj2⟩)
  · refine W_beqI (fun h4 => ?_) (fun h4 => W_ret ⟨[(a : Int)], i, rfl, by simp; omega, hr⟩)
    unfold l56_1
    exact some_loop (Ko := fun x y z => K [.sl 1 x, .int .i64 z]) hS T hl ha hd (fun D j hD hj => W_ret ⟨D, j, rfl, hD, hj⟩) k 0 [(a : Int)] i (by omega) (by omega) (by simp; omega) (fun x hx => by
      obtain ⟨q, m2, rfl, g1, g2, g3⟩ := (mem_statesN hla).1 (List.mem_of_getElem? hx)
      have := kid_in T ha g1 g2
      simp; omega) hr
end
end Go.Proofs.Ytblabbcmokldiaa.Vm
set_option linter.unusedVariables false
namespace Go.VM
theorem core_at {a b : List Nd} (h : CoreEq a b) {i : Nat} {n : Nd} (hn : a[i]? = some n) : ∃ m, b[i]? = some m ∧ n.kind = m.kind ∧ n.parent = m.parent ∧ n.last = m.last ∧ n.init = m.init := by
  have e := get_core h i
  rw [hn] at e
  cases hm : b[i]? with
  | none => rw [hm] at e; simp at e
  | some m =>
    rw [hm] at e
    simp only [Option.map_some, Option.some.injEq] at e
    unfold Nd.core at e
    injection e with e1 e2 e3 e4
    exact ⟨m, rfl, e1, e2, e3, e4⟩
theorem CoreEq.symm {a b : List Nd} (h : CoreEq a b) : CoreEq b a := Eq.symm (show a.map Nd.core = b.map Nd.core from h)
theorem tree_core {a b : List Nd} (h : CoreEq a b) (T : Tree b) : Tree a := by
  have hl := h.len
  refine ⟨⟨?_, ?_, ?_, ?_, ?_, ?_, ?_⟩, by have := T.pos; omega, ?_, ?_⟩
  · intro j n hn
    obtain ⟨m, m1, m2, m3, m4, m5⟩ := core_at h hn
    rw [m3]; exact T.seg.par j m m1
  · intro j n hn
    obtain ⟨m, m1, m2, m3, m4, m5⟩ := core_at h hn
    rw [m4, hl]; exact T.seg.last j m m1
  · intro i j n m hn hm hij
    obtain ⟨n', n1, n2, n3, n4, n5⟩ := core_at h hn
    obtain ⟨m', m1, m2, m3, m4, m5⟩ := core_at h hm
    rw [n4, m3]; exact T.seg.lam i j n' m' n1 m1 hij
  · intro j n hn hp
    obtain ⟨m, m1, m2, m3, m4, m5⟩ := core_at h hn
    rw [m3] at hp ⊢
    obtain ⟨p, p1, p2⟩ := T.seg.kid j m m1 hp
    obtain ⟨q, q1, q2, q3, q4, q5⟩ := core_at h.symm p1
    exact ⟨q, q1, by rw [← q2]; exact p2⟩
  · intro i n hn hk
    obtain ⟨m, m1, m2, m3, m4, m5⟩ := core_at h hn
    obtain ⟨p, p1, p2, p3⟩ := T.seg.first i m m1 (by rw [← m2]; exact hk)
    obtain ⟨q, q1, q2, q3, q4, q5⟩ := core_at h.symm p1
    exact ⟨q, q1, by rw [← q3]; exact p2, by rw [← q2]; exact p3⟩
  · intro i n hn
    obtain ⟨m, m1, m2, m3, m4, m5⟩ := core_at h hn
    rw [m5, m2]; exact T.seg.init i m m1
  · intro i n hn
    obtain ⟨m, m1, m2, m3, m4, m5⟩ := core_at h hn
    rw [m2]; exact T.seg.kinds i m m1
  · intro j n hn hj
    obtain ⟨m, m1, m2, m3, m4, m5⟩ := core_at h hn
    rw [m3]; exact T.par0 j m m1 hj
  · intro n hn
    obtain ⟨m, m1, m2, m3, m4, m5⟩ := core_at h hn
    rw [m3, m2, m4, hl]; exact T.root m m1
end Go.VM
open Go Go.VM
set_option linter.unusedVariables false
set_option maxRecDepth 100000
set_option maxHeartbeats 4000000
namespace Go.Proofs.Ytblabbcmokldiaa.Vm
/-! ### cotillion/cotillionref16.place: function 138 -/
def P138_0h : Pat := { tmps := unds [.var (.sl 1) .ro, .var .str .pr, .undef, .undef, .undef, .var (.int .i64) .pr] 13 [], boxes := nons [] 19 [] }
def P138_0x : Pat := { tmps := unds [] 19 [], boxes := nons [] 19 [] }
def P138_0r : Pat := { tmps := unds [.undef, .undef, .undef, .undef, .var (.int .i64) .pr] 14 [], boxes := nons [] 19 [] }
def b138_0 {R : Type} (G : ORC R) (k : Nat) (X : List V → ByteArray → Int → Option R) (Ko : Unit → Option R) (Kr : Int → Option R) (xl3 : List V) (xs4 : ByteArray) (xi5 : Int) : Option R :=
  (bif (decide (xi5 < ((List.length xl3 : Nat) : Int))) then (bif ((decide (0 ≤ xi5)) && (decide (xi5 < ((List.length xl3 : Nat) : Int)))) then (nthK xl3 (Int.toNat xi5) fun e6 => (V.asStr e6 fun s7 => (bif (ByteArray.toList s7 == ByteArray.toList xs4) then (Kr xi5) else (X xl3 xs4 (IntKind.i64.wrap (xi5 + 1)))))) else none) else (Ko ()))
def l138_0g {R : Type} (G : ORC R) (k : Nat) (Ko : Unit → Option R) (Kr : Int → Option R) : Nat → List V → ByteArray → Int → Option R
  | 0 => fun _ _ _ => none
  | j + 1 => b138_0 G k (l138_0g G k Ko Kr j) Ko Kr
def l138_0 {R : Type} (G : ORC R) (k : Nat) (xl3 : List V) (xs4 : ByteArray) (xi5 : Int) (Ko : Unit → Option R) (Kr : Int → Option R) : Option R := l138_0g G k Ko Kr k xl3 xs4 xi5
def rd138_0 {R : Type} (G : ORC R) (k : Nat) (K : Ex → St → Option R) (j : Nat) (vs : List V) : Option R := match vs with
  | [(.sl 1 xl3), (.str xs4), (.int .i64 xi5)] => l138_0g G k (fun _ => K .normal (P138_0x.inst [])) (fun yi9 => K .ret (P138_0r.inst [(.int .i64 yi9)])) j xl3 xs4 xi5
  | _ => none
def L138 {R : Type} (G : ORC R) (k : Nat) : Nat → St → (Ex → St → Option R) → Option R
  | 0, S, K => P138_0h.mat S fun vs => rd138_0 G k K k vs
  | _, _, _ => none
def f138 {R : Type} (G : ORC R) (k : Nat) (al1 : List V) (as2 : ByteArray) (K : List V → Option R) : Option R :=
  (l138_0 G k al1 as2 0 (fun (_ : Unit) => (K [(.int .i64 (-1))])) (fun yi8 => (K [(.int .i64 yi8)])))
noncomputable def D138_0 : LoopD := { id := 0, body := loopAt 0 (bodyOf Try.f138), head := P138_0h, out := P138_0x, ret := P138_0r }
theorem l138_0_is {R : Type} (G : ORC R) (k : Nat) (X : List V → Option R) (K : Ex → St → Option R) (xl3 : List V) (xs4 : ByteArray) (xi5 : Int) :
    roundOf (TAB.env 138) G (L138 G k) D138_0 X K [(.sl 1 xl3), (.str xs4), (.int .i64 xi5)] = b138_0 G k (fun xl3 xs4 xi5 => X [(.sl 1 xl3), (.str xs4), (.int .i64 xi5)]) (fun _ => K .normal (P138_0x.inst [])) (fun yi9 => K .ret (P138_0r.inst [(.int .i64 yi9)])) xl3 xs4 xi5 := by kernel_rfl
theorem f138_is {R : Type} (G : ORC R) (k : Nat) (K : List V → Option R) (al1 : List V) (as2 : ByteArray) :
    callF (TAB.env 138) G (L138 G k) Try.f138 S138 [(.sl 1 al1), (.str as2)] K = f138 G k al1 as2 K := by kernel_rfl
theorem li138_0 {R : Type} (G : ORC R) (k : Nat) : LoopIs (TAB.env 138) G (L138 G k) 0 (loopAt 0 (bodyOf Try.f138)) :=
  ⟨D138_0, fun j vs K => rd138_0 G k K j vs, k, rfl, rfl, by kernel_rfl, by kernel_rfl, by kernel_rfl, (fun vs K => by unfold rd138_0; dsimp only; split <;> rfl),
    (fun j vs K r h => by
      unfold rd138_0 at h
      dsimp only at h
      split at h
      · rw [l138_0_is]; exact h
      · cases h), (fun S K r h => h)⟩
theorem lo138 : loopsOf (bodyOf Try.f138) = [(0, loopAt 0 (bodyOf Try.f138))] := by kernel_rfl
theorem la138 {R : Type} (G : ORC R) (k : Nat) : LoopsAre (TAB.env 138) G (L138 G k) (bodyOf Try.f138) :=
  loopsAre_of (by rw [lo138]; intro p hp; simp only [List.mem_cons, List.not_mem_nil, or_false] at hp; subst hp; exact li138_0 G k)
def g138 {R : Type} (G : ORC R) (k : Nat) (args : List V) (K : List V → Option R) : Option R := match args with
  | [(.sl 1 al1), (.str as2)] => f138 G k al1 as2 K
  | _ => none
theorem s138 {R : Type} {G : ORC R} {k : Nat} (hG : Sound Try.prog TAB G) (args : List V) (K : List V → Option R) (r : R) (h : g138 G k args K = some r) : ∃ o, CallOK Try.prog TAB.env 138 args o ∧ K o = some r := by
  unfold g138 at h
  split at h
  · rw [← f138_is] at h
    exact callF_sound (f := 138) TAB_chk MO hG Try.func138 (sg := S138) (by kernel_rfl) (by kernel_rfl) (la138 G k) h
  · cases h
end Go.Proofs.Ytblabbcmokldiaa.Vm
open Go Go.VM
set_option linter.unusedVariables false
set_option maxRecDepth 100000
set_option maxHeartbeats 4000000
namespace Go.Proofs.Ytblabbcmokldiaa.Vm
/-! ### cotillion/cotillionref16.op: function 139 -/
def L139 {R : Type} (_ : ORC R) (_ : Nat) : Nat → St → (Ex → St → Option R) → Option R := fun _ _ _ => none
def f139 {R : Type} (G : ORC R) (k : Nat) (ai1 : Int) (K : List V → Option R) : Option R :=
  (bif (ai1 == 5) then (K [(.int .i64 5)]) else (bif (ai1 == 6) then (K [(.int .i64 6)]) else (K [(.int .i64 (IntKind.i64.wrap ((IntKind.i64.wrap (7 + ai1)) - 7)))])))
theorem f139_is {R : Type} (G : ORC R) (k : Nat) (K : List V → Option R) (ai1 : Int) :
    callF (TAB.env 139) G (L139 G k) Try.f139 S139 [(.int .i64 ai1)] K = f139 G k ai1 K := by kernel_rfl
theorem lo139 : loopsOf (bodyOf Try.f139) = [] := by kernel_rfl
theorem la139 {R : Type} (G : ORC R) (k : Nat) : LoopsAre (TAB.env 139) G (L139 G k) (bodyOf Try.f139) :=
  loopsAre_of (by rw [lo139]; intro p hp; cases hp)
def g139 {R : Type} (G : ORC R) (k : Nat) (args : List V) (K : List V → Option R) : Option R := match args with
  | [(.int .i64 ai1)] => f139 G k ai1 K
  | _ => none
theorem s139 {R : Type} {G : ORC R} {k : Nat} (hG : Sound Try.prog TAB G) (args : List V) (K : List V → Option R) (r : R) (h : g139 G k args K = some r) : ∃ o, CallOK Try.prog TAB.env 139 args o ∧ K o = some r := by
  unfold g139 at h
  split at h
  · rw [← f139_is] at h
    exact callF_sound (f := 139) TAB_chk MO hG Try.func139 (sg := S139) (by kernel_rfl) (by kernel_rfl) (la139 G k) h
  · cases h
end Go.Proofs.Ytblabbcmokldiaa.Vm
open Go Go.VM
set_option linter.unusedVariables false
set_option maxRecDepth 100000
set_option maxHeartbeats 4000000
namespace Go.Proofs.Ytblabbcmokldiaa.Vm
/-! ### cotillion/cotillionref16.expr: function 135 -/
def L135 {R : Type} (_ : ORC R) (_ : Nat) : Nat → St → (Ex → St → Option R) → Option R := fun _ _ _ => none
def f135 {R : Type} (G : ORC R) (k : Nat) (al1 : List V) (ai2 ai3 : Int) (as4 : ByteArray) (al5 : List V) (ai6 : Int) (al7 al8 : List V) (al9 al10 : List V) (K : List V → Option R) : Option R :=
  (bif (ai2 == 1) then (bif (decide (List.length al1 + 1 ≤ 1073741824)) then (K [(.sl 4 (al1 ++ [(.agg [(.int .i64 1), (.int .i64 0), (.int .i64 ai3), (.str ⟨#[]⟩)])]))]) else none) else (bif (ai2 == 2) then (G 138 [(.sl 1 al7), (.str as4)] fun o11 => (uI .i64 o11 fun n13 r12 => (unNil r12 (bif (decide (List.length al1 + 1 ≤ 1073741824)) then (K [(.sl 4 (al1 ++ [(.agg [(.int .i64 2), (.int .i64 n13), (.int .i64 0), (.str ⟨#[]⟩)])]))]) else none)))) else (bif (ai2 == 3) then (bif (decide (List.length al1 + 1 ≤ 1073741824)) then (K [(.sl 4 (al1 ++ [(.agg [(.int .i64 3), (.int .i64 0), (.int .i64 0), (.str ⟨#[]⟩)])]))]) else none) else (bif (ai2 == 4) then (G 19 [(.sl 7 al10), (.str as4)] fun o14 => (uI .i64 o14 fun n16 r15 => (unNil r15 (bif (decide (List.length al1 + 1 ≤ 1073741824)) then (K [(.sl 4 (al1 ++ [(.agg [(.int .i64 4), (.int .i64 n16), (.int .i64 0), (.str ⟨#[]⟩)])]))]) else none)))) else (bif (ai2 == 5) then (bif (ai2 == 5) then (bif (decide (0 < ((List.length al5 : Nat) : Int))) then (nthK al5 0 fun e17 => (V.asAgg e17 fun l18 => (G 135 [(.sl 4 al1), (.agg l18), (.agg [(.sl 1 al7), (.sl 1 al8), (.sl 1 al9), (.sl 7 al10)])] fun o19 => (uL 4 o19 fun l21 r20 => (unNil r20 (G 139 [(.int .i64 ai2)] fun o22 => (uI .i64 o22 fun n24 r23 => (unNil r23 (bif (decide (List.length l21 + 1 ≤ 1073741824)) then (K [(.sl 4 (l21 ++ [(.agg [(.int .i64 n24), (.int .i64 0), (.int .i64 0), (.str ⟨#[]⟩)])]))]) else none))))))))) else none) else (bif (ai2 == 18) then (G 140 [(.sl 4 al1), (.agg [(.int .i64 ai2), (.int .i64 ai3), (.str as4), (.sl 5 al5), (.int .i64 ai6)]), (.agg [(.sl 1 al7), (.sl 1 al8), (.sl 1 al9), (.sl 7 al10)])] fun o25 => (uL 4 o25 fun l27 r26 => (unNil r26 (K [(.sl 4 l27)])))) else (bif (ai2 == 19) then (G 141 [(.sl 4 al1), (.agg [(.int .i64 ai2), (.int .i64 ai3), (.str as4), (.sl 5 al5), (.int .i64 ai6)]), (.agg [(.sl 1 al7), (.sl 1 al8), (.sl 1 al9), (.sl 7 al10)])] fun o28 => (uL 4 o28 fun l30 r29 => (unNil r29 (K [(.sl 4 l30)])))) else (bif (decide (0 < ((List.length al5 : Nat) : Int))) then (nthK al5 0 fun e31 => (V.asAgg e31 fun l32 => (G 135 [(.sl 4 al1), (.agg l32), (.agg [(.sl 1 al7), (.sl 1 al8), (.sl 1 al9), (.sl 7 al10)])] fun o33 => (uL 4 o33 fun l35 r34 => (unNil r34 (bif (decide (1 < ((List.length al5 : Nat) : Int))) then (nthK al5 1 fun e36 => (V.asAgg e36 fun l37 => (G 135 [(.sl 4 l35), (.agg l37), (.agg [(.sl 1 al7), (.sl 1 al8), (.sl 1 al9), (.sl 7 al10)])] fun o38 => (uL 4 o38 fun l40 r39 => (unNil r39 (G 139 [(.int .i64 ai2)] fun o41 => (uI .i64 o41 fun n43 r42 => (unNil r42 (bif (decide (List.length l40 + 1 ≤ 1073741824)) then (K [(.sl 4 (l40 ++ [(.agg [(.int .i64 n43), (.int .i64 0), (.int .i64 0), (.str ⟨#[]⟩)])]))]) else none))))))))) else none)))))) else none)))) else (bif (ai2 == 6) then (bif (decide (0 < ((List.length al5 : Nat) : Int))) then (nthK al5 0 fun e44 => (V.asAgg e44 fun l45 => (G 135 [(.sl 4 al1), (.agg l45), (.agg [(.sl 1 al7), (.sl 1 al8), (.sl 1 al9), (.sl 7 al10)])] fun o46 => (uL 4 o46 fun l48 r47 => (unNil r47 (G 139 [(.int .i64 ai2)] fun o49 => (uI .i64 o49 fun n51 r50 => (unNil r50 (bif (decide (List.length l48 + 1 ≤ 1073741824)) then (K [(.sl 4 (l48 ++ [(.agg [(.int .i64 n51), (.int .i64 0), (.int .i64 0), (.str ⟨#[]⟩)])]))]) else none))))))))) else none) else (bif (ai2 == 18) then (G 140 [(.sl 4 al1), (.agg [(.int .i64 ai2), (.int .i64 ai3), (.str as4), (.sl 5 al5), (.int .i64 ai6)]), (.agg [(.sl 1 al7), (.sl 1 al8), (.sl 1 al9), (.sl 7 al10)])] fun o52 => (uL 4 o52 fun l54 r53 => (unNil r53 (K [(.sl 4 l54)])))) else (bif (ai2 == 19) then (G 141 [(.sl 4 al1), (.agg [(.int .i64 ai2), (.int .i64 ai3), (.str as4), (.sl 5 al5), (.int .i64 ai6)]), (.agg [(.sl 1 al7), (.sl 1 al8), (.sl 1 al9), (.sl 7 al10)])] fun o55 => (uL 4 o55 fun l57 r56 => (unNil r56 (K [(.sl 4 l57)])))) else (bif (decide (0 < ((List.length al5 : Nat) : Int))) then (nthK al5 0 fun e58 => (V.asAgg e58 fun l59 => (G 135 [(.sl 4 al1), (.agg l59), (.agg [(.sl 1 al7), (.sl 1 al8), (.sl 1 al9), (.sl 7 al10)])] fun o60 => (uL 4 o60 fun l62 r61 => (unNil r61 (bif (decide (1 < ((List.length al5 : Nat) : Int))) then (nthK al5 1 fun e63 => (V.asAgg e63 fun l64 => (G 135 [(.sl 4 l62), (.agg l64), (.agg [(.sl 1 al7), (.sl 1 al8), (.sl 1 al9), (.sl 7 al10)])] fun o65 => (uL 4 o65 fun l67 r66 => (unNil r66 (G 139 [(.int .i64 ai2)] fun o68 => (uI .i64 o68 fun n70 r69 => (unNil r69 (bif (decide (List.length l67 + 1 ≤ 1073741824)) then (K [(.sl 4 (l67 ++ [(.agg [(.int .i64 n70), (.int .i64 0), (.int .i64 0), (.str ⟨#[]⟩)])]))]) else none))))))))) else none)))))) else none)))))))))
theorem f135_is {R : Type} (G : ORC R) (k : Nat) (K : List V → Option R) (al1 : List V) (ai2 ai3 : Int) (as4 : ByteArray) (al5 : List V) (ai6 : Int) (al7 al8 : List V) (al9 al10 : List V) :
    callF (TAB.env 135) G (L135 G k) Try.f135 S135 [(.sl 4 al1), (.agg [(.int .i64 ai2), (.int .i64 ai3), (.str as4), (.sl 5 al5), (.int .i64 ai6)]), (.agg [(.sl 1 al7), (.sl 1 al8), (.sl 1 al9), (.sl 7 al10)])] K = f135 G k al1 ai2 ai3 as4 al5 ai6 al7 al8 al9 al10 K := by kernel_rfl
theorem lo135 : loopsOf (bodyOf Try.f135) = [] := by kernel_rfl
theorem la135 {R : Type} (G : ORC R) (k : Nat) : LoopsAre (TAB.env 135) G (L135 G k) (bodyOf Try.f135) :=
  loopsAre_of (by rw [lo135]; intro p hp; cases hp)
def g135 {R : Type} (G : ORC R) (k : Nat) (args : List V) (K : List V → Option R) : Option R := match args with
  | [(.sl 4 al1), (.agg [(.int .i64 ai2), (.int .i64 ai3), (.str as4), (.sl 5 al5), (.int .i64 ai6)]), (.agg [(.sl 1 al7), (.sl 1 al8), (.sl 1 al9), (.sl 7 al10)])] => f135 G k al1 ai2 ai3 as4 al5 ai6 al7 al8 al9 al10 K
  | _ => none
theorem s135 {R : Type} {G : ORC R} {k : Nat} (hG : Sound Try.prog TAB G) (args : List V) (K : List V → Option R) (r : R) (h : g135 G k args K = some r) : ∃ o, CallOK Try.prog TAB.env 135 args o ∧ K o = some r := by
  unfold g135 at h
  split at h
  · rw [← f135_is] at h
    exact callF_sound (f := 135) TAB_chk MO hG Try.func135 (sg := S135) (by kernel_rfl) (by kernel_rfl) (la135 G k) h
  · cases h
end Go.Proofs.Ytblabbcmokldiaa.Vm
open Go Go.VM
set_option linter.unusedVariables false
set_option maxRecDepth 100000
set_option maxHeartbeats 4000000
namespace Go.Proofs.Ytblabbcmokldiaa.Vm
/-! ### cotillion/cotillionref16.and: function 140 -/
def L140 {R : Type} (_ : ORC R) (_ : Nat) : Nat → St → (Ex → St → Option R) → Option R := fun _ _ _ => none
def f140 {R : Type} (G : ORC R) (k : Nat) (al1 : List V) (ai2 ai3 : Int) (as4 : ByteArray) (al5 : List V) (ai6 : Int) (al7 al8 : List V) (al9 al10 : List V) (K : List V → Option R) : Option R :=
  (bif (decide (0 < ((List.length al5 : Nat) : Int))) then (nthK al5 0 fun e11 => (V.asAgg e11 fun l12 => (G 135 [(.sl 4 al1), (.agg l12), (.agg [(.sl 1 al7), (.sl 1 al8), (.sl 1 al9), (.sl 7 al10)])] fun o13 => (uL 4 o13 fun l15 r14 => (unNil r14 (bif (decide (List.length l15 + 1 ≤ 1073741824)) then (bif (decide (1 < ((List.length al5 : Nat) : Int))) then (nthK al5 1 fun e16 => (V.asAgg e16 fun l17 => (G 135 [(.sl 4 (l15 ++ [(.agg [(.int .i64 24), (.int .i64 0), (.int .i64 0), (.str ⟨#[]⟩)])])), (.agg l17), (.agg [(.sl 1 al7), (.sl 1 al8), (.sl 1 al9), (.sl 7 al10)])] fun o18 => (uL 4 o18 fun l20 r19 => (unNil r19 (bif (decide (List.length l20 + 3 ≤ 1073741824)) then (bif ((decide (0 ≤ ((List.length l15 : Nat) : Int))) && (decide (((List.length l15 : Nat) : Int) < ((List.length (l20 ++ [(.agg [(.int .i64 24), (.int .i64 0), (.int .i64 0), (.str ⟨#[]⟩)]), (.agg [(.int .i64 1), (.int .i64 0), (.int .i64 1), (.str ⟨#[]⟩)]), (.agg [(.int .i64 23), (.int .i64 0), (.int .i64 0), (.str ⟨#[]⟩)])]) : Nat) : Int)))) then (nthK (l20 ++ [(.agg [(.int .i64 24), (.int .i64 0), (.int .i64 0), (.str ⟨#[]⟩)]), (.agg [(.int .i64 1), (.int .i64 0), (.int .i64 1), (.str ⟨#[]⟩)]), (.agg [(.int .i64 23), (.int .i64 0), (.int .i64 0), (.str ⟨#[]⟩)])]) (Int.toNat ((List.length l15 : Nat) : Int)) fun e21 => (ca4 e21 fun c22 c23 c24 c25 => (bif ((decide (0 ≤ ((List.length l20 : Nat) : Int))) && (decide (((List.length l20 : Nat) : Int) < ((List.length (List.set (l20 ++ [(.agg [(.int .i64 24), (.int .i64 0), (.int .i64 0), (.str ⟨#[]⟩)]), (.agg [(.int .i64 1), (.int .i64 0), (.int .i64 1), (.str ⟨#[]⟩)]), (.agg [(.int .i64 23), (.int .i64 0), (.int .i64 0), (.str ⟨#[]⟩)])]) (Int.toNat ((List.length l15 : Nat) : Int)) (.agg [c22, (.int .i64 ((List.length (l20 ++ [(.agg [(.int .i64 24), (.int .i64 0), (.int .i64 0), (.str ⟨#[]⟩)]), (.agg [(.int .i64 1), (.int .i64 0), (.int .i64 1), (.str ⟨#[]⟩)]), (.agg [(.int .i64 23), (.int .i64 0), (.int .i64 0), (.str ⟨#[]⟩)])]) : Nat) : Int)), c24, c25])) : Nat) : Int)))) then (nthK (List.set (l20 ++ [(.agg [(.int .i64 24), (.int .i64 0), (.int .i64 0), (.str ⟨#[]⟩)]), (.agg [(.int .i64 1), (.int .i64 0), (.int .i64 1), (.str ⟨#[]⟩)]), (.agg [(.int .i64 23), (.int .i64 0), (.int .i64 0), (.str ⟨#[]⟩)])]) (Int.toNat ((List.length l15 : Nat) : Int)) (.agg [c22, (.int .i64 ((List.length (l20 ++ [(.agg [(.int .i64 24), (.int .i64 0), (.int .i64 0), (.str ⟨#[]⟩)]), (.agg [(.int .i64 1), (.int .i64 0), (.int .i64 1), (.str ⟨#[]⟩)]), (.agg [(.int .i64 23), (.int .i64 0), (.int .i64 0), (.str ⟨#[]⟩)])]) : Nat) : Int)), c24, c25])) (Int.toNat ((List.length l20 : Nat) : Int)) fun e26 => (ca4 e26 fun c27 c28 c29 c30 => (bif (decide (List.length (List.set (List.set (l20 ++ [(.agg [(.int .i64 24), (.int .i64 0), (.int .i64 0), (.str ⟨#[]⟩)]), (.agg [(.int .i64 1), (.int .i64 0), (.int .i64 1), (.str ⟨#[]⟩)]), (.agg [(.int .i64 23), (.int .i64 0), (.int .i64 0), (.str ⟨#[]⟩)])]) (Int.toNat ((List.length l15 : Nat) : Int)) (.agg [c22, (.int .i64 ((List.length (l20 ++ [(.agg [(.int .i64 24), (.int .i64 0), (.int .i64 0), (.str ⟨#[]⟩)]), (.agg [(.int .i64 1), (.int .i64 0), (.int .i64 1), (.str ⟨#[]⟩)]), (.agg [(.int .i64 23), (.int .i64 0), (.int .i64 0), (.str ⟨#[]⟩)])]) : Nat) : Int)), c24, c25])) (Int.toNat ((List.length l20 : Nat) : Int)) (.agg [c27, (.int .i64 ((List.length (l20 ++ [(.agg [(.int .i64 24), (.int .i64 0), (.int .i64 0), (.str ⟨#[]⟩)]), (.agg [(.int .i64 1), (.int .i64 0), (.int .i64 1), (.str ⟨#[]⟩)]), (.agg [(.int .i64 23), (.int .i64 0), (.int .i64 0), (.str ⟨#[]⟩)])]) : Nat) : Int)), c29, c30])) + 1 ≤ 1073741824)) then (bif ((decide (0 ≤ (IntKind.i64.wrap (((List.length l20 : Nat) : Int) + 2)))) && (decide ((IntKind.i64.wrap (((List.length l20 : Nat) : Int) + 2)) < ((List.length ((List.set (List.set (l20 ++ [(.agg [(.int .i64 24), (.int .i64 0), (.int .i64 0), (.str ⟨#[]⟩)]), (.agg [(.int .i64 1), (.int .i64 0), (.int .i64 1), (.str ⟨#[]⟩)]), (.agg [(.int .i64 23), (.int .i64 0), (.int .i64 0), (.str ⟨#[]⟩)])]) (Int.toNat ((List.length l15 : Nat) : Int)) (.agg [c22, (.int .i64 ((List.length (l20 ++ [(.agg [(.int .i64 24), (.int .i64 0), (.int .i64 0), (.str ⟨#[]⟩)]), (.agg [(.int .i64 1), (.int .i64 0), (.int .i64 1), (.str ⟨#[]⟩)]), (.agg [(.int .i64 23), (.int .i64 0), (.int .i64 0), (.str ⟨#[]⟩)])]) : Nat) : Int)), c24, c25])) (Int.toNat ((List.length l20 : Nat) : Int)) (.agg [c27, (.int .i64 ((List.length (l20 ++ [(.agg [(.int .i64 24), (.int .i64 0), (.int .i64 0), (.str ⟨#[]⟩)]), (.agg [(.int .i64 1), (.int .i64 0), (.int .i64 1), (.str ⟨#[]⟩)]), (.agg [(.int .i64 23), (.int .i64 0), (.int .i64 0), (.str ⟨#[]⟩)])]) : Nat) : Int)), c29, c30])) ++ [(.agg [(.int .i64 1), (.int .i64 0), (.int .i64 0), (.str ⟨#[]⟩)])]) : Nat) : Int)))) then (nthK ((List.set (List.set (l20 ++ [(.agg [(.int .i64 24), (.int .i64 0), (.int .i64 0), (.str ⟨#[]⟩)]), (.agg [(.int .i64 1), (.int .i64 0), (.int .i64 1), (.str ⟨#[]⟩)]), (.agg [(.int .i64 23), (.int .i64 0), (.int .i64 0), (.str ⟨#[]⟩)])]) (Int.toNat ((List.length l15 : Nat) : Int)) (.agg [c22, (.int .i64 ((List.length (l20 ++ [(.agg [(.int .i64 24), (.int .i64 0), (.int .i64 0), (.str ⟨#[]⟩)]), (.agg [(.int .i64 1), (.int .i64 0), (.int .i64 1), (.str ⟨#[]⟩)]), (.agg [(.int .i64 23), (.int .i64 0), (.int .i64 0), (.str ⟨#[]⟩)])]) : Nat) : Int)), c24, c25])) (Int.toNat ((List.length l20 : Nat) : Int)) (.agg [c27, (.int .i64 ((List.length (l20 ++ [(.agg [(.int .i64 24), (.int .i64 0), (.int .i64 0), (.str ⟨#[]⟩)]), (.agg [(.int .i64 1), (.int .i64 0), (.int .i64 1), (.str ⟨#[]⟩)]), (.agg [(.int .i64 23), (.int .i64 0), (.int .i64 0), (.str ⟨#[]⟩)])]) : Nat) : Int)), c29, c30])) ++ [(.agg [(.int .i64 1), (.int .i64 0), (.int .i64 0), (.str ⟨#[]⟩)])]) (Int.toNat (IntKind.i64.wrap (((List.length l20 : Nat) : Int) + 2))) fun e31 => (ca4 e31 fun c32 c33 c34 c35 => (K [(.sl 4 (List.set ((List.set (List.set (l20 ++ [(.agg [(.int .i64 24), (.int .i64 0), (.int .i64 0), (.str ⟨#[]⟩)]), (.agg [(.int .i64 1), (.int .i64 0), (.int .i64 1), (.str ⟨#[]⟩)]), (.agg [(.int .i64 23), (.int .i64 0), (.int .i64 0), (.str ⟨#[]⟩)])]) (Int.toNat ((List.length l15 : Nat) : Int)) (.agg [c22, (.int .i64 ((List.length (l20 ++ [(.agg [(.int .i64 24), (.int .i64 0), (.int .i64 0), (.str ⟨#[]⟩)]), (.agg [(.int .i64 1), (.int .i64 0), (.int .i64 1), (.str ⟨#[]⟩)]), (.agg [(.int .i64 23), (.int .i64 0), (.int .i64 0), (.str ⟨#[]⟩)])]) : Nat) : Int)), c24, c25])) (Int.toNat ((List.length l20 : Nat) : Int)) (.agg [c27, (.int .i64 ((List.length (l20 ++ [(.agg [(.int .i64 24), (.int .i64 0), (.int .i64 0), (.str ⟨#[]⟩)]), (.agg [(.int .i64 1), (.int .i64 0), (.int .i64 1), (.str ⟨#[]⟩)]), (.agg [(.int .i64 23), (.int .i64 0), (.int .i64 0), (.str ⟨#[]⟩)])]) : Nat) : Int)), c29, c30])) ++ [(.agg [(.int .i64 1), (.int .i64 0), (.int .i64 0), (.str ⟨#[]⟩)])]) (Int.toNat (IntKind.i64.wrap (((List.length l20 : Nat) : Int) + 2))) (.agg [c32, (.int .i64 ((List.length ((List.set (List.set (l20 ++ [(.agg [(.int .i64 24), (.int .i64 0), (.int .i64 0), (.str ⟨#[]⟩)]), (.agg [(.int .i64 1), (.int .i64 0), (.int .i64 1), (.str ⟨#[]⟩)]), (.agg [(.int .i64 23), (.int .i64 0), (.int .i64 0), (.str ⟨#[]⟩)])]) (Int.toNat ((List.length l15 : Nat) : Int)) (.agg [c22, (.int .i64 ((List.length (l20 ++ [(.agg [(.int .i64 24), (.int .i64 0), (.int .i64 0), (.str ⟨#[]⟩)]), (.agg [(.int .i64 1), (.int .i64 0), (.int .i64 1), (.str ⟨#[]⟩)]), (.agg [(.int .i64 23), (.int .i64 0), (.int .i64 0), (.str ⟨#[]⟩)])]) : Nat) : Int)), c24, c25])) (Int.toNat ((List.length l20 : Nat) : Int)) (.agg [c27, (.int .i64 ((List.length (l20 ++ [(.agg [(.int .i64 24), (.int .i64 0), (.int .i64 0), (.str ⟨#[]⟩)]), (.agg [(.int .i64 1), (.int .i64 0), (.int .i64 1), (.str ⟨#[]⟩)]), (.agg [(.int .i64 23), (.int .i64 0), (.int .i64 0), (.str ⟨#[]⟩)])]) : Nat) : Int)), c29, c30])) ++ [(.agg [(.int .i64 1), (.int .i64 0), (.int .i64 0), (.str ⟨#[]⟩)])]) : Nat) : Int)), c34, c35])))]))) else none) else none))) else none))) else none) else none)))))) else none) else none)))))) else none)
theorem f140_is {R : Type} (G : ORC R) (k : Nat) (K : List V → Option R) (al1 : List V) (ai2 ai3 : Int) (as4 : ByteArray) (al5 : List V) (ai6 : Int) (al7 al8 : List V) (al9 al10 : List V) :
    callF (TAB.env 140) G (L140 G k) Try.f140 S140 [(.sl 4 al1), (.agg [(.int .i64 ai2), (.int .i64 ai3), (.str as4), (.sl 5 al5), (.int .i64 ai6)]), (.agg [(.sl 1 al7), (.sl 1 al8), (.sl 1 al9), (.sl 7 al10)])] K = f140 G k al1 ai2 ai3 as4 al5 ai6 al7 al8 al9 al10 K := by kernel_rfl
theorem lo140 : loopsOf (bodyOf Try.f140) = [] := by kernel_rfl
theorem la140 {R : Type} (G : ORC R) (k : Nat) : LoopsAre (TAB.env 140) G (L140 G k) (bodyOf Try.f140) :=
  loopsAre_of (by rw [lo140]; intro p hp; cases hp)
def g140 {R : Type} (G : ORC R) (k : Nat) (args : List V) (K : List V → Option R) : Option R := match args with
  | [(.sl 4 al1), (.agg [(.int .i64 ai2), (.int .i64 ai3), (.str as4), (.sl 5 al5), (.int .i64 ai6)]), (.agg [(.sl 1 al7), (.sl 1 al8), (.sl 1 al9), (.sl 7 al10)])] => f140 G k al1 ai2 ai3 as4 al5 ai6 al7 al8 al9 al10 K
  | _ => none
theorem s140 {R : Type} {G : ORC R} {k : Nat} (hG : Sound Try.prog TAB G) (args : List V) (K : List V → Option R) (r : R) (h : g140 G k args K = some r) : ∃ o, CallOK Try.prog TAB.env 140 args o ∧ K o = some r := by
  unfold g140 at h
  split at h
  · rw [← f140_is] at h
    exact callF_sound (f := 140) TAB_chk MO hG Try.func140 (sg := S140) (by kernel_rfl) (by kernel_rfl) (la140 G k) h
  · cases h
end Go.Proofs.Ytblabbcmokldiaa.Vm
open Go Go.VM
set_option linter.unusedVariables false
set_option maxRecDepth 100000
set_option maxHeartbeats 4000000
namespace Go.Proofs.Ytblabbcmokldiaa.Vm
/-! ### cotillion/cotillionref16.or: function 141 -/
def L141 {R : Type} (_ : ORC R) (_ : Nat) : Nat → St → (Ex → St → Option R) → Option R := fun _ _ _ => none
def f141 {R : Type} (G : ORC R) (k : Nat) (al1 : List V) (ai2 ai3 : Int) (as4 : ByteArray) (al5 : List V) (ai6 : Int) (al7 al8 : List V) (al9 al10 : List V) (K : List V → Option R) : Option R :=
  (bif (decide (0 < ((List.length al5 : Nat) : Int))) then (nthK al5 0 fun e11 => (V.asAgg e11 fun l12 => (G 135 [(.sl 4 al1), (.agg l12), (.agg [(.sl 1 al7), (.sl 1 al8), (.sl 1 al9), (.sl 7 al10)])] fun o13 => (uL 4 o13 fun l15 r14 => (unNil r14 (bif (decide (List.length l15 + 3 ≤ 1073741824)) then (bif ((decide (0 ≤ ((List.length l15 : Nat) : Int))) && (decide (((List.length l15 : Nat) : Int) < ((List.length (l15 ++ [(.agg [(.int .i64 24), (.int .i64 0), (.int .i64 0), (.str ⟨#[]⟩)]), (.agg [(.int .i64 1), (.int .i64 0), (.int .i64 1), (.str ⟨#[]⟩)]), (.agg [(.int .i64 23), (.int .i64 0), (.int .i64 0), (.str ⟨#[]⟩)])]) : Nat) : Int)))) then (nthK (l15 ++ [(.agg [(.int .i64 24), (.int .i64 0), (.int .i64 0), (.str ⟨#[]⟩)]), (.agg [(.int .i64 1), (.int .i64 0), (.int .i64 1), (.str ⟨#[]⟩)]), (.agg [(.int .i64 23), (.int .i64 0), (.int .i64 0), (.str ⟨#[]⟩)])]) (Int.toNat ((List.length l15 : Nat) : Int)) fun e16 => (ca4 e16 fun c17 c18 c19 c20 => (bif (decide (1 < ((List.length al5 : Nat) : Int))) then (nthK al5 1 fun e21 => (V.asAgg e21 fun l22 => (G 135 [(.sl 4 (List.set (l15 ++ [(.agg [(.int .i64 24), (.int .i64 0), (.int .i64 0), (.str ⟨#[]⟩)]), (.agg [(.int .i64 1), (.int .i64 0), (.int .i64 1), (.str ⟨#[]⟩)]), (.agg [(.int .i64 23), (.int .i64 0), (.int .i64 0), (.str ⟨#[]⟩)])]) (Int.toNat ((List.length l15 : Nat) : Int)) (.agg [c17, (.int .i64 ((List.length (l15 ++ [(.agg [(.int .i64 24), (.int .i64 0), (.int .i64 0), (.str ⟨#[]⟩)]), (.agg [(.int .i64 1), (.int .i64 0), (.int .i64 1), (.str ⟨#[]⟩)]), (.agg [(.int .i64 23), (.int .i64 0), (.int .i64 0), (.str ⟨#[]⟩)])]) : Nat) : Int)), c19, c20]))), (.agg l22), (.agg [(.sl 1 al7), (.sl 1 al8), (.sl 1 al9), (.sl 7 al10)])] fun o23 => (uL 4 o23 fun l25 r24 => (unNil r24 (bif (decide (List.length l25 + 3 ≤ 1073741824)) then (bif ((decide (0 ≤ ((List.length l25 : Nat) : Int))) && (decide (((List.length l25 : Nat) : Int) < ((List.length (l25 ++ [(.agg [(.int .i64 24), (.int .i64 0), (.int .i64 0), (.str ⟨#[]⟩)]), (.agg [(.int .i64 1), (.int .i64 0), (.int .i64 1), (.str ⟨#[]⟩)]), (.agg [(.int .i64 23), (.int .i64 0), (.int .i64 0), (.str ⟨#[]⟩)])]) : Nat) : Int)))) then (nthK (l25 ++ [(.agg [(.int .i64 24), (.int .i64 0), (.int .i64 0), (.str ⟨#[]⟩)]), (.agg [(.int .i64 1), (.int .i64 0), (.int .i64 1), (.str ⟨#[]⟩)]), (.agg [(.int .i64 23), (.int .i64 0), (.int .i64 0), (.str ⟨#[]⟩)])]) (Int.toNat ((List.length l25 : Nat) : Int)) fun e26 => (ca4 e26 fun c27 c28 c29 c30 => (bif (decide (List.length (List.set (l25 ++ [(.agg [(.int .i64 24), (.int .i64 0), (.int .i64 0), (.str ⟨#[]⟩)]), (.agg [(.int .i64 1), (.int .i64 0), (.int .i64 1), (.str ⟨#[]⟩)]), (.agg [(.int .i64 23), (.int .i64 0), (.int .i64 0), (.str ⟨#[]⟩)])]) (Int.toNat ((List.length l25 : Nat) : Int)) (.agg [c27, (.int .i64 ((List.length (l25 ++ [(.agg [(.int .i64 24), (.int .i64 0), (.int .i64 0), (.str ⟨#[]⟩)]), (.agg [(.int .i64 1), (.int .i64 0), (.int .i64 1), (.str ⟨#[]⟩)]), (.agg [(.int .i64 23), (.int .i64 0), (.int .i64 0), (.str ⟨#[]⟩)])]) : Nat) : Int)), c29, c30])) + 1 ≤ 1073741824)) then (bif ((decide (0 ≤ (IntKind.i64.wrap (((List.length l15 : Nat) : Int) + 2)))) && (decide ((IntKind.i64.wrap (((List.length l15 : Nat) : Int) + 2)) < ((List.length ((List.set (l25 ++ [(.agg [(.int .i64 24), (.int .i64 0), (.int .i64 0), (.str ⟨#[]⟩)]), (.agg [(.int .i64 1), (.int .i64 0), (.int .i64 1), (.str ⟨#[]⟩)]), (.agg [(.int .i64 23), (.int .i64 0), (.int .i64 0), (.str ⟨#[]⟩)])]) (Int.toNat ((List.length l25 : Nat) : Int)) (.agg [c27, (.int .i64 ((List.length (l25 ++ [(.agg [(.int .i64 24), (.int .i64 0), (.int .i64 0), (.str ⟨#[]⟩)]), (.agg [(.int .i64 1), (.int .i64 0), (.int .i64 1), (.str ⟨#[]⟩)]), (.agg [(.int .i64 23), (.int .i64 0), (.int .i64 0), (.str ⟨#[]⟩)])]) : Nat) : Int)), c29, c30])) ++ [(.agg [(.int .i64 1), (.int .i64 0), (.int .i64 0), (.str ⟨#[]⟩)])]) : Nat) : Int)))) then (nthK ((List.set (l25 ++ [(.agg [(.int .i64 24), (.int .i64 0), (.int .i64 0), (.str ⟨#[]⟩)]), (.agg [(.int .i64 1), (.int .i64 0), (.int .i64 1), (.str ⟨#[]⟩)]), (.agg [(.int .i64 23), (.int .i64 0), (.int .i64 0), (.str ⟨#[]⟩)])]) (Int.toNat ((List.length l25 : Nat) : Int)) (.agg [c27, (.int .i64 ((List.length (l25 ++ [(.agg [(.int .i64 24), (.int .i64 0), (.int .i64 0), (.str ⟨#[]⟩)]), (.agg [(.int .i64 1), (.int .i64 0), (.int .i64 1), (.str ⟨#[]⟩)]), (.agg [(.int .i64 23), (.int .i64 0), (.int .i64 0), (.str ⟨#[]⟩)])]) : Nat) : Int)), c29, c30])) ++ [(.agg [(.int .i64 1), (.int .i64 0), (.int .i64 0), (.str ⟨#[]⟩)])]) (Int.toNat (IntKind.i64.wrap (((List.length l15 : Nat) : Int) + 2))) fun e31 => (ca4 e31 fun c32 c33 c34 c35 => (bif ((decide (0 ≤ (IntKind.i64.wrap (((List.length l25 : Nat) : Int) + 2)))) && (decide ((IntKind.i64.wrap (((List.length l25 : Nat) : Int) + 2)) < ((List.length (List.set ((List.set (l25 ++ [(.agg [(.int .i64 24), (.int .i64 0), (.int .i64 0), (.str ⟨#[]⟩)]), (.agg [(.int .i64 1), (.int .i64 0), (.int .i64 1), (.str ⟨#[]⟩)]), (.agg [(.int .i64 23), (.int .i64 0), (.int .i64 0), (.str ⟨#[]⟩)])]) (Int.toNat ((List.length l25 : Nat) : Int)) (.agg [c27, (.int .i64 ((List.length (l25 ++ [(.agg [(.int .i64 24), (.int .i64 0), (.int .i64 0), (.str ⟨#[]⟩)]), (.agg [(.int .i64 1), (.int .i64 0), (.int .i64 1), (.str ⟨#[]⟩)]), (.agg [(.int .i64 23), (.int .i64 0), (.int .i64 0), (.str ⟨#[]⟩)])]) : Nat) : Int)), c29, c30])) ++ [(.agg [(.int .i64 1), (.int .i64 0), (.int .i64 0), (.str ⟨#[]⟩)])]) (Int.toNat (IntKind.i64.wrap (((List.length l15 : Nat) : Int) + 2))) (.agg [c32, (.int .i64 ((List.length ((List.set (l25 ++ [(.agg [(.int .i64 24), (.int .i64 0), (.int .i64 0), (.str ⟨#[]⟩)]), (.agg [(.int .i64 1), (.int .i64 0), (.int .i64 1), (.str ⟨#[]⟩)]), (.agg [(.int .i64 23), (.int .i64 0), (.int .i64 0), (.str ⟨#[]⟩)])]) (Int.toNat ((List.length l25 : Nat) : Int)) (.agg [c27, (.int .i64 ((List.length (l25 ++ [(.agg [(.int .i64 24), (.int .i64 0), (.int .i64 0), (.str ⟨#[]⟩)]), (.agg [(.int .i64 1), (.int .i64 0), (.int .i64 1), (.str ⟨#[]⟩)]), (.agg [(.int .i64 23), (.int .i64 0), (.int .i64 0), (.str ⟨#[]⟩)])]) : Nat) : Int)), c29, c30])) ++ [(.agg [(.int .i64 1), (.int .i64 0), (.int .i64 0), (.str ⟨#[]⟩)])]) : Nat) : Int)), c34, c35])) : Nat) : Int)))) then (nthK (List.set ((List.set (l25 ++ [(.agg [(.int .i64 24), (.int .i64 0), (.int .i64 0), (.str ⟨#[]⟩)]), (.agg [(.int .i64 1), (.int .i64 0), (.int .i64 1), (.str ⟨#[]⟩)]), (.agg [(.int .i64 23), (.int .i64 0), (.int .i64 0), (.str ⟨#[]⟩)])]) (Int.toNat ((List.length l25 : Nat) : Int)) (.agg [c27, (.int .i64 ((List.length (l25 ++ [(.agg [(.int .i64 24), (.int .i64 0), (.int .i64 0), (.str ⟨#[]⟩)]), (.agg [(.int .i64 1), (.int .i64 0), (.int .i64 1), (.str ⟨#[]⟩)]), (.agg [(.int .i64 23), (.int .i64 0), (.int .i64 0), (.str ⟨#[]⟩)])]) : Nat) : Int)), c29, c30])) ++ [(.agg [(.int .i64 1), (.int .i64 0), (.int .i64 0), (.str ⟨#[]⟩)])]) (Int.toNat (IntKind.i64.wrap (((List.length l15 : Nat) : Int) + 2))) (.agg [c32, (.int .i64 ((List.length ((List.set (l25 ++ [(.agg [(.int .i64 24), (.int .i64 0), (.int .i64 0), (.str ⟨#[]⟩)]), (.agg [(.int .i64 1), (.int .i64 0), (.int .i64 1), (.str ⟨#[]⟩)]), (.agg [(.int .i64 23), (.int .i64 0), (.int .i64 0), (.str ⟨#[]⟩)])]) (Int.toNat ((List.length l25 : Nat) : Int)) (.agg [c27, (.int .i64 ((List.length (l25 ++ [(.agg [(.int .i64 24), (.int .i64 0), (.int .i64 0), (.str ⟨#[]⟩)]), (.agg [(.int .i64 1), (.int .i64 0), (.int .i64 1), (.str ⟨#[]⟩)]), (.agg [(.int .i64 23), (.int .i64 0), (.int .i64 0), (.str ⟨#[]⟩)])]) : Nat) : Int)), c29, c30])) ++ [(.agg [(.int .i64 1), (.int .i64 0), (.int .i64 0), (.str ⟨#[]⟩)])]) : Nat) : Int)), c34, c35])) (Int.toNat (IntKind.i64.wrap (((List.length l25 : Nat) : Int) + 2))) fun e36 => (ca4 e36 fun c37 c38 c39 c40 => (K [(.sl 4 (List.set (List.set ((List.set (l25 ++ [(.agg [(.int .i64 24), (.int .i64 0), (.int .i64 0), (.str ⟨#[]⟩)]), (.agg [(.int .i64 1), (.int .i64 0), (.int .i64 1), (.str ⟨#[]⟩)]), (.agg [(.int .i64 23), (.int .i64 0), (.int .i64 0), (.str ⟨#[]⟩)])]) (Int.toNat ((List.length l25 : Nat) : Int)) (.agg [c27, (.int .i64 ((List.length (l25 ++ [(.agg [(.int .i64 24), (.int .i64 0), (.int .i64 0), (.str ⟨#[]⟩)]), (.agg [(.int .i64 1), (.int .i64 0), (.int .i64 1), (.str ⟨#[]⟩)]), (.agg [(.int .i64 23), (.int .i64 0), (.int .i64 0), (.str ⟨#[]⟩)])]) : Nat) : Int)), c29, c30])) ++ [(.agg [(.int .i64 1), (.int .i64 0), (.int .i64 0), (.str ⟨#[]⟩)])]) (Int.toNat (IntKind.i64.wrap (((List.length l15 : Nat) : Int) + 2))) (.agg [c32, (.int .i64 ((List.length ((List.set (l25 ++ [(.agg [(.int .i64 24), (.int .i64 0), (.int .i64 0), (.str ⟨#[]⟩)]), (.agg [(.int .i64 1), (.int .i64 0), (.int .i64 1), (.str ⟨#[]⟩)]), (.agg [(.int .i64 23), (.int .i64 0), (.int .i64 0), (.str ⟨#[]⟩)])]) (Int.toNat ((List.length l25 : Nat) : Int)) (.agg [c27, (.int .i64 ((List.length (l25 ++ [(.agg [(.int .i64 24), (.int .i64 0), (.int .i64 0), (.str ⟨#[]⟩)]), (.agg [(.int .i64 1), (.int .i64 0), (.int .i64 1), (.str ⟨#[]⟩)]), (.agg [(.int .i64 23), (.int .i64 0), (.int .i64 0), (.str ⟨#[]⟩)])]) : Nat) : Int)), c29, c30])) ++ [(.agg [(.int .i64 1), (.int .i64 0), (.int .i64 0), (.str ⟨#[]⟩)])]) : Nat) : Int)), c34, c35])) (Int.toNat (IntKind.i64.wrap (((List.length l25 : Nat) : Int) + 2))) (.agg [c37, (.int .i64 ((List.length ((List.set (l25 ++ [(.agg [(.int .i64 24), (.int .i64 0), (.int .i64 0), (.str ⟨#[]⟩)]), (.agg [(.int .i64 1), (.int .i64 0), (.int .i64 1), (.str ⟨#[]⟩)]), (.agg [(.int .i64 23), (.int .i64 0), (.int .i64 0), (.str ⟨#[]⟩)])]) (Int.toNat ((List.length l25 : Nat) : Int)) (.agg [c27, (.int .i64 ((List.length (l25 ++ [(.agg [(.int .i64 24), (.int .i64 0), (.int .i64 0), (.str ⟨#[]⟩)]), (.agg [(.int .i64 1), (.int .i64 0), (.int .i64 1), (.str ⟨#[]⟩)]), (.agg [(.int .i64 23), (.int .i64 0), (.int .i64 0), (.str ⟨#[]⟩)])]) : Nat) : Int)), c29, c30])) ++ [(.agg [(.int .i64 1), (.int .i64 0), (.int .i64 0), (.str ⟨#[]⟩)])]) : Nat) : Int)), c39, c40])))]))) else none))) else none) else none))) else none) else none)))))) else none))) else none) else none)))))) else none)
theorem f141_is {R : Type} (G : ORC R) (k : Nat) (K : List V → Option R) (al1 : List V) (ai2 ai3 : Int) (as4 : ByteArray) (al5 : List V) (ai6 : Int) (al7 al8 : List V) (al9 al10 : List V) :
    callF (TAB.env 141) G (L141 G k) Try.f141 S141 [(.sl 4 al1), (.agg [(.int .i64 ai2), (.int .i64 ai3), (.str as4), (.sl 5 al5), (.int .i64 ai6)]), (.agg [(.sl 1 al7), (.sl 1 al8), (.sl 1 al9), (.sl 7 al10)])] K = f141 G k al1 ai2 ai3 as4 al5 ai6 al7 al8 al9 al10 K := by kernel_rfl
theorem lo141 : loopsOf (bodyOf Try.f141) = [] := by kernel_rfl
theorem la141 {R : Type} (G : ORC R) (k : Nat) : LoopsAre (TAB.env 141) G (L141 G k) (bodyOf Try.f141) :=
  loopsAre_of (by rw [lo141]; intro p hp; cases hp)
def g141 {R : Type} (G : ORC R) (k : Nat) (args : List V) (K : List V → Option R) : Option R := match args with
  | [(.sl 4 al1), (.agg [(.int .i64 ai2), (.int .i64 ai3), (.str as4), (.sl 5 al5), (.int .i64 ai6)]), (.agg [(.sl 1 al7), (.sl 1 al8), (.sl 1 al9), (.sl 7 al10)])] => f141 G k al1 ai2 ai3 as4 al5 ai6 al7 al8 al9 al10 K
  | _ => none
theorem s141 {R : Type} {G : ORC R} {k : Nat} (hG : Sound Try.prog TAB G) (args : List V) (K : List V → Option R) (r : R) (h : g141 G k args K = some r) : ∃ o, CallOK Try.prog TAB.env 141 args o ∧ K o = some r := by
  unfold g141 at h
  split at h
  · rw [← f141_is] at h
    exact callF_sound (f := 141) TAB_chk MO hG Try.func141 (sg := S141) (by kernel_rfl) (by kernel_rfl) (la141 G k) h
  · cases h
end Go.Proofs.Ytblabbcmokldiaa.Vm
open Go Go.VM
set_option linter.unusedVariables false
set_option maxRecDepth 100000
set_option maxHeartbeats 4000000
namespace Go.Proofs.Ytblabbcmokldiaa.Vm
/-! ### cotillion/cotillionref16.arg: function 143 -/
def L143 {R : Type} (_ : ORC R) (_ : Nat) : Nat → St → (Ex → St → Option R) → Option R := fun _ _ _ => none
def f143 {R : Type} (G : ORC R) (k : Nat) (al1 al2 : List V) (al3 al4 : List V) (al5 al6 : List V) (K : List V → Option R) : Option R :=
  (bif (((List.length al2 : Nat) : Int) == 0) then (bif (decide (List.length al1 + 1 ≤ 1073741824)) then (K [(.sl 4 (al1 ++ [(.agg [(.int .i64 1), (.int .i64 0), (.int .i64 0), (.str ⟨#[]⟩)])]))]) else none) else (bif (decide (0 < ((List.length al2 : Nat) : Int))) then (nthK al2 0 fun e7 => (V.asAgg e7 fun l8 => (G 135 [(.sl 4 al1), (.agg l8), (.agg [(.sl 1 al3), (.sl 1 al4), (.sl 1 al5), (.sl 7 al6)])] fun o9 => (uL 4 o9 fun l11 r10 => (unNil r10 (K [(.sl 4 l11)])))))) else none))
theorem f143_is {R : Type} (G : ORC R) (k : Nat) (K : List V → Option R) (al1 al2 : List V) (al3 al4 : List V) (al5 al6 : List V) :
    callF (TAB.env 143) G (L143 G k) Try.f143 S143 [(.sl 4 al1), (.sl 5 al2), (.agg [(.sl 1 al3), (.sl 1 al4), (.sl 1 al5), (.sl 7 al6)])] K = f143 G k al1 al2 al3 al4 al5 al6 K := by kernel_rfl
theorem lo143 : loopsOf (bodyOf Try.f143) = [] := by kernel_rfl
theorem la143 {R : Type} (G : ORC R) (k : Nat) : LoopsAre (TAB.env 143) G (L143 G k) (bodyOf Try.f143) :=
  loopsAre_of (by rw [lo143]; intro p hp; cases hp)
def g143 {R : Type} (G : ORC R) (k : Nat) (args : List V) (K : List V → Option R) : Option R := match args with
  | [(.sl 4 al1), (.sl 5 al2), (.agg [(.sl 1 al3), (.sl 1 al4), (.sl 1 al5), (.sl 7 al6)])] => f143 G k al1 al2 al3 al4 al5 al6 K
  | _ => none
theorem s143 {R : Type} {G : ORC R} {k : Nat} (hG : Sound Try.prog TAB G) (args : List V) (K : List V → Option R) (r : R) (h : g143 G k args K = some r) : ∃ o, CallOK Try.prog TAB.env 143 args o ∧ K o = some r := by
  unfold g143 at h
  split at h
  · rw [← f143_is] at h
    exact callF_sound (f := 143) TAB_chk MO hG Try.func143 (sg := S143) (by kernel_rfl) (by kernel_rfl) (la143 G k) h
  · cases h
end Go.Proofs.Ytblabbcmokldiaa.Vm
open Go Go.VM
set_option linter.unusedVariables false
set_option maxRecDepth 100000
set_option maxHeartbeats 4000000
namespace Go.Proofs.Ytblabbcmokldiaa.Vm
/-! ### cotillion/cotillionref16.act: function 142 -/
def L142 {R : Type} (_ : ORC R) (_ : Nat) : Nat → St → (Ex → St → Option R) → Option R := fun _ _ _ => none
def f142 {R : Type} (G : ORC R) (k : Nat) (al1 : List V) (ai2 : Int) (as3 as4 : ByteArray) (al5 : List V) (ai6 : Int) (al7 al8 : List V) (ai9 : Int) (al10 al11 : List V) (al12 al13 : List V) (K : List V → Option R) : Option R :=
  (bif (ai2 == 1) then (G 143 [(.sl 4 al1), (.sl 5 al5), (.agg [(.sl 1 al10), (.sl 1 al11), (.sl 1 al12), (.sl 7 al13)])] fun o14 => (uL 4 o14 fun l16 r15 => (unNil r15 (G 138 [(.sl 1 al10), (.str as3)] fun o17 => (uI .i64 o17 fun n19 r18 => (unNil r18 (bif (decide (List.length l16 + 1 ≤ 1073741824)) then (K [(.sl 4 (l16 ++ [(.agg [(.int .i64 18), (.int .i64 n19), (.int .i64 0), (.str ⟨#[]⟩)])]))]) else none))))))) else (bif (ai2 == 2) then (G 143 [(.sl 4 al1), (.sl 5 al5), (.agg [(.sl 1 al10), (.sl 1 al11), (.sl 1 al12), (.sl 7 al13)])] fun o20 => (uL 4 o20 fun l22 r21 => (unNil r21 (bif (decide (List.length l22 + 1 ≤ 1073741824)) then (K [(.sl 4 (l22 ++ [(.agg [(.int .i64 19), (.int .i64 0), (.int .i64 0), (.str as4)])]))]) else none)))) else (bif (ai2 == 3) then (G 143 [(.sl 4 al1), (.sl 5 al5), (.agg [(.sl 1 al10), (.sl 1 al11), (.sl 1 al12), (.sl 7 al13)])] fun o23 => (uL 4 o23 fun l25 r24 => (unNil r24 (G 138 [(.sl 1 al11), (.str as3)] fun o26 => (uI .i64 o26 fun n28 r27 => (unNil r27 (bif (decide (List.length l25 + 1 ≤ 1073741824)) then (K [(.sl 4 (l25 ++ [(.agg [(.int .i64 20), (.int .i64 n28), (.int .i64 0), (.str as4)])]))]) else none))))))) else (bif (ai2 == 4) then (G 143 [(.sl 4 al1), (.sl 5 al5), (.agg [(.sl 1 al10), (.sl 1 al11), (.sl 1 al12), (.sl 7 al13)])] fun o29 => (uL 4 o29 fun l31 r30 => (unNil r30 (G 138 [(.sl 1 al12), (.str as3)] fun o32 => (uI .i64 o32 fun n34 r33 => (unNil r33 (bif (decide (List.length l31 + 1 ≤ 1073741824)) then (K [(.sl 4 (l31 ++ [(.agg [(.int .i64 21), (.int .i64 n34), (.int .i64 0), (.str ⟨#[]⟩)])]))]) else none))))))) else (bif (ai2 == 5) then (G 138 [(.sl 1 al12), (.str as3)] fun o35 => (uI .i64 o35 fun n37 r36 => (unNil r36 (bif (decide (List.length al1 + 1 ≤ 1073741824)) then (K [(.sl 4 (al1 ++ [(.agg [(.int .i64 22), (.int .i64 n37), (.int .i64 0), (.str ⟨#[]⟩)])]))]) else none)))) else (bif (ai2 == 7) then (bif (decide (List.length al1 + 1 ≤ 1073741824)) then (G 137 [(.sl 4 (al1 ++ [(.agg [(.int .i64 25), (.int .i64 0), (.int .i64 ai6), (.str ⟨#[]⟩)])])), (.sl 8 al7), (.agg [(.sl 1 al10), (.sl 1 al11), (.sl 1 al12), (.sl 7 al13)])] fun o38 => (uL 4 o38 fun l40 r39 => (unNil r39 (bif (decide (List.length l40 + 1 ≤ 1073741824)) then (bif ((decide (0 ≤ ((List.length al1 : Nat) : Int))) && (decide (((List.length al1 : Nat) : Int) < ((List.length (l40 ++ [(.agg [(.int .i64 26), (.int .i64 ((List.length al1 : Nat) : Int)), (.int .i64 0), (.str ⟨#[]⟩)])]) : Nat) : Int)))) then (nthK (l40 ++ [(.agg [(.int .i64 26), (.int .i64 ((List.length al1 : Nat) : Int)), (.int .i64 0), (.str ⟨#[]⟩)])]) (Int.toNat ((List.length al1 : Nat) : Int)) fun e41 => (ca4 e41 fun c42 c43 c44 c45 => (K [(.sl 4 (List.set (l40 ++ [(.agg [(.int .i64 26), (.int .i64 ((List.length al1 : Nat) : Int)), (.int .i64 0), (.str ⟨#[]⟩)])]) (Int.toNat ((List.length al1 : Nat) : Int)) (.agg [c42, (.int .i64 ((List.length (l40 ++ [(.agg [(.int .i64 26), (.int .i64 ((List.length al1 : Nat) : Int)), (.int .i64 0), (.str ⟨#[]⟩)])]) : Nat) : Int)), c44, c45])))]))) else none) else none)))) else none) else (bif (decide (0 < ((List.length al5 : Nat) : Int))) then (nthK al5 0 fun e46 => (V.asAgg e46 fun l47 => (G 135 [(.sl 4 al1), (.agg l47), (.agg [(.sl 1 al10), (.sl 1 al11), (.sl 1 al12), (.sl 7 al13)])] fun o48 => (uL 4 o48 fun l50 r49 => (unNil r49 (bif (decide (List.length l50 + 1 ≤ 1073741824)) then (G 137 [(.sl 4 (l50 ++ [(.agg [(.int .i64 24), (.int .i64 0), (.int .i64 0), (.str ⟨#[]⟩)])])), (.sl 8 al7), (.agg [(.sl 1 al10), (.sl 1 al11), (.sl 1 al12), (.sl 7 al13)])] fun o51 => (uL 4 o51 fun l53 r52 => (unNil r52 (bif (decide (((List.length al8 : Nat) : Int) > 0)) then (bif (decide (List.length l53 + 1 ≤ 1073741824)) then (bif ((decide (0 ≤ ((List.length l50 : Nat) : Int))) && (decide (((List.length l50 : Nat) : Int) < ((List.length (l53 ++ [(.agg [(.int .i64 23), (.int .i64 0), (.int .i64 0), (.str ⟨#[]⟩)])]) : Nat) : Int)))) then (nthK (l53 ++ [(.agg [(.int .i64 23), (.int .i64 0), (.int .i64 0), (.str ⟨#[]⟩)])]) (Int.toNat ((List.length l50 : Nat) : Int)) fun e54 => (ca4 e54 fun c55 c56 c57 c58 => (G 137 [(.sl 4 (List.set (l53 ++ [(.agg [(.int .i64 23), (.int .i64 0), (.int .i64 0), (.str ⟨#[]⟩)])]) (Int.toNat ((List.length l50 : Nat) : Int)) (.agg [c55, (.int .i64 ((List.length (l53 ++ [(.agg [(.int .i64 23), (.int .i64 0), (.int .i64 0), (.str ⟨#[]⟩)])]) : Nat) : Int)), c57, c58]))), (.sl 8 al8), (.agg [(.sl 1 al10), (.sl 1 al11), (.sl 1 al12), (.sl 7 al13)])] fun o59 => (uL 4 o59 fun l61 r60 => (unNil r60 (bif ((decide (0 ≤ ((List.length l53 : Nat) : Int))) && (decide (((List.length l53 : Nat) : Int) < ((List.length l61 : Nat) : Int)))) then (nthK l61 (Int.toNat ((List.length l53 : Nat) : Int)) fun e62 => (ca4 e62 fun c63 c64 c65 c66 => (K [(.sl 4 (List.set l61 (Int.toNat ((List.length l53 : Nat) : Int)) (.agg [c63, (.int .i64 ((List.length l61 : Nat) : Int)), c65, c66])))]))) else none)))))) else none) else none) else (bif ((decide (0 ≤ ((List.length l50 : Nat) : Int))) && (decide (((List.length l50 : Nat) : Int) < ((List.length l53 : Nat) : Int)))) then (nthK l53 (Int.toNat ((List.length l50 : Nat) : Int)) fun e67 => (ca4 e67 fun c68 c69 c70 c71 => (K [(.sl 4 (List.set l53 (Int.toNat ((List.length l50 : Nat) : Int)) (.agg [c68, (.int .i64 ((List.length l53 : Nat) : Int)), c70, c71])))]))) else none))))) else none)))))) else none)))))))
theorem f142_is {R : Type} (G : ORC R) (k : Nat) (K : List V → Option R) (al1 : List V) (ai2 : Int) (as3 as4 : ByteArray) (al5 : List V) (ai6 : Int) (al7 al8 : List V) (ai9 : Int) (al10 al11 : List V) (al12 al13 : List V) :
    callF (TAB.env 142) G (L142 G k) Try.f142 S142 [(.sl 4 al1), (.agg [(.int .i64 ai2), (.str as3), (.str as4), (.sl 5 al5), (.int .i64 ai6), (.sl 8 al7), (.sl 8 al8), (.int .i64 ai9)]), (.agg [(.sl 1 al10), (.sl 1 al11), (.sl 1 al12), (.sl 7 al13)])] K = f142 G k al1 ai2 as3 as4 al5 ai6 al7 al8 ai9 al10 al11 al12 al13 K := by kernel_rfl
theorem lo142 : loopsOf (bodyOf Try.f142) = [] := by kernel_rfl
theorem la142 {R : Type} (G : ORC R) (k : Nat) : LoopsAre (TAB.env 142) G (L142 G k) (bodyOf Try.f142) :=
  loopsAre_of (by rw [lo142]; intro p hp; cases hp)
def g142 {R : Type} (G : ORC R) (k : Nat) (args : List V) (K : List V → Option R) : Option R := match args with
  | [(.sl 4 al1), (.agg [(.int .i64 ai2), (.str as3), (.str as4), (.sl 5 al5), (.int .i64 ai6), (.sl 8 al7), (.sl 8 al8), (.int .i64 ai9)]), (.agg [(.sl 1 al10), (.sl 1 al11), (.sl 1 al12), (.sl 7 al13)])] => f142 G k al1 ai2 as3 as4 al5 ai6 al7 al8 ai9 al10 al11 al12 al13 K
  | _ => none
theorem s142 {R : Type} {G : ORC R} {k : Nat} (hG : Sound Try.prog TAB G) (args : List V) (K : List V → Option R) (r : R) (h : g142 G k args K = some r) : ∃ o, CallOK Try.prog TAB.env 142 args o ∧ K o = some r := by
  unfold g142 at h
  split at h
  · rw [← f142_is] at h
    exact callF_sound (f := 142) TAB_chk MO hG Try.func142 (sg := S142) (by kernel_rfl) (by kernel_rfl) (la142 G k) h
  · cases h
end Go.Proofs.Ytblabbcmokldiaa.Vm
open Go Go.VM
set_option linter.unusedVariables false
set_option maxRecDepth 100000
set_option maxHeartbeats 4000000
namespace Go.Proofs.Ytblabbcmokldiaa.Vm
/-! ### cotillion/cotillionref16.block: function 137 -/
def P137_0h : Pat := { tmps := unds [.var (.sl 4) (.own true), .var (.sl 8) .ro, .undef, .undef, .undef, .stat (.one (.ptr 5 0) .pt), .undef, .var (.int .i64) .pr] 14 [], boxes := nons [] 5 (nons [some [.var (.sl 1) .ro false, .var (.sl 1) .ro false, .var (.sl 1) .ro false, .var (.sl 7) .ro false]] 16 []) }
def P137_0x : Pat := { tmps := unds [.var (.sl 4) (.own true)] 21 [], boxes := nons [] 22 [] }
def b137_0 {R : Type} (G : ORC R) (k : Nat) (X : List V → List V → Int → List V → List V → List V → List V → Option R) (Ko : List V → Option R) (xl7 xl8 : List V) (xi9 : Int) (xl10 xl11 : List V) (xl12 xl13 : List V) : Option R :=
  (bif (decide (xi9 < ((List.length xl8 : Nat) : Int))) then (bif ((decide (0 ≤ xi9)) && (decide (xi9 < ((List.length xl8 : Nat) : Int)))) then (nthK xl8 (Int.toNat xi9) fun e14 => (V.asAgg e14 fun l15 => (G 142 [(.sl 4 xl7), (.agg l15), (.agg [(.sl 1 xl10), (.sl 1 xl11), (.sl 1 xl12), (.sl 7 xl13)])] fun o16 => (uL 4 o16 fun l18 r17 => (unNil r17 (X l18 xl8 (IntKind.i64.wrap (xi9 + 1)) xl10 xl11 xl12 xl13)))))) else none) else (Ko xl7))
def l137_0g {R : Type} (G : ORC R) (k : Nat) (Ko : List V → Option R) : Nat → List V → List V → Int → List V → List V → List V → List V → Option R
  | 0 => fun _ _ _ _ _ _ _ => none
  | j + 1 => b137_0 G k (l137_0g G k Ko j) Ko
def l137_0 {R : Type} (G : ORC R) (k : Nat) (xl7 xl8 : List V) (xi9 : Int) (xl10 xl11 : List V) (xl12 xl13 : List V) (Ko : List V → Option R) : Option R := l137_0g G k Ko k xl7 xl8 xi9 xl10 xl11 xl12 xl13
def rd137_0 {R : Type} (G : ORC R) (k : Nat) (K : Ex → St → Option R) (j : Nat) (vs : List V) : Option R := match vs with
  | [(.sl 4 xl7), (.sl 8 xl8), (.int .i64 xi9), (.sl 1 xl10), (.sl 1 xl11), (.sl 1 xl12), (.sl 7 xl13)] => l137_0g G k (fun yl20 => K .normal (P137_0x.inst [(.sl 4 yl20)])) j xl7 xl8 xi9 xl10 xl11 xl12 xl13
  | _ => none
def L137 {R : Type} (G : ORC R) (k : Nat) : Nat → St → (Ex → St → Option R) → Option R
  | 0, S, K => P137_0h.mat S fun vs => rd137_0 G k K k vs
  | _, _, _ => none
def f137 {R : Type} (G : ORC R) (k : Nat) (al1 al2 : List V) (al3 al4 : List V) (al5 al6 : List V) (K : List V → Option R) : Option R :=
  (l137_0 G k al1 al2 0 al3 al4 al5 al6 (fun yl19 => (K [(.sl 4 yl19)])))
noncomputable def D137_0 : LoopD := { id := 0, body := loopAt 0 (bodyOf Try.f137), head := P137_0h, out := P137_0x, ret := default }
theorem l137_0_is {R : Type} (G : ORC R) (k : Nat) (X : List V → Option R) (K : Ex → St → Option R) (xl7 xl8 : List V) (xi9 : Int) (xl10 xl11 : List V) (xl12 xl13 : List V) :
    roundOf (TAB.env 137) G (L137 G k) D137_0 X K [(.sl 4 xl7), (.sl 8 xl8), (.int .i64 xi9), (.sl 1 xl10), (.sl 1 xl11), (.sl 1 xl12), (.sl 7 xl13)] = b137_0 G k (fun xl7 xl8 xi9 xl10 xl11 xl12 xl13 => X [(.sl 4 xl7), (.sl 8 xl8), (.int .i64 xi9), (.sl 1 xl10), (.sl 1 xl11), (.sl 1 xl12), (.sl 7 xl13)]) (fun yl20 => K .normal (P137_0x.inst [(.sl 4 yl20)])) xl7 xl8 xi9 xl10 xl11 xl12 xl13 := by kernel_rfl
theorem f137_is {R : Type} (G : ORC R) (k : Nat) (K : List V → Option R) (al1 al2 : List V) (al3 al4 : List V) (al5 al6 : List V) :
    callF (TAB.env 137) G (L137 G k) Try.f137 S137 [(.sl 4 al1), (.sl 8 al2), (.agg [(.sl 1 al3), (.sl 1 al4), (.sl 1 al5), (.sl 7 al6)])] K = f137 G k al1 al2 al3 al4 al5 al6 K := by kernel_rfl
theorem li137_0 {R : Type} (G : ORC R) (k : Nat) : LoopIs (TAB.env 137) G (L137 G k) 0 (loopAt 0 (bodyOf Try.f137)) :=
  ⟨D137_0, fun j vs K => rd137_0 G k K j vs, k, rfl, rfl, by kernel_rfl, by kernel_rfl, by kernel_rfl, (fun vs K => by unfold rd137_0; dsimp only; split <;> rfl),
    (fun j vs K r h => by
      unfold rd137_0 at h
      dsimp only at h
      split at h
      · rw [l137_0_is]; exact h
      · cases h), (fun S K r h => h)⟩
theorem lo137 : loopsOf (bodyOf Try.f137) = [(0, loopAt 0 (bodyOf Try.f137))] := by kernel_rfl
theorem la137 {R : Type} (G : ORC R) (k : Nat) : LoopsAre (TAB.env 137) G (L137 G k) (bodyOf Try.f137) :=
  loopsAre_of (by rw [lo137]; intro p hp; simp only [List.mem_cons, List.not_mem_nil, or_false] at hp; subst hp; exact li137_0 G k)
def g137 {R : Type} (G : ORC R) (k : Nat) (args : List V) (K : List V → Option R) : Option R := match args with
  | [(.sl 4 al1), (.sl 8 al2), (.agg [(.sl 1 al3), (.sl 1 al4), (.sl 1 al5), (.sl 7 al6)])] => f137 G k al1 al2 al3 al4 al5 al6 K
  | _ => none
theorem s137 {R : Type} {G : ORC R} {k : Nat} (hG : Sound Try.prog TAB G) (args : List V) (K : List V → Option R) (r : R) (h : g137 G k args K = some r) : ∃ o, CallOK Try.prog TAB.env 137 args o ∧ K o = some r := by
  unfold g137 at h
  split at h
  · rw [← f137_is] at h
    exact callF_sound (f := 137) TAB_chk MO hG Try.func137 (sg := S137) (by kernel_rfl) (by kernel_rfl) (la137 G k) h
  · cases h
end Go.Proofs.Ytblabbcmokldiaa.Vm
open Go Go.VM
set_option linter.unusedVariables false
set_option maxRecDepth 100000
set_option maxHeartbeats 4000000
namespace Go.Proofs.Ytblabbcmokldiaa.Vm
/-! ### cotillion/cotillionref16.Block: function 134 -/
def L134 {R : Type} (_ : ORC R) (_ : Nat) : Nat → St → (Ex → St → Option R) → Option R := fun _ _ _ => none
def f134 {R : Type} (G : ORC R) (k : Nat) (al1 al2 : List V) (al3 al4 al5 : List V) (K : List V → Option R) : Option R :=
  (G 137 [(.sl 4 []), (.sl 8 al1), (.agg [(.sl 1 al2), (.sl 1 al3), (.sl 1 al4), (.sl 7 al5)])] fun o6 => (uL 4 o6 fun l8 r7 => (unNil r7 (K [(.sl 4 l8)]))))
theorem f134_is {R : Type} (G : ORC R) (k : Nat) (K : List V → Option R) (al1 al2 : List V) (al3 al4 al5 : List V) :
    callF (TAB.env 134) G (L134 G k) Try.f134 S134 [(.sl 8 al1), (.agg [(.sl 1 al2), (.sl 1 al3), (.sl 1 al4), (.sl 7 al5)])] K = f134 G k al1 al2 al3 al4 al5 K := by kernel_rfl
theorem lo134 : loopsOf (bodyOf Try.f134) = [] := by kernel_rfl
theorem la134 {R : Type} (G : ORC R) (k : Nat) : LoopsAre (TAB.env 134) G (L134 G k) (bodyOf Try.f134) :=
  loopsAre_of (by rw [lo134]; intro p hp; cases hp)
def g134 {R : Type} (G : ORC R) (k : Nat) (args : List V) (K : List V → Option R) : Option R := match args with
  | [(.sl 8 al1), (.agg [(.sl 1 al2), (.sl 1 al3), (.sl 1 al4), (.sl 7 al5)])] => f134 G k al1 al2 al3 al4 al5 K
  | _ => none
theorem s134 {R : Type} {G : ORC R} {k : Nat} (hG : Sound Try.prog TAB G) (args : List V) (K : List V → Option R) (r : R) (h : g134 G k args K = some r) : ∃ o, CallOK Try.prog TAB.env 134 args o ∧ K o = some r := by
  unfold g134 at h
  split at h
  · rw [← f134_is] at h
    exact callF_sound (f := 134) TAB_chk MO hG Try.func134 (sg := S134) (by kernel_rfl) (by kernel_rfl) (la134 G k) h
  · cases h
end Go.Proofs.Ytblabbcmokldiaa.Vm
open Go Go.VM
set_option linter.unusedVariables false
set_option maxRecDepth 100000
set_option maxHeartbeats 4000000
namespace Go.Proofs.Ytblabbcmokldiaa.Vm
/-! ### cotillion/cotillionref16.Guard: function 126 -/
def L126 {R : Type} (_ : ORC R) (_ : Nat) : Nat → St → (Ex → St → Option R) → Option R := fun _ _ _ => none
def f126 {R : Type} (G : ORC R) (k : Nat) (ai1 ai2 : Int) (as3 : ByteArray) (al4 : List V) (ai5 : Int) (al6 al7 : List V) (al8 al9 : List V) (K : List V → Option R) : Option R :=
  (G 135 [(.sl 4 []), (.agg [(.int .i64 ai1), (.int .i64 ai2), (.str as3), (.sl 5 al4), (.int .i64 ai5)]), (.agg [(.sl 1 al6), (.sl 1 al7), (.sl 1 al8), (.sl 7 al9)])] fun o10 => (uL 4 o10 fun l12 r11 => (unNil r11 (K [(.sl 4 l12)]))))
theorem f126_is {R : Type} (G : ORC R) (k : Nat) (K : List V → Option R) (ai1 ai2 : Int) (as3 : ByteArray) (al4 : List V) (ai5 : Int) (al6 al7 : List V) (al8 al9 : List V) :
    callF (TAB.env 126) G (L126 G k) Try.f126 S126 [(.agg [(.int .i64 ai1), (.int .i64 ai2), (.str as3), (.sl 5 al4), (.int .i64 ai5)]), (.agg [(.sl 1 al6), (.sl 1 al7), (.sl 1 al8), (.sl 7 al9)])] K = f126 G k ai1 ai2 as3 al4 ai5 al6 al7 al8 al9 K := by kernel_rfl
theorem lo126 : loopsOf (bodyOf Try.f126) = [] := by kernel_rfl
theorem la126 {R : Type} (G : ORC R) (k : Nat) : LoopsAre (TAB.env 126) G (L126 G k) (bodyOf Try.f126) :=
  loopsAre_of (by rw [lo126]; intro p hp; cases hp)
def g126 {R : Type} (G : ORC R) (k : Nat) (args : List V) (K : List V → Option R) : Option R := match args with
  | [(.agg [(.int .i64 ai1), (.int .i64 ai2), (.str as3), (.sl 5 al4), (.int .i64 ai5)]), (.agg [(.sl 1 al6), (.sl 1 al7), (.sl 1 al8), (.sl 7 al9)])] => f126 G k ai1 ai2 as3 al4 ai5 al6 al7 al8 al9 K
  | _ => none
theorem s126 {R : Type} {G : ORC R} {k : Nat} (hG : Sound Try.prog TAB G) (args : List V) (K : List V → Option R) (r : R) (h : g126 G k args K = some r) : ∃ o, CallOK Try.prog TAB.env 126 args o ∧ K o = some r := by
  unfold g126 at h
  split at h
  · rw [← f126_is] at h
    exact callF_sound (f := 126) TAB_chk MO hG Try.func126 (sg := S126) (by kernel_rfl) (by kernel_rfl) (la126 G k) h
  · cases h
end Go.Proofs.Ytblabbcmokldiaa.Vm
open Go Go.VM
set_option linter.unusedVariables false
set_option linter.unusedSimpArgs false
set_option maxRecDepth 100000
set_option maxHeartbeats 8000000
namespace Go.Proofs.Ytblabbcmokldiaa.Vm
section
variable {R : Type} {G : ORC R} {k : Nat} {K : List V → Option R}
def PlOK (G : ORC R) : Prop := ∀ (l : List V) (s : ByteArray) (K : List V → Option R), StrsS 100 l → W (fun o => ∃ i, o = [.int .i64 i]) K (G 138 [.sl 1 l, .str s] K)
theorem pl_loop {Q : List V → Prop} {K : List V → Option R} {Ko : Unit → Option R} {Kr : Int → Option R} {l : List V} {s : ByteArray} (hl : StrsS 100 l) (hKo : W Q K (Ko ())) (hKr : ∀ i, W Q K (Kr i)) :
    ∀ (j : Nat) (i : Int), 0 ≤ i → i ≤ l.length → l.length - i < j → W Q K (l138_0g G k Ko Kr j l s i)
  | 0, i, h1, h2, h3 => by omega
  | j + 1, i, h1, h2, h3 => by
    show W Q K (b138_0 G k (l138_0g G k Ko Kr j) Ko Kr l s i)
    unfold b138_0
    have hll := hl.1
    refine W_dec (fun h => ?_) (fun h => hKo)
    refine W_and (W_yes h1 (W_yes h ?_))
    refine W_nth (by omega) (fun v _ hv => ?_)
    obtain ⟨t, rfl, ht⟩ := hl.2 v hv
    refine W_asStr (W_bool (fun _ => hKr i) (fun _ => ?_))
    rw [wrap_id (n := i + 1) (by omega)]
    exact pl_loop hl hKo hKr j (i + 1) (by omega) (by omega) (by omega)
theorem pl_ok (hk : 10000 ≤ k) : PlOK (fun _ args (K : List V → Option R) => g138 G k args K) := by
  intro l s K hl
  show W _ K (f138 G k l s K)
  unfold f138 l138_0
  have hll := hl.1
  exact pl_loop hl (W_ret ⟨_, rfl⟩) (fun i => W_ret ⟨_, rfl⟩) k 0 (by omega) (by omega) (by omega)
def OpOK (G : ORC R) : Prop := ∀ (n : Int) (K : List V → Option R), W (fun o => ∃ i, o = [.int .i64 i]) K (G 139 [.int .i64 n] K)
theorem op_ok : OpOK (fun _ args (K : List V → Option R) => g139 G k args K) := by
  intro n K
  show W _ K (f139 G k n K)
  unfold f139
  refine W_beqI (fun _ => W_ret ⟨_, rfl⟩) (fun _ => ?_)
  exact W_beqI (fun _ => W_ret ⟨_, rfl⟩) (fun _ => W_ret ⟨_, rfl⟩)
def CodeQ (c : List V) (m : Nat) (o : List V) : Prop := ∃ c', o = [.sl 4 c'] ∧ AllI c' ∧ c.length ≤ c'.length ∧ c'.length ≤ c.length + m
def NamS (a p t : List V) (nd : List Nd) : Prop := StrsS 100 a ∧ StrsS 100 p ∧ StrsS 100 t ∧ nd.length ≤ 1000
def namV (a p t : List V) (nd : List Nd) : V := .agg [.sl 1 a, .sl 1 p, .sl 1 t, .sl 7 (nd.map Nd.v)]
def RExprOK (d : Nat) (G : ORC R) : Prop := ∀ (c : List V) (e : V) (a p t : List V) (nd : List Nd) (K : List V → Option R), AllI c → ExprS d e → NamS a p t nd → c.length + ce d ≤ 1000000 →
  W (CodeQ c (ce d)) K (G 135 [.sl 4 c, e, namV a p t nd] K)
def RBothOK (f : Nat) (d : Nat) (G : ORC R) : Prop := ∀ (c : List V) (kind n x : Int) (nm : ByteArray) (kids a p t : List V) (nd : List Nd) (K : List V → Option R), AllI c → kids.length = 2 → (∀ e ∈ kids, ExprS d e) → NamS a p t nd → c.length + ce (d + 1) ≤ 1000000 →
  W (CodeQ c (ce (d + 1))) K (G f [.sl 4 c, .agg [.int .i64 kind, .int .i64 n, .str nm, .sl 5 kids, .int .i64 x], namV a p t nd] K)
theorem rand_ok {d : Nat} (hE : RExprOK d G) : RBothOK 140 d (fun _ args (K : List V → Option R) => g140 G k args K) := by
  intro c kind n x nm kids a p t nd K hc hk hkd hn hm
  show W _ K (f140 G k c kind n nm kids x a p t (nd.map Nd.v) K)
  unfold f140
  have hce : ce (d + 1) = 2 * ce d + 8 := rfl
  unfold RExprOK CodeQ namV at hE
  refine W_yes (by omega) (W_nth (by omega) (fun v hv hvm => ?_))
  have h1 := hkd v hvm
  have h1' := h1
  cases d with
  | zero => exact h1.elim
  | succ d =>
  obtain ⟨_, _, _, _, rfl, _⟩ := h1
  refine W_asAgg ?_
  refine W_call (hE c _ a p t nd _ hc h1' hn (by omega)) ?_
  rintro _ ⟨c1, rfl, a1, b1, b2⟩
  refine W_uL (W_unNil (W_yes (by omega) (W_yes (by omega) (W_nth (by omega) (fun v hv hvm => ?_)))))
  have h2 := hkd v hvm
  have h2' := h2
  obtain ⟨_, _, _, _, rfl, _⟩ := h2
  refine W_asAgg ?_
  refine W_call (hE _ _ a p t nd _ (by (repeat (first | assumption | exact allI_nil | refine allI_app ?_ ?_ | refine allI_set ?_ ?_ | refine allI_cons ?_ ?_ | exact ⟨_, _, _, _, rfl⟩))) h2' hn (by (first | omega | (simp only [List.length_set, List.length_append, List.length_cons, List.length_nil, Int.toNat_natCast] at *; omega)))) ?_
  rintro _ ⟨c2, rfl, a2, b3, b4⟩
  simp only [List.length_append, List.length_cons, List.length_nil] at b3 b4
  refine W_uL (W_unNil (W_yes (by (first | omega | (simp only [List.length_set, List.length_append, List.length_cons, List.length_nil, Int.toNat_natCast] at *; omega))) (W_and (W_yes (by (first | omega | (simp only [List.length_set, List.length_append, List.length_cons, List.length_nil, Int.toNat_natCast] at *; omega))) (W_yes (by (first | omega | (simp only [List.length_set, List.length_append, List.length_cons, List.length_nil, Int.toNat_natCast] at *; omega))) (W_nth (by (first | omega | (simp only [List.length_set, List.length_append, List.length_cons, List.length_nil, Int.toNat_natCast] at *; omega))) (fun v hv hvm => ?_)))))))
  obtain ⟨_, _, _, _, rfl⟩ := (show AllI _ by (repeat (first | assumption | exact allI_nil | refine allI_app ?_ ?_ | refine allI_set ?_ ?_ | refine allI_cons ?_ ?_ | exact ⟨_, _, _, _, rfl⟩))) v hvm
  refine W_ca4 (W_and (W_yes (by (first | omega | (simp only [List.length_set, List.length_append, List.length_cons, List.length_nil, Int.toNat_natCast] at *; omega))) (W_yes (by (first | omega | (simp only [List.length_set, List.length_append, List.length_cons, List.length_nil, Int.toNat_natCast] at *; omega))) (W_nth (by (first | omega | (simp only [List.length_set, List.length_append, List.length_cons, List.length_nil, Int.toNat_natCast] at *; omega))) (fun v hv hvm => ?_)))))
  obtain ⟨_, _, _, _, rfl⟩ := (show AllI _ by (repeat (first | assumption | exact allI_nil | refine allI_app ?_ ?_ | refine allI_set ?_ ?_ | refine allI_cons ?_ ?_ | exact ⟨_, _, _, _, rfl⟩))) v hvm
  refine W_ca4 (W_yes (by (first | omega | (simp only [List.length_set, List.length_append, List.length_cons, List.length_nil, Int.toNat_natCast] at *; omega))) ?_)
  rw [wrap_id (n := (c2.length : Int) + 2) (by omega)]
  refine W_and (W_yes (by omega) (W_yes (by (first | omega | (simp only [List.length_set, List.length_append, List.length_cons, List.length_nil, Int.toNat_natCast] at *; omega))) (W_nth (by (first | omega | (simp only [List.length_set, List.length_append, List.length_cons, List.length_nil, Int.toNat_natCast] at *; omega))) (fun v hv hvm => ?_))))
  obtain ⟨_, _, _, _, rfl⟩ := (show AllI _ by (repeat (first | assumption | exact allI_nil | refine allI_app ?_ ?_ | refine allI_set ?_ ?_ | refine allI_cons ?_ ?_ | exact ⟨_, _, _, _, rfl⟩))) v hvm
  refine W_ca4 (W_ret ⟨_, rfl, by (repeat (first | assumption | exact allI_nil | refine allI_app ?_ ?_ | refine allI_set ?_ ?_ | refine allI_cons ?_ ?_ | exact ⟨_, _, _, _, rfl⟩)), by (first | omega | (simp only [List.length_set, List.length_append, List.length_cons, List.length_nil, Int.toNat_natCast] at *; omega)), by (first | omega | (simp only [List.length_set, List.length_append, List.length_cons, List.length_nil, Int.toNat_natCast] at *; omega))⟩)
theorem ror_ok {d : Nat} (hE : RExprOK d G) : RBothOK 141 d (fun _ args (K : List V → Option R) => g141 G k args K) := by
  intro c kind n x nm kids a p t nd K hc hk hkd hn hm
  show W _ K (f141 G k c kind n nm kids x a p t (nd.map Nd.v) K)
  unfold f141
  have hce : ce (d + 1) = 2 * ce d + 8 := rfl
  unfold RExprOK CodeQ namV at hE
  refine W_yes (by omega) (W_nth (by omega) (fun v hv hvm => ?_))
  have h1 := hkd v hvm
  have h1' := h1
  cases d with
  | zero => exact h1.elim
  | succ d =>
  obtain ⟨_, _, _, _, rfl, _⟩ := h1
  refine W_asAgg ?_
  refine W_call (hE c _ a p t nd _ hc h1' hn (by omega)) ?_
  rintro _ ⟨c1, rfl, a1, b1, b2⟩
  refine W_uL (W_unNil (W_yes (by (first | omega | (simp only [List.length_set, List.length_append, List.length_cons, List.length_nil, Int.toNat_natCast] at *; omega))) (W_and (W_yes (by (first | omega | (simp only [List.length_set, List.length_append, List.length_cons, List.length_nil, Int.toNat_natCast] at *; omega))) (W_yes (by (first | omega | (simp only [List.length_set, List.length_append, List.length_cons, List.length_nil, Int.toNat_natCast] at *; omega))) (W_nth (by (first | omega | (simp only [List.length_set, List.length_append, List.length_cons, List.length_nil, Int.toNat_natCast] at *; omega))) (fun v hv hvm => ?_)))))))
  obtain ⟨_, _, _, _, rfl⟩ := (show AllI _ by (repeat (first | assumption | exact allI_nil | refine allI_app ?_ ?_ | refine allI_set ?_ ?_ | refine allI_cons ?_ ?_ | exact ⟨_, _, _, _, rfl⟩))) v hvm
  refine W_ca4 ?_
  refine W_yes (by omega) (W_nth (by omega) (fun v hv hvm => ?_))
  have h2 := hkd v hvm
  have h2' := h2
  obtain ⟨_, _, _, _, rfl, _⟩ := h2
  refine W_asAgg ?_
  refine W_call (hE _ _ a p t nd _ (by (repeat (first | assumption | exact allI_nil | refine allI_app ?_ ?_ | refine allI_set ?_ ?_ | refine allI_cons ?_ ?_ | exact ⟨_, _, _, _, rfl⟩))) h2' hn (by (first | omega | (simp only [List.length_set, List.length_append, List.length_cons, List.length_nil, Int.toNat_natCast] at *; omega)))) ?_
  rintro _ ⟨c2, rfl, a2, b3, b4⟩
  simp only [List.length_set, List.length_append, List.length_cons, List.length_nil] at b3 b4
  refine W_uL (W_unNil (W_yes (by (first | omega | (simp only [List.length_set, List.length_append, List.length_cons, List.length_nil, Int.toNat_natCast] at *; omega))) (W_and (W_yes (by (first | omega | (simp only [List.length_set, List.length_append, List.length_cons, List.length_nil, Int.toNat_natCast] at *; omega))) (W_yes (by (first | omega | (simp only [List.length_set, List.length_append, List.length_cons, List.length_nil, Int.toNat_natCast] at *; omega))) (W_nth (by (first | omega | (simp only [List.length_set, List.length_append, List.length_cons, List.length_nil, Int.toNat_natCast] at *; omega))) (fun v hv hvm => ?_)))))))
  obtain ⟨_, _, _, _, rfl⟩ := (show AllI _ by (repeat (first | assumption | exact allI_nil | refine allI_app ?_ ?_ | refine allI_set ?_ ?_ | refine allI_cons ?_ ?_ | exact ⟨_, _, _, _, rfl⟩))) v hvm
  refine W_ca4 (W_yes (by (first | omega | (simp only [List.length_set, List.length_append, List.length_cons, List.length_nil, Int.toNat_natCast] at *; omega))) ?_)
  rw [wrap_id (n := (c1.length : Int) + 2) (by omega), wrap_id (n := (c2.length : Int) + 2) (by omega)]
  refine W_and (W_yes (by omega) (W_yes (by (first | omega | (simp only [List.length_set, List.length_append, List.length_cons, List.length_nil, Int.toNat_natCast] at *; omega))) (W_nth (by (first | omega | (simp only [List.length_set, List.length_append, List.length_cons, List.length_nil, Int.toNat_natCast] at *; omega))) (fun v hv hvm => ?_))))
  obtain ⟨_, _, _, _, rfl⟩ := (show AllI _ by (repeat (first | assumption | exact allI_nil | refine allI_app ?_ ?_ | refine allI_set ?_ ?_ | refine allI_cons ?_ ?_ | exact ⟨_, _, _, _, rfl⟩))) v hvm
  refine W_ca4 ?_
  refine W_and (W_yes (by omega) (W_yes (by (first | omega | (simp only [List.length_set, List.length_append, List.length_cons, List.length_nil, Int.toNat_natCast] at *; omega))) (W_nth (by (first | omega | (simp only [List.length_set, List.length_append, List.length_cons, List.length_nil, Int.toNat_natCast] at *; omega))) (fun v hv hvm => ?_))))
  obtain ⟨_, _, _, _, rfl⟩ := (show AllI _ by (repeat (first | assumption | exact allI_nil | refine allI_app ?_ ?_ | refine allI_set ?_ ?_ | refine allI_cons ?_ ?_ | exact ⟨_, _, _, _, rfl⟩))) v hvm
  refine W_ca4 (W_ret ⟨_, rfl, by (repeat (first | assumption | exact allI_nil | refine allI_app ?_ ?_ | refine allI_set ?_ ?_ | refine allI_cons ?_ ?_ | exact ⟨_, _, _, _, rfl⟩)), by (first | omega | (simp only [List.length_set, List.length_append, List.length_cons, List.length_nil, Int.toNat_natCast] at *; omega)), by (first | omega | (simp only [List.length_set, List.length_append, List.length_cons, List.length_nil, Int.toNat_natCast] at *; omega))⟩)
theorem allI_snoc {c : List V} {v : V} (h : AllI c) (h1 : InsS v) : AllI (c ++ [v]) := allI_app h (allI_cons h1 allI_nil)
theorem ins_mk {a b c : Int} {s : ByteArray} : InsS (.agg [.int .i64 a, .int .i64 b, .int .i64 c, .str s]) := ⟨_, _, _, _, rfl⟩
theorem rexpr_ok {d : Nat} (hPl : PlOK G) (hF : FindOK G) (hOp : OpOK G) (hE : RExprOK d G) (hA : RBothOK 140 d G) (hO : RBothOK 141 d G) : RExprOK (d + 1) (fun _ args (K : List V → Option R) => g135 G k args K) := by
  intro c e a p t nd K hc he hn hm
  obtain ⟨kind, n, nm, kids, rfl, x1, x2, x3, x4, x5, x6, x7⟩ := he
  show W _ K (f135 G k c kind n nm kids 0 a p t (nd.map Nd.v) K)
  unfold f135
  have hce : ce (d + 1) = 2 * ce d + 8 := rfl
  unfold RExprOK CodeQ namV at hE
  unfold RBothOK CodeQ namV at hA hO
  unfold PlOK at hPl; unfold FindOK at hF; unfold OpOK at hOp
  have sn : ∀ {c' : List V} {v : V}, AllI c' → InsS v → c.length ≤ c'.length → c'.length + 1 ≤ c.length + ce (d + 1) → W (CodeQ c (ce (d + 1))) K (bif decide (List.length c' + 1 ≤ 1073741824) then K [.sl 4 (c' ++ [v])] else none) :=
    fun h1 h2 h3 h4 => W_yes (by omega) (W_ret ⟨_, rfl, allI_snoc h1 h2, by (first | omega | (simp only [List.length_set, List.length_append, List.length_cons, List.length_nil, Int.toNat_natCast] at *; omega)), by (first | omega | (simp only [List.length_set, List.length_append, List.length_cons, List.length_nil, Int.toNat_natCast] at *; omega))⟩)
  have one : ∀ (h : kids.length = 1 ∨ kids.length = 2), W (CodeQ c (ce (d + 1))) K (bif decide ((0 : Int) < ((List.length kids : Nat) : Int)) then nthK kids 0 fun e21 => V.asAgg e21 fun l22 => G 135 [.sl 4 c, .agg l22, .agg [.sl 1 a, .sl 1 p, .sl 1 t, .sl 7 (nd.map Nd.v)]] fun o23 => unCons o23 fun c24 r25 => V.asSl c24 fun z26 l27 => bif z26 == 4 then unNil r25 (G 139 [.int .i64 kind] fun o28 => unCons o28 fun c29 r30 => V.asInt c29 fun k31 n32 => bif decide (k31 = .i64) then unNil r30 (bif decide (List.length l27 + 1 ≤ 1073741824) then K [.sl 4 (l27 ++ [.agg [.int .i64 n32, .int .i64 0, .int .i64 0, .str ⟨#[]⟩]])] else none) else none) else none else none) := by
    intro h
    refine W_yes (by omega) (W_nth (by omega) (fun v hv hvm => ?_))
    have h1 := x6 v hvm
    have h1' := h1
    cases d with
    | zero => exact h1.elim
    | succ d =>
    obtain ⟨_, _, _, _, rfl, _⟩ := h1
    refine W_asAgg (W_call (hE c _ a p t nd _ hc h1' hn (by omega)) ?_)
    rintro _ ⟨c1, rfl, a1, b1, b2⟩
    refine W_uL (W_unNil (W_call (hOp _ _) ?_))
    rintro _ ⟨i, rfl⟩
    exact W_uI (W_unNil (sn a1 ins_mk (by omega) (by omega)))
  have both : ∀ (h : kids.length = 2), W (CodeQ c (ce (d + 1))) K (bif decide ((0 : Int) < ((List.length kids : Nat) : Int)) then nthK kids 0 fun e21 => V.asAgg e21 fun l22 => G 135 [.sl 4 c, .agg l22, .agg [.sl 1 a, .sl 1 p, .sl 1 t, .sl 7 (nd.map Nd.v)]] fun o23 => unCons o23 fun c24 r25 => V.asSl c24 fun z26 l27 => bif z26 == 4 then unNil r25 (bif decide ((1 : Int) < ((List.length kids : Nat) : Int)) then nthK kids 1 fun e50 => V.asAgg e50 fun l51 => G 135 [.sl 4 l27, .agg l51, .agg [.sl 1 a, .sl 1 p, .sl 1 t, .sl 7 (nd.map Nd.v)]] fun o52 => unCons o52 fun c53 r54 => V.asSl c53 fun z55 l56 => bif z55 == 4 then unNil r54 (G 139 [.int .i64 kind] fun o28 => unCons o28 fun c29 r30 => V.asInt c29 fun k31 n32 => bif decide (k31 = .i64) then unNil r30 (bif decide (List.length l56 + 1 ≤ 1073741824) then K [.sl 4 (l56 ++ [.agg [.int .i64 n32, .int .i64 0, .int .i64 0, .str ⟨#[]⟩]])] else none) else none) else none else none) else none else none) := by
    intro h
    refine W_yes (by omega) (W_nth (by omega) (fun v hv hvm => ?_))
    have h1 := x6 v hvm
    have h1' := h1
    cases d with
    | zero => exact h1.elim
    | succ d =>
    obtain ⟨_, _, _, _, rfl, _⟩ := h1
    refine W_asAgg (W_call (hE c _ a p t nd _ hc h1' hn (by omega)) ?_)
    rintro _ ⟨c1, rfl, a1, b1, b2⟩
    refine W_uL (W_unNil ?_)
    refine W_yes (by omega) (W_nth (by omega) (fun v hv hvm => ?_))
    have h2 := x6 v hvm
    have h2' := h2
    obtain ⟨_, _, _, _, rfl, _⟩ := h2
    refine W_asAgg (W_call (hE c1 _ a p t nd _ a1 h2' hn (by omega)) ?_)
    rintro _ ⟨c2, rfl, a2, b3, b4⟩
    refine W_uL (W_unNil (W_call (hOp _ _) ?_))
    rintro _ ⟨i, rfl⟩
    exact W_uI (W_unNil (sn a2 ins_mk (by omega) (by omega)))
  have hand : kids.length = 2 → W (CodeQ c (ce (d + 1))) K (G 140 [.sl 4 c, .agg [.int .i64 kind, .int .i64 n, .str nm, .sl 5 kids, .int .i64 0], .agg [.sl 1 a, .sl 1 p, .sl 1 t, .sl 7 (nd.map Nd.v)]] fun o33 => unCons o33 fun c34 r35 => V.asSl c34 fun z36 l37 => bif z36 == 4 then unNil r35 (K [.sl 4 l37]) else none) := by
    intro h
    refine W_call (hA c kind n 0 nm kids a p t nd _ hc h x6 hn hm) ?_
    rintro _ ⟨c1, rfl, a1, b1, b2⟩
    exact W_uL (W_unNil (W_ret ⟨_, rfl, a1, b1, b2⟩))
  have hor : kids.length = 2 → W (CodeQ c (ce (d + 1))) K (G 141 [.sl 4 c, .agg [.int .i64 kind, .int .i64 n, .str nm, .sl 5 kids, .int .i64 0], .agg [.sl 1 a, .sl 1 p, .sl 1 t, .sl 7 (nd.map Nd.v)]] fun o33 => unCons o33 fun c34 r35 => V.asSl c34 fun z36 l37 => bif z36 == 4 then unNil r35 (K [.sl 4 l37]) else none) := by
    intro h
    refine W_call (hO c kind n 0 nm kids a p t nd _ hc h x6 hn hm) ?_
    rintro _ ⟨c1, rfl, a1, b1, b2⟩
    exact W_uL (W_unNil (W_ret ⟨_, rfl, a1, b1, b2⟩))
  refine W_beqI (fun _ => sn hc ins_mk (by omega) (by omega)) (fun k1 => ?_)
  refine W_beqI (fun _ => ?_) (fun k2 => ?_)
  · refine W_call (hPl _ _ _ hn.1) ?_
    rintro _ ⟨i, rfl⟩
    exact W_uI (W_unNil (sn hc ins_mk (by omega) (by omega)))
  refine W_beqI (fun _ => sn hc ins_mk (by omega) (by omega)) (fun k3 => ?_)
  refine W_beqI (fun _ => ?_) (fun k4 => ?_)
  · refine W_call (hF _ _ _ hn.2.2.2) ?_
    rintro _ rfl
    exact W_uI (W_unNil (sn hc ins_mk (by omega) (by omega)))
  refine W_beqI (fun k5 => W_eqY k5 (one (by omega))) (fun k5 => ?_)
  refine W_beqI (fun k6 => one (by omega)) (fun k6 => ?_)
  have h2 : kids.length = 2 := by omega
  refine W_beqI (fun k18 => hand h2) (fun k18 => ?_)
  exact W_beqI (fun k19 => hor h2) (fun k19 => both h2)
def RArgOK (G : ORC R) : Prop := ∀ (c x a p t : List V) (nd : List Nd) (K : List V → Option R), AllI c → x.length ≤ 1 → (∀ e ∈ x, ExprS 3 e) → NamS a p t nd → c.length + ce 3 + 1 ≤ 1000000 →
  W (CodeQ c (ce 3 + 1)) K (G 143 [.sl 4 c, .sl 5 x, namV a p t nd] K)
theorem rarg_ok (hE : RExprOK 3 G) : RArgOK (fun _ args (K : List V → Option R) => g143 G k args K) := by
  intro c x a p t nd K hc hx hxe hn hm
  show W _ K (f143 G k c x a p t (nd.map Nd.v) K)
  unfold f143
  unfold RExprOK CodeQ namV at hE
  refine W_beqI (fun _ => W_yes (by omega) (W_ret ⟨_, rfl, allI_snoc hc ins_mk, by (first | omega | (simp only [List.length_set, List.length_append, List.length_cons, List.length_nil, Int.toNat_natCast] at *; omega)), by (first | omega | (simp only [List.length_set, List.length_append, List.length_cons, List.length_nil, Int.toNat_natCast] at *; omega))⟩)) (fun h => ?_)
  refine W_yes (by omega) (W_nth (by omega) (fun v hv hvm => ?_))
  have h1 := hxe v hvm
  have h1' := h1
  obtain ⟨_, _, _, _, rfl, _⟩ := h1
  refine W_asAgg (W_call (hE c _ a p t nd _ hc h1' hn (by omega)) ?_)
  rintro _ ⟨c1, rfl, a1, b1, b2⟩
  exact W_uL (W_unNil (W_ret ⟨_, rfl, a1, by omega, by omega⟩))
def RBlOK (d : Nat) (G : ORC R) : Prop := ∀ (c l a p t : List V) (nd : List Nd) (K : List V → Option R), AllI c → BlockS d l → NamS a p t nd → c.length + cb d ≤ 1000000 →
  W (CodeQ c (cb d)) K (G 137 [.sl 4 c, .sl 8 l, namV a p t nd] K)
def RActOK (d : Nat) (G : ORC R) : Prop := ∀ (c : List V) (e : V) (a p t : List V) (nd : List Nd) (K : List V → Option R), AllI c → ActS d e → NamS a p t nd → 2 * c.length + cb d ≤ 2000000 →
  W (fun o => ∃ c', o = [.sl 4 c'] ∧ AllI c' ∧ c.length ≤ c'.length ∧ 2 * c'.length ≤ 2 * c.length + cb d) K (G 142 [.sl 4 c, e, namV a p t nd] K)
theorem ract_ok {d : Nat} (hPl : PlOK G) (hE : RExprOK 3 G) (hA : RArgOK G) (hB : RBlOK d G) : RActOK (d + 1) (fun _ args (K : List V → Option R) => g142 G k args K) := by
  intro c e a p t nd K hc he hn hm
  obtain ⟨kind, nm, ev, x, n, th, el, rfl, x1, x2, x3, x4, x5, x6, x7, x8, x9, x10, x11, x12⟩ := he
  show W _ K (f142 G k c kind nm ev x n th el 0 a p t (nd.map Nd.v) K)
  unfold f142
  have hcb : cb (d + 1) = 2 * (ce 3 + 2 * cb d + 4) := rfl
  unfold RExprOK CodeQ namV at hE
  unfold RArgOK CodeQ namV at hA
  unfold RBlOK CodeQ namV at hB
  unfold PlOK at hPl
  have sn : ∀ {c' : List V} {v : V}, AllI c' → InsS v → c.length ≤ c'.length → c'.length ≤ c.length + ce 3 + 2 → W (fun o => ∃ c', o = [.sl 4 c'] ∧ AllI c' ∧ c.length ≤ c'.length ∧ 2 * c'.length ≤ 2 * c.length + cb (d + 1)) K (bif decide (List.length c' + 1 ≤ 1073741824) then K [.sl 4 (c' ++ [v])] else none) :=
    fun h1 h2 h3 h4 => W_yes (by omega) (W_ret ⟨_, rfl, allI_snoc h1 h2, by (first | omega | (simp only [List.length_set, List.length_append, List.length_cons, List.length_nil, Int.toNat_natCast] at *; omega)), by (first | omega | (simp only [List.length_set, List.length_append, List.length_cons, List.length_nil, Int.toNat_natCast] at *; omega))⟩)
  refine W_beqI (fun _ => ?_) (fun k1 => ?_)
  · refine W_call (hA c x a p t nd _ hc x6 x7 hn (by omega)) ?_
    rintro _ ⟨c1, rfl, a1, b1, b2⟩
    refine W_uL (W_unNil (W_call (hPl _ _ _ hn.1) ?_))
    rintro _ ⟨i, rfl⟩
    exact W_uI (W_unNil (sn a1 ins_mk (by omega) (by omega)))
  refine W_beqI (fun _ => ?_) (fun k2 => ?_)
  · refine W_call (hA c x a p t nd _ hc x6 x7 hn (by omega)) ?_
    rintro _ ⟨c1, rfl, a1, b1, b2⟩
    exact W_uL (W_unNil (sn a1 ins_mk (by omega) (by omega)))
  refine W_beqI (fun _ => ?_) (fun k3 => ?_)
  · refine W_call (hA c x a p t nd _ hc x6 x7 hn (by omega)) ?_
    rintro _ ⟨c1, rfl, a1, b1, b2⟩
    refine W_uL (W_unNil (W_call (hPl _ _ _ hn.2.1) ?_))
    rintro _ ⟨i, rfl⟩
    exact W_uI (W_unNil (sn a1 ins_mk (by omega) (by omega)))
  refine W_beqI (fun _ => ?_) (fun k4 => ?_)
  · refine W_call (hA c x a p t nd _ hc x6 x7 hn (by omega)) ?_
    rintro _ ⟨c1, rfl, a1, b1, b2⟩
    refine W_uL (W_unNil (W_call (hPl _ _ _ hn.2.2.1) ?_))
    rintro _ ⟨i, rfl⟩
    exact W_uI (W_unNil (sn a1 ins_mk (by omega) (by omega)))
  refine W_beqI (fun _ => ?_) (fun k5 => ?_)
  · refine W_call (hPl _ _ _ hn.2.2.1) ?_
    rintro _ ⟨i, rfl⟩
    exact W_uI (W_unNil (sn hc ins_mk (by omega) (by omega)))
  refine W_beqI (fun _ => ?_) (fun k7 => ?_)
  · refine W_yes (by omega) ?_
    refine W_call (hB _ th a p t nd _ (allI_snoc hc ins_mk) ⟨x9, x11⟩ hn (by (first | omega | (simp only [List.length_set, List.length_append, List.length_cons, List.length_nil, Int.toNat_natCast] at *; omega)))) ?_
    rintro _ ⟨c1, rfl, a1, b1, b2⟩
    simp only [List.length_append, List.length_cons, List.length_nil] at b1 b2
    refine W_uL (W_unNil (W_yes (by omega) (W_and (W_yes (by omega) (W_yes (by (first | omega | (simp only [List.length_set, List.length_append, List.length_cons, List.length_nil, Int.toNat_natCast] at *; omega))) (W_nth (by (first | omega | (simp only [List.length_set, List.length_append, List.length_cons, List.length_nil, Int.toNat_natCast] at *; omega))) (fun v hv hvm => ?_)))))))
    obtain ⟨_, _, _, _, rfl⟩ := (show AllI _ by (repeat (first | assumption | exact allI_nil | refine allI_app ?_ ?_ | refine allI_set ?_ ?_ | refine allI_cons ?_ ?_ | exact ⟨_, _, _, _, rfl⟩))) v hvm
    exact W_ca4 (W_ret ⟨_, rfl, by (repeat (first | assumption | exact allI_nil | refine allI_app ?_ ?_ | refine allI_set ?_ ?_ | refine allI_cons ?_ ?_ | exact ⟨_, _, _, _, rfl⟩)), by (first | omega | (simp only [List.length_set, List.length_append, List.length_cons, List.length_nil, Int.toNat_natCast] at *; omega)), by (first | omega | (simp only [List.length_set, List.length_append, List.length_cons, List.length_nil, Int.toNat_natCast] at *; omega))⟩)
  have hx1 : x.length = 1 := x8 (by omega)
  refine W_yes (by omega) (W_nth (by omega) (fun v hv hvm => ?_))
  have h1 := x7 v hvm
  have h1' := h1
  obtain ⟨_, _, _, _, rfl, _⟩ := h1
  refine W_asAgg (W_call (hE c _ a p t nd _ hc h1' hn (by omega)) ?_)
  rintro _ ⟨c1, rfl, a1, b1, b2⟩
  refine W_uL (W_unNil (W_yes (by omega) ?_))
  refine W_call (hB _ th a p t nd _ (allI_snoc a1 ins_mk) ⟨x9, x11⟩ hn (by (first | omega | (simp only [List.length_set, List.length_append, List.length_cons, List.length_nil, Int.toNat_natCast] at *; omega)))) ?_
  rintro _ ⟨c2, rfl, a2, b3, b4⟩
  simp only [List.length_append, List.length_cons, List.length_nil] at b3 b4
  refine W_uL (W_unNil ?_)
  refine W_dec (fun h => ?_) (fun h => ?_)
  · refine W_yes (by omega) (W_and (W_yes (by omega) (W_yes (by (first | omega | (simp only [List.length_set, List.length_append, List.length_cons, List.length_nil, Int.toNat_natCast] at *; omega))) (W_nth (by (first | omega | (simp only [List.length_set, List.length_append, List.length_cons, List.length_nil, Int.toNat_natCast] at *; omega))) (fun v hv hvm => ?_)))))
    obtain ⟨_, _, _, _, rfl⟩ := (show AllI _ by (repeat (first | assumption | exact allI_nil | refine allI_app ?_ ?_ | refine allI_set ?_ ?_ | refine allI_cons ?_ ?_ | exact ⟨_, _, _, _, rfl⟩))) v hvm
    refine W_ca4 ?_
    refine W_call (hB _ el a p t nd _ (by (repeat (first | assumption | exact allI_nil | refine allI_app ?_ ?_ | refine allI_set ?_ ?_ | refine allI_cons ?_ ?_ | exact ⟨_, _, _, _, rfl⟩))) ⟨x10, x12⟩ hn (by (first | omega | (simp only [List.length_set, List.length_append, List.length_cons, List.length_nil, Int.toNat_natCast] at *; omega)))) ?_
    rintro _ ⟨c3, rfl, a3, b5, b6⟩
    simp only [List.length_set, List.length_append, List.length_cons, List.length_nil] at b5 b6
    refine W_uL (W_unNil (W_and (W_yes (by omega) (W_yes (by omega) (W_nth (by (first | omega | (simp only [List.length_set, List.length_append, List.length_cons, List.length_nil, Int.toNat_natCast] at *; omega))) (fun v hv hvm => ?_))))))
    obtain ⟨_, _, _, _, rfl⟩ := (show AllI _ by (repeat (first | assumption | exact allI_nil | refine allI_app ?_ ?_ | refine allI_set ?_ ?_ | refine allI_cons ?_ ?_ | exact ⟨_, _, _, _, rfl⟩))) v hvm
    exact W_ca4 (W_ret ⟨_, rfl, by (repeat (first | assumption | exact allI_nil | refine allI_app ?_ ?_ | refine allI_set ?_ ?_ | refine allI_cons ?_ ?_ | exact ⟨_, _, _, _, rfl⟩)), by (first | omega | (simp only [List.length_set, List.length_append, List.length_cons, List.length_nil, Int.toNat_natCast] at *; omega)), by (first | omega | (simp only [List.length_set, List.length_append, List.length_cons, List.length_nil, Int.toNat_natCast] at *; omega))⟩)
  · refine W_and (W_yes (by omega) (W_yes (by omega) (W_nth (by (first | omega | (simp only [List.length_set, List.length_append, List.length_cons, List.length_nil, Int.toNat_natCast] at *; omega))) (fun v hv hvm => ?_))))
    obtain ⟨_, _, _, _, rfl⟩ := (show AllI _ by (repeat (first | assumption | exact allI_nil | refine allI_app ?_ ?_ | refine allI_set ?_ ?_ | refine allI_cons ?_ ?_ | exact ⟨_, _, _, _, rfl⟩))) v hvm
    exact W_ca4 (W_ret ⟨_, rfl, by (repeat (first | assumption | exact allI_nil | refine allI_app ?_ ?_ | refine allI_set ?_ ?_ | refine allI_cons ?_ ?_ | exact ⟨_, _, _, _, rfl⟩)), by (first | omega | (simp only [List.length_set, List.length_append, List.length_cons, List.length_nil, Int.toNat_natCast] at *; omega)), by (first | omega | (simp only [List.length_set, List.length_append, List.length_cons, List.length_nil, Int.toNat_natCast] at *; omega))⟩)
theorem rbl_loop {d : Nat} (hA : RActOK d G) {Q : List V → Prop} {K : List V → Option R} {Ko : List V → Option R} {c0 a p t : List V} {nd : List Nd} (hn : NamS a p t nd) (hm : c0.length + cb d ≤ 1000000)
    (hKo : ∀ c, AllI c → c0.length ≤ c.length → c.length ≤ c0.length + cb d → W Q K (Ko c)) :
    ∀ (B A c : List V) (j : Nat), B.length < j → A.length + B.length ≤ 2 → (∀ v ∈ B, ActS d v) → AllI c → c0.length ≤ c.length → 2 * c.length ≤ 2 * c0.length + A.length * cb d → W Q K (l137_0g G k Ko j c (A ++ B) A.length a p t (nd.map Nd.v))
  | B, A, c, 0, h1, h2, h3, h4, h5, h6 => by omega
  | [], A, c, j + 1, h1, h2, h3, h4, h5, h6 => by
    show W Q K (b137_0 G k (l137_0g G k Ko j) Ko c (A ++ []) A.length a p t (nd.map Nd.v))
    unfold b137_0
    have hA2 : A.length * cb d ≤ 2 * cb d := Nat.mul_le_mul_right _ (by simpa using h2)
    exact W_no (by simp) (hKo c h4 h5 (by omega))
  | b :: B, A, c, j + 1, h1, h2, h3, h4, h5, h6 => by
    show W Q K (b137_0 G k (l137_0g G k Ko j) Ko c (A ++ b :: B) A.length a p t (nd.map Nd.v))
    unfold b137_0
    simp only [List.length_cons] at h1 h2
    have hlt : (A.length : Int) < (((A ++ b :: B).length : Nat) : Int) := by simp; omega
    refine W_yes hlt (W_and (W_yes (by omega) (W_yes hlt (W_nth (by omega) (fun v hv _ => ?_)))))
    have hvb : v = b := by simp at hv; exact hv.symm
    subst hvb
    have hb := h3 v List.mem_cons_self
    have hbk := hb
    have hA2 : A.length * cb d ≤ 1 * cb d := Nat.mul_le_mul_right _ (by omega)
    cases d with
    | zero => exact hb.elim
    | succ d =>
    obtain ⟨q1, q2, q3, q4, q5, q6, q7, rfl, _⟩ := hb
    unfold RActOK namV at hA
    refine W_asAgg (W_call (hA c _ a p t nd _ h4 hbk hn (by omega)) ?_)
    rintro _ ⟨c1, rfl, a1, b1, b2⟩
    refine W_uL (W_unNil ?_)
    rw [wrap_id (n := (A.length : Int) + 1) (by omega)]
    have e := rbl_loop hA hn hm hKo B (A ++ [.agg [.int .i64 q1, .str q2, .str q3, .sl 5 q4, .int .i64 q5, .sl 8 q6, .sl 8 q7, .int .i64 0]]) c1 j (by omega) (by simp; omega) (fun w hw => h3 w (List.mem_cons_of_mem _ hw)) a1 (by omega) (by rw [List.length_append, Nat.add_mul]; simp; omega)
    simp only [List.append_assoc, List.singleton_append, List.length_append, List.length_cons, List.length_nil, Nat.zero_add, Int.natCast_add, Int.natCast_one] at e
    exact e
theorem rbl_ok {d : Nat} (hk : 1000 ≤ k) (hA : RActOK d G) : RBlOK d (fun _ args (K : List V → Option R) => g137 G k args K) := by
  intro c l a p t nd K hc hl hn hm
  show W _ K (f137 G k c l a p t (nd.map Nd.v) K)
  unfold f137 l137_0
  exact rbl_loop (Q := CodeQ c (cb d)) (K := K) (k := k) (Ko := fun c => K [.sl 4 c]) (c0 := c) hA hn hm (fun c' h1 h2 h3 => W_ret ⟨_, rfl, h1, h2, h3⟩) l [] c k (by have := hl.1; omega) (by simpa using hl.1) hl.2 hc (Nat.le_refl _) (by simp)
def BlkOK (d : Nat) (G : ORC R) : Prop := ∀ (l a p t : List V) (nd : List Nd) (K : List V → Option R), BlockS d l → NamS a p t nd → W (CodeQ [] (cb d)) K (G 134 [.sl 8 l, namV a p t nd] K)
theorem blk_ok {d : Nat} (hd : cb d ≤ 1000000) (hB : RBlOK d G) : BlkOK d (fun _ args (K : List V → Option R) => g134 G k args K) := by
  intro l a p t nd K hl hn
  show W _ K (f134 G k l a p t (nd.map Nd.v) K)
  unfold f134
  unfold RBlOK namV at hB
  refine W_call (hB [] l a p t nd _ allI_nil hl hn (by simpa using hd)) ?_
  rintro _ ⟨c1, rfl, a1, b1, b2⟩
  exact W_uL (W_unNil (W_ret ⟨_, rfl, a1, b1, b2⟩))
def GdOK (G : ORC R) : Prop := ∀ (e : V) (a p t : List V) (nd : List Nd) (K : List V → Option R), ExprS 3 e → NamS a p t nd → W (CodeQ [] (ce 3)) K (G 126 [e, namV a p t nd] K)
theorem gd_ok (hE : RExprOK 3 G) : GdOK (fun _ args (K : List V → Option R) => g126 G k args K) := by
  intro e a p t nd K he hn
  have he' := he
  obtain ⟨kind, n, nm, kids, rfl, _⟩ := he
  show W _ K (f126 G k kind n nm kids 0 a p t (nd.map Nd.v) K)
  unfold f126
  unfold RExprOK namV at hE
  refine W_call (hE [] _ a p t nd _ allI_nil he' hn (by decide)) ?_
  rintro _ ⟨c1, rfl, a1, b1, b2⟩
  exact W_uL (W_unNil (W_ret ⟨_, rfl, a1, b1, b2⟩))
end
end Go.Proofs.Ytblabbcmokldiaa.Vm
open Go Go.VM
set_option linter.unusedVariables false
set_option maxRecDepth 100000
set_option maxHeartbeats 4000000
namespace Go.Proofs.Ytblabbcmokldiaa.Vm
/-! ### cotillion/cotillionref21.texts: function 103 -/
def P103_0h : Pat := { tmps := unds [.var (.sl 3) .ro, .undef, .undef, .var (.sl 1) (.own true), .var (.int .i64) .pr] 15 [], boxes := nons [] 20 [] }
def P103_0x : Pat := { tmps := unds [.undef, .undef, .undef, .var (.sl 1) (.own true)] 16 [], boxes := nons [] 20 [] }
def b103_0 {R : Type} (G : ORC R) (k : Nat) (X : List V → List V → Int → Option R) (Ko : List V → Option R) (xl2 xl3 : List V) (xi4 : Int) : Option R :=
  (bif (decide (xi4 < ((List.length xl2 : Nat) : Int))) then (bif ((decide (0 ≤ xi4)) && (decide (xi4 < ((List.length xl2 : Nat) : Int)))) then (nthK xl2 (Int.toNat xi4) fun e5 => (ca3 e5 fun c6 c7 c8 => (V.asStr c6 fun s9 => (bif (decide (List.length xl3 + 1 ≤ 1073741824)) then (X xl2 (xl3 ++ [(.str s9)]) (IntKind.i64.wrap (xi4 + 1))) else none)))) else none) else (Ko xl3))
def l103_0g {R : Type} (G : ORC R) (k : Nat) (Ko : List V → Option R) : Nat → List V → List V → Int → Option R
  | 0 => fun _ _ _ => none
  | j + 1 => b103_0 G k (l103_0g G k Ko j) Ko
def l103_0 {R : Type} (G : ORC R) (k : Nat) (xl2 xl3 : List V) (xi4 : Int) (Ko : List V → Option R) : Option R := l103_0g G k Ko k xl2 xl3 xi4
def rd103_0 {R : Type} (G : ORC R) (k : Nat) (K : Ex → St → Option R) (j : Nat) (vs : List V) : Option R := match vs with
  | [(.sl 3 xl2), (.sl 1 xl3), (.int .i64 xi4)] => l103_0g G k (fun yl11 => K .normal (P103_0x.inst [(.sl 1 yl11)])) j xl2 xl3 xi4
  | _ => none
def L103 {R : Type} (G : ORC R) (k : Nat) : Nat → St → (Ex → St → Option R) → Option R
  | 0, S, K => P103_0h.mat S fun vs => rd103_0 G k K k vs
  | _, _, _ => none
def f103 {R : Type} (G : ORC R) (k : Nat) (al1 : List V) (K : List V → Option R) : Option R :=
  (l103_0 G k al1 [] 0 (fun yl10 => (K [(.sl 1 yl10)])))
noncomputable def D103_0 : LoopD := { id := 0, body := loopAt 0 (bodyOf Try.f103), head := P103_0h, out := P103_0x, ret := default }
theorem l103_0_is {R : Type} (G : ORC R) (k : Nat) (X : List V → Option R) (K : Ex → St → Option R) (xl2 xl3 : List V) (xi4 : Int) :
    roundOf (TAB.env 103) G (L103 G k) D103_0 X K [(.sl 3 xl2), (.sl 1 xl3), (.int .i64 xi4)] = b103_0 G k (fun xl2 xl3 xi4 => X [(.sl 3 xl2), (.sl 1 xl3), (.int .i64 xi4)]) (fun yl11 => K .normal (P103_0x.inst [(.sl 1 yl11)])) xl2 xl3 xi4 := by kernel_rfl
theorem f103_is {R : Type} (G : ORC R) (k : Nat) (K : List V → Option R) (al1 : List V) :
    callF (TAB.env 103) G (L103 G k) Try.f103 S103 [(.sl 3 al1)] K = f103 G k al1 K := by kernel_rfl
theorem li103_0 {R : Type} (G : ORC R) (k : Nat) : LoopIs (TAB.env 103) G (L103 G k) 0 (loopAt 0 (bodyOf Try.f103)) :=
  ⟨D103_0, fun j vs K => rd103_0 G k K j vs, k, rfl, rfl, by kernel_rfl, by kernel_rfl, by kernel_rfl, (fun vs K => by unfold rd103_0; dsimp only; split <;> rfl),
    (fun j vs K r h => by
      unfold rd103_0 at h
      dsimp only at h
      split at h
      · rw [l103_0_is]; exact h
      · cases h), (fun S K r h => h)⟩
theorem lo103 : loopsOf (bodyOf Try.f103) = [(0, loopAt 0 (bodyOf Try.f103))] := by kernel_rfl
theorem la103 {R : Type} (G : ORC R) (k : Nat) : LoopsAre (TAB.env 103) G (L103 G k) (bodyOf Try.f103) :=
  loopsAre_of (by rw [lo103]; intro p hp; simp only [List.mem_cons, List.not_mem_nil, or_false] at hp; subst hp; exact li103_0 G k)
def g103 {R : Type} (G : ORC R) (k : Nat) (args : List V) (K : List V → Option R) : Option R := match args with
  | [(.sl 3 al1)] => f103 G k al1 K
  | _ => none
theorem s103 {R : Type} {G : ORC R} {k : Nat} (hG : Sound Try.prog TAB G) (args : List V) (K : List V → Option R) (r : R) (h : g103 G k args K = some r) : ∃ o, CallOK Try.prog TAB.env 103 args o ∧ K o = some r := by
  unfold g103 at h
  split at h
  · rw [← f103_is] at h
    exact callF_sound (f := 103) TAB_chk MO hG Try.func103 (sg := S103) (by kernel_rfl) (by kernel_rfl) (la103 G k) h
  · cases h
end Go.Proofs.Ytblabbcmokldiaa.Vm
open Go Go.VM
set_option linter.unusedVariables false
set_option maxRecDepth 100000
set_option maxHeartbeats 4000000
namespace Go.Proofs.Ytblabbcmokldiaa.Vm
/-! ### cotillion/cotillionref21.Names: function 102 -/
def L102 {R : Type} (_ : ORC R) (_ : Nat) : Nat → St → (Ex → St → Option R) → Option R := fun _ _ _ => none
def f102 {R : Type} (G : ORC R) (k : Nat) (as1 : ByteArray) (ai2 ai3 : Int) (al4 al5 : List V) (al6 al7 : List V) (ai8 : Int) (K : List V → Option R) : Option R :=
  (G 103 [(.sl 3 al4)] fun o9 => (uL 1 o9 fun l11 r10 => (unNil r10 (G 103 [(.sl 3 al5)] fun o12 => (uL 1 o12 fun l14 r13 => (unNil r13 (G 103 [(.sl 3 al6)] fun o15 => (uL 1 o15 fun l17 r16 => (unNil r16 (G 14 [(.agg [(.str as1), (.int .i64 ai2), (.int .i64 ai3), (.sl 3 al4), (.sl 3 al5), (.sl 3 al6), (.sl 7 al7), (.int .i64 ai8)])] fun o18 => (uL 7 o18 fun l20 r19 => (unNil r19 (K [(.agg [(.sl 1 l11), (.sl 1 l14), (.sl 1 l17), (.sl 7 l20)])])))))))))))))
theorem f102_is {R : Type} (G : ORC R) (k : Nat) (K : List V → Option R) (as1 : ByteArray) (ai2 ai3 : Int) (al4 al5 : List V) (al6 al7 : List V) (ai8 : Int) :
    callF (TAB.env 102) G (L102 G k) Try.f102 S102 [(.agg [(.str as1), (.int .i64 ai2), (.int .i64 ai3), (.sl 3 al4), (.sl 3 al5), (.sl 3 al6), (.sl 7 al7), (.int .i64 ai8)])] K = f102 G k as1 ai2 ai3 al4 al5 al6 al7 ai8 K := by kernel_rfl
theorem lo102 : loopsOf (bodyOf Try.f102) = [] := by kernel_rfl
theorem la102 {R : Type} (G : ORC R) (k : Nat) : LoopsAre (TAB.env 102) G (L102 G k) (bodyOf Try.f102) :=
  loopsAre_of (by rw [lo102]; intro p hp; cases hp)
def g102 {R : Type} (G : ORC R) (k : Nat) (args : List V) (K : List V → Option R) : Option R := match args with
  | [(.agg [(.str as1), (.int .i64 ai2), (.int .i64 ai3), (.sl 3 al4), (.sl 3 al5), (.sl 3 al6), (.sl 7 al7), (.int .i64 ai8)])] => f102 G k as1 ai2 ai3 al4 al5 al6 al7 ai8 K
  | _ => none
theorem s102 {R : Type} {G : ORC R} {k : Nat} (hG : Sound Try.prog TAB G) (args : List V) (K : List V → Option R) (r : R) (h : g102 G k args K = some r) : ∃ o, CallOK Try.prog TAB.env 102 args o ∧ K o = some r := by
  unfold g102 at h
  split at h
  · rw [← f102_is] at h
    exact callF_sound (f := 102) TAB_chk MO hG Try.func102 (sg := S102) (by kernel_rfl) (by kernel_rfl) (la102 G k) h
  · cases h
end Go.Proofs.Ytblabbcmokldiaa.Vm
open Go Go.VM
set_option linter.unusedVariables false
set_option maxRecDepth 100000
set_option maxHeartbeats 4000000
namespace Go.Proofs.Ytblabbcmokldiaa.Vm
/-! ### (*cotillion/cotillionref21.laying).block: function 125 -/
def L125 {R : Type} (_ : ORC R) (_ : Nat) : Nat → St → (Ex → St → Option R) → Option R := fun _ _ _ => none
def f125 {R : Type} (G : ORC R) (k : Nat) (al1 : List V) (bs2 : ByteArray) (bi3 bi4 : Int) (bl5 bl6 : List V) (bl7 bl8 : List V) (bl9 bl10 : List V) (bl11 bl12 : List V) (bl13 bl14 : List V) (K : List V → Option R) : Option R :=
  (bif (((List.length al1 : Nat) : Int) == 0) then (K [(.int .i64 (-1)), (.str bs2), (.int .i64 bi3), (.int .i64 bi4), (.sl 1 bl10)]) else (G 134 [(.sl 8 al1), (.agg [(.sl 1 bl11), (.sl 1 bl12), (.sl 1 bl13), (.sl 7 bl14)])] fun o15 => (uL 4 o15 fun l17 r16 => (unNil r16 (bif (decide (List.length bl10 + 1 ≤ 1073741824)) then (K [(.int .i64 (IntKind.i64.wrap (((List.length (bl10 ++ [(.sl 4 l17)]) : Nat) : Int) - 1))), (.str bs2), (.int .i64 bi3), (.int .i64 bi4), (.sl 1 (bl10 ++ [(.sl 4 l17)]))]) else none)))))
theorem f125_is {R : Type} (G : ORC R) (k : Nat) (K : List V → Option R) (al1 : List V) (bs2 : ByteArray) (bi3 bi4 : Int) (bl5 bl6 : List V) (bl7 bl8 : List V) (bl9 bl10 : List V) (bl11 bl12 : List V) (bl13 bl14 : List V) :
    callF (TAB.env 125) G (L125 G k) Try.f125 S125 [(.sl 8 al1), (.str bs2), (.int .i64 bi3), (.int .i64 bi4), (.sl 1 bl5), (.sl 1 bl6), (.sl 1 bl7), (.sl 7 bl8), (.sl 6 bl9), (.sl 1 bl10), (.sl 1 bl11), (.sl 1 bl12), (.sl 1 bl13), (.sl 7 bl14)] K = f125 G k al1 bs2 bi3 bi4 bl5 bl6 bl7 bl8 bl9 bl10 bl11 bl12 bl13 bl14 K := by kernel_rfl
theorem lo125 : loopsOf (bodyOf Try.f125) = [] := by kernel_rfl
theorem la125 {R : Type} (G : ORC R) (k : Nat) : LoopsAre (TAB.env 125) G (L125 G k) (bodyOf Try.f125) :=
  loopsAre_of (by rw [lo125]; intro p hp; cases hp)
def g125 {R : Type} (G : ORC R) (k : Nat) (args : List V) (K : List V → Option R) : Option R := match args with
  | [(.sl 8 al1), (.str bs2), (.int .i64 bi3), (.int .i64 bi4), (.sl 1 bl5), (.sl 1 bl6), (.sl 1 bl7), (.sl 7 bl8), (.sl 6 bl9), (.sl 1 bl10), (.sl 1 bl11), (.sl 1 bl12), (.sl 1 bl13), (.sl 7 bl14)] => f125 G k al1 bs2 bi3 bi4 bl5 bl6 bl7 bl8 bl9 bl10 bl11 bl12 bl13 bl14 K
  | _ => none
theorem s125 {R : Type} {G : ORC R} {k : Nat} (hG : Sound Try.prog TAB G) (args : List V) (K : List V → Option R) (r : R) (h : g125 G k args K = some r) : ∃ o, CallOK Try.prog TAB.env 125 args o ∧ K o = some r := by
  unfold g125 at h
  split at h
  · rw [← f125_is] at h
    exact callF_sound (f := 125) TAB_chk MO hG Try.func125 (sg := S125) (by kernel_rfl) (by kernel_rfl) (la125 G k) h
  · cases h
end Go.Proofs.Ytblabbcmokldiaa.Vm
