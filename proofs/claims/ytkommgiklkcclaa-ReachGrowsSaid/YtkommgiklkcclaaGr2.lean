/- Functions of the program, told by the machine of values, and what they answer: a part. -/
import Derived.Test.YtkommgiklkcclaaGr1
open Go Go.VM
set_option linter.unusedVariables false
set_option maxRecDepth 100000
set_option maxHeartbeats 4000000
namespace Go.Proofs.Ytkommgiklkcclaa.Vm
def P38_0h:Pat:={tmps:=unds [.stat (.one (.ptr 0 0) .pt),.undef,.undef,.stat (.one (.ptr 5 0) .pt),.stat (.one (.ptr 6 0) .pt),.var (.int .i64) .pr] 135 [],boxes:=nons [some [.stat ⟨(.ptr 1 0),.pt,0,true⟩,.var (.sl 1) .ro true,.var (.sl 1) .ro true,.var (.sl 1) .ro true,.var (.sl 1) .ro true,.var (.int .i64) .pr false,.var (.sl 1) .ro true],some [.var (.sl 1) .ro true,.var (.int .i64) .pr false],none,none,none,some [.var (.int .i64) .pr false,.var .str .pr false,.var (.sl 8) (.own true) false,.var (.sl 8) (.own true) false,.var (.sl 5) (.own true) false,.var (.sl 7) (.own true) false,.var (.int .i64) .pr false],some [.var (.int .i64) .pr false,.var .str .pr false,.var (.sl 8) (.own true) false,.var (.sl 8) (.own true) false,.var (.sl 5) (.own true) false,.var (.sl 7) (.own true) false,.var (.int .i64) .pr false]] 136 []}
def P38_0x:Pat:={tmps:=unds [.stat (.one (.ptr 0 0) .pt),.undef,.undef,.stat (.one (.ptr 5 0) .pt),.stat (.one (.ptr 6 0) .pt)] 136 [],boxes:=nons [some [.stat ⟨(.ptr 1 0),.pt,0,true⟩,.var (.sl 1) .ro true,.var (.sl 1) .ro true,.var (.sl 1) .ro true,.var (.sl 1) .ro true,.var (.int .i64) .pr false,.var (.sl 1) .ro true],some [.var (.sl 1) .ro true,.var (.int .i64) .pr false],none,none,none,some [.var (.int .i64) .pr false,.var .str .pr false,.var (.sl 8) (.own true) false,.var (.sl 8) (.own true) false,.var (.sl 5) (.own true) false,.var (.sl 7) (.own true) false,.var (.int .i64) .pr false],some [.var (.int .i64) .pr false,.var .str .pr false,.var (.sl 8) (.own true) false,.var (.sl 8) (.own true) false,.var (.sl 5) (.own true) false,.var (.sl 7) (.own true) false,.var (.int .i64) .pr false]] 136 []}
def b38_0{R:Type}(G:ORC R)(k:Nat)(X:Int→LV→LV→LV→LV→Int→LV→LV→Int→Int→ByteArray→LV→LV→LV→LV→Int→Int→ByteArray→LV→LV→LV→LV→Int→OV R)(Ko:LV→LV→LV→LV→Int→LV→LV→Int→Int→ByteArray→LV→LV→LV→LV→Int→Int→ByteArray→LV→LV→LV→LV→Int→OV R)(xi41:Int)(xl42 xl43:LV)(xl44 xl45:LV)(xi46:Int)(xl47 xl48:LV)(xi49 xi50:Int)(xs51:ByteArray)(xl52 xl53:LV)(xl54 xl55:LV)(xi56 xi57:Int)(xs58:ByteArray)(xl59 xl60:LV)(xl61 xl62:LV)(xi63:Int):OV R:=
 (bif(decide (xi41>0))then(G 33 [.int .i64 8,.sl 1 xl48,.int .i64 xi49] fun o64=>uI .i64 o64 fun n66 r65=>uI .i64 r65 fun n68 r67=>unNil r67 (G 6 [.int .i64 n66] fun o69=>uS o69 fun s71 r70=>unNil r70 (G 33 [.int .i64 9,.sl 1 xl48,.int .i64 n68] fun o72=>uI .i64 o72 fun n74 r73=>uI .i64 r73 fun n76 r75=>unNil r75 (bif(n74==0)then(G 33 [.int .i64 3,.sl 1 xl48,.int .i64 n76] fun o77=>uI .i64 o77 fun n79 r78=>uI .i64 r78 fun n81 r80=>unNil r80 (bif(n79==0)then(G 58 [.agg [.sl 1 xl42,.sl 1 xl43,.sl 1 xl44,.sl 1 xl45],.int .i64 2,.sl 1 xl48,.int .i64 n81] fun o82=>uA o82 fun l84 r83=>uI .i64 l84 fun n86 r85=>uI .i64 r85 fun n88 r87=>uS r87 fun s90 r89=>uL 5 r89 fun l92 r91=>uI .i64 r91 fun n94 r93=>unNil r93 (uI .i64 r83 fun n96 r95=>unNil r95 (G 33 [.int .i64 4,.sl 1 xl48,.int .i64 n96] fun o97=>uI .i64 o97 fun n99 r98=>uI .i64 r98 fun n101 r100=>unNil r100 (bif(decide (n99>0))then(G 59 [.sl 1 xl47,.str ⟨#[]⟩,.sl 1 xl48,.int .i64 n101] fun o102=>uS o102 fun s104 r103=>uI .i64 r103 fun n106 r105=>unNil r105 (G 33 [.int .i64 2,.sl 1 xl48,.int .i64 n106] fun o107=>uI .i64 o107 fun n109 r108=>uI .i64 r108 fun n111 r110=>unNil r110 (bif(n109==0)then(G 57 [.agg [.sl 1 xl42,.sl 1 xl43,.sl 1 xl44,.sl 1 xl45],.int .i64 2,.sl 1 xl48,.int .i64 n111] fun o112=>uL 8 o112 fun l114 r113=>uI .i64 r113 fun n116 r115=>unNil r115 (bif(decide (List.length xl54+1≤1073741824))then(X (IntKind.i64.wrap (xi41-1)) xl42 xl43 xl44 xl45 xi46 xl47 xl48 n116 xi50 xs51 xl52 xl53 (xl54++[.agg [.str ⟨#[]⟩,.sl 5 [.agg [.int .i64 n86,.int .i64 n88,.str s90,.sl 5 l92,.int .i64 n94]],.str s104,.sl 8 l114,.int .i64 0]]) xl55 xi56 xi57 xs58 xl59 xl60 xl61 xl62 xi63)else none))else(bif(decide (List.length xl54+1≤1073741824))then(X (IntKind.i64.wrap (xi41-1)) xl42 xl43 xl44 xl45 xi46 xl47 xl48 n111 xi50 xs51 xl52 xl53 (xl54++[.agg [.str ⟨#[]⟩,.sl 5 [.agg [.int .i64 n86,.int .i64 n88,.str s90,.sl 5 l92,.int .i64 n94]],.str s104,.sl 8 [],.int .i64 0]]) xl55 xi56 xi57 xs58 xl59 xl60 xl61 xl62 xi63)else none))))else(G 33 [.int .i64 2,.sl 1 xl48,.int .i64 n101] fun o117=>uI .i64 o117 fun n119 r118=>uI .i64 r118 fun n121 r120=>unNil r120 (bif(n119==0)then(G 57 [.agg [.sl 1 xl42,.sl 1 xl43,.sl 1 xl44,.sl 1 xl45],.int .i64 2,.sl 1 xl48,.int .i64 n121] fun o122=>uL 8 o122 fun l124 r123=>uI .i64 r123 fun n126 r125=>unNil r125 (bif(decide (List.length xl54+1≤1073741824))then(X (IntKind.i64.wrap (xi41-1)) xl42 xl43 xl44 xl45 xi46 xl47 xl48 n126 xi50 xs51 xl52 xl53 (xl54++[.agg [.str ⟨#[]⟩,.sl 5 [.agg [.int .i64 n86,.int .i64 n88,.str s90,.sl 5 l92,.int .i64 n94]],.str ⟨#[]⟩,.sl 8 l124,.int .i64 0]]) xl55 xi56 xi57 xs58 xl59 xl60 xl61 xl62 xi63)else none))else(bif(decide (List.length xl54+1≤1073741824))then(X (IntKind.i64.wrap (xi41-1)) xl42 xl43 xl44 xl45 xi46 xl47 xl48 n121 xi50 xs51 xl52 xl53 (xl54++[.agg [.str ⟨#[]⟩,.sl 5 [.agg [.int .i64 n86,.int .i64 n88,.str s90,.sl 5 l92,.int .i64 n94]],.str ⟨#[]⟩,.sl 8 [],.int .i64 0]]) xl55 xi56 xi57 xs58 xl59 xl60 xl61 xl62 xi63)else none)))))))else(G 33 [.int .i64 4,.sl 1 xl48,.int .i64 n81] fun o127=>uI .i64 o127 fun n129 r128=>uI .i64 r128 fun n131 r130=>unNil r130 (bif(decide (n129>0))then(G 59 [.sl 1 xl47,.str ⟨#[]⟩,.sl 1 xl48,.int .i64 n131] fun o132=>uS o132 fun s134 r133=>uI .i64 r133 fun n136 r135=>unNil r135 (G 33 [.int .i64 2,.sl 1 xl48,.int .i64 n136] fun o137=>uI .i64 o137 fun n139 r138=>uI .i64 r138 fun n141 r140=>unNil r140 (bif(n139==0)then(G 57 [.agg [.sl 1 xl42,.sl 1 xl43,.sl 1 xl44,.sl 1 xl45],.int .i64 2,.sl 1 xl48,.int .i64 n141] fun o142=>uL 8 o142 fun l144 r143=>uI .i64 r143 fun n146 r145=>unNil r145 (bif(decide (List.length xl54+1≤1073741824))then(X (IntKind.i64.wrap (xi41-1)) xl42 xl43 xl44 xl45 xi46 xl47 xl48 n146 xi50 xs51 xl52 xl53 (xl54++[.agg [.str ⟨#[]⟩,.sl 5 [],.str s134,.sl 8 l144,.int .i64 0]]) xl55 xi56 xi57 xs58 xl59 xl60 xl61 xl62 xi63)else none))else(bif(decide (List.length xl54+1≤1073741824))then(X (IntKind.i64.wrap (xi41-1)) xl42 xl43 xl44 xl45 xi46 xl47 xl48 n141 xi50 xs51 xl52 xl53 (xl54++[.agg [.str ⟨#[]⟩,.sl 5 [],.str s134,.sl 8 [],.int .i64 0]]) xl55 xi56 xi57 xs58 xl59 xl60 xl61 xl62 xi63)else none))))else(G 33 [.int .i64 2,.sl 1 xl48,.int .i64 n131] fun o147=>uI .i64 o147 fun n149 r148=>uI .i64 r148 fun n151 r150=>unNil r150 (bif(n149==0)then(G 57 [.agg [.sl 1 xl42,.sl 1 xl43,.sl 1 xl44,.sl 1 xl45],.int .i64 2,.sl 1 xl48,.int .i64 n151] fun o152=>uL 8 o152 fun l154 r153=>uI .i64 r153 fun n156 r155=>unNil r155 (bif(decide (List.length xl54+1≤1073741824))then(X (IntKind.i64.wrap (xi41-1)) xl42 xl43 xl44 xl45 xi46 xl47 xl48 n156 xi50 xs51 xl52 xl53 (xl54++[.agg [.str ⟨#[]⟩,.sl 5 [],.str ⟨#[]⟩,.sl 8 l154,.int .i64 0]]) xl55 xi56 xi57 xs58 xl59 xl60 xl61 xl62 xi63)else none))else(bif(decide (List.length xl54+1≤1073741824))then(X (IntKind.i64.wrap (xi41-1)) xl42 xl43 xl44 xl45 xi46 xl47 xl48 n151 xi50 xs51 xl52 xl53 (xl54++[.agg [.str ⟨#[]⟩,.sl 5 [],.str ⟨#[]⟩,.sl 8 [],.int .i64 0]]) xl55 xi56 xi57 xs58 xl59 xl60 xl61 xl62 xi63)else none)))))))else(G 33 [.int .i64 3,.sl 1 xl48,.int .i64 n76] fun o157=>uI .i64 o157 fun n159 r158=>uI .i64 r158 fun n161 r160=>unNil r160 (bif(n159==0)then(G 58 [.agg [.sl 1 xl42,.sl 1 xl43,.sl 1 xl44,.sl 1 xl45],.int .i64 2,.sl 1 xl48,.int .i64 n161] fun o162=>uA o162 fun l164 r163=>uI .i64 l164 fun n166 r165=>uI .i64 r165 fun n168 r167=>uS r167 fun s170 r169=>uL 5 r169 fun l172 r171=>uI .i64 r171 fun n174 r173=>unNil r173 (uI .i64 r163 fun n176 r175=>unNil r175 (G 33 [.int .i64 4,.sl 1 xl48,.int .i64 n176] fun o177=>uI .i64 o177 fun n179 r178=>uI .i64 r178 fun n181 r180=>unNil r180 (bif(decide (n179>0))then(G 59 [.sl 1 xl47,.str ⟨#[]⟩,.sl 1 xl48,.int .i64 n181] fun o182=>uS o182 fun s184 r183=>uI .i64 r183 fun n186 r185=>unNil r185 (G 33 [.int .i64 2,.sl 1 xl48,.int .i64 n186] fun o187=>uI .i64 o187 fun n189 r188=>uI .i64 r188 fun n191 r190=>unNil r190 (bif(n189==0)then(G 57 [.agg [.sl 1 xl42,.sl 1 xl43,.sl 1 xl44,.sl 1 xl45],.int .i64 2,.sl 1 xl48,.int .i64 n191] fun o192=>uL 8 o192 fun l194 r193=>uI .i64 r193 fun n196 r195=>unNil r195 (bif(decide (List.length xl54+1≤1073741824))then(X (IntKind.i64.wrap (xi41-1)) xl42 xl43 xl44 xl45 xi46 xl47 xl48 n196 xi50 xs51 xl52 xl53 (xl54++[.agg [.str s71,.sl 5 [.agg [.int .i64 n166,.int .i64 n168,.str s170,.sl 5 l172,.int .i64 n174]],.str s184,.sl 8 l194,.int .i64 0]]) xl55 xi56 xi57 xs58 xl59 xl60 xl61 xl62 xi63)else none))else(bif(decide (List.length xl54+1≤1073741824))then(X (IntKind.i64.wrap (xi41-1)) xl42 xl43 xl44 xl45 xi46 xl47 xl48 n191 xi50 xs51 xl52 xl53 (xl54++[.agg [.str s71,.sl 5 [.agg [.int .i64 n166,.int .i64 n168,.str s170,.sl 5 l172,.int .i64 n174]],.str s184,.sl 8 [],.int .i64 0]]) xl55 xi56 xi57 xs58 xl59 xl60 xl61 xl62 xi63)else none))))else(G 33 [.int .i64 2,.sl 1 xl48,.int .i64 n181] fun o197=>uI .i64 o197 fun n199 r198=>uI .i64 r198 fun n201 r200=>unNil r200 (bif(n199==0)then(G 57 [.agg [.sl 1 xl42,.sl 1 xl43,.sl 1 xl44,.sl 1 xl45],.int .i64 2,.sl 1 xl48,.int .i64 n201] fun o202=>uL 8 o202 fun l204 r203=>uI .i64 r203 fun n206 r205=>unNil r205 (bif(decide (List.length xl54+1≤1073741824))then(X (IntKind.i64.wrap (xi41-1)) xl42 xl43 xl44 xl45 xi46 xl47 xl48 n206 xi50 xs51 xl52 xl53 (xl54++[.agg [.str s71,.sl 5 [.agg [.int .i64 n166,.int .i64 n168,.str s170,.sl 5 l172,.int .i64 n174]],.str ⟨#[]⟩,.sl 8 l204,.int .i64 0]]) xl55 xi56 xi57 xs58 xl59 xl60 xl61 xl62 xi63)else none))else(bif(decide (List.length xl54+1≤1073741824))then(X (IntKind.i64.wrap (xi41-1)) xl42 xl43 xl44 xl45 xi46 xl47 xl48 n201 xi50 xs51 xl52 xl53 (xl54++[.agg [.str s71,.sl 5 [.agg [.int .i64 n166,.int .i64 n168,.str s170,.sl 5 l172,.int .i64 n174]],.str ⟨#[]⟩,.sl 8 [],.int .i64 0]]) xl55 xi56 xi57 xs58 xl59 xl60 xl61 xl62 xi63)else none)))))))else(G 33 [.int .i64 4,.sl 1 xl48,.int .i64 n161] fun o207=>uI .i64 o207 fun n209 r208=>uI .i64 r208 fun n211 r210=>unNil r210 (bif(decide (n209>0))then(G 59 [.sl 1 xl47,.str ⟨#[]⟩,.sl 1 xl48,.int .i64 n211] fun o212=>uS o212 fun s214 r213=>uI .i64 r213 fun n216 r215=>unNil r215 (G 33 [.int .i64 2,.sl 1 xl48,.int .i64 n216] fun o217=>uI .i64 o217 fun n219 r218=>uI .i64 r218 fun n221 r220=>unNil r220 (bif(n219==0)then(G 57 [.agg [.sl 1 xl42,.sl 1 xl43,.sl 1 xl44,.sl 1 xl45],.int .i64 2,.sl 1 xl48,.int .i64 n221] fun o222=>uL 8 o222 fun l224 r223=>uI .i64 r223 fun n226 r225=>unNil r225 (bif(decide (List.length xl54+1≤1073741824))then(X (IntKind.i64.wrap (xi41-1)) xl42 xl43 xl44 xl45 xi46 xl47 xl48 n226 xi50 xs51 xl52 xl53 (xl54++[.agg [.str s71,.sl 5 [],.str s214,.sl 8 l224,.int .i64 0]]) xl55 xi56 xi57 xs58 xl59 xl60 xl61 xl62 xi63)else none))else(bif(decide (List.length xl54+1≤1073741824))then(X (IntKind.i64.wrap (xi41-1)) xl42 xl43 xl44 xl45 xi46 xl47 xl48 n221 xi50 xs51 xl52 xl53 (xl54++[.agg [.str s71,.sl 5 [],.str s214,.sl 8 [],.int .i64 0]]) xl55 xi56 xi57 xs58 xl59 xl60 xl61 xl62 xi63)else none))))else(G 33 [.int .i64 2,.sl 1 xl48,.int .i64 n211] fun o227=>uI .i64 o227 fun n229 r228=>uI .i64 r228 fun n231 r230=>unNil r230 (bif(n229==0)then(G 57 [.agg [.sl 1 xl42,.sl 1 xl43,.sl 1 xl44,.sl 1 xl45],.int .i64 2,.sl 1 xl48,.int .i64 n231] fun o232=>uL 8 o232 fun l234 r233=>uI .i64 r233 fun n236 r235=>unNil r235 (bif(decide (List.length xl54+1≤1073741824))then(X (IntKind.i64.wrap (xi41-1)) xl42 xl43 xl44 xl45 xi46 xl47 xl48 n236 xi50 xs51 xl52 xl53 (xl54++[.agg [.str s71,.sl 5 [],.str ⟨#[]⟩,.sl 8 l234,.int .i64 0]]) xl55 xi56 xi57 xs58 xl59 xl60 xl61 xl62 xi63)else none))else(bif(decide (List.length xl54+1≤1073741824))then(X (IntKind.i64.wrap (xi41-1)) xl42 xl43 xl44 xl45 xi46 xl47 xl48 n231 xi50 xs51 xl52 xl53 (xl54++[.agg [.str s71,.sl 5 [],.str ⟨#[]⟩,.sl 8 [],.int .i64 0]]) xl55 xi56 xi57 xs58 xl59 xl60 xl61 xl62 xi63)else none)))))))))))else(Ko xl42 xl43 xl44 xl45 xi46 xl47 xl48 xi49 xi50 xs51 xl52 xl53 xl54 xl55 xi56 xi57 xs58 xl59 xl60 xl61 xl62 xi63))
def l38_0g{R:Type}(G:ORC R)(k:Nat)(Ko:LV→LV→LV→LV→Int→LV→LV→Int→Int→ByteArray→LV→LV→LV→LV→Int→Int→ByteArray→LV→LV→LV→LV→Int→OV R):Nat→Int→LV→LV→LV→LV→Int→LV→LV→Int→Int→ByteArray→LV→LV→LV→LV→Int→Int→ByteArray→LV→LV→LV→LV→Int→OV R
 |0=>fun _ _ _ _ _ _ _ _ _ _ _ _ _ _ _ _ _ _ _ _ _ _ _=>none
 |j+1=>b38_0 G k (l38_0g G k Ko j) Ko
def l38_0{R:Type}(G:ORC R)(k:Nat)(xi41:Int)(xl42 xl43:LV)(xl44 xl45:LV)(xi46:Int)(xl47 xl48:LV)(xi49 xi50:Int)(xs51:ByteArray)(xl52 xl53:LV)(xl54 xl55:LV)(xi56 xi57:Int)(xs58:ByteArray)(xl59 xl60:LV)(xl61 xl62:LV)(xi63:Int)(Ko:LV→LV→LV→LV→Int→LV→LV→Int→Int→ByteArray→LV→LV→LV→LV→Int→Int→ByteArray→LV→LV→LV→LV→Int→OV R):OV R:=l38_0g G k Ko k xi41 xl42 xl43 xl44 xl45 xi46 xl47 xl48 xi49 xi50 xs51 xl52 xl53 xl54 xl55 xi56 xi57 xs58 xl59 xl60 xl61 xl62 xi63
def P38_2h:Pat:={tmps:=unds [.stat (.one (.ptr 0 0) .pt),.undef,.undef,.stat (.one (.ptr 5 0) .pt),.stat (.one (.ptr 6 0) .pt),.undef,.undef,.var (.int .i64) .pr] 133 [],boxes:=nons [some [.stat ⟨(.ptr 1 0),.pt,0,true⟩,.var (.sl 1) .ro true,.var (.sl 1) .ro true,.var (.sl 1) .ro true,.var (.sl 1) .ro true,.var (.int .i64) .pr false,.var (.sl 1) .ro true],some [.var (.sl 1) .ro true,.var (.int .i64) .pr false],none,none,none,some [.var (.int .i64) .pr false,.var .str .pr false,.var (.sl 8) (.own true) false,.var (.sl 8) (.own true) false,.var (.sl 5) (.own true) false,.var (.sl 7) (.own true) false,.var (.int .i64) .pr false],some [.var (.int .i64) .pr false,.var .str .pr false,.var (.sl 8) (.own true) false,.var (.sl 8) (.own true) false,.var (.sl 5) (.own true) false,.var (.sl 7) (.own true) false,.var (.int .i64) .pr false]] 136 []}
def P38_2x:Pat:={tmps:=unds [.undef,.undef,.undef,.stat (.one (.ptr 5 0) .pt),.stat (.one (.ptr 6 0) .pt)] 136 [],boxes:=nons [some [.stat ⟨(.ptr 1 0),.pt,0,true⟩,.var (.sl 1) .ro true,.var (.sl 1) .ro true,.var (.sl 1) .ro true,.var (.sl 1) .ro true,.var (.int .i64) .pr false,.var (.sl 1) .ro true],some [.var (.sl 1) .ro true,.var (.int .i64) .pr false],none,none,none,some [.var (.int .i64) .pr false,.var .str .pr false,.var (.sl 8) (.own true) false,.var (.sl 8) (.own true) false,.var (.sl 5) (.own true) false,.var (.sl 7) (.own true) false,.var (.int .i64) .pr false],some [.var (.int .i64) .pr false,.var .str .pr false,.var (.sl 8) (.own true) false,.var (.sl 8) (.own true) false,.var (.sl 5) (.own true) false,.var (.sl 7) (.own true) false,.var (.int .i64) .pr false]] 136 []}
def b38_2{R:Type}(G:ORC R)(k:Nat)(X:Int→LV→LV→LV→LV→Int→LV→LV→Int→Int→ByteArray→LV→LV→LV→LV→Int→Int→ByteArray→LV→LV→LV→LV→Int→OV R)(Ko:LV→LV→LV→LV→Int→LV→LV→Int→Int→ByteArray→LV→LV→LV→LV→Int→Int→ByteArray→LV→LV→LV→LV→Int→OV R)(xi259:Int)(xl260 xl261:LV)(xl262 xl263:LV)(xi264:Int)(xl265 xl266:LV)(xi267 xi268:Int)(xs269:ByteArray)(xl270 xl271:LV)(xl272 xl273:LV)(xi274 xi275:Int)(xs276:ByteArray)(xl277 xl278:LV)(xl279 xl280:LV)(xi281:Int):OV R:=
 (bif(decide (xi259<(xl273.length:Int)))then(bif((decide (0≤xi259))&&(decide (xi259<(xl273.length:Int))))then(nthK xl273 (Int.toNat xi259) fun e282=>V.asAgg e282 fun l283=>G 38 [.agg l283,.sl 1 xl260,.sl 1 xl261,.sl 1 xl262,.sl 1 xl263,.int .i64 xi264,.sl 1 xl265,.sl 1 xl266,.int .i64 xi267] fun o284=>uA o284 fun l286 r285=>uI .i64 l286 fun n288 r287=>uS r287 fun s290 r289=>uL 8 r289 fun l292 r291=>uL 8 r291 fun l294 r293=>uL 5 r293 fun l296 r295=>uL 7 r295 fun l298 r297=>uI .i64 r297 fun n300 r299=>unNil r299 (uI .i64 r285 fun n302 r301=>uI .i64 r301 fun n304 r303=>unNil r303 (bif((decide (0≤xi259))&&(decide (xi259<((List.length (List.set xl273 (Int.toNat xi259) .undef):Nat):Int))))then(nthK (List.set xl273 (Int.toNat xi259) .undef) (Int.toNat xi259) fun e305=>X (IntKind.i64.wrap (xi259+1)) xl260 xl261 xl262 xl263 n302 xl265 xl266 n304 xi268 xs269 xl270 xl271 xl272 (List.set (List.set xl273 (Int.toNat xi259) .undef) (Int.toNat xi259) (.agg [.int .i64 n288,.str s290,.sl 8 l292,.sl 8 l294,.sl 5 l296,.sl 7 l298,.int .i64 n300])) xi274 xi275 xs276 xl277 xl278 xl279 xl280 xi281)else none)))else none)else(Ko xl260 xl261 xl262 xl263 xi264 xl265 xl266 xi267 xi268 xs269 xl270 xl271 xl272 xl273 xi274 xi275 xs276 xl277 xl278 xl279 xl280 xi281))
def l38_2g{R:Type}(G:ORC R)(k:Nat)(Ko:LV→LV→LV→LV→Int→LV→LV→Int→Int→ByteArray→LV→LV→LV→LV→Int→Int→ByteArray→LV→LV→LV→LV→Int→OV R):Nat→Int→LV→LV→LV→LV→Int→LV→LV→Int→Int→ByteArray→LV→LV→LV→LV→Int→Int→ByteArray→LV→LV→LV→LV→Int→OV R
 |0=>fun _ _ _ _ _ _ _ _ _ _ _ _ _ _ _ _ _ _ _ _ _ _ _=>none
 |j+1=>b38_2 G k (l38_2g G k Ko j) Ko
def l38_2{R:Type}(G:ORC R)(k:Nat)(xi259:Int)(xl260 xl261:LV)(xl262 xl263:LV)(xi264:Int)(xl265 xl266:LV)(xi267 xi268:Int)(xs269:ByteArray)(xl270 xl271:LV)(xl272 xl273:LV)(xi274 xi275:Int)(xs276:ByteArray)(xl277 xl278:LV)(xl279 xl280:LV)(xi281:Int)(Ko:LV→LV→LV→LV→Int→LV→LV→Int→Int→ByteArray→LV→LV→LV→LV→Int→Int→ByteArray→LV→LV→LV→LV→Int→OV R):OV R:=l38_2g G k Ko k xi259 xl260 xl261 xl262 xl263 xi264 xl265 xl266 xi267 xi268 xs269 xl270 xl271 xl272 xl273 xi274 xi275 xs276 xl277 xl278 xl279 xl280 xi281
def rd38_0{R:Type}(G:ORC R)(k:Nat)(K:Ex→St→OV R)(j:Nat)(vs:LV):OV R:=match vs with
 | [.int .i64 xi41,.sl 1 xl42,.sl 1 xl43,.sl 1 xl44,.sl 1 xl45,.int .i64 xi46,.sl 1 xl47,.sl 1 xl48,.int .i64 xi49,.int .i64 xi50,.str xs51,.sl 8 xl52,.sl 8 xl53,.sl 5 xl54,.sl 7 xl55,.int .i64 xi56,.int .i64 xi57,.str xs58,.sl 8 xl59,.sl 8 xl60,.sl 5 xl61,.sl 7 xl62,.int .i64 xi63]=>l38_0g G k (fun yl485 yl486 yl487 yl488 yi489 yl490 yl491 yi492 yi493 ys494 yl495 yl496 yl497 yl498 yi499 yi500 ys501 yl502 yl503 yl504 yl505 yi506=>K .normal (P38_0x.inst [.sl 1 yl485,.sl 1 yl486,.sl 1 yl487,.sl 1 yl488,.int .i64 yi489,.sl 1 yl490,.sl 1 yl491,.int .i64 yi492,.int .i64 yi493,.str ys494,.sl 8 yl495,.sl 8 yl496,.sl 5 yl497,.sl 7 yl498,.int .i64 yi499,.int .i64 yi500,.str ys501,.sl 8 yl502,.sl 8 yl503,.sl 5 yl504,.sl 7 yl505,.int .i64 yi506])) j xi41 xl42 xl43 xl44 xl45 xi46 xl47 xl48 xi49 xi50 xs51 xl52 xl53 xl54 xl55 xi56 xi57 xs58 xl59 xl60 xl61 xl62 xi63
 |_=>none
def rd38_2{R:Type}(G:ORC R)(k:Nat)(K:Ex→St→OV R)(j:Nat)(vs:LV):OV R:=match vs with
 | [.int .i64 xi259,.sl 1 xl260,.sl 1 xl261,.sl 1 xl262,.sl 1 xl263,.int .i64 xi264,.sl 1 xl265,.sl 1 xl266,.int .i64 xi267,.int .i64 xi268,.str xs269,.sl 8 xl270,.sl 8 xl271,.sl 5 xl272,.sl 7 xl273,.int .i64 xi274,.int .i64 xi275,.str xs276,.sl 8 xl277,.sl 8 xl278,.sl 5 xl279,.sl 7 xl280,.int .i64 xi281]=>l38_2g G k (fun yl507 yl508 yl509 yl510 yi511 yl512 yl513 yi514 yi515 ys516 yl517 yl518 yl519 yl520 yi521 yi522 ys523 yl524 yl525 yl526 yl527 yi528=>K .normal (P38_2x.inst [.sl 1 yl507,.sl 1 yl508,.sl 1 yl509,.sl 1 yl510,.int .i64 yi511,.sl 1 yl512,.sl 1 yl513,.int .i64 yi514,.int .i64 yi515,.str ys516,.sl 8 yl517,.sl 8 yl518,.sl 5 yl519,.sl 7 yl520,.int .i64 yi521,.int .i64 yi522,.str ys523,.sl 8 yl524,.sl 8 yl525,.sl 5 yl526,.sl 7 yl527,.int .i64 yi528])) j xi259 xl260 xl261 xl262 xl263 xi264 xl265 xl266 xi267 xi268 xs269 xl270 xl271 xl272 xl273 xi274 xi275 xs276 xl277 xl278 xl279 xl280 xi281
 |_=>none
def L38{R:Type}(G:ORC R)(k:Nat):Nat→St→(Ex→St→OV R)→OV R
 |0,S,K=>P38_0h.mat S fun vs=>rd38_0 G k K k vs
 |2,S,K=>P38_2h.mat S fun vs=>rd38_2 G k K k vs
 |_,_,_=>none
def f38{R:Type}(G:ORC R)(k:Nat)(ai1:Int)(as2:ByteArray)(al3 al4:LV)(al5 al6:LV)(ai7:Int)(bl8 bl9:LV)(bl10 bl11:LV)(bi12:Int)(bl13 bl14:LV)(bi15:Int)(K:LV→OV R):OV R:=
 (bif(decide (ai1>2))then(K [.agg [.int .i64 ai1,.str as2,.sl 8 al3,.sl 8 al4,.sl 5 al5,.sl 7 al6,.int .i64 ai7],.int .i64 bi12,.int .i64 bi15])else(G 33 [.int .i64 3,.sl 1 bl14,.int .i64 bi15] fun o16=>uI .i64 o16 fun n18 r17=>uI .i64 r17 fun n20 r19=>unNil r19 (bif(n18==0)then(G 57 [.agg [.sl 1 bl8,.sl 1 bl9,.sl 1 bl10,.sl 1 bl11],.int .i64 1,.sl 1 bl14,.int .i64 n20] fun o21=>uL 8 o21 fun l23 r22=>uI .i64 r22 fun n25 r24=>unNil r24 (G 33 [.int .i64 4,.sl 1 bl14,.int .i64 n25] fun o26=>uI .i64 o26 fun n28 r27=>uI .i64 r27 fun n30 r29=>unNil r29 (bif(n28==0)then(G 57 [.agg [.sl 1 bl8,.sl 1 bl9,.sl 1 bl10,.sl 1 bl11],.int .i64 1,.sl 1 bl14,.int .i64 n30] fun o31=>uL 8 o31 fun l33 r32=>uI .i64 r32 fun n35 r34=>unNil r34 (G 33 [.int .i64 3,.sl 1 bl14,.int .i64 n35] fun o36=>uI .i64 o36 fun n38 r37=>uI .i64 r37 fun n40 r39=>unNil r39 (l38_0 G k n38 bl8 bl9 bl10 bl11 bi12 bl13 bl14 n40 ai1 as2 l23 l33 al5 al6 ai7 0 ⟨#[]⟩ [] [] [] [] 0 (fun yl237 yl238 yl239 yl240 yi241 yl242 yl243 yi244 yi245 ys246 yl247 yl248 yl249 yl250 yi251 yi252 ys253 yl254 yl255 yl256 yl257 yi258=>l38_2 G k 0 yl237 yl238 yl239 yl240 yi241 yl242 yl243 yi244 yi245 ys246 yl247 yl248 yl249 yl250 yi251 yi252 ys253 yl254 yl255 yl256 yl257 yi258 (fun yl306 yl307 yl308 yl309 yi310 yl311 yl312 yi313 yi314 ys315 yl316 yl317 yl318 yl319 yi320 yi321 ys322 yl323 yl324 yl325 yl326 yi327=>K [.agg [.int .i64 yi314,.str ys315,.sl 8 yl316,.sl 8 yl317,.sl 5 yl318,.sl 7 yl319,.int .i64 yi320],.int .i64 yi310,.int .i64 yi313])))))else(G 33 [.int .i64 3,.sl 1 bl14,.int .i64 n30] fun o328=>uI .i64 o328 fun n330 r329=>uI .i64 r329 fun n332 r331=>unNil r331 (l38_0 G k n330 bl8 bl9 bl10 bl11 bi12 bl13 bl14 n332 ai1 as2 l23 al4 al5 al6 ai7 0 ⟨#[]⟩ [] [] [] [] 0 (fun yl333 yl334 yl335 yl336 yi337 yl338 yl339 yi340 yi341 ys342 yl343 yl344 yl345 yl346 yi347 yi348 ys349 yl350 yl351 yl352 yl353 yi354=>l38_2 G k 0 yl333 yl334 yl335 yl336 yi337 yl338 yl339 yi340 yi341 ys342 yl343 yl344 yl345 yl346 yi347 yi348 ys349 yl350 yl351 yl352 yl353 yi354 (fun yl355 yl356 yl357 yl358 yi359 yl360 yl361 yi362 yi363 ys364 yl365 yl366 yl367 yl368 yi369 yi370 ys371 yl372 yl373 yl374 yl375 yi376=>K [.agg [.int .i64 yi363,.str ys364,.sl 8 yl365,.sl 8 yl366,.sl 5 yl367,.sl 7 yl368,.int .i64 yi369],.int .i64 yi359,.int .i64 yi362])))))))else(G 33 [.int .i64 4,.sl 1 bl14,.int .i64 n20] fun o377=>uI .i64 o377 fun n379 r378=>uI .i64 r378 fun n381 r380=>unNil r380 (bif(n379==0)then(G 57 [.agg [.sl 1 bl8,.sl 1 bl9,.sl 1 bl10,.sl 1 bl11],.int .i64 1,.sl 1 bl14,.int .i64 n381] fun o382=>uL 8 o382 fun l384 r383=>uI .i64 r383 fun n386 r385=>unNil r385 (G 33 [.int .i64 3,.sl 1 bl14,.int .i64 n386] fun o387=>uI .i64 o387 fun n389 r388=>uI .i64 r388 fun n391 r390=>unNil r390 (l38_0 G k n389 bl8 bl9 bl10 bl11 bi12 bl13 bl14 n391 ai1 as2 al3 l384 al5 al6 ai7 0 ⟨#[]⟩ [] [] [] [] 0 (fun yl392 yl393 yl394 yl395 yi396 yl397 yl398 yi399 yi400 ys401 yl402 yl403 yl404 yl405 yi406 yi407 ys408 yl409 yl410 yl411 yl412 yi413=>l38_2 G k 0 yl392 yl393 yl394 yl395 yi396 yl397 yl398 yi399 yi400 ys401 yl402 yl403 yl404 yl405 yi406 yi407 ys408 yl409 yl410 yl411 yl412 yi413 (fun yl414 yl415 yl416 yl417 yi418 yl419 yl420 yi421 yi422 ys423 yl424 yl425 yl426 yl427 yi428 yi429 ys430 yl431 yl432 yl433 yl434 yi435=>K [.agg [.int .i64 yi422,.str ys423,.sl 8 yl424,.sl 8 yl425,.sl 5 yl426,.sl 7 yl427,.int .i64 yi428],.int .i64 yi418,.int .i64 yi421])))))else(G 33 [.int .i64 3,.sl 1 bl14,.int .i64 n381] fun o436=>uI .i64 o436 fun n438 r437=>uI .i64 r437 fun n440 r439=>unNil r439 (l38_0 G k n438 bl8 bl9 bl10 bl11 bi12 bl13 bl14 n440 ai1 as2 al3 al4 al5 al6 ai7 0 ⟨#[]⟩ [] [] [] [] 0 (fun yl441 yl442 yl443 yl444 yi445 yl446 yl447 yi448 yi449 ys450 yl451 yl452 yl453 yl454 yi455 yi456 ys457 yl458 yl459 yl460 yl461 yi462=>l38_2 G k 0 yl441 yl442 yl443 yl444 yi445 yl446 yl447 yi448 yi449 ys450 yl451 yl452 yl453 yl454 yi455 yi456 ys457 yl458 yl459 yl460 yl461 yi462 (fun yl463 yl464 yl465 yl466 yi467 yl468 yl469 yi470 yi471 ys472 yl473 yl474 yl475 yl476 yi477 yi478 ys479 yl480 yl481 yl482 yl483 yi484=>K [.agg [.int .i64 yi471,.str ys472,.sl 8 yl473,.sl 8 yl474,.sl 5 yl475,.sl 7 yl476,.int .i64 yi477],.int .i64 yi467,.int .i64 yi470])))))))))
noncomputable def D38_0:LoopD:={id:=0,body:=loopAt 0 (bodyOf Try.f38),head:=P38_0h,out:=P38_0x,ret:=default}
theorem l38_0_is{R:Type}(G:ORC R)(k:Nat)(X:LV→OV R)(K:Ex→St→OV R)(xi41:Int)(xl42 xl43:LV)(xl44 xl45:LV)(xi46:Int)(xl47 xl48:LV)(xi49 xi50:Int)(xs51:ByteArray)(xl52 xl53:LV)(xl54 xl55:LV)(xi56 xi57:Int)(xs58:ByteArray)(xl59 xl60:LV)(xl61 xl62:LV)(xi63:Int):
 roundOf (TAB.env 38) G (L38 G k) D38_0 X K [.int .i64 xi41,.sl 1 xl42,.sl 1 xl43,.sl 1 xl44,.sl 1 xl45,.int .i64 xi46,.sl 1 xl47,.sl 1 xl48,.int .i64 xi49,.int .i64 xi50,.str xs51,.sl 8 xl52,.sl 8 xl53,.sl 5 xl54,.sl 7 xl55,.int .i64 xi56,.int .i64 xi57,.str xs58,.sl 8 xl59,.sl 8 xl60,.sl 5 xl61,.sl 7 xl62,.int .i64 xi63]=b38_0 G k (fun xi41 xl42 xl43 xl44 xl45 xi46 xl47 xl48 xi49 xi50 xs51 xl52 xl53 xl54 xl55 xi56 xi57 xs58 xl59 xl60 xl61 xl62 xi63=>X [.int .i64 xi41,.sl 1 xl42,.sl 1 xl43,.sl 1 xl44,.sl 1 xl45,.int .i64 xi46,.sl 1 xl47,.sl 1 xl48,.int .i64 xi49,.int .i64 xi50,.str xs51,.sl 8 xl52,.sl 8 xl53,.sl 5 xl54,.sl 7 xl55,.int .i64 xi56,.int .i64 xi57,.str xs58,.sl 8 xl59,.sl 8 xl60,.sl 5 xl61,.sl 7 xl62,.int .i64 xi63]) (fun yl485 yl486 yl487 yl488 yi489 yl490 yl491 yi492 yi493 ys494 yl495 yl496 yl497 yl498 yi499 yi500 ys501 yl502 yl503 yl504 yl505 yi506=>K .normal (P38_0x.inst [.sl 1 yl485,.sl 1 yl486,.sl 1 yl487,.sl 1 yl488,.int .i64 yi489,.sl 1 yl490,.sl 1 yl491,.int .i64 yi492,.int .i64 yi493,.str ys494,.sl 8 yl495,.sl 8 yl496,.sl 5 yl497,.sl 7 yl498,.int .i64 yi499,.int .i64 yi500,.str ys501,.sl 8 yl502,.sl 8 yl503,.sl 5 yl504,.sl 7 yl505,.int .i64 yi506])) xi41 xl42 xl43 xl44 xl45 xi46 xl47 xl48 xi49 xi50 xs51 xl52 xl53 xl54 xl55 xi56 xi57 xs58 xl59 xl60 xl61 xl62 xi63:=by kernel_rfl
noncomputable def D38_2:LoopD:={id:=2,body:=loopAt 2 (bodyOf Try.f38),head:=P38_2h,out:=P38_2x,ret:=default}
theorem l38_2_is{R:Type}(G:ORC R)(k:Nat)(X:LV→OV R)(K:Ex→St→OV R)(xi259:Int)(xl260 xl261:LV)(xl262 xl263:LV)(xi264:Int)(xl265 xl266:LV)(xi267 xi268:Int)(xs269:ByteArray)(xl270 xl271:LV)(xl272 xl273:LV)(xi274 xi275:Int)(xs276:ByteArray)(xl277 xl278:LV)(xl279 xl280:LV)(xi281:Int):
 roundOf (TAB.env 38) G (L38 G k) D38_2 X K [.int .i64 xi259,.sl 1 xl260,.sl 1 xl261,.sl 1 xl262,.sl 1 xl263,.int .i64 xi264,.sl 1 xl265,.sl 1 xl266,.int .i64 xi267,.int .i64 xi268,.str xs269,.sl 8 xl270,.sl 8 xl271,.sl 5 xl272,.sl 7 xl273,.int .i64 xi274,.int .i64 xi275,.str xs276,.sl 8 xl277,.sl 8 xl278,.sl 5 xl279,.sl 7 xl280,.int .i64 xi281]=b38_2 G k (fun xi259 xl260 xl261 xl262 xl263 xi264 xl265 xl266 xi267 xi268 xs269 xl270 xl271 xl272 xl273 xi274 xi275 xs276 xl277 xl278 xl279 xl280 xi281=>X [.int .i64 xi259,.sl 1 xl260,.sl 1 xl261,.sl 1 xl262,.sl 1 xl263,.int .i64 xi264,.sl 1 xl265,.sl 1 xl266,.int .i64 xi267,.int .i64 xi268,.str xs269,.sl 8 xl270,.sl 8 xl271,.sl 5 xl272,.sl 7 xl273,.int .i64 xi274,.int .i64 xi275,.str xs276,.sl 8 xl277,.sl 8 xl278,.sl 5 xl279,.sl 7 xl280,.int .i64 xi281]) (fun yl507 yl508 yl509 yl510 yi511 yl512 yl513 yi514 yi515 ys516 yl517 yl518 yl519 yl520 yi521 yi522 ys523 yl524 yl525 yl526 yl527 yi528=>K .normal (P38_2x.inst [.sl 1 yl507,.sl 1 yl508,.sl 1 yl509,.sl 1 yl510,.int .i64 yi511,.sl 1 yl512,.sl 1 yl513,.int .i64 yi514,.int .i64 yi515,.str ys516,.sl 8 yl517,.sl 8 yl518,.sl 5 yl519,.sl 7 yl520,.int .i64 yi521,.int .i64 yi522,.str ys523,.sl 8 yl524,.sl 8 yl525,.sl 5 yl526,.sl 7 yl527,.int .i64 yi528])) xi259 xl260 xl261 xl262 xl263 xi264 xl265 xl266 xi267 xi268 xs269 xl270 xl271 xl272 xl273 xi274 xi275 xs276 xl277 xl278 xl279 xl280 xi281:=by kernel_rfl
theorem f38_is{R:Type}(G:ORC R)(k:Nat)(K:LV→OV R)(ai1:Int)(as2:ByteArray)(al3 al4:LV)(al5 al6:LV)(ai7:Int)(bl8 bl9:LV)(bl10 bl11:LV)(bi12:Int)(bl13 bl14:LV)(bi15:Int):
 callF (TAB.env 38) G (L38 G k) Try.f38 S38 [.agg [.int .i64 ai1,.str as2,.sl 8 al3,.sl 8 al4,.sl 5 al5,.sl 7 al6,.int .i64 ai7],.sl 1 bl8,.sl 1 bl9,.sl 1 bl10,.sl 1 bl11,.int .i64 bi12,.sl 1 bl13,.sl 1 bl14,.int .i64 bi15] K=f38 G k ai1 as2 al3 al4 al5 al6 ai7 bl8 bl9 bl10 bl11 bi12 bl13 bl14 bi15 K:=by kernel_rfl
theorem li38_0{R:Type}(G:ORC R)(k:Nat):LoopIs (TAB.env 38) G (L38 G k) 0 (loopAt 0 (bodyOf Try.f38)):=
 ⟨D38_0,fun j vs K=>rd38_0 G k K j vs,k,rfl,rfl,by kernel_rfl,by kernel_rfl,by kernel_rfl,(fun vs K=>by unfold rd38_0;dsimp only;split<;>rfl),
   (fun j vs K r h=>by
     unfold rd38_0 at h
     dsimp only at h
     split at h
     ·rw[l38_0_is];exact h
     ·cases h),(fun S K r h=>h)⟩
theorem li38_2{R:Type}(G:ORC R)(k:Nat):LoopIs (TAB.env 38) G (L38 G k) 2 (loopAt 2 (bodyOf Try.f38)):=
 ⟨D38_2,fun j vs K=>rd38_2 G k K j vs,k,rfl,rfl,by kernel_rfl,by kernel_rfl,by kernel_rfl,(fun vs K=>by unfold rd38_2;dsimp only;split<;>rfl),
   (fun j vs K r h=>by
     unfold rd38_2 at h
     dsimp only at h
     split at h
     ·rw[l38_2_is];exact h
     ·cases h),(fun S K r h=>h)⟩
theorem lo38:loopsOf (bodyOf Try.f38)=[(0,loopAt 0 (bodyOf Try.f38)),(2,loopAt 2 (bodyOf Try.f38))]:=by kernel_rfl
theorem la38{R:Type}(G:ORC R)(k:Nat):LoopsAre (TAB.env 38) G (L38 G k) (bodyOf Try.f38):=
 loopsAre_of (by rw[lo38];intro p hp;simp only[List.mem_cons,List.not_mem_nil,or_false]at hp;rcases hp with rfl|rfl<;>first|exact li38_0 G k|exact li38_2 G k)
def g38{R:Type}(G:ORC R)(k:Nat)(args:LV)(K:LV→OV R):OV R:=match args with
 | [.agg [.int .i64 ai1,.str as2,.sl 8 al3,.sl 8 al4,.sl 5 al5,.sl 7 al6,.int .i64 ai7],.sl 1 bl8,.sl 1 bl9,.sl 1 bl10,.sl 1 bl11,.int .i64 bi12,.sl 1 bl13,.sl 1 bl14,.int .i64 bi15]=>f38 G k ai1 as2 al3 al4 al5 al6 ai7 bl8 bl9 bl10 bl11 bi12 bl13 bl14 bi15 K
 |_=>none
theorem s38{R:Type}{G:ORC R}{k:Nat}(hG:Sound Try.prog TAB G)(args:LV)(K:LV→OV R)(r:R)(h:g38 G k args K=some r):∃o,CallOK Try.prog TAB.env 38 args o∧K o=some r:=by
 unfold g38 at h
 split at h
 ·rw[←f38_is]at h
  exact callF_sound (f:=38) TAB_chk MO hG Try.func38 (sg:=S38) (by kernel_rfl) (by kernel_rfl) (la38 G k) h
 ·cases h
def P16_0h:Pat:={tmps:=unds [] 6 (unds [.stat (.one (.ptr 7 0) .pt),.stat (.one (.ptr 18 0) .pt),.stat (.one (.ptr 9 0) .pt),.var (.int .i64) .pr] 133 []),boxes:=nons [some [.var (.sl 1) .ro true,.var (.int .i64) .pr false]] 6 (nons [some [.var .str .pr false,.var (.int .i64) .pr false,.var (.int .i64) .pr false,.var (.sl 3) (.own true) false,.var (.sl 3) (.own true) false,.var (.sl 3) (.own true) false,.var (.sl 7) (.own true) false,.var (.int .i64) .pr false],none,some [.var .str .pr false,.var (.int .i64) .pr false,.var (.int .i64) .pr false,.var (.sl 3) .ro false,.var (.sl 3) .ro false,.var (.sl 3) .ro false,.var (.sl 7) (.own true) false,.var (.int .i64) .pr false]] 8 (nons [some [.stat ⟨(.ptr 0 0),.pt,0,false⟩,.var (.sl 1) .ro false,.var (.sl 1) .ro false,.var (.sl 1) .ro false,.var (.sl 1) (.own true) false,.var (.int .i64) .pr false,.var (.sl 1) (.own true) false]] 125 []))}
def P16_0x:Pat:={tmps:=unds [] 6 (unds [.stat (.one (.ptr 7 0) .pt),.stat (.one (.ptr 18 0) .pt),.stat (.one (.ptr 9 0) .pt)] 134 []),boxes:=nons [some [.var (.sl 1) .ro true,.var (.int .i64) .pr false]] 6 (nons [some [.var .str .pr false,.var (.int .i64) .pr false,.var (.int .i64) .pr false,.var (.sl 3) (.own true) false,.var (.sl 3) (.own true) false,.var (.sl 3) (.own true) false,.var (.sl 7) (.own true) false,.var (.int .i64) .pr false],none,some [.var .str .pr false,.var (.int .i64) .pr false,.var (.int .i64) .pr false,.var (.sl 3) .ro false,.var (.sl 3) .ro false,.var (.sl 3) .ro false,.var (.sl 7) (.own true) false,.var (.int .i64) .pr false]] 8 (nons [some [.stat ⟨(.ptr 0 0),.pt,0,false⟩,.var (.sl 1) .ro false,.var (.sl 1) .ro false,.var (.sl 1) .ro false,.var (.sl 1) (.own true) false,.var (.int .i64) .pr false,.var (.sl 1) (.own true) false]] 125 []))}
def b16_0{R:Type}(G:ORC R)(k:Nat)(X:Int→LV→Int→ByteArray→Int→Int→LV→LV→LV→LV→Int→ByteArray→Int→Int→LV→LV→LV→LV→Int→LV→LV→LV→LV→Int→LV→OV R)(Ko:LV→Int→ByteArray→Int→Int→LV→LV→LV→LV→Int→ByteArray→Int→Int→LV→LV→LV→LV→Int→LV→LV→LV→LV→Int→LV→OV R)(xi57:Int)(xl58:LV)(xi59:Int)(xs60:ByteArray)(xi61 xi62:Int)(xl63 xl64:LV)(xl65 xl66:LV)(xi67:Int)(xs68:ByteArray)(xi69 xi70:Int)(xl71 xl72:LV)(xl73 xl74:LV)(xi75:Int)(xl76 xl77:LV)(xl78 xl79:LV)(xi80:Int)(xl81:LV):OV R:=
 (bif(decide (xi57>0))then(bif(decide (xi80>0))then(G 37 [.int .i64 2,.bool false,.sl 1 xl76,.sl 1 xl77,.sl 1 xl78,.sl 1 xl79,.int .i64 xi80,.sl 1 xl81,.sl 1 xl58,.int .i64 xi59] fun o82=>uA o82 fun l84 r83=>uI .i64 l84 fun n86 r85=>uS r85 fun s88 r87=>uL 8 r87 fun l90 r89=>uL 8 r89 fun l92 r91=>uL 5 r91 fun l94 r93=>uL 7 r93 fun l96 r95=>uI .i64 r95 fun n98 r97=>unNil r97 (uI .i64 r83 fun n100 r99=>uL 1 r99 fun l102 r101=>uI .i64 r101 fun n104 r103=>unNil r103 (bif(decide (List.length xl74+1≤1073741824))then(X (IntKind.i64.wrap (xi57-1)) xl58 n104 xs60 xi61 xi62 xl63 xl64 xl65 xl66 xi67 xs68 xi69 xi70 xl71 xl72 xl73 (xl74++[.agg [.int .i64 n86,.str s88,.sl 8 l90,.sl 8 l92,.sl 5 l94,.sl 7 l96,.int .i64 n98]]) xi75 xl76 xl77 xl78 xl79 n100 l102)else none)))else(bif((xl74.length:Int)==0)then(G 37 [.int .i64 2,.bool false,.sl 1 xl76,.sl 1 xl77,.sl 1 xl78,.sl 1 xl79,.int .i64 xi80,.sl 1 xl81,.sl 1 xl58,.int .i64 xi59] fun o105=>uA o105 fun l107 r106=>uI .i64 l107 fun n109 r108=>uS r108 fun s111 r110=>uL 8 r110 fun l113 r112=>uL 8 r112 fun l115 r114=>uL 5 r114 fun l117 r116=>uL 7 r116 fun l119 r118=>uI .i64 r118 fun n121 r120=>unNil r120 (uI .i64 r106 fun n123 r122=>uL 1 r122 fun l125 r124=>uI .i64 r124 fun n127 r126=>unNil r126 (bif(decide (List.length xl74+1≤1073741824))then(X (IntKind.i64.wrap (xi57-1)) xl58 n127 xs60 xi61 xi62 xl63 xl64 xl65 xl66 xi67 xs68 xi69 xi70 xl71 xl72 xl73 (xl74++[.agg [.int .i64 n109,.str s111,.sl 8 l113,.sl 8 l115,.sl 5 l117,.sl 7 l119,.int .i64 n121]]) xi75 xl76 xl77 xl78 xl79 n123 l125)else none)))else(Ko xl58 xi59 xs60 xi61 xi62 xl63 xl64 xl65 xl66 xi67 xs68 xi69 xi70 xl71 xl72 xl73 xl74 xi75 xl76 xl77 xl78 xl79 xi80 xl81)))else(Ko xl58 xi59 xs60 xi61 xi62 xl63 xl64 xl65 xl66 xi67 xs68 xi69 xi70 xl71 xl72 xl73 xl74 xi75 xl76 xl77 xl78 xl79 xi80 xl81))
def l16_0g{R:Type}(G:ORC R)(k:Nat)(Ko:LV→Int→ByteArray→Int→Int→LV→LV→LV→LV→Int→ByteArray→Int→Int→LV→LV→LV→LV→Int→LV→LV→LV→LV→Int→LV→OV R):Nat→Int→LV→Int→ByteArray→Int→Int→LV→LV→LV→LV→Int→ByteArray→Int→Int→LV→LV→LV→LV→Int→LV→LV→LV→LV→Int→LV→OV R
 |0=>fun _ _ _ _ _ _ _ _ _ _ _ _ _ _ _ _ _ _ _ _ _ _ _ _ _=>none
 |j+1=>b16_0 G k (l16_0g G k Ko j) Ko
def l16_0{R:Type}(G:ORC R)(k:Nat)(xi57:Int)(xl58:LV)(xi59:Int)(xs60:ByteArray)(xi61 xi62:Int)(xl63 xl64:LV)(xl65 xl66:LV)(xi67:Int)(xs68:ByteArray)(xi69 xi70:Int)(xl71 xl72:LV)(xl73 xl74:LV)(xi75:Int)(xl76 xl77:LV)(xl78 xl79:LV)(xi80:Int)(xl81:LV)(Ko:LV→Int→ByteArray→Int→Int→LV→LV→LV→LV→Int→ByteArray→Int→Int→LV→LV→LV→LV→Int→LV→LV→LV→LV→Int→LV→OV R):OV R:=l16_0g G k Ko k xi57 xl58 xi59 xs60 xi61 xi62 xl63 xl64 xl65 xl66 xi67 xs68 xi69 xi70 xl71 xl72 xl73 xl74 xi75 xl76 xl77 xl78 xl79 xi80 xl81
def P16_2h:Pat:={tmps:=unds [] 6 (unds [.stat (.one (.ptr 7 0) .pt),.stat (.one (.ptr 18 0) .pt),.stat (.one (.ptr 9 0) .pt),.undef,.var (.int .i64) .pr] 132 []),boxes:=nons [some [.var (.sl 1) .ro true,.var (.int .i64) .pr false]] 6 (nons [some [.var .str .pr false,.var (.int .i64) .pr false,.var (.int .i64) .pr false,.var (.sl 3) (.own true) false,.var (.sl 3) (.own true) false,.var (.sl 3) (.own true) false,.var (.sl 7) (.own true) false,.var (.int .i64) .pr false],none,some [.var .str .pr false,.var (.int .i64) .pr false,.var (.int .i64) .pr false,.var (.sl 3) .ro false,.var (.sl 3) .ro false,.var (.sl 3) .ro false,.var (.sl 7) (.own true) false,.var (.int .i64) .pr false]] 8 (nons [some [.stat ⟨(.ptr 0 0),.pt,0,false⟩,.var (.sl 1) .ro false,.var (.sl 1) .ro false,.var (.sl 1) .ro false,.var (.sl 1) (.own true) false,.var (.int .i64) .pr false,.var (.sl 1) (.own true) false]] 125 []))}
def P16_2x:Pat:={tmps:=unds [] 6 (unds [.stat (.one (.ptr 7 0) .pt),.stat (.one (.ptr 18 0) .pt),.stat (.one (.ptr 9 0) .pt)] 134 []),boxes:=nons [some [.var (.sl 1) .ro true,.var (.int .i64) .pr false]] 6 (nons [some [.var .str .pr false,.var (.int .i64) .pr false,.var (.int .i64) .pr false,.var (.sl 3) (.own true) false,.var (.sl 3) (.own true) false,.var (.sl 3) (.own true) false,.var (.sl 7) (.own true) false,.var (.int .i64) .pr false],none,some [.var .str .pr false,.var (.int .i64) .pr false,.var (.int .i64) .pr false,.var (.sl 3) .ro false,.var (.sl 3) .ro false,.var (.sl 3) .ro false,.var (.sl 7) (.own true) false,.var (.int .i64) .pr false]] 8 (nons [some [.stat ⟨(.ptr 0 0),.pt,0,false⟩,.var (.sl 1) .ro false,.var (.sl 1) .ro false,.var (.sl 1) .ro false,.var (.sl 1) (.own true) false,.var (.int .i64) .pr false,.var (.sl 1) (.own true) false]] 125 []))}
def b16_2{R:Type}(G:ORC R)(k:Nat)(X:Int→LV→Int→ByteArray→Int→Int→LV→LV→LV→LV→Int→ByteArray→Int→Int→LV→LV→LV→LV→Int→LV→LV→LV→LV→Int→LV→OV R)(Ko:LV→Int→ByteArray→Int→Int→LV→LV→LV→LV→Int→ByteArray→Int→Int→LV→LV→LV→LV→Int→LV→LV→LV→LV→Int→LV→OV R)(xi152:Int)(xl153:LV)(xi154:Int)(xs155:ByteArray)(xi156 xi157:Int)(xl158 xl159:LV)(xl160 xl161:LV)(xi162:Int)(xs163:ByteArray)(xi164 xi165:Int)(xl166 xl167:LV)(xl168 xl169:LV)(xi170:Int)(xl171 xl172:LV)(xl173 xl174:LV)(xi175:Int)(xl176:LV):OV R:=
 (bif(decide (xi152<(xl176.length:Int)))then(bif((decide (0≤xi152))&&(decide (xi152<(xl176.length:Int))))then(nthK xl176 (Int.toNat xi152) fun e177=>V.asStr e177 fun s178=>bif(decide (0<((ByteArray.size s178:Nat):Int)))then(bif(((List.getD s178.data.toList 0 0).toNat:Int)==115)then(bif((decide (0≤xi152))&&(decide (xi152<(xl176.length:Int))))then(nthK xl176 (Int.toNat xi152) fun e179=>V.asStr e179 fun s180=>bif(decide (List.length xl174+1≤1073741824))then(X (IntKind.i64.wrap (xi152+1)) xl153 xi154 xs155 xi156 xi157 xl158 xl159 xl160 xl161 xi162 xs163 xi164 xi165 xl166 xl167 xl168 xl169 xi170 xl171 xl172 xl173 (xl174++[.str s180]) xi175 xl176)else none)else none)else(X (IntKind.i64.wrap (xi152+1)) xl153 xi154 xs155 xi156 xi157 xl158 xl159 xl160 xl161 xi162 xs163 xi164 xi165 xl166 xl167 xl168 xl169 xi170 xl171 xl172 xl173 xl174 xi175 xl176))else none)else none)else(Ko xl153 xi154 xs155 xi156 xi157 xl158 xl159 xl160 xl161 xi162 xs163 xi164 xi165 xl166 xl167 xl168 xl169 xi170 xl171 xl172 xl173 xl174 xi175 xl176))
def l16_2g{R:Type}(G:ORC R)(k:Nat)(Ko:LV→Int→ByteArray→Int→Int→LV→LV→LV→LV→Int→ByteArray→Int→Int→LV→LV→LV→LV→Int→LV→LV→LV→LV→Int→LV→OV R):Nat→Int→LV→Int→ByteArray→Int→Int→LV→LV→LV→LV→Int→ByteArray→Int→Int→LV→LV→LV→LV→Int→LV→LV→LV→LV→Int→LV→OV R
 |0=>fun _ _ _ _ _ _ _ _ _ _ _ _ _ _ _ _ _ _ _ _ _ _ _ _ _=>none
 |j+1=>b16_2 G k (l16_2g G k Ko j) Ko
def l16_2{R:Type}(G:ORC R)(k:Nat)(xi152:Int)(xl153:LV)(xi154:Int)(xs155:ByteArray)(xi156 xi157:Int)(xl158 xl159:LV)(xl160 xl161:LV)(xi162:Int)(xs163:ByteArray)(xi164 xi165:Int)(xl166 xl167:LV)(xl168 xl169:LV)(xi170:Int)(xl171 xl172:LV)(xl173 xl174:LV)(xi175:Int)(xl176:LV)(Ko:LV→Int→ByteArray→Int→Int→LV→LV→LV→LV→Int→ByteArray→Int→Int→LV→LV→LV→LV→Int→LV→LV→LV→LV→Int→LV→OV R):OV R:=l16_2g G k Ko k xi152 xl153 xi154 xs155 xi156 xi157 xl158 xl159 xl160 xl161 xi162 xs163 xi164 xi165 xl166 xl167 xl168 xl169 xi170 xl171 xl172 xl173 xl174 xi175 xl176
def P16_4h:Pat:={tmps:=unds [] 6 (unds [.stat (.one (.ptr 7 0) .pt),.stat (.one (.ptr 18 0) .pt),.stat (.one (.ptr 9 0) .pt),.undef,.undef,.var (.int .i64) .pr] 131 []),boxes:=nons [some [.var (.sl 1) .ro true,.var (.int .i64) .pr false]] 6 (nons [some [.var .str .pr false,.var (.int .i64) .pr false,.var (.int .i64) .pr false,.var (.sl 3) (.own true) false,.var (.sl 3) (.own true) false,.var (.sl 3) (.own true) false,.var (.sl 7) (.own true) false,.var (.int .i64) .pr false],none,some [.var .str .pr false,.var (.int .i64) .pr false,.var (.int .i64) .pr false,.var (.sl 3) .ro false,.var (.sl 3) .ro false,.var (.sl 3) .ro false,.var (.sl 7) (.own true) false,.var (.int .i64) .pr false]] 8 (nons [some [.stat ⟨(.ptr 0 0),.pt,0,false⟩,.var (.sl 1) .ro false,.var (.sl 1) .ro false,.var (.sl 1) .ro false,.var (.sl 1) (.own true) false,.var (.int .i64) .pr false,.var (.sl 1) (.own true) false]] 125 []))}
def P16_4x:Pat:={tmps:=unds [] 6 (unds [.stat (.one (.ptr 7 0) .pt),.undef,.stat (.one (.ptr 9 0) .pt)] 134 []),boxes:=nons [some [.var (.sl 1) .ro true,.var (.int .i64) .pr false]] 6 (nons [some [.var .str .pr false,.var (.int .i64) .pr false,.var (.int .i64) .pr false,.var (.sl 3) (.own true) false,.var (.sl 3) (.own true) false,.var (.sl 3) (.own true) false,.var (.sl 7) (.own true) false,.var (.int .i64) .pr false],none,some [.var .str .pr false,.var (.int .i64) .pr false,.var (.int .i64) .pr false,.var (.sl 3) .ro false,.var (.sl 3) .ro false,.var (.sl 3) .ro false,.var (.sl 7) (.own true) false,.var (.int .i64) .pr false]] 134 [])}
def b16_4{R:Type}(G:ORC R)(k:Nat)(X:Int→LV→Int→ByteArray→Int→Int→LV→LV→LV→LV→Int→ByteArray→Int→Int→LV→LV→LV→LV→Int→LV→LV→LV→LV→Int→LV→OV R)(Ko:LV→Int→ByteArray→Int→Int→LV→LV→LV→LV→Int→ByteArray→Int→Int→LV→LV→LV→LV→Int→OV R)(xi205:Int)(xl206:LV)(xi207:Int)(xs208:ByteArray)(xi209 xi210:Int)(xl211 xl212:LV)(xl213 xl214:LV)(xi215:Int)(xs216:ByteArray)(xi217 xi218:Int)(xl219 xl220:LV)(xl221 xl222:LV)(xi223:Int)(xl224 xl225:LV)(xl226 xl227:LV)(xi228:Int)(xl229:LV):OV R:=
 (bif(decide (xi205<(xl222.length:Int)))then(bif((decide (0≤xi205))&&(decide (xi205<(xl222.length:Int))))then(nthK xl222 (Int.toNat xi205) fun e230=>V.asAgg e230 fun l231=>G 38 [.agg l231,.sl 1 xl224,.sl 1 xl225,.sl 1 xl226,.sl 1 xl227,.int .i64 xi228,.sl 1 xl229,.sl 1 xl206,.int .i64 xi207] fun o232=>uA o232 fun l234 r233=>uI .i64 l234 fun n236 r235=>uS r235 fun s238 r237=>uL 8 r237 fun l240 r239=>uL 8 r239 fun l242 r241=>uL 5 r241 fun l244 r243=>uL 7 r243 fun l246 r245=>uI .i64 r245 fun n248 r247=>unNil r247 (uI .i64 r233 fun n250 r249=>uI .i64 r249 fun n252 r251=>unNil r251 (bif((decide (0≤xi205))&&(decide (xi205<((List.length (List.set xl222 (Int.toNat xi205) .undef):Nat):Int))))then(nthK (List.set xl222 (Int.toNat xi205) .undef) (Int.toNat xi205) fun e253=>X (IntKind.i64.wrap (xi205+1)) xl206 n252 xs208 xi209 xi210 xl211 xl212 xl213 xl214 xi215 xs216 xi217 xi218 xl219 xl220 xl221 (List.set (List.set xl222 (Int.toNat xi205) .undef) (Int.toNat xi205) (.agg [.int .i64 n236,.str s238,.sl 8 l240,.sl 8 l242,.sl 5 l244,.sl 7 l246,.int .i64 n248])) xi223 xl224 xl225 xl226 xl227 n250 xl229)else none)))else none)else(Ko xl206 xi207 xs208 xi209 xi210 xl211 xl212 xl213 xl214 xi215 xs216 xi217 xi218 xl219 xl220 xl221 xl222 xi223))
def l16_4g{R:Type}(G:ORC R)(k:Nat)(Ko:LV→Int→ByteArray→Int→Int→LV→LV→LV→LV→Int→ByteArray→Int→Int→LV→LV→LV→LV→Int→OV R):Nat→Int→LV→Int→ByteArray→Int→Int→LV→LV→LV→LV→Int→ByteArray→Int→Int→LV→LV→LV→LV→Int→LV→LV→LV→LV→Int→LV→OV R
 |0=>fun _ _ _ _ _ _ _ _ _ _ _ _ _ _ _ _ _ _ _ _ _ _ _ _ _=>none
 |j+1=>b16_4 G k (l16_4g G k Ko j) Ko
def l16_4{R:Type}(G:ORC R)(k:Nat)(xi205:Int)(xl206:LV)(xi207:Int)(xs208:ByteArray)(xi209 xi210:Int)(xl211 xl212:LV)(xl213 xl214:LV)(xi215:Int)(xs216:ByteArray)(xi217 xi218:Int)(xl219 xl220:LV)(xl221 xl222:LV)(xi223:Int)(xl224 xl225:LV)(xl226 xl227:LV)(xi228:Int)(xl229:LV)(Ko:LV→Int→ByteArray→Int→Int→LV→LV→LV→LV→Int→ByteArray→Int→Int→LV→LV→LV→LV→Int→OV R):OV R:=l16_4g G k Ko k xi205 xl206 xi207 xs208 xi209 xi210 xl211 xl212 xl213 xl214 xi215 xs216 xi217 xi218 xl219 xl220 xl221 xl222 xi223 xl224 xl225 xl226 xl227 xi228 xl229
def rd16_0{R:Type}(G:ORC R)(k:Nat)(K:Ex→St→OV R)(j:Nat)(vs:LV):OV R:=match vs with
 | [.int .i64 xi57,.sl 1 xl58,.int .i64 xi59,.str xs60,.int .i64 xi61,.int .i64 xi62,.sl 3 xl63,.sl 3 xl64,.sl 3 xl65,.sl 7 xl66,.int .i64 xi67,.str xs68,.int .i64 xi69,.int .i64 xi70,.sl 3 xl71,.sl 3 xl72,.sl 3 xl73,.sl 7 xl74,.int .i64 xi75,.sl 1 xl76,.sl 1 xl77,.sl 1 xl78,.sl 1 xl79,.int .i64 xi80,.sl 1 xl81]=>l16_0g G k (fun yl272 yi273 ys274 yi275 yi276 yl277 yl278 yl279 yl280 yi281 ys282 yi283 yi284 yl285 yl286 yl287 yl288 yi289 yl290 yl291 yl292 yl293 yi294 yl295=>K .normal (P16_0x.inst [.sl 1 yl272,.int .i64 yi273,.str ys274,.int .i64 yi275,.int .i64 yi276,.sl 3 yl277,.sl 3 yl278,.sl 3 yl279,.sl 7 yl280,.int .i64 yi281,.str ys282,.int .i64 yi283,.int .i64 yi284,.sl 3 yl285,.sl 3 yl286,.sl 3 yl287,.sl 7 yl288,.int .i64 yi289,.sl 1 yl290,.sl 1 yl291,.sl 1 yl292,.sl 1 yl293,.int .i64 yi294,.sl 1 yl295])) j xi57 xl58 xi59 xs60 xi61 xi62 xl63 xl64 xl65 xl66 xi67 xs68 xi69 xi70 xl71 xl72 xl73 xl74 xi75 xl76 xl77 xl78 xl79 xi80 xl81
 |_=>none
def rd16_2{R:Type}(G:ORC R)(k:Nat)(K:Ex→St→OV R)(j:Nat)(vs:LV):OV R:=match vs with
 | [.int .i64 xi152,.sl 1 xl153,.int .i64 xi154,.str xs155,.int .i64 xi156,.int .i64 xi157,.sl 3 xl158,.sl 3 xl159,.sl 3 xl160,.sl 7 xl161,.int .i64 xi162,.str xs163,.int .i64 xi164,.int .i64 xi165,.sl 3 xl166,.sl 3 xl167,.sl 3 xl168,.sl 7 xl169,.int .i64 xi170,.sl 1 xl171,.sl 1 xl172,.sl 1 xl173,.sl 1 xl174,.int .i64 xi175,.sl 1 xl176]=>l16_2g G k (fun yl296 yi297 ys298 yi299 yi300 yl301 yl302 yl303 yl304 yi305 ys306 yi307 yi308 yl309 yl310 yl311 yl312 yi313 yl314 yl315 yl316 yl317 yi318 yl319=>K .normal (P16_2x.inst [.sl 1 yl296,.int .i64 yi297,.str ys298,.int .i64 yi299,.int .i64 yi300,.sl 3 yl301,.sl 3 yl302,.sl 3 yl303,.sl 7 yl304,.int .i64 yi305,.str ys306,.int .i64 yi307,.int .i64 yi308,.sl 3 yl309,.sl 3 yl310,.sl 3 yl311,.sl 7 yl312,.int .i64 yi313,.sl 1 yl314,.sl 1 yl315,.sl 1 yl316,.sl 1 yl317,.int .i64 yi318,.sl 1 yl319])) j xi152 xl153 xi154 xs155 xi156 xi157 xl158 xl159 xl160 xl161 xi162 xs163 xi164 xi165 xl166 xl167 xl168 xl169 xi170 xl171 xl172 xl173 xl174 xi175 xl176
 |_=>none
def rd16_4{R:Type}(G:ORC R)(k:Nat)(K:Ex→St→OV R)(j:Nat)(vs:LV):OV R:=match vs with
 | [.int .i64 xi205,.sl 1 xl206,.int .i64 xi207,.str xs208,.int .i64 xi209,.int .i64 xi210,.sl 3 xl211,.sl 3 xl212,.sl 3 xl213,.sl 7 xl214,.int .i64 xi215,.str xs216,.int .i64 xi217,.int .i64 xi218,.sl 3 xl219,.sl 3 xl220,.sl 3 xl221,.sl 7 xl222,.int .i64 xi223,.sl 1 xl224,.sl 1 xl225,.sl 1 xl226,.sl 1 xl227,.int .i64 xi228,.sl 1 xl229]=>l16_4g G k (fun yl320 yi321 ys322 yi323 yi324 yl325 yl326 yl327 yl328 yi329 ys330 yi331 yi332 yl333 yl334 yl335 yl336 yi337=>K .normal (P16_4x.inst [.sl 1 yl320,.int .i64 yi321,.str ys322,.int .i64 yi323,.int .i64 yi324,.sl 3 yl325,.sl 3 yl326,.sl 3 yl327,.sl 7 yl328,.int .i64 yi329,.str ys330,.int .i64 yi331,.int .i64 yi332,.sl 3 yl333,.sl 3 yl334,.sl 3 yl335,.sl 7 yl336,.int .i64 yi337])) j xi205 xl206 xi207 xs208 xi209 xi210 xl211 xl212 xl213 xl214 xi215 xs216 xi217 xi218 xl219 xl220 xl221 xl222 xi223 xl224 xl225 xl226 xl227 xi228 xl229
 |_=>none
def L16{R:Type}(G:ORC R)(k:Nat):Nat→St→(Ex→St→OV R)→OV R
 |0,S,K=>P16_0h.mat S fun vs=>rd16_0 G k K k vs
 |2,S,K=>P16_2h.mat S fun vs=>rd16_2 G k K k vs
 |4,S,K=>P16_4h.mat S fun vs=>rd16_4 G k K k vs
 |_,_,_=>none
def f16{R:Type}(G:ORC R)(k:Nat)(as1:ByteArray)(ai2:Int)(bl3:LV)(bi4:Int)(K:LV→OV R):OV R:=
 (G 33 [.int .i64 8,.sl 1 bl3,.int .i64 bi4] fun o5=>uI .i64 o5 fun n7 r6=>uI .i64 r6 fun n9 r8=>unNil r8 (G 33 [.int .i64 3,.sl 1 bl3,.int .i64 n9] fun o10=>uI .i64 o10 fun n12 r11=>uI .i64 r11 fun n14 r13=>unNil r13 (G 34 [.str ⟨#[118]⟩,.int .i64 n12] fun o15=>uL 1 o15 fun l17 r16=>unNil r16 (G 34 [.str ⟨#[112]⟩,.int .i64 ai2] fun o18=>uL 1 o18 fun l20 r19=>unNil r19 (G 33 [.int .i64 3,.sl 1 bl3,.int .i64 n14] fun o21=>uI .i64 o21 fun n23 r22=>uI .i64 r22 fun n25 r24=>unNil r24 (G 34 [.str ⟨#[116]⟩,.int .i64 n23] fun o26=>uL 1 o26 fun l28 r27=>unNil r27 (G 33 [.int .i64 5,.sl 1 bl3,.int .i64 n25] fun o29=>uI .i64 o29 fun n31 r30=>uI .i64 r30 fun n33 r32=>unNil r32 (G 33 [.int .i64 4,.sl 1 bl3,.int .i64 n33] fun o34=>uI .i64 o34 fun n36 r35=>uI .i64 r35 fun n38 r37=>unNil r37 (bif((decide (0≤n36))&&(decide (n36<4)))then(nthK [.int .i64 40,.int .i64 12,.int .i64 4,.int .i64 200] (Int.toNat n36) fun e39=>aI .i64 e39 fun n40=>G 35 [.sl 1 l17,.sl 1 bl3,.int .i64 n38] fun o41=>uL 3 o41 fun l43 r42=>uI .i64 r42 fun n45 r44=>unNil r44 (G 36 [.sl 1 l20] fun o46=>uL 3 o46 fun l48 r47=>unNil r47 (G 36 [.sl 1 l28] fun o49=>uL 3 o49 fun l51 r50=>unNil r50 (G 33 [.int .i64 2,.sl 1 bl3,.int .i64 n45] fun o52=>uI .i64 o52 fun n54 r53=>uI .i64 r53 fun n56 r55=>unNil r55 (l16_0 G k (IntKind.i64.wrap (1+n54)) bl3 n56 ⟨#[]⟩ 0 0 [] [] [] [] 0 as1 (IntKind.i64.wrap (2+n31)) n40 l43 l48 l51 [] 0 l17 l20 l28 [] (IntKind.i64.wrap (2+n7)) [] (fun yl128 yi129 ys130 yi131 yi132 yl133 yl134 yl135 yl136 yi137 ys138 yi139 yi140 yl141 yl142 yl143 yl144 yi145 yl146 yl147 yl148 yl149 yi150 yl151=>l16_2 G k 0 yl128 yi129 ys130 yi131 yi132 yl133 yl134 yl135 yl136 yi137 ys138 yi139 yi140 yl141 yl142 yl143 yl144 yi145 yl146 yl147 yl148 yl149 yi150 yl151 (fun yl181 yi182 ys183 yi184 yi185 yl186 yl187 yl188 yl189 yi190 ys191 yi192 yi193 yl194 yl195 yl196 yl197 yi198 yl199 yl200 yl201 yl202 yi203 yl204=>l16_4 G k 0 yl181 yi182 ys183 yi184 yi185 yl186 yl187 yl188 yl189 yi190 ys191 yi192 yi193 yl194 yl195 yl196 yl197 yi198 yl199 yl200 yl201 yl202 yi203 yl204 (fun yl254 yi255 ys256 yi257 yi258 yl259 yl260 yl261 yl262 yi263 ys264 yi265 yi266 yl267 yl268 yl269 yl270 yi271=>K [.agg [.str ys264,.int .i64 yi265,.int .i64 yi266,.sl 3 yl267,.sl 3 yl268,.sl 3 yl269,.sl 7 yl270,.int .i64 yi271],.int .i64 yi255]))))))))else none)))))))))
noncomputable def D16_0:LoopD:={id:=0,body:=loopAt 0 (bodyOf Try.f16),head:=P16_0h,out:=P16_0x,ret:=default}
theorem l16_0_is{R:Type}(G:ORC R)(k:Nat)(X:LV→OV R)(K:Ex→St→OV R)(xi57:Int)(xl58:LV)(xi59:Int)(xs60:ByteArray)(xi61 xi62:Int)(xl63 xl64:LV)(xl65 xl66:LV)(xi67:Int)(xs68:ByteArray)(xi69 xi70:Int)(xl71 xl72:LV)(xl73 xl74:LV)(xi75:Int)(xl76 xl77:LV)(xl78 xl79:LV)(xi80:Int)(xl81:LV):
 roundOf (TAB.env 16) G (L16 G k) D16_0 X K [.int .i64 xi57,.sl 1 xl58,.int .i64 xi59,.str xs60,.int .i64 xi61,.int .i64 xi62,.sl 3 xl63,.sl 3 xl64,.sl 3 xl65,.sl 7 xl66,.int .i64 xi67,.str xs68,.int .i64 xi69,.int .i64 xi70,.sl 3 xl71,.sl 3 xl72,.sl 3 xl73,.sl 7 xl74,.int .i64 xi75,.sl 1 xl76,.sl 1 xl77,.sl 1 xl78,.sl 1 xl79,.int .i64 xi80,.sl 1 xl81]=b16_0 G k (fun xi57 xl58 xi59 xs60 xi61 xi62 xl63 xl64 xl65 xl66 xi67 xs68 xi69 xi70 xl71 xl72 xl73 xl74 xi75 xl76 xl77 xl78 xl79 xi80 xl81=>X [.int .i64 xi57,.sl 1 xl58,.int .i64 xi59,.str xs60,.int .i64 xi61,.int .i64 xi62,.sl 3 xl63,.sl 3 xl64,.sl 3 xl65,.sl 7 xl66,.int .i64 xi67,.str xs68,.int .i64 xi69,.int .i64 xi70,.sl 3 xl71,.sl 3 xl72,.sl 3 xl73,.sl 7 xl74,.int .i64 xi75,.sl 1 xl76,.sl 1 xl77,.sl 1 xl78,.sl 1 xl79,.int .i64 xi80,.sl 1 xl81]) (fun yl272 yi273 ys274 yi275 yi276 yl277 yl278 yl279 yl280 yi281 ys282 yi283 yi284 yl285 yl286 yl287 yl288 yi289 yl290 yl291 yl292 yl293 yi294 yl295=>K .normal (P16_0x.inst [.sl 1 yl272,.int .i64 yi273,.str ys274,.int .i64 yi275,.int .i64 yi276,.sl 3 yl277,.sl 3 yl278,.sl 3 yl279,.sl 7 yl280,.int .i64 yi281,.str ys282,.int .i64 yi283,.int .i64 yi284,.sl 3 yl285,.sl 3 yl286,.sl 3 yl287,.sl 7 yl288,.int .i64 yi289,.sl 1 yl290,.sl 1 yl291,.sl 1 yl292,.sl 1 yl293,.int .i64 yi294,.sl 1 yl295])) xi57 xl58 xi59 xs60 xi61 xi62 xl63 xl64 xl65 xl66 xi67 xs68 xi69 xi70 xl71 xl72 xl73 xl74 xi75 xl76 xl77 xl78 xl79 xi80 xl81:=by kernel_rfl
noncomputable def D16_2:LoopD:={id:=2,body:=loopAt 2 (bodyOf Try.f16),head:=P16_2h,out:=P16_2x,ret:=default}
theorem l16_2_is{R:Type}(G:ORC R)(k:Nat)(X:LV→OV R)(K:Ex→St→OV R)(xi152:Int)(xl153:LV)(xi154:Int)(xs155:ByteArray)(xi156 xi157:Int)(xl158 xl159:LV)(xl160 xl161:LV)(xi162:Int)(xs163:ByteArray)(xi164 xi165:Int)(xl166 xl167:LV)(xl168 xl169:LV)(xi170:Int)(xl171 xl172:LV)(xl173 xl174:LV)(xi175:Int)(xl176:LV):
 roundOf (TAB.env 16) G (L16 G k) D16_2 X K [.int .i64 xi152,.sl 1 xl153,.int .i64 xi154,.str xs155,.int .i64 xi156,.int .i64 xi157,.sl 3 xl158,.sl 3 xl159,.sl 3 xl160,.sl 7 xl161,.int .i64 xi162,.str xs163,.int .i64 xi164,.int .i64 xi165,.sl 3 xl166,.sl 3 xl167,.sl 3 xl168,.sl 7 xl169,.int .i64 xi170,.sl 1 xl171,.sl 1 xl172,.sl 1 xl173,.sl 1 xl174,.int .i64 xi175,.sl 1 xl176]=b16_2 G k (fun xi152 xl153 xi154 xs155 xi156 xi157 xl158 xl159 xl160 xl161 xi162 xs163 xi164 xi165 xl166 xl167 xl168 xl169 xi170 xl171 xl172 xl173 xl174 xi175 xl176=>X [.int .i64 xi152,.sl 1 xl153,.int .i64 xi154,.str xs155,.int .i64 xi156,.int .i64 xi157,.sl 3 xl158,.sl 3 xl159,.sl 3 xl160,.sl 7 xl161,.int .i64 xi162,.str xs163,.int .i64 xi164,.int .i64 xi165,.sl 3 xl166,.sl 3 xl167,.sl 3 xl168,.sl 7 xl169,.int .i64 xi170,.sl 1 xl171,.sl 1 xl172,.sl 1 xl173,.sl 1 xl174,.int .i64 xi175,.sl 1 xl176]) (fun yl296 yi297 ys298 yi299 yi300 yl301 yl302 yl303 yl304 yi305 ys306 yi307 yi308 yl309 yl310 yl311 yl312 yi313 yl314 yl315 yl316 yl317 yi318 yl319=>K .normal (P16_2x.inst [.sl 1 yl296,.int .i64 yi297,.str ys298,.int .i64 yi299,.int .i64 yi300,.sl 3 yl301,.sl 3 yl302,.sl 3 yl303,.sl 7 yl304,.int .i64 yi305,.str ys306,.int .i64 yi307,.int .i64 yi308,.sl 3 yl309,.sl 3 yl310,.sl 3 yl311,.sl 7 yl312,.int .i64 yi313,.sl 1 yl314,.sl 1 yl315,.sl 1 yl316,.sl 1 yl317,.int .i64 yi318,.sl 1 yl319])) xi152 xl153 xi154 xs155 xi156 xi157 xl158 xl159 xl160 xl161 xi162 xs163 xi164 xi165 xl166 xl167 xl168 xl169 xi170 xl171 xl172 xl173 xl174 xi175 xl176:=by kernel_rfl
noncomputable def D16_4:LoopD:={id:=4,body:=loopAt 4 (bodyOf Try.f16),head:=P16_4h,out:=P16_4x,ret:=default}
theorem l16_4_is{R:Type}(G:ORC R)(k:Nat)(X:LV→OV R)(K:Ex→St→OV R)(xi205:Int)(xl206:LV)(xi207:Int)(xs208:ByteArray)(xi209 xi210:Int)(xl211 xl212:LV)(xl213 xl214:LV)(xi215:Int)(xs216:ByteArray)(xi217 xi218:Int)(xl219 xl220:LV)(xl221 xl222:LV)(xi223:Int)(xl224 xl225:LV)(xl226 xl227:LV)(xi228:Int)(xl229:LV):
 roundOf (TAB.env 16) G (L16 G k) D16_4 X K [.int .i64 xi205,.sl 1 xl206,.int .i64 xi207,.str xs208,.int .i64 xi209,.int .i64 xi210,.sl 3 xl211,.sl 3 xl212,.sl 3 xl213,.sl 7 xl214,.int .i64 xi215,.str xs216,.int .i64 xi217,.int .i64 xi218,.sl 3 xl219,.sl 3 xl220,.sl 3 xl221,.sl 7 xl222,.int .i64 xi223,.sl 1 xl224,.sl 1 xl225,.sl 1 xl226,.sl 1 xl227,.int .i64 xi228,.sl 1 xl229]=b16_4 G k (fun xi205 xl206 xi207 xs208 xi209 xi210 xl211 xl212 xl213 xl214 xi215 xs216 xi217 xi218 xl219 xl220 xl221 xl222 xi223 xl224 xl225 xl226 xl227 xi228 xl229=>X [.int .i64 xi205,.sl 1 xl206,.int .i64 xi207,.str xs208,.int .i64 xi209,.int .i64 xi210,.sl 3 xl211,.sl 3 xl212,.sl 3 xl213,.sl 7 xl214,.int .i64 xi215,.str xs216,.int .i64 xi217,.int .i64 xi218,.sl 3 xl219,.sl 3 xl220,.sl 3 xl221,.sl 7 xl222,.int .i64 xi223,.sl 1 xl224,.sl 1 xl225,.sl 1 xl226,.sl 1 xl227,.int .i64 xi228,.sl 1 xl229]) (fun yl320 yi321 ys322 yi323 yi324 yl325 yl326 yl327 yl328 yi329 ys330 yi331 yi332 yl333 yl334 yl335 yl336 yi337=>K .normal (P16_4x.inst [.sl 1 yl320,.int .i64 yi321,.str ys322,.int .i64 yi323,.int .i64 yi324,.sl 3 yl325,.sl 3 yl326,.sl 3 yl327,.sl 7 yl328,.int .i64 yi329,.str ys330,.int .i64 yi331,.int .i64 yi332,.sl 3 yl333,.sl 3 yl334,.sl 3 yl335,.sl 7 yl336,.int .i64 yi337])) xi205 xl206 xi207 xs208 xi209 xi210 xl211 xl212 xl213 xl214 xi215 xs216 xi217 xi218 xl219 xl220 xl221 xl222 xi223 xl224 xl225 xl226 xl227 xi228 xl229:=by kernel_rfl
theorem f16_is{R:Type}(G:ORC R)(k:Nat)(K:LV→OV R)(as1:ByteArray)(ai2:Int)(bl3:LV)(bi4:Int):
 callF (TAB.env 16) G (L16 G k) Try.f16 S16 [.str as1,.int .i64 ai2,.sl 1 bl3,.int .i64 bi4] K=f16 G k as1 ai2 bl3 bi4 K:=by kernel_rfl
theorem li16_0{R:Type}(G:ORC R)(k:Nat):LoopIs (TAB.env 16) G (L16 G k) 0 (loopAt 0 (bodyOf Try.f16)):=
 ⟨D16_0,fun j vs K=>rd16_0 G k K j vs,k,rfl,rfl,by kernel_rfl,by kernel_rfl,by kernel_rfl,(fun vs K=>by unfold rd16_0;dsimp only;split<;>rfl),
   (fun j vs K r h=>by
     unfold rd16_0 at h
     dsimp only at h
     split at h
     ·rw[l16_0_is];exact h
     ·cases h),(fun S K r h=>h)⟩
theorem li16_2{R:Type}(G:ORC R)(k:Nat):LoopIs (TAB.env 16) G (L16 G k) 2 (loopAt 2 (bodyOf Try.f16)):=
 ⟨D16_2,fun j vs K=>rd16_2 G k K j vs,k,rfl,rfl,by kernel_rfl,by kernel_rfl,by kernel_rfl,(fun vs K=>by unfold rd16_2;dsimp only;split<;>rfl),
   (fun j vs K r h=>by
     unfold rd16_2 at h
     dsimp only at h
     split at h
     ·rw[l16_2_is];exact h
     ·cases h),(fun S K r h=>h)⟩
theorem li16_4{R:Type}(G:ORC R)(k:Nat):LoopIs (TAB.env 16) G (L16 G k) 4 (loopAt 4 (bodyOf Try.f16)):=
 ⟨D16_4,fun j vs K=>rd16_4 G k K j vs,k,rfl,rfl,by kernel_rfl,by kernel_rfl,by kernel_rfl,(fun vs K=>by unfold rd16_4;dsimp only;split<;>rfl),
   (fun j vs K r h=>by
     unfold rd16_4 at h
     dsimp only at h
     split at h
     ·rw[l16_4_is];exact h
     ·cases h),(fun S K r h=>h)⟩
theorem lo16:loopsOf (bodyOf Try.f16)=[(0,loopAt 0 (bodyOf Try.f16)),(2,loopAt 2 (bodyOf Try.f16)),(4,loopAt 4 (bodyOf Try.f16))]:=by kernel_rfl
theorem la16{R:Type}(G:ORC R)(k:Nat):LoopsAre (TAB.env 16) G (L16 G k) (bodyOf Try.f16):=
 loopsAre_of (by rw[lo16];intro p hp;simp only[List.mem_cons,List.not_mem_nil,or_false]at hp;rcases hp with rfl|rfl|rfl<;>first|exact li16_0 G k|exact li16_2 G k|exact li16_4 G k)
def g16{R:Type}(G:ORC R)(k:Nat)(args:LV)(K:LV→OV R):OV R:=match args with
 | [.str as1,.int .i64 ai2,.sl 1 bl3,.int .i64 bi4]=>f16 G k as1 ai2 bl3 bi4 K
 |_=>none
theorem s16{R:Type}{G:ORC R}{k:Nat}(hG:Sound Try.prog TAB G)(args:LV)(K:LV→OV R)(r:R)(h:g16 G k args K=some r):∃o,CallOK Try.prog TAB.env 16 args o∧K o=some r:=by
 unfold g16 at h
 split at h
 ·rw[←f16_is]at h
  exact callF_sound (f:=16) TAB_chk MO hG Try.func16 (sg:=S16) (by kernel_rfl) (by kernel_rfl) (la16 G k) h
 ·cases h
def L68{R:Type}(_:ORC R)(_:Nat):Nat→St→(Ex→St→OV R)→OV R:=fun _ _ _=>none
def f68{R:Type}(G:ORC R)(k:Nat)(ai1:Int)(as2:ByteArray)(al3 al4:LV)(al5 al6:LV)(ai7:Int)(K:LV→OV R):OV R:=
 (bif(ai1==3)then(K [.int .i64 4])else(bif(ai1==4)then(K [.int .i64 5])else(bif(ai1==2)then(K [.int .i64 3])else(bif((al6.length:Int)==0)then(K [.int .i64 1])else(K [.int .i64 2])))))
theorem f68_is{R:Type}(G:ORC R)(k:Nat)(K:LV→OV R)(ai1:Int)(as2:ByteArray)(al3 al4:LV)(al5 al6:LV)(ai7:Int):
 callF (TAB.env 68) G (L68 G k) Try.f68 S68 [.agg [.int .i64 ai1,.str as2,.sl 8 al3,.sl 8 al4,.sl 5 al5,.sl 7 al6,.int .i64 ai7]] K=f68 G k ai1 as2 al3 al4 al5 al6 ai7 K:=by kernel_rfl
theorem lo68:loopsOf (bodyOf Try.f68)=[]:=by kernel_rfl
theorem la68{R:Type}(G:ORC R)(k:Nat):LoopsAre (TAB.env 68) G (L68 G k) (bodyOf Try.f68):=
 loopsAre_of (by rw[lo68];intro p hp;cases hp)
def g68{R:Type}(G:ORC R)(k:Nat)(args:LV)(K:LV→OV R):OV R:=match args with
 | [.agg [.int .i64 ai1,.str as2,.sl 8 al3,.sl 8 al4,.sl 5 al5,.sl 7 al6,.int .i64 ai7]]=>f68 G k ai1 as2 al3 al4 al5 al6 ai7 K
 |_=>none
theorem s68{R:Type}{G:ORC R}{k:Nat}(hG:Sound Try.prog TAB G)(args:LV)(K:LV→OV R)(r:R)(h:g68 G k args K=some r):∃o,CallOK Try.prog TAB.env 68 args o∧K o=some r:=by
 unfold g68 at h
 split at h
 ·rw[←f68_is]at h
  exact callF_sound (f:=68) TAB_chk MO hG Try.func68 (sg:=S68) (by kernel_rfl) (by kernel_rfl) (la68 G k) h
 ·cases h
def L46{R:Type}(_:ORC R)(_:Nat):Nat→St→(Ex→St→OV R)→OV R:=fun _ _ _=>none
def f46{R:Type}(G:ORC R)(k:Nat)(ai1 ai2:Int)(ai3 ai4:Int)(ai5 ai6:Int)(as7:ByteArray)(K:LV→OV R):OV R:=
 (K [.bool (decide (ai1≤3))])
theorem f46_is{R:Type}(G:ORC R)(k:Nat)(K:LV→OV R)(ai1 ai2:Int)(ai3 ai4:Int)(ai5 ai6:Int)(as7:ByteArray):
 callF (TAB.env 46) G (L46 G k) Try.f46 S46 [.agg [.int .i64 ai1,.int .i64 ai2,.int .i64 ai3,.int .i64 ai4,.int .i64 ai5,.int .i64 ai6,.str as7]] K=f46 G k ai1 ai2 ai3 ai4 ai5 ai6 as7 K:=by kernel_rfl
theorem lo46:loopsOf (bodyOf Try.f46)=[]:=by kernel_rfl
theorem la46{R:Type}(G:ORC R)(k:Nat):LoopsAre (TAB.env 46) G (L46 G k) (bodyOf Try.f46):=
 loopsAre_of (by rw[lo46];intro p hp;cases hp)
def g46{R:Type}(G:ORC R)(k:Nat)(args:LV)(K:LV→OV R):OV R:=match args with
 | [.agg [.int .i64 ai1,.int .i64 ai2,.int .i64 ai3,.int .i64 ai4,.int .i64 ai5,.int .i64 ai6,.str as7]]=>f46 G k ai1 ai2 ai3 ai4 ai5 ai6 as7 K
 |_=>none
theorem s46{R:Type}{G:ORC R}{k:Nat}(hG:Sound Try.prog TAB G)(args:LV)(K:LV→OV R)(r:R)(h:g46 G k args K=some r):∃o,CallOK Try.prog TAB.env 46 args o∧K o=some r:=by
 unfold g46 at h
 split at h
 ·rw[←f46_is]at h
  exact callF_sound (f:=46) TAB_chk MO hG Try.func46 (sg:=S46) (by kernel_rfl) (by kernel_rfl) (la46 G k) h
 ·cases h
def P51_0h:Pat:={tmps:=unds [.var (.sl 7) (.own true),.var (.sl 7) .ro,.var (.int .i64) .pr,.undef,.undef,.undef,.undef,.var (.int .i64) .pr] 66 [],boxes:=nons [] 74 []}
def P51_0x:Pat:={tmps:=unds [.var (.sl 7) (.own true)] 73 [],boxes:=nons [] 74 []}
def b51_0{R:Type}(G:ORC R)(k:Nat)(X:LV→LV→Int→Int→OV R)(Ko:LV→OV R)(xl4 xl5:LV)(xi6 xi7:Int):OV R:=
 (bif(decide (xi7<(xl5.length:Int)))then(bif((decide (0≤xi7))&&(decide (xi7<(xl5.length:Int))))then(nthK xl5 (Int.toNat xi7) fun e8=>V.asAgg e8 fun l9=>G 68 [.agg l9] fun o10=>uI .i64 o10 fun n12 r11=>unNil r11 (bif((decide (0≤xi7))&&(decide (xi7<(xl5.length:Int))))then(nthK xl5 (Int.toNat xi7) fun e13=>ca7 e13 fun c14 c15 c16 c17 c18 c19 c20=>V.asStr c15 fun s21=>bif(decide (List.length xl4+1≤1073741824))then(bif((decide (0≤xi6))&&(decide (xi6<((List.length (xl4++[.agg [.int .i64 n12,.int .i64 xi6,.int .i64 0,.int .i64 (-1),.int .i64 (-1),.int .i64 (-1),.str s21]]):Nat):Int))))then(nthK (xl4++[.agg [.int .i64 n12,.int .i64 xi6,.int .i64 0,.int .i64 (-1),.int .i64 (-1),.int .i64 (-1),.str s21]]) (Int.toNat xi6) fun e22=>ca7 e22 fun c23 c24 c25 c26 c27 c28 c29=>aI .i64 c26 fun n30=>bif(decide (n30<0))then(bif((decide (0≤xi6))&&(decide (xi6<((List.length (xl4++[.agg [.int .i64 n12,.int .i64 xi6,.int .i64 0,.int .i64 (-1),.int .i64 (-1),.int .i64 (-1),.str s21]]):Nat):Int))))then(nthK (xl4++[.agg [.int .i64 n12,.int .i64 xi6,.int .i64 0,.int .i64 (-1),.int .i64 (-1),.int .i64 (-1),.str s21]]) (Int.toNat xi6) fun e31=>ca7 e31 fun c32 c33 c34 c35 c36 c37 c38=>aI .i64 c32 fun n39=>bif(n39==2)then(bif((decide (0≤(xl4.length:Int)))&&(decide ((xl4.length:Int)<((List.length (xl4++[.agg [.int .i64 n12,.int .i64 xi6,.int .i64 0,.int .i64 (-1),.int .i64 (-1),.int .i64 (-1),.str s21]]):Nat):Int))))then(nthK (xl4++[.agg [.int .i64 n12,.int .i64 xi6,.int .i64 0,.int .i64 (-1),.int .i64 (-1),.int .i64 (-1),.str s21]]) (Int.toNat (xl4.length:Int)) fun e40=>ca7 e40 fun c41 c42 c43 c44 c45 c46 c47=>aI .i64 c41 fun n48=>aI .i64 c42 fun n49=>aI .i64 c43 fun n50=>aI .i64 c44 fun n51=>aI .i64 c45 fun n52=>aI .i64 c46 fun n53=>V.asStr c47 fun s54=>G 46 [.agg [.int .i64 n48,.int .i64 n49,.int .i64 n50,.int .i64 n51,.int .i64 n52,.int .i64 n53,.str s54]] fun o55=>uB o55 fun b57 r56=>unNil r56 (bif b57 then(bif((decide (0≤xi6))&&(decide (xi6<((List.length (xl4++[.agg [.int .i64 n12,.int .i64 xi6,.int .i64 0,.int .i64 (-1),.int .i64 (-1),.int .i64 (-1),.str s21]]):Nat):Int))))then(nthK (xl4++[.agg [.int .i64 n12,.int .i64 xi6,.int .i64 0,.int .i64 (-1),.int .i64 (-1),.int .i64 (-1),.str s21]]) (Int.toNat xi6) fun e58=>ca7 e58 fun c59 c60 c61 c62 c63 c64 c65=>bif((decide (0≤xi7))&&(decide (xi7<(xl5.length:Int))))then(nthK xl5 (Int.toNat xi7) fun e66=>ca7 e66 fun c67 c68 c69 c70 c71 c72 c73=>V.asSl c72 fun z74 l75=>G 51 [.sl 7 (List.set (xl4++[.agg [.int .i64 n12,.int .i64 xi6,.int .i64 0,.int .i64 (-1),.int .i64 (-1),.int .i64 (-1),.str s21]]) (Int.toNat xi6) (.agg [c59,c60,c61,.int .i64 (xl4.length:Int),c63,c64,c65])),.sl z74 l75,.int .i64 (xl4.length:Int)] fun o76=>uL 7 o76 fun l78 r77=>unNil r77 (bif((decide (0≤(xl4.length:Int)))&&(decide ((xl4.length:Int)<(l78.length:Int))))then(nthK l78 (Int.toNat (xl4.length:Int)) fun e79=>ca7 e79 fun c80 c81 c82 c83 c84 c85 c86=>X (List.set l78 (Int.toNat (xl4.length:Int)) (.agg [c80,c81,.int .i64 (IntKind.i64.wrap ((l78.length:Int)-1)),c83,c84,c85,c86])) xl5 xi6 (IntKind.i64.wrap (xi7+1)))else none))else none)else none)else(bif((decide (0≤xi7))&&(decide (xi7<(xl5.length:Int))))then(nthK xl5 (Int.toNat xi7) fun e87=>ca7 e87 fun c88 c89 c90 c91 c92 c93 c94=>V.asSl c93 fun z95 l96=>G 51 [.sl 7 (xl4++[.agg [.int .i64 n12,.int .i64 xi6,.int .i64 0,.int .i64 (-1),.int .i64 (-1),.int .i64 (-1),.str s21]]),.sl z95 l96,.int .i64 (xl4.length:Int)] fun o97=>uL 7 o97 fun l99 r98=>unNil r98 (bif((decide (0≤(xl4.length:Int)))&&(decide ((xl4.length:Int)<(l99.length:Int))))then(nthK l99 (Int.toNat (xl4.length:Int)) fun e100=>ca7 e100 fun c101 c102 c103 c104 c105 c106 c107=>X (List.set l99 (Int.toNat (xl4.length:Int)) (.agg [c101,c102,.int .i64 (IntKind.i64.wrap ((l99.length:Int)-1)),c104,c105,c106,c107])) xl5 xi6 (IntKind.i64.wrap (xi7+1)))else none))else none)))else none)else(bif((decide (0≤xi7))&&(decide (xi7<(xl5.length:Int))))then(nthK xl5 (Int.toNat xi7) fun e108=>ca7 e108 fun c109 c110 c111 c112 c113 c114 c115=>V.asSl c114 fun z116 l117=>G 51 [.sl 7 (xl4++[.agg [.int .i64 n12,.int .i64 xi6,.int .i64 0,.int .i64 (-1),.int .i64 (-1),.int .i64 (-1),.str s21]]),.sl z116 l117,.int .i64 (xl4.length:Int)] fun o118=>uL 7 o118 fun l120 r119=>unNil r119 (bif((decide (0≤(xl4.length:Int)))&&(decide ((xl4.length:Int)<(l120.length:Int))))then(nthK l120 (Int.toNat (xl4.length:Int)) fun e121=>ca7 e121 fun c122 c123 c124 c125 c126 c127 c128=>X (List.set l120 (Int.toNat (xl4.length:Int)) (.agg [c122,c123,.int .i64 (IntKind.i64.wrap ((l120.length:Int)-1)),c125,c126,c127,c128])) xl5 xi6 (IntKind.i64.wrap (xi7+1)))else none))else none))else none)else(bif((decide (0≤xi7))&&(decide (xi7<(xl5.length:Int))))then(nthK xl5 (Int.toNat xi7) fun e129=>ca7 e129 fun c130 c131 c132 c133 c134 c135 c136=>V.asSl c135 fun z137 l138=>G 51 [.sl 7 (xl4++[.agg [.int .i64 n12,.int .i64 xi6,.int .i64 0,.int .i64 (-1),.int .i64 (-1),.int .i64 (-1),.str s21]]),.sl z137 l138,.int .i64 (xl4.length:Int)] fun o139=>uL 7 o139 fun l141 r140=>unNil r140 (bif((decide (0≤(xl4.length:Int)))&&(decide ((xl4.length:Int)<(l141.length:Int))))then(nthK l141 (Int.toNat (xl4.length:Int)) fun e142=>ca7 e142 fun c143 c144 c145 c146 c147 c148 c149=>X (List.set l141 (Int.toNat (xl4.length:Int)) (.agg [c143,c144,.int .i64 (IntKind.i64.wrap ((l141.length:Int)-1)),c146,c147,c148,c149])) xl5 xi6 (IntKind.i64.wrap (xi7+1)))else none))else none))else none)else none)else none))else none)else(Ko xl4))
def l51_0g{R:Type}(G:ORC R)(k:Nat)(Ko:LV→OV R):Nat→LV→LV→Int→Int→OV R
 |0=>fun _ _ _ _=>none
 |j+1=>b51_0 G k (l51_0g G k Ko j) Ko
def l51_0{R:Type}(G:ORC R)(k:Nat)(xl4 xl5:LV)(xi6 xi7:Int)(Ko:LV→OV R):OV R:=l51_0g G k Ko k xl4 xl5 xi6 xi7
def rd51_0{R:Type}(G:ORC R)(k:Nat)(K:Ex→St→OV R)(j:Nat)(vs:LV):OV R:=match vs with
 | [.sl 7 xl4,.sl 7 xl5,.int .i64 xi6,.int .i64 xi7]=>l51_0g G k (fun yl151=>K .normal (P51_0x.inst [.sl 7 yl151])) j xl4 xl5 xi6 xi7
 |_=>none
def L51{R:Type}(G:ORC R)(k:Nat):Nat→St→(Ex→St→OV R)→OV R
 |0,S,K=>P51_0h.mat S fun vs=>rd51_0 G k K k vs
 |_,_,_=>none
def f51{R:Type}(G:ORC R)(k:Nat)(al1 al2:LV)(ai3:Int)(K:LV→OV R):OV R:=
 (l51_0 G k al1 al2 ai3 0 (fun yl150=>K [.sl 7 yl150]))
noncomputable def D51_0:LoopD:={id:=0,body:=loopAt 0 (bodyOf Try.f51),head:=P51_0h,out:=P51_0x,ret:=default}
theorem l51_0_is{R:Type}(G:ORC R)(k:Nat)(X:LV→OV R)(K:Ex→St→OV R)(xl4 xl5:LV)(xi6 xi7:Int):
 roundOf (TAB.env 51) G (L51 G k) D51_0 X K [.sl 7 xl4,.sl 7 xl5,.int .i64 xi6,.int .i64 xi7]=b51_0 G k (fun xl4 xl5 xi6 xi7=>X [.sl 7 xl4,.sl 7 xl5,.int .i64 xi6,.int .i64 xi7]) (fun yl151=>K .normal (P51_0x.inst [.sl 7 yl151])) xl4 xl5 xi6 xi7:=by kernel_rfl
theorem f51_is{R:Type}(G:ORC R)(k:Nat)(K:LV→OV R)(al1 al2:LV)(ai3:Int):
 callF (TAB.env 51) G (L51 G k) Try.f51 S51 [.sl 7 al1,.sl 7 al2,.int .i64 ai3] K=f51 G k al1 al2 ai3 K:=by kernel_rfl
theorem li51_0{R:Type}(G:ORC R)(k:Nat):LoopIs (TAB.env 51) G (L51 G k) 0 (loopAt 0 (bodyOf Try.f51)):=
 ⟨D51_0,fun j vs K=>rd51_0 G k K j vs,k,rfl,rfl,by kernel_rfl,by kernel_rfl,by kernel_rfl,(fun vs K=>by unfold rd51_0;dsimp only;split<;>rfl),
   (fun j vs K r h=>by
     unfold rd51_0 at h
     dsimp only at h
     split at h
     ·rw[l51_0_is];exact h
     ·cases h),(fun S K r h=>h)⟩
theorem lo51:loopsOf (bodyOf Try.f51)=[(0,loopAt 0 (bodyOf Try.f51))]:=by kernel_rfl
theorem la51{R:Type}(G:ORC R)(k:Nat):LoopsAre (TAB.env 51) G (L51 G k) (bodyOf Try.f51):=
 loopsAre_of (by rw[lo51];intro p hp;simp only[List.mem_cons,List.not_mem_nil,or_false]at hp;subst hp;exact li51_0 G k)
def g51{R:Type}(G:ORC R)(k:Nat)(args:LV)(K:LV→OV R):OV R:=match args with
 | [.sl 7 al1,.sl 7 al2,.int .i64 ai3]=>f51 G k al1 al2 ai3 K
 |_=>none
theorem s51{R:Type}{G:ORC R}{k:Nat}(hG:Sound Try.prog TAB G)(args:LV)(K:LV→OV R)(r:R)(h:g51 G k args K=some r):∃o,CallOK Try.prog TAB.env 51 args o∧K o=some r:=by
 unfold g51 at h
 split at h
 ·rw[←f51_is]at h
  exact callF_sound (f:=51) TAB_chk MO hG Try.func51 (sg:=S51) (by kernel_rfl) (by kernel_rfl) (la51 G k) h
 ·cases h
def L31{R:Type}(_:ORC R)(_:Nat):Nat→St→(Ex→St→OV R)→OV R:=fun _ _ _=>none
def f31{R:Type}(G:ORC R)(k:Nat)(as1:ByteArray)(ai2 ai3:Int)(al4 al5:LV)(al6 al7:LV)(ai8:Int)(K:LV→OV R):OV R:=
 (G 51 [.sl 7 [.agg [.int .i64 2,.int .i64 (-1),.int .i64 0,.int .i64 (-1),.int .i64 (-1),.int .i64 (-1),.str ⟨#[]⟩]],.sl 7 al7,.int .i64 0] fun o9=>uL 7 o9 fun l11 r10=>unNil r10 (bif(decide (0<(l11.length:Int)))then(nthK l11 0 fun e12=>ca7 e12 fun c13 c14 c15 c16 c17 c18 c19=>K [.sl 7 (List.set l11 0 (.agg [c13,c14,.int .i64 (IntKind.i64.wrap ((l11.length:Int)-1)),c16,c17,c18,c19]))])else none))
theorem f31_is{R:Type}(G:ORC R)(k:Nat)(K:LV→OV R)(as1:ByteArray)(ai2 ai3:Int)(al4 al5:LV)(al6 al7:LV)(ai8:Int):
 callF (TAB.env 31) G (L31 G k) Try.f31 S31 [.agg [.str as1,.int .i64 ai2,.int .i64 ai3,.sl 3 al4,.sl 3 al5,.sl 3 al6,.sl 7 al7,.int .i64 ai8]] K=f31 G k as1 ai2 ai3 al4 al5 al6 al7 ai8 K:=by kernel_rfl
theorem lo31:loopsOf (bodyOf Try.f31)=[]:=by kernel_rfl
theorem la31{R:Type}(G:ORC R)(k:Nat):LoopsAre (TAB.env 31) G (L31 G k) (bodyOf Try.f31):=
 loopsAre_of (by rw[lo31];intro p hp;cases hp)
def g31{R:Type}(G:ORC R)(k:Nat)(args:LV)(K:LV→OV R):OV R:=match args with
 | [.agg [.str as1,.int .i64 ai2,.int .i64 ai3,.sl 3 al4,.sl 3 al5,.sl 3 al6,.sl 7 al7,.int .i64 ai8]]=>f31 G k as1 ai2 ai3 al4 al5 al6 al7 ai8 K
 |_=>none
theorem s31{R:Type}{G:ORC R}{k:Nat}(hG:Sound Try.prog TAB G)(args:LV)(K:LV→OV R)(r:R)(h:g31 G k args K=some r):∃o,CallOK Try.prog TAB.env 31 args o∧K o=some r:=by
 unfold g31 at h
 split at h
 ·rw[←f31_is]at h
  exact callF_sound (f:=31) TAB_chk MO hG Try.func31 (sg:=S31) (by kernel_rfl) (by kernel_rfl) (la31 G k) h
 ·cases h
def L70{R:Type}(_:ORC R)(_:Nat):Nat→St→(Ex→St→OV R)→OV R:=fun _ _ _=>none
def f70{R:Type}(G:ORC R)(k:Nat)(al1:LV)(ai2:Int)(K:LV→OV R):OV R:=
 (bif(decide (ai2≥0))then(K [.bool (decide (ai2<(al1.length:Int)))])else(K [.bool false]))
theorem f70_is{R:Type}(G:ORC R)(k:Nat)(K:LV→OV R)(al1:LV)(ai2:Int):
 callF (TAB.env 70) G (L70 G k) Try.f70 S70 [.sl 7 al1,.int .i64 ai2] K=f70 G k al1 ai2 K:=by kernel_rfl
theorem lo70:loopsOf (bodyOf Try.f70)=[]:=by kernel_rfl
theorem la70{R:Type}(G:ORC R)(k:Nat):LoopsAre (TAB.env 70) G (L70 G k) (bodyOf Try.f70):=
 loopsAre_of (by rw[lo70];intro p hp;cases hp)
def g70{R:Type}(G:ORC R)(k:Nat)(args:LV)(K:LV→OV R):OV R:=match args with
 | [.sl 7 al1,.int .i64 ai2]=>f70 G k al1 ai2 K
 |_=>none
theorem s70{R:Type}{G:ORC R}{k:Nat}(hG:Sound Try.prog TAB G)(args:LV)(K:LV→OV R)(r:R)(h:g70 G k args K=some r):∃o,CallOK Try.prog TAB.env 70 args o∧K o=some r:=by
 unfold g70 at h
 split at h
 ·rw[←f70_is]at h
  exact callF_sound (f:=70) TAB_chk MO hG Try.func70 (sg:=S70) (by kernel_rfl) (by kernel_rfl) (la70 G k) h
 ·cases h
def L65{R:Type}(_:ORC R)(_:Nat):Nat→St→(Ex→St→OV R)→OV R:=fun _ _ _=>none
def f65{R:Type}(G:ORC R)(k:Nat)(al1:LV)(ai2 ai3:Int)(K:LV→OV R):OV R:=
 (G 70 [.sl 7 al1,.int .i64 ai2] fun o4=>uB o4 fun b6 r5=>unNil r5 (bif b6 then(G 70 [.sl 7 al1,.int .i64 ai3] fun o7=>uB o7 fun b9 r8=>unNil r8 (bif b9 then(bif(decide (ai2≥ai3))then(bif((decide (0≤ai3))&&(decide (ai3<(al1.length:Int))))then(nthK al1 (Int.toNat ai3) fun e10=>ca7 e10 fun c11 c12 c13 c14 c15 c16 c17=>aI .i64 c13 fun n18=>K [.bool (decide (ai2≤n18))])else none)else(K [.bool false]))else(K [.bool false])))else(K [.bool false])))
theorem f65_is{R:Type}(G:ORC R)(k:Nat)(K:LV→OV R)(al1:LV)(ai2 ai3:Int):
 callF (TAB.env 65) G (L65 G k) Try.f65 S65 [.sl 7 al1,.int .i64 ai2,.int .i64 ai3] K=f65 G k al1 ai2 ai3 K:=by kernel_rfl
theorem lo65:loopsOf (bodyOf Try.f65)=[]:=by kernel_rfl
theorem la65{R:Type}(G:ORC R)(k:Nat):LoopsAre (TAB.env 65) G (L65 G k) (bodyOf Try.f65):=
 loopsAre_of (by rw[lo65];intro p hp;cases hp)
def g65{R:Type}(G:ORC R)(k:Nat)(args:LV)(K:LV→OV R):OV R:=match args with
 | [.sl 7 al1,.int .i64 ai2,.int .i64 ai3]=>f65 G k al1 ai2 ai3 K
 |_=>none
theorem s65{R:Type}{G:ORC R}{k:Nat}(hG:Sound Try.prog TAB G)(args:LV)(K:LV→OV R)(r:R)(h:g65 G k args K=some r):∃o,CallOK Try.prog TAB.env 65 args o∧K o=some r:=by
 unfold g65 at h
 split at h
 ·rw[←f65_is]at h
  exact callF_sound (f:=65) TAB_chk MO hG Try.func65 (sg:=S65) (by kernel_rfl) (by kernel_rfl) (la65 G k) h
 ·cases h
def P54_0h:Pat:={tmps:=unds [.var (.sl 7) .ro,.var (.int .i64) .pr,.var (.int .i64) .pr,.undef,.undef,.undef,.undef,.var (.int .i64) .pr,.var (.int .i64) .pr] 46 [],boxes:=nons [] 55 []}
def P54_0x:Pat:={tmps:=unds [] 7 (unds [.var (.int .i64) .pr] 47 []),boxes:=nons [] 55 []}
def b54_0{R:Type}(G:ORC R)(k:Nat)(X:LV→Int→Int→Int→Int→OV R)(Ko:Int→OV R)(xl10:LV)(xi11 xi12:Int)(xi13 xi14:Int):OV R:=
 (bif(decide (xi14<(xl10.length:Int)))then(bif((decide (0≤xi14))&&(decide (xi14<(xl10.length:Int))))then(nthK xl10 (Int.toNat xi14) fun e15=>ca7 e15 fun c16 c17 c18 c19 c20 c21 c22=>aI .i64 c16 fun n23=>bif(n23==2)then(bif(xi14 !=xi11)then(bif(xi14 !=xi12)then(G 65 [.sl 7 xl10,.int .i64 xi11,.int .i64 xi14] fun o24=>uB o24 fun b26 r25=>unNil r25 (bif b26 then(G 65 [.sl 7 xl10,.int .i64 xi12,.int .i64 xi14] fun o27=>uB o27 fun b29 r28=>unNil r28 (bif b29 then(X xl10 xi11 xi12 xi14 (IntKind.i64.wrap (xi14+1)))else(X xl10 xi11 xi12 xi13 (IntKind.i64.wrap (xi14+1)))))else(X xl10 xi11 xi12 xi13 (IntKind.i64.wrap (xi14+1)))))else(X xl10 xi11 xi12 xi13 (IntKind.i64.wrap (xi14+1))))else(X xl10 xi11 xi12 xi13 (IntKind.i64.wrap (xi14+1))))else(X xl10 xi11 xi12 xi13 (IntKind.i64.wrap (xi14+1))))else none)else(Ko xi13))
def l54_0g{R:Type}(G:ORC R)(k:Nat)(Ko:Int→OV R):Nat→LV→Int→Int→Int→Int→OV R
 |0=>fun _ _ _ _ _=>none
 |j+1=>b54_0 G k (l54_0g G k Ko j) Ko
def l54_0{R:Type}(G:ORC R)(k:Nat)(xl10:LV)(xi11 xi12:Int)(xi13 xi14:Int)(Ko:Int→OV R):OV R:=l54_0g G k Ko k xl10 xi11 xi12 xi13 xi14
def rd54_0{R:Type}(G:ORC R)(k:Nat)(K:Ex→St→OV R)(j:Nat)(vs:LV):OV R:=match vs with
 | [.sl 7 xl10,.int .i64 xi11,.int .i64 xi12,.int .i64 xi13,.int .i64 xi14]=>l54_0g G k (fun yi31=>K .normal (P54_0x.inst [.int .i64 yi31])) j xl10 xi11 xi12 xi13 xi14
 |_=>none
def L54{R:Type}(G:ORC R)(k:Nat):Nat→St→(Ex→St→OV R)→OV R
 |0,S,K=>P54_0h.mat S fun vs=>rd54_0 G k K k vs
 |_,_,_=>none
def f54{R:Type}(G:ORC R)(k:Nat)(al1:LV)(ai2 ai3:Int)(K:LV→OV R):OV R:=
 (G 70 [.sl 7 al1,.int .i64 ai2] fun o4=>uB o4 fun b6 r5=>unNil r5 (bif(!b6)then(K [.int .i64 (-1)])else(G 70 [.sl 7 al1,.int .i64 ai3] fun o7=>uB o7 fun b9 r8=>unNil r8 (bif(!b9)then(K [.int .i64 (-1)])else(l54_0 G k al1 ai2 ai3 (-1) 0 (fun yi30=>K [.int .i64 yi30]))))))
noncomputable def D54_0:LoopD:={id:=0,body:=loopAt 0 (bodyOf Try.f54),head:=P54_0h,out:=P54_0x,ret:=default}
theorem l54_0_is{R:Type}(G:ORC R)(k:Nat)(X:LV→OV R)(K:Ex→St→OV R)(xl10:LV)(xi11 xi12:Int)(xi13 xi14:Int):
 roundOf (TAB.env 54) G (L54 G k) D54_0 X K [.sl 7 xl10,.int .i64 xi11,.int .i64 xi12,.int .i64 xi13,.int .i64 xi14]=b54_0 G k (fun xl10 xi11 xi12 xi13 xi14=>X [.sl 7 xl10,.int .i64 xi11,.int .i64 xi12,.int .i64 xi13,.int .i64 xi14]) (fun yi31=>K .normal (P54_0x.inst [.int .i64 yi31])) xl10 xi11 xi12 xi13 xi14:=by kernel_rfl
theorem f54_is{R:Type}(G:ORC R)(k:Nat)(K:LV→OV R)(al1:LV)(ai2 ai3:Int):
 callF (TAB.env 54) G (L54 G k) Try.f54 S54 [.sl 7 al1,.int .i64 ai2,.int .i64 ai3] K=f54 G k al1 ai2 ai3 K:=by kernel_rfl
theorem li54_0{R:Type}(G:ORC R)(k:Nat):LoopIs (TAB.env 54) G (L54 G k) 0 (loopAt 0 (bodyOf Try.f54)):=
 ⟨D54_0,fun j vs K=>rd54_0 G k K j vs,k,rfl,rfl,by kernel_rfl,by kernel_rfl,by kernel_rfl,(fun vs K=>by unfold rd54_0;dsimp only;split<;>rfl),
   (fun j vs K r h=>by
     unfold rd54_0 at h
     dsimp only at h
     split at h
     ·rw[l54_0_is];exact h
     ·cases h),(fun S K r h=>h)⟩
theorem lo54:loopsOf (bodyOf Try.f54)=[(0,loopAt 0 (bodyOf Try.f54))]:=by kernel_rfl
theorem la54{R:Type}(G:ORC R)(k:Nat):LoopsAre (TAB.env 54) G (L54 G k) (bodyOf Try.f54):=
 loopsAre_of (by rw[lo54];intro p hp;simp only[List.mem_cons,List.not_mem_nil,or_false]at hp;subst hp;exact li54_0 G k)
def g54{R:Type}(G:ORC R)(k:Nat)(args:LV)(K:LV→OV R):OV R:=match args with
 | [.sl 7 al1,.int .i64 ai2,.int .i64 ai3]=>f54 G k al1 ai2 ai3 K
 |_=>none
theorem s54{R:Type}{G:ORC R}{k:Nat}(hG:Sound Try.prog TAB G)(args:LV)(K:LV→OV R)(r:R)(h:g54 G k args K=some r):∃o,CallOK Try.prog TAB.env 54 args o∧K o=some r:=by
 unfold g54 at h
 split at h
 ·rw[←f54_is]at h
  exact callF_sound (f:=54) TAB_chk MO hG Try.func54 (sg:=S54) (by kernel_rfl) (by kernel_rfl) (la54 G k) h
 ·cases h
def L81{R:Type}(_:ORC R)(_:Nat):Nat→St→(Ex→St→OV R)→OV R:=fun _ _ _=>none
def f81{R:Type}(G:ORC R)(k:Nat)(al1 al2:LV)(al3 al4:LV)(al5 al6:LV)(K:LV→OV R):OV R:=
 (bif((al2.length:Int)==0)then(bif(decide (List.length al1+1≤1073741824))then(K [.sl 4 (al1++[.agg [.int .i64 1,.int .i64 0,.int .i64 0,.str ⟨#[]⟩]])])else none)else(bif(decide (0<(al2.length:Int)))then(nthK al2 0 fun e7=>V.asAgg e7 fun l8=>G 71 [.sl 4 al1,.agg l8,.agg [.sl 1 al3,.sl 1 al4,.sl 1 al5,.sl 7 al6]] fun o9=>uL 4 o9 fun l11 r10=>unNil r10 (K [.sl 4 l11]))else none))
theorem f81_is{R:Type}(G:ORC R)(k:Nat)(K:LV→OV R)(al1 al2:LV)(al3 al4:LV)(al5 al6:LV):
 callF (TAB.env 81) G (L81 G k) Try.f81 S81 [.sl 4 al1,.sl 5 al2,.agg [.sl 1 al3,.sl 1 al4,.sl 1 al5,.sl 7 al6]] K=f81 G k al1 al2 al3 al4 al5 al6 K:=by kernel_rfl
theorem lo81:loopsOf (bodyOf Try.f81)=[]:=by kernel_rfl
theorem la81{R:Type}(G:ORC R)(k:Nat):LoopsAre (TAB.env 81) G (L81 G k) (bodyOf Try.f81):=
 loopsAre_of (by rw[lo81];intro p hp;cases hp)
def g81{R:Type}(G:ORC R)(k:Nat)(args:LV)(K:LV→OV R):OV R:=match args with
 | [.sl 4 al1,.sl 5 al2,.agg [.sl 1 al3,.sl 1 al4,.sl 1 al5,.sl 7 al6]]=>f81 G k al1 al2 al3 al4 al5 al6 K
 |_=>none
theorem s81{R:Type}{G:ORC R}{k:Nat}(hG:Sound Try.prog TAB G)(args:LV)(K:LV→OV R)(r:R)(h:g81 G k args K=some r):∃o,CallOK Try.prog TAB.env 81 args o∧K o=some r:=by
 unfold g81 at h
 split at h
 ·rw[←f81_is]at h
  exact callF_sound (f:=81) TAB_chk MO hG Try.func81 (sg:=S81) (by kernel_rfl) (by kernel_rfl) (la81 G k) h
 ·cases h
def L80{R:Type}(_:ORC R)(_:Nat):Nat→St→(Ex→St→OV R)→OV R:=fun _ _ _=>none
def f80{R:Type}(G:ORC R)(k:Nat)(al1:LV)(ai2:Int)(as3 as4:ByteArray)(al5:LV)(ai6:Int)(al7 al8:LV)(ai9:Int)(al10 al11:LV)(al12 al13:LV)(K:LV→OV R):OV R:=
 (bif(ai2==1)then(G 81 [.sl 4 al1,.sl 5 al5,.agg [.sl 1 al10,.sl 1 al11,.sl 1 al12,.sl 7 al13]] fun o14=>uL 4 o14 fun l16 r15=>unNil r15 (G 76 [.sl 1 al10,.str as3] fun o17=>uI .i64 o17 fun n19 r18=>unNil r18 (bif(decide (List.length l16+1≤1073741824))then(K [.sl 4 (l16++[.agg [.int .i64 18,.int .i64 n19,.int .i64 0,.str ⟨#[]⟩]])])else none)))else(bif(ai2==2)then(G 81 [.sl 4 al1,.sl 5 al5,.agg [.sl 1 al10,.sl 1 al11,.sl 1 al12,.sl 7 al13]] fun o20=>uL 4 o20 fun l22 r21=>unNil r21 (bif(decide (List.length l22+1≤1073741824))then(K [.sl 4 (l22++[.agg [.int .i64 19,.int .i64 0,.int .i64 0,.str as4]])])else none))else(bif(ai2==3)then(G 81 [.sl 4 al1,.sl 5 al5,.agg [.sl 1 al10,.sl 1 al11,.sl 1 al12,.sl 7 al13]] fun o23=>uL 4 o23 fun l25 r24=>unNil r24 (G 76 [.sl 1 al11,.str as3] fun o26=>uI .i64 o26 fun n28 r27=>unNil r27 (bif(decide (List.length l25+1≤1073741824))then(K [.sl 4 (l25++[.agg [.int .i64 20,.int .i64 n28,.int .i64 0,.str as4]])])else none)))else(bif(ai2==4)then(G 81 [.sl 4 al1,.sl 5 al5,.agg [.sl 1 al10,.sl 1 al11,.sl 1 al12,.sl 7 al13]] fun o29=>uL 4 o29 fun l31 r30=>unNil r30 (G 76 [.sl 1 al12,.str as3] fun o32=>uI .i64 o32 fun n34 r33=>unNil r33 (bif(decide (List.length l31+1≤1073741824))then(K [.sl 4 (l31++[.agg [.int .i64 21,.int .i64 n34,.int .i64 0,.str ⟨#[]⟩]])])else none)))else(bif(ai2==5)then(G 76 [.sl 1 al12,.str as3] fun o35=>uI .i64 o35 fun n37 r36=>unNil r36 (bif(decide (List.length al1+1≤1073741824))then(K [.sl 4 (al1++[.agg [.int .i64 22,.int .i64 n37,.int .i64 0,.str ⟨#[]⟩]])])else none))else(bif(ai2==7)then(bif(decide (List.length al1+1≤1073741824))then(G 75 [.sl 4 (al1++[.agg [.int .i64 25,.int .i64 0,.int .i64 ai6,.str ⟨#[]⟩]]),.sl 8 al7,.agg [.sl 1 al10,.sl 1 al11,.sl 1 al12,.sl 7 al13]] fun o38=>uL 4 o38 fun l40 r39=>unNil r39 (bif(decide (List.length l40+1≤1073741824))then(bif((decide (0≤(al1.length:Int)))&&(decide ((al1.length:Int)<((List.length (l40++[.agg [.int .i64 26,.int .i64 (al1.length:Int),.int .i64 0,.str ⟨#[]⟩]]):Nat):Int))))then(nthK (l40++[.agg [.int .i64 26,.int .i64 (al1.length:Int),.int .i64 0,.str ⟨#[]⟩]]) (Int.toNat (al1.length:Int)) fun e41=>ca4 e41 fun c42 c43 c44 c45=>K [.sl 4 (List.set (l40++[.agg [.int .i64 26,.int .i64 (al1.length:Int),.int .i64 0,.str ⟨#[]⟩]]) (Int.toNat (al1.length:Int)) (.agg [c42,.int .i64 ((List.length (l40++[.agg [.int .i64 26,.int .i64 (al1.length:Int),.int .i64 0,.str ⟨#[]⟩]]):Nat):Int),c44,c45]))])else none)else none))else none)else(bif(decide (0<(al5.length:Int)))then(nthK al5 0 fun e46=>V.asAgg e46 fun l47=>G 71 [.sl 4 al1,.agg l47,.agg [.sl 1 al10,.sl 1 al11,.sl 1 al12,.sl 7 al13]] fun o48=>uL 4 o48 fun l50 r49=>unNil r49 (bif(decide (List.length l50+1≤1073741824))then(G 75 [.sl 4 (l50++[.agg [.int .i64 24,.int .i64 0,.int .i64 0,.str ⟨#[]⟩]]),.sl 8 al7,.agg [.sl 1 al10,.sl 1 al11,.sl 1 al12,.sl 7 al13]] fun o51=>uL 4 o51 fun l53 r52=>unNil r52 (bif(decide ((al8.length:Int)>0))then(bif(decide (List.length l53+1≤1073741824))then(bif((decide (0≤(l50.length:Int)))&&(decide ((l50.length:Int)<((List.length (l53++[.agg [.int .i64 23,.int .i64 0,.int .i64 0,.str ⟨#[]⟩]]):Nat):Int))))then(nthK (l53++[.agg [.int .i64 23,.int .i64 0,.int .i64 0,.str ⟨#[]⟩]]) (Int.toNat (l50.length:Int)) fun e54=>ca4 e54 fun c55 c56 c57 c58=>G 75 [.sl 4 (List.set (l53++[.agg [.int .i64 23,.int .i64 0,.int .i64 0,.str ⟨#[]⟩]]) (Int.toNat (l50.length:Int)) (.agg [c55,.int .i64 ((List.length (l53++[.agg [.int .i64 23,.int .i64 0,.int .i64 0,.str ⟨#[]⟩]]):Nat):Int),c57,c58])),.sl 8 al8,.agg [.sl 1 al10,.sl 1 al11,.sl 1 al12,.sl 7 al13]] fun o59=>uL 4 o59 fun l61 r60=>unNil r60 (bif((decide (0≤(l53.length:Int)))&&(decide ((l53.length:Int)<(l61.length:Int))))then(nthK l61 (Int.toNat (l53.length:Int)) fun e62=>ca4 e62 fun c63 c64 c65 c66=>K [.sl 4 (List.set l61 (Int.toNat (l53.length:Int)) (.agg [c63,.int .i64 (l61.length:Int),c65,c66]))])else none))else none)else none)else(bif((decide (0≤(l50.length:Int)))&&(decide ((l50.length:Int)<(l53.length:Int))))then(nthK l53 (Int.toNat (l50.length:Int)) fun e67=>ca4 e67 fun c68 c69 c70 c71=>K [.sl 4 (List.set l53 (Int.toNat (l50.length:Int)) (.agg [c68,.int .i64 (l53.length:Int),c70,c71]))])else none)))else none))else none)))))))
theorem f80_is{R:Type}(G:ORC R)(k:Nat)(K:LV→OV R)(al1:LV)(ai2:Int)(as3 as4:ByteArray)(al5:LV)(ai6:Int)(al7 al8:LV)(ai9:Int)(al10 al11:LV)(al12 al13:LV):
 callF (TAB.env 80) G (L80 G k) Try.f80 S80 [.sl 4 al1,.agg [.int .i64 ai2,.str as3,.str as4,.sl 5 al5,.int .i64 ai6,.sl 8 al7,.sl 8 al8,.int .i64 ai9],.agg [.sl 1 al10,.sl 1 al11,.sl 1 al12,.sl 7 al13]] K=f80 G k al1 ai2 as3 as4 al5 ai6 al7 al8 ai9 al10 al11 al12 al13 K:=by kernel_rfl
theorem lo80:loopsOf (bodyOf Try.f80)=[]:=by kernel_rfl
theorem la80{R:Type}(G:ORC R)(k:Nat):LoopsAre (TAB.env 80) G (L80 G k) (bodyOf Try.f80):=
 loopsAre_of (by rw[lo80];intro p hp;cases hp)
def g80{R:Type}(G:ORC R)(k:Nat)(args:LV)(K:LV→OV R):OV R:=match args with
 | [.sl 4 al1,.agg [.int .i64 ai2,.str as3,.str as4,.sl 5 al5,.int .i64 ai6,.sl 8 al7,.sl 8 al8,.int .i64 ai9],.agg [.sl 1 al10,.sl 1 al11,.sl 1 al12,.sl 7 al13]]=>f80 G k al1 ai2 as3 as4 al5 ai6 al7 al8 ai9 al10 al11 al12 al13 K
 |_=>none
theorem s80{R:Type}{G:ORC R}{k:Nat}(hG:Sound Try.prog TAB G)(args:LV)(K:LV→OV R)(r:R)(h:g80 G k args K=some r):∃o,CallOK Try.prog TAB.env 80 args o∧K o=some r:=by
 unfold g80 at h
 split at h
 ·rw[←f80_is]at h
  exact callF_sound (f:=80) TAB_chk MO hG Try.func80 (sg:=S80) (by kernel_rfl) (by kernel_rfl) (la80 G k) h
 ·cases h
def P75_0h:Pat:={tmps:=unds [.var (.sl 4) (.own true),.var (.sl 8) .ro,.undef,.undef,.undef,.stat (.one (.ptr 5 0) .pt),.undef,.var (.int .i64) .pr] 14 [],boxes:=nons [] 5 (nons [some [.var (.sl 1) .ro false,.var (.sl 1) .ro false,.var (.sl 1) .ro false,.var (.sl 7) .ro false]] 16 [])}
def P75_0x:Pat:={tmps:=unds [.var (.sl 4) (.own true)] 21 [],boxes:=nons [] 22 []}
def b75_0{R:Type}(G:ORC R)(k:Nat)(X:LV→LV→Int→LV→LV→LV→LV→OV R)(Ko:LV→OV R)(xl7 xl8:LV)(xi9:Int)(xl10 xl11:LV)(xl12 xl13:LV):OV R:=
 (bif(decide (xi9<(xl8.length:Int)))then(bif((decide (0≤xi9))&&(decide (xi9<(xl8.length:Int))))then(nthK xl8 (Int.toNat xi9) fun e14=>V.asAgg e14 fun l15=>G 80 [.sl 4 xl7,.agg l15,.agg [.sl 1 xl10,.sl 1 xl11,.sl 1 xl12,.sl 7 xl13]] fun o16=>uL 4 o16 fun l18 r17=>unNil r17 (X l18 xl8 (IntKind.i64.wrap (xi9+1)) xl10 xl11 xl12 xl13))else none)else(Ko xl7))
def l75_0g{R:Type}(G:ORC R)(k:Nat)(Ko:LV→OV R):Nat→LV→LV→Int→LV→LV→LV→LV→OV R
 |0=>fun _ _ _ _ _ _ _=>none
 |j+1=>b75_0 G k (l75_0g G k Ko j) Ko
def l75_0{R:Type}(G:ORC R)(k:Nat)(xl7 xl8:LV)(xi9:Int)(xl10 xl11:LV)(xl12 xl13:LV)(Ko:LV→OV R):OV R:=l75_0g G k Ko k xl7 xl8 xi9 xl10 xl11 xl12 xl13
def rd75_0{R:Type}(G:ORC R)(k:Nat)(K:Ex→St→OV R)(j:Nat)(vs:LV):OV R:=match vs with
 | [.sl 4 xl7,.sl 8 xl8,.int .i64 xi9,.sl 1 xl10,.sl 1 xl11,.sl 1 xl12,.sl 7 xl13]=>l75_0g G k (fun yl20=>K .normal (P75_0x.inst [.sl 4 yl20])) j xl7 xl8 xi9 xl10 xl11 xl12 xl13
 |_=>none
def L75{R:Type}(G:ORC R)(k:Nat):Nat→St→(Ex→St→OV R)→OV R
 |0,S,K=>P75_0h.mat S fun vs=>rd75_0 G k K k vs
 |_,_,_=>none
def f75{R:Type}(G:ORC R)(k:Nat)(al1 al2:LV)(al3 al4:LV)(al5 al6:LV)(K:LV→OV R):OV R:=
 (l75_0 G k al1 al2 0 al3 al4 al5 al6 (fun yl19=>K [.sl 4 yl19]))
noncomputable def D75_0:LoopD:={id:=0,body:=loopAt 0 (bodyOf Try.f75),head:=P75_0h,out:=P75_0x,ret:=default}
theorem l75_0_is{R:Type}(G:ORC R)(k:Nat)(X:LV→OV R)(K:Ex→St→OV R)(xl7 xl8:LV)(xi9:Int)(xl10 xl11:LV)(xl12 xl13:LV):
 roundOf (TAB.env 75) G (L75 G k) D75_0 X K [.sl 4 xl7,.sl 8 xl8,.int .i64 xi9,.sl 1 xl10,.sl 1 xl11,.sl 1 xl12,.sl 7 xl13]=b75_0 G k (fun xl7 xl8 xi9 xl10 xl11 xl12 xl13=>X [.sl 4 xl7,.sl 8 xl8,.int .i64 xi9,.sl 1 xl10,.sl 1 xl11,.sl 1 xl12,.sl 7 xl13]) (fun yl20=>K .normal (P75_0x.inst [.sl 4 yl20])) xl7 xl8 xi9 xl10 xl11 xl12 xl13:=by kernel_rfl
theorem f75_is{R:Type}(G:ORC R)(k:Nat)(K:LV→OV R)(al1 al2:LV)(al3 al4:LV)(al5 al6:LV):
 callF (TAB.env 75) G (L75 G k) Try.f75 S75 [.sl 4 al1,.sl 8 al2,.agg [.sl 1 al3,.sl 1 al4,.sl 1 al5,.sl 7 al6]] K=f75 G k al1 al2 al3 al4 al5 al6 K:=by kernel_rfl
theorem li75_0{R:Type}(G:ORC R)(k:Nat):LoopIs (TAB.env 75) G (L75 G k) 0 (loopAt 0 (bodyOf Try.f75)):=
 ⟨D75_0,fun j vs K=>rd75_0 G k K j vs,k,rfl,rfl,by kernel_rfl,by kernel_rfl,by kernel_rfl,(fun vs K=>by unfold rd75_0;dsimp only;split<;>rfl),
   (fun j vs K r h=>by
     unfold rd75_0 at h
     dsimp only at h
     split at h
     ·rw[l75_0_is];exact h
     ·cases h),(fun S K r h=>h)⟩
theorem lo75:loopsOf (bodyOf Try.f75)=[(0,loopAt 0 (bodyOf Try.f75))]:=by kernel_rfl
theorem la75{R:Type}(G:ORC R)(k:Nat):LoopsAre (TAB.env 75) G (L75 G k) (bodyOf Try.f75):=
 loopsAre_of (by rw[lo75];intro p hp;simp only[List.mem_cons,List.not_mem_nil,or_false]at hp;subst hp;exact li75_0 G k)
def g75{R:Type}(G:ORC R)(k:Nat)(args:LV)(K:LV→OV R):OV R:=match args with
 | [.sl 4 al1,.sl 8 al2,.agg [.sl 1 al3,.sl 1 al4,.sl 1 al5,.sl 7 al6]]=>f75 G k al1 al2 al3 al4 al5 al6 K
 |_=>none
theorem s75{R:Type}{G:ORC R}{k:Nat}(hG:Sound Try.prog TAB G)(args:LV)(K:LV→OV R)(r:R)(h:g75 G k args K=some r):∃o,CallOK Try.prog TAB.env 75 args o∧K o=some r:=by
 unfold g75 at h
 split at h
 ·rw[←f75_is]at h
  exact callF_sound (f:=75) TAB_chk MO hG Try.func75 (sg:=S75) (by kernel_rfl) (by kernel_rfl) (la75 G k) h
 ·cases h
def L69{R:Type}(_:ORC R)(_:Nat):Nat→St→(Ex→St→OV R)→OV R:=fun _ _ _=>none
def f69{R:Type}(G:ORC R)(k:Nat)(al1 al2:LV)(al3 al4 al5:LV)(K:LV→OV R):OV R:=
 (G 75 [.sl 4 [],.sl 8 al1,.agg [.sl 1 al2,.sl 1 al3,.sl 1 al4,.sl 7 al5]] fun o6=>uL 4 o6 fun l8 r7=>unNil r7 (K [.sl 4 l8]))
theorem f69_is{R:Type}(G:ORC R)(k:Nat)(K:LV→OV R)(al1 al2:LV)(al3 al4 al5:LV):
 callF (TAB.env 69) G (L69 G k) Try.f69 S69 [.sl 8 al1,.agg [.sl 1 al2,.sl 1 al3,.sl 1 al4,.sl 7 al5]] K=f69 G k al1 al2 al3 al4 al5 K:=by kernel_rfl
theorem lo69:loopsOf (bodyOf Try.f69)=[]:=by kernel_rfl
theorem la69{R:Type}(G:ORC R)(k:Nat):LoopsAre (TAB.env 69) G (L69 G k) (bodyOf Try.f69):=
 loopsAre_of (by rw[lo69];intro p hp;cases hp)
def g69{R:Type}(G:ORC R)(k:Nat)(args:LV)(K:LV→OV R):OV R:=match args with
 | [.sl 8 al1,.agg [.sl 1 al2,.sl 1 al3,.sl 1 al4,.sl 7 al5]]=>f69 G k al1 al2 al3 al4 al5 K
 |_=>none
theorem s69{R:Type}{G:ORC R}{k:Nat}(hG:Sound Try.prog TAB G)(args:LV)(K:LV→OV R)(r:R)(h:g69 G k args K=some r):∃o,CallOK Try.prog TAB.env 69 args o∧K o=some r:=by
 unfold g69 at h
 split at h
 ·rw[←f69_is]at h
  exact callF_sound (f:=69) TAB_chk MO hG Try.func69 (sg:=S69) (by kernel_rfl) (by kernel_rfl) (la69 G k) h
 ·cases h
def L55{R:Type}(_:ORC R)(_:Nat):Nat→St→(Ex→St→OV R)→OV R:=fun _ _ _=>none
def f55{R:Type}(G:ORC R)(k:Nat)(ai1 ai2:Int)(as3:ByteArray)(al4:LV)(ai5:Int)(al6 al7:LV)(al8 al9:LV)(K:LV→OV R):OV R:=
 (G 71 [.sl 4 [],.agg [.int .i64 ai1,.int .i64 ai2,.str as3,.sl 5 al4,.int .i64 ai5],.agg [.sl 1 al6,.sl 1 al7,.sl 1 al8,.sl 7 al9]] fun o10=>uL 4 o10 fun l12 r11=>unNil r11 (K [.sl 4 l12]))
theorem f55_is{R:Type}(G:ORC R)(k:Nat)(K:LV→OV R)(ai1 ai2:Int)(as3:ByteArray)(al4:LV)(ai5:Int)(al6 al7:LV)(al8 al9:LV):
 callF (TAB.env 55) G (L55 G k) Try.f55 S55 [.agg [.int .i64 ai1,.int .i64 ai2,.str as3,.sl 5 al4,.int .i64 ai5],.agg [.sl 1 al6,.sl 1 al7,.sl 1 al8,.sl 7 al9]] K=f55 G k ai1 ai2 as3 al4 ai5 al6 al7 al8 al9 K:=by kernel_rfl
theorem lo55:loopsOf (bodyOf Try.f55)=[]:=by kernel_rfl
theorem la55{R:Type}(G:ORC R)(k:Nat):LoopsAre (TAB.env 55) G (L55 G k) (bodyOf Try.f55):=
 loopsAre_of (by rw[lo55];intro p hp;cases hp)
def g55{R:Type}(G:ORC R)(k:Nat)(args:LV)(K:LV→OV R):OV R:=match args with
 | [.agg [.int .i64 ai1,.int .i64 ai2,.str as3,.sl 5 al4,.int .i64 ai5],.agg [.sl 1 al6,.sl 1 al7,.sl 1 al8,.sl 7 al9]]=>f55 G k ai1 ai2 as3 al4 ai5 al6 al7 al8 al9 K
 |_=>none
theorem s55{R:Type}{G:ORC R}{k:Nat}(hG:Sound Try.prog TAB G)(args:LV)(K:LV→OV R)(r:R)(h:g55 G k args K=some r):∃o,CallOK Try.prog TAB.env 55 args o∧K o=some r:=by
 unfold g55 at h
 split at h
 ·rw[←f55_is]at h
  exact callF_sound (f:=55) TAB_chk MO hG Try.func55 (sg:=S55) (by kernel_rfl) (by kernel_rfl) (la55 G k) h
 ·cases h
def P30_0h:Pat:={tmps:=unds [.var (.sl 3) .ro,.undef,.undef,.var (.sl 1) (.own true),.var (.int .i64) .pr] 15 [],boxes:=nons [] 20 []}
def P30_0x:Pat:={tmps:=unds [.undef,.undef,.undef,.var (.sl 1) (.own true)] 16 [],boxes:=nons [] 20 []}
def b30_0{R:Type}(G:ORC R)(k:Nat)(X:LV→LV→Int→OV R)(Ko:LV→OV R)(xl2 xl3:LV)(xi4:Int):OV R:=
 (bif(decide (xi4<(xl2.length:Int)))then(bif((decide (0≤xi4))&&(decide (xi4<(xl2.length:Int))))then(nthK xl2 (Int.toNat xi4) fun e5=>ca3 e5 fun c6 c7 c8=>V.asStr c6 fun s9=>bif(decide (List.length xl3+1≤1073741824))then(X xl2 (xl3++[.str s9]) (IntKind.i64.wrap (xi4+1)))else none)else none)else(Ko xl3))
def l30_0g{R:Type}(G:ORC R)(k:Nat)(Ko:LV→OV R):Nat→LV→LV→Int→OV R
 |0=>fun _ _ _=>none
 |j+1=>b30_0 G k (l30_0g G k Ko j) Ko
def l30_0{R:Type}(G:ORC R)(k:Nat)(xl2 xl3:LV)(xi4:Int)(Ko:LV→OV R):OV R:=l30_0g G k Ko k xl2 xl3 xi4
def rd30_0{R:Type}(G:ORC R)(k:Nat)(K:Ex→St→OV R)(j:Nat)(vs:LV):OV R:=match vs with
 | [.sl 3 xl2,.sl 1 xl3,.int .i64 xi4]=>l30_0g G k (fun yl11=>K .normal (P30_0x.inst [.sl 1 yl11])) j xl2 xl3 xi4
 |_=>none
def L30{R:Type}(G:ORC R)(k:Nat):Nat→St→(Ex→St→OV R)→OV R
 |0,S,K=>P30_0h.mat S fun vs=>rd30_0 G k K k vs
 |_,_,_=>none
def f30{R:Type}(G:ORC R)(k:Nat)(al1:LV)(K:LV→OV R):OV R:=
 (l30_0 G k al1 [] 0 (fun yl10=>K [.sl 1 yl10]))
noncomputable def D30_0:LoopD:={id:=0,body:=loopAt 0 (bodyOf Try.f30),head:=P30_0h,out:=P30_0x,ret:=default}
theorem l30_0_is{R:Type}(G:ORC R)(k:Nat)(X:LV→OV R)(K:Ex→St→OV R)(xl2 xl3:LV)(xi4:Int):
 roundOf (TAB.env 30) G (L30 G k) D30_0 X K [.sl 3 xl2,.sl 1 xl3,.int .i64 xi4]=b30_0 G k (fun xl2 xl3 xi4=>X [.sl 3 xl2,.sl 1 xl3,.int .i64 xi4]) (fun yl11=>K .normal (P30_0x.inst [.sl 1 yl11])) xl2 xl3 xi4:=by kernel_rfl
theorem f30_is{R:Type}(G:ORC R)(k:Nat)(K:LV→OV R)(al1:LV):
 callF (TAB.env 30) G (L30 G k) Try.f30 S30 [.sl 3 al1] K=f30 G k al1 K:=by kernel_rfl
theorem li30_0{R:Type}(G:ORC R)(k:Nat):LoopIs (TAB.env 30) G (L30 G k) 0 (loopAt 0 (bodyOf Try.f30)):=
 ⟨D30_0,fun j vs K=>rd30_0 G k K j vs,k,rfl,rfl,by kernel_rfl,by kernel_rfl,by kernel_rfl,(fun vs K=>by unfold rd30_0;dsimp only;split<;>rfl),
   (fun j vs K r h=>by
     unfold rd30_0 at h
     dsimp only at h
     split at h
     ·rw[l30_0_is];exact h
     ·cases h),(fun S K r h=>h)⟩
theorem lo30:loopsOf (bodyOf Try.f30)=[(0,loopAt 0 (bodyOf Try.f30))]:=by kernel_rfl
theorem la30{R:Type}(G:ORC R)(k:Nat):LoopsAre (TAB.env 30) G (L30 G k) (bodyOf Try.f30):=
 loopsAre_of (by rw[lo30];intro p hp;simp only[List.mem_cons,List.not_mem_nil,or_false]at hp;subst hp;exact li30_0 G k)
def g30{R:Type}(G:ORC R)(k:Nat)(args:LV)(K:LV→OV R):OV R:=match args with
 | [.sl 3 al1]=>f30 G k al1 K
 |_=>none
theorem s30{R:Type}{G:ORC R}{k:Nat}(hG:Sound Try.prog TAB G)(args:LV)(K:LV→OV R)(r:R)(h:g30 G k args K=some r):∃o,CallOK Try.prog TAB.env 30 args o∧K o=some r:=by
 unfold g30 at h
 split at h
 ·rw[←f30_is]at h
  exact callF_sound (f:=30) TAB_chk MO hG Try.func30 (sg:=S30) (by kernel_rfl) (by kernel_rfl) (la30 G k) h
 ·cases h
def L29{R:Type}(_:ORC R)(_:Nat):Nat→St→(Ex→St→OV R)→OV R:=fun _ _ _=>none
def f29{R:Type}(G:ORC R)(k:Nat)(as1:ByteArray)(ai2 ai3:Int)(al4 al5:LV)(al6 al7:LV)(ai8:Int)(K:LV→OV R):OV R:=
 (G 30 [.sl 3 al4] fun o9=>uL 1 o9 fun l11 r10=>unNil r10 (G 30 [.sl 3 al5] fun o12=>uL 1 o12 fun l14 r13=>unNil r13 (G 30 [.sl 3 al6] fun o15=>uL 1 o15 fun l17 r16=>unNil r16 (G 31 [.agg [.str as1,.int .i64 ai2,.int .i64 ai3,.sl 3 al4,.sl 3 al5,.sl 3 al6,.sl 7 al7,.int .i64 ai8]] fun o18=>uL 7 o18 fun l20 r19=>unNil r19 (K [.agg [.sl 1 l11,.sl 1 l14,.sl 1 l17,.sl 7 l20]])))))
theorem f29_is{R:Type}(G:ORC R)(k:Nat)(K:LV→OV R)(as1:ByteArray)(ai2 ai3:Int)(al4 al5:LV)(al6 al7:LV)(ai8:Int):
 callF (TAB.env 29) G (L29 G k) Try.f29 S29 [.agg [.str as1,.int .i64 ai2,.int .i64 ai3,.sl 3 al4,.sl 3 al5,.sl 3 al6,.sl 7 al7,.int .i64 ai8]] K=f29 G k as1 ai2 ai3 al4 al5 al6 al7 ai8 K:=by kernel_rfl
theorem lo29:loopsOf (bodyOf Try.f29)=[]:=by kernel_rfl
theorem la29{R:Type}(G:ORC R)(k:Nat):LoopsAre (TAB.env 29) G (L29 G k) (bodyOf Try.f29):=
 loopsAre_of (by rw[lo29];intro p hp;cases hp)
def g29{R:Type}(G:ORC R)(k:Nat)(args:LV)(K:LV→OV R):OV R:=match args with
 | [.agg [.str as1,.int .i64 ai2,.int .i64 ai3,.sl 3 al4,.sl 3 al5,.sl 3 al6,.sl 7 al7,.int .i64 ai8]]=>f29 G k as1 ai2 ai3 al4 al5 al6 al7 ai8 K
 |_=>none
theorem s29{R:Type}{G:ORC R}{k:Nat}(hG:Sound Try.prog TAB G)(args:LV)(K:LV→OV R)(r:R)(h:g29 G k args K=some r):∃o,CallOK Try.prog TAB.env 29 args o∧K o=some r:=by
 unfold g29 at h
 split at h
 ·rw[←f29_is]at h
  exact callF_sound (f:=29) TAB_chk MO hG Try.func29 (sg:=S29) (by kernel_rfl) (by kernel_rfl) (la29 G k) h
 ·cases h
def L53{R:Type}(_:ORC R)(_:Nat):Nat→St→(Ex→St→OV R)→OV R:=fun _ _ _=>none
def f53{R:Type}(G:ORC R)(k:Nat)(al1:LV)(bs2:ByteArray)(bi3 bi4:Int)(bl5 bl6:LV)(bl7 bl8:LV)(bl9 bl10:LV)(bl11 bl12:LV)(bl13 bl14:LV)(K:LV→OV R):OV R:=
 (bif((al1.length:Int)==0)then(K [.int .i64 (-1),.str bs2,.int .i64 bi3,.int .i64 bi4,.sl 1 bl10])else(G 69 [.sl 8 al1,.agg [.sl 1 bl11,.sl 1 bl12,.sl 1 bl13,.sl 7 bl14]] fun o15=>uL 4 o15 fun l17 r16=>unNil r16 (bif(decide (List.length bl10+1≤1073741824))then(K [.int .i64 (IntKind.i64.wrap (((List.length (bl10++[.sl 4 l17]):Nat):Int)-1)),.str bs2,.int .i64 bi3,.int .i64 bi4,.sl 1 (bl10++[.sl 4 l17])])else none)))
theorem f53_is{R:Type}(G:ORC R)(k:Nat)(K:LV→OV R)(al1:LV)(bs2:ByteArray)(bi3 bi4:Int)(bl5 bl6:LV)(bl7 bl8:LV)(bl9 bl10:LV)(bl11 bl12:LV)(bl13 bl14:LV):
 callF (TAB.env 53) G (L53 G k) Try.f53 S53 [.sl 8 al1,.str bs2,.int .i64 bi3,.int .i64 bi4,.sl 1 bl5,.sl 1 bl6,.sl 1 bl7,.sl 7 bl8,.sl 6 bl9,.sl 1 bl10,.sl 1 bl11,.sl 1 bl12,.sl 1 bl13,.sl 7 bl14] K=f53 G k al1 bs2 bi3 bi4 bl5 bl6 bl7 bl8 bl9 bl10 bl11 bl12 bl13 bl14 K:=by kernel_rfl
theorem lo53:loopsOf (bodyOf Try.f53)=[]:=by kernel_rfl
theorem la53{R:Type}(G:ORC R)(k:Nat):LoopsAre (TAB.env 53) G (L53 G k) (bodyOf Try.f53):=
 loopsAre_of (by rw[lo53];intro p hp;cases hp)
def g53{R:Type}(G:ORC R)(k:Nat)(args:LV)(K:LV→OV R):OV R:=match args with
 | [.sl 8 al1,.str bs2,.int .i64 bi3,.int .i64 bi4,.sl 1 bl5,.sl 1 bl6,.sl 1 bl7,.sl 7 bl8,.sl 6 bl9,.sl 1 bl10,.sl 1 bl11,.sl 1 bl12,.sl 1 bl13,.sl 7 bl14]=>f53 G k al1 bs2 bi3 bi4 bl5 bl6 bl7 bl8 bl9 bl10 bl11 bl12 bl13 bl14 K
 |_=>none
theorem s53{R:Type}{G:ORC R}{k:Nat}(hG:Sound Try.prog TAB G)(args:LV)(K:LV→OV R)(r:R)(h:g53 G k args K=some r):∃o,CallOK Try.prog TAB.env 53 args o∧K o=some r:=by
 unfold g53 at h
 split at h
 ·rw[←f53_is]at h
  exact callF_sound (f:=53) TAB_chk MO hG Try.func53 (sg:=S53) (by kernel_rfl) (by kernel_rfl) (la53 G k) h
 ·cases h
def P32_2h:Pat:={tmps:=unds [.stat (.one (.ptr 0 0) .pt),.var (.sl 7) .ro,.undef,.undef,.var (.int .i64) .pr,.stat (.one (.ptr 6 0) .pt),.var (.int .i64) .pr,.undef,.undef,.var (.int .i64) .pr] 136 [],boxes:=nons [some [.var .str .pr false,.var (.int .i64) .pr false,.var (.int .i64) .pr false,.var (.sl 1) .ro true,.var (.sl 1) .ro true,.var (.sl 1) .ro true,.var (.sl 7) (.own true) false,.var (.sl 6) (.own true) false,.var (.sl 1) (.own true) false,.var (.sl 1) .ro true,.var (.sl 1) .ro true,.var (.sl 1) .ro true,.var (.sl 7) .ro true]] 5 (nons [some [.var (.int .i64) .pr false,.var .str .pr false,.var .any .ro false,.var .any .ro false,.var .any .ro false,.var .any .ro false,.var (.int .i64) .pr false]] 140 [])}
def P32_2x:Pat:={tmps:=unds [.stat (.one (.ptr 0 0) .pt),.var (.sl 7) .ro,.undef,.undef,.var (.int .i64) .pr,.stat (.one (.ptr 6 0) .pt)] 140 [],boxes:=nons [some [.var .str .pr false,.var (.int .i64) .pr false,.var (.int .i64) .pr false,.var (.sl 1) .ro true,.var (.sl 1) .ro true,.var (.sl 1) .ro true,.var (.sl 7) (.own true) false,.var (.sl 6) (.own true) false,.var (.sl 1) (.own true) false,.var (.sl 1) .ro true,.var (.sl 1) .ro true,.var (.sl 1) .ro true,.var (.sl 7) .ro true]] 5 (nons [some [.var (.int .i64) .pr false,.var .str .pr false,.var .any .ro false,.var .any .ro false,.var .any .ro false,.var .any .ro false,.var (.int .i64) .pr false]] 140 [])}
def b32_2{R:Type}(G:ORC R)(k:Nat)(X:LV→Int→Int→Int→ByteArray→Int→Int→LV→LV→LV→LV→LV→LV→LV→LV→LV→LV→Int→ByteArray→V→V→V→V→Int→OV R)(Ko:LV→Int→ByteArray→Int→Int→LV→LV→LV→LV→LV→LV→LV→LV→LV→LV→Int→ByteArray→V→V→V→V→Int→OV R)(xl99:LV)(xi100 xi101 xi102:Int)(xs103:ByteArray)(xi104 xi105:Int)(xl106 xl107:LV)(xl108 xl109:LV)(xl110 xl111:LV)(xl112 xl113:LV)(xl114 xl115:LV)(xi116:Int)(xs117:ByteArray)(xv118 xv119:V)(xv120 xv121:V)(xi122:Int):OV R:=
 (V.asSl xv120 fun z123 l124=>bif(decide (xi102<(l124.length:Int)))then(V.asSl xv120 fun z125 l126=>bif(((z125==5)&&(decide (0≤xi102)))&&(decide (xi102<(l126.length:Int))))then(nthK l126 (Int.toNat xi102) fun e127=>V.asAgg e127 fun l128=>ce5 l128 fun c129 c130 c131 c132 c133=>V.asStr c129 fun s140=>V.asSl c130 fun z141 l142=>V.asStr c131 fun s143=>V.asSl c132 fun z144 l145=>aI .i64 c133 fun n146=>G 52 [.sl 7 xl109,.str s143] fun o147=>uI .i64 o147 fun n149 r148=>unNil r148 (bif(decide (n149≥0))then(G 54 [.sl 7 xl109,.int .i64 xi101,.int .i64 n149] fun o150=>uI .i64 o150 fun n152 r151=>unNil r151 (bif(decide ((l142.length:Int)>0))then(bif(((z141==5)&&true)&&(decide (0<(l142.length:Int))))then(nthK l142 0 fun e153=>V.asAgg e153 fun l154=>G 55 [.agg l154,.agg [.sl 1 xl112,.sl 1 xl113,.sl 1 xl114,.sl 7 xl115]] fun o155=>uL 4 o155 fun l157 r156=>unNil r156 (bif(decide (List.length xl111+1≤1073741824))then(G 53 [.sl z144 l145,.str xs103,.int .i64 xi104,.int .i64 xi105,.sl 1 xl106,.sl 1 xl107,.sl 1 xl108,.sl 7 xl109,.sl 6 xl110,.sl 1 (xl111++[.sl 4 l157]),.sl 1 xl112,.sl 1 xl113,.sl 1 xl114,.sl 7 xl115] fun o158=>uI .i64 o158 fun n160 r159=>uS r159 fun s162 r161=>uI .i64 r161 fun n164 r163=>uI .i64 r163 fun n166 r165=>uL 1 r165 fun l168 r167=>unNil r167 (bif(decide (List.length xl110+1≤1073741824))then(X xl99 xi100 xi101 (IntKind.i64.wrap (xi102+1)) s162 n164 n166 xl106 xl107 xl108 xl109 (xl110++[.agg [.int .i64 xi101,.int .i64 n149,.int .i64 n152,.int .i64 (IntKind.i64.wrap (((List.length (xl111++[.sl 4 l157]):Nat):Int)-1)),.int .i64 n160,.str s140]]) l168 xl112 xl113 xl114 xl115 xi116 xs117 xv118 xv119 xv120 xv121 xi122)else none))else none))else none)else(G 53 [.sl z144 l145,.str xs103,.int .i64 xi104,.int .i64 xi105,.sl 1 xl106,.sl 1 xl107,.sl 1 xl108,.sl 7 xl109,.sl 6 xl110,.sl 1 xl111,.sl 1 xl112,.sl 1 xl113,.sl 1 xl114,.sl 7 xl115] fun o169=>uI .i64 o169 fun n171 r170=>uS r170 fun s173 r172=>uI .i64 r172 fun n175 r174=>uI .i64 r174 fun n177 r176=>uL 1 r176 fun l179 r178=>unNil r178 (bif(decide (List.length xl110+1≤1073741824))then(X xl99 xi100 xi101 (IntKind.i64.wrap (xi102+1)) s173 n175 n177 xl106 xl107 xl108 xl109 (xl110++[.agg [.int .i64 xi101,.int .i64 n149,.int .i64 n152,.int .i64 (-1),.int .i64 n171,.str s140]]) l179 xl112 xl113 xl114 xl115 xi116 xs117 xv118 xv119 xv120 xv121 xi122)else none))))else(bif(decide ((l142.length:Int)>0))then(bif(((z141==5)&&true)&&(decide (0<(l142.length:Int))))then(nthK l142 0 fun e180=>V.asAgg e180 fun l181=>G 55 [.agg l181,.agg [.sl 1 xl112,.sl 1 xl113,.sl 1 xl114,.sl 7 xl115]] fun o182=>uL 4 o182 fun l184 r183=>unNil r183 (bif(decide (List.length xl111+1≤1073741824))then(G 53 [.sl z144 l145,.str xs103,.int .i64 xi104,.int .i64 xi105,.sl 1 xl106,.sl 1 xl107,.sl 1 xl108,.sl 7 xl109,.sl 6 xl110,.sl 1 (xl111++[.sl 4 l184]),.sl 1 xl112,.sl 1 xl113,.sl 1 xl114,.sl 7 xl115] fun o185=>uI .i64 o185 fun n187 r186=>uS r186 fun s189 r188=>uI .i64 r188 fun n191 r190=>uI .i64 r190 fun n193 r192=>uL 1 r192 fun l195 r194=>unNil r194 (bif(decide (List.length xl110+1≤1073741824))then(X xl99 xi100 xi101 (IntKind.i64.wrap (xi102+1)) s189 n191 n193 xl106 xl107 xl108 xl109 (xl110++[.agg [.int .i64 xi101,.int .i64 n149,.int .i64 (-1),.int .i64 (IntKind.i64.wrap (((List.length (xl111++[.sl 4 l184]):Nat):Int)-1)),.int .i64 n187,.str s140]]) l195 xl112 xl113 xl114 xl115 xi116 xs117 xv118 xv119 xv120 xv121 xi122)else none))else none))else none)else(G 53 [.sl z144 l145,.str xs103,.int .i64 xi104,.int .i64 xi105,.sl 1 xl106,.sl 1 xl107,.sl 1 xl108,.sl 7 xl109,.sl 6 xl110,.sl 1 xl111,.sl 1 xl112,.sl 1 xl113,.sl 1 xl114,.sl 7 xl115] fun o196=>uI .i64 o196 fun n198 r197=>uS r197 fun s200 r199=>uI .i64 r199 fun n202 r201=>uI .i64 r201 fun n204 r203=>uL 1 r203 fun l206 r205=>unNil r205 (bif(decide (List.length xl110+1≤1073741824))then(X xl99 xi100 xi101 (IntKind.i64.wrap (xi102+1)) s200 n202 n204 xl106 xl107 xl108 xl109 (xl110++[.agg [.int .i64 xi101,.int .i64 n149,.int .i64 (-1),.int .i64 (-1),.int .i64 n198,.str s140]]) l206 xl112 xl113 xl114 xl115 xi116 xs117 xv118 xv119 xv120 xv121 xi122)else none)))))else none)else(Ko xl99 xi100 xs103 xi104 xi105 xl106 xl107 xl108 xl109 xl110 xl111 xl112 xl113 xl114 xl115 xi116 xs117 xv118 xv119 xv120 xv121 xi122))
def l32_2g{R:Type}(G:ORC R)(k:Nat)(Ko:LV→Int→ByteArray→Int→Int→LV→LV→LV→LV→LV→LV→LV→LV→LV→LV→Int→ByteArray→V→V→V→V→Int→OV R):Nat→LV→Int→Int→Int→ByteArray→Int→Int→LV→LV→LV→LV→LV→LV→LV→LV→LV→LV→Int→ByteArray→V→V→V→V→Int→OV R
 |0=>fun _ _ _ _ _ _ _ _ _ _ _ _ _ _ _ _ _ _ _ _ _ _ _ _=>none
 |j+1=>b32_2 G k (l32_2g G k Ko j) Ko
def l32_2{R:Type}(G:ORC R)(k:Nat)(xl99:LV)(xi100 xi101 xi102:Int)(xs103:ByteArray)(xi104 xi105:Int)(xl106 xl107:LV)(xl108 xl109:LV)(xl110 xl111:LV)(xl112 xl113:LV)(xl114 xl115:LV)(xi116:Int)(xs117:ByteArray)(xv118 xv119:V)(xv120 xv121:V)(xi122:Int)(Ko:LV→Int→ByteArray→Int→Int→LV→LV→LV→LV→LV→LV→LV→LV→LV→LV→Int→ByteArray→V→V→V→V→Int→OV R):OV R:=l32_2g G k Ko k xl99 xi100 xi101 xi102 xs103 xi104 xi105 xl106 xl107 xl108 xl109 xl110 xl111 xl112 xl113 xl114 xl115 xi116 xs117 xv118 xv119 xv120 xv121 xi122
def P32_0h:Pat:={tmps:=unds [.stat (.one (.ptr 0 0) .pt),.var (.sl 7) .ro,.undef,.undef,.var (.int .i64) .pr] 141 [],boxes:=nons [some [.var .str .pr false,.var (.int .i64) .pr false,.var (.int .i64) .pr false,.var (.sl 1) .ro true,.var (.sl 1) .ro true,.var (.sl 1) .ro true,.var (.sl 7) (.own true) false,.var (.sl 6) (.own true) false,.var (.sl 1) (.own true) false,.var (.sl 1) .ro true,.var (.sl 1) .ro true,.var (.sl 1) .ro true,.var (.sl 7) .ro true]] 146 []}
def P32_0x:Pat:={tmps:=unds [] 146 [],boxes:=nons [some [.var .str .pr false,.var (.int .i64) .pr false,.var (.int .i64) .pr false,.var (.sl 1) .ro true,.var (.sl 1) .ro true,.var (.sl 1) .ro true,.var (.sl 7) (.own true) false,.var (.sl 6) (.own true) false,.var (.sl 1) (.own true) false,.var (.sl 1) .ro true,.var (.sl 1) .ro true,.var (.sl 1) .ro true,.var (.sl 7) .ro true]] 146 []}
def b32_0{R:Type}(G:ORC R)(k:Nat)(X:LV→Int→ByteArray→Int→Int→LV→LV→LV→LV→LV→LV→LV→LV→LV→LV→OV R)(Ko:ByteArray→Int→Int→LV→LV→LV→LV→LV→LV→LV→LV→LV→LV→OV R)(xl15:LV)(xi16:Int)(xs17:ByteArray)(xi18 xi19:Int)(xl20 xl21:LV)(xl22 xl23:LV)(xl24 xl25:LV)(xl26 xl27:LV)(xl28 xl29:LV):OV R:=
 (bif(decide (xi16<(xl15.length:Int)))then(bif((decide (0≤xi16))&&(decide (xi16<(xl15.length:Int))))then(nthK xl15 (Int.toNat xi16) fun e30=>V.asAgg e30 fun l31=>ce7 l31 fun c32 c33 c34 c35 c36 c37 c38=>aI .i64 c32 fun n47=>V.asStr c33 fun s48=>V.asSl c34 fun z49 l50=>V.asSl c35 fun z51 l52=>V.asSl c36 fun z53 l54=>V.asSl c37 fun z55 l56=>aI .i64 c38 fun n57=>G 52 [.sl 7 xl23,.str s48] fun o58=>uI .i64 o58 fun n60 r59=>unNil r59 (G 53 [.sl z49 l50,.str xs17,.int .i64 xi18,.int .i64 xi19,.sl 1 xl20,.sl 1 xl21,.sl 1 xl22,.sl 7 xl23,.sl 6 xl24,.sl 1 xl25,.sl 1 xl26,.sl 1 xl27,.sl 1 xl28,.sl 7 xl29] fun o61=>uI .i64 o61 fun n63 r62=>uS r62 fun s65 r64=>uI .i64 r64 fun n67 r66=>uI .i64 r66 fun n69 r68=>uL 1 r68 fun l71 r70=>unNil r70 (G 53 [.sl z51 l52,.str s65,.int .i64 n67,.int .i64 n69,.sl 1 xl20,.sl 1 xl21,.sl 1 xl22,.sl 7 xl23,.sl 6 xl24,.sl 1 l71,.sl 1 xl26,.sl 1 xl27,.sl 1 xl28,.sl 7 xl29] fun o72=>uI .i64 o72 fun n74 r73=>uS r73 fun s76 r75=>uI .i64 r75 fun n78 r77=>uI .i64 r77 fun n80 r79=>uL 1 r79 fun l82 r81=>unNil r81 (bif((decide (0≤n60))&&(decide (n60<(xl23.length:Int))))then(nthK xl23 (Int.toNat n60) fun e83=>ca7 e83 fun c84 c85 c86 c87 c88 c89 c90=>bif((decide (0≤n60))&&(decide (n60<((List.length (List.set xl23 (Int.toNat n60) (.agg [c84,c85,c86,c87,.int .i64 n63,c89,c90])):Nat):Int))))then(nthK (List.set xl23 (Int.toNat n60) (.agg [c84,c85,c86,c87,.int .i64 n63,c89,c90])) (Int.toNat n60) fun e91=>ca7 e91 fun c92 c93 c94 c95 c96 c97 c98=>l32_2 G k xl15 xi16 n60 0 s76 n78 n80 xl20 xl21 xl22 (List.set (List.set xl23 (Int.toNat n60) (.agg [c84,c85,c86,c87,.int .i64 n63,c89,c90])) (Int.toNat n60) (.agg [c92,c93,c94,c95,c96,.int .i64 n74,c98])) xl24 l82 xl26 xl27 xl28 xl29 n47 s48 (.sl z49 l50) (.sl z51 l52) (.sl z53 l54) (.sl z55 l56) n57 (fun yl99 yi100 ys101 yi102 yi103 yl104 yl105 yl106 yl107 yl108 yl109 yl110 yl111 yl112 yl113 yi114 ys115 yv116 yv117 yv118 yv119 yi120=>V.asSl yv119 fun z121 l122=>G 32 [.sl z121 l122,.str ys101,.int .i64 yi102,.int .i64 yi103,.sl 1 yl104,.sl 1 yl105,.sl 1 yl106,.sl 7 yl107,.sl 6 yl108,.sl 1 yl109,.sl 1 yl110,.sl 1 yl111,.sl 1 yl112,.sl 7 yl113] fun o123=>uS o123 fun s125 r124=>uI .i64 r124 fun n127 r126=>uI .i64 r126 fun n129 r128=>uL 7 r128 fun l131 r130=>uL 6 r130 fun l133 r132=>uL 1 r132 fun l135 r134=>unNil r134 (X yl99 (IntKind.i64.wrap (yi100+1)) s125 n127 n129 yl104 yl105 yl106 l131 l133 l135 yl110 yl111 yl112 yl113)))else none)else none))))else none)else(Ko xs17 xi18 xi19 xl20 xl21 xl22 xl23 xl24 xl25 xl26 xl27 xl28 xl29))
def l32_0g{R:Type}(G:ORC R)(k:Nat)(Ko:ByteArray→Int→Int→LV→LV→LV→LV→LV→LV→LV→LV→LV→LV→OV R):Nat→LV→Int→ByteArray→Int→Int→LV→LV→LV→LV→LV→LV→LV→LV→LV→LV→OV R
 |0=>fun _ _ _ _ _ _ _ _ _ _ _ _ _ _ _=>none
 |j+1=>b32_0 G k (l32_0g G k Ko j) Ko
def l32_0{R:Type}(G:ORC R)(k:Nat)(xl15:LV)(xi16:Int)(xs17:ByteArray)(xi18 xi19:Int)(xl20 xl21:LV)(xl22 xl23:LV)(xl24 xl25:LV)(xl26 xl27:LV)(xl28 xl29:LV)(Ko:ByteArray→Int→Int→LV→LV→LV→LV→LV→LV→LV→LV→LV→LV→OV R):OV R:=l32_0g G k Ko k xl15 xi16 xs17 xi18 xi19 xl20 xl21 xl22 xl23 xl24 xl25 xl26 xl27 xl28 xl29
def rd32_2{R:Type}(G:ORC R)(k:Nat)(K:Ex→St→OV R)(j:Nat)(vs:LV):OV R:=match vs with
 | [.sl 7 xl99,.int .i64 xi100,.int .i64 xi101,.int .i64 xi102,.str xs103,.int .i64 xi104,.int .i64 xi105,.sl 1 xl106,.sl 1 xl107,.sl 1 xl108,.sl 7 xl109,.sl 6 xl110,.sl 1 xl111,.sl 1 xl112,.sl 1 xl113,.sl 1 xl114,.sl 7 xl115,.int .i64 xi116,.str xs117,xv118,xv119,xv120,xv121,.int .i64 xi122]=>l32_2g G k (fun yl149 yi150 ys151 yi152 yi153 yl154 yl155 yl156 yl157 yl158 yl159 yl160 yl161 yl162 yl163 yi164 ys165 yv166 yv167 yv168 yv169 yi170=>K .normal (P32_2x.inst [.sl 7 yl149,.int .i64 yi150,.str ys151,.int .i64 yi152,.int .i64 yi153,.sl 1 yl154,.sl 1 yl155,.sl 1 yl156,.sl 7 yl157,.sl 6 yl158,.sl 1 yl159,.sl 1 yl160,.sl 1 yl161,.sl 1 yl162,.sl 7 yl163,.int .i64 yi164,.str ys165,yv166,yv167,yv168,yv169,.int .i64 yi170])) j xl99 xi100 xi101 xi102 xs103 xi104 xi105 xl106 xl107 xl108 xl109 xl110 xl111 xl112 xl113 xl114 xl115 xi116 xs117 xv118 xv119 xv120 xv121 xi122
 |_=>none
def rd32_0{R:Type}(G:ORC R)(k:Nat)(K:Ex→St→OV R)(j:Nat)(vs:LV):OV R:=match vs with
 | [.sl 7 xl15,.int .i64 xi16,.str xs17,.int .i64 xi18,.int .i64 xi19,.sl 1 xl20,.sl 1 xl21,.sl 1 xl22,.sl 7 xl23,.sl 6 xl24,.sl 1 xl25,.sl 1 xl26,.sl 1 xl27,.sl 1 xl28,.sl 7 xl29]=>l32_0g G k (fun ys171 yi172 yi173 yl174 yl175 yl176 yl177 yl178 yl179 yl180 yl181 yl182 yl183=>K .normal (P32_0x.inst [.str ys171,.int .i64 yi172,.int .i64 yi173,.sl 1 yl174,.sl 1 yl175,.sl 1 yl176,.sl 7 yl177,.sl 6 yl178,.sl 1 yl179,.sl 1 yl180,.sl 1 yl181,.sl 1 yl182,.sl 7 yl183])) j xl15 xi16 xs17 xi18 xi19 xl20 xl21 xl22 xl23 xl24 xl25 xl26 xl27 xl28 xl29
 |_=>none
def L32{R:Type}(G:ORC R)(k:Nat):Nat→St→(Ex→St→OV R)→OV R
 |2,S,K=>P32_2h.mat S fun vs=>rd32_2 G k K k vs
 |0,S,K=>P32_0h.mat S fun vs=>rd32_0 G k K k vs
 |_,_,_=>none
def f32{R:Type}(G:ORC R)(k:Nat)(al1:LV)(bs2:ByteArray)(bi3 bi4:Int)(bl5 bl6:LV)(bl7 bl8:LV)(bl9 bl10:LV)(bl11 bl12:LV)(bl13 bl14:LV)(K:LV→OV R):OV R:=
 (l32_0 G k al1 0 bs2 bi3 bi4 bl5 bl6 bl7 bl8 bl9 bl10 bl11 bl12 bl13 bl14 (fun ys136 yi137 yi138 yl139 yl140 yl141 yl142 yl143 yl144 yl145 yl146 yl147 yl148=>K [.str ys136,.int .i64 yi137,.int .i64 yi138,.sl 7 yl142,.sl 6 yl143,.sl 1 yl144]))
noncomputable def D32_2:LoopD:={id:=2,body:=loopAt 2 (bodyOf Try.f32),head:=P32_2h,out:=P32_2x,ret:=default}
theorem l32_2_is{R:Type}(G:ORC R)(k:Nat)(X:LV→OV R)(K:Ex→St→OV R)(xl99:LV)(xi100 xi101 xi102:Int)(xs103:ByteArray)(xi104 xi105:Int)(xl106 xl107:LV)(xl108 xl109:LV)(xl110 xl111:LV)(xl112 xl113:LV)(xl114 xl115:LV)(xi116:Int)(xs117:ByteArray)(xv118 xv119:V)(xv120 xv121:V)(xi122:Int):
 roundOf (TAB.env 32) G (L32 G k) D32_2 X K [.sl 7 xl99,.int .i64 xi100,.int .i64 xi101,.int .i64 xi102,.str xs103,.int .i64 xi104,.int .i64 xi105,.sl 1 xl106,.sl 1 xl107,.sl 1 xl108,.sl 7 xl109,.sl 6 xl110,.sl 1 xl111,.sl 1 xl112,.sl 1 xl113,.sl 1 xl114,.sl 7 xl115,.int .i64 xi116,.str xs117,xv118,xv119,xv120,xv121,.int .i64 xi122]=b32_2 G k (fun xl99 xi100 xi101 xi102 xs103 xi104 xi105 xl106 xl107 xl108 xl109 xl110 xl111 xl112 xl113 xl114 xl115 xi116 xs117 xv118 xv119 xv120 xv121 xi122=>X [.sl 7 xl99,.int .i64 xi100,.int .i64 xi101,.int .i64 xi102,.str xs103,.int .i64 xi104,.int .i64 xi105,.sl 1 xl106,.sl 1 xl107,.sl 1 xl108,.sl 7 xl109,.sl 6 xl110,.sl 1 xl111,.sl 1 xl112,.sl 1 xl113,.sl 1 xl114,.sl 7 xl115,.int .i64 xi116,.str xs117,xv118,xv119,xv120,xv121,.int .i64 xi122]) (fun yl149 yi150 ys151 yi152 yi153 yl154 yl155 yl156 yl157 yl158 yl159 yl160 yl161 yl162 yl163 yi164 ys165 yv166 yv167 yv168 yv169 yi170=>K .normal (P32_2x.inst [.sl 7 yl149,.int .i64 yi150,.str ys151,.int .i64 yi152,.int .i64 yi153,.sl 1 yl154,.sl 1 yl155,.sl 1 yl156,.sl 7 yl157,.sl 6 yl158,.sl 1 yl159,.sl 1 yl160,.sl 1 yl161,.sl 1 yl162,.sl 7 yl163,.int .i64 yi164,.str ys165,yv166,yv167,yv168,yv169,.int .i64 yi170])) xl99 xi100 xi101 xi102 xs103 xi104 xi105 xl106 xl107 xl108 xl109 xl110 xl111 xl112 xl113 xl114 xl115 xi116 xs117 xv118 xv119 xv120 xv121 xi122:=by kernel_rfl
noncomputable def D32_0:LoopD:={id:=0,body:=loopAt 0 (bodyOf Try.f32),head:=P32_0h,out:=P32_0x,ret:=default}
theorem l32_0_is{R:Type}(G:ORC R)(k:Nat)(X:LV→OV R)(K:Ex→St→OV R)(xl15:LV)(xi16:Int)(xs17:ByteArray)(xi18 xi19:Int)(xl20 xl21:LV)(xl22 xl23:LV)(xl24 xl25:LV)(xl26 xl27:LV)(xl28 xl29:LV):
 roundOf (TAB.env 32) G (L32 G k) D32_0 X K [.sl 7 xl15,.int .i64 xi16,.str xs17,.int .i64 xi18,.int .i64 xi19,.sl 1 xl20,.sl 1 xl21,.sl 1 xl22,.sl 7 xl23,.sl 6 xl24,.sl 1 xl25,.sl 1 xl26,.sl 1 xl27,.sl 1 xl28,.sl 7 xl29]=b32_0 G k (fun xl15 xi16 xs17 xi18 xi19 xl20 xl21 xl22 xl23 xl24 xl25 xl26 xl27 xl28 xl29=>X [.sl 7 xl15,.int .i64 xi16,.str xs17,.int .i64 xi18,.int .i64 xi19,.sl 1 xl20,.sl 1 xl21,.sl 1 xl22,.sl 7 xl23,.sl 6 xl24,.sl 1 xl25,.sl 1 xl26,.sl 1 xl27,.sl 1 xl28,.sl 7 xl29]) (fun ys171 yi172 yi173 yl174 yl175 yl176 yl177 yl178 yl179 yl180 yl181 yl182 yl183=>K .normal (P32_0x.inst [.str ys171,.int .i64 yi172,.int .i64 yi173,.sl 1 yl174,.sl 1 yl175,.sl 1 yl176,.sl 7 yl177,.sl 6 yl178,.sl 1 yl179,.sl 1 yl180,.sl 1 yl181,.sl 1 yl182,.sl 7 yl183])) xl15 xi16 xs17 xi18 xi19 xl20 xl21 xl22 xl23 xl24 xl25 xl26 xl27 xl28 xl29:=by kernel_rfl
theorem f32_is{R:Type}(G:ORC R)(k:Nat)(K:LV→OV R)(al1:LV)(bs2:ByteArray)(bi3 bi4:Int)(bl5 bl6:LV)(bl7 bl8:LV)(bl9 bl10:LV)(bl11 bl12:LV)(bl13 bl14:LV):
 callF (TAB.env 32) G (L32 G k) Try.f32 S32 [.sl 7 al1,.str bs2,.int .i64 bi3,.int .i64 bi4,.sl 1 bl5,.sl 1 bl6,.sl 1 bl7,.sl 7 bl8,.sl 6 bl9,.sl 1 bl10,.sl 1 bl11,.sl 1 bl12,.sl 1 bl13,.sl 7 bl14] K=f32 G k al1 bs2 bi3 bi4 bl5 bl6 bl7 bl8 bl9 bl10 bl11 bl12 bl13 bl14 K:=by kernel_rfl
theorem li32_2{R:Type}(G:ORC R)(k:Nat):LoopIs (TAB.env 32) G (L32 G k) 2 (loopAt 2 (bodyOf Try.f32)):=
 ⟨D32_2,fun j vs K=>rd32_2 G k K j vs,k,rfl,rfl,by kernel_rfl,by kernel_rfl,by kernel_rfl,(fun vs K=>by unfold rd32_2;dsimp only;split<;>rfl),
   (fun j vs K r h=>by
     unfold rd32_2 at h
     dsimp only at h
     split at h
     ·rw[l32_2_is];exact h
     ·cases h),(fun S K r h=>h)⟩
theorem li32_0{R:Type}(G:ORC R)(k:Nat):LoopIs (TAB.env 32) G (L32 G k) 0 (loopAt 0 (bodyOf Try.f32)):=
 ⟨D32_0,fun j vs K=>rd32_0 G k K j vs,k,rfl,rfl,by kernel_rfl,by kernel_rfl,by kernel_rfl,(fun vs K=>by unfold rd32_0;dsimp only;split<;>rfl),
   (fun j vs K r h=>by
     unfold rd32_0 at h
     dsimp only at h
     split at h
     ·rw[l32_0_is];exact h
     ·cases h),(fun S K r h=>h)⟩
theorem lo32:loopsOf (bodyOf Try.f32)=[(0,loopAt 0 (bodyOf Try.f32)),(2,loopAt 2 (bodyOf Try.f32))]:=by kernel_rfl
theorem la32{R:Type}(G:ORC R)(k:Nat):LoopsAre (TAB.env 32) G (L32 G k) (bodyOf Try.f32):=
 loopsAre_of (by rw[lo32];intro p hp;simp only[List.mem_cons,List.not_mem_nil,or_false]at hp;rcases hp with rfl|rfl<;>first|exact li32_0 G k|exact li32_2 G k)
def g32{R:Type}(G:ORC R)(k:Nat)(args:LV)(K:LV→OV R):OV R:=match args with
 | [.sl 7 al1,.str bs2,.int .i64 bi3,.int .i64 bi4,.sl 1 bl5,.sl 1 bl6,.sl 1 bl7,.sl 7 bl8,.sl 6 bl9,.sl 1 bl10,.sl 1 bl11,.sl 1 bl12,.sl 1 bl13,.sl 7 bl14]=>f32 G k al1 bs2 bi3 bi4 bl5 bl6 bl7 bl8 bl9 bl10 bl11 bl12 bl13 bl14 K
 |_=>none
theorem s32{R:Type}{G:ORC R}{k:Nat}(hG:Sound Try.prog TAB G)(args:LV)(K:LV→OV R)(r:R)(h:g32 G k args K=some r):∃o,CallOK Try.prog TAB.env 32 args o∧K o=some r:=by
 unfold g32 at h
 split at h
 ·rw[←f32_is]at h
  exact callF_sound (f:=32) TAB_chk MO hG Try.func32 (sg:=S32) (by kernel_rfl) (by kernel_rfl) (la32 G k) h
 ·cases h
def P15_0h:Pat:={tmps:=unds [.undef,.stat (.one (.ptr 1 0) .pt),.stat (.one (.ptr 2 0) .pt),.stat (.one (.ptr 8 0) .pt),.var (.int .i64) .pr] 54 [],boxes:=nons [none,some [.var .str .pr false,.var (.int .i64) .pr false,.var (.int .i64) .pr false,.var (.sl 3) .ro false,.var (.sl 3) .ro false,.var (.sl 3) .ro false,.var (.sl 7) .ro false,.var (.int .i64) .pr false],some [.var .str .pr false,.var (.int .i64) .pr false,.var (.int .i64) .pr false,.var (.sl 1) (.own true) false,.var (.sl 1) (.own true) false,.var (.sl 1) (.own true) false,.var (.sl 7) (.own true) false,.var (.sl 6) (.own true) false,.var (.sl 1) (.own true) false]] 5 (nons [some [.var .str .pr false,.var (.int .i64) .pr false,.var (.int .i64) .pr false,.var (.sl 1) (.own true) false,.var (.sl 1) .ro false,.var (.sl 1) .ro false,.var (.sl 7) (.own true) false,.var (.sl 6) (.own true) false,.var (.sl 1) (.own true) false,.var (.sl 1) .ro false,.var (.sl 1) .ro false,.var (.sl 1) .ro false,.var (.sl 7) .ro false]] 50 [])}
def P15_0x:Pat:={tmps:=unds [.undef,.stat (.one (.ptr 1 0) .pt),.stat (.one (.ptr 2 0) .pt),.stat (.one (.ptr 8 0) .pt)] 55 [],boxes:=nons [none,some [.var .str .pr false,.var (.int .i64) .pr false,.var (.int .i64) .pr false,.var (.sl 3) .ro false,.var (.sl 3) .ro false,.var (.sl 3) .ro false,.var (.sl 7) .ro false,.var (.int .i64) .pr false],some [.var .str .pr false,.var (.int .i64) .pr false,.var (.int .i64) .pr false,.var (.sl 1) (.own true) false,.var (.sl 1) (.own true) false,.var (.sl 1) (.own true) false,.var (.sl 7) (.own true) false,.var (.sl 6) (.own true) false,.var (.sl 1) (.own true) false]] 5 (nons [some [.var .str .pr false,.var (.int .i64) .pr false,.var (.int .i64) .pr false,.var (.sl 1) (.own true) false,.var (.sl 1) .ro false,.var (.sl 1) .ro false,.var (.sl 7) (.own true) false,.var (.sl 6) (.own true) false,.var (.sl 1) (.own true) false,.var (.sl 1) .ro false,.var (.sl 1) .ro false,.var (.sl 1) .ro false,.var (.sl 7) .ro false]] 50 [])}
def b15_0{R:Type}(G:ORC R)(k:Nat)(X:Int→ByteArray→Int→Int→LV→LV→LV→LV→Int→ByteArray→Int→Int→LV→LV→LV→LV→LV→LV→ByteArray→Int→Int→LV→LV→LV→LV→LV→LV→LV→LV→LV→LV→OV R)(Ko:ByteArray→Int→Int→LV→LV→LV→LV→Int→ByteArray→Int→Int→LV→LV→LV→LV→LV→LV→ByteArray→Int→Int→LV→LV→LV→LV→LV→LV→LV→LV→LV→LV→OV R)(xi29:Int)(xs30:ByteArray)(xi31 xi32:Int)(xl33 xl34:LV)(xl35 xl36:LV)(xi37:Int)(xs38:ByteArray)(xi39 xi40:Int)(xl41 xl42:LV)(xl43 xl44:LV)(xl45 xl46:LV)(xs47:ByteArray)(xi48 xi49:Int)(xl50 xl51:LV)(xl52 xl53:LV)(xl54 xl55:LV)(xl56 xl57:LV)(xl58 xl59:LV):OV R:=
 (bif(decide (xi29<(xl33.length:Int)))then(bif((decide (0≤xi29))&&(decide (xi29<(xl33.length:Int))))then(nthK xl33 (Int.toNat xi29) fun e60=>ca3 e60 fun c61 c62 c63=>aI .i64 c62 fun n64=>bif(decide (List.length xl50+1≤1073741824))then(X (IntKind.i64.wrap (xi29+1)) xs30 xi31 xi32 xl33 xl34 xl35 xl36 xi37 xs38 xi39 xi40 xl41 xl42 xl43 xl44 xl45 xl46 xs47 xi48 xi49 (xl50++[.int .i64 n64]) xl51 xl52 xl53 xl54 xl55 xl56 xl57 xl58 xl59)else none)else none)else(Ko xs30 xi31 xi32 xl33 xl34 xl35 xl36 xi37 xs38 xi39 xi40 xl41 xl42 xl43 xl44 xl45 xl46 xs47 xi48 xi49 xl50 xl51 xl52 xl53 xl54 xl55 xl56 xl57 xl58 xl59))
def l15_0g{R:Type}(G:ORC R)(k:Nat)(Ko:ByteArray→Int→Int→LV→LV→LV→LV→Int→ByteArray→Int→Int→LV→LV→LV→LV→LV→LV→ByteArray→Int→Int→LV→LV→LV→LV→LV→LV→LV→LV→LV→LV→OV R):Nat→Int→ByteArray→Int→Int→LV→LV→LV→LV→Int→ByteArray→Int→Int→LV→LV→LV→LV→LV→LV→ByteArray→Int→Int→LV→LV→LV→LV→LV→LV→LV→LV→LV→LV→OV R
 |0=>fun _ _ _ _ _ _ _ _ _ _ _ _ _ _ _ _ _ _ _ _ _ _ _ _ _ _ _ _ _ _ _=>none
 |j+1=>b15_0 G k (l15_0g G k Ko j) Ko
def l15_0{R:Type}(G:ORC R)(k:Nat)(xi29:Int)(xs30:ByteArray)(xi31 xi32:Int)(xl33 xl34:LV)(xl35 xl36:LV)(xi37:Int)(xs38:ByteArray)(xi39 xi40:Int)(xl41 xl42:LV)(xl43 xl44:LV)(xl45 xl46:LV)(xs47:ByteArray)(xi48 xi49:Int)(xl50 xl51:LV)(xl52 xl53:LV)(xl54 xl55:LV)(xl56 xl57:LV)(xl58 xl59:LV)(Ko:ByteArray→Int→Int→LV→LV→LV→LV→Int→ByteArray→Int→Int→LV→LV→LV→LV→LV→LV→ByteArray→Int→Int→LV→LV→LV→LV→LV→LV→LV→LV→LV→LV→OV R):OV R:=l15_0g G k Ko k xi29 xs30 xi31 xi32 xl33 xl34 xl35 xl36 xi37 xs38 xi39 xi40 xl41 xl42 xl43 xl44 xl45 xl46 xs47 xi48 xi49 xl50 xl51 xl52 xl53 xl54 xl55 xl56 xl57 xl58 xl59
def rd15_0{R:Type}(G:ORC R)(k:Nat)(K:Ex→St→OV R)(j:Nat)(vs:LV):OV R:=match vs with
 | [.int .i64 xi29,.str xs30,.int .i64 xi31,.int .i64 xi32,.sl 3 xl33,.sl 3 xl34,.sl 3 xl35,.sl 7 xl36,.int .i64 xi37,.str xs38,.int .i64 xi39,.int .i64 xi40,.sl 1 xl41,.sl 1 xl42,.sl 1 xl43,.sl 7 xl44,.sl 6 xl45,.sl 1 xl46,.str xs47,.int .i64 xi48,.int .i64 xi49,.sl 1 xl50,.sl 1 xl51,.sl 1 xl52,.sl 7 xl53,.sl 6 xl54,.sl 1 xl55,.sl 1 xl56,.sl 1 xl57,.sl 1 xl58,.sl 7 xl59]=>l15_0g G k (fun ys108 yi109 yi110 yl111 yl112 yl113 yl114 yi115 ys116 yi117 yi118 yl119 yl120 yl121 yl122 yl123 yl124 ys125 yi126 yi127 yl128 yl129 yl130 yl131 yl132 yl133 yl134 yl135 yl136 yl137=>K .normal (P15_0x.inst [.str ys108,.int .i64 yi109,.int .i64 yi110,.sl 3 yl111,.sl 3 yl112,.sl 3 yl113,.sl 7 yl114,.int .i64 yi115,.str ys116,.int .i64 yi117,.int .i64 yi118,.sl 1 yl119,.sl 1 yl120,.sl 1 yl121,.sl 7 yl122,.sl 6 yl123,.sl 1 yl124,.str ys125,.int .i64 yi126,.int .i64 yi127,.sl 1 yl128,.sl 1 yl129,.sl 1 yl130,.sl 7 yl131,.sl 6 yl132,.sl 1 yl133,.sl 1 yl134,.sl 1 yl135,.sl 1 yl136,.sl 7 yl137])) j xi29 xs30 xi31 xi32 xl33 xl34 xl35 xl36 xi37 xs38 xi39 xi40 xl41 xl42 xl43 xl44 xl45 xl46 xs47 xi48 xi49 xl50 xl51 xl52 xl53 xl54 xl55 xl56 xl57 xl58 xl59
 |_=>none
def L15{R:Type}(G:ORC R)(k:Nat):Nat→St→(Ex→St→OV R)→OV R
 |0,S,K=>P15_0h.mat S fun vs=>rd15_0 G k K k vs
 |_,_,_=>none
def f15{R:Type}(G:ORC R)(k:Nat)(as1:ByteArray)(ai2 ai3:Int)(al4 al5:LV)(al6 al7:LV)(ai8:Int)(K:LV→OV R):OV R:=
 (G 29 [.agg [.str as1,.int .i64 ai2,.int .i64 ai3,.sl 3 al4,.sl 3 al5,.sl 3 al6,.sl 7 al7,.int .i64 ai8]] fun o9=>uA o9 fun l11 r10=>uL 1 l11 fun l13 r12=>uL 1 r12 fun l15 r14=>uL 1 r14 fun l17 r16=>uL 7 r16 fun l19 r18=>unNil r18 (unNil r10 (G 30 [.sl 3 al5] fun o20=>uL 1 o20 fun l22 r21=>unNil r21 (G 30 [.sl 3 al6] fun o23=>uL 1 o23 fun l25 r24=>unNil r24 (G 31 [.agg [.str as1,.int .i64 ai2,.int .i64 ai3,.sl 3 al4,.sl 3 al5,.sl 3 al6,.sl 7 al7,.int .i64 ai8]] fun o26=>uL 7 o26 fun l28 r27=>unNil r27 (l15_0 G k 0 as1 ai2 ai3 al4 al5 al6 al7 ai8 ⟨#[]⟩ 0 0 [] [] [] [] [] [] as1 ai2 ai3 [] l22 l25 l28 [] [] l13 l15 l17 l19 (fun ys65 yi66 yi67 yl68 yl69 yl70 yl71 yi72 ys73 yi74 yi75 yl76 yl77 yl78 yl79 yl80 yl81 ys82 yi83 yi84 yl85 yl86 yl87 yl88 yl89 yl90 yl91 yl92 yl93 yl94=>G 32 [.sl 7 yl71,.str ys82,.int .i64 yi83,.int .i64 yi84,.sl 1 yl85,.sl 1 yl86,.sl 1 yl87,.sl 7 yl88,.sl 6 yl89,.sl 1 yl90,.sl 1 yl91,.sl 1 yl92,.sl 1 yl93,.sl 7 yl94] fun o95=>uS o95 fun s97 r96=>uI .i64 r96 fun n99 r98=>uI .i64 r98 fun n101 r100=>uL 7 r100 fun l103 r102=>uL 6 r102 fun l105 r104=>uL 1 r104 fun l107 r106=>unNil r106 (K [.agg [.str s97,.int .i64 n99,.int .i64 n101,.sl 1 yl85,.sl 1 yl86,.sl 1 yl87,.sl 7 l103,.sl 6 l105,.sl 1 l107]]))))))))
noncomputable def D15_0:LoopD:={id:=0,body:=loopAt 0 (bodyOf Try.f15),head:=P15_0h,out:=P15_0x,ret:=default}
theorem l15_0_is{R:Type}(G:ORC R)(k:Nat)(X:LV→OV R)(K:Ex→St→OV R)(xi29:Int)(xs30:ByteArray)(xi31 xi32:Int)(xl33 xl34:LV)(xl35 xl36:LV)(xi37:Int)(xs38:ByteArray)(xi39 xi40:Int)(xl41 xl42:LV)(xl43 xl44:LV)(xl45 xl46:LV)(xs47:ByteArray)(xi48 xi49:Int)(xl50 xl51:LV)(xl52 xl53:LV)(xl54 xl55:LV)(xl56 xl57:LV)(xl58 xl59:LV):
 roundOf (TAB.env 15) G (L15 G k) D15_0 X K [.int .i64 xi29,.str xs30,.int .i64 xi31,.int .i64 xi32,.sl 3 xl33,.sl 3 xl34,.sl 3 xl35,.sl 7 xl36,.int .i64 xi37,.str xs38,.int .i64 xi39,.int .i64 xi40,.sl 1 xl41,.sl 1 xl42,.sl 1 xl43,.sl 7 xl44,.sl 6 xl45,.sl 1 xl46,.str xs47,.int .i64 xi48,.int .i64 xi49,.sl 1 xl50,.sl 1 xl51,.sl 1 xl52,.sl 7 xl53,.sl 6 xl54,.sl 1 xl55,.sl 1 xl56,.sl 1 xl57,.sl 1 xl58,.sl 7 xl59]=b15_0 G k (fun xi29 xs30 xi31 xi32 xl33 xl34 xl35 xl36 xi37 xs38 xi39 xi40 xl41 xl42 xl43 xl44 xl45 xl46 xs47 xi48 xi49 xl50 xl51 xl52 xl53 xl54 xl55 xl56 xl57 xl58 xl59=>X [.int .i64 xi29,.str xs30,.int .i64 xi31,.int .i64 xi32,.sl 3 xl33,.sl 3 xl34,.sl 3 xl35,.sl 7 xl36,.int .i64 xi37,.str xs38,.int .i64 xi39,.int .i64 xi40,.sl 1 xl41,.sl 1 xl42,.sl 1 xl43,.sl 7 xl44,.sl 6 xl45,.sl 1 xl46,.str xs47,.int .i64 xi48,.int .i64 xi49,.sl 1 xl50,.sl 1 xl51,.sl 1 xl52,.sl 7 xl53,.sl 6 xl54,.sl 1 xl55,.sl 1 xl56,.sl 1 xl57,.sl 1 xl58,.sl 7 xl59]) (fun ys108 yi109 yi110 yl111 yl112 yl113 yl114 yi115 ys116 yi117 yi118 yl119 yl120 yl121 yl122 yl123 yl124 ys125 yi126 yi127 yl128 yl129 yl130 yl131 yl132 yl133 yl134 yl135 yl136 yl137=>K .normal (P15_0x.inst [.str ys108,.int .i64 yi109,.int .i64 yi110,.sl 3 yl111,.sl 3 yl112,.sl 3 yl113,.sl 7 yl114,.int .i64 yi115,.str ys116,.int .i64 yi117,.int .i64 yi118,.sl 1 yl119,.sl 1 yl120,.sl 1 yl121,.sl 7 yl122,.sl 6 yl123,.sl 1 yl124,.str ys125,.int .i64 yi126,.int .i64 yi127,.sl 1 yl128,.sl 1 yl129,.sl 1 yl130,.sl 7 yl131,.sl 6 yl132,.sl 1 yl133,.sl 1 yl134,.sl 1 yl135,.sl 1 yl136,.sl 7 yl137])) xi29 xs30 xi31 xi32 xl33 xl34 xl35 xl36 xi37 xs38 xi39 xi40 xl41 xl42 xl43 xl44 xl45 xl46 xs47 xi48 xi49 xl50 xl51 xl52 xl53 xl54 xl55 xl56 xl57 xl58 xl59:=by kernel_rfl
theorem f15_is{R:Type}(G:ORC R)(k:Nat)(K:LV→OV R)(as1:ByteArray)(ai2 ai3:Int)(al4 al5:LV)(al6 al7:LV)(ai8:Int):
 callF (TAB.env 15) G (L15 G k) Try.f15 S15 [.agg [.str as1,.int .i64 ai2,.int .i64 ai3,.sl 3 al4,.sl 3 al5,.sl 3 al6,.sl 7 al7,.int .i64 ai8]] K=f15 G k as1 ai2 ai3 al4 al5 al6 al7 ai8 K:=by kernel_rfl
theorem li15_0{R:Type}(G:ORC R)(k:Nat):LoopIs (TAB.env 15) G (L15 G k) 0 (loopAt 0 (bodyOf Try.f15)):=
 ⟨D15_0,fun j vs K=>rd15_0 G k K j vs,k,rfl,rfl,by kernel_rfl,by kernel_rfl,by kernel_rfl,(fun vs K=>by unfold rd15_0;dsimp only;split<;>rfl),
   (fun j vs K r h=>by
     unfold rd15_0 at h
     dsimp only at h
     split at h
     ·rw[l15_0_is];exact h
     ·cases h),(fun S K r h=>h)⟩
theorem lo15:loopsOf (bodyOf Try.f15)=[(0,loopAt 0 (bodyOf Try.f15))]:=by kernel_rfl
theorem la15{R:Type}(G:ORC R)(k:Nat):LoopsAre (TAB.env 15) G (L15 G k) (bodyOf Try.f15):=
 loopsAre_of (by rw[lo15];intro p hp;simp only[List.mem_cons,List.not_mem_nil,or_false]at hp;subst hp;exact li15_0 G k)
def g15{R:Type}(G:ORC R)(k:Nat)(args:LV)(K:LV→OV R):OV R:=match args with
 | [.agg [.str as1,.int .i64 ai2,.int .i64 ai3,.sl 3 al4,.sl 3 al5,.sl 3 al6,.sl 7 al7,.int .i64 ai8]]=>f15 G k as1 ai2 ai3 al4 al5 al6 al7 ai8 K
 |_=>none
theorem s15{R:Type}{G:ORC R}{k:Nat}(hG:Sound Try.prog TAB G)(args:LV)(K:LV→OV R)(r:R)(h:g15 G k args K=some r):∃o,CallOK Try.prog TAB.env 15 args o∧K o=some r:=by
 unfold g15 at h
 split at h
 ·rw[←f15_is]at h
  exact callF_sound (f:=15) TAB_chk MO hG Try.func15 (sg:=S15) (by kernel_rfl) (by kernel_rfl) (la15 G k) h
 ·cases h
def L5{R:Type}(_:ORC R)(_:Nat):Nat→St→(Ex→St→OV R)→OV R:=fun _ _ _=>none
def f5{R:Type}(G:ORC R)(k:Nat)(al1:LV)(K:LV→OV R):OV R:=
 (G 16 [.str ⟨#[99]⟩,.int .i64 2,.sl 1 al1,.int .i64 0] fun o2=>uA o2 fun l4 r3=>uS l4 fun s6 r5=>uI .i64 r5 fun n8 r7=>uI .i64 r7 fun n10 r9=>uL 3 r9 fun l12 r11=>uL 3 r11 fun l14 r13=>uL 3 r13 fun l16 r15=>uL 7 r15 fun l18 r17=>uI .i64 r17 fun n20 r19=>unNil r19 (uI .i64 r3 fun n22 r21=>unNil r21 (G 15 [.agg [.str s6,.int .i64 n8,.int .i64 n10,.sl 3 l12,.sl 3 l14,.sl 3 l16,.sl 7 l18,.int .i64 n20]] fun o23=>uA o23 fun l25 r24=>uS l25 fun s27 r26=>uI .i64 r26 fun n29 r28=>uI .i64 r28 fun n31 r30=>uL 1 r30 fun l33 r32=>uL 1 r32 fun l35 r34=>uL 1 r34 fun l37 r36=>uL 7 r36 fun l39 r38=>uL 6 r38 fun l41 r40=>uL 1 r40 fun l43 r42=>unNil r42 (unNil r24 (K [.agg [.str s27,.int .i64 n29,.int .i64 n31,.sl 1 l33,.sl 1 l35,.sl 1 l37,.sl 7 l39,.sl 6 l41,.sl 1 l43]])))))
theorem f5_is{R:Type}(G:ORC R)(k:Nat)(K:LV→OV R)(al1:LV):
 callF (TAB.env 5) G (L5 G k) Try.f5 S5 [.sl 1 al1] K=f5 G k al1 K:=by kernel_rfl
theorem lo5:loopsOf (bodyOf Try.f5)=[]:=by kernel_rfl
theorem la5{R:Type}(G:ORC R)(k:Nat):LoopsAre (TAB.env 5) G (L5 G k) (bodyOf Try.f5):=
 loopsAre_of (by rw[lo5];intro p hp;cases hp)
def g5{R:Type}(G:ORC R)(k:Nat)(args:LV)(K:LV→OV R):OV R:=match args with
 | [.sl 1 al1]=>f5 G k al1 K
 |_=>none
theorem s5{R:Type}{G:ORC R}{k:Nat}(hG:Sound Try.prog TAB G)(args:LV)(K:LV→OV R)(r:R)(h:g5 G k args K=some r):∃o,CallOK Try.prog TAB.env 5 args o∧K o=some r:=by
 unfold g5 at h
 split at h
 ·rw[←f5_is]at h
  exact callF_sound (f:=5) TAB_chk MO hG Try.func5 (sg:=S5) (by kernel_rfl) (by kernel_rfl) (la5 G k) h
 ·cases h
def P74_0h:Pat:={tmps:=unds [.var (.sl 7) .ro,.var (.int .i64) .pr,.undef,.undef,.undef,.var (.sl 1) (.own true),.var (.int .i64) .pr] 23 [],boxes:=nons [] 30 []}
def P74_0x:Pat:={tmps:=unds [] 5 (unds [.var (.sl 1) (.own true)] 24 []),boxes:=nons [] 30 []}
def b74_0{R:Type}(G:ORC R)(k:Nat)(X:LV→Int→LV→Int→OV R)(Ko:LV→OV R)(xl3:LV)(xi4:Int)(xl5:LV)(xi6:Int):OV R:=
 (bif(decide (xi6<(xl3.length:Int)))then(G 70 [.sl 7 xl3,.int .i64 xi4] fun o7=>uB o7 fun b9 r8=>unNil r8 (bif b9 then(bif((decide (0≤xi6))&&(decide (xi6<(xl3.length:Int))))then(nthK xl3 (Int.toNat xi6) fun e10=>ca7 e10 fun c11 c12 c13 c14 c15 c16 c17=>aI .i64 c12 fun n18=>bif(n18==xi4)then(bif(decide (List.length xl5+1≤1073741824))then(X xl3 xi4 (xl5++[.int .i64 xi6]) (IntKind.i64.wrap (xi6+1)))else none)else(X xl3 xi4 xl5 (IntKind.i64.wrap (xi6+1))))else none)else(Ko xl5)))else(Ko xl5))
def l74_0g{R:Type}(G:ORC R)(k:Nat)(Ko:LV→OV R):Nat→LV→Int→LV→Int→OV R
 |0=>fun _ _ _ _=>none
 |j+1=>b74_0 G k (l74_0g G k Ko j) Ko
def l74_0{R:Type}(G:ORC R)(k:Nat)(xl3:LV)(xi4:Int)(xl5:LV)(xi6:Int)(Ko:LV→OV R):OV R:=l74_0g G k Ko k xl3 xi4 xl5 xi6
def rd74_0{R:Type}(G:ORC R)(k:Nat)(K:Ex→St→OV R)(j:Nat)(vs:LV):OV R:=match vs with
 | [.sl 7 xl3,.int .i64 xi4,.sl 1 xl5,.int .i64 xi6]=>l74_0g G k (fun yl20=>K .normal (P74_0x.inst [.sl 1 yl20])) j xl3 xi4 xl5 xi6
 |_=>none
def L74{R:Type}(G:ORC R)(k:Nat):Nat→St→(Ex→St→OV R)→OV R
 |0,S,K=>P74_0h.mat S fun vs=>rd74_0 G k K k vs
 |_,_,_=>none
def f74{R:Type}(G:ORC R)(k:Nat)(al1:LV)(ai2:Int)(K:LV→OV R):OV R:=
 (l74_0 G k al1 ai2 [] 0 (fun yl19=>K [.sl 1 yl19]))
noncomputable def D74_0:LoopD:={id:=0,body:=loopAt 0 (bodyOf Try.f74),head:=P74_0h,out:=P74_0x,ret:=default}
theorem l74_0_is{R:Type}(G:ORC R)(k:Nat)(X:LV→OV R)(K:Ex→St→OV R)(xl3:LV)(xi4:Int)(xl5:LV)(xi6:Int):
 roundOf (TAB.env 74) G (L74 G k) D74_0 X K [.sl 7 xl3,.int .i64 xi4,.sl 1 xl5,.int .i64 xi6]=b74_0 G k (fun xl3 xi4 xl5 xi6=>X [.sl 7 xl3,.int .i64 xi4,.sl 1 xl5,.int .i64 xi6]) (fun yl20=>K .normal (P74_0x.inst [.sl 1 yl20])) xl3 xi4 xl5 xi6:=by kernel_rfl
theorem f74_is{R:Type}(G:ORC R)(k:Nat)(K:LV→OV R)(al1:LV)(ai2:Int):
 callF (TAB.env 74) G (L74 G k) Try.f74 S74 [.sl 7 al1,.int .i64 ai2] K=f74 G k al1 ai2 K:=by kernel_rfl
theorem li74_0{R:Type}(G:ORC R)(k:Nat):LoopIs (TAB.env 74) G (L74 G k) 0 (loopAt 0 (bodyOf Try.f74)):=
 ⟨D74_0,fun j vs K=>rd74_0 G k K j vs,k,rfl,rfl,by kernel_rfl,by kernel_rfl,by kernel_rfl,(fun vs K=>by unfold rd74_0;dsimp only;split<;>rfl),
   (fun j vs K r h=>by
     unfold rd74_0 at h
     dsimp only at h
     split at h
     ·rw[l74_0_is];exact h
     ·cases h),(fun S K r h=>h)⟩
theorem lo74:loopsOf (bodyOf Try.f74)=[(0,loopAt 0 (bodyOf Try.f74))]:=by kernel_rfl
theorem la74{R:Type}(G:ORC R)(k:Nat):LoopsAre (TAB.env 74) G (L74 G k) (bodyOf Try.f74):=
 loopsAre_of (by rw[lo74];intro p hp;simp only[List.mem_cons,List.not_mem_nil,or_false]at hp;subst hp;exact li74_0 G k)
def g74{R:Type}(G:ORC R)(k:Nat)(args:LV)(K:LV→OV R):OV R:=match args with
 | [.sl 7 al1,.int .i64 ai2]=>f74 G k al1 ai2 K
 |_=>none
theorem s74{R:Type}{G:ORC R}{k:Nat}(hG:Sound Try.prog TAB G)(args:LV)(K:LV→OV R)(r:R)(h:g74 G k args K=some r):∃o,CallOK Try.prog TAB.env 74 args o∧K o=some r:=by
 unfold g74 at h
 split at h
 ·rw[←f74_is]at h
  exact callF_sound (f:=74) TAB_chk MO hG Try.func74 (sg:=S74) (by kernel_rfl) (by kernel_rfl) (la74 G k) h
 ·cases h
def P19_0h:Pat:={tmps:=unds [.var (.sl 1) .ro,.var (.int .i64) .pr,.undef,.undef,.undef,.var (.int .i64) .pr] 12 [],boxes:=nons [] 18 []}
def P19_0x:Pat:={tmps:=unds [] 18 [],boxes:=nons [] 18 []}
def P19_0r:Pat:={tmps:=unds [.undef,.undef,.undef,.undef,.var .bool .pr] 13 [],boxes:=nons [] 18 []}
def b19_0{R:Type}(G:ORC R)(k:Nat)(X:LV→Int→Int→OV R)(Ko:Unit→OV R)(Kr:Bool→OV R)(xl3:LV)(xi4 xi5:Int):OV R:=
 (bif(decide (xi5<(xl3.length:Int)))then(bif((decide (0≤xi5))&&(decide (xi5<(xl3.length:Int))))then(nthK xl3 (Int.toNat xi5) fun e6=>aI .i64 e6 fun n7=>bif(n7==xi4)then(Kr true)else(X xl3 xi4 (IntKind.i64.wrap (xi5+1))))else none)else(Ko ()))
def l19_0g{R:Type}(G:ORC R)(k:Nat)(Ko:Unit→OV R)(Kr:Bool→OV R):Nat→LV→Int→Int→OV R
 |0=>fun _ _ _=>none
 |j+1=>b19_0 G k (l19_0g G k Ko Kr j) Ko Kr
def l19_0{R:Type}(G:ORC R)(k:Nat)(xl3:LV)(xi4 xi5:Int)(Ko:Unit→OV R)(Kr:Bool→OV R):OV R:=l19_0g G k Ko Kr k xl3 xi4 xi5
def rd19_0{R:Type}(G:ORC R)(k:Nat)(K:Ex→St→OV R)(j:Nat)(vs:LV):OV R:=match vs with
 | [.sl 1 xl3,.int .i64 xi4,.int .i64 xi5]=>l19_0g G k (fun _=>K .normal (P19_0x.inst [])) (fun yb9=>K .ret (P19_0r.inst [.bool yb9])) j xl3 xi4 xi5
 |_=>none
def L19{R:Type}(G:ORC R)(k:Nat):Nat→St→(Ex→St→OV R)→OV R
 |0,S,K=>P19_0h.mat S fun vs=>rd19_0 G k K k vs
 |_,_,_=>none
def f19{R:Type}(G:ORC R)(k:Nat)(al1:LV)(ai2:Int)(K:LV→OV R):OV R:=
 (l19_0 G k al1 ai2 0 (fun(_:Unit)=>K [.bool false]) (fun yb8=>K [.bool yb8]))
noncomputable def D19_0:LoopD:={id:=0,body:=loopAt 0 (bodyOf Try.f19),head:=P19_0h,out:=P19_0x,ret:=P19_0r}
theorem l19_0_is{R:Type}(G:ORC R)(k:Nat)(X:LV→OV R)(K:Ex→St→OV R)(xl3:LV)(xi4 xi5:Int):
 roundOf (TAB.env 19) G (L19 G k) D19_0 X K [.sl 1 xl3,.int .i64 xi4,.int .i64 xi5]=b19_0 G k (fun xl3 xi4 xi5=>X [.sl 1 xl3,.int .i64 xi4,.int .i64 xi5]) (fun _=>K .normal (P19_0x.inst [])) (fun yb9=>K .ret (P19_0r.inst [.bool yb9])) xl3 xi4 xi5:=by kernel_rfl
theorem f19_is{R:Type}(G:ORC R)(k:Nat)(K:LV→OV R)(al1:LV)(ai2:Int):
 callF (TAB.env 19) G (L19 G k) Try.f19 S19 [.sl 1 al1,.int .i64 ai2] K=f19 G k al1 ai2 K:=by kernel_rfl
theorem li19_0{R:Type}(G:ORC R)(k:Nat):LoopIs (TAB.env 19) G (L19 G k) 0 (loopAt 0 (bodyOf Try.f19)):=
 ⟨D19_0,fun j vs K=>rd19_0 G k K j vs,k,rfl,rfl,by kernel_rfl,by kernel_rfl,by kernel_rfl,(fun vs K=>by unfold rd19_0;dsimp only;split<;>rfl),
   (fun j vs K r h=>by
     unfold rd19_0 at h
     dsimp only at h
     split at h
     ·rw[l19_0_is];exact h
     ·cases h),(fun S K r h=>h)⟩
theorem lo19:loopsOf (bodyOf Try.f19)=[(0,loopAt 0 (bodyOf Try.f19))]:=by kernel_rfl
theorem la19{R:Type}(G:ORC R)(k:Nat):LoopsAre (TAB.env 19) G (L19 G k) (bodyOf Try.f19):=
 loopsAre_of (by rw[lo19];intro p hp;simp only[List.mem_cons,List.not_mem_nil,or_false]at hp;subst hp;exact li19_0 G k)
def g19{R:Type}(G:ORC R)(k:Nat)(args:LV)(K:LV→OV R):OV R:=match args with
 | [.sl 1 al1,.int .i64 ai2]=>f19 G k al1 ai2 K
 |_=>none
theorem s19{R:Type}{G:ORC R}{k:Nat}(hG:Sound Try.prog TAB G)(args:LV)(K:LV→OV R)(r:R)(h:g19 G k args K=some r):∃o,CallOK Try.prog TAB.env 19 args o∧K o=some r:=by
 unfold g19 at h
 split at h
 ·rw[←f19_is]at h
  exact callF_sound (f:=19) TAB_chk MO hG Try.func19 (sg:=S19) (by kernel_rfl) (by kernel_rfl) (la19 G k) h
 ·cases h
def P64_0h:Pat:={tmps:=unds [.var (.sl 7) .ro,.undef,.undef,.undef,.undef,.var (.sl 1) (.own true),.var (.sl 1) .ro,.var (.int .i64) .pr] 25 [],boxes:=nons [] 33 []}
def P64_0x:Pat:={tmps:=unds [] 5 (unds [.var (.sl 1) (.own true)] 27 []),boxes:=nons [] 33 []}
def b64_0{R:Type}(G:ORC R)(k:Nat)(X:LV→LV→LV→Int→OV R)(Ko:LV→OV R)(xl6 xl7 xl8:LV)(xi9:Int):OV R:=
 (bif(decide (xi9<(xl8.length:Int)))then(bif((decide (0≤xi9))&&(decide (xi9<(xl8.length:Int))))then(nthK xl8 (Int.toNat xi9) fun e10=>aI .i64 e10 fun n11=>bif((decide (0≤n11))&&(decide (n11<(xl6.length:Int))))then(nthK xl6 (Int.toNat n11) fun e12=>V.asAgg e12 fun l13=>G 46 [.agg l13] fun o14=>uB o14 fun b16 r15=>unNil r15 (bif b16 then(bif((decide (0≤xi9))&&(decide (xi9<(xl8.length:Int))))then(nthK xl8 (Int.toNat xi9) fun e17=>aI .i64 e17 fun n18=>bif(decide (List.length xl7+1≤1073741824))then(X xl6 (xl7++[.int .i64 n18]) xl8 (IntKind.i64.wrap (xi9+1)))else none)else none)else(X xl6 xl7 xl8 (IntKind.i64.wrap (xi9+1)))))else none)else none)else(Ko xl7))
def l64_0g{R:Type}(G:ORC R)(k:Nat)(Ko:LV→OV R):Nat→LV→LV→LV→Int→OV R
 |0=>fun _ _ _ _=>none
 |j+1=>b64_0 G k (l64_0g G k Ko j) Ko
def l64_0{R:Type}(G:ORC R)(k:Nat)(xl6 xl7 xl8:LV)(xi9:Int)(Ko:LV→OV R):OV R:=l64_0g G k Ko k xl6 xl7 xl8 xi9
def rd64_0{R:Type}(G:ORC R)(k:Nat)(K:Ex→St→OV R)(j:Nat)(vs:LV):OV R:=match vs with
 | [.sl 7 xl6,.sl 1 xl7,.sl 1 xl8,.int .i64 xi9]=>l64_0g G k (fun yl20=>K .normal (P64_0x.inst [.sl 1 yl20])) j xl6 xl7 xl8 xi9
 |_=>none
def L64{R:Type}(G:ORC R)(k:Nat):Nat→St→(Ex→St→OV R)→OV R
 |0,S,K=>P64_0h.mat S fun vs=>rd64_0 G k K k vs
 |_,_,_=>none
def f64{R:Type}(G:ORC R)(k:Nat)(al1:LV)(ai2:Int)(K:LV→OV R):OV R:=
 (G 74 [.sl 7 al1,.int .i64 ai2] fun o3=>uL 1 o3 fun l5 r4=>unNil r4 (l64_0 G k al1 [] l5 0 (fun yl19=>K [.sl 1 yl19])))
noncomputable def D64_0:LoopD:={id:=0,body:=loopAt 0 (bodyOf Try.f64),head:=P64_0h,out:=P64_0x,ret:=default}
theorem l64_0_is{R:Type}(G:ORC R)(k:Nat)(X:LV→OV R)(K:Ex→St→OV R)(xl6 xl7 xl8:LV)(xi9:Int):
 roundOf (TAB.env 64) G (L64 G k) D64_0 X K [.sl 7 xl6,.sl 1 xl7,.sl 1 xl8,.int .i64 xi9]=b64_0 G k (fun xl6 xl7 xl8 xi9=>X [.sl 7 xl6,.sl 1 xl7,.sl 1 xl8,.int .i64 xi9]) (fun yl20=>K .normal (P64_0x.inst [.sl 1 yl20])) xl6 xl7 xl8 xi9:=by kernel_rfl
theorem f64_is{R:Type}(G:ORC R)(k:Nat)(K:LV→OV R)(al1:LV)(ai2:Int):
 callF (TAB.env 64) G (L64 G k) Try.f64 S64 [.sl 7 al1,.int .i64 ai2] K=f64 G k al1 ai2 K:=by kernel_rfl
theorem li64_0{R:Type}(G:ORC R)(k:Nat):LoopIs (TAB.env 64) G (L64 G k) 0 (loopAt 0 (bodyOf Try.f64)):=
 ⟨D64_0,fun j vs K=>rd64_0 G k K j vs,k,rfl,rfl,by kernel_rfl,by kernel_rfl,by kernel_rfl,(fun vs K=>by unfold rd64_0;dsimp only;split<;>rfl),
   (fun j vs K r h=>by
     unfold rd64_0 at h
     dsimp only at h
     split at h
     ·rw[l64_0_is];exact h
     ·cases h),(fun S K r h=>h)⟩
theorem lo64:loopsOf (bodyOf Try.f64)=[(0,loopAt 0 (bodyOf Try.f64))]:=by kernel_rfl
theorem la64{R:Type}(G:ORC R)(k:Nat):LoopsAre (TAB.env 64) G (L64 G k) (bodyOf Try.f64):=
 loopsAre_of (by rw[lo64];intro p hp;simp only[List.mem_cons,List.not_mem_nil,or_false]at hp;subst hp;exact li64_0 G k)
def g64{R:Type}(G:ORC R)(k:Nat)(args:LV)(K:LV→OV R):OV R:=match args with
 | [.sl 7 al1,.int .i64 ai2]=>f64 G k al1 ai2 K
 |_=>none
theorem s64{R:Type}{G:ORC R}{k:Nat}(hG:Sound Try.prog TAB G)(args:LV)(K:LV→OV R)(r:R)(h:g64 G k args K=some r):∃o,CallOK Try.prog TAB.env 64 args o∧K o=some r:=by
 unfold g64 at h
 split at h
 ·rw[←f64_is]at h
  exact callF_sound (f:=64) TAB_chk MO hG Try.func64 (sg:=S64) (by kernel_rfl) (by kernel_rfl) (la64 G k) h
 ·cases h
def P66_0h:Pat:={tmps:=unds [.stat (.one (.ptr 0 0) .pt),.var (.int .i64) .pr,.undef,.undef,.undef,.var (.int .i64) .pr] 22 [],boxes:=nons [some [.var (.sl 7) .ro true,.var (.sl 1) .ro true,.var (.sl 1) (.own true) false]] 28 []}
def P66_0x:Pat:={tmps:=unds [] 28 [],boxes:=nons [some [.var (.sl 7) .ro true,.var (.sl 1) .ro true,.var (.sl 1) (.own true) false]] 28 []}
def P66_0r:Pat:={tmps:=unds [.undef,.undef,.undef,.undef,.var .bool .pr] 23 [],boxes:=nons [some [.var (.sl 7) .ro true,.var (.sl 1) .ro true,.var (.sl 1) (.own true) false]] 28 []}
def b66_0{R:Type}(G:ORC R)(k:Nat)(X:Int→Int→LV→LV→LV→OV R)(Ko:LV→LV→LV→OV R)(Kr:Bool→LV→LV→LV→OV R)(xi5 xi6:Int)(xl7 xl8 xl9:LV):OV R:=
 (bif(decide (xi6<(xl9.length:Int)))then(bif((decide (0≤xi6))&&(decide (xi6<(xl9.length:Int))))then(nthK xl9 (Int.toNat xi6) fun e10=>aI .i64 e10 fun n11=>G 65 [.sl 7 xl7,.int .i64 n11,.int .i64 xi5] fun o12=>uB o12 fun b14 r13=>unNil r13 (bif b14 then(Kr true xl7 xl8 xl9)else(X xi5 (IntKind.i64.wrap (xi6+1)) xl7 xl8 xl9)))else none)else(Ko xl7 xl8 xl9))
def l66_0g{R:Type}(G:ORC R)(k:Nat)(Ko:LV→LV→LV→OV R)(Kr:Bool→LV→LV→LV→OV R):Nat→Int→Int→LV→LV→LV→OV R
 |0=>fun _ _ _ _ _=>none
 |j+1=>b66_0 G k (l66_0g G k Ko Kr j) Ko Kr
def l66_0{R:Type}(G:ORC R)(k:Nat)(xi5 xi6:Int)(xl7 xl8 xl9:LV)(Ko:LV→LV→LV→OV R)(Kr:Bool→LV→LV→LV→OV R):OV R:=l66_0g G k Ko Kr k xi5 xi6 xl7 xl8 xl9
def rd66_0{R:Type}(G:ORC R)(k:Nat)(K:Ex→St→OV R)(j:Nat)(vs:LV):OV R:=match vs with
 | [.int .i64 xi5,.int .i64 xi6,.sl 7 xl7,.sl 1 xl8,.sl 1 xl9]=>l66_0g G k (fun yl22 yl23 yl24=>K .normal (P66_0x.inst [.sl 7 yl22,.sl 1 yl23,.sl 1 yl24])) (fun yb25 yl26 yl27 yl28=>K .ret (P66_0r.inst [.bool yb25,.sl 7 yl26,.sl 1 yl27,.sl 1 yl28])) j xi5 xi6 xl7 xl8 xl9
 |_=>none
def L66{R:Type}(G:ORC R)(k:Nat):Nat→St→(Ex→St→OV R)→OV R
 |0,S,K=>P66_0h.mat S fun vs=>rd66_0 G k K k vs
 |_,_,_=>none
def f66{R:Type}(G:ORC R)(k:Nat)(ai1:Int)(bl2 bl3 bl4:LV)(K:LV→OV R):OV R:=
 (l66_0 G k ai1 0 bl2 bl3 bl4 (fun yl15 yl16 yl17=>K [.bool false,.sl 1 yl17]) (fun yb18 yl19 yl20 yl21=>K [.bool yb18,.sl 1 yl21]))
noncomputable def D66_0:LoopD:={id:=0,body:=loopAt 0 (bodyOf Try.f66),head:=P66_0h,out:=P66_0x,ret:=P66_0r}
theorem l66_0_is{R:Type}(G:ORC R)(k:Nat)(X:LV→OV R)(K:Ex→St→OV R)(xi5 xi6:Int)(xl7 xl8 xl9:LV):
 roundOf (TAB.env 66) G (L66 G k) D66_0 X K [.int .i64 xi5,.int .i64 xi6,.sl 7 xl7,.sl 1 xl8,.sl 1 xl9]=b66_0 G k (fun xi5 xi6 xl7 xl8 xl9=>X [.int .i64 xi5,.int .i64 xi6,.sl 7 xl7,.sl 1 xl8,.sl 1 xl9]) (fun yl22 yl23 yl24=>K .normal (P66_0x.inst [.sl 7 yl22,.sl 1 yl23,.sl 1 yl24])) (fun yb25 yl26 yl27 yl28=>K .ret (P66_0r.inst [.bool yb25,.sl 7 yl26,.sl 1 yl27,.sl 1 yl28])) xi5 xi6 xl7 xl8 xl9:=by kernel_rfl
theorem f66_is{R:Type}(G:ORC R)(k:Nat)(K:LV→OV R)(ai1:Int)(bl2 bl3 bl4:LV):
 callF (TAB.env 66) G (L66 G k) Try.f66 S66 [.int .i64 ai1,.sl 7 bl2,.sl 1 bl3,.sl 1 bl4] K=f66 G k ai1 bl2 bl3 bl4 K:=by kernel_rfl
theorem li66_0{R:Type}(G:ORC R)(k:Nat):LoopIs (TAB.env 66) G (L66 G k) 0 (loopAt 0 (bodyOf Try.f66)):=
 ⟨D66_0,fun j vs K=>rd66_0 G k K j vs,k,rfl,rfl,by kernel_rfl,by kernel_rfl,by kernel_rfl,(fun vs K=>by unfold rd66_0;dsimp only;split<;>rfl),
   (fun j vs K r h=>by
     unfold rd66_0 at h
     dsimp only at h
     split at h
     ·rw[l66_0_is];exact h
     ·cases h),(fun S K r h=>h)⟩
theorem lo66:loopsOf (bodyOf Try.f66)=[(0,loopAt 0 (bodyOf Try.f66))]:=by kernel_rfl
theorem la66{R:Type}(G:ORC R)(k:Nat):LoopsAre (TAB.env 66) G (L66 G k) (bodyOf Try.f66):=
 loopsAre_of (by rw[lo66];intro p hp;simp only[List.mem_cons,List.not_mem_nil,or_false]at hp;subst hp;exact li66_0 G k)
def g66{R:Type}(G:ORC R)(k:Nat)(args:LV)(K:LV→OV R):OV R:=match args with
 | [.int .i64 ai1,.sl 7 bl2,.sl 1 bl3,.sl 1 bl4]=>f66 G k ai1 bl2 bl3 bl4 K
 |_=>none
theorem s66{R:Type}{G:ORC R}{k:Nat}(hG:Sound Try.prog TAB G)(args:LV)(K:LV→OV R)(r:R)(h:g66 G k args K=some r):∃o,CallOK Try.prog TAB.env 66 args o∧K o=some r:=by
 unfold g66 at h
 split at h
 ·rw[←f66_is]at h
  exact callF_sound (f:=66) TAB_chk MO hG Try.func66 (sg:=S66) (by kernel_rfl) (by kernel_rfl) (la66 G k) h
 ·cases h
def P49_0h:Pat:={tmps:=unds [.stat (.one (.ptr 0 0) .pt),.undef,.undef,.undef,.var (.sl 1) .ro,.var (.int .i64) .pr] 25 [],boxes:=nons [some [.var (.sl 7) .ro true,.var (.sl 1) .ro true,.var (.sl 1) (.own true) false]] 31 []}
def P49_0x:Pat:={tmps:=unds [] 31 [],boxes:=nons [some [.var (.sl 7) .ro true,.var (.sl 1) .ro true,.var (.sl 1) (.own true) false]] 31 []}
def b49_0{R:Type}(G:ORC R)(k:Nat)(X:LV→Int→LV→LV→LV→OV R)(Ko:LV→LV→LV→OV R)(xl8:LV)(xi9:Int)(xl10 xl11 xl12:LV):OV R:=
 (bif(decide (xi9<(xl8.length:Int)))then(bif((decide (0≤xi9))&&(decide (xi9<(xl8.length:Int))))then(nthK xl8 (Int.toNat xi9) fun e13=>aI .i64 e13 fun n14=>G 66 [.int .i64 n14,.sl 7 xl10,.sl 1 xl11,.sl 1 xl12] fun o15=>uB o15 fun b17 r16=>uL 1 r16 fun l19 r18=>unNil r18 (bif(!b17)then(bif((decide (0≤xi9))&&(decide (xi9<(xl8.length:Int))))then(nthK xl8 (Int.toNat xi9) fun e20=>aI .i64 e20 fun n21=>G 21 [.int .i64 n21,.sl 7 xl10,.sl 1 xl11,.sl 1 l19] fun o22=>uL 1 o22 fun l24 r23=>unNil r23 (X xl8 (IntKind.i64.wrap (xi9+1)) xl10 xl11 l24))else none)else(X xl8 (IntKind.i64.wrap (xi9+1)) xl10 xl11 l19)))else none)else(Ko xl10 xl11 xl12))
def l49_0g{R:Type}(G:ORC R)(k:Nat)(Ko:LV→LV→LV→OV R):Nat→LV→Int→LV→LV→LV→OV R
 |0=>fun _ _ _ _ _=>none
 |j+1=>b49_0 G k (l49_0g G k Ko j) Ko
def l49_0{R:Type}(G:ORC R)(k:Nat)(xl8:LV)(xi9:Int)(xl10 xl11 xl12:LV)(Ko:LV→LV→LV→OV R):OV R:=l49_0g G k Ko k xl8 xi9 xl10 xl11 xl12
def rd49_0{R:Type}(G:ORC R)(k:Nat)(K:Ex→St→OV R)(j:Nat)(vs:LV):OV R:=match vs with
 | [.sl 1 xl8,.int .i64 xi9,.sl 7 xl10,.sl 1 xl11,.sl 1 xl12]=>l49_0g G k (fun yl28 yl29 yl30=>K .normal (P49_0x.inst [.sl 7 yl28,.sl 1 yl29,.sl 1 yl30])) j xl8 xi9 xl10 xl11 xl12
 |_=>none
def L49{R:Type}(G:ORC R)(k:Nat):Nat→St→(Ex→St→OV R)→OV R
 |0,S,K=>P49_0h.mat S fun vs=>rd49_0 G k K k vs
 |_,_,_=>none
def f49{R:Type}(G:ORC R)(k:Nat)(ai1:Int)(bl2 bl3 bl4:LV)(K:LV→OV R):OV R:=
 (G 64 [.sl 7 bl2,.int .i64 ai1] fun o5=>uL 1 o5 fun l7 r6=>unNil r6 (l49_0 G k l7 0 bl2 bl3 bl4 (fun yl25 yl26 yl27=>K [.sl 1 yl27])))
noncomputable def D49_0:LoopD:={id:=0,body:=loopAt 0 (bodyOf Try.f49),head:=P49_0h,out:=P49_0x,ret:=default}
theorem l49_0_is{R:Type}(G:ORC R)(k:Nat)(X:LV→OV R)(K:Ex→St→OV R)(xl8:LV)(xi9:Int)(xl10 xl11 xl12:LV):
 roundOf (TAB.env 49) G (L49 G k) D49_0 X K [.sl 1 xl8,.int .i64 xi9,.sl 7 xl10,.sl 1 xl11,.sl 1 xl12]=b49_0 G k (fun xl8 xi9 xl10 xl11 xl12=>X [.sl 1 xl8,.int .i64 xi9,.sl 7 xl10,.sl 1 xl11,.sl 1 xl12]) (fun yl28 yl29 yl30=>K .normal (P49_0x.inst [.sl 7 yl28,.sl 1 yl29,.sl 1 yl30])) xl8 xi9 xl10 xl11 xl12:=by kernel_rfl
theorem f49_is{R:Type}(G:ORC R)(k:Nat)(K:LV→OV R)(ai1:Int)(bl2 bl3 bl4:LV):
 callF (TAB.env 49) G (L49 G k) Try.f49 S49 [.int .i64 ai1,.sl 7 bl2,.sl 1 bl3,.sl 1 bl4] K=f49 G k ai1 bl2 bl3 bl4 K:=by kernel_rfl
theorem li49_0{R:Type}(G:ORC R)(k:Nat):LoopIs (TAB.env 49) G (L49 G k) 0 (loopAt 0 (bodyOf Try.f49)):=
 ⟨D49_0,fun j vs K=>rd49_0 G k K j vs,k,rfl,rfl,by kernel_rfl,by kernel_rfl,by kernel_rfl,(fun vs K=>by unfold rd49_0;dsimp only;split<;>rfl),
   (fun j vs K r h=>by
     unfold rd49_0 at h
     dsimp only at h
     split at h
     ·rw[l49_0_is];exact h
     ·cases h),(fun S K r h=>h)⟩
theorem lo49:loopsOf (bodyOf Try.f49)=[(0,loopAt 0 (bodyOf Try.f49))]:=by kernel_rfl
theorem la49{R:Type}(G:ORC R)(k:Nat):LoopsAre (TAB.env 49) G (L49 G k) (bodyOf Try.f49):=
 loopsAre_of (by rw[lo49];intro p hp;simp only[List.mem_cons,List.not_mem_nil,or_false]at hp;subst hp;exact li49_0 G k)
def g49{R:Type}(G:ORC R)(k:Nat)(args:LV)(K:LV→OV R):OV R:=match args with
 | [.int .i64 ai1,.sl 7 bl2,.sl 1 bl3,.sl 1 bl4]=>f49 G k ai1 bl2 bl3 bl4 K
 |_=>none
theorem s49{R:Type}{G:ORC R}{k:Nat}(hG:Sound Try.prog TAB G)(args:LV)(K:LV→OV R)(r:R)(h:g49 G k args K=some r):∃o,CallOK Try.prog TAB.env 49 args o∧K o=some r:=by
 unfold g49 at h
 split at h
 ·rw[←f49_is]at h
  exact callF_sound (f:=49) TAB_chk MO hG Try.func49 (sg:=S49) (by kernel_rfl) (by kernel_rfl) (la49 G k) h
 ·cases h
def P21_0h:Pat:={tmps:=unds [.stat (.one (.ptr 0 0) .pt),.var (.int .i64) .pr,.undef,.undef,.var (.sl 1) .ro,.var (.int .i64) .pr] 86 [],boxes:=nons [some [.var (.sl 7) .ro true,.var (.sl 1) .ro true,.var (.sl 1) (.own true) false]] 92 []}
def P21_0x:Pat:={tmps:=unds [.stat (.one (.ptr 0 0) .pt),.var (.int .i64) .pr,.undef,.undef,.var (.sl 1) .ro] 87 [],boxes:=nons [some [.var (.sl 7) .ro true,.var (.sl 1) .ro true,.var (.sl 1) (.own true) false]] 92 []}
def b21_0{R:Type}(G:ORC R)(k:Nat)(X:Int→LV→Int→LV→LV→LV→OV R)(Ko:Int→LV→LV→LV→LV→OV R)(xi15:Int)(xl16:LV)(xi17:Int)(xl18 xl19 xl20:LV):OV R:=
 (bif(decide (xi17<(xl16.length:Int)))then(bif((decide (0≤xi17))&&(decide (xi17<(xl16.length:Int))))then(nthK xl16 (Int.toNat xi17) fun e21=>aI .i64 e21 fun n22=>G 21 [.int .i64 n22,.sl 7 xl18,.sl 1 xl19,.sl 1 xl20] fun o23=>uL 1 o23 fun l25 r24=>unNil r24 (X xi15 xl16 (IntKind.i64.wrap (xi17+1)) xl18 xl19 l25))else none)else(Ko xi15 xl16 xl18 xl19 xl20))
def l21_0g{R:Type}(G:ORC R)(k:Nat)(Ko:Int→LV→LV→LV→LV→OV R):Nat→Int→LV→Int→LV→LV→LV→OV R
 |0=>fun _ _ _ _ _ _=>none
 |j+1=>b21_0 G k (l21_0g G k Ko j) Ko
def l21_0{R:Type}(G:ORC R)(k:Nat)(xi15:Int)(xl16:LV)(xi17:Int)(xl18 xl19 xl20:LV)(Ko:Int→LV→LV→LV→LV→OV R):OV R:=l21_0g G k Ko k xi15 xl16 xi17 xl18 xl19 xl20
def P21_2h:Pat:={tmps:=unds [.stat (.one (.ptr 0 0) .pt),.var (.int .i64) .pr,.undef,.undef,.var (.sl 1) .ro,.undef,.var (.int .i64) .pr] 85 [],boxes:=nons [some [.var (.sl 7) .ro true,.var (.sl 1) .ro true,.var (.sl 1) (.own true) false]] 92 []}
def P21_2x:Pat:={tmps:=unds [] 92 [],boxes:=nons [some [.var (.sl 7) .ro true,.var (.sl 1) .ro true,.var (.sl 1) (.own true) false]] 92 []}
def b21_2{R:Type}(G:ORC R)(k:Nat)(X:Int→LV→Int→LV→LV→LV→OV R)(Ko:LV→LV→LV→OV R)(xi31:Int)(xl32:LV)(xi33:Int)(xl34 xl35 xl36:LV):OV R:=
 (bif(decide (xi33<(xl32.length:Int)))then(bif((decide (0≤xi33))&&(decide (xi33<(xl32.length:Int))))then(nthK xl32 (Int.toNat xi33) fun e37=>aI .i64 e37 fun n38=>bif((decide (0≤xi31))&&(decide (xi31<(xl34.length:Int))))then(nthK xl34 (Int.toNat xi31) fun e39=>ca7 e39 fun c40 c41 c42 c43 c44 c45 c46=>aI .i64 c41 fun n47=>G 48 [.int .i64 n38,.int .i64 n47,.sl 7 xl34,.sl 1 xl35,.sl 1 xl36] fun o48=>uL 1 o48 fun l50 r49=>unNil r49 (X xi31 xl32 (IntKind.i64.wrap (xi33+1)) xl34 xl35 l50))else none)else none)else(Ko xl34 xl35 xl36))
def l21_2g{R:Type}(G:ORC R)(k:Nat)(Ko:LV→LV→LV→OV R):Nat→Int→LV→Int→LV→LV→LV→OV R
 |0=>fun _ _ _ _ _ _=>none
 |j+1=>b21_2 G k (l21_2g G k Ko j) Ko
def l21_2{R:Type}(G:ORC R)(k:Nat)(xi31:Int)(xl32:LV)(xi33:Int)(xl34 xl35 xl36:LV)(Ko:LV→LV→LV→OV R):OV R:=l21_2g G k Ko k xi31 xl32 xi33 xl34 xl35 xl36
def rd21_0{R:Type}(G:ORC R)(k:Nat)(K:Ex→St→OV R)(j:Nat)(vs:LV):OV R:=match vs with
 | [.int .i64 xi15,.sl 1 xl16,.int .i64 xi17,.sl 7 xl18,.sl 1 xl19,.sl 1 xl20]=>l21_0g G k (fun yi99 yl100 yl101 yl102 yl103=>K .normal (P21_0x.inst [.int .i64 yi99,.sl 1 yl100,.sl 7 yl101,.sl 1 yl102,.sl 1 yl103])) j xi15 xl16 xi17 xl18 xl19 xl20
 |_=>none
def rd21_2{R:Type}(G:ORC R)(k:Nat)(K:Ex→St→OV R)(j:Nat)(vs:LV):OV R:=match vs with
 | [.int .i64 xi31,.sl 1 xl32,.int .i64 xi33,.sl 7 xl34,.sl 1 xl35,.sl 1 xl36]=>l21_2g G k (fun yl104 yl105 yl106=>K .normal (P21_2x.inst [.sl 7 yl104,.sl 1 yl105,.sl 1 yl106])) j xi31 xl32 xi33 xl34 xl35 xl36
 |_=>none
def L21{R:Type}(G:ORC R)(k:Nat):Nat→St→(Ex→St→OV R)→OV R
 |0,S,K=>P21_0h.mat S fun vs=>rd21_0 G k K k vs
 |2,S,K=>P21_2h.mat S fun vs=>rd21_2 G k K k vs
 |_,_,_=>none
def f21{R:Type}(G:ORC R)(k:Nat)(ai1:Int)(bl2 bl3 bl4:LV)(K:LV→OV R):OV R:=
 (bif((decide (0≤ai1))&&(decide (ai1<(bl2.length:Int))))then(nthK bl2 (Int.toNat ai1) fun e5=>V.asAgg e5 fun l6=>G 46 [.agg l6] fun o7=>uB o7 fun b9 r8=>unNil r8 (bif(!b9)then(G 47 [.int .i64 ai1,.sl 7 bl2,.sl 1 bl3,.sl 1 bl4] fun o10=>uL 1 o10 fun l12 r11=>uL 1 r11 fun l14 r13=>unNil r13 (l21_0 G k ai1 l12 0 bl2 bl3 l14 (fun yi26 yl27 yl28 yl29 yl30=>l21_2 G k yi26 yl27 0 yl28 yl29 yl30 (fun yl51 yl52 yl53=>K [.sl 1 yl53]))))else(bif(decide (List.length bl4+1≤1073741824))then(bif((decide (0≤ai1))&&(decide (ai1<(bl2.length:Int))))then(nthK bl2 (Int.toNat ai1) fun e54=>ca7 e54 fun c55 c56 c57 c58 c59 c60 c61=>aI .i64 c55 fun n62=>bif(n62==2)then(bif((decide (0≤ai1))&&(decide (ai1<(bl2.length:Int))))then(nthK bl2 (Int.toNat ai1) fun e63=>ca7 e63 fun c64 c65 c66 c67 c68 c69 c70=>aI .i64 c67 fun n71=>G 21 [.int .i64 n71,.sl 7 bl2,.sl 1 bl3,.sl 1 (bl4++[.int .i64 ai1])] fun o72=>uL 1 o72 fun l74 r73=>unNil r73 (bif((decide (0≤ai1))&&(decide (ai1<(bl2.length:Int))))then(nthK bl2 (Int.toNat ai1) fun e75=>ca7 e75 fun c76 c77 c78 c79 c80 c81 c82=>aI .i64 c76 fun n83=>bif(n83==3)then(G 49 [.int .i64 ai1,.sl 7 bl2,.sl 1 bl3,.sl 1 l74] fun o84=>uL 1 o84 fun l86 r85=>unNil r85 (K [.sl 1 l86]))else(K [.sl 1 l74]))else none))else none)else(bif((decide (0≤ai1))&&(decide (ai1<(bl2.length:Int))))then(nthK bl2 (Int.toNat ai1) fun e87=>ca7 e87 fun c88 c89 c90 c91 c92 c93 c94=>aI .i64 c88 fun n95=>bif(n95==3)then(G 49 [.int .i64 ai1,.sl 7 bl2,.sl 1 bl3,.sl 1 (bl4++[.int .i64 ai1])] fun o96=>uL 1 o96 fun l98 r97=>unNil r97 (K [.sl 1 l98]))else(K [.sl 1 (bl4++[.int .i64 ai1])]))else none))else none)else none)))else none)
noncomputable def D21_0:LoopD:={id:=0,body:=loopAt 0 (bodyOf Try.f21),head:=P21_0h,out:=P21_0x,ret:=default}
theorem l21_0_is{R:Type}(G:ORC R)(k:Nat)(X:LV→OV R)(K:Ex→St→OV R)(xi15:Int)(xl16:LV)(xi17:Int)(xl18 xl19 xl20:LV):
 roundOf (TAB.env 21) G (L21 G k) D21_0 X K [.int .i64 xi15,.sl 1 xl16,.int .i64 xi17,.sl 7 xl18,.sl 1 xl19,.sl 1 xl20]=b21_0 G k (fun xi15 xl16 xi17 xl18 xl19 xl20=>X [.int .i64 xi15,.sl 1 xl16,.int .i64 xi17,.sl 7 xl18,.sl 1 xl19,.sl 1 xl20]) (fun yi99 yl100 yl101 yl102 yl103=>K .normal (P21_0x.inst [.int .i64 yi99,.sl 1 yl100,.sl 7 yl101,.sl 1 yl102,.sl 1 yl103])) xi15 xl16 xi17 xl18 xl19 xl20:=by kernel_rfl
noncomputable def D21_2:LoopD:={id:=2,body:=loopAt 2 (bodyOf Try.f21),head:=P21_2h,out:=P21_2x,ret:=default}
theorem l21_2_is{R:Type}(G:ORC R)(k:Nat)(X:LV→OV R)(K:Ex→St→OV R)(xi31:Int)(xl32:LV)(xi33:Int)(xl34 xl35 xl36:LV):
 roundOf (TAB.env 21) G (L21 G k) D21_2 X K [.int .i64 xi31,.sl 1 xl32,.int .i64 xi33,.sl 7 xl34,.sl 1 xl35,.sl 1 xl36]=b21_2 G k (fun xi31 xl32 xi33 xl34 xl35 xl36=>X [.int .i64 xi31,.sl 1 xl32,.int .i64 xi33,.sl 7 xl34,.sl 1 xl35,.sl 1 xl36]) (fun yl104 yl105 yl106=>K .normal (P21_2x.inst [.sl 7 yl104,.sl 1 yl105,.sl 1 yl106])) xi31 xl32 xi33 xl34 xl35 xl36:=by kernel_rfl
theorem f21_is{R:Type}(G:ORC R)(k:Nat)(K:LV→OV R)(ai1:Int)(bl2 bl3 bl4:LV):
 callF (TAB.env 21) G (L21 G k) Try.f21 S21 [.int .i64 ai1,.sl 7 bl2,.sl 1 bl3,.sl 1 bl4] K=f21 G k ai1 bl2 bl3 bl4 K:=by kernel_rfl
theorem li21_0{R:Type}(G:ORC R)(k:Nat):LoopIs (TAB.env 21) G (L21 G k) 0 (loopAt 0 (bodyOf Try.f21)):=
 ⟨D21_0,fun j vs K=>rd21_0 G k K j vs,k,rfl,rfl,by kernel_rfl,by kernel_rfl,by kernel_rfl,(fun vs K=>by unfold rd21_0;dsimp only;split<;>rfl),
   (fun j vs K r h=>by
     unfold rd21_0 at h
     dsimp only at h
     split at h
     ·rw[l21_0_is];exact h
     ·cases h),(fun S K r h=>h)⟩
theorem li21_2{R:Type}(G:ORC R)(k:Nat):LoopIs (TAB.env 21) G (L21 G k) 2 (loopAt 2 (bodyOf Try.f21)):=
 ⟨D21_2,fun j vs K=>rd21_2 G k K j vs,k,rfl,rfl,by kernel_rfl,by kernel_rfl,by kernel_rfl,(fun vs K=>by unfold rd21_2;dsimp only;split<;>rfl),
   (fun j vs K r h=>by
     unfold rd21_2 at h
     dsimp only at h
     split at h
     ·rw[l21_2_is];exact h
     ·cases h),(fun S K r h=>h)⟩
theorem lo21:loopsOf (bodyOf Try.f21)=[(0,loopAt 0 (bodyOf Try.f21)),(2,loopAt 2 (bodyOf Try.f21))]:=by kernel_rfl
theorem la21{R:Type}(G:ORC R)(k:Nat):LoopsAre (TAB.env 21) G (L21 G k) (bodyOf Try.f21):=
 loopsAre_of (by rw[lo21];intro p hp;simp only[List.mem_cons,List.not_mem_nil,or_false]at hp;rcases hp with rfl|rfl<;>first|exact li21_0 G k|exact li21_2 G k)
def g21{R:Type}(G:ORC R)(k:Nat)(args:LV)(K:LV→OV R):OV R:=match args with
 | [.int .i64 ai1,.sl 7 bl2,.sl 1 bl3,.sl 1 bl4]=>f21 G k ai1 bl2 bl3 bl4 K
 |_=>none
theorem s21{R:Type}{G:ORC R}{k:Nat}(hG:Sound Try.prog TAB G)(args:LV)(K:LV→OV R)(r:R)(h:g21 G k args K=some r):∃o,CallOK Try.prog TAB.env 21 args o∧K o=some r:=by
 unfold g21 at h
 split at h
 ·rw[←f21_is]at h
  exact callF_sound (f:=21) TAB_chk MO hG Try.func21 (sg:=S21) (by kernel_rfl) (by kernel_rfl) (la21 G k) h
 ·cases h
def P22_0h:Pat:={tmps:=unds [.var (.sl 1) .ro,.undef,.undef,.var (.sl 1) (.own true),.var (.int .i64) .pr] 12 [],boxes:=nons [] 17 []}
def P22_0x:Pat:={tmps:=unds [.undef,.undef,.undef,.var (.sl 1) (.own true)] 13 [],boxes:=nons [] 17 []}
def b22_0{R:Type}(G:ORC R)(k:Nat)(X:LV→LV→Int→OV R)(Ko:LV→OV R)(xl2 xl3:LV)(xi4:Int):OV R:=
 (bif(decide (xi4<128))then(G 19 [.sl 1 xl2,.int .i64 xi4] fun o5=>uB o5 fun b7 r6=>unNil r6 (bif b7 then(bif(decide (List.length xl3+1≤1073741824))then(X xl2 (xl3++[.int .i64 xi4]) (IntKind.i64.wrap (xi4+1)))else none)else(X xl2 xl3 (IntKind.i64.wrap (xi4+1)))))else(Ko xl3))
def l22_0g{R:Type}(G:ORC R)(k:Nat)(Ko:LV→OV R):Nat→LV→LV→Int→OV R
 |0=>fun _ _ _=>none
 |j+1=>b22_0 G k (l22_0g G k Ko j) Ko
def l22_0{R:Type}(G:ORC R)(k:Nat)(xl2 xl3:LV)(xi4:Int)(Ko:LV→OV R):OV R:=l22_0g G k Ko k xl2 xl3 xi4
def rd22_0{R:Type}(G:ORC R)(k:Nat)(K:Ex→St→OV R)(j:Nat)(vs:LV):OV R:=match vs with
 | [.sl 1 xl2,.sl 1 xl3,.int .i64 xi4]=>l22_0g G k (fun yl9=>K .normal (P22_0x.inst [.sl 1 yl9])) j xl2 xl3 xi4
 |_=>none
def L22{R:Type}(G:ORC R)(k:Nat):Nat→St→(Ex→St→OV R)→OV R
 |0,S,K=>P22_0h.mat S fun vs=>rd22_0 G k K k vs
 |_,_,_=>none
def f22{R:Type}(G:ORC R)(k:Nat)(al1:LV)(K:LV→OV R):OV R:=
 (l22_0 G k al1 [] 0 (fun yl8=>K [.sl 1 yl8]))
noncomputable def D22_0:LoopD:={id:=0,body:=loopAt 0 (bodyOf Try.f22),head:=P22_0h,out:=P22_0x,ret:=default}
theorem l22_0_is{R:Type}(G:ORC R)(k:Nat)(X:LV→OV R)(K:Ex→St→OV R)(xl2 xl3:LV)(xi4:Int):
 roundOf (TAB.env 22) G (L22 G k) D22_0 X K [.sl 1 xl2,.sl 1 xl3,.int .i64 xi4]=b22_0 G k (fun xl2 xl3 xi4=>X [.sl 1 xl2,.sl 1 xl3,.int .i64 xi4]) (fun yl9=>K .normal (P22_0x.inst [.sl 1 yl9])) xl2 xl3 xi4:=by kernel_rfl
theorem f22_is{R:Type}(G:ORC R)(k:Nat)(K:LV→OV R)(al1:LV):
 callF (TAB.env 22) G (L22 G k) Try.f22 S22 [.sl 1 al1] K=f22 G k al1 K:=by kernel_rfl
theorem li22_0{R:Type}(G:ORC R)(k:Nat):LoopIs (TAB.env 22) G (L22 G k) 0 (loopAt 0 (bodyOf Try.f22)):=
 ⟨D22_0,fun j vs K=>rd22_0 G k K j vs,k,rfl,rfl,by kernel_rfl,by kernel_rfl,by kernel_rfl,(fun vs K=>by unfold rd22_0;dsimp only;split<;>rfl),
   (fun j vs K r h=>by
     unfold rd22_0 at h
     dsimp only at h
     split at h
     ·rw[l22_0_is];exact h
     ·cases h),(fun S K r h=>h)⟩
theorem lo22:loopsOf (bodyOf Try.f22)=[(0,loopAt 0 (bodyOf Try.f22))]:=by kernel_rfl
theorem la22{R:Type}(G:ORC R)(k:Nat):LoopsAre (TAB.env 22) G (L22 G k) (bodyOf Try.f22):=
 loopsAre_of (by rw[lo22];intro p hp;simp only[List.mem_cons,List.not_mem_nil,or_false]at hp;subst hp;exact li22_0 G k)
def g22{R:Type}(G:ORC R)(k:Nat)(args:LV)(K:LV→OV R):OV R:=match args with
 | [.sl 1 al1]=>f22 G k al1 K
 |_=>none
theorem s22{R:Type}{G:ORC R}{k:Nat}(hG:Sound Try.prog TAB G)(args:LV)(K:LV→OV R)(r:R)(h:g22 G k args K=some r):∃o,CallOK Try.prog TAB.env 22 args o∧K o=some r:=by
 unfold g22 at h
 split at h
 ·rw[←f22_is]at h
  exact callF_sound (f:=22) TAB_chk MO hG Try.func22 (sg:=S22) (by kernel_rfl) (by kernel_rfl) (la22 G k) h
 ·cases h
def P8_0h:Pat:={tmps:=unds [.var (.sl 1) .ro,.var (.sl 1) .ro,.undef,.undef,.undef,.var (.sl 1) (.own true),.var (.int .i64) .pr] 21 [],boxes:=nons [] 28 []}
def P8_0x:Pat:={tmps:=unds [] 5 (unds [.var (.sl 1) (.own true)] 22 []),boxes:=nons [] 28 []}
def b8_0{R:Type}(G:ORC R)(k:Nat)(X:LV→LV→LV→Int→OV R)(Ko:LV→OV R)(xl3 xl4 xl5:LV)(xi6:Int):OV R:=
 (bif(decide (xi6<(xl3.length:Int)))then(bif((decide (0≤xi6))&&(decide (xi6<(xl3.length:Int))))then(nthK xl3 (Int.toNat xi6) fun e7=>aI .i64 e7 fun n8=>G 19 [.sl 1 xl4,.int .i64 n8] fun o9=>uB o9 fun b11 r10=>unNil r10 (bif(!b11)then(bif((decide (0≤xi6))&&(decide (xi6<(xl3.length:Int))))then(nthK xl3 (Int.toNat xi6) fun e12=>aI .i64 e12 fun n13=>bif(decide (List.length xl5+1≤1073741824))then(X xl3 xl4 (xl5++[.int .i64 n13]) (IntKind.i64.wrap (xi6+1)))else none)else none)else(X xl3 xl4 xl5 (IntKind.i64.wrap (xi6+1)))))else none)else(Ko xl5))
def l8_0g{R:Type}(G:ORC R)(k:Nat)(Ko:LV→OV R):Nat→LV→LV→LV→Int→OV R
 |0=>fun _ _ _ _=>none
 |j+1=>b8_0 G k (l8_0g G k Ko j) Ko
def l8_0{R:Type}(G:ORC R)(k:Nat)(xl3 xl4 xl5:LV)(xi6:Int)(Ko:LV→OV R):OV R:=l8_0g G k Ko k xl3 xl4 xl5 xi6
def rd8_0{R:Type}(G:ORC R)(k:Nat)(K:Ex→St→OV R)(j:Nat)(vs:LV):OV R:=match vs with
 | [.sl 1 xl3,.sl 1 xl4,.sl 1 xl5,.int .i64 xi6]=>l8_0g G k (fun yl15=>K .normal (P8_0x.inst [.sl 1 yl15])) j xl3 xl4 xl5 xi6
 |_=>none
def L8{R:Type}(G:ORC R)(k:Nat):Nat→St→(Ex→St→OV R)→OV R
 |0,S,K=>P8_0h.mat S fun vs=>rd8_0 G k K k vs
 |_,_,_=>none
def f8{R:Type}(G:ORC R)(k:Nat)(al1 al2:LV)(K:LV→OV R):OV R:=
 (l8_0 G k al1 al2 [] 0 (fun yl14=>K [.sl 1 yl14]))
noncomputable def D8_0:LoopD:={id:=0,body:=loopAt 0 (bodyOf Try.f8),head:=P8_0h,out:=P8_0x,ret:=default}
theorem l8_0_is{R:Type}(G:ORC R)(k:Nat)(X:LV→OV R)(K:Ex→St→OV R)(xl3 xl4 xl5:LV)(xi6:Int):
 roundOf (TAB.env 8) G (L8 G k) D8_0 X K [.sl 1 xl3,.sl 1 xl4,.sl 1 xl5,.int .i64 xi6]=b8_0 G k (fun xl3 xl4 xl5 xi6=>X [.sl 1 xl3,.sl 1 xl4,.sl 1 xl5,.int .i64 xi6]) (fun yl15=>K .normal (P8_0x.inst [.sl 1 yl15])) xl3 xl4 xl5 xi6:=by kernel_rfl
theorem f8_is{R:Type}(G:ORC R)(k:Nat)(K:LV→OV R)(al1 al2:LV):
 callF (TAB.env 8) G (L8 G k) Try.f8 S8 [.sl 1 al1,.sl 1 al2] K=f8 G k al1 al2 K:=by kernel_rfl
theorem li8_0{R:Type}(G:ORC R)(k:Nat):LoopIs (TAB.env 8) G (L8 G k) 0 (loopAt 0 (bodyOf Try.f8)):=
 ⟨D8_0,fun j vs K=>rd8_0 G k K j vs,k,rfl,rfl,by kernel_rfl,by kernel_rfl,by kernel_rfl,(fun vs K=>by unfold rd8_0;dsimp only;split<;>rfl),
   (fun j vs K r h=>by
     unfold rd8_0 at h
     dsimp only at h
     split at h
     ·rw[l8_0_is];exact h
     ·cases h),(fun S K r h=>h)⟩
theorem lo8:loopsOf (bodyOf Try.f8)=[(0,loopAt 0 (bodyOf Try.f8))]:=by kernel_rfl
theorem la8{R:Type}(G:ORC R)(k:Nat):LoopsAre (TAB.env 8) G (L8 G k) (bodyOf Try.f8):=
 loopsAre_of (by rw[lo8];intro p hp;simp only[List.mem_cons,List.not_mem_nil,or_false]at hp;subst hp;exact li8_0 G k)
def g8{R:Type}(G:ORC R)(k:Nat)(args:LV)(K:LV→OV R):OV R:=match args with
 | [.sl 1 al1,.sl 1 al2]=>f8 G k al1 al2 K
 |_=>none
theorem s8{R:Type}{G:ORC R}{k:Nat}(hG:Sound Try.prog TAB G)(args:LV)(K:LV→OV R)(r:R)(h:g8 G k args K=some r):∃o,CallOK Try.prog TAB.env 8 args o∧K o=some r:=by
 unfold g8 at h
 split at h
 ·rw[←f8_is]at h
  exact callF_sound (f:=8) TAB_chk MO hG Try.func8 (sg:=S8) (by kernel_rfl) (by kernel_rfl) (la8 G k) h
 ·cases h
def L10{R:Type}(_:ORC R)(_:Nat):Nat→St→(Ex→St→OV R)→OV R:=fun _ _ _=>none
def f10{R:Type}(G:ORC R)(k:Nat)(al1:LV)(K:LV→OV R):OV R:=
 (G 21 [.int .i64 0,.sl 7 al1,.sl 1 [],.sl 1 []] fun o2=>uL 1 o2 fun l4 r3=>unNil r3 (G 22 [.sl 1 l4] fun o5=>uL 1 o5 fun l7 r6=>unNil r6 (K [.sl 1 l7])))
theorem f10_is{R:Type}(G:ORC R)(k:Nat)(K:LV→OV R)(al1:LV):
 callF (TAB.env 10) G (L10 G k) Try.f10 S10 [.sl 7 al1] K=f10 G k al1 K:=by kernel_rfl
theorem lo10:loopsOf (bodyOf Try.f10)=[]:=by kernel_rfl
theorem la10{R:Type}(G:ORC R)(k:Nat):LoopsAre (TAB.env 10) G (L10 G k) (bodyOf Try.f10):=
 loopsAre_of (by rw[lo10];intro p hp;cases hp)
def g10{R:Type}(G:ORC R)(k:Nat)(args:LV)(K:LV→OV R):OV R:=match args with
 | [.sl 7 al1]=>f10 G k al1 K
 |_=>none
theorem s10{R:Type}{G:ORC R}{k:Nat}(hG:Sound Try.prog TAB G)(args:LV)(K:LV→OV R)(r:R)(h:g10 G k args K=some r):∃o,CallOK Try.prog TAB.env 10 args o∧K o=some r:=by
 unfold g10 at h
 split at h
 ·rw[←f10_is]at h
  exact callF_sound (f:=10) TAB_chk MO hG Try.func10 (sg:=S10) (by kernel_rfl) (by kernel_rfl) (la10 G k) h
 ·cases h
def L4{R:Type}(_:ORC R)(_:Nat):Nat→St→(Ex→St→OV R)→OV R:=fun _ _ _=>none
def f4{R:Type}(G:ORC R)(k:Nat)(K:LV→OV R):OV R:=
 (G 11 [.agg [.int .i64 1,.sl 9 [.agg [.str ⟨#[99]⟩,.int .i64 4,.int .i64 9,.sl 1 [],.sl 1 [.str ⟨#[112]⟩],.sl 1 [],.sl 7 [.agg [.int .i64 2,.int .i64 (-1),.int .i64 1,.int .i64 1,.int .i64 (-1),.int .i64 (-1),.str ⟨#[]⟩],.agg [.int .i64 1,.int .i64 0,.int .i64 1,.int .i64 (-1),.int .i64 (-1),.int .i64 (-1),.str ⟨#[97]⟩]],.sl 6 [.agg [.int .i64 1,.int .i64 (-1),.int .i64 (-1),.int .i64 (-1),.int .i64 0,.str ⟨#[101]⟩]],.sl 1 [.sl 4 [.agg [.int .i64 3,.int .i64 0,.int .i64 0,.str ⟨#[]⟩],.agg [.int .i64 20,.int .i64 0,.int .i64 0,.str ⟨#[102]⟩]]]]],.sl 6 [.agg [.int .i64 0,.int .i64 1,.int .i64 3,.int .i64 0,.sl 1 [.int .i64 0],.sl 1 [.int .i64 0]]],.sl 5 [.agg [.int .i64 0,.int .i64 0,.int .i64 0,.int .i64 2,.int .i64 0]],.sl 1 [.str ⟨#[105]⟩],.sl 1 [.str ⟨#[107]⟩]],.int .i64 0,.int .i64 0] fun o1=>uL 1 o1 fun l3 r2=>unNil r2 (G 11 [.agg [.int .i64 1,.sl 9 [.agg [.str ⟨#[99]⟩,.int .i64 4,.int .i64 9,.sl 1 [],.sl 1 [.str ⟨#[112]⟩],.sl 1 [],.sl 7 [.agg [.int .i64 2,.int .i64 (-1),.int .i64 1,.int .i64 1,.int .i64 (-1),.int .i64 (-1),.str ⟨#[]⟩],.agg [.int .i64 1,.int .i64 0,.int .i64 1,.int .i64 (-1),.int .i64 (-1),.int .i64 (-1),.str ⟨#[97]⟩]],.sl 6 [.agg [.int .i64 1,.int .i64 (-1),.int .i64 (-1),.int .i64 (-1),.int .i64 0,.str ⟨#[101]⟩]],.sl 1 [.sl 4 [.agg [.int .i64 3,.int .i64 0,.int .i64 0,.str ⟨#[]⟩],.agg [.int .i64 20,.int .i64 0,.int .i64 0,.str ⟨#[102]⟩]]]]],.sl 6 [.agg [.int .i64 0,.int .i64 1,.int .i64 3,.int .i64 0,.sl 1 [.int .i64 0],.sl 1 [.int .i64 0]]],.sl 5 [.agg [.int .i64 0,.int .i64 0,.int .i64 0,.int .i64 2,.int .i64 0]],.sl 1 [.str ⟨#[105]⟩],.sl 1 [.str ⟨#[107]⟩]],.int .i64 0,.int .i64 2] fun o4=>uL 1 o4 fun l6 r5=>unNil r5 (bif((l3.length:Int)==1)then(bif(decide (0<(l3.length:Int)))then(nthK l3 0 fun e7=>aI .i64 e7 fun n8=>bif(n8==1)then(bif((l6.length:Int)==1)then(bif(decide (0<(l6.length:Int)))then(nthK l6 0 fun e9=>aI .i64 e9 fun n10=>bif(n10==0)then(G 12 [.agg [.str ⟨#[99]⟩,.int .i64 4,.int .i64 9,.sl 1 [],.sl 1 [.str ⟨#[112]⟩],.sl 1 [],.sl 7 [.agg [.int .i64 2,.int .i64 (-1),.int .i64 1,.int .i64 1,.int .i64 (-1),.int .i64 (-1),.str ⟨#[]⟩],.agg [.int .i64 1,.int .i64 0,.int .i64 1,.int .i64 (-1),.int .i64 (-1),.int .i64 (-1),.str ⟨#[97]⟩]],.sl 6 [.agg [.int .i64 1,.int .i64 (-1),.int .i64 (-1),.int .i64 (-1),.int .i64 0,.str ⟨#[101]⟩]],.sl 1 [.sl 4 [.agg [.int .i64 3,.int .i64 0,.int .i64 0,.str ⟨#[]⟩],.agg [.int .i64 20,.int .i64 0,.int .i64 0,.str ⟨#[102]⟩]]]]] fun o11=>uI .i64 o11 fun n13 r12=>unNil r12 (bif(n13==15)then(G 13 [.agg [.int .i64 1,.sl 9 [.agg [.str ⟨#[99]⟩,.int .i64 4,.int .i64 9,.sl 1 [],.sl 1 [.str ⟨#[112]⟩],.sl 1 [],.sl 7 [.agg [.int .i64 2,.int .i64 (-1),.int .i64 1,.int .i64 1,.int .i64 (-1),.int .i64 (-1),.str ⟨#[]⟩],.agg [.int .i64 1,.int .i64 0,.int .i64 1,.int .i64 (-1),.int .i64 (-1),.int .i64 (-1),.str ⟨#[97]⟩]],.sl 6 [.agg [.int .i64 1,.int .i64 (-1),.int .i64 (-1),.int .i64 (-1),.int .i64 0,.str ⟨#[101]⟩]],.sl 1 [.sl 4 [.agg [.int .i64 3,.int .i64 0,.int .i64 0,.str ⟨#[]⟩],.agg [.int .i64 20,.int .i64 0,.int .i64 0,.str ⟨#[102]⟩]]]]],.sl 6 [.agg [.int .i64 0,.int .i64 1,.int .i64 3,.int .i64 0,.sl 1 [.int .i64 0],.sl 1 [.int .i64 0]]],.sl 5 [.agg [.int .i64 0,.int .i64 0,.int .i64 0,.int .i64 2,.int .i64 0]],.sl 1 [.str ⟨#[105]⟩],.sl 1 [.str ⟨#[107]⟩]],.int .i64 0,.int .i64 0] fun o14=>uI .i64 o14 fun n16 r15=>unNil r15 (bif(n16==3)then(G 14 [.agg [.int .i64 1,.sl 9 [.agg [.str ⟨#[99]⟩,.int .i64 4,.int .i64 9,.sl 1 [],.sl 1 [.str ⟨#[112]⟩],.sl 1 [],.sl 7 [.agg [.int .i64 2,.int .i64 (-1),.int .i64 1,.int .i64 1,.int .i64 (-1),.int .i64 (-1),.str ⟨#[]⟩],.agg [.int .i64 1,.int .i64 0,.int .i64 1,.int .i64 (-1),.int .i64 (-1),.int .i64 (-1),.str ⟨#[97]⟩]],.sl 6 [.agg [.int .i64 1,.int .i64 (-1),.int .i64 (-1),.int .i64 (-1),.int .i64 0,.str ⟨#[101]⟩]],.sl 1 [.sl 4 [.agg [.int .i64 3,.int .i64 0,.int .i64 0,.str ⟨#[]⟩],.agg [.int .i64 20,.int .i64 0,.int .i64 0,.str ⟨#[102]⟩]]]]],.sl 6 [.agg [.int .i64 0,.int .i64 1,.int .i64 3,.int .i64 0,.sl 1 [.int .i64 0],.sl 1 [.int .i64 0]]],.sl 5 [.agg [.int .i64 0,.int .i64 0,.int .i64 0,.int .i64 2,.int .i64 0]],.sl 1 [.str ⟨#[105]⟩],.sl 1 [.str ⟨#[107]⟩]],.int .i64 0] fun o17=>uI .i64 o17 fun n19 r18=>unNil r18 (K [.bool (n19==3)]))else(K [.bool false])))else(K [.bool false])))else(K [.bool false]))else none)else(K [.bool false]))else(K [.bool false]))else none)else(K [.bool false]))))
theorem f4_is{R:Type}(G:ORC R)(k:Nat)(K:LV→OV R):
 callF (TAB.env 4) G (L4 G k) Try.f4 S4 [] K=f4 G k K:=by kernel_rfl
theorem lo4:loopsOf (bodyOf Try.f4)=[]:=by kernel_rfl
theorem la4{R:Type}(G:ORC R)(k:Nat):LoopsAre (TAB.env 4) G (L4 G k) (bodyOf Try.f4):=
 loopsAre_of (by rw[lo4];intro p hp;cases hp)
def g4{R:Type}(G:ORC R)(k:Nat)(args:LV)(K:LV→OV R):OV R:=match args with
 | []=>f4 G k K
 |_=>none
theorem s4{R:Type}{G:ORC R}{k:Nat}(hG:Sound Try.prog TAB G)(args:LV)(K:LV→OV R)(r:R)(h:g4 G k args K=some r):∃o,CallOK Try.prog TAB.env 4 args o∧K o=some r:=by
 unfold g4 at h
 split at h
 ·rw[←f4_is]at h
  exact callF_sound (f:=4) TAB_chk MO hG Try.func4 (sg:=S4) (by kernel_rfl) (by kernel_rfl) (la4 G k) h
 ·cases h
def P3_0h:Pat:={tmps:=unds [.undef,.var (.sl 1) .ro,.var (.sl 1) .ro,.undef,.undef,.undef,.undef,.stat (.one (.ptr 7 0) .pt),.var (.sl 1) (.own true),.var (.sl 1) (.own true),.var (.int .i64) .pr] 139 [],boxes:=nons [] 7 (nons [some [.var .str .pr false,.var (.int .i64) .pr false,.var (.int .i64) .pr false,.var (.sl 1) .ro false,.var (.sl 1) .ro false,.var (.sl 1) .ro false,.var (.sl 7) .ro false,.var (.sl 6) .ro false,.var (.sl 1) .ro false]] 142 [])}
def P3_0x:Pat:={tmps:=unds [.undef,.undef,.var (.sl 1) .ro,.undef,.undef,.undef,.undef,.stat (.one (.ptr 7 0) .pt),.var (.sl 1) (.own true),.var (.sl 1) (.own true)] 140 [],boxes:=nons [] 7 (nons [some [.var .str .pr false,.var (.int .i64) .pr false,.var (.int .i64) .pr false,.var (.sl 1) .ro false,.var (.sl 1) .ro false,.var (.sl 1) .ro false,.var (.sl 7) .ro false,.var (.sl 6) .ro false,.var (.sl 1) .ro false]] 142 [])}
def b3_0{R:Type}(G:ORC R)(k:Nat)(X:LV→LV→LV→LV→Int→ByteArray→Int→Int→LV→LV→LV→LV→LV→LV→OV R)(Ko:LV→LV→LV→ByteArray→Int→Int→LV→LV→LV→LV→LV→LV→OV R)(xl34 xl35:LV)(xl36 xl37:LV)(xi38:Int)(xs39:ByteArray)(xi40 xi41:Int)(xl42 xl43:LV)(xl44 xl45:LV)(xl46 xl47:LV):OV R:=
 (bif(decide (xi38<(xl34.length:Int)))then(bif((decide (0≤xi38))&&(decide (xi38<(xl34.length:Int))))then(nthK xl34 (Int.toNat xi38) fun e48=>aI .i64 e48 fun n49=>G 6 [.int .i64 n49] fun o50=>uS o50 fun s52 r51=>unNil r51 (bif(decide (List.length xl36+1≤1073741824))then(X xl34 xl35 (xl36++[.str s52]) xl37 (IntKind.i64.wrap (xi38+1)) xs39 xi40 xi41 xl42 xl43 xl44 xl45 xl46 xl47)else none))else none)else(Ko xl35 xl36 xl37 xs39 xi40 xi41 xl42 xl43 xl44 xl45 xl46 xl47))
def l3_0g{R:Type}(G:ORC R)(k:Nat)(Ko:LV→LV→LV→ByteArray→Int→Int→LV→LV→LV→LV→LV→LV→OV R):Nat→LV→LV→LV→LV→Int→ByteArray→Int→Int→LV→LV→LV→LV→LV→LV→OV R
 |0=>fun _ _ _ _ _ _ _ _ _ _ _ _ _ _=>none
 |j+1=>b3_0 G k (l3_0g G k Ko j) Ko
def l3_0{R:Type}(G:ORC R)(k:Nat)(xl34 xl35:LV)(xl36 xl37:LV)(xi38:Int)(xs39:ByteArray)(xi40 xi41:Int)(xl42 xl43:LV)(xl44 xl45:LV)(xl46 xl47:LV)(Ko:LV→LV→LV→ByteArray→Int→Int→LV→LV→LV→LV→LV→LV→OV R):OV R:=l3_0g G k Ko k xl34 xl35 xl36 xl37 xi38 xs39 xi40 xi41 xl42 xl43 xl44 xl45 xl46 xl47
def P3_2h:Pat:={tmps:=unds [.undef,.undef,.var (.sl 1) .ro,.undef,.undef,.undef,.undef,.stat (.one (.ptr 7 0) .pt),.var (.sl 1) .ro,.var (.sl 1) (.own false),.undef,.var (.int .i64) .pr] 138 [],boxes:=nons [] 7 (nons [some [.var .str .pr false,.var (.int .i64) .pr false,.var (.int .i64) .pr false,.var (.sl 1) .ro false,.var (.sl 1) .ro false,.var (.sl 1) .ro false,.var (.sl 7) .ro false,.var (.sl 6) .ro false,.var (.sl 1) .ro false]] 142 [])}
def P3_2x:Pat:={tmps:=unds [] 7 (unds [.stat (.one (.ptr 7 0) .pt),.var (.sl 1) .ro,.var (.sl 1) (.own false)] 140 []),boxes:=nons [] 7 (nons [some [.var .str .pr false,.var (.int .i64) .pr false,.var (.int .i64) .pr false,.var (.sl 1) .ro false,.var (.sl 1) .ro false,.var (.sl 1) .ro false,.var (.sl 7) .ro false,.var (.sl 6) .ro false,.var (.sl 1) .ro false]] 142 [])}
def b3_2{R:Type}(G:ORC R)(k:Nat)(X:LV→LV→LV→Int→ByteArray→Int→Int→LV→LV→LV→LV→LV→LV→OV R)(Ko:LV→LV→ByteArray→Int→Int→LV→LV→LV→LV→LV→LV→OV R)(xl65 xl66 xl67:LV)(xi68:Int)(xs69:ByteArray)(xi70 xi71:Int)(xl72 xl73:LV)(xl74 xl75:LV)(xl76 xl77:LV):OV R:=
 (bif(decide (xi68<(xl65.length:Int)))then(bif((decide (0≤xi68))&&(decide (xi68<(xl65.length:Int))))then(nthK xl65 (Int.toNat xi68) fun e78=>aI .i64 e78 fun n79=>G 6 [.int .i64 n79] fun o80=>uS o80 fun s82 r81=>unNil r81 (bif(decide (List.length xl67+1≤1073741824))then(X xl65 xl66 (xl67++[.str s82]) (IntKind.i64.wrap (xi68+1)) xs69 xi70 xi71 xl72 xl73 xl74 xl75 xl76 xl77)else none))else none)else(Ko xl66 xl67 xs69 xi70 xi71 xl72 xl73 xl74 xl75 xl76 xl77))
def l3_2g{R:Type}(G:ORC R)(k:Nat)(Ko:LV→LV→ByteArray→Int→Int→LV→LV→LV→LV→LV→LV→OV R):Nat→LV→LV→LV→Int→ByteArray→Int→Int→LV→LV→LV→LV→LV→LV→OV R
 |0=>fun _ _ _ _ _ _ _ _ _ _ _ _ _=>none
 |j+1=>b3_2 G k (l3_2g G k Ko j) Ko
def l3_2{R:Type}(G:ORC R)(k:Nat)(xl65 xl66 xl67:LV)(xi68:Int)(xs69:ByteArray)(xi70 xi71:Int)(xl72 xl73:LV)(xl74 xl75:LV)(xl76 xl77:LV)(Ko:LV→LV→ByteArray→Int→Int→LV→LV→LV→LV→LV→LV→OV R):OV R:=l3_2g G k Ko k xl65 xl66 xl67 xi68 xs69 xi70 xi71 xl72 xl73 xl74 xl75 xl76 xl77
def P3_4h:Pat:={tmps:=unds [] 7 (unds [.stat (.one (.ptr 7 0) .pt),.undef,.undef,.undef,.undef,.stat (.one (.ptr 12 0) .pt),.stat (.one (.ptr 13 0) .pt),.stat (.one (.ptr 14 0) .pt),.var (.int .i64) .pr] 134 []),boxes:=nons [] 7 (nons [some [.var .str .pr false,.var (.int .i64) .pr false,.var (.int .i64) .pr false,.var (.sl 1) .ro false,.var (.sl 1) .ro false,.var (.sl 1) .ro false,.var (.sl 7) .ro false,.var (.sl 6) .ro false,.var (.sl 1) .ro false],none,none,none,none,some [.var (.sl 1) .ro false,.var (.sl 1) .ro false,.var (.sl 1) .ro false,.var .bool .pr false],some [.var (.sl 1) .ro false,.var (.sl 1) .ro false,.var (.sl 1) .ro false,.var .bool .pr false],some [.var (.sl 1) .ro false,.var (.sl 1) .ro false,.var (.sl 1) .ro false,.var .bool .pr false]] 135 [])}
def P3_4x:Pat:={tmps:=unds [] 7 (unds [.stat (.one (.ptr 7 0) .pt)] 6 (unds [.stat (.one (.ptr 14 0) .pt)] 135 [])),boxes:=nons [] 7 (nons [some [.var .str .pr false,.var (.int .i64) .pr false,.var (.int .i64) .pr false,.var (.sl 1) .ro false,.var (.sl 1) .ro false,.var (.sl 1) .ro false,.var (.sl 7) .ro false,.var (.sl 6) .ro false,.var (.sl 1) .ro false]] 6 (nons [some [.var (.sl 1) .ro false,.var (.sl 1) .ro false,.var (.sl 1) .ro false,.var .bool .pr false]] 135 []))}
def P3_4r:Pat:={tmps:=unds [] 6 (unds [.var .bool .pr] 143 []),boxes:=nons [] 150 []}
def b3_4{R:Type}(G:ORC R)(k:Nat)(X:Int→ByteArray→Int→Int→LV→LV→LV→LV→LV→LV→LV→LV→LV→Bool→LV→LV→LV→Bool→LV→LV→LV→Bool→OV R)(Ko:ByteArray→Int→Int→LV→LV→LV→LV→LV→LV→LV→LV→LV→Bool→OV R)(Kr:Bool→OV R)(xi133:Int)(xs134:ByteArray)(xi135 xi136:Int)(xl137 xl138:LV)(xl139 xl140:LV)(xl141 xl142:LV)(xl143 xl144 xl145:LV)(xb146:Bool)(xl147 xl148 xl149:LV)(xb150:Bool)(xl151 xl152 xl153:LV)(xb154:Bool):OV R:=
 (bif(decide (xi133<2))then(G 9 [.agg [.str xs134,.int .i64 xi135,.int .i64 xi136,.sl 1 xl137,.sl 1 xl138,.sl 1 xl139,.sl 7 xl140,.sl 6 xl141,.sl 1 xl142],.sl 1 xl144,.int .i64 xi133] fun o155=>uI .i64 o155 fun n157 r156=>unNil r156 (G 9 [.agg [.str xs134,.int .i64 xi135,.int .i64 xi136,.sl 1 xl137,.sl 1 xl138,.sl 1 xl139,.sl 7 xl140,.sl 6 xl141,.sl 1 xl142],.sl 1 xl148,.int .i64 xi133] fun o158=>uI .i64 o158 fun n160 r159=>unNil r159 (bif(decide (n157>n160))then(Kr false)else(G 9 [.agg [.str xs134,.int .i64 xi135,.int .i64 xi136,.sl 1 xl137,.sl 1 xl138,.sl 1 xl139,.sl 7 xl140,.sl 6 xl141,.sl 1 xl142],.sl 1 xl148,.int .i64 xi133] fun o161=>uI .i64 o161 fun n163 r162=>unNil r162 (G 9 [.agg [.str xs134,.int .i64 xi135,.int .i64 xi136,.sl 1 xl137,.sl 1 xl138,.sl 1 xl139,.sl 7 xl140,.sl 6 xl141,.sl 1 xl142],.sl 1 xl152,.int .i64 xi133] fun o164=>uI .i64 o164 fun n166 r165=>unNil r165 (bif(decide (n163>n166))then(Kr false)else(X (IntKind.i64.wrap (xi133+1)) xs134 xi135 xi136 xl137 xl138 xl139 xl140 xl141 xl142 xl143 xl144 xl145 xb146 xl147 xl148 xl149 xb150 xl151 xl152 xl153 xb154)))))))else(Ko xs134 xi135 xi136 xl137 xl138 xl139 xl140 xl141 xl142 xl151 xl152 xl153 xb154))
def l3_4g{R:Type}(G:ORC R)(k:Nat)(Ko:ByteArray→Int→Int→LV→LV→LV→LV→LV→LV→LV→LV→LV→Bool→OV R)(Kr:Bool→OV R):Nat→Int→ByteArray→Int→Int→LV→LV→LV→LV→LV→LV→LV→LV→LV→Bool→LV→LV→LV→Bool→LV→LV→LV→Bool→OV R
 |0=>fun _ _ _ _ _ _ _ _ _ _ _ _ _ _ _ _ _ _ _ _ _ _=>none
 |j+1=>b3_4 G k (l3_4g G k Ko Kr j) Ko Kr
def l3_4{R:Type}(G:ORC R)(k:Nat)(xi133:Int)(xs134:ByteArray)(xi135 xi136:Int)(xl137 xl138:LV)(xl139 xl140:LV)(xl141 xl142:LV)(xl143 xl144 xl145:LV)(xb146:Bool)(xl147 xl148 xl149:LV)(xb150:Bool)(xl151 xl152 xl153:LV)(xb154:Bool)(Ko:ByteArray→Int→Int→LV→LV→LV→LV→LV→LV→LV→LV→LV→Bool→OV R)(Kr:Bool→OV R):OV R:=l3_4g G k Ko Kr k xi133 xs134 xi135 xi136 xl137 xl138 xl139 xl140 xl141 xl142 xl143 xl144 xl145 xb146 xl147 xl148 xl149 xb150 xl151 xl152 xl153 xb154
def rd3_0{R:Type}(G:ORC R)(k:Nat)(K:Ex→St→OV R)(j:Nat)(vs:LV):OV R:=match vs with
 | [.sl 1 xl34,.sl 1 xl35,.sl 1 xl36,.sl 1 xl37,.int .i64 xi38,.str xs39,.int .i64 xi40,.int .i64 xi41,.sl 1 xl42,.sl 1 xl43,.sl 1 xl44,.sl 7 xl45,.sl 6 xl46,.sl 1 xl47]=>l3_0g G k (fun yl247 yl248 yl249 ys250 yi251 yi252 yl253 yl254 yl255 yl256 yl257 yl258=>K .normal (P3_0x.inst [.sl 1 yl247,.sl 1 yl248,.sl 1 yl249,.str ys250,.int .i64 yi251,.int .i64 yi252,.sl 1 yl253,.sl 1 yl254,.sl 1 yl255,.sl 7 yl256,.sl 6 yl257,.sl 1 yl258])) j xl34 xl35 xl36 xl37 xi38 xs39 xi40 xi41 xl42 xl43 xl44 xl45 xl46 xl47
 |_=>none
def rd3_2{R:Type}(G:ORC R)(k:Nat)(K:Ex→St→OV R)(j:Nat)(vs:LV):OV R:=match vs with
 | [.sl 1 xl65,.sl 1 xl66,.sl 1 xl67,.int .i64 xi68,.str xs69,.int .i64 xi70,.int .i64 xi71,.sl 1 xl72,.sl 1 xl73,.sl 1 xl74,.sl 7 xl75,.sl 6 xl76,.sl 1 xl77]=>l3_2g G k (fun yl259 yl260 ys261 yi262 yi263 yl264 yl265 yl266 yl267 yl268 yl269=>K .normal (P3_2x.inst [.sl 1 yl259,.sl 1 yl260,.str ys261,.int .i64 yi262,.int .i64 yi263,.sl 1 yl264,.sl 1 yl265,.sl 1 yl266,.sl 7 yl267,.sl 6 yl268,.sl 1 yl269])) j xl65 xl66 xl67 xi68 xs69 xi70 xi71 xl72 xl73 xl74 xl75 xl76 xl77
 |_=>none
def rd3_4{R:Type}(G:ORC R)(k:Nat)(K:Ex→St→OV R)(j:Nat)(vs:LV):OV R:=match vs with
 | [.int .i64 xi133,.str xs134,.int .i64 xi135,.int .i64 xi136,.sl 1 xl137,.sl 1 xl138,.sl 1 xl139,.sl 7 xl140,.sl 6 xl141,.sl 1 xl142,.sl 1 xl143,.sl 1 xl144,.sl 1 xl145,.bool xb146,.sl 1 xl147,.sl 1 xl148,.sl 1 xl149,.bool xb150,.sl 1 xl151,.sl 1 xl152,.sl 1 xl153,.bool xb154]=>l3_4g G k (fun ys270 yi271 yi272 yl273 yl274 yl275 yl276 yl277 yl278 yl279 yl280 yl281 yb282=>K .normal (P3_4x.inst [.str ys270,.int .i64 yi271,.int .i64 yi272,.sl 1 yl273,.sl 1 yl274,.sl 1 yl275,.sl 7 yl276,.sl 6 yl277,.sl 1 yl278,.sl 1 yl279,.sl 1 yl280,.sl 1 yl281,.bool yb282])) (fun yb283=>K .ret (P3_4r.inst [.bool yb283])) j xi133 xs134 xi135 xi136 xl137 xl138 xl139 xl140 xl141 xl142 xl143 xl144 xl145 xb146 xl147 xl148 xl149 xb150 xl151 xl152 xl153 xb154
 |_=>none
def L3{R:Type}(G:ORC R)(k:Nat):Nat→St→(Ex→St→OV R)→OV R
 |0,S,K=>P3_0h.mat S fun vs=>rd3_0 G k K k vs
 |2,S,K=>P3_2h.mat S fun vs=>rd3_2 G k K k vs
 |4,S,K=>P3_4h.mat S fun vs=>rd3_4 G k K k vs
 |_,_,_=>none
def f3{R:Type}(G:ORC R)(k:Nat)(al1 al2 al3:LV)(K:LV→OV R):OV R:=
 (bif(decide ((al1.length:Int)>200))then(G 4 [] fun o4=>uB o4 fun b6 r5=>unNil r5 (K [.bool b6]))else(bif(decide ((al2.length:Int)>20))then(G 4 [] fun o7=>uB o7 fun b9 r8=>unNil r8 (K [.bool b9]))else(bif(decide ((al3.length:Int)>20))then(G 4 [] fun o10=>uB o10 fun b12 r11=>unNil r11 (K [.bool b12]))else(G 5 [.sl 1 al1] fun o13=>uA o13 fun l15 r14=>uS l15 fun s17 r16=>uI .i64 r16 fun n19 r18=>uI .i64 r18 fun n21 r20=>uL 1 r20 fun l23 r22=>uL 1 r22 fun l25 r24=>uL 1 r24 fun l27 r26=>uL 7 r26 fun l29 r28=>uL 6 r28 fun l31 r30=>uL 1 r30 fun l33 r32=>unNil r32 (unNil r14 (l3_0 G k al2 al3 [] [] 0 s17 n19 n21 l23 l25 l27 l29 l31 l33 (fun yl53 yl54 yl55 ys56 yi57 yi58 yl59 yl60 yl61 yl62 yl63 yl64=>bif(decide (List.length yl55+List.length yl54≤1073741824))then(l3_2 G k yl53 yl54 (yl55++yl54) 0 ys56 yi57 yi58 yl59 yl60 yl61 yl62 yl63 yl64 (fun yl83 yl84 ys85 yi86 yi87 yl88 yl89 yl90 yl91 yl92 yl93=>G 7 [.agg [.str ys85,.int .i64 yi86,.int .i64 yi87,.sl 1 yl88,.sl 1 yl89,.sl 1 yl90,.sl 7 yl91,.sl 6 yl92,.sl 1 yl93],.bool false,.sl 1 yl83] fun o94=>uA o94 fun l96 r95=>uL 1 l96 fun l98 r97=>uL 1 r97 fun l100 r99=>uL 1 r99 fun l102 r101=>uB r101 fun b104 r103=>unNil r103 (unNil r95 (G 7 [.agg [.str ys85,.int .i64 yi86,.int .i64 yi87,.sl 1 yl88,.sl 1 yl89,.sl 1 yl90,.sl 7 yl91,.sl 6 yl92,.sl 1 yl93],.bool false,.sl 1 yl84] fun o105=>uA o105 fun l107 r106=>uL 1 l107 fun l109 r108=>uL 1 r108 fun l111 r110=>uL 1 r110 fun l113 r112=>uB r112 fun b115 r114=>unNil r114 (unNil r106 (G 7 [.agg [.str ys85,.int .i64 yi86,.int .i64 yi87,.sl 1 yl88,.sl 1 yl89,.sl 1 yl90,.sl 7 yl91,.sl 6 yl92,.sl 1 yl93],.bool true,.sl 1 []] fun o116=>uA o116 fun l118 r117=>uL 1 l118 fun l120 r119=>uL 1 r119 fun l122 r121=>uL 1 r121 fun l124 r123=>uB r123 fun b126 r125=>unNil r125 (unNil r117 (G 8 [.sl 1 l98,.sl 1 l109] fun o127=>uL 1 o127 fun l129 r128=>unNil r128 (bif(decide ((l129.length:Int)>0))then(K [.bool false])else(G 8 [.sl 1 l109,.sl 1 l120] fun o130=>uL 1 o130 fun l132 r131=>unNil r131 (bif(decide ((l132.length:Int)>0))then(K [.bool false])else(bif b104 then(bif(!b115)then(K [.bool false])else(bif b115 then(bif(!b126)then(K [.bool false])else(l3_4 G k 0 ys85 yi86 yi87 yl88 yl89 yl90 yl91 yl92 yl93 l98 l100 l102 b104 l109 l111 l113 b115 l120 l122 l124 b126 (fun ys167 yi168 yi169 yl170 yl171 yl172 yl173 yl174 yl175 yl176 yl177 yl178 yb179=>bif((yl176.length:Int)==(yl174.length:Int))then(G 10 [.sl 7 yl173] fun o180=>uL 1 o180 fun l182 r181=>unNil r181 (bif(decide ((l182.length:Int)>1))then(G 4 [] fun o183=>uB o183 fun b185 r184=>unNil r184 (K [.bool b185]))else(K [.bool false])))else(K [.bool false])) (fun yb186=>K [.bool yb186])))else(l3_4 G k 0 ys85 yi86 yi87 yl88 yl89 yl90 yl91 yl92 yl93 l98 l100 l102 b104 l109 l111 l113 b115 l120 l122 l124 b126 (fun ys187 yi188 yi189 yl190 yl191 yl192 yl193 yl194 yl195 yl196 yl197 yl198 yb199=>bif((yl196.length:Int)==(yl194.length:Int))then(G 10 [.sl 7 yl193] fun o200=>uL 1 o200 fun l202 r201=>unNil r201 (bif(decide ((l202.length:Int)>1))then(G 4 [] fun o203=>uB o203 fun b205 r204=>unNil r204 (K [.bool b205]))else(K [.bool false])))else(K [.bool false])) (fun yb206=>K [.bool yb206]))))else(bif b115 then(bif(!b126)then(K [.bool false])else(l3_4 G k 0 ys85 yi86 yi87 yl88 yl89 yl90 yl91 yl92 yl93 l98 l100 l102 b104 l109 l111 l113 b115 l120 l122 l124 b126 (fun ys207 yi208 yi209 yl210 yl211 yl212 yl213 yl214 yl215 yl216 yl217 yl218 yb219=>bif((yl216.length:Int)==(yl214.length:Int))then(G 10 [.sl 7 yl213] fun o220=>uL 1 o220 fun l222 r221=>unNil r221 (bif(decide ((l222.length:Int)>1))then(G 4 [] fun o223=>uB o223 fun b225 r224=>unNil r224 (K [.bool b225]))else(K [.bool false])))else(K [.bool false])) (fun yb226=>K [.bool yb226])))else(l3_4 G k 0 ys85 yi86 yi87 yl88 yl89 yl90 yl91 yl92 yl93 l98 l100 l102 b104 l109 l111 l113 b115 l120 l122 l124 b126 (fun ys227 yi228 yi229 yl230 yl231 yl232 yl233 yl234 yl235 yl236 yl237 yl238 yb239=>bif((yl236.length:Int)==(yl234.length:Int))then(G 10 [.sl 7 yl233] fun o240=>uL 1 o240 fun l242 r241=>unNil r241 (bif(decide ((l242.length:Int)>1))then(G 4 [] fun o243=>uB o243 fun b245 r244=>unNil r244 (K [.bool b245]))else(K [.bool false])))else(K [.bool false])) (fun yb246=>K [.bool yb246])))))))))))))))else none)))))))
noncomputable def D3_0:LoopD:={id:=0,body:=loopAt 0 (bodyOf Try.f3),head:=P3_0h,out:=P3_0x,ret:=default}
theorem l3_0_is{R:Type}(G:ORC R)(k:Nat)(X:LV→OV R)(K:Ex→St→OV R)(xl34 xl35:LV)(xl36 xl37:LV)(xi38:Int)(xs39:ByteArray)(xi40 xi41:Int)(xl42 xl43:LV)(xl44 xl45:LV)(xl46 xl47:LV):
 roundOf (TAB.env 3) G (L3 G k) D3_0 X K [.sl 1 xl34,.sl 1 xl35,.sl 1 xl36,.sl 1 xl37,.int .i64 xi38,.str xs39,.int .i64 xi40,.int .i64 xi41,.sl 1 xl42,.sl 1 xl43,.sl 1 xl44,.sl 7 xl45,.sl 6 xl46,.sl 1 xl47]=b3_0 G k (fun xl34 xl35 xl36 xl37 xi38 xs39 xi40 xi41 xl42 xl43 xl44 xl45 xl46 xl47=>X [.sl 1 xl34,.sl 1 xl35,.sl 1 xl36,.sl 1 xl37,.int .i64 xi38,.str xs39,.int .i64 xi40,.int .i64 xi41,.sl 1 xl42,.sl 1 xl43,.sl 1 xl44,.sl 7 xl45,.sl 6 xl46,.sl 1 xl47]) (fun yl247 yl248 yl249 ys250 yi251 yi252 yl253 yl254 yl255 yl256 yl257 yl258=>K .normal (P3_0x.inst [.sl 1 yl247,.sl 1 yl248,.sl 1 yl249,.str ys250,.int .i64 yi251,.int .i64 yi252,.sl 1 yl253,.sl 1 yl254,.sl 1 yl255,.sl 7 yl256,.sl 6 yl257,.sl 1 yl258])) xl34 xl35 xl36 xl37 xi38 xs39 xi40 xi41 xl42 xl43 xl44 xl45 xl46 xl47:=by kernel_rfl
noncomputable def D3_2:LoopD:={id:=2,body:=loopAt 2 (bodyOf Try.f3),head:=P3_2h,out:=P3_2x,ret:=default}
theorem l3_2_is{R:Type}(G:ORC R)(k:Nat)(X:LV→OV R)(K:Ex→St→OV R)(xl65 xl66 xl67:LV)(xi68:Int)(xs69:ByteArray)(xi70 xi71:Int)(xl72 xl73:LV)(xl74 xl75:LV)(xl76 xl77:LV):
 roundOf (TAB.env 3) G (L3 G k) D3_2 X K [.sl 1 xl65,.sl 1 xl66,.sl 1 xl67,.int .i64 xi68,.str xs69,.int .i64 xi70,.int .i64 xi71,.sl 1 xl72,.sl 1 xl73,.sl 1 xl74,.sl 7 xl75,.sl 6 xl76,.sl 1 xl77]=b3_2 G k (fun xl65 xl66 xl67 xi68 xs69 xi70 xi71 xl72 xl73 xl74 xl75 xl76 xl77=>X [.sl 1 xl65,.sl 1 xl66,.sl 1 xl67,.int .i64 xi68,.str xs69,.int .i64 xi70,.int .i64 xi71,.sl 1 xl72,.sl 1 xl73,.sl 1 xl74,.sl 7 xl75,.sl 6 xl76,.sl 1 xl77]) (fun yl259 yl260 ys261 yi262 yi263 yl264 yl265 yl266 yl267 yl268 yl269=>K .normal (P3_2x.inst [.sl 1 yl259,.sl 1 yl260,.str ys261,.int .i64 yi262,.int .i64 yi263,.sl 1 yl264,.sl 1 yl265,.sl 1 yl266,.sl 7 yl267,.sl 6 yl268,.sl 1 yl269])) xl65 xl66 xl67 xi68 xs69 xi70 xi71 xl72 xl73 xl74 xl75 xl76 xl77:=by kernel_rfl
noncomputable def D3_4:LoopD:={id:=4,body:=loopAt 4 (bodyOf Try.f3),head:=P3_4h,out:=P3_4x,ret:=P3_4r}
theorem l3_4_is{R:Type}(G:ORC R)(k:Nat)(X:LV→OV R)(K:Ex→St→OV R)(xi133:Int)(xs134:ByteArray)(xi135 xi136:Int)(xl137 xl138:LV)(xl139 xl140:LV)(xl141 xl142:LV)(xl143 xl144 xl145:LV)(xb146:Bool)(xl147 xl148 xl149:LV)(xb150:Bool)(xl151 xl152 xl153:LV)(xb154:Bool):
 roundOf (TAB.env 3) G (L3 G k) D3_4 X K [.int .i64 xi133,.str xs134,.int .i64 xi135,.int .i64 xi136,.sl 1 xl137,.sl 1 xl138,.sl 1 xl139,.sl 7 xl140,.sl 6 xl141,.sl 1 xl142,.sl 1 xl143,.sl 1 xl144,.sl 1 xl145,.bool xb146,.sl 1 xl147,.sl 1 xl148,.sl 1 xl149,.bool xb150,.sl 1 xl151,.sl 1 xl152,.sl 1 xl153,.bool xb154]=b3_4 G k (fun xi133 xs134 xi135 xi136 xl137 xl138 xl139 xl140 xl141 xl142 xl143 xl144 xl145 xb146 xl147 xl148 xl149 xb150 xl151 xl152 xl153 xb154=>X [.int .i64 xi133,.str xs134,.int .i64 xi135,.int .i64 xi136,.sl 1 xl137,.sl 1 xl138,.sl 1 xl139,.sl 7 xl140,.sl 6 xl141,.sl 1 xl142,.sl 1 xl143,.sl 1 xl144,.sl 1 xl145,.bool xb146,.sl 1 xl147,.sl 1 xl148,.sl 1 xl149,.bool xb150,.sl 1 xl151,.sl 1 xl152,.sl 1 xl153,.bool xb154]) (fun ys270 yi271 yi272 yl273 yl274 yl275 yl276 yl277 yl278 yl279 yl280 yl281 yb282=>K .normal (P3_4x.inst [.str ys270,.int .i64 yi271,.int .i64 yi272,.sl 1 yl273,.sl 1 yl274,.sl 1 yl275,.sl 7 yl276,.sl 6 yl277,.sl 1 yl278,.sl 1 yl279,.sl 1 yl280,.sl 1 yl281,.bool yb282])) (fun yb283=>K .ret (P3_4r.inst [.bool yb283])) xi133 xs134 xi135 xi136 xl137 xl138 xl139 xl140 xl141 xl142 xl143 xl144 xl145 xb146 xl147 xl148 xl149 xb150 xl151 xl152 xl153 xb154:=by kernel_rfl
theorem f3_is{R:Type}(G:ORC R)(k:Nat)(K:LV→OV R)(al1 al2 al3:LV):
 callF (TAB.env 3) G (L3 G k) Try.f3 S3 [.sl 1 al1,.sl 1 al2,.sl 1 al3] K=f3 G k al1 al2 al3 K:=by kernel_rfl
theorem li3_0{R:Type}(G:ORC R)(k:Nat):LoopIs (TAB.env 3) G (L3 G k) 0 (loopAt 0 (bodyOf Try.f3)):=
 ⟨D3_0,fun j vs K=>rd3_0 G k K j vs,k,rfl,rfl,by kernel_rfl,by kernel_rfl,by kernel_rfl,(fun vs K=>by unfold rd3_0;dsimp only;split<;>rfl),
   (fun j vs K r h=>by
     unfold rd3_0 at h
     dsimp only at h
     split at h
     ·rw[l3_0_is];exact h
     ·cases h),(fun S K r h=>h)⟩
theorem li3_2{R:Type}(G:ORC R)(k:Nat):LoopIs (TAB.env 3) G (L3 G k) 2 (loopAt 2 (bodyOf Try.f3)):=
 ⟨D3_2,fun j vs K=>rd3_2 G k K j vs,k,rfl,rfl,by kernel_rfl,by kernel_rfl,by kernel_rfl,(fun vs K=>by unfold rd3_2;dsimp only;split<;>rfl),
   (fun j vs K r h=>by
     unfold rd3_2 at h
     dsimp only at h
     split at h
     ·rw[l3_2_is];exact h
     ·cases h),(fun S K r h=>h)⟩
theorem li3_4{R:Type}(G:ORC R)(k:Nat):LoopIs (TAB.env 3) G (L3 G k) 4 (loopAt 4 (bodyOf Try.f3)):=
 ⟨D3_4,fun j vs K=>rd3_4 G k K j vs,k,rfl,rfl,by kernel_rfl,by kernel_rfl,by kernel_rfl,(fun vs K=>by unfold rd3_4;dsimp only;split<;>rfl),
   (fun j vs K r h=>by
     unfold rd3_4 at h
     dsimp only at h
     split at h
     ·rw[l3_4_is];exact h
     ·cases h),(fun S K r h=>h)⟩
theorem lo3:loopsOf (bodyOf Try.f3)=[(0,loopAt 0 (bodyOf Try.f3)),(2,loopAt 2 (bodyOf Try.f3)),(4,loopAt 4 (bodyOf Try.f3))]:=by kernel_rfl
theorem la3{R:Type}(G:ORC R)(k:Nat):LoopsAre (TAB.env 3) G (L3 G k) (bodyOf Try.f3):=
 loopsAre_of (by rw[lo3];intro p hp;simp only[List.mem_cons,List.not_mem_nil,or_false]at hp;rcases hp with rfl|rfl|rfl<;>first|exact li3_0 G k|exact li3_2 G k|exact li3_4 G k)
def g3{R:Type}(G:ORC R)(k:Nat)(args:LV)(K:LV→OV R):OV R:=match args with
 | [.sl 1 al1,.sl 1 al2,.sl 1 al3]=>f3 G k al1 al2 al3 K
 |_=>none
theorem s3{R:Type}{G:ORC R}{k:Nat}(hG:Sound Try.prog TAB G)(args:LV)(K:LV→OV R)(r:R)(h:g3 G k args K=some r):∃o,CallOK Try.prog TAB.env 3 args o∧K o=some r:=by
 unfold g3 at h
 split at h
 ·rw[←f3_is]at h
  exact callF_sound (f:=3) TAB_chk MO hG Try.func3 (sg:=S3) (by kernel_rfl) (by kernel_rfl) (la3 G k) h
 ·cases h
def L11{R:Type}(_:ORC R)(_:Nat):Nat→St→(Ex→St→OV R)→OV R:=fun _ _ _=>none
def f11{R:Type}(G:ORC R)(k:Nat)(ai1:Int)(al2 al3:LV)(al4 al5 al6:LV)(ai7 ai8:Int)(K:LV→OV R):OV R:=
 (G 23 [.agg [.int .i64 ai1,.sl 9 al2,.sl 6 al3,.sl 5 al4,.sl 1 al5,.sl 1 al6],.int .i64 ai7] fun o9=>uA o9 fun l11 r10=>uI .i64 l11 fun n13 r12=>uI .i64 r12 fun n15 r14=>uI .i64 r14 fun n17 r16=>uI .i64 r16 fun n19 r18=>uL 1 r18 fun l21 r20=>uL 1 r20 fun l23 r22=>unNil r22 (uA r10 fun l25 r24=>uS l25 fun s27 r26=>uI .i64 r26 fun n29 r28=>uI .i64 r28 fun n31 r30=>uL 1 r30 fun l33 r32=>uL 1 r32 fun l35 r34=>uL 1 r34 fun l37 r36=>uL 7 r36 fun l39 r38=>uL 6 r38 fun l41 r40=>uL 1 r40 fun l43 r42=>unNil r42 (uB r24 fun b45 r44=>unNil r44 (bif(!b45)then(K [.sl 1 []])else(bif(decide (ai8<0))then(K [.sl 1 []])else(G 14 [.agg [.int .i64 ai1,.sl 9 al2,.sl 6 al3,.sl 5 al4,.sl 1 al5,.sl 1 al6],.int .i64 ai7] fun o46=>uI .i64 o46 fun n48 r47=>unNil r47 (bif(decide (ai8≥n48))then(K [.sl 1 []])else(G 24 [.agg [.int .i64 ai1,.sl 9 al2,.sl 6 al3,.sl 5 al4,.sl 1 al5,.sl 1 al6],.int .i64 ai7,.int .i64 ai8] fun o49=>uB o49 fun b51 r50=>uL 1 r50 fun l53 r52=>unNil r52 (G 7 [.agg [.str s27,.int .i64 n29,.int .i64 n31,.sl 1 l33,.sl 1 l35,.sl 1 l37,.sl 7 l39,.sl 6 l41,.sl 1 l43],.bool b51,.sl 1 l53] fun o54=>uA o54 fun l56 r55=>uL 1 l56 fun l58 r57=>uL 1 r57 fun l60 r59=>uL 1 r59 fun l62 r61=>uB r61 fun b64 r63=>unNil r63 (unNil r55 (bif b64 then(G 65561 [.agg [.int .i64 ai1,.sl 9 al2,.sl 6 al3,.sl 5 al4,.sl 1 al5,.sl 1 al6],.int .i64 ai7,.int .i64 n29,.str s27,.int .i64 n29,.int .i64 n31,.sl 1 l33,.sl 1 l35,.sl 1 l37,.sl 7 l39,.sl 6 l41,.sl 1 l43,.sl 1 l58,.sl 1 l60,.sl 1 l62,.bool b64] fun o65=>uL 1 o65 fun l67 r66=>uI .i64 r66 fun n69 r68=>uS r68 fun s71 r70=>uI .i64 r70 fun n73 r72=>uI .i64 r72 fun n75 r74=>uB r74 fun b77 r76=>unNil r76 (K [.sl 1 l67]))else(G 65561 [.agg [.int .i64 ai1,.sl 9 al2,.sl 6 al3,.sl 5 al4,.sl 1 al5,.sl 1 al6],.int .i64 ai7,.int .i64 1,.str s27,.int .i64 n29,.int .i64 n31,.sl 1 l33,.sl 1 l35,.sl 1 l37,.sl 7 l39,.sl 6 l41,.sl 1 l43,.sl 1 l58,.sl 1 l60,.sl 1 l62,.bool b64] fun o78=>uL 1 o78 fun l80 r79=>uI .i64 r79 fun n82 r81=>uS r81 fun s84 r83=>uI .i64 r83 fun n86 r85=>uI .i64 r85 fun n88 r87=>uB r87 fun b90 r89=>unNil r89 (K [.sl 1 l80])))))))))))))
theorem f11_is{R:Type}(G:ORC R)(k:Nat)(K:LV→OV R)(ai1:Int)(al2 al3:LV)(al4 al5 al6:LV)(ai7 ai8:Int):
 callF (TAB.env 11) G (L11 G k) Try.f11 S11 [.agg [.int .i64 ai1,.sl 9 al2,.sl 6 al3,.sl 5 al4,.sl 1 al5,.sl 1 al6],.int .i64 ai7,.int .i64 ai8] K=f11 G k ai1 al2 al3 al4 al5 al6 ai7 ai8 K:=by kernel_rfl
theorem lo11:loopsOf (bodyOf Try.f11)=[]:=by kernel_rfl
theorem la11{R:Type}(G:ORC R)(k:Nat):LoopsAre (TAB.env 11) G (L11 G k) (bodyOf Try.f11):=
 loopsAre_of (by rw[lo11];intro p hp;cases hp)
def g11{R:Type}(G:ORC R)(k:Nat)(args:LV)(K:LV→OV R):OV R:=match args with
 | [.agg [.int .i64 ai1,.sl 9 al2,.sl 6 al3,.sl 5 al4,.sl 1 al5,.sl 1 al6],.int .i64 ai7,.int .i64 ai8]=>f11 G k ai1 al2 al3 al4 al5 al6 ai7 ai8 K
 |_=>none
theorem s11{R:Type}{G:ORC R}{k:Nat}(hG:Sound Try.prog TAB G)(args:LV)(K:LV→OV R)(r:R)(h:g11 G k args K=some r):∃o,CallOK Try.prog TAB.env 11 args o∧K o=some r:=by
 unfold g11 at h
 split at h
 ·rw[←f11_is]at h
  exact callF_sound (f:=11) TAB_chk MO hG Try.func11 (sg:=S11) (by kernel_rfl) (by kernel_rfl) (la11 G k) h
 ·cases h
def P12_0h:Pat:={tmps:=unds [.undef,.stat (.one (.ptr 1 0) .pt),.undef,.var (.int .i64) .pr,.undef,.undef,.undef,.var (.sl 1) .ro,.var (.int .i64) .pr,.var (.int .i64) .pr] 16 [],boxes:=nons [none,some [.var .str .pr false,.var (.int .i64) .pr false,.var (.int .i64) .pr false,.var (.sl 1) .ro false,.var (.sl 1) .ro false,.var (.sl 1) .ro false,.var (.sl 7) .ro false,.var (.sl 6) .ro false,.var (.sl 1) .ro false]] 24 []}
def P12_0x:Pat:={tmps:=unds [.undef,.stat (.one (.ptr 1 0) .pt),.undef,.var (.int .i64) .pr] 22 [],boxes:=nons [none,some [.var .str .pr false,.var (.int .i64) .pr false,.var (.int .i64) .pr false,.var (.sl 1) .ro false,.var (.sl 1) .ro false,.var (.sl 1) .ro false,.var (.sl 7) .ro false,.var (.sl 6) .ro false,.var (.sl 1) .ro false]] 24 []}
def b12_0{R:Type}(G:ORC R)(k:Nat)(X:Int→LV→Int→Int→ByteArray→Int→Int→LV→LV→LV→LV→LV→LV→OV R)(Ko:Int→ByteArray→Int→Int→LV→LV→LV→LV→LV→LV→OV R)(xi10:Int)(xl11:LV)(xi12 xi13:Int)(xs14:ByteArray)(xi15 xi16:Int)(xl17 xl18:LV)(xl19 xl20:LV)(xl21 xl22:LV):OV R:=
 (bif(decide (xi13<xi12))then(bif((decide (0≤xi13))&&(decide (xi13<(xl11.length:Int))))then(nthK xl11 (Int.toNat xi13) fun e23=>V.asSl e23 fun z24 l25=>G 27 [.sl z24 l25] fun o26=>uI .i64 o26 fun n28 r27=>unNil r27 (X (IntKind.i64.wrap (xi10+(bif(decide (xi16<n28))then xi16 else n28))) xl11 xi12 (IntKind.i64.wrap (xi13+1)) xs14 xi15 xi16 xl17 xl18 xl19 xl20 xl21 xl22))else none)else(Ko xi10 xs14 xi15 xi16 xl17 xl18 xl19 xl20 xl21 xl22))
def l12_0g{R:Type}(G:ORC R)(k:Nat)(Ko:Int→ByteArray→Int→Int→LV→LV→LV→LV→LV→LV→OV R):Nat→Int→LV→Int→Int→ByteArray→Int→Int→LV→LV→LV→LV→LV→LV→OV R
 |0=>fun _ _ _ _ _ _ _ _ _ _ _ _ _=>none
 |j+1=>b12_0 G k (l12_0g G k Ko j) Ko
def l12_0{R:Type}(G:ORC R)(k:Nat)(xi10:Int)(xl11:LV)(xi12 xi13:Int)(xs14:ByteArray)(xi15 xi16:Int)(xl17 xl18:LV)(xl19 xl20:LV)(xl21 xl22:LV)(Ko:Int→ByteArray→Int→Int→LV→LV→LV→LV→LV→LV→OV R):OV R:=l12_0g G k Ko k xi10 xl11 xi12 xi13 xs14 xi15 xi16 xl17 xl18 xl19 xl20 xl21 xl22
def rd12_0{R:Type}(G:ORC R)(k:Nat)(K:Ex→St→OV R)(j:Nat)(vs:LV):OV R:=match vs with
 | [.int .i64 xi10,.sl 1 xl11,.int .i64 xi12,.int .i64 xi13,.str xs14,.int .i64 xi15,.int .i64 xi16,.sl 1 xl17,.sl 1 xl18,.sl 1 xl19,.sl 7 xl20,.sl 6 xl21,.sl 1 xl22]=>l12_0g G k (fun yi39 ys40 yi41 yi42 yl43 yl44 yl45 yl46 yl47 yl48=>K .normal (P12_0x.inst [.int .i64 yi39,.str ys40,.int .i64 yi41,.int .i64 yi42,.sl 1 yl43,.sl 1 yl44,.sl 1 yl45,.sl 7 yl46,.sl 6 yl47,.sl 1 yl48])) j xi10 xl11 xi12 xi13 xs14 xi15 xi16 xl17 xl18 xl19 xl20 xl21 xl22
 |_=>none
def L12{R:Type}(G:ORC R)(k:Nat):Nat→St→(Ex→St→OV R)→OV R
 |0,S,K=>P12_0h.mat S fun vs=>rd12_0 G k K k vs
 |_,_,_=>none
def f12{R:Type}(G:ORC R)(k:Nat)(as1:ByteArray)(ai2 ai3:Int)(al4 al5:LV)(al6 al7:LV)(al8 al9:LV)(K:LV→OV R):OV R:=
 (l12_0 G k 1 al9 (al9.length:Int) 0 as1 ai2 ai3 al4 al5 al6 al7 al8 al9 (fun yi29 ys30 yi31 yi32 yl33 yl34 yl35 yl36 yl37 yl38=>K [.int .i64 (IntKind.i64.wrap ((IntKind.i64.wrap (yi31+1))*yi29))]))
noncomputable def D12_0:LoopD:={id:=0,body:=loopAt 0 (bodyOf Try.f12),head:=P12_0h,out:=P12_0x,ret:=default}
theorem l12_0_is{R:Type}(G:ORC R)(k:Nat)(X:LV→OV R)(K:Ex→St→OV R)(xi10:Int)(xl11:LV)(xi12 xi13:Int)(xs14:ByteArray)(xi15 xi16:Int)(xl17 xl18:LV)(xl19 xl20:LV)(xl21 xl22:LV):
 roundOf (TAB.env 12) G (L12 G k) D12_0 X K [.int .i64 xi10,.sl 1 xl11,.int .i64 xi12,.int .i64 xi13,.str xs14,.int .i64 xi15,.int .i64 xi16,.sl 1 xl17,.sl 1 xl18,.sl 1 xl19,.sl 7 xl20,.sl 6 xl21,.sl 1 xl22]=b12_0 G k (fun xi10 xl11 xi12 xi13 xs14 xi15 xi16 xl17 xl18 xl19 xl20 xl21 xl22=>X [.int .i64 xi10,.sl 1 xl11,.int .i64 xi12,.int .i64 xi13,.str xs14,.int .i64 xi15,.int .i64 xi16,.sl 1 xl17,.sl 1 xl18,.sl 1 xl19,.sl 7 xl20,.sl 6 xl21,.sl 1 xl22]) (fun yi39 ys40 yi41 yi42 yl43 yl44 yl45 yl46 yl47 yl48=>K .normal (P12_0x.inst [.int .i64 yi39,.str ys40,.int .i64 yi41,.int .i64 yi42,.sl 1 yl43,.sl 1 yl44,.sl 1 yl45,.sl 7 yl46,.sl 6 yl47,.sl 1 yl48])) xi10 xl11 xi12 xi13 xs14 xi15 xi16 xl17 xl18 xl19 xl20 xl21 xl22:=by kernel_rfl
theorem f12_is{R:Type}(G:ORC R)(k:Nat)(K:LV→OV R)(as1:ByteArray)(ai2 ai3:Int)(al4 al5:LV)(al6 al7:LV)(al8 al9:LV):
 callF (TAB.env 12) G (L12 G k) Try.f12 S12 [.agg [.str as1,.int .i64 ai2,.int .i64 ai3,.sl 1 al4,.sl 1 al5,.sl 1 al6,.sl 7 al7,.sl 6 al8,.sl 1 al9]] K=f12 G k as1 ai2 ai3 al4 al5 al6 al7 al8 al9 K:=by kernel_rfl
theorem li12_0{R:Type}(G:ORC R)(k:Nat):LoopIs (TAB.env 12) G (L12 G k) 0 (loopAt 0 (bodyOf Try.f12)):=
 ⟨D12_0,fun j vs K=>rd12_0 G k K j vs,k,rfl,rfl,by kernel_rfl,by kernel_rfl,by kernel_rfl,(fun vs K=>by unfold rd12_0;dsimp only;split<;>rfl),
   (fun j vs K r h=>by
     unfold rd12_0 at h
     dsimp only at h
     split at h
     ·rw[l12_0_is];exact h
     ·cases h),(fun S K r h=>h)⟩
theorem lo12:loopsOf (bodyOf Try.f12)=[(0,loopAt 0 (bodyOf Try.f12))]:=by kernel_rfl
theorem la12{R:Type}(G:ORC R)(k:Nat):LoopsAre (TAB.env 12) G (L12 G k) (bodyOf Try.f12):=
 loopsAre_of (by rw[lo12];intro p hp;simp only[List.mem_cons,List.not_mem_nil,or_false]at hp;subst hp;exact li12_0 G k)
def g12{R:Type}(G:ORC R)(k:Nat)(args:LV)(K:LV→OV R):OV R:=match args with
 | [.agg [.str as1,.int .i64 ai2,.int .i64 ai3,.sl 1 al4,.sl 1 al5,.sl 1 al6,.sl 7 al7,.sl 6 al8,.sl 1 al9]]=>f12 G k as1 ai2 ai3 al4 al5 al6 al7 al8 al9 K
 |_=>none
theorem s12{R:Type}{G:ORC R}{k:Nat}(hG:Sound Try.prog TAB G)(args:LV)(K:LV→OV R)(r:R)(h:g12 G k args K=some r):∃o,CallOK Try.prog TAB.env 12 args o∧K o=some r:=by
 unfold g12 at h
 split at h
 ·rw[←f12_is]at h
  exact callF_sound (f:=12) TAB_chk MO hG Try.func12 (sg:=S12) (by kernel_rfl) (by kernel_rfl) (la12 G k) h
 ·cases h
def L13{R:Type}(_:ORC R)(_:Nat):Nat→St→(Ex→St→OV R)→OV R:=fun _ _ _=>none
def f13{R:Type}(G:ORC R)(k:Nat)(ai1:Int)(al2 al3:LV)(al4 al5 al6:LV)(ai7 ai8:Int)(K:LV→OV R):OV R:=
 (G 23 [.agg [.int .i64 ai1,.sl 9 al2,.sl 6 al3,.sl 5 al4,.sl 1 al5,.sl 1 al6],.int .i64 ai7] fun o9=>uA o9 fun l11 r10=>uI .i64 l11 fun n13 r12=>uI .i64 r12 fun n15 r14=>uI .i64 r14 fun n17 r16=>uI .i64 r16 fun n19 r18=>uL 1 r18 fun l21 r20=>uL 1 r20 fun l23 r22=>unNil r22 (uA r10 fun l25 r24=>uS l25 fun s27 r26=>uI .i64 r26 fun n29 r28=>uI .i64 r28 fun n31 r30=>uL 1 r30 fun l33 r32=>uL 1 r32 fun l35 r34=>uL 1 r34 fun l37 r36=>uL 7 r36 fun l39 r38=>uL 6 r38 fun l41 r40=>uL 1 r40 fun l43 r42=>unNil r42 (uB r24 fun b45 r44=>unNil r44 (bif(!b45)then(K [.int .i64 0])else(bif(ai8==0)then(K [.int .i64 n17])else(bif(ai8==1)then(K [.int .i64 (l37.length:Int)])else(G 28 [.agg [.int .i64 ai1,.sl 9 al2,.sl 6 al3,.sl 5 al4,.sl 1 al5,.sl 1 al6],.agg [.int .i64 n13,.int .i64 n15,.int .i64 n17,.int .i64 n19,.sl 1 l21,.sl 1 l23],.int .i64 ai8] fun o46=>uA o46 fun l48 r47=>uI .i64 l48 fun n50 r49=>uI .i64 r49 fun n52 r51=>uI .i64 r51 fun n54 r53=>uI .i64 r53 fun n56 r55=>uI .i64 r55 fun n58 r57=>unNil r57 (uB r47 fun b60 r59=>unNil r59 (K [.int .i64 n56])))))))))
theorem f13_is{R:Type}(G:ORC R)(k:Nat)(K:LV→OV R)(ai1:Int)(al2 al3:LV)(al4 al5 al6:LV)(ai7 ai8:Int):
 callF (TAB.env 13) G (L13 G k) Try.f13 S13 [.agg [.int .i64 ai1,.sl 9 al2,.sl 6 al3,.sl 5 al4,.sl 1 al5,.sl 1 al6],.int .i64 ai7,.int .i64 ai8] K=f13 G k ai1 al2 al3 al4 al5 al6 ai7 ai8 K:=by kernel_rfl
theorem lo13:loopsOf (bodyOf Try.f13)=[]:=by kernel_rfl
theorem la13{R:Type}(G:ORC R)(k:Nat):LoopsAre (TAB.env 13) G (L13 G k) (bodyOf Try.f13):=
 loopsAre_of (by rw[lo13];intro p hp;cases hp)
def g13{R:Type}(G:ORC R)(k:Nat)(args:LV)(K:LV→OV R):OV R:=match args with
 | [.agg [.int .i64 ai1,.sl 9 al2,.sl 6 al3,.sl 5 al4,.sl 1 al5,.sl 1 al6],.int .i64 ai7,.int .i64 ai8]=>f13 G k ai1 al2 al3 al4 al5 al6 ai7 ai8 K
 |_=>none
theorem s13{R:Type}{G:ORC R}{k:Nat}(hG:Sound Try.prog TAB G)(args:LV)(K:LV→OV R)(r:R)(h:g13 G k args K=some r):∃o,CallOK Try.prog TAB.env 13 args o∧K o=some r:=by
 unfold g13 at h
 split at h
 ·rw[←f13_is]at h
  exact callF_sound (f:=13) TAB_chk MO hG Try.func13 (sg:=S13) (by kernel_rfl) (by kernel_rfl) (la13 G k) h
 ·cases h
def L14{R:Type}(_:ORC R)(_:Nat):Nat→St→(Ex→St→OV R)→OV R:=fun _ _ _=>none
def f14{R:Type}(G:ORC R)(k:Nat)(ai1:Int)(al2 al3:LV)(al4 al5 al6:LV)(ai7:Int)(K:LV→OV R):OV R:=
 (G 23 [.agg [.int .i64 ai1,.sl 9 al2,.sl 6 al3,.sl 5 al4,.sl 1 al5,.sl 1 al6],.int .i64 ai7] fun o8=>uA o8 fun l10 r9=>uI .i64 l10 fun n12 r11=>uI .i64 r11 fun n14 r13=>uI .i64 r13 fun n16 r15=>uI .i64 r15 fun n18 r17=>uL 1 r17 fun l20 r19=>uL 1 r19 fun l22 r21=>unNil r21 (uA r9 fun l24 r23=>uS l24 fun s26 r25=>uI .i64 r25 fun n28 r27=>uI .i64 r27 fun n30 r29=>uL 1 r29 fun l32 r31=>uL 1 r31 fun l34 r33=>uL 1 r33 fun l36 r35=>uL 7 r35 fun l38 r37=>uL 6 r37 fun l40 r39=>uL 1 r39 fun l42 r41=>unNil r41 (uB r23 fun b44 r43=>unNil r43 (bif(!b44)then(K [.int .i64 0])else(K [.int .i64 (IntKind.i64.wrap (2+(l22.length:Int)))])))))
theorem f14_is{R:Type}(G:ORC R)(k:Nat)(K:LV→OV R)(ai1:Int)(al2 al3:LV)(al4 al5 al6:LV)(ai7:Int):
 callF (TAB.env 14) G (L14 G k) Try.f14 S14 [.agg [.int .i64 ai1,.sl 9 al2,.sl 6 al3,.sl 5 al4,.sl 1 al5,.sl 1 al6],.int .i64 ai7] K=f14 G k ai1 al2 al3 al4 al5 al6 ai7 K:=by kernel_rfl
theorem lo14:loopsOf (bodyOf Try.f14)=[]:=by kernel_rfl
theorem la14{R:Type}(G:ORC R)(k:Nat):LoopsAre (TAB.env 14) G (L14 G k) (bodyOf Try.f14):=
 loopsAre_of (by rw[lo14];intro p hp;cases hp)
def g14{R:Type}(G:ORC R)(k:Nat)(args:LV)(K:LV→OV R):OV R:=match args with
 | [.agg [.int .i64 ai1,.sl 9 al2,.sl 6 al3,.sl 5 al4,.sl 1 al5,.sl 1 al6],.int .i64 ai7]=>f14 G k ai1 al2 al3 al4 al5 al6 ai7 K
 |_=>none
theorem s14{R:Type}{G:ORC R}{k:Nat}(hG:Sound Try.prog TAB G)(args:LV)(K:LV→OV R)(r:R)(h:g14 G k args K=some r):∃o,CallOK Try.prog TAB.env 14 args o∧K o=some r:=by
 unfold g14 at h
 split at h
 ·rw[←f14_is]at h
  exact callF_sound (f:=14) TAB_chk MO hG Try.func14 (sg:=S14) (by kernel_rfl) (by kernel_rfl) (la14 G k) h
 ·cases h
def L23{R:Type}(_:ORC R)(_:Nat):Nat→St→(Ex→St→OV R)→OV R:=fun _ _ _=>none
def f23{R:Type}(G:ORC R)(k:Nat)(ai1:Int)(al2 al3:LV)(al4 al5 al6:LV)(ai7:Int)(K:LV→OV R):OV R:=
 (bif(decide (ai7<0))then(K [.agg [.int .i64 0,.int .i64 0,.int .i64 0,.int .i64 0,.sl 1 [],.sl 1 []],.agg [.str ⟨#[]⟩,.int .i64 0,.int .i64 0,.sl 1 [],.sl 1 [],.sl 1 [],.sl 7 [],.sl 6 [],.sl 1 []],.bool false])else(bif(decide (ai7≥(al3.length:Int)))then(K [.agg [.int .i64 0,.int .i64 0,.int .i64 0,.int .i64 0,.sl 1 [],.sl 1 []],.agg [.str ⟨#[]⟩,.int .i64 0,.int .i64 0,.sl 1 [],.sl 1 [],.sl 1 [],.sl 7 [],.sl 6 [],.sl 1 []],.bool false])else(bif((decide (0≤ai7))&&(decide (ai7<(al3.length:Int))))then(nthK al3 (Int.toNat ai7) fun e8=>ca6 e8 fun c9 c10 c11 c12 c13 c14=>aI .i64 c9 fun n15=>bif(decide (n15<0))then(K [.agg [.int .i64 0,.int .i64 0,.int .i64 0,.int .i64 0,.sl 1 [],.sl 1 []],.agg [.str ⟨#[]⟩,.int .i64 0,.int .i64 0,.sl 1 [],.sl 1 [],.sl 1 [],.sl 7 [],.sl 6 [],.sl 1 []],.bool false])else(bif((decide (0≤ai7))&&(decide (ai7<(al3.length:Int))))then(nthK al3 (Int.toNat ai7) fun e16=>ca6 e16 fun c17 c18 c19 c20 c21 c22=>aI .i64 c17 fun n23=>bif(decide (n23≥(al2.length:Int)))then(K [.agg [.int .i64 0,.int .i64 0,.int .i64 0,.int .i64 0,.sl 1 [],.sl 1 []],.agg [.str ⟨#[]⟩,.int .i64 0,.int .i64 0,.sl 1 [],.sl 1 [],.sl 1 [],.sl 7 [],.sl 6 [],.sl 1 []],.bool false])else(bif((decide (0≤ai7))&&(decide (ai7<(al3.length:Int))))then(nthK al3 (Int.toNat ai7) fun e24=>V.asAgg e24 fun l25=>bif((decide (0≤ai7))&&(decide (ai7<(al3.length:Int))))then(nthK al3 (Int.toNat ai7) fun e26=>ca6 e26 fun c27 c28 c29 c30 c31 c32=>aI .i64 c27 fun n33=>bif((decide (0≤n33))&&(decide (n33<(al2.length:Int))))then(nthK al2 (Int.toNat n33) fun e34=>V.asAgg e34 fun l35=>ce6 l25 fun c36 c37 c38 c39 c40 c41=>aI .i64 c36 fun n49=>aI .i64 c37 fun n50=>aI .i64 c38 fun n51=>aI .i64 c39 fun n52=>V.asSl c40 fun z53 l54=>V.asSl c41 fun z55 l56=>ce9 l35 fun c57 c58 c59 c60 c61 c62 c63 c64 c65=>V.asStr c57 fun s76=>aI .i64 c58 fun n77=>aI .i64 c59 fun n78=>V.asSl c60 fun z79 l80=>V.asSl c61 fun z81 l82=>V.asSl c62 fun z83 l84=>V.asSl c63 fun z85 l86=>V.asSl c64 fun z87 l88=>V.asSl c65 fun z89 l90=>K [.agg [.int .i64 n49,.int .i64 n50,.int .i64 n51,.int .i64 n52,.sl z53 l54,.sl z55 l56],.agg [.str s76,.int .i64 n77,.int .i64 n78,.sl z79 l80,.sl z81 l82,.sl z83 l84,.sl z85 l86,.sl z87 l88,.sl z89 l90],.bool true])else none)else none)else none))else none))else none)))
theorem f23_is{R:Type}(G:ORC R)(k:Nat)(K:LV→OV R)(ai1:Int)(al2 al3:LV)(al4 al5 al6:LV)(ai7:Int):
 callF (TAB.env 23) G (L23 G k) Try.f23 S23 [.agg [.int .i64 ai1,.sl 9 al2,.sl 6 al3,.sl 5 al4,.sl 1 al5,.sl 1 al6],.int .i64 ai7] K=f23 G k ai1 al2 al3 al4 al5 al6 ai7 K:=by kernel_rfl
theorem lo23:loopsOf (bodyOf Try.f23)=[]:=by kernel_rfl
theorem la23{R:Type}(G:ORC R)(k:Nat):LoopsAre (TAB.env 23) G (L23 G k) (bodyOf Try.f23):=
 loopsAre_of (by rw[lo23];intro p hp;cases hp)
def g23{R:Type}(G:ORC R)(k:Nat)(args:LV)(K:LV→OV R):OV R:=match args with
 | [.agg [.int .i64 ai1,.sl 9 al2,.sl 6 al3,.sl 5 al4,.sl 1 al5,.sl 1 al6],.int .i64 ai7]=>f23 G k ai1 al2 al3 al4 al5 al6 ai7 K
 |_=>none
theorem s23{R:Type}{G:ORC R}{k:Nat}(hG:Sound Try.prog TAB G)(args:LV)(K:LV→OV R)(r:R)(h:g23 G k args K=some r):∃o,CallOK Try.prog TAB.env 23 args o∧K o=some r:=by
 unfold g23 at h
 split at h
 ·rw[←f23_is]at h
  exact callF_sound (f:=23) TAB_chk MO hG Try.func23 (sg:=S23) (by kernel_rfl) (by kernel_rfl) (la23 G k) h
 ·cases h
def L24{R:Type}(_:ORC R)(_:Nat):Nat→St→(Ex→St→OV R)→OV R:=fun _ _ _=>none
def f24{R:Type}(G:ORC R)(k:Nat)(ai1:Int)(al2 al3:LV)(al4 al5 al6:LV)(ai7 ai8:Int)(K:LV→OV R):OV R:=
 (G 23 [.agg [.int .i64 ai1,.sl 9 al2,.sl 6 al3,.sl 5 al4,.sl 1 al5,.sl 1 al6],.int .i64 ai7] fun o9=>uA o9 fun l11 r10=>uI .i64 l11 fun n13 r12=>uI .i64 r12 fun n15 r14=>uI .i64 r14 fun n17 r16=>uI .i64 r16 fun n19 r18=>uL 1 r18 fun l21 r20=>uL 1 r20 fun l23 r22=>unNil r22 (uA r10 fun l25 r24=>uS l25 fun s27 r26=>uI .i64 r26 fun n29 r28=>uI .i64 r28 fun n31 r30=>uL 1 r30 fun l33 r32=>uL 1 r32 fun l35 r34=>uL 1 r34 fun l37 r36=>uL 7 r36 fun l39 r38=>uL 6 r38 fun l41 r40=>uL 1 r40 fun l43 r42=>unNil r42 (uB r24 fun b45 r44=>unNil r44 (bif(!b45)then(K [.bool false,.sl 1 []])else(bif(ai8==0)then(K [.bool true,.sl 1 []])else(bif(ai8==1)then(bif(decide (0+List.length l37≤1073741824))then(K [.bool false,.sl 1 ([]++l37)])else none)else(G 28 [.agg [.int .i64 ai1,.sl 9 al2,.sl 6 al3,.sl 5 al4,.sl 1 al5,.sl 1 al6],.agg [.int .i64 n13,.int .i64 n15,.int .i64 n17,.int .i64 n19,.sl 1 l21,.sl 1 l23],.int .i64 ai8] fun o46=>uA o46 fun l48 r47=>uI .i64 l48 fun n50 r49=>uI .i64 r49 fun n52 r51=>uI .i64 r51 fun n54 r53=>uI .i64 r53 fun n56 r55=>uI .i64 r55 fun n58 r57=>unNil r57 (uB r47 fun b60 r59=>unNil r59 (G 23 [.agg [.int .i64 ai1,.sl 9 al2,.sl 6 al3,.sl 5 al4,.sl 1 al5,.sl 1 al6],.int .i64 n50] fun o61=>uA o61 fun l63 r62=>uI .i64 l63 fun n65 r64=>uI .i64 r64 fun n67 r66=>uI .i64 r66 fun n69 r68=>uI .i64 r68 fun n71 r70=>uL 1 r70 fun l73 r72=>uL 1 r72 fun l75 r74=>unNil r74 (uA r62 fun l77 r76=>uS l77 fun s79 r78=>uI .i64 r78 fun n81 r80=>uI .i64 r80 fun n83 r82=>uL 1 r82 fun l85 r84=>uL 1 r84 fun l87 r86=>uL 1 r86 fun l89 r88=>uL 7 r88 fun l91 r90=>uL 6 r90 fun l93 r92=>uL 1 r92 fun l95 r94=>unNil r94 (uB r76 fun b97 r96=>unNil r96 (bif(!b60)then(K [.bool false,.sl 1 []])else(bif(!b97)then(K [.bool false,.sl 1 []])else(G 50 [.agg [.str s79,.int .i64 n81,.int .i64 n83,.sl 1 l85,.sl 1 l87,.sl 1 l89,.sl 7 l91,.sl 6 l93,.sl 1 l95],.int .i64 n52] fun o98=>uL 1 o98 fun l100 r99=>unNil r99 (K [.bool false,.sl 1 l100])))))))))))))))
theorem f24_is{R:Type}(G:ORC R)(k:Nat)(K:LV→OV R)(ai1:Int)(al2 al3:LV)(al4 al5 al6:LV)(ai7 ai8:Int):
 callF (TAB.env 24) G (L24 G k) Try.f24 S24 [.agg [.int .i64 ai1,.sl 9 al2,.sl 6 al3,.sl 5 al4,.sl 1 al5,.sl 1 al6],.int .i64 ai7,.int .i64 ai8] K=f24 G k ai1 al2 al3 al4 al5 al6 ai7 ai8 K:=by kernel_rfl
theorem lo24:loopsOf (bodyOf Try.f24)=[]:=by kernel_rfl
theorem la24{R:Type}(G:ORC R)(k:Nat):LoopsAre (TAB.env 24) G (L24 G k) (bodyOf Try.f24):=
 loopsAre_of (by rw[lo24];intro p hp;cases hp)
def g24{R:Type}(G:ORC R)(k:Nat)(args:LV)(K:LV→OV R):OV R:=match args with
 | [.agg [.int .i64 ai1,.sl 9 al2,.sl 6 al3,.sl 5 al4,.sl 1 al5,.sl 1 al6],.int .i64 ai7,.int .i64 ai8]=>f24 G k ai1 al2 al3 al4 al5 al6 ai7 ai8 K
 |_=>none
theorem s24{R:Type}{G:ORC R}{k:Nat}(hG:Sound Try.prog TAB G)(args:LV)(K:LV→OV R)(r:R)(h:g24 G k args K=some r):∃o,CallOK Try.prog TAB.env 24 args o∧K o=some r:=by
 unfold g24 at h
 split at h
 ·rw[←f24_is]at h
  exact callF_sound (f:=24) TAB_chk MO hG Try.func24 (sg:=S24) (by kernel_rfl) (by kernel_rfl) (la24 G k) h
 ·cases h
def L26{R:Type}(_:ORC R)(_:Nat):Nat→St→(Ex→St→OV R)→OV R:=fun _ _ _=>none
def f26{R:Type}(G:ORC R)(k:Nat)(ai1 bi2:Int)(bs3:ByteArray)(bi4 bi5:Int)(bl6 bl7:LV)(bl8 bl9:LV)(bl10 bl11:LV)(bl12 bl13 bl14:LV)(bb15:Bool)(K:LV→OV R):OV R:=
 (G 9 [.agg [.str bs3,.int .i64 bi4,.int .i64 bi5,.sl 1 bl6,.sl 1 bl7,.sl 1 bl8,.sl 7 bl9,.sl 6 bl10,.sl 1 bl11],.sl 1 bl13,.int .i64 ai1] fun o16=>uI .i64 o16 fun n18 r17=>unNil r17 (K [.int .i64 (IntKind.i64.wrap (bi2*n18)),.int .i64 bi2,.str bs3,.int .i64 bi4,.int .i64 bi5,.bool bb15]))
theorem f26_is{R:Type}(G:ORC R)(k:Nat)(K:LV→OV R)(ai1 bi2:Int)(bs3:ByteArray)(bi4 bi5:Int)(bl6 bl7:LV)(bl8 bl9:LV)(bl10 bl11:LV)(bl12 bl13 bl14:LV)(bb15:Bool):
 callF (TAB.env 26) G (L26 G k) Try.f26 S26 [.int .i64 ai1,.int .i64 bi2,.str bs3,.int .i64 bi4,.int .i64 bi5,.sl 1 bl6,.sl 1 bl7,.sl 1 bl8,.sl 7 bl9,.sl 6 bl10,.sl 1 bl11,.sl 1 bl12,.sl 1 bl13,.sl 1 bl14,.bool bb15] K=f26 G k ai1 bi2 bs3 bi4 bi5 bl6 bl7 bl8 bl9 bl10 bl11 bl12 bl13 bl14 bb15 K:=by kernel_rfl
theorem lo26:loopsOf (bodyOf Try.f26)=[]:=by kernel_rfl
theorem la26{R:Type}(G:ORC R)(k:Nat):LoopsAre (TAB.env 26) G (L26 G k) (bodyOf Try.f26):=
 loopsAre_of (by rw[lo26];intro p hp;cases hp)
def g26{R:Type}(G:ORC R)(k:Nat)(args:LV)(K:LV→OV R):OV R:=match args with
 | [.int .i64 ai1,.int .i64 bi2,.str bs3,.int .i64 bi4,.int .i64 bi5,.sl 1 bl6,.sl 1 bl7,.sl 1 bl8,.sl 7 bl9,.sl 6 bl10,.sl 1 bl11,.sl 1 bl12,.sl 1 bl13,.sl 1 bl14,.bool bb15]=>f26 G k ai1 bi2 bs3 bi4 bi5 bl6 bl7 bl8 bl9 bl10 bl11 bl12 bl13 bl14 bb15 K
 |_=>none
theorem s26{R:Type}{G:ORC R}{k:Nat}(hG:Sound Try.prog TAB G)(args:LV)(K:LV→OV R)(r:R)(h:g26 G k args K=some r):∃o,CallOK Try.prog TAB.env 26 args o∧K o=some r:=by
 unfold g26 at h
 split at h
 ·rw[←f26_is]at h
  exact callF_sound (f:=26) TAB_chk MO hG Try.func26 (sg:=S26) (by kernel_rfl) (by kernel_rfl) (la26 G k) h
 ·cases h
def P27_2h:Pat:={tmps:=unds [.undef,.undef,.undef,.var (.int .i64) .pr,.var (.int .i64) .pr,.var (.sl 1) (.own true),.var (.sl 1) (.own true),.var (.int .i64) .pr,.stat (.one (.ptr 8 0) .pt),.var (.sl 4) .ro,.var (.int .i64) .pr,.var (.int .i64) .pr] 54 [],boxes:=nons [] 8 (nons [some [.var (.int .i64) .pr false,.var (.int .i64) .pr false,.var (.int .i64) .pr false,.var .str .pr false]] 57 [])}
def P27_2x:Pat:={tmps:=unds [.undef,.undef,.undef,.var (.int .i64) .pr,.var (.int .i64) .pr,.var (.sl 1) (.own true),.var (.sl 1) (.own true),.undef,.stat (.one (.ptr 8 0) .pt),.var (.sl 4) .ro,.var (.int .i64) .pr,.var (.int .i64) .pr] 54 [],boxes:=nons [] 8 (nons [some [.var (.int .i64) .pr false,.var (.int .i64) .pr false,.var (.int .i64) .pr false,.var .str .pr false]] 57 [])}
def b27_2{R:Type}(G:ORC R)(k:Nat)(X:Int→Int→LV→LV→Int→LV→Int→Int→Int→Int→Int→ByteArray→OV R)(Ko:Int→Int→LV→LV→LV→Int→Int→Int→Int→Int→ByteArray→OV R)(xi24 xi25:Int)(xl26 xl27:LV)(xi28:Int)(xl29:LV)(xi30 xi31:Int)(xi32 xi33 xi34:Int)(xs35:ByteArray):OV R:=
 (bif(decide ((xl26.length:Int)>0))then(bif((decide (0≤(IntKind.i64.wrap ((xl26.length:Int)-1))))&&(decide ((IntKind.i64.wrap ((xl26.length:Int)-1))<(xl26.length:Int))))then(nthK xl26 (Int.toNat (IntKind.i64.wrap ((xl26.length:Int)-1))) fun e36=>aI .i64 e36 fun n37=>bif(decide (n37≤xi28))then(bif((decide (0≤(IntKind.i64.wrap ((xl27.length:Int)-1))))&&(decide ((IntKind.i64.wrap ((xl27.length:Int)-1))<(xl27.length:Int))))then(nthK xl27 (Int.toNat (IntKind.i64.wrap ((xl27.length:Int)-1))) fun e38=>aI .i64 e38 fun n39=>bif((decide (0≤(IntKind.i64.wrap ((xl26.length:Int)-1))))&&(decide ((IntKind.i64.wrap ((xl26.length:Int)-1))≤(xl26.length:Int))))then(bif((decide (0≤(IntKind.i64.wrap ((xl27.length:Int)-1))))&&(decide ((IntKind.i64.wrap ((xl27.length:Int)-1))≤(xl27.length:Int))))then(X xi24 n39 (List.take (Int.toNat (IntKind.i64.wrap ((xl26.length:Int)-1))) xl26) (List.take (Int.toNat (IntKind.i64.wrap ((xl27.length:Int)-1))) xl27) xi28 xl29 xi30 xi31 xi32 xi33 xi34 xs35)else none)else none)else none)else(Ko xi24 xi25 xl26 xl27 xl29 xi30 xi31 xi32 xi33 xi34 xs35))else none)else(Ko xi24 xi25 xl26 xl27 xl29 xi30 xi31 xi32 xi33 xi34 xs35))
def l27_2g{R:Type}(G:ORC R)(k:Nat)(Ko:Int→Int→LV→LV→LV→Int→Int→Int→Int→Int→ByteArray→OV R):Nat→Int→Int→LV→LV→Int→LV→Int→Int→Int→Int→Int→ByteArray→OV R
 |0=>fun _ _ _ _ _ _ _ _ _ _ _ _=>none
 |j+1=>b27_2 G k (l27_2g G k Ko j) Ko
def l27_2{R:Type}(G:ORC R)(k:Nat)(xi24 xi25:Int)(xl26 xl27:LV)(xi28:Int)(xl29:LV)(xi30 xi31:Int)(xi32 xi33 xi34:Int)(xs35:ByteArray)(Ko:Int→Int→LV→LV→LV→Int→Int→Int→Int→Int→ByteArray→OV R):OV R:=l27_2g G k Ko k xi24 xi25 xl26 xl27 xi28 xl29 xi30 xi31 xi32 xi33 xi34 xs35
def P27_0h:Pat:={tmps:=unds [.undef,.undef,.undef,.var (.int .i64) .pr,.var (.int .i64) .pr,.var (.sl 1) (.own true),.var (.sl 1) (.own true),.undef,.undef,.var (.sl 4) .ro,.var (.int .i64) .pr,.var (.int .i64) .pr] 54 [],boxes:=nons [] 66 []}
def P27_0x:Pat:={tmps:=unds [.undef,.undef,.undef,.var (.int .i64) .pr] 62 [],boxes:=nons [] 66 []}
def b27_0{R:Type}(G:ORC R)(k:Nat)(X:Int→Int→LV→LV→LV→Int→Int→OV R)(Ko:Int→OV R)(xi2 xi3:Int)(xl4 xl5 xl6:LV)(xi7 xi8:Int):OV R:=
 (bif(decide (xi8<xi7))then(bif((decide (0≤xi8))&&(decide (xi8<(xl6.length:Int))))then(nthK xl6 (Int.toNat xi8) fun e9=>V.asAgg e9 fun l10=>ce4 l10 fun c11 c12 c13 c14=>aI .i64 c11 fun n20=>aI .i64 c12 fun n21=>aI .i64 c13 fun n22=>V.asStr c14 fun s23=>l27_2 G k xi2 xi3 xl4 xl5 xi8 xl6 xi7 xi8 n20 n21 n22 s23 (fun yi24 yi25 yl26 yl27 yl28 yi29 yi30 yi31 yi32 yi33 ys34=>bif(yi31==25)then(bif(decide (List.length yl26+1≤1073741824))then(bif(decide (List.length yl27+1≤1073741824))then(X (IntKind.i64.wrap (yi24+yi25)) (IntKind.i64.wrap (yi25*yi33)) (yl26++[.int .i64 yi32]) (yl27++[.int .i64 yi25]) yl28 yi29 (IntKind.i64.wrap (yi30+1)))else none)else none)else(X (IntKind.i64.wrap (yi24+yi25)) yi25 yl26 yl27 yl28 yi29 (IntKind.i64.wrap (yi30+1)))))else none)else(Ko xi2))
def l27_0g{R:Type}(G:ORC R)(k:Nat)(Ko:Int→OV R):Nat→Int→Int→LV→LV→LV→Int→Int→OV R
 |0=>fun _ _ _ _ _ _ _=>none
 |j+1=>b27_0 G k (l27_0g G k Ko j) Ko
def l27_0{R:Type}(G:ORC R)(k:Nat)(xi2 xi3:Int)(xl4 xl5 xl6:LV)(xi7 xi8:Int)(Ko:Int→OV R):OV R:=l27_0g G k Ko k xi2 xi3 xl4 xl5 xl6 xi7 xi8
def rd27_2{R:Type}(G:ORC R)(k:Nat)(K:Ex→St→OV R)(j:Nat)(vs:LV):OV R:=match vs with
 | [.int .i64 xi24,.int .i64 xi25,.sl 1 xl26,.sl 1 xl27,.int .i64 xi28,.sl 4 xl29,.int .i64 xi30,.int .i64 xi31,.int .i64 xi32,.int .i64 xi33,.int .i64 xi34,.str xs35]=>l27_2g G k (fun yi36 yi37 yl38 yl39 yl40 yi41 yi42 yi43 yi44 yi45 ys46=>K .normal (P27_2x.inst [.int .i64 yi36,.int .i64 yi37,.sl 1 yl38,.sl 1 yl39,.sl 4 yl40,.int .i64 yi41,.int .i64 yi42,.int .i64 yi43,.int .i64 yi44,.int .i64 yi45,.str ys46])) j xi24 xi25 xl26 xl27 xi28 xl29 xi30 xi31 xi32 xi33 xi34 xs35
 |_=>none
def rd27_0{R:Type}(G:ORC R)(k:Nat)(K:Ex→St→OV R)(j:Nat)(vs:LV):OV R:=match vs with
 | [.int .i64 xi2,.int .i64 xi3,.sl 1 xl4,.sl 1 xl5,.sl 4 xl6,.int .i64 xi7,.int .i64 xi8]=>l27_0g G k (fun yi47=>K .normal (P27_0x.inst [.int .i64 yi47])) j xi2 xi3 xl4 xl5 xl6 xi7 xi8
 |_=>none
def L27{R:Type}(G:ORC R)(k:Nat):Nat→St→(Ex→St→OV R)→OV R
 |2,S,K=>P27_2h.mat S fun vs=>rd27_2 G k K k vs
 |0,S,K=>P27_0h.mat S fun vs=>rd27_0 G k K k vs
 |_,_,_=>none
def f27{R:Type}(G:ORC R)(k:Nat)(al1:LV)(K:LV→OV R):OV R:=
 (l27_0 G k 0 1 [] [] al1 (al1.length:Int) 0 (fun yi35=>K [.int .i64 yi35]))
noncomputable def D27_2:LoopD:={id:=2,body:=loopAt 2 (bodyOf Try.f27),head:=P27_2h,out:=P27_2x,ret:=default}
theorem l27_2_is{R:Type}(G:ORC R)(k:Nat)(X:LV→OV R)(K:Ex→St→OV R)(xi24 xi25:Int)(xl26 xl27:LV)(xi28:Int)(xl29:LV)(xi30 xi31:Int)(xi32 xi33 xi34:Int)(xs35:ByteArray):
 roundOf (TAB.env 27) G (L27 G k) D27_2 X K [.int .i64 xi24,.int .i64 xi25,.sl 1 xl26,.sl 1 xl27,.int .i64 xi28,.sl 4 xl29,.int .i64 xi30,.int .i64 xi31,.int .i64 xi32,.int .i64 xi33,.int .i64 xi34,.str xs35]=b27_2 G k (fun xi24 xi25 xl26 xl27 xi28 xl29 xi30 xi31 xi32 xi33 xi34 xs35=>X [.int .i64 xi24,.int .i64 xi25,.sl 1 xl26,.sl 1 xl27,.int .i64 xi28,.sl 4 xl29,.int .i64 xi30,.int .i64 xi31,.int .i64 xi32,.int .i64 xi33,.int .i64 xi34,.str xs35]) (fun yi36 yi37 yl38 yl39 yl40 yi41 yi42 yi43 yi44 yi45 ys46=>K .normal (P27_2x.inst [.int .i64 yi36,.int .i64 yi37,.sl 1 yl38,.sl 1 yl39,.sl 4 yl40,.int .i64 yi41,.int .i64 yi42,.int .i64 yi43,.int .i64 yi44,.int .i64 yi45,.str ys46])) xi24 xi25 xl26 xl27 xi28 xl29 xi30 xi31 xi32 xi33 xi34 xs35:=by kernel_rfl
noncomputable def D27_0:LoopD:={id:=0,body:=loopAt 0 (bodyOf Try.f27),head:=P27_0h,out:=P27_0x,ret:=default}
theorem l27_0_is{R:Type}(G:ORC R)(k:Nat)(X:LV→OV R)(K:Ex→St→OV R)(xi2 xi3:Int)(xl4 xl5 xl6:LV)(xi7 xi8:Int):
 roundOf (TAB.env 27) G (L27 G k) D27_0 X K [.int .i64 xi2,.int .i64 xi3,.sl 1 xl4,.sl 1 xl5,.sl 4 xl6,.int .i64 xi7,.int .i64 xi8]=b27_0 G k (fun xi2 xi3 xl4 xl5 xl6 xi7 xi8=>X [.int .i64 xi2,.int .i64 xi3,.sl 1 xl4,.sl 1 xl5,.sl 4 xl6,.int .i64 xi7,.int .i64 xi8]) (fun yi47=>K .normal (P27_0x.inst [.int .i64 yi47])) xi2 xi3 xl4 xl5 xl6 xi7 xi8:=by kernel_rfl
theorem f27_is{R:Type}(G:ORC R)(k:Nat)(K:LV→OV R)(al1:LV):
 callF (TAB.env 27) G (L27 G k) Try.f27 S27 [.sl 4 al1] K=f27 G k al1 K:=by kernel_rfl
theorem li27_2{R:Type}(G:ORC R)(k:Nat):LoopIs (TAB.env 27) G (L27 G k) 2 (loopAt 2 (bodyOf Try.f27)):=
 ⟨D27_2,fun j vs K=>rd27_2 G k K j vs,k,rfl,rfl,by kernel_rfl,by kernel_rfl,by kernel_rfl,(fun vs K=>by unfold rd27_2;dsimp only;split<;>rfl),
   (fun j vs K r h=>by
     unfold rd27_2 at h
     dsimp only at h
     split at h
     ·rw[l27_2_is];exact h
     ·cases h),(fun S K r h=>h)⟩
theorem li27_0{R:Type}(G:ORC R)(k:Nat):LoopIs (TAB.env 27) G (L27 G k) 0 (loopAt 0 (bodyOf Try.f27)):=
 ⟨D27_0,fun j vs K=>rd27_0 G k K j vs,k,rfl,rfl,by kernel_rfl,by kernel_rfl,by kernel_rfl,(fun vs K=>by unfold rd27_0;dsimp only;split<;>rfl),
   (fun j vs K r h=>by
     unfold rd27_0 at h
     dsimp only at h
     split at h
     ·rw[l27_0_is];exact h
     ·cases h),(fun S K r h=>h)⟩
theorem lo27:loopsOf (bodyOf Try.f27)=[(0,loopAt 0 (bodyOf Try.f27)),(2,loopAt 2 (bodyOf Try.f27))]:=by kernel_rfl
theorem la27{R:Type}(G:ORC R)(k:Nat):LoopsAre (TAB.env 27) G (L27 G k) (bodyOf Try.f27):=
 loopsAre_of (by rw[lo27];intro p hp;simp only[List.mem_cons,List.not_mem_nil,or_false]at hp;rcases hp with rfl|rfl<;>first|exact li27_0 G k|exact li27_2 G k)
def g27{R:Type}(G:ORC R)(k:Nat)(args:LV)(K:LV→OV R):OV R:=match args with
 | [.sl 4 al1]=>f27 G k al1 K
 |_=>none
theorem s27{R:Type}{G:ORC R}{k:Nat}(hG:Sound Try.prog TAB G)(args:LV)(K:LV→OV R)(r:R)(h:g27 G k args K=some r):∃o,CallOK Try.prog TAB.env 27 args o∧K o=some r:=by
 unfold g27 at h
 split at h
 ·rw[←f27_is]at h
  exact callF_sound (f:=27) TAB_chk MO hG Try.func27 (sg:=S27) (by kernel_rfl) (by kernel_rfl) (la27 G k) h
 ·cases h
def L28{R:Type}(_:ORC R)(_:Nat):Nat→St→(Ex→St→OV R)→OV R:=fun _ _ _=>none
def f28{R:Type}(G:ORC R)(k:Nat)(ai1:Int)(al2 al3:LV)(al4 al5 al6:LV)(ai7 ai8:Int)(ai9 ai10:Int)(al11 al12:LV)(ai13:Int)(K:LV→OV R):OV R:=
 (bif(decide (ai13<2))then(K [.agg [.int .i64 0,.int .i64 0,.int .i64 0,.int .i64 0,.int .i64 0],.bool false])else(bif(decide (ai13≥(IntKind.i64.wrap (2+(al12.length:Int)))))then(K [.agg [.int .i64 0,.int .i64 0,.int .i64 0,.int .i64 0,.int .i64 0],.bool false])else(bif((decide (0≤(IntKind.i64.wrap (ai13-2))))&&(decide ((IntKind.i64.wrap (ai13-2))<(al12.length:Int))))then(nthK al12 (Int.toNat (IntKind.i64.wrap (ai13-2))) fun e14=>aI .i64 e14 fun n15=>bif(decide (n15<0))then(K [.agg [.int .i64 0,.int .i64 0,.int .i64 0,.int .i64 0,.int .i64 0],.bool false])else(bif((decide (0≤(IntKind.i64.wrap (ai13-2))))&&(decide ((IntKind.i64.wrap (ai13-2))<(al12.length:Int))))then(nthK al12 (Int.toNat (IntKind.i64.wrap (ai13-2))) fun e16=>aI .i64 e16 fun n17=>bif(decide (n17≥(al4.length:Int)))then(K [.agg [.int .i64 0,.int .i64 0,.int .i64 0,.int .i64 0,.int .i64 0],.bool false])else(bif((decide (0≤(IntKind.i64.wrap (ai13-2))))&&(decide ((IntKind.i64.wrap (ai13-2))<(al12.length:Int))))then(nthK al12 (Int.toNat (IntKind.i64.wrap (ai13-2))) fun e18=>aI .i64 e18 fun n19=>bif((decide (0≤n19))&&(decide (n19<(al4.length:Int))))then(nthK al4 (Int.toNat n19) fun e20=>V.asAgg e20 fun l21=>ce5 l21 fun c22 c23 c24 c25 c26=>aI .i64 c22 fun n33=>aI .i64 c23 fun n34=>aI .i64 c24 fun n35=>aI .i64 c25 fun n36=>aI .i64 c26 fun n37=>K [.agg [.int .i64 n33,.int .i64 n34,.int .i64 n35,.int .i64 n36,.int .i64 n37],.bool true])else none)else none))else none))else none)))
theorem f28_is{R:Type}(G:ORC R)(k:Nat)(K:LV→OV R)(ai1:Int)(al2 al3:LV)(al4 al5 al6:LV)(ai7 ai8:Int)(ai9 ai10:Int)(al11 al12:LV)(ai13:Int):
 callF (TAB.env 28) G (L28 G k) Try.f28 S28 [.agg [.int .i64 ai1,.sl 9 al2,.sl 6 al3,.sl 5 al4,.sl 1 al5,.sl 1 al6],.agg [.int .i64 ai7,.int .i64 ai8,.int .i64 ai9,.int .i64 ai10,.sl 1 al11,.sl 1 al12],.int .i64 ai13] K=f28 G k ai1 al2 al3 al4 al5 al6 ai7 ai8 ai9 ai10 al11 al12 ai13 K:=by kernel_rfl
theorem lo28:loopsOf (bodyOf Try.f28)=[]:=by kernel_rfl
theorem la28{R:Type}(G:ORC R)(k:Nat):LoopsAre (TAB.env 28) G (L28 G k) (bodyOf Try.f28):=
 loopsAre_of (by rw[lo28];intro p hp;cases hp)
def g28{R:Type}(G:ORC R)(k:Nat)(args:LV)(K:LV→OV R):OV R:=match args with
 | [.agg [.int .i64 ai1,.sl 9 al2,.sl 6 al3,.sl 5 al4,.sl 1 al5,.sl 1 al6],.agg [.int .i64 ai7,.int .i64 ai8,.int .i64 ai9,.int .i64 ai10,.sl 1 al11,.sl 1 al12],.int .i64 ai13]=>f28 G k ai1 al2 al3 al4 al5 al6 ai7 ai8 ai9 ai10 al11 al12 ai13 K
 |_=>none
theorem s28{R:Type}{G:ORC R}{k:Nat}(hG:Sound Try.prog TAB G)(args:LV)(K:LV→OV R)(r:R)(h:g28 G k args K=some r):∃o,CallOK Try.prog TAB.env 28 args o∧K o=some r:=by
 unfold g28 at h
 split at h
 ·rw[←f28_is]at h
  exact callF_sound (f:=28) TAB_chk MO hG Try.func28 (sg:=S28) (by kernel_rfl) (by kernel_rfl) (la28 G k) h
 ·cases h
def L45{R:Type}(_:ORC R)(_:Nat):Nat→St→(Ex→St→OV R)→OV R:=fun _ _ _=>none
def f45{R:Type}(G:ORC R)(k:Nat)(al1:LV)(ab2:Bool)(K:LV→OV R):OV R:=
 (G 63 [.sl 1 al1,.bool ab2] fun o3=>uI .i64 o3 fun n5 r4=>unNil r4 (K [.bool (decide (n5≥0))]))
theorem f45_is{R:Type}(G:ORC R)(k:Nat)(K:LV→OV R)(al1:LV)(ab2:Bool):
 callF (TAB.env 45) G (L45 G k) Try.f45 S45 [.sl 1 al1,.bool ab2] K=f45 G k al1 ab2 K:=by kernel_rfl
theorem lo45:loopsOf (bodyOf Try.f45)=[]:=by kernel_rfl
theorem la45{R:Type}(G:ORC R)(k:Nat):LoopsAre (TAB.env 45) G (L45 G k) (bodyOf Try.f45):=
 loopsAre_of (by rw[lo45];intro p hp;cases hp)
def g45{R:Type}(G:ORC R)(k:Nat)(args:LV)(K:LV→OV R):OV R:=match args with
 | [.sl 1 al1,.bool ab2]=>f45 G k al1 ab2 K
 |_=>none
theorem s45{R:Type}{G:ORC R}{k:Nat}(hG:Sound Try.prog TAB G)(args:LV)(K:LV→OV R)(r:R)(h:g45 G k args K=some r):∃o,CallOK Try.prog TAB.env 45 args o∧K o=some r:=by
 unfold g45 at h
 split at h
 ·rw[←f45_is]at h
  exact callF_sound (f:=45) TAB_chk MO hG Try.func45 (sg:=S45) (by kernel_rfl) (by kernel_rfl) (la45 G k) h
 ·cases h
def L47{R:Type}(_:ORC R)(_:Nat):Nat→St→(Ex→St→OV R)→OV R:=fun _ _ _=>none
def f47{R:Type}(G:ORC R)(k:Nat)(ai1:Int)(bl2 bl3 bl4:LV)(K:LV→OV R):OV R:=
 (bif((decide (0≤ai1))&&(decide (ai1<(bl2.length:Int))))then(nthK bl2 (Int.toNat ai1) fun e5=>V.asAgg e5 fun l6=>ce7 l6 fun c7 c8 c9 c10 c11 c12 c13=>aI .i64 c7 fun n22=>aI .i64 c8 fun n23=>aI .i64 c9 fun n24=>aI .i64 c10 fun n25=>aI .i64 c11 fun n26=>aI .i64 c12 fun n27=>V.asStr c13 fun s28=>G 46 [.agg [.int .i64 n22,.int .i64 n23,.int .i64 n24,.int .i64 n25,.int .i64 n26,.int .i64 n27,.str s28]] fun o29=>uB o29 fun b31 r30=>unNil r30 (bif b31 then(K [.sl 1 [.int .i64 ai1],.sl 1 bl4])else(bif(decide (ai1<(bl3.length:Int)))then(bif((decide (0≤ai1))&&(decide (ai1<(bl3.length:Int))))then(nthK bl3 (Int.toNat ai1) fun e32=>V.asSl e32 fun z33 l34=>bif(decide ((l34.length:Int)>0))then(bif((decide (0≤ai1))&&(decide (ai1<(bl3.length:Int))))then(nthK bl3 (Int.toNat ai1) fun e35=>V.asSl e35 fun z36 l37=>K [.sl z36 l37,.sl 1 bl4])else none)else(bif((decide (0≤n23))&&(decide (n23<(bl2.length:Int))))then(nthK bl2 (Int.toNat n23) fun e38=>ca7 e38 fun c39 c40 c41 c42 c43 c44 c45=>aI .i64 c39 fun n46=>bif(n46==2)then(bif((decide (0≤n23))&&(decide (n23<(bl2.length:Int))))then(nthK bl2 (Int.toNat n23) fun e47=>ca7 e47 fun c48 c49 c50 c51 c52 c53 c54=>aI .i64 c51 fun n55=>K [.sl 1 [.int .i64 n55],.sl 1 bl4])else none)else(G 64 [.sl 7 bl2,.int .i64 n23] fun o56=>uL 1 o56 fun l58 r57=>unNil r57 (K [.sl 1 l58,.sl 1 bl4])))else none))else none)else(bif((decide (0≤n23))&&(decide (n23<(bl2.length:Int))))then(nthK bl2 (Int.toNat n23) fun e59=>ca7 e59 fun c60 c61 c62 c63 c64 c65 c66=>aI .i64 c60 fun n67=>bif(n67==2)then(bif((decide (0≤n23))&&(decide (n23<(bl2.length:Int))))then(nthK bl2 (Int.toNat n23) fun e68=>ca7 e68 fun c69 c70 c71 c72 c73 c74 c75=>aI .i64 c72 fun n76=>K [.sl 1 [.int .i64 n76],.sl 1 bl4])else none)else(G 64 [.sl 7 bl2,.int .i64 n23] fun o77=>uL 1 o77 fun l79 r78=>unNil r78 (K [.sl 1 l79,.sl 1 bl4])))else none))))else none)
theorem f47_is{R:Type}(G:ORC R)(k:Nat)(K:LV→OV R)(ai1:Int)(bl2 bl3 bl4:LV):
 callF (TAB.env 47) G (L47 G k) Try.f47 S47 [.int .i64 ai1,.sl 7 bl2,.sl 1 bl3,.sl 1 bl4] K=f47 G k ai1 bl2 bl3 bl4 K:=by kernel_rfl
theorem lo47:loopsOf (bodyOf Try.f47)=[]:=by kernel_rfl
theorem la47{R:Type}(G:ORC R)(k:Nat):LoopsAre (TAB.env 47) G (L47 G k) (bodyOf Try.f47):=
 loopsAre_of (by rw[lo47];intro p hp;cases hp)
def g47{R:Type}(G:ORC R)(k:Nat)(args:LV)(K:LV→OV R):OV R:=match args with
 | [.int .i64 ai1,.sl 7 bl2,.sl 1 bl3,.sl 1 bl4]=>f47 G k ai1 bl2 bl3 bl4 K
 |_=>none
theorem s47{R:Type}{G:ORC R}{k:Nat}(hG:Sound Try.prog TAB G)(args:LV)(K:LV→OV R)(r:R)(h:g47 G k args K=some r):∃o,CallOK Try.prog TAB.env 47 args o∧K o=some r:=by
 unfold g47 at h
 split at h
 ·rw[←f47_is]at h
  exact callF_sound (f:=47) TAB_chk MO hG Try.func47 (sg:=S47) (by kernel_rfl) (by kernel_rfl) (la47 G k) h
 ·cases h
def P48_0h:Pat:={tmps:=unds [.stat (.one (.ptr 0 0) .pt),.undef,.var (.int .i64) .pr,.undef,.undef,.undef,.var (.int .i64) .pr] 54 [],boxes:=nons [some [.var (.sl 7) .ro true,.var (.sl 1) .ro true,.var (.sl 1) (.own true) false]] 61 []}
def P48_0x:Pat:={tmps:=unds [] 61 [],boxes:=nons [some [.var (.sl 7) .ro true,.var (.sl 1) .ro true,.var (.sl 1) (.own true) false]] 61 []}
def b48_0{R:Type}(G:ORC R)(k:Nat)(X:Int→Int→LV→LV→LV→OV R)(Ko:LV→LV→LV→OV R)(xi15 xi16:Int)(xl17 xl18 xl19:LV):OV R:=
 (bif(decide (xi16≥0))then(bif(xi16 !=xi15)then(G 65 [.sl 7 xl17,.int .i64 xi16,.int .i64 xi15] fun o20=>uB o20 fun b22 r21=>unNil r21 (bif b22 then(bif(decide (List.length xl19+1≤1073741824))then(bif((decide (0≤xi16))&&(decide (xi16<(xl17.length:Int))))then(nthK xl17 (Int.toNat xi16) fun e23=>ca7 e23 fun c24 c25 c26 c27 c28 c29 c30=>aI .i64 c24 fun n31=>bif(n31==3)then(G 49 [.int .i64 xi16,.sl 7 xl17,.sl 1 xl18,.sl 1 (xl19++[.int .i64 xi16])] fun o32=>uL 1 o32 fun l34 r33=>unNil r33 (bif((decide (0≤xi16))&&(decide (xi16<(xl17.length:Int))))then(nthK xl17 (Int.toNat xi16) fun e35=>ca7 e35 fun c36 c37 c38 c39 c40 c41 c42=>aI .i64 c37 fun n43=>X xi15 n43 xl17 xl18 l34)else none))else(bif((decide (0≤xi16))&&(decide (xi16<(xl17.length:Int))))then(nthK xl17 (Int.toNat xi16) fun e44=>ca7 e44 fun c45 c46 c47 c48 c49 c50 c51=>aI .i64 c46 fun n52=>X xi15 n52 xl17 xl18 (xl19++[.int .i64 xi16]))else none))else none)else none)else(Ko xl17 xl18 xl19)))else(Ko xl17 xl18 xl19))else(Ko xl17 xl18 xl19))
def l48_0g{R:Type}(G:ORC R)(k:Nat)(Ko:LV→LV→LV→OV R):Nat→Int→Int→LV→LV→LV→OV R
 |0=>fun _ _ _ _ _=>none
 |j+1=>b48_0 G k (l48_0g G k Ko j) Ko
def l48_0{R:Type}(G:ORC R)(k:Nat)(xi15 xi16:Int)(xl17 xl18 xl19:LV)(Ko:LV→LV→LV→OV R):OV R:=l48_0g G k Ko k xi15 xi16 xl17 xl18 xl19
def rd48_0{R:Type}(G:ORC R)(k:Nat)(K:Ex→St→OV R)(j:Nat)(vs:LV):OV R:=match vs with
 | [.int .i64 xi15,.int .i64 xi16,.sl 7 xl17,.sl 1 xl18,.sl 1 xl19]=>l48_0g G k (fun yl56 yl57 yl58=>K .normal (P48_0x.inst [.sl 7 yl56,.sl 1 yl57,.sl 1 yl58])) j xi15 xi16 xl17 xl18 xl19
 |_=>none
def L48{R:Type}(G:ORC R)(k:Nat):Nat→St→(Ex→St→OV R)→OV R
 |0,S,K=>P48_0h.mat S fun vs=>rd48_0 G k K k vs
 |_,_,_=>none
def f48{R:Type}(G:ORC R)(k:Nat)(ai1 ai2:Int)(bl3 bl4 bl5:LV)(K:LV→OV R):OV R:=
 (bif((decide (0≤ai1))&&(decide (ai1<(bl3.length:Int))))then(nthK bl3 (Int.toNat ai1) fun e6=>ca7 e6 fun c7 c8 c9 c10 c11 c12 c13=>aI .i64 c8 fun n14=>l48_0 G k ai2 n14 bl3 bl4 bl5 (fun yl53 yl54 yl55=>K [.sl 1 yl55]))else none)
noncomputable def D48_0:LoopD:={id:=0,body:=loopAt 0 (bodyOf Try.f48),head:=P48_0h,out:=P48_0x,ret:=default}
theorem l48_0_is{R:Type}(G:ORC R)(k:Nat)(X:LV→OV R)(K:Ex→St→OV R)(xi15 xi16:Int)(xl17 xl18 xl19:LV):
 roundOf (TAB.env 48) G (L48 G k) D48_0 X K [.int .i64 xi15,.int .i64 xi16,.sl 7 xl17,.sl 1 xl18,.sl 1 xl19]=b48_0 G k (fun xi15 xi16 xl17 xl18 xl19=>X [.int .i64 xi15,.int .i64 xi16,.sl 7 xl17,.sl 1 xl18,.sl 1 xl19]) (fun yl56 yl57 yl58=>K .normal (P48_0x.inst [.sl 7 yl56,.sl 1 yl57,.sl 1 yl58])) xi15 xi16 xl17 xl18 xl19:=by kernel_rfl
theorem f48_is{R:Type}(G:ORC R)(k:Nat)(K:LV→OV R)(ai1 ai2:Int)(bl3 bl4 bl5:LV):
 callF (TAB.env 48) G (L48 G k) Try.f48 S48 [.int .i64 ai1,.int .i64 ai2,.sl 7 bl3,.sl 1 bl4,.sl 1 bl5] K=f48 G k ai1 ai2 bl3 bl4 bl5 K:=by kernel_rfl
theorem li48_0{R:Type}(G:ORC R)(k:Nat):LoopIs (TAB.env 48) G (L48 G k) 0 (loopAt 0 (bodyOf Try.f48)):=
 ⟨D48_0,fun j vs K=>rd48_0 G k K j vs,k,rfl,rfl,by kernel_rfl,by kernel_rfl,by kernel_rfl,(fun vs K=>by unfold rd48_0;dsimp only;split<;>rfl),
   (fun j vs K r h=>by
     unfold rd48_0 at h
     dsimp only at h
     split at h
     ·rw[l48_0_is];exact h
     ·cases h),(fun S K r h=>h)⟩
theorem lo48:loopsOf (bodyOf Try.f48)=[(0,loopAt 0 (bodyOf Try.f48))]:=by kernel_rfl
theorem la48{R:Type}(G:ORC R)(k:Nat):LoopsAre (TAB.env 48) G (L48 G k) (bodyOf Try.f48):=
 loopsAre_of (by rw[lo48];intro p hp;simp only[List.mem_cons,List.not_mem_nil,or_false]at hp;subst hp;exact li48_0 G k)
def g48{R:Type}(G:ORC R)(k:Nat)(args:LV)(K:LV→OV R):OV R:=match args with
 | [.int .i64 ai1,.int .i64 ai2,.sl 7 bl3,.sl 1 bl4,.sl 1 bl5]=>f48 G k ai1 ai2 bl3 bl4 bl5 K
 |_=>none
theorem s48{R:Type}{G:ORC R}{k:Nat}(hG:Sound Try.prog TAB G)(args:LV)(K:LV→OV R)(r:R)(h:g48 G k args K=some r):∃o,CallOK Try.prog TAB.env 48 args o∧K o=some r:=by
 unfold g48 at h
 split at h
 ·rw[←f48_is]at h
  exact callF_sound (f:=48) TAB_chk MO hG Try.func48 (sg:=S48) (by kernel_rfl) (by kernel_rfl) (la48 G k) h
 ·cases h
def P50_0h:Pat:={tmps:=unds [.undef,.undef,.stat (.one (.ptr 2 0) .pt),.stat (.one (.ptr 3 0) .pt),.undef,.var (.sl 1) (.own true)] 6 (unds [.var (.int .i64) .pr,.var (.int .i64) .pr] 11 []),boxes:=nons [none,none,some [.var .str .pr false,.var (.int .i64) .pr false,.var (.int .i64) .pr false,.var (.sl 1) .ro false,.var (.sl 1) .ro false,.var (.sl 1) .ro false,.var (.sl 7) .ro false,.var (.sl 6) .ro false,.var (.sl 1) .ro false],some [.var (.int .i64) .pr false]] 21 []}
def P50_0x:Pat:={tmps:=unds [.undef,.undef,.stat (.one (.ptr 2 0) .pt),.stat (.one (.ptr 3 0) .pt),.undef,.var (.sl 1) (.own true)] 19 [],boxes:=nons [none,none,some [.var .str .pr false,.var (.int .i64) .pr false,.var (.int .i64) .pr false,.var (.sl 1) .ro false,.var (.sl 1) .ro false,.var (.sl 1) .ro false,.var (.sl 7) .ro false,.var (.sl 6) .ro false,.var (.sl 1) .ro false],some [.var (.int .i64) .pr false]] 21 []}
def b50_0{R:Type}(G:ORC R)(k:Nat)(X:LV→Int→Int→ByteArray→Int→Int→LV→LV→LV→LV→LV→LV→Int→OV R)(Ko:LV→ByteArray→Int→Int→LV→LV→LV→LV→LV→LV→Int→OV R)(xl11:LV)(xi12 xi13:Int)(xs14:ByteArray)(xi15 xi16:Int)(xl17 xl18:LV)(xl19 xl20:LV)(xl21 xl22:LV)(xi23:Int):OV R:=
 (bif(decide (xi13<xi12))then(bif((decide (0≤xi13))&&(decide (xi13<(xl11.length:Int))))then(nthK xl11 (Int.toNat xi13) fun e24=>X (List.set xl11 (Int.toNat xi13) (.int .i64 xi13)) xi12 (IntKind.i64.wrap (xi13+1)) xs14 xi15 xi16 xl17 xl18 xl19 xl20 xl21 xl22 xi23)else none)else(Ko xl11 xs14 xi15 xi16 xl17 xl18 xl19 xl20 xl21 xl22 xi23))
def l50_0g{R:Type}(G:ORC R)(k:Nat)(Ko:LV→ByteArray→Int→Int→LV→LV→LV→LV→LV→LV→Int→OV R):Nat→LV→Int→Int→ByteArray→Int→Int→LV→LV→LV→LV→LV→LV→Int→OV R
 |0=>fun _ _ _ _ _ _ _ _ _ _ _ _ _=>none
 |j+1=>b50_0 G k (l50_0g G k Ko j) Ko
def l50_0{R:Type}(G:ORC R)(k:Nat)(xl11:LV)(xi12 xi13:Int)(xs14:ByteArray)(xi15 xi16:Int)(xl17 xl18:LV)(xl19 xl20:LV)(xl21 xl22:LV)(xi23:Int)(Ko:LV→ByteArray→Int→Int→LV→LV→LV→LV→LV→LV→Int→OV R):OV R:=l50_0g G k Ko k xl11 xi12 xi13 xs14 xi15 xi16 xl17 xl18 xl19 xl20 xl21 xl22 xi23
def rd50_0{R:Type}(G:ORC R)(k:Nat)(K:Ex→St→OV R)(j:Nat)(vs:LV):OV R:=match vs with
 | [.sl 1 xl11,.int .i64 xi12,.int .i64 xi13,.str xs14,.int .i64 xi15,.int .i64 xi16,.sl 1 xl17,.sl 1 xl18,.sl 1 xl19,.sl 7 xl20,.sl 6 xl21,.sl 1 xl22,.int .i64 xi23]=>l50_0g G k (fun yl41 ys42 yi43 yi44 yl45 yl46 yl47 yl48 yl49 yl50 yi51=>K .normal (P50_0x.inst [.sl 1 yl41,.str ys42,.int .i64 yi43,.int .i64 yi44,.sl 1 yl45,.sl 1 yl46,.sl 1 yl47,.sl 7 yl48,.sl 6 yl49,.sl 1 yl50,.int .i64 yi51])) j xl11 xi12 xi13 xs14 xi15 xi16 xl17 xl18 xl19 xl20 xl21 xl22 xi23
 |_=>none
def L50{R:Type}(G:ORC R)(k:Nat):Nat→St→(Ex→St→OV R)→OV R
 |0,S,K=>P50_0h.mat S fun vs=>rd50_0 G k K k vs
 |_,_,_=>none
def f50{R:Type}(G:ORC R)(k:Nat)(as1:ByteArray)(ai2 ai3:Int)(al4 al5:LV)(al6 al7:LV)(al8 al9:LV)(ai10:Int)(K:LV→OV R):OV R:=
 (bif(((decide (0≤(al9.length:Int)))&&(decide ((al9.length:Int)≤(al9.length:Int))))&&(decide ((al9.length:Int)≤1073741824)))then(l50_0 G k (List.replicate (Int.toNat (al9.length:Int)) (V.int .i64 0)) ((List.length (List.replicate (Int.toNat (al9.length:Int)) (V.int .i64 0)):Nat):Int) 0 as1 ai2 ai3 al4 al5 al6 al7 al8 al9 ai10 (fun yl25 ys26 yi27 yi28 yl29 yl30 yl31 yl32 yl33 yl34 yi35=>G 131111 [.agg [.str ys26,.int .i64 yi27,.int .i64 yi28,.sl 1 yl29,.sl 1 yl30,.sl 1 yl31,.sl 7 yl32,.sl 6 yl33,.sl 1 yl34],.sl 1 yl25,.int .i64 yi35] fun o36=>uL 1 o36 fun l38 r37=>uI .i64 r37 fun n40 r39=>unNil r39 (K [.sl 1 l38])))else none)
noncomputable def D50_0:LoopD:={id:=0,body:=loopAt 0 (bodyOf Try.f50),head:=P50_0h,out:=P50_0x,ret:=default}
theorem l50_0_is{R:Type}(G:ORC R)(k:Nat)(X:LV→OV R)(K:Ex→St→OV R)(xl11:LV)(xi12 xi13:Int)(xs14:ByteArray)(xi15 xi16:Int)(xl17 xl18:LV)(xl19 xl20:LV)(xl21 xl22:LV)(xi23:Int):
 roundOf (TAB.env 50) G (L50 G k) D50_0 X K [.sl 1 xl11,.int .i64 xi12,.int .i64 xi13,.str xs14,.int .i64 xi15,.int .i64 xi16,.sl 1 xl17,.sl 1 xl18,.sl 1 xl19,.sl 7 xl20,.sl 6 xl21,.sl 1 xl22,.int .i64 xi23]=b50_0 G k (fun xl11 xi12 xi13 xs14 xi15 xi16 xl17 xl18 xl19 xl20 xl21 xl22 xi23=>X [.sl 1 xl11,.int .i64 xi12,.int .i64 xi13,.str xs14,.int .i64 xi15,.int .i64 xi16,.sl 1 xl17,.sl 1 xl18,.sl 1 xl19,.sl 7 xl20,.sl 6 xl21,.sl 1 xl22,.int .i64 xi23]) (fun yl41 ys42 yi43 yi44 yl45 yl46 yl47 yl48 yl49 yl50 yi51=>K .normal (P50_0x.inst [.sl 1 yl41,.str ys42,.int .i64 yi43,.int .i64 yi44,.sl 1 yl45,.sl 1 yl46,.sl 1 yl47,.sl 7 yl48,.sl 6 yl49,.sl 1 yl50,.int .i64 yi51])) xl11 xi12 xi13 xs14 xi15 xi16 xl17 xl18 xl19 xl20 xl21 xl22 xi23:=by kernel_rfl
theorem f50_is{R:Type}(G:ORC R)(k:Nat)(K:LV→OV R)(as1:ByteArray)(ai2 ai3:Int)(al4 al5:LV)(al6 al7:LV)(al8 al9:LV)(ai10:Int):
 callF (TAB.env 50) G (L50 G k) Try.f50 S50 [.agg [.str as1,.int .i64 ai2,.int .i64 ai3,.sl 1 al4,.sl 1 al5,.sl 1 al6,.sl 7 al7,.sl 6 al8,.sl 1 al9],.int .i64 ai10] K=f50 G k as1 ai2 ai3 al4 al5 al6 al7 al8 al9 ai10 K:=by kernel_rfl
theorem li50_0{R:Type}(G:ORC R)(k:Nat):LoopIs (TAB.env 50) G (L50 G k) 0 (loopAt 0 (bodyOf Try.f50)):=
 ⟨D50_0,fun j vs K=>rd50_0 G k K j vs,k,rfl,rfl,by kernel_rfl,by kernel_rfl,by kernel_rfl,(fun vs K=>by unfold rd50_0;dsimp only;split<;>rfl),
   (fun j vs K r h=>by
     unfold rd50_0 at h
     dsimp only at h
     split at h
     ·rw[l50_0_is];exact h
     ·cases h),(fun S K r h=>h)⟩
theorem lo50:loopsOf (bodyOf Try.f50)=[(0,loopAt 0 (bodyOf Try.f50))]:=by kernel_rfl
theorem la50{R:Type}(G:ORC R)(k:Nat):LoopsAre (TAB.env 50) G (L50 G k) (bodyOf Try.f50):=
 loopsAre_of (by rw[lo50];intro p hp;simp only[List.mem_cons,List.not_mem_nil,or_false]at hp;subst hp;exact li50_0 G k)
def g50{R:Type}(G:ORC R)(k:Nat)(args:LV)(K:LV→OV R):OV R:=match args with
 | [.agg [.str as1,.int .i64 ai2,.int .i64 ai3,.sl 1 al4,.sl 1 al5,.sl 1 al6,.sl 7 al7,.sl 6 al8,.sl 1 al9],.int .i64 ai10]=>f50 G k as1 ai2 ai3 al4 al5 al6 al7 al8 al9 ai10 K
 |_=>none
theorem s50{R:Type}{G:ORC R}{k:Nat}(hG:Sound Try.prog TAB G)(args:LV)(K:LV→OV R)(r:R)(h:g50 G k args K=some r):∃o,CallOK Try.prog TAB.env 50 args o∧K o=some r:=by
 unfold g50 at h
 split at h
 ·rw[←f50_is]at h
  exact callF_sound (f:=50) TAB_chk MO hG Try.func50 (sg:=S50) (by kernel_rfl) (by kernel_rfl) (la50 G k) h
 ·cases h
def P63_0h:Pat:={tmps:=unds [.var (.sl 1) .ro,.var .bool .pr] 5 (unds [.var (.int .i64) .pr,.var (.int .i64) .pr] 10 []),boxes:=nons [] 19 []}
def P63_0x:Pat:={tmps:=unds [] 19 [],boxes:=nons [] 19 []}
def P63_0r:Pat:={tmps:=unds [.undef,.undef,.undef,.undef,.var (.int .i64) .pr] 14 [],boxes:=nons [] 19 []}
def b63_0{R:Type}(G:ORC R)(k:Nat)(X:LV→Bool→Int→Int→OV R)(Ko:Unit→OV R)(Kr:Int→OV R)(xl3:LV)(xb4:Bool)(xi5 xi6:Int):OV R:=
 (bif(decide (xi6<xi5))then(bif((decide (0≤xi6))&&(decide (xi6<(xl3.length:Int))))then(nthK xl3 (Int.toNat xi6) fun e7=>V.asBool e7 fun b8=>bif(xb4==b8)then(Kr xi6)else(X xl3 xb4 xi5 (IntKind.i64.wrap (xi6+1))))else none)else(Ko ()))
def l63_0g{R:Type}(G:ORC R)(k:Nat)(Ko:Unit→OV R)(Kr:Int→OV R):Nat→LV→Bool→Int→Int→OV R
 |0=>fun _ _ _ _=>none
 |j+1=>b63_0 G k (l63_0g G k Ko Kr j) Ko Kr
def l63_0{R:Type}(G:ORC R)(k:Nat)(xl3:LV)(xb4:Bool)(xi5 xi6:Int)(Ko:Unit→OV R)(Kr:Int→OV R):OV R:=l63_0g G k Ko Kr k xl3 xb4 xi5 xi6
def rd63_0{R:Type}(G:ORC R)(k:Nat)(K:Ex→St→OV R)(j:Nat)(vs:LV):OV R:=match vs with
 | [.sl 1 xl3,.bool xb4,.int .i64 xi5,.int .i64 xi6]=>l63_0g G k (fun _=>K .normal (P63_0x.inst [])) (fun yi10=>K .ret (P63_0r.inst [.int .i64 yi10])) j xl3 xb4 xi5 xi6
 |_=>none
def L63{R:Type}(G:ORC R)(k:Nat):Nat→St→(Ex→St→OV R)→OV R
 |0,S,K=>P63_0h.mat S fun vs=>rd63_0 G k K k vs
 |_,_,_=>none
def f63{R:Type}(G:ORC R)(k:Nat)(al1:LV)(ab2:Bool)(K:LV→OV R):OV R:=
 (l63_0 G k al1 ab2 (al1.length:Int) 0 (fun(_:Unit)=>K [.int .i64 (-1)]) (fun yi9=>K [.int .i64 yi9]))
noncomputable def D63_0:LoopD:={id:=0,body:=loopAt 0 (bodyOf Try.f63),head:=P63_0h,out:=P63_0x,ret:=P63_0r}
theorem l63_0_is{R:Type}(G:ORC R)(k:Nat)(X:LV→OV R)(K:Ex→St→OV R)(xl3:LV)(xb4:Bool)(xi5 xi6:Int):
 roundOf (TAB.env 63) G (L63 G k) D63_0 X K [.sl 1 xl3,.bool xb4,.int .i64 xi5,.int .i64 xi6]=b63_0 G k (fun xl3 xb4 xi5 xi6=>X [.sl 1 xl3,.bool xb4,.int .i64 xi5,.int .i64 xi6]) (fun _=>K .normal (P63_0x.inst [])) (fun yi10=>K .ret (P63_0r.inst [.int .i64 yi10])) xl3 xb4 xi5 xi6:=by kernel_rfl
theorem f63_is{R:Type}(G:ORC R)(k:Nat)(K:LV→OV R)(al1:LV)(ab2:Bool):
 callF (TAB.env 63) G (L63 G k) Try.f63 S63 [.sl 1 al1,.bool ab2] K=f63 G k al1 ab2 K:=by kernel_rfl
theorem li63_0{R:Type}(G:ORC R)(k:Nat):LoopIs (TAB.env 63) G (L63 G k) 0 (loopAt 0 (bodyOf Try.f63)):=
 ⟨D63_0,fun j vs K=>rd63_0 G k K j vs,k,rfl,rfl,by kernel_rfl,by kernel_rfl,by kernel_rfl,(fun vs K=>by unfold rd63_0;dsimp only;split<;>rfl),
   (fun j vs K r h=>by
     unfold rd63_0 at h
     dsimp only at h
     split at h
     ·rw[l63_0_is];exact h
     ·cases h),(fun S K r h=>h)⟩
theorem lo63:loopsOf (bodyOf Try.f63)=[(0,loopAt 0 (bodyOf Try.f63))]:=by kernel_rfl
theorem la63{R:Type}(G:ORC R)(k:Nat):LoopsAre (TAB.env 63) G (L63 G k) (bodyOf Try.f63):=
 loopsAre_of (by rw[lo63];intro p hp;simp only[List.mem_cons,List.not_mem_nil,or_false]at hp;subst hp;exact li63_0 G k)
def g63{R:Type}(G:ORC R)(k:Nat)(args:LV)(K:LV→OV R):OV R:=match args with
 | [.sl 1 al1,.bool ab2]=>f63 G k al1 ab2 K
 |_=>none
theorem s63{R:Type}{G:ORC R}{k:Nat}(hG:Sound Try.prog TAB G)(args:LV)(K:LV→OV R)(r:R)(h:g63 G k args K=some r):∃o,CallOK Try.prog TAB.env 63 args o∧K o=some r:=by
 unfold g63 at h
 split at h
 ·rw[←f63_is]at h
  exact callF_sound (f:=63) TAB_chk MO hG Try.func63 (sg:=S63) (by kernel_rfl) (by kernel_rfl) (la63 G k) h
 ·cases h
def L67{R:Type}(_:ORC R)(_:Nat):Nat→St→(Ex→St→OV R)→OV R:=fun _ _ _=>none
def f67{R:Type}(G:ORC R)(k:Nat)(ai1 ai2 ai3:Int)(as4:ByteArray)(bi5:Int)(K:LV→OV R):OV R:=
 (bif(ai1==20)then(K [.bool (ai2==bi5),.int .i64 bi5])else(K [.bool false,.int .i64 bi5]))
theorem f67_is{R:Type}(G:ORC R)(k:Nat)(K:LV→OV R)(ai1 ai2 ai3:Int)(as4:ByteArray)(bi5:Int):
 callF (TAB.env 67) G (L67 G k) Try.f67 S67 [.agg [.int .i64 ai1,.int .i64 ai2,.int .i64 ai3,.str as4],.int .i64 bi5] K=f67 G k ai1 ai2 ai3 as4 bi5 K:=by kernel_rfl
theorem lo67:loopsOf (bodyOf Try.f67)=[]:=by kernel_rfl
theorem la67{R:Type}(G:ORC R)(k:Nat):LoopsAre (TAB.env 67) G (L67 G k) (bodyOf Try.f67):=
 loopsAre_of (by rw[lo67];intro p hp;cases hp)
def g67{R:Type}(G:ORC R)(k:Nat)(args:LV)(K:LV→OV R):OV R:=match args with
 | [.agg [.int .i64 ai1,.int .i64 ai2,.int .i64 ai3,.str as4],.int .i64 bi5]=>f67 G k ai1 ai2 ai3 as4 bi5 K
 |_=>none
theorem s67{R:Type}{G:ORC R}{k:Nat}(hG:Sound Try.prog TAB G)(args:LV)(K:LV→OV R)(r:R)(h:g67 G k args K=some r):∃o,CallOK Try.prog TAB.env 67 args o∧K o=some r:=by
 unfold g67 at h
 split at h
 ·rw[←f67_is]at h
  exact callF_sound (f:=67) TAB_chk MO hG Try.func67 (sg:=S67) (by kernel_rfl) (by kernel_rfl) (la67 G k) h
 ·cases h
end Go.Proofs.Ytkommgiklkcclaa.Vm
