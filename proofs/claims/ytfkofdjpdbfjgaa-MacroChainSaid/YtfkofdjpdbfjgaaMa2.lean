/- Functions of the program, told by the machine of values, and what they answer: a part. -/
import Derived.Test.YtfkofdjpdbfjgaaMa1
import Derived.Test.YtfkofdjpdbfjgaaMaV4
open Go Go.VM
set_option linter.unusedVariables false
set_option maxRecDepth 100000
set_option maxHeartbeats 4000000
namespace Go.Proofs.Ytfkofdjpdbfjgaa.Vm
def f98{R:Type}(G:ORC R)(k:Nat)(a b c:Int)(K:LV→OV R):OV R:=
 (bif(a==7)then(G 112 [.int .i64 b,.int .i64 c] fun d=>uI .i64 d fun d e=>uI .i64 e fun e f=>unNil f (G 93 [.int .i64 d,.int .i64 e] fun d=>uB d fun d e=>uI .i64 e fun e f=>uI .i64 f fun f g=>unNil g (bif d then(K [.bool true,.int .i64 e,.int .i64 0])else(K [.bool false,.int .i64 0,.int .i64 f]))))else(bif(a==8)then(G 113 [.int .i64 b,.int .i64 c] fun d=>uI .i64 d fun d e=>uI .i64 e fun e f=>unNil f (G 93 [.int .i64 d,.int .i64 e] fun d=>uB d fun d e=>uI .i64 e fun e f=>uI .i64 f fun f g=>unNil g (bif d then(K [.bool true,.int .i64 e,.int .i64 0])else(K [.bool false,.int .i64 0,.int .i64 f]))))else(bif(a==9)then(G 114 [.int .i64 b,.int .i64 c] fun d=>uI .i64 d fun d e=>uI .i64 e fun e f=>unNil f (G 93 [.int .i64 d,.int .i64 e] fun d=>uB d fun d e=>uI .i64 e fun e f=>uI .i64 f fun f g=>unNil g (bif d then(K [.bool true,.int .i64 e,.int .i64 0])else(K [.bool false,.int .i64 0,.int .i64 f]))))else(bif(a==10)then(G 115 [.int .i64 b,.int .i64 c] fun d=>uI .i64 d fun d e=>uI .i64 e fun e f=>unNil f (G 93 [.int .i64 d,.int .i64 e] fun d=>uB d fun d e=>uI .i64 e fun e f=>uI .i64 f fun f g=>unNil g (bif d then(K [.bool true,.int .i64 e,.int .i64 0])else(K [.bool false,.int .i64 0,.int .i64 f]))))else(bif(a==11)then(G 110 [.int .i64 b,.int .i64 c] fun d=>uI .i64 d fun d e=>uI .i64 e fun e f=>unNil f (G 93 [.int .i64 d,.int .i64 e] fun d=>uB d fun d e=>uI .i64 e fun e f=>uI .i64 f fun f g=>unNil g (bif d then(K [.bool true,.int .i64 e,.int .i64 0])else(K [.bool false,.int .i64 0,.int .i64 f]))))else(bif(a==12)then(G 91 [.bool (decide (b<c))] fun d=>uI .i64 d fun d e=>unNil e (K [.bool false,.int .i64 0,.int .i64 d]))else(bif(a==13)then(G 91 [.bool (decide (b≤c))] fun d=>uI .i64 d fun d e=>unNil e (K [.bool false,.int .i64 0,.int .i64 d]))else(bif(a==14)then(G 91 [.bool (decide (b>c))] fun d=>uI .i64 d fun d e=>unNil e (K [.bool false,.int .i64 0,.int .i64 d]))else(bif(a==15)then(G 91 [.bool (decide (b≥c))] fun d=>uI .i64 d fun d e=>unNil e (K [.bool false,.int .i64 0,.int .i64 d]))else(bif(a==16)then(G 91 [.bool (b==c)] fun a=>uI .i64 a fun a d=>unNil d (K [.bool false,.int .i64 0,.int .i64 a]))else(G 91 [.bool (b !=c)] fun a=>uI .i64 a fun a b=>unNil b (K [.bool false,.int .i64 0,.int .i64 a]))))))))))))
abbrev g98 {R:Type} (G:ORC R) (k:Nat):LV→(LV→OV R)→OV R:=gF J99 (f98 G k)
theorem s98{R:Type}{G:ORC R}{k:Nat}(hG:Sound Try.prog TAB G):TL 98 (g98 G k):=
 gG J99 (by kernel_rfl) (callF_sound (L:=fun _ _ _=>none) (f:=98) TAB_chk MO hG Try.func98 (sg:=S98) (by kernel_rfl) (by kernel_rfl) (las [] (by kernel_rfl) trivial))
def f99{R:Type}(G:ORC R)(k:Nat)(a:Int)(K:LV→OV R):OV R:=
 (K [.bool (a !=a)])
abbrev g99 {R:Type} (G:ORC R) (k:Nat):LV→(LV→OV R)→OV R:=gF J14 (f99 G k)
theorem s99{R:Type}{G:ORC R}{k:Nat}(hG:Sound Try.prog TAB G):TL 99 (g99 G k):=
 gG J14 (by kernel_rfl) (callF_sound (L:=fun _ _ _=>none) (f:=99) TAB_chk MO hG Try.func99 (sg:=S99) (by kernel_rfl) (by kernel_rfl) (las [] (by kernel_rfl) trivial))
def P101_0h:Pat:={tmps:=unds [pS 0,pI] 8 (unds [.stat (.ref (.b 0 2) 0),pI,pI] 15 []),boxes:=nons [some B21] 28 []}
def P101_0x:Pat:={tmps:=unds [] 28 [],boxes:=nons [some B21] 28 []}
def P101_0r:Pat:={tmps:=unds [pU,pU,pU,pU,.var .bool .pr] 23 [],boxes:=nons [some B21] 28 []}
def b101_0{R:Type}(G:ORC R)(k:Nat)(X:Cu R J80)(Ko:Cu R J35)(Kr:Cu R J100)(a b c:Int)(d e f:LV)(g:Int):OV R:=
 (bif(decide (c<b))then(bif((decide (0≤c))&&(decide (c<(f.length:Int))))then(nthK f (Int.toNat c) fun h=>V.asBool h fun h=>bif h then(G 66 [.sl 7 d,.int .i64 c,.int .i64 a] fun h=>uB h fun h i=>unNil i (bif h then(Kr false d e f g)else(X a b (IntKind.i64.wrap (c+1)) d e f g)))else(X a b (IntKind.i64.wrap (c+1)) d e f g))else none)else(Ko d e f g))
def l101_0g{R:Type}(G:ORC R)(k:Nat)(Ko:Cu R J35)(Kr:Cu R J100)(j:Nat):Cu R J80:=lup J80 (fun X=>b101_0 G k X Ko Kr) j
def l101_0{R:Type}(G:ORC R)(k:Nat)(a b c:Int)(d e f:LV)(g:Int)(Ko:Cu R J35)(Kr:Cu R J100):OV R:=l101_0g G k Ko Kr k a b c d e f g
def L101{R:Type}(G:ORC R)(k:Nat):Nat→St→(Ex→St→OV R)→OV R
 |0,S,K=>P101_0h.mat S fun vs=>uc J80 (l101_0g G k (koX J35 P101_0x K) (koR J100 P101_0r K) k) vs none
 |_,_,_=>none
def f101{R:Type}(G:ORC R)(k:Nat)(a:Int)(b c d:LV)(e:Int)(K:LV→OV R):OV R:=
 (l101_0 G k a (d.length:Int) 0 b c d e (fun a b c d=>K [.bool true,.sl 1 c,.int .i64 d]) (fun a b c d e=>K [.bool a,.sl 1 d,.int .i64 e]))
abbrev g101 {R:Type} (G:ORC R) (k:Nat):LV→(LV→OV R)→OV R:=gF J79 (f101 G k)
theorem s101{R:Type}{G:ORC R}{k:Nat}(hG:Sound Try.prog TAB G):TL 101 (g101 G k):=
 gG J79 (by kernel_rfl) (callF_sound (L:=L101 G k) (f:=101) TAB_chk MO hG Try.func101 (sg:=S101) (by kernel_rfl) (by kernel_rfl) (las [0] (by kernel_rfl) ⟨loopIs J80 k (fun K X=>b101_0 G k X (koX J35 P101_0x K) (koR J100 P101_0r K)) P101_0h P101_0x P101_0r (by kernel_rfl) (by kernel_rfl) (by kernel_rfl) (fun K X=>by kernel_rfl) (fun S K=>by kernel_rfl),trivial⟩))
def P102_0h:Pat:={tmps:=unds [.var (.sl 7) .ro,pI,pU,pU,pU,.var (.sl 1) (.own true),pU,pU,.var (.sl 7) .ro,pI,pI] 19 [],boxes:=nons [] 30 []}
def P102_0x:Pat:={tmps:=unds [] 5 (unds [.var (.sl 1) (.own true)] 24 []),boxes:=nons [] 30 []}
def b102_0{R:Type}(G:ORC R)(k:Nat)(X:Cu R J101)(Ko:Cu R J34)(a:LV)(b:Int)(c d:LV)(e f:Int):OV R:=
 (bif(decide (f<e))then(bif((decide (0≤f))&&(decide (f<(d.length:Int))))then(nthK d (Int.toNat f) fun g=>V.asAgg g fun g=>ce7 g fun g h i l m n o=>aI .i64 g fun g=>aI .i64 h fun g=>aI .i64 i fun h=>aI .i64 l fun h=>aI .i64 m fun h=>aI .i64 n fun h=>V.asStr o fun h=>G 61 [.sl 7 a,.int .i64 b] fun h=>uB h fun h i=>unNil i (bif h then(bif(g==b)then(bif(decide (List.length c+1≤1073741824))then(X a b (c++[.int .i64 f]) d e (IntKind.i64.wrap (f+1)))else none)else(X a b c d e (IntKind.i64.wrap (f+1))))else(X a b c d e (IntKind.i64.wrap (f+1)))))else none)else(Ko c))
def l102_0g{R:Type}(G:ORC R)(k:Nat)(Ko:Cu R J34)(j:Nat):Cu R J101:=lup J101 (fun X=>b102_0 G k X Ko) j
def l102_0{R:Type}(G:ORC R)(k:Nat)(a:LV)(b:Int)(c d:LV)(e f:Int)(Ko:Cu R J34):OV R:=l102_0g G k Ko k a b c d e f
def L102{R:Type}(G:ORC R)(k:Nat):Nat→St→(Ex→St→OV R)→OV R
 |0,S,K=>P102_0h.mat S fun vs=>uc J101 (l102_0g G k (koX J34 P102_0x K) k) vs none
 |_,_,_=>none
def f102{R:Type}(G:ORC R)(k:Nat)(a:LV)(b:Int)(K:LV→OV R):OV R:=
 (l102_0 G k a b [] a (a.length:Int) 0 (fun a=>K [.sl 1 a]))
abbrev g102 {R:Type} (G:ORC R) (k:Nat):LV→(LV→OV R)→OV R:=gF J32 (f102 G k)
theorem s102{R:Type}{G:ORC R}{k:Nat}(hG:Sound Try.prog TAB G):TL 102 (g102 G k):=
 gG J32 (by kernel_rfl) (callF_sound (L:=L102 G k) (f:=102) TAB_chk MO hG Try.func102 (sg:=S102) (by kernel_rfl) (by kernel_rfl) (las [0] (by kernel_rfl) ⟨loopIs J101 k (fun K X=>b102_0 G k X (koX J34 P102_0x K)) P102_0h P102_0x default (by kernel_rfl) (by kernel_rfl) (by kernel_rfl) (fun K X=>by kernel_rfl) (fun S K=>by kernel_rfl),trivial⟩))
def f103{R:Type}(G:ORC R)(k:Nat)(a:Int)(b:LV)(K:LV→OV R):OV R:=
 (bif((decide (0≤a))&&(decide (a<(b.length:Int))))then(nthK b (Int.toNat a) fun a=>V.asAgg a fun a=>G 48 [.agg a] fun a=>uB a fun a b=>unNil b (K [.bool a]))else none)
abbrev g103 {R:Type} (G:ORC R) (k:Nat):LV→(LV→OV R)→OV R:=gF J102 (f103 G k)
theorem s103{R:Type}{G:ORC R}{k:Nat}(hG:Sound Try.prog TAB G):TL 103 (g103 G k):=
 gG J102 (by kernel_rfl) (callF_sound (L:=fun _ _ _=>none) (f:=103) TAB_chk MO hG Try.func103 (sg:=S103) (by kernel_rfl) (by kernel_rfl) (las [] (by kernel_rfl) trivial))
def f109{R:Type}(G:ORC R)(k:Nat)(a:Int)(K:LV→OV R):OV R:=
 (bif(decide (a≥0))then(K [.bool (decide (a<128))])else(K [.bool false]))
abbrev g109 {R:Type} (G:ORC R) (k:Nat):LV→(LV→OV R)→OV R:=gF J14 (f109 G k)
theorem s109{R:Type}{G:ORC R}{k:Nat}(hG:Sound Try.prog TAB G):TL 109 (g109 G k):=
 gG J14 (by kernel_rfl) (callF_sound (L:=fun _ _ _=>none) (f:=109) TAB_chk MO hG Try.func109 (sg:=S109) (by kernel_rfl) (by kernel_rfl) (las [] (by kernel_rfl) trivial))
def f110{R:Type}(G:ORC R)(k:Nat)(a b:Int)(K:LV→OV R):OV R:=
 (bif(decide ((bits .and .i64 (bits .xor .i64 a b) (bits .xor .i64 a (IntKind.i64.wrap (a-b))))<0))then(K [.int .i64 0,.int .i64 2])else(K [.int .i64 (IntKind.i64.wrap (a-b)),.int .i64 0]))
abbrev g110 {R:Type} (G:ORC R) (k:Nat):LV→(LV→OV R)→OV R:=gF J45 (f110 G k)
theorem s110{R:Type}{G:ORC R}{k:Nat}(hG:Sound Try.prog TAB G):TL 110 (g110 G k):=
 gG J45 (by kernel_rfl) (callF_sound (L:=fun _ _ _=>none) (f:=110) TAB_chk MO hG Try.func110 (sg:=S110) (by kernel_rfl) (by kernel_rfl) (las [] (by kernel_rfl) trivial))
def f111{R:Type}(G:ORC R)(k:Nat)(a b:Int)(c:ByteArray)(d:Int)(e:LV)(e f g:Int)(h i:LV)(l m:Int)(n o p:LV)(q r:Int)(K:LV→OV R):OV R:=
 (bif(decide (List.length p+1≤1073741824))then(K [.int .u64 e,.int .u64 f,.int .i64 g,.sl 1 h,.sl 1 i,.int .i64 l,.int .i64 m,.sl 1 n,.sl 2 o,.sl 4 (p++[.agg [.int .i64 a,.int .i64 b,.str c,.int .i64 d]]),.int .i64 q,.int .i64 r])else none)
abbrev g111 {R:Type} (G:ORC R) (k:Nat):LV→(LV→OV R)→OV R:=gF J103 (f111 G k)
theorem s111{R:Type}{G:ORC R}{k:Nat}(hG:Sound Try.prog TAB G):TL 111 (g111 G k):=
 gG J103 (by kernel_rfl) (callF_sound (L:=fun _ _ _=>none) (f:=111) TAB_chk MO hG Try.func111 (sg:=S111) (by kernel_rfl) (by kernel_rfl) (las [] (by kernel_rfl) trivial))
def f112{R:Type}(G:ORC R)(k:Nat)(a b:Int)(K:LV→OV R):OV R:=
 (bif(a==0)then(K [.int .i64 0,.int .i64 0])else(bif(b==0)then(K [.int .i64 0,.int .i64 0])else(bif(a==(-1))then(bif(b==(-9223372036854775808))then(K [.int .i64 0,.int .i64 2])else(bif(b==(-1))then(bif(a==(-9223372036854775808))then(K [.int .i64 0,.int .i64 2])else(bif(!(b==0))then(bif((IntKind.i64.wrap (Int.tdiv (IntKind.i64.wrap (a*b)) b)) !=a)then(K [.int .i64 0,.int .i64 2])else(K [.int .i64 (IntKind.i64.wrap (a*b)),.int .i64 0]))else none))else(bif(!(b==0))then(bif((IntKind.i64.wrap (Int.tdiv (IntKind.i64.wrap (a*b)) b)) !=a)then(K [.int .i64 0,.int .i64 2])else(K [.int .i64 (IntKind.i64.wrap (a*b)),.int .i64 0]))else none)))else(bif(b==(-1))then(bif(a==(-9223372036854775808))then(K [.int .i64 0,.int .i64 2])else(bif(!(b==0))then(bif((IntKind.i64.wrap (Int.tdiv (IntKind.i64.wrap (a*b)) b)) !=a)then(K [.int .i64 0,.int .i64 2])else(K [.int .i64 (IntKind.i64.wrap (a*b)),.int .i64 0]))else none))else(bif(!(b==0))then(bif((IntKind.i64.wrap (Int.tdiv (IntKind.i64.wrap (a*b)) b)) !=a)then(K [.int .i64 0,.int .i64 2])else(K [.int .i64 (IntKind.i64.wrap (a*b)),.int .i64 0]))else none)))))
abbrev g112 {R:Type} (G:ORC R) (k:Nat):LV→(LV→OV R)→OV R:=gF J45 (f112 G k)
theorem s112{R:Type}{G:ORC R}{k:Nat}(hG:Sound Try.prog TAB G):TL 112 (g112 G k):=
 gG J45 (by kernel_rfl) (callF_sound (L:=fun _ _ _=>none) (f:=112) TAB_chk MO hG Try.func112 (sg:=S112) (by kernel_rfl) (by kernel_rfl) (las [] (by kernel_rfl) trivial))
def f113{R:Type}(G:ORC R)(k:Nat)(a b:Int)(K:LV→OV R):OV R:=
 (bif(b==0)then(K [.int .i64 0,.int .i64 3])else(bif(b==(-1))then(G 94 [.int .i64 a] fun c=>uI .i64 c fun c d=>uI .i64 d fun d e=>unNil e (K [.int .i64 c,.int .i64 d]))else(bif(!(b==0))then(K [.int .i64 (IntKind.i64.wrap (Int.tdiv a b)),.int .i64 0])else none)))
abbrev g113 {R:Type} (G:ORC R) (k:Nat):LV→(LV→OV R)→OV R:=gF J45 (f113 G k)
theorem s113{R:Type}{G:ORC R}{k:Nat}(hG:Sound Try.prog TAB G):TL 113 (g113 G k):=
 gG J45 (by kernel_rfl) (callF_sound (L:=fun _ _ _=>none) (f:=113) TAB_chk MO hG Try.func113 (sg:=S113) (by kernel_rfl) (by kernel_rfl) (las [] (by kernel_rfl) trivial))
def f114{R:Type}(G:ORC R)(k:Nat)(a b:Int)(K:LV→OV R):OV R:=
 (bif(b==0)then(K [.int .i64 0,.int .i64 3])else(bif(b==(-1))then(K [.int .i64 0,.int .i64 0])else(bif(!(b==0))then(K [.int .i64 (Int.tmod a b),.int .i64 0])else none)))
abbrev g114 {R:Type} (G:ORC R) (k:Nat):LV→(LV→OV R)→OV R:=gF J45 (f114 G k)
theorem s114{R:Type}{G:ORC R}{k:Nat}(hG:Sound Try.prog TAB G):TL 114 (g114 G k):=
 gG J45 (by kernel_rfl) (callF_sound (L:=fun _ _ _=>none) (f:=114) TAB_chk MO hG Try.func114 (sg:=S114) (by kernel_rfl) (by kernel_rfl) (las [] (by kernel_rfl) trivial))
def f115{R:Type}(G:ORC R)(k:Nat)(a b:Int)(K:LV→OV R):OV R:=
 (bif(decide ((bits .and .i64 (bits .xor .i64 a (IntKind.i64.wrap (a+b))) (bits .xor .i64 b (IntKind.i64.wrap (a+b))))<0))then(K [.int .i64 0,.int .i64 2])else(K [.int .i64 (IntKind.i64.wrap (a+b)),.int .i64 0]))
abbrev g115 {R:Type} (G:ORC R) (k:Nat):LV→(LV→OV R)→OV R:=gF J45 (f115 G k)
theorem s115{R:Type}{G:ORC R}{k:Nat}(hG:Sound Try.prog TAB G):TL 115 (g115 G k):=
 gG J45 (by kernel_rfl) (callF_sound (L:=fun _ _ _=>none) (f:=115) TAB_chk MO hG Try.func115 (sg:=S115) (by kernel_rfl) (by kernel_rfl) (las [] (by kernel_rfl) trivial))
def P65562_0h:Pat:={tmps:=unds [.var (.sl 1) (.own true),.stat (.one (.fn 27 [.ptr 0 0]) .pt),pU,pU,pU,pI,pI] 35 [],boxes:=nons [some [.var (.int .i64) .pr false]] 42 []}
def P65562_0x:Pat:={tmps:=unds [.var (.sl 1) (.own true),pU,pU,pU,pU,pI] 36 [],boxes:=nons [some [.var (.int .i64) .pr false]] 42 []}
def b65562_0{R:Type}(G:ORC R)(k:Nat)(X:Cu R J74)(Ko:Cu R J30)(a:LV)(b c d:Int):OV R:=
 (bif(decide (c<(a.length:Int)))then(bif((decide (0≤c))&&(decide (c<(a.length:Int))))then(nthK a (Int.toNat c) fun e=>aI .i64 e fun e=>G 27 [.int .i64 e,.int .i64 d] fun f=>uB f fun f g=>uI .i64 g fun g h=>unNil h (bif(!f)then(bif((decide (0≤b))&&(decide (b<(a.length:Int))))then(nthK a (Int.toNat b) fun f=>X (List.set a (Int.toNat b) (.int .i64 e)) (IntKind.i64.wrap (b+1)) (IntKind.i64.wrap (c+1)) g)else none)else(X a b (IntKind.i64.wrap (c+1)) g)))else none)else(Ko a b d))
def l65562_0g{R:Type}(G:ORC R)(k:Nat)(Ko:Cu R J30)(j:Nat):Cu R J74:=lup J74 (fun X=>b65562_0 G k X Ko) j
def l65562_0{R:Type}(G:ORC R)(k:Nat)(a:LV)(b c d:Int)(Ko:Cu R J30):OV R:=l65562_0g G k Ko k a b c d
def L65562{R:Type}(G:ORC R)(k:Nat):Nat→St→(Ex→St→OV R)→OV R
 |0,S,K=>P65562_0h.mat S fun vs=>uc J74 (l65562_0g G k (koX J30 P65562_0x K) k) vs none
 |_,_,_=>none
def f65562{R:Type}(G:ORC R)(k:Nat)(a:LV)(b:Int)(K:LV→OV R):OV R:=
 (G 65587 [.sl 1 a,.int .i64 b] fun b=>uI .i64 b fun b c=>uI .i64 c fun c d=>unNil d (bif(b==(-1))then(K [.sl 1 a,.int .i64 c])else(l65562_0 G k a b (IntKind.i64.wrap (b+1)) c (fun a b c=>bif((decide (0≤b))&&(decide (b<(a.length:Int))))then(bif(decide ((Int.toNat b)≤(List.length a)))then(bif((decide (0≤b))&&(decide (b≤((List.length ((List.take (Int.toNat b) a)++(List.replicate ((List.length a)-(Int.toNat b)) (V.int .i64 0))):Nat):Int))))then(K [.sl 1 (List.take (Int.toNat b) ((List.take (Int.toNat b) a)++(List.replicate ((List.length a)-(Int.toNat b)) (V.int .i64 0)))),.int .i64 c])else none)else none)else none))))
abbrev g65562 {R:Type} (G:ORC R) (k:Nat):LV→(LV→OV R)→OV R:=gF J31 (f65562 G k)
theorem s65562{R:Type}{G:ORC R}{k:Nat}(hG:Sound Try.prog TAB G):TL 65562 (g65562 G k):=
 gG J31 (by kernel_rfl) (callF_sound (L:=L65562 G k) (f:=65562) TAB_chk MO hG Try.func26 (sg:=S65562) (by kernel_rfl) (by kernel_rfl) (las [0] (by kernel_rfl) ⟨loopIs J74 k (fun K X=>b65562_0 G k X (koX J30 P65562_0x K)) P65562_0h P65562_0x default (by kernel_rfl) (by kernel_rfl) (by kernel_rfl) (fun K X=>by kernel_rfl) (fun S K=>by kernel_rfl),trivial⟩))
def f65578{R:Type}(G:ORC R)(k:Nat)(a b:LV)(c:Int)(K:LV→OV R):OV R:=
 (G 131123 [.sl 1 a,.sl 7 b,.int .i64 c] fun a=>uI .i64 a fun a b=>uI .i64 b fun b c=>unNil c (K [.bool (decide (a≥0)),.int .i64 b]))
abbrev g65578 {R:Type} (G:ORC R) (k:Nat):LV→(LV→OV R)→OV R:=gF J104 (f65578 G k)
theorem s65578{R:Type}{G:ORC R}{k:Nat}(hG:Sound Try.prog TAB G):TL 65578 (g65578 G k):=
 gG J104 (by kernel_rfl) (callF_sound (L:=fun _ _ _=>none) (f:=65578) TAB_chk MO hG Try.func42 (sg:=S65578) (by kernel_rfl) (by kernel_rfl) (las [] (by kernel_rfl) trivial))
def P65587_0h:Pat:={tmps:=unds [pL,.stat (.one (.fn 27 [.ptr 0 0]) .pt)] 5 (unds [pI,pI] 10 []),boxes:=nons [some [.var (.int .i64) .pr false]] 19 []}
def P65587_0x:Pat:={tmps:=unds [] 19 [],boxes:=nons [some [.var (.int .i64) .pr false]] 19 []}
def P65587_0r:Pat:={tmps:=unds [pU,pU,pU,pU,pI] 14 [],boxes:=nons [some [.var (.int .i64) .pr false]] 19 []}
def b65587_0{R:Type}(G:ORC R)(k:Nat)(X:Cu R J74)(Ko:Cu R J14)(Kr:Cu R J45)(a:LV)(b c d:Int):OV R:=
 (bif(decide (c<b))then(bif((decide (0≤c))&&(decide (c<(a.length:Int))))then(nthK a (Int.toNat c) fun e=>aI .i64 e fun e=>G 27 [.int .i64 e,.int .i64 d] fun e=>uB e fun e f=>uI .i64 f fun f g=>unNil g (bif e then(Kr c f)else(X a b (IntKind.i64.wrap (c+1)) f)))else none)else(Ko d))
def l65587_0g{R:Type}(G:ORC R)(k:Nat)(Ko:Cu R J14)(Kr:Cu R J45)(j:Nat):Cu R J74:=lup J74 (fun X=>b65587_0 G k X Ko Kr) j
def l65587_0{R:Type}(G:ORC R)(k:Nat)(a:LV)(b c d:Int)(Ko:Cu R J14)(Kr:Cu R J45):OV R:=l65587_0g G k Ko Kr k a b c d
def L65587{R:Type}(G:ORC R)(k:Nat):Nat→St→(Ex→St→OV R)→OV R
 |0,S,K=>P65587_0h.mat S fun vs=>uc J74 (l65587_0g G k (koX J14 P65587_0x K) (koR J45 P65587_0r K) k) vs none
 |_,_,_=>none
def f65587{R:Type}(G:ORC R)(k:Nat)(a:LV)(b:Int)(K:LV→OV R):OV R:=
 (l65587_0 G k a (a.length:Int) 0 b (fun a=>K [.int .i64 (-1),.int .i64 a]) (fun a b=>K [.int .i64 a,.int .i64 b]))
abbrev g65587 {R:Type} (G:ORC R) (k:Nat):LV→(LV→OV R)→OV R:=gF J31 (f65587 G k)
theorem s65587{R:Type}{G:ORC R}{k:Nat}(hG:Sound Try.prog TAB G):TL 65587 (g65587 G k):=
 gG J31 (by kernel_rfl) (callF_sound (L:=L65587 G k) (f:=65587) TAB_chk MO hG Try.func51 (sg:=S65587) (by kernel_rfl) (by kernel_rfl) (las [0] (by kernel_rfl) ⟨loopIs J74 k (fun K X=>b65587_0 G k X (koX J14 P65587_0x K) (koR J45 P65587_0r K)) P65587_0h P65587_0x P65587_0r (by kernel_rfl) (by kernel_rfl) (by kernel_rfl) (fun K X=>by kernel_rfl) (fun S K=>by kernel_rfl),trivial⟩))
def P131098_0h:Pat:={tmps:=unds [.var (.sl 1) (.own true),.stat (.one (.fn 64 [.ptr 0 0,.ptr 2 0]) .pt),pU,pU,pU,pI,pI] 35 [],boxes:=nons [some B23,some B24,some B18] 42 []}
def P131098_0x:Pat:={tmps:=unds [.var (.sl 1) (.own true),pU,pU,pU,pU,pI] 36 [],boxes:=nons [some B23,some B24,some B18] 42 []}
def b131098_0{R:Type}(G:ORC R)(k:Nat)(X:Cu R J106)(Ko:Cu R J105)(a:LV)(b c:Int)(d:ByteArray)(e f:Int)(g h i l m n o p q:LV)(r:Int)(s t:V)(u:LV)(v w x y z A:Int)(B:ByteArray):OV R:=
 (bif(decide (c<(a.length:Int)))then(bif((decide (0≤c))&&(decide (c<(a.length:Int))))then(nthK a (Int.toNat c) fun C=>aI .i64 C fun C=>G 64 [.int .i64 C,.str d,.int .i64 e,.int .i64 f,.sl 1 g,.sl 1 h,.sl 1 i,.sl 7 l,.sl 6 m,.sl 1 n,.sl 1 o,.sl 1 p,.sl 1 q,.int .i64 r,s,t,.sl 2 u,.int .i64 v,.int .i64 w,.int .i64 x,.int .i64 y,.int .i64 z,.int .i64 A,.str B] fun D=>uB D fun D E=>uS E fun E F=>uI .i64 F fun F H=>uI .i64 H fun H I=>uI .i64 I fun I J=>uI .i64 J fun J L=>uI .i64 L fun L M=>uI .i64 M fun M N=>uI .i64 N fun N O=>uI .i64 O fun O P=>uI .i64 P fun P Q=>uS Q fun Q S=>unNil S (bif(!D)then(bif((decide (0≤b))&&(decide (b<(a.length:Int))))then(nthK a (Int.toNat b) fun D=>X (List.set a (Int.toNat b) (.int .i64 C)) (IntKind.i64.wrap (b+1)) (IntKind.i64.wrap (c+1)) E F H g h i l m n o p q I s t u J L M N O P Q)else none)else(X a b (IntKind.i64.wrap (c+1)) E F H g h i l m n o p q I s t u J L M N O P Q)))else none)else(Ko a b d e f g h i l m n o p q r s t u v w x y z A B))
def l131098_0g{R:Type}(G:ORC R)(k:Nat)(Ko:Cu R J105)(j:Nat):Cu R J106:=lup J106 (fun X=>b131098_0 G k X Ko) j
def l131098_0{R:Type}(G:ORC R)(k:Nat)(a:LV)(b c:Int)(d:ByteArray)(e f:Int)(g h i l m n o p q:LV)(r:Int)(s t:V)(u:LV)(v w x y z A:Int)(B:ByteArray)(Ko:Cu R J105):OV R:=l131098_0g G k Ko k a b c d e f g h i l m n o p q r s t u v w x y z A B
def L131098{R:Type}(G:ORC R)(k:Nat):Nat→St→(Ex→St→OV R)→OV R
 |0,S,K=>P131098_0h.mat S fun vs=>uc J106 (l131098_0g G k (koX J105 P131098_0x K) k) vs none
 |_,_,_=>none
def f131098{R:Type}(G:ORC R)(k:Nat)(a:LV)(b:ByteArray)(c d:Int)(e f g h i l m n o:LV)(p:Int)(q r:V)(s:LV)(t u v w x y:Int)(z:ByteArray)(K:LV→OV R):OV R:=
 (G 196659 [.sl 1 a,.str b,.int .i64 c,.int .i64 d,.sl 1 e,.sl 1 f,.sl 1 g,.sl 7 h,.sl 6 i,.sl 1 l,.sl 1 m,.sl 1 n,.sl 1 o,.int .i64 p,q,r,.sl 2 s,.int .i64 t,.int .i64 u,.int .i64 v,.int .i64 w,.int .i64 x,.int .i64 y,.str z] fun b=>uI .i64 b fun b c=>uS c fun c d=>uI .i64 d fun d p=>uI .i64 p fun p t=>uI .i64 t fun t u=>uI .i64 u fun u v=>uI .i64 v fun v w=>uI .i64 w fun w x=>uI .i64 x fun x y=>uI .i64 y fun y z=>uI .i64 z fun z A=>uS A fun A B=>unNil B (bif(b==(-1))then(K [.sl 1 a,.str c,.int .i64 d,.int .i64 p,.int .i64 t,.int .i64 u,.int .i64 v,.int .i64 w,.int .i64 x,.int .i64 y,.int .i64 z,.str A])else(l131098_0 G k a b (IntKind.i64.wrap (b+1)) c d p e f g h i l m n o t q r s u v w x y z A (fun a b c d e f g h i f g h i f g h i f l h i f m n o=>bif((decide (0≤b))&&(decide (b<(a.length:Int))))then(bif(decide ((Int.toNat b)≤(List.length a)))then(bif((decide (0≤b))&&(decide (b≤((List.length ((List.take (Int.toNat b) a)++(List.replicate ((List.length a)-(Int.toNat b)) (V.int .i64 0))):Nat):Int))))then(K [.sl 1 (List.take (Int.toNat b) ((List.take (Int.toNat b) a)++(List.replicate ((List.length a)-(Int.toNat b)) (V.int .i64 0)))),.str c,.int .i64 d,.int .i64 e,.int .i64 g,.int .i64 l,.int .i64 h,.int .i64 i,.int .i64 f,.int .i64 m,.int .i64 n,.str o])else none)else none)else none))))
abbrev g131098 {R:Type} (G:ORC R) (k:Nat):LV→(LV→OV R)→OV R:=gF J107 (f131098 G k)
theorem s131098{R:Type}{G:ORC R}{k:Nat}(hG:Sound Try.prog TAB G):TL 131098 (g131098 G k):=
 gG J107 (by kernel_rfl) (callF_sound (L:=L131098 G k) (f:=131098) TAB_chk MO hG Try.func26 (sg:=S131098) (by kernel_rfl) (by kernel_rfl) (las [0] (by kernel_rfl) ⟨loopIs J106 k (fun K X=>b131098_0 G k X (koX J105 P131098_0x K)) P131098_0h P131098_0x default (by kernel_rfl) (by kernel_rfl) (by kernel_rfl) (fun K X=>by kernel_rfl) (fun S K=>by kernel_rfl),trivial⟩))
def P131123_0h:Pat:={tmps:=unds [pL,.stat (.one (.fn 43 [.ptr 0 0,.ptr 1 0]) .pt)] 5 (unds [pI,pI] 10 []),boxes:=nons [some [.var (.sl 7) .ro true],some [.var (.int .i64) .pr false]] 19 []}
def P131123_0x:Pat:={tmps:=unds [] 19 [],boxes:=nons [some [.var (.sl 7) .ro true],some [.var (.int .i64) .pr false]] 19 []}
def P131123_0r:Pat:={tmps:=unds [pU,pU,pU,pU,pI] 14 [],boxes:=nons [some [.var (.sl 7) .ro true],some [.var (.int .i64) .pr false]] 19 []}
def b131123_0{R:Type}(G:ORC R)(k:Nat)(X:Cu R J108)(Ko:Cu R J32)(Kr:Cu R J67)(a:LV)(b c:Int)(d:LV)(e:Int):OV R:=
 (bif(decide (c<b))then(bif((decide (0≤c))&&(decide (c<(a.length:Int))))then(nthK a (Int.toNat c) fun f=>aI .i64 f fun f=>G 43 [.int .i64 f,.sl 7 d,.int .i64 e] fun f=>uB f fun f g=>uI .i64 g fun g h=>unNil h (bif f then(Kr c d g)else(X a b (IntKind.i64.wrap (c+1)) d g)))else none)else(Ko d e))
def l131123_0g{R:Type}(G:ORC R)(k:Nat)(Ko:Cu R J32)(Kr:Cu R J67)(j:Nat):Cu R J108:=lup J108 (fun X=>b131123_0 G k X Ko Kr) j
def l131123_0{R:Type}(G:ORC R)(k:Nat)(a:LV)(b c:Int)(d:LV)(e:Int)(Ko:Cu R J32)(Kr:Cu R J67):OV R:=l131123_0g G k Ko Kr k a b c d e
def L131123{R:Type}(G:ORC R)(k:Nat):Nat→St→(Ex→St→OV R)→OV R
 |0,S,K=>P131123_0h.mat S fun vs=>uc J108 (l131123_0g G k (koX J32 P131123_0x K) (koR J67 P131123_0r K) k) vs none
 |_,_,_=>none
def f131123{R:Type}(G:ORC R)(k:Nat)(a b:LV)(c:Int)(K:LV→OV R):OV R:=
 (l131123_0 G k a (a.length:Int) 0 b c (fun a b=>K [.int .i64 (-1),.int .i64 b]) (fun a b c=>K [.int .i64 a,.int .i64 c]))
abbrev g131123 {R:Type} (G:ORC R) (k:Nat):LV→(LV→OV R)→OV R:=gF J104 (f131123 G k)
theorem s131123{R:Type}{G:ORC R}{k:Nat}(hG:Sound Try.prog TAB G):TL 131123 (g131123 G k):=
 gG J104 (by kernel_rfl) (callF_sound (L:=L131123 G k) (f:=131123) TAB_chk MO hG Try.func51 (sg:=S131123) (by kernel_rfl) (by kernel_rfl) (las [0] (by kernel_rfl) ⟨loopIs J108 k (fun K X=>b131123_0 G k X (koX J32 P131123_0x K) (koR J67 P131123_0r K)) P131123_0h P131123_0x P131123_0r (by kernel_rfl) (by kernel_rfl) (by kernel_rfl) (fun K X=>by kernel_rfl) (fun S K=>by kernel_rfl),trivial⟩))
def P196634_0h:Pat:={tmps:=unds [.var (.sl 1) (.own true),.stat (.one (.fn 103 [.ptr 0 0]) .pt),pU,pU,pU,pI,pI] 35 [],boxes:=nons [some [.var (.sl 7) .ro true]] 42 []}
def P196634_0x:Pat:={tmps:=unds [.var (.sl 1) (.own true),pU,pU,pU,pU,pI] 36 [],boxes:=nons [some [.var (.sl 7) .ro true]] 42 []}
def b196634_0{R:Type}(G:ORC R)(k:Nat)(X:Cu R J110)(Ko:Cu R J109)(a:LV)(b c:Int)(d:LV):OV R:=
 (bif(decide (c<(a.length:Int)))then(bif((decide (0≤c))&&(decide (c<(a.length:Int))))then(nthK a (Int.toNat c) fun e=>aI .i64 e fun e=>G 103 [.int .i64 e,.sl 7 d] fun f=>uB f fun f g=>unNil g (bif(!f)then(bif((decide (0≤b))&&(decide (b<(a.length:Int))))then(nthK a (Int.toNat b) fun f=>X (List.set a (Int.toNat b) (.int .i64 e)) (IntKind.i64.wrap (b+1)) (IntKind.i64.wrap (c+1)) d)else none)else(X a b (IntKind.i64.wrap (c+1)) d)))else none)else(Ko a b d))
def l196634_0g{R:Type}(G:ORC R)(k:Nat)(Ko:Cu R J109)(j:Nat):Cu R J110:=lup J110 (fun X=>b196634_0 G k X Ko) j
def l196634_0{R:Type}(G:ORC R)(k:Nat)(a:LV)(b c:Int)(d:LV)(Ko:Cu R J109):OV R:=l196634_0g G k Ko k a b c d
def L196634{R:Type}(G:ORC R)(k:Nat):Nat→St→(Ex→St→OV R)→OV R
 |0,S,K=>P196634_0h.mat S fun vs=>uc J110 (l196634_0g G k (koX J109 P196634_0x K) k) vs none
 |_,_,_=>none
def f196634{R:Type}(G:ORC R)(k:Nat)(a b:LV)(K:LV→OV R):OV R:=
 (G 262195 [.sl 1 a,.sl 7 b] fun c=>uI .i64 c fun c d=>unNil d (bif(c==(-1))then(K [.sl 1 a])else(l196634_0 G k a c (IntKind.i64.wrap (c+1)) b (fun a b c=>bif((decide (0≤b))&&(decide (b<(a.length:Int))))then(bif(decide ((Int.toNat b)≤(List.length a)))then(bif((decide (0≤b))&&(decide (b≤((List.length ((List.take (Int.toNat b) a)++(List.replicate ((List.length a)-(Int.toNat b)) (V.int .i64 0))):Nat):Int))))then(K [.sl 1 (List.take (Int.toNat b) ((List.take (Int.toNat b) a)++(List.replicate ((List.length a)-(Int.toNat b)) (V.int .i64 0))))])else none)else none)else none))))
abbrev g196634 {R:Type} (G:ORC R) (k:Nat):LV→(LV→OV R)→OV R:=gF J111 (f196634 G k)
theorem s196634{R:Type}{G:ORC R}{k:Nat}(hG:Sound Try.prog TAB G):TL 196634 (g196634 G k):=
 gG J111 (by kernel_rfl) (callF_sound (L:=L196634 G k) (f:=196634) TAB_chk MO hG Try.func26 (sg:=S196634) (by kernel_rfl) (by kernel_rfl) (las [0] (by kernel_rfl) ⟨loopIs J110 k (fun K X=>b196634_0 G k X (koX J109 P196634_0x K)) P196634_0h P196634_0x default (by kernel_rfl) (by kernel_rfl) (by kernel_rfl) (fun K X=>by kernel_rfl) (fun S K=>by kernel_rfl),trivial⟩))
def P196659_0h:Pat:={tmps:=unds [pL,.stat (.one (.fn 64 [.ptr 0 0,.ptr 2 0]) .pt)] 5 (unds [pI,pI] 10 []),boxes:=nons [some B23,some B24,some B18] 19 []}
def P196659_0x:Pat:={tmps:=unds [] 19 [],boxes:=nons [some B23,some B24,some B18] 19 []}
def P196659_0r:Pat:={tmps:=unds [pU,pU,pU,pU,pI] 14 [],boxes:=nons [some B23,some B24,some B18] 19 []}
def b196659_0{R:Type}(G:ORC R)(k:Nat)(X:Cu R J106)(Ko:Cu R J112)(Kr:Cu R J87)(a:LV)(b c:Int)(d:ByteArray)(e f:Int)(g h i l m n o p q:LV)(r:Int)(s t:V)(u:LV)(v w x y z A:Int)(B:ByteArray):OV R:=
 (bif(decide (c<b))then(bif((decide (0≤c))&&(decide (c<(a.length:Int))))then(nthK a (Int.toNat c) fun C=>aI .i64 C fun C=>G 64 [.int .i64 C,.str d,.int .i64 e,.int .i64 f,.sl 1 g,.sl 1 h,.sl 1 i,.sl 7 l,.sl 6 m,.sl 1 n,.sl 1 o,.sl 1 p,.sl 1 q,.int .i64 r,s,t,.sl 2 u,.int .i64 v,.int .i64 w,.int .i64 x,.int .i64 y,.int .i64 z,.int .i64 A,.str B] fun C=>uB C fun C D=>uS D fun D E=>uI .i64 E fun E F=>uI .i64 F fun F H=>uI .i64 H fun H I=>uI .i64 I fun I J=>uI .i64 J fun J L=>uI .i64 L fun L M=>uI .i64 M fun M N=>uI .i64 N fun N O=>uI .i64 O fun O P=>uS P fun P Q=>unNil Q (bif C then(Kr c D E F g h i l m n o p q H s t u I J L M N O P)else(X a b (IntKind.i64.wrap (c+1)) D E F g h i l m n o p q H s t u I J L M N O P)))else none)else(Ko d e f g h i l m n o p q r s t u v w x y z A B))
def l196659_0g{R:Type}(G:ORC R)(k:Nat)(Ko:Cu R J112)(Kr:Cu R J87)(j:Nat):Cu R J106:=lup J106 (fun X=>b196659_0 G k X Ko Kr) j
def l196659_0{R:Type}(G:ORC R)(k:Nat)(a:LV)(b c:Int)(d:ByteArray)(e f:Int)(g h i l m n o p q:LV)(r:Int)(s t:V)(u:LV)(v w x y z A:Int)(B:ByteArray)(Ko:Cu R J112)(Kr:Cu R J87):OV R:=l196659_0g G k Ko Kr k a b c d e f g h i l m n o p q r s t u v w x y z A B
def L196659{R:Type}(G:ORC R)(k:Nat):Nat→St→(Ex→St→OV R)→OV R
 |0,S,K=>P196659_0h.mat S fun vs=>uc J106 (l196659_0g G k (koX J112 P196659_0x K) (koR J87 P196659_0r K) k) vs none
 |_,_,_=>none
def f196659{R:Type}(G:ORC R)(k:Nat)(a:LV)(b:ByteArray)(c d:Int)(e f g h i l m n o:LV)(p:Int)(q r:V)(s:LV)(t u v w x y:Int)(z:ByteArray)(K:LV→OV R):OV R:=
 (l196659_0 G k a (a.length:Int) 0 b c d e f g h i l m n o p q r s t u v w x y z (fun a b c d e f g d e f g d e f g d h f g d i l m=>K [.int .i64 (-1),.str a,.int .i64 b,.int .i64 c,.int .i64 e,.int .i64 h,.int .i64 f,.int .i64 g,.int .i64 d,.int .i64 i,.int .i64 l,.str m]) (fun a b c d e f g h e f g h e f g h e i g h e l m n=>K [.int .i64 a,.str b,.int .i64 c,.int .i64 d,.int .i64 f,.int .i64 i,.int .i64 g,.int .i64 h,.int .i64 e,.int .i64 l,.int .i64 m,.str n]))
abbrev g196659 {R:Type} (G:ORC R) (k:Nat):LV→(LV→OV R)→OV R:=gF J107 (f196659 G k)
theorem s196659{R:Type}{G:ORC R}{k:Nat}(hG:Sound Try.prog TAB G):TL 196659 (g196659 G k):=
 gG J107 (by kernel_rfl) (callF_sound (L:=L196659 G k) (f:=196659) TAB_chk MO hG Try.func51 (sg:=S196659) (by kernel_rfl) (by kernel_rfl) (las [0] (by kernel_rfl) ⟨loopIs J106 k (fun K X=>b196659_0 G k X (koX J112 P196659_0x K) (koR J87 P196659_0r K)) P196659_0h P196659_0x P196659_0r (by kernel_rfl) (by kernel_rfl) (by kernel_rfl) (fun K X=>by kernel_rfl) (fun S K=>by kernel_rfl),trivial⟩))
def P262195_0h:Pat:={tmps:=unds [pL,.stat (.one (.fn 103 [.ptr 0 0]) .pt)] 5 (unds [pI,pI] 10 []),boxes:=nons [some [.var (.sl 7) .ro true]] 19 []}
def P262195_0x:Pat:={tmps:=unds [] 19 [],boxes:=nons [some [.var (.sl 7) .ro true]] 19 []}
def P262195_0r:Pat:={tmps:=unds [pU,pU,pU,pU,pI] 14 [],boxes:=nons [some [.var (.sl 7) .ro true]] 19 []}
def b262195_0{R:Type}(G:ORC R)(k:Nat)(X:Cu R J110)(Ko:Cu R J84)(Kr:Cu R J102)(a:LV)(b c:Int)(d:LV):OV R:=
 (bif(decide (c<b))then(bif((decide (0≤c))&&(decide (c<(a.length:Int))))then(nthK a (Int.toNat c) fun e=>aI .i64 e fun e=>G 103 [.int .i64 e,.sl 7 d] fun e=>uB e fun e f=>unNil f (bif e then(Kr c d)else(X a b (IntKind.i64.wrap (c+1)) d)))else none)else(Ko d))
def l262195_0g{R:Type}(G:ORC R)(k:Nat)(Ko:Cu R J84)(Kr:Cu R J102)(j:Nat):Cu R J110:=lup J110 (fun X=>b262195_0 G k X Ko Kr) j
def l262195_0{R:Type}(G:ORC R)(k:Nat)(a:LV)(b c:Int)(d:LV)(Ko:Cu R J84)(Kr:Cu R J102):OV R:=l262195_0g G k Ko Kr k a b c d
def L262195{R:Type}(G:ORC R)(k:Nat):Nat→St→(Ex→St→OV R)→OV R
 |0,S,K=>P262195_0h.mat S fun vs=>uc J110 (l262195_0g G k (koX J84 P262195_0x K) (koR J102 P262195_0r K) k) vs none
 |_,_,_=>none
def f262195{R:Type}(G:ORC R)(k:Nat)(a b:LV)(K:LV→OV R):OV R:=
 (l262195_0 G k a (a.length:Int) 0 b (fun a=>K [.int .i64 (-1)]) (fun a b=>K [.int .i64 a]))
abbrev g262195 {R:Type} (G:ORC R) (k:Nat):LV→(LV→OV R)→OV R:=gF J111 (f262195 G k)
theorem s262195{R:Type}{G:ORC R}{k:Nat}(hG:Sound Try.prog TAB G):TL 262195 (g262195 G k):=
 gG J111 (by kernel_rfl) (callF_sound (L:=L262195 G k) (f:=262195) TAB_chk MO hG Try.func51 (sg:=S262195) (by kernel_rfl) (by kernel_rfl) (las [0] (by kernel_rfl) ⟨loopIs J110 k (fun K X=>b262195_0 G k X (koX J84 P262195_0x K) (koR J102 P262195_0r K)) P262195_0h P262195_0x P262195_0r (by kernel_rfl) (by kernel_rfl) (by kernel_rfl) (fun K X=>by kernel_rfl) (fun S K=>by kernel_rfl),trivial⟩))
def maB(k:Nat)(G:ORC (List V)):ORC (List V):=fun f args K=>match f with
    |5=>g5 G k args K
    |6=>g6 G k args K
    |10=>g10 G k args K
    |13=>g13 G k args K
    |14=>g14 G k args K
    |15=>g15 G k args K
    |16=>g16 G k args K
    |22=>g22 G k args K
    |23=>g23 G k args K
    |24=>g24 G k args K
    |25=>g25 G k args K
    |27=>g27 G k args K
    |28=>g28 G k args K
    |29=>g29 G k args K
    |30=>g30 G k args K
    |31=>g31 G k args K
    |32=>g32 G k args K
    |33=>g33 G k args K
    |34=>g34 G k args K
    |35=>g35 G k args K
    |36=>g36 G k args K
    |37=>g37 G k args K
    |40=>g40 G k args K
    |41=>g41 G k args K
    |43=>g43 G k args K
    |44=>g44 G k args K
    |45=>g45 G k args K
    |46=>g46 G k args K
    |47=>g47 G k args K
    |48=>g48 G k args K
    |49=>g49 G k args K
    |50=>g50 G k args K
    |52=>g52 G k args K
    |53=>g53 G k args K
    |54=>g54 G k args K
    |55=>g55 G k args K
    |56=>g56 G k args K
    |57=>g57 G k args K
    |58=>g58 G k args K
    |59=>g59 G k args K
    |60=>g60 G k args K
    |61=>g61 G k args K
    |62=>g62 G k args K
    |63=>g63 G k args K
    |64=>g64 G k args K
    |65=>g65 G k args K
    |66=>g66 G k args K
    |67=>g67 G k args K
    |68=>g68 G k args K
    |69=>g69 G k args K
    |71=>g71 G k args K
    |72=>g72 G k args K
    |73=>g73 G k args K
    |76=>g76 G k args K
    |77=>g77 G k args K
    |78=>g78 G k args K
    |79=>g79 G k args K
    |88=>g88 G k args K
    |89=>g89 G k args K
    |90=>g90 G k args K
    |91=>g91 G k args K
    |92=>g92 G k args K
    |93=>g93 G k args K
    |94=>g94 G k args K
    |95=>g95 G k args K
    |96=>g96 G k args K
    |97=>g97 G k args K
    |98=>g98 G k args K
    |99=>g99 G k args K
    |101=>g101 G k args K
    |102=>g102 G k args K
    |103=>g103 G k args K
    |109=>g109 G k args K
    |110=>g110 G k args K
    |111=>g111 G k args K
    |112=>g112 G k args K
    |113=>g113 G k args K
    |114=>g114 G k args K
    |115=>g115 G k args K
    |65562=>g65562 G k args K
    |65578=>g65578 G k args K
    |65587=>g65587 G k args K
    |131098=>g131098 G k args K
    |131123=>g131123 G k args K
    |196634=>g196634 G k args K
    |196659=>g196659 G k args K
    |262195=>g262195 G k args K
    |_=>none
def ma(k:Nat):Nat→ORC (List V)
 |0=>fun _ _ _=>none
 |j+1=>fun f args K=>(maB k (ma k j) f args (@some (List V))).bind K
theorem ma_sound(k:Nat):∀j,Sound Try.prog TAB (ma k j)
 |0=>fun f args K r h=>by cases h
 |j+1=>fun f args K r h=>by
  have ih:=ma_sound k j
  have h:(maB k (ma k j) f args (@some (List V))).bind K=some r:=h
  cases hb:maB k (ma k j) f args (@some (List V))with
  |none=>rw[hb]at h;cases h
  |some o=>
  rw[hb]at h
  have key:∃o',CallOK Try.prog TAB.env f args o'∧some o'=some o:=by
   unfold maB at hb
   split at hb
   ·exact s5 ih args (@some (List V)) o hb
   ·exact s6 ih args (@some (List V)) o hb
   ·exact s10 ih args (@some (List V)) o hb
   ·exact s13 ih args (@some (List V)) o hb
   ·exact s14 ih args (@some (List V)) o hb
   ·exact s15 ih args (@some (List V)) o hb
   ·exact s16 ih args (@some (List V)) o hb
   ·exact s22 ih args (@some (List V)) o hb
   ·exact s23 ih args (@some (List V)) o hb
   ·exact s24 ih args (@some (List V)) o hb
   ·exact s25 ih args (@some (List V)) o hb
   ·exact s27 ih args (@some (List V)) o hb
   ·exact s28 ih args (@some (List V)) o hb
   ·exact s29 ih args (@some (List V)) o hb
   ·exact s30 ih args (@some (List V)) o hb
   ·exact s31 ih args (@some (List V)) o hb
   ·exact s32 ih args (@some (List V)) o hb
   ·exact s33 ih args (@some (List V)) o hb
   ·exact s34 ih args (@some (List V)) o hb
   ·exact s35 ih args (@some (List V)) o hb
   ·exact s36 ih args (@some (List V)) o hb
   ·exact s37 ih args (@some (List V)) o hb
   ·exact s40 ih args (@some (List V)) o hb
   ·exact s41 ih args (@some (List V)) o hb
   ·exact s43 ih args (@some (List V)) o hb
   ·exact s44 ih args (@some (List V)) o hb
   ·exact s45 ih args (@some (List V)) o hb
   ·exact s46 ih args (@some (List V)) o hb
   ·exact s47 ih args (@some (List V)) o hb
   ·exact s48 ih args (@some (List V)) o hb
   ·exact s49 ih args (@some (List V)) o hb
   ·exact s50 ih args (@some (List V)) o hb
   ·exact s52 ih args (@some (List V)) o hb
   ·exact s53 ih args (@some (List V)) o hb
   ·exact s54 ih args (@some (List V)) o hb
   ·exact s55 ih args (@some (List V)) o hb
   ·exact s56 ih args (@some (List V)) o hb
   ·exact s57 ih args (@some (List V)) o hb
   ·exact s58 ih args (@some (List V)) o hb
   ·exact s59 ih args (@some (List V)) o hb
   ·exact s60 ih args (@some (List V)) o hb
   ·exact s61 ih args (@some (List V)) o hb
   ·exact s62 ih args (@some (List V)) o hb
   ·exact s63 ih args (@some (List V)) o hb
   ·exact s64 ih args (@some (List V)) o hb
   ·exact s65 ih args (@some (List V)) o hb
   ·exact s66 ih args (@some (List V)) o hb
   ·exact s67 ih args (@some (List V)) o hb
   ·exact s68 ih args (@some (List V)) o hb
   ·exact s69 ih args (@some (List V)) o hb
   ·exact s71 ih args (@some (List V)) o hb
   ·exact s72 ih args (@some (List V)) o hb
   ·exact s73 ih args (@some (List V)) o hb
   ·exact s76 ih args (@some (List V)) o hb
   ·exact s77 ih args (@some (List V)) o hb
   ·exact s78 ih args (@some (List V)) o hb
   ·exact s79 ih args (@some (List V)) o hb
   ·exact s88 ih args (@some (List V)) o hb
   ·exact s89 ih args (@some (List V)) o hb
   ·exact s90 ih args (@some (List V)) o hb
   ·exact s91 ih args (@some (List V)) o hb
   ·exact s92 ih args (@some (List V)) o hb
   ·exact s93 ih args (@some (List V)) o hb
   ·exact s94 ih args (@some (List V)) o hb
   ·exact s95 ih args (@some (List V)) o hb
   ·exact s96 ih args (@some (List V)) o hb
   ·exact s97 ih args (@some (List V)) o hb
   ·exact s98 ih args (@some (List V)) o hb
   ·exact s99 ih args (@some (List V)) o hb
   ·exact s101 ih args (@some (List V)) o hb
   ·exact s102 ih args (@some (List V)) o hb
   ·exact s103 ih args (@some (List V)) o hb
   ·exact s109 ih args (@some (List V)) o hb
   ·exact s110 ih args (@some (List V)) o hb
   ·exact s111 ih args (@some (List V)) o hb
   ·exact s112 ih args (@some (List V)) o hb
   ·exact s113 ih args (@some (List V)) o hb
   ·exact s114 ih args (@some (List V)) o hb
   ·exact s115 ih args (@some (List V)) o hb
   ·exact s65562 ih args (@some (List V)) o hb
   ·exact s65578 ih args (@some (List V)) o hb
   ·exact s65587 ih args (@some (List V)) o hb
   ·exact s131098 ih args (@some (List V)) o hb
   ·exact s131123 ih args (@some (List V)) o hb
   ·exact s196634 ih args (@some (List V)) o hb
   ·exact s196659 ih args (@some (List V)) o hb
   ·exact s262195 ih args (@some (List V)) o hb
   ·cases hb
  obtain⟨o',h1,h2⟩:=key
  cases h2
  exact⟨o,h1,h⟩
theorem ma_U{k j:Nat}{f:FuncId}{args:List V}{Q:List V→Prop}(h:W Q (@some (List V)) (maB k (ma k j) f args (@some (List V)))):∃o,Q o∧∀K,ma k (j+1) f args K=K o:=by
 obtain⟨o,q,e⟩:=h
 exact⟨o,q,fun K=>by show(maB k (ma k j) f args (@some (List V))).bind K=_;rw[e];rfl⟩
theorem ma_W{k j:Nat}{f:FuncId}{args:List V}{Q:List V→Prop}{K:List V→Option (List V)}(h:W Q (@some (List V)) (maB k (ma k j) f args (@some (List V)))):W Q K (ma k (j+1) f args K):=by
 obtain⟨o,q,e⟩:=ma_U h
 exact⟨o,q,e K⟩
end Go.Proofs.Ytfkofdjpdbfjgaa.Vm
