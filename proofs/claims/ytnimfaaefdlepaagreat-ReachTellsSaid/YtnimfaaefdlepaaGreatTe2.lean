/- Functions of the program, told by the machine of values, and what they answer: a part. -/
import Derived.Test.YtnimfaaefdlepaaGreatTe1
import Derived.Test.YtnimfaaefdlepaaGreatTeV4
open Go Go.VM
set_option linter.unusedVariables false
set_option maxRecDepth 100000
set_option maxHeartbeats 4000000
namespace Go.Proofs.YtnimfaaefdlepaaGreat.Vm
def P16_2h:Pat:={tmps:=unds [pU,pU,pI,pS 3,pU,pU,pU,pI,pU,pI,pU,pU,pL,pI,pI] 16 (unds [.var .any .ro,pI,pI] 25 []),boxes:=nons [none,none,none,some B0] 55 []}
def P16_2x:Pat:={tmps:=unds [pU,pU,pI,pS 3,pU,pU,pU,pI,pU,pU,pU,pU,pL,pI,pI] 44 [],boxes:=nons [none,none,none,some B0] 55 []}
def P16_0h:Pat:={tmps:=unds [pU,pU,pI,pS 3,pU,pU,pU,pI,pU,pU,pU,pU,pL,pI,pI] 44 [],boxes:=nons [none,none,none,some B0] 55 []}
def P16_0x:Pat:={tmps:=unds [] 7 (unds [pI] 51 []),boxes:=nons [] 59 []}
def b16_2{R:Type}(G:ORC R)(k:Nat)(X:Cu R J21)(Ko:Cu R J20)(a b c:Int)(d:LV)(e f:Int)(g:V)(h i:Int)(l:ByteArray)(m n:Int)(o p q r s t:LV):OV R:=
 (bif(decide (i<h))then(V.asSl g fun u v=>bif(((u==4)&&(decide (0≤i)))&&(decide (i<(v.length:Int))))then(nthK v (Int.toNat i) fun u=>V.asAgg u fun u=>ce4 u fun u v w x=>aI .i64 u fun u=>aI .i64 v fun v=>aI .i64 w fun w=>V.asStr x fun w=>bif(u==20)then(bif(v==a)then(bif((decide (0≤c))&&(decide (c<(t.length:Int))))then(nthK t (Int.toNat c) fun u=>V.asSl u fun u v=>G 36 [.sl u v,.int .i64 i] fun u=>uI .i64 u fun u v=>unNil v (X a (IntKind.i64.wrap (b+u)) c d e f g h (IntKind.i64.wrap (i+1)) l m n o p q r s t))else none)else(X a b c d e f g h (IntKind.i64.wrap (i+1)) l m n o p q r s t))else(X a b c d e f g h (IntKind.i64.wrap (i+1)) l m n o p q r s t))else none)else(Ko a b d e f l m n o p q r s t))
def l16_2g{R:Type}(G:ORC R)(k:Nat)(Ko:Cu R J20)(j:Nat):Cu R J21:=lup J21 (fun X=>b16_2 G k X Ko) j
def l16_2{R:Type}(G:ORC R)(k:Nat)(a b c:Int)(d:LV)(e f:Int)(g:V)(h i:Int)(l:ByteArray)(m n:Int)(o p q r s t:LV)(Ko:Cu R J20):OV R:=l16_2g G k Ko k a b c d e f g h i l m n o p q r s t
def b16_0{R:Type}(G:ORC R)(k:Nat)(X:Cu R J20)(Ko:Cu R J5)(a b:Int)(c:LV)(d e:Int)(f:ByteArray)(g h:Int)(i l m n o p:LV):OV R:=
 (bif(decide (e<d))then(bif((decide (0≤e))&&(decide (e<(c.length:Int))))then(nthK c (Int.toNat e) fun q=>aI .i64 q fun q=>bif(decide (q<0))then(X a b c d (IntKind.i64.wrap (e+1)) f g h i l m n o p)else(bif(decide (q≥(p.length:Int)))then(X a b c d (IntKind.i64.wrap (e+1)) f g h i l m n o p)else(bif((decide (0≤q))&&(decide (q<(p.length:Int))))then(nthK p (Int.toNat q) fun r=>V.asSl r fun r s=>l16_2 G k a b q c d e (.sl r s) (s.length:Int) 0 f g h i l m n o p (fun a c d e f g h i l m n o p q=>X a c d e (IntKind.i64.wrap (f+1)) g h i l m n o p q))else none)))else none)else(Ko b))
def l16_0g{R:Type}(G:ORC R)(k:Nat)(Ko:Cu R J5)(j:Nat):Cu R J20:=lup J20 (fun X=>b16_0 G k X Ko) j
def l16_0{R:Type}(G:ORC R)(k:Nat)(a b:Int)(c:LV)(d e:Int)(f:ByteArray)(g h:Int)(i l m n o p:LV)(Ko:Cu R J5):OV R:=l16_0g G k Ko k a b c d e f g h i l m n o p
def L16{R:Type}(G:ORC R)(k:Nat):Nat→St→(Ex→St→OV R)→OV R
 |2,S,K=>P16_2h.mat S fun vs=>uc J21 (l16_2g G k (koX J20 P16_2x K) k) vs none
 |0,S,K=>P16_0h.mat S fun vs=>uc J20 (l16_0g G k (koX J5 P16_0x K) k) vs none
 |_,_,_=>none
def f16{R:Type}(G:ORC R)(k:Nat)(a:ByteArray)(b c:Int)(d e f g h i l:LV)(m:Int)(K:LV→OV R):OV R:=
 (l16_0 G k m 0 l (l.length:Int) 0 a b c d e f g h i (fun a=>K [.int .i64 a]))
abbrev g16 {R:Type} (G:ORC R) (k:Nat):LV→(LV→OV R)→OV R:=gF J22 (f16 G k)
theorem s16{R:Type}{G:ORC R}{k:Nat}(hG:Sound Tryz.prog TAB G):TL 16 (g16 G k):=
 gG J22 (by kernel_rfl) (callF_sound (L:=L16 G k) (f:=16) TAB_chk MO hG Tryz.func16 (sg:=S16) (by kernel_rfl) (by kernel_rfl) (las [0,2] (by kernel_rfl) ⟨loopIs J20 k (fun K X=>b16_0 G k X (koX J5 P16_0x K)) P16_0h P16_0x default (by kernel_rfl) (by kernel_rfl) (by kernel_rfl) (fun K X=>by kernel_rfl) (fun S K=>by kernel_rfl),loopIs J21 k (fun K X=>b16_2 G k X (koX J20 P16_2x K)) P16_2h P16_2x default (by kernel_rfl) (by kernel_rfl) (by kernel_rfl) (fun K X=>by kernel_rfl) (fun S K=>by kernel_rfl),trivial⟩))
def P37_0h:Pat:={tmps:=unds [.var (.sl 4) .ro,pI,pU,pU,pU,pI,pI] 36 [],boxes:=nons [] 43 []}
def P37_0x:Pat:={tmps:=unds [] 5 (unds [pI] 37 []),boxes:=nons [] 43 []}
def b37_0{R:Type}(G:ORC R)(k:Nat)(X:Cu R J62)(Ko:Cu R J5)(a:LV)(b c d:Int):OV R:=
 (bif(decide (d<b))then(bif((decide (0≤d))&&(decide (d<(a.length:Int))))then(nthK a (Int.toNat d) fun e=>ca4 e fun e f g h=>aI .i64 e fun e=>bif(e==25)then(bif((decide (0≤d))&&(decide (d<(a.length:Int))))then(nthK a (Int.toNat d) fun e=>ca4 e fun e f g h=>aI .i64 f fun e=>bif(decide (b<e))then(bif((decide (0≤d))&&(decide (d<(a.length:Int))))then(nthK a (Int.toNat d) fun e=>ca4 e fun e f g h=>aI .i64 g fun e=>X a b (IntKind.i64.wrap (c*e)) (IntKind.i64.wrap (d+1)))else none)else(X a b c (IntKind.i64.wrap (d+1))))else none)else(X a b c (IntKind.i64.wrap (d+1))))else none)else(Ko c))
def l37_0g{R:Type}(G:ORC R)(k:Nat)(Ko:Cu R J5)(j:Nat):Cu R J62:=lup J62 (fun X=>b37_0 G k X Ko) j
def l37_0{R:Type}(G:ORC R)(k:Nat)(a:LV)(b c d:Int)(Ko:Cu R J5):OV R:=l37_0g G k Ko k a b c d
def L37{R:Type}(G:ORC R)(k:Nat):Nat→St→(Ex→St→OV R)→OV R
 |0,S,K=>P37_0h.mat S fun vs=>uc J62 (l37_0g G k (koX J5 P37_0x K) k) vs none
 |_,_,_=>none
def f37{R:Type}(G:ORC R)(k:Nat)(a:LV)(b:Int)(K:LV→OV R):OV R:=
 (bif(decide (b<0))then(K [.int .i64 0])else(bif(decide (b≥(a.length:Int)))then(K [.int .i64 0])else(l37_0 G k a b 1 0 (fun a=>K [.int .i64 a]))))
abbrev g37 {R:Type} (G:ORC R) (k:Nat):LV→(LV→OV R)→OV R:=gF J61 (f37 G k)
theorem s37{R:Type}{G:ORC R}{k:Nat}(hG:Sound Tryz.prog TAB G):TL 37 (g37 G k):=
 gG J61 (by kernel_rfl) (callF_sound (L:=L37 G k) (f:=37) TAB_chk MO hG Tryz.func37 (sg:=S37) (by kernel_rfl) (by kernel_rfl) (las [0] (by kernel_rfl) ⟨loopIs J62 k (fun K X=>b37_0 G k X (koX J5 P37_0x K)) P37_0h P37_0x default (by kernel_rfl) (by kernel_rfl) (by kernel_rfl) (fun K X=>by kernel_rfl) (fun S K=>by kernel_rfl),trivial⟩))
def P17_2h:Pat:={tmps:=unds [pU,pL,pI,pS 3,pU,pU,pU,pI,pI,.var .any .ro,pI] 56 [],boxes:=nons [none,none,none,some B0] 63 []}
def P17_2x:Pat:={tmps:=unds [pU,pL,pI,pS 3,pU,pU,pU,pI,pI] 58 [],boxes:=nons [none,none,none,some B0] 63 []}
def P17_0h:Pat:={tmps:=unds [pU,pL,pI,pS 3,pU,pU,pU,pI,pI] 58 [],boxes:=nons [none,none,none,some B0] 63 []}
def P17_0x:Pat:={tmps:=unds [] 7 (unds [pI] 59 []),boxes:=nons [] 67 []}
def b17_2{R:Type}(G:ORC R)(k:Nat)(X:Cu R J24)(Ko:Cu R J23)(a:LV)(b c d:Int)(e:V)(f:Int)(g:ByteArray)(h i:Int)(l m n o p q:LV):OV R:=
 (V.asSl e fun r s=>bif(decide (f<(s.length:Int)))then(V.asSl e fun r s=>bif(((r==4)&&(decide (0≤f)))&&(decide (f<(s.length:Int))))then(nthK s (Int.toNat f) fun r=>ca4 r fun r s t u=>aI .i64 r fun r=>bif(r==20)then(V.asSl e fun r s=>bif(((r==4)&&(decide (0≤f)))&&(decide (f<(s.length:Int))))then(nthK s (Int.toNat f) fun r=>ca4 r fun r s t u=>aI .i64 s fun r=>bif(r==b)then(G 37 [e,.int .i64 f] fun r=>uI .i64 r fun r s=>unNil s (X a b (IntKind.i64.wrap (c+r)) d e (IntKind.i64.wrap (f+1)) g h i l m n o p q))else(X a b c d e (IntKind.i64.wrap (f+1)) g h i l m n o p q))else none)else(X a b c d e (IntKind.i64.wrap (f+1)) g h i l m n o p q))else none)else(Ko a b c d g h i l m n o p q))
def l17_2g{R:Type}(G:ORC R)(k:Nat)(Ko:Cu R J23)(j:Nat):Cu R J24:=lup J24 (fun X=>b17_2 G k X Ko) j
def l17_2{R:Type}(G:ORC R)(k:Nat)(a:LV)(b c d:Int)(e:V)(f:Int)(g:ByteArray)(h i:Int)(l m n o p q:LV)(Ko:Cu R J23):OV R:=l17_2g G k Ko k a b c d e f g h i l m n o p q
def b17_0{R:Type}(G:ORC R)(k:Nat)(X:Cu R J23)(Ko:Cu R J5)(a:LV)(b c d:Int)(e:ByteArray)(f g:Int)(h i l m n o:LV):OV R:=
 (bif(decide (d<(a.length:Int)))then(bif((decide (0≤d))&&(decide (d<(a.length:Int))))then(nthK a (Int.toNat d) fun p=>aI .i64 p fun p=>bif(decide (p<0))then(X a b c (IntKind.i64.wrap (d+1)) e f g h i l m n o)else(bif((decide (0≤d))&&(decide (d<(a.length:Int))))then(nthK a (Int.toNat d) fun p=>aI .i64 p fun p=>bif(decide (p≥(o.length:Int)))then(X a b c (IntKind.i64.wrap (d+1)) e f g h i l m n o)else(bif((decide (0≤d))&&(decide (d<(a.length:Int))))then(nthK a (Int.toNat d) fun p=>aI .i64 p fun p=>bif((decide (0≤p))&&(decide (p<(o.length:Int))))then(nthK o (Int.toNat p) fun p=>V.asSl p fun p q=>l17_2 G k a b c d (.sl p q) 0 e f g h i l m n o (fun a b d e f g h i l m n o p=>X a b d (IntKind.i64.wrap (e+1)) f g h i l m n o p))else none)else none))else none))else none)else(Ko c))
def l17_0g{R:Type}(G:ORC R)(k:Nat)(Ko:Cu R J5)(j:Nat):Cu R J23:=lup J23 (fun X=>b17_0 G k X Ko) j
def l17_0{R:Type}(G:ORC R)(k:Nat)(a:LV)(b c d:Int)(e:ByteArray)(f g:Int)(h i l m n o:LV)(Ko:Cu R J5):OV R:=l17_0g G k Ko k a b c d e f g h i l m n o
def L17{R:Type}(G:ORC R)(k:Nat):Nat→St→(Ex→St→OV R)→OV R
 |2,S,K=>P17_2h.mat S fun vs=>uc J24 (l17_2g G k (koX J23 P17_2x K) k) vs none
 |0,S,K=>P17_0h.mat S fun vs=>uc J23 (l17_0g G k (koX J5 P17_0x K) k) vs none
 |_,_,_=>none
def f17{R:Type}(G:ORC R)(k:Nat)(a:ByteArray)(b c:Int)(d e f g h i l:LV)(m:Int)(K:LV→OV R):OV R:=
 (l17_0 G k l m 0 0 a b c d e f g h i (fun a=>K [.int .i64 a]))
abbrev g17 {R:Type} (G:ORC R) (k:Nat):LV→(LV→OV R)→OV R:=gF J22 (f17 G k)
theorem s17{R:Type}{G:ORC R}{k:Nat}(hG:Sound Tryz.prog TAB G):TL 17 (g17 G k):=
 gG J22 (by kernel_rfl) (callF_sound (L:=L17 G k) (f:=17) TAB_chk MO hG Tryz.func17 (sg:=S17) (by kernel_rfl) (by kernel_rfl) (las [0,2] (by kernel_rfl) ⟨loopIs J23 k (fun K X=>b17_0 G k X (koX J5 P17_0x K)) P17_0h P17_0x default (by kernel_rfl) (by kernel_rfl) (by kernel_rfl) (fun K X=>by kernel_rfl) (fun S K=>by kernel_rfl),loopIs J24 k (fun K X=>b17_2 G k X (koX J23 P17_2x K)) P17_2h P17_2x default (by kernel_rfl) (by kernel_rfl) (by kernel_rfl) (fun K X=>by kernel_rfl) (fun S K=>by kernel_rfl),trivial⟩))
def P38_2h:Pat:={tmps:=unds [pU,pU,pU,pI,pI,.var (.sl 1) (.own true),.var (.sl 1) (.own true),pI,pS 8,.var (.sl 4) .ro,pI,pI] 54 [],boxes:=nons [] 8 (nons [some B14] 57 [])}
def P38_2x:Pat:={tmps:=unds [pU,pU,pU,pI,pI,.var (.sl 1) (.own true),.var (.sl 1) (.own true),pU,pS 8,.var (.sl 4) .ro,pI,pI] 54 [],boxes:=nons [] 8 (nons [some B14] 57 [])}
def P38_0h:Pat:={tmps:=unds [pU,pU,pU,pI,pI,.var (.sl 1) (.own true),.var (.sl 1) (.own true),pU,pU,.var (.sl 4) .ro,pI,pI] 54 [],boxes:=nons [] 66 []}
def P38_0x:Pat:={tmps:=unds [pU,pU,pU,pI] 62 [],boxes:=nons [] 66 []}
def b38_2{R:Type}(G:ORC R)(k:Nat)(X:Cu R J64)(Ko:Cu R J63)(a b:Int)(c d:LV)(e:Int)(f:LV)(g h i l m:Int)(n:ByteArray):OV R:=
 (bif(decide ((c.length:Int)>0))then(bif((decide (0≤(IntKind.i64.wrap ((c.length:Int)-1))))&&(decide ((IntKind.i64.wrap ((c.length:Int)-1))<(c.length:Int))))then(nthK c (Int.toNat (IntKind.i64.wrap ((c.length:Int)-1))) fun o=>aI .i64 o fun o=>bif(decide (o≤e))then(bif((decide (0≤(IntKind.i64.wrap ((d.length:Int)-1))))&&(decide ((IntKind.i64.wrap ((d.length:Int)-1))<(d.length:Int))))then(nthK d (Int.toNat (IntKind.i64.wrap ((d.length:Int)-1))) fun o=>aI .i64 o fun o=>bif((decide (0≤(IntKind.i64.wrap ((c.length:Int)-1))))&&(decide ((IntKind.i64.wrap ((c.length:Int)-1))≤(c.length:Int))))then(bif((decide (0≤(IntKind.i64.wrap ((d.length:Int)-1))))&&(decide ((IntKind.i64.wrap ((d.length:Int)-1))≤(d.length:Int))))then(X a o (List.take (Int.toNat (IntKind.i64.wrap ((c.length:Int)-1))) c) (List.take (Int.toNat (IntKind.i64.wrap ((d.length:Int)-1))) d) e f g h i l m n)else none)else none)else none)else(Ko a b c d f g h i l m n))else none)else(Ko a b c d f g h i l m n))
def l38_2g{R:Type}(G:ORC R)(k:Nat)(Ko:Cu R J63)(j:Nat):Cu R J64:=lup J64 (fun X=>b38_2 G k X Ko) j
def l38_2{R:Type}(G:ORC R)(k:Nat)(a b:Int)(c d:LV)(e:Int)(f:LV)(g h i l m:Int)(n:ByteArray)(Ko:Cu R J63):OV R:=l38_2g G k Ko k a b c d e f g h i l m n
def b38_0{R:Type}(G:ORC R)(k:Nat)(X:Cu R J65)(Ko:Cu R J5)(a b:Int)(c d e:LV)(f g:Int):OV R:=
 (bif(decide (g<f))then(bif((decide (0≤g))&&(decide (g<(e.length:Int))))then(nthK e (Int.toNat g) fun h=>V.asAgg h fun h=>ce4 h fun h i l m=>aI .i64 h fun h=>aI .i64 i fun i=>aI .i64 l fun l=>V.asStr m fun m=>l38_2 G k a b c d g e f g h i l m (fun b c d e f g h i l m n=>bif(i==25)then(bif(decide (List.length d+1≤1073741824))then(bif(decide (List.length e+1≤1073741824))then(X (IntKind.i64.wrap (b+c)) (IntKind.i64.wrap (c*m)) (d++[.int .i64 l]) (e++[.int .i64 c]) f g (IntKind.i64.wrap (h+1)))else none)else none)else(X (IntKind.i64.wrap (b+c)) c d e f g (IntKind.i64.wrap (h+1)))))else none)else(Ko a))
def l38_0g{R:Type}(G:ORC R)(k:Nat)(Ko:Cu R J5)(j:Nat):Cu R J65:=lup J65 (fun X=>b38_0 G k X Ko) j
def l38_0{R:Type}(G:ORC R)(k:Nat)(a b:Int)(c d e:LV)(f g:Int)(Ko:Cu R J5):OV R:=l38_0g G k Ko k a b c d e f g
def L38{R:Type}(G:ORC R)(k:Nat):Nat→St→(Ex→St→OV R)→OV R
 |2,S,K=>P38_2h.mat S fun vs=>uc J64 (l38_2g G k (koX J63 P38_2x K) k) vs none
 |0,S,K=>P38_0h.mat S fun vs=>uc J65 (l38_0g G k (koX J5 P38_0x K) k) vs none
 |_,_,_=>none
def f38{R:Type}(G:ORC R)(k:Nat)(a:LV)(K:LV→OV R):OV R:=
 (l38_0 G k 0 1 [] [] a (a.length:Int) 0 (fun a=>K [.int .i64 a]))
abbrev g38 {R:Type} (G:ORC R) (k:Nat):LV→(LV→OV R)→OV R:=gF J66 (f38 G k)
theorem s38{R:Type}{G:ORC R}{k:Nat}(hG:Sound Tryz.prog TAB G):TL 38 (g38 G k):=
 gG J66 (by kernel_rfl) (callF_sound (L:=L38 G k) (f:=38) TAB_chk MO hG Tryz.func38 (sg:=S38) (by kernel_rfl) (by kernel_rfl) (las [0,2] (by kernel_rfl) ⟨loopIs J65 k (fun K X=>b38_0 G k X (koX J5 P38_0x K)) P38_0h P38_0x default (by kernel_rfl) (by kernel_rfl) (by kernel_rfl) (fun K X=>by kernel_rfl) (fun S K=>by kernel_rfl),loopIs J64 k (fun K X=>b38_2 G k X (koX J63 P38_2x K)) P38_2h P38_2x default (by kernel_rfl) (by kernel_rfl) (by kernel_rfl) (fun K X=>by kernel_rfl) (fun S K=>by kernel_rfl),trivial⟩))
def P39_0h:Pat:={tmps:=unds [.var (.sl 4) .ro,pU,pU,pI,pI] 12 [],boxes:=nons [] 17 []}
def P39_0x:Pat:={tmps:=unds [pU,pU,pU,pI] 13 [],boxes:=nons [] 17 []}
def b39_0{R:Type}(G:ORC R)(k:Nat)(X:Cu R J67)(Ko:Cu R J5)(a:LV)(b c:Int):OV R:=
 (bif(decide (c<(a.length:Int)))then(G 37 [.sl 4 a,.int .i64 c] fun d=>uI .i64 d fun d e=>unNil e (X a (IntKind.i64.wrap (b+d)) (IntKind.i64.wrap (c+1))))else(Ko b))
def l39_0g{R:Type}(G:ORC R)(k:Nat)(Ko:Cu R J5)(j:Nat):Cu R J67:=lup J67 (fun X=>b39_0 G k X Ko) j
def l39_0{R:Type}(G:ORC R)(k:Nat)(a:LV)(b c:Int)(Ko:Cu R J5):OV R:=l39_0g G k Ko k a b c
def L39{R:Type}(G:ORC R)(k:Nat):Nat→St→(Ex→St→OV R)→OV R
 |0,S,K=>P39_0h.mat S fun vs=>uc J67 (l39_0g G k (koX J5 P39_0x K) k) vs none
 |_,_,_=>none
def f39{R:Type}(G:ORC R)(k:Nat)(a:LV)(K:LV→OV R):OV R:=
 (l39_0 G k a 0 0 (fun a=>K [.int .i64 a]))
abbrev g39 {R:Type} (G:ORC R) (k:Nat):LV→(LV→OV R)→OV R:=gF J66 (f39 G k)
theorem s39{R:Type}{G:ORC R}{k:Nat}(hG:Sound Tryz.prog TAB G):TL 39 (g39 G k):=
 gG J66 (by kernel_rfl) (callF_sound (L:=L39 G k) (f:=39) TAB_chk MO hG Tryz.func39 (sg:=S39) (by kernel_rfl) (by kernel_rfl) (las [0] (by kernel_rfl) ⟨loopIs J67 k (fun K X=>b39_0 G k X (koX J5 P39_0x K)) P39_0h P39_0x default (by kernel_rfl) (by kernel_rfl) (by kernel_rfl) (fun K X=>by kernel_rfl) (fun S K=>by kernel_rfl),trivial⟩))
def P18_0h:Pat:={tmps:=unds [pU,pS 1,pU,pI,pU,pU,pU,pL,pI,pI] 16 [],boxes:=nons [none,some B0] 24 []}
def P18_0x:Pat:={tmps:=unds [pU,pS 1,pU,pI] 22 [],boxes:=nons [none,some B0] 24 []}
def b18_0{R:Type}(G:ORC R)(k:Nat)(X:Cu R J26)(Ko:Cu R J25)(a:Int)(b:LV)(c d:Int)(e:ByteArray)(f g:Int)(h i l m n o:LV):OV R:=
 (bif(decide (d<c))then(bif((decide (0≤d))&&(decide (d<(b.length:Int))))then(nthK b (Int.toNat d) fun p=>V.asSl p fun p q=>G 38 [.sl p q] fun p=>uI .i64 p fun p q=>unNil q (X (IntKind.i64.wrap (a+(bif(decide (g<p))then g else p))) b c (IntKind.i64.wrap (d+1)) e f g h i l m n o))else none)else(Ko a e f g h i l m n o))
def l18_0g{R:Type}(G:ORC R)(k:Nat)(Ko:Cu R J25)(j:Nat):Cu R J26:=lup J26 (fun X=>b18_0 G k X Ko) j
def l18_0{R:Type}(G:ORC R)(k:Nat)(a:Int)(b:LV)(c d:Int)(e:ByteArray)(f g:Int)(h i l m n o:LV)(Ko:Cu R J25):OV R:=l18_0g G k Ko k a b c d e f g h i l m n o
def L18{R:Type}(G:ORC R)(k:Nat):Nat→St→(Ex→St→OV R)→OV R
 |0,S,K=>P18_0h.mat S fun vs=>uc J26 (l18_0g G k (koX J25 P18_0x K) k) vs none
 |_,_,_=>none
def f18{R:Type}(G:ORC R)(k:Nat)(a:ByteArray)(b c:Int)(d e f g h i:LV)(K:LV→OV R):OV R:=
 (l18_0 G k 1 i (i.length:Int) 0 a b c d e f g h i (fun a b c d e b f d e b=>K [.int .i64 (IntKind.i64.wrap ((IntKind.i64.wrap (c+1))*a))]))
abbrev g18 {R:Type} (G:ORC R) (k:Nat):LV→(LV→OV R)→OV R:=gF J13 (f18 G k)
theorem s18{R:Type}{G:ORC R}{k:Nat}(hG:Sound Tryz.prog TAB G):TL 18 (g18 G k):=
 gG J13 (by kernel_rfl) (callF_sound (L:=L18 G k) (f:=18) TAB_chk MO hG Tryz.func18 (sg:=S18) (by kernel_rfl) (by kernel_rfl) (las [0] (by kernel_rfl) ⟨loopIs J26 k (fun K X=>b18_0 G k X (koX J25 P18_0x K)) P18_0h P18_0x default (by kernel_rfl) (by kernel_rfl) (by kernel_rfl) (fun K X=>by kernel_rfl) (fun S K=>by kernel_rfl),trivial⟩))
def P19_0h:Pat:={tmps:=unds [pU,pS 1,pU,pI,pI] 23 [],boxes:=nons [none,some B0] 26 []}
def P19_0x:Pat:={tmps:=unds [pU,pS 1,pU,pI] 24 [],boxes:=nons [none,some B0] 26 []}
def b19_0{R:Type}(G:ORC R)(k:Nat)(X:Cu R J27)(Ko:Cu R J25)(a b:Int)(c:ByteArray)(d e:Int)(f g h i l m:LV):OV R:=
 (bif(decide (b<(m.length:Int)))then(bif((decide (0≤b))&&(decide (b<(m.length:Int))))then(nthK m (Int.toNat b) fun n=>V.asSl n fun n o=>G 39 [.sl n o] fun n=>uI .i64 n fun n o=>unNil o (X (IntKind.i64.wrap (a+(bif(decide (n<e))then n else e))) (IntKind.i64.wrap (b+1)) c d e f g h i l m))else none)else(Ko a c d e f g h i l m))
def l19_0g{R:Type}(G:ORC R)(k:Nat)(Ko:Cu R J25)(j:Nat):Cu R J27:=lup J27 (fun X=>b19_0 G k X Ko) j
def l19_0{R:Type}(G:ORC R)(k:Nat)(a b:Int)(c:ByteArray)(d e:Int)(f g h i l m:LV)(Ko:Cu R J25):OV R:=l19_0g G k Ko k a b c d e f g h i l m
def L19{R:Type}(G:ORC R)(k:Nat):Nat→St→(Ex→St→OV R)→OV R
 |0,S,K=>P19_0h.mat S fun vs=>uc J27 (l19_0g G k (koX J25 P19_0x K) k) vs none
 |_,_,_=>none
def f19{R:Type}(G:ORC R)(k:Nat)(a:ByteArray)(b c:Int)(d e f g h i:LV)(K:LV→OV R):OV R:=
 (l19_0 G k 1 0 a b c d e f g h i (fun a b c d e b f d e b=>K [.int .i64 (IntKind.i64.wrap ((IntKind.i64.wrap (c+1))*a))]))
abbrev g19 {R:Type} (G:ORC R) (k:Nat):LV→(LV→OV R)→OV R:=gF J13 (f19 G k)
theorem s19{R:Type}{G:ORC R}{k:Nat}(hG:Sound Tryz.prog TAB G):TL 19 (g19 G k):=
 gG J13 (by kernel_rfl) (callF_sound (L:=L19 G k) (f:=19) TAB_chk MO hG Tryz.func19 (sg:=S19) (by kernel_rfl) (by kernel_rfl) (las [0] (by kernel_rfl) ⟨loopIs J27 k (fun K X=>b19_0 G k X (koX J25 P19_0x K)) P19_0h P19_0x default (by kernel_rfl) (by kernel_rfl) (by kernel_rfl) (fun K X=>by kernel_rfl) (fun S K=>by kernel_rfl),trivial⟩))
def f114{R:Type}(G:ORC R)(k:Nat)(a b c d e f:LV)(K:LV→OV R):OV R:=
 (bif((b.length:Int)==0)then(bif(decide (List.length a+1≤1073741824))then(K [.sl 4 (a++[.agg [.int .i64 1,.int .i64 0,.int .i64 0,.str ⟨#[]⟩]])])else none)else(bif(decide (0<(b.length:Int)))then(nthK b 0 fun b=>V.asAgg b fun b=>G 92 [.sl 4 a,.agg b,.agg [.sl 1 c,.sl 1 d,.sl 1 e,.sl 7 f]] fun a=>uL 4 a fun a b=>unNil b (K [.sl 4 a]))else none))
abbrev g114 {R:Type} (G:ORC R) (k:Nat):LV→(LV→OV R)→OV R:=gF J138 (f114 G k)
theorem s114{R:Type}{G:ORC R}{k:Nat}(hG:Sound Tryz.prog TAB G):TL 114 (g114 G k):=
 gG J138 (by kernel_rfl) (callF_sound (L:=fun _ _ _=>none) (f:=114) TAB_chk MO hG Tryz.func114 (sg:=S114) (by kernel_rfl) (by kernel_rfl) (las [] (by kernel_rfl) trivial))
def f111{R:Type}(G:ORC R)(k:Nat)(a:LV)(b:Int)(c d:ByteArray)(e:LV)(f:Int)(g h:LV)(i:Int)(i l m n:LV)(K:LV→OV R):OV R:=
 (bif(b==1)then(G 114 [.sl 4 a,.sl 5 e,.agg [.sl 1 i,.sl 1 l,.sl 1 m,.sl 7 n]] fun o=>uL 4 o fun o p=>unNil p (G 102 [.sl 1 i,.str c] fun p=>uI .i64 p fun p q=>unNil q (bif(decide (List.length o+1≤1073741824))then(K [.sl 4 (o++[.agg [.int .i64 18,.int .i64 p,.int .i64 0,.str ⟨#[]⟩]])])else none)))else(bif(b==2)then(G 114 [.sl 4 a,.sl 5 e,.agg [.sl 1 i,.sl 1 l,.sl 1 m,.sl 7 n]] fun o=>uL 4 o fun o p=>unNil p (bif(decide (List.length o+1≤1073741824))then(K [.sl 4 (o++[.agg [.int .i64 19,.int .i64 0,.int .i64 0,.str d]])])else none))else(bif(b==3)then(G 114 [.sl 4 a,.sl 5 e,.agg [.sl 1 i,.sl 1 l,.sl 1 m,.sl 7 n]] fun o=>uL 4 o fun o p=>unNil p (G 102 [.sl 1 l,.str c] fun p=>uI .i64 p fun p q=>unNil q (bif(decide (List.length o+1≤1073741824))then(K [.sl 4 (o++[.agg [.int .i64 20,.int .i64 p,.int .i64 0,.str d]])])else none)))else(bif(b==4)then(G 114 [.sl 4 a,.sl 5 e,.agg [.sl 1 i,.sl 1 l,.sl 1 m,.sl 7 n]] fun d=>uL 4 d fun d o=>unNil o (G 102 [.sl 1 m,.str c] fun o=>uI .i64 o fun o p=>unNil p (bif(decide (List.length d+1≤1073741824))then(K [.sl 4 (d++[.agg [.int .i64 21,.int .i64 o,.int .i64 0,.str ⟨#[]⟩]])])else none)))else(bif(b==5)then(G 102 [.sl 1 m,.str c] fun c=>uI .i64 c fun c d=>unNil d (bif(decide (List.length a+1≤1073741824))then(K [.sl 4 (a++[.agg [.int .i64 22,.int .i64 c,.int .i64 0,.str ⟨#[]⟩]])])else none))else(bif(b==7)then(bif(decide (List.length a+1≤1073741824))then(G 101 [.sl 4 (a++[.agg [.int .i64 25,.int .i64 0,.int .i64 f,.str ⟨#[]⟩]]),.sl 8 g,.agg [.sl 1 i,.sl 1 l,.sl 1 m,.sl 7 n]] fun b=>uL 4 b fun b c=>unNil c (bif(decide (List.length b+1≤1073741824))then(bif((decide (0≤(a.length:Int)))&&(decide ((a.length:Int)<((List.length (b++[.agg [.int .i64 26,.int .i64 (a.length:Int),.int .i64 0,.str ⟨#[]⟩]]):Nat):Int))))then(nthK (b++[.agg [.int .i64 26,.int .i64 (a.length:Int),.int .i64 0,.str ⟨#[]⟩]]) (Int.toNat (a.length:Int)) fun c=>ca4 c fun c d f o=>K [.sl 4 (List.set (b++[.agg [.int .i64 26,.int .i64 (a.length:Int),.int .i64 0,.str ⟨#[]⟩]]) (Int.toNat (a.length:Int)) (.agg [c,.int .i64 ((List.length (b++[.agg [.int .i64 26,.int .i64 (a.length:Int),.int .i64 0,.str ⟨#[]⟩]]):Nat):Int),f,o]))])else none)else none))else none)else(bif(decide (0<(e.length:Int)))then(nthK e 0 fun b=>V.asAgg b fun b=>G 92 [.sl 4 a,.agg b,.agg [.sl 1 i,.sl 1 l,.sl 1 m,.sl 7 n]] fun a=>uL 4 a fun a b=>unNil b (bif(decide (List.length a+1≤1073741824))then(G 101 [.sl 4 (a++[.agg [.int .i64 24,.int .i64 0,.int .i64 0,.str ⟨#[]⟩]]),.sl 8 g,.agg [.sl 1 i,.sl 1 l,.sl 1 m,.sl 7 n]] fun b=>uL 4 b fun b c=>unNil c (bif(decide ((h.length:Int)>0))then(bif(decide (List.length b+1≤1073741824))then(bif((decide (0≤(a.length:Int)))&&(decide ((a.length:Int)<((List.length (b++[.agg [.int .i64 23,.int .i64 0,.int .i64 0,.str ⟨#[]⟩]]):Nat):Int))))then(nthK (b++[.agg [.int .i64 23,.int .i64 0,.int .i64 0,.str ⟨#[]⟩]]) (Int.toNat (a.length:Int)) fun c=>ca4 c fun c d e f=>G 101 [.sl 4 (List.set (b++[.agg [.int .i64 23,.int .i64 0,.int .i64 0,.str ⟨#[]⟩]]) (Int.toNat (a.length:Int)) (.agg [c,.int .i64 ((List.length (b++[.agg [.int .i64 23,.int .i64 0,.int .i64 0,.str ⟨#[]⟩]]):Nat):Int),e,f])),.sl 8 h,.agg [.sl 1 i,.sl 1 l,.sl 1 m,.sl 7 n]] fun c=>uL 4 c fun c d=>unNil d (bif((decide (0≤(b.length:Int)))&&(decide ((b.length:Int)<(c.length:Int))))then(nthK c (Int.toNat (b.length:Int)) fun d=>ca4 d fun d e f g=>K [.sl 4 (List.set c (Int.toNat (b.length:Int)) (.agg [d,.int .i64 (c.length:Int),f,g]))])else none))else none)else none)else(bif((decide (0≤(a.length:Int)))&&(decide ((a.length:Int)<(b.length:Int))))then(nthK b (Int.toNat (a.length:Int)) fun c=>ca4 c fun c d e f=>K [.sl 4 (List.set b (Int.toNat (a.length:Int)) (.agg [c,.int .i64 (b.length:Int),e,f]))])else none)))else none))else none)))))))
abbrev g111 {R:Type} (G:ORC R) (k:Nat):LV→(LV→OV R)→OV R:=gF J136 (f111 G k)
theorem s111{R:Type}{G:ORC R}{k:Nat}(hG:Sound Tryz.prog TAB G):TL 111 (g111 G k):=
 gG J136 (by kernel_rfl) (callF_sound (L:=fun _ _ _=>none) (f:=111) TAB_chk MO hG Tryz.func111 (sg:=S111) (by kernel_rfl) (by kernel_rfl) (las [] (by kernel_rfl) trivial))
def P101_0h:Pat:={tmps:=unds [.var (.sl 4) (.own true),.var (.sl 8) .ro,pU,pU,pU,pS 5,pU,pI] 14 [],boxes:=nons [] 5 (nons [some B25] 16 [])}
def P101_0x:Pat:={tmps:=unds [.var (.sl 4) (.own true)] 21 [],boxes:=nons [] 22 []}
def b101_0{R:Type}(G:ORC R)(k:Nat)(X:Cu R J131)(Ko:Cu R J66)(a b:LV)(c:Int)(d e f g:LV):OV R:=
 (bif(decide (c<(b.length:Int)))then(bif((decide (0≤c))&&(decide (c<(b.length:Int))))then(nthK b (Int.toNat c) fun h=>V.asAgg h fun h=>G 111 [.sl 4 a,.agg h,.agg [.sl 1 d,.sl 1 e,.sl 1 f,.sl 7 g]] fun h=>uL 4 h fun h i=>unNil i (X h b (IntKind.i64.wrap (c+1)) d e f g))else none)else(Ko a))
def l101_0g{R:Type}(G:ORC R)(k:Nat)(Ko:Cu R J66)(j:Nat):Cu R J131:=lup J131 (fun X=>b101_0 G k X Ko) j
def l101_0{R:Type}(G:ORC R)(k:Nat)(a b:LV)(c:Int)(d e f g:LV)(Ko:Cu R J66):OV R:=l101_0g G k Ko k a b c d e f g
def L101{R:Type}(G:ORC R)(k:Nat):Nat→St→(Ex→St→OV R)→OV R
 |0,S,K=>P101_0h.mat S fun vs=>uc J131 (l101_0g G k (koX J66 P101_0x K) k) vs none
 |_,_,_=>none
def f101{R:Type}(G:ORC R)(k:Nat)(a b c d e f:LV)(K:LV→OV R):OV R:=
 (l101_0 G k a b 0 c d e f (fun a=>K [.sl 4 a]))
abbrev g101 {R:Type} (G:ORC R) (k:Nat):LV→(LV→OV R)→OV R:=gF J132 (f101 G k)
theorem s101{R:Type}{G:ORC R}{k:Nat}(hG:Sound Tryz.prog TAB G):TL 101 (g101 G k):=
 gG J132 (by kernel_rfl) (callF_sound (L:=L101 G k) (f:=101) TAB_chk MO hG Tryz.func101 (sg:=S101) (by kernel_rfl) (by kernel_rfl) (las [0] (by kernel_rfl) ⟨loopIs J131 k (fun K X=>b101_0 G k X (koX J66 P101_0x K)) P101_0h P101_0x default (by kernel_rfl) (by kernel_rfl) (by kernel_rfl) (fun K X=>by kernel_rfl) (fun S K=>by kernel_rfl),trivial⟩))
def f90{R:Type}(G:ORC R)(k:Nat)(a b c d e:LV)(K:LV→OV R):OV R:=
 (G 101 [.sl 4 [],.sl 8 a,.agg [.sl 1 b,.sl 1 c,.sl 1 d,.sl 7 e]] fun a=>uL 4 a fun a b=>unNil b (K [.sl 4 a]))
abbrev g90 {R:Type} (G:ORC R) (k:Nat):LV→(LV→OV R)→OV R:=gF J126 (f90 G k)
theorem s90{R:Type}{G:ORC R}{k:Nat}(hG:Sound Tryz.prog TAB G):TL 90 (g90 G k):=
 gG J126 (by kernel_rfl) (callF_sound (L:=fun _ _ _=>none) (f:=90) TAB_chk MO hG Tryz.func90 (sg:=S90) (by kernel_rfl) (by kernel_rfl) (las [] (by kernel_rfl) trivial))
def f70{R:Type}(G:ORC R)(k:Nat)(a b:Int)(c:ByteArray)(d:LV)(e:Int)(f g h i:LV)(K:LV→OV R):OV R:=
 (G 92 [.sl 4 [],.agg [.int .i64 a,.int .i64 b,.str c,.sl 5 d,.int .i64 e],.agg [.sl 1 f,.sl 1 g,.sl 1 h,.sl 7 i]] fun a=>uL 4 a fun a b=>unNil b (K [.sl 4 a]))
abbrev g70 {R:Type} (G:ORC R) (k:Nat):LV→(LV→OV R)→OV R:=gF J108 (f70 G k)
theorem s70{R:Type}{G:ORC R}{k:Nat}(hG:Sound Tryz.prog TAB G):TL 70 (g70 G k):=
 gG J108 (by kernel_rfl) (callF_sound (L:=fun _ _ _=>none) (f:=70) TAB_chk MO hG Tryz.func70 (sg:=S70) (by kernel_rfl) (by kernel_rfl) (las [] (by kernel_rfl) trivial))
def P46_0h:Pat:={tmps:=unds [.var (.sl 3) .ro,pU,pU,.var (.sl 1) (.own true),pI] 15 [],boxes:=nons [] 20 []}
def P46_0x:Pat:={tmps:=unds [pU,pU,pU,.var (.sl 1) (.own true)] 16 [],boxes:=nons [] 20 []}
def b46_0{R:Type}(G:ORC R)(k:Nat)(X:Cu R J70)(Ko:Cu R J4)(a b:LV)(c:Int):OV R:=
 (bif(decide (c<(a.length:Int)))then(bif((decide (0≤c))&&(decide (c<(a.length:Int))))then(nthK a (Int.toNat c) fun d=>ca3 d fun d e f=>V.asStr d fun d=>bif(decide (List.length b+1≤1073741824))then(X a (b++[.str d]) (IntKind.i64.wrap (c+1)))else none)else none)else(Ko b))
def l46_0g{R:Type}(G:ORC R)(k:Nat)(Ko:Cu R J4)(j:Nat):Cu R J70:=lup J70 (fun X=>b46_0 G k X Ko) j
def l46_0{R:Type}(G:ORC R)(k:Nat)(a b:LV)(c:Int)(Ko:Cu R J4):OV R:=l46_0g G k Ko k a b c
def L46{R:Type}(G:ORC R)(k:Nat):Nat→St→(Ex→St→OV R)→OV R
 |0,S,K=>P46_0h.mat S fun vs=>uc J70 (l46_0g G k (koX J4 P46_0x K) k) vs none
 |_,_,_=>none
def f46{R:Type}(G:ORC R)(k:Nat)(a:LV)(K:LV→OV R):OV R:=
 (l46_0 G k a [] 0 (fun a=>K [.sl 1 a]))
abbrev g46 {R:Type} (G:ORC R) (k:Nat):LV→(LV→OV R)→OV R:=gF J71 (f46 G k)
theorem s46{R:Type}{G:ORC R}{k:Nat}(hG:Sound Tryz.prog TAB G):TL 46 (g46 G k):=
 gG J71 (by kernel_rfl) (callF_sound (L:=L46 G k) (f:=46) TAB_chk MO hG Tryz.func46 (sg:=S46) (by kernel_rfl) (by kernel_rfl) (las [0] (by kernel_rfl) ⟨loopIs J70 k (fun K X=>b46_0 G k X (koX J4 P46_0x K)) P46_0h P46_0x default (by kernel_rfl) (by kernel_rfl) (by kernel_rfl) (fun K X=>by kernel_rfl) (fun S K=>by kernel_rfl),trivial⟩))
def f45{R:Type}(G:ORC R)(k:Nat)(a:ByteArray)(b c:Int)(d e f g:LV)(h:Int)(K:LV→OV R):OV R:=
 (G 46 [.sl 3 d] fun i=>uL 1 i fun i l=>unNil l (G 46 [.sl 3 e] fun l=>uL 1 l fun l m=>unNil m (G 46 [.sl 3 f] fun m=>uL 1 m fun m n=>unNil n (G 47 [.agg [.str a,.int .i64 b,.int .i64 c,.sl 3 d,.sl 3 e,.sl 3 f,.sl 7 g,.int .i64 h]] fun a=>uL 7 a fun a b=>unNil b (K [.agg [.sl 1 i,.sl 1 l,.sl 1 m,.sl 7 a]])))))
abbrev g45 {R:Type} (G:ORC R) (k:Nat):LV→(LV→OV R)→OV R:=gF J32 (f45 G k)
theorem s45{R:Type}{G:ORC R}{k:Nat}(hG:Sound Tryz.prog TAB G):TL 45 (g45 G k):=
 gG J32 (by kernel_rfl) (callF_sound (L:=fun _ _ _=>none) (f:=45) TAB_chk MO hG Tryz.func45 (sg:=S45) (by kernel_rfl) (by kernel_rfl) (las [] (by kernel_rfl) trivial))
def f68{R:Type}(G:ORC R)(k:Nat)(a:LV)(b:ByteArray)(c d:Int)(e f g h e f g h e i:LV)(K:LV→OV R):OV R:=
 (bif((a.length:Int)==0)then(K [.int .i64 (-1),.str b,.int .i64 c,.int .i64 d,.sl 1 f])else(G 90 [.sl 8 a,.agg [.sl 1 g,.sl 1 h,.sl 1 e,.sl 7 i]] fun a=>uL 4 a fun a e=>unNil e (bif(decide (List.length f+1≤1073741824))then(K [.int .i64 (IntKind.i64.wrap (((List.length (f++[.sl 4 a]):Nat):Int)-1)),.str b,.int .i64 c,.int .i64 d,.sl 1 (f++[.sl 4 a])])else none)))
abbrev g68 {R:Type} (G:ORC R) (k:Nat):LV→(LV→OV R)→OV R:=gF J105 (f68 G k)
theorem s68{R:Type}{G:ORC R}{k:Nat}(hG:Sound Tryz.prog TAB G):TL 68 (g68 G k):=
 gG J105 (by kernel_rfl) (callF_sound (L:=fun _ _ _=>none) (f:=68) TAB_chk MO hG Tryz.func68 (sg:=S68) (by kernel_rfl) (by kernel_rfl) (las [] (by kernel_rfl) trivial))
def P48_2h:Pat:={tmps:=unds [pS 0,.var (.sl 7) .ro,pU,pU,pI,pS 6,pI,pU,pU,pI] 136 [],boxes:=nons [some B15] 5 (nons [some B16] 140 [])}
def P48_2x:Pat:={tmps:=unds [pS 0,.var (.sl 7) .ro,pU,pU,pI,pS 6] 140 [],boxes:=nons [some B15] 5 (nons [some B16] 140 [])}
def P48_0h:Pat:={tmps:=unds [pS 0,.var (.sl 7) .ro,pU,pU,pI] 141 [],boxes:=nons [some B15] 146 []}
def P48_0x:Pat:={tmps:=unds [] 146 [],boxes:=nons [some B15] 146 []}
def b48_2{R:Type}(G:ORC R)(k:Nat)(X:Cu R J73)(Ko:Cu R J72)(a:LV)(b c d:Int)(e:ByteArray)(f g:Int)(h i l m n o p q r s:LV)(t:Int)(u:ByteArray)(v w x y:V)(z:Int):OV R:=
 (V.asSl x fun A B=>bif(decide (d<(B.length:Int)))then(V.asSl x fun A B=>bif(((A==5)&&(decide (0≤d)))&&(decide (d<(B.length:Int))))then(nthK B (Int.toNat d) fun A=>V.asAgg A fun A=>ce5 A fun A B C D E=>V.asStr A fun A=>V.asSl B fun B F=>V.asStr C fun C=>V.asSl D fun D H=>aI .i64 E fun E=>G 67 [.sl 7 m,.str C] fun C=>uI .i64 C fun C E=>unNil E (bif(decide (C≥0))then(G 69 [.sl 7 m,.int .i64 c,.int .i64 C] fun E=>uI .i64 E fun E I=>unNil I (bif(decide ((F.length:Int)>0))then(bif(((B==5)&&true)&&(decide (0<(F.length:Int))))then(nthK F 0 fun I=>V.asAgg I fun I=>G 70 [.agg I,.agg [.sl 1 p,.sl 1 q,.sl 1 r,.sl 7 s]] fun I=>uL 4 I fun I J=>unNil J (bif(decide (List.length o+1≤1073741824))then(G 68 [.sl D H,.str e,.int .i64 f,.int .i64 g,.sl 1 h,.sl 1 i,.sl 1 l,.sl 7 m,.sl 6 n,.sl 1 (o++[.sl 4 I]),.sl 1 p,.sl 1 q,.sl 1 r,.sl 7 s] fun J=>uI .i64 J fun J L=>uS L fun L M=>uI .i64 M fun M N=>uI .i64 N fun N O=>uL 1 O fun O P=>unNil P (bif(decide (List.length n+1≤1073741824))then(X a b c (IntKind.i64.wrap (d+1)) L M N h i l m (n++[.agg [.int .i64 c,.int .i64 C,.int .i64 E,.int .i64 (IntKind.i64.wrap (((List.length (o++[.sl 4 I]):Nat):Int)-1)),.int .i64 J,.str A]]) O p q r s t u v w x y z)else none))else none))else none)else(G 68 [.sl D H,.str e,.int .i64 f,.int .i64 g,.sl 1 h,.sl 1 i,.sl 1 l,.sl 7 m,.sl 6 n,.sl 1 o,.sl 1 p,.sl 1 q,.sl 1 r,.sl 7 s] fun I=>uI .i64 I fun I J=>uS J fun J L=>uI .i64 L fun L M=>uI .i64 M fun M N=>uL 1 N fun N O=>unNil O (bif(decide (List.length n+1≤1073741824))then(X a b c (IntKind.i64.wrap (d+1)) J L M h i l m (n++[.agg [.int .i64 c,.int .i64 C,.int .i64 E,.int .i64 (-1),.int .i64 I,.str A]]) N p q r s t u v w x y z)else none))))else(bif(decide ((F.length:Int)>0))then(bif(((B==5)&&true)&&(decide (0<(F.length:Int))))then(nthK F 0 fun B=>V.asAgg B fun B=>G 70 [.agg B,.agg [.sl 1 p,.sl 1 q,.sl 1 r,.sl 7 s]] fun B=>uL 4 B fun B E=>unNil E (bif(decide (List.length o+1≤1073741824))then(G 68 [.sl D H,.str e,.int .i64 f,.int .i64 g,.sl 1 h,.sl 1 i,.sl 1 l,.sl 7 m,.sl 6 n,.sl 1 (o++[.sl 4 B]),.sl 1 p,.sl 1 q,.sl 1 r,.sl 7 s] fun E=>uI .i64 E fun E F=>uS F fun F I=>uI .i64 I fun I J=>uI .i64 J fun J L=>uL 1 L fun L M=>unNil M (bif(decide (List.length n+1≤1073741824))then(X a b c (IntKind.i64.wrap (d+1)) F I J h i l m (n++[.agg [.int .i64 c,.int .i64 C,.int .i64 (-1),.int .i64 (IntKind.i64.wrap (((List.length (o++[.sl 4 B]):Nat):Int)-1)),.int .i64 E,.str A]]) L p q r s t u v w x y z)else none))else none))else none)else(G 68 [.sl D H,.str e,.int .i64 f,.int .i64 g,.sl 1 h,.sl 1 i,.sl 1 l,.sl 7 m,.sl 6 n,.sl 1 o,.sl 1 p,.sl 1 q,.sl 1 r,.sl 7 s] fun B=>uI .i64 B fun B D=>uS D fun D E=>uI .i64 E fun E F=>uI .i64 F fun F H=>uL 1 H fun H I=>unNil I (bif(decide (List.length n+1≤1073741824))then(X a b c (IntKind.i64.wrap (d+1)) D E F h i l m (n++[.agg [.int .i64 c,.int .i64 C,.int .i64 (-1),.int .i64 (-1),.int .i64 B,.str A]]) H p q r s t u v w x y z)else none)))))else none)else(Ko a b e f g h i l m n o p q r s t u v w x y z))
def l48_2g{R:Type}(G:ORC R)(k:Nat)(Ko:Cu R J72)(j:Nat):Cu R J73:=lup J73 (fun X=>b48_2 G k X Ko) j
def l48_2{R:Type}(G:ORC R)(k:Nat)(a:LV)(b c d:Int)(e:ByteArray)(f g:Int)(h i l m n o p q r s:LV)(t:Int)(u:ByteArray)(v w x y:V)(z:Int)(Ko:Cu R J72):OV R:=l48_2g G k Ko k a b c d e f g h i l m n o p q r s t u v w x y z
def b48_0{R:Type}(G:ORC R)(k:Nat)(X:Cu R J75)(Ko:Cu R J74)(a:LV)(b:Int)(c:ByteArray)(d e:Int)(f g h i l m n o p q:LV):OV R:=
 (bif(decide (b<(a.length:Int)))then(bif((decide (0≤b))&&(decide (b<(a.length:Int))))then(nthK a (Int.toNat b) fun r=>V.asAgg r fun r=>ce7 r fun r s t u v w x=>aI .i64 r fun r=>V.asStr s fun s=>V.asSl t fun t y=>V.asSl u fun u z=>V.asSl v fun v A=>V.asSl w fun w B=>aI .i64 x fun x=>G 67 [.sl 7 i,.str s] fun C=>uI .i64 C fun C D=>unNil D (G 68 [.sl t y,.str c,.int .i64 d,.int .i64 e,.sl 1 f,.sl 1 g,.sl 1 h,.sl 7 i,.sl 6 l,.sl 1 m,.sl 1 n,.sl 1 o,.sl 1 p,.sl 7 q] fun D=>uI .i64 D fun D E=>uS E fun E F=>uI .i64 F fun F H=>uI .i64 H fun H I=>uL 1 I fun I J=>unNil J (G 68 [.sl u z,.str E,.int .i64 F,.int .i64 H,.sl 1 f,.sl 1 g,.sl 1 h,.sl 7 i,.sl 6 l,.sl 1 I,.sl 1 n,.sl 1 o,.sl 1 p,.sl 7 q] fun E=>uI .i64 E fun E F=>uS F fun F H=>uI .i64 H fun H I=>uI .i64 I fun I J=>uL 1 J fun J L=>unNil L (bif((decide (0≤C))&&(decide (C<(i.length:Int))))then(nthK i (Int.toNat C) fun L=>ca7 L fun L M N O P Q S=>bif((decide (0≤C))&&(decide (C<((List.length (List.set i (Int.toNat C) (.agg [L,M,N,O,.int .i64 D,Q,S])):Nat):Int))))then(nthK (List.set i (Int.toNat C) (.agg [L,M,N,O,.int .i64 D,Q,S])) (Int.toNat C) fun P=>ca7 P fun P T U W Y Z aa=>l48_2 G k a b C 0 F H I f g h (List.set (List.set i (Int.toNat C) (.agg [L,M,N,O,.int .i64 D,Q,S])) (Int.toNat C) (.agg [P,T,U,W,Y,.int .i64 E,aa])) l J n o p q r s (.sl t y) (.sl u z) (.sl v A) (.sl w B) x (fun a b r s t u v w x y z A B C D E F H I E F H=>V.asSl F fun E F=>G 48 [.sl E F,.str r,.int .i64 s,.int .i64 t,.sl 1 u,.sl 1 v,.sl 1 w,.sl 7 x,.sl 6 y,.sl 1 z,.sl 1 A,.sl 1 B,.sl 1 C,.sl 7 D] fun r=>uS r fun r s=>uI .i64 s fun s t=>uI .i64 t fun t x=>uL 7 x fun x y=>uL 6 y fun y z=>uL 1 z fun z E=>unNil E (X a (IntKind.i64.wrap (b+1)) r s t u v w x y z A B C D)))else none)else none))))else none)else(Ko c d e f g h i l m n o p q))
def l48_0g{R:Type}(G:ORC R)(k:Nat)(Ko:Cu R J74)(j:Nat):Cu R J75:=lup J75 (fun X=>b48_0 G k X Ko) j
def l48_0{R:Type}(G:ORC R)(k:Nat)(a:LV)(b:Int)(c:ByteArray)(d e:Int)(f g h i l m n o p q:LV)(Ko:Cu R J74):OV R:=l48_0g G k Ko k a b c d e f g h i l m n o p q
def L48{R:Type}(G:ORC R)(k:Nat):Nat→St→(Ex→St→OV R)→OV R
 |2,S,K=>P48_2h.mat S fun vs=>uc J73 (l48_2g G k (koX J72 P48_2x K) k) vs none
 |0,S,K=>P48_0h.mat S fun vs=>uc J75 (l48_0g G k (koX J74 P48_0x K) k) vs none
 |_,_,_=>none
def f48{R:Type}(G:ORC R)(k:Nat)(a:LV)(b:ByteArray)(c d:Int)(e f g h i l m n o p:LV)(K:LV→OV R):OV R:=
 (l48_0 G k a 0 b c d e f g h i l m n o p (fun a b c d e f g d e f h i l=>K [.str a,.int .i64 b,.int .i64 c,.sl 7 g,.sl 6 d,.sl 1 e]))
abbrev g48 {R:Type} (G:ORC R) (k:Nat):LV→(LV→OV R)→OV R:=gF J76 (f48 G k)
theorem s48{R:Type}{G:ORC R}{k:Nat}(hG:Sound Tryz.prog TAB G):TL 48 (g48 G k):=
 gG J76 (by kernel_rfl) (callF_sound (L:=L48 G k) (f:=48) TAB_chk MO hG Tryz.func48 (sg:=S48) (by kernel_rfl) (by kernel_rfl) (las [0,2] (by kernel_rfl) ⟨loopIs J75 k (fun K X=>b48_0 G k X (koX J74 P48_0x K)) P48_0h P48_0x default (by kernel_rfl) (by kernel_rfl) (by kernel_rfl) (fun K X=>by kernel_rfl) (fun S K=>by kernel_rfl),loopIs J73 k (fun K X=>b48_2 G k X (koX J72 P48_2x K)) P48_2h P48_2x default (by kernel_rfl) (by kernel_rfl) (by kernel_rfl) (fun K X=>by kernel_rfl) (fun S K=>by kernel_rfl),trivial⟩))
def P23_0h:Pat:={tmps:=unds [pU,pS 1,pS 2,pS 8,pI] 54 [],boxes:=nons [none,some B4,some B5] 5 (nons [some B6] 50 [])}
def P23_0x:Pat:={tmps:=unds [pU,pS 1,pS 2,pS 8] 55 [],boxes:=nons [none,some B4,some B5] 5 (nons [some B6] 50 [])}
def b23_0{R:Type}(G:ORC R)(k:Nat)(X:Cu R J31)(Ko:Cu R J30)(a:Int)(b:ByteArray)(c d:Int)(e f g h:LV)(i:Int)(l:ByteArray)(m n:Int)(o p q r s t:LV)(u:ByteArray)(v w:Int)(x y z A B C D E F H:LV):OV R:=
 (bif(decide (a<(e.length:Int)))then(bif((decide (0≤a))&&(decide (a<(e.length:Int))))then(nthK e (Int.toNat a) fun I=>ca3 I fun I J L=>aI .i64 J fun I=>bif(decide (List.length x+1≤1073741824))then(X (IntKind.i64.wrap (a+1)) b c d e f g h i l m n o p q r s t u v w (x++[.int .i64 I]) y z A B C D E F H)else none)else none)else(Ko b c d e f g h i l m n o p q r s t u v w x y z A B C D E F H))
def l23_0g{R:Type}(G:ORC R)(k:Nat)(Ko:Cu R J30)(j:Nat):Cu R J31:=lup J31 (fun X=>b23_0 G k X Ko) j
def l23_0{R:Type}(G:ORC R)(k:Nat)(a:Int)(b:ByteArray)(c d:Int)(e f g h:LV)(i:Int)(l:ByteArray)(m n:Int)(o p q r s t:LV)(u:ByteArray)(v w:Int)(x y z A B C D E F H:LV)(Ko:Cu R J30):OV R:=l23_0g G k Ko k a b c d e f g h i l m n o p q r s t u v w x y z A B C D E F H
def L23{R:Type}(G:ORC R)(k:Nat):Nat→St→(Ex→St→OV R)→OV R
 |0,S,K=>P23_0h.mat S fun vs=>uc J31 (l23_0g G k (koX J30 P23_0x K) k) vs none
 |_,_,_=>none
def f23{R:Type}(G:ORC R)(k:Nat)(a:ByteArray)(b c:Int)(d e f g:LV)(h:Int)(K:LV→OV R):OV R:=
 (G 45 [.agg [.str a,.int .i64 b,.int .i64 c,.sl 3 d,.sl 3 e,.sl 3 f,.sl 7 g,.int .i64 h]] fun i=>uA i fun i l=>uL 1 i fun i m=>uL 1 m fun m n=>uL 1 n fun n o=>uL 7 o fun o p=>unNil p (unNil l (G 46 [.sl 3 e] fun l=>uL 1 l fun l p=>unNil p (G 46 [.sl 3 f] fun p=>uL 1 p fun p q=>unNil q (G 47 [.agg [.str a,.int .i64 b,.int .i64 c,.sl 3 d,.sl 3 e,.sl 3 f,.sl 7 g,.int .i64 h]] fun q=>uL 7 q fun q r=>unNil r (l23_0 G k 0 a b c d e f g h ⟨#[]⟩ 0 0 [] [] [] [] [] [] a b c [] l p q [] [] i m n o (fun a b c d a b c d a b e d a b e d a b e d a f g h i l m n o p=>G 48 [.sl 7 c,.str b,.int .i64 e,.int .i64 d,.sl 1 a,.sl 1 f,.sl 1 g,.sl 7 h,.sl 6 i,.sl 1 l,.sl 1 m,.sl 1 n,.sl 1 o,.sl 7 p] fun b=>uS b fun b c=>uI .i64 c fun c d=>uI .i64 d fun d e=>uL 7 e fun e h=>uL 6 h fun h i=>uL 1 i fun i l=>unNil l (K [.agg [.str b,.int .i64 c,.int .i64 d,.sl 1 a,.sl 1 f,.sl 1 g,.sl 7 e,.sl 6 h,.sl 1 i]]))))))))
abbrev g23 {R:Type} (G:ORC R) (k:Nat):LV→(LV→OV R)→OV R:=gF J32 (f23 G k)
theorem s23{R:Type}{G:ORC R}{k:Nat}(hG:Sound Tryz.prog TAB G):TL 23 (g23 G k):=
 gG J32 (by kernel_rfl) (callF_sound (L:=L23 G k) (f:=23) TAB_chk MO hG Tryz.func23 (sg:=S23) (by kernel_rfl) (by kernel_rfl) (las [0] (by kernel_rfl) ⟨loopIs J31 k (fun K X=>b23_0 G k X (koX J30 P23_0x K)) P23_0h P23_0x default (by kernel_rfl) (by kernel_rfl) (by kernel_rfl) (fun K X=>by kernel_rfl) (fun S K=>by kernel_rfl),trivial⟩))
def f5{R:Type}(G:ORC R)(k:Nat)(a:LV)(K:LV→OV R):OV R:=
 (G 24 [.str ⟨#[99]⟩,.int .i64 2,.sl 1 a,.int .i64 0] fun a=>uA a fun a b=>uS a fun a c=>uI .i64 c fun c d=>uI .i64 d fun d e=>uL 3 e fun e f=>uL 3 f fun f g=>uL 3 g fun g h=>uL 7 h fun h i=>uI .i64 i fun i l=>unNil l (uI .i64 b fun b l=>unNil l (G 23 [.agg [.str a,.int .i64 c,.int .i64 d,.sl 3 e,.sl 3 f,.sl 3 g,.sl 7 h,.int .i64 i]] fun a=>uA a fun a b=>uS a fun a c=>uI .i64 c fun c d=>uI .i64 d fun d e=>uL 1 e fun e f=>uL 1 f fun f g=>uL 1 g fun g h=>uL 7 h fun h i=>uL 6 i fun i l=>uL 1 l fun l m=>unNil m (unNil b (K [.agg [.str a,.int .i64 c,.int .i64 d,.sl 1 e,.sl 1 f,.sl 1 g,.sl 7 h,.sl 6 i,.sl 1 l]])))))
abbrev g5 {R:Type} (G:ORC R) (k:Nat):LV→(LV→OV R)→OV R:=gF J4 (f5 G k)
theorem s5{R:Type}{G:ORC R}{k:Nat}(hG:Sound Tryz.prog TAB G):TL 5 (g5 G k):=
 gG J4 (by kernel_rfl) (callF_sound (L:=fun _ _ _=>none) (f:=5) TAB_chk MO hG Tryz.func5 (sg:=S5) (by kernel_rfl) (by kernel_rfl) (las [] (by kernel_rfl) trivial))
def f4{R:Type}(G:ORC R)(k:Nat)(K:LV→OV R):OV R:=
 (G 20 [.agg [.int .i64 1,.sl 9 [.agg [.str ⟨#[99]⟩,.int .i64 4,.int .i64 9,.sl 1 [],.sl 1 [.str ⟨#[112]⟩],.sl 1 [],.sl 7 [.agg [.int .i64 2,.int .i64 (-1),.int .i64 1,.int .i64 1,.int .i64 (-1),.int .i64 (-1),.str ⟨#[]⟩],.agg [.int .i64 1,.int .i64 0,.int .i64 1,.int .i64 (-1),.int .i64 (-1),.int .i64 (-1),.str ⟨#[97]⟩]],.sl 6 [.agg [.int .i64 1,.int .i64 (-1),.int .i64 (-1),.int .i64 (-1),.int .i64 0,.str ⟨#[101]⟩]],.sl 1 [.sl 4 [.agg [.int .i64 3,.int .i64 0,.int .i64 0,.str ⟨#[]⟩],.agg [.int .i64 20,.int .i64 0,.int .i64 0,.str ⟨#[102]⟩]]]]],.sl 6 [.agg [.int .i64 0,.int .i64 1,.int .i64 3,.int .i64 0,.sl 1 [.int .i64 0],.sl 1 [.int .i64 0]]],.sl 5 [.agg [.int .i64 0,.int .i64 0,.int .i64 0,.int .i64 2,.int .i64 0]],.sl 1 [.str ⟨#[105]⟩],.sl 1 [.str ⟨#[107]⟩]],.int .i64 0,.int .i64 0] fun a=>uL 1 a fun a b=>unNil b (G 20 [.agg [.int .i64 1,.sl 9 [.agg [.str ⟨#[99]⟩,.int .i64 4,.int .i64 9,.sl 1 [],.sl 1 [.str ⟨#[112]⟩],.sl 1 [],.sl 7 [.agg [.int .i64 2,.int .i64 (-1),.int .i64 1,.int .i64 1,.int .i64 (-1),.int .i64 (-1),.str ⟨#[]⟩],.agg [.int .i64 1,.int .i64 0,.int .i64 1,.int .i64 (-1),.int .i64 (-1),.int .i64 (-1),.str ⟨#[97]⟩]],.sl 6 [.agg [.int .i64 1,.int .i64 (-1),.int .i64 (-1),.int .i64 (-1),.int .i64 0,.str ⟨#[101]⟩]],.sl 1 [.sl 4 [.agg [.int .i64 3,.int .i64 0,.int .i64 0,.str ⟨#[]⟩],.agg [.int .i64 20,.int .i64 0,.int .i64 0,.str ⟨#[102]⟩]]]]],.sl 6 [.agg [.int .i64 0,.int .i64 1,.int .i64 3,.int .i64 0,.sl 1 [.int .i64 0],.sl 1 [.int .i64 0]]],.sl 5 [.agg [.int .i64 0,.int .i64 0,.int .i64 0,.int .i64 2,.int .i64 0]],.sl 1 [.str ⟨#[105]⟩],.sl 1 [.str ⟨#[107]⟩]],.int .i64 0,.int .i64 2] fun b=>uL 1 b fun b c=>unNil c (bif((a.length:Int)==1)then(bif(decide (0<(a.length:Int)))then(nthK a 0 fun a=>aI .i64 a fun a=>bif(a==1)then(bif((b.length:Int)==1)then(bif(decide (0<(b.length:Int)))then(nthK b 0 fun a=>aI .i64 a fun a=>bif(a==0)then(G 18 [.agg [.str ⟨#[99]⟩,.int .i64 4,.int .i64 9,.sl 1 [],.sl 1 [.str ⟨#[112]⟩],.sl 1 [],.sl 7 [.agg [.int .i64 2,.int .i64 (-1),.int .i64 1,.int .i64 1,.int .i64 (-1),.int .i64 (-1),.str ⟨#[]⟩],.agg [.int .i64 1,.int .i64 0,.int .i64 1,.int .i64 (-1),.int .i64 (-1),.int .i64 (-1),.str ⟨#[97]⟩]],.sl 6 [.agg [.int .i64 1,.int .i64 (-1),.int .i64 (-1),.int .i64 (-1),.int .i64 0,.str ⟨#[101]⟩]],.sl 1 [.sl 4 [.agg [.int .i64 3,.int .i64 0,.int .i64 0,.str ⟨#[]⟩],.agg [.int .i64 20,.int .i64 0,.int .i64 0,.str ⟨#[102]⟩]]]]] fun a=>uI .i64 a fun a b=>unNil b (bif(a==15)then(G 21 [.agg [.int .i64 1,.sl 9 [.agg [.str ⟨#[99]⟩,.int .i64 4,.int .i64 9,.sl 1 [],.sl 1 [.str ⟨#[112]⟩],.sl 1 [],.sl 7 [.agg [.int .i64 2,.int .i64 (-1),.int .i64 1,.int .i64 1,.int .i64 (-1),.int .i64 (-1),.str ⟨#[]⟩],.agg [.int .i64 1,.int .i64 0,.int .i64 1,.int .i64 (-1),.int .i64 (-1),.int .i64 (-1),.str ⟨#[97]⟩]],.sl 6 [.agg [.int .i64 1,.int .i64 (-1),.int .i64 (-1),.int .i64 (-1),.int .i64 0,.str ⟨#[101]⟩]],.sl 1 [.sl 4 [.agg [.int .i64 3,.int .i64 0,.int .i64 0,.str ⟨#[]⟩],.agg [.int .i64 20,.int .i64 0,.int .i64 0,.str ⟨#[102]⟩]]]]],.sl 6 [.agg [.int .i64 0,.int .i64 1,.int .i64 3,.int .i64 0,.sl 1 [.int .i64 0],.sl 1 [.int .i64 0]]],.sl 5 [.agg [.int .i64 0,.int .i64 0,.int .i64 0,.int .i64 2,.int .i64 0]],.sl 1 [.str ⟨#[105]⟩],.sl 1 [.str ⟨#[107]⟩]],.int .i64 0,.int .i64 0] fun a=>uI .i64 a fun a b=>unNil b (bif(a==3)then(G 22 [.agg [.int .i64 1,.sl 9 [.agg [.str ⟨#[99]⟩,.int .i64 4,.int .i64 9,.sl 1 [],.sl 1 [.str ⟨#[112]⟩],.sl 1 [],.sl 7 [.agg [.int .i64 2,.int .i64 (-1),.int .i64 1,.int .i64 1,.int .i64 (-1),.int .i64 (-1),.str ⟨#[]⟩],.agg [.int .i64 1,.int .i64 0,.int .i64 1,.int .i64 (-1),.int .i64 (-1),.int .i64 (-1),.str ⟨#[97]⟩]],.sl 6 [.agg [.int .i64 1,.int .i64 (-1),.int .i64 (-1),.int .i64 (-1),.int .i64 0,.str ⟨#[101]⟩]],.sl 1 [.sl 4 [.agg [.int .i64 3,.int .i64 0,.int .i64 0,.str ⟨#[]⟩],.agg [.int .i64 20,.int .i64 0,.int .i64 0,.str ⟨#[102]⟩]]]]],.sl 6 [.agg [.int .i64 0,.int .i64 1,.int .i64 3,.int .i64 0,.sl 1 [.int .i64 0],.sl 1 [.int .i64 0]]],.sl 5 [.agg [.int .i64 0,.int .i64 0,.int .i64 0,.int .i64 2,.int .i64 0]],.sl 1 [.str ⟨#[105]⟩],.sl 1 [.str ⟨#[107]⟩]],.int .i64 0] fun a=>uI .i64 a fun a b=>unNil b (K [.bool (a==3)]))else(K [.bool false])))else(K [.bool false])))else(K [.bool false]))else none)else(K [.bool false]))else(K [.bool false]))else none)else(K [.bool false]))))
abbrev g4 {R:Type} (G:ORC R) (k:Nat):LV→(LV→OV R)→OV R:=gF J3 (f4 G k)
theorem s4{R:Type}{G:ORC R}{k:Nat}(hG:Sound Tryz.prog TAB G):TL 4 (g4 G k):=
 gG J3 (by kernel_rfl) (callF_sound (L:=fun _ _ _=>none) (f:=4) TAB_chk MO hG Tryz.func4 (sg:=S4) (by kernel_rfl) (by kernel_rfl) (las [] (by kernel_rfl) trivial))
def P3_0h:Pat:={tmps:=unds [pU,.var .bool .pr,pL,pL,pI] 6 (unds [pS 11,.var (.sl 1) (.own true),pI] 97 []),boxes:=nons [] 11 (nons [some B0] 99 [])}
def P3_0x:Pat:={tmps:=unds [pU,.var .bool .pr,pL,pL,pI] 6 (unds [pS 11,pL] 98 []),boxes:=nons [] 11 (nons [some B0] 99 [])}
def b3_0{R:Type}(G:ORC R)(k:Nat)(X:Cu R J1)(Ko:Cu R J0)(a:Bool)(b c:LV)(d:Int)(e:LV)(f:Int)(g:ByteArray)(h i:Int)(l m n o p q:LV):OV R:=
 (bif(decide (f<(c.length:Int)))then(bif((decide (0≤f))&&(decide (f<(c.length:Int))))then(nthK c (Int.toNat f) fun r=>aI .i64 r fun r=>G 6 [.int .i64 r] fun r=>uS r fun r s=>unNil s (bif(decide (List.length e+1≤1073741824))then(X a b c d (e++[.str r]) (IntKind.i64.wrap (f+1)) g h i l m n o p q)else none))else none)else(Ko a b c d e g h i l m n o p q))
def l3_0g{R:Type}(G:ORC R)(k:Nat)(Ko:Cu R J0)(j:Nat):Cu R J1:=lup J1 (fun X=>b3_0 G k X Ko) j
def l3_0{R:Type}(G:ORC R)(k:Nat)(a:Bool)(b c:LV)(d:Int)(e:LV)(f:Int)(g:ByteArray)(h i:Int)(l m n o p q:LV)(Ko:Cu R J0):OV R:=l3_0g G k Ko k a b c d e f g h i l m n o p q
def L3{R:Type}(G:ORC R)(k:Nat):Nat→St→(Ex→St→OV R)→OV R
 |0,S,K=>P3_0h.mat S fun vs=>uc J1 (l3_0g G k (koX J0 P3_0x K) k) vs none
 |_,_,_=>none
def f3{R:Type}(G:ORC R)(k:Nat)(a:LV)(b:Bool)(c d:LV)(e:Int)(K:LV→OV R):OV R:=
 (bif(decide ((a.length:Int)>200))then(G 4 [] fun f=>uB f fun f g=>unNil g (K [.bool f]))else(bif(decide ((c.length:Int)>20))then(G 4 [] fun f=>uB f fun f g=>unNil g (K [.bool f]))else(bif(decide ((d.length:Int)>30))then(G 4 [] fun f=>uB f fun f g=>unNil g (K [.bool f]))else(G 5 [.sl 1 a] fun a=>uA a fun a f=>uS a fun a g=>uI .i64 g fun g h=>uI .i64 h fun h i=>uL 1 i fun i l=>uL 1 l fun l m=>uL 1 m fun m n=>uL 7 n fun n o=>uL 6 o fun o p=>uL 1 p fun p q=>unNil q (unNil f (l3_0 G k b c d e [] 0 a g h i l m n o p (fun a b c d e f g h i l m n o p=>G 7 [.int .i64 d,.int .i64 2] fun q=>uI .i64 q fun q r=>unNil r (G 9 [.agg [.str f,.int .i64 g,.int .i64 h,.sl 1 i,.sl 1 l,.sl 1 m,.sl 7 n,.sl 6 o,.sl 1 p],.bool a,.sl 1 b] fun r=>uA r fun r s=>uL 1 r fun r t=>uL 1 t fun t u=>uL 1 u fun u v=>uB v fun v w=>unNil w (unNil s (G 10 [.agg [.str f,.int .i64 g,.int .i64 h,.sl 1 i,.sl 1 l,.sl 1 m,.sl 7 n,.sl 6 o,.sl 1 p],.bool a,.sl 1 b] fun a=>uA a fun a b=>uL 1 a fun a s=>uL 1 s fun s w=>uL 1 w fun w x=>uB x fun x y=>unNil y (unNil b (G 8 [.agg [.sl 1 r,.sl 1 t,.sl 1 u,.bool v],.agg [.sl 1 a,.sl 1 s,.sl 1 w,.bool x]] fun a=>uB a fun a b=>unNil b (bif a then(G 9 [.agg [.str f,.int .i64 g,.int .i64 h,.sl 1 i,.sl 1 l,.sl 1 m,.sl 7 n,.sl 6 o,.sl 1 p],.bool false,.sl 1 e] fun a=>uA a fun a b=>uL 1 a fun a r=>uL 1 r fun r s=>uL 1 s fun s t=>uB t fun t u=>unNil u (unNil b (G 10 [.agg [.str f,.int .i64 g,.int .i64 h,.sl 1 i,.sl 1 l,.sl 1 m,.sl 7 n,.sl 6 o,.sl 1 p],.bool false,.sl 1 e] fun b=>uA b fun b e=>uL 1 b fun b u=>uL 1 u fun u v=>uL 1 v fun v w=>uB w fun w x=>unNil x (unNil e (G 8 [.agg [.sl 1 a,.sl 1 r,.sl 1 s,.bool t],.agg [.sl 1 b,.sl 1 u,.sl 1 v,.bool w]] fun a=>uB a fun a b=>unNil b (bif a then(G 11 [.agg [.str f,.int .i64 g,.int .i64 h,.sl 1 i,.sl 1 l,.sl 1 m,.sl 7 n,.sl 6 o,.sl 1 p]] fun a=>uA a fun a b=>uL 1 a fun a e=>uL 1 e fun e r=>uL 1 r fun r s=>uB s fun s t=>unNil t (unNil b (G 12 [.agg [.str f,.int .i64 g,.int .i64 h,.sl 1 i,.sl 1 l,.sl 1 m,.sl 7 n,.sl 6 o,.sl 1 p]] fun b=>uA b fun b t=>uL 1 b fun b u=>uL 1 u fun u v=>uL 1 v fun v w=>uB w fun w x=>unNil x (unNil t (G 8 [.agg [.sl 1 a,.sl 1 e,.sl 1 r,.bool s],.agg [.sl 1 b,.sl 1 u,.sl 1 v,.bool w]] fun a=>uB a fun a b=>unNil b (bif a then(G 14 [.agg [.str f,.int .i64 g,.int .i64 h,.sl 1 i,.sl 1 l,.sl 1 m,.sl 7 n,.sl 6 o,.sl 1 p],.int .i64 q] fun a=>uL 1 a fun a b=>unNil b (G 15 [.agg [.str f,.int .i64 g,.int .i64 h,.sl 1 i,.sl 1 l,.sl 1 m,.sl 7 n,.sl 6 o,.sl 1 p],.int .i64 q] fun b=>uL 1 b fun b e=>unNil e (G 13 [.sl 1 a,.sl 1 b] fun a=>uB a fun a b=>unNil b (bif a then(G 14 [.agg [.str f,.int .i64 g,.int .i64 h,.sl 1 i,.sl 1 l,.sl 1 m,.sl 7 n,.sl 6 o,.sl 1 p],.int .i64 d] fun a=>uL 1 a fun a b=>unNil b (G 15 [.agg [.str f,.int .i64 g,.int .i64 h,.sl 1 i,.sl 1 l,.sl 1 m,.sl 7 n,.sl 6 o,.sl 1 p],.int .i64 d] fun b=>uL 1 b fun b d=>unNil d (G 13 [.sl 1 a,.sl 1 b] fun a=>uB a fun a b=>unNil b (bif a then(G 16 [.agg [.str f,.int .i64 g,.int .i64 h,.sl 1 i,.sl 1 l,.sl 1 m,.sl 7 n,.sl 6 o,.sl 1 p],.sl 1 c,.int .i64 q] fun a=>uI .i64 a fun a b=>unNil b (G 17 [.agg [.str f,.int .i64 g,.int .i64 h,.sl 1 i,.sl 1 l,.sl 1 m,.sl 7 n,.sl 6 o,.sl 1 p],.sl 1 c,.int .i64 q] fun b=>uI .i64 b fun b c=>unNil c (bif(a==b)then(G 18 [.agg [.str f,.int .i64 g,.int .i64 h,.sl 1 i,.sl 1 l,.sl 1 m,.sl 7 n,.sl 6 o,.sl 1 p]] fun a=>uI .i64 a fun a b=>unNil b (G 19 [.agg [.str f,.int .i64 g,.int .i64 h,.sl 1 i,.sl 1 l,.sl 1 m,.sl 7 n,.sl 6 o,.sl 1 p]] fun b=>uI .i64 b fun b c=>unNil c (bif(a==b)then(G 4 [] fun a=>uB a fun a b=>unNil b (K [.bool a]))else(K [.bool false]))))else(K [.bool false]))))else(K [.bool false])))))else(K [.bool false])))))else(K [.bool false])))))))else(K [.bool false])))))))else(K [.bool false]))))))))))))))
abbrev g3 {R:Type} (G:ORC R) (k:Nat):LV→(LV→OV R)→OV R:=gF J2 (f3 G k)
theorem s3{R:Type}{G:ORC R}{k:Nat}(hG:Sound Tryz.prog TAB G):TL 3 (g3 G k):=
 gG J2 (by kernel_rfl) (callF_sound (L:=L3 G k) (f:=3) TAB_chk MO hG Tryz.func3 (sg:=S3) (by kernel_rfl) (by kernel_rfl) (las [0] (by kernel_rfl) ⟨loopIs J1 k (fun K X=>b3_0 G k X (koX J0 P3_0x K)) P3_0h P3_0x default (by kernel_rfl) (by kernel_rfl) (by kernel_rfl) (fun K X=>by kernel_rfl) (fun S K=>by kernel_rfl),trivial⟩))
def f20{R:Type}(G:ORC R)(k:Nat)(a:Int)(b c d e f:LV)(g h:Int)(K:LV→OV R):OV R:=
 (G 40 [.agg [.int .i64 a,.sl 9 b,.sl 6 c,.sl 5 d,.sl 1 e,.sl 1 f],.int .i64 g] fun i=>uA i fun i l=>uI .i64 i fun i m=>uI .i64 m fun i m=>uI .i64 m fun i m=>uI .i64 m fun i m=>uL 1 m fun i m=>uL 1 m fun i m=>unNil m (uA l fun i l=>uS i fun i m=>uI .i64 m fun m n=>uI .i64 n fun n o=>uL 1 o fun o p=>uL 1 p fun p q=>uL 1 q fun q r=>uL 7 r fun r s=>uL 6 s fun s t=>uL 1 t fun t u=>unNil u (uB l fun l u=>unNil u (bif(!l)then(K [.sl 1 []])else(bif(decide (h<0))then(K [.sl 1 []])else(G 22 [.agg [.int .i64 a,.sl 9 b,.sl 6 c,.sl 5 d,.sl 1 e,.sl 1 f],.int .i64 g] fun l=>uI .i64 l fun l u=>unNil u (bif(decide (h≥l))then(K [.sl 1 []])else(G 41 [.agg [.int .i64 a,.sl 9 b,.sl 6 c,.sl 5 d,.sl 1 e,.sl 1 f],.int .i64 g,.int .i64 h] fun h=>uB h fun h l=>uL 1 l fun l u=>unNil u (G 9 [.agg [.str i,.int .i64 m,.int .i64 n,.sl 1 o,.sl 1 p,.sl 1 q,.sl 7 r,.sl 6 s,.sl 1 t],.bool h,.sl 1 l] fun h=>uA h fun h l=>uL 1 h fun h u=>uL 1 u fun u v=>uL 1 v fun v w=>uB w fun w x=>unNil x (unNil l (bif w then(G 65578 [.agg [.int .i64 a,.sl 9 b,.sl 6 c,.sl 5 d,.sl 1 e,.sl 1 f],.int .i64 g,.int .i64 m,.str i,.int .i64 m,.int .i64 n,.sl 1 o,.sl 1 p,.sl 1 q,.sl 7 r,.sl 6 s,.sl 1 t,.sl 1 h,.sl 1 u,.sl 1 v,.bool w] fun l=>uL 1 l fun l x=>uI .i64 x fun x y=>uS y fun x y=>uI .i64 y fun x y=>uI .i64 y fun x y=>uB y fun x y=>unNil y (K [.sl 1 l]))else(G 65578 [.agg [.int .i64 a,.sl 9 b,.sl 6 c,.sl 5 d,.sl 1 e,.sl 1 f],.int .i64 g,.int .i64 1,.str i,.int .i64 m,.int .i64 n,.sl 1 o,.sl 1 p,.sl 1 q,.sl 7 r,.sl 6 s,.sl 1 t,.sl 1 h,.sl 1 u,.sl 1 v,.bool w] fun a=>uL 1 a fun a b=>uI .i64 b fun b c=>uS c fun b c=>uI .i64 c fun b c=>uI .i64 c fun b c=>uB c fun b c=>unNil c (K [.sl 1 a])))))))))))))
abbrev g20 {R:Type} (G:ORC R) (k:Nat):LV→(LV→OV R)→OV R:=gF J28 (f20 G k)
theorem s20{R:Type}{G:ORC R}{k:Nat}(hG:Sound Tryz.prog TAB G):TL 20 (g20 G k):=
 gG J28 (by kernel_rfl) (callF_sound (L:=fun _ _ _=>none) (f:=20) TAB_chk MO hG Tryz.func20 (sg:=S20) (by kernel_rfl) (by kernel_rfl) (las [] (by kernel_rfl) trivial))
def f21{R:Type}(G:ORC R)(k:Nat)(a:Int)(b c d e f:LV)(g h:Int)(K:LV→OV R):OV R:=
 (G 40 [.agg [.int .i64 a,.sl 9 b,.sl 6 c,.sl 5 d,.sl 1 e,.sl 1 f],.int .i64 g] fun g=>uA g fun g i=>uI .i64 g fun g l=>uI .i64 l fun l m=>uI .i64 m fun m n=>uI .i64 n fun n o=>uL 1 o fun o p=>uL 1 p fun p q=>unNil q (uA i fun i q=>uS i fun i r=>uI .i64 r fun i r=>uI .i64 r fun i r=>uL 1 r fun i r=>uL 1 r fun i r=>uL 1 r fun i r=>uL 7 r fun r s=>uL 6 s fun r s=>uL 1 s fun r s=>unNil s (uB q fun q r=>unNil r (bif(!q)then(K [.int .i64 0])else(bif(h==0)then(K [.int .i64 m])else(bif(h==1)then(K [.int .i64 (i.length:Int)])else(G 44 [.agg [.int .i64 a,.sl 9 b,.sl 6 c,.sl 5 d,.sl 1 e,.sl 1 f],.agg [.int .i64 g,.int .i64 l,.int .i64 m,.int .i64 n,.sl 1 o,.sl 1 p],.int .i64 h] fun a=>uA a fun a b=>uI .i64 a fun a c=>uI .i64 c fun a c=>uI .i64 c fun a c=>uI .i64 c fun a c=>uI .i64 c fun c d=>unNil d (uB b fun b c=>unNil c (K [.int .i64 a])))))))))
abbrev g21 {R:Type} (G:ORC R) (k:Nat):LV→(LV→OV R)→OV R:=gF J28 (f21 G k)
theorem s21{R:Type}{G:ORC R}{k:Nat}(hG:Sound Tryz.prog TAB G):TL 21 (g21 G k):=
 gG J28 (by kernel_rfl) (callF_sound (L:=fun _ _ _=>none) (f:=21) TAB_chk MO hG Tryz.func21 (sg:=S21) (by kernel_rfl) (by kernel_rfl) (las [] (by kernel_rfl) trivial))
def f22{R:Type}(G:ORC R)(k:Nat)(a:Int)(b c d e f:LV)(g:Int)(K:LV→OV R):OV R:=
 (G 40 [.agg [.int .i64 a,.sl 9 b,.sl 6 c,.sl 5 d,.sl 1 e,.sl 1 f],.int .i64 g] fun a=>uA a fun a b=>uI .i64 a fun a c=>uI .i64 c fun a c=>uI .i64 c fun a c=>uI .i64 c fun a c=>uL 1 c fun a c=>uL 1 c fun a c=>unNil c (uA b fun b c=>uS b fun b d=>uI .i64 d fun b d=>uI .i64 d fun b d=>uL 1 d fun b d=>uL 1 d fun b d=>uL 1 d fun b d=>uL 7 d fun b d=>uL 6 d fun b d=>uL 1 d fun b d=>unNil d (uB c fun b c=>unNil c (bif(!b)then(K [.int .i64 0])else(K [.int .i64 (IntKind.i64.wrap (2+(a.length:Int)))])))))
abbrev g22 {R:Type} (G:ORC R) (k:Nat):LV→(LV→OV R)→OV R:=gF J29 (f22 G k)
theorem s22{R:Type}{G:ORC R}{k:Nat}(hG:Sound Tryz.prog TAB G):TL 22 (g22 G k):=
 gG J29 (by kernel_rfl) (callF_sound (L:=fun _ _ _=>none) (f:=22) TAB_chk MO hG Tryz.func22 (sg:=S22) (by kernel_rfl) (by kernel_rfl) (las [] (by kernel_rfl) trivial))
def f40{R:Type}(G:ORC R)(k:Nat)(a:Int)(a b c d e:LV)(c:Int)(K:LV→OV R):OV R:=
 (bif(decide (c<0))then(K [.agg [.int .i64 0,.int .i64 0,.int .i64 0,.int .i64 0,.sl 1 [],.sl 1 []],.agg [.str ⟨#[]⟩,.int .i64 0,.int .i64 0,.sl 1 [],.sl 1 [],.sl 1 [],.sl 7 [],.sl 6 [],.sl 1 []],.bool false])else(bif(decide (c≥(b.length:Int)))then(K [.agg [.int .i64 0,.int .i64 0,.int .i64 0,.int .i64 0,.sl 1 [],.sl 1 []],.agg [.str ⟨#[]⟩,.int .i64 0,.int .i64 0,.sl 1 [],.sl 1 [],.sl 1 [],.sl 7 [],.sl 6 [],.sl 1 []],.bool false])else(bif((decide (0≤c))&&(decide (c<(b.length:Int))))then(nthK b (Int.toNat c) fun d=>ca6 d fun d e f g h e=>aI .i64 d fun d=>bif(decide (d<0))then(K [.agg [.int .i64 0,.int .i64 0,.int .i64 0,.int .i64 0,.sl 1 [],.sl 1 []],.agg [.str ⟨#[]⟩,.int .i64 0,.int .i64 0,.sl 1 [],.sl 1 [],.sl 1 [],.sl 7 [],.sl 6 [],.sl 1 []],.bool false])else(bif((decide (0≤c))&&(decide (c<(b.length:Int))))then(nthK b (Int.toNat c) fun d=>ca6 d fun d e f g h e=>aI .i64 d fun d=>bif(decide (d≥(a.length:Int)))then(K [.agg [.int .i64 0,.int .i64 0,.int .i64 0,.int .i64 0,.sl 1 [],.sl 1 []],.agg [.str ⟨#[]⟩,.int .i64 0,.int .i64 0,.sl 1 [],.sl 1 [],.sl 1 [],.sl 7 [],.sl 6 [],.sl 1 []],.bool false])else(bif((decide (0≤c))&&(decide (c<(b.length:Int))))then(nthK b (Int.toNat c) fun d=>V.asAgg d fun d=>bif((decide (0≤c))&&(decide (c<(b.length:Int))))then(nthK b (Int.toNat c) fun b=>ca6 b fun b c e f g c=>aI .i64 b fun b=>bif((decide (0≤b))&&(decide (b<(a.length:Int))))then(nthK a (Int.toNat b) fun a=>V.asAgg a fun a=>ce6 d fun b c d e f g=>aI .i64 b fun b=>aI .i64 c fun c=>aI .i64 d fun d=>aI .i64 e fun e=>V.asSl f fun f h=>V.asSl g fun g i=>ce9 a fun a l m n o p q r s=>V.asStr a fun a=>aI .i64 l fun l=>aI .i64 m fun m=>V.asSl n fun n t=>V.asSl o fun o u=>V.asSl p fun p v=>V.asSl q fun q w=>V.asSl r fun r x=>V.asSl s fun s y=>K [.agg [.int .i64 b,.int .i64 c,.int .i64 d,.int .i64 e,.sl f h,.sl g i],.agg [.str a,.int .i64 l,.int .i64 m,.sl n t,.sl o u,.sl p v,.sl q w,.sl r x,.sl s y],.bool true])else none)else none)else none))else none))else none)))
abbrev g40 {R:Type} (G:ORC R) (k:Nat):LV→(LV→OV R)→OV R:=gF J29 (f40 G k)
theorem s40{R:Type}{G:ORC R}{k:Nat}(hG:Sound Tryz.prog TAB G):TL 40 (g40 G k):=
 gG J29 (by kernel_rfl) (callF_sound (L:=fun _ _ _=>none) (f:=40) TAB_chk MO hG Tryz.func40 (sg:=S40) (by kernel_rfl) (by kernel_rfl) (las [] (by kernel_rfl) trivial))
def f41{R:Type}(G:ORC R)(k:Nat)(a:Int)(b c d e f:LV)(g h:Int)(K:LV→OV R):OV R:=
 (G 40 [.agg [.int .i64 a,.sl 9 b,.sl 6 c,.sl 5 d,.sl 1 e,.sl 1 f],.int .i64 g] fun g=>uA g fun g i=>uI .i64 g fun g l=>uI .i64 l fun l m=>uI .i64 m fun m n=>uI .i64 n fun n o=>uL 1 o fun o p=>uL 1 p fun p q=>unNil q (uA i fun i q=>uS i fun i r=>uI .i64 r fun i r=>uI .i64 r fun i r=>uL 1 r fun i r=>uL 1 r fun i r=>uL 1 r fun i r=>uL 7 r fun r s=>uL 6 s fun r s=>uL 1 s fun r s=>unNil s (uB q fun q r=>unNil r (bif(!q)then(K [.bool false,.sl 1 []])else(bif(h==0)then(K [.bool true,.sl 1 []])else(bif(h==1)then(bif(decide (0+List.length i≤1073741824))then(K [.bool false,.sl 1 ([]++i)])else none)else(G 44 [.agg [.int .i64 a,.sl 9 b,.sl 6 c,.sl 5 d,.sl 1 e,.sl 1 f],.agg [.int .i64 g,.int .i64 l,.int .i64 m,.int .i64 n,.sl 1 o,.sl 1 p],.int .i64 h] fun g=>uA g fun g h=>uI .i64 g fun g i=>uI .i64 i fun i l=>uI .i64 l fun l m=>uI .i64 m fun l m=>uI .i64 m fun l m=>unNil m (uB h fun h l=>unNil l (G 40 [.agg [.int .i64 a,.sl 9 b,.sl 6 c,.sl 5 d,.sl 1 e,.sl 1 f],.int .i64 g] fun a=>uA a fun a b=>uI .i64 a fun a c=>uI .i64 c fun a c=>uI .i64 c fun a c=>uI .i64 c fun a c=>uL 1 c fun a c=>uL 1 c fun a c=>unNil c (uA b fun a b=>uS a fun a c=>uI .i64 c fun c d=>uI .i64 d fun d e=>uL 1 e fun e f=>uL 1 f fun f g=>uL 1 g fun g l=>uL 7 l fun l m=>uL 6 m fun m n=>uL 1 n fun n o=>unNil o (uB b fun b o=>unNil o (bif(!h)then(K [.bool false,.sl 1 []])else(bif(!b)then(K [.bool false,.sl 1 []])else(G 14 [.agg [.str a,.int .i64 c,.int .i64 d,.sl 1 e,.sl 1 f,.sl 1 g,.sl 7 l,.sl 6 m,.sl 1 n],.int .i64 i] fun a=>uL 1 a fun a b=>unNil b (K [.bool false,.sl 1 a])))))))))))))))
abbrev g41 {R:Type} (G:ORC R) (k:Nat):LV→(LV→OV R)→OV R:=gF J28 (f41 G k)
theorem s41{R:Type}{G:ORC R}{k:Nat}(hG:Sound Tryz.prog TAB G):TL 41 (g41 G k):=
 gG J28 (by kernel_rfl) (callF_sound (L:=fun _ _ _=>none) (f:=41) TAB_chk MO hG Tryz.func41 (sg:=S41) (by kernel_rfl) (by kernel_rfl) (las [] (by kernel_rfl) trivial))
def f43{R:Type}(G:ORC R)(k:Nat)(a b:Int)(c:ByteArray)(d e:Int)(f g h i l m n o p:LV)(n:Bool)(K:LV→OV R):OV R:=
 (G 16 [.agg [.str c,.int .i64 d,.int .i64 e,.sl 1 f,.sl 1 g,.sl 1 h,.sl 7 i,.sl 6 l,.sl 1 m],.sl 1 o,.int .i64 a] fun a=>uI .i64 a fun a f=>unNil f (K [.int .i64 (IntKind.i64.wrap (b*a)),.int .i64 b,.str c,.int .i64 d,.int .i64 e,.bool n]))
abbrev g43 {R:Type} (G:ORC R) (k:Nat):LV→(LV→OV R)→OV R:=gF J68 (f43 G k)
theorem s43{R:Type}{G:ORC R}{k:Nat}(hG:Sound Tryz.prog TAB G):TL 43 (g43 G k):=
 gG J68 (by kernel_rfl) (callF_sound (L:=fun _ _ _=>none) (f:=43) TAB_chk MO hG Tryz.func43 (sg:=S43) (by kernel_rfl) (by kernel_rfl) (las [] (by kernel_rfl) trivial))
def f44{R:Type}(G:ORC R)(k:Nat)(a:Int)(a b c d a:LV)(a b d e:Int)(a b:LV)(a:Int)(K:LV→OV R):OV R:=
 (bif(decide (a<2))then(K [.agg [.int .i64 0,.int .i64 0,.int .i64 0,.int .i64 0,.int .i64 0],.bool false])else(bif(decide (a≥(IntKind.i64.wrap (2+(b.length:Int)))))then(K [.agg [.int .i64 0,.int .i64 0,.int .i64 0,.int .i64 0,.int .i64 0],.bool false])else(bif((decide (0≤(IntKind.i64.wrap (a-2))))&&(decide ((IntKind.i64.wrap (a-2))<(b.length:Int))))then(nthK b (Int.toNat (IntKind.i64.wrap (a-2))) fun d=>aI .i64 d fun d=>bif(decide (d<0))then(K [.agg [.int .i64 0,.int .i64 0,.int .i64 0,.int .i64 0,.int .i64 0],.bool false])else(bif((decide (0≤(IntKind.i64.wrap (a-2))))&&(decide ((IntKind.i64.wrap (a-2))<(b.length:Int))))then(nthK b (Int.toNat (IntKind.i64.wrap (a-2))) fun d=>aI .i64 d fun d=>bif(decide (d≥(c.length:Int)))then(K [.agg [.int .i64 0,.int .i64 0,.int .i64 0,.int .i64 0,.int .i64 0],.bool false])else(bif((decide (0≤(IntKind.i64.wrap (a-2))))&&(decide ((IntKind.i64.wrap (a-2))<(b.length:Int))))then(nthK b (Int.toNat (IntKind.i64.wrap (a-2))) fun a=>aI .i64 a fun a=>bif((decide (0≤a))&&(decide (a<(c.length:Int))))then(nthK c (Int.toNat a) fun a=>V.asAgg a fun a=>ce5 a fun a b c d e=>aI .i64 a fun a=>aI .i64 b fun b=>aI .i64 c fun c=>aI .i64 d fun d=>aI .i64 e fun e=>K [.agg [.int .i64 a,.int .i64 b,.int .i64 c,.int .i64 d,.int .i64 e],.bool true])else none)else none))else none))else none)))
abbrev g44 {R:Type} (G:ORC R) (k:Nat):LV→(LV→OV R)→OV R:=gF J69 (f44 G k)
theorem s44{R:Type}{G:ORC R}{k:Nat}(hG:Sound Tryz.prog TAB G):TL 44 (g44 G k):=
 gG J69 (by kernel_rfl) (callF_sound (L:=fun _ _ _=>none) (f:=44) TAB_chk MO hG Tryz.func44 (sg:=S44) (by kernel_rfl) (by kernel_rfl) (las [] (by kernel_rfl) trivial))
def f83{R:Type}(G:ORC R)(k:Nat)(a:Int)(b c d:LV)(e:Int)(K:LV→OV R):OV R:=
 (bif((decide (0≤a))&&(decide (a<(b.length:Int))))then(nthK b (Int.toNat a) fun f=>V.asAgg f fun f=>G 82 [.agg f] fun f=>uB f fun f g=>unNil g (bif(!f)then(K [.sl 1 [.int .i64 a],.sl 1 d,.int .i64 e])else(bif(decide (a<(c.length:Int)))then(bif((decide (0≤a))&&(decide (a<(c.length:Int))))then(nthK c (Int.toNat a) fun f=>V.asSl f fun f g=>bif(decide ((g.length:Int)>0))then(bif((decide (0≤a))&&(decide (a<(c.length:Int))))then(nthK c (Int.toNat a) fun c=>V.asSl c fun c f=>K [.sl c f,.sl 1 d,.int .i64 e])else none)else(bif((decide (0≤a))&&(decide (a<(b.length:Int))))then(nthK b (Int.toNat a) fun c=>ca7 c fun c f g h c i g=>aI .i64 f fun c=>G 80 [.sl 7 b,.int .i64 c] fun f=>uB f fun f g=>unNil g (bif(!f)then(K [.sl 1 [],.sl 1 d,.int .i64 e])else(bif((decide (0≤c))&&(decide (c<(b.length:Int))))then(nthK b (Int.toNat c) fun f=>ca7 f fun f g h i l g h=>aI .i64 f fun f=>bif(f==2)then(bif((decide (0≤c))&&(decide (c<(b.length:Int))))then(nthK b (Int.toNat c) fun f=>ca7 f fun f g h i f g h=>aI .i64 i fun f=>K [.sl 1 [.int .i64 f],.sl 1 d,.int .i64 e])else none)else(G 95 [.sl 7 b,.int .i64 c] fun c=>uL 1 c fun c f=>unNil f (K [.sl 1 c,.sl 1 d,.int .i64 e])))else none)))else none))else none)else(bif((decide (0≤a))&&(decide (a<(b.length:Int))))then(nthK b (Int.toNat a) fun a=>ca7 a fun a c f g a h f=>aI .i64 c fun a=>G 80 [.sl 7 b,.int .i64 a] fun c=>uB c fun c f=>unNil f (bif(!c)then(K [.sl 1 [],.sl 1 d,.int .i64 e])else(bif((decide (0≤a))&&(decide (a<(b.length:Int))))then(nthK b (Int.toNat a) fun c=>ca7 c fun c f g h i f g=>aI .i64 c fun c=>bif(c==2)then(bif((decide (0≤a))&&(decide (a<(b.length:Int))))then(nthK b (Int.toNat a) fun c=>ca7 c fun c f g h c f g=>aI .i64 h fun c=>K [.sl 1 [.int .i64 c],.sl 1 d,.int .i64 e])else none)else(G 95 [.sl 7 b,.int .i64 a] fun a=>uL 1 a fun a b=>unNil b (K [.sl 1 a,.sl 1 d,.int .i64 e])))else none)))else none))))else none)
abbrev g83 {R:Type} (G:ORC R) (k:Nat):LV→(LV→OV R)→OV R:=gF J98 (f83 G k)
theorem s83{R:Type}{G:ORC R}{k:Nat}(hG:Sound Tryz.prog TAB G):TL 83 (g83 G k):=
 gG J98 (by kernel_rfl) (callF_sound (L:=fun _ _ _=>none) (f:=83) TAB_chk MO hG Tryz.func83 (sg:=S83) (by kernel_rfl) (by kernel_rfl) (las [] (by kernel_rfl) trivial))
def P84_0h:Pat:={tmps:=unds [pS 0,pI,pI,pU,pU,pU,pI] 44 [],boxes:=nons [some B22] 51 []}
def P84_0x:Pat:={tmps:=unds [] 51 [],boxes:=nons [some B22] 51 []}
def b84_0{R:Type}(G:ORC R)(k:Nat)(X:Cu R J119)(Ko:Cu R J96)(a b c:Int)(d e f:LV)(g:Int):OV R:=
 (bif(decide (c>b))then(G 80 [.sl 7 d,.int .i64 c] fun h=>uB h fun h i=>unNil i (bif h then(G 96 [.sl 7 d,.int .i64 a,.int .i64 c] fun h=>uB h fun h i=>unNil i (bif h then(G 96 [.sl 7 d,.int .i64 c,.int .i64 b] fun h=>uB h fun h i=>unNil i (bif h then(G 81 [.sl 7 d,.sl 1 e,.sl 1 f,.int .i64 g] fun h=>uB h fun h i=>uL 1 i fun i l=>uI .i64 l fun l m=>unNil m (bif h then(bif((decide (0≤c))&&(decide (c<(i.length:Int))))then(nthK i (Int.toNat c) fun h=>G 85 [.int .i64 c,.sl 7 d,.sl 1 e,.sl 1 (List.set i (Int.toNat c) (.bool true)),.int .i64 l] fun h=>uL 1 h fun h m=>uI .i64 m fun m n=>unNil n (X a b (IntKind.i64.wrap (c-1)) d e h m))else none)else(X a b (IntKind.i64.wrap (c-1)) d e i l)))else(X a b (IntKind.i64.wrap (c-1)) d e f g)))else(X a b (IntKind.i64.wrap (c-1)) d e f g)))else(X a b (IntKind.i64.wrap (c-1)) d e f g)))else(Ko d e f g))
def l84_0g{R:Type}(G:ORC R)(k:Nat)(Ko:Cu R J96)(j:Nat):Cu R J119:=lup J119 (fun X=>b84_0 G k X Ko) j
def l84_0{R:Type}(G:ORC R)(k:Nat)(a b c:Int)(d e f:LV)(g:Int)(Ko:Cu R J96):OV R:=l84_0g G k Ko k a b c d e f g
def L84{R:Type}(G:ORC R)(k:Nat):Nat→St→(Ex→St→OV R)→OV R
 |0,S,K=>P84_0h.mat S fun vs=>uc J119 (l84_0g G k (koX J96 P84_0x K) k) vs none
 |_,_,_=>none
def f84{R:Type}(G:ORC R)(k:Nat)(a b:Int)(c d e:LV)(f:Int)(K:LV→OV R):OV R:=
 (l84_0 G k a b (IntKind.i64.wrap (a-1)) c d e f (fun a b c d=>K [.sl 1 c,.int .i64 d]))
abbrev g84 {R:Type} (G:ORC R) (k:Nat):LV→(LV→OV R)→OV R:=gF J120 (f84 G k)
theorem s84{R:Type}{G:ORC R}{k:Nat}(hG:Sound Tryz.prog TAB G):TL 84 (g84 G k):=
 gG J120 (by kernel_rfl) (callF_sound (L:=L84 G k) (f:=84) TAB_chk MO hG Tryz.func84 (sg:=S84) (by kernel_rfl) (by kernel_rfl) (las [0] (by kernel_rfl) ⟨loopIs J119 k (fun K X=>b84_0 G k X (koX J96 P84_0x K)) P84_0h P84_0x default (by kernel_rfl) (by kernel_rfl) (by kernel_rfl) (fun K X=>by kernel_rfl) (fun S K=>by kernel_rfl),trivial⟩))
def f96{R:Type}(G:ORC R)(k:Nat)(a:LV)(b c:Int)(K:LV→OV R):OV R:=
 (bif(b !=c)then(G 76 [.sl 7 a,.int .i64 b,.int .i64 c] fun a=>uB a fun a b=>unNil b (K [.bool a]))else(K [.bool false]))
abbrev g96 {R:Type} (G:ORC R) (k:Nat):LV→(LV→OV R)→OV R:=gF J107 (f96 G k)
theorem s96{R:Type}{G:ORC R}{k:Nat}(hG:Sound Tryz.prog TAB G):TL 96 (g96 G k):=
 gG J107 (by kernel_rfl) (callF_sound (L:=fun _ _ _=>none) (f:=96) TAB_chk MO hG Tryz.func96 (sg:=S96) (by kernel_rfl) (by kernel_rfl) (las [] (by kernel_rfl) trivial))
def f98{R:Type}(G:ORC R)(k:Nat)(a:Int)(b c d:LV)(K:LV→OV R):OV R:=
 (bif((decide (0≤a))&&(decide (a<(b.length:Int))))then(nthK b (Int.toNat a) fun e=>V.asAgg e fun e=>ce7 e fun e f g h i l m=>aI .i64 e fun e=>aI .i64 f fun f=>aI .i64 g fun g=>aI .i64 h fun h=>aI .i64 i fun i=>aI .i64 l fun l=>V.asStr m fun m=>G 89 [.agg [.int .i64 e,.int .i64 f,.int .i64 g,.int .i64 h,.int .i64 i,.int .i64 l,.str m]] fun e=>uB e fun e g=>unNil g (bif e then(K [.sl 1 [.int .i64 a],.sl 1 d])else(bif(decide (a<(c.length:Int)))then(bif((decide (0≤a))&&(decide (a<(c.length:Int))))then(nthK c (Int.toNat a) fun e=>V.asSl e fun e g=>bif(decide ((g.length:Int)>0))then(bif((decide (0≤a))&&(decide (a<(c.length:Int))))then(nthK c (Int.toNat a) fun a=>V.asSl a fun a c=>K [.sl a c,.sl 1 d])else none)else(bif((decide (0≤f))&&(decide (f<(b.length:Int))))then(nthK b (Int.toNat f) fun a=>ca7 a fun a c e g h c e=>aI .i64 a fun a=>bif(a==2)then(bif((decide (0≤f))&&(decide (f<(b.length:Int))))then(nthK b (Int.toNat f) fun a=>ca7 a fun a c e g a c e=>aI .i64 g fun a=>K [.sl 1 [.int .i64 a],.sl 1 d])else none)else(G 109 [.sl 7 b,.int .i64 f] fun a=>uL 1 a fun a c=>unNil c (K [.sl 1 a,.sl 1 d])))else none))else none)else(bif((decide (0≤f))&&(decide (f<(b.length:Int))))then(nthK b (Int.toNat f) fun a=>ca7 a fun a c e g h c e=>aI .i64 a fun a=>bif(a==2)then(bif((decide (0≤f))&&(decide (f<(b.length:Int))))then(nthK b (Int.toNat f) fun a=>ca7 a fun a c e g a c e=>aI .i64 g fun a=>K [.sl 1 [.int .i64 a],.sl 1 d])else none)else(G 109 [.sl 7 b,.int .i64 f] fun a=>uL 1 a fun a b=>unNil b (K [.sl 1 a,.sl 1 d])))else none))))else none)
abbrev g98 {R:Type} (G:ORC R) (k:Nat):LV→(LV→OV R)→OV R:=gF J124 (f98 G k)
theorem s98{R:Type}{G:ORC R}{k:Nat}(hG:Sound Tryz.prog TAB G):TL 98 (g98 G k):=
 gG J124 (by kernel_rfl) (callF_sound (L:=fun _ _ _=>none) (f:=98) TAB_chk MO hG Tryz.func98 (sg:=S98) (by kernel_rfl) (by kernel_rfl) (las [] (by kernel_rfl) trivial))
def P99_0h:Pat:={tmps:=unds [pS 0,pU,pI,pU,pU,pU,pI] 54 [],boxes:=nons [some B24] 61 []}
def P99_0x:Pat:={tmps:=unds [] 61 [],boxes:=nons [some B24] 61 []}
def b99_0{R:Type}(G:ORC R)(k:Nat)(X:Cu R J129)(Ko:Cu R J123)(a b:Int)(c d e:LV):OV R:=
 (bif(decide (b≥0))then(bif(b !=a)then(G 79 [.sl 7 c,.int .i64 b,.int .i64 a] fun f=>uB f fun f g=>unNil g (bif f then(bif(decide (List.length e+1≤1073741824))then(bif((decide (0≤b))&&(decide (b<(c.length:Int))))then(nthK c (Int.toNat b) fun f=>ca7 f fun f g h i l g h=>aI .i64 f fun f=>bif(f==3)then(G 100 [.int .i64 b,.sl 7 c,.sl 1 d,.sl 1 (e++[.int .i64 b])] fun f=>uL 1 f fun f g=>unNil g (bif((decide (0≤b))&&(decide (b<(c.length:Int))))then(nthK c (Int.toNat b) fun g=>ca7 g fun g h i l g m i=>aI .i64 h fun g=>X a g c d f)else none))else(bif((decide (0≤b))&&(decide (b<(c.length:Int))))then(nthK c (Int.toNat b) fun f=>ca7 f fun f g h i f l h=>aI .i64 g fun f=>X a f c d (e++[.int .i64 b]))else none))else none)else none)else(Ko c d e)))else(Ko c d e))else(Ko c d e))
def l99_0g{R:Type}(G:ORC R)(k:Nat)(Ko:Cu R J123)(j:Nat):Cu R J129:=lup J129 (fun X=>b99_0 G k X Ko) j
def l99_0{R:Type}(G:ORC R)(k:Nat)(a b:Int)(c d e:LV)(Ko:Cu R J123):OV R:=l99_0g G k Ko k a b c d e
def L99{R:Type}(G:ORC R)(k:Nat):Nat→St→(Ex→St→OV R)→OV R
 |0,S,K=>P99_0h.mat S fun vs=>uc J129 (l99_0g G k (koX J123 P99_0x K) k) vs none
 |_,_,_=>none
def f99{R:Type}(G:ORC R)(k:Nat)(a b:Int)(c d e:LV)(K:LV→OV R):OV R:=
 (bif((decide (0≤a))&&(decide (a<(c.length:Int))))then(nthK c (Int.toNat a) fun a=>ca7 a fun a f g h a i g=>aI .i64 f fun a=>l99_0 G k b a c d e (fun a b c=>K [.sl 1 c]))else none)
abbrev g99 {R:Type} (G:ORC R) (k:Nat):LV→(LV→OV R)→OV R:=gF J129 (f99 G k)
theorem s99{R:Type}{G:ORC R}{k:Nat}(hG:Sound Tryz.prog TAB G):TL 99 (g99 G k):=
 gG J129 (by kernel_rfl) (callF_sound (L:=L99 G k) (f:=99) TAB_chk MO hG Tryz.func99 (sg:=S99) (by kernel_rfl) (by kernel_rfl) (las [0] (by kernel_rfl) ⟨loopIs J129 k (fun K X=>b99_0 G k X (koX J123 P99_0x K)) P99_0h P99_0x default (by kernel_rfl) (by kernel_rfl) (by kernel_rfl) (fun K X=>by kernel_rfl) (fun S K=>by kernel_rfl),trivial⟩))
def P65578_0h:Pat:={tmps:=unds [pU,pI,.stat (.one (.fn 43 [.ptr 0 0,.ptr 1 0,.ptr 2 0]) .pt),pU,pU,pU,pU,.var (.sl 1) (.own true)] 7 (unds [.var (.sl 5) .ro,pI,pI] 17 []),boxes:=nons [some [.var (.int .i64) .pr false],some B26,some B27] 35 []}
def P65578_0x:Pat:={tmps:=unds [] 7 (unds [.var (.sl 1) (.own true)] 27 []),boxes:=nons [some [.var (.int .i64) .pr false],some B26,some B27] 35 []}
def b65578_0{R:Type}(G:ORC R)(k:Nat)(X:Cu R J142)(Ko:Cu R J141)(a:Int)(b c:LV)(d e f:Int)(g:ByteArray)(h i:Int)(l m n o p q r s t:LV)(u:Bool):OV R:=
 (bif(decide (e<d))then(bif((decide (0≤e))&&(decide (e<(c.length:Int))))then(nthK c (Int.toNat e) fun v=>V.asAgg v fun v=>ce5 v fun v w x y z=>aI .i64 v fun v=>aI .i64 w fun w=>aI .i64 x fun x=>aI .i64 y fun x=>aI .i64 z fun x=>bif(v==a)then(G 43 [.int .i64 w,.int .i64 f,.str g,.int .i64 h,.int .i64 i,.sl 1 l,.sl 1 m,.sl 1 n,.sl 7 o,.sl 6 p,.sl 1 q,.sl 1 r,.sl 1 s,.sl 1 t,.bool u] fun v=>uI .i64 v fun v w=>uI .i64 w fun w x=>uS x fun x y=>uI .i64 y fun y z=>uI .i64 z fun z A=>uB A fun A B=>unNil B (bif((decide (0≤e))&&(decide (e<(b.length:Int))))then(nthK b (Int.toNat e) fun B=>X a (List.set b (Int.toNat e) (.int .i64 v)) c d (IntKind.i64.wrap (e+1)) w x y z l m n o p q r s t A)else none))else(X a b c d (IntKind.i64.wrap (e+1)) f g h i l m n o p q r s t u))else none)else(Ko b f g h i l m n o p q r s t u))
def l65578_0g{R:Type}(G:ORC R)(k:Nat)(Ko:Cu R J141)(j:Nat):Cu R J142:=lup J142 (fun X=>b65578_0 G k X Ko) j
def l65578_0{R:Type}(G:ORC R)(k:Nat)(a:Int)(b c:LV)(d e f:Int)(g:ByteArray)(h i:Int)(l m n o p q r s t:LV)(u:Bool)(Ko:Cu R J141):OV R:=l65578_0g G k Ko k a b c d e f g h i l m n o p q r s t u
def L65578{R:Type}(G:ORC R)(k:Nat):Nat→St→(Ex→St→OV R)→OV R
 |0,S,K=>P65578_0h.mat S fun vs=>uc J142 (l65578_0g G k (koX J141 P65578_0x K) k) vs none
 |_,_,_=>none
def f65578{R:Type}(G:ORC R)(k:Nat)(a:Int)(a b c d a:LV)(a b:Int)(d:ByteArray)(e f:Int)(g h i l m n o p q:LV)(r:Bool)(K:LV→OV R):OV R:=
 (bif(((decide (0≤(c.length:Int)))&&(decide ((c.length:Int)≤(c.length:Int))))&&(decide ((c.length:Int)≤1073741824)))then(l65578_0 G k a (List.replicate (Int.toNat (c.length:Int)) (V.int .i64 0)) c (c.length:Int) 0 b d e f g h i l m n o p q r (fun a b c d e f g h i f g h i f g=>K [.sl 1 a,.int .i64 b,.str c,.int .i64 d,.int .i64 e,.bool g]))else none)
abbrev g65578 {R:Type} (G:ORC R) (k:Nat):LV→(LV→OV R)→OV R:=gF J143 (f65578 G k)
theorem s65578{R:Type}{G:ORC R}{k:Nat}(hG:Sound Tryz.prog TAB G):TL 65578 (g65578 G k):=
 gG J143 (by kernel_rfl) (callF_sound (L:=L65578 G k) (f:=65578) TAB_chk MO hG Tryz.func42 (sg:=S65578) (by kernel_rfl) (by kernel_rfl) (las [0] (by kernel_rfl) ⟨loopIs J142 k (fun K X=>b65578_0 G k X (koX J141 P65578_0x K)) P65578_0h P65578_0x default (by kernel_rfl) (by kernel_rfl) (by kernel_rfl) (fun K X=>by kernel_rfl) (fun S K=>by kernel_rfl),trivial⟩))
set_option linter.unusedSimpArgs false
set_option maxHeartbeats 8000000
section
variable {R : Type} {G : ORC R} {k : Nat} {K : LV → OV R}
def CIsOK(G:ORC R):Prop:=∀(l:LV) (i:Int) (K:LV→OV R),W (fun o=>o=[.bool (decide (0≤i∧i<l.length))]) K (G 94 [.sl 7 l,.int .i64 i] K)
theorem cis_ok:CIsOK (fun _ args (K:LV→OV R)=>g94 G k args K):=by
 intro l i K
 show W _ K (f94 G k l i K)
 unfold f94
 refine W_dec (fun h=> ?_) (fun h=> ?_)
 ·exact W_ret (by congr 3;simp;omega)
 ·exact W_ret (by congr 2;symm;rw[decide_eq_false];omega)
def CInOK(G:ORC R):Prop:=∀(l:List Nd) (a b:Int) (K:LV→OV R),W (fun o=>o=[.bool (inN l a b)]) K (G 76 [.sl 7 (l.map Nd.v),.int .i64 a,.int .i64 b] K)
theorem cin_ok(hI:CIsOK G):CInOK (fun _ args (K:LV→OV R)=>g76 G k args K):=by
 intro l a b K
 show W _ K (f76 G k (l.map Nd.v) a b K)
 unfold f76
 unfold CIsOK at hI
 have no:¬(0≤a∧a<l.length∧0≤b∧b<l.length∧a≥b)→inN l a b=false:=fun h=>by unfold inN;rw[decide_eq_false h];rfl
 refine W_call (hI _ _ _) ?_
 rintro _ rfl
 (repeat(with_reducible apply U1))
 simp only[List.length_map]
 refine W_dec (fun h1=> ?_) (fun h1=>W_ret (by rw[no (by omega)]))
 refine W_call (hI _ _ _) ?_
 rintro _ rfl
 (repeat(with_reducible apply U1))
 simp only[List.length_map]
 refine W_dec (fun h2=> ?_) (fun h2=>W_ret (by rw[no (by omega)]))
 refine W_dec (fun h3=> ?_) (fun h3=>W_ret (by rw[no (by omega)]))
 refine W_and (W_yes h2.1 (W_yes h2.2 ?_))
 refine W_nthN (by omega) (fun n hn=>W_nd ?_)
 (repeat(with_reducible apply U1))
 have e:inN l a b=decide (a≤n.last):=by
  unfold inN
  rw[decide_eq_true (show 0≤a∧a<l.length∧0≤b∧b<l.length∧a≥b from⟨h1.1,h1.2,h2.1,h2.2,h3⟩),hn];rfl
 exact W_ret (by rw[e])
end
end Go.Proofs.YtnimfaaefdlepaaGreat.Vm
namespace Go.VM
def hasL(l:List Int)(i:Int):Bool:=decide (i∈l)
def notL(a b:List Int):List Int:=a.filter fun x=> !hasL b x
def andL(a b:List Int):List Int:=notL a (notL a b)
theorem hasL_iff{l:List Int}{i:Int}:hasL l i=true↔i∈l:=by simp[hasL]
theorem andL_eq{a b:List Int}:andL a b=a.filter (hasL b):=by
 unfold andL notL
 apply List.filter_congr
 intro x hx
 simp[hasL,hx]
def ofGo(l:List Int):Nat→List Int
 |0=>[]
 |m+1=>ofGo l m++if hasL l m then[(m:Int)]else[]
def ofL(l:List Int):List Int:=ofGo l 128
theorem ofGo_len{l:List Int}:∀{m:Nat},(ofGo l m).length≤m
 |0=>Nat.le_refl 0
 |m+1=>by have:=ofGo_len (l:=l) (m:=m);unfold ofGo;split<;>simp<;>omega
theorem ofGo_more{l:List Int}{m:Nat}(h:∀x∈l,x<m):∀{d:Nat},ofGo l (m+d)=ofGo l m
 |0=>rfl
 |d+1=>by
  rw[show m+(d+1)=(m+d)+1 by omega,ofGo,ofGo_more h (d:=d),if_neg,List.append_nil]
  intro hh
  have:=h _ (hasL_iff.1 hh)
  omega
def isSt(ns:List Nd)(k:Int):Bool:=match ns[k.toNat]? with|some n=>decide (n.kind≤3)|none=>false
def statesN(ns:List Nd)(i:Int):List Int:=(kidsN ns i).filter (isSt ns)
theorem take_snoc{l:List Int}{m:Nat}{c:Int}(h:l[m]? =some c):l.take (m+1)=l.take m++[c]:=by
 rw[List.take_add_one,h];rfl
def actV(n:Nat)(s:List Int):LV:=(List.range n).map fun j:Nat=>.bool (hasL s j)
theorem actV_len{n:Nat}{s:List Int}:(actV n s).length=n:=by simp[actV]
theorem actV_get{n:Nat}{s:List Int}{j:Nat}(h:j<n):(actV n s)[j]? =some (.bool (hasL s j)):=by unfold actV;simp[h]
theorem actV_nil{n:Nat}:List.replicate n (V.bool false)=actV n []:=by
 apply List.ext_getElem?
 intro i
 by_cases h:i<n
 ·rw[actV_get h];simp[h,hasL]
 ·rw[List.getElem?_eq_none (by simp;omega),List.getElem?_eq_none (by rw[actV_len];omega)]
theorem actV_set{n:Nat}{s:List Int}{i:Int}(h0:0≤i)(hi:i<n):(actV n s).set i.toNat (.bool true)=actV n (s++[i]):=by
 apply List.ext_getElem?
 intro j
 rw[List.getElem?_set,actV_len]
 by_cases hj:i.toNat=j
 ·subst hj
  rw[if_pos rfl,if_pos (by omega),actV_get (by omega)]
  congr 2
  symm;rw[hasL_iff];simp;omega
 ·rw[if_neg hj]
  by_cases h:j<n
  ·rw[actV_get h,actV_get h]
   congr 2
   unfold hasL
   have:(j:Int)∈s↔(j:Int)∈s++[i]:=by simp;omega
   by_cases hs:(j:Int)∈s
   ·rw[decide_eq_true hs,decide_eq_true (this.1 hs)]
   ·rw[decide_eq_false hs,decide_eq_false (fun h=>hs (this.2 h))]
  ·rw[List.getElem?_eq_none (by rw[actV_len];omega),List.getElem?_eq_none (by rw[actV_len];omega)]
def chainF(ns:List Nd):Nat→Int→List Int
 |0,_=>[]
 |f+1,c=>if 0≤c then(match ns[c.toNat]? with|some n=>c::chainF ns f n.parent|none=>[])else[]
def chainN(ns:List Nd)(c:Int):List Int:=chainF ns (ns.length+1) c
theorem chainF_neg{ns:List Nd}{f:Nat}{c:Int}(h:c<0):chainF ns f c=[]:=by
 cases f with
 |zero=>rfl
 |succ f=>unfold chainF;rw[if_neg (by omega)]
theorem chainF_stable{ns:List Nd}(T:Tree ns):∀(f f':Nat) (c:Int),c<f→c<f'→chainF ns f c=chainF ns f' c
 |0,f',c,h1,h2=>by rw[chainF_neg (by omega),chainF_neg (by omega)]
 |f+1,0,c,h1,h2=>by rw[chainF_neg (by omega),chainF_neg (by omega)]
 |f+1,f'+1,c,h1,h2=>by
  unfold chainF
  by_cases h0:0≤c
  ·rw[if_pos h0,if_pos h0]
   cases hn:ns[c.toNat]? with
   |none=>rfl
   |some n=>
    have:=T.seg.par c.toNat n hn
    show c::_=c::_
    rw[chainF_stable T f f' n.parent (by omega) (by omega)]
  ·rw[if_neg h0,if_neg h0]
theorem chain_neg{ns:List Nd}{c:Int}(h:c<0):chainN ns c=[]:=chainF_neg h
theorem chain_cons{ns:List Nd}(T:Tree ns){c:Int}{n:Nd}(h0:0≤c)(hn:ns[c.toNat]? =some n):chainN ns c=c::chainN ns n.parent:=by
 have:=T.seg.par c.toNat n hn
 have hl:=(List.getElem?_eq_some_iff.1 hn).1
 unfold chainN
 conv=>lhs;unfold chainF
 rw[if_pos h0,hn]
 show c::_=c::_
 rw[chainF_stable T ns.length (ns.length+1) n.parent (by omega) (by omega)]
theorem chain_all{ns:List Nd}(T:Tree ns):∀(f:Nat) (c:Int),c<f→c<ns.length→(chainN ns c).length≤f∧∀x∈chainN ns c,(0≤x∧x≤c)∧(x=c∨∃n,ns[x.toNat]? =some n∧(n.kind=2∨n.kind=3))∧∀y∈chainN ns x,y∈chainN ns c
 |f,c,h1,h2=>by
  rcases Int.lt_or_le c 0 with h0|h0
  ·rw[chain_neg h0];simp
  ·cases f with
   |zero=>omega
   |succ f=>
   obtain⟨n,hn⟩:∃n,ns[c.toNat]? =some n:=⟨_,List.getElem?_eq_getElem (by omega)⟩
   have hp:=T.seg.par c.toNat n hn
   have ec:=chain_cons T h0 hn
   obtain⟨k1,k2⟩:=chain_all T f n.parent (by omega) (by omega)
   refine⟨by rw[ec,List.length_cons];omega,?_⟩
   intro x hx
   rw[ec]at hx
   rcases List.mem_cons.1 hx with rfl|hx
   ·exact⟨⟨h0,Int.le_refl _⟩,.inl rfl,fun y hy=>hy⟩
   ·obtain⟨⟨a1,a2⟩,a3,a4⟩:=k2 x hx
    refine⟨⟨a1,by omega⟩,.inr ?_,fun y hy=>by rw[ec];exact List.mem_cons_of_mem _ (a4 y hy)⟩
    rcases a3 with rfl|a3
    ·obtain⟨p,p1,p2⟩:=T.seg.kid c.toNat n hn (by omega)
     exact⟨p,by simpa using p1,p2⟩
    ·exact a3
theorem chain_mem{ns:List Nd}(T:Tree ns){c x:Int}(hc:c<ns.length)(hx:x∈chainN ns c):(0≤x∧x≤c)∧(x=c∨∃n,ns[x.toNat]? =some n∧(n.kind=2∨n.kind=3))∧∀y∈chainN ns x,y∈chainN ns c:=
 (chain_all T (c.toNat+1) c (by omega) hc).2 x hx
def atomAt(ns:List Nd)(c:Int):Bool:=decide (0≤c∧c<ns.length)&&(match ns[c.toNat]? with|some n=>decide (n.kind=1)|none=>false)
theorem atomAt_iff{ns:List Nd}{c:Int}:atomAt ns c=true↔0≤c∧c<ns.length∧∃n,ns[c.toNat]? =some n∧n.kind=1:=by
 unfold atomAt
 rw[Bool.and_eq_true,decide_eq_true_eq]
 constructor
 ·rintro⟨⟨h1,h2⟩,h3⟩
  cases hn:ns[c.toNat]? with
  |none=>rw[hn]at h3;simp at h3
  |some n=>rw[hn]at h3;exact⟨h1,h2,n,rfl,by simpa using h3⟩
 ·rintro⟨h1,h2,n,h3,h4⟩
  rw[h3];exact⟨⟨h1,h2⟩,by simpa using h4⟩
end Go.VM
namespace Go.Proofs.YtnimfaaefdlepaaGreat.Vm
section
variable {R : Type} {G : ORC R} {k : Nat} {K : LV → OV R} {Q : LV → Prop}
def memN(n:Nat)(s:List Int):List Int:=((List.range n).filter fun j:Nat=>hasL s j).map fun j:Nat=>(j:Int)
theorem memN_succ{n:Nat}{s:List Int}:memN (n+1) s=memN n s++if hasL s n then[(n:Int)]else[]:=by
 unfold memN
 rw[List.range_succ,List.filter_append,List.map_append]
 congr 1
 cases h:hasL s n<;>simp[h]
theorem memN_len{n:Nat}{s:List Int}:(memN n s).length≤n:=by
 unfold memN
 rw[List.length_map]
 exact Nat.le_trans (List.length_filter_le _ _) (by simp)
theorem mem_memN{n:Nat}{s:List Int}{x:Int}:x∈memN n s↔(0≤x∧x<n)∧x∈s:=by
 unfold memN
 rw[List.mem_map]
 constructor
 ·rintro⟨j,hj,rfl⟩
  obtain⟨h1,h2⟩:=List.mem_filter.1 hj
  exact⟨⟨by omega,by have:=List.mem_range.1 h1;omega⟩,hasL_iff.1 h2⟩
 ·rintro⟨⟨h0,h1⟩,h2⟩
  exact⟨x.toNat,List.mem_filter.2 ⟨List.mem_range.2 (by omega),by rw[show((x.toNat:Nat):Int)=x by omega];exact hasL_iff.2 h2⟩,by omega⟩
def PlacesOK(G:ORC R):Prop:=∀(n:Nat) (s:List Int) (K:LV→OV R),n≤1000→W (fun o=>o=[.sl 1 (ivs (memN n s))]) K (G 55 [.sl 1 (actV n s)] K)
theorem places_loop{Ko:LV→OV R}{n:Nat}{s:List Int}(hn:n≤1000)(hKo:W Q K (Ko (ivs (memN n s)))):
 ∀(j i:Nat),n-i<j→i≤n→W Q K (l55_0g G k Ko j (ivs (memN i s)) (actV n s) n i)
 |0,i,h1,h2=>by omega
 |j+1,i,h1,h2=>by
  show W Q K (b55_0 G k (l55_0g G k Ko j) Ko (ivs (memN i s)) (actV n s) n i)
  unfold b55_0
  refine W_dec (fun h=> ?_) (fun h=>by rw[show i=n by omega];exact hKo)
  have next:=places_loop (Ko:=Ko) hn hKo j (i+1) (by omega) (by omega)
  rw[memN_succ]at next
  have hl:=memN_len (n:=i) (s:=s)
  refine W_at (by omega) (by rw[Int.toNat_natCast];exact actV_get (by omega)) ?_
  (repeat(with_reducible apply U1))
  rw[wrap_id (n:=(i:Int)+1) (by omega)]
  refine W_bool (fun hb=> ?_) (fun hb=> ?_)
  ·refine W_yes (by rw[ivs_len];omega) ?_
   rw[hb,if_pos rfl,ivs_app]at next
   exact next
  ·rw[hb,if_neg (by simp),List.append_nil]at next
   exact next
theorem places_ok(hk:10000≤k):PlacesOK (fun _ args (K:LV→OV R)=>g55 G k args K):=by
 intro n s K hn
 show W _ K (f55 G k (actV n s) K)
 unfold f55 l55_0
 rw[actV_len]
 exact places_loop (Q:=fun o=>o=[.sl 1 (ivs (memN n s))]) (Ko:=fun x=>K [.sl 1 x]) hn (W_ret rfl) k 0 (by omega) (by omega)
def putC(N:Nat)(C:List Int)(c:Int):List Int:=if 0≤c∧c<N then C++[c]else C
structure Srch where
 nm:ByteArray
 st:Int
 fu:Int
 vars:LV
 ports:LV
 timers:LV
 ns:List Nd
 es:LV
 cs:LV
 any:Bool
 ev:LV
def CodeOK(G:ORC R):Prop:=∀(x:Srch) (c:Int) (er ra:LV) (N:Nat) (C:List Int) (K:LV→OV R),W (fun o=>o=[.str x.nm,.int .i64 x.st,.int .i64 x.fu,.bool x.any,.sl 1 (actV N (putC N C c))]) K
 (G 30 [.int .i64 c,.str x.nm,.int .i64 x.st,.int .i64 x.fu,.sl 1 x.vars,.sl 1 x.ports,.sl 1 x.timers,.sl 7 (x.ns.map Nd.v),.sl 6 x.es,.sl 1 x.cs,.bool x.any,.sl 1 x.ev,.sl 1 er,.sl 1 (actV N C),.sl 1 ra] K)
theorem code_ok:CodeOK (fun _ args (K:LV→OV R)=>g30 G k args K):=by
 intro x c er ra N C K
 show W _ K (f30 G k c x.nm x.st x.fu x.vars x.ports x.timers (x.ns.map Nd.v) x.es x.cs x.any x.ev er (actV N C) ra K)
 unfold f30 putC
 rw[actV_len]
 refine W_dec (fun h0=> ?_) (fun h0=>W_ret (by rw[if_neg (by omega)]))
 refine W_dec (fun h1=> ?_) (fun h1=>W_ret (by rw[if_neg (by omega)]))
 have hat:(actV N C)[c.toNat]? =some (.bool (hasL C c)):=by rw[actV_get (by omega),show((c.toNat:Nat):Int)=c by omega]
 have:=W_at (Q:=fun o=>o=[.str x.nm,.int .i64 x.st,.int .i64 x.fu,.bool x.any,.sl 1 (actV N (if 0≤c∧c<N then C++[c]else C))]) (K:=K) (E:=none) (F:=fun _=>K [.str x.nm,.int .i64 x.st,.int .i64 x.fu,.bool x.any,.sl 1 (List.set (actV N C) (Int.toNat c) (.bool true))]) (by omega) hat (W_ret (by rw[actV_set h0 h1,if_pos ⟨h0,h1⟩]))
 rw[actV_len]at this
 exact this
def nodC(ns:List Nd)(N:Nat)(dom:Int):Nat→List Int→List Int
 |0,C=>C
 |i+1,C=>match ns[i]? with
  |some n=>if(i:Int)≠dom∧inN ns i dom=true then putC N (putC N (nodC ns N dom i C) n.entry) n.exit else nodC ns N dom i C
  |none=>nodC ns N dom i C
theorem nodC_at{ns:List Nd}{N:Nat}{dom:Int}{i:Nat}{C:List Int}{n:Nd}(h:ns[i]? =some n):nodC ns N dom (i+1) C=if(i:Int)≠dom∧inN ns i dom=true then putC N (putC N (nodC ns N dom i C) n.entry) n.exit else nodC ns N dom i C:=by
 show(match ns[i]? with|some n=>_|none=>_)=_
 rw[h]
theorem edge_loop(hI:CInOK G)(hC:CodeOK G){x:Srch}{N:Nat}{C:List Int}{er ra:LV}{a1 a2 dom a4 a5:Int}{s:ByteArray}(hl:x.ns.length≤1000)
 {Ko:ByteArray→Int→Int→LV→LV→LV→LV→LV→LV→Bool→LV→LV→LV→LV→OV R}
 (hKo:W Q K (Ko x.nm x.st x.fu x.vars x.ports x.timers (x.ns.map Nd.v) x.es x.cs x.any x.ev er (actV N (nodC x.ns N dom x.ns.length C)) ra)):
 ∀(j i:Nat),x.ns.length-i<j→i≤x.ns.length→W Q K (l59_0g G k Ko j (x.ns.map Nd.v) x.ns.length i x.nm x.st x.fu x.vars x.ports x.timers (x.ns.map Nd.v) x.es x.cs x.any x.ev er (actV N (nodC x.ns N dom i C)) ra a1 a2 dom a4 a5 s)
 |0,i,h1,h2=>by omega
 |j+1,i,h1,h2=>by
  show W Q K (b59_0 G k (l59_0g G k Ko j) Ko (x.ns.map Nd.v) x.ns.length i x.nm x.st x.fu x.vars x.ports x.timers (x.ns.map Nd.v) x.es x.cs x.any x.ev er (actV N (nodC x.ns N dom i C)) ra a1 a2 dom a4 a5 s)
  unfold b59_0
  refine W_dec (fun h=> ?_) (fun h=>by rw[show i=x.ns.length by omega];exact hKo)
  have next:=edge_loop (Ko:=Ko) (C:=C) (a1:=a1) (a2:=a2) (a4:=a4) (a5:=a5) (s:=s) hI hC hl hKo j (i+1) (by omega) (by omega)
  obtain⟨n,hn⟩:∃n,x.ns[i]? =some n:=⟨_,List.getElem?_eq_getElem (by omega)⟩
  rw[nodC_at hn]at next
  have hI':=hI
  have hC':=hC
  unfold CInOK at hI';unfold CodeOK at hC'
  refine W_at (by omega) (by rw[Int.toNat_natCast];exact nd_get hn) (W_asAgg ?_)
  (repeat(with_reducible apply U1))
  rw[wrap_id (n:=(i:Int)+1) (by omega)]
  by_cases hd:(i:Int)=dom
  ·refine W_chk' (by simp[hd]) ?_
   rw[if_neg (by simp[hd])]at next
   exact next
  ·refine W_chk (by simp[hd]) ?_
   refine W_call (hI' _ _ _ _) ?_
   rintro _ rfl
   (repeat(with_reducible apply U1))
   refine W_bool (fun hb=> ?_) (fun hb=>by rw[if_neg (by simp[hb])]at next;exact next)
   rw[if_pos ⟨hd,hb⟩]at next
   refine W_call (hC' x _ _ _ _ _ _) ?_
   rintro _ rfl
   (repeat(with_reducible apply U1))
   refine W_call (hC' x _ _ _ _ _ _) ?_
   rintro _ rfl
   (repeat(with_reducible apply U1))
   exact next
def edgC(ns:List Nd)(N:Nat)(dom acts:Int)(C:List Int):List Int:=nodC ns N dom ns.length (putC N C acts)
def EdgeOK(G:ORC R):Prop:=∀(x:Srch) (a1 a2 dom a4 acts:Int) (s:ByteArray) (er ra:LV) (N:Nat) (C:List Int) (K:LV→OV R),x.ns.length≤1000→W (fun o=>o=[.str x.nm,.int .i64 x.st,.int .i64 x.fu,.bool x.any,.sl 1 (actV N (edgC x.ns N dom acts C))]) K
 (G 59 [.agg [.int .i64 a1,.int .i64 a2,.int .i64 dom,.int .i64 a4,.int .i64 acts,.str s],.str x.nm,.int .i64 x.st,.int .i64 x.fu,.sl 1 x.vars,.sl 1 x.ports,.sl 1 x.timers,.sl 7 (x.ns.map Nd.v),.sl 6 x.es,.sl 1 x.cs,.bool x.any,.sl 1 x.ev,.sl 1 er,.sl 1 (actV N C),.sl 1 ra] K)
theorem edge_ok(hk:10000≤k)(hI:CInOK G)(hC:CodeOK G):EdgeOK (fun _ args (K:LV→OV R)=>g59 G k args K):=by
 intro x a1 a2 dom a4 acts s er ra N C K hl
 show W _ K (f59 G k a1 a2 dom a4 acts s x.nm x.st x.fu x.vars x.ports x.timers (x.ns.map Nd.v) x.es x.cs x.any x.ev er (actV N C) ra K)
 unfold f59
 have hC':=hC
 unfold CodeOK at hC'
 refine W_call (hC' x _ _ _ _ _ _) ?_
 rintro _ rfl
 (repeat(with_reducible apply U1))
 unfold l59_0
 simp only[List.length_map]
 exact edge_loop (Q:=fun o=>o=[.str x.nm,.int .i64 x.st,.int .i64 x.fu,.bool x.any,.sl 1 (actV N (edgC x.ns N dom acts C))]) (Ko:=fun a b c _ _ _ _ _ _ d _ _ e _=>K [.str a,.int .i64 b,.int .i64 c,.bool d,.sl 1 e]) hI hC hl (W_ret rfl) k 0 (by omega) (by omega)
end
section
variable {R : Type} {G : ORC R} {k : Nat} {K : LV → OV R} {Q : LV → Prop}
theorem W_nk{l:LV}{i:Nat}{v:V}{F:V→OV R}(hv:l[i]? =some v)(h:W Q K (F v)):W Q K (nthK l i F):=by unfold nthK;rw[hv];exact h
def sv(l:List ByteArray):LV:=l.map .str
theorem sv_len{l:List ByteArray}:(sv l).length=l.length:=by simp[sv]
theorem sv_at{l:List ByteArray}{i:Nat}{s:ByteArray}(h:l[i]? =some s):(sv l)[i]? =some (.str s):=by unfold sv;rw[List.getElem?_map,h];rfl
theorem sv_snoc{l:List ByteArray}{s:ByteArray}:sv l++[.str s]=sv (l++[s]):=by simp[sv]
def hasS(l:List ByteArray)(s:ByteArray):Bool:=l.any fun t=>s.toList==t.toList
theorem hasS_snoc{l:List ByteArray}{s t:ByteArray}:hasS (l++[t]) s=(hasS l s||s.toList==t.toList):=by unfold hasS;rw[List.any_append];simp
theorem takeS{α:Type}{l:List α}{m:Nat}{x:α}(h:l[m]? =some x):l.take (m+1)=l.take m++[x]:=by rw[List.take_add_one,h];rfl
def SiS(G:ORC R):Prop:=∀(l:List ByteArray) (s:ByteArray) (K:LV→OV R),l.length≤1000000→W (fun o=>∃i,o=[.int .i64 i]∧(0≤i↔hasS l s=true)) K (G 75 [.sl 1 (sv l),.str s] K)
theorem sis_loop{Ko:Unit→OV R}{Kr:Int→OV R}{l:List ByteArray}{s:ByteArray}(hl:l.length≤1000000)(hKo:hasS l s=false→W Q K (Ko ()))(hKr:∀i,0≤i→hasS l s=true→W Q K (Kr i)):
 ∀(j m:Nat),l.length-m<j→m≤l.length→hasS (l.take m) s=false→W Q K (l75_0g G k Ko Kr j (sv l) s l.length m)
 |0,m,h1,h2,h3=>by omega
 |j+1,m,h1,h2,h3=>by
  show W Q K (b75_0 G k (l75_0g G k Ko Kr j) Ko Kr (sv l) s l.length m)
  unfold b75_0
  refine W_dec (fun h=> ?_) (fun h=>hKo (by rw[List.take_of_length_le (by omega)]at h3;exact h3))
  obtain⟨t,ht⟩:∃t,l[m]? =some t:=⟨_,List.getElem?_eq_getElem (by omega)⟩
  refine W_at (by omega) (by rw[Int.toNat_natCast];exact sv_at ht) ?_
  (repeat(with_reducible apply U1))
  refine W_bool (fun e=>hKr m (by omega) ?_) (fun e=> ?_)
  ·unfold hasS
   exact List.any_eq_true.2 ⟨t,List.mem_of_getElem? ht,e⟩
  ·rw[wrap_id (n:=(m:Int)+1) (by omega)]
   refine sis_loop hl hKo hKr j (m+1) (by omega) (by omega) ?_
   rw[takeS ht,hasS_snoc,h3,e];rfl
theorem sis_ok(hk:1000002≤k):SiS (fun _ args (K:LV→OV R)=>g75 G k args K):=by
 intro l s K hl
 show W _ K (f75 G k (sv l) s K)
 unfold f75 l75_0
 rw[sv_len]
 exact sis_loop (Q:=fun o=>∃i,o=[.int .i64 i]∧(0≤i↔hasS l s=true)) (K:=K) (Ko:=fun _=>K [.int .i64 (-1)]) (Kr:=fun y=>K [.int .i64 y]) hl (fun h=>W_ret ⟨_,rfl,by rw[h];constructor<;>intro h'<;>first|omega|cases h'⟩) (fun i h0 h=>W_ret ⟨_,rfl,fun _=>h,fun _=>h0⟩) k 0 (by omega) (by omega) rfl
def CoS(G:ORC R):Prop:=∀(l:List ByteArray) (s:ByteArray) (K:LV→OV R),l.length≤1000000→W (fun o=>o=[.bool (hasS l s)]) K (G 58 [.sl 1 (sv l),.str s] K)
theorem cos_ok(hS:SiS G):CoS (fun _ args (K:LV→OV R)=>g58 G k args K):=by
 intro l s K hl
 show W _ K (f58 G k (sv l) s K)
 unfold f58
 unfold SiS at hS
 refine W_call (hS _ _ _ hl) ?_
 rintro _ ⟨i,rfl,hi⟩
 (repeat(with_reducible apply U1))
 refine W_ret ?_
 cases h:hasS l s with
 |true=>rw[decide_eq_true (hi.2 h)]
 |false=>rw[decide_eq_false (fun h'=>by rw[hi.1 h']at h;cases h)]
def RaisesX(G:ORC R):Prop:=∀(op a n:Int) (s:ByteArray) (K:LV→OV R),W (fun o=>o=[.bool (op==19)]) K (G 56 [.agg [.int .i64 op,.int .i64 a,.int .i64 n,.str s]] K)
theorem raises_ok:RaisesX (fun _ args (K:LV→OV R)=>g56 G k args K):=by
 intro op a n s K
 show W _ K (f56 G k op a n s K)
 unfold f56
 exact W_ret rfl
def raisesP(code:LV)(s:ByteArray):Prop:=∃a n s',V.agg [.int .i64 19,.int .i64 a,.int .i64 n,.str s']∈code∧s.toList=s'.toList
def opP(op:Int):V→Bool
 | .agg (.int _ o::_)=>o==op
 |_=>false
def tellI(p:V→Bool)(T:List ByteArray):V→List ByteArray
 | .agg [a,b,c,.str s]=>if(p (.agg [a,b,c,.str s])&& !hasS T s)=true then T++[s]else T
 |_=>T
def tellC(p:V→Bool)(T:List ByteArray)(code:LV):List ByteArray:=code.foldl (tellI p) T
def codeAt(cs:LV)(c:Int):LV:=match cs[c.toNat]? with
 |some (V.sl 4 code)=>code
 |_=>[]
theorem codeAt_is{cs:LV}{c:Int}{code:LV}(h:cs[c.toNat]? =some (.sl 4 code)):codeAt cs c=code:=by unfold codeAt;rw[h];rfl
def tellL(cs:LV)(p:V→Bool)(L:List Int):List ByteArray:=L.foldl (fun T c=>tellC p T (codeAt cs c)) []
theorem tellC_snoc{p:V→Bool}{T:List ByteArray}{l:LV}{v:V}:tellC p T (l++[v])=tellI p (tellC p T l) v:=by unfold tellC;rw[List.foldl_append];rfl
theorem tellI_len{p:V→Bool}{T:List ByteArray}{v:V}:(tellI p T v).length≤T.length+1:=by
 unfold tellI
 split
 ·split
  ·simp
  ·omega
 ·omega
theorem tellC_len{p:V→Bool}:∀{l:LV} {T:List ByteArray},(tellC p T l).length≤T.length+l.length
 | [],T=>Nat.le_refl _
 |v::l,T=>by
  have h1:=tellC_len (p:=p) (l:=l) (T:=tellI p T v)
  have h2:=tellI_len (p:=p) (T:=T) (v:=v)
  show(tellC p (tellI p T v) l).length≤_
  rw[List.length_cons];omega
theorem tellL_snoc{cs:LV}{p:V→Bool}{l:List Int}{c:Int}{code:LV}(h:cs[c.toNat]? =some (.sl 4 code)):tellL cs p (l++[c])=tellC p (tellL cs p l) code:=by
 unfold tellL;rw[List.foldl_append]
 show tellC p _ (codeAt cs c)=_
 rw[codeAt_is h]
theorem has_tellI{T:List ByteArray}{op a n:Int}{s t:ByteArray}:hasS (tellI (opP 19) T (.agg [.int .i64 op,.int .i64 a,.int .i64 n,.str s])) t=true↔hasS T t=true∨(op=19∧t.toList=s.toList):=by
 show hasS (if((op==19)&& !hasS T s)=true then T++[s]else T) t=true↔_
 by_cases e:op=19
 ·subst e
  cases hb:hasS T s with
  |true=>
   rw[if_neg (by simp)]
   refine⟨.inl,fun q=>q.elim id fun q=> ?_⟩
   unfold hasS at hb ⊢
   rw[q.2];exact hb
  |false=>
   rw[if_pos (by simp),hasS_snoc,Bool.or_eq_true,beq_iff_eq]
   exact⟨fun q=>q.elim .inl fun q=>.inr ⟨rfl,q⟩,fun q=>q.elim .inl fun q=>.inr q.2⟩
 ·rw[if_neg (by simp[e])]
  exact⟨.inl,fun q=>q.elim id fun q=>absurd q.1 e⟩
theorem has_tellC{t:ByteArray}:∀{code:LV},AllI code→∀{T:List ByteArray},hasS (tellC (opP 19) T code) t=true↔hasS T t=true∨raisesP code t
 | [],_,T=>⟨.inl,fun q=>q.elim id fun⟨_,_,_,q,_⟩=>by cases q⟩
 |v::code,h,T=>by
  obtain⟨op,a,n,s,rfl⟩:=h v List.mem_cons_self
  show hasS (tellC (opP 19) (tellI (opP 19) T _) code) t=true↔_
  rw[has_tellC (fun w hw=>h w (List.mem_cons_of_mem _ hw)),has_tellI]
  constructor
  ·rintro((q|⟨e,q⟩)|⟨a1,n1,s1,h5,h6⟩)
   ·exact .inl q
   ·exact .inr ⟨a,n,s,by rw[e];exact List.mem_cons_self,q⟩
   ·exact .inr ⟨a1,n1,s1,List.mem_cons_of_mem _ h5,h6⟩
  ·rintro(q|⟨a1,n1,s1,h5,h6⟩)
   ·exact .inl (.inl q)
   ·rcases List.mem_cons.1 h5 with h5|h5
    ·injection h5 with h5
     injection h5 with e1 h5
     injection h5 with e2 h5
     injection h5 with e3 h5
     injection h5 with e4 h5
     injection e1 with _ e1
     injection e4 with e4
     exact .inl (.inr ⟨e1.symm,by rw[h6,e4]⟩)
    ·exact .inr ⟨a1,n1,s1,h5,h6⟩
def RaisedBy(cs:LV)(L:List Int)(s:ByteArray):Prop:=∃c∈L,∃code,cs[c.toNat]? =some (.sl 4 code)∧raisesP code s
def CodesA(l:LV):Prop:=∀v∈l,∃c,v= .sl 4 c∧AllI c∧c.length≤9900
def TellP(cs:LV)(L:List Int)(T:List ByteArray):Prop:=T=tellL cs (opP 19) L∧∀s,hasS T s=true↔RaisedBy cs L s
theorem take_all{α:Type}:∀{l:List α} (P:Nat→Prop),P 0→(∀m x,l[m]? =some x→P m→P (m+1))→∀m,m≤l.length→P m
 |l,P,h0,h1,0,_=>h0
 |l,P,h0,h1,m+1,h=>h1 m l[m] (List.getElem?_eq_getElem (by omega)) (take_all P h0 h1 m (by omega))
theorem tellL_is{cs:LV}(hA:CodesA cs){L:List Int}(hL:∀c∈L,0≤c∧c<cs.length):TellP cs L (tellL cs (opP 19) L):=by
 refine⟨rfl,fun s=> ?_⟩
 have:=take_all (l:=L) (fun m=>hasS (tellL cs (opP 19) (L.take m)) s=true↔RaisedBy cs (L.take m) s) ⟨fun q=>(by cases q),fun⟨_,q,_⟩=>(by cases q)⟩ (fun m c hc ih=> ?_) L.length (Nat.le_refl _)
 ·rw[List.take_length]at this;exact this
 obtain⟨c0,c1⟩:=hL c (List.mem_of_getElem? hc)
 obtain⟨v,hv⟩:∃v,cs[c.toNat]? =some v:=⟨_,List.getElem?_eq_getElem (by omega)⟩
 obtain⟨code,rfl,a1,a2⟩:=hA v (List.mem_of_getElem? hv)
 rw[takeS hc,tellL_snoc hv,has_tellC a1,ih]
 constructor
 ·rintro(⟨c',h5,h6⟩|h5)
  ·exact⟨c',List.mem_append.2 (.inl h5),h6⟩
  ·exact⟨c,List.mem_append.2 (.inr (by simp)),code,hv,h5⟩
 ·rintro⟨c',h5,h6⟩
  rcases List.mem_append.1 h5 with h5|h5
  ·exact .inl ⟨c',h5,h6⟩
  ·rw[List.mem_singleton]at h5
   subst h5
   obtain⟨code',h7,h8⟩:=h6
   rw[hv]at h7
   injection h7 with h7
   injection h7 with _ h7
   rw[h7];exact .inr h8
theorem tellL_len{cs:LV}{p:V→Bool}(hA:CodesA cs){L:List Int}(hL:∀c∈L,0≤c∧c<cs.length):∀m,m≤L.length→(tellL cs p (L.take m)).length≤m*9900:=by
 refine take_all _ (by simp[tellL]) fun m c hc ih=> ?_
 obtain⟨c0,c1⟩:=hL c (List.mem_of_getElem? hc)
 obtain⟨v,hv⟩:∃v,cs[c.toNat]? =some v:=⟨_,List.getElem?_eq_getElem (by omega)⟩
 obtain⟨code,rfl,a1,a2⟩:=hA v (List.mem_of_getElem? hv)
 rw[takeS hc,tellL_snoc hv,Nat.succ_mul]
 have:=tellC_len (p:=p) (l:=code) (T:=tellL cs p (L.take m))
 omega
theorem told_in(hR:RaisesX G)(hC:CoS G){code:LV}(hA:AllI code)(hcl:code.length≤9900){L cs:LV}{n i:Int}{T0:List ByteArray}{x:Srch}(hT:T0.length≤900000)
 {Ko:LV→LV→Int→Int→ByteArray→Int→Int→LV→LV→LV→LV→LV→LV→OV R}
 (hKo:W Q K (Ko (sv (tellC (opP 19) T0 code)) L n i x.nm x.st x.fu x.vars x.ports x.timers (x.ns.map Nd.v) x.es cs)):
 ∀(j m:Nat),code.length-m<j→m≤code.length→
  W Q K (l131105_2g G k Ko j (sv (tellC (opP 19) T0 (code.take m))) L n i (.sl 4 code) code.length m x.nm x.st x.fu x.vars x.ports x.timers (x.ns.map Nd.v) x.es cs)
 |0,m,h1,h2=>by omega
 |j+1,m,h1,h2=>by
  show W Q K (b131105_2 G k (l131105_2g G k Ko j) Ko (sv (tellC (opP 19) T0 (code.take m))) L n i (.sl 4 code) code.length m x.nm x.st x.fu x.vars x.ports x.timers (x.ns.map Nd.v) x.es cs)
  unfold b131105_2
  refine W_dec (fun h=> ?_) (fun h=>by rw[List.take_of_length_le (by omega)];exact hKo)
  obtain⟨v,hv⟩:∃v,code[m]? =some v:=⟨_,List.getElem?_eq_getElem (by omega)⟩
  obtain⟨op,a,n',s,rfl⟩:=hA v (List.mem_of_getElem? hv)
  have hlen:=tellC_len (p:=opP 19) (l:=code.take m) (T:=T0)
  rw[List.length_take]at hlen
  have step:tellC (opP 19) T0 (code.take (m+1))=if((op==19)&& !hasS (tellC (opP 19) T0 (code.take m)) s)=true then tellC (opP 19) T0 (code.take m)++[s]else tellC (opP 19) T0 (code.take m):=by rw[takeS hv,tellC_snoc];rfl
  have next:∀T':List ByteArray,T'=tellC (opP 19) T0 (code.take (m+1))→
   W Q K (l131105_2g G k Ko j (sv T') L n i (.sl 4 code) code.length (IntKind.i64.wrap ((m:Int)+1)) x.nm x.st x.fu x.vars x.ports x.timers (x.ns.map Nd.v) x.es cs):=fun T' q1=>by
   rw[wrap_id (n:=(m:Int)+1) (by omega),q1]
   exact told_in hR hC hA hcl hT hKo j (m+1) (by omega) (by omega)
  unfold RaisesX at hR;unfold CoS at hC
  (repeat(with_reducible apply U1))
  refine W_and (W_and (W_chk rfl (W_yes (by omega) (W_yes (by omega) ?_))))
  refine W_nk (by rw[Int.toNat_natCast];exact hv) ?_
  (repeat(with_reducible apply U1))
  refine W_call (hR _ _ _ _ _) ?_
  rintro _ rfl
  (repeat(with_reducible apply U1))
  refine W_bool (fun e=> ?_) (fun e=>next _ (by rw[step,e];rfl))
  refine W_call (hC _ _ _ (by omega)) ?_
  rintro _ rfl
  (repeat(with_reducible apply U1))
  refine W_not (W_bool (fun hb=>next _ (by rw[step,e,hb];rfl)) (fun hb=> ?_))
  refine W_yes (by rw[sv_len];omega) ?_
  rw[sv_snoc]
  exact next _ (by rw[step,e,hb];rfl)
def ToldOK(G:ORC R):Prop:=∀(x:Srch) (L:List Int) (K:LV→OV R),CodesA x.cs→L.length≤90→(∀c∈L,0≤c∧c<x.cs.length)→
 W (fun o=>∃T:List ByteArray,o=[.sl 1 (sv T)]∧T.length≤900000∧TellP x.cs L T) K
   (G 131105 [.agg [.str x.nm,.int .i64 x.st,.int .i64 x.fu,.sl 1 x.vars,.sl 1 x.ports,.sl 1 x.timers,.sl 7 (x.ns.map Nd.v),.sl 6 x.es,.sl 1 x.cs],.sl 1 (ivs L)] K)
theorem told_loop(hk:10000≤k)(hR:RaisesX G)(hC:CoS G){x:Srch}{L:List Int}(hA:CodesA x.cs)(hl:L.length≤90)(hL:∀c∈L,0≤c∧c<x.cs.length)
 {Ko:LV→OV R} (hKo:W Q K (Ko (sv (tellL x.cs (opP 19) L)))):
 ∀(j m:Nat),L.length-m<j→m≤L.length→
  W Q K (l131105_0g G k Ko j (sv (tellL x.cs (opP 19) (L.take m))) (ivs L) L.length m x.nm x.st x.fu x.vars x.ports x.timers (x.ns.map Nd.v) x.es x.cs)
 |0,m,h1,h2=>by omega
 |j+1,m,h1,h2=>by
  show W Q K (b131105_0 G k (l131105_0g G k Ko j) Ko (sv (tellL x.cs (opP 19) (L.take m))) (ivs L) L.length m x.nm x.st x.fu x.vars x.ports x.timers (x.ns.map Nd.v) x.es x.cs)
  unfold b131105_0
  refine W_dec (fun h=> ?_) (fun h=>by rw[List.take_of_length_le (by omega)];exact hKo)
  obtain⟨c,hc⟩:∃c,L[m]? =some c:=⟨_,List.getElem?_eq_getElem (by omega)⟩
  obtain⟨c0,c1⟩:=hL c (List.mem_of_getElem? hc)
  obtain⟨v,hv⟩:∃v,x.cs[c.toNat]? =some v:=⟨_,List.getElem?_eq_getElem (by omega)⟩
  obtain⟨code,rfl,a1,a2⟩:=hA v (List.mem_of_getElem? hv)
  have hlen:=tellL_len (p:=opP 19) hA hL m h2
  refine W_at (by omega) (by rw[Int.toNat_natCast];exact ivs_at hc) (W_aI ?_)
  refine W_at c0 hv ?_
  (repeat(with_reducible apply U1))
  unfold l131105_2
  refine told_in (Ko:=fun yl29 yl30 yi31 yi32 ys33 yi34 yi35 yl36 yl37 yl38 yl39 yl40 yl41=>l131105_0g G k Ko j yl29 yl30 yi31 (IntKind.i64.wrap (yi32+1)) ys33 yi34 yi35 yl36 yl37 yl38 yl39 yl40 yl41) hR hC a1 a2 (T0:=tellL x.cs (opP 19) (L.take m)) (by omega) ?_ k 0 (by omega) (by omega)
  show W Q K (l131105_0g G k Ko j (sv (tellC (opP 19) (tellL x.cs (opP 19) (L.take m)) code)) (ivs L) L.length (IntKind.i64.wrap ((m:Int)+1)) x.nm x.st x.fu x.vars x.ports x.timers (x.ns.map Nd.v) x.es x.cs)
  rw[wrap_id (n:=(m:Int)+1) (by omega),←tellL_snoc hv,←takeS hc]
  exact told_loop hk hR hC hA hl hL hKo j (m+1) (by omega) (by omega)
theorem told_ok(hk:10000≤k)(hR:RaisesX G)(hC:CoS G):ToldOK (fun _ args (K:LV→OV R)=>g131105 G k args K):=by
 intro x L K hA hl hL
 show W _ K (f131105 G k x.nm x.st x.fu x.vars x.ports x.timers (x.ns.map Nd.v) x.es x.cs (ivs L) K)
 unfold f131105 l131105_0
 rw[ivs_len]
 have hlen:=tellL_len (p:=opP 19) hA hL L.length (Nat.le_refl _)
 rw[List.take_length]at hlen
 exact told_loop (Q:=fun o=>∃T:List ByteArray,o=[.sl 1 (sv T)]∧T.length≤900000∧TellP x.cs L T) (Ko:=fun y=>K [.sl 1 y]) hk hR hC hA hl hL (W_ret ⟨_,rfl,by omega,tellL_is hA hL⟩) k 0 (by omega) (by omega)
end
section
variable {R : Type} {G : ORC R} {k : Nat} {K : LV → OV R} {Q : LV → Prop}
def lateB(T:List ByteArray)(s:ByteArray):Bool:=(s.toList==ByteArray.toList ⟨#[]⟩)||((s.toList==ByteArray.toList ⟨#[101,114,114,111,114]⟩)||hasS T s)
def edV(a b c d f:Int)(s:ByteArray):V:=.agg [.int .i64 a,.int .i64 b,.int .i64 c,.int .i64 d,.int .i64 f,.str s]
def LaterX(G:ORC R):Prop:=∀(x:Srch) (a b c d f:Int) (s:ByteArray) (er cr:LV) (T:List ByteArray) (K:LV→OV R),T.length≤1000000→
 W (fun o=>o=[.bool (lateB T s),.str x.nm,.int .i64 x.st,.int .i64 x.fu,.bool x.any]) K
   (G 57 [edV a b c d f s,.str x.nm,.int .i64 x.st,.int .i64 x.fu,.sl 1 x.vars,.sl 1 x.ports,.sl 1 x.timers,.sl 7 (x.ns.map Nd.v),.sl 6 x.es,.sl 1 x.cs,.bool x.any,.sl 1 x.ev,.sl 1 er,.sl 1 cr,.sl 1 (sv T)] K)
theorem later_ok(hC:CoS G):LaterX (fun _ args (K:LV→OV R)=>g57 G k args K):=by
 intro x a b c d f s er cr T K hT
 show W _ K (f57 G k a b c d f s x.nm x.st x.fu x.vars x.ports x.timers (x.ns.map Nd.v) x.es x.cs x.any x.ev er cr (sv T) K)
 unfold f57 lateB
 refine W_bool (fun h=>W_ret (by rw[h];rfl)) (fun h=> ?_)
 refine W_bool (fun h2=>W_ret (by rw[h,h2];rfl)) (fun h2=> ?_)
 unfold CoS at hC
 refine W_call (hC _ _ _ hT) ?_
 rintro _ rfl
 (repeat(with_reducible apply U1))
 exact W_ret (by rw[h,h2];rfl)
def wantB(x:Srch)(ev T:List ByteArray)(s:ByteArray):Bool:=x.any||(lateB T s||hasS ev s)
def EdsS(es:LV):Prop:=∀e∈es,∃a b c d f s,e=edV a b c d f s
theorem round_loop(hE:EdgeOK G)(hL:LaterX G)(hC:CoS G){x:Srch}{ev T:List ByteArray}(hev:x.ev=sv ev)(hevl:ev.length≤1000000)(hT:T.length≤1000000)(hes:EdsS x.es)(hel:x.es.length≤1000)(hnl:x.ns.length≤1000){N:Nat}{r1 r2 r3:LV}{bg b4:Bool}
 (Inv:List Int→List Int→Prop) (hstep:∀E C (i:Nat) a b c d f s,x.es[i]? =some (edV a b c d f s)→Inv E C→hasL E i=false→wantB x ev T s=true→Inv (E++[(i:Int)]) (edgC x.ns N c f C))
 {E0 C0:List Int}
 {Ko:Bool→Bool→ByteArray→Int→Int→LV→LV→LV→LV→LV→LV→Bool→LV→LV→LV→LV→LV→LV→LV→Bool→OV R}
 (hKo:∀E C (fd:Bool),Inv E C→(fd=true→E0.length<E.length)→(fd=false→E=E0∧C=C0∧∀(i:Nat) a b c d f s,x.es[i]? =some (edV a b c d f s)→hasL E0 i=true∨wantB x ev T s=false)→
   W Q K (Ko bg fd x.nm x.st x.fu x.vars x.ports x.timers (x.ns.map Nd.v) x.es x.cs x.any x.ev (actV x.es.length E) (actV N C) (sv T) r1 r2 r3 b4)):
 ∀(j m:Nat) (E C:List Int) (fd:Bool),x.es.length-m<j→m≤x.es.length→Inv E C→(fd=true→E0.length<E.length)→(fd=false→E=E0∧C=C0∧∀(i:Nat) a b c d f s,i<m→x.es[i]? =some (edV a b c d f s)→hasL E0 i=true∨wantB x ev T s=false)→
  W Q K (l26_2g G k Ko j bg fd x.es x.es.length m x.nm x.st x.fu x.vars x.ports x.timers (x.ns.map Nd.v) x.es x.cs x.any x.ev (actV x.es.length E) (actV N C) (sv T) r1 r2 r3 b4)
 |0,m,E,C,fd,h1,h2,h3,h4,h5=>by omega
 |j+1,m,E,C,fd,h1,h2,h3,h4,h5=>by
  show W Q K (b26_2 G k (l26_2g G k Ko j) Ko bg fd x.es x.es.length m x.nm x.st x.fu x.vars x.ports x.timers (x.ns.map Nd.v) x.es x.cs x.any x.ev (actV x.es.length E) (actV N C) (sv T) r1 r2 r3 b4)
  unfold b26_2
  refine W_dec (fun h=> ?_) (fun h=>hKo E C fd h3 h4 fun e=>by
   obtain⟨q1,q2,q3⟩:=h5 e
   exact⟨q1,q2,fun i a b c d f s hi=>q3 i a b c d f s (by have:=(List.getElem?_eq_some_iff.1 hi).1;omega) hi⟩)
  obtain⟨e,he⟩:∃e,x.es[m]? =some e:=⟨_,List.getElem?_eq_getElem (by omega)⟩
  obtain⟨a,b,c,d,f,s,rfl⟩:=hes e (List.mem_of_getElem? he)
  have hE':=hE
  have hL':=hL
  have hC':=hC
  unfold EdgeOK at hE';unfold LaterX at hL';unfold CoS at hC'
  have hat:(actV x.es.length E)[((m:Nat):Int).toNat]? =some (.bool (hasL E m)):=by rw[Int.toNat_natCast];exact actV_get (by omega)
  have hset:(actV x.es.length E).set ((m:Nat):Int).toNat (.bool true)=actV x.es.length (E++[(m:Int)]):=actV_set (by omega) (by omega)
  have he2:=he
  unfold edV at he
  have stay:hasL E m=true∨wantB x ev T s=false→W Q K (l26_2g G k Ko j bg fd x.es x.es.length (IntKind.i64.wrap ((m:Int)+1)) x.nm x.st x.fu x.vars x.ports x.timers (x.ns.map Nd.v) x.es x.cs x.any x.ev (actV x.es.length E) (actV N C) (sv T) r1 r2 r3 b4):=fun hh=>by
   rw[wrap_id (n:=(m:Int)+1) (by omega)]
   refine round_loop hE hL hC hev hevl hT hes hel hnl Inv hstep hKo j (m+1) E C fd (by omega) (by omega) h3 h4 fun e=> ?_
   obtain⟨q1,q2,q3⟩:=h5 e
   refine⟨q1,q2,fun i a' b' c' d' f' s' hi hi2=> ?_⟩
   by_cases hm:i=m
   ·subst hm
    rw[he2]at hi2
    injection hi2 with hi2
    unfold edV at hi2
    injection hi2 with hi2
    injection hi2 with _ hi2
    injection hi2 with _ hi2
    injection hi2 with _ hi2
    injection hi2 with _ hi2
    injection hi2 with _ hi2
    injection hi2 with hi2 _
    injection hi2 with hi2
    rw[←hi2,←q1]
    exact hh
   ·exact q3 i a' b' c' d' f' s' (by omega) hi2
  have go:hasL E m=false→wantB x ev T s=true→W Q K (G 59 [edV a b c d f s,.str x.nm,.int .i64 x.st,.int .i64 x.fu,.sl 1 x.vars,.sl 1 x.ports,.sl 1 x.timers,.sl 7 (x.ns.map Nd.v),.sl 6 x.es,.sl 1 x.cs,.bool x.any,.sl 1 x.ev,.sl 1 (actV x.es.length (E++[(m:Int)])),.sl 1 (actV N C),.sl 1 (sv T)] fun o89=>(uS o89 fun s91 r90=>(uI .i64 r90 fun n93 r92=>(uI .i64 r92 fun n95 r94=>(uB r94 fun b97 r96=>(uL 1 r96 fun l99 r98=>(unNil r98 (l26_2g G k Ko j bg true x.es x.es.length (IntKind.i64.wrap ((m:Int)+1)) s91 n93 n95 x.vars x.ports x.timers (x.ns.map Nd.v) x.es x.cs b97 x.ev (actV x.es.length (E++[(m:Int)])) l99 (sv T) r1 r2 r3 b4)))))))):=fun g1 g2=>by
   unfold edV
   refine W_call (hE' x a b c d f s _ _ N C _ hnl) ?_
   rintro _ rfl
   (repeat(with_reducible apply U1))
   rw[wrap_id (n:=(m:Int)+1) (by omega)]
   refine round_loop hE hL hC hev hevl hT hes hel hnl Inv hstep hKo j (m+1) _ _ true (by omega) (by omega) (hstep E C m a b c d f s he2 h3 g1 g2) (fun _=> ?_) (fun e=>by cases e)
   rw[List.length_append,List.length_singleton]
   cases fd with
   |true=>have:=h4 rfl;omega
   |false=>rw[(h5 rfl).1];omega
  refine W_at (by omega) (by rw[Int.toNat_natCast];exact he) (W_asAgg ?_)
  (repeat(with_reducible apply U1))
  have W_at2:∀{F:V→OV R} {E1:OV R},W Q K (F (.bool (hasL E m)))→W Q K (bif(decide (0≤((m:Nat):Int))&&decide (((m:Nat):Int)<(((actV x.es.length E).length:Nat):Int)))then nthK (actV x.es.length E) ((m:Nat):Int).toNat F else E1):=fun hF=>W_at (by omega) hat hF
  refine W_at2 ?_
  (repeat(with_reducible apply U1))
  refine W_not (W_bool (fun g1=>stay (.inl g1)) (fun g1=> ?_))
  refine W_bool (fun ga=> ?_) (fun ga=> ?_)
  ·refine W_at2 ?_
   rw[hset]
   exact go g1 (by unfold wantB;rw[ga];rfl)
  ·refine W_call (hL' x a b c d f s _ _ T _ hT) ?_
   rintro _ rfl
   (repeat(with_reducible apply U1))
   refine W_bool (fun gl=> ?_) (fun gl=> ?_)
   ·refine W_at2 ?_
    rw[hset]
    exact go g1 (by unfold wantB;rw[ga,gl];rfl)
   ·rw[hev]
    refine W_call (hC' _ _ _ hevl) ?_
    rintro _ rfl
    (repeat(with_reducible apply U1))
    refine W_bool (fun gh=> ?_) (fun gh=> ?_)
    ·refine W_at2 ?_
     rw[hset]
     have:=go g1 (by unfold wantB;rw[ga,gl,gh];rfl)
     rw[hev]at this
     exact this
    ·have:=stay (.inr (by unfold wantB;rw[ga,gl,gh];rfl))
     rw[hev]at this
     exact this
theorem search_loop(hk:10000≤k)(hP:PlacesOK G)(hTo:ToldOK G)(hE:EdgeOK G)(hL:LaterX G)(hC:CoS G){x:Srch}{ev:List ByteArray}(hev:x.ev=sv ev)(hevl:ev.length≤1000000)(hes:EdsS x.es)(hel:x.es.length≤1000)(hnl:x.ns.length≤1000)(hcs:CodesA x.cs)(hcl:x.cs.length≤90){r1 r2 r3:LV}{bg b4:Bool}
 (Inv:List Int→List Int→Prop) (hbd:∀E C,Inv E C→E.length≤x.es.length)
 (hstep:∀(T:List ByteArray) E0 C0,Inv E0 C0→(TellP x.cs (memN x.cs.length C0) T)→∀E C (i:Nat) a b c d f s,x.es[i]? =some (edV a b c d f s)→Inv E C→hasL E i=false→wantB x ev T s=true→Inv (E++[(i:Int)]) (edgC x.ns x.cs.length c f C))
 {Ko:Bool→ByteArray→Int→Int→LV→LV→LV→LV→LV→LV→Bool→LV→LV→LV→LV→LV→LV→LV→Bool→OV R}
 (hfin:∀E C (T:List ByteArray),Inv E C→T.length≤900000→(TellP x.cs (memN x.cs.length C) T)→(∀(i:Nat) a b c d f s,x.es[i]? =some (edV a b c d f s)→hasL E i=true∨wantB x ev T s=false)→
   W Q K (Ko bg x.nm x.st x.fu x.vars x.ports x.timers (x.ns.map Nd.v) x.es x.cs x.any x.ev (actV x.es.length E) (actV x.cs.length C) (sv T) r1 r2 r3 b4)):
 ∀(j:Nat) (E C:List Int) (ra:LV),Inv E C→x.es.length-E.length+1<j→W Q K (l26_0g G k Ko j bg true x.nm x.st x.fu x.vars x.ports x.timers (x.ns.map Nd.v) x.es x.cs x.any x.ev (actV x.es.length E) (actV x.cs.length C) ra r1 r2 r3 b4)
 |0,E,C,ra,h1,h2=>by omega
 |j+1,E,C,ra,h1,h2=>by
  show W Q K (b26_0 G k (l26_0g G k Ko j) Ko bg true x.nm x.st x.fu x.vars x.ports x.timers (x.ns.map Nd.v) x.es x.cs x.any x.ev (actV x.es.length E) (actV x.cs.length C) ra r1 r2 r3 b4)
  unfold b26_0
  have hP':=hP
  have hTo':=hTo
  unfold PlacesOK at hP';unfold ToldOK at hTo'
  refine W_chk rfl ?_
  refine W_call (hP' _ _ _ (by omega)) ?_
  rintro _ rfl
  (repeat(with_reducible apply U1))
  have hml:=memN_len (n:=x.cs.length) (s:=C)
  refine W_call (hTo' x (memN x.cs.length C) _ hcs (by omega) (fun c hc=>(mem_memN.1 hc).1)) ?_
  rintro _ ⟨T,rfl,t1,t2⟩
  (repeat(with_reducible apply U1))
  unfold l26_2
  refine round_loop hE hL hC hev hevl (by omega) hes hel hnl Inv (hstep T E C h1 t2) (E0:=E) (C0:=C) (Ko:=l26_0g G k Ko j) (fun E' C' fd i1 i2 i3=> ?_) k 0 E C false (by omega) (by omega) h1 (fun e=>by cases e) (fun _=>⟨rfl,rfl,fun i _ _ _ _ _ _ hi=>by omega⟩)
  cases fd with
  |true=>
   have:=i2 rfl
   have:=hbd E' C' i1
   exact search_loop hk hP hTo hE hL hC hev hevl hes hel hnl hcs hcl Inv hbd hstep hfin j E' C' _ i1 (by omega)
  |false=>
   obtain⟨q1,q2,q3⟩:=i3 rfl
   subst q1;subst q2
   obtain⟨j',rfl⟩:∃j',j=j'+1:=⟨j-1,by omega⟩
   show W Q K (b26_0 G k (l26_0g G k Ko j') Ko bg false x.nm x.st x.fu x.vars x.ports x.timers (x.ns.map Nd.v) x.es x.cs x.any x.ev (actV x.es.length E') (actV x.cs.length C') (sv T) r1 r2 r3 b4)
   unfold b26_0
   exact W_chk' rfl (hfin E' C' T h1 t1 t2 q3)
end
section
variable {R : Type} {G : ORC R} {k : Nat} {K : LV → OV R} {Q : LV → Prop}
def lateAt(es:LV)(T:List ByteArray)(i:Int):Bool:=match es[i.toNat]? with
 |some (.agg [_,_,_,_,_,.str s])=>lateB T s
 |_=>false
theorem lateAt_eq{es:LV}{T:List ByteArray}{i:Int}{a b c d f:Int}{s:ByteArray}(h:es[i.toNat]? =some (edV a b c d f s)):lateAt es T i=lateB T s:=by
 unfold lateAt;rw[h];rfl
theorem more_loop(hL:LaterX G){x:Srch}{T:List ByteArray}(hT:T.length≤1000000)(hes:EdsS x.es){EL:List Int}(hEL:∀i∈EL,0≤i∧i<x.es.length)(hll:EL.length≤1000){er cr r1 r2 r3 CL RL:LV}{b4:Bool}
 {Ko:ByteArray→Int→Int→LV→LV→LV→LV→LV→LV→Bool→LV→LV→LV→LV→LV→LV→LV→Bool→LV→LV→LV→Bool→OV R}
 (hKo:W Q K (Ko x.nm x.st x.fu x.vars x.ports x.timers (x.ns.map Nd.v) x.es x.cs x.any x.ev er cr (sv T) r1 r2 r3 b4 (ivs EL) CL RL (EL.any (lateAt x.es T)))):
 ∀(j m:Nat),EL.length-m<j→m≤EL.length→W Q K (l26_4g G k Ko j false EL.length m x.nm x.st x.fu x.vars x.ports x.timers (x.ns.map Nd.v) x.es x.cs x.any x.ev er cr (sv T) r1 r2 r3 b4 (ivs EL) CL RL ((EL.take m).any (lateAt x.es T)))
 |0,m,h1,h2=>by omega
 |j+1,m,h1,h2=>by
  show W Q K (b26_4 G k (l26_4g G k Ko j) Ko false EL.length m x.nm x.st x.fu x.vars x.ports x.timers (x.ns.map Nd.v) x.es x.cs x.any x.ev er cr (sv T) r1 r2 r3 b4 (ivs EL) CL RL ((EL.take m).any (lateAt x.es T)))
  unfold b26_4
  refine W_dec (fun h=> ?_) (fun h=>by rw[List.take_of_length_le (by omega)];exact hKo)
  obtain⟨i,hi⟩:∃i,EL[m]? =some i:=⟨_,List.getElem?_eq_getElem (by omega)⟩
  obtain⟨i0,i1⟩:=hEL i (List.mem_of_getElem? hi)
  obtain⟨e,he⟩:∃e,x.es[i.toNat]? =some e:=⟨_,List.getElem?_eq_getElem (by omega)⟩
  obtain⟨a,b,c,d,f,s,rfl⟩:=hes e (List.mem_of_getElem? he)
  have hs:(EL.take (m+1)).any (lateAt x.es T)=((EL.take m).any (lateAt x.es T)||lateB T s):=by rw[takeS hi,List.any_append];simp[lateAt_eq he]
  have next:∀b',b'=(EL.take (m+1)).any (lateAt x.es T)→W Q K (l26_4g G k Ko j false EL.length (IntKind.i64.wrap ((m:Int)+1)) x.nm x.st x.fu x.vars x.ports x.timers (x.ns.map Nd.v) x.es x.cs x.any x.ev er cr (sv T) r1 r2 r3 b4 (ivs EL) CL RL b'):=fun b' hb=>by
   rw[wrap_id (n:=(m:Int)+1) (by omega),hb]
   exact more_loop hL hT hes hEL hll hKo j (m+1) (by omega) (by omega)
  have hL':=hL
  unfold LaterX at hL'
  refine W_at (by omega) (by rw[Int.toNat_natCast];exact ivs_at hi) (W_aI ?_)
  refine W_bool (fun hb=>next _ (by rw[hs,hb];rfl)) (fun hb=> ?_)
  refine W_not (W_chk' rfl ?_)
  refine W_at i0 he ?_
  unfold edV at hL' ⊢
  (repeat(with_reducible apply U1))
  refine W_call (hL' x a b c d f s _ _ T _ hT) ?_
  rintro _ rfl
  (repeat(with_reducible apply U1))
  exact next _ (by rw[hs,hb];rfl)
def AllX(G:ORC R):Prop:=∀(x:Srch) (ev:List ByteArray) (Inv:List Int→List Int→Prop) (ra:LV) (K:LV→OV R),x.ev=sv ev→ev.length≤1000000→EdsS x.es→x.es.length≤1000→x.ns.length≤1000→CodesA x.cs→x.cs.length≤90→Inv [] []→(∀E C,Inv E C→E.length≤x.es.length)→
 (∀(T:List ByteArray) E0 C0,Inv E0 C0→(TellP x.cs (memN x.cs.length C0) T)→∀E C (i:Nat) a b c d f s,x.es[i]? =some (edV a b c d f s)→Inv E C→hasL E i=false→wantB x ev T s=true→Inv (E++[(i:Int)]) (edgC x.ns x.cs.length c f C))→
 W (fun o=>∃(E C:List Int) (T:List ByteArray) (r1 r2 r3:LV),o=[.agg [.sl 1 (ivs (memN x.es.length E)),.sl 1 (ivs (memN x.cs.length C)),.sl 1 (sv T),.bool ((memN x.es.length E).any (lateAt x.es T))],.str x.nm,.int .i64 x.st,.int .i64 x.fu,.bool x.any,.sl 1 r1,.sl 1 r2,.sl 1 r3]∧
     Inv E C∧(TellP x.cs (memN x.cs.length C) T)∧∀(i:Nat) a b c d f s,x.es[i]? =some (edV a b c d f s)→hasL E i=true∨wantB x ev T s=false) K
   (G 26 [.bool false,.str x.nm,.int .i64 x.st,.int .i64 x.fu,.sl 1 x.vars,.sl 1 x.ports,.sl 1 x.timers,.sl 7 (x.ns.map Nd.v),.sl 6 x.es,.sl 1 x.cs,.bool x.any,.sl 1 x.ev,.sl 1 (actV x.es.length []),.sl 1 (actV x.cs.length []),.sl 1 ra] K)
theorem all_ok(hk:10000≤k)(hP:PlacesOK G)(hTo:ToldOK G)(hE:EdgeOK G)(hL:LaterX G)(hC:CoS G):AllX (fun _ args (K:LV→OV R)=>g26 G k args K):=by
 intro x ev Inv ra K hev hevl hes hel hnl hcs hcl h0 hbd hstep
 show W _ K (f26 G k false x.nm x.st x.fu x.vars x.ports x.timers (x.ns.map Nd.v) x.es x.cs x.any x.ev (actV x.es.length []) (actV x.cs.length []) ra K)
 unfold f26 l26_0
 have hP':=hP
 unfold PlacesOK at hP'
 refine search_loop hk hP hTo hE hL hC hev hevl hes hel hnl hcs hcl Inv hbd hstep (fun E C T i1 t1 t2 q3=> ?_) k [] [] ra h0 (by simp;omega)
 refine W_call (hP' _ _ _ hel) ?_
 rintro _ rfl
 (repeat(with_reducible apply U1))
 refine W_call (hP' _ _ _ (by omega)) ?_
 rintro _ rfl
 (repeat(with_reducible apply U1))
 refine W_chk' rfl ?_
 unfold l26_4
 have hml:=memN_len (n:=x.es.length) (s:=E)
 rw[ivs_len]
 exact more_loop (Ko:=fun ys152 yi153 yi154 yl155 yl156 yl157 yl158 yl159 yl160 yb161 yl162 yl163 yl164 yl165 yl166 yl167 yl168 yb169 yl170 yl171 yl172 yb173=>K [(.agg [(.sl 1 yl170),(.sl 1 yl171),(.sl 1 yl172),(.bool yb173)]),(.str ys152),(.int .i64 yi153),(.int .i64 yi154),(.bool yb161),(.sl 1 yl163),(.sl 1 yl164),(.sl 1 yl165)]) hL (by omega) hes (fun i hi=>(mem_memN.1 hi).1) (by omega) (W_ret ⟨E,C,T,_,_,_,rfl,i1,t2,q3⟩) k 0 (by omega) (by omega)
end
section
variable {R : Type} {G : ORC R} {k : Nat} {K : LV → OV R} {Q : LV → Prop}
theorem mem_putC{N:Nat}{C:List Int}{c y:Int}:y∈putC N C c↔y∈C∨(y=c∧0≤c∧c<N):=by
 unfold putC
 split
 ·rename_i h
  rw[List.mem_append,List.mem_singleton]
  exact⟨fun q=>q.elim .inl (fun e=>.inr ⟨e,h⟩),fun q=>q.elim .inl (fun e=>.inr e.1)⟩
 ·rename_i h
  exact⟨.inl,fun q=>q.elim id fun e=>absurd e.2 h⟩
theorem mem_nodC{ns:List Nd}{N:Nat}{dom:Int}{y:Int}:∀{i:Nat} {C:List Int},y∈nodC ns N dom i C↔y∈C∨y∈nodC ns N dom i []
 |0,C=>by simp[nodC]
 |i+1,C=>by
  have ih:=mem_nodC (ns:=ns) (N:=N) (dom:=dom) (y:=y) (i:=i) (C:=C)
  cases h:ns[i]? with
  |none=>
   have e:∀D,nodC ns N dom (i+1) D=nodC ns N dom i D:=fun D=>by
    show(match ns[i]? with|some n=>_|none=>_)=_
    rw[h]
   rw[e,e];exact ih
  |some n=>
   rw[nodC_at h,nodC_at h]
   split
   ·rw[mem_putC,mem_putC,mem_putC,mem_putC,ih,or_assoc,or_assoc,or_assoc]
   ·exact ih
theorem mem_edgC{ns:List Nd}{N:Nat}{dom acts y:Int}{C:List Int}:y∈edgC ns N dom acts C↔y∈C∨y∈edgC ns N dom acts []:=by
 unfold edgC
 rw[mem_nodC (C:=putC N C acts),mem_nodC (C:=putC N [] acts),mem_putC,mem_putC,or_assoc]
 simp
def LateP(cs:LV)(C:List Int)(s:ByteArray):Prop:=s.toList=ByteArray.toList ⟨#[]⟩∨s.toList=ByteArray.toList ⟨#[101,114,114,111,114]⟩∨RaisedBy cs (memN cs.length C) s
theorem late_iff{cs:LV}{C:List Int}{T:List ByteArray}{s:ByteArray}(h:TellP cs (memN cs.length C) T):lateB T s=true↔LateP cs C s:=by
 unfold lateB LateP
 rw[Bool.or_eq_true,Bool.or_eq_true,beq_iff_eq,beq_iff_eq,h.2 s]
theorem raised_mono{cs:LV}{A B:List Int}{s:ByteArray}(h:∀y∈A,y∈B):RaisedBy cs (memN cs.length A) s→RaisedBy cs (memN cs.length B) s:=by
 rintro⟨c,h1,h2⟩
 obtain⟨q1,q2⟩:=mem_memN.1 h1
 exact⟨c,mem_memN.2 ⟨q1,h c q2⟩,h2⟩
theorem late_mono{cs:LV}{A B:List Int}{s:ByteArray}(h:∀y∈A,y∈B):LateP cs A s→LateP cs B s:=by
 rintro(q|q|q)
 ·exact .inl q
 ·exact .inr (.inl q)
 ·exact .inr (.inr (raised_mono h q))
structure Clo (es cs:LV) (ns:List Nd) (any:Bool) (ev:List ByteArray) (E C:List Int):Prop where
 edges:∀(i:Nat) a b c d f s,es[i]? =some (edV a b c d f s)→any=true∨LateP cs C s∨hasS ev s=true→(i:Int)∈E
 codes:∀(i:Nat) a b c d f s,es[i]? =some (edV a b c d f s)→(i:Int)∈E→∀y∈edgC ns cs.length c f [],y∈C
structure Lst (es cs:LV) (ns:List Nd) (any:Bool) (ev:List ByteArray) (E C:List Int):Prop where
 clo:Clo es cs ns any ev E C
 least:∀E' C',Clo es cs ns any ev E' C'→(∀y∈E,y∈E')∧∀y∈C,y∈C'
 nd:E.Nodup
 rng:∀y∈E,0≤y∧y<es.length
def OfX(G:ORC R):Prop:=∀(x:Srch) (ev:List ByteArray) (K:LV→OV R),x.ev=sv ev→ev.length≤1000000→EdsS x.es→x.es.length≤1000→x.ns.length≤1000→CodesA x.cs→x.cs.length≤90→
 W (fun o=>∃(E C:List Int) (T:List ByteArray),o=[.agg [.sl 1 (ivs (memN x.es.length E)),.sl 1 (ivs (memN x.cs.length C)),.sl 1 (sv T),.bool ((memN x.es.length E).any (lateAt x.es T))]]∧
     Lst x.es x.cs x.ns x.any ev E C∧TellP x.cs (memN x.cs.length C) T) K
   (G 9 [.agg [.str x.nm,.int .i64 x.st,.int .i64 x.fu,.sl 1 x.vars,.sl 1 x.ports,.sl 1 x.timers,.sl 7 (x.ns.map Nd.v),.sl 6 x.es,.sl 1 x.cs],.bool x.any,.sl 1 x.ev] K)
theorem nodup_rng:∀{n:Nat} {l:List Int},l.Nodup→(∀y∈l,0≤y∧y<n)→l.length≤n
 |0,[],_,_=>Nat.le_refl 0
 |0,a::l,_,h=>by have:=h a List.mem_cons_self;omega
 |n+1,l,hn,h=>by
  by_cases hm:(n:Int)∈l
  ·have h1:=nodup_rng (n:=n) (l:=l.erase (n:Int)) (hn.erase _) fun y hy=>by
    have:=(hn.mem_erase_iff).1 hy
    have:=h y this.2
    omega
   rw[List.length_erase_of_mem hm]at h1
   omega
  ·have:=nodup_rng (n:=n) (l:=l) hn fun y hy=>by
    have h2:=h y hy
    have:y≠n:=fun e=>hm (e▸hy)
    omega
   omega
theorem ofx_ok(hA:AllX G):OfX (fun _ args (K:LV→OV R)=>g9 G k args K):=by
 intro x ev K hev hevl hes hel hnl hcs hcl
 show W _ K (f9 G k x.nm x.st x.fu x.vars x.ports x.timers (x.ns.map Nd.v) x.es x.cs x.any x.ev K)
 unfold f9
 refine W_chk (by simp;omega) (W_chk (by simp;omega) ?_)
 rw[Int.toNat_natCast,Int.toNat_natCast,actV_nil,actV_nil]
 unfold AllX at hA
 refine W_call (hA x ev (fun E C=>(∀E' C',Clo x.es x.cs x.ns x.any ev E' C'→(∀y∈E,y∈E')∧∀y∈C,y∈C')∧E.Nodup∧(∀y∈E,0≤y∧y<x.es.length)∧∀(i:Nat) a b c d f s,x.es[i]? =some (edV a b c d f s)→(i:Int)∈E→∀y∈edgC x.ns x.cs.length c f [],y∈C) [] _ hev hevl hes hel hnl hcs hcl
  ⟨fun E' C' h=>⟨fun y hy=>(by cases hy),fun y hy=>(by cases hy)⟩,List.nodup_nil,fun y hy=>(by cases hy),fun i _ _ _ _ _ _ _ hi=>(by cases hi)⟩ (fun E C h=>nodup_rng h.2.1 h.2.2.1) (fun T E0 C0 h0 hT E C i a b c d f s hi h1 hno hw=> ?_)) ?_
 ·obtain⟨l1,n1,r1,c1⟩:=h1
  have hni:(i:Int)∉E:=fun q=>by rw[hasL_iff.2 q]at hno;cases hno
  refine⟨fun E' C' hc=> ?_,?_,?_,?_⟩
  ·obtain⟨m1,m2⟩:=l1 E' C' hc
   obtain⟨_,m3⟩:=h0.1 E' C' hc
   have hiE:(i:Int)∈E':=by
    refine hc.edges i a b c d f s hi ?_
    unfold wantB at hw
    rw[Bool.or_eq_true,Bool.or_eq_true]at hw
    rcases hw with q|q|q
    ·exact .inl q
    ·exact .inr (.inl (late_mono m3 ((late_iff hT).1 q)))
    ·exact .inr (.inr q)
   refine⟨fun y hy=> ?_,fun y hy=> ?_⟩
   ·rcases List.mem_append.1 hy with hy|hy
    ·exact m1 y hy
    ·rw[List.mem_singleton.1 hy];exact hiE
   ·rcases mem_edgC.1 hy with hy|hy
    ·exact m2 y hy
    ·exact hc.codes i a b c d f s hi hiE y hy
  ·exact List.nodup_append.2 ⟨n1,by simp,fun p hp q hq e=>hni (by rw[List.mem_singleton]at hq;rw[←hq,←e];exact hp)⟩
  ·intro y hy
   rcases List.mem_append.1 hy with hy|hy
   ·exact r1 y hy
   ·rw[List.mem_singleton.1 hy]
    have:=(List.getElem?_eq_some_iff.1 hi).1
    omega
  ·intro i' a' b' c' d' f' s' hi' hm y hy
   rcases List.mem_append.1 hm with hm|hm
   ·exact mem_edgC.2 (.inl (c1 i' a' b' c' d' f' s' hi' hm y hy))
   ·rw[List.mem_singleton]at hm
    have e:i'=i:=by omega
    subst e
    rw[hi]at hi'
    injection hi' with hi'
    unfold edV at hi'
    injection hi' with hi'
    injection hi' with _ hi'
    injection hi' with _ hi'
    injection hi' with e3 hi'
    injection hi' with _ hi'
    injection hi' with e5 _
    injection e3 with _ e3
    injection e5 with _ e5
    rw[←e3,←e5]at hy
    exact mem_edgC.2 (.inr hy)
 rintro _ ⟨E,C,T,r1,r2,r3,rfl,⟨q1,q2,q3,q4⟩,hT,hcl2⟩
 (repeat(with_reducible apply U1))
 refine W_ret ⟨E,C,T,rfl,⟨⟨fun i a b c d f s hi hw=> ?_,q4⟩,q1,q2,q3⟩,hT⟩
 rcases hcl2 i a b c d f s hi with h|h
 ·exact hasL_iff.1 h
 ·unfold wantB at h
  rw[Bool.or_eq_false_iff,Bool.or_eq_false_iff]at h
  rcases hw with q|q|q
  ·rw[q]at h;cases h.1
  ·rw[(late_iff hT).2 q]at h;cases h.2.1
  ·rw[q]at h;cases h.2.2
end
set_option maxHeartbeats 4000000
section
variable {R : Type} {G : ORC R} {k : Nat} {K : LV → OV R}
def PlaceS(G:ORC R):Prop:=∀(v n:Int) (K:LV→OV R),0<n→n≤1099511627776→W (fun o=>∃x,o=[.int .i64 x]∧0≤x∧x<n) K (G 7 [.int .i64 v,.int .i64 n] K)
theorem place_ok:PlaceS (fun _ args (K:LV→OV R)=>g7 G k args K):=by
 intro v n K h1 h2
 show W _ K (f7 G k v n K)
 unfold f7
 have ht:=tmod_lt (v:=v) h1
 refine W_not ?_
 refine W_beqI (fun h=>by omega) (fun _=> ?_)
 refine W_dec (fun h=> ?_) (fun h=> ?_)
 ·rw[wrap_id (by omega)];exact W_ret ⟨_,rfl,by omega,by omega⟩
 ·exact W_ret ⟨_,rfl,by omega,by omega⟩
def NextS(G:ORC R):Prop:=∀(n:Int) (L:LV) (i:Int) (K:LV→OV R),0<n→n≤1099511627776→RowS L i→W (fun o=>∃x j,o=[.int .i64 x,.int .i64 j]∧0≤x∧x<n∧RowS L j) K (G 49 [.int .i64 n,.sl 1 L,.int .i64 i] K)
theorem next_ok(hP:PlaceS G):NextS (fun _ args (K:LV→OV R)=>g49 G k args K):=by
 intro n L i K h1 h2 hr
 obtain⟨r1,r2,r3,r4⟩:=hr
 show W _ K (f49 G k n L i K)
 unfold f49
 have e1:IntKind.i64.wrap (i+1)=i+1:=wrap_id (by omega)
 have e2:IntKind.i64.wrap (i+1-1)=i:=by rw[wrap_id (by omega)];omega
 rw[e1,e2]
 refine W_dec (fun h=> ?_) (fun h=> ?_)
 ·exact W_ret ⟨_,_,rfl,by omega,by omega,r1,r2,r3,r4⟩
 ·refine W_and (W_yes (by omega) (W_yes (by omega) ?_))
  refine W_nth (by omega) (fun v _ hv=> ?_)
  obtain⟨m,rfl,hm⟩:=r1 v hv
  refine W_aI ?_
  refine W_call (hP m n _ h1 h2) ?_
  rintro o ⟨x,rfl,x1,x2⟩
  refine W_uI (W_unNil ?_)
  exact W_ret ⟨_,_,rfl,x1,x2,r1,r2,by omega,by omega⟩
def EventS(G:ORC R):Prop:=∀(n:Int) (K:LV→OV R),W (fun o=>∃s,o=[.str s]∧StrS s) K (G 6 [.int .i64 n] K)
theorem event_ok(hP:PlaceS G):EventS (fun _ args (K:LV→OV R)=>g6 G k args K):=by
 intro n K
 show W _ K (f6 G k n K)
 unfold f6
 refine W_call (hP n 8 _ (by omega) (by omega)) ?_
 rintro o ⟨x,rfl,x1,x2⟩
 refine W_uI (W_unNil ?_)
 refine W_and (W_yes (by omega) (W_yes (by omega) ?_))
 refine W_nth (by simp;omega) (fun v _ hv=> ?_)
 simp only[List.mem_cons,List.not_mem_nil,or_false]at hv
 rcases hv with rfl|rfl|rfl|rfl|rfl|rfl|rfl|rfl<;>exact W_ret ⟨_,rfl,by unfold StrS;decide⟩
def PickS(G:ORC R):Prop:=∀(l:LV) (s:ByteArray) (L:LV) (i:Int) (m:Nat) (K:LV→OV R),StrsS m l→m≤100000→StrS s→RowS L i→W (fun o=>∃t j,o=[.str t,.int .i64 j]∧StrS t∧(l=[]∨ .str t∈l)∧RowS L j) K (G 74 [.sl 1 l,.str s,.sl 1 L,.int .i64 i] K)
theorem pick_ok(hN:NextS G):PickS (fun _ args (K:LV→OV R)=>g74 G k args K):=by
 intro l s L i m K hl hm hs hr
 show W _ K (f74 G k l s L i K)
 unfold f74
 have h1:=hl.1
 refine W_beqI (fun h=> ?_) (fun h=> ?_)
 ·exact W_ret ⟨_,_,rfl,hs,.inl (List.eq_nil_of_length_eq_zero (by omega)),hr⟩
 ·refine W_call (hN _ L i _ (by omega) (by omega) hr) ?_
  rintro o ⟨x,j,rfl,x1,x2,hr2⟩
  refine W_uI (W_uI (W_unNil ?_))
  refine W_and (W_yes (by omega) (W_yes (by omega) ?_))
  refine W_nth (by omega) (fun v _ hv=> ?_)
  obtain⟨t,rfl,ht⟩:=hl.2 v hv
  exact W_asStr (W_ret ⟨_,_,rfl,ht,.inr hv,hr2⟩)
end
section
variable {R : Type} {G : ORC R} {k : Nat} {K : LV → OV R}
theorem extract_size(s:ByteArray)(a b:Nat):(ByteArray.extract s a b).size≤s.size:=by
 rw[ByteArray.size_extract];omega
theorem ext_dg{n:Int}(h1:0≤n)(h2:n<10):ByteArray.extract ⟨#[48,49,50,51,52,53,54,55,56,57]⟩ n.toNat (n+1).toNat=dg n.toNat:=by
 have:n=0∨n=1∨n=2∨n=3∨n=4∨n=5∨n=6∨n=7∨n=8∨n=9:=by omega
 rcases this with rfl|rfl|rfl|rfl|rfl|rfl|rfl|rfl|rfl|rfl<;>rfl
def DecS(d:Nat)(G:ORC R):Prop:=∀(n:Int) (K:LV→OV R),0≤n→n<10^d→W (fun o=>o=[.str (decD d n.toNat)]) K (G 93 [.int .i64 n] K)
theorem dec_step{d:Nat}(hd:d≤9)(hD:d=0∨DecS d G):DecS (d+1) (fun _ args (K:LV→OV R)=>g93 G k args K):=by
 intro n K h1 h2
 have hp:(10:Int)^(d+1)=10^d*10:=Int.pow_succ _ _
 have hb:(10:Int)^d≤10^9:=by
  have:(10:Nat)^d≤10^9:=Nat.pow_le_pow_right (by decide) hd
  exact_mod_cast this
 show W _ K (f93 G k n K)
 unfold f93
 refine W_no (by omega) (W_no (by omega) ?_)
 refine W_dec (fun h=> ?_) (fun h=> ?_)
 ·rw[wrap_id (n:=n+1) (by omega)]
  have hsz:ByteArray.size ⟨#[48,49,50,51,52,53,54,55,56,57]⟩=10:=by decide
  refine W_and (W_and (W_yes (by omega) (W_yes (by omega) (W_yes (by rw[hsz];omega) ?_))))
  exact W_ret (by rw[ext_dg h1 h];unfold decD;rw[if_pos (by omega)])
 ·have ht:Int.tdiv n 10=n/10:=Int.tdiv_eq_ediv_of_nonneg h1
  have hm:Int.tmod n 10=n % 10:=Int.tmod_eq_emod_of_nonneg h1
  rw[ht,hm]
  rw[wrap_id (n:=n/10) (by omega)]
  have hD':DecS d G:=by
   rcases hD with rfl|hD
   ·simp at h2;omega
   ·exact hD
  refine W_call (hD' (n/10) _ (by omega) (by omega)) ?_
  rintro o rfl
  have hs:=decD_size (d:=d) (n:=(n/10).toNat)
  refine W_uS (W_unNil ?_)
  rw[wrap_id (n:=n % 10+1) (by omega)]
  have hsz:ByteArray.size ⟨#[48,49,50,51,52,53,54,55,56,57]⟩=10:=by decide
  have he:=extract_size ⟨#[48,49,50,51,52,53,54,55,56,57]⟩ (Int.toNat (n % 10)) (Int.toNat (n % 10+1))
  rw[hsz]at he
  refine W_and (W_and (W_yes (by omega) (W_yes (by omega) (W_yes (by rw[hsz];omega) ?_))))
  refine W_yes (by omega) ?_
  refine W_ret ?_
  rw[ext_dg (n:=n % 10) (by omega) (by omega)]
  show _=[V.str (if n.toNat<10 then dg n.toNat else decD d (n.toNat/10)++dg (n.toNat % 10))]
  rw[if_neg (by omega),show(n/10).toNat=n.toNat/10 by omega,show(n % 10).toNat=n.toNat % 10 by omega]
def DigS(G:ORC R):Prop:=∀(n:Int) (K:LV→OV R),0≤n→n<1000→W (fun o=>o=[.str (digB n.toNat)]) K (G 71 [.int .i64 n] K)
theorem dig_ok(hD:DecS 3 G):DigS (fun _ args (K:LV→OV R)=>g71 G k args K):=by
 intro n K h1 h2
 show W _ K (f71 G k n K)
 unfold f71
 refine W_call (hD n _ h1 (by simpa using h2)) ?_
 rintro o rfl
 exact W_uS (W_unNil (W_ret rfl))
theorem strs_snoc{m:Nat}{l:LV}{s:ByteArray}(h:StrsS m l)(hs:StrS s):StrsS (m+1) (l++[.str s]):=by
 refine⟨by have:=h.1;simp;omega,fun v hv=> ?_⟩
 rcases List.mem_append.1 hv with hv|hv
 ·exact h.2 v hv
 ·rw[List.mem_singleton.1 hv];exact⟨s,rfl,hs⟩
def NamesS(G:ORC R):Prop:=∀(s:ByteArray) (n:Int) (K:LV→OV R),s.size≤10→0≤n→n≤100→W (fun o=>∃l,o=[.sl 1 l]∧StrsS 100 l) K (G 50 [.str s,.int .i64 n] K)
theorem names_loop(hD:DigS G){Q:LV→Prop}{K:LV→OV R}{Ko:LV→OV R}{s:ByteArray}{n:Int}(hs:s.size≤10)(hn:n≤100)(hKo:∀l,StrsS 100 l→W Q K (Ko l)):
 ∀(j:Nat) (acc:LV) (i:Int),0≤i→i≤n→n-i<j→StrsS i.toNat acc→W Q K (l50_0g G k Ko j s n acc i)
 |0,acc,i,h1,h2,h3,h4=>by omega
 |j+1,acc,i,h1,h2,h3,h4=>by
  show W Q K (b50_0 G k (l50_0g G k Ko j) Ko s n acc i)
  unfold b50_0
  refine W_dec (fun h=> ?_) (fun h=> ?_)
  ·refine W_call (hD i _ h1 (by omega)) ?_
   rintro o rfl
   have ht:=decD_size (d:=3) (n:=i.toNat)
   change (digB i.toNat).size≤3 at ht
   refine W_uS (W_unNil ?_)
   have hl:=h4.1
   refine W_yes (by omega) (W_yes (by omega) ?_)
   rw[wrap_id (n:=i+1) (by omega)]
   refine names_loop hD hs hn hKo j _ (i+1) (by omega) (by omega) (by omega) ?_
   rw[show(i+1).toNat=i.toNat+1 by omega]
   exact strs_snoc h4 (by unfold StrS;rw[ByteArray.size_append];omega)
  ·exact hKo acc ⟨by have:=h4.1;omega,h4.2⟩
theorem names_ok(hk:1000≤k)(hD:DigS G):NamesS (fun _ args (K:LV→OV R)=>g50 G k args K):=by
 intro s n K hs h1 h2
 show W _ K (f50 G k s n K)
 unfold f50 l50_0
 exact names_loop hD hs h2 (fun l hl=>W_ret ⟨_,rfl,hl⟩) k [] 0 (by omega) h1 (by omega) ⟨by simp,by simp⟩
theorem named_snoc{m:Nat}{l:LV}{s:ByteArray}{n:Int}(h:NamedS m l)(hs:StrS s)(hn:I64 n):NamedS (m+1) (l++[.agg [.str s,.int .i64 n,.int .i64 0]]):=by
 refine⟨by have:=h.1;simp;omega,fun v hv=> ?_⟩
 rcases List.mem_append.1 hv with hv|hv
 ·exact h.2 v hv
 ·rw[List.mem_singleton.1 hv];exact⟨s,n,rfl,hs,hn⟩
def NumdS(G:ORC R):Prop:=∀(l L:LV) (i:Int) (K:LV→OV R),StrsS 100 l→RowS L i→W (fun o=>∃q j,o=[.sl 3 q,.int .i64 j]∧NamedS 100 q∧RowS L j) K (G 51 [.sl 1 l,.sl 1 L,.int .i64 i] K)
theorem named_loop(hN:NextS G){Q:LV→Prop}{K:LV→OV R}{Ko:LV→LV→Int→OV R}{l L:LV}(hl:StrsS 100 l)(hKo:∀q at_,NamedS 100 q→RowS L at_→W Q K (Ko q L at_)):
 ∀(j:Nat) (acc:LV) (i at_:Int),0≤i→i≤(l.length:Int)→(l.length:Int)-i<j→NamedS i.toNat acc→RowS L at_→W Q K (l51_0g G k Ko j l acc i L at_)
 |0,acc,i,at_,h1,h2,h3,h4,h5=>by omega
 |j+1,acc,i,at_,h1,h2,h3,h4,h5=>by
  show W Q K (b51_0 G k (l51_0g G k Ko j) Ko l acc i L at_)
  unfold b51_0
  have hll:=hl.1
  refine W_dec (fun h=> ?_) (fun h=> ?_)
  ·refine W_and (W_yes h1 (W_yes h ?_))
   refine W_nth (by omega) (fun v _ hv=> ?_)
   obtain⟨t,rfl,ht⟩:=hl.2 v hv
   refine W_asStr ?_
   refine W_call (hN 9 L at_ _ (by omega) (by omega) h5) ?_
   rintro o ⟨x,at2,rfl,x1,x2,h6⟩
   refine W_uI (W_uI (W_unNil ?_))
   have hla:=h4.1
   refine W_yes (by omega) ?_
   rw[wrap_id (n:=i+1) (by omega),wrap_id (n:=x-4) (by omega)]
   refine named_loop hN hl hKo j _ (i+1) at2 (by omega) (by omega) (by omega) ?_ h6
   rw[show(i+1).toNat=i.toNat+1 by omega]
   exact named_snoc h4 ht (by unfold I64;omega)
  ·exact hKo acc at_ ⟨by have:=h4.1;omega,h4.2⟩ h5
theorem named_ok(hk:1000≤k)(hN:NextS G):NumdS (fun _ args (K:LV→OV R)=>g51 G k args K):=by
 intro l L i K hl hr
 show W _ K (f51 G k l L i K)
 unfold f51 l51_0
 exact named_loop hN hl (fun q at_ hq hr=>W_ret ⟨_,_,rfl,hq,hr⟩) k [] 0 i (by omega) (by omega) (by have:=hl.1;omega) ⟨by simp,by simp⟩ hr
def PlainS(G:ORC R):Prop:=∀(l:LV) (K:LV→OV R),StrsS 100 l→W (fun o=>∃q,o=[.sl 3 q]∧NamedS 100 q) K (G 52 [.sl 1 l] K)
theorem plain_loop{Q:LV→Prop}{K:LV→OV R}{Ko:LV→OV R}{l:LV}(hl:StrsS 100 l)(hKo:∀q,NamedS 100 q→W Q K (Ko q)):
 ∀(j:Nat) (acc:LV) (i:Int),0≤i→i≤(l.length:Int)→(l.length:Int)-i<j→NamedS i.toNat acc→W Q K (l52_0g G k Ko j l acc i)
 |0,acc,i,h1,h2,h3,h4=>by omega
 |j+1,acc,i,h1,h2,h3,h4=>by
  show W Q K (b52_0 G k (l52_0g G k Ko j) Ko l acc i)
  unfold b52_0
  have hll:=hl.1
  refine W_dec (fun h=> ?_) (fun h=> ?_)
  ·refine W_and (W_yes h1 (W_yes h ?_))
   refine W_nth (by omega) (fun v _ hv=> ?_)
   obtain⟨t,rfl,ht⟩:=hl.2 v hv
   refine W_asStr ?_
   have hla:=h4.1
   refine W_yes (by omega) ?_
   rw[wrap_id (n:=i+1) (by omega)]
   refine plain_loop hl hKo j _ (i+1) (by omega) (by omega) (by omega) ?_
   rw[show(i+1).toNat=i.toNat+1 by omega]
   exact named_snoc h4 ht (by unfold I64;omega)
  ·exact hKo acc ⟨by have:=h4.1;omega,h4.2⟩
theorem plain_ok(hk:1000≤k):PlainS (fun _ args (K:LV→OV R)=>g52 G k args K):=by
 intro l K hl
 show W _ K (f52 G k l K)
 unfold f52 l52_0
 exact plain_loop hl (fun q hq=>W_ret ⟨_,rfl,hq⟩) k [] 0 (by omega) (by omega) (by have:=hl.1;omega) ⟨by simp,by simp⟩
end
section
variable {R : Type} {G : ORC R} {k : Nat} {K : LV → OV R}
def ExprOK(d:Nat)(G:ORC R):Prop:=∀(a b c s L:LV) (n i:Int) (K:LV→OV R),n=(d:Int)→StrsS 100 a→StrsS 100 s→RowS L i→
 W (fun o=>∃e j,o=[e,.int .i64 j]∧ExprS (d+1) e∧RowS L j) K (G 73 [.agg [.sl 1 a,.sl 1 b,.sl 1 c,.sl 1 s],.int .i64 n,.sl 1 L,.int .i64 i] K)
theorem expr_mk{d:Nat}{kind n:Int}{nm:ByteArray}{kids:LV}(h1:I64 n)(h2:StrS nm)(h3:1≤kind∧kind≤19)(h4:kids.length≤2)(h5:∀e∈kids,ExprS d e)(h6:kind≤4∨(kind≤6∧kids.length=1)∨(7≤kind∧kids.length=2)):
 ExprS (d+1) (.agg [.int .i64 kind,.int .i64 n,.str nm,.sl 5 kids,.int .i64 0]):=⟨kind,n,nm,kids,rfl,h1,h2,h3.1,h3.2,h4,h5,h6⟩
theorem one_mem{d:Nat}{a:V}(h:ExprS d a):∀e∈[a],ExprS d e:=fun e he=>by rw[List.mem_singleton.1 he];exact h
theorem two_mem{d:Nat}{a b:V}(h:ExprS d a)(h':ExprS d b):∀e∈[a,b],ExprS d e:=fun e he=>by
 simp only[List.mem_cons,List.not_mem_nil,or_false]at he
 rcases he with rfl|rfl
 ·exact h
 ·exact h'
theorem strs0:StrS ⟨#[]⟩:=by unfold StrS;decide
theorem expr_ok{d:Nat}(hd:d≤20)(hN:NextS G)(hPk:PickS G)(hE:∀d',d=d'+1→ExprOK d' G):ExprOK d (fun _ args (K:LV→OV R)=>g73 G k args K):=by
 intro a b c s L n i K hn ha hs hr
 show W _ K (f73 G k a b c s n L i K)
 unfold f73
 unfold NextS at hN;unfold PickS at hPk;unfold ExprOK at hE
 have la:=ha.1
 have lss:=hs.1
 have hE':n≠0→∃d',d=d'+1:=fun h=>⟨d-1,by omega⟩
 have hEn:∀d',d=d'+1→IntKind.i64.wrap (n-1)=(d':Int):=fun d' h=>by rw[wrap_id (by omega)];omega
 refine W_call (hN _ _ _ _ (by omega) (by omega) hr) ?_
 rintro o ⟨x,i1,rfl,x1,x2,hr1⟩
 have ht:=tmod_lt (v:=x) (n:=6) (by omega)
 by_cases hn0:n=0
 ·clear hE' hEn hE
  repeat' (first
   |with_reducible (first|(refine W_uI ?_)|(refine W_uS ?_)|(refine W_uL ?_)|(refine W_uA ?_)|(refine W_uB ?_)|(refine W_aI ?_)|(refine W_aL ?_)|(refine W_ca3 ?_)|(refine W_ce3 ?_)|(refine W_ca4 ?_)|(refine W_ce4 ?_)|(refine W_ca5 ?_)|(refine W_ce5 ?_)|(refine W_ca6 ?_)|(refine W_ce6 ?_)|(refine W_ca7 ?_)|(refine W_ce7 ?_)|(refine W_ca8 ?_)|(refine W_ce8 ?_)|(refine W_unCons ?_)|(refine W_unNil ?_)|(refine W_asInt ?_)|(refine W_asStr ?_)|(refine W_asSl ?_)|(refine W_asAgg ?_)|(refine W_kd ?_)|(refine W_z ?_))
   |((with_reducible (refine W_call (hN _ _ _ _ ?_ ?_ (by assumption)) ?_));omega;omega;rintro _ ⟨_,_,rfl,_,_,_⟩)
   |((with_reducible (refine W_call (hPk _ _ _ _ 100 _ (by assumption) ?_ strs0 (by assumption)) ?_));omega;rintro _ ⟨_,_,rfl,_,_,_⟩)
   |(with_reducible (refine W_and ?_))|((with_reducible (refine W_yes ?_ ?_));omega)|((with_reducible (refine W_no ?_ ?_));omega)|((with_reducible (refine W_eqY ?_ ?_));omega)|((with_reducible (refine W_eqN ?_ ?_));omega)
   |(with_reducible (refine W_dec (fun _=> ?_) (fun _=> ?_)))|(with_reducible (refine W_beqI (fun _=> ?_) (fun _=> ?_)))
   |((with_reducible (refine W_nth ?_ (fun v _ hv=> ?_)));(simp;omega);simp only[List.mem_cons,List.not_mem_nil,or_false]at hv;rcases hv with rfl|rfl|rfl|rfl|rfl|rfl)
   |(refine W_ret ⟨_,_,rfl,expr_mk (by unfold I64;omega) (by first|assumption|exact strs0) ⟨by omega,by omega⟩ (by simp) (by simp) (by omega),by assumption⟩))
 ·obtain⟨d',rfl⟩:=hE' hn0
  have hEn:=hEn d' rfl
  have hE:=hE d' rfl
  clear hE'
  repeat' (first
   |with_reducible (first|(refine W_uI ?_)|(refine W_uS ?_)|(refine W_uL ?_)|(refine W_uA ?_)|(refine W_uB ?_)|(refine W_aI ?_)|(refine W_aL ?_)|(refine W_ca3 ?_)|(refine W_ce3 ?_)|(refine W_ca4 ?_)|(refine W_ce4 ?_)|(refine W_ca5 ?_)|(refine W_ce5 ?_)|(refine W_ca6 ?_)|(refine W_ce6 ?_)|(refine W_ca7 ?_)|(refine W_ce7 ?_)|(refine W_ca8 ?_)|(refine W_ce8 ?_)|(refine W_unCons ?_)|(refine W_unNil ?_)|(refine W_asInt ?_)|(refine W_asStr ?_)|(refine W_asSl ?_)|(refine W_asAgg ?_)|(refine W_kd ?_)|(refine W_z ?_))
   |((with_reducible (refine W_call (hN _ _ _ _ ?_ ?_ (by assumption)) ?_));omega;omega;rintro _ ⟨_,_,rfl,_,_,_⟩)
   |((with_reducible (refine W_call (hPk _ _ _ _ 100 _ (by assumption) ?_ strs0 (by assumption)) ?_));omega;rintro _ ⟨_,_,rfl,_,_,_⟩)
   |((with_reducible (refine W_call (hE _ _ _ _ _ _ _ _ hEn (by assumption) (by assumption) (by assumption)) ?_));rintro _ ⟨_,_,rfl,he,_⟩;have he2:=he;obtain⟨_,_,_,_,rfl,_,_,_,_,_,_,_⟩:=he)
   |(with_reducible (refine W_and ?_))|((with_reducible (refine W_yes ?_ ?_));omega)|((with_reducible (refine W_no ?_ ?_));omega)|((with_reducible (refine W_eqY ?_ ?_));omega)|((with_reducible (refine W_eqN ?_ ?_));omega)
   |(with_reducible (refine W_dec (fun _=> ?_) (fun _=> ?_)))|(with_reducible (refine W_beqI (fun _=> ?_) (fun _=> ?_)))
   |((with_reducible (refine W_nth ?_ (fun v _ hv=> ?_)));(simp;omega);simp only[List.mem_cons,List.not_mem_nil,or_false]at hv;rcases hv with rfl|rfl|rfl|rfl|rfl|rfl)
   |(refine W_ret ⟨_,_,rfl,expr_mk (by unfold I64;omega) (by first|assumption|exact strs0) ⟨by first|omega|(rw[wrap_id (by omega)];omega),by first|omega|(rw[wrap_id (by omega)];omega)⟩ (by simp) (by first|exact two_mem (by assumption) (by assumption)|exact one_mem (by assumption)|simp) (by first|exact .inr (.inr ⟨by rw[wrap_id (by omega)];omega,rfl⟩)|exact .inr (.inl ⟨by rw[wrap_id (by omega)];omega,rfl⟩)|omega),by assumption⟩))
end
set_option maxHeartbeats 8000000
section
variable {R : Type} {G : ORC R} {k : Nat} {K : LV → OV R}
def BlockOK(d:Nat)(G:ORC R):Prop:=∀(a b c s L:LV) (n i:Int) (K:LV→OV R),n=(d:Int)→StrsS 100 a→StrsS 100 b→StrsS 100 c→StrsS 100 s→RowS L i→
 W (fun o=>∃q j,o=[.sl 8 q,.int .i64 j]∧BlockS (d+1) q∧RowS L j) K (G 72 [.agg [.sl 1 a,.sl 1 b,.sl 1 c,.sl 1 s],.int .i64 n,.sl 1 L,.int .i64 i] K)
theorem act_mk{d:Nat}{kind n:Int}{nm ev:ByteArray}{x th el:LV}(h1:ActN kind n)(h2:StrS nm)(h3:StrS ev)(h4:1≤kind∧kind≤7)(h5:x.length≤1)(h6:∀e∈x,ExprS 3 e)(h7:kind=6→x.length=1)(h8:BlockS d th)(h9:BlockS d el):
 ActS (d+1) (.agg [.int .i64 kind,.str nm,.str ev,.sl 5 x,.int .i64 n,.sl 8 th,.sl 8 el,.int .i64 0]):=⟨kind,nm,ev,x,n,th,el,rfl,h1,h2,h3,h4.1,h4.2,h5,h6,h7,h8.1,h9.1,h8.2,h9.2⟩
theorem block0{d:Nat}:BlockS d []:=⟨by simp,by simp⟩
theorem take_one{e:V}{n:Nat}(h:ExprS 3 e):(List.take n [e]).length≤1∧∀v∈List.take n [e],ExprS 3 v:=
 ⟨by simp[List.length_take];omega,fun v hv=>one_mem h v (List.mem_of_mem_take hv)⟩
theorem num_of{n:Int}(h:I64 n):∀e∈[V.agg [.int .i64 1,.int .i64 n,.str ⟨#[]⟩,.sl 5 [],.int .i64 0]],ExprS 3 e:=one_mem (expr_mk (d:=2) h strs0 ⟨by omega,by omega⟩ (by simp) (by simp) (by omega))
theorem i64_0:I64 0:=by unfold I64;omega
theorem block_round{d:Nat}(hd:d≤3)(hN:NextS G)(hPk:PickS G)(hEv:EventS G)(hE:ExprOK 2 G)(hB:∀d',d=d'+1→BlockOK d' G){Q:LV→Prop}{K:LV→OV R}{a b c s L acc:LV}{n i dd:Int}
 (X:Int→LV→Int→LV→Int→LV→LV→LV→LV→OV R) (Ko:LV→LV→Int→OV R)
 (hdd:dd=(d:Int)) (ha:StrsS 100 a) (hb:StrsS 100 b) (hc:StrsS 100 c) (hs:StrsS 100 s) (hr:RowS L i) (hn:n>0) (hacc:acc.length≤2)
 (hX1:∀v j,ActS (d+1) v→RowS L j→W Q K (X dd (acc++[v]) (IntKind.i64.wrap (n-1)) L j a b c s))
 (hX0:∀j,RowS L j→W Q K (X dd acc (IntKind.i64.wrap (n-1)) L j a b c s)):
 W Q K (b72_0 G k X Ko dd acc n L i a b c s):=by
 unfold b72_0
 unfold NextS at hN;unfold PickS at hPk;unfold EventS at hEv;unfold ExprOK at hE;unfold BlockOK at hB
 have la:=ha.1
 have lb:=hb.1
 have lc:=hc.1
 refine W_yes hn ?_
 refine W_call (hN _ _ _ _ (by omega) (by omega) hr) ?_
 rintro _ ⟨x,i1,rfl,x1,x2,hr1⟩
 refine W_uI (W_uI (W_unNil ?_))
 refine W_call (hE _ _ _ _ _ _ _ _ (by rfl) ha hs hr1) ?_
 rintro _ ⟨e,i2,rfl,he,hr2⟩
 have he2:=he
 obtain⟨_,_,_,_,rfl,_⟩:=he
 repeat (with_reducible (first|(refine W_uI ?_)|(refine W_uS ?_)|(refine W_uL ?_)|(refine W_uA ?_)|(refine W_uB ?_)|(refine W_aI ?_)|(refine W_aL ?_)|(refine W_ca3 ?_)|(refine W_ce3 ?_)|(refine W_ca4 ?_)|(refine W_ce4 ?_)|(refine W_ca5 ?_)|(refine W_ce5 ?_)|(refine W_ca6 ?_)|(refine W_ce6 ?_)|(refine W_ca7 ?_)|(refine W_ce7 ?_)|(refine W_ca8 ?_)|(refine W_ce8 ?_)|(refine W_unCons ?_)|(refine W_unNil ?_)|(refine W_asInt ?_)|(refine W_asStr ?_)|(refine W_asSl ?_)|(refine W_asAgg ?_)|(refine W_kd ?_)|(refine W_z ?_)))
 have ht:=take_one (n:=0) he2
 by_cases hd0:d=0
 ·have hdd0:¬dd>0:=by omega
  clear hB
  repeat' (first
   |with_reducible (first|(refine W_uI ?_)|(refine W_uS ?_)|(refine W_uL ?_)|(refine W_uA ?_)|(refine W_uB ?_)|(refine W_aI ?_)|(refine W_aL ?_)|(refine W_ca3 ?_)|(refine W_ce3 ?_)|(refine W_ca4 ?_)|(refine W_ce4 ?_)|(refine W_ca5 ?_)|(refine W_ce5 ?_)|(refine W_ca6 ?_)|(refine W_ce6 ?_)|(refine W_ca7 ?_)|(refine W_ce7 ?_)|(refine W_ca8 ?_)|(refine W_ce8 ?_)|(refine W_unCons ?_)|(refine W_unNil ?_)|(refine W_asInt ?_)|(refine W_asStr ?_)|(refine W_asSl ?_)|(refine W_asAgg ?_)|(refine W_kd ?_)|(refine W_z ?_))
   |((with_reducible (refine W_call (hN _ _ _ _ ?_ ?_ (by assumption)) ?_));omega;omega;rintro _ ⟨_,_,rfl,_,_,_⟩)
   |((with_reducible (refine W_call (hPk _ _ _ _ 100 _ (by assumption) ?_ strs0 (by assumption)) ?_));omega;rintro _ ⟨_,_,rfl,_,_,_⟩)
   |((with_reducible (refine W_call (hEv _ _) ?_));rintro _ ⟨_,rfl,_⟩)
   |(with_reducible (refine W_and ?_))|((with_reducible (refine W_no hdd0 ?_)))|((with_reducible (refine W_yes ?_ ?_));omega)|((with_reducible (refine W_no ?_ ?_));omega)|((with_reducible (refine W_eqY ?_ ?_));omega)|((with_reducible (refine W_eqN ?_ ?_));omega)
   |(with_reducible (refine W_dec (fun _=> ?_) (fun _=> ?_)))|(with_reducible (refine W_beqI (fun _=> ?_) (fun _=> ?_)))
   |(with_reducible (exact hX0 _ (by assumption)))
   |((with_reducible (refine hX1 _ _ ?_ (by assumption)));
     exact act_mk (by first|exact⟨i64_0,by omega⟩|(rw[wrap_id (by omega)];unfold ActN I64;omega)) (by first|assumption|exact strs0) (by first|assumption|exact strs0) ⟨by omega,by omega⟩
      (by first|exact Nat.le_refl 1|exact Nat.zero_le 1|exact(take_one he2).1) (by first|exact one_mem he2|exact(take_one he2).2|exact num_of (by rw[wrap_id (by omega)];unfold I64;omega)|simp) (by first|omega|exact fun _=>rfl) block0 block0))
 ·obtain⟨d',rfl⟩:∃d',d=d'+1:=⟨d-1,by omega⟩
  have hdd0:dd>0:=by omega
  have hB:=hB d' rfl
  have hBn:IntKind.i64.wrap (dd-1)=(d':Int):=by rw[wrap_id (by omega)];omega
  repeat' (first
   |with_reducible (first|(refine W_uI ?_)|(refine W_uS ?_)|(refine W_uL ?_)|(refine W_uA ?_)|(refine W_uB ?_)|(refine W_aI ?_)|(refine W_aL ?_)|(refine W_ca3 ?_)|(refine W_ce3 ?_)|(refine W_ca4 ?_)|(refine W_ce4 ?_)|(refine W_ca5 ?_)|(refine W_ce5 ?_)|(refine W_ca6 ?_)|(refine W_ce6 ?_)|(refine W_ca7 ?_)|(refine W_ce7 ?_)|(refine W_ca8 ?_)|(refine W_ce8 ?_)|(refine W_unCons ?_)|(refine W_unNil ?_)|(refine W_asInt ?_)|(refine W_asStr ?_)|(refine W_asSl ?_)|(refine W_asAgg ?_)|(refine W_kd ?_)|(refine W_z ?_))
   |((with_reducible (refine W_call (hN _ _ _ _ ?_ ?_ (by assumption)) ?_));omega;omega;rintro _ ⟨_,_,rfl,_,_,_⟩)
   |((with_reducible (refine W_call (hPk _ _ _ _ 100 _ (by assumption) ?_ strs0 (by assumption)) ?_));omega;rintro _ ⟨_,_,rfl,_,_,_⟩)
   |((with_reducible (refine W_call (hEv _ _) ?_));rintro _ ⟨_,rfl,_⟩)
   |((with_reducible (refine W_call (hB _ _ _ _ _ _ _ _ hBn (by assumption) (by assumption) (by assumption) (by assumption) (by assumption)) ?_));rintro _ ⟨_,_,rfl,_,_⟩)
   |(with_reducible (refine W_and ?_))|((with_reducible (refine W_yes hdd0 ?_)))|((with_reducible (refine W_yes ?_ ?_));omega)|((with_reducible (refine W_no ?_ ?_));omega)|((with_reducible (refine W_eqY ?_ ?_));omega)|((with_reducible (refine W_eqN ?_ ?_));omega)
   |(with_reducible (refine W_dec (fun _=> ?_) (fun _=> ?_)))|(with_reducible (refine W_beqI (fun _=> ?_) (fun _=> ?_)))
   |(with_reducible (exact hX0 _ (by assumption)))
   |((with_reducible (refine hX1 _ _ ?_ (by assumption)));
     exact act_mk (by first|exact⟨i64_0,by omega⟩|(rw[wrap_id (by omega)];unfold ActN I64;omega)) (by first|assumption|exact strs0) (by first|assumption|exact strs0) ⟨by omega,by omega⟩
      (by first|exact Nat.le_refl 1|exact Nat.zero_le 1|exact(take_one he2).1) (by first|exact one_mem he2|exact(take_one he2).2|exact num_of (by rw[wrap_id (by omega)];unfold I64;omega)|simp) (by first|omega|exact fun _=>rfl) (by first|assumption|exact block0) (by first|assumption|exact block0)))
theorem block_loop{d:Nat}(hd:d≤3)(hN:NextS G)(hPk:PickS G)(hEv:EventS G)(hE:ExprOK 2 G)(hB:∀d',d=d'+1→BlockOK d' G){Q:LV→Prop}{K:LV→OV R}{a b c s L:LV}{dd:Int}{Ko:LV→LV→Int→OV R}
 (hdd:dd=(d:Int)) (ha:StrsS 100 a) (hb:StrsS 100 b) (hc:StrsS 100 c) (hs:StrsS 100 s) (hKo:∀q j,BlockS (d+1) q→RowS L j→W Q K (Ko q L j)):
 ∀(j:Nat) (acc:LV) (n i:Int),n<j→(acc.length:Int)+n≤2→0≤n→(∀v∈acc,ActS (d+1) v)→RowS L i→W Q K (l72_0g G k Ko j dd acc n L i a b c s)
 |0,acc,n,i,h1,h2,h3,h4,h5=>by omega
 |j+1,acc,n,i,h1,h2,h3,h4,h5=>by
  show W Q K (b72_0 G k (l72_0g G k Ko j) Ko dd acc n L i a b c s)
  by_cases hn:n>0
  ·refine block_round hd hN hPk hEv hE hB _ _ hdd ha hb hc hs h5 hn (by omega) (fun v j' hv hj=> ?_) (fun j' hj=> ?_)
   ·refine block_loop hd hN hPk hEv hE hB hdd ha hb hc hs hKo j _ _ j' (by rw[wrap_id (by omega)];omega) (by rw[wrap_id (by omega)];simp;omega) (by rw[wrap_id (by omega)];omega) ?_ hj
    intro w hw
    rcases List.mem_append.1 hw with hw|hw
    ·exact h4 w hw
    ·rw[List.mem_singleton.1 hw];exact hv
   ·exact block_loop hd hN hPk hEv hE hB hdd ha hb hc hs hKo j _ _ j' (by rw[wrap_id (by omega)];omega) (by rw[wrap_id (by omega)];omega) (by rw[wrap_id (by omega)];omega) h4 hj
  ·unfold b72_0
   exact W_no hn (hKo acc i ⟨by omega,h4⟩ h5)
theorem block_ok{d:Nat}(hk:1000≤k)(hd:d≤3)(hN:NextS G)(hPk:PickS G)(hEv:EventS G)(hE:ExprOK 2 G)(hB:∀d',d=d'+1→BlockOK d' G):BlockOK d (fun _ args (K:LV→OV R)=>g72 G k args K):=by
 intro a b c s L n i K hn ha hb hc hs hr
 show W _ K (f72 G k a b c s n L i K)
 unfold f72
 refine W_call (hN _ _ _ _ (by omega) (by omega) hr) ?_
 rintro _ ⟨x,i1,rfl,x1,x2,hr1⟩
 refine W_uI (W_uI (W_unNil ?_))
 unfold l72_0
 exact block_loop hd hN hPk hEv hE hB hn ha hb hc hs (fun q j hq hj=>W_ret ⟨_,_,rfl,hq,hj⟩) k [] x i1 (by omega) (by simp;omega) x1 (by simp) hr1
end
section
variable {R : Type} {G : ORC R} {k : Nat} {K : LV → OV R}
def StOK(d:Nat)(G:ORC R):Prop:=∀(b:Bool) (a p c s all L:LV) (n left i:Int) (K:LV→OV R),n=(d:Int)→1≤left→left+all.length≤20→NmsS all→NmI all→RowS L i→
 W (fun o=>∃x left' all' j,o=[x,.int .i64 left',.sl 1 all',.int .i64 j]∧StateS 0 (d+1) x∧kindV x≤2∧0≤left'∧left'<left∧left'+(all'.length:Int)=left+all.length∧NmsS all'∧RowS L j∧all'=all++nmV (d+1) x∧NmI all') K
   (G 53 [.int .i64 n,.bool b,.sl 1 a,.sl 1 p,.sl 1 c,.sl 1 s,.int .i64 left,.sl 1 all,.sl 1 L,.int .i64 i] K)
theorem nms_snoc{l:LV}{s:ByteArray}(h:NmsS l)(hs:StrS s)(h0:0<s.size):NmsS (l++[.str s]):=fun v hv=>by
 rcases List.mem_append.1 hv with hv|hv
 ·exact h v hv
 ·rw[List.mem_singleton.1 hv];exact⟨s,rfl,hs,h0⟩
theorem mem_snoc{P:V→Prop}{l:LV}{x:V}(h:∀v∈l,P v)(hx:P x):∀v∈l++[x],P v:=fun v hv=>by
 rcases List.mem_append.1 hv with hv|hv
 ·exact h v hv
 ·rw[List.mem_singleton.1 hv];exact hx
theorem head_snoc{l:LV}{x:V}(h:∀s r,l=s::r→kindV s≤2)(hx:l=[]→kindV x≤2):∀s r,l++[x]=s::r→kindV s≤2:=by
 intro s r e
 cases l with
 |nil=>simp at e;rw[←e.1];exact hx rfl
 |cons a l=>simp at e;rw[←e.1];exact h a l rfl
theorem state_mk{d:Nat}{kind:Int}{nm:ByteArray}{kids:LV}(h1:StrS nm)(h2:0<nm.size)(h3:1≤kind∧kind≤4)(h4:kids.length≤4)(h5:∀s∈kids,StateS 0 d s)(h6:2<kind→kids=[])(h7:∀s r,kids=s::r→kindV s≤2)(h8:kind=2→kids≠[]):
 StateS 0 (d+1) (.agg [.int .i64 kind,.str nm,.sl 8 [],.sl 8 [],.sl 5 [],.sl 7 kids,.int .i64 0]):=
 ⟨kind,nm,[],[],[],kids,rfl,h1,h2,h3.1,h3.2,block0,block0,by simp,by simp,h4,h5,fun h=>⟨h6 h,rfl,rfl,rfl⟩,h7,h8⟩
theorem pre_strs{c:UInt8}{s:ByteArray}(h:s.size≤30):StrS (⟨#[c]⟩++s)∧0<(⟨#[c]⟩++s:ByteArray).size:=by
 have e:(⟨#[c]⟩++s:ByteArray).size=1+s.size:=by rw[ByteArray.size_append];rfl
 unfold StrS;rw[e];omega
theorem st_loop{d:Nat}(hS:StOK d G){Q:LV→Prop}{K:LV→OV R}{a p c s L h1 h2 h3 h4 en ex tr:LV}{dd h0 h5 kind z T m:Int}{hs nm:ByteArray}{Ko:LV→LV→LV→LV→Int→LV→LV→Int→Int→ByteArray→LV→LV→LV→LV→Int→Int→ByteArray→LV→LV→LV→LV→Int→OV R}
 (hdd:IntKind.i64.wrap (dd-1)=(d:Int)) (hT:T≤20) {all0:LV}
 (hKo:∀left all j kids,(all0++nmVL (d+1) kids=all∧NmI all)→0≤left→left≤m→left+(List.length all:Int)=T→NmsS all→RowS L j→kids.length≤3→(∀s∈kids,StateS 0 (d+1) s)→(∀s r,kids=s::r→kindV s≤2)→kids≠[]→W Q K (Ko a p c s left all L j h0 hs h1 h2 h3 h4 h5 kind nm en ex tr kids z)):
 ∀(j:Nat) (n left:Int) (all:LV) (i:Int) (acc:LV),(all0++nmVL (d+1) acc=all∧NmI all)→n<j→0≤n→(acc.length:Int)+n≤3→(acc=[]→1≤left∧0<n)→0≤left→left≤m→left+(List.length all:Int)=T→NmsS all→RowS L i→(∀s∈acc,StateS 0 (d+1) s)→(∀s r,acc=s::r→kindV s≤2)→
  W Q K (l53_0g G k Ko j dd n a p c s left all L i h0 hs h1 h2 h3 h4 h5 kind nm en ex tr acc z)
 |0,n,left,all,i,acc,a0,a1,a2,a3,a4,a5,a6,a7,a8,a9,a10,a11=>by omega
 |j+1,n,left,all,i,acc,a0,a1,a2,a3,a4,a5,a6,a7,a8,a9,a10,a11=>by
  show W Q K (b53_0 G k (l53_0g G k Ko j) Ko dd n a p c s left all L i h0 hs h1 h2 h3 h4 h5 kind nm en ex tr acc z)
  unfold b53_0
  by_cases hn:n>0
  ·refine W_yes hn ?_
   by_cases hl:left>0
   ·refine W_yes hl ?_
    refine W_call (hS true a p c s all L _ left i _ hdd (by omega) (by omega) a8 a0.2 a9) ?_
    rintro _ ⟨x,left',all',j',rfl,b1,b2,b3,b4,b5,b6,b7,b8,b8'⟩
    have b1':=b1
    have b9:all0++nmVL (d+1) (acc++[x])=all'∧NmI all':=⟨by rw[nmVL_app,←List.append_assoc,a0.1,b8];simp[nmVL],b8'⟩
    obtain⟨_,_,_,_,_,_,rfl,_⟩:=b1
    repeat (with_reducible (first|(refine W_uI ?_)|(refine W_uS ?_)|(refine W_uL ?_)|(refine W_uA ?_)|(refine W_uB ?_)|(refine W_aI ?_)|(refine W_aL ?_)|(refine W_ca3 ?_)|(refine W_ce3 ?_)|(refine W_ca4 ?_)|(refine W_ce4 ?_)|(refine W_ca5 ?_)|(refine W_ce5 ?_)|(refine W_ca6 ?_)|(refine W_ce6 ?_)|(refine W_ca7 ?_)|(refine W_ce7 ?_)|(refine W_ca8 ?_)|(refine W_ce8 ?_)|(refine W_unCons ?_)|(refine W_unNil ?_)|(refine W_asInt ?_)|(refine W_asStr ?_)|(refine W_asSl ?_)|(refine W_asAgg ?_)|(refine W_kd ?_)|(refine W_z ?_)))
    refine W_yes (by omega) ?_
    have e1:IntKind.i64.wrap (n-1)=n-1:=wrap_id (by omega)
    rw[e1]
    exact st_loop hS hdd hT hKo j _ _ _ _ _ b9 (by omega) (by omega) (by simp;omega) (by simp) b3 (by omega) (by omega) b6 b7 (mem_snoc a10 b1') (head_snoc a11 (fun _=>b2))
   ·refine W_no hl ?_
    have hacc:acc≠[]:=fun h=>by have:=(a4 h).1;omega
    have hlen:((acc.length:Nat):Int)≠0:=fun h=>hacc (List.eq_nil_of_length_eq_zero (by omega))
    refine W_eqN hlen ?_
    exact hKo left all i acc a0 a5 a6 a7 a8 a9 (by omega) a10 a11 hacc
  ·exact W_no hn (hKo left all i acc a0 a5 a6 a7 a8 a9 (by omega) a10 a11 (fun h=>by have:=(a4 h).2;omega))
theorem st_ok{d:Nat}(hk:1000≤k)(hd:d≤3)(hN:NextS G)(hDg:DigS G)(hS:∀d',d=d'+1→StOK d' G):StOK d (fun _ args (K:LV→OV R)=>g53 G k args K):=by
 intro b a p c s all L n left i K hn h1 h2 h3 h3' h4
 show W _ K (f53 G k n b a p c s left all L i K)
 unfold f53
 have e1:IntKind.i64.wrap (left-1)=left-1:=wrap_id (by omega)
 rw[e1]
 have s115:ByteArray.size ⟨#[115]⟩=1:=by decide
 have s104:ByteArray.size ⟨#[104]⟩=1:=by decide
 rw[s115,s104]
 unfold NextS at hN;unfold DigS at hDg
 have dsz:∀m,(digB m).size≤30:=fun m=>Nat.le_trans (decD_size (d:=3)) (by omega)
 have ddsz:∀m,(digB m).size≤3:=fun m=>decD_size (d:=3)
 refine W_call (hDg _ _ (by omega) (by omega)) ?_
 rintro _ rfl
 have t1s:=dsz ((all.length:Int).toNat)
 have t1s':=ddsz ((all.length:Int).toNat)
 refine W_uS (W_unNil (W_yes (by omega) (W_yes (by omega) ?_)))
 refine W_call (hDg _ _ (by omega) (by omega)) ?_
 rintro _ rfl
 refine W_uS (W_unNil (W_yes (by omega) ?_))
 have t1p:=pre_strs (c:=115) t1s
 have hall:=nms_snoc h3 t1p.1 t1p.2
 have leaf:StateS 0 (d+1) (.agg [.int .i64 1,.str (⟨#[115]⟩++digB (Int.toNat all.length)),.sl 8 [],.sl 8 [],.sl 5 [],.sl 7 [],.int .i64 0]):=state_mk t1p.1 t1p.2 ⟨by omega,by omega⟩ (by simp) (by simp) (fun _=>rfl) (by simp) (by omega)
 have hlen:left-1+((all++[V.str (⟨#[115]⟩++digB (Int.toNat all.length))]).length:Int)=left+all.length:=by simp;omega
 have hni:NmI (all++[V.str (⟨#[115]⟩++digB (Int.toNat all.length))]):=nmI_snoc h3' (.inl rfl)
 have hsz:all++[V.str (⟨#[115]⟩++digB (Int.toNat all.length))]=all++nmV (d+1) (.agg [.int .i64 1,.str (⟨#[115]⟩++digB (Int.toNat all.length)),.sl 8 [],.sl 8 [],.sl 5 [],.sl 7 [],.int .i64 0])∧NmI (all++[V.str (⟨#[115]⟩++digB (Int.toNat all.length))]):=⟨rfl,hni⟩
 by_cases hd0:n>0
 ·obtain⟨d',rfl⟩:∃d',d=d'+1:=⟨d-1,by omega⟩
  have hdd:IntKind.i64.wrap (n-1)=(d':Int):=by rw[wrap_id (by omega)];omega
  refine W_yes hd0 ?_
  refine W_dec (fun hl=> ?_) (fun _=>W_ret ⟨_,_,_,_,rfl,leaf,by simp[kindV],by omega,by omega,hlen,hall,h4,hsz.1,hsz.2⟩)
  refine W_call (hN _ _ _ _ (by omega) (by omega) h4) ?_
  rintro _ ⟨x1,i1,rfl,x11,x12,r1⟩
  refine W_uI (W_uI (W_unNil ?_))
  refine W_dec (fun hx1=> ?_) (fun _=>W_ret ⟨_,_,_,_,rfl,leaf,by simp[kindV],by omega,by omega,hlen,hall,r1,hsz.1,hsz.2⟩)
  refine W_call (hN _ _ _ _ (by omega) (by omega) r1) ?_
  rintro _ ⟨x2,i2,rfl,x21,x22,r2⟩
  refine W_uI (W_uI (W_unNil ?_))
  refine W_beqI (fun _=> ?_) (fun _=> ?_)
  all_goals
   refine W_call (hN _ _ _ _ (by omega) (by omega) r2) ?_
   rintro _ ⟨x3,i3,rfl,x31,x32,r3⟩
   refine W_uI (W_uI (W_unNil ?_))
   have e2:IntKind.i64.wrap (1+x3)=1+x3:=wrap_id (by omega)
   rw[e2]
   unfold l53_0
   refine st_loop (m:=left-1) (all0:=all++[V.str (⟨#[115]⟩++digB (Int.toNat all.length))]) (hS d' rfl) hdd h2 ?_ k _ _ _ _ _ ⟨by simp[nmVL],hni⟩ (by omega) (by omega) (by simp;omega) (fun _=>⟨by omega,by omega⟩) (by omega) (by omega) hlen hall r3 (by simp) (by simp)
   intro left' all' j' kids c0 c1 c2 c3 c4 c5 c6 c7 c8 c9
   have fin:∀(K':LV→OV R) kd,K'=K→(kd=1∨kd=2)→∀jj,RowS L jj→W (fun o=>∃x left'' all'' j,o=[x,.int .i64 left'',.sl 1 all'',.int .i64 j]∧StateS 0 (d'+1+1) x∧kindV x≤2∧0≤left''∧left''<left∧left''+(all''.length:Int)=left+all.length∧NmsS all''∧RowS L j∧all''=all++nmV (d'+1+1) x∧NmI all'') K
    (K [.agg [.int .i64 kd,.str (⟨#[115]⟩++digB (Int.toNat all.length)),.sl 8 [],.sl 8 [],.sl 5 [],.sl 7 kids,.int .i64 0],.int .i64 left',.sl 1 all',.int .i64 jj]):=by
    intro K' kd _ hkd jj hjj
    exact W_ret ⟨_,_,_,_,rfl,state_mk t1p.1 t1p.2 ⟨by omega,by omega⟩ (by omega) c7 (by omega) c8 (fun _=>c9),by simp[kindV];omega,c1,by omega,by omega,c4,hjj,by rw[←c0.1,List.append_assoc];rfl,c0.2⟩
   refine W_dec (fun hl1=> ?_) (fun _=>fin K _ rfl (by omega) _ c5)
   refine W_call (hN _ _ _ _ (by omega) (by omega) c5) ?_
   rintro _ ⟨x4,i4,rfl,x41,x42,r4⟩
   refine W_uI (W_uI (W_unNil ?_))
   refine W_beqI (fun _=> ?_) (fun _=>fin K _ rfl (by omega) _ r4)
   refine W_call (hN _ _ _ _ (by omega) (by omega) r4) ?_
   rintro _ ⟨x5,i5,rfl,x51,x52,r5⟩
   refine W_uI (W_uI (W_unNil ?_))
   refine W_call (hDg _ _ (by omega) (by omega)) ?_
   rintro _ rfl
   have t3s:=dsz ((all'.length:Int).toNat)
   have t3s':=ddsz ((all'.length:Int).toNat)
   have t3p:=pre_strs (c:=104) t3s
   refine W_uS (W_unNil (W_yes (by omega) (W_yes (by omega) (W_yes (by omega) ?_))))
   have e3:IntKind.i64.wrap (3+x5)=3+x5:=wrap_id (by omega)
   have e4:IntKind.i64.wrap (left'-1)=left'-1:=wrap_id (by omega)
   rw[e3,e4]
   exact W_ret ⟨_,_,_,_,rfl,state_mk t1p.1 t1p.2 ⟨by omega,by omega⟩ (by simp;omega) (mem_snoc c7 (state_mk t3p.1 t3p.2 ⟨by omega,by omega⟩ (by simp) (by simp) (fun _=>rfl) (by simp) (by omega))) (by omega) (head_snoc c8 (fun h=>absurd h c9)) (fun _=>by simp),by simp[kindV],by omega,by omega,by simp;omega,nms_snoc c4 t3p.1 t3p.2,r5,by rw[←c0.1];simp[nmV,nmVL,stKids],nmI_snoc c0.2 (.inr rfl)⟩
 ·exact W_no hd0 (W_ret ⟨_,_,_,_,rfl,leaf,by simp[kindV],by omega,by omega,hlen,hall,h4,hsz.1,hsz.2⟩)
end
section
variable {R : Type} {G : ORC R} {k : Nat} {K : LV → OV R}
def FillOK(d:Nat)(G:ORC R):Prop:=∀(x:V) (a p c s all L:LV) (left i:Int) (K:LV→OV R),StateS 0 d x→StrsS 100 a→StrsS 100 p→StrsS 100 c→StrsS 100 s→NmsS all→all.length≤20→RowS L i→
 W (fun o=>∃y j,o=[y,.int .i64 left,.int .i64 j]∧StateS 2 d y∧kindV y=kindV x∧RowS L j∧nmV d y=nmV d x) K
   (G 54 [x,.sl 1 a,.sl 1 p,.sl 1 c,.sl 1 s,.int .i64 left,.sl 1 all,.sl 1 L,.int .i64 i] K)
theorem trans_mk{ev tg:ByteArray}{gd acts:LV}(h1:StrS ev)(h2:StrS tg)(h3:gd.length≤1)(h4:∀e∈gd,ExprS 3 e)(h5:BlockS 3 acts):TransS (.agg [.str ev,.sl 5 gd,.str tg,.sl 8 acts,.int .i64 0]):=⟨ev,gd,tg,acts,rfl,h1,h2,h3,h4,h5⟩
theorem tr_round(hN:NextS G)(hPk:PickS G)(hEv:EventS G)(hE:ExprOK 2 G)(hB:BlockOK 2 G){Q:LV→Prop}{K:LV→OV R}{a p c s all L h1 h2 h3 h4 en ex tr kids:LV}{left h0 h5 kind z n i:Int}{hs nm:ByteArray}
 (X:Int→LV→LV→LV→LV→Int→LV→LV→Int→Int→ByteArray→LV→LV→LV→LV→Int→Int→ByteArray→LV→LV→LV→LV→Int→OV R) (Ko:LV→LV→LV→LV→Int→LV→LV→Int→Int→ByteArray→LV→LV→LV→LV→Int→Int→ByteArray→LV→LV→LV→LV→Int→OV R)
 (ha:StrsS 100 a) (hp:StrsS 100 p) (hc:StrsS 100 c) (hss:StrsS 100 s) (hal:StrsS 100 all) (hr:RowS L i) (hn:n>0) (htr:tr.length≤2)
 (hX1:∀v j,TransS v→RowS L j→W Q K (X (IntKind.i64.wrap (n-1)) a p c s left all L j kind nm en ex (tr++[v]) kids z h0 hs h1 h2 h3 h4 h5)):
 W Q K (b54_0 G k X Ko n a p c s left all L i kind nm en ex tr kids z h0 hs h1 h2 h3 h4 h5):=by
 unfold b54_0
 unfold NextS at hN;unfold PickS at hPk;unfold EventS at hEv;unfold ExprOK at hE;unfold BlockOK at hB
 refine W_yes hn ?_
 repeat' (first
  |with_reducible (first|(refine W_uI ?_)|(refine W_uS ?_)|(refine W_uL ?_)|(refine W_uA ?_)|(refine W_uB ?_)|(refine W_aI ?_)|(refine W_aL ?_)|(refine W_ca3 ?_)|(refine W_ce3 ?_)|(refine W_ca4 ?_)|(refine W_ce4 ?_)|(refine W_ca5 ?_)|(refine W_ce5 ?_)|(refine W_ca6 ?_)|(refine W_ce6 ?_)|(refine W_ca7 ?_)|(refine W_ce7 ?_)|(refine W_ca8 ?_)|(refine W_ce8 ?_)|(refine W_unCons ?_)|(refine W_unNil ?_)|(refine W_asInt ?_)|(refine W_asStr ?_)|(refine W_asSl ?_)|(refine W_asAgg ?_)|(refine W_kd ?_)|(refine W_z ?_))
  |((with_reducible (refine W_call (hN _ _ _ _ ?_ ?_ (by assumption)) ?_));omega;omega;rintro _ ⟨_,_,rfl,_,_,_⟩)
  |((with_reducible (refine W_call (hPk _ _ _ _ 100 _ (by assumption) ?_ strs0 (by assumption)) ?_));omega;rintro _ ⟨_,_,rfl,_,_,_⟩)
  |((with_reducible (refine W_call (hEv _ _) ?_));rintro _ ⟨_,rfl,_⟩)
  |((with_reducible (refine W_call (hE _ _ _ _ _ _ _ _ ?_ (by assumption) (by assumption) (by assumption)) ?_));(rfl);rintro _ ⟨_,_,rfl,he,_⟩;have he2:=one_mem he;obtain⟨_,_,_,_,rfl,_⟩:=he)
  |((with_reducible (refine W_call (hB _ _ _ _ _ _ _ _ ?_ (by assumption) (by assumption) (by assumption) (by assumption) (by assumption)) ?_));(rfl);rintro _ ⟨_,_,rfl,_,_⟩)
  |((with_reducible (refine W_yes ?_ ?_));omega)
  |(with_reducible (refine W_dec (fun _=> ?_) (fun _=> ?_)))|(with_reducible (refine W_beqI (fun _=> ?_) (fun _=> ?_)))
  |((with_reducible (refine hX1 _ _ ?_ (by assumption)));
    exact trans_mk (by first|assumption|exact strs0) (by first|assumption|exact strs0) (by first|exact Nat.le_refl 1|exact Nat.zero_le 1) (by first|assumption|simp) (by first|assumption|exact block0)))
theorem tr_loop(hN:NextS G)(hPk:PickS G)(hEv:EventS G)(hE:ExprOK 2 G)(hB:BlockOK 2 G){Q:LV→Prop}{K:LV→OV R}{a p c s all L h1 h2 h3 h4 en ex kids:LV}{left h0 h5 kind z:Int}{hs nm:ByteArray}
 {Ko:LV→LV→LV→LV→Int→LV→LV→Int→Int→ByteArray→LV→LV→LV→LV→Int→Int→ByteArray→LV→LV→LV→LV→Int→OV R}
 (ha:StrsS 100 a) (hp:StrsS 100 p) (hc:StrsS 100 c) (hss:StrsS 100 s) (hal:StrsS 100 all)
 (hKo:∀tr j,tr.length≤2→(∀t∈tr,TransS t)→RowS L j→W Q K (Ko a p c s left all L j kind nm en ex tr kids z h0 hs h1 h2 h3 h4 h5)):
 ∀(j:Nat) (n i:Int) (tr:LV),n<j→0≤n→(tr.length:Int)+n≤2→(∀t∈tr,TransS t)→RowS L i→W Q K (l54_0g G k Ko j n a p c s left all L i kind nm en ex tr kids z h0 hs h1 h2 h3 h4 h5)
 |0,n,i,tr,a1,a2,a3,a4,a5=>by omega
 |j+1,n,i,tr,a1,a2,a3,a4,a5=>by
  show W Q K (b54_0 G k (l54_0g G k Ko j) Ko n a p c s left all L i kind nm en ex tr kids z h0 hs h1 h2 h3 h4 h5)
  by_cases hn:n>0
  ·refine tr_round hN hPk hEv hE hB _ _ ha hp hc hss hal a5 hn (by omega) (fun v j' hv hj=> ?_)
   rw[wrap_id (n:=n-1) (by omega)]
   exact tr_loop hN hPk hEv hE hB ha hp hc hss hal hKo j _ _ _ (by omega) (by omega) (by simp;omega) (mem_snoc a4 hv) hj
  ·unfold b54_0
   exact W_no hn (hKo tr i (by omega) a4 a5)
theorem set2{A B:LV}{b u y:V}:List.set (List.set (A++b::B) A.length u) A.length y=A++y::B:=by simp
def kn(d:Nat)(v:V):Int×LV:=(kindV v,nmV d v)
theorem kn_eq{d:Nat}{x y:V}(h:kindV y=kindV x)(h':nmV d y=nmV d x):kn d y=kn d x:=Prod.ext h h'
theorem kid_loop{d:Nat}(hF:FillOK d G){Q:LV→Prop}{K:LV→OV R}{a p c s all L h1 h2 h3 h4 en ex tr:LV}{left h0 h5 kind z:Int}{hs nm:ByteArray}{ks:List (Int×LV)}
 {Ko:LV→LV→LV→LV→Int→LV→LV→Int→Int→ByteArray→LV→LV→LV→LV→Int→Int→ByteArray→LV→LV→LV→LV→Int→OV R}
 (ha:StrsS 100 a) (hp:StrsS 100 p) (hc:StrsS 100 c) (hss:StrsS 100 s) (hal:NmsS all) (hal2:all.length≤20)
 (hKo:∀kids j,kids.map (kn d)=ks→(∀t∈kids,StateS 2 d t)→RowS L j→W Q K (Ko a p c s left all L j kind nm en ex tr kids z h0 hs h1 h2 h3 h4 h5)):
 ∀(B A:LV) (j:Nat) (i:Int),B.length<j→A.length+B.length≤4→(∀t∈A,StateS 2 d t)→(∀t∈B,StateS 0 d t)→(A++B).map (kn d)=ks→RowS L i→
  W Q K (l54_2g G k Ko j (A.length:Int) a p c s left all L i kind nm en ex tr (A++B) z h0 hs h1 h2 h3 h4 h5)
 |B,A,0,i,a1,a2,a3,a4,a5,a6=>by omega
 | [],A,j+1,i,a1,a2,a3,a4,a5,a6=>by
   show W Q K (b54_2 G k (l54_2g G k Ko j) Ko (A.length:Int) a p c s left all L i kind nm en ex tr (A++[]) z h0 hs h1 h2 h3 h4 h5)
   unfold b54_2
   refine W_no (by simp) ?_
   rw[List.append_nil]at a5 ⊢
   exact hKo A i a5 a3 a6
 |b::B,A,j+1,i,a1,a2,a3,a4,a5,a6=>by
  show W Q K (b54_2 G k (l54_2g G k Ko j) Ko (A.length:Int) a p c s left all L i kind nm en ex tr (A++b::B) z h0 hs h1 h2 h3 h4 h5)
  unfold b54_2
  simp only[List.length_cons]at a1 a2
  have hlt:(A.length:Int)<(((A++b::B).length:Nat):Int):=by simp;omega
  refine W_yes hlt (W_and (W_yes (by omega) (W_yes hlt ?_)))
  refine W_nth (by omega) (fun v hv _=> ?_)
  have hvb:v=b:=by simp at hv;exact hv.symm
  subst hvb
  have hb:=a4 v List.mem_cons_self
  have hbk:=hb
  cases d with
  |zero=>exact hb.elim
  |succ d=>
  obtain⟨_,_,_,_,_,_,rfl,_⟩:=hb
  refine W_asAgg ?_
  refine W_call (hF _ a p c s all L left i _ hbk ha hp hc hss hal hal2 a6) ?_
  rintro _ ⟨y,j',rfl,b1,b2,b3,b4⟩
  have b5:=kn_eq b2 b4
  have b1':=b1
  obtain⟨_,_,_,_,_,_,rfl,_⟩:=b1
  repeat (with_reducible (first|(refine W_uI ?_)|(refine W_uS ?_)|(refine W_uL ?_)|(refine W_uA ?_)|(refine W_uB ?_)|(refine W_aI ?_)|(refine W_aL ?_)|(refine W_ca3 ?_)|(refine W_ce3 ?_)|(refine W_ca4 ?_)|(refine W_ce4 ?_)|(refine W_ca5 ?_)|(refine W_ce5 ?_)|(refine W_ca6 ?_)|(refine W_ce6 ?_)|(refine W_ca7 ?_)|(refine W_ce7 ?_)|(refine W_ca8 ?_)|(refine W_ce8 ?_)|(refine W_unCons ?_)|(refine W_unNil ?_)|(refine W_asInt ?_)|(refine W_asStr ?_)|(refine W_asSl ?_)|(refine W_asAgg ?_)|(refine W_kd ?_)|(refine W_z ?_)))
  rw[Int.toNat_natCast,set2]
  refine W_and (W_yes (by omega) (W_yes (by rw[List.length_set];exact hlt) ?_))
  refine W_nth (by rw[List.length_set];omega) (fun v _ _=> ?_)
  rw[wrap_id (n:=(A.length:Int)+1) (by omega)]
  have e:=kid_loop hF (kind:=kind) (z:=z) (h0:=h0) (h5:=h5) (hs:=hs) (nm:=nm) (h1:=h1) (h2:=h2) (h3:=h3) (h4:=h4) (en:=en) (ex:=ex) (tr:=tr) (left:=left) ha hp hc hss hal hal2 hKo B (A++[_]) j j' (by omega) (by simp;omega) (mem_snoc a3 b1') (fun t ht=>a4 t (List.mem_cons_of_mem _ ht)) (by rw[←a5];simp only[List.append_assoc,List.singleton_append,List.map_append,List.map_cons];rw[b5]) b3
  simp only[List.append_assoc,List.singleton_append,List.length_append,List.length_cons,List.length_nil,Nat.zero_add,Int.natCast_add,Int.natCast_one]at e
  exact e
theorem fill_ok{d:Nat}(hk:1000≤k)(hN:NextS G)(hPk:PickS G)(hEv:EventS G)(hE:ExprOK 2 G)(hB2:BlockOK 2 G)(hB1:BlockOK 1 G)(hF:∀d',d=d'+1→FillOK d' G):FillOK d (fun _ args (K:LV→OV R)=>g54 G k args K):=by
 intro x a p c s all L left i K hx ha hp hc hs hal hal2 hr
 cases d with
 |zero=>exact hx.elim
 |succ d=>
 have hx2:=hx
 obtain⟨kind,nm,en,ex,tr,kids,rfl,x1,x2,x3,x4,x5,x6,x7,x8,x9,x10,x11,x12,x13⟩:=hx
 show W _ K (f54 G k kind nm en ex tr kids 0 a p c s left all L i K)
 unfold f54
 have htr:tr=[]:=List.eq_nil_of_length_eq_zero (by omega)
 subst htr
 refine W_dec (fun h=>W_ret ⟨_,_,rfl,StateS.le (by omega) hx2,rfl,hr,rfl⟩) (fun h=> ?_)
 have hal3:StrsS 100 all:=⟨by omega,fun v hv=>by obtain⟨s,e,h,_⟩:=hal v hv;exact⟨s,e,h⟩⟩
 unfold NextS at hN;unfold BlockOK at hB1
 have fin:∀(kids' en' ex' tr':LV) (j:Int),kids'.map (kn d)=kids.map (kn d)→(∀t∈kids',StateS 2 d t)→RowS L j→BlockS 2 en'→BlockS 2 ex'→tr'.length≤2→(∀t∈tr',TransS t)→
  W (fun o=>∃y j,o=[y,.int .i64 left,.int .i64 j]∧StateS 2 (d+1) y∧kindV y=kindV (.agg [.int .i64 kind,.str nm,.sl 8 en,.sl 8 ex,.sl 5 [],.sl 7 kids,.int .i64 0])∧RowS L j∧nmV (d+1) y=nmV (d+1) (.agg [.int .i64 kind,.str nm,.sl 8 en,.sl 8 ex,.sl 5 [],.sl 7 kids,.int .i64 0])) K
    (K [.agg [.int .i64 kind,.str nm,.sl 8 en',.sl 8 ex',.sl 5 tr',.sl 7 kids',.int .i64 0],.int .i64 left,.int .i64 j]):=by
  intro kids' en' ex' tr' j b1 b2 b3 b4 b5 b6 b7
  have hl:kids'.length=kids.length:=by have:=congrArg List.length b1;simpa using this
  refine W_ret ⟨_,_,rfl,⟨kind,nm,en',ex',tr',kids',rfl,x1,x2,x3,x4,b4,b5,b6,b7,by omega,b2,fun h'=>absurd h' h,?_,fun h' e=>x13 h' (List.eq_nil_of_length_eq_zero (by rw[←hl,e];rfl))⟩,rfl,b3,?_⟩
  rotate_left
  ·have e2:=congrArg (List.map Prod.snd) b1
   simp only[List.map_map]at e2
   exact congrArg (fun l:List (LV)=>V.str nm::l.flatten) e2
  intro v r e
  cases kids with
  |nil=>rw[e]at hl;simp at hl
  |cons u us=>
   rw[e]at b1;simp[kn]at b1
   rw[b1.1.1];exact x12 u us rfl
 have go:∀(en' ex':LV) (n j:Int) (Kx:LV→OV R),RowS L j→0≤n→n≤2→BlockS 2 en'→BlockS 2 ex'→
  W (fun o=>∃y j,o=[y,.int .i64 left,.int .i64 j]∧StateS 2 (d+1) y∧kindV y=kindV (.agg [.int .i64 kind,.str nm,.sl 8 en,.sl 8 ex,.sl 5 [],.sl 7 kids,.int .i64 0])∧RowS L j∧nmV (d+1) y=nmV (d+1) (.agg [.int .i64 kind,.str nm,.sl 8 en,.sl 8 ex,.sl 5 [],.sl 7 kids,.int .i64 0])) K
    (l54_0 G k n a p c s left all L j kind nm en' ex' [] kids 0 0 ⟨#[]⟩ [] [] [] [] 0 (fun yl390 yl391 yl392 yl393 yi394 yl395 yl396 yi397 yi398 ys399 yl400 yl401 yl402 yl403 yi404 yi405 ys406 yl407 yl408 yl409 yl410 yi411=>(l54_2 G k (0:Int) yl390 yl391 yl392 yl393 yi394 yl395 yl396 yi397 yi398 ys399 yl400 yl401 yl402 yl403 yi404 yi405 ys406 yl407 yl408 yl409 yl410 yi411 (fun yl477 yl478 yl479 yl480 yi481 yl482 yl483 yi484 yi485 ys486 yl487 yl488 yl489 yl490 yi491 yi492 ys493 yl494 yl495 yl496 yl497 yi498=>(K [(.agg [(.int .i64 yi485),(.str ys486),(.sl 8 yl487),(.sl 8 yl488),(.sl 5 yl489),(.sl 7 yl490),(.int .i64 yi491)]),(.int .i64 yi481),(.int .i64 yi484)]))))):=by
  intro en' ex' n j _ b1 b2 b3 b4 b5
  unfold l54_0
  refine tr_loop hN hPk hEv hE hB2 ha hp hc hs hal3 ?_ k n j [] (by omega) b2 (by simp;omega) (by simp) b1
  intro tr' j' c1 c2 c3
  unfold l54_2
  have e:=kid_loop (Q:=fun o=>∃y j,o=[y,.int .i64 left,.int .i64 j]∧StateS 2 (d+1) y∧kindV y=kindV (.agg [.int .i64 kind,.str nm,.sl 8 en,.sl 8 ex,.sl 5 [],.sl 7 kids,.int .i64 0])∧RowS L j∧nmV (d+1) y=nmV (d+1) (.agg [.int .i64 kind,.str nm,.sl 8 en,.sl 8 ex,.sl 5 [],.sl 7 kids,.int .i64 0])) (K:=K) (k:=k) (hF d rfl) (kind:=kind) (z:=0) (h0:=0) (h5:=0) (hs:=⟨#[]⟩) (nm:=nm) (h1:=[]) (h2:=[]) (h3:=[]) (h4:=[]) (en:=en') (ex:=ex') (tr:=tr') (left:=left) (ks:=kids.map (kn d))
   (Ko:=(fun yl477 yl478 yl479 yl480 yi481 yl482 yl483 yi484 yi485 ys486 yl487 yl488 yl489 yl490 yi491 yi492 ys493 yl494 yl495 yl496 yl497 yi498=>(K [(.agg [(.int .i64 yi485),(.str ys486),(.sl 8 yl487),(.sl 8 yl488),(.sl 5 yl489),(.sl 7 yl490),(.int .i64 yi491)]),(.int .i64 yi481),(.int .i64 yi484)])))
   ha hp hc hs hal hal2 (fun kids' j'' d1 d2 d3=>fin kids' en' ex' tr' j'' d1 d2 d3 b4 b5 c1 c2) kids [] k j' (by omega) (by simpa using x9) (by simp) x10 rfl c3
  exact e
 refine W_call (hN _ _ _ _ (by omega) (by omega) hr) ?_
 rintro _ ⟨y1,i1,rfl,y11,y12,r1⟩
 refine W_uI (W_uI (W_unNil ?_))
 have last:∀(en' ex':LV) (j:Int),RowS L j→BlockS 2 en'→BlockS 2 ex'→∀(F:LV→OV R),(∀n j',F [.int .i64 n,.int .i64 j']=(l54_0 G k n a p c s left all L j' kind nm en' ex' [] kids 0 0 ⟨#[]⟩ [] [] [] [] 0 (fun yl390 yl391 yl392 yl393 yi394 yl395 yl396 yi397 yi398 ys399 yl400 yl401 yl402 yl403 yi404 yi405 ys406 yl407 yl408 yl409 yl410 yi411=>(l54_2 G k (0:Int) yl390 yl391 yl392 yl393 yi394 yl395 yl396 yi397 yi398 ys399 yl400 yl401 yl402 yl403 yi404 yi405 ys406 yl407 yl408 yl409 yl410 yi411 (fun yl477 yl478 yl479 yl480 yi481 yl482 yl483 yi484 yi485 ys486 yl487 yl488 yl489 yl490 yi491 yi492 ys493 yl494 yl495 yl496 yl497 yi498=>(K [(.agg [(.int .i64 yi485),(.str ys486),(.sl 8 yl487),(.sl 8 yl488),(.sl 5 yl489),(.sl 7 yl490),(.int .i64 yi491)]),(.int .i64 yi481),(.int .i64 yi484)]))))))→
  W (fun o=>∃y j,o=[y,.int .i64 left,.int .i64 j]∧StateS 2 (d+1) y∧kindV y=kindV (.agg [.int .i64 kind,.str nm,.sl 8 en,.sl 8 ex,.sl 5 [],.sl 7 kids,.int .i64 0])∧RowS L j∧nmV (d+1) y=nmV (d+1) (.agg [.int .i64 kind,.str nm,.sl 8 en,.sl 8 ex,.sl 5 [],.sl 7 kids,.int .i64 0])) K (G 49 [.int .i64 3,.sl 1 L,.int .i64 j] F):=by
  intro en' ex' j b1 b2 b3 F hFe
  refine W_call (hN _ _ _ _ (by omega) (by omega) b1) ?_
  rintro _ ⟨n,i1,rfl,n1,n2,r1⟩
  rw[hFe]
  exact go en' ex' n i1 K r1 n1 (by omega) b2 b3
 refine W_beqI (fun _=> ?_) (fun _=> ?_)
 ·refine W_call (hB1 _ _ _ _ _ _ _ _ (by rfl) ha hp hc hs r1) ?_
  rintro _ ⟨en',i2,rfl,he,r2⟩
  refine W_uL (W_uI (W_unNil ?_))
  refine W_call (hN _ _ _ _ (by omega) (by omega) r2) ?_
  rintro _ ⟨y2,i3,rfl,y21,y22,r3⟩
  refine W_uI (W_uI (W_unNil ?_))
  refine W_beqI (fun _=> ?_) (fun _=> ?_)
  ·refine W_call (hB1 _ _ _ _ _ _ _ _ (by rfl) ha hp hc hs r3) ?_
   rintro _ ⟨ex',i4,rfl,hex,r4⟩
   refine W_uL (W_uI (W_unNil ?_))
   exact last en' ex' i4 r4 he hex _ (fun n j'=>rfl)
  ·exact last en' ex i3 r3 he x6 _ (fun n j'=>rfl)
 ·refine W_call (hN _ _ _ _ (by omega) (by omega) r1) ?_
  rintro _ ⟨y2,i3,rfl,y21,y22,r3⟩
  refine W_uI (W_uI (W_unNil ?_))
  refine W_beqI (fun _=> ?_) (fun _=> ?_)
  ·refine W_call (hB1 _ _ _ _ _ _ _ _ (by rfl) ha hp hc hs r3) ?_
   rintro _ ⟨ex',i4,rfl,hex,r4⟩
   refine W_uL (W_uI (W_unNil ?_))
   exact last en ex' i4 r4 x5 hex _ (fun n j'=>rfl)
  ·exact last en ex i3 r3 x5 x6 _ (fun n j'=>rfl)
end
section
variable {R : Type} {G : ORC R} {k : Nat}
def ChartOK(G:ORC R):Prop:=∀(nm:ByteArray) (np:Int) (L:LV) (i:Int) (K:LV→OV R),StrS nm→0≤np→np≤100→RowS L i→
 W (fun o=>∃c j,o=[c,.int .i64 j]∧ChartS c∧RowS L j) K (G 24 [.str nm,.int .i64 np,.sl 1 L,.int .i64 i] K)
variable {Q : LV → Prop} {K : LV → OV R} {L a p c q1 q2 q3 q4 vars ports timers : LV} {s1 nm : ByteArray} {z1 z2 z3 z4 st fu : Int}
theorem chart_loop0(hS:StOK 2 G){Ko:LV→Int→ByteArray→Int→Int→LV→LV→LV→LV→Int→ByteArray→Int→Int→LV→LV→LV→LV→Int→LV→LV→LV→LV→Int→LV→OV R}
 {s:LV} {T:Int} (hT:T≤20)
 (hKo:∀states j left all,(nmVL 3 states=all∧NmI all)→states.length≤2→states≠[]→(∀v∈states,StateS 0 3 v∧kindV v≤2)→0≤left→left+(List.length all:Int)=T→NmsS all→RowS L j→W Q K (Ko L j s1 z1 z2 q1 q2 q3 q4 z3 nm st fu vars ports timers states z4 a p c s left all)):
 ∀(j:Nat) (n i left:Int) (states all:LV),(nmVL 3 states=all∧NmI all)→n<j→0≤n→(states.length:Int)+n≤2→(states=[]→1≤left∧0<n)→0≤left→left+(List.length all:Int)=T→NmsS all→RowS L i→(∀v∈states,StateS 0 3 v∧kindV v≤2)→
  W Q K (l24_0g G k Ko j n L i s1 z1 z2 q1 q2 q3 q4 z3 nm st fu vars ports timers states z4 a p c s left all)
 |0,n,i,left,states,all,a0,a1,a2,a3,a4,a5,a6,a7,a8,a9=>by omega
 |j+1,n,i,left,states,all,a0,a1,a2,a3,a4,a5,a6,a7,a8,a9=>by
  show W Q K (b24_0 G k (l24_0g G k Ko j) Ko n L i s1 z1 z2 q1 q2 q3 q4 z3 nm st fu vars ports timers states z4 a p c s left all)
  unfold b24_0
  by_cases hn:n>0
  ·refine W_yes hn ?_
   by_cases hl:left>0
   ·refine W_yes hl ?_
    refine W_call (hS false a p c s all L _ left i _ (by rfl) (by omega) (by omega) a7 a0.2 a8) ?_
    rintro _ ⟨x,left',all',j',rfl,b1,b2,b3,b4,b5,b6,b7,b8,b8'⟩
    have b1':=b1
    have b9:nmVL 3 (states++[x])=all'∧NmI all':=⟨by rw[nmVL_app,a0.1,b8];simp[nmVL],b8'⟩
    obtain⟨_,_,_,_,_,_,rfl,_⟩:=b1
    repeat (with_reducible (first|(refine W_uI ?_)|(refine W_uS ?_)|(refine W_uL ?_)|(refine W_uA ?_)|(refine W_uB ?_)|(refine W_aI ?_)|(refine W_aL ?_)|(refine W_ca3 ?_)|(refine W_ce3 ?_)|(refine W_ca4 ?_)|(refine W_ce4 ?_)|(refine W_ca5 ?_)|(refine W_ce5 ?_)|(refine W_ca6 ?_)|(refine W_ce6 ?_)|(refine W_ca7 ?_)|(refine W_ce7 ?_)|(refine W_ca8 ?_)|(refine W_ce8 ?_)|(refine W_unCons ?_)|(refine W_unNil ?_)|(refine W_asInt ?_)|(refine W_asStr ?_)|(refine W_asSl ?_)|(refine W_asAgg ?_)|(refine W_kd ?_)|(refine W_z ?_)))
    refine W_yes (by omega) ?_
    have e1:IntKind.i64.wrap (n-1)=n-1:=wrap_id (by omega)
    rw[e1]
    exact chart_loop0 hS hT hKo j _ _ _ _ _ b9 (by omega) (by omega) (by simp;omega) (by simp) b3 (by omega) b6 b7 (mem_snoc a9 ⟨b1',b2⟩)
   ·refine W_no hl ?_
    have hacc:states≠[]:=fun h=>by have:=(a4 h).1;omega
    have hlen:((states.length:Nat):Int)≠0:=fun h=>hacc (List.eq_nil_of_length_eq_zero (by omega))
    refine W_eqN hlen ?_
    exact hKo states i left all a0 (by omega) hacc a9 a5 a6 a7 a8
  ·exact W_no hn (hKo states i left all a0 (by omega) (fun h=>by have:=(a4 h).2;omega) a9 a5 a6 a7 a8)
theorem chart_loop2{Ko:LV→Int→ByteArray→Int→Int→LV→LV→LV→LV→Int→ByteArray→Int→Int→LV→LV→LV→LV→Int→LV→LV→LV→LV→Int→LV→OV R}
 {states all:LV} {at_ left:Int} (hall:NmsS all) (hlen:all.length≤20)
 (hKo:∀s,StrsS 20 s→W Q K (Ko L at_ s1 z1 z2 q1 q2 q3 q4 z3 nm st fu vars ports timers states z4 a p c s left all)):
 ∀(j:Nat) (i:Int) (s:LV),(all.length:Int)-i<j→0≤i→i≤all.length→StrsS i.toNat s→
  W Q K (l24_2g G k Ko j i L at_ s1 z1 z2 q1 q2 q3 q4 z3 nm st fu vars ports timers states z4 a p c s left all)
 |0,i,s,a1,a2,a3,a4=>by omega
 |j+1,i,s,a1,a2,a3,a4=>by
  show W Q K (b24_2 G k (l24_2g G k Ko j) Ko i L at_ s1 z1 z2 q1 q2 q3 q4 z3 nm st fu vars ports timers states z4 a p c s left all)
  unfold b24_2
  have hs:=a4.1
  refine W_dec (fun h=> ?_) (fun h=>hKo s ⟨by omega,a4.2⟩)
  have e1:IntKind.i64.wrap (i+1)=i+1:=wrap_id (by omega)
  rw[e1]
  refine W_and (W_yes a2 (W_yes h ?_))
  refine W_nth (by omega) (fun v hv hm=> ?_)
  obtain⟨t,rfl,t1,t2⟩:=hall v hm
  refine W_asStr (W_yes (by omega) ?_)
  refine W_beqI (fun _=> ?_) (fun _=> ?_)
  ·refine W_and (W_yes a2 (W_yes h ?_))
   refine W_nth (by omega) (fun w hw _=> ?_)
   rw[hv]at hw;cases hw
   refine W_asStr (W_yes (by omega) ?_)
   exact chart_loop2 hall hlen hKo j (i+1) _ (by omega) (by omega) (by omega) (by rw[show(i+1).toNat=i.toNat+1 by omega];exact strs_snoc a4 t1)
  ·exact chart_loop2 hall hlen hKo j (i+1) _ (by omega) (by omega) (by omega) ⟨by omega,a4.2⟩
theorem chart_loop4(hF:FillOK 3 G){Ko:LV→Int→ByteArray→Int→Int→LV→LV→LV→LV→Int→ByteArray→Int→Int→LV→LV→LV→LV→Int→OV R}
 {s all:LV} {left:Int} (ha:StrsS 100 a) (hp:StrsS 100 p) (hc:StrsS 100 c) (hs:StrsS 100 s) (hall:NmsS all) (hlen:all.length≤20) {m:Nat} {M:LV}
 (hKo:∀states j,states.length=m→nmVL 3 states=M→(∀v∈states,StateS 2 3 v∧kindV v≤2)→RowS L j→W Q K (Ko L j s1 z1 z2 q1 q2 q3 q4 z3 nm st fu vars ports timers states z4)):
 ∀(B A:LV) (j:Nat) (i:Int),B.length<j→A.length+B.length≤4→(∀v∈A,StateS 2 3 v∧kindV v≤2)→(∀v∈B,StateS 0 3 v∧kindV v≤2)→A.length+B.length=m→nmVL 3 (A++B)=M→RowS L i→
  W Q K (l24_4g G k Ko j (A.length:Int) L i s1 z1 z2 q1 q2 q3 q4 z3 nm st fu vars ports timers (A++B) z4 a p c s left all)
 |B,A,0,i,a1,a2,a3,a4,a5,aM,a6=>by omega
 | [],A,j+1,i,a1,a2,a3,a4,a5,aM,a6=>by
   show W Q K (b24_4 G k (l24_4g G k Ko j) Ko (A.length:Int) L i s1 z1 z2 q1 q2 q3 q4 z3 nm st fu vars ports timers (A++[]) z4 a p c s left all)
   unfold b24_4
   refine W_no (by simp) ?_
   rw[List.append_nil]at aM ⊢
   exact hKo A i (by simpa using a5) aM a3 a6
 |b::B,A,j+1,i,a1,a2,a3,a4,a5,aM,a6=>by
  show W Q K (b24_4 G k (l24_4g G k Ko j) Ko (A.length:Int) L i s1 z1 z2 q1 q2 q3 q4 z3 nm st fu vars ports timers (A++b::B) z4 a p c s left all)
  unfold b24_4
  simp only[List.length_cons]at a1 a2 a5
  have hlt:(A.length:Int)<(((A++b::B).length:Nat):Int):=by simp;omega
  refine W_yes hlt (W_and (W_yes (by omega) (W_yes hlt ?_)))
  refine W_nth (by omega) (fun v hv _=> ?_)
  have hvb:v=b:=by simp at hv;exact hv.symm
  subst hvb
  have hb:=a4 v List.mem_cons_self
  have hbk:=hb
  obtain⟨⟨_,_,_,_,_,_,rfl,_⟩,_⟩:=hb
  refine W_asAgg ?_
  refine W_call (hF _ a p c s all L left i _ hbk.1 ha hp hc hs hall hlen a6) ?_
  rintro _ ⟨y,j',rfl,b1,b2,b3,b4⟩
  have b1':=b1
  have b5:nmVL 3 ((A++[y])++B)=M:=by rw[←aM];simp only[nmVL,List.flatMap_append,List.flatMap_cons,List.flatMap_nil,List.append_nil,List.append_assoc];rw[b4]
  obtain⟨_,_,_,_,_,_,rfl,_⟩:=b1
  repeat (with_reducible (first|(refine W_uI ?_)|(refine W_uS ?_)|(refine W_uL ?_)|(refine W_uA ?_)|(refine W_uB ?_)|(refine W_aI ?_)|(refine W_aL ?_)|(refine W_ca3 ?_)|(refine W_ce3 ?_)|(refine W_ca4 ?_)|(refine W_ce4 ?_)|(refine W_ca5 ?_)|(refine W_ce5 ?_)|(refine W_ca6 ?_)|(refine W_ce6 ?_)|(refine W_ca7 ?_)|(refine W_ce7 ?_)|(refine W_ca8 ?_)|(refine W_ce8 ?_)|(refine W_unCons ?_)|(refine W_unNil ?_)|(refine W_asInt ?_)|(refine W_asStr ?_)|(refine W_asSl ?_)|(refine W_asAgg ?_)|(refine W_kd ?_)|(refine W_z ?_)))
  rw[Int.toNat_natCast,set2]
  refine W_and (W_yes (by omega) (W_yes (by rw[List.length_set];exact hlt) ?_))
  refine W_nth (by rw[List.length_set];omega) (fun v _ _=> ?_)
  rw[wrap_id (n:=(A.length:Int)+1) (by omega)]
  have e:=chart_loop4 hF (left:=left) ha hp hc hs hall hlen hKo B (A++[_]) j j' (by omega) (by simp;omega) (mem_snoc a3 ⟨b1',by rw[b2];exact hbk.2⟩) (fun t ht=>a4 t (List.mem_cons_of_mem _ ht)) (by simp;omega) b5 b3
  simp only[List.append_assoc,List.singleton_append,List.length_append,List.length_cons,List.length_nil,Nat.zero_add,Int.natCast_add,Int.natCast_one]at e
  exact e
theorem sz1(c:UInt8):(⟨#[c]⟩:ByteArray).size≤10:=by show(1:Nat)≤10;omega
theorem chart_ok(hk:1000≤k)(hN:NextS G)(hNm:NamesS G)(hNd:NumdS G)(hPl:PlainS G)(hS:StOK 2 G)(hF:FillOK 3 G):ChartOK (fun _ args (K:LV→OV R)=>g24 G k args K):=by
 intro nm np L i K hnm h1 h2 hr
 show W _ K (f24 G k nm np L i K)
 unfold f24
 unfold NextS at hN;unfold NamesS at hNm;unfold NumdS at hNd;unfold PlainS at hPl
 refine W_call (hN _ _ _ _ (by omega) (by omega) hr) ?_
 rintro _ ⟨x1,i1,rfl,x11,x12,r1⟩
 refine W_uI (W_uI (W_unNil ?_))
 refine W_call (hN _ _ _ _ (by omega) (by omega) r1) ?_
 rintro _ ⟨x2,i2,rfl,x21,x22,r2⟩
 refine W_uI (W_uI (W_unNil ?_))
 refine W_call (hNm _ _ _ (sz1 _) x21 (by omega)) ?_
 rintro _ ⟨l1,rfl,hl1⟩
 refine W_uL (W_unNil ?_)
 refine W_call (hNm _ _ _ (sz1 _) h1 h2) ?_
 rintro _ ⟨l2,rfl,hl2⟩
 refine W_uL (W_unNil ?_)
 refine W_call (hN _ _ _ _ (by omega) (by omega) r2) ?_
 rintro _ ⟨x3,i3,rfl,x31,x32,r3⟩
 refine W_uI (W_uI (W_unNil ?_))
 refine W_call (hNm _ _ _ (sz1 _) x31 (by omega)) ?_
 rintro _ ⟨l3,rfl,hl3⟩
 refine W_uL (W_unNil ?_)
 refine W_call (hN _ _ _ _ (by omega) (by omega) r3) ?_
 rintro _ ⟨x4,i4,rfl,x41,x42,r4⟩
 refine W_uI (W_uI (W_unNil ?_))
 refine W_call (hN _ _ _ _ (by omega) (by omega) r4) ?_
 rintro _ ⟨x5,i5,rfl,x51,x52,r5⟩
 refine W_uI (W_uI (W_unNil ?_))
 refine W_and (W_yes (by omega) (W_yes (by omega) ?_))
 refine W_nth (by simp;omega) (fun v _ hv=> ?_)
 have hv2:∃fu,v= .int .i64 fu∧4≤fu∧fu≤200:=by
  simp only[List.mem_cons,List.not_mem_nil,or_false]at hv
  rcases hv with rfl|rfl|rfl|rfl<;>exact⟨_,rfl,by omega,by omega⟩
 obtain⟨fu,rfl,fu1,fu2⟩:=hv2
 refine W_aI ?_
 refine W_call (hNd _ _ _ _ hl1 r5) ?_
 rintro _ ⟨v1,i6,rfl,hv1,r6⟩
 refine W_uL (W_uI (W_unNil ?_))
 refine W_call (hPl _ _ hl2) ?_
 rintro _ ⟨v2,rfl,hv2⟩
 refine W_uL (W_unNil ?_)
 refine W_call (hPl _ _ hl3) ?_
 rintro _ ⟨v3,rfl,hv3⟩
 refine W_uL (W_unNil ?_)
 refine W_call (hN _ _ _ _ (by omega) (by omega) r6) ?_
 rintro _ ⟨x7,i7,rfl,x71,x72,r7⟩
 refine W_uI (W_uI (W_unNil ?_))
 have e1:IntKind.i64.wrap (1+x7)=1+x7:=wrap_id (by omega)
 have e2:IntKind.i64.wrap (2+x1)=2+x1:=wrap_id (by omega)
 have e3:IntKind.i64.wrap (2+x4)=2+x4:=wrap_id (by omega)
 rw[e1,e2,e3]
 unfold l24_0
 refine chart_loop0 (T:=2+x1) hS (by omega) ?_ k _ _ _ _ _ ⟨rfl,fun i v h=>by simp at h⟩ (by omega) (by omega) (by simp;omega) (fun _=>⟨by omega,by omega⟩) (by omega) (by simp) (by intro v hv;simp at hv) r7 (by simp)
 intro states j left all c0 c1 c2 c3 c4 c5 c6 c7
 unfold l24_2
 refine chart_loop2 c6 (by omega) ?_ k 0 [] (by omega) (by omega) (by omega) ⟨by simp,by simp⟩
 intro s hs
 unfold l24_4
 refine chart_loop4 (A:=[]) (m:=states.length) (M:=nmVL 3 states) hF hl1 hl2 hl3 ⟨by have:=hs.1;omega,hs.2⟩ c6 (by omega) ?_ states k j (by omega) (by simp;omega) (by simp) c3 (by simp) rfl c7
 intro states' j' d1 dM d2 d3
 exact W_ret ⟨_,_,rfl,⟨nm,_,fu,v1,v2,v3,states',rfl,hnm,by omega,by omega,fu1,fu2,hv1,hv2,hv3,by omega,fun h=>c2 (List.eq_nil_of_length_eq_zero (by rw[←d1,h];rfl)),d2,by have:=nmVL_len (d:=3) (l:=states');rw[dM,c0.1]at this;omega,by rw[dM,c0.1];exact c0.2⟩,d3⟩
end
section
variable {R : Type} {G : ORC R} {k : Nat} {K : LV → OV R}
def KindOK(G:ORC R):Prop:=∀(v:V) (m d:Nat) (K:LV→OV R),StateS m d v→W (fun o=>o=[.int .i64 (ndKind v)]) K (G 88 [v] K)
theorem kind_ok:KindOK (fun _ args (K:LV→OV R)=>g88 G k args K):=by
 intro v m d K hv
 cases d with
 |zero=>exact hv.elim
 |succ d=>
 obtain⟨kind,nm,en,ex,tr,kids,rfl,_⟩:=hv
 show W _ K (f88 G k kind nm en ex tr kids 0 K)
 unfold f88
 have e:ndKind (.agg [.int .i64 kind,.str nm,.sl 8 en,.sl 8 ex,.sl 5 tr,.sl 7 kids,.int .i64 0])=if kind=3 then 4 else if kind=4 then 5 else if kind=2 then 3 else if kids.length=0 then 1 else 2:=rfl
 rw[e]
 refine W_beqI (fun h=> ?_) (fun h=> ?_)
 ·exact W_ret (by rw[if_pos h])
 refine W_beqI (fun h1=> ?_) (fun h1=> ?_)
 ·exact W_ret (by rw[if_neg h,if_pos h1])
 refine W_beqI (fun h2=> ?_) (fun h2=> ?_)
 ·exact W_ret (by rw[if_neg h,if_neg h1,if_pos h2])
 refine W_beqI (fun h3=> ?_) (fun h3=> ?_)
 ·exact W_ret (by rw[if_neg h,if_neg h1,if_neg h2,if_pos (by omega)])
 ·exact W_ret (by rw[if_neg h,if_neg h1,if_neg h2,if_neg (by omega)])
def IsStOK(G:ORC R):Prop:=∀(n:Nd) (K:LV→OV R),W (fun o=>o=[.bool (decide (n.kind≤3))]) K (G 89 [n.v] K)
theorem isst_ok:IsStOK (fun _ args (K:LV→OV R)=>g89 G k args K):=by
 intro n K
 show W _ K (f89 G k n.kind n.parent n.last n.init n.entry n.exit n.name K)
 unfold f89
 exact W_ret rfl
def PutOK(d:Nat)(G:ORC R):Prop:=∀(l:List Nd) (kids:LV) (up:Nat) (K:LV→OV R),(∀s∈kids,StateS 2 d s)→(∀s r,kids=s::r→kindV s≤2)→up<l.length→l.length+nszL d kids≤1000→
 W (fun o=>o=[.sl 7 ((fixup l up l.length kids++forest d up l.length kids).map Nd.v)]) K (G 66 [.sl 7 (l.map Nd.v),.sl 7 kids,.int .i64 up] K)
theorem fixup_one{P:List Nd}{nd:Nd}{n:Nat}{s:V}{kids:LV}(hn:P.length=n)(hi:nd.init= -1)(hk:nd.kind=ndKind s)(hs:stKids s=kids):
 fixup (P++[nd]) n (n+1) kids=P++[{nd with init:=if ndKind s=2 then(n:Int)+1 else-1}]:=by
 subst hn
 unfold fixup
 cases kids with
 |nil=>
  have h2:ndKind s≠2:=by unfold ndKind;rw[hs];simp;omega
  simp only[if_neg h2]
  rw[←hi]
 |cons a r=>
  simp only[List.getElem?_append_right (Nat.le_refl _),Nat.sub_self,List.getElem?_cons_zero]
  by_cases h2:ndKind s=2
  ·rw[if_pos ⟨by omega,by omega⟩,if_pos h2];simp
  ·rw[if_neg (by omega),if_neg h2,←hi]
theorem put_loop{d:Nat}(hKd:KindOK G)(hSt:IsStOK G)(hP:∀d',d=d'+1→PutOK d' G){Q:LV→Prop}{K:LV→OV R}{Ko:LV→OV R}{l0:List Nd}{kids:LV}{up:Nat}
 (hk:∀s∈kids,StateS 2 d s) (hh:∀s r,kids=s::r→kindV s≤2) (hup:up<l0.length) (hsz:l0.length+nszL d kids≤1000)
 (hKo:W Q K (Ko ((fixup l0 up l0.length kids++forest d up l0.length kids).map Nd.v))):
 ∀(B A:LV) (j:Nat),kids=A++B→B.length<j→W Q K (l66_0g G k Ko j ((fixup l0 up l0.length A++forest d up l0.length A).map Nd.v) (A++B) up A.length)
 |B,A,0,h1,h2=>by omega
 | [],A,j+1,h1,h2=>by
   show W Q K (b66_0 G k (l66_0g G k Ko j) Ko ((fixup l0 up l0.length A++forest d up l0.length A).map Nd.v) (A++[]) up A.length)
   unfold b66_0
   refine W_no (by simp) ?_
   rw[List.append_nil]at h1
   rw[←h1];exact hKo
 |b::B,A,j+1,h1,h2=>by
  show W Q K (b66_0 G k (l66_0g G k Ko j) Ko ((fixup l0 up l0.length A++forest d up l0.length A).map Nd.v) (A++b::B) up A.length)
  unfold b66_0
  have hb:StateS 2 d b:=hk b (by rw[h1];simp)
  have hbk:=hb
  cases d with
  |zero=>exact hb.elim
  |succ d=>
  simp only[List.length_cons]at h2
  have hAl:=nszL_len (d:=d) (l:=A)
  have hnsz:nszL (d+1) kids=nszL (d+1) A+(1+nszL d (stKids b)+nszL (d+1) B):=by rw[h1,nszL_app,nszL_cons]
  obtain⟨kind,nm,en,ex,tr,kb,rfl,x1,x2,x3,x4,x5,x6,x7,x8,x9,x10,x11,x12,x13⟩:=hb
  have hkb:stKids (.agg [.int .i64 kind,.str nm,.sl 8 en,.sl 8 ex,.sl 5 tr,.sl 7 kb,.int .i64 0])=kb:=rfl
  have hnb:stName (.agg [.int .i64 kind,.str nm,.sl 8 en,.sl 8 ex,.sl 5 tr,.sl 7 kb,.int .i64 0])=nm:=rfl
  have hkk:kindV (.agg [.int .i64 kind,.str nm,.sl 8 en,.sl 8 ex,.sl 5 tr,.sl 7 kb,.int .i64 0])=kind:=rfl
  generalize hbe:(V.agg [.int .i64 kind,.str nm,.sl 8 en,.sl 8 ex,.sl 5 tr,.sl 7 kb,.int .i64 0])=b at*
  have hcl:(fixup l0 up l0.length A++forest (d+1) up l0.length A).length=l0.length+nszL (d+1) A:=by rw[List.length_append,fixup_len,forest_len]
  have hlt:(A.length:Int)<(((A++b::B).length:Nat):Int):=by simp;omega
  have hnthb:∀v,(A++b::B)[Int.toNat (A.length:Int)]? =some v→v=b:=fun v hv=>by simp at hv;exact hv.symm
  refine W_yes hlt (W_and (W_yes (by omega) (W_yes hlt ?_)))
  refine W_nth (by omega) (fun v hv _=> ?_)
  rw[hnthb v hv,←hbe]
  refine W_asAgg ?_
  rw[hbe]
  refine W_call (hKd b 2 (d+1) _ hbk) ?_
  rintro _ rfl
  refine W_uI (W_unNil ?_)
  refine W_and (W_yes (by omega) (W_yes hlt ?_))
  refine W_nth (by omega) (fun v hv _=> ?_)
  rw[hnthb v hv,←hbe]
  refine W_ca7 (W_asStr ?_)
  rw[hbe]
  generalize hcur:fixup l0 up l0.length A++forest (d+1) up l0.length A=cur at*
  generalize hn0:cur.length=n at*
  have hnd:List.map Nd.v cur++[.agg [.int .i64 (ndKind b),.int .i64 (up:Int),.int .i64 0,.int .i64 (-1),.int .i64 (-1),.int .i64 (-1),.str nm]]=(cur++[(⟨ndKind b,up,0,-1,-1,-1,nm⟩:Nd)]).map Nd.v:=by rw[List.map_append];rfl
  rw[hnd]
  refine W_yes (by rw[List.length_map];omega) ?_
  simp only[List.length_map,hn0,List.length_append,List.length_cons,List.length_nil]
  have hupn:up<n:=by omega
  refine W_and (W_yes (by omega) (W_yes (by omega) ?_))
  refine W_nthN (by simp;omega) (fun n1 hn1=>W_nd ?_)
  refine W_ce7 (W_aI ?_)
  have hn1':cur[up]? =some n1:=by
   rw[Int.toNat_natCast,List.getElem?_append_left (by omega)]at hn1;exact hn1
  have hcur1:A=[]→cur=l0:=fun h=>by rw[←hcur,h,fixup_nil];simp[forest]
  have hcur2:A≠[]→¬(n1.init<0∧n1.kind=2):=by
   intro hA hc
   rw[←hcur,List.getElem?_append_left (by rw[fixup_len];exact hup)]at hn1'
   cases A with
   |nil=>exact hA rfl
   |cons a r=>
    have e0:l0[up]? =some l0[up]:=List.getElem?_eq_getElem hup
    unfold fixup at hn1'
    simp only[e0]at hn1'
    by_cases hq:l0[up].init<0∧l0[up].kind=2
    ·rw[if_pos hq,List.getElem?_set_self hup]at hn1'
     cases hn1'
     have:=hc.1
     simp at this;omega
    ·rw[if_neg hq,e0]at hn1'
     cases hn1';exact hq hc
  have hfx:fixup l0 up l0.length (A++[b])++forest (d+1) up l0.length A=if n1.init<0∧n1.kind=2 then cur.set up {n1 with init:=n}else cur:=by
   by_cases hA:A=[]
   ·have hc:=hcur1 hA
    subst hA
    have hn00:n=l0.length:=by rw[←hn0,hc]
    rw[←hn00]
    rw[hc]at hn1' ⊢
    unfold fixup
    simp only[List.nil_append,hn1']
    rw[show forest (d+1) (up:Int) n []=[]by rw[forest],List.append_nil]
   ·rw[if_neg (hcur2 hA),←hcur]
    congr 1
    unfold fixup
    cases A with
    |nil=>exact absurd rfl hA
    |cons a r=>cases l0[up]? <;>rfl
  have fin:∀L2:List Nd,L2=(fixup l0 up l0.length (A++[b])++forest (d+1) up l0.length A)++[(⟨ndKind b,up,0,-1,-1,-1,nm⟩:Nd)]→∀(n2:Nd) (len:Int),len=((fixup L2 n (n+1) kb++forest d n (n+1) kb).length:Int)-1→(fixup L2 n (n+1) kb++forest d n (n+1) kb)[n]? =some n2→
   (fixup L2 n (n+1) kb++forest d n (n+1) kb).set n {n2 with last:=len}=fixup l0 up l0.length (A++[b])++forest (d+1) up l0.length (A++[b]):=by
   intro L2 hL2 n2 len hlen hn2
   have hPl:(fixup l0 up l0.length (A++[b])++forest (d+1) up l0.length A).length=n:=by rw[List.length_append,fixup_len,forest_len];omega
   generalize hPe:fixup l0 up l0.length (A++[b])++forest (d+1) up l0.length A=P at*
   rw[hL2]at hn2 hlen ⊢
   rw[fixup_one hPl rfl rfl hkb]at hn2 hlen ⊢
   rw[List.append_assoc,List.getElem?_append_right (by omega)]at hn2
   rw[hPl,Nat.sub_self]at hn2
   simp only[List.cons_append,List.nil_append,List.getElem?_cons_zero,Option.some.injEq]at hn2
   rw[List.append_assoc,←hPl,List.set_append_right _ _ (Nat.le_refl _),Nat.sub_self]
   simp only[List.cons_append,List.nil_append,List.set_cons_zero]
   rw[forest_app,←List.append_assoc,hPe]
   congr 1
   rw[forest,hkb,hnb,show forest (d+1) (up:Int) (l0.length+nszL (d+1) A+1+nszL d kb) []=[]by rw[forest],List.append_nil]
   have hnn:l0.length+nszL (d+1) A=n:=by omega
   rw[hnn,←hn2,hPl]
   congr 1
   rw[hlen]
   simp only[List.length_append,List.length_cons,List.length_nil,forest_len,hPl]
   congr 1
   omega
  have rest:∀(L2:List Nd),L2=(fixup l0 up l0.length (A++[b])++forest (d+1) up l0.length A)++[(⟨ndKind b,up,0,-1,-1,-1,nm⟩:Nd)]→∀F:LV→OV R,
   (∀n2:Nd,(fixup L2 n (n+1) kb++forest d n (n+1) kb)[n]? =some n2→W Q K (F [.sl 7 ((fixup L2 n (n+1) kb++forest d n (n+1) kb).map Nd.v)]))→W Q K (G 66 [.sl 7 (L2.map Nd.v),.sl 7 kb,.int .i64 (n:Int)] F):=by
   intro L2 hL2 F hF
   have hPl:(fixup l0 up l0.length (A++[b])++forest (d+1) up l0.length A).length=n:=by rw[List.length_append,fixup_len,forest_len];omega
   have hL2l:L2.length=n+1:=by rw[hL2,List.length_append,hPl];rfl
   have hsz2:n+1+nszL d kb≤1000:=by rw[hkb]at hnsz;omega
   refine W_call (hP d rfl L2 kb n F x10 x12 (by omega) (by omega)) ?_
   rintro _ rfl
   rw[hL2l]
   have hl:n<(fixup L2 n (n+1) kb++forest d n (n+1) kb).length:=by rw[List.length_append,fixup_len];omega
   exact hF _ (List.getElem?_eq_getElem hl)
  have hnm1:∀m:Nd,(cur++[(⟨ndKind b,up,0,-1,-1,-1,nm⟩:Nd)])[Int.toNat (up:Int)]? =some m→m=n1:=fun m hm=>by rw[hn1]at hm;cases hm;rfl
  generalize hPe:fixup l0 up l0.length (A++[b])++forest (d+1) up l0.length A=P at hfx rest fin
  refine W_dec (fun hi=> ?_) (fun hi=> ?_)
  ·refine W_and (W_yes (by omega) (W_yes (by omega) ?_))
   refine W_nthN (by simp;omega) (fun m hm=>W_nd ?_)
   rw[hnm1 m hm]
   refine W_ce7 (W_aI ?_)
   refine W_beqI (fun hk2=> ?_) (fun hk2=> ?_)
   ·have hA:A=[]:=Classical.byContradiction fun h=>hcur2 h ⟨hi,hk2⟩
    have hbk2:kindV b≤2:=hh b B (by rw[h1,hA];rfl)
    have hnk:ndKind b≤3:=by unfold ndKind;split;omega;split;omega;split;omega;split<;>omega
    rw[if_pos ⟨hi,hk2⟩]at hfx
    refine W_and (W_yes (by omega) (W_yes (by omega) ?_))
    refine W_nthN (by simp;omega) (fun m hm=>W_nd ?_)
    have hm2:m=⟨ndKind b,up,0,-1,-1,-1,nm⟩:=by
     rw[Int.toNat_natCast,List.getElem?_append_right (by omega),hn0,Nat.sub_self]at hm
     simp at hm;exact hm.symm
    subst hm2
    refine W_ce7 (W_aI (W_aI (W_aI (W_aI (W_aI (W_aI (W_asStr ?_)))))))
    refine W_call (hSt ⟨ndKind b,up,0,-1,-1,-1,nm⟩ _) ?_
    rintro _ rfl
    refine W_uB (W_unNil (W_yes hnk ?_))
    refine W_and (W_yes (by omega) (W_yes (by omega) ?_))
    refine W_nthN (by simp;omega) (fun m hm=>W_nd ?_)
    rw[hnm1 m hm]
    refine W_ce7 ?_
    have hset:List.set (List.map Nd.v (cur++[(⟨ndKind b,up,0,-1,-1,-1,nm⟩:Nd)])) (Int.toNat (up:Int)) (V.agg [.int .i64 n1.kind,.int .i64 n1.parent,.int .i64 n1.last,.int .i64 (n:Int),.int .i64 n1.entry,.int .i64 n1.exit,.str n1.name])=(P++[(⟨ndKind b,up,0,-1,-1,-1,nm⟩:Nd)]).map Nd.v:=by
     rw[Int.toNat_natCast,show V.agg [.int .i64 n1.kind,.int .i64 n1.parent,.int .i64 n1.last,.int .i64 (n:Int),.int .i64 n1.entry,.int .i64 n1.exit,.str n1.name]=({n1 with init:=n}:Nd).v from rfl,set_map,List.set_append_left _ _ (by omega),hfx]
    rw[hset]
    refine W_and (W_yes (by omega) (W_yes (by omega) ?_))
    refine W_nth (by omega) (fun v hv _=> ?_)
    rw[hnthb v hv,←hbe]
    refine W_ca7 (W_asSl ?_)
    rw[hbe]
    refine rest _ rfl _ (fun n2 hn2=> ?_)
    refine W_uL (W_unNil ?_)
    have hlen2:(fixup (P++[(⟨ndKind b,up,0,-1,-1,-1,nm⟩:Nd)]) n (n+1) kb++forest d n (n+1) kb).length=n+1+nszL d kb:=by
     have hPl:P.length=n:=by rw[←hPe,List.length_append,fixup_len,forest_len];omega
     rw[List.length_append,fixup_len,forest_len,List.length_append,hPl];rfl
    refine W_and (W_yes (by omega) (W_yes (by rw[List.length_map];omega) ?_))
    refine W_nthN (by rw[Int.toNat_natCast];omega) (fun m hm=>W_nd ?_)
    rw[Int.toNat_natCast]at hm
    refine W_ce7 ?_
    rw[hkb]at hnsz
    have hw:IntKind.i64.wrap (((List.map Nd.v (fixup (P++[(⟨ndKind b,up,0,-1,-1,-1,nm⟩:Nd)]) n (n+1) kb++forest d n (n+1) kb)).length:Int)-1)=((fixup (P++[(⟨ndKind b,up,0,-1,-1,-1,nm⟩:Nd)]) n (n+1) kb++forest d n (n+1) kb).length:Int)-1:=by
     rw[List.length_map];exact wrap_id (by omega)
    rw[hw,wrap_id (n:=(A.length:Int)+1) (by omega)]
    have hset2:∀len:Int,len=((fixup (P++[(⟨ndKind b,up,0,-1,-1,-1,nm⟩:Nd)]) n (n+1) kb++forest d n (n+1) kb).length:Int)-1→List.set (List.map Nd.v (fixup (P++[(⟨ndKind b,up,0,-1,-1,-1,nm⟩:Nd)]) n (n+1) kb++forest d n (n+1) kb)) (Int.toNat (n:Int)) (V.agg [.int .i64 m.kind,.int .i64 m.parent,.int .i64 len,.int .i64 m.init,.int .i64 m.entry,.int .i64 m.exit,.str m.name])=(fixup l0 up l0.length (A++[b])++forest (d+1) up l0.length (A++[b])).map Nd.v:=by
     intro len hlen
     rw[Int.toNat_natCast,show V.agg [.int .i64 m.kind,.int .i64 m.parent,.int .i64 len,.int .i64 m.init,.int .i64 m.entry,.int .i64 m.exit,.str m.name]=({m with last:=len}:Nd).v from rfl,set_map,fin _ rfl m len hlen hm]
    rw[hset2 _ rfl]
    have e:=put_loop hKd hSt hP hk hh hup hsz hKo B (A++[b]) j (by rw[h1];simp) (by omega)
    simp only[List.append_assoc,List.singleton_append,List.length_append,List.length_cons,List.length_nil,Nat.zero_add,Int.natCast_add,Int.natCast_one]at e
    exact e
   ·rw[if_neg (by rintro⟨_,h⟩;exact hk2 h)]at hfx
    rw[←hfx]
    refine W_and (W_yes (by omega) (W_yes (by omega) ?_))
    refine W_nth (by omega) (fun v hv _=> ?_)
    rw[hnthb v hv,←hbe]
    refine W_ca7 (W_asSl ?_)
    rw[hbe]
    refine rest _ rfl _ (fun n2 hn2=> ?_)
    refine W_uL (W_unNil ?_)
    have hlen2:(fixup (P++[(⟨ndKind b,up,0,-1,-1,-1,nm⟩:Nd)]) n (n+1) kb++forest d n (n+1) kb).length=n+1+nszL d kb:=by
     have hPl:P.length=n:=by rw[←hPe,List.length_append,fixup_len,forest_len];omega
     rw[List.length_append,fixup_len,forest_len,List.length_append,hPl];rfl
    refine W_and (W_yes (by omega) (W_yes (by rw[List.length_map];omega) ?_))
    refine W_nthN (by rw[Int.toNat_natCast];omega) (fun m hm=>W_nd ?_)
    rw[Int.toNat_natCast]at hm
    refine W_ce7 ?_
    rw[hkb]at hnsz
    have hw:IntKind.i64.wrap (((List.map Nd.v (fixup (P++[(⟨ndKind b,up,0,-1,-1,-1,nm⟩:Nd)]) n (n+1) kb++forest d n (n+1) kb)).length:Int)-1)=((fixup (P++[(⟨ndKind b,up,0,-1,-1,-1,nm⟩:Nd)]) n (n+1) kb++forest d n (n+1) kb).length:Int)-1:=by
     rw[List.length_map];exact wrap_id (by omega)
    rw[hw,wrap_id (n:=(A.length:Int)+1) (by omega)]
    have hset2:∀len:Int,len=((fixup (P++[(⟨ndKind b,up,0,-1,-1,-1,nm⟩:Nd)]) n (n+1) kb++forest d n (n+1) kb).length:Int)-1→List.set (List.map Nd.v (fixup (P++[(⟨ndKind b,up,0,-1,-1,-1,nm⟩:Nd)]) n (n+1) kb++forest d n (n+1) kb)) (Int.toNat (n:Int)) (V.agg [.int .i64 m.kind,.int .i64 m.parent,.int .i64 len,.int .i64 m.init,.int .i64 m.entry,.int .i64 m.exit,.str m.name])=(fixup l0 up l0.length (A++[b])++forest (d+1) up l0.length (A++[b])).map Nd.v:=by
     intro len hlen
     rw[Int.toNat_natCast,show V.agg [.int .i64 m.kind,.int .i64 m.parent,.int .i64 len,.int .i64 m.init,.int .i64 m.entry,.int .i64 m.exit,.str m.name]=({m with last:=len}:Nd).v from rfl,set_map,fin _ rfl m len hlen hm]
    rw[hset2 _ rfl]
    have e:=put_loop hKd hSt hP hk hh hup hsz hKo B (A++[b]) j (by rw[h1];simp) (by omega)
    simp only[List.append_assoc,List.singleton_append,List.length_append,List.length_cons,List.length_nil,Nat.zero_add,Int.natCast_add,Int.natCast_one]at e
    exact e
  ·rw[if_neg (by rintro⟨h,_⟩;exact hi h)]at hfx
   rw[←hfx]
   refine W_and (W_yes (by omega) (W_yes (by omega) ?_))
   refine W_nth (by omega) (fun v hv _=> ?_)
   rw[hnthb v hv,←hbe]
   refine W_ca7 (W_asSl ?_)
   rw[hbe]
   refine rest _ rfl _ (fun n2 hn2=> ?_)
   refine W_uL (W_unNil ?_)
   have hlen2:(fixup (P++[(⟨ndKind b,up,0,-1,-1,-1,nm⟩:Nd)]) n (n+1) kb++forest d n (n+1) kb).length=n+1+nszL d kb:=by
    have hPl:P.length=n:=by rw[←hPe,List.length_append,fixup_len,forest_len];omega
    rw[List.length_append,fixup_len,forest_len,List.length_append,hPl];rfl
   refine W_and (W_yes (by omega) (W_yes (by rw[List.length_map];omega) ?_))
   refine W_nthN (by rw[Int.toNat_natCast];omega) (fun m hm=>W_nd ?_)
   rw[Int.toNat_natCast]at hm
   refine W_ce7 ?_
   rw[hkb]at hnsz
   have hw:IntKind.i64.wrap (((List.map Nd.v (fixup (P++[(⟨ndKind b,up,0,-1,-1,-1,nm⟩:Nd)]) n (n+1) kb++forest d n (n+1) kb)).length:Int)-1)=((fixup (P++[(⟨ndKind b,up,0,-1,-1,-1,nm⟩:Nd)]) n (n+1) kb++forest d n (n+1) kb).length:Int)-1:=by
    rw[List.length_map];exact wrap_id (by omega)
   rw[hw,wrap_id (n:=(A.length:Int)+1) (by omega)]
   have hset2:∀len:Int,len=((fixup (P++[(⟨ndKind b,up,0,-1,-1,-1,nm⟩:Nd)]) n (n+1) kb++forest d n (n+1) kb).length:Int)-1→List.set (List.map Nd.v (fixup (P++[(⟨ndKind b,up,0,-1,-1,-1,nm⟩:Nd)]) n (n+1) kb++forest d n (n+1) kb)) (Int.toNat (n:Int)) (V.agg [.int .i64 m.kind,.int .i64 m.parent,.int .i64 len,.int .i64 m.init,.int .i64 m.entry,.int .i64 m.exit,.str m.name])=(fixup l0 up l0.length (A++[b])++forest (d+1) up l0.length (A++[b])).map Nd.v:=by
    intro len hlen
    rw[Int.toNat_natCast,show V.agg [.int .i64 m.kind,.int .i64 m.parent,.int .i64 len,.int .i64 m.init,.int .i64 m.entry,.int .i64 m.exit,.str m.name]=({m with last:=len}:Nd).v from rfl,set_map,fin _ rfl m len hlen hm]
   rw[hset2 _ rfl]
   have e:=put_loop hKd hSt hP hk hh hup hsz hKo B (A++[b]) j (by rw[h1];simp) (by omega)
   simp only[List.append_assoc,List.singleton_append,List.length_append,List.length_cons,List.length_nil,Nat.zero_add,Int.natCast_add,Int.natCast_one]at e
   exact e
theorem put_ok{d:Nat}(hk:10000≤k)(hKd:KindOK G)(hSt:IsStOK G)(hP:∀d',d=d'+1→PutOK d' G):PutOK d (fun _ args (K:LV→OV R)=>g66 G k args K):=by
 intro l kids up K h1 h2 h3 h4
 show W _ K (f66 G k (l.map Nd.v) kids up K)
 unfold f66 l66_0
 have hlen:kids.length≤nszL d kids∨kids=[]:=by
  cases d with
  |zero=>
   cases kids with
   |nil=>exact .inr rfl
   |cons a r=>exact(h1 a (by simp)).elim
  |succ d=>exact .inl nszL_len
 have hl2:kids.length<k:=by
  rcases hlen with h|h
  ·omega
  ·rw[h];simp;omega
 have e:=put_loop (Q:=fun o=>o=[.sl 7 ((fixup l up l.length kids++forest d up l.length kids).map Nd.v)]) (K:=K) (k:=k) (Ko:=fun yl=>K [.sl 7 yl]) hKd hSt hP h1 h2 h3 h4 (W_ret rfl) kids [] k rfl hl2
 rw[fixup_nil,List.nil_append]at e
 have hf:forest d (up:Int) l.length []=[]:=by cases d<;>rw[forest]
 rw[hf,List.append_nil]at e
 exact e
def NodesOK(G:ORC R):Prop:=∀(nm:ByteArray) (x y:Int) (a b c states:LV) (z:Int) (K:LV→OV R),(∀s∈states,StateS 2 3 s∧kindV s≤2)→nszL 3 states≤900→
 W (fun o=>o=[.sl 7 ((ndsOf states).map Nd.v)]) K (G 47 [.agg [.str nm,.int .i64 x,.int .i64 y,.sl 3 a,.sl 3 b,.sl 3 c,.sl 7 states,.int .i64 z]] K)
theorem nodes_ok(hP:PutOK 3 G):NodesOK (fun _ args (K:LV→OV R)=>g47 G k args K):=by
 intro nm x y a b c states z K h1 h2
 show W _ K (f47 G k nm x y a b c states z K)
 unfold f47
 refine W_call (hP [(⟨2,-1,0,-1,-1,-1,⟨#[]⟩⟩:Nd)] states 0 _ (fun s hs=>(h1 s hs).1) (fun s r e=>(h1 s (by rw[e];simp)).2) (by simp) (by simp;omega)) ?_
 rintro _ rfl
 refine W_uL (W_unNil ?_)
 have hl:(fixup [(⟨2,-1,0,-1,-1,-1,⟨#[]⟩⟩:Nd)] 0 1 states++forest 3 (0:Nat) 1 states).length=1+nszL 3 states:=by rw[List.length_append,fixup_len,forest_len];rfl
 simp only[List.length_cons,List.length_nil,Nat.zero_add,List.length_map,hl]
 have hl0:(0:Int)<((1+nszL 3 states:Nat):Int):=by omega
 refine W_yes (by omega) ?_
 refine W_nthN (by rw[hl];omega) (fun n hn=>W_nd ?_)
 refine W_ce7 ?_
 rw[wrap_id (by omega)]
 refine W_ret ?_
 have e:(fixup [(⟨2,-1,0,-1,-1,-1,⟨#[]⟩⟩:Nd)] 0 1 states++forest 3 (0:Nat) 1 states).set 0 {n with last:=((1+nszL 3 states:Nat):Int)-1}=ndsOf states:=by
  have hq:((1+nszL 3 states:Nat):Int)-1=(nszL 3 states:Nat):=by omega
  rw[hq]
  unfold ndsOf
  cases states with
  |nil=>
   rw[fixup_nil]at hn ⊢
   simp at hn;subst hn;rfl
  |cons s r=>
   have hf:fixup [(⟨2,-1,0,-1,-1,-1,⟨#[]⟩⟩:Nd)] 0 1 (s::r)=[⟨2,-1,0,1,-1,-1,⟨#[]⟩⟩]:=by unfold fixup;simp
   rw[hf]at hn ⊢
   simp at hn;subst hn;simp
 rw[←e,←set_map];rfl
end
section
variable {R : Type} {G : ORC R} {k : Nat} {K : LV → OV R}
def IsOK(G:ORC R):Prop:=∀(l:LV) (i:Int) (K:LV→OV R),W (fun o=>o=[.bool (decide (0≤i∧i<l.length))]) K (G 91 [.sl 7 l,.int .i64 i] K)
theorem is_ok:IsOK (fun _ args (K:LV→OV R)=>g91 G k args K):=by
 intro l i K
 show W _ K (f91 G k l i K)
 unfold f91
 refine W_dec (fun h=> ?_) (fun h=> ?_)
 ·exact W_ret (by congr 3;simp;omega)
 ·exact W_ret (by congr 2;symm;rw[decide_eq_false];omega)
def InOK(G:ORC R):Prop:=∀(l:List Nd) (a b:Int) (K:LV→OV R),W (fun o=>o=[.bool (inN l a b)]) K (G 79 [.sl 7 (l.map Nd.v),.int .i64 a,.int .i64 b] K)
theorem in_ok(hI:IsOK G):InOK (fun _ args (K:LV→OV R)=>g79 G k args K):=by
 intro l a b K
 show W _ K (f79 G k (l.map Nd.v) a b K)
 unfold f79
 unfold IsOK at hI
 have no:¬(0≤a∧a<l.length∧0≤b∧b<l.length∧a≥b)→inN l a b=false:=fun h=>by unfold inN;rw[decide_eq_false h];rfl
 refine W_call (hI _ _ _) ?_
 rintro _ rfl
 refine W_uB (W_unNil ?_)
 simp only[List.length_map]
 refine W_dec (fun h1=> ?_) (fun h1=>W_ret (by rw[no (by omega)]))
 refine W_call (hI _ _ _) ?_
 rintro _ rfl
 refine W_uB (W_unNil ?_)
 simp only[List.length_map]
 refine W_dec (fun h2=> ?_) (fun h2=>W_ret (by rw[no (by omega)]))
 refine W_dec (fun h3=> ?_) (fun h3=>W_ret (by rw[no (by omega)]))
 refine W_and (W_yes h2.1 (W_yes h2.2 ?_))
 refine W_nthN (by omega) (fun n hn=>W_nd ?_)
 refine W_ce7 (W_aI ?_)
 have e:inN l a b=decide (a≤n.last):=by
  unfold inN
  rw[decide_eq_true (show 0≤a∧a<l.length∧0≤b∧b<l.length∧a≥b from⟨h1.1,h1.2,h2.1,h2.2,h3⟩),hn];rfl
 exact W_ret (by rw[e])
def DomOK(G:ORC R):Prop:=∀(l:List Nd) (a b:Int) (K:LV→OV R),l.length≤1000→W (fun o=>o=[.int .i64 (domN l a b)]) K (G 69 [.sl 7 (l.map Nd.v),.int .i64 a,.int .i64 b] K)
theorem dom_no{l:List Nd}{a b:Int}(h:¬(0≤a∧a<l.length)∨¬(0≤b∧b<l.length)):∀i,domGo l a b i= -1
 |0=>rfl
 |i+1=>by
  unfold domGo
  have e:domAt l a b i=false:=by
   unfold domAt
   rcases h with h|h
   ·rw[show inN l a i=false by unfold inN;rw[decide_eq_false (by omega)];rfl];simp
   ·rw[show inN l b i=false by unfold inN;rw[decide_eq_false (by omega)];rfl];simp
  rw[if_neg (by rw[e];simp)]
  exact dom_no h i
theorem dom_loop(hI:InOK G){Q:LV→Prop}{K:LV→OV R}{Ko:Int→OV R}{l:List Nd}{a b:Int}(hl:l.length≤1000)
 (hKo:W Q K (Ko (domN l a b))):
 ∀(j i:Nat),l.length-i<j→i≤l.length→W Q K (l69_0g G k Ko j (l.map Nd.v) a b (domGo l a b i) i)
 |0,i,h1,h2=>by omega
 |j+1,i,h1,h2=>by
  show W Q K (b69_0 G k (l69_0g G k Ko j) Ko (l.map Nd.v) a b (domGo l a b i) i)
  unfold b69_0
  simp only[List.length_map]
  unfold InOK at hI
  refine W_dec (fun h=> ?_) (fun h=> ?_)
  ·have hi:i<l.length:=by omega
   have hgo:∀d,domGo l a b (i+1)=d→W Q K (l69_0g G k Ko j (l.map Nd.v) a b d (IntKind.i64.wrap ((i:Int)+1))):=by
    intro d hd
    rw[wrap_id (n:=(i:Int)+1) (by omega),←hd]
    exact dom_loop hI hl hKo j (i+1) (by omega) (by omega)
   have hN:domAt l a b i=false→domGo l a b (i+1)=domGo l a b i:=fun e=>by
    show(if domAt l a b i=true then(i:Int)else domGo l a b i)=_
    rw[if_neg (by rw[e];simp)]
   have hY:domAt l a b i=true→domGo l a b (i+1)=i:=fun e=>by
    show(if domAt l a b i=true then(i:Int)else domGo l a b i)=_
    rw[if_pos e]
   refine W_and (W_yes (by omega) (W_yes h ?_))
   refine W_nthN (by omega) (fun n hn=>W_nd ?_)
   rw[Int.toNat_natCast]at hn
   have hat:domAt l a b i=(decide (n.kind=2)&&decide ((i:Int)≠a)&&decide ((i:Int)≠b)&&inN l a i&&inN l b i):=by unfold domAt;rw[hn]
   refine W_ce7 (W_aI ?_)
   refine W_beqI (fun e1=> ?_) (fun e1=>hgo _ (hN (by rw[hat,decide_eq_false e1];rfl)))
   refine W_bool (fun e2=> ?_) (fun e2=>hgo _ (hN (by rw[hat];simp at e2;simp[e2])))
   refine W_bool (fun e3=> ?_) (fun e3=>hgo _ (hN (by rw[hat];simp at e3;simp[e3])))
   refine W_call (hI _ _ _ _) ?_
   rintro _ rfl
   refine W_uB (W_unNil ?_)
   refine W_bool (fun e4=> ?_) (fun e4=>hgo _ (hN (by rw[hat,e4];simp)))
   refine W_call (hI _ _ _ _) ?_
   rintro _ rfl
   refine W_uB (W_unNil ?_)
   refine W_bool (fun e5=> ?_) (fun e5=>hgo _ (hN (by rw[hat,e5];simp)))
   refine hgo _ (hY ?_)
   rw[hat,e4,e5,decide_eq_true e1]
   simp at e2 e3
   simp[e2,e3]
  ·have he:i=l.length:=by omega
   subst he
   exact hKo
theorem dom_ok(hk:10000≤k)(hIs:IsOK G)(hI:InOK G):DomOK (fun _ args (K:LV→OV R)=>g69 G k args K):=by
 intro l a b K hl
 show W _ K (f69 G k (l.map Nd.v) a b K)
 unfold f69
 unfold IsOK at hIs
 refine W_call (hIs _ _ _) ?_
 rintro _ rfl
 refine W_uB (W_unNil (W_not ?_))
 simp only[List.length_map]
 refine W_dec (fun h1=> ?_) (fun h1=>W_ret (by unfold domN;rw[dom_no (.inl h1)]))
 refine W_call (hIs _ _ _) ?_
 rintro _ rfl
 refine W_uB (W_unNil (W_not ?_))
 simp only[List.length_map]
 refine W_dec (fun h2=> ?_) (fun h2=>W_ret (by unfold domN;rw[dom_no (.inr h2)]))
 unfold l69_0
 exact dom_loop (Q:=fun o=>o=[.int .i64 (domN l a b)]) (K:=K) (Ko:=fun d=>K [.int .i64 d]) hI hl (W_ret rfl) k 0 (by omega) (by omega)
end
section
variable {R : Type} {G : ORC R} {k : Nat} {K : LV → OV R}
def KidsOK(f:FuncId)(G:ORC R):Prop:=∀(l:List Nd) (i:Int) (K:LV→OV R),l.length≤1000→W (fun o=>o=[.sl 1 (ivs (kidsN l i))]) K (G f [.sl 7 (l.map Nd.v),.int .i64 i] K)
theorem rkids_loop(hI:IsOK G){Q:LV→Prop}{K:LV→OV R}{Ko:LV→OV R}{l:List Nd}{i:Int}(hl:l.length≤1000)(hKo:W Q K (Ko (ivs (kidsN l i)))):
 ∀(j m:Nat),l.length-m<j→m≤l.length→W Q K (l113_0g G k Ko j (l.map Nd.v) i (ivs (kidsGo l i m)) m)
 |0,m,h1,h2=>by omega
 |j+1,m,h1,h2=>by
  show W Q K (b113_0 G k (l113_0g G k Ko j) Ko (l.map Nd.v) i (ivs (kidsGo l i m)) m)
  unfold b113_0
  have hgl:=kidsGo_len (l:=l) (i:=i) (m:=m)
  simp only[List.length_map]
  refine W_dec (fun h=> ?_) (fun h=>by rw[show m=l.length by omega];exact hKo)
  unfold IsOK at hI
  refine W_call (hI _ _ _) ?_
  rintro _ rfl
  (repeat(with_reducible apply U1))
  simp only[List.length_map]
  refine W_dec (fun hi=> ?_) (fun hi=> ?_)
  ·refine W_and (W_yes (by omega) (W_yes (by omega) ?_))
   refine W_nthN (by omega) (fun n hn=> ?_)
   rw[Int.toNat_natCast]at hn
   (repeat(with_reducible apply U1))
   have next:∀a,a=ivs (kidsGo l i (m+1))→W Q K (l113_0g G k Ko j (l.map Nd.v) i a (IntKind.i64.wrap ((m:Int)+1))):=fun a ha=>by
    rw[wrap_id (n:=(m:Int)+1) (by omega),ha]
    exact rkids_loop hI hl hKo j (m+1) (by omega) (by omega)
   have hk:isK l i m=(decide (0≤i∧i<l.length)&&decide (n.parent=i)):=by unfold isK;rw[hn]
   refine W_beqI (fun hp=> ?_) (fun hp=>next _ (by rw[kidsGo,hk,decide_eq_false hp];simp))
   refine W_yes (by rw[ivs_len];omega) (next _ (by rw[kidsGo,hk,decide_eq_true hi,decide_eq_true hp];simp[ivs]))
  ·have e0:∀m,kidsGo l i m=[]:=by
    intro m
    induction m with
    |zero=>rfl
    |succ m ih=>unfold kidsGo;rw[ih];unfold isK;rw[decide_eq_false hi];simp
   have:kidsN l i=kidsGo l i m:=by unfold kidsN;rw[e0,e0]
   rw[←this];exact hKo
theorem rkids_ok(hk:10000≤k)(hI:IsOK G):KidsOK 113 (fun _ args (K:LV→OV R)=>g113 G k args K):=by
 intro l i K hl
 show W _ K (f113 G k (l.map Nd.v) i K)
 unfold f113 l113_0
 exact rkids_loop (Q:=fun o=>o=[.sl 1 (ivs (kidsN l i))]) (K:=K) (Ko:=fun x=>K [.sl 1 x]) hI hl (W_ret rfl) k 0 (by omega) (by omega)
end
section
variable {R : Type} {G : ORC R} {k : Nat} {K : LV → OV R}
theorem ivs_atZ{l:List Int}{i:Nat}{n:Int}(h:l[i]? =some n):(ivs l)[((i:Nat):Int).toNat]? =some (.int .i64 n):=by rw[Int.toNat_natCast];exact ivs_at h
theorem get_ex{l:List Int}{m:Nat}(h:m<l.length):∃x,l[m]? =some x:=⟨_,List.getElem?_eq_getElem h⟩
def HasOK(G:ORC R):Prop:=∀(l:List Int) (i:Int) (K:LV→OV R),l.length≤9000→W (fun o=>o=[.bool (hasL l i)]) K (G 78 [.sl 1 (ivs l),.int .i64 i] K)
theorem has_loop{Q:LV→Prop}{K:LV→OV R}{Ko:Unit→OV R}{Kr:Bool→OV R}{l:List Int}{i:Int}(hl:l.length≤9000)(hKo:i∉l→W Q K (Ko ()))(hKr:i∈l→W Q K (Kr true)):
 ∀(j m:Nat),l.length-m<j→m≤l.length→i∉l.take m→W Q K (l78_0g G k Ko Kr j (ivs l) i m)
 |0,m,h1,h2,h3=>by omega
 |j+1,m,h1,h2,h3=>by
  show W Q K (b78_0 G k (l78_0g G k Ko Kr j) Ko Kr (ivs l) i m)
  unfold b78_0
  refine W_dec (fun h=> ?_) (fun h=>hKo (by rw[ivs_len]at h;rwa[List.take_of_length_le (by omega)]at h3))
  rw[ivs_len]at h
  obtain⟨x,hx⟩:=get_ex (l:=l) (m:=m) (by omega)
  refine W_at (by omega) (ivs_atZ hx) (W_aI ?_)
  refine W_beqI (fun e=>hKr (by subst e;exact List.mem_of_getElem? hx)) (fun e=> ?_)
  rw[wrap_id (n:=(m:Int)+1) (by omega)]
  exact has_loop hl hKo hKr j (m+1) (by omega) (by omega) (by rw[take_snoc hx,List.mem_append,List.mem_singleton];rintro(h|h);exact h3 h;exact e h.symm)
theorem has_ok(hk:10000≤k):HasOK (fun _ args (K:LV→OV R)=>g78 G k args K):=by
 intro l i K hl
 show W _ K (f78 G k (ivs l) i K)
 unfold f78 l78_0
 exact has_loop (Q:=fun o=>o=[.bool (hasL l i)]) (K:=K) hl (fun h=>W_ret (by unfold hasL;rw[decide_eq_false h])) (fun h=>W_ret (by unfold hasL;rw[decide_eq_true h])) k 0 (by omega) (by omega) (by simp)
def StatesOK(G:ORC R):Prop:=∀(ns:List Nd) (i:Int) (K:LV→OV R),ns.length≤1000→W (fun o=>o=[.sl 1 (ivs (statesN ns i))]) K (G 109 [.sl 7 (ns.map Nd.v),.int .i64 i] K)
theorem filt_snoc{l:List Int}{p:Int→Bool}{x:Int}:(l++[x]).filter p=l.filter p++if p x then[x]else[]:=by
 rw[List.filter_append,List.filter_cons];cases p x<;>simp
theorem kid_at{ns:List Nd}{i x:Int}{m:Nat}(h:(kidsN ns i)[m]? =some x):∃(q:Nat) (n:Nd),x=q∧ns[q]? =some n∧q<ns.length∧isSt ns x=decide (n.kind≤3):=by
 obtain⟨q,n,h1,h2,h3,_⟩:=mem_kidsN.1 (List.mem_of_getElem? h)
 exact⟨q,n,h1,h2,(List.getElem?_eq_some_iff.1 h2).1,by unfold isSt;rw[h1,Int.toNat_natCast,h2]⟩
theorem states_loop(hS:IsStOK G){Q:LV→Prop}{K:LV→OV R}{Ko:LV→OV R}{ns:List Nd}{i:Int}(hl:ns.length≤1000)(hKo:W Q K (Ko (ivs (statesN ns i)))):
 ∀(j m:Nat),(kidsN ns i).length-m<j→m≤(kidsN ns i).length→W Q K (l109_0g G k Ko j (ns.map Nd.v) (ivs (((kidsN ns i).take m).filter (isSt ns))) (ivs (kidsN ns i)) m)
 |0,m,h1,h2=>by omega
 |j+1,m,h1,h2=>by
  show W Q K (b109_0 G k (l109_0g G k Ko j) Ko (ns.map Nd.v) (ivs (((kidsN ns i).take m).filter (isSt ns))) (ivs (kidsN ns i)) m)
  unfold b109_0
  have hkl:(kidsN ns i).length≤ns.length:=kidsGo_len
  refine W_dec (fun h=> ?_) (fun h=>by rw[ivs_len]at h;rw[List.take_of_length_le (by omega)];exact hKo)
  rw[ivs_len]at h
  obtain⟨x,hx⟩:=get_ex (l:=kidsN ns i) (m:=m) (by omega)
  obtain⟨q,n,rfl,hn,hq,hst⟩:=kid_at hx
  have hfl:=List.length_filter_le (isSt ns) ((kidsN ns i).take m)
  rw[List.length_take]at hfl
  unfold IsStOK at hS
  refine W_at (by omega) (ivs_atZ hx) (W_aI ?_)
  refine W_at (by omega) (by rw[Int.toNat_natCast];exact nd_get hn) (W_asAgg ?_)
  refine W_call (hS n _) ?_
  rintro _ rfl
  (repeat(with_reducible apply U1))
  have next:∀c,c=ivs (((kidsN ns i).take (m+1)).filter (isSt ns))→W Q K (l109_0g G k Ko j (ns.map Nd.v) c (ivs (kidsN ns i)) (IntKind.i64.wrap ((m:Int)+1))):=fun c hc=>by
   rw[wrap_id (n:=(m:Int)+1) (by omega),hc]
   exact states_loop hS hl hKo j (m+1) (by omega) (by omega)
  rw[←hst]
  refine W_bool (fun hb=> ?_) (fun hb=>next _ (by rw[take_snoc hx,filt_snoc,hb];simp))
  refine W_at (by omega) (ivs_atZ hx) (W_aI ?_)
  exact W_yes (by rw[ivs_len];omega) (next _ (by rw[take_snoc hx,filt_snoc,hb];simp[ivs]))
theorem states_ok(hk:10000≤k)(hK:KidsOK 113 G)(hS:IsStOK G):StatesOK (fun _ args (K:LV→OV R)=>g109 G k args K):=by
 intro ns i K hl
 show W _ K (f109 G k (ns.map Nd.v) i K)
 unfold f109
 unfold KidsOK at hK
 refine W_call (hK _ _ _ hl) ?_
 rintro _ rfl
 (repeat(with_reducible apply U1))
 unfold l109_0
 have hkl:(kidsN ns i).length≤ns.length:=kidsGo_len
 exact states_loop (Q:=fun o=>o=[.sl 1 (ivs (statesN ns i))]) (K:=K) (Ko:=fun x=>K [.sl 1 x]) hS hl (W_ret rfl) k 0 (by omega) (by omega)
theorem statesN_len{ns:List Nd}{i:Int}:(statesN ns i).length≤ns.length:=Nat.le_trans (List.length_filter_le _ _) kidsGo_len
end
section
variable {R : Type} {G : ORC R} {k : Nat} {K : LV → OV R} {Q : LV → Prop}
def HasR(G:ORC R):Prop:=∀(l:List ByteArray) (s:ByteArray) (K:LV→OV R),l.length≤1000000→W (fun o=>o=[.bool (hasS l s)]) K (G 28 [.sl 1 (sv l),.str s] K)
theorem hasr_loop{Ko:Unit→OV R}{Kr:Bool→OV R}{l:List ByteArray}{s:ByteArray}(hl:l.length≤1000000)(hKo:hasS l s=false→W Q K (Ko ()))(hKr:hasS l s=true→W Q K (Kr true)):
 ∀(j m:Nat),l.length-m<j→m≤l.length→hasS (l.take m) s=false→W Q K (l28_0g G k Ko Kr j (sv l) s m)
 |0,m,h1,h2,h3=>by omega
 |j+1,m,h1,h2,h3=>by
  show W Q K (b28_0 G k (l28_0g G k Ko Kr j) Ko Kr (sv l) s m)
  unfold b28_0
  refine W_dec (fun h=> ?_) (fun h=>by rw[sv_len]at h;exact hKo (by rw[List.take_of_length_le (by omega)]at h3;exact h3))
  rw[sv_len]at h
  obtain⟨t,ht⟩:∃t,l[m]? =some t:=⟨_,List.getElem?_eq_getElem (by omega)⟩
  refine W_at (by omega) (by rw[Int.toNat_natCast];exact sv_at ht) ?_
  (repeat(with_reducible apply U1))
  refine W_bool (fun e=>hKr ?_) (fun e=> ?_)
  ·refine List.any_eq_true.2 ⟨t,List.mem_of_getElem? ht,?_⟩
   rw[beq_iff_eq]at e ⊢
   exact e.symm
  ·rw[wrap_id (n:=(m:Int)+1) (by omega)]
   refine hasr_loop hl hKo hKr j (m+1) (by omega) (by omega) ?_
   rw[takeS ht,hasS_snoc,h3,Bool.false_or]
   refine Bool.eq_false_iff.2 fun q=> ?_
   rw[beq_iff_eq]at q
   rw[q]at e
   simp at e
theorem hasr_ok(hk:1000002≤k):HasR (fun _ args (K:LV→OV R)=>g28 G k args K):=by
 intro l s K hl
 show W _ K (f28 G k (sv l) s K)
 unfold f28 l28_0
 exact hasr_loop (Ko:=fun _=>K [.bool false]) (Kr:=fun b=>K [.bool b]) hl (fun h=>W_ret (by rw[h])) (fun h=>W_ret (by rw[h])) k 0 (by omega) (by omega) rfl
def saidP(op port:Int):V→Bool
 | .agg (.int _ o:: .int _ a::_)=>o==op&&(op==19||a==port)
 |_=>false
theorem tellC_congr{p q:V→Bool}(h:∀op a n s,p (.agg [.int .i64 op,.int .i64 a,.int .i64 n,.str s])=q (.agg [.int .i64 op,.int .i64 a,.int .i64 n,.str s])):∀{code:LV},AllI code→∀{T:List ByteArray},tellC p T code=tellC q T code
 | [],_,T=>rfl
 |v::code,hA,T=>by
  obtain⟨op,a,n,s,rfl⟩:=hA v List.mem_cons_self
  show tellC p (tellI p T _) code=tellC q (tellI q T _) code
  have e:tellI p T (.agg [.int .i64 op,.int .i64 a,.int .i64 n,.str s])=tellI q T (.agg [.int .i64 op,.int .i64 a,.int .i64 n,.str s]):=by
   show(if(p _&& !hasS T s)=true then T++[s]else T)=if(q _&& !hasS T s)=true then T++[s]else T
   rw[h]
  rw[e]
  exact tellC_congr h (fun w hw=>hA w (List.mem_cons_of_mem _ hw))
theorem tellL_congr{cs:LV}{p q:V→Bool}(hA:CodesA cs){L:List Int}(hL:∀c∈L,0≤c∧c<cs.length)(h:∀op a n s,p (.agg [.int .i64 op,.int .i64 a,.int .i64 n,.str s])=q (.agg [.int .i64 op,.int .i64 a,.int .i64 n,.str s])):tellL cs p L=tellL cs q L:=by
 have:=take_all (l:=L) (fun m=>tellL cs p (L.take m)=tellL cs q (L.take m)) rfl (fun m c hc ih=> ?_) L.length (Nat.le_refl _)
 ·rw[List.take_length]at this;exact this
 obtain⟨c0,c1⟩:=hL c (List.mem_of_getElem? hc)
 obtain⟨v,hv⟩:∃v,cs[c.toNat]? =some v:=⟨_,List.getElem?_eq_getElem (by omega)⟩
 obtain⟨code,rfl,a1,a2⟩:=hA v (List.mem_of_getElem? hv)
 rw[takeS hc,tellL_snoc hv,tellL_snoc hv,ih,tellC_congr h a1]
theorem said_in(hH:HasR G){code:LV}(hA:AllI code)(hcl:code.length≤9900){L:LV}{op port i:Int}{T0:List ByteArray}{x:Srch}(hT:T0.length≤900000)
 {Ko:LV→Int→Int→LV→Int→ByteArray→Int→Int→LV→LV→LV→LV→LV→LV→OV R}
 (hKo:W Q K (Ko L op port (sv (tellC (saidP op port) T0 code)) i x.nm x.st x.fu x.vars x.ports x.timers (x.ns.map Nd.v) x.es x.cs)):
 ∀(j m:Nat),code.length-m<j→m≤code.length→
  W Q K (l35_2g G k Ko j L op port (sv (tellC (saidP op port) T0 (code.take m))) i (.sl 4 code) m x.nm x.st x.fu x.vars x.ports x.timers (x.ns.map Nd.v) x.es x.cs)
 |0,m,h1,h2=>by omega
 |j+1,m,h1,h2=>by
  show W Q K (b35_2 G k (l35_2g G k Ko j) Ko L op port (sv (tellC (saidP op port) T0 (code.take m))) i (.sl 4 code) m x.nm x.st x.fu x.vars x.ports x.timers (x.ns.map Nd.v) x.es x.cs)
  unfold b35_2
  (repeat(with_reducible apply U1))
  refine W_dec (fun h=> ?_) (fun h=>by rw[List.take_of_length_le (by omega)];exact hKo)
  obtain⟨v,hv⟩:∃v,code[m]? =some v:=⟨_,List.getElem?_eq_getElem (by omega)⟩
  obtain⟨o,a,n',s,rfl⟩:=hA v (List.mem_of_getElem? hv)
  have hlen:=tellC_len (p:=saidP op port) (l:=code.take m) (T:=T0)
  rw[List.length_take]at hlen
  have step:tellC (saidP op port) T0 (code.take (m+1))=if((o==op&&(op==19||a==port))&& !hasS (tellC (saidP op port) T0 (code.take m)) s)=true then tellC (saidP op port) T0 (code.take m)++[s]else tellC (saidP op port) T0 (code.take m):=by rw[takeS hv,tellC_snoc];rfl
  have next:∀T':List ByteArray,T'=tellC (saidP op port) T0 (code.take (m+1))→
   W Q K (l35_2g G k Ko j L op port (sv T') i (.sl 4 code) (IntKind.i64.wrap ((m:Int)+1)) x.nm x.st x.fu x.vars x.ports x.timers (x.ns.map Nd.v) x.es x.cs):=fun T' q1=>by
   rw[wrap_id (n:=(m:Int)+1) (by omega),q1]
   exact said_in hH hA hcl hT hKo j (m+1) (by omega) (by omega)
  unfold HasR at hH
  have hv':code[(m:Int).toNat]? =some (.agg [.int .i64 o,.int .i64 a,.int .i64 n',.str s]):=by rw[Int.toNat_natCast];exact hv
  (repeat(with_reducible apply U1))
  refine W_and (W_and (W_chk rfl (W_yes (by omega) (W_yes (by omega) ?_))))
  refine W_nk hv' ?_
  (repeat(with_reducible apply U1))
  refine W_bool (fun e=> ?_) (fun e=>next _ (by rw[step,e];rfl))
  refine W_bool (fun e2=> ?_) (fun e2=> ?_)
  ·(repeat(with_reducible apply U1))
   refine W_and (W_and (W_chk rfl (W_yes (by omega) (W_yes (by omega) ?_))))
   refine W_nk hv' ?_
   (repeat(with_reducible apply U1))
   refine W_call (hH _ _ _ (by omega)) ?_
   rintro _ rfl
   (repeat(with_reducible apply U1))
   refine W_not (W_bool (fun hb=>next _ (by rw[step,e,e2,hb];rfl)) (fun hb=> ?_))
   (repeat(with_reducible apply U1))
   refine W_and (W_and (W_chk rfl (W_yes (by omega) (W_yes (by omega) ?_))))
   refine W_nk hv' ?_
   (repeat(with_reducible apply U1))
   refine W_yes (by rw[sv_len];omega) ?_
   rw[sv_snoc]
   exact next _ (by rw[step,e,e2,hb];rfl)
  ·(repeat(with_reducible apply U1))
   refine W_and (W_and (W_chk rfl (W_yes (by omega) (W_yes (by omega) ?_))))
   refine W_nk hv' ?_
   (repeat(with_reducible apply U1))
   refine W_bool (fun e3=> ?_) (fun e3=>next _ (by rw[step,e,e2,e3];rfl))
   (repeat(with_reducible apply U1))
   refine W_and (W_and (W_chk rfl (W_yes (by omega) (W_yes (by omega) ?_))))
   refine W_nk hv' ?_
   (repeat(with_reducible apply U1))
   refine W_call (hH _ _ _ (by omega)) ?_
   rintro _ rfl
   (repeat(with_reducible apply U1))
   refine W_not (W_bool (fun hb=>next _ (by rw[step,e,e2,e3,hb];rfl)) (fun hb=> ?_))
   (repeat(with_reducible apply U1))
   refine W_and (W_and (W_chk rfl (W_yes (by omega) (W_yes (by omega) ?_))))
   refine W_nk hv' ?_
   (repeat(with_reducible apply U1))
   refine W_yes (by rw[sv_len];omega) ?_
   rw[sv_snoc]
   exact next _ (by rw[step,e,e2,e3,hb];rfl)
def SaidOK(G:ORC R):Prop:=∀(x:Srch) (L:List Int) (op port:Int) (K:LV→OV R),CodesA x.cs→L.length≤90→(∀c∈L,0≤c∧c<x.cs.length)→
 W (fun o=>o=[.sl 1 (sv (tellL x.cs (saidP op port) L))]) K
   (G 35 [.agg [.str x.nm,.int .i64 x.st,.int .i64 x.fu,.sl 1 x.vars,.sl 1 x.ports,.sl 1 x.timers,.sl 7 (x.ns.map Nd.v),.sl 6 x.es,.sl 1 x.cs],.sl 1 (ivs L),.int .i64 op,.int .i64 port] K)
theorem said_loop(hk:10000≤k)(hH:HasR G){x:Srch}{L:List Int}{op port:Int}(hA:CodesA x.cs)(hl:L.length≤90)(hL:∀c∈L,0≤c∧c<x.cs.length)
 {Ko:LV→OV R} (hKo:W Q K (Ko (sv (tellL x.cs (saidP op port) L)))):
 ∀(j m:Nat),L.length-m<j→m≤L.length→
  W Q K (l35_0g G k Ko j (ivs L) op port (sv (tellL x.cs (saidP op port) (L.take m))) m x.nm x.st x.fu x.vars x.ports x.timers (x.ns.map Nd.v) x.es x.cs)
 |0,m,h1,h2=>by omega
 |j+1,m,h1,h2=>by
  show W Q K (b35_0 G k (l35_0g G k Ko j) Ko (ivs L) op port (sv (tellL x.cs (saidP op port) (L.take m))) m x.nm x.st x.fu x.vars x.ports x.timers (x.ns.map Nd.v) x.es x.cs)
  unfold b35_0
  refine W_dec (fun h=> ?_) (fun h=>by rw[ivs_len]at h;rw[List.take_of_length_le (by omega)];exact hKo)
  rw[ivs_len]at h
  obtain⟨c,hc⟩:∃c,L[m]? =some c:=⟨_,List.getElem?_eq_getElem (by omega)⟩
  obtain⟨c0,c1⟩:=hL c (List.mem_of_getElem? hc)
  obtain⟨v,hv⟩:∃v,x.cs[c.toNat]? =some v:=⟨_,List.getElem?_eq_getElem (by omega)⟩
  obtain⟨code,rfl,a1,a2⟩:=hA v (List.mem_of_getElem? hv)
  have hlen:=tellL_len (p:=saidP op port) hA hL m h2
  refine W_at (by omega) (by rw[Int.toNat_natCast];exact ivs_at hc) (W_aI ?_)
  refine W_at c0 hv ?_
  (repeat(with_reducible apply U1))
  unfold l35_2
  refine said_in (Ko:=fun yl32 yi33 yi34 yl35 yi36 ys37 yi38 yi39 yl40 yl41 yl42 yl43 yl44 yl45=>l35_0g G k Ko j yl32 yi33 yi34 yl35 (IntKind.i64.wrap (yi36+1)) ys37 yi38 yi39 yl40 yl41 yl42 yl43 yl44 yl45) hH a1 a2 (T0:=tellL x.cs (saidP op port) (L.take m)) (by omega) ?_ k 0 (by omega) (by omega)
  show W Q K (l35_0g G k Ko j (ivs L) op port (sv (tellC (saidP op port) (tellL x.cs (saidP op port) (L.take m)) code)) (IntKind.i64.wrap ((m:Int)+1)) x.nm x.st x.fu x.vars x.ports x.timers (x.ns.map Nd.v) x.es x.cs)
  rw[wrap_id (n:=(m:Int)+1) (by omega),←tellL_snoc hv,←takeS hc]
  exact said_loop hk hH hA hl hL hKo j (m+1) (by omega) (by omega)
theorem said_ok(hk:10000≤k)(hH:HasR G):SaidOK (fun _ args (K:LV→OV R)=>g35 G k args K):=by
 intro x L op port K hA hl hL
 show W _ K (f35 G k x.nm x.st x.fu x.vars x.ports x.timers (x.ns.map Nd.v) x.es x.cs (ivs L) op port K)
 unfold f35 l35_0
 exact said_loop (Q:=fun o=>o=[.sl 1 (sv (tellL x.cs (saidP op port) L))]) (Ko:=fun y=>K [.sl 1 y]) hk hH hA hl hL (W_ret rfl) k 0 (by omega) (by omega)
def RisOK(G:ORC R):Prop:=∀(x:Srch) (l:List Int) (K:LV→OV R),l.length≤9000→x.cs.length≤90→W (fun o=>o=[.sl 1 (ivs (memN x.cs.length l))]) K
    (G 61 [.agg [.str x.nm,.int .i64 x.st,.int .i64 x.fu,.sl 1 x.vars,.sl 1 x.ports,.sl 1 x.timers,.sl 7 (x.ns.map Nd.v),.sl 6 x.es,.sl 1 x.cs],.sl 1 (ivs l)] K)
theorem ris_loop(hH:HasOK G){x:Srch}{l:List Int}(hl:l.length≤9000)(hcl:x.cs.length≤90){Ko:LV→OV R}(hKo:W Q K (Ko (ivs (memN x.cs.length l)))):
 ∀(j m:Nat),x.cs.length-m<j→m≤x.cs.length→W Q K (l61_0g G k Ko j (ivs l) (ivs (memN m l)) m x.nm x.st x.fu x.vars x.ports x.timers (x.ns.map Nd.v) x.es x.cs)
 |0,m,h1,h2=>by omega
 |j+1,m,h1,h2=>by
  show W Q K (b61_0 G k (l61_0g G k Ko j) Ko (ivs l) (ivs (memN m l)) m x.nm x.st x.fu x.vars x.ports x.timers (x.ns.map Nd.v) x.es x.cs)
  unfold b61_0
  refine W_dec (fun h=> ?_) (fun h=>by rw[show m=x.cs.length by omega];exact hKo)
  have next:=ris_loop hH hl hcl hKo j (m+1) (by omega) (by omega)
  rw[memN_succ]at next
  have hml:=memN_len (n:=m) (s:=l)
  have hH':=hH
  unfold HasOK at hH'
  refine W_call (hH' l m _ hl) ?_
  rintro _ rfl
  (repeat(with_reducible apply U1))
  rw[wrap_id (n:=(m:Int)+1) (by omega)]
  refine W_bool (fun hb=> ?_) (fun hb=> ?_)
  ·refine W_yes (by rw[ivs_len];omega) ?_
   rw[hb,if_pos rfl,ivs_app]at next
   exact next
  ·rw[hb,if_neg (by simp),List.append_nil]at next
   exact next
theorem ris_ok(hk:10000≤k)(hH:HasOK G):RisOK (fun _ args (K:LV→OV R)=>g61 G k args K):=by
 intro x l K hl hcl
 show W _ K (f61 G k x.nm x.st x.fu x.vars x.ports x.timers (x.ns.map Nd.v) x.es x.cs (ivs l) K)
 unfold f61 l61_0
 exact ris_loop (Q:=fun o=>o=[.sl 1 (ivs (memN x.cs.length l))]) (Ko:=fun y=>K [.sl 1 y]) hH hl hcl (W_ret rfl) k 0 (by omega) (by omega)
end
section
variable {R : Type} {G : ORC R} {k : Nat} {K : LV → OV R} {Q : LV → Prop}
def rawN(ns:List Nd)(dom:Int):Nat→List Int→List Int
 |0,C=>C
 |i+1,C=>match ns[i]? with
  |some n=>if(i:Int)≠dom∧inN ns i dom=true then rawN ns dom i C++[n.entry,n.exit]else rawN ns dom i C
  |none=>rawN ns dom i C
theorem rawN_at{ns:List Nd}{dom:Int}{i:Nat}{C:List Int}{n:Nd}(h:ns[i]? =some n):rawN ns dom (i+1) C=if(i:Int)≠dom∧inN ns i dom=true then rawN ns dom i C++[n.entry,n.exit]else rawN ns dom i C:=by
 show(match ns[i]? with|some n=>_|none=>_)=_
 rw[h]
theorem rawN_len{ns:List Nd}{dom:Int}:∀{i:Nat} {C:List Int},(rawN ns dom i C).length≤C.length+2*i
 |0,C=>Nat.le_refl _
 |i+1,C=>by
  have ih:=rawN_len (ns:=ns) (dom:=dom) (i:=i) (C:=C)
  cases h:ns[i]? with
  |none=>
   have e:rawN ns dom (i+1) C=rawN ns dom i C:=by
    show(match ns[i]? with|some n=>_|none=>_)=_
    rw[h]
   rw[e];omega
  |some n=>
   rw[rawN_at h]
   split
   ·rw[List.length_append,List.length_cons,List.length_cons,List.length_nil];omega
   ·omega
theorem mem_rawN{ns:List Nd}{N:Nat}{dom:Int}{y:Int}(h0:0≤y)(h1:y<N):∀{i:Nat} {C D:List Int},(y∈C↔y∈D)→(y∈rawN ns dom i C↔y∈nodC ns N dom i D)
 |0,C,D,h=>h
 |i+1,C,D,h=>by
  have ih:=mem_rawN (ns:=ns) (N:=N) (dom:=dom) h0 h1 (i:=i) h
  cases e:ns[i]? with
  |none=>
   have e1:rawN ns dom (i+1) C=rawN ns dom i C:=by
    show(match ns[i]? with|some n=>_|none=>_)=_
    rw[e]
   have e2:nodC ns N dom (i+1) D=nodC ns N dom i D:=by
    show(match ns[i]? with|some n=>_|none=>_)=_
    rw[e]
   rw[e1,e2];exact ih
  |some n=>
   rw[rawN_at e,nodC_at e]
   split
   ·rw[List.mem_append,ih,mem_putC,mem_putC]
    simp only[List.mem_cons,List.not_mem_nil,or_false]
    constructor
    ·rintro(q|rfl|rfl)
     ·exact .inl (.inl q)
     ·exact .inl (.inr ⟨rfl,h0,h1⟩)
     ·exact .inr ⟨rfl,h0,h1⟩
    ·rintro((q|q)|q)
     ·exact .inl q
     ·exact .inr (.inl q.1)
     ·exact .inr (.inr q.1)
   ·exact ih
def edC(es:LV)(ns:List Nd)(C:List Int)(i:Int):List Int:=match es[i.toNat]? with
 |some (.agg [_,_,.int _ c,_,.int _ f,_])=>rawN ns c ns.length (C++[f])
 |_=>C
theorem edC_at{es:LV}{ns:List Nd}{C:List Int}{i:Int}{a b c d f:Int}{s:ByteArray}(h:es[i.toNat]? =some (edV a b c d f s)):edC es ns C i=rawN ns c ns.length (C++[f]):=by
 unfold edC;rw[h];rfl
def rawL(es:LV)(ns:List Nd)(E:List Int):List Int:=E.foldl (edC es ns) []
theorem rawL_snoc{es:LV}{ns:List Nd}{E:List Int}{i:Int}:rawL es ns (E++[i])=edC es ns (rawL es ns E) i:=by unfold rawL;rw[List.foldl_append];rfl
theorem rawL_len{es:LV}{ns:List Nd}(hes:EdsS es)(hn:ns.length≤30){E:List Int}(hE:∀i∈E,0≤i∧i<es.length):∀m,m≤E.length→(rawL es ns (E.take m)).length≤m*61:=by
 refine take_all _ (by simp[rawL]) fun m i hi ih=> ?_
 obtain⟨i0,i1⟩:=hE i (List.mem_of_getElem? hi)
 obtain⟨e,he⟩:∃e,es[i.toNat]? =some e:=⟨_,List.getElem?_eq_getElem (by omega)⟩
 obtain⟨a,b,c,d,f,s,rfl⟩:=hes e (List.mem_of_getElem? he)
 rw[takeS hi,rawL_snoc,edC_at he]
 have:=rawN_len (ns:=ns) (dom:=c) (i:=ns.length) (C:=rawL es ns (E.take m)++[f])
 rw[List.length_append,List.length_singleton]at this
 omega
theorem mem_rawN'{ns:List Nd}{dom y:Int}:∀{i:Nat} {C:List Int},y∈rawN ns dom i C↔y∈C∨y∈rawN ns dom i []
 |0,C=>by simp[rawN]
 |i+1,C=>by
  have ih:=mem_rawN' (ns:=ns) (dom:=dom) (y:=y) (i:=i) (C:=C)
  cases h:ns[i]? with
  |none=>
   have e:∀D,rawN ns dom (i+1) D=rawN ns dom i D:=fun D=>by
    show(match ns[i]? with|some n=>_|none=>_)=_
    rw[h]
   rw[e,e];exact ih
  |some n=>
   rw[rawN_at h,rawN_at h]
   split
   ·rw[List.mem_append,List.mem_append,ih,or_assoc]
   ·exact ih
theorem mem_rawL{es:LV}{ns:List Nd}(hes:EdsS es){N:Nat}{y:Int}(h0:0≤y)(h1:y<N){E:List Int}(hE:∀i∈E,0≤i∧i<es.length):
 y∈rawL es ns E↔∃i∈E,∃a b c d f s,es[i.toNat]? =some (edV a b c d f s)∧y∈edgC ns N c f []:=by
 have:=take_all (l:=E) (fun m=>y∈rawL es ns (E.take m)↔∃i∈E.take m,∃a b c d f s,es[i.toNat]? =some (edV a b c d f s)∧y∈edgC ns N c f []) ⟨fun q=>(by cases q),fun⟨_,q,_⟩=>(by cases q)⟩ (fun m i hi ih=> ?_) E.length (Nat.le_refl _)
 ·rw[List.take_length]at this;exact this
 obtain⟨i0,i1⟩:=hE i (List.mem_of_getElem? hi)
 obtain⟨e,he⟩:∃e,es[i.toNat]? =some e:=⟨_,List.getElem?_eq_getElem (by omega)⟩
 obtain⟨a,b,c,d,f,s,rfl⟩:=hes e (List.mem_of_getElem? he)
 have key:y∈rawN ns c ns.length ([]++[f])↔y∈edgC ns N c f []:=by
  unfold edgC
  refine mem_rawN h0 h1 ?_
  rw[mem_putC]
  simp only[List.nil_append,List.mem_singleton,List.not_mem_nil,false_or]
  exact⟨fun q=>⟨q,by omega,by omega⟩,fun q=>q.1⟩
 rw[takeS hi,rawL_snoc,edC_at he,mem_rawN',List.mem_append,ih]
 have k2:y∈rawN ns c ns.length ([]++[f])↔y∈[f]∨y∈rawN ns c ns.length []:=by rw[mem_rawN'];simp
 constructor
 ·rintro((⟨i',h5,h6⟩|h5)|h5)
  ·exact⟨i',List.mem_append.2 (.inl h5),h6⟩
  ·exact⟨i,List.mem_append.2 (.inr (by simp)),a,b,c,d,f,s,he,key.1 (k2.2 (.inl h5))⟩
  ·exact⟨i,List.mem_append.2 (.inr (by simp)),a,b,c,d,f,s,he,key.1 (k2.2 (.inr h5))⟩
 ·rintro⟨i',h5,h6⟩
  rcases List.mem_append.1 h5 with h5|h5
  ·exact .inl (.inl ⟨i',h5,h6⟩)
  ·rw[List.mem_singleton]at h5
   subst h5
   obtain⟨a',b',c',d',f',s',h7,h8⟩:=h6
   rw[he]at h7
   injection h7 with h7
   unfold edV at h7
   injection h7 with h7
   injection h7 with _ h7
   injection h7 with _ h7
   injection h7 with e3 h7
   injection h7 with _ h7
   injection h7 with e5 _
   injection e3 with _ e3
   injection e5 with _ e5
   rw[←e3,←e5]at h8
   rcases k2.1 (key.2 h8)with q|q
   ·exact .inl (.inr q)
   ·exact .inr q
def CodsOK(G:ORC R):Prop:=∀(x:Srch) (E:List Int) (K:LV→OV R),EdsS x.es→x.ns.length≤30→E.length≤100→(∀i∈E,0≤i∧i<x.es.length)→x.cs.length≤90→W (fun o=>o=[.sl 1 (ivs (memN x.cs.length (rawL x.es x.ns E)))]) K
    (G 62 [.agg [.str x.nm,.int .i64 x.st,.int .i64 x.fu,.sl 1 x.vars,.sl 1 x.ports,.sl 1 x.timers,.sl 7 (x.ns.map Nd.v),.sl 6 x.es,.sl 1 x.cs],.sl 1 (ivs E)] K)
theorem cods_in(hI:InOK G){x:Srch}(hn:x.ns.length≤30){L:LV}{C:List Int}(hC:C.length≤8000){i a b c d f:Int}{s:ByteArray}
 {Ko:LV→LV→Int→ByteArray→Int→Int→LV→LV→LV→LV→LV→LV→OV R}
 (hKo:W Q K (Ko L (ivs (rawN x.ns c x.ns.length C)) i x.nm x.st x.fu x.vars x.ports x.timers (x.ns.map Nd.v) x.es x.cs)):
 ∀(j m:Nat),x.ns.length-m<j→m≤x.ns.length→W Q K (l62_2g G k Ko j L (ivs (rawN x.ns c m C)) i m x.nm x.st x.fu x.vars x.ports x.timers (x.ns.map Nd.v) x.es x.cs a b c d f s)
 |0,m,h1,h2=>by omega
 |j+1,m,h1,h2=>by
  show W Q K (b62_2 G k (l62_2g G k Ko j) Ko L (ivs (rawN x.ns c m C)) i m x.nm x.st x.fu x.vars x.ports x.timers (x.ns.map Nd.v) x.es x.cs a b c d f s)
  unfold b62_2
  refine W_dec (fun h=> ?_) (fun h=>by rw[List.length_map]at h;rw[show m=x.ns.length by omega];exact hKo)
  rw[List.length_map]at h
  obtain⟨n,hn'⟩:∃n,x.ns[m]? =some n:=⟨_,List.getElem?_eq_getElem (by omega)⟩
  have hv:(x.ns.map Nd.v)[(m:Int).toNat]? =some n.v:=by rw[List.getElem?_map,Int.toNat_natCast,hn'];rfl
  have hlen:=rawN_len (ns:=x.ns) (dom:=c) (i:=m) (C:=C)
  have next:∀D,D=rawN x.ns c (m+1) C→W Q K (l62_2g G k Ko j L (ivs D) i (IntKind.i64.wrap ((m:Int)+1)) x.nm x.st x.fu x.vars x.ports x.timers (x.ns.map Nd.v) x.es x.cs a b c d f s):=fun D hD=>by
   rw[wrap_id (n:=(m:Int)+1) (by omega),hD]
   exact cods_in hI hn hC hKo j (m+1) (by omega) (by omega)
  rw[rawN_at hn']at next
  unfold InOK at hI
  refine W_bool (fun e1=> ?_) (fun e1=>next _ ?_)
  ·refine W_call (hI x.ns m c _) ?_
   rintro _ rfl
   (repeat(with_reducible apply U1))
   refine W_bool (fun e2=> ?_) (fun e2=>next _ ?_)
   ·refine W_at (by omega) hv (W_nd7 ?_)
    (repeat(with_reducible apply U1))
    refine W_at (by omega) hv (W_nd7 ?_)
    (repeat(with_reducible apply U1))
    refine W_yes (by rw[ivs_len];omega) ?_
    have:=next (rawN x.ns c m C++[n.entry,n.exit]) (by rw[if_pos ⟨by simpa using e1,e2⟩])
    have e:ivs (rawN x.ns c m C)++[V.int .i64 n.entry,V.int .i64 n.exit]=ivs (rawN x.ns c m C++[n.entry,n.exit]):=by unfold ivs;rw[List.map_append];rfl
    rw[e]
    exact this
   ·rw[if_neg (by rw[e2];simp)]
  ·rw[if_neg (fun q=>q.1 (by simpa using e1))]
theorem cods_loop(hk:10000≤k)(hI:InOK G){x:Srch}(hes:EdsS x.es)(hn:x.ns.length≤30){E:List Int}(hEl:E.length≤100)(hE:∀i∈E,0≤i∧i<x.es.length)
 {Ko:LV→ByteArray→Int→Int→LV→LV→LV→LV→LV→LV→OV R} (hKo:W Q K (Ko (ivs (rawL x.es x.ns E)) x.nm x.st x.fu x.vars x.ports x.timers (x.ns.map Nd.v) x.es x.cs)):
 ∀(j m:Nat),E.length-m<j→m≤E.length→W Q K (l62_0g G k Ko j (ivs E) (ivs (rawL x.es x.ns (E.take m))) m x.nm x.st x.fu x.vars x.ports x.timers (x.ns.map Nd.v) x.es x.cs)
 |0,m,h1,h2=>by omega
 |j+1,m,h1,h2=>by
  show W Q K (b62_0 G k (l62_0g G k Ko j) Ko (ivs E) (ivs (rawL x.es x.ns (E.take m))) m x.nm x.st x.fu x.vars x.ports x.timers (x.ns.map Nd.v) x.es x.cs)
  unfold b62_0
  refine W_dec (fun h=> ?_) (fun h=>by rw[ivs_len]at h;rw[List.take_of_length_le (by omega)];exact hKo)
  rw[ivs_len]at h
  obtain⟨i,hi⟩:∃i,E[m]? =some i:=⟨_,List.getElem?_eq_getElem (by omega)⟩
  obtain⟨i0,i1⟩:=hE i (List.mem_of_getElem? hi)
  obtain⟨e,he⟩:∃e,x.es[i.toNat]? =some e:=⟨_,List.getElem?_eq_getElem (by omega)⟩
  obtain⟨a,b,c,d,f,s,rfl⟩:=hes e (List.mem_of_getElem? he)
  have hlen:=rawL_len hes hn hE m h2
  refine W_at (by omega) (by rw[Int.toNat_natCast];exact ivs_at hi) (W_aI ?_)
  have he2:=he
  unfold edV at he2
  refine W_at i0 he2 ?_
  (repeat(with_reducible apply U1))
  refine W_yes (by rw[ivs_len];omega) ?_
  rw[show ivs (rawL x.es x.ns (E.take m))++[V.int .i64 f]=ivs (rawL x.es x.ns (E.take m)++[f])by rw[ivs_app];rfl]
  unfold l62_2
  refine cods_in hI hn (C:=rawL x.es x.ns (E.take m)++[f]) (by rw[List.length_append,List.length_singleton];omega) ?_ k 0 (by omega) (by omega)
  show W Q K (l62_0g G k Ko j (ivs E) (ivs (rawN x.ns c x.ns.length (rawL x.es x.ns (E.take m)++[f]))) (IntKind.i64.wrap ((m:Int)+1)) x.nm x.st x.fu x.vars x.ports x.timers (x.ns.map Nd.v) x.es x.cs)
  rw[wrap_id (n:=(m:Int)+1) (by omega),←edC_at he,←rawL_snoc,←takeS hi]
  exact cods_loop hk hI hes hn hEl hE hKo j (m+1) (by omega) (by omega)
theorem cods_ok(hk:10000≤k)(hI:InOK G)(hR:RisOK G):CodsOK (fun _ args (K:LV→OV R)=>g62 G k args K):=by
 intro x E K hes hn hEl hE hcl
 show W _ K (f62 G k x.nm x.st x.fu x.vars x.ports x.timers (x.ns.map Nd.v) x.es x.cs (ivs E) K)
 unfold f62 l62_0
 refine cods_loop hk hI hes hn hEl hE ?_ k 0 (by omega) (by omega)
 have hlen:=rawL_len hes hn hE E.length (Nat.le_refl _)
 rw[List.take_length]at hlen
 unfold RisOK at hR
 refine W_call (hR x _ _ (by omega) hcl) ?_
 rintro _ rfl
 (repeat(with_reducible apply U1))
 exact W_ret rfl
end
end Go.Proofs.YtnimfaaefdlepaaGreat.Vm
