/- Functions of the program, told by the machine of values, and what they answer: a part. -/
import Derived.Test.YtmoinimakjddiaaDoorSsV3
import Derived.Test.YtmoinimakjddiaaDoorProg
import Derived.KernelRfl
import Derived.Shelf.Spec.TrailingZeros
import Derived.Test.YtmoinimakjddiaaDoorSsV4
import Derived.RangeFuncBox
import Derived.RangeFuncLeaves
import Derived.Shelf.Abstract
import Derived.Shelf.RegionOpen
import Derived.WalkKit
import Derived.OwnWalkIn
import Derived.TacticsInMore
import Derived.LoopNIn
import Derived.LoopIn
import Derived.Maps.AppendAt
open Go Go.VM
set_option linter.unusedVariables false
set_option maxRecDepth 100000
namespace Go.Proofs.YtmoinimakjddiaaDoor.Vm
def T2:TyD:={under:=.int .i64,size:=1,bytes:=8,zv:=[((.int .i64 (0:Int)),.pr)],leafs:=[.int .i64],deep:=false}
def T3:TyD:={under:=.int .i64,size:=1,bytes:=8,zv:=[((.int .i64 (0:Int)),.pr)],leafs:=[.int .i64],deep:=false}
def T4:TyD:={under:=.bool,size:=1,bytes:=1,zv:=[((.bool false),.pr)],leafs:=[.bool],deep:=false}
def T5:TyD:={under:=.int .u8,size:=1,bytes:=1,zv:=[((.int .u8 (0:Int)),.pr)],leafs:=[.int .u8],deep:=false}
def T22:TyD:={under:=.slice 3,size:=1,bytes:=24,zv:=[((.sl 1 []),.own true)],leafs:=[.slice 3],deep:=false}
def T25:TyD:={under:=.int .u64,size:=1,bytes:=8,zv:=[((.int .u64 (0:Int)),.pr)],leafs:=[.int .u64],deep:=false}
def T26:TyD:={under:=.array 2 25,size:=2,bytes:=16,zv:=[((.int .u64 (0:Int)),.pr),((.int .u64 (0:Int)),.pr)],leafs:=[.int .u64,.int .u64],deep:=false,cmp:=true}
def T28:TyD:={under:=.struct [(0,26)],size:=2,bytes:=16,zv:=[((.int .u64 (0:Int)),.pr),((.int .u64 (0:Int)),.pr)],leafs:=[.int .u64,.int .u64],deep:=false,cmp:=true}
def T38:TyD:={under:=.slice 4,size:=1,bytes:=24,zv:=[((.sl 1 []),.own true)],leafs:=[.slice 4],deep:=false}
def T49:TyD:={under:=.array 64 5,size:=64,bytes:=64,zv:=[((.int .u8 (0:Int)),.pr),((.int .u8 (0:Int)),.pr),((.int .u8 (0:Int)),.pr),((.int .u8 (0:Int)),.pr),((.int .u8 (0:Int)),.pr),((.int .u8 (0:Int)),.pr),((.int .u8 (0:Int)),.pr),((.int .u8 (0:Int)),.pr),((.int .u8 (0:Int)),.pr),((.int .u8 (0:Int)),.pr),((.int .u8 (0:Int)),.pr),((.int .u8 (0:Int)),.pr),((.int .u8 (0:Int)),.pr),((.int .u8 (0:Int)),.pr),((.int .u8 (0:Int)),.pr),((.int .u8 (0:Int)),.pr),((.int .u8 (0:Int)),.pr),((.int .u8 (0:Int)),.pr),((.int .u8 (0:Int)),.pr),((.int .u8 (0:Int)),.pr),((.int .u8 (0:Int)),.pr),((.int .u8 (0:Int)),.pr),((.int .u8 (0:Int)),.pr),((.int .u8 (0:Int)),.pr),((.int .u8 (0:Int)),.pr),((.int .u8 (0:Int)),.pr),((.int .u8 (0:Int)),.pr),((.int .u8 (0:Int)),.pr),((.int .u8 (0:Int)),.pr),((.int .u8 (0:Int)),.pr),((.int .u8 (0:Int)),.pr),((.int .u8 (0:Int)),.pr),((.int .u8 (0:Int)),.pr),((.int .u8 (0:Int)),.pr),((.int .u8 (0:Int)),.pr),((.int .u8 (0:Int)),.pr),((.int .u8 (0:Int)),.pr),((.int .u8 (0:Int)),.pr),((.int .u8 (0:Int)),.pr),((.int .u8 (0:Int)),.pr),((.int .u8 (0:Int)),.pr),((.int .u8 (0:Int)),.pr),((.int .u8 (0:Int)),.pr),((.int .u8 (0:Int)),.pr),((.int .u8 (0:Int)),.pr),((.int .u8 (0:Int)),.pr),((.int .u8 (0:Int)),.pr),((.int .u8 (0:Int)),.pr),((.int .u8 (0:Int)),.pr),((.int .u8 (0:Int)),.pr),((.int .u8 (0:Int)),.pr),((.int .u8 (0:Int)),.pr),((.int .u8 (0:Int)),.pr),((.int .u8 (0:Int)),.pr),((.int .u8 (0:Int)),.pr),((.int .u8 (0:Int)),.pr),((.int .u8 (0:Int)),.pr),((.int .u8 (0:Int)),.pr),((.int .u8 (0:Int)),.pr),((.int .u8 (0:Int)),.pr),((.int .u8 (0:Int)),.pr),((.int .u8 (0:Int)),.pr),((.int .u8 (0:Int)),.pr),((.int .u8 (0:Int)),.pr)],leafs:=[.int .u8,.int .u8,.int .u8,.int .u8,.int .u8,.int .u8,.int .u8,.int .u8,.int .u8,.int .u8,.int .u8,.int .u8,.int .u8,.int .u8,.int .u8,.int .u8,.int .u8,.int .u8,.int .u8,.int .u8,.int .u8,.int .u8,.int .u8,.int .u8,.int .u8,.int .u8,.int .u8,.int .u8,.int .u8,.int .u8,.int .u8,.int .u8,.int .u8,.int .u8,.int .u8,.int .u8,.int .u8,.int .u8,.int .u8,.int .u8,.int .u8,.int .u8,.int .u8,.int .u8,.int .u8,.int .u8,.int .u8,.int .u8,.int .u8,.int .u8,.int .u8,.int .u8,.int .u8,.int .u8,.int .u8,.int .u8,.int .u8,.int .u8,.int .u8,.int .u8,.int .u8,.int .u8,.int .u8,.int .u8],deep:=false}
def T50:TyD:={under:=.int .u64,size:=1,bytes:=8,zv:=[((.int .u64 (0:Int)),.pr)],leafs:=[.int .u64],deep:=false}
def S3:Sig:={params:=[.val .ro (.sl 1),.val .pr (.int .u8)],boxes:=[],outs:=[(.pr,.bool)]}
def S4:Sig:={params:=[.val .ro (.sl 1),.val .ro (.sl 1)],boxes:=[],outs:=[(.pr,.bool)]}
def S5:Sig:={params:=[.val .ro (.sl 1),.val .ro (.sl 1)],boxes:=[],outs:=[(.pr,.bool)]}
def S6:Sig:={params:=[.val .ro (.sl 1),.val .ro (.sl 1),.val .ro (.sl 1)],boxes:=[],outs:=[(.pr,.bool)]}
def S7:Sig:={params:=[.val .ro (.sl 1),.val .ro (.sl 1),.val .pr (.int .i64)],boxes:=[],outs:=[(.pr,.bool)]}
def S8:Sig:={params:=[.val .ro (.sl 1)],boxes:=[],outs:=[(.pr,.bool)]}
def S9:Sig:={params:=[],boxes:=[],outs:=[(.pr,.bool)]}
def S10:Sig:={params:=[.val .ro (.sl 1)],boxes:=[],outs:=[(.ro,.agg [.int .u64,.int .u64])]}
def S11:Sig:={params:=[.val .ro (.agg [.int .u64,.int .u64])],boxes:=[],outs:=[(.ro,.any)]}
def S12:Sig:={params:=[.val .ro (.agg [.int .u64,.int .u64])],boxes:=[],outs:=[((.own true),.sl 1)]}
def S13:Sig:={params:=[.val .ro (.sl 1),.val .ro (.sl 1)],boxes:=[],outs:=[(.pr,.bool)]}
def S14:Sig:={params:=[.val .ro (.sl 1)],boxes:=[],outs:=[(.ro,.sl 1)]}
def S15:Sig:={params:=[.val .ro (.agg [.int .u64,.int .u64]),.val .ro (.agg [.int .u64,.int .u64])],boxes:=[],outs:=[(.pr,.bool)]}
def S16:Sig:={params:=[.val .ro (.agg [.int .u64,.int .u64]),.val .pr (.int .i64)],boxes:=[],outs:=[(.ro,.agg [.int .u64,.int .u64])]}
def S17:Sig:={params:=[.val .ro (.sl 1),.val .ro (.sl 1)],boxes:=[],outs:=[(.ro,.sl 1)]}
def S18:Sig:={params:=[.val .ro (.agg [.int .u64,.int .u64]),.val .pr (.int .i64)],boxes:=[],outs:=[(.ro,.agg [.int .u64,.int .u64])]}
def S19:Sig:={params:=[.val .ro (.sl 1),.val .ro (.sl 1)],boxes:=[],outs:=[(.ro,.sl 1)]}
def S20:Sig:={params:=[.val .ro (.agg [.int .u64,.int .u64]),.val .ro (.agg [.int .u64,.int .u64])],boxes:=[],outs:=[(.ro,.agg [.int .u64,.int .u64])]}
def S21:Sig:={params:=[.val .ro (.agg [.int .u64,.int .u64]),.val .ro (.agg [.int .u64,.int .u64])],boxes:=[],outs:=[(.ro,.agg [.int .u64,.int .u64])]}
def S22:Sig:={params:=[.val .ro (.agg [.int .u64,.int .u64]),.val .ro (.agg [.int .u64,.int .u64])],boxes:=[],outs:=[(.ro,.agg [.int .u64,.int .u64])]}
def S23:Sig:={params:=[.val .ro (.agg [.int .u64,.int .u64])],boxes:=[],outs:=[(.pr,.int .i64)]}
def S24:Sig:={params:=[.val .ro (.agg [.int .u64,.int .u64]),.val .pr (.int .i64)],boxes:=[],outs:=[(.pr,.bool)]}
def S25:Sig:={params:=[.val .ro (.sl 1),.val .pr (.int .i64)],boxes:=[],outs:=[(.pr,.bool)]}
def S26:Sig:={params:=[.val .ro (.sl 1),.val .ro (.sl 1)],boxes:=[],outs:=[(.ro,.sl 1)]}
def S28:Sig:={params:=[.val .pr (.int .u64)],boxes:=[],outs:=[(.pr,.int .i64)]}
def S29:Sig:={params:=[.val .pr (.int .i64)],boxes:=[],outs:=[(.pr,.bool)]}
def S30:Sig:={params:=[.val .pr (.int .u64)],boxes:=[],outs:=[(.pr,.int .i64)]}
def TAB:Tab:={tys:=[(2,T2),(3,T3),(4,T4),(5,T5),(22,T22),(25,T25),(26,T26),(28,T28),(38,T38),(49,T49),(50,T50)],sigs:=[(3,S3),(4,S4),(5,S5),(6,S6),(7,S7),(8,S8),(9,S9),(10,S10),(11,S11),(12,S12),(13,S13),(14,S14),(15,S15),(16,S16),(17,S17),(18,S18),(19,S19),(20,S20),(21,S21),(22,S22),(23,S23),(24,S24),(25,S25),(26,S26),(28,S28),(29,S29),(30,S30)],takes:=[(12,0,1),(12,5,1)],varis:=[],tab:=some (0,Lib.deBruijn64tab.map fun n:Nat=>.int .u8 (n:Int))}
theorem TAB_chk:TAB.chk Tryd.prog=true:=by kernel_rfl
theorem MO:Tryd.prog.follows .mixedOrders=true:=by kernel_rfl
abbrev TL {R:Type} (f:FuncId) (g:LV→(LV→OV R)→OV R):Prop:=Tells Tryd.prog TAB f g
abbrev J0:List Kd:=[.sl 1,.sl 1]
def B0:List PCell:=[.var (.int .u64) .pr false,.var (.int .u64) .pr false]
abbrev J1:List Kd:=[]
abbrev J2:List Kd:=[.bool]
abbrev J3:List Kd:=[.sl 1,.sl 1,.sl 1,.int .i64,.int .u64,.int .u64]
abbrev J5:List Kd:=[.sl 1,.sl 1,.int .i64]
abbrev J6:List Kd:=[.sl 1]
abbrev J7:List Kd:=[.int .u64,.int .u64,.int .u64,.int .u64]
abbrev J8:List Kd:=[.sl 1,.int .i64,.int .i64,.int .u64,.int .u64,.int .u64,.int .u64]
abbrev J10:List Kd:=[.agg [.int .u64,.int .u64],.int .i64]
abbrev J11:List Kd:=[.sl 1,.sl 1,.sl 1,.int .i64]
abbrev J12:List Kd:=[.int .i64]
abbrev J15:List Kd:=[.sl 1,.int .i64,.int .i64]
abbrev J16:List Kd:=[.sl 1,.int .i64]
set_option maxHeartbeats 4000000
def f18{R:Type}(G:ORC R)(k:Nat)(a b c:Int)(K:LV→OV R):OV R:=
 (G 29 [.int .i64 c] fun d=>uB d fun d e=>unNil e (bif d then(bif((decide (0≤(IntKind.i64.wrap (Int.tdiv c 64))))&&(decide ((IntKind.i64.wrap (Int.tdiv c 64))<2)))then(nthK [.int .u64 a,.int .u64 b] (Int.toNat (IntKind.i64.wrap (Int.tdiv c 64))) fun d=>bif(decide (0≤(Int.tmod c 64)))then(aI .u64 d fun d=>bif((decide (0≤(IntKind.i64.wrap (Int.tdiv c 64))))&&(decide ((IntKind.i64.wrap (Int.tdiv c 64))<2)))then(aI .u64 (bif(0==(Int.toNat (IntKind.i64.wrap (Int.tdiv c 64))))then(.int .u64 (bits .or .u64 d (IntKind.u64.wrap (1*2^(min (Int.toNat (Int.tmod c 64)) IntKind.u64.bits)))))else(.int .u64 a)) fun e=>aI .u64 (bif(1==(Int.toNat (IntKind.i64.wrap (Int.tdiv c 64))))then(.int .u64 (bits .or .u64 d (IntKind.u64.wrap (1*2^(min (Int.toNat (Int.tmod c 64)) IntKind.u64.bits)))))else(.int .u64 b)) fun c=>K [.agg [.int .u64 e,.int .u64 c]])else none)else none)else none)else(K [.agg [.int .u64 a,.int .u64 b]])))
abbrev g18 {R:Type} (G:ORC R) (k:Nat):LV→(LV→OV R)→OV R:=gF J10 (f18 G k)
theorem s18{R:Type}{G:ORC R}{k:Nat}(hG:Sound Tryd.prog TAB G):TL 18 (g18 G k):=
 gG J10 (by kernel_rfl) (callF_sound (L:=fun _ _ _=>none) (f:=18) TAB_chk MO hG Tryd.func18 (sg:=S18) (by kernel_rfl) (by kernel_rfl) (las [] (by kernel_rfl) trivial))
def f29{R:Type}(G:ORC R)(k:Nat)(a:Int)(K:LV→OV R):OV R:=
 (bif(decide (a≥0))then(K [.bool (decide (a<128))])else(K [.bool false]))
abbrev g29 {R:Type} (G:ORC R) (k:Nat):LV→(LV→OV R)→OV R:=gF J12 (f29 G k)
theorem s29{R:Type}{G:ORC R}{k:Nat}(hG:Sound Tryd.prog TAB G):TL 29 (g29 G k):=
 gG J12 (by kernel_rfl) (callF_sound (L:=fun _ _ _=>none) (f:=29) TAB_chk MO hG Tryd.func29 (sg:=S29) (by kernel_rfl) (by kernel_rfl) (las [] (by kernel_rfl) trivial))
def P10_0h:Pat:={tmps:=unds [pU,pU,pS 2,pS 3,pU,pU,pL,pI,pI] 8 [],boxes:=nons [none,none,some B0,some B0] 13 []}
def P10_0x:Pat:={tmps:=unds [pU,pU,pS 2,pS 3] 13 [],boxes:=nons [none,none,some B0,some B0] 13 []}
def b10_0{R:Type}(G:ORC R)(k:Nat)(X:Cu R J8)(Ko:Cu R J7)(a:LV)(b c d e f g:Int):OV R:=
 (bif(decide (c<b))then(bif((decide (0≤c))&&(decide (c<(a.length:Int))))then(nthK a (Int.toNat c) fun h=>aI .i64 h fun h=>G 18 [.agg [.int .u64 f,.int .u64 g],.int .i64 h] fun h=>uA h fun h i=>uI .u64 h fun h l=>uI .u64 l fun l m=>unNil m (unNil i (X a b (IntKind.i64.wrap (c+1)) d e h l)))else none)else(Ko d e f g))
def l10_0g{R:Type}(G:ORC R)(k:Nat)(Ko:Cu R J7)(j:Nat):Cu R J8:=lup J8 (fun X=>b10_0 G k X Ko) j
def l10_0{R:Type}(G:ORC R)(k:Nat)(a:LV)(b c d e f g:Int)(Ko:Cu R J7):OV R:=l10_0g G k Ko k a b c d e f g
def L10{R:Type}(G:ORC R)(k:Nat):Nat→St→(Ex→St→OV R)→OV R
 |0,S,K=>P10_0h.mat S fun vs=>uc J8 (l10_0g G k (koX J7 P10_0x K) k) vs none
 |_,_,_=>none
def f10{R:Type}(G:ORC R)(k:Nat)(a:LV)(K:LV→OV R):OV R:=
 (l10_0 G k a (a.length:Int) 0 0 0 0 0 (fun a b c d=>K [.agg [.int .u64 c,.int .u64 d]]))
abbrev g10 {R:Type} (G:ORC R) (k:Nat):LV→(LV→OV R)→OV R:=gF J6 (f10 G k)
theorem s10{R:Type}{G:ORC R}{k:Nat}(hG:Sound Tryd.prog TAB G):TL 10 (g10 G k):=
 gG J6 (by kernel_rfl) (callF_sound (L:=L10 G k) (f:=10) TAB_chk MO hG Tryd.func10 (sg:=S10) (by kernel_rfl) (by kernel_rfl) (las [0] (by kernel_rfl) ⟨loopIs J8 k (fun K X=>b10_0 G k X (koX J7 P10_0x K)) P10_0h P10_0x default (by kernel_rfl) (by kernel_rfl) (by kernel_rfl) (fun K X=>by kernel_rfl) (fun S K=>by kernel_rfl),trivial⟩))
def P25_0h:Pat:={tmps:=unds [pL,pI,pU,pU,pU,pI] 12 [],boxes:=nons [] 18 []}
def P25_0x:Pat:={tmps:=unds [] 18 [],boxes:=nons [] 18 []}
def P25_0r:Pat:={tmps:=unds [pU,pU,pU,pU,.var .bool .pr] 13 [],boxes:=nons [] 18 []}
def b25_0{R:Type}(G:ORC R)(k:Nat)(X:Cu R J15)(Ko:Cu R J1)(Kr:Cu R J2)(a:LV)(b c:Int):OV R:=
 (bif(decide (c<(a.length:Int)))then(bif((decide (0≤c))&&(decide (c<(a.length:Int))))then(nthK a (Int.toNat c) fun d=>aI .i64 d fun d=>bif(d==b)then(Kr true)else(X a b (IntKind.i64.wrap (c+1))))else none)else(Ko ()))
def l25_0g{R:Type}(G:ORC R)(k:Nat)(Ko:Cu R J1)(Kr:Cu R J2)(j:Nat):Cu R J15:=lup J15 (fun X=>b25_0 G k X Ko Kr) j
def l25_0{R:Type}(G:ORC R)(k:Nat)(a:LV)(b c:Int)(Ko:Cu R J1)(Kr:Cu R J2):OV R:=l25_0g G k Ko Kr k a b c
def L25{R:Type}(G:ORC R)(k:Nat):Nat→St→(Ex→St→OV R)→OV R
 |0,S,K=>P25_0h.mat S fun vs=>uc J15 (l25_0g G k (koX J1 P25_0x K) (koR J2 P25_0r K) k) vs none
 |_,_,_=>none
def f25{R:Type}(G:ORC R)(k:Nat)(a:LV)(b:Int)(K:LV→OV R):OV R:=
 (l25_0 G k a b 0 (fun(_:Unit)=>K [.bool false]) (fun a=>K [.bool a]))
abbrev g25 {R:Type} (G:ORC R) (k:Nat):LV→(LV→OV R)→OV R:=gF J16 (f25 G k)
theorem s25{R:Type}{G:ORC R}{k:Nat}(hG:Sound Tryd.prog TAB G):TL 25 (g25 G k):=
 gG J16 (by kernel_rfl) (callF_sound (L:=L25 G k) (f:=25) TAB_chk MO hG Tryd.func25 (sg:=S25) (by kernel_rfl) (by kernel_rfl) (las [0] (by kernel_rfl) ⟨loopIs J15 k (fun K X=>b25_0 G k X (koX J1 P25_0x K) (koR J2 P25_0r K)) P25_0h P25_0x P25_0r (by kernel_rfl) (by kernel_rfl) (by kernel_rfl) (fun K X=>by kernel_rfl) (fun S K=>by kernel_rfl),trivial⟩))
def P14_0h:Pat:={tmps:=unds [pL,pU,pU,.var (.sl 1) (.own true),pI] 12 [],boxes:=nons [] 17 []}
def P14_0x:Pat:={tmps:=unds [pU,pU,pU,.var (.sl 1) (.own true)] 13 [],boxes:=nons [] 17 []}
def b14_0{R:Type}(G:ORC R)(k:Nat)(X:Cu R J5)(Ko:Cu R J6)(a b:LV)(c:Int):OV R:=
 (bif(decide (c<128))then(G 25 [.sl 1 a,.int .i64 c] fun d=>uB d fun d e=>unNil e (bif d then(bif(decide (List.length b+1≤1073741824))then(X a (b++[.int .i64 c]) (IntKind.i64.wrap (c+1)))else none)else(X a b (IntKind.i64.wrap (c+1)))))else(Ko b))
def l14_0g{R:Type}(G:ORC R)(k:Nat)(Ko:Cu R J6)(j:Nat):Cu R J5:=lup J5 (fun X=>b14_0 G k X Ko) j
def l14_0{R:Type}(G:ORC R)(k:Nat)(a b:LV)(c:Int)(Ko:Cu R J6):OV R:=l14_0g G k Ko k a b c
def L14{R:Type}(G:ORC R)(k:Nat):Nat→St→(Ex→St→OV R)→OV R
 |0,S,K=>P14_0h.mat S fun vs=>uc J5 (l14_0g G k (koX J6 P14_0x K) k) vs none
 |_,_,_=>none
def f14{R:Type}(G:ORC R)(k:Nat)(a:LV)(K:LV→OV R):OV R:=
 (l14_0 G k a [] 0 (fun a=>K [.sl 1 a]))
abbrev g14 {R:Type} (G:ORC R) (k:Nat):LV→(LV→OV R)→OV R:=gF J6 (f14 G k)
theorem s14{R:Type}{G:ORC R}{k:Nat}(hG:Sound Tryd.prog TAB G):TL 14 (g14 G k):=
 gG J6 (by kernel_rfl) (callF_sound (L:=L14 G k) (f:=14) TAB_chk MO hG Tryd.func14 (sg:=S14) (by kernel_rfl) (by kernel_rfl) (las [0] (by kernel_rfl) ⟨loopIs J5 k (fun K X=>b14_0 G k X (koX J6 P14_0x K)) P14_0h P14_0x default (by kernel_rfl) (by kernel_rfl) (by kernel_rfl) (fun K X=>by kernel_rfl) (fun S K=>by kernel_rfl),trivial⟩))
def P13_0h:Pat:={tmps:=unds [pL,pL,pU,pU,pU,pI] 20 [],boxes:=nons [] 26 []}
def P13_0x:Pat:={tmps:=unds [] 26 [],boxes:=nons [] 26 []}
def P13_0r:Pat:={tmps:=unds [pU,pU,pU,pU,.var .bool .pr] 21 [],boxes:=nons [] 26 []}
def b13_0{R:Type}(G:ORC R)(k:Nat)(X:Cu R J5)(Ko:Cu R J1)(Kr:Cu R J2)(a b:LV)(c:Int):OV R:=
 (bif(decide (c<(a.length:Int)))then(bif((decide (0≤c))&&(decide (c<(a.length:Int))))then(nthK a (Int.toNat c) fun d=>aI .i64 d fun d=>bif((decide (0≤c))&&(decide (c<(b.length:Int))))then(nthK b (Int.toNat c) fun e=>aI .i64 e fun e=>bif(d !=e)then(Kr false)else(X a b (IntKind.i64.wrap (c+1))))else none)else none)else(Ko ()))
def l13_0g{R:Type}(G:ORC R)(k:Nat)(Ko:Cu R J1)(Kr:Cu R J2)(j:Nat):Cu R J5:=lup J5 (fun X=>b13_0 G k X Ko Kr) j
def l13_0{R:Type}(G:ORC R)(k:Nat)(a b:LV)(c:Int)(Ko:Cu R J1)(Kr:Cu R J2):OV R:=l13_0g G k Ko Kr k a b c
def L13{R:Type}(G:ORC R)(k:Nat):Nat→St→(Ex→St→OV R)→OV R
 |0,S,K=>P13_0h.mat S fun vs=>uc J5 (l13_0g G k (koX J1 P13_0x K) (koR J2 P13_0r K) k) vs none
 |_,_,_=>none
def f13{R:Type}(G:ORC R)(k:Nat)(a b:LV)(K:LV→OV R):OV R:=
 (bif((a.length:Int) !=(b.length:Int))then(K [.bool false])else(l13_0 G k a b 0 (fun(_:Unit)=>K [.bool true]) (fun a=>K [.bool a])))
abbrev g13 {R:Type} (G:ORC R) (k:Nat):LV→(LV→OV R)→OV R:=gF J0 (f13 G k)
theorem s13{R:Type}{G:ORC R}{k:Nat}(hG:Sound Tryd.prog TAB G):TL 13 (g13 G k):=
 gG J0 (by kernel_rfl) (callF_sound (L:=L13 G k) (f:=13) TAB_chk MO hG Tryd.func13 (sg:=S13) (by kernel_rfl) (by kernel_rfl) (las [0] (by kernel_rfl) ⟨loopIs J5 k (fun K X=>b13_0 G k X (koX J1 P13_0x K) (koR J2 P13_0r K)) P13_0h P13_0x P13_0r (by kernel_rfl) (by kernel_rfl) (by kernel_rfl) (fun K X=>by kernel_rfl) (fun S K=>by kernel_rfl),trivial⟩))
def f8{R:Type}(G:ORC R)(k:Nat)(a:LV)(K:LV→OV R):OV R:=
 (K [.bool (decide ((a.length:Int)≤300))])
abbrev g8 {R:Type} (G:ORC R) (k:Nat):LV→(LV→OV R)→OV R:=gF J6 (f8 G k)
theorem s8{R:Type}{G:ORC R}{k:Nat}(hG:Sound Tryd.prog TAB G):TL 8 (g8 G k):=
 gG J6 (by kernel_rfl) (callF_sound (L:=fun _ _ _=>none) (f:=8) TAB_chk MO hG Tryd.func8 (sg:=S8) (by kernel_rfl) (by kernel_rfl) (las [] (by kernel_rfl) trivial))
def f16{R:Type}(G:ORC R)(k:Nat)(a b c:Int)(K:LV→OV R):OV R:=
 (G 29 [.int .i64 c] fun d=>uB d fun d e=>unNil e (bif d then(bif((decide (0≤(IntKind.i64.wrap (Int.tdiv c 64))))&&(decide ((IntKind.i64.wrap (Int.tdiv c 64))<2)))then(nthK [.int .u64 a,.int .u64 b] (Int.toNat (IntKind.i64.wrap (Int.tdiv c 64))) fun d=>bif(decide (0≤(Int.tmod c 64)))then(aI .u64 d fun d=>bif((decide (0≤(IntKind.i64.wrap (Int.tdiv c 64))))&&(decide ((IntKind.i64.wrap (Int.tdiv c 64))<2)))then(aI .u64 (bif(0==(Int.toNat (IntKind.i64.wrap (Int.tdiv c 64))))then(.int .u64 (bits .andNot .u64 d (IntKind.u64.wrap (1*2^(min (Int.toNat (Int.tmod c 64)) IntKind.u64.bits)))))else(.int .u64 a)) fun e=>aI .u64 (bif(1==(Int.toNat (IntKind.i64.wrap (Int.tdiv c 64))))then(.int .u64 (bits .andNot .u64 d (IntKind.u64.wrap (1*2^(min (Int.toNat (Int.tmod c 64)) IntKind.u64.bits)))))else(.int .u64 b)) fun c=>K [.agg [.int .u64 e,.int .u64 c]])else none)else none)else none)else(K [.agg [.int .u64 a,.int .u64 b]])))
abbrev g16 {R:Type} (G:ORC R) (k:Nat):LV→(LV→OV R)→OV R:=gF J10 (f16 G k)
theorem s16{R:Type}{G:ORC R}{k:Nat}(hG:Sound Tryd.prog TAB G):TL 16 (g16 G k):=
 gG J10 (by kernel_rfl) (callF_sound (L:=fun _ _ _=>none) (f:=16) TAB_chk MO hG Tryd.func16 (sg:=S16) (by kernel_rfl) (by kernel_rfl) (las [] (by kernel_rfl) trivial))
def f4{R:Type}(G:ORC R)(k:Nat)(a b:LV)(K:LV→OV R):OV R:=
 (G 8 [.sl 1 a] fun c=>uB c fun c d=>unNil d (bif(!c)then(G 9 [] fun c=>uB c fun c d=>unNil d (K [.bool c]))else(G 8 [.sl 1 b] fun c=>uB c fun c d=>unNil d (bif(!c)then(G 9 [] fun c=>uB c fun c d=>unNil d (K [.bool c]))else(G 10 [.sl 1 a] fun c=>uA c fun c d=>uI .u64 c fun c e=>uI .u64 e fun e f=>unNil f (unNil d (G 10 [.sl 1 b] fun d=>uA d fun d f=>uI .u64 d fun d g=>uI .u64 g fun g h=>unNil h (unNil f (G 14 [.sl 1 a] fun a=>uL 1 a fun a f=>unNil f (G 14 [.sl 1 b] fun b=>uL 1 b fun b f=>unNil f (G 13 [.sl 1 a,.sl 1 b] fun a=>uB a fun a b=>unNil b (bif(((c==d)&&((e==g)&&true))==a)then(G 15 [.agg [.int .u64 c,.int .u64 e],.agg [.int .u64 d,.int .u64 g]] fun a=>uB a fun a b=>unNil b (bif a then(G 15 [.agg [.int .u64 d,.int .u64 g],.agg [.int .u64 c,.int .u64 e]] fun a=>uB a fun a b=>unNil b (bif(((c==d)&&((e==g)&&true))==a)then(G 12 [.agg [.int .u64 c,.int .u64 e]] fun a=>uL 1 a fun a b=>unNil b (G 10 [.sl 1 a] fun a=>uA a fun a b=>uI .u64 a fun a f=>uI .u64 f fun f h=>unNil h (unNil b (bif((c==a)&&((e==f)&&true))then(G 9 [] fun a=>uB a fun a b=>unNil b (K [.bool a]))else(K [.bool false])))))else(K [.bool false])))else(bif(((c==d)&&((e==g)&&true))==false)then(G 12 [.agg [.int .u64 c,.int .u64 e]] fun a=>uL 1 a fun a b=>unNil b (G 10 [.sl 1 a] fun a=>uA a fun a b=>uI .u64 a fun a d=>uI .u64 d fun d f=>unNil f (unNil b (bif((c==a)&&((e==d)&&true))then(G 9 [] fun a=>uB a fun a b=>unNil b (K [.bool a]))else(K [.bool false])))))else(K [.bool false]))))else(K [.bool false])))))))))))))
abbrev g4 {R:Type} (G:ORC R) (k:Nat):LV→(LV→OV R)→OV R:=gF J0 (f4 G k)
def P17_0h:Pat:={tmps:=unds [pL,pL,pU,pU,pU,.var (.sl 1) (.own true),pI] 21 [],boxes:=nons [] 28 []}
def P17_0x:Pat:={tmps:=unds [] 5 (unds [.var (.sl 1) (.own true)] 22 []),boxes:=nons [] 28 []}
def b17_0{R:Type}(G:ORC R)(k:Nat)(X:Cu R J11)(Ko:Cu R J6)(a b c:LV)(d:Int):OV R:=
 (bif(decide (d<(a.length:Int)))then(bif((decide (0≤d))&&(decide (d<(a.length:Int))))then(nthK a (Int.toNat d) fun e=>aI .i64 e fun e=>G 25 [.sl 1 b,.int .i64 e] fun e=>uB e fun e f=>unNil f (bif(!e)then(bif((decide (0≤d))&&(decide (d<(a.length:Int))))then(nthK a (Int.toNat d) fun e=>aI .i64 e fun e=>bif(decide (List.length c+1≤1073741824))then(X a b (c++[.int .i64 e]) (IntKind.i64.wrap (d+1)))else none)else none)else(X a b c (IntKind.i64.wrap (d+1)))))else none)else(Ko c))
def l17_0g{R:Type}(G:ORC R)(k:Nat)(Ko:Cu R J6)(j:Nat):Cu R J11:=lup J11 (fun X=>b17_0 G k X Ko) j
def l17_0{R:Type}(G:ORC R)(k:Nat)(a b c:LV)(d:Int)(Ko:Cu R J6):OV R:=l17_0g G k Ko k a b c d
def L17{R:Type}(G:ORC R)(k:Nat):Nat→St→(Ex→St→OV R)→OV R
 |0,S,K=>P17_0h.mat S fun vs=>uc J11 (l17_0g G k (koX J6 P17_0x K) k) vs none
 |_,_,_=>none
def f17{R:Type}(G:ORC R)(k:Nat)(a b:LV)(K:LV→OV R):OV R:=
 (l17_0 G k a b [] 0 (fun a=>K [.sl 1 a]))
abbrev g17 {R:Type} (G:ORC R) (k:Nat):LV→(LV→OV R)→OV R:=gF J0 (f17 G k)
theorem s17{R:Type}{G:ORC R}{k:Nat}(hG:Sound Tryd.prog TAB G):TL 17 (g17 G k):=
 gG J0 (by kernel_rfl) (callF_sound (L:=L17 G k) (f:=17) TAB_chk MO hG Tryd.func17 (sg:=S17) (by kernel_rfl) (by kernel_rfl) (las [0] (by kernel_rfl) ⟨loopIs J11 k (fun K X=>b17_0 G k X (koX J6 P17_0x K)) P17_0h P17_0x default (by kernel_rfl) (by kernel_rfl) (by kernel_rfl) (fun K X=>by kernel_rfl) (fun S K=>by kernel_rfl),trivial⟩))
def f19{R:Type}(G:ORC R)(k:Nat)(a b:LV)(K:LV→OV R):OV R:=
 (bif(decide (0+List.length a≤1073741824))then(bif(decide (List.length ([]++a)+List.length b≤1073741824))then(G 14 [.sl 1 (([]++a)++b)] fun a=>uL 1 a fun a b=>unNil b (K [.sl 1 a]))else none)else none)
abbrev g19 {R:Type} (G:ORC R) (k:Nat):LV→(LV→OV R)→OV R:=gF J0 (f19 G k)
theorem s19{R:Type}{G:ORC R}{k:Nat}(hG:Sound Tryd.prog TAB G):TL 19 (g19 G k):=
 gG J0 (by kernel_rfl) (callF_sound (L:=fun _ _ _=>none) (f:=19) TAB_chk MO hG Tryd.func19 (sg:=S19) (by kernel_rfl) (by kernel_rfl) (las [] (by kernel_rfl) trivial))
def P5_0h:Pat:={tmps:=unds [pL,pL,pU,pU,pU,pS 5,pL,pI] 58 [],boxes:=nons [] 5 (nons [some B0] 60 [])}
def P5_0x:Pat:={tmps:=unds [] 66 [],boxes:=nons [] 66 []}
def P5_0r:Pat:={tmps:=unds [pU,pU,pU,pU,.var .bool .pr] 61 [],boxes:=nons [] 66 []}
def b5_0{R:Type}(G:ORC R)(k:Nat)(X:Cu R J3)(Ko:Cu R J1)(Kr:Cu R J2)(a b c:LV)(d e f:Int):OV R:=
 (bif(decide (d<(a.length:Int)))then(bif(decide (d<(b.length:Int)))then(bif((decide (0≤d))&&(decide (d<(b.length:Int))))then(nthK b (Int.toNat d) fun g=>V.asBool g fun g=>bif g then(bif((decide (0≤d))&&(decide (d<(a.length:Int))))then(nthK a (Int.toNat d) fun g=>aI .i64 g fun g=>G 16 [.agg [.int .u64 e,.int .u64 f],.int .i64 g] fun g=>uA g fun g h=>uI .u64 g fun g i=>uI .u64 i fun i l=>unNil l (unNil h (bif((decide (0≤d))&&(decide (d<(a.length:Int))))then(nthK a (Int.toNat d) fun h=>aI .i64 h fun h=>G 17 [.sl 1 c,.sl 1 [.int .i64 h]] fun h=>uL 1 h fun h l=>unNil l (G 12 [.agg [.int .u64 g,.int .u64 i]] fun l=>uL 1 l fun l m=>unNil m (G 13 [.sl 1 l,.sl 1 h] fun l=>uB l fun l m=>unNil m (bif(!l)then(Kr false)else(G 10 [.sl 1 h] fun l=>uA l fun l m=>uI .u64 l fun l n=>uI .u64 n fun n o=>unNil o (unNil m (bif(!((g==l)&&((i==n)&&true)))then(Kr false)else(X a b h (IntKind.i64.wrap (d+1)) g i))))))))else none)))else none)else(bif((decide (0≤d))&&(decide (d<(a.length:Int))))then(nthK a (Int.toNat d) fun g=>aI .i64 g fun g=>G 18 [.agg [.int .u64 e,.int .u64 f],.int .i64 g] fun g=>uA g fun g h=>uI .u64 g fun g i=>uI .u64 i fun i l=>unNil l (unNil h (bif((decide (0≤d))&&(decide (d<(a.length:Int))))then(nthK a (Int.toNat d) fun h=>aI .i64 h fun h=>G 19 [.sl 1 c,.sl 1 [.int .i64 h]] fun h=>uL 1 h fun h l=>unNil l (G 12 [.agg [.int .u64 g,.int .u64 i]] fun l=>uL 1 l fun l m=>unNil m (G 13 [.sl 1 l,.sl 1 h] fun l=>uB l fun l m=>unNil m (bif(!l)then(Kr false)else(G 10 [.sl 1 h] fun l=>uA l fun l m=>uI .u64 l fun l n=>uI .u64 n fun n o=>unNil o (unNil m (bif(!((g==l)&&((i==n)&&true)))then(Kr false)else(X a b h (IntKind.i64.wrap (d+1)) g i))))))))else none)))else none))else none)else(bif((decide (0≤d))&&(decide (d<(a.length:Int))))then(nthK a (Int.toNat d) fun g=>aI .i64 g fun g=>G 18 [.agg [.int .u64 e,.int .u64 f],.int .i64 g] fun e=>uA e fun e f=>uI .u64 e fun e g=>uI .u64 g fun g h=>unNil h (unNil f (bif((decide (0≤d))&&(decide (d<(a.length:Int))))then(nthK a (Int.toNat d) fun f=>aI .i64 f fun f=>G 19 [.sl 1 c,.sl 1 [.int .i64 f]] fun c=>uL 1 c fun c f=>unNil f (G 12 [.agg [.int .u64 e,.int .u64 g]] fun f=>uL 1 f fun f h=>unNil h (G 13 [.sl 1 f,.sl 1 c] fun f=>uB f fun f h=>unNil h (bif(!f)then(Kr false)else(G 10 [.sl 1 c] fun f=>uA f fun f h=>uI .u64 f fun f i=>uI .u64 i fun i l=>unNil l (unNil h (bif(!((e==f)&&((g==i)&&true)))then(Kr false)else(X a b c (IntKind.i64.wrap (d+1)) e g))))))))else none)))else none))else(Ko ()))
def l5_0g{R:Type}(G:ORC R)(k:Nat)(Ko:Cu R J1)(Kr:Cu R J2)(j:Nat):Cu R J3:=lup J3 (fun X=>b5_0 G k X Ko Kr) j
def l5_0{R:Type}(G:ORC R)(k:Nat)(a b c:LV)(d e f:Int)(Ko:Cu R J1)(Kr:Cu R J2):OV R:=l5_0g G k Ko Kr k a b c d e f
def L5{R:Type}(G:ORC R)(k:Nat):Nat→St→(Ex→St→OV R)→OV R
 |0,S,K=>P5_0h.mat S fun vs=>uc J3 (l5_0g G k (koX J1 P5_0x K) (koR J2 P5_0r K) k) vs none
 |_,_,_=>none
def f5{R:Type}(G:ORC R)(k:Nat)(a b:LV)(K:LV→OV R):OV R:=
 (G 8 [.sl 1 a] fun c=>uB c fun c d=>unNil d (bif(!c)then(G 9 [] fun c=>uB c fun c d=>unNil d (K [.bool c]))else(l5_0 G k a b [] 0 0 0 (fun(_:Unit)=>G 9 [] fun a=>uB a fun a b=>unNil b (K [.bool a])) (fun a=>K [.bool a]))))
abbrev g5 {R:Type} (G:ORC R) (k:Nat):LV→(LV→OV R)→OV R:=gF J0 (f5 G k)
theorem s5{R:Type}{G:ORC R}{k:Nat}(hG:Sound Tryd.prog TAB G):TL 5 (g5 G k):=
 gG J0 (by kernel_rfl) (callF_sound (L:=L5 G k) (f:=5) TAB_chk MO hG Tryd.func5 (sg:=S5) (by kernel_rfl) (by kernel_rfl) (las [0] (by kernel_rfl) ⟨loopIs J3 k (fun K X=>b5_0 G k X (koX J1 P5_0x K) (koR J2 P5_0r K)) P5_0h P5_0x P5_0r (by kernel_rfl) (by kernel_rfl) (by kernel_rfl) (fun K X=>by kernel_rfl) (fun S K=>by kernel_rfl),trivial⟩))
def f9{R:Type}(G:ORC R)(k:Nat)(K:LV→OV R):OV R:=
 (G 10 [.sl 1 [.int .i64 5,.int .i64 3,.int .i64 5,.int .i64 (-1),.int .i64 200]] fun a=>uA a fun a b=>uI .u64 a fun a c=>uI .u64 c fun c d=>unNil d (unNil b (G 12 [.agg [.int .u64 a,.int .u64 c]] fun a=>uL 1 a fun a b=>unNil b (bif((a.length:Int)==2)then(bif(decide (0<(a.length:Int)))then(nthK a 0 fun b=>aI .i64 b fun b=>bif(b==3)then(bif(decide (1<(a.length:Int)))then(nthK a 1 fun a=>aI .i64 a fun a=>bif(a==5)then(G 10 [.sl 1 [.int .i64 1,.int .i64 2]] fun a=>uA a fun a b=>uI .u64 a fun a c=>uI .u64 c fun c d=>unNil d (unNil b (G 10 [.sl 1 [.int .i64 2,.int .i64 3]] fun b=>uA b fun b d=>uI .u64 b fun b e=>uI .u64 e fun e f=>unNil f (unNil d (G 22 [.agg [.int .u64 a,.int .u64 c],.agg [.int .u64 b,.int .u64 e]] fun a=>uA a fun a b=>uI .u64 a fun a c=>uI .u64 c fun c d=>unNil d (unNil b (G 10 [.sl 1 [.int .i64 1]] fun b=>uA b fun b d=>uI .u64 b fun b e=>uI .u64 e fun e f=>unNil f (unNil d (K [.bool ((a==b)&&((c==e)&&true))])))))))))else(K [.bool false]))else none)else(K [.bool false]))else none)else(K [.bool false])))))
abbrev g9 {R:Type} (G:ORC R) (k:Nat):LV→(LV→OV R)→OV R:=gF J1 (f9 G k)
theorem s9{R:Type}{G:ORC R}{k:Nat}(hG:Sound Tryd.prog TAB G):TL 9 (g9 G k):=
 gG J1 (by kernel_rfl) (callF_sound (L:=fun _ _ _=>none) (f:=9) TAB_chk MO hG Tryd.func9 (sg:=S9) (by kernel_rfl) (by kernel_rfl) (las [] (by kernel_rfl) trivial))
end Go.Proofs.YtmoinimakjddiaaDoor.Vm
namespace Go.VM
def hasL(l:List Int)(i:Int):Bool:=decide (i∈l)
def notL(a b:List Int):List Int:=a.filter fun x=> !hasL b x
theorem hasL_iff{l:List Int}{i:Int}:hasL l i=true↔i∈l:=by simp[hasL]
def ofGo(l:List Int):Nat→List Int
 |0=>[]
 |m+1=>ofGo l m++if hasL l m then[(m:Int)]else[]
def ofL(l:List Int):List Int:=ofGo l 128
theorem ofGo_len{l:List Int}:∀{m:Nat},(ofGo l m).length≤m
 |0=>Nat.le_refl 0
 |m+1=>by have:=ofGo_len (l:=l) (m:=m);unfold ofGo;split<;>simp<;>omega
theorem mem_ofGo{l:List Int}{x:Int}:∀{m:Nat},x∈ofGo l m↔0≤x∧x<m∧x∈l
 |0=>by simp[ofGo];omega
 |m+1=>by
  unfold ofGo
  rw[List.mem_append,mem_ofGo (m:=m)]
  by_cases hm:(m:Int)∈l
  ·rw[if_pos (hasL_iff.2 hm),List.mem_singleton]
   constructor
   ·rintro(⟨h1,h2,h3⟩|h)
    ·exact⟨h1,by omega,h3⟩
    ·exact⟨by omega,by omega,h▸hm⟩
   ·rintro⟨h1,h2,h3⟩
    by_cases e:x=m
    ·exact .inr e
    ·exact .inl ⟨h1,by omega,h3⟩
  ·rw[if_neg (fun h=>hm (hasL_iff.1 h))]
   constructor
   ·rintro(⟨h1,h2,h3⟩|h)
    ·exact⟨h1,by omega,h3⟩
    ·simp at h
   ·rintro⟨h1,h2,h3⟩
    by_cases e:x=m
    ·exact absurd (e▸h3) hm
    ·exact .inl ⟨h1,by omega,h3⟩
theorem take_snoc{l:List Int}{m:Nat}{c:Int}(h:l[m]? =some c):l.take (m+1)=l.take m++[c]:=by
 rw[List.take_add_one,h];rfl
end Go.VM
open Go
set_option linter.unusedSimpArgs false
namespace Go.Proofs.YtmoinimakjddiaaDoor.Vm
theorem filter_first{p:Nat→Bool}{c:Nat}:∀{n s:Nat},s≤c→c<s+n→p c=true→(∀i,s≤i→i<c→p i=false)→(List.range' s n).filter p=c::(List.range' s n).filter fun i=>p i&& !(i==c)
 |0,s,h1,h2,_,_=>by omega
 |n+1,s,h1,h2,hp,hl=>by
  rw[List.range'_succ,List.filter_cons,List.filter_cons]
  by_cases e:s=c
  ·subst e
   rw[hp]
   have:(p s&& !(s==s))=false:=by simp
   simp only[this,if_true,Bool.false_eq_true,if_false,Bool.true_and,beq_self_eq_true,Bool.not_true]
   congr 1
   apply List.filter_congr
   intro i hi
   rw[List.mem_range'_1]at hi
   have:(i==s)=false:=by simp;omega
   rw[this];simp
  ·have h3:=hl s (Nat.le_refl _) (by omega)
   rw[h3]
   simp only[Bool.false_eq_true,if_false,Bool.false_and]
   exact filter_first (by omega) (by omega) hp fun i a b=>hl i (by omega) b
def bitsL(o w:Nat):List Int:=((List.range' 0 64).filter fun i=>w.testBit i).map fun i=>((o+i:Nat):Int)
theorem bitsL_zero{o:Nat}:bitsL o 0=[]:=by
 unfold bitsL
 rw[List.filter_eq_nil_iff.2 (fun i _=>by simp)];rfl
theorem low_bits{x c m:Nat}(h:x=2^c*(2*m+1)):x.testBit c=true∧(∀i,i<c→x.testBit i=false)∧x &&&(x-1)=2^c*(2*m):=by
 have hp:0<2^c:=Nat.two_pow_pos c
 have e1:x-1=2^c*(2*m)+(2^c-1):=by
  rw[h,Nat.mul_add,Nat.mul_one];omega
 have t1:∀i,x.testBit i=if i<c then false else(2*m+1).testBit (i-c):=fun i=>by
  rw[h,Nat.testBit_two_pow_mul]
  by_cases k:i<c
  ·rw[if_pos k];simp;omega
  ·rw[if_neg k];simp;omega
 have t2:∀i,(x-1).testBit i=if i<c then true else(2*m).testBit (i-c):=fun i=>by
  rw[e1,Nat.testBit_two_pow_mul_add _ (by omega)]
  by_cases k:i<c
  ·rw[if_pos k,if_pos k,Nat.testBit_two_pow_sub_one];simpa using k
  ·rw[if_neg k,if_neg k]
 refine⟨?_,fun i k=>by rw[t1,if_pos k],?_⟩
 ·rw[t1,if_neg (Nat.lt_irrefl c),Nat.sub_self]
  simp[Nat.testBit_zero]
 ·apply Nat.eq_of_testBit_eq
  intro i
  rw[Nat.testBit_and,t1,t2,Nat.testBit_two_pow_mul]
  by_cases k:i<c
  ·rw[if_pos k,if_pos k];simp;omega
  ·rw[if_neg k,if_neg k]
   have:decide (i≥c)=true:=by simp;omega
   rw[this,Bool.true_and]
   cases hj:i-c with
   |zero=>simp[Nat.testBit_zero]
   |succ j=>
    rw[Nat.testBit_succ,Nat.testBit_succ]
    rw[show(2*m+1)/2=m by omega,show 2*m/2=m by omega,Bool.and_self]
theorem bitsL_step{o w:Nat}(h0:w≠0)(hw:w<18446744073709551616):bitsL o w=((o+Lib.ctz 64 w:Nat):Int)::bitsL o (w &&&(w-1))∧Lib.ctz 64 w<64∧w &&&(w-1)<w:=by
 obtain⟨m,h1,h2⟩:=Lib.ctzFrom_spec 64 w (by omega) (by simpa using hw)
 have hc:Lib.ctz 64 w=Lib.ctzFrom 64 w:=by rw[Lib.ctz.eq_1,if_neg h0]
 rw[hc]
 generalize Lib.ctzFrom 64 w=c at h1 h2
 obtain⟨b1,b2,b3⟩:=low_bits h1
 have hlt:w &&&(w-1)<w:=by
  rw[b3]
  have hp:0<2^c:=Nat.two_pow_pos c
  have:2^c*(2*m)<2^c*(2*m+1):=by rw[Nat.mul_add,Nat.mul_one];omega
  omega
 refine⟨?_,h2,hlt⟩
 unfold bitsL
 rw[filter_first (c:=c) (Nat.zero_le _) (by omega) b1 (fun i _ h=>b2 i h),List.map_cons]
 congr 2
 apply List.filter_congr
 intro i _
 have hb:(w &&&(w-1)).testBit i=(w.testBit i&& !(i==c)):=by
  rw[b3,Nat.testBit_two_pow_mul]
  conv=>rhs;rw[h1,Nat.testBit_two_pow_mul]
  by_cases k:i<c
  ·have:decide (i≥c)=false:=by simp;omega
   rw[this];simp
  ·have:decide (i≥c)=true:=by simp;omega
   rw[this]
   simp only[Bool.true_and]
   cases hj:i-c with
   |zero=>
    have:i=c:=by omega
    subst this
    simp[Nat.testBit_zero]
   |succ j=>
    have:(i==c)=false:=by simp;omega
    rw[this,Nat.testBit_succ,Nat.testBit_succ,show(2*m+1)/2=m by omega,show 2*m/2=m by omega];simp
 rw[hb]
set_option maxHeartbeats 8000000
def hasW(a b i:Nat):Bool:=bif decide (i<64)then a.testBit i else b.testBit (i-64)
def SetP(a b:Nat)(p:Nat→Bool):Prop:=a<18446744073709551616∧b<18446744073709551616∧∀i,i<128→hasW a b i=p i
theorem hasW_lo{a b i:Nat}(h:i<64):hasW a b i=a.testBit i:=by unfold hasW;rw[decide_eq_true h];rfl
theorem hasW_hi{a b i:Nat}:hasW a b (64+i)=b.testBit i:=by unfold hasW;rw[decide_eq_false (by omega),Nat.add_sub_cancel_left];rfl
theorem tb_hi{a i:Nat}(ha:a<18446744073709551616)(h:64≤i):a.testBit i=false:=Nat.testBit_lt_two_pow (Nat.lt_of_lt_of_le ha (Nat.pow_le_pow_right (n:=2) (by decide) h))
theorem SetP.same{a b c d:Nat}{p q:Nat→Bool}(h:SetP a b p)(g:SetP c d q)(e:∀i,i<128→p i=q i):a=c∧b=d:=by
 obtain⟨a1,a2,a3⟩:=h
 obtain⟨b1,b2,b3⟩:=g
 constructor
 ·apply Nat.eq_of_testBit_eq
  intro i
  by_cases k:i<64
  ·have:=(a3 i (by omega)).trans ((e i (by omega)).trans (b3 i (by omega)).symm)
   rwa[hasW_lo k,hasW_lo k]at this
  ·rw[tb_hi a1 (by omega),tb_hi b1 (by omega)]
 ·apply Nat.eq_of_testBit_eq
  intro i
  by_cases k:i<64
  ·have:=(a3 (64+i) (by omega)).trans ((e (64+i) (by omega)).trans (b3 (64+i) (by omega)).symm)
   rwa[hasW_hi,hasW_hi]at this
  ·rw[tb_hi a2 (by omega),tb_hi b2 (by omega)]
theorem SetP.congr{a b:Nat}{p q:Nat→Bool}(h:SetP a b p)(e:∀i,i<128→p i=q i):SetP a b q:=⟨h.1,h.2.1,fun i hi=>(h.2.2 i hi).trans (e i hi)⟩
theorem shl_u64{q:Nat}(h:q<64):IntKind.u64.wrap (1*2^(min (Int.toNat ((q:Nat):Int)) IntKind.u64.bits))=((2^q:Nat):Int):=by
 have hp:2^q<18446744073709551616:=Nat.pow_lt_pow_right (a:=2) (by decide) h
 rw[Int.toNat_natCast,show IntKind.u64.bits=64 from rfl,Nat.min_eq_left (by omega),Int.one_mul]
 have e:((2:Int)^q)=((2^q:Nat):Int):=by rw[Int.natCast_pow];rfl
 rw[e]
 generalize 2^q=z at hp
 simp only[IntKind.wrap,IntKind.signed,IntKind.bits]
 first|omega|(simp;omega)
section
variable {R : Type} {G : ORC R} {k : Nat} {K : LV → OV R}
def InOK(G:ORC R):Prop:=∀(n:Int) (K:LV→OV R),W (fun o=>o=[.bool (decide (0≤n∧n<128))]) K (G 29 [.int .i64 n] K)
theorem in_ok:InOK (fun _ args (K:LV→OV R)=>g29 G k args K):=by
 intro n K
 show W _ K (f29 G k n K)
 unfold f29
 refine W_dec (fun h=>W_ret ?_) (fun h=>W_ret ?_)
 ·by_cases q:n<128
  ·rw[decide_eq_true q,decide_eq_true ⟨h,q⟩]
  ·rw[decide_eq_false q,decide_eq_false (fun k=>q k.2)]
 ·rw[decide_eq_false (fun k=>h k.1)]
theorem or_lt{a q:Nat}(ha:a<18446744073709551616)(h:q<64):a|||2^q<18446744073709551616:=Nat.or_lt_two_pow (n:=64) ha (Nat.pow_lt_pow_right (a:=2) (by decide) h)
def WithOK(G:ORC R):Prop:=∀(a b:Nat) (n:Int) (p:Nat→Bool) (K:LV→OV R),SetP a b p→W (fun o=>∃c d:Nat,o=[.agg [.int .u64 c,.int .u64 d]]∧SetP c d fun i=>p i||decide ((i:Int)=n)) K (G 18 [.agg [.int .u64 a,.int .u64 b],.int .i64 n] K)
theorem with_ok(hI:InOK G):WithOK (fun _ args (K:LV→OV R)=>g18 G k args K):=by
 intro a b n p K hp
 show W _ K (f18 G k a b n K)
 unfold f18
 refine W_call (hI n _) ?_
 rintro _ rfl
 (repeat(with_reducible apply U1))
 by_cases hn:0≤n∧n<128
 ·rw[decide_eq_true hn,cond_true]
  obtain⟨m,rfl⟩:∃m:Nat,n=m:=⟨n.toNat,by omega⟩
  obtain⟨a1,a2,a3⟩:=hp
  by_cases hm:m<64
  ·have hd:IntKind.i64.wrap (Int.tdiv (m:Int) 64)=0:=by
    rw[Int.tdiv_eq_ediv_of_nonneg (by omega),wrap_id (by omega)];omega
   have hq:Int.tmod (m:Int) 64=((m:Nat):Int):=by rw[Int.tmod_eq_emod_of_nonneg (by omega)];omega
   rw[hd,hq,shl_u64 hm]
   refine W_and (W_yes (by decide) (W_yes (by decide) ?_))
   show W _ K (bif decide (0≤((m:Nat):Int))then aI .u64 (.int .u64 (a:Int)) _ else none)
   refine W_yes (by omega) (W_aI ?_)
   refine W_and (W_yes (by decide) (W_yes (by decide) ?_))
   show W _ K (aI .u64 (.int .u64 (bits .or .u64 (a:Int) ((2^m:Nat):Int))) fun n9=>aI .u64 (.int .u64 (b:Int)) _)
   refine W_aI (W_aI (W_ret ?_))
   rw[u64_or_nat a (2^m) a1 (Nat.pow_lt_pow_right (a:=2) (by decide) hm)]
   refine⟨_,_,rfl,or_lt a1 hm,a2,fun i hi=> ?_⟩
   show hasW (a|||2^m) b i=(p i||decide ((i:Int)=m))
   rw[←a3 i hi]
   by_cases k:i<64
   ·rw[hasW_lo k,hasW_lo k,Nat.testBit_or,Nat.testBit_two_pow]
    congr 1
    exact decide_eq_decide.2 ⟨fun h=>by omega,fun h=>by omega⟩
   ·have:decide ((i:Int)=m)=false:=decide_eq_false (by omega)
    rw[this,Bool.or_false]
    unfold hasW
    rw[decide_eq_false k];rfl
  ·have hd:IntKind.i64.wrap (Int.tdiv (m:Int) 64)=1:=by
    rw[Int.tdiv_eq_ediv_of_nonneg (by omega),wrap_id (by omega)];omega
   have hq:Int.tmod (m:Int) 64=((m-64:Nat):Int):=by rw[Int.tmod_eq_emod_of_nonneg (by omega)];omega
   have hm2:m-64<64:=by omega
   rw[hd,hq,shl_u64 hm2]
   refine W_and (W_yes (by decide) (W_yes (by decide) ?_))
   show W _ K (bif decide (0≤((m-64:Nat):Int))then aI .u64 (.int .u64 (b:Int)) _ else none)
   refine W_yes (by omega) (W_aI ?_)
   refine W_and (W_yes (by decide) (W_yes (by decide) ?_))
   show W _ K (aI .u64 (.int .u64 (a:Int)) fun n9=>aI .u64 (.int .u64 (bits .or .u64 (b:Int) ((2^(m-64):Nat):Int))) _)
   refine W_aI (W_aI (W_ret ?_))
   rw[u64_or_nat b (2^(m-64)) a2 (Nat.pow_lt_pow_right (a:=2) (by decide) hm2)]
   refine⟨_,_,rfl,a1,or_lt a2 hm2,fun i hi=> ?_⟩
   show hasW a (b|||2^(m-64)) i=(p i||decide ((i:Int)=m))
   rw[←a3 i hi]
   by_cases k:i<64
   ·have:decide ((i:Int)=m)=false:=decide_eq_false (by omega)
    rw[this,Bool.or_false,hasW_lo k,hasW_lo k]
   ·obtain⟨j,rfl⟩:∃j,i=64+j:=⟨i-64,by omega⟩
    rw[hasW_hi,hasW_hi,Nat.testBit_or,Nat.testBit_two_pow]
    congr 1
    exact decide_eq_decide.2 ⟨fun h=>by omega,fun h=>by omega⟩
 ·rw[decide_eq_false hn,cond_false]
  refine W_ret ⟨a,b,rfl,hp.congr fun i hi=> ?_⟩
  rw[decide_eq_false (by omega),Bool.or_false]
def SetL(a b:Nat)(l:List Int):Prop:=SetP a b fun i=>hasL l i
def WOfOK(G:ORC R):Prop:=∀(l:List Int) (K:LV→OV R),l.length≤9000→W (fun o=>∃c d:Nat,o=[.agg [.int .u64 c,.int .u64 d]]∧SetL c d l) K (G 10 [.sl 1 (ivs l)] K)
theorem hasL_snoc{l:List Int}{x i:Int}:hasL (l++[x]) i=(hasL l i||decide (i=x)):=by
 unfold hasL
 by_cases h1:i∈l<;>by_cases h2:i=x<;>simp[h1,h2]
theorem wof_loop(hW:WithOK G){Q:LV→Prop}{K:LV→OV R}{Ko:Int→Int→Int→Int→OV R}{l:List Int}{x y:Int}(hl:l.length≤9000)(hKo:∀c d:Nat,SetL c d l→W Q K (Ko x y c d)):
 ∀(j m a b:Nat),l.length-m<j→m≤l.length→SetL a b (l.take m)→W Q K (l10_0g G k Ko j (ivs l) (l.length:Int) m x y a b)
 |0,m,a,b,h1,h2,h3=>by omega
 |j+1,m,a,b,h1,h2,h3=>by
  show W Q K (b10_0 G k (l10_0g G k Ko j) Ko (ivs l) (l.length:Int) m x y a b)
  unfold b10_0
  refine W_dec (fun h=> ?_) (fun h=>hKo a b (by rwa[List.take_of_length_le (by omega)]at h3))
  obtain⟨z,hz⟩:∃z,l[m]? =some z:=⟨_,List.getElem?_eq_getElem (by omega)⟩
  refine W_at (by omega) (by rw[Int.toNat_natCast];exact ivs_at hz) (W_aI ?_)
  refine W_call (hW a b z _ _ h3) ?_
  rintro _ ⟨c,d,rfl,hcd⟩
  (repeat(with_reducible apply U1))
  rw[wrap_id (n:=(m:Int)+1) (by omega)]
  exact wof_loop hW hl hKo j (m+1) c d (by omega) (by omega) (hcd.congr fun i hi=>by rw[take_snoc hz,hasL_snoc])
theorem wof_ok(hk:10000≤k)(hW:WithOK G):WOfOK (fun _ args (K:LV→OV R)=>g10 G k args K):=by
 intro l K hl
 show W _ K (f10 G k (ivs l) K)
 unfold f10 l10_0
 rw[ivs_len]
 refine wof_loop (x:=0) (y:=0) (Q:=fun o=>∃c d:Nat,o=[.agg [.int .u64 c,.int .u64 d]]∧SetL c d l) (K:=K) hW hl (fun c d h=>W_ret ⟨c,d,rfl,h⟩) k 0 0 0 (by omega) (by omega) ⟨by decide,by decide,fun i hi=> ?_⟩
 show hasW 0 0 i=hasL [] i
 unfold hasW hasL
 by_cases k:i<64<;>simp[k]
end
section
variable {R : Type} {G : ORC R} {k : Nat} {K : LV → OV R}
theorem ivs_atZ{l:List Int}{i:Nat}{n:Int}(h:l[i]? =some n):(ivs l)[((i:Nat):Int).toNat]? =some (.int .i64 n):=by rw[Int.toNat_natCast];exact ivs_at h
theorem get_ex{l:List Int}{m:Nat}(h:m<l.length):∃x,l[m]? =some x:=⟨_,List.getElem?_eq_getElem h⟩
def HasOK(G:ORC R):Prop:=∀(l:List Int) (i:Int) (K:LV→OV R),l.length≤9000→W (fun o=>o=[.bool (hasL l i)]) K (G 25 [.sl 1 (ivs l),.int .i64 i] K)
theorem has_loop{Q:LV→Prop}{K:LV→OV R}{Ko:Unit→OV R}{Kr:Bool→OV R}{l:List Int}{i:Int}(hl:l.length≤9000)(hKo:i∉l→W Q K (Ko ()))(hKr:i∈l→W Q K (Kr true)):
 ∀(j m:Nat),l.length-m<j→m≤l.length→i∉l.take m→W Q K (l25_0g G k Ko Kr j (ivs l) i m)
 |0,m,h1,h2,h3=>by omega
 |j+1,m,h1,h2,h3=>by
  show W Q K (b25_0 G k (l25_0g G k Ko Kr j) Ko Kr (ivs l) i m)
  unfold b25_0
  refine W_dec (fun h=> ?_) (fun h=>hKo (by rw[ivs_len]at h;rwa[List.take_of_length_le (by omega)]at h3))
  rw[ivs_len]at h
  obtain⟨x,hx⟩:=get_ex (l:=l) (m:=m) (by omega)
  refine W_at (by omega) (ivs_atZ hx) (W_aI ?_)
  refine W_beqI (fun e=>hKr (by subst e;exact List.mem_of_getElem? hx)) (fun e=> ?_)
  rw[wrap_id (n:=(m:Int)+1) (by omega)]
  exact has_loop hl hKo hKr j (m+1) (by omega) (by omega) (by rw[take_snoc hx,List.mem_append,List.mem_singleton];rintro(h|h);exact h3 h;exact e h.symm)
theorem has_ok(hk:10000≤k):HasOK (fun _ args (K:LV→OV R)=>g25 G k args K):=by
 intro l i K hl
 show W _ K (f25 G k (ivs l) i K)
 unfold f25 l25_0
 exact has_loop (Q:=fun o=>o=[.bool (hasL l i)]) (K:=K) hl (fun h=>W_ret (by unfold hasL;rw[decide_eq_false h])) (fun h=>W_ret (by unfold hasL;rw[decide_eq_true h])) k 0 (by omega) (by omega) (by simp)
end
section
variable {R : Type} {G : ORC R} {k : Nat} {K : LV → OV R}
def OfOK(G:ORC R):Prop:=∀(l:List Int) (K:LV→OV R),l.length≤9000→W (fun o=>o=[.sl 1 (ivs (ofL l))]) K (G 14 [.sl 1 (ivs l)] K)
theorem of_loop(hH:HasOK G){Q:LV→Prop}{K:LV→OV R}{Ko:LV→OV R}{l:List Int}(hl:l.length≤9000)(hKo:W Q K (Ko (ivs (ofL l)))):
 ∀(j m:Nat),128-m<j→m≤128→W Q K (l14_0g G k Ko j (ivs l) (ivs (ofGo l m)) m)
 |0,m,h1,h2=>by omega
 |j+1,m,h1,h2=>by
  show W Q K (b14_0 G k (l14_0g G k Ko j) Ko (ivs l) (ivs (ofGo l m)) m)
  unfold b14_0
  refine W_dec (fun h=> ?_) (fun h=>by rw[show m=128 by omega];exact hKo)
  unfold HasOK at hH
  refine W_call (hH _ _ _ hl) ?_
  rintro _ rfl
  (repeat(with_reducible apply U1))
  have hgl:=ofGo_len (l:=l) (m:=m)
  have next:∀a,a=ivs (ofGo l (m+1))→W Q K (l14_0g G k Ko j (ivs l) a (IntKind.i64.wrap ((m:Int)+1))):=fun a ha=>by
   rw[wrap_id (n:=(m:Int)+1) (by omega),ha]
   exact of_loop hH hl hKo j (m+1) (by omega) (by omega)
  refine W_bool (fun hb=>W_yes (by rw[ivs_len];omega) (next _ (by rw[ofGo,hb];simp[ivs]))) (fun hb=>next _ (by rw[ofGo,hb];simp))
theorem of_ok(hk:10000≤k)(hH:HasOK G):OfOK (fun _ args (K:LV→OV R)=>g14 G k args K):=by
 intro l K hl
 show W _ K (f14 G k (ivs l) K)
 unfold f14 l14_0
 exact of_loop (Q:=fun o=>o=[.sl 1 (ivs (ofL l))]) (K:=K) (Ko:=fun x=>K [.sl 1 x]) hH hl (W_ret rfl) k 0 (by omega) (by omega)
end
section
variable {R : Type} {G : ORC R} {k : Nat} {K : LV → OV R}
def SameOK(G:ORC R):Prop:=∀(a b:List Int) (K:LV→OV R),a.length≤9000→W (fun o=>o=[.bool (decide (a=b))]) K (G 13 [.sl 1 (ivs a),.sl 1 (ivs b)] K)
theorem ivs_get{l:List Int}{i:Nat}{n:Int}(h:l[i]? =some n):(ivs l)[i]? =some (.int .i64 n):=by unfold ivs;rw[List.getElem?_map,h];rfl
theorem same_loop{Q:LV→Prop}{K:LV→OV R}{Ko:Unit→OV R}{Kr:Bool→OV R}{a b:List Int}(hl:a.length=b.length)(h9:a.length≤9000)(hKo:a=b→W Q K (Ko ()))(hKr:a≠b→W Q K (Kr false)):
 ∀(j m:Nat),a.length-m<j→m≤a.length→(∀i,i<m→a[i]? =b[i]?)→W Q K (l13_0g G k Ko Kr j (ivs a) (ivs b) m)
 |0,m,h1,h2,h3=>by omega
 |j+1,m,h1,h2,h3=>by
  show W Q K (b13_0 G k (l13_0g G k Ko Kr j) Ko Kr (ivs a) (ivs b) m)
  unfold b13_0
  simp only[ivs_len]
  refine W_dec (fun h=> ?_) (fun h=>hKo (List.ext_getElem? fun i=> ?_))
  ·obtain⟨x,hx⟩:∃x,a[m]? =some x:=⟨_,List.getElem?_eq_getElem (by omega)⟩
   obtain⟨y,hy⟩:∃y,b[m]? =some y:=⟨_,List.getElem?_eq_getElem (by omega)⟩
   refine W_and (W_yes (by omega) (W_yes (by omega) (W_nth (by rw[ivs_len];omega) (fun v hv _=> ?_))))
   rw[Int.toNat_natCast,ivs_get hx,Option.some.injEq]at hv;rw[←hv]
   refine W_aI (W_and (W_yes (by omega) (W_yes (by omega) (W_nth (by rw[ivs_len];omega) (fun v hv _=> ?_)))))
   rw[Int.toNat_natCast,ivs_get hy,Option.some.injEq]at hv;rw[←hv]
   refine W_aI ?_
   by_cases e:x=y
   ·subst e
    refine W_chk' (by simp) ?_
    rw[wrap_id (n:=(m:Int)+1) (by omega)]
    refine same_loop hl h9 hKo hKr j (m+1) (by omega) (by omega) (fun i hi=> ?_)
    by_cases hm:i=m
    ·rw[hm,hx,hy]
    ·exact h3 i (by omega)
   ·refine W_chk (by simp[e]) (hKr fun he=> ?_)
    rw[he,hy]at hx;injection hx with hx;exact e hx.symm
  ·by_cases hi:i<m
   ·exact h3 i hi
   ·rw[List.getElem?_eq_none (by omega),List.getElem?_eq_none (by omega)]
theorem same_ok(hk:10000≤k):SameOK (fun _ args (K:LV→OV R)=>g13 G k args K):=by
 intro a b K h9
 show W _ K (f13 G k (ivs a) (ivs b) K)
 unfold f13
 simp only[ivs_len]
 by_cases hl:a.length=b.length
 ·refine W_chk' (by simp[hl]) ?_
  unfold l13_0
  exact same_loop (Q:=fun o=>o=[.bool (decide (a=b))]) (K:=K) (Ko:=fun _=>K [.bool true]) (Kr:=fun x=>K [.bool x]) hl h9 (fun e=>W_ret (by rw[decide_eq_true e])) (fun e=>W_ret (by rw[decide_eq_false e])) k 0 (by omega) (by omega) (fun i hi=>by omega)
 ·refine W_chk (by simp;omega) (W_ret ?_)
  rw[decide_eq_false (fun h=>hl (by rw[h]))]
end
set_option maxHeartbeats 4000000
theorem at_oesC{h:Hp}{ro:Nat→Prop}{d:Bool}{c:Array Value}:∀{zs:List Int} {off:Nat},(∀j (n:Int),zs[j]? =some n→c[off+j]? =some (.int .i64 n))→OEs h ro d (zs.map fun n=>V.int .i64 n) c off 1 []
 | [],off,_=>rfl
 |a::zs,off,hj=>by
  have h0:=hj 0 a (by simp)
  rw[Nat.add_zero]at h0
  have hs:seg c off 1=[.int .i64 a]:=by
   apply List.ext_getElem?
   intro i
   rw[seg_getElem]
   cases i with
   |zero=>simp[h0]
   |succ i=>simp
  exact⟨[],[],rfl,by rw[hs];rfl,⟨hs,rfl⟩,at_oesC fun j n hjn=>by
   have:=hj (j+1) n (by simpa using hjn)
   rw[show off+1+j=off+(j+1)by omega];exact this⟩
theorem lib_ok{P:Program}{EE:FuncId→Env}{f:FuncId}{fn:Func}{sg:Sig}{vs:LV}{v:V}{m:M}{kd:Kd}{t:Nat}(hf:P.funcs[rf f]? =some fn)(hsg:(EE f).sig f=some sg)(hn:(fn.name== "runtime.NumGoroutine")=false)(hb:fn.body.isNone=false)
 (hl:sg.params.length≤fn.ntmps) (hbx:sg.boxes=[]) (ho:sg.outs=[(m,kd)]) (hp:sg.pan=false) (hio:sg.io=false) (hr:fn.results= #[.tmp t]) (ht:t<fn.ntmps) (hm:m.gives m=true) (hlen:(initP sg.params vs).1.length≤fn.ntmps)
 (H:∀(fr:Fr) (w:World) (g:Gh) (args:Array Value),Sim fr (initSt sg fn.ntmps vs) ⟨args++Array.replicate (fn.ntmps-args.size) undef,[]⟩ w g []→args.size=sg.params.length→fr.w0=w→(∀f',FrT (EE f').tab fr)→
   Calls P (rf f) args w fun e w'=>∃r fp,e= .returned r∧RW w'.heap g.ro m v r fp∧fp.Nodup∧(∀x∈fp,x<w'.heap.size∧(g.ow x≠ .none∨w.heap.size≤x))∧(∀x,x<w.heap.size→g.ow x= .none→w'.heap[x]? =w.heap[x]?)∧w.heap.size≤w'.heap.size∧Same w w'):
 CallOK P EE f vs [v]:=by
 refine⟨fn,sg,hf,hsg,hn,hb,hl,fun e=>(by rw[hio]at e;cases e),fun _ fr w g args hs hw hbs hsz hft=> ?_⟩
 subst hw
 refine(H fr fr.w0 g args hs hsz rfl hft).mono fun e w' h=> ?_
 obtain⟨r,fp,rfl,h1,h2,h3,h4,h5,h6⟩:=h
 have hnb:∀b,(initSt sg fn.ntmps vs).bx b=none:=fun b=>by
  have e:initSt sg fn.ntmps vs=⟨(initP sg.params vs).1++List.replicate (fn.ntmps-(initP sg.params vs).1.length) (.undef,0),initB sg.boxes (initP sg.params vs).2++List.replicate fn.ntmps none⟩:=rfl
  rw[e,hbx,bx_eq]
  simp only[initB,List.nil_append,List.getElem?_replicate]
  split<;>rfl
 let S':St:=⟨(List.replicate fn.ntmps (Sl.undef,0)).set t (.one v m,0),(initSt sg fn.ntmps vs).boxes⟩
 let a':Act:=⟨(Array.replicate fn.ntmps undef).setIfInBounds t r,[]⟩
 let g':Gh:=⟨g.ro,fun x=>if x∈fp then .loc (.s t)else .none,fun l=>if l= .s t then fp else[],fun _=>none⟩
 have hst:S'.tmps[t]? =some (.one v m,0):=by simp[S',ht]
 have hs0:(S'.sl t).1= .one v m:=by
  show(S'.tmps.getD t (Sl.undef,0)).1=_
  rw[List.getD_eq_getElem?_getD,hst];rfl
 refine⟨S',a',g',[v],⟨hs.defers,by simp[a',S'],fun s x hx=> ?_,fun b cs hc=> ?_,fun b _=>rfl,fun l x hx=> ?_,fun l=> ?_,fun b x hx=>(by cases hx),fun x hx=>(by cases hx),.nil,fun x hx=> ?_,fun x hx=>Nat.lt_of_lt_of_le (hs.rolt x hx) h5,hs.ro0,hs.ro1,fun x hx hw=> ?_,h5,h6.os,h6.tape,h6.output,?_,fun b β hb=> ?_⟩,?_,?_,?_⟩
 ·by_cases e:s=t
  ·subst e
   rw[hst]at hx
   cases hx
   refine⟨r,by simp[a',ht],?_⟩
   have hfp:g'.fp (.s s)=fp:=by simp only[g',if_true]
   rw[hfp]
   show OneR w'.heap g' v m r fp
   cases m with
   |pt=>cases hm
   |_=>exact h1
  ·have hl2:s<fn.ntmps:=by
    have:=(List.getElem?_eq_some_iff.1 hx).1
    simpa [S']using this
   have hx2:x=(Sl.undef,0):=by
    simp only[S']at hx
    rw[List.getElem?_set_ne (fun k=>e k.symm),List.getElem?_replicate,if_pos hl2]at hx
    exact(Option.some.inj hx).symm
   subst hx2
   refine⟨undef,by simp[a',hl2,Array.getElem?_setIfInBounds,Ne.symm e,fun k:t=s=>e k.symm],?_⟩
   show(if Lo.s s=Lo.s t then fp else[])=[]
   rw[if_neg (fun k=>e (by injection k))]
 ·have:(initSt sg fn.ntmps vs).bx b=some cs:=hc
  rw[hnb b]at this;cases this
 ·simp only[g']at hx ⊢
  by_cases e:l= .s t
  ·subst e;rw[if_pos rfl]at hx;rw[if_pos hx]
  ·rw[if_neg e]at hx;cases hx
 ·simp only[g']
  split
  ·exact h2
  ·exact .nil
 ·simp only[g']at hx
  by_cases e:x∈fp
  ·obtain⟨k1,k2⟩:=h3 x e
   rcases k2 with k2|k2
   ·obtain⟨q1,q2,q3⟩:=hs.free x k2
    exact⟨q1,k1,q3⟩
   ·exact⟨fun k=>Nat.not_lt.2 k2 (hs.rolt x k),k1,.inl k2⟩
  ·rw[if_neg e]at hx;exact(hx rfl).elim
 ·refine h4 x hx ?_
  cases ho:g.ow x with
  |none=>rfl
  |_=>
   rcases(hs.free x (by rw[ho];exact fun k=>by cases k)).2.2 with k|k
   ·exact absurd hx (Nat.not_lt.2 k)
   ·exact absurd k hw
 ·have e:=hs.bl
  have e1:(initSt sg fn.ntmps vs).tmps.length=fn.ntmps:=by
   show((initP sg.params vs).1++List.replicate (fn.ntmps-(initP sg.params vs).1.length) (Sl.undef,0)).length=_
   rw[List.length_append,List.length_replicate];omega
  rw[e1]at e
  show _+((List.replicate fn.ntmps (Sl.undef,0)).set t _).length≤_
  rw[List.length_set,List.length_replicate];exact e
 ·have:=hs.bb0 b β hb
  rw[hs.noBox b (hnb b)]at this;cases this
 ·unfold finish
  rw[ho,hr,hbx]
  simp only[List.map_cons,List.map_nil,resPlace,placesOK,List.length_nil,resVs,resV,hs0,hm,outB]
  rfl
 ·simp only[preO,hp,cond_false]
 ·have:(results fn a'.tmps).run P w'= .ok (a'.tmps.getD t undef) w':=by
   rw[results_eq,hr]
   simp[resSem]
  rw[this]
  have:a'.tmps.getD t undef=r:=by simp[a',Array.getD,ht]
  rw[this]
theorem lib_cell{P:Program}{EE:FuncId→Env}{f:FuncId}{fn:Func}{sg:Sig}{vs:LV}{x y:Int}{ty ty0:TypeId}{t:Nat}(hf:P.funcs[rf f]? =some fn)(hsg:(EE f).sig f=some sg)(hn:(fn.name== "runtime.NumGoroutine")=false)(hb:fn.body.isNone=false)
 (hl:sg.params.length≤fn.ntmps) (hbx:sg.boxes=[]) (hp:sg.pan=false) (hio:sg.io=false) (hr:fn.results= #[.cell t ty]) (ht:t<fn.ntmps) (hlen:(initP sg.params vs).1.length≤fn.ntmps)
 (hfin:finish (EE f) fn sg ⟨(List.replicate fn.ntmps (Sl.undef,0)).set t (.one (.ptr 0 0) .pt,0),(List.replicate fn.ntmps none).set 0 (some [⟨.int .u64 x,.pr,0,false⟩,⟨.int .u64 y,.pr,0,false⟩])⟩=some [.agg [.int .u64 x,.int .u64 y]])
 (hres:∀(tm:Array Value) (w:World) (β:Nat),tm.getD t undef= .pointer (some ⟨β,0,none⟩)→w.heap[β]? =some (.cells #[.int .u64 x,.int .u64 y] ty0 (0,0))→(results fn tm).run P w= .ok (.agg #[.int .u64 x,.int .u64 y]) w)
 (H:∀(fr:Fr) (w:World) (g:Gh) (args:Array Value),Sim fr (initSt sg fn.ntmps vs) ⟨args++Array.replicate (fn.ntmps-args.size) undef,[]⟩ w g []→args.size=sg.params.length→fr.w0=w→(∀f',FrT (EE f').tab fr)→
   Calls P (rf f) args w fun e w'=>e= .returned (.agg #[.int .u64 x,.int .u64 y])∧∃β,w.heap.size≤β∧w'.heap[β]? =some (.cells #[.int .u64 x,.int .u64 y] ty0 (0,0))∧(∀x,x<w.heap.size→w'.heap[x]? =w.heap[x]?)∧w.heap.size≤w'.heap.size∧Same w w'):
 CallOK P EE f vs [.agg [.int .u64 x,.int .u64 y]]:=by
 refine⟨fn,sg,hf,hsg,hn,hb,hl,fun e=>(by rw[hio]at e;cases e),fun _ fr w g args hs hw hbs hsz hft=> ?_⟩
 subst hw
 refine(H fr fr.w0 g args hs hsz rfl hft).mono fun e w' h=> ?_
 obtain⟨rfl,β,h2,h3,h4,h5,h6⟩:=h
 have hi:initSt sg fn.ntmps vs=⟨(initP sg.params vs).1++List.replicate (fn.ntmps-(initP sg.params vs).1.length) (.undef,0),initB sg.boxes (initP sg.params vs).2++List.replicate fn.ntmps none⟩:=rfl
 have hnb:∀b,(initSt sg fn.ntmps vs).bx b=none:=fun b=>by
  rw[hi,hbx,bx_eq]
  simp only[initB,List.nil_append,List.getElem?_replicate]
  split<;>rfl
 let S':St:=⟨(List.replicate fn.ntmps (Sl.undef,0)).set t (.one (.ptr 0 0) .pt,0),(List.replicate fn.ntmps none).set 0 (some [⟨.int .u64 x,.pr,0,false⟩,⟨.int .u64 y,.pr,0,false⟩])⟩
 let r:Value:=.pointer (some ⟨β,0,none⟩)
 let a':Act:=⟨(Array.replicate fn.ntmps undef).setIfInBounds t r,[]⟩
 let g':Gh:=⟨g.ro,fun x=>if x=β then .box 0 else .none,fun _=>[],fun b=>if b=0 then some β else none⟩
 have hst:S'.tmps[t]? =some (.one (.ptr 0 0) .pt,0):=by simp[S',ht]
 have hb0:S'.bx 0=some [⟨.int .u64 x,.pr,0,false⟩,⟨.int .u64 y,.pr,0,false⟩]:=by
  rw[bx_eq]
  show(((List.replicate fn.ntmps none).set 0 _)[0]?).getD none=_
  rw[List.getElem?_set_self (by simp;omega)];rfl
 have hbn:∀b,b≠0→S'.bx b=none:=fun b h=>by
  rw[bx_eq]
  show(((List.replicate fn.ntmps none).set 0 _)[b]?).getD none=_
  rw[List.getElem?_set_ne (fun k=>h k.symm),List.getElem?_replicate]
  split<;>rfl
 have hβ:β<w'.heap.size:=(Array.getElem?_eq_some_iff.1 h3).1
 refine⟨S',a',g',[.agg [.int .u64 x,.int .u64 y]],⟨hs.defers,by simp[a',S'],fun s q hx=> ?_,fun b cs hc=> ?_,fun b h=> ?_,fun l x hx=>(by cases hx),fun l=>.nil,fun b q hx=> ?_,fun x hx=>(by cases hx),.nil,fun q hx=> ?_,fun x hx=>Nat.lt_of_lt_of_le (hs.rolt x hx) h5,hs.ro0,hs.ro1,fun x hx _=>h4 x hx,h5,h6.os,h6.tape,h6.output,?_,fun b β' hb'=> ?_⟩,hfin,?_,?_⟩
 ·by_cases e:s=t
  ·subst e
   rw[hst]at hx
   cases hx
   exact⟨r,by simp[a',ht],rfl,.inl ⟨0,0,β,rfl,rfl,rfl⟩⟩
  ·have hl2:s<fn.ntmps:=by
    have:=(List.getElem?_eq_some_iff.1 hx).1
    simpa [S']using this
   have hx2:q=(Sl.undef,0):=by
    simp only[S']at hx
    rw[List.getElem?_set_ne (fun k=>e k.symm),List.getElem?_replicate,if_pos hl2]at hx
    exact(Option.some.inj hx).symm
   subst hx2
   exact⟨undef,by simp[a',hl2,Array.getElem?_setIfInBounds,Ne.symm e,fun k:t=s=>e k.symm],rfl⟩
 ·by_cases e:b=0
  ·subst e
   rw[hb0]at hc
   cases hc
   refine⟨β,_,ty0,rfl,h3,rfl,fun j q hj=> ?_⟩
   match j,hj with
   |0,hj=>cases hj;exact⟨_,rfl,⟨rfl,rfl,rfl,rfl⟩,fun k=>by cases k⟩
   |1,hj=>cases hj;exact⟨_,rfl,⟨rfl,rfl,rfl,rfl⟩,fun k=>by cases k⟩
   |j+2,hj=>simp at hj
  ·rw[hbn b e]at hc;cases hc
 ·show(if b=0 then some β else none)=none
  by_cases e:b=0
  ·subst e;rw[hb0]at h;cases h
  ·rw[if_neg e]
 ·have hx:(if b=0 then some β else none)=some q:=hx
  by_cases e:b=0
  ·subst e
   rw[if_pos rfl]at hx
   cases hx
   show(if β=β then Ow.box 0 else .none)=_
   rw[if_pos rfl]
  ·rw[if_neg e]at hx;cases hx
 ·have hx:(if q=β then Ow.box 0 else .none)≠ .none:=hx
  by_cases e:q=β
  ·subst e
   exact⟨fun k=>Nat.not_lt.2 h2 (hs.rolt q k),hβ,.inl h2⟩
  ·rw[if_neg e]at hx;exact(hx rfl).elim
 ·have e:=hs.bl
  have e1:(initSt sg fn.ntmps vs).tmps.length=fn.ntmps:=by
   show((initP sg.params vs).1++List.replicate (fn.ntmps-(initP sg.params vs).1.length) (Sl.undef,0)).length=_
   rw[List.length_append,List.length_replicate];omega
  have e2:(initSt sg fn.ntmps vs).boxes.length=fn.ntmps:=by
   rw[hi,hbx];simp[initB]
  rw[e1,e2]at e
  show _+((List.replicate fn.ntmps (Sl.undef,0)).set t _).length≤((List.replicate fn.ntmps none).set 0 _).length
  rw[List.length_set,List.length_replicate,List.length_set,List.length_replicate];exact e
 ·have:=hs.bb0 b β' hb'
  rw[hs.noBox b (hnb b)]at this;cases this
 ·simp only[preO,hp,cond_false]
 ·exact hres _ _ β (by simp[a',Array.getD,ht,r]) h3
open Go Go.RowKit Go.Shelf Go.Proofs
attribute [local go_sem] Oper.semAt_some
def tzRen:Go.Shelf.Ren:=⟨fun x=>if x=29 then 28 else 0,fun x=>if x=3 then 3 else if x=4 then 4 else if x=5 then 5 else if x=22 then 25 else if x=25 then 50 else if x=54 then 49 else 0,fun x=>if x=1 then 0 else 0⟩
theorem tzL:Go.Proofs.Lays7.n29 Tryd.prog tzRen:=
 {mixed:=by kernel_rfl,f29:=by kernel_rfl,
  t0:=by kernel_rfl,a0:=fun w=>by kernel_rfl,z0:=fun w=>by kernel_rfl,v0:=fun w=>by kernel_rfl,i0:=by kernel_rfl,
  t3:=by kernel_rfl,a3:=fun w=>by kernel_rfl,z3:=fun w=>by kernel_rfl,v3:=fun w=>by kernel_rfl,i3:=by kernel_rfl,
  t4:=by kernel_rfl,a4:=fun w=>by kernel_rfl,z4:=fun w=>by kernel_rfl,v4:=fun w=>by kernel_rfl,i4:=by kernel_rfl,
  t5:=by kernel_rfl,a5:=fun w=>by kernel_rfl,z5:=fun w=>by kernel_rfl,v5:=fun w=>by kernel_rfl,i5:=by kernel_rfl,
  t22:=by kernel_rfl,a22:=fun w=>by kernel_rfl,z22:=fun w=>by kernel_rfl,v22:=fun w=>by kernel_rfl,i22:=by kernel_rfl,
  t25:=by kernel_rfl,a25:=fun w=>by kernel_rfl,z25:=fun w=>by kernel_rfl,v25:=fun w=>by kernel_rfl,i25:=by kernel_rfl,
  t54:=by kernel_rfl,a54:=fun w=>by kernel_rfl,z54:=fun w=>by kernel_rfl,g1:=by kernel_rfl}
abbrev TT (w:World):Prop:=TabAt 0 Lib.deBruijn64tab w
theorem TT.below{n₀:Nat}{A B:World}(h:TT A)(hb:Below n₀ A B)(hn:0<n₀):TT B:=fun j hj=>(hb.cell (p:=⟨0,j,none⟩) hn).trans (h j hj)
theorem tz_in(n x:Nat)(hx:x<18446744073709551616)(w:World)(h:TT w):CallsIn Fence.wide n Tryd.prog 28 #[.int .u64 x] w fun e w'=>e= .returned (.int .i64 (Lib.ctz 64 x))∧w'=w:=
 callsIn_wide.2 (Any7.bits_TrailingZeros64 tzL x hx w (fun _=>h))
theorem ix0(x y:Value)(w:World):(Instr.index 26 (.agg #[x,y]) (.int .i64 0)).run Tryd.prog w= .ok x w:=by
 unfold Instr.index
 go_simp
theorem ix1(x y:Value)(w:World):(Instr.index 26 (.agg #[x,y]) (.int .i64 1)).run Tryd.prog w= .ok y w:=by
 unfold Instr.index
 go_simp
theorem all1_in(n:Nat)(hn:1≤n)(l Bn n₀ a b:Nat)(ha:a<18446744073709551616)(hb:b<18446744073709551616)(J Jx:List Int→World→Prop)
 (hY:∀pre x W,J pre W→pre.length<(bitsL 0 a++bitsL 64 b).length→YieldAt Fence.wide (n-1) Tryd.prog l #[.int .i64 x] W fun e W'=>
   (e= .returned (.bool true)∧J (pre++[x]) W'∧Below n₀ W W')∨(e= .returned (.bool false)∧Jx (pre++[x]) W'))
 (W:World) (h1:W.cell? ⟨Bn,0,none⟩=some (.int .u64 a)) (h2:W.cell? ⟨Bn,1,none⟩=some (.int .u64 b)) (hg:0<n₀) (hT:TT W) (h0:J [] W):
 CallsIn Fence.wide n Tryd.prog 27 #[.func (.yield l) #[] #[],.pointer (some ⟨Bn,0,none⟩)] W fun e W'=>(∃v,e= .returned v)∧
  ((∃ys,ys=bitsL 0 a++bitsL 64 b∧J ys W')∨(∃pre,pre<+:bitsL 0 a++bitsL 64 b∧Jx pre W')):=by
 refine callsIn_of_wp Tryd.func27 rfl trivial ?_ rfl
 simp only[Tryd.ntmps27,List.size_toArray,List.length_cons,List.length_nil,Nat.reduceAdd,Nat.reduceSub,Array.replicate_succ,Array.replicate_zero,List.push_toArray,List.append_toArray,List.nil_append,List.cons_append]
 gi_wp2
 gi_loopw [7] (fun i wr=>∃(k:Nat) (pre rest:List Int),k≤2∧i= .int .i64 k∧bitsL 0 a++bitsL 64 b=pre++rest∧rest=(if k=0 then bitsL 0 a++bitsL 64 b else if k=1 then bitsL 64 b else[])∧J pre wr∧TT wr)
  (fun i _=>2-(intOf i).toNat)
 case atStart=>exact⟨0,[],_,by omega,rfl,rfl,rfl,h0,hT⟩
 case round=>
  obtain⟨k,pre,rest,hk,rfl,hx,hr,hJ,hTr⟩:=hrel
  have e0:((0:Nat):Int)=0:=rfl
  have e1:((1:Nat):Int)=1:=rfl
  have e2:((2:Nat):Int)=2:=rfl
  rcases(show k=0∨k=1∨k=2 by omega)with rfl|rfl|rfl
  ·simp only[e0]
   gi_wp2
   rw[ix0]
   gi_wp2
   gi_loopw [4] (fun v wr=>∃(c:Nat) (pre2:List Int),v= .int .u64 c∧c<18446744073709551616∧bitsL 0 a++bitsL 64 b=pre2++(bitsL 0 c++bitsL 64 b)∧J pre2 wr∧TT wr)
    (fun v _=>(intOf v).toNat)
   case atStart=>exact⟨_,pre,rfl,by assumption,by rw[hr]at hx;simpa using hx,hJ,hTr⟩
   case round=>
    obtain⟨c,pre2,rfl,hc,hx2,hJ2,hT2⟩:=hrel
    by_cases hc0:c=0
    ·subst hc0
     simp only[e0]
     gi_wp2
     exact⟨⟨1,pre2,bitsL 64 b,by omega,rfl,by rw[hx2,bitsL_zero];rfl,by simp,hJ2,hT2⟩,by simp[intOf]⟩
    ·obtain⟨st1,st2,st3⟩:=bitsL_step (o:=0) hc0 hc
     obtain⟨fn,tmps,assign,body,hy,hR⟩:=hY pre2 ((Lib.ctz 64 c:Nat):Int) wr hJ2 (by rw[hx2,st1];simp)
     gi_wp2_with (refine⟨trivial,?_⟩;gi_at_call 28;refine(tz_in (n-1) c hc _ hT2).mono ?_;rintro e w' ⟨rfl,rfl⟩)
     refine hR.mono ?_
     rintro e W3 (⟨rfl,hJ3,hk3⟩|⟨rfl,hJx3⟩)
     ·have hT3:=TT.below hT2 hk3 hg
      gi_wp2
      rw[show bits BinOp.and IntKind.u64 (c:Int) ((c:Int)-1)=((c &&&(c-1):Nat):Int)by rw[show(c:Int)-1=((c-1:Nat):Int)by omega,u64_and_nat c (c-1) hc (by omega)]]
      exact⟨⟨c &&&(c-1),pre2++[((Lib.ctz 64 c:Nat):Int)],rfl,by omega,by rw[hx2,st1];simp,hJ3,hT3⟩,by simp[intOf];omega⟩
     ·gi_wp2
      refine bodyPost_ret (results_none rfl _ _ _) rfl ?_
      exact⟨⟨_,rfl⟩,.inr ⟨pre2++[((Lib.ctz 64 c:Nat):Int)],by rw[hx2,st1];simp,hJx3⟩⟩
  ·simp only[e1]
   gi_wp2
   rw[ix1]
   gi_wp2
   gi_loopw [4] (fun v wr=>∃(c:Nat) (pre2:List Int),v= .int .u64 c∧c<18446744073709551616∧bitsL 0 a++bitsL 64 b=pre2++(bitsL 64 c++[])∧J pre2 wr∧TT wr)
    (fun v _=>(intOf v).toNat)
   case atStart=>exact⟨_,pre,rfl,by assumption,by rw[hr]at hx;simpa using hx,hJ,hTr⟩
   case round=>
    obtain⟨c,pre2,rfl,hc,hx2,hJ2,hT2⟩:=hrel
    by_cases hc0:c=0
    ·subst hc0
     simp only[e0]
     gi_wp2
     exact⟨⟨2,pre2,[],by omega,rfl,by rw[hx2,bitsL_zero];rfl,by simp,hJ2,hT2⟩,by simp[intOf]⟩
    ·obtain⟨st1,st2,st3⟩:=bitsL_step (o:=64) hc0 hc
     obtain⟨fn,tmps,assign,body,hy,hR⟩:=hY pre2 (64+((Lib.ctz 64 c:Nat):Int)) wr hJ2 (by rw[hx2,st1];simp)
     gi_wp2_with (refine⟨trivial,?_⟩;gi_at_call 28;refine(tz_in (n-1) c hc _ hT2).mono ?_;rintro e w' ⟨rfl,rfl⟩)
     refine hR.mono ?_
     rintro e W3 (⟨rfl,hJ3,hk3⟩|⟨rfl,hJx3⟩)
     ·have hT3:=TT.below hT2 hk3 hg
      gi_wp2
      rw[show bits BinOp.and IntKind.u64 (c:Int) ((c:Int)-1)=((c &&&(c-1):Nat):Int)by rw[show(c:Int)-1=((c-1:Nat):Int)by omega,u64_and_nat c (c-1) hc (by omega)]]
      exact⟨⟨c &&&(c-1),pre2++[(64+((Lib.ctz 64 c:Nat):Int))],rfl,by omega,by rw[hx2,st1];simp,hJ3,hT3⟩,by simp[intOf];omega⟩
     ·gi_wp2
      refine bodyPost_ret (results_none rfl _ _ _) rfl ?_
      exact⟨⟨_,rfl⟩,.inr ⟨pre2++[(64+((Lib.ctz 64 c:Nat):Int))],by rw[hx2,st1];simp,hJx3⟩⟩
  ·simp only[e2]
   gi_wp2
   go_end0
   have hr:rest=[]:=by simpa using hr
   subst hr
   exact⟨⟨_,rfl⟩,.inl ⟨pre,by simp[hx],hJ⟩⟩
theorem all_in(n a b:Nat)(w:World):
 CallsIn Fence.wide n Tryd.prog 11 #[.agg #[.int .u64 a,.int .u64 b]] w fun e w'=>e= .returned (.func (.func 27) #[] #[.pointer (some ⟨w.heap.size,0,none⟩)])∧w'=w.alloc (.cells #[.int .u64 a,.int .u64 b] 28):=by
 refine callsIn_of_wp Tryd.func11 rfl trivial ?_ rfl
 simp only[Tryd.ntmps11,List.size_toArray,List.length_cons,List.length_nil,Nat.reduceAdd,Nat.reduceSub,Array.replicate_succ,Array.replicate_zero,List.push_toArray,List.append_toArray,List.nil_append,List.cons_append]
 gi_wp2
 go_ret
 exact⟨rfl,rfl⟩
theorem all_stops(n:Nat)(hn:1≤n)(Bn n₀ a b:Nat)(ha:a<18446744073709551616)(hb:b<18446744073709551616)(w:World)(hBn:Bn<w.heap.size)(hn₀:n₀≤w.heap.size)(h1:w.cell? ⟨Bn,0,none⟩=some (.int .u64 a))(h2:w.cell? ⟨Bn,1,none⟩=some (.int .u64 b))(hg:0<n₀)(hT:TT w):
 SeqStopsK Fence.wide n Tryd.prog 27 #[.pointer (some ⟨Bn,0,none⟩)] (fun x:Int=> #[Value.int .i64 x]) (Below n₀) (fun ys=>ys=bitsL 0 a++bitsL 64 b) (fun pre=>pre<+:bitsL 0 a++bitsL 64 b) (bitsL 0 a++bitsL 64 b).length w:=fun l J Jx W hW _ _ hY h0=>
 all1_in n hn l Bn n₀ a b ha hb J Jx hY W ((hW.cell (p:=⟨Bn,0,none⟩) hBn).trans h1) ((hW.cell (p:=⟨Bn,1,none⟩) hBn).trans h2) hg (TT.below hT hW (by omega)) h0
theorem info3:(Tryd.prog.info? 3).map (fun i=>(i.zero,i.size,i.bytes))=some (some (.int .i64 0),1,8):=by kernel_rfl
theorem bitsL_len{o w:Nat}:(bitsL o w).length≤64:=by
 unfold bitsL
 rw[List.length_map]
 exact Nat.le_trans (List.length_filter_le _ _) (by simp)
theorem list_in(n:Nat)(hn:3≤n)(a b:Nat)(ha:a<18446744073709551616)(hb:b<18446744073709551616)(w:World)(hT:TT w)(h0:0<w.heap.size):
 CallsIn Fence.wide n Tryd.prog 12 #[.agg #[.int .u64 a,.int .u64 b]] w fun e W'=>∃v,e= .returned v∧W'.ownsRow w.heap.size 3 1 v (bitsL 0 a++bitsL 64 b).length ((bitsL 0 a++bitsL 64 b).map (Value.int .i64))∧Below w.heap.size w W':=by
 have h1:1≤n:=by omega
 have hlen:(bitsL 0 a++bitsL 64 b).length≤128:=by
  rw[List.length_append]
  have:=bitsL_len (o:=0) (w:=a)
  have:=bitsL_len (o:=64) (w:=b)
  omega
 obtain⟨i0,hi,hz0,hz1,hz2⟩:=info_parts info3
 refine callsIn_of_wp_marks Tryd.func12 rfl trivial ?_ rfl
 simp only[Tryd.ntmps12,List.size_toArray,List.length_cons,List.length_nil,Nat.reduceAdd,Nat.reduceSub,Array.replicate_succ,Array.replicate_zero,List.push_toArray,List.append_toArray,List.nil_append,List.cons_append]
 gi_wp2_with (refine⟨trivial,?_⟩;gi_at_call 11;refine(all_in (n-1) a b _).mono ?_;rintro e w' ⟨rfl,rfl⟩)
 have hcell:∀(W:World) (c:Array Value) (ty:TypeId) (j:Nat) (v:Value),c[j]? =some v→(W.alloc (.cells c ty)).cell? ⟨W.heap.size,j,none⟩=some v:=fun W c ty j v h=>by
  have e:(W.alloc (.cells c ty)).heap[W.heap.size]? =some (.cells c ty):=Array.getElem?_push_size
  simp only[World.cell?,e]
  simpa using h
 have bO:=Boxed.new (w.alloc (.cells #[.int .u64 a,.int .u64 b] 28)) 22 (.slice none 0 0)
 have c0:=hcell ((w.alloc (.cells #[.int .u64 a,.int .u64 b] 28)).alloc (.cells #[.slice none 0 0] 22)) #[.int .u64 a,.int .u64 b] 28 0 _ rfl
 have c1:=hcell ((w.alloc (.cells #[.int .u64 a,.int .u64 b] 28)).alloc (.cells #[.slice none 0 0] 22)) #[.int .u64 a,.int .u64 b] 28 1 _ rfl
 rw[World.size_alloc]at bO
 rw[World.size_alloc,World.size_alloc]at c0 c1
 have hB0:Below w.heap.size w (((w.alloc (.cells #[.int .u64 a,.int .u64 b] 28)).alloc (.cells #[.slice none 0 0] 22)).alloc (.cells #[.int .u64 a,.int .u64 b] 28)):=(((Below.refl _ w).alloc (Nat.le_refl _) _).alloc (by simp) _).alloc (by simp;omega) _
 refine wpIn_rangeFunc_ownG rfl h1 (gf:=27) (lb:= #[.pointer (some ⟨w.heap.size+1+1,0,none⟩)]) rfl trivial (enters_of Tryd.func27 (by kernel_rfl) rfl)
  (all_stops (n-1) (by omega) (w.heap.size+1+1) w.heap.size a b ha hb _ (by simp) (by simp;omega) c0 c1 h0 (TT.below hT hB0 h0)) belowK_t (belowK_b (by simp;omega)) (Below.refl _ _) (fun _=>rfl)
  (fun pre W=>(∃v,Boxed W (w.heap.size+1) 22 v∧W.ownsRow w.heap.size 3 1 v pre.length (pre.map (Value.int .i64))∧True)∧Below w.heap.size w W)
  (fun _ _ _=>False)
  (OwnFrom.and (Own.from (holdsRow_own w.heap.size (w.heap.size+1) 22 3 1 (fun pre:List Int=>pre.length) (fun pre=>pre.map (Value.int .i64)) (fun pre v=>True)) _) (ownFrom_below (Nat.le_refl _) (by simp;omega)))
  (fun _ _ _ _ _ hs _ _=>hs)
  ⟨⟨_,bO.alloc _,World.ownsRow_nil _ _ _ _,trivial⟩,hB0⟩
  (fun x=>{tmps:= #[.agg #[.int .u64 a,.int .u64 b],.pointer (some ⟨w.heap.size,0,none⟩),.slice none 0 0,.pointer (some ⟨w.heap.size+1,0,none⟩),.int .i64 x,.agg #[.int .u64 a,.int .u64 b],.func (.func 27) #[] #[.pointer (some ⟨w.heap.size+1+1,0,none⟩)],.int .i64 x,undef,undef,undef,undef,undef],defers:=[]}) ?assign ?body ?done ?stop
 case assign=>
  intro l x W K hK
  gi_wp2
  exact hK
 case body=>
  rintro l pre x W ⟨⟨v,hv,hrow,_⟩,hB⟩ hlt
  have hc:=hv.cell
  have hpl:pre.length<128:=by omega
  gi_wp2_with (gi_at_builtin;refine wpListIn_append_own _ rfl _ _ 22 rfl w.heap.size 3 i0 (.int .i64 0) 1 8 Tryd.underlying22 hi hz0 hz1 hz2 rfl (by decide) _ _ _ rfl (hrow.alloc _) ⟨W.heap.size,0,none⟩ 1 1 [.int .i64 x] rfl rfl (cell_one_new _ _ _) (by simp[Value.oneCell']) (by unfold maxLen;omega) (by omega) (by have:=hB.size;simp;omega) ?_;intro v' w1 hown' hgrow _;obtain⟨g',cap',rfl⟩:=ownsRow_succ hown';obtain⟨hv1,hv2,hr2,hk2,hb2⟩:=hv.appended (by decide) hrow hB.size (Nat.le_succ _) hown' hgrow;have hc1:=hv1.cell;have hf1:=hv1.frozen)
  exact⟨hk2.from _,hb2,⟨_,hv2,by simpa using hr2,trivial⟩,hB.trans hb2⟩
 case done=>
  rintro D ys W hD rfl ⟨⟨v,hv,hrow,_⟩,hB⟩ hK
  have hc:=hv.cell
  gi_wp2
  refine⟨by simp,.inl ⟨_,_,rfl,run_takeDeferred hK,?_⟩⟩
  exact⟨_,results_tmp rfl _ _ _,v,rfl,ownsRow_putObj hrow _ hK rfl,hB.trans (belowK_b (w:=w) (Nat.le_refl _) W D _ _ (by simp at hD;omega) hK rfl rfl)⟩
 case stop=>
  rintro D c pre W _ _ h _
  exact h.elim
theorem tab_TT{fr:Fr}(h:∀f',FrT (TAB.env f').tab fr):TT fr.w0∧0<fr.w0.heap.size:=by
 obtain⟨⟨c,ty,fz,h1,h2⟩,_⟩:=h 0 0 (Lib.deBruijn64tab.map fun n:Nat=>.int .u8 (n:Int)) rfl
 refine⟨fun j hj=> ?_,(Array.getElem?_eq_some_iff.1 h1).1⟩
 simp only[World.cell?,h1]
 have:=h2 j (.int .u8 (Lib.deBruijn64tab.getD j 0)) (by
  rw[List.getElem?_map,List.getElem?_eq_getElem hj,List.getD_eq_getElem?_getD,List.getElem?_eq_getElem hj];rfl)
 simpa using this
theorem set_slot{fr:Fr}{S:St}{a:Act}{w:World}{g:Gh}{t:Nat}{x y:Int}(hs:Sim fr S a w g [])(h:S.tmps[t]? =some (.one (.agg [.int .u64 x,.int .u64 y]) .ro,0)):a.tmps[t]? =some (.agg #[.int .u64 x,.int .u64 y]):=by
 obtain⟨r,e,o⟩:=hs.slots t _ h
 obtain⟨rs,rfl,o2⟩:=(show∃rs,r= .agg rs∧RM w.heap g.ro .ro (.agg [.int .u64 x,.int .u64 y]) rs.toList (g.fp (.s t))from o)
 obtain⟨q1,q2,e1,_,e2,q3,q4,e3,_,e4,e5⟩:=(show REl w.heap g.ro (.agg [.int .u64 x,.int .u64 y]) rs.toList from o2.1)
 rw[e]
 have e2:[q1]=[.int .u64 x]:=e2
 have e4:[q3]=[.int .u64 y]:=e4
 have e5:q4=[]:=e5
 subst e5
 injection e2 with e2 _
 injection e4 with e4 _
 subst e2;subst e4
 rw[e3]at e1
 congr 2
 exact Array.ext' (by rw[e1])
theorem list_ok{x y:Nat}(hx:x<18446744073709551616)(hy:y<18446744073709551616):
 CallOK Tryd.prog TAB.env 12 [.agg [.int .u64 x,.int .u64 y]] [.sl 1 ((bitsL 0 x++bitsL 64 y).map fun n=>V.int .i64 n)]:=by
 refine lib_ok (fn:=Tryd.f12) (sg:=S12) (m:=.own true) (t:=2) (by kernel_rfl) (by kernel_rfl) (by kernel_rfl) (by kernel_rfl) (by decide) rfl rfl rfl rfl rfl (by decide) rfl (show 1≤Tryd.f12.ntmps by decide) fun fr w g args hs hsz hw hft=> ?_
 have hsz:args.size=1:=hsz
 have e0:=set_slot (t:=0) hs rfl
 have ha:args= #[.agg #[.int .u64 x,.int .u64 y]]:=by
  have:args[0]? =some (.agg #[.int .u64 x,.int .u64 y]):=by
   have e0:(args++Array.replicate (Tryd.f12.ntmps-args.size) undef)[0]? =some (.agg #[.int .u64 x,.int .u64 y]):=e0
   rw[Array.getElem?_append_left (by omega)]at e0;exact e0
  apply Array.ext_getElem?
  intro k
  by_cases k0:k=0
  ·subst k0;rw[this];rfl
  ·rw[Array.getElem?_eq_none (by omega),Array.getElem?_eq_none (by simp;omega)]
 rw[ha]
 subst hw
 obtain⟨hT,h0⟩:=tab_TT hft
 refine(callsIn_wide.1 (list_in 3 (Nat.le_refl _) x y hx hy fr.w0 hT h0)).mono fun e w' h=> ?_
 obtain⟨v,rfl,hrow,hB⟩:=h
 have keep:∀x,x<fr.w0.heap.size→w'.heap[x]? =fr.w0.heap[x]? :=fun x hx=>hB.block x hx
 generalize hzs:bitsL 0 x++bitsL 64 y=zs at hrow
 obtain⟨r1,r2⟩:=hrow
 have same:Same fr.w0 w':=⟨hB.os,hB.tape,hB.output⟩
 rcases r2 with⟨rfl,r2⟩|⟨b,cap,cur,rfl,r3,r4,r5,r6,r7,r8⟩
 ·have:zs=[]:=List.length_eq_zero_iff.1 r2
  subst this
  exact⟨_,[],rfl,⟨none,0,0,rfl,rfl,by decide,rfl,rfl⟩,.nil,fun x hx=>(by cases hx),fun x hx _=>keep x hx,hB.size,same⟩
 ·have hlt:b<w'.heap.size:=(Array.getElem?_eq_some_iff.1 r4).1
  refine⟨_,[b],rfl,⟨some ⟨b,0,none⟩,zs.length,cap,rfl,by rw[List.length_map],⟨r5,Nat.le_trans r6 (by decide)⟩,rfl,cur,_,r4,by simp only[Nat.mul_one]at r7 ⊢;omega,[],rfl,?_⟩,by simp,fun x hx=> ?_,fun x hx _=>keep x hx,hB.size,same⟩
  ·simp only[if_true]
   refine at_oesC fun j n hj=> ?_
   have hl:j<zs.length:=(List.getElem?_eq_some_iff.1 hj).1
   have e:=congrArg (fun l:List Value=>l[j]?) r8
   simp only[List.getElem?_take,List.getElem?_map,hj]at e
   rw[if_pos (by omega)]at e
   rw[Nat.zero_add,←Array.getElem?_toList]
   simpa using e
  ·simp only[List.mem_singleton]at hx
   subst hx
   exact⟨hlt,.inr r3⟩
def g12{R:Type}(G:ORC R)(k:Nat)(args:LV)(K:LV→OV R):OV R:=match args with
 | [.agg [.int .u64 x,.int .u64 y]]=>bif decide (0≤x)&&decide (x<18446744073709551616)&&decide (0≤y)&&decide (y<18446744073709551616)then K [.sl 1 ((bitsL 0 x.toNat++bitsL 64 y.toNat).map fun n=>V.int .i64 n)]else none
 |_=>none
theorem s12{R:Type}{G:ORC R}{k:Nat}(hG:Sound Tryd.prog TAB G)(args:LV)(K:LV→OV R)(r:R)(h:g12 G k args K=some r):∃o,CallOK Tryd.prog TAB.env 12 args o∧K o=some r:=by
 unfold g12 at h
 split at h
 ·rename_i x y
  cases hc:decide (0≤x)&&decide (x<18446744073709551616)&&decide (0≤y)&&decide (y<18446744073709551616)with
  |false=>rw[hc]at h;cases h
  |true=>
   rw[hc]at h
   simp only[Bool.and_eq_true,decide_eq_true_eq]at hc
   obtain⟨⟨⟨h1,h2⟩,h3⟩,h4⟩:=hc
   have:=list_ok (x:=x.toNat) (y:=y.toNat) (by omega) (by omega)
   rw[Int.toNat_of_nonneg h1,Int.toNat_of_nonneg h3]at this
   exact⟨_,this,h⟩
 ·cases h
abbrev W3 (w:World) (x y u v:Value):World:=((w.alloc (.cells #[x,y] 28)).alloc (.cells #[u,v] 28)).alloc (.cells #[.int .u64 0,.int .u64 0] 28)
theorem top3(w:World)(o1 o2 o3:Obj):(((w.alloc o1).alloc o2).alloc o3).heap[w.heap.size+1+1]? =some o3:=by
 have e:((w.alloc o1).alloc o2).heap.size=w.heap.size+1+1:=by rw[World.size_alloc,World.size_alloc]
 rw[←e];exact Array.getElem?_push_size
theorem not_in(n:Nat)(a b c d:Nat)(w:World):
 CallsIn Fence.wide n Tryd.prog 22 #[.agg #[.int .u64 a,.int .u64 b],.agg #[.int .u64 c,.int .u64 d]] w fun e w'=>e= .returned (.agg #[.int .u64 (bits .andNot .u64 a c),.int .u64 (bits .andNot .u64 b d)])∧Below w.heap.size w w'∧w'.heap[w.heap.size+1+1]? =some (.cells #[.int .u64 (bits .andNot .u64 a c),.int .u64 (bits .andNot .u64 b d)] 28 (0,0)):=by
 refine callsIn_of_wp Tryd.func22 rfl trivial ?_ rfl
 simp only[Tryd.ntmps22,List.size_toArray,List.length_cons,List.length_nil,Nat.reduceAdd,Nat.reduceSub,Array.replicate_succ,Array.replicate_zero,List.push_toArray,List.append_toArray,List.nil_append,List.cons_append]
 gi_wp2
 gi_loopw [9] (fun i wr=>(i= .int .i64 0∧wr=W3 w (.int .u64 a) (.int .u64 b) (.int .u64 c) (.int .u64 d))∨(i= .int .i64 1∧wr=W3 w (.int .u64 (bits .andNot .u64 a c)) (.int .u64 b) (.int .u64 c) (.int .u64 d))∨(i= .int .i64 2∧wr=W3 w (.int .u64 (bits .andNot .u64 a c)) (.int .u64 (bits .andNot .u64 b d)) (.int .u64 c) (.int .u64 d)))
  (fun i _=>2-(intOf i).toNat)
 case atStart=>exact .inl ⟨rfl,rfl⟩
 case round=>
  rcases hrel with⟨rfl,rfl⟩|⟨rfl,rfl⟩|⟨rfl,rfl⟩
  ·gi_wp2
   rw[ix0]
   unfold W3
   gi_wp2
   exact⟨.inr (.inl (by simp)),by simp[intOf]⟩
  ·gi_wp2
   rw[ix1]
   unfold W3
   gi_wp2
   exact⟨.inr (.inr (by simp)),by simp[intOf]⟩
  ·unfold W3
   gi_wp2
   refine bodyPost_ret (results_cell_row rfl _ _ (w.heap.size+1+1) _ _ _ _ rfl (top3 w _ _ _) Tryd.underlying28 rfl (by kernel_rfl)) rfl ?_
   exact⟨rfl,(((Below.refl _ w).alloc (Nat.le_refl _) _).alloc (by simp) _).alloc (by simp;omega) _,top3 w _ _ _⟩
theorem wnot_ok{a b c d:Nat}:
 CallOK Tryd.prog TAB.env 22 [.agg [.int .u64 a,.int .u64 b],.agg [.int .u64 c,.int .u64 d]] [.agg [.int .u64 (bits .andNot .u64 a c),.int .u64 (bits .andNot .u64 b d)]]:=by
 refine lib_cell (fn:=Tryd.f22) (sg:=S22) (t:=4) (ty:=28) (ty0:=28) (by kernel_rfl) (by kernel_rfl) (by kernel_rfl) (by kernel_rfl) (by decide) rfl rfl rfl rfl (by decide) (show 2≤Tryd.f22.ntmps by decide) (by kernel_rfl)
  (fun tm w β h1 h2=>results_cell_row rfl _ _ β _ _ _ _ h1 h2 Tryd.underlying28 rfl (by kernel_rfl)) fun fr w g args hs hsz hw hft=> ?_
 have hsz:args.size=2:=hsz
 have e0:=set_slot (t:=0) hs rfl
 have e1:=set_slot (t:=1) hs rfl
 have key:∀{q:Nat} {r:Value},q<2→(args++Array.replicate (Tryd.f22.ntmps-args.size) undef)[q]? =some r→args[q]? =some r:=fun hq e=>by
  rw[Array.getElem?_append_left (by omega)]at e;exact e
 have q0:=key (by decide) e0
 have q1:=key (by decide) e1
 have ha:args= #[.agg #[.int .u64 a,.int .u64 b],.agg #[.int .u64 c,.int .u64 d]]:=by
  apply Array.ext_getElem?
  intro k
  by_cases k2:k<2
  ·rcases(show k=0∨k=1 by omega)with rfl|rfl
   ·rw[q0];rfl
   ·rw[q1];rfl
  ·rw[Array.getElem?_eq_none (by omega),Array.getElem?_eq_none (by simp;omega)]
 rw[ha]
 refine(callsIn_wide.1 (not_in 0 a b c d w)).mono fun e w' h=> ?_
 obtain⟨rfl,hB,hc⟩:=h
 exact⟨rfl,w.heap.size+1+1,by omega,hc,fun x hx=>hB.block x hx,hB.size,⟨hB.os,hB.tape,hB.output⟩⟩
def g22{R:Type}(G:ORC R)(k:Nat)(args:LV)(K:LV→OV R):OV R:=match args with
 | [.agg [.int .u64 a,.int .u64 b],.agg [.int .u64 c,.int .u64 d]]=>bif decide (0≤a)&&decide (0≤b)&&decide (0≤c)&&decide (0≤d)then K [.agg [.int .u64 (bits .andNot .u64 a c),.int .u64 (bits .andNot .u64 b d)]]else none
 |_=>none
theorem s22{R:Type}{G:ORC R}{k:Nat}(hG:Sound Tryd.prog TAB G)(args:LV)(K:LV→OV R)(r:R)(h:g22 G k args K=some r):∃o,CallOK Tryd.prog TAB.env 22 args o∧K o=some r:=by
 unfold g22 at h
 split at h
 ·rename_i a b c d
  cases hc:decide (0≤a)&&decide (0≤b)&&decide (0≤c)&&decide (0≤d)with
  |false=>rw[hc]at h;cases h
  |true=>
   rw[hc]at h
   simp only[Bool.and_eq_true,decide_eq_true_eq]at hc
   obtain⟨⟨⟨h1,h2⟩,h3⟩,h4⟩:=hc
   have:=wnot_ok (a:=a.toNat) (b:=b.toNat) (c:=c.toNat) (d:=d.toNat)
   rw[Int.toNat_of_nonneg h1,Int.toNat_of_nonneg h2,Int.toNat_of_nonneg h3,Int.toNat_of_nonneg h4]at this
   exact⟨_,this,h⟩
 ·cases h
set_option maxHeartbeats 8000000
theorem ofGo_range{l:List Int}:∀{m:Nat},ofGo l m=((List.range m).filter fun i:Nat=>hasL l (i:Int)).map fun i:Nat=>(i:Int)
 |0=>rfl
 |m+1=>by
  unfold ofGo
  rw[List.range_succ,List.filter_append,List.map_append,ofGo_range (m:=m)]
  congr 1
  rw[List.filter_cons]
  cases hasL l m<;>rfl
theorem range_add{f:Nat→Bool}:(List.range 128).filter f=((List.range' 0 64).filter f)++((List.range' 0 64).filter fun i=>f (64+i)).map fun i=>64+i:=by
 have h:List.range 128=List.range' 0 64++(List.range' 0 64).map fun i=>64+i:=by decide
 rw[h,List.filter_append,List.filter_map];rfl
theorem bits_of{a b:Nat}{l:List Int}(h:SetL a b l):bitsL 0 a++bitsL 64 b=ofL l:=by
 unfold ofL
 rw[ofGo_range,range_add,List.map_append,List.map_map]
 unfold bitsL
 congr 1
 ·have e:((List.range' 0 64).filter fun i:Nat=>hasL l (i:Int))=(List.range' 0 64).filter fun i=>a.testBit i:=by
   apply List.filter_congr
   intro i hi
   rw[List.mem_range'_1]at hi
   have:=h.2.2 i (by omega)
   rw[hasW_lo (by omega)]at this
   exact this.symm
  rw[e]
  apply List.map_congr_left
  intro i _
  show((0+i:Nat):Int)=(i:Int)
  rw[Nat.zero_add]
 ·have e:((List.range' 0 64).filter fun i:Nat=>hasL l ((64+i:Nat):Int))=(List.range' 0 64).filter fun i=>b.testBit i:=by
   apply List.filter_congr
   intro i hi
   rw[List.mem_range'_1]at hi
   have:=h.2.2 (64+i) (by omega)
   rw[hasW_hi]at this
   exact this.symm
  rw[e]
  rfl
theorem hasL_of{l:List Int}{i:Nat}(h:i<128):hasL (ofL l) i=hasL l i:=by
 have e:((i:Int)∈ofL l)↔(i:Int)∈l:=by
  unfold ofL
  rw[mem_ofGo]
  exact⟨fun h=>h.2.2,fun k=>⟨by omega,by omega,k⟩⟩
 unfold hasL
 exact decide_eq_decide.2 e
theorem SetL.of{a b:Nat}{l:List Int}(h:SetL a b l):SetL a b (ofL l):=SetP.congr h fun i hi=>(hasL_of hi).symm
theorem ivs_ex{v:LV}(h:IntsS v):∃l,v=ivs l:=by
 induction v with
 |nil=>exact⟨[],rfl⟩
 |cons x r ih=>
  obtain⟨l,hl⟩:=ih fun y hy=>h y (List.mem_cons_of_mem _ hy)
  obtain⟨n,hn,_⟩:=h x List.mem_cons_self
  exact⟨n::l,by rw[hn,hl];rfl⟩
theorem tb_andNot{a c i:Nat}(hc:c<18446744073709551616)(hi:i<64):(a &&&(18446744073709551615-c)).testBit i=(a.testBit i&& !c.testBit i):=by
 rw[Nat.testBit_and,show 18446744073709551615-c=2^64-(c+1)by omega,Nat.testBit_two_pow_sub_succ hc,decide_eq_true hi,Bool.true_and]
section
variable {R : Type} {G : ORC R} {k : Nat} {K : LV → OV R}
def ListOK(G:ORC R):Prop:=∀(a b:Nat) (l:List Int) (K:LV→OV R),SetL a b l→W (fun o=>o=[.sl 1 (ivs (ofL l))]) K (G 12 [.agg [.int .u64 a,.int .u64 b]] K)
theorem listW_ok:ListOK (fun _ args (K:LV→OV R)=>g12 G k args K):=by
 intro a b l K h
 show W _ K (bif decide (0≤(a:Int))&&decide ((a:Int)<18446744073709551616)&&decide (0≤(b:Int))&&decide ((b:Int)<18446744073709551616)then K [.sl 1 ((bitsL 0 (a:Int).toNat++bitsL 64 (b:Int).toNat).map fun n=>V.int .i64 n)]else none)
 have h1:=h.1
 have h2:=h.2.1
 rw[decide_eq_true (show(0:Int)≤(a:Int)by omega),decide_eq_true (show(a:Int)<18446744073709551616 by omega),decide_eq_true (show(0:Int)≤(b:Int)by omega),decide_eq_true (show(b:Int)<18446744073709551616 by omega),Int.toNat_natCast,Int.toNat_natCast,bits_of h]
 exact W_ret rfl
def FewOK(G:ORC R):Prop:=∀(l:List Int) (K:LV→OV R),W (fun o=>o=[.bool (decide (l.length≤300))]) K (G 8 [.sl 1 (ivs l)] K)
theorem few_ok:FewOK (fun _ args (K:LV→OV R)=>g8 G k args K):=by
 intro l K
 show W _ K (f8 G k (ivs l) K)
 unfold f8
 simp only[ivs_len]
 refine W_ret ?_
 congr 2
 exact decide_eq_decide.2 (by omega)
def KnoOK(G:ORC R):Prop:=∀(K:LV→OV R),W (fun o=>o=[.bool true]) K (G 9 [] K)
end
section
variable {R : Type} {G : ORC R} {k : Nat} {K : LV → OV R}
def WoutOK(G:ORC R):Prop:=∀(a b:Nat) (n:Int) (p:Nat→Bool) (K:LV→OV R),SetP a b p→W (fun o=>∃c d:Nat,o=[.agg [.int .u64 c,.int .u64 d]]∧SetP c d fun i=>p i&& !decide ((i:Int)=n)) K (G 16 [.agg [.int .u64 a,.int .u64 b],.int .i64 n] K)
theorem and_lt{a c:Nat}(ha:a<18446744073709551616):a &&& c<18446744073709551616:=Nat.lt_of_le_of_lt Nat.and_le_left ha
theorem wout_ok(hI:InOK G):WoutOK (fun _ args (K:LV→OV R)=>g16 G k args K):=by
 intro a b n p K hp
 show W _ K (f16 G k a b n K)
 unfold f16
 refine W_call (hI n _) ?_
 rintro _ rfl
 (repeat(with_reducible apply U1))
 by_cases hn:0≤n∧n<128
 ·rw[decide_eq_true hn,cond_true]
  obtain⟨m,rfl⟩:∃m:Nat,n=m:=⟨n.toNat,by omega⟩
  obtain⟨a1,a2,a3⟩:=hp
  by_cases hm:m<64
  ·have hd:IntKind.i64.wrap (Int.tdiv (m:Int) 64)=0:=by
    rw[Int.tdiv_eq_ediv_of_nonneg (by omega),wrap_id (by omega)];omega
   have hq:Int.tmod (m:Int) 64=((m:Nat):Int):=by rw[Int.tmod_eq_emod_of_nonneg (by omega)];omega
   have hlt:2^m<18446744073709551616:=Nat.pow_lt_pow_right (a:=2) (by decide) hm
   rw[hd,hq,shl_u64 hm]
   refine W_and (W_yes (by decide) (W_yes (by decide) ?_))
   show W _ K (bif decide (0≤((m:Nat):Int))then aI .u64 (.int .u64 (a:Int)) _ else none)
   refine W_yes (by omega) (W_aI ?_)
   refine W_and (W_yes (by decide) (W_yes (by decide) ?_))
   show W _ K (aI .u64 (.int .u64 (bits .andNot .u64 (a:Int) ((2^m:Nat):Int))) fun n9=>aI .u64 (.int .u64 (b:Int)) _)
   refine W_aI (W_aI (W_ret ?_))
   rw[u64_andNot_nat a (2^m) a1 hlt]
   refine⟨_,_,rfl,and_lt a1,a2,fun i hi=> ?_⟩
   show hasW (a &&&(18446744073709551615-2^m)) b i=(p i&& !decide ((i:Int)=m))
   rw[←a3 i hi]
   by_cases k:i<64
   ·rw[hasW_lo k,hasW_lo k,tb_andNot hlt k,Nat.testBit_two_pow]
    congr 2
    exact decide_eq_decide.2 ⟨fun h=>by omega,fun h=>by omega⟩
   ·have:decide ((i:Int)=m)=false:=decide_eq_false (by omega)
    rw[this,Bool.not_false,Bool.and_true]
    unfold hasW
    rw[decide_eq_false k];rfl
  ·have hd:IntKind.i64.wrap (Int.tdiv (m:Int) 64)=1:=by
    rw[Int.tdiv_eq_ediv_of_nonneg (by omega),wrap_id (by omega)];omega
   have hq:Int.tmod (m:Int) 64=((m-64:Nat):Int):=by rw[Int.tmod_eq_emod_of_nonneg (by omega)];omega
   have hm2:m-64<64:=by omega
   have hlt:2^(m-64)<18446744073709551616:=Nat.pow_lt_pow_right (a:=2) (by decide) hm2
   rw[hd,hq,shl_u64 hm2]
   refine W_and (W_yes (by decide) (W_yes (by decide) ?_))
   show W _ K (bif decide (0≤((m-64:Nat):Int))then aI .u64 (.int .u64 (b:Int)) _ else none)
   refine W_yes (by omega) (W_aI ?_)
   refine W_and (W_yes (by decide) (W_yes (by decide) ?_))
   show W _ K (aI .u64 (.int .u64 (a:Int)) fun n9=>aI .u64 (.int .u64 (bits .andNot .u64 (b:Int) ((2^(m-64):Nat):Int))) _)
   refine W_aI (W_aI (W_ret ?_))
   rw[u64_andNot_nat b (2^(m-64)) a2 hlt]
   refine⟨_,_,rfl,a1,and_lt a2,fun i hi=> ?_⟩
   show hasW a (b &&&(18446744073709551615-2^(m-64))) i=(p i&& !decide ((i:Int)=m))
   rw[←a3 i hi]
   by_cases k:i<64
   ·have:decide ((i:Int)=m)=false:=decide_eq_false (by omega)
    rw[this,Bool.not_false,Bool.and_true,hasW_lo k,hasW_lo k]
   ·obtain⟨j,rfl⟩:∃j,i=64+j:=⟨i-64,by omega⟩
    rw[hasW_hi,hasW_hi,tb_andNot hlt (by omega),Nat.testBit_two_pow]
    congr 2
    exact decide_eq_decide.2 ⟨fun h=>by omega,fun h=>by omega⟩
 ·rw[decide_eq_false hn,cond_false]
  refine W_ret ⟨a,b,rfl,hp.congr fun i hi=> ?_⟩
  rw[decide_eq_false (by omega),Bool.not_false,Bool.and_true]
end
section
variable {R : Type} {G : ORC R} {k : Nat} {K : LV → OV R}
theorem eqI{a b c d:Nat}:(((a:Int)==(c:Int))&&(((b:Int)==(d:Int))&&true))=decide (a=c∧b=d):=by
 by_cases h:a=c∧b=d
 ·obtain⟨rfl,rfl⟩:=h;simp
 ·rw[decide_eq_false h]
  cases h1:((a:Int)==(c:Int))with
  |false=>rfl
  |true=>
   cases h2:((b:Int)==(d:Int))with
   |false=>rfl
   |true=>exact absurd ⟨Int.ofNat.inj (by simpa using h1),Int.ofNat.inj (by simpa using h2)⟩ h
theorem kn_go(hK:KnoOK G):W (fun o=>o=[.bool true]) K (G 9 [] fun o=>uB o fun b r=>unNil r (K [.bool b])):=by
 refine W_call (hK _) ?_
 rintro _ rfl
 (repeat(with_reducible apply U1))
 exact W_ret rfl
end
section
variable {R : Type} {G : ORC R} {k : Nat} {K : LV → OV R}
def NotOK(G:ORC R):Prop:=∀(a b:List Int) (K:LV→OV R),a.length≤9000→b.length≤9000→W (fun o=>o=[.sl 1 (ivs (notL a b))]) K (G 17 [.sl 1 (ivs a),.sl 1 (ivs b)] K)
theorem notL_len{a b:List Int}:(notL a b).length≤a.length:=List.length_filter_le _ _
theorem notL_snoc{a b:List Int}{x:Int}:notL (a++[x]) b=notL a b++if hasL b x then[]else[x]:=by
 unfold notL;rw[List.filter_append,List.filter_cons];cases hasL b x<;>simp
theorem not_loop(hH:HasOK G){Q:LV→Prop}{K:LV→OV R}{Ko:LV→OV R}{a b:List Int}(ha:a.length≤9000)(hb:b.length≤9000)(hKo:W Q K (Ko (ivs (notL a b)))):
 ∀(j m:Nat),a.length-m<j→m≤a.length→W Q K (l17_0g G k Ko j (ivs a) (ivs b) (ivs (notL (a.take m) b)) m)
 |0,m,h1,h2=>by omega
 |j+1,m,h1,h2=>by
  show W Q K (b17_0 G k (l17_0g G k Ko j) Ko (ivs a) (ivs b) (ivs (notL (a.take m) b)) m)
  unfold b17_0
  refine W_dec (fun h=> ?_) (fun h=>by rw[ivs_len]at h;rw[List.take_of_length_le (by omega)];exact hKo)
  rw[ivs_len]at h
  obtain⟨x,hx⟩:=get_ex (l:=a) (m:=m) (by omega)
  have hnl:=notL_len (a:=a.take m) (b:=b)
  rw[List.length_take]at hnl
  unfold HasOK at hH
  refine W_at (by omega) (ivs_atZ hx) (W_aI ?_)
  refine W_call (hH _ _ _ hb) ?_
  rintro _ rfl
  (repeat(with_reducible apply U1))
  have next:∀c,c=ivs (notL (a.take (m+1)) b)→W Q K (l17_0g G k Ko j (ivs a) (ivs b) c (IntKind.i64.wrap ((m:Int)+1))):=fun c hc=>by
   rw[wrap_id (n:=(m:Int)+1) (by omega),hc]
   exact not_loop hH ha hb hKo j (m+1) (by omega) (by omega)
  refine W_not (W_bool (fun hb=>next _ (by rw[take_snoc hx,notL_snoc,hb];simp)) (fun hb=> ?_))
  refine W_at (by omega) (ivs_atZ hx) (W_aI ?_)
  exact W_yes (by rw[ivs_len];omega) (next _ (by rw[take_snoc hx,notL_snoc,hb];simp[ivs]))
theorem not_ok(hk:10000≤k)(hH:HasOK G):NotOK (fun _ args (K:LV→OV R)=>g17 G k args K):=by
 intro a b K ha hb
 show W _ K (f17 G k (ivs a) (ivs b) K)
 unfold f17 l17_0
 exact not_loop (Q:=fun o=>o=[.sl 1 (ivs (notL a b))]) (K:=K) (Ko:=fun x=>K [.sl 1 x]) hH ha hb (W_ret rfl) k 0 (by omega) (by omega)
end
def BoolsS(l:LV):Prop:=∀v∈l,∃b,v= .bool b
theorem hasL_notL{m:List Int}{n i:Int}:hasL (notL m [n]) i=(hasL m i&& !decide (i=n)):=by
 unfold hasL notL
 by_cases h1:i∈m<;>by_cases h2:i=n<;>simp[h1,h2,hasL]
theorem of_notL{m:List Int}{n:Int}(h:m=ofL m):notL m [n]=ofL (notL m [n]):=by
 have e:ofL (notL m [n])=notL (ofL m) [n]:=by
  unfold ofL
  rw[ofGo_range,ofGo_range]
  unfold notL
  rw[List.filter_map,List.filter_filter]
  congr 1
  apply List.filter_congr
  intro i _
  show hasL (notL m [n]) (i:Int)=(!hasL [n] (i:Int)&&hasL m (i:Int))
  rw[hasL_notL,Bool.and_comm]
  congr 2
  unfold hasL
  exact decide_eq_decide.2 (by simp)
 rw[e,←h]
theorem of_of{m:List Int}:ofL m=ofL (ofL m):=by
 have e:=fun l:List Int=>(ofGo_range (l:=l) (m:=128))
 show ofGo m 128=ofGo (ofL m) 128
 rw[e (ofL m)]
 rw[show((List.range 128).filter fun i:Nat=>hasL (ofL m) (i:Int))=(List.range 128).filter fun i:Nat=>hasL m (i:Int)from List.filter_congr fun i hi=>hasL_of (List.mem_range.1 hi)]
 exact e m
section
variable {R : Type} {G : ORC R} {k : Nat} {K : LV → OV R}
def OrOK(G:ORC R):Prop:=∀(a:List Int) (n:Int) (K:LV→OV R),a.length≤8000→W (fun o=>o=[.sl 1 (ivs (ofL (a++[n])))]) K (G 19 [.sl 1 (ivs a),.sl 1 [.int .i64 n]] K)
theorem or_ok(hO:OfOK G):OrOK (fun _ args (K:LV→OV R)=>g19 G k args K):=by
 intro a n K ha
 show W _ K (f19 G k (ivs a) [.int .i64 n] K)
 unfold f19
 refine W_yes (by rw[ivs_len];omega) (W_yes (by simp[ivs_len];omega) ?_)
 rw[show([]++ivs a)++[V.int .i64 n]=ivs (a++[n])by simp[ivs]]
 refine W_call (hO (a++[n]) _ (by simp;omega)) ?_
 rintro _ rfl
 (repeat(with_reducible apply U1))
 exact W_ret rfl
theorem steps_loop(hN:NotOK G)(hW:WithOK G)(hX:WoutOK G)(hR:OrOK G)(hF:WOfOK G)(hS:SameOK G)(hL:ListOK G){Q:LV→Prop}{K:LV→OV R}{Ko:Unit→OV R}{Kr:Bool→OV R}{l:List Int}{w:LV}(hl:l.length≤300)(hw:BoolsS w)(hKo:W Q K (Ko ())):
 ∀(j m c d:Nat) (M:List Int),l.length-m<j→m≤l.length→M=ofL M→SetL c d M→W Q K (l5_0g G k Ko Kr j (ivs l) w (ivs M) m c d)
 |0,m,c,d,M,h1,h2,h3,h4=>by omega
 |j+1,m,c,d,M,h1,h2,h3,h4=>by
  show W Q K (b5_0 G k (l5_0g G k Ko Kr j) Ko Kr (ivs l) w (ivs M) m c d)
  unfold b5_0
  refine W_dec (fun h=> ?_) (fun _=>hKo)
  rw[ivs_len]at h
  obtain⟨z,hz⟩:∃z,l[m]? =some z:=⟨_,List.getElem?_eq_getElem (by omega)⟩
  have hzZ:(ivs l)[((m:Nat):Int).toNat]? =some (.int .i64 z):=by rw[Int.toNat_natCast];exact ivs_at hz
  have hM:M.length≤128:=by rw[h3];exact ofGo_len
  have tl:∀(c' d':Nat) (M':List Int),M'=ofL M'→SetL c' d' M'→W Q K (G 12 [.agg [.int .u64 c',.int .u64 d']] fun o=>uL 1 o fun x r=>unNil r (G 13 [.sl 1 x,.sl 1 (ivs M')] fun o=>uB o fun b r=>unNil r (bif !b then Kr false else G 10 [.sl 1 (ivs M')] fun o=>uA o fun x r'=>uI .u64 x fun n r=>uI .u64 r fun q r=>unNil r (unNil r' (bif !((((c':Nat):Int)==n)&&((((d':Nat):Int)==q)&&true))then Kr false else l5_0g G k Ko Kr j (ivs l) w (ivs M') (IntKind.i64.wrap ((m:Int)+1)) c' d'))))):=fun c' d' M' hn hs=>by
   have hM':M'.length≤128:=by rw[hn];exact ofGo_len
   refine W_call (hL c' d' M' _ hs) ?_
   rintro _ rfl
   (repeat(with_reducible apply U1))
   rw[←hn]
   refine W_call (hS M' M' _ (by omega)) ?_
   rintro _ rfl
   (repeat(with_reducible apply U1))
   refine W_not (W_yes rfl ?_)
   refine W_call (hF M' _ (by omega)) ?_
   rintro _ ⟨p,q,rfl,hpq⟩
   (repeat(with_reducible apply U1))
   rw[eqI,decide_eq_true (SetP.same hs hpq fun i hi=>rfl)]
   rw[wrap_id (n:=(m:Int)+1) (by omega)]
   exact steps_loop hN hW hX hR hF hS hL hl hw hKo j (m+1) c' d' M' (by omega) (by omega) hn hs
  have withs:W Q K (bif decide (0≤((m:Nat):Int))&&decide (((m:Nat):Int)<((ivs l).length:Int))then nthK (ivs l) (Int.toNat (m:Int)) fun e=>aI .i64 e fun n=>G 18 [.agg [.int .u64 c,.int .u64 d],.int .i64 n] fun o=>uA o fun x r'=>uI .u64 x fun n1 r=>uI .u64 r fun n2 r=>unNil r (unNil r' (bif decide (0≤((m:Nat):Int))&&decide (((m:Nat):Int)<((ivs l).length:Int))then nthK (ivs l) (Int.toNat (m:Int)) fun e=>aI .i64 e fun n=>G 19 [.sl 1 (ivs M),.sl 1 [.int .i64 n]] fun o=>uL 1 o fun x2 r=>unNil r (G 12 [.agg [.int .u64 n1,.int .u64 n2]] fun o=>uL 1 o fun x r=>unNil r (G 13 [.sl 1 x,.sl 1 x2] fun o=>uB o fun b r=>unNil r (bif !b then Kr false else G 10 [.sl 1 x2] fun o=>uA o fun x r'=>uI .u64 x fun n r=>uI .u64 r fun q r=>unNil r (unNil r' (bif !((n1==n)&&((n2==q)&&true))then Kr false else l5_0g G k Ko Kr j (ivs l) w x2 (IntKind.i64.wrap ((m:Int)+1)) n1 n2)))))else none))else none):=by
   refine W_at (by omega) hzZ (W_aI ?_)
   refine W_call (hW c d z _ _ h4) ?_
   rintro _ ⟨c',d',rfl,hs⟩
   (repeat(with_reducible apply U1))
   refine W_at (by omega) hzZ (W_aI ?_)
   refine W_call (hR M z _ (by omega)) ?_
   rintro _ rfl
   (repeat(with_reducible apply U1))
   exact tl c' d' _ of_of (SetP.congr hs fun i hi=>by
    show(hasL M i||decide ((i:Int)=z))=hasL (ofL (M++[z])) i
    rw[hasL_of hi,hasL_snoc])
  refine W_dec (fun hm=> ?_) (fun _=>withs)
  obtain⟨b,hb⟩:∃b,w[m]? =some (.bool b):=by
   obtain⟨b,e⟩:=hw w[m] (List.getElem_mem (by omega))
   exact⟨b,by rw[List.getElem?_eq_getElem (by omega),e]⟩
  refine W_at (by omega) (by rw[Int.toNat_natCast];exact hb) (W_asBool (W_bool (fun _=> ?_) (fun _=>withs)))
  refine W_at (by omega) hzZ (W_aI ?_)
  refine W_call (hX c d z _ _ h4) ?_
  rintro _ ⟨c',d',rfl,hs⟩
  (repeat(with_reducible apply U1))
  refine W_at (by omega) hzZ (W_aI ?_)
  refine W_call (hN M [z] _ (by omega) (by simp)) ?_
  rintro _ rfl
  (repeat(with_reducible apply U1))
  exact tl c' d' _ (of_notL h3) (SetP.congr hs fun i hi=>by
   show(hasL M i&& !decide ((i:Int)=z))=hasL (notL M [z]) i
   rw[hasL_notL])
theorem steps_law(hk:10000≤k)(hfw:FewOK G)(hK:KnoOK G)(hN:NotOK G)(hW:WithOK G)(hX:WoutOK G)(hR:OrOK G)(hF:WOfOK G)(hS:SameOK G)(hL:ListOK G)(v w:LV)(K:LV→OV R)(hv:IntsS v)(hw:BoolsS w):W (fun o=>o=[.bool true]) K (f5 G k v w K):=by
 obtain⟨l,rfl⟩:=ivs_ex hv
 unfold f5 l5_0
 refine W_call (hfw l _) ?_
 rintro _ rfl
 (repeat(with_reducible apply U1))
 refine W_not (W_dec (fun ha=> ?_) (fun _=>kn_go hK))
 exact steps_loop (Q:=fun o=>o=[.bool true]) (K:=K) (Ko:=fun _=>G 9 [] fun o=>uB o fun b r=>unNil r (K [.bool b])) (Kr:=fun b=>K [.bool b]) hN hW hX hR hF hS hL ha hw (kn_go hK) k 0 0 0 [] (by omega) (by omega) rfl ⟨by decide,by decide,fun i hi=>by
  show hasW 0 0 i=hasL [] i
  unfold hasW hasL
  by_cases k:i<64<;>simp[k]⟩
end
def ssB(k:Nat)(G:ORC (List V)):ORC (List V):=fun f args K=>match f with
    |5=>g5 G k args K
    |8=>g8 G k args K
    |9=>g9 G k args K
    |10=>g10 G k args K
    |12=>g12 G k args K
    |13=>g13 G k args K
    |14=>g14 G k args K
    |16=>g16 G k args K
    |17=>g17 G k args K
    |18=>g18 G k args K
    |19=>g19 G k args K
    |22=>g22 G k args K
    |25=>g25 G k args K
    |29=>g29 G k args K
    |_=>none
def ss(k:Nat):Nat→ORC (List V)
 |0=>fun _ _ _=>none
 |j+1=>fun f args K=>(ssB k (ss k j) f args (@some (List V))).bind K
theorem ss_sound(k:Nat):∀j,Sound Tryd.prog TAB (ss k j)
 |0=>fun f args K r h=>by cases h
 |j+1=>fun f args K r h=>by
  have ih:=ss_sound k j
  have h:(ssB k (ss k j) f args (@some (List V))).bind K=some r:=h
  cases hb:ssB k (ss k j) f args (@some (List V))with
  |none=>rw[hb]at h;cases h
  |some o=>
  rw[hb]at h
  have key:∃o',CallOK Tryd.prog TAB.env f args o'∧some o'=some o:=by
   unfold ssB at hb
   split at hb
   ·exact s5 ih args (@some (List V)) o hb
   ·exact s8 ih args (@some (List V)) o hb
   ·exact s9 ih args (@some (List V)) o hb
   ·exact s10 ih args (@some (List V)) o hb
   ·exact s12 ih args (@some (List V)) o hb
   ·exact s13 ih args (@some (List V)) o hb
   ·exact s14 ih args (@some (List V)) o hb
   ·exact s16 ih args (@some (List V)) o hb
   ·exact s17 ih args (@some (List V)) o hb
   ·exact s18 ih args (@some (List V)) o hb
   ·exact s19 ih args (@some (List V)) o hb
   ·exact s22 ih args (@some (List V)) o hb
   ·exact s25 ih args (@some (List V)) o hb
   ·exact s29 ih args (@some (List V)) o hb
   ·cases hb
  obtain⟨o',h1,h2⟩:=key
  cases h2
  exact⟨o,h1,h⟩
theorem ss_U{k j:Nat}{f:FuncId}{args:List V}{Q:List V→Prop}(h:W Q (@some (List V)) (ssB k (ss k j) f args (@some (List V)))):∃o,Q o∧∀K,ss k (j+1) f args K=K o:=by
 obtain⟨o,q,e⟩:=h
 exact⟨o,q,fun K=>by show(ssB k (ss k j) f args (@some (List V))).bind K=_;rw[e];rfl⟩
theorem ss_W{k j:Nat}{f:FuncId}{args:List V}{Q:List V→Prop}{K:List V→Option (List V)}(h:W Q (@some (List V)) (ssB k (ss k j) f args (@some (List V)))):W Q K (ss k (j+1) f args K):=by
 obtain⟨o,q,e⟩:=ss_U h
 exact⟨o,q,e K⟩
set_option maxHeartbeats 16000000
theorem ssIn(j:Nat):InOK (ss 10000 (j+1)):=fun n K=>ss_W (in_ok (k:=10000) (G:=ss 10000 j) n some)
theorem ssWith(j:Nat):WithOK (ss 10000 (j+2)):=fun a b n p K h=>ss_W (with_ok (k:=10000) (ssIn j) a b n p some h)
theorem ssOf(j:Nat):WOfOK (ss 10000 (j+3)):=fun l K h=>ss_W (wof_ok (Nat.le_refl _) (ssWith j) l some h)
theorem ssHas(j:Nat):HasOK (ss 10000 (j+1)):=fun l i K h=>ss_W (has_ok (Nat.le_refl _) l i some h)
theorem ssROf(j:Nat):OfOK (ss 10000 (j+2)):=fun l K h=>ss_W (of_ok (Nat.le_refl _) (ssHas j) l some h)
theorem ssSame(j:Nat):SameOK (ss 10000 (j+1)):=fun a b K h=>ss_W (same_ok (Nat.le_refl _) a b some h)
theorem ssList(j:Nat):ListOK (ss 10000 (j+1)):=fun a b l K h=>ss_W (listW_ok (k:=10000) (G:=ss 10000 j) a b l some h)
theorem ssFew(j:Nat):FewOK (ss 10000 (j+1)):=fun l K=>ss_W (few_ok (k:=10000) (G:=ss 10000 j) l some)
def isT(o:Option (List V)):Bool:=match o with|some [.bool true]=>true|_=>false
theorem isT_eq:∀{o:Option (List V)},isT o=true→o=some [.bool true]
 |none,h=>by cases h
 |some [.bool true],_=>rfl
 |some [],h=>by cases h
 |some (_::_::_),h=>by simp[isT]at h
 |some [.bool false],h=>by cases h
 |some [.int _ _],h=>by cases h
 |some [.str _],h=>by cases h
 |some [.sl _ _],h=>by cases h
 |some [.agg _],h=>by cases h
 |some [.nilp],h=>by cases h
 |some [.ptr _ _],h=>by cases h
 |some [.fn _ _],h=>by cases h
 |some [.mp _],h=>by cases h
 |some [.undef],h=>by cases h
theorem sskn_run:isT (f9 (ss 10000 19) 10000 some)=true:=by decide+kernel
theorem ssKn:KnoOK (ss 10000 20):=fun K=>ss_W (j:=19) (show W _ some (f9 (ss 10000 19) 10000 some)from⟨_,rfl,isT_eq sskn_run⟩)
end Go.Proofs.YtmoinimakjddiaaDoor.Vm
