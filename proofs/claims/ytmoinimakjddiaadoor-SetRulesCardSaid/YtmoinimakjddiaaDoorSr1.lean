/- Functions of the program, told by the machine of values, and what they answer: a part. -/
import Derived.Test.YtmoinimakjddiaaDoorSrV3
import Derived.Test.YtmoinimakjddiaaDoorProg
import Derived.KernelRfl
import Derived.Shelf.Spec.TrailingZeros
import Derived.Test.YtmoinimakjddiaaDoorSrV4
import Derived.RangeFuncBox
import Derived.RangeFuncLeaves
import Derived.Shelf.Abstract
import Derived.Shelf.RegionOpen
import Derived.WalkKit
import Derived.OwnWalkIn
import Derived.TacticsInMore
import Derived.LoopNIn
import Derived.LoopIn
import Derived.Maps.AppendAt
open Go Go.VM
set_option linter.unusedVariables false
set_option maxRecDepth 100000
namespace Go.Proofs.YtmoinimakjddiaaDoor.Vm
def T2:TyD:={under:=.int .i64,size:=1,bytes:=8,zv:=[((.int .i64 (0:Int)),.pr)],leafs:=[.int .i64],deep:=false}
def T3:TyD:={under:=.int .i64,size:=1,bytes:=8,zv:=[((.int .i64 (0:Int)),.pr)],leafs:=[.int .i64],deep:=false}
def T4:TyD:={under:=.bool,size:=1,bytes:=1,zv:=[((.bool false),.pr)],leafs:=[.bool],deep:=false}
def T5:TyD:={under:=.int .u8,size:=1,bytes:=1,zv:=[((.int .u8 (0:Int)),.pr)],leafs:=[.int .u8],deep:=false}
def T22:TyD:={under:=.slice 3,size:=1,bytes:=24,zv:=[((.sl 1 []),.own true)],leafs:=[.slice 3],deep:=false}
def T25:TyD:={under:=.int .u64,size:=1,bytes:=8,zv:=[((.int .u64 (0:Int)),.pr)],leafs:=[.int .u64],deep:=false}
def T26:TyD:={under:=.array 2 25,size:=2,bytes:=16,zv:=[((.int .u64 (0:Int)),.pr),((.int .u64 (0:Int)),.pr)],leafs:=[.int .u64,.int .u64],deep:=false,cmp:=true}
def T28:TyD:={under:=.struct [(0,26)],size:=2,bytes:=16,zv:=[((.int .u64 (0:Int)),.pr),((.int .u64 (0:Int)),.pr)],leafs:=[.int .u64,.int .u64],deep:=false,cmp:=true}
def T38:TyD:={under:=.slice 4,size:=1,bytes:=24,zv:=[((.sl 1 []),.own true)],leafs:=[.slice 4],deep:=false}
def T49:TyD:={under:=.array 64 5,size:=64,bytes:=64,zv:=[((.int .u8 (0:Int)),.pr),((.int .u8 (0:Int)),.pr),((.int .u8 (0:Int)),.pr),((.int .u8 (0:Int)),.pr),((.int .u8 (0:Int)),.pr),((.int .u8 (0:Int)),.pr),((.int .u8 (0:Int)),.pr),((.int .u8 (0:Int)),.pr),((.int .u8 (0:Int)),.pr),((.int .u8 (0:Int)),.pr),((.int .u8 (0:Int)),.pr),((.int .u8 (0:Int)),.pr),((.int .u8 (0:Int)),.pr),((.int .u8 (0:Int)),.pr),((.int .u8 (0:Int)),.pr),((.int .u8 (0:Int)),.pr),((.int .u8 (0:Int)),.pr),((.int .u8 (0:Int)),.pr),((.int .u8 (0:Int)),.pr),((.int .u8 (0:Int)),.pr),((.int .u8 (0:Int)),.pr),((.int .u8 (0:Int)),.pr),((.int .u8 (0:Int)),.pr),((.int .u8 (0:Int)),.pr),((.int .u8 (0:Int)),.pr),((.int .u8 (0:Int)),.pr),((.int .u8 (0:Int)),.pr),((.int .u8 (0:Int)),.pr),((.int .u8 (0:Int)),.pr),((.int .u8 (0:Int)),.pr),((.int .u8 (0:Int)),.pr),((.int .u8 (0:Int)),.pr),((.int .u8 (0:Int)),.pr),((.int .u8 (0:Int)),.pr),((.int .u8 (0:Int)),.pr),((.int .u8 (0:Int)),.pr),((.int .u8 (0:Int)),.pr),((.int .u8 (0:Int)),.pr),((.int .u8 (0:Int)),.pr),((.int .u8 (0:Int)),.pr),((.int .u8 (0:Int)),.pr),((.int .u8 (0:Int)),.pr),((.int .u8 (0:Int)),.pr),((.int .u8 (0:Int)),.pr),((.int .u8 (0:Int)),.pr),((.int .u8 (0:Int)),.pr),((.int .u8 (0:Int)),.pr),((.int .u8 (0:Int)),.pr),((.int .u8 (0:Int)),.pr),((.int .u8 (0:Int)),.pr),((.int .u8 (0:Int)),.pr),((.int .u8 (0:Int)),.pr),((.int .u8 (0:Int)),.pr),((.int .u8 (0:Int)),.pr),((.int .u8 (0:Int)),.pr),((.int .u8 (0:Int)),.pr),((.int .u8 (0:Int)),.pr),((.int .u8 (0:Int)),.pr),((.int .u8 (0:Int)),.pr),((.int .u8 (0:Int)),.pr),((.int .u8 (0:Int)),.pr),((.int .u8 (0:Int)),.pr),((.int .u8 (0:Int)),.pr),((.int .u8 (0:Int)),.pr)],leafs:=[.int .u8,.int .u8,.int .u8,.int .u8,.int .u8,.int .u8,.int .u8,.int .u8,.int .u8,.int .u8,.int .u8,.int .u8,.int .u8,.int .u8,.int .u8,.int .u8,.int .u8,.int .u8,.int .u8,.int .u8,.int .u8,.int .u8,.int .u8,.int .u8,.int .u8,.int .u8,.int .u8,.int .u8,.int .u8,.int .u8,.int .u8,.int .u8,.int .u8,.int .u8,.int .u8,.int .u8,.int .u8,.int .u8,.int .u8,.int .u8,.int .u8,.int .u8,.int .u8,.int .u8,.int .u8,.int .u8,.int .u8,.int .u8,.int .u8,.int .u8,.int .u8,.int .u8,.int .u8,.int .u8,.int .u8,.int .u8,.int .u8,.int .u8,.int .u8,.int .u8,.int .u8,.int .u8,.int .u8,.int .u8],deep:=false}
def T50:TyD:={under:=.int .u64,size:=1,bytes:=8,zv:=[((.int .u64 (0:Int)),.pr)],leafs:=[.int .u64],deep:=false}
def S3:Sig:={params:=[.val .ro (.sl 1),.val .pr (.int .u8)],boxes:=[],outs:=[(.pr,.bool)]}
def S4:Sig:={params:=[.val .ro (.sl 1),.val .ro (.sl 1)],boxes:=[],outs:=[(.pr,.bool)]}
def S5:Sig:={params:=[.val .ro (.sl 1),.val .ro (.sl 1)],boxes:=[],outs:=[(.pr,.bool)]}
def S6:Sig:={params:=[.val .ro (.sl 1),.val .ro (.sl 1),.val .ro (.sl 1)],boxes:=[],outs:=[(.pr,.bool)]}
def S7:Sig:={params:=[.val .ro (.sl 1),.val .ro (.sl 1),.val .pr (.int .i64)],boxes:=[],outs:=[(.pr,.bool)]}
def S8:Sig:={params:=[.val .ro (.sl 1)],boxes:=[],outs:=[(.pr,.bool)]}
def S9:Sig:={params:=[],boxes:=[],outs:=[(.pr,.bool)]}
def S10:Sig:={params:=[.val .ro (.sl 1)],boxes:=[],outs:=[(.ro,.agg [.int .u64,.int .u64])]}
def S11:Sig:={params:=[.val .ro (.agg [.int .u64,.int .u64])],boxes:=[],outs:=[(.ro,.any)]}
def S12:Sig:={params:=[.val .ro (.agg [.int .u64,.int .u64])],boxes:=[],outs:=[((.own true),.sl 1)]}
def S13:Sig:={params:=[.val .ro (.sl 1),.val .ro (.sl 1)],boxes:=[],outs:=[(.pr,.bool)]}
def S14:Sig:={params:=[.val .ro (.sl 1)],boxes:=[],outs:=[(.ro,.sl 1)]}
def S15:Sig:={params:=[.val .ro (.agg [.int .u64,.int .u64]),.val .ro (.agg [.int .u64,.int .u64])],boxes:=[],outs:=[(.pr,.bool)]}
def S16:Sig:={params:=[.val .ro (.agg [.int .u64,.int .u64]),.val .pr (.int .i64)],boxes:=[],outs:=[(.ro,.agg [.int .u64,.int .u64])]}
def S17:Sig:={params:=[.val .ro (.sl 1),.val .ro (.sl 1)],boxes:=[],outs:=[(.ro,.sl 1)]}
def S18:Sig:={params:=[.val .ro (.agg [.int .u64,.int .u64]),.val .pr (.int .i64)],boxes:=[],outs:=[(.ro,.agg [.int .u64,.int .u64])]}
def S19:Sig:={params:=[.val .ro (.sl 1),.val .ro (.sl 1)],boxes:=[],outs:=[(.ro,.sl 1)]}
def S20:Sig:={params:=[.val .ro (.agg [.int .u64,.int .u64]),.val .ro (.agg [.int .u64,.int .u64])],boxes:=[],outs:=[(.ro,.agg [.int .u64,.int .u64])]}
def S21:Sig:={params:=[.val .ro (.agg [.int .u64,.int .u64]),.val .ro (.agg [.int .u64,.int .u64])],boxes:=[],outs:=[(.ro,.agg [.int .u64,.int .u64])]}
def S22:Sig:={params:=[.val .ro (.agg [.int .u64,.int .u64]),.val .ro (.agg [.int .u64,.int .u64])],boxes:=[],outs:=[(.ro,.agg [.int .u64,.int .u64])]}
def S23:Sig:={params:=[.val .ro (.agg [.int .u64,.int .u64])],boxes:=[],outs:=[(.pr,.int .i64)]}
def S24:Sig:={params:=[.val .ro (.agg [.int .u64,.int .u64]),.val .pr (.int .i64)],boxes:=[],outs:=[(.pr,.bool)]}
def S25:Sig:={params:=[.val .ro (.sl 1),.val .pr (.int .i64)],boxes:=[],outs:=[(.pr,.bool)]}
def S26:Sig:={params:=[.val .ro (.sl 1),.val .ro (.sl 1)],boxes:=[],outs:=[(.ro,.sl 1)]}
def S28:Sig:={params:=[.val .pr (.int .u64)],boxes:=[],outs:=[(.pr,.int .i64)]}
def S29:Sig:={params:=[.val .pr (.int .i64)],boxes:=[],outs:=[(.pr,.bool)]}
def S30:Sig:={params:=[.val .pr (.int .u64)],boxes:=[],outs:=[(.pr,.int .i64)]}
def TAB:Tab:={tys:=[(2,T2),(3,T3),(4,T4),(5,T5),(22,T22),(25,T25),(26,T26),(28,T28),(38,T38),(49,T49),(50,T50)],sigs:=[(3,S3),(4,S4),(5,S5),(6,S6),(7,S7),(8,S8),(9,S9),(10,S10),(11,S11),(12,S12),(13,S13),(14,S14),(15,S15),(16,S16),(17,S17),(18,S18),(19,S19),(20,S20),(21,S21),(22,S22),(23,S23),(24,S24),(25,S25),(26,S26),(28,S28),(29,S29),(30,S30)],takes:=[(12,0,1),(12,5,1)],varis:=[],tab:=some (0,Lib.deBruijn64tab.map fun n:Nat=>.int .u8 (n:Int))}
theorem TAB_chk:TAB.chk Tryd.prog=true:=by kernel_rfl
theorem MO:Tryd.prog.follows .mixedOrders=true:=by kernel_rfl
abbrev TL {R:Type} (f:FuncId) (g:LV→(LV→OV R)→OV R):Prop:=Tells Tryd.prog TAB f g
abbrev J0:List Kd:=[.sl 1,.sl 1]
def B0:List PCell:=[.var (.int .u64) .pr false,.var (.int .u64) .pr false]
abbrev J1:List Kd:=[]
abbrev J2:List Kd:=[.bool]
abbrev J4:List Kd:=[.sl 1,.sl 1,.sl 1]
abbrev J5:List Kd:=[.sl 1,.sl 1,.int .i64]
abbrev J6:List Kd:=[.sl 1]
abbrev J7:List Kd:=[.int .u64,.int .u64,.int .u64,.int .u64]
abbrev J8:List Kd:=[.sl 1,.int .i64,.int .i64,.int .u64,.int .u64,.int .u64,.int .u64]
abbrev J9:List Kd:=[.agg [.int .u64,.int .u64],.agg [.int .u64,.int .u64]]
abbrev J10:List Kd:=[.agg [.int .u64,.int .u64],.int .i64]
abbrev J12:List Kd:=[.int .i64]
abbrev J15:List Kd:=[.sl 1,.int .i64,.int .i64]
abbrev J16:List Kd:=[.sl 1,.int .i64]
set_option maxHeartbeats 4000000
def f18{R:Type}(G:ORC R)(k:Nat)(a b c:Int)(K:LV→OV R):OV R:=
 (G 29 [.int .i64 c] fun d=>uB d fun d e=>unNil e (bif d then(bif((decide (0≤(IntKind.i64.wrap (Int.tdiv c 64))))&&(decide ((IntKind.i64.wrap (Int.tdiv c 64))<2)))then(nthK [.int .u64 a,.int .u64 b] (Int.toNat (IntKind.i64.wrap (Int.tdiv c 64))) fun d=>bif(decide (0≤(Int.tmod c 64)))then(aI .u64 d fun d=>bif((decide (0≤(IntKind.i64.wrap (Int.tdiv c 64))))&&(decide ((IntKind.i64.wrap (Int.tdiv c 64))<2)))then(aI .u64 (bif(0==(Int.toNat (IntKind.i64.wrap (Int.tdiv c 64))))then(.int .u64 (bits .or .u64 d (IntKind.u64.wrap (1*2^(min (Int.toNat (Int.tmod c 64)) IntKind.u64.bits)))))else(.int .u64 a)) fun e=>aI .u64 (bif(1==(Int.toNat (IntKind.i64.wrap (Int.tdiv c 64))))then(.int .u64 (bits .or .u64 d (IntKind.u64.wrap (1*2^(min (Int.toNat (Int.tmod c 64)) IntKind.u64.bits)))))else(.int .u64 b)) fun c=>K [.agg [.int .u64 e,.int .u64 c]])else none)else none)else none)else(K [.agg [.int .u64 a,.int .u64 b]])))
abbrev g18 {R:Type} (G:ORC R) (k:Nat):LV→(LV→OV R)→OV R:=gF J10 (f18 G k)
theorem s18{R:Type}{G:ORC R}{k:Nat}(hG:Sound Tryd.prog TAB G):TL 18 (g18 G k):=
 gG J10 (by kernel_rfl) (callF_sound (L:=fun _ _ _=>none) (f:=18) TAB_chk MO hG Tryd.func18 (sg:=S18) (by kernel_rfl) (by kernel_rfl) (las [] (by kernel_rfl) trivial))
def f29{R:Type}(G:ORC R)(k:Nat)(a:Int)(K:LV→OV R):OV R:=
 (bif(decide (a≥0))then(K [.bool (decide (a<128))])else(K [.bool false]))
abbrev g29 {R:Type} (G:ORC R) (k:Nat):LV→(LV→OV R)→OV R:=gF J12 (f29 G k)
theorem s29{R:Type}{G:ORC R}{k:Nat}(hG:Sound Tryd.prog TAB G):TL 29 (g29 G k):=
 gG J12 (by kernel_rfl) (callF_sound (L:=fun _ _ _=>none) (f:=29) TAB_chk MO hG Tryd.func29 (sg:=S29) (by kernel_rfl) (by kernel_rfl) (las [] (by kernel_rfl) trivial))
def P10_0h:Pat:={tmps:=unds [pU,pU,pS 2,pS 3,pU,pU,pL,pI,pI] 8 [],boxes:=nons [none,none,some B0,some B0] 13 []}
def P10_0x:Pat:={tmps:=unds [pU,pU,pS 2,pS 3] 13 [],boxes:=nons [none,none,some B0,some B0] 13 []}
def b10_0{R:Type}(G:ORC R)(k:Nat)(X:Cu R J8)(Ko:Cu R J7)(a:LV)(b c d e f g:Int):OV R:=
 (bif(decide (c<b))then(bif((decide (0≤c))&&(decide (c<(a.length:Int))))then(nthK a (Int.toNat c) fun h=>aI .i64 h fun h=>G 18 [.agg [.int .u64 f,.int .u64 g],.int .i64 h] fun h=>uA h fun h i=>uI .u64 h fun h l=>uI .u64 l fun l m=>unNil m (unNil i (X a b (IntKind.i64.wrap (c+1)) d e h l)))else none)else(Ko d e f g))
def l10_0g{R:Type}(G:ORC R)(k:Nat)(Ko:Cu R J7)(j:Nat):Cu R J8:=lup J8 (fun X=>b10_0 G k X Ko) j
def l10_0{R:Type}(G:ORC R)(k:Nat)(a:LV)(b c d e f g:Int)(Ko:Cu R J7):OV R:=l10_0g G k Ko k a b c d e f g
def L10{R:Type}(G:ORC R)(k:Nat):Nat→St→(Ex→St→OV R)→OV R
 |0,S,K=>P10_0h.mat S fun vs=>uc J8 (l10_0g G k (koX J7 P10_0x K) k) vs none
 |_,_,_=>none
def f10{R:Type}(G:ORC R)(k:Nat)(a:LV)(K:LV→OV R):OV R:=
 (l10_0 G k a (a.length:Int) 0 0 0 0 0 (fun a b c d=>K [.agg [.int .u64 c,.int .u64 d]]))
abbrev g10 {R:Type} (G:ORC R) (k:Nat):LV→(LV→OV R)→OV R:=gF J6 (f10 G k)
theorem s10{R:Type}{G:ORC R}{k:Nat}(hG:Sound Tryd.prog TAB G):TL 10 (g10 G k):=
 gG J6 (by kernel_rfl) (callF_sound (L:=L10 G k) (f:=10) TAB_chk MO hG Tryd.func10 (sg:=S10) (by kernel_rfl) (by kernel_rfl) (las [0] (by kernel_rfl) ⟨loopIs J8 k (fun K X=>b10_0 G k X (koX J7 P10_0x K)) P10_0h P10_0x default (by kernel_rfl) (by kernel_rfl) (by kernel_rfl) (fun K X=>by kernel_rfl) (fun S K=>by kernel_rfl),trivial⟩))
def P25_0h:Pat:={tmps:=unds [pL,pI,pU,pU,pU,pI] 12 [],boxes:=nons [] 18 []}
def P25_0x:Pat:={tmps:=unds [] 18 [],boxes:=nons [] 18 []}
def P25_0r:Pat:={tmps:=unds [pU,pU,pU,pU,.var .bool .pr] 13 [],boxes:=nons [] 18 []}
def b25_0{R:Type}(G:ORC R)(k:Nat)(X:Cu R J15)(Ko:Cu R J1)(Kr:Cu R J2)(a:LV)(b c:Int):OV R:=
 (bif(decide (c<(a.length:Int)))then(bif((decide (0≤c))&&(decide (c<(a.length:Int))))then(nthK a (Int.toNat c) fun d=>aI .i64 d fun d=>bif(d==b)then(Kr true)else(X a b (IntKind.i64.wrap (c+1))))else none)else(Ko ()))
def l25_0g{R:Type}(G:ORC R)(k:Nat)(Ko:Cu R J1)(Kr:Cu R J2)(j:Nat):Cu R J15:=lup J15 (fun X=>b25_0 G k X Ko Kr) j
def l25_0{R:Type}(G:ORC R)(k:Nat)(a:LV)(b c:Int)(Ko:Cu R J1)(Kr:Cu R J2):OV R:=l25_0g G k Ko Kr k a b c
def L25{R:Type}(G:ORC R)(k:Nat):Nat→St→(Ex→St→OV R)→OV R
 |0,S,K=>P25_0h.mat S fun vs=>uc J15 (l25_0g G k (koX J1 P25_0x K) (koR J2 P25_0r K) k) vs none
 |_,_,_=>none
def f25{R:Type}(G:ORC R)(k:Nat)(a:LV)(b:Int)(K:LV→OV R):OV R:=
 (l25_0 G k a b 0 (fun(_:Unit)=>K [.bool false]) (fun a=>K [.bool a]))
abbrev g25 {R:Type} (G:ORC R) (k:Nat):LV→(LV→OV R)→OV R:=gF J16 (f25 G k)
theorem s25{R:Type}{G:ORC R}{k:Nat}(hG:Sound Tryd.prog TAB G):TL 25 (g25 G k):=
 gG J16 (by kernel_rfl) (callF_sound (L:=L25 G k) (f:=25) TAB_chk MO hG Tryd.func25 (sg:=S25) (by kernel_rfl) (by kernel_rfl) (las [0] (by kernel_rfl) ⟨loopIs J15 k (fun K X=>b25_0 G k X (koX J1 P25_0x K) (koR J2 P25_0r K)) P25_0h P25_0x P25_0r (by kernel_rfl) (by kernel_rfl) (by kernel_rfl) (fun K X=>by kernel_rfl) (fun S K=>by kernel_rfl),trivial⟩))
def P14_0h:Pat:={tmps:=unds [pL,pU,pU,.var (.sl 1) (.own true),pI] 12 [],boxes:=nons [] 17 []}
def P14_0x:Pat:={tmps:=unds [pU,pU,pU,.var (.sl 1) (.own true)] 13 [],boxes:=nons [] 17 []}
def b14_0{R:Type}(G:ORC R)(k:Nat)(X:Cu R J5)(Ko:Cu R J6)(a b:LV)(c:Int):OV R:=
 (bif(decide (c<128))then(G 25 [.sl 1 a,.int .i64 c] fun d=>uB d fun d e=>unNil e (bif d then(bif(decide (List.length b+1≤1073741824))then(X a (b++[.int .i64 c]) (IntKind.i64.wrap (c+1)))else none)else(X a b (IntKind.i64.wrap (c+1)))))else(Ko b))
def l14_0g{R:Type}(G:ORC R)(k:Nat)(Ko:Cu R J6)(j:Nat):Cu R J5:=lup J5 (fun X=>b14_0 G k X Ko) j
def l14_0{R:Type}(G:ORC R)(k:Nat)(a b:LV)(c:Int)(Ko:Cu R J6):OV R:=l14_0g G k Ko k a b c
def L14{R:Type}(G:ORC R)(k:Nat):Nat→St→(Ex→St→OV R)→OV R
 |0,S,K=>P14_0h.mat S fun vs=>uc J5 (l14_0g G k (koX J6 P14_0x K) k) vs none
 |_,_,_=>none
def f14{R:Type}(G:ORC R)(k:Nat)(a:LV)(K:LV→OV R):OV R:=
 (l14_0 G k a [] 0 (fun a=>K [.sl 1 a]))
abbrev g14 {R:Type} (G:ORC R) (k:Nat):LV→(LV→OV R)→OV R:=gF J6 (f14 G k)
theorem s14{R:Type}{G:ORC R}{k:Nat}(hG:Sound Tryd.prog TAB G):TL 14 (g14 G k):=
 gG J6 (by kernel_rfl) (callF_sound (L:=L14 G k) (f:=14) TAB_chk MO hG Tryd.func14 (sg:=S14) (by kernel_rfl) (by kernel_rfl) (las [0] (by kernel_rfl) ⟨loopIs J5 k (fun K X=>b14_0 G k X (koX J6 P14_0x K)) P14_0h P14_0x default (by kernel_rfl) (by kernel_rfl) (by kernel_rfl) (fun K X=>by kernel_rfl) (fun S K=>by kernel_rfl),trivial⟩))
def P13_0h:Pat:={tmps:=unds [pL,pL,pU,pU,pU,pI] 20 [],boxes:=nons [] 26 []}
def P13_0x:Pat:={tmps:=unds [] 26 [],boxes:=nons [] 26 []}
def P13_0r:Pat:={tmps:=unds [pU,pU,pU,pU,.var .bool .pr] 21 [],boxes:=nons [] 26 []}
def b13_0{R:Type}(G:ORC R)(k:Nat)(X:Cu R J5)(Ko:Cu R J1)(Kr:Cu R J2)(a b:LV)(c:Int):OV R:=
 (bif(decide (c<(a.length:Int)))then(bif((decide (0≤c))&&(decide (c<(a.length:Int))))then(nthK a (Int.toNat c) fun d=>aI .i64 d fun d=>bif((decide (0≤c))&&(decide (c<(b.length:Int))))then(nthK b (Int.toNat c) fun e=>aI .i64 e fun e=>bif(d !=e)then(Kr false)else(X a b (IntKind.i64.wrap (c+1))))else none)else none)else(Ko ()))
def l13_0g{R:Type}(G:ORC R)(k:Nat)(Ko:Cu R J1)(Kr:Cu R J2)(j:Nat):Cu R J5:=lup J5 (fun X=>b13_0 G k X Ko Kr) j
def l13_0{R:Type}(G:ORC R)(k:Nat)(a b:LV)(c:Int)(Ko:Cu R J1)(Kr:Cu R J2):OV R:=l13_0g G k Ko Kr k a b c
def L13{R:Type}(G:ORC R)(k:Nat):Nat→St→(Ex→St→OV R)→OV R
 |0,S,K=>P13_0h.mat S fun vs=>uc J5 (l13_0g G k (koX J1 P13_0x K) (koR J2 P13_0r K) k) vs none
 |_,_,_=>none
def f13{R:Type}(G:ORC R)(k:Nat)(a b:LV)(K:LV→OV R):OV R:=
 (bif((a.length:Int) !=(b.length:Int))then(K [.bool false])else(l13_0 G k a b 0 (fun(_:Unit)=>K [.bool true]) (fun a=>K [.bool a])))
abbrev g13 {R:Type} (G:ORC R) (k:Nat):LV→(LV→OV R)→OV R:=gF J0 (f13 G k)
theorem s13{R:Type}{G:ORC R}{k:Nat}(hG:Sound Tryd.prog TAB G):TL 13 (g13 G k):=
 gG J0 (by kernel_rfl) (callF_sound (L:=L13 G k) (f:=13) TAB_chk MO hG Tryd.func13 (sg:=S13) (by kernel_rfl) (by kernel_rfl) (las [0] (by kernel_rfl) ⟨loopIs J5 k (fun K X=>b13_0 G k X (koX J1 P13_0x K) (koR J2 P13_0r K)) P13_0h P13_0x P13_0r (by kernel_rfl) (by kernel_rfl) (by kernel_rfl) (fun K X=>by kernel_rfl) (fun S K=>by kernel_rfl),trivial⟩))
def f15{R:Type}(G:ORC R)(k:Nat)(a b c d:Int)(K:LV→OV R):OV R:=
 (G 22 [.agg [.int .u64 a,.int .u64 b],.agg [.int .u64 c,.int .u64 d]] fun a=>uA a fun a b=>uI .u64 a fun a c=>uI .u64 c fun c d=>unNil d (unNil b (K [.bool ((a==0)&&((c==0)&&true))])))
abbrev g15 {R:Type} (G:ORC R) (k:Nat):LV→(LV→OV R)→OV R:=gF J9 (f15 G k)
theorem s15{R:Type}{G:ORC R}{k:Nat}(hG:Sound Tryd.prog TAB G):TL 15 (g15 G k):=
 gG J9 (by kernel_rfl) (callF_sound (L:=fun _ _ _=>none) (f:=15) TAB_chk MO hG Tryd.func15 (sg:=S15) (by kernel_rfl) (by kernel_rfl) (las [] (by kernel_rfl) trivial))
def f8{R:Type}(G:ORC R)(k:Nat)(a:LV)(K:LV→OV R):OV R:=
 (K [.bool (decide ((a.length:Int)≤300))])
abbrev g8 {R:Type} (G:ORC R) (k:Nat):LV→(LV→OV R)→OV R:=gF J6 (f8 G k)
theorem s8{R:Type}{G:ORC R}{k:Nat}(hG:Sound Tryd.prog TAB G):TL 8 (g8 G k):=
 gG J6 (by kernel_rfl) (callF_sound (L:=fun _ _ _=>none) (f:=8) TAB_chk MO hG Tryd.func8 (sg:=S8) (by kernel_rfl) (by kernel_rfl) (las [] (by kernel_rfl) trivial))
def f4{R:Type}(G:ORC R)(k:Nat)(a b:LV)(K:LV→OV R):OV R:=
 (G 8 [.sl 1 a] fun c=>uB c fun c d=>unNil d (bif(!c)then(G 9 [] fun c=>uB c fun c d=>unNil d (K [.bool c]))else(G 8 [.sl 1 b] fun c=>uB c fun c d=>unNil d (bif(!c)then(G 9 [] fun c=>uB c fun c d=>unNil d (K [.bool c]))else(G 10 [.sl 1 a] fun c=>uA c fun c d=>uI .u64 c fun c e=>uI .u64 e fun e f=>unNil f (unNil d (G 10 [.sl 1 b] fun d=>uA d fun d f=>uI .u64 d fun d g=>uI .u64 g fun g h=>unNil h (unNil f (G 14 [.sl 1 a] fun a=>uL 1 a fun a f=>unNil f (G 14 [.sl 1 b] fun b=>uL 1 b fun b f=>unNil f (G 13 [.sl 1 a,.sl 1 b] fun a=>uB a fun a b=>unNil b (bif(((c==d)&&((e==g)&&true))==a)then(G 15 [.agg [.int .u64 c,.int .u64 e],.agg [.int .u64 d,.int .u64 g]] fun a=>uB a fun a b=>unNil b (bif a then(G 15 [.agg [.int .u64 d,.int .u64 g],.agg [.int .u64 c,.int .u64 e]] fun a=>uB a fun a b=>unNil b (bif(((c==d)&&((e==g)&&true))==a)then(G 12 [.agg [.int .u64 c,.int .u64 e]] fun a=>uL 1 a fun a b=>unNil b (G 10 [.sl 1 a] fun a=>uA a fun a b=>uI .u64 a fun a f=>uI .u64 f fun f h=>unNil h (unNil b (bif((c==a)&&((e==f)&&true))then(G 9 [] fun a=>uB a fun a b=>unNil b (K [.bool a]))else(K [.bool false])))))else(K [.bool false])))else(bif(((c==d)&&((e==g)&&true))==false)then(G 12 [.agg [.int .u64 c,.int .u64 e]] fun a=>uL 1 a fun a b=>unNil b (G 10 [.sl 1 a] fun a=>uA a fun a b=>uI .u64 a fun a d=>uI .u64 d fun d f=>unNil f (unNil b (bif((c==a)&&((e==d)&&true))then(G 9 [] fun a=>uB a fun a b=>unNil b (K [.bool a]))else(K [.bool false])))))else(K [.bool false]))))else(K [.bool false])))))))))))))
abbrev g4 {R:Type} (G:ORC R) (k:Nat):LV→(LV→OV R)→OV R:=gF J0 (f4 G k)
theorem s4{R:Type}{G:ORC R}{k:Nat}(hG:Sound Tryd.prog TAB G):TL 4 (g4 G k):=
 gG J0 (by kernel_rfl) (callF_sound (L:=fun _ _ _=>none) (f:=4) TAB_chk MO hG Tryd.func4 (sg:=S4) (by kernel_rfl) (by kernel_rfl) (las [] (by kernel_rfl) trivial))
def f6{R:Type}(G:ORC R)(k:Nat)(a b c:LV)(K:LV→OV R):OV R:=
 (G 8 [.sl 1 a] fun d=>uB d fun d e=>unNil e (bif(!d)then(G 9 [] fun d=>uB d fun d e=>unNil e (K [.bool d]))else(G 8 [.sl 1 b] fun d=>uB d fun d e=>unNil e (bif(!d)then(G 9 [] fun d=>uB d fun d e=>unNil e (K [.bool d]))else(G 8 [.sl 1 c] fun d=>uB d fun d e=>unNil e (bif(!d)then(G 9 [] fun d=>uB d fun d e=>unNil e (K [.bool d]))else(G 10 [.sl 1 a] fun a=>uA a fun a d=>uI .u64 a fun a e=>uI .u64 e fun e f=>unNil f (unNil d (G 10 [.sl 1 b] fun b=>uA b fun b d=>uI .u64 b fun b f=>uI .u64 f fun f g=>unNil g (unNil d (G 10 [.sl 1 c] fun c=>uA c fun c d=>uI .u64 c fun c g=>uI .u64 g fun g h=>unNil h (unNil d (G 21 [.agg [.int .u64 a,.int .u64 e],.agg [.int .u64 b,.int .u64 f]] fun d=>uA d fun d h=>uI .u64 d fun d i=>uI .u64 i fun i l=>unNil l (unNil h (G 22 [.agg [.int .u64 a,.int .u64 e],.agg [.int .u64 b,.int .u64 f]] fun h=>uA h fun h l=>uI .u64 h fun h m=>uI .u64 m fun m n=>unNil n (unNil l (G 20 [.agg [.int .u64 d,.int .u64 i],.agg [.int .u64 h,.int .u64 m]] fun d=>uA d fun d h=>uI .u64 d fun d i=>uI .u64 i fun i l=>unNil l (unNil h (bif((d==a)&&((i==e)&&true))then(G 22 [.agg [.int .u64 a,.int .u64 e],.agg [.int .u64 b,.int .u64 f]] fun d=>uA d fun d h=>uI .u64 d fun d i=>uI .u64 i fun i l=>unNil l (unNil h (G 21 [.agg [.int .u64 d,.int .u64 i],.agg [.int .u64 b,.int .u64 f]] fun d=>uA d fun d h=>uI .u64 d fun d i=>uI .u64 i fun i l=>unNil l (unNil h (bif((d==0)&&((i==0)&&true))then(G 20 [.agg [.int .u64 a,.int .u64 e],.agg [.int .u64 b,.int .u64 f]] fun d=>uA d fun d h=>uI .u64 d fun d i=>uI .u64 i fun i l=>unNil l (unNil h (G 20 [.agg [.int .u64 b,.int .u64 f],.agg [.int .u64 a,.int .u64 e]] fun h=>uA h fun h l=>uI .u64 h fun h m=>uI .u64 m fun m n=>unNil n (unNil l (bif((d==h)&&((i==m)&&true))then(G 20 [.agg [.int .u64 b,.int .u64 f],.agg [.int .u64 c,.int .u64 g]] fun d=>uA d fun d h=>uI .u64 d fun d i=>uI .u64 i fun i l=>unNil l (unNil h (G 21 [.agg [.int .u64 a,.int .u64 e],.agg [.int .u64 d,.int .u64 i]] fun d=>uA d fun d h=>uI .u64 d fun d i=>uI .u64 i fun i l=>unNil l (unNil h (G 21 [.agg [.int .u64 a,.int .u64 e],.agg [.int .u64 b,.int .u64 f]] fun h=>uA h fun h l=>uI .u64 h fun h m=>uI .u64 m fun m n=>unNil n (unNil l (G 21 [.agg [.int .u64 a,.int .u64 e],.agg [.int .u64 c,.int .u64 g]] fun l=>uA l fun l n=>uI .u64 l fun l o=>uI .u64 o fun o p=>unNil p (unNil n (G 20 [.agg [.int .u64 h,.int .u64 m],.agg [.int .u64 l,.int .u64 o]] fun h=>uA h fun h l=>uI .u64 h fun h m=>uI .u64 m fun m n=>unNil n (unNil l (bif((d==h)&&((i==m)&&true))then(G 20 [.agg [.int .u64 b,.int .u64 f],.agg [.int .u64 c,.int .u64 g]] fun d=>uA d fun d h=>uI .u64 d fun d i=>uI .u64 i fun i l=>unNil l (unNil h (G 22 [.agg [.int .u64 a,.int .u64 e],.agg [.int .u64 d,.int .u64 i]] fun d=>uA d fun d h=>uI .u64 d fun d i=>uI .u64 i fun i l=>unNil l (unNil h (G 22 [.agg [.int .u64 a,.int .u64 e],.agg [.int .u64 b,.int .u64 f]] fun h=>uA h fun h l=>uI .u64 h fun h m=>uI .u64 m fun m n=>unNil n (unNil l (G 22 [.agg [.int .u64 h,.int .u64 m],.agg [.int .u64 c,.int .u64 g]] fun c=>uA c fun c g=>uI .u64 c fun c h=>uI .u64 h fun h l=>unNil l (unNil g (bif((d==c)&&((i==h)&&true))then(G 20 [.agg [.int .u64 a,.int .u64 e],.agg [.int .u64 b,.int .u64 f]] fun c=>uA c fun c d=>uI .u64 c fun c g=>uI .u64 g fun g h=>unNil h (unNil d (G 23 [.agg [.int .u64 c,.int .u64 g]] fun c=>uI .i64 c fun c d=>unNil d (G 23 [.agg [.int .u64 a,.int .u64 e]] fun d=>uI .i64 d fun d g=>unNil g (G 23 [.agg [.int .u64 b,.int .u64 f]] fun g=>uI .i64 g fun g h=>unNil h (G 21 [.agg [.int .u64 a,.int .u64 e],.agg [.int .u64 b,.int .u64 f]] fun a=>uA a fun a b=>uI .u64 a fun a e=>uI .u64 e fun e f=>unNil f (unNil b (G 23 [.agg [.int .u64 a,.int .u64 e]] fun a=>uI .i64 a fun a b=>unNil b (bif(c==(IntKind.i64.wrap ((IntKind.i64.wrap (d+g))-a)))then(G 9 [] fun a=>uB a fun a b=>unNil b (K [.bool a]))else(K [.bool false]))))))))))else(K [.bool false]))))))))))else(K [.bool false]))))))))))))else(K [.bool false]))))))else(K [.bool false]))))))else(K [.bool false]))))))))))))))))))))
abbrev g6 {R:Type} (G:ORC R) (k:Nat):LV→(LV→OV R)→OV R:=gF J4 (f6 G k)
theorem s6{R:Type}{G:ORC R}{k:Nat}(hG:Sound Tryd.prog TAB G):TL 6 (g6 G k):=
 gG J4 (by kernel_rfl) (callF_sound (L:=fun _ _ _=>none) (f:=6) TAB_chk MO hG Tryd.func6 (sg:=S6) (by kernel_rfl) (by kernel_rfl) (las [] (by kernel_rfl) trivial))
def f9{R:Type}(G:ORC R)(k:Nat)(K:LV→OV R):OV R:=
 (G 10 [.sl 1 [.int .i64 5,.int .i64 3,.int .i64 5,.int .i64 (-1),.int .i64 200]] fun a=>uA a fun a b=>uI .u64 a fun a c=>uI .u64 c fun c d=>unNil d (unNil b (G 12 [.agg [.int .u64 a,.int .u64 c]] fun a=>uL 1 a fun a b=>unNil b (bif((a.length:Int)==2)then(bif(decide (0<(a.length:Int)))then(nthK a 0 fun b=>aI .i64 b fun b=>bif(b==3)then(bif(decide (1<(a.length:Int)))then(nthK a 1 fun a=>aI .i64 a fun a=>bif(a==5)then(G 10 [.sl 1 [.int .i64 1,.int .i64 2]] fun a=>uA a fun a b=>uI .u64 a fun a c=>uI .u64 c fun c d=>unNil d (unNil b (G 10 [.sl 1 [.int .i64 2,.int .i64 3]] fun b=>uA b fun b d=>uI .u64 b fun b e=>uI .u64 e fun e f=>unNil f (unNil d (G 22 [.agg [.int .u64 a,.int .u64 c],.agg [.int .u64 b,.int .u64 e]] fun a=>uA a fun a b=>uI .u64 a fun a c=>uI .u64 c fun c d=>unNil d (unNil b (G 10 [.sl 1 [.int .i64 1]] fun b=>uA b fun b d=>uI .u64 b fun b e=>uI .u64 e fun e f=>unNil f (unNil d (K [.bool ((a==b)&&((c==e)&&true))])))))))))else(K [.bool false]))else none)else(K [.bool false]))else none)else(K [.bool false])))))
abbrev g9 {R:Type} (G:ORC R) (k:Nat):LV→(LV→OV R)→OV R:=gF J1 (f9 G k)
theorem s9{R:Type}{G:ORC R}{k:Nat}(hG:Sound Tryd.prog TAB G):TL 9 (g9 G k):=
 gG J1 (by kernel_rfl) (callF_sound (L:=fun _ _ _=>none) (f:=9) TAB_chk MO hG Tryd.func9 (sg:=S9) (by kernel_rfl) (by kernel_rfl) (las [] (by kernel_rfl) trivial))
end Go.Proofs.YtmoinimakjddiaaDoor.Vm
namespace Go.VM
def hasL(l:List Int)(i:Int):Bool:=decide (i∈l)
theorem hasL_iff{l:List Int}{i:Int}:hasL l i=true↔i∈l:=by simp[hasL]
def ofGo(l:List Int):Nat→List Int
 |0=>[]
 |m+1=>ofGo l m++if hasL l m then[(m:Int)]else[]
def ofL(l:List Int):List Int:=ofGo l 128
theorem mem_ofGo{l:List Int}{x:Int}:∀{m:Nat},x∈ofGo l m↔0≤x∧x<m∧x∈l
 |0=>by simp[ofGo];omega
 |m+1=>by
  unfold ofGo
  rw[List.mem_append,mem_ofGo (m:=m)]
  by_cases hm:(m:Int)∈l
  ·rw[if_pos (hasL_iff.2 hm),List.mem_singleton]
   constructor
   ·rintro(⟨h1,h2,h3⟩|h)
    ·exact⟨h1,by omega,h3⟩
    ·exact⟨by omega,by omega,h▸hm⟩
   ·rintro⟨h1,h2,h3⟩
    by_cases e:x=m
    ·exact .inr e
    ·exact .inl ⟨h1,by omega,h3⟩
  ·rw[if_neg (fun h=>hm (hasL_iff.1 h))]
   constructor
   ·rintro(⟨h1,h2,h3⟩|h)
    ·exact⟨h1,by omega,h3⟩
    ·simp at h
   ·rintro⟨h1,h2,h3⟩
    by_cases e:x=m
    ·exact absurd (e▸h3) hm
    ·exact .inl ⟨h1,by omega,h3⟩
theorem take_snoc{l:List Int}{m:Nat}{c:Int}(h:l[m]? =some c):l.take (m+1)=l.take m++[c]:=by
 rw[List.take_add_one,h];rfl
end Go.VM
open Go
set_option linter.unusedSimpArgs false
namespace Go.Proofs.YtmoinimakjddiaaDoor.Vm
theorem filter_first{p:Nat→Bool}{c:Nat}:∀{n s:Nat},s≤c→c<s+n→p c=true→(∀i,s≤i→i<c→p i=false)→(List.range' s n).filter p=c::(List.range' s n).filter fun i=>p i&& !(i==c)
 |0,s,h1,h2,_,_=>by omega
 |n+1,s,h1,h2,hp,hl=>by
  rw[List.range'_succ,List.filter_cons,List.filter_cons]
  by_cases e:s=c
  ·subst e
   rw[hp]
   have:(p s&& !(s==s))=false:=by simp
   simp only[this,if_true,Bool.false_eq_true,if_false,Bool.true_and,beq_self_eq_true,Bool.not_true]
   congr 1
   apply List.filter_congr
   intro i hi
   rw[List.mem_range'_1]at hi
   have:(i==s)=false:=by simp;omega
   rw[this];simp
  ·have h3:=hl s (Nat.le_refl _) (by omega)
   rw[h3]
   simp only[Bool.false_eq_true,if_false,Bool.false_and]
   exact filter_first (by omega) (by omega) hp fun i a b=>hl i (by omega) b
def bitsL(o w:Nat):List Int:=((List.range' 0 64).filter fun i=>w.testBit i).map fun i=>((o+i:Nat):Int)
theorem bitsL_zero{o:Nat}:bitsL o 0=[]:=by
 unfold bitsL
 rw[List.filter_eq_nil_iff.2 (fun i _=>by simp)];rfl
theorem low_bits{x c m:Nat}(h:x=2^c*(2*m+1)):x.testBit c=true∧(∀i,i<c→x.testBit i=false)∧x &&&(x-1)=2^c*(2*m):=by
 have hp:0<2^c:=Nat.two_pow_pos c
 have e1:x-1=2^c*(2*m)+(2^c-1):=by
  rw[h,Nat.mul_add,Nat.mul_one];omega
 have t1:∀i,x.testBit i=if i<c then false else(2*m+1).testBit (i-c):=fun i=>by
  rw[h,Nat.testBit_two_pow_mul]
  by_cases k:i<c
  ·rw[if_pos k];simp;omega
  ·rw[if_neg k];simp;omega
 have t2:∀i,(x-1).testBit i=if i<c then true else(2*m).testBit (i-c):=fun i=>by
  rw[e1,Nat.testBit_two_pow_mul_add _ (by omega)]
  by_cases k:i<c
  ·rw[if_pos k,if_pos k,Nat.testBit_two_pow_sub_one];simpa using k
  ·rw[if_neg k,if_neg k]
 refine⟨?_,fun i k=>by rw[t1,if_pos k],?_⟩
 ·rw[t1,if_neg (Nat.lt_irrefl c),Nat.sub_self]
  simp[Nat.testBit_zero]
 ·apply Nat.eq_of_testBit_eq
  intro i
  rw[Nat.testBit_and,t1,t2,Nat.testBit_two_pow_mul]
  by_cases k:i<c
  ·rw[if_pos k,if_pos k];simp;omega
  ·rw[if_neg k,if_neg k]
   have:decide (i≥c)=true:=by simp;omega
   rw[this,Bool.true_and]
   cases hj:i-c with
   |zero=>simp[Nat.testBit_zero]
   |succ j=>
    rw[Nat.testBit_succ,Nat.testBit_succ]
    rw[show(2*m+1)/2=m by omega,show 2*m/2=m by omega,Bool.and_self]
theorem bitsL_step{o w:Nat}(h0:w≠0)(hw:w<18446744073709551616):bitsL o w=((o+Lib.ctz 64 w:Nat):Int)::bitsL o (w &&&(w-1))∧Lib.ctz 64 w<64∧w &&&(w-1)<w:=by
 obtain⟨m,h1,h2⟩:=Lib.ctzFrom_spec 64 w (by omega) (by simpa using hw)
 have hc:Lib.ctz 64 w=Lib.ctzFrom 64 w:=by rw[Lib.ctz.eq_1,if_neg h0]
 rw[hc]
 generalize Lib.ctzFrom 64 w=c at h1 h2
 obtain⟨b1,b2,b3⟩:=low_bits h1
 have hlt:w &&&(w-1)<w:=by
  rw[b3]
  have hp:0<2^c:=Nat.two_pow_pos c
  have:2^c*(2*m)<2^c*(2*m+1):=by rw[Nat.mul_add,Nat.mul_one];omega
  omega
 refine⟨?_,h2,hlt⟩
 unfold bitsL
 rw[filter_first (c:=c) (Nat.zero_le _) (by omega) b1 (fun i _ h=>b2 i h),List.map_cons]
 congr 2
 apply List.filter_congr
 intro i _
 have hb:(w &&&(w-1)).testBit i=(w.testBit i&& !(i==c)):=by
  rw[b3,Nat.testBit_two_pow_mul]
  conv=>rhs;rw[h1,Nat.testBit_two_pow_mul]
  by_cases k:i<c
  ·have:decide (i≥c)=false:=by simp;omega
   rw[this];simp
  ·have:decide (i≥c)=true:=by simp;omega
   rw[this]
   simp only[Bool.true_and]
   cases hj:i-c with
   |zero=>
    have:i=c:=by omega
    subst this
    simp[Nat.testBit_zero]
   |succ j=>
    have:(i==c)=false:=by simp;omega
    rw[this,Nat.testBit_succ,Nat.testBit_succ,show(2*m+1)/2=m by omega,show 2*m/2=m by omega];simp
 rw[hb]
set_option maxHeartbeats 8000000
def hasW(a b i:Nat):Bool:=bif decide (i<64)then a.testBit i else b.testBit (i-64)
def SetP(a b:Nat)(p:Nat→Bool):Prop:=a<18446744073709551616∧b<18446744073709551616∧∀i,i<128→hasW a b i=p i
theorem hasW_lo{a b i:Nat}(h:i<64):hasW a b i=a.testBit i:=by unfold hasW;rw[decide_eq_true h];rfl
theorem hasW_hi{a b i:Nat}:hasW a b (64+i)=b.testBit i:=by unfold hasW;rw[decide_eq_false (by omega),Nat.add_sub_cancel_left];rfl
theorem tb_hi{a i:Nat}(ha:a<18446744073709551616)(h:64≤i):a.testBit i=false:=Nat.testBit_lt_two_pow (Nat.lt_of_lt_of_le ha (Nat.pow_le_pow_right (n:=2) (by decide) h))
theorem SetP.same{a b c d:Nat}{p q:Nat→Bool}(h:SetP a b p)(g:SetP c d q)(e:∀i,i<128→p i=q i):a=c∧b=d:=by
 obtain⟨a1,a2,a3⟩:=h
 obtain⟨b1,b2,b3⟩:=g
 constructor
 ·apply Nat.eq_of_testBit_eq
  intro i
  by_cases k:i<64
  ·have:=(a3 i (by omega)).trans ((e i (by omega)).trans (b3 i (by omega)).symm)
   rwa[hasW_lo k,hasW_lo k]at this
  ·rw[tb_hi a1 (by omega),tb_hi b1 (by omega)]
 ·apply Nat.eq_of_testBit_eq
  intro i
  by_cases k:i<64
  ·have:=(a3 (64+i) (by omega)).trans ((e (64+i) (by omega)).trans (b3 (64+i) (by omega)).symm)
   rwa[hasW_hi,hasW_hi]at this
  ·rw[tb_hi a2 (by omega),tb_hi b2 (by omega)]
theorem SetP.congr{a b:Nat}{p q:Nat→Bool}(h:SetP a b p)(e:∀i,i<128→p i=q i):SetP a b q:=⟨h.1,h.2.1,fun i hi=>(h.2.2 i hi).trans (e i hi)⟩
theorem shl_u64{q:Nat}(h:q<64):IntKind.u64.wrap (1*2^(min (Int.toNat ((q:Nat):Int)) IntKind.u64.bits))=((2^q:Nat):Int):=by
 have hp:2^q<18446744073709551616:=Nat.pow_lt_pow_right (a:=2) (by decide) h
 rw[Int.toNat_natCast,show IntKind.u64.bits=64 from rfl,Nat.min_eq_left (by omega),Int.one_mul]
 have e:((2:Int)^q)=((2^q:Nat):Int):=by rw[Int.natCast_pow];rfl
 rw[e]
 generalize 2^q=z at hp
 simp only[IntKind.wrap,IntKind.signed,IntKind.bits]
 first|omega|(simp;omega)
section
variable {R : Type} {G : ORC R} {k : Nat} {K : LV → OV R}
def InOK(G:ORC R):Prop:=∀(n:Int) (K:LV→OV R),W (fun o=>o=[.bool (decide (0≤n∧n<128))]) K (G 29 [.int .i64 n] K)
theorem in_ok:InOK (fun _ args (K:LV→OV R)=>g29 G k args K):=by
 intro n K
 show W _ K (f29 G k n K)
 unfold f29
 refine W_dec (fun h=>W_ret ?_) (fun h=>W_ret ?_)
 ·by_cases q:n<128
  ·rw[decide_eq_true q,decide_eq_true ⟨h,q⟩]
  ·rw[decide_eq_false q,decide_eq_false (fun k=>q k.2)]
 ·rw[decide_eq_false (fun k=>h k.1)]
theorem or_lt{a q:Nat}(ha:a<18446744073709551616)(h:q<64):a|||2^q<18446744073709551616:=Nat.or_lt_two_pow (n:=64) ha (Nat.pow_lt_pow_right (a:=2) (by decide) h)
def WithOK(G:ORC R):Prop:=∀(a b:Nat) (n:Int) (p:Nat→Bool) (K:LV→OV R),SetP a b p→W (fun o=>∃c d:Nat,o=[.agg [.int .u64 c,.int .u64 d]]∧SetP c d fun i=>p i||decide ((i:Int)=n)) K (G 18 [.agg [.int .u64 a,.int .u64 b],.int .i64 n] K)
theorem with_ok(hI:InOK G):WithOK (fun _ args (K:LV→OV R)=>g18 G k args K):=by
 intro a b n p K hp
 show W _ K (f18 G k a b n K)
 unfold f18
 refine W_call (hI n _) ?_
 rintro _ rfl
 (repeat(with_reducible apply U1))
 by_cases hn:0≤n∧n<128
 ·rw[decide_eq_true hn,cond_true]
  obtain⟨m,rfl⟩:∃m:Nat,n=m:=⟨n.toNat,by omega⟩
  obtain⟨a1,a2,a3⟩:=hp
  by_cases hm:m<64
  ·have hd:IntKind.i64.wrap (Int.tdiv (m:Int) 64)=0:=by
    rw[Int.tdiv_eq_ediv_of_nonneg (by omega),wrap_id (by omega)];omega
   have hq:Int.tmod (m:Int) 64=((m:Nat):Int):=by rw[Int.tmod_eq_emod_of_nonneg (by omega)];omega
   rw[hd,hq,shl_u64 hm]
   refine W_and (W_yes (by decide) (W_yes (by decide) ?_))
   show W _ K (bif decide (0≤((m:Nat):Int))then aI .u64 (.int .u64 (a:Int)) _ else none)
   refine W_yes (by omega) (W_aI ?_)
   refine W_and (W_yes (by decide) (W_yes (by decide) ?_))
   show W _ K (aI .u64 (.int .u64 (bits .or .u64 (a:Int) ((2^m:Nat):Int))) fun n9=>aI .u64 (.int .u64 (b:Int)) _)
   refine W_aI (W_aI (W_ret ?_))
   rw[u64_or_nat a (2^m) a1 (Nat.pow_lt_pow_right (a:=2) (by decide) hm)]
   refine⟨_,_,rfl,or_lt a1 hm,a2,fun i hi=> ?_⟩
   show hasW (a|||2^m) b i=(p i||decide ((i:Int)=m))
   rw[←a3 i hi]
   by_cases k:i<64
   ·rw[hasW_lo k,hasW_lo k,Nat.testBit_or,Nat.testBit_two_pow]
    congr 1
    exact decide_eq_decide.2 ⟨fun h=>by omega,fun h=>by omega⟩
   ·have:decide ((i:Int)=m)=false:=decide_eq_false (by omega)
    rw[this,Bool.or_false]
    unfold hasW
    rw[decide_eq_false k];rfl
  ·have hd:IntKind.i64.wrap (Int.tdiv (m:Int) 64)=1:=by
    rw[Int.tdiv_eq_ediv_of_nonneg (by omega),wrap_id (by omega)];omega
   have hq:Int.tmod (m:Int) 64=((m-64:Nat):Int):=by rw[Int.tmod_eq_emod_of_nonneg (by omega)];omega
   have hm2:m-64<64:=by omega
   rw[hd,hq,shl_u64 hm2]
   refine W_and (W_yes (by decide) (W_yes (by decide) ?_))
   show W _ K (bif decide (0≤((m-64:Nat):Int))then aI .u64 (.int .u64 (b:Int)) _ else none)
   refine W_yes (by omega) (W_aI ?_)
   refine W_and (W_yes (by decide) (W_yes (by decide) ?_))
   show W _ K (aI .u64 (.int .u64 (a:Int)) fun n9=>aI .u64 (.int .u64 (bits .or .u64 (b:Int) ((2^(m-64):Nat):Int))) _)
   refine W_aI (W_aI (W_ret ?_))
   rw[u64_or_nat b (2^(m-64)) a2 (Nat.pow_lt_pow_right (a:=2) (by decide) hm2)]
   refine⟨_,_,rfl,a1,or_lt a2 hm2,fun i hi=> ?_⟩
   show hasW a (b|||2^(m-64)) i=(p i||decide ((i:Int)=m))
   rw[←a3 i hi]
   by_cases k:i<64
   ·have:decide ((i:Int)=m)=false:=decide_eq_false (by omega)
    rw[this,Bool.or_false,hasW_lo k,hasW_lo k]
   ·obtain⟨j,rfl⟩:∃j,i=64+j:=⟨i-64,by omega⟩
    rw[hasW_hi,hasW_hi,Nat.testBit_or,Nat.testBit_two_pow]
    congr 1
    exact decide_eq_decide.2 ⟨fun h=>by omega,fun h=>by omega⟩
 ·rw[decide_eq_false hn,cond_false]
  refine W_ret ⟨a,b,rfl,hp.congr fun i hi=> ?_⟩
  rw[decide_eq_false (by omega),Bool.or_false]
def SetL(a b:Nat)(l:List Int):Prop:=SetP a b fun i=>hasL l i
def WOfOK(G:ORC R):Prop:=∀(l:List Int) (K:LV→OV R),l.length≤9000→W (fun o=>∃c d:Nat,o=[.agg [.int .u64 c,.int .u64 d]]∧SetL c d l) K (G 10 [.sl 1 (ivs l)] K)
theorem hasL_snoc{l:List Int}{x i:Int}:hasL (l++[x]) i=(hasL l i||decide (i=x)):=by
 unfold hasL
 by_cases h1:i∈l<;>by_cases h2:i=x<;>simp[h1,h2]
theorem wof_loop(hW:WithOK G){Q:LV→Prop}{K:LV→OV R}{Ko:Int→Int→Int→Int→OV R}{l:List Int}{x y:Int}(hl:l.length≤9000)(hKo:∀c d:Nat,SetL c d l→W Q K (Ko x y c d)):
 ∀(j m a b:Nat),l.length-m<j→m≤l.length→SetL a b (l.take m)→W Q K (l10_0g G k Ko j (ivs l) (l.length:Int) m x y a b)
 |0,m,a,b,h1,h2,h3=>by omega
 |j+1,m,a,b,h1,h2,h3=>by
  show W Q K (b10_0 G k (l10_0g G k Ko j) Ko (ivs l) (l.length:Int) m x y a b)
  unfold b10_0
  refine W_dec (fun h=> ?_) (fun h=>hKo a b (by rwa[List.take_of_length_le (by omega)]at h3))
  obtain⟨z,hz⟩:∃z,l[m]? =some z:=⟨_,List.getElem?_eq_getElem (by omega)⟩
  refine W_at (by omega) (by rw[Int.toNat_natCast];exact ivs_at hz) (W_aI ?_)
  refine W_call (hW a b z _ _ h3) ?_
  rintro _ ⟨c,d,rfl,hcd⟩
  (repeat(with_reducible apply U1))
  rw[wrap_id (n:=(m:Int)+1) (by omega)]
  exact wof_loop hW hl hKo j (m+1) c d (by omega) (by omega) (hcd.congr fun i hi=>by rw[take_snoc hz,hasL_snoc])
theorem wof_ok(hk:10000≤k)(hW:WithOK G):WOfOK (fun _ args (K:LV→OV R)=>g10 G k args K):=by
 intro l K hl
 show W _ K (f10 G k (ivs l) K)
 unfold f10 l10_0
 rw[ivs_len]
 refine wof_loop (x:=0) (y:=0) (Q:=fun o=>∃c d:Nat,o=[.agg [.int .u64 c,.int .u64 d]]∧SetL c d l) (K:=K) hW hl (fun c d h=>W_ret ⟨c,d,rfl,h⟩) k 0 0 0 (by omega) (by omega) ⟨by decide,by decide,fun i hi=> ?_⟩
 show hasW 0 0 i=hasL [] i
 unfold hasW hasL
 by_cases k:i<64<;>simp[k]
end
section
variable {R : Type} {G : ORC R} {k : Nat} {K : LV → OV R}
end
section
variable {R : Type} {G : ORC R} {k : Nat} {K : LV → OV R}
end
section
variable {R : Type} {G : ORC R} {k : Nat} {K : LV → OV R}
end
set_option maxHeartbeats 4000000
theorem at_oesC{h:Hp}{ro:Nat→Prop}{d:Bool}{c:Array Value}:∀{zs:List Int} {off:Nat},(∀j (n:Int),zs[j]? =some n→c[off+j]? =some (.int .i64 n))→OEs h ro d (zs.map fun n=>V.int .i64 n) c off 1 []
 | [],off,_=>rfl
 |a::zs,off,hj=>by
  have h0:=hj 0 a (by simp)
  rw[Nat.add_zero]at h0
  have hs:seg c off 1=[.int .i64 a]:=by
   apply List.ext_getElem?
   intro i
   rw[seg_getElem]
   cases i with
   |zero=>simp[h0]
   |succ i=>simp
  exact⟨[],[],rfl,by rw[hs];rfl,⟨hs,rfl⟩,at_oesC fun j n hjn=>by
   have:=hj (j+1) n (by simpa using hjn)
   rw[show off+1+j=off+(j+1)by omega];exact this⟩
theorem lib_ok{P:Program}{EE:FuncId→Env}{f:FuncId}{fn:Func}{sg:Sig}{vs:LV}{v:V}{m:M}{kd:Kd}{t:Nat}(hf:P.funcs[rf f]? =some fn)(hsg:(EE f).sig f=some sg)(hn:(fn.name== "runtime.NumGoroutine")=false)(hb:fn.body.isNone=false)
 (hl:sg.params.length≤fn.ntmps) (hbx:sg.boxes=[]) (ho:sg.outs=[(m,kd)]) (hp:sg.pan=false) (hio:sg.io=false) (hr:fn.results= #[.tmp t]) (ht:t<fn.ntmps) (hm:m.gives m=true) (hlen:(initP sg.params vs).1.length≤fn.ntmps)
 (H:∀(fr:Fr) (w:World) (g:Gh) (args:Array Value),Sim fr (initSt sg fn.ntmps vs) ⟨args++Array.replicate (fn.ntmps-args.size) undef,[]⟩ w g []→args.size=sg.params.length→fr.w0=w→(∀f',FrT (EE f').tab fr)→
   Calls P (rf f) args w fun e w'=>∃r fp,e= .returned r∧RW w'.heap g.ro m v r fp∧fp.Nodup∧(∀x∈fp,x<w'.heap.size∧(g.ow x≠ .none∨w.heap.size≤x))∧(∀x,x<w.heap.size→g.ow x= .none→w'.heap[x]? =w.heap[x]?)∧w.heap.size≤w'.heap.size∧Same w w'):
 CallOK P EE f vs [v]:=by
 refine⟨fn,sg,hf,hsg,hn,hb,hl,fun e=>(by rw[hio]at e;cases e),fun _ fr w g args hs hw hbs hsz hft=> ?_⟩
 subst hw
 refine(H fr fr.w0 g args hs hsz rfl hft).mono fun e w' h=> ?_
 obtain⟨r,fp,rfl,h1,h2,h3,h4,h5,h6⟩:=h
 have hnb:∀b,(initSt sg fn.ntmps vs).bx b=none:=fun b=>by
  have e:initSt sg fn.ntmps vs=⟨(initP sg.params vs).1++List.replicate (fn.ntmps-(initP sg.params vs).1.length) (.undef,0),initB sg.boxes (initP sg.params vs).2++List.replicate fn.ntmps none⟩:=rfl
  rw[e,hbx,bx_eq]
  simp only[initB,List.nil_append,List.getElem?_replicate]
  split<;>rfl
 let S':St:=⟨(List.replicate fn.ntmps (Sl.undef,0)).set t (.one v m,0),(initSt sg fn.ntmps vs).boxes⟩
 let a':Act:=⟨(Array.replicate fn.ntmps undef).setIfInBounds t r,[]⟩
 let g':Gh:=⟨g.ro,fun x=>if x∈fp then .loc (.s t)else .none,fun l=>if l= .s t then fp else[],fun _=>none⟩
 have hst:S'.tmps[t]? =some (.one v m,0):=by simp[S',ht]
 have hs0:(S'.sl t).1= .one v m:=by
  show(S'.tmps.getD t (Sl.undef,0)).1=_
  rw[List.getD_eq_getElem?_getD,hst];rfl
 refine⟨S',a',g',[v],⟨hs.defers,by simp[a',S'],fun s x hx=> ?_,fun b cs hc=> ?_,fun b _=>rfl,fun l x hx=> ?_,fun l=> ?_,fun b x hx=>(by cases hx),fun x hx=>(by cases hx),.nil,fun x hx=> ?_,fun x hx=>Nat.lt_of_lt_of_le (hs.rolt x hx) h5,hs.ro0,hs.ro1,fun x hx hw=> ?_,h5,h6.os,h6.tape,h6.output,?_,fun b β hb=> ?_⟩,?_,?_,?_⟩
 ·by_cases e:s=t
  ·subst e
   rw[hst]at hx
   cases hx
   refine⟨r,by simp[a',ht],?_⟩
   have hfp:g'.fp (.s s)=fp:=by simp only[g',if_true]
   rw[hfp]
   show OneR w'.heap g' v m r fp
   cases m with
   |pt=>cases hm
   |_=>exact h1
  ·have hl2:s<fn.ntmps:=by
    have:=(List.getElem?_eq_some_iff.1 hx).1
    simpa [S']using this
   have hx2:x=(Sl.undef,0):=by
    simp only[S']at hx
    rw[List.getElem?_set_ne (fun k=>e k.symm),List.getElem?_replicate,if_pos hl2]at hx
    exact(Option.some.inj hx).symm
   subst hx2
   refine⟨undef,by simp[a',hl2,Array.getElem?_setIfInBounds,Ne.symm e,fun k:t=s=>e k.symm],?_⟩
   show(if Lo.s s=Lo.s t then fp else[])=[]
   rw[if_neg (fun k=>e (by injection k))]
 ·have:(initSt sg fn.ntmps vs).bx b=some cs:=hc
  rw[hnb b]at this;cases this
 ·simp only[g']at hx ⊢
  by_cases e:l= .s t
  ·subst e;rw[if_pos rfl]at hx;rw[if_pos hx]
  ·rw[if_neg e]at hx;cases hx
 ·simp only[g']
  split
  ·exact h2
  ·exact .nil
 ·simp only[g']at hx
  by_cases e:x∈fp
  ·obtain⟨k1,k2⟩:=h3 x e
   rcases k2 with k2|k2
   ·obtain⟨q1,q2,q3⟩:=hs.free x k2
    exact⟨q1,k1,q3⟩
   ·exact⟨fun k=>Nat.not_lt.2 k2 (hs.rolt x k),k1,.inl k2⟩
  ·rw[if_neg e]at hx;exact(hx rfl).elim
 ·refine h4 x hx ?_
  cases ho:g.ow x with
  |none=>rfl
  |_=>
   rcases(hs.free x (by rw[ho];exact fun k=>by cases k)).2.2 with k|k
   ·exact absurd hx (Nat.not_lt.2 k)
   ·exact absurd k hw
 ·have e:=hs.bl
  have e1:(initSt sg fn.ntmps vs).tmps.length=fn.ntmps:=by
   show((initP sg.params vs).1++List.replicate (fn.ntmps-(initP sg.params vs).1.length) (Sl.undef,0)).length=_
   rw[List.length_append,List.length_replicate];omega
  rw[e1]at e
  show _+((List.replicate fn.ntmps (Sl.undef,0)).set t _).length≤_
  rw[List.length_set,List.length_replicate];exact e
 ·have:=hs.bb0 b β hb
  rw[hs.noBox b (hnb b)]at this;cases this
 ·unfold finish
  rw[ho,hr,hbx]
  simp only[List.map_cons,List.map_nil,resPlace,placesOK,List.length_nil,resVs,resV,hs0,hm,outB]
  rfl
 ·simp only[preO,hp,cond_false]
 ·have:(results fn a'.tmps).run P w'= .ok (a'.tmps.getD t undef) w':=by
   rw[results_eq,hr]
   simp[resSem]
  rw[this]
  have:a'.tmps.getD t undef=r:=by simp[a',Array.getD,ht]
  rw[this]
theorem lib_cell{P:Program}{EE:FuncId→Env}{f:FuncId}{fn:Func}{sg:Sig}{vs:LV}{x y:Int}{ty ty0:TypeId}{t:Nat}(hf:P.funcs[rf f]? =some fn)(hsg:(EE f).sig f=some sg)(hn:(fn.name== "runtime.NumGoroutine")=false)(hb:fn.body.isNone=false)
 (hl:sg.params.length≤fn.ntmps) (hbx:sg.boxes=[]) (hp:sg.pan=false) (hio:sg.io=false) (hr:fn.results= #[.cell t ty]) (ht:t<fn.ntmps) (hlen:(initP sg.params vs).1.length≤fn.ntmps)
 (hfin:finish (EE f) fn sg ⟨(List.replicate fn.ntmps (Sl.undef,0)).set t (.one (.ptr 0 0) .pt,0),(List.replicate fn.ntmps none).set 0 (some [⟨.int .u64 x,.pr,0,false⟩,⟨.int .u64 y,.pr,0,false⟩])⟩=some [.agg [.int .u64 x,.int .u64 y]])
 (hres:∀(tm:Array Value) (w:World) (β:Nat),tm.getD t undef= .pointer (some ⟨β,0,none⟩)→w.heap[β]? =some (.cells #[.int .u64 x,.int .u64 y] ty0 (0,0))→(results fn tm).run P w= .ok (.agg #[.int .u64 x,.int .u64 y]) w)
 (H:∀(fr:Fr) (w:World) (g:Gh) (args:Array Value),Sim fr (initSt sg fn.ntmps vs) ⟨args++Array.replicate (fn.ntmps-args.size) undef,[]⟩ w g []→args.size=sg.params.length→fr.w0=w→(∀f',FrT (EE f').tab fr)→
   Calls P (rf f) args w fun e w'=>e= .returned (.agg #[.int .u64 x,.int .u64 y])∧∃β,w.heap.size≤β∧w'.heap[β]? =some (.cells #[.int .u64 x,.int .u64 y] ty0 (0,0))∧(∀x,x<w.heap.size→w'.heap[x]? =w.heap[x]?)∧w.heap.size≤w'.heap.size∧Same w w'):
 CallOK P EE f vs [.agg [.int .u64 x,.int .u64 y]]:=by
 refine⟨fn,sg,hf,hsg,hn,hb,hl,fun e=>(by rw[hio]at e;cases e),fun _ fr w g args hs hw hbs hsz hft=> ?_⟩
 subst hw
 refine(H fr fr.w0 g args hs hsz rfl hft).mono fun e w' h=> ?_
 obtain⟨rfl,β,h2,h3,h4,h5,h6⟩:=h
 have hi:initSt sg fn.ntmps vs=⟨(initP sg.params vs).1++List.replicate (fn.ntmps-(initP sg.params vs).1.length) (.undef,0),initB sg.boxes (initP sg.params vs).2++List.replicate fn.ntmps none⟩:=rfl
 have hnb:∀b,(initSt sg fn.ntmps vs).bx b=none:=fun b=>by
  rw[hi,hbx,bx_eq]
  simp only[initB,List.nil_append,List.getElem?_replicate]
  split<;>rfl
 let S':St:=⟨(List.replicate fn.ntmps (Sl.undef,0)).set t (.one (.ptr 0 0) .pt,0),(List.replicate fn.ntmps none).set 0 (some [⟨.int .u64 x,.pr,0,false⟩,⟨.int .u64 y,.pr,0,false⟩])⟩
 let r:Value:=.pointer (some ⟨β,0,none⟩)
 let a':Act:=⟨(Array.replicate fn.ntmps undef).setIfInBounds t r,[]⟩
 let g':Gh:=⟨g.ro,fun x=>if x=β then .box 0 else .none,fun _=>[],fun b=>if b=0 then some β else none⟩
 have hst:S'.tmps[t]? =some (.one (.ptr 0 0) .pt,0):=by simp[S',ht]
 have hb0:S'.bx 0=some [⟨.int .u64 x,.pr,0,false⟩,⟨.int .u64 y,.pr,0,false⟩]:=by
  rw[bx_eq]
  show(((List.replicate fn.ntmps none).set 0 _)[0]?).getD none=_
  rw[List.getElem?_set_self (by simp;omega)];rfl
 have hbn:∀b,b≠0→S'.bx b=none:=fun b h=>by
  rw[bx_eq]
  show(((List.replicate fn.ntmps none).set 0 _)[b]?).getD none=_
  rw[List.getElem?_set_ne (fun k=>h k.symm),List.getElem?_replicate]
  split<;>rfl
 have hβ:β<w'.heap.size:=(Array.getElem?_eq_some_iff.1 h3).1
 refine⟨S',a',g',[.agg [.int .u64 x,.int .u64 y]],⟨hs.defers,by simp[a',S'],fun s q hx=> ?_,fun b cs hc=> ?_,fun b h=> ?_,fun l x hx=>(by cases hx),fun l=>.nil,fun b q hx=> ?_,fun x hx=>(by cases hx),.nil,fun q hx=> ?_,fun x hx=>Nat.lt_of_lt_of_le (hs.rolt x hx) h5,hs.ro0,hs.ro1,fun x hx _=>h4 x hx,h5,h6.os,h6.tape,h6.output,?_,fun b β' hb'=> ?_⟩,hfin,?_,?_⟩
 ·by_cases e:s=t
  ·subst e
   rw[hst]at hx
   cases hx
   exact⟨r,by simp[a',ht],rfl,.inl ⟨0,0,β,rfl,rfl,rfl⟩⟩
  ·have hl2:s<fn.ntmps:=by
    have:=(List.getElem?_eq_some_iff.1 hx).1
    simpa [S']using this
   have hx2:q=(Sl.undef,0):=by
    simp only[S']at hx
    rw[List.getElem?_set_ne (fun k=>e k.symm),List.getElem?_replicate,if_pos hl2]at hx
    exact(Option.some.inj hx).symm
   subst hx2
   exact⟨undef,by simp[a',hl2,Array.getElem?_setIfInBounds,Ne.symm e,fun k:t=s=>e k.symm],rfl⟩
 ·by_cases e:b=0
  ·subst e
   rw[hb0]at hc
   cases hc
   refine⟨β,_,ty0,rfl,h3,rfl,fun j q hj=> ?_⟩
   match j,hj with
   |0,hj=>cases hj;exact⟨_,rfl,⟨rfl,rfl,rfl,rfl⟩,fun k=>by cases k⟩
   |1,hj=>cases hj;exact⟨_,rfl,⟨rfl,rfl,rfl,rfl⟩,fun k=>by cases k⟩
   |j+2,hj=>simp at hj
  ·rw[hbn b e]at hc;cases hc
 ·show(if b=0 then some β else none)=none
  by_cases e:b=0
  ·subst e;rw[hb0]at h;cases h
  ·rw[if_neg e]
 ·have hx:(if b=0 then some β else none)=some q:=hx
  by_cases e:b=0
  ·subst e
   rw[if_pos rfl]at hx
   cases hx
   show(if β=β then Ow.box 0 else .none)=_
   rw[if_pos rfl]
  ·rw[if_neg e]at hx;cases hx
 ·have hx:(if q=β then Ow.box 0 else .none)≠ .none:=hx
  by_cases e:q=β
  ·subst e
   exact⟨fun k=>Nat.not_lt.2 h2 (hs.rolt q k),hβ,.inl h2⟩
  ·rw[if_neg e]at hx;exact(hx rfl).elim
 ·have e:=hs.bl
  have e1:(initSt sg fn.ntmps vs).tmps.length=fn.ntmps:=by
   show((initP sg.params vs).1++List.replicate (fn.ntmps-(initP sg.params vs).1.length) (Sl.undef,0)).length=_
   rw[List.length_append,List.length_replicate];omega
  have e2:(initSt sg fn.ntmps vs).boxes.length=fn.ntmps:=by
   rw[hi,hbx];simp[initB]
  rw[e1,e2]at e
  show _+((List.replicate fn.ntmps (Sl.undef,0)).set t _).length≤((List.replicate fn.ntmps none).set 0 _).length
  rw[List.length_set,List.length_replicate,List.length_set,List.length_replicate];exact e
 ·have:=hs.bb0 b β' hb'
  rw[hs.noBox b (hnb b)]at this;cases this
 ·simp only[preO,hp,cond_false]
 ·exact hres _ _ β (by simp[a',Array.getD,ht,r]) h3
open Go Go.RowKit Go.Shelf Go.Proofs
attribute [local go_sem] Oper.semAt_some
def tzRen:Go.Shelf.Ren:=⟨fun x=>if x=29 then 28 else 0,fun x=>if x=3 then 3 else if x=4 then 4 else if x=5 then 5 else if x=22 then 25 else if x=25 then 50 else if x=54 then 49 else 0,fun x=>if x=1 then 0 else 0⟩
theorem tzL:Go.Proofs.Lays7.n29 Tryd.prog tzRen:=
 {mixed:=by kernel_rfl,f29:=by kernel_rfl,
  t0:=by kernel_rfl,a0:=fun w=>by kernel_rfl,z0:=fun w=>by kernel_rfl,v0:=fun w=>by kernel_rfl,i0:=by kernel_rfl,
  t3:=by kernel_rfl,a3:=fun w=>by kernel_rfl,z3:=fun w=>by kernel_rfl,v3:=fun w=>by kernel_rfl,i3:=by kernel_rfl,
  t4:=by kernel_rfl,a4:=fun w=>by kernel_rfl,z4:=fun w=>by kernel_rfl,v4:=fun w=>by kernel_rfl,i4:=by kernel_rfl,
  t5:=by kernel_rfl,a5:=fun w=>by kernel_rfl,z5:=fun w=>by kernel_rfl,v5:=fun w=>by kernel_rfl,i5:=by kernel_rfl,
  t22:=by kernel_rfl,a22:=fun w=>by kernel_rfl,z22:=fun w=>by kernel_rfl,v22:=fun w=>by kernel_rfl,i22:=by kernel_rfl,
  t25:=by kernel_rfl,a25:=fun w=>by kernel_rfl,z25:=fun w=>by kernel_rfl,v25:=fun w=>by kernel_rfl,i25:=by kernel_rfl,
  t54:=by kernel_rfl,a54:=fun w=>by kernel_rfl,z54:=fun w=>by kernel_rfl,g1:=by kernel_rfl}
abbrev TT (w:World):Prop:=TabAt 0 Lib.deBruijn64tab w
theorem TT.below{n₀:Nat}{A B:World}(h:TT A)(hb:Below n₀ A B)(hn:0<n₀):TT B:=fun j hj=>(hb.cell (p:=⟨0,j,none⟩) hn).trans (h j hj)
theorem tz_in(n x:Nat)(hx:x<18446744073709551616)(w:World)(h:TT w):CallsIn Fence.wide n Tryd.prog 28 #[.int .u64 x] w fun e w'=>e= .returned (.int .i64 (Lib.ctz 64 x))∧w'=w:=
 callsIn_wide.2 (Any7.bits_TrailingZeros64 tzL x hx w (fun _=>h))
theorem ix0(x y:Value)(w:World):(Instr.index 26 (.agg #[x,y]) (.int .i64 0)).run Tryd.prog w= .ok x w:=by
 unfold Instr.index
 go_simp
theorem ix1(x y:Value)(w:World):(Instr.index 26 (.agg #[x,y]) (.int .i64 1)).run Tryd.prog w= .ok y w:=by
 unfold Instr.index
 go_simp
theorem all1_in(n:Nat)(hn:1≤n)(l Bn n₀ a b:Nat)(ha:a<18446744073709551616)(hb:b<18446744073709551616)(J Jx:List Int→World→Prop)
 (hY:∀pre x W,J pre W→pre.length<(bitsL 0 a++bitsL 64 b).length→YieldAt Fence.wide (n-1) Tryd.prog l #[.int .i64 x] W fun e W'=>
   (e= .returned (.bool true)∧J (pre++[x]) W'∧Below n₀ W W')∨(e= .returned (.bool false)∧Jx (pre++[x]) W'))
 (W:World) (h1:W.cell? ⟨Bn,0,none⟩=some (.int .u64 a)) (h2:W.cell? ⟨Bn,1,none⟩=some (.int .u64 b)) (hg:0<n₀) (hT:TT W) (h0:J [] W):
 CallsIn Fence.wide n Tryd.prog 27 #[.func (.yield l) #[] #[],.pointer (some ⟨Bn,0,none⟩)] W fun e W'=>(∃v,e= .returned v)∧
  ((∃ys,ys=bitsL 0 a++bitsL 64 b∧J ys W')∨(∃pre,pre<+:bitsL 0 a++bitsL 64 b∧Jx pre W')):=by
 refine callsIn_of_wp Tryd.func27 rfl trivial ?_ rfl
 simp only[Tryd.ntmps27,List.size_toArray,List.length_cons,List.length_nil,Nat.reduceAdd,Nat.reduceSub,Array.replicate_succ,Array.replicate_zero,List.push_toArray,List.append_toArray,List.nil_append,List.cons_append]
 gi_wp2
 gi_loopw [7] (fun i wr=>∃(k:Nat) (pre rest:List Int),k≤2∧i= .int .i64 k∧bitsL 0 a++bitsL 64 b=pre++rest∧rest=(if k=0 then bitsL 0 a++bitsL 64 b else if k=1 then bitsL 64 b else[])∧J pre wr∧TT wr)
  (fun i _=>2-(intOf i).toNat)
 case atStart=>exact⟨0,[],_,by omega,rfl,rfl,rfl,h0,hT⟩
 case round=>
  obtain⟨k,pre,rest,hk,rfl,hx,hr,hJ,hTr⟩:=hrel
  have e0:((0:Nat):Int)=0:=rfl
  have e1:((1:Nat):Int)=1:=rfl
  have e2:((2:Nat):Int)=2:=rfl
  rcases(show k=0∨k=1∨k=2 by omega)with rfl|rfl|rfl
  ·simp only[e0]
   gi_wp2
   rw[ix0]
   gi_wp2
   gi_loopw [4] (fun v wr=>∃(c:Nat) (pre2:List Int),v= .int .u64 c∧c<18446744073709551616∧bitsL 0 a++bitsL 64 b=pre2++(bitsL 0 c++bitsL 64 b)∧J pre2 wr∧TT wr)
    (fun v _=>(intOf v).toNat)
   case atStart=>exact⟨_,pre,rfl,by assumption,by rw[hr]at hx;simpa using hx,hJ,hTr⟩
   case round=>
    obtain⟨c,pre2,rfl,hc,hx2,hJ2,hT2⟩:=hrel
    by_cases hc0:c=0
    ·subst hc0
     simp only[e0]
     gi_wp2
     exact⟨⟨1,pre2,bitsL 64 b,by omega,rfl,by rw[hx2,bitsL_zero];rfl,by simp,hJ2,hT2⟩,by simp[intOf]⟩
    ·obtain⟨st1,st2,st3⟩:=bitsL_step (o:=0) hc0 hc
     obtain⟨fn,tmps,assign,body,hy,hR⟩:=hY pre2 ((Lib.ctz 64 c:Nat):Int) wr hJ2 (by rw[hx2,st1];simp)
     gi_wp2_with (refine⟨trivial,?_⟩;gi_at_call 28;refine(tz_in (n-1) c hc _ hT2).mono ?_;rintro e w' ⟨rfl,rfl⟩)
     refine hR.mono ?_
     rintro e W3 (⟨rfl,hJ3,hk3⟩|⟨rfl,hJx3⟩)
     ·have hT3:=TT.below hT2 hk3 hg
      gi_wp2
      rw[show bits BinOp.and IntKind.u64 (c:Int) ((c:Int)-1)=((c &&&(c-1):Nat):Int)by rw[show(c:Int)-1=((c-1:Nat):Int)by omega,u64_and_nat c (c-1) hc (by omega)]]
      exact⟨⟨c &&&(c-1),pre2++[((Lib.ctz 64 c:Nat):Int)],rfl,by omega,by rw[hx2,st1];simp,hJ3,hT3⟩,by simp[intOf];omega⟩
     ·gi_wp2
      refine bodyPost_ret (results_none rfl _ _ _) rfl ?_
      exact⟨⟨_,rfl⟩,.inr ⟨pre2++[((Lib.ctz 64 c:Nat):Int)],by rw[hx2,st1];simp,hJx3⟩⟩
  ·simp only[e1]
   gi_wp2
   rw[ix1]
   gi_wp2
   gi_loopw [4] (fun v wr=>∃(c:Nat) (pre2:List Int),v= .int .u64 c∧c<18446744073709551616∧bitsL 0 a++bitsL 64 b=pre2++(bitsL 64 c++[])∧J pre2 wr∧TT wr)
    (fun v _=>(intOf v).toNat)
   case atStart=>exact⟨_,pre,rfl,by assumption,by rw[hr]at hx;simpa using hx,hJ,hTr⟩
   case round=>
    obtain⟨c,pre2,rfl,hc,hx2,hJ2,hT2⟩:=hrel
    by_cases hc0:c=0
    ·subst hc0
     simp only[e0]
     gi_wp2
     exact⟨⟨2,pre2,[],by omega,rfl,by rw[hx2,bitsL_zero];rfl,by simp,hJ2,hT2⟩,by simp[intOf]⟩
    ·obtain⟨st1,st2,st3⟩:=bitsL_step (o:=64) hc0 hc
     obtain⟨fn,tmps,assign,body,hy,hR⟩:=hY pre2 (64+((Lib.ctz 64 c:Nat):Int)) wr hJ2 (by rw[hx2,st1];simp)
     gi_wp2_with (refine⟨trivial,?_⟩;gi_at_call 28;refine(tz_in (n-1) c hc _ hT2).mono ?_;rintro e w' ⟨rfl,rfl⟩)
     refine hR.mono ?_
     rintro e W3 (⟨rfl,hJ3,hk3⟩|⟨rfl,hJx3⟩)
     ·have hT3:=TT.below hT2 hk3 hg
      gi_wp2
      rw[show bits BinOp.and IntKind.u64 (c:Int) ((c:Int)-1)=((c &&&(c-1):Nat):Int)by rw[show(c:Int)-1=((c-1:Nat):Int)by omega,u64_and_nat c (c-1) hc (by omega)]]
      exact⟨⟨c &&&(c-1),pre2++[(64+((Lib.ctz 64 c:Nat):Int))],rfl,by omega,by rw[hx2,st1];simp,hJ3,hT3⟩,by simp[intOf];omega⟩
     ·gi_wp2
      refine bodyPost_ret (results_none rfl _ _ _) rfl ?_
      exact⟨⟨_,rfl⟩,.inr ⟨pre2++[(64+((Lib.ctz 64 c:Nat):Int))],by rw[hx2,st1];simp,hJx3⟩⟩
  ·simp only[e2]
   gi_wp2
   go_end0
   have hr:rest=[]:=by simpa using hr
   subst hr
   exact⟨⟨_,rfl⟩,.inl ⟨pre,by simp[hx],hJ⟩⟩
theorem all_in(n a b:Nat)(w:World):
 CallsIn Fence.wide n Tryd.prog 11 #[.agg #[.int .u64 a,.int .u64 b]] w fun e w'=>e= .returned (.func (.func 27) #[] #[.pointer (some ⟨w.heap.size,0,none⟩)])∧w'=w.alloc (.cells #[.int .u64 a,.int .u64 b] 28):=by
 refine callsIn_of_wp Tryd.func11 rfl trivial ?_ rfl
 simp only[Tryd.ntmps11,List.size_toArray,List.length_cons,List.length_nil,Nat.reduceAdd,Nat.reduceSub,Array.replicate_succ,Array.replicate_zero,List.push_toArray,List.append_toArray,List.nil_append,List.cons_append]
 gi_wp2
 go_ret
 exact⟨rfl,rfl⟩
theorem all_stops(n:Nat)(hn:1≤n)(Bn n₀ a b:Nat)(ha:a<18446744073709551616)(hb:b<18446744073709551616)(w:World)(hBn:Bn<w.heap.size)(hn₀:n₀≤w.heap.size)(h1:w.cell? ⟨Bn,0,none⟩=some (.int .u64 a))(h2:w.cell? ⟨Bn,1,none⟩=some (.int .u64 b))(hg:0<n₀)(hT:TT w):
 SeqStopsK Fence.wide n Tryd.prog 27 #[.pointer (some ⟨Bn,0,none⟩)] (fun x:Int=> #[Value.int .i64 x]) (Below n₀) (fun ys=>ys=bitsL 0 a++bitsL 64 b) (fun pre=>pre<+:bitsL 0 a++bitsL 64 b) (bitsL 0 a++bitsL 64 b).length w:=fun l J Jx W hW _ _ hY h0=>
 all1_in n hn l Bn n₀ a b ha hb J Jx hY W ((hW.cell (p:=⟨Bn,0,none⟩) hBn).trans h1) ((hW.cell (p:=⟨Bn,1,none⟩) hBn).trans h2) hg (TT.below hT hW (by omega)) h0
theorem info3:(Tryd.prog.info? 3).map (fun i=>(i.zero,i.size,i.bytes))=some (some (.int .i64 0),1,8):=by kernel_rfl
theorem bitsL_len{o w:Nat}:(bitsL o w).length≤64:=by
 unfold bitsL
 rw[List.length_map]
 exact Nat.le_trans (List.length_filter_le _ _) (by simp)
theorem list_in(n:Nat)(hn:3≤n)(a b:Nat)(ha:a<18446744073709551616)(hb:b<18446744073709551616)(w:World)(hT:TT w)(h0:0<w.heap.size):
 CallsIn Fence.wide n Tryd.prog 12 #[.agg #[.int .u64 a,.int .u64 b]] w fun e W'=>∃v,e= .returned v∧W'.ownsRow w.heap.size 3 1 v (bitsL 0 a++bitsL 64 b).length ((bitsL 0 a++bitsL 64 b).map (Value.int .i64))∧Below w.heap.size w W':=by
 have h1:1≤n:=by omega
 have hlen:(bitsL 0 a++bitsL 64 b).length≤128:=by
  rw[List.length_append]
  have:=bitsL_len (o:=0) (w:=a)
  have:=bitsL_len (o:=64) (w:=b)
  omega
 obtain⟨i0,hi,hz0,hz1,hz2⟩:=info_parts info3
 refine callsIn_of_wp_marks Tryd.func12 rfl trivial ?_ rfl
 simp only[Tryd.ntmps12,List.size_toArray,List.length_cons,List.length_nil,Nat.reduceAdd,Nat.reduceSub,Array.replicate_succ,Array.replicate_zero,List.push_toArray,List.append_toArray,List.nil_append,List.cons_append]
 gi_wp2_with (refine⟨trivial,?_⟩;gi_at_call 11;refine(all_in (n-1) a b _).mono ?_;rintro e w' ⟨rfl,rfl⟩)
 have hcell:∀(W:World) (c:Array Value) (ty:TypeId) (j:Nat) (v:Value),c[j]? =some v→(W.alloc (.cells c ty)).cell? ⟨W.heap.size,j,none⟩=some v:=fun W c ty j v h=>by
  have e:(W.alloc (.cells c ty)).heap[W.heap.size]? =some (.cells c ty):=Array.getElem?_push_size
  simp only[World.cell?,e]
  simpa using h
 have bO:=Boxed.new (w.alloc (.cells #[.int .u64 a,.int .u64 b] 28)) 22 (.slice none 0 0)
 have c0:=hcell ((w.alloc (.cells #[.int .u64 a,.int .u64 b] 28)).alloc (.cells #[.slice none 0 0] 22)) #[.int .u64 a,.int .u64 b] 28 0 _ rfl
 have c1:=hcell ((w.alloc (.cells #[.int .u64 a,.int .u64 b] 28)).alloc (.cells #[.slice none 0 0] 22)) #[.int .u64 a,.int .u64 b] 28 1 _ rfl
 rw[World.size_alloc]at bO
 rw[World.size_alloc,World.size_alloc]at c0 c1
 have hB0:Below w.heap.size w (((w.alloc (.cells #[.int .u64 a,.int .u64 b] 28)).alloc (.cells #[.slice none 0 0] 22)).alloc (.cells #[.int .u64 a,.int .u64 b] 28)):=(((Below.refl _ w).alloc (Nat.le_refl _) _).alloc (by simp) _).alloc (by simp;omega) _
 refine wpIn_rangeFunc_ownG rfl h1 (gf:=27) (lb:= #[.pointer (some ⟨w.heap.size+1+1,0,none⟩)]) rfl trivial (enters_of Tryd.func27 (by kernel_rfl) rfl)
  (all_stops (n-1) (by omega) (w.heap.size+1+1) w.heap.size a b ha hb _ (by simp) (by simp;omega) c0 c1 h0 (TT.below hT hB0 h0)) belowK_t (belowK_b (by simp;omega)) (Below.refl _ _) (fun _=>rfl)
  (fun pre W=>(∃v,Boxed W (w.heap.size+1) 22 v∧W.ownsRow w.heap.size 3 1 v pre.length (pre.map (Value.int .i64))∧True)∧Below w.heap.size w W)
  (fun _ _ _=>False)
  (OwnFrom.and (Own.from (holdsRow_own w.heap.size (w.heap.size+1) 22 3 1 (fun pre:List Int=>pre.length) (fun pre=>pre.map (Value.int .i64)) (fun pre v=>True)) _) (ownFrom_below (Nat.le_refl _) (by simp;omega)))
  (fun _ _ _ _ _ hs _ _=>hs)
  ⟨⟨_,bO.alloc _,World.ownsRow_nil _ _ _ _,trivial⟩,hB0⟩
  (fun x=>{tmps:= #[.agg #[.int .u64 a,.int .u64 b],.pointer (some ⟨w.heap.size,0,none⟩),.slice none 0 0,.pointer (some ⟨w.heap.size+1,0,none⟩),.int .i64 x,.agg #[.int .u64 a,.int .u64 b],.func (.func 27) #[] #[.pointer (some ⟨w.heap.size+1+1,0,none⟩)],.int .i64 x,undef,undef,undef,undef,undef],defers:=[]}) ?assign ?body ?done ?stop
 case assign=>
  intro l x W K hK
  gi_wp2
  exact hK
 case body=>
  rintro l pre x W ⟨⟨v,hv,hrow,_⟩,hB⟩ hlt
  have hc:=hv.cell
  have hpl:pre.length<128:=by omega
  gi_wp2_with (gi_at_builtin;refine wpListIn_append_own _ rfl _ _ 22 rfl w.heap.size 3 i0 (.int .i64 0) 1 8 Tryd.underlying22 hi hz0 hz1 hz2 rfl (by decide) _ _ _ rfl (hrow.alloc _) ⟨W.heap.size,0,none⟩ 1 1 [.int .i64 x] rfl rfl (cell_one_new _ _ _) (by simp[Value.oneCell']) (by unfold maxLen;omega) (by omega) (by have:=hB.size;simp;omega) ?_;intro v' w1 hown' hgrow _;obtain⟨g',cap',rfl⟩:=ownsRow_succ hown';obtain⟨hv1,hv2,hr2,hk2,hb2⟩:=hv.appended (by decide) hrow hB.size (Nat.le_succ _) hown' hgrow;have hc1:=hv1.cell;have hf1:=hv1.frozen)
  exact⟨hk2.from _,hb2,⟨_,hv2,by simpa using hr2,trivial⟩,hB.trans hb2⟩
 case done=>
  rintro D ys W hD rfl ⟨⟨v,hv,hrow,_⟩,hB⟩ hK
  have hc:=hv.cell
  gi_wp2
  refine⟨by simp,.inl ⟨_,_,rfl,run_takeDeferred hK,?_⟩⟩
  exact⟨_,results_tmp rfl _ _ _,v,rfl,ownsRow_putObj hrow _ hK rfl,hB.trans (belowK_b (w:=w) (Nat.le_refl _) W D _ _ (by simp at hD;omega) hK rfl rfl)⟩
 case stop=>
  rintro D c pre W _ _ h _
  exact h.elim
theorem tab_TT{fr:Fr}(h:∀f',FrT (TAB.env f').tab fr):TT fr.w0∧0<fr.w0.heap.size:=by
 obtain⟨⟨c,ty,fz,h1,h2⟩,_⟩:=h 0 0 (Lib.deBruijn64tab.map fun n:Nat=>.int .u8 (n:Int)) rfl
 refine⟨fun j hj=> ?_,(Array.getElem?_eq_some_iff.1 h1).1⟩
 simp only[World.cell?,h1]
 have:=h2 j (.int .u8 (Lib.deBruijn64tab.getD j 0)) (by
  rw[List.getElem?_map,List.getElem?_eq_getElem hj,List.getD_eq_getElem?_getD,List.getElem?_eq_getElem hj];rfl)
 simpa using this
theorem set_slot{fr:Fr}{S:St}{a:Act}{w:World}{g:Gh}{t:Nat}{x y:Int}(hs:Sim fr S a w g [])(h:S.tmps[t]? =some (.one (.agg [.int .u64 x,.int .u64 y]) .ro,0)):a.tmps[t]? =some (.agg #[.int .u64 x,.int .u64 y]):=by
 obtain⟨r,e,o⟩:=hs.slots t _ h
 obtain⟨rs,rfl,o2⟩:=(show∃rs,r= .agg rs∧RM w.heap g.ro .ro (.agg [.int .u64 x,.int .u64 y]) rs.toList (g.fp (.s t))from o)
 obtain⟨q1,q2,e1,_,e2,q3,q4,e3,_,e4,e5⟩:=(show REl w.heap g.ro (.agg [.int .u64 x,.int .u64 y]) rs.toList from o2.1)
 rw[e]
 have e2:[q1]=[.int .u64 x]:=e2
 have e4:[q3]=[.int .u64 y]:=e4
 have e5:q4=[]:=e5
 subst e5
 injection e2 with e2 _
 injection e4 with e4 _
 subst e2;subst e4
 rw[e3]at e1
 congr 2
 exact Array.ext' (by rw[e1])
theorem list_ok{x y:Nat}(hx:x<18446744073709551616)(hy:y<18446744073709551616):
 CallOK Tryd.prog TAB.env 12 [.agg [.int .u64 x,.int .u64 y]] [.sl 1 ((bitsL 0 x++bitsL 64 y).map fun n=>V.int .i64 n)]:=by
 refine lib_ok (fn:=Tryd.f12) (sg:=S12) (m:=.own true) (t:=2) (by kernel_rfl) (by kernel_rfl) (by kernel_rfl) (by kernel_rfl) (by decide) rfl rfl rfl rfl rfl (by decide) rfl (show 1≤Tryd.f12.ntmps by decide) fun fr w g args hs hsz hw hft=> ?_
 have hsz:args.size=1:=hsz
 have e0:=set_slot (t:=0) hs rfl
 have ha:args= #[.agg #[.int .u64 x,.int .u64 y]]:=by
  have:args[0]? =some (.agg #[.int .u64 x,.int .u64 y]):=by
   have e0:(args++Array.replicate (Tryd.f12.ntmps-args.size) undef)[0]? =some (.agg #[.int .u64 x,.int .u64 y]):=e0
   rw[Array.getElem?_append_left (by omega)]at e0;exact e0
  apply Array.ext_getElem?
  intro k
  by_cases k0:k=0
  ·subst k0;rw[this];rfl
  ·rw[Array.getElem?_eq_none (by omega),Array.getElem?_eq_none (by simp;omega)]
 rw[ha]
 subst hw
 obtain⟨hT,h0⟩:=tab_TT hft
 refine(callsIn_wide.1 (list_in 3 (Nat.le_refl _) x y hx hy fr.w0 hT h0)).mono fun e w' h=> ?_
 obtain⟨v,rfl,hrow,hB⟩:=h
 have keep:∀x,x<fr.w0.heap.size→w'.heap[x]? =fr.w0.heap[x]? :=fun x hx=>hB.block x hx
 generalize hzs:bitsL 0 x++bitsL 64 y=zs at hrow
 obtain⟨r1,r2⟩:=hrow
 have same:Same fr.w0 w':=⟨hB.os,hB.tape,hB.output⟩
 rcases r2 with⟨rfl,r2⟩|⟨b,cap,cur,rfl,r3,r4,r5,r6,r7,r8⟩
 ·have:zs=[]:=List.length_eq_zero_iff.1 r2
  subst this
  exact⟨_,[],rfl,⟨none,0,0,rfl,rfl,by decide,rfl,rfl⟩,.nil,fun x hx=>(by cases hx),fun x hx _=>keep x hx,hB.size,same⟩
 ·have hlt:b<w'.heap.size:=(Array.getElem?_eq_some_iff.1 r4).1
  refine⟨_,[b],rfl,⟨some ⟨b,0,none⟩,zs.length,cap,rfl,by rw[List.length_map],⟨r5,Nat.le_trans r6 (by decide)⟩,rfl,cur,_,r4,by simp only[Nat.mul_one]at r7 ⊢;omega,[],rfl,?_⟩,by simp,fun x hx=> ?_,fun x hx _=>keep x hx,hB.size,same⟩
  ·simp only[if_true]
   refine at_oesC fun j n hj=> ?_
   have hl:j<zs.length:=(List.getElem?_eq_some_iff.1 hj).1
   have e:=congrArg (fun l:List Value=>l[j]?) r8
   simp only[List.getElem?_take,List.getElem?_map,hj]at e
   rw[if_pos (by omega)]at e
   rw[Nat.zero_add,←Array.getElem?_toList]
   simpa using e
  ·simp only[List.mem_singleton]at hx
   subst hx
   exact⟨hlt,.inr r3⟩
def g12{R:Type}(G:ORC R)(k:Nat)(args:LV)(K:LV→OV R):OV R:=match args with
 | [.agg [.int .u64 x,.int .u64 y]]=>bif decide (0≤x)&&decide (x<18446744073709551616)&&decide (0≤y)&&decide (y<18446744073709551616)then K [.sl 1 ((bitsL 0 x.toNat++bitsL 64 y.toNat).map fun n=>V.int .i64 n)]else none
 |_=>none
theorem s12{R:Type}{G:ORC R}{k:Nat}(hG:Sound Tryd.prog TAB G)(args:LV)(K:LV→OV R)(r:R)(h:g12 G k args K=some r):∃o,CallOK Tryd.prog TAB.env 12 args o∧K o=some r:=by
 unfold g12 at h
 split at h
 ·rename_i x y
  cases hc:decide (0≤x)&&decide (x<18446744073709551616)&&decide (0≤y)&&decide (y<18446744073709551616)with
  |false=>rw[hc]at h;cases h
  |true=>
   rw[hc]at h
   simp only[Bool.and_eq_true,decide_eq_true_eq]at hc
   obtain⟨⟨⟨h1,h2⟩,h3⟩,h4⟩:=hc
   have:=list_ok (x:=x.toNat) (y:=y.toNat) (by omega) (by omega)
   rw[Int.toNat_of_nonneg h1,Int.toNat_of_nonneg h3]at this
   exact⟨_,this,h⟩
 ·cases h
abbrev W3 (w:World) (x y u v:Value):World:=((w.alloc (.cells #[x,y] 28)).alloc (.cells #[u,v] 28)).alloc (.cells #[.int .u64 0,.int .u64 0] 28)
theorem top3(w:World)(o1 o2 o3:Obj):(((w.alloc o1).alloc o2).alloc o3).heap[w.heap.size+1+1]? =some o3:=by
 have e:((w.alloc o1).alloc o2).heap.size=w.heap.size+1+1:=by rw[World.size_alloc,World.size_alloc]
 rw[←e];exact Array.getElem?_push_size
theorem not_in(n:Nat)(a b c d:Nat)(w:World):
 CallsIn Fence.wide n Tryd.prog 22 #[.agg #[.int .u64 a,.int .u64 b],.agg #[.int .u64 c,.int .u64 d]] w fun e w'=>e= .returned (.agg #[.int .u64 (bits .andNot .u64 a c),.int .u64 (bits .andNot .u64 b d)])∧Below w.heap.size w w'∧w'.heap[w.heap.size+1+1]? =some (.cells #[.int .u64 (bits .andNot .u64 a c),.int .u64 (bits .andNot .u64 b d)] 28 (0,0)):=by
 refine callsIn_of_wp Tryd.func22 rfl trivial ?_ rfl
 simp only[Tryd.ntmps22,List.size_toArray,List.length_cons,List.length_nil,Nat.reduceAdd,Nat.reduceSub,Array.replicate_succ,Array.replicate_zero,List.push_toArray,List.append_toArray,List.nil_append,List.cons_append]
 gi_wp2
 gi_loopw [9] (fun i wr=>(i= .int .i64 0∧wr=W3 w (.int .u64 a) (.int .u64 b) (.int .u64 c) (.int .u64 d))∨(i= .int .i64 1∧wr=W3 w (.int .u64 (bits .andNot .u64 a c)) (.int .u64 b) (.int .u64 c) (.int .u64 d))∨(i= .int .i64 2∧wr=W3 w (.int .u64 (bits .andNot .u64 a c)) (.int .u64 (bits .andNot .u64 b d)) (.int .u64 c) (.int .u64 d)))
  (fun i _=>2-(intOf i).toNat)
 case atStart=>exact .inl ⟨rfl,rfl⟩
 case round=>
  rcases hrel with⟨rfl,rfl⟩|⟨rfl,rfl⟩|⟨rfl,rfl⟩
  ·gi_wp2
   rw[ix0]
   unfold W3
   gi_wp2
   exact⟨.inr (.inl (by simp)),by simp[intOf]⟩
  ·gi_wp2
   rw[ix1]
   unfold W3
   gi_wp2
   exact⟨.inr (.inr (by simp)),by simp[intOf]⟩
  ·unfold W3
   gi_wp2
   refine bodyPost_ret (results_cell_row rfl _ _ (w.heap.size+1+1) _ _ _ _ rfl (top3 w _ _ _) Tryd.underlying28 rfl (by kernel_rfl)) rfl ?_
   exact⟨rfl,(((Below.refl _ w).alloc (Nat.le_refl _) _).alloc (by simp) _).alloc (by simp;omega) _,top3 w _ _ _⟩
theorem and_in(n:Nat)(a b c d:Nat)(w:World):
 CallsIn Fence.wide n Tryd.prog 21 #[.agg #[.int .u64 a,.int .u64 b],.agg #[.int .u64 c,.int .u64 d]] w fun e w'=>e= .returned (.agg #[.int .u64 (bits .and .u64 a c),.int .u64 (bits .and .u64 b d)])∧Below w.heap.size w w'∧w'.heap[w.heap.size+1+1]? =some (.cells #[.int .u64 (bits .and .u64 a c),.int .u64 (bits .and .u64 b d)] 28 (0,0)):=by
 refine callsIn_of_wp Tryd.func21 rfl trivial ?_ rfl
 simp only[Tryd.ntmps21,List.size_toArray,List.length_cons,List.length_nil,Nat.reduceAdd,Nat.reduceSub,Array.replicate_succ,Array.replicate_zero,List.push_toArray,List.append_toArray,List.nil_append,List.cons_append]
 gi_wp2
 gi_loopw [9] (fun i wr=>(i= .int .i64 0∧wr=W3 w (.int .u64 a) (.int .u64 b) (.int .u64 c) (.int .u64 d))∨(i= .int .i64 1∧wr=W3 w (.int .u64 (bits .and .u64 a c)) (.int .u64 b) (.int .u64 c) (.int .u64 d))∨(i= .int .i64 2∧wr=W3 w (.int .u64 (bits .and .u64 a c)) (.int .u64 (bits .and .u64 b d)) (.int .u64 c) (.int .u64 d)))
  (fun i _=>2-(intOf i).toNat)
 case atStart=>exact .inl ⟨rfl,rfl⟩
 case round=>
  rcases hrel with⟨rfl,rfl⟩|⟨rfl,rfl⟩|⟨rfl,rfl⟩
  ·gi_wp2
   rw[ix0]
   unfold W3
   gi_wp2
   exact⟨.inr (.inl (by simp)),by simp[intOf]⟩
  ·gi_wp2
   rw[ix1]
   unfold W3
   gi_wp2
   exact⟨.inr (.inr (by simp)),by simp[intOf]⟩
  ·unfold W3
   gi_wp2
   refine bodyPost_ret (results_cell_row rfl _ _ (w.heap.size+1+1) _ _ _ _ rfl (top3 w _ _ _) Tryd.underlying28 rfl (by kernel_rfl)) rfl ?_
   exact⟨rfl,(((Below.refl _ w).alloc (Nat.le_refl _) _).alloc (by simp) _).alloc (by simp;omega) _,top3 w _ _ _⟩
theorem or_in(n:Nat)(a b c d:Nat)(w:World):
 CallsIn Fence.wide n Tryd.prog 20 #[.agg #[.int .u64 a,.int .u64 b],.agg #[.int .u64 c,.int .u64 d]] w fun e w'=>e= .returned (.agg #[.int .u64 (bits .or .u64 a c),.int .u64 (bits .or .u64 b d)])∧Below w.heap.size w w'∧w'.heap[w.heap.size+1+1]? =some (.cells #[.int .u64 (bits .or .u64 a c),.int .u64 (bits .or .u64 b d)] 28 (0,0)):=by
 refine callsIn_of_wp Tryd.func20 rfl trivial ?_ rfl
 simp only[Tryd.ntmps20,List.size_toArray,List.length_cons,List.length_nil,Nat.reduceAdd,Nat.reduceSub,Array.replicate_succ,Array.replicate_zero,List.push_toArray,List.append_toArray,List.nil_append,List.cons_append]
 gi_wp2
 gi_loopw [9] (fun i wr=>(i= .int .i64 0∧wr=W3 w (.int .u64 a) (.int .u64 b) (.int .u64 c) (.int .u64 d))∨(i= .int .i64 1∧wr=W3 w (.int .u64 (bits .or .u64 a c)) (.int .u64 b) (.int .u64 c) (.int .u64 d))∨(i= .int .i64 2∧wr=W3 w (.int .u64 (bits .or .u64 a c)) (.int .u64 (bits .or .u64 b d)) (.int .u64 c) (.int .u64 d)))
  (fun i _=>2-(intOf i).toNat)
 case atStart=>exact .inl ⟨rfl,rfl⟩
 case round=>
  rcases hrel with⟨rfl,rfl⟩|⟨rfl,rfl⟩|⟨rfl,rfl⟩
  ·gi_wp2
   rw[ix0]
   unfold W3
   gi_wp2
   exact⟨.inr (.inl (by simp)),by simp[intOf]⟩
  ·gi_wp2
   rw[ix1]
   unfold W3
   gi_wp2
   exact⟨.inr (.inr (by simp)),by simp[intOf]⟩
  ·unfold W3
   gi_wp2
   refine bodyPost_ret (results_cell_row rfl _ _ (w.heap.size+1+1) _ _ _ _ rfl (top3 w _ _ _) Tryd.underlying28 rfl (by kernel_rfl)) rfl ?_
   exact⟨rfl,(((Below.refl _ w).alloc (Nat.le_refl _) _).alloc (by simp) _).alloc (by simp;omega) _,top3 w _ _ _⟩
theorem wnot_ok{a b c d:Nat}:
 CallOK Tryd.prog TAB.env 22 [.agg [.int .u64 a,.int .u64 b],.agg [.int .u64 c,.int .u64 d]] [.agg [.int .u64 (bits .andNot .u64 a c),.int .u64 (bits .andNot .u64 b d)]]:=by
 refine lib_cell (fn:=Tryd.f22) (sg:=S22) (t:=4) (ty:=28) (ty0:=28) (by kernel_rfl) (by kernel_rfl) (by kernel_rfl) (by kernel_rfl) (by decide) rfl rfl rfl rfl (by decide) (show 2≤Tryd.f22.ntmps by decide) (by kernel_rfl)
  (fun tm w β h1 h2=>results_cell_row rfl _ _ β _ _ _ _ h1 h2 Tryd.underlying28 rfl (by kernel_rfl)) fun fr w g args hs hsz hw hft=> ?_
 have hsz:args.size=2:=hsz
 have e0:=set_slot (t:=0) hs rfl
 have e1:=set_slot (t:=1) hs rfl
 have key:∀{q:Nat} {r:Value},q<2→(args++Array.replicate (Tryd.f22.ntmps-args.size) undef)[q]? =some r→args[q]? =some r:=fun hq e=>by
  rw[Array.getElem?_append_left (by omega)]at e;exact e
 have q0:=key (by decide) e0
 have q1:=key (by decide) e1
 have ha:args= #[.agg #[.int .u64 a,.int .u64 b],.agg #[.int .u64 c,.int .u64 d]]:=by
  apply Array.ext_getElem?
  intro k
  by_cases k2:k<2
  ·rcases(show k=0∨k=1 by omega)with rfl|rfl
   ·rw[q0];rfl
   ·rw[q1];rfl
  ·rw[Array.getElem?_eq_none (by omega),Array.getElem?_eq_none (by simp;omega)]
 rw[ha]
 refine(callsIn_wide.1 (not_in 0 a b c d w)).mono fun e w' h=> ?_
 obtain⟨rfl,hB,hc⟩:=h
 exact⟨rfl,w.heap.size+1+1,by omega,hc,fun x hx=>hB.block x hx,hB.size,⟨hB.os,hB.tape,hB.output⟩⟩
def g22{R:Type}(G:ORC R)(k:Nat)(args:LV)(K:LV→OV R):OV R:=match args with
 | [.agg [.int .u64 a,.int .u64 b],.agg [.int .u64 c,.int .u64 d]]=>bif decide (0≤a)&&decide (0≤b)&&decide (0≤c)&&decide (0≤d)then K [.agg [.int .u64 (bits .andNot .u64 a c),.int .u64 (bits .andNot .u64 b d)]]else none
 |_=>none
theorem s22{R:Type}{G:ORC R}{k:Nat}(hG:Sound Tryd.prog TAB G)(args:LV)(K:LV→OV R)(r:R)(h:g22 G k args K=some r):∃o,CallOK Tryd.prog TAB.env 22 args o∧K o=some r:=by
 unfold g22 at h
 split at h
 ·rename_i a b c d
  cases hc:decide (0≤a)&&decide (0≤b)&&decide (0≤c)&&decide (0≤d)with
  |false=>rw[hc]at h;cases h
  |true=>
   rw[hc]at h
   simp only[Bool.and_eq_true,decide_eq_true_eq]at hc
   obtain⟨⟨⟨h1,h2⟩,h3⟩,h4⟩:=hc
   have:=wnot_ok (a:=a.toNat) (b:=b.toNat) (c:=c.toNat) (d:=d.toNat)
   rw[Int.toNat_of_nonneg h1,Int.toNat_of_nonneg h2,Int.toNat_of_nonneg h3,Int.toNat_of_nonneg h4]at this
   exact⟨_,this,h⟩
 ·cases h
set_option maxHeartbeats 8000000
theorem hasL_of{l:List Int}{i:Nat}(h:i<128):hasL (ofL l) i=hasL l i:=by
 have e:((i:Int)∈ofL l)↔(i:Int)∈l:=by
  unfold ofL
  rw[mem_ofGo]
  exact⟨fun h=>h.2.2,fun k=>⟨by omega,by omega,k⟩⟩
 unfold hasL
 exact decide_eq_decide.2 e
theorem SetL.of{a b:Nat}{l:List Int}(h:SetL a b l):SetL a b (ofL l):=SetP.congr h fun i hi=>(hasL_of hi).symm
theorem ivs_ex{v:LV}(h:IntsS v):∃l,v=ivs l:=by
 induction v with
 |nil=>exact⟨[],rfl⟩
 |cons x r ih=>
  obtain⟨l,hl⟩:=ih fun y hy=>h y (List.mem_cons_of_mem _ hy)
  obtain⟨n,hn,_⟩:=h x List.mem_cons_self
  exact⟨n::l,by rw[hn,hl];rfl⟩
theorem tb_andNot{a c i:Nat}(hc:c<18446744073709551616)(hi:i<64):(a &&&(18446744073709551615-c)).testBit i=(a.testBit i&& !c.testBit i):=by
 rw[Nat.testBit_and,show 18446744073709551615-c=2^64-(c+1)by omega,Nat.testBit_two_pow_sub_succ hc,decide_eq_true hi,Bool.true_and]
section
variable {R : Type} {G : ORC R} {k : Nat} {K : LV → OV R}
def SNotOK(G:ORC R):Prop:=∀(a b c d:Nat) (p q:Nat→Bool) (K:LV→OV R),SetP a b p→SetP c d q→W (fun o=>∃e f:Nat,o=[.agg [.int .u64 e,.int .u64 f]]∧SetP e f fun i=>p i&& !q i) K (G 22 [.agg [.int .u64 a,.int .u64 b],.agg [.int .u64 c,.int .u64 d]] K)
theorem snot_ok:SNotOK (fun _ args (K:LV→OV R)=>g22 G k args K):=by
 intro a b c d p q K hp hq
 show W _ K (bif decide (0≤(a:Int))&&decide (0≤(b:Int))&&decide (0≤(c:Int))&&decide (0≤(d:Int))then K [.agg [.int .u64 (bits .andNot .u64 a c),.int .u64 (bits .andNot .u64 b d)]]else none)
 rw[decide_eq_true (show(0:Int)≤(a:Int)by omega),decide_eq_true (show(0:Int)≤(b:Int)by omega),decide_eq_true (show(0:Int)≤(c:Int)by omega),decide_eq_true (show(0:Int)≤(d:Int)by omega)]
 rw[u64_andNot_nat a c hp.1 hq.1,u64_andNot_nat b d hp.2.1 hq.2.1]
 refine W_ret ⟨_,_,rfl,Nat.lt_of_le_of_lt Nat.and_le_left hp.1,Nat.lt_of_le_of_lt Nat.and_le_left hp.2.1,fun i hi=> ?_⟩
 show _=(p i&& !q i)
 rw[←hp.2.2 i hi,←hq.2.2 i hi]
 by_cases k:i<64
 ·rw[hasW_lo k,hasW_lo k,hasW_lo k,tb_andNot hq.1 k]
 ·obtain⟨j,rfl⟩:∃j,i=64+j:=⟨i-64,by omega⟩
  rw[hasW_hi,hasW_hi,hasW_hi,tb_andNot hq.2.1 (by omega)]
theorem zeroP:SetP 0 0 fun _=>false:=⟨by decide,by decide,fun i _=>by unfold hasW;by_cases k:i<64<;>simp[k]⟩
def FewOK(G:ORC R):Prop:=∀(l:List Int) (K:LV→OV R),W (fun o=>o=[.bool (decide (l.length≤300))]) K (G 8 [.sl 1 (ivs l)] K)
theorem few_ok:FewOK (fun _ args (K:LV→OV R)=>g8 G k args K):=by
 intro l K
 show W _ K (f8 G k (ivs l) K)
 unfold f8
 simp only[ivs_len]
 refine W_ret ?_
 congr 2
 exact decide_eq_decide.2 (by omega)
def KnoOK(G:ORC R):Prop:=∀(K:LV→OV R),W (fun o=>o=[.bool true]) K (G 9 [] K)
end
section
variable {R : Type} {G : ORC R} {k : Nat} {K : LV → OV R}
theorem eqI{a b c d:Nat}:(((a:Int)==(c:Int))&&(((b:Int)==(d:Int))&&true))=decide (a=c∧b=d):=by
 by_cases h:a=c∧b=d
 ·obtain⟨rfl,rfl⟩:=h;simp
 ·rw[decide_eq_false h]
  cases h1:((a:Int)==(c:Int))with
  |false=>rfl
  |true=>
   cases h2:((b:Int)==(d:Int))with
   |false=>rfl
   |true=>exact absurd ⟨Int.ofNat.inj (by simpa using h1),Int.ofNat.inj (by simpa using h2)⟩ h
theorem kn_go(hK:KnoOK G):W (fun o=>o=[.bool true]) K (G 9 [] fun o=>uB o fun b r=>unNil r (K [.bool b])):=by
 refine W_call (hK _) ?_
 rintro _ rfl
 (repeat(with_reducible apply U1))
 exact W_ret rfl
end
section
variable {R : Type} {G : ORC R} {k : Nat} {K : LV → OV R}
end
set_option maxHeartbeats 4000000
theorem wor_ok{a b c d:Nat}:
 CallOK Tryd.prog TAB.env 20 [.agg [.int .u64 a,.int .u64 b],.agg [.int .u64 c,.int .u64 d]] [.agg [.int .u64 (bits .or .u64 a c),.int .u64 (bits .or .u64 b d)]]:=by
 refine lib_cell (fn:=Tryd.f20) (sg:=S20) (t:=4) (ty:=28) (ty0:=28) (by kernel_rfl) (by kernel_rfl) (by kernel_rfl) (by kernel_rfl) (by decide) rfl rfl rfl rfl (by decide) (show 2≤Tryd.f20.ntmps by decide) (by kernel_rfl)
  (fun tm w β h1 h2=>results_cell_row rfl _ _ β _ _ _ _ h1 h2 Tryd.underlying28 rfl (by kernel_rfl)) fun fr w g args hs hsz hw hft=> ?_
 have hsz:args.size=2:=hsz
 have e0:=set_slot (t:=0) hs rfl
 have e1:=set_slot (t:=1) hs rfl
 have key:∀{q:Nat} {r:Value},q<2→(args++Array.replicate (Tryd.f20.ntmps-args.size) undef)[q]? =some r→args[q]? =some r:=fun hq e=>by
  rw[Array.getElem?_append_left (by omega)]at e;exact e
 have q0:=key (by decide) e0
 have q1:=key (by decide) e1
 have ha:args= #[.agg #[.int .u64 a,.int .u64 b],.agg #[.int .u64 c,.int .u64 d]]:=by
  apply Array.ext_getElem?
  intro k
  by_cases k2:k<2
  ·rcases(show k=0∨k=1 by omega)with rfl|rfl
   ·rw[q0];rfl
   ·rw[q1];rfl
  ·rw[Array.getElem?_eq_none (by omega),Array.getElem?_eq_none (by simp;omega)]
 rw[ha]
 refine(callsIn_wide.1 (or_in 0 a b c d w)).mono fun e w' h=> ?_
 obtain⟨rfl,hB,hc⟩:=h
 exact⟨rfl,w.heap.size+1+1,by omega,hc,fun x hx=>hB.block x hx,hB.size,⟨hB.os,hB.tape,hB.output⟩⟩
def g20{R:Type}(G:ORC R)(k:Nat)(args:LV)(K:LV→OV R):OV R:=match args with
 | [.agg [.int .u64 a,.int .u64 b],.agg [.int .u64 c,.int .u64 d]]=>bif decide (0≤a)&&decide (0≤b)&&decide (0≤c)&&decide (0≤d)then K [.agg [.int .u64 (bits .or .u64 a c),.int .u64 (bits .or .u64 b d)]]else none
 |_=>none
theorem s20{R:Type}{G:ORC R}{k:Nat}(hG:Sound Tryd.prog TAB G)(args:LV)(K:LV→OV R)(r:R)(h:g20 G k args K=some r):∃o,CallOK Tryd.prog TAB.env 20 args o∧K o=some r:=by
 unfold g20 at h
 split at h
 ·rename_i a b c d
  cases hc:decide (0≤a)&&decide (0≤b)&&decide (0≤c)&&decide (0≤d)with
  |false=>rw[hc]at h;cases h
  |true=>
   rw[hc]at h
   simp only[Bool.and_eq_true,decide_eq_true_eq]at hc
   obtain⟨⟨⟨h1,h2⟩,h3⟩,h4⟩:=hc
   have:=wor_ok (a:=a.toNat) (b:=b.toNat) (c:=c.toNat) (d:=d.toNat)
   rw[Int.toNat_of_nonneg h1,Int.toNat_of_nonneg h2,Int.toNat_of_nonneg h3,Int.toNat_of_nonneg h4]at this
   exact⟨_,this,h⟩
 ·cases h
theorem wand_ok{a b c d:Nat}:
 CallOK Tryd.prog TAB.env 21 [.agg [.int .u64 a,.int .u64 b],.agg [.int .u64 c,.int .u64 d]] [.agg [.int .u64 (bits .and .u64 a c),.int .u64 (bits .and .u64 b d)]]:=by
 refine lib_cell (fn:=Tryd.f21) (sg:=S21) (t:=4) (ty:=28) (ty0:=28) (by kernel_rfl) (by kernel_rfl) (by kernel_rfl) (by kernel_rfl) (by decide) rfl rfl rfl rfl (by decide) (show 2≤Tryd.f21.ntmps by decide) (by kernel_rfl)
  (fun tm w β h1 h2=>results_cell_row rfl _ _ β _ _ _ _ h1 h2 Tryd.underlying28 rfl (by kernel_rfl)) fun fr w g args hs hsz hw hft=> ?_
 have hsz:args.size=2:=hsz
 have e0:=set_slot (t:=0) hs rfl
 have e1:=set_slot (t:=1) hs rfl
 have key:∀{q:Nat} {r:Value},q<2→(args++Array.replicate (Tryd.f21.ntmps-args.size) undef)[q]? =some r→args[q]? =some r:=fun hq e=>by
  rw[Array.getElem?_append_left (by omega)]at e;exact e
 have q0:=key (by decide) e0
 have q1:=key (by decide) e1
 have ha:args= #[.agg #[.int .u64 a,.int .u64 b],.agg #[.int .u64 c,.int .u64 d]]:=by
  apply Array.ext_getElem?
  intro k
  by_cases k2:k<2
  ·rcases(show k=0∨k=1 by omega)with rfl|rfl
   ·rw[q0];rfl
   ·rw[q1];rfl
  ·rw[Array.getElem?_eq_none (by omega),Array.getElem?_eq_none (by simp;omega)]
 rw[ha]
 refine(callsIn_wide.1 (and_in 0 a b c d w)).mono fun e w' h=> ?_
 obtain⟨rfl,hB,hc⟩:=h
 exact⟨rfl,w.heap.size+1+1,by omega,hc,fun x hx=>hB.block x hx,hB.size,⟨hB.os,hB.tape,hB.output⟩⟩
def g21{R:Type}(G:ORC R)(k:Nat)(args:LV)(K:LV→OV R):OV R:=match args with
 | [.agg [.int .u64 a,.int .u64 b],.agg [.int .u64 c,.int .u64 d]]=>bif decide (0≤a)&&decide (0≤b)&&decide (0≤c)&&decide (0≤d)then K [.agg [.int .u64 (bits .and .u64 a c),.int .u64 (bits .and .u64 b d)]]else none
 |_=>none
theorem s21{R:Type}{G:ORC R}{k:Nat}(hG:Sound Tryd.prog TAB G)(args:LV)(K:LV→OV R)(r:R)(h:g21 G k args K=some r):∃o,CallOK Tryd.prog TAB.env 21 args o∧K o=some r:=by
 unfold g21 at h
 split at h
 ·rename_i a b c d
  cases hc:decide (0≤a)&&decide (0≤b)&&decide (0≤c)&&decide (0≤d)with
  |false=>rw[hc]at h;cases h
  |true=>
   rw[hc]at h
   simp only[Bool.and_eq_true,decide_eq_true_eq]at hc
   obtain⟨⟨⟨h1,h2⟩,h3⟩,h4⟩:=hc
   have:=wand_ok (a:=a.toNat) (b:=b.toNat) (c:=c.toNat) (d:=d.toNat)
   rw[Int.toNat_of_nonneg h1,Int.toNat_of_nonneg h2,Int.toNat_of_nonneg h3,Int.toNat_of_nonneg h4]at this
   exact⟨_,this,h⟩
 ·cases h
def pc:Nat→Nat→Nat
 |0,_=>0
 |n+1,x=>x % 2+pc n (x/2)
def ds(b:Nat):Nat→Nat→Nat
 |0,_=>0
 |n+1,x=>x % b+ds b n (x/b)
def dle(b m:Nat):Nat→Nat→Prop
 |0,_=>True
 |n+1,x=>x % b≤m∧dle b m n (x/b)
def mk(b c:Nat):Nat→Nat
 |0=>0
 |n+1=>b*mk b c n+c
theorem and_digit{s a m c:Nat}(hc:c<2^s):a &&&(2^s*m+c)=2^s*(a/2^s &&& m)+(a % 2^s &&& c):=by
 have hlt:a % 2^s &&& c<2^s:=Nat.lt_of_le_of_lt Nat.and_le_right hc
 apply Nat.eq_of_testBit_eq
 intro i
 rw[Nat.testBit_and,Nat.testBit_two_pow_mul_add _ hc,Nat.testBit_two_pow_mul_add _ hlt]
 by_cases h:i<s
 ·rw[if_pos h,if_pos h,Nat.testBit_and,Nat.testBit_mod_two_pow,decide_eq_true h,Bool.true_and]
 ·rw[if_neg h,if_neg h,Nat.testBit_and,Nat.testBit_div_two_pow]
  congr 2
  omega
theorem and_1{a m:Nat}:a &&&(4*m+1)=4*(a/4 &&& m)+a % 2:=by
 have:=and_digit (s:=2) (a:=a) (m:=m) (c:=1) (by decide)
 rw[show(2:Nat)^2=4 from rfl]at this
 rw[this,Nat.and_one_is_mod]
 omega
theorem and_3{a m:Nat}:a &&&(16*m+3)=16*(a/16 &&& m)+a % 4:=by
 have:=and_digit (s:=4) (a:=a) (m:=m) (c:=3) (by decide)
 rw[show(2:Nat)^4=16 from rfl]at this
 rw[this,show(3:Nat)=2^2-1 from rfl,Nat.and_two_pow_sub_one_eq_mod]
 omega
theorem and_15{a m:Nat}:a &&&(256*m+15)=256*(a/256 &&& m)+a % 16:=by
 have:=and_digit (s:=8) (a:=a) (m:=m) (c:=15) (by decide)
 rw[show(2:Nat)^8=256 from rfl]at this
 rw[this,show(15:Nat)=2^4-1 from rfl,Nat.and_two_pow_sub_one_eq_mod]
 omega
theorem step1:∀{n x:Nat},ds 4 n ((x/2 &&& mk 4 1 n)+(x &&& mk 4 1 n))=pc (2*n) x∧dle 4 2 n ((x/2 &&& mk 4 1 n)+(x &&& mk 4 1 n))
 |0,x=>⟨rfl,trivial⟩
 |n+1,x=>by
  have ih:=step1 (n:=n) (x:=x/4)
  have e:(x/2 &&& mk 4 1 (n+1))+(x &&& mk 4 1 (n+1))=4*((x/4/2 &&& mk 4 1 n)+(x/4 &&& mk 4 1 n))+(x/2 % 2+x % 2):=by
   show(x/2 &&&(4*mk 4 1 n+1))+(x &&&(4*mk 4 1 n+1))=_
   rw[and_1,and_1,show x/2/4=x/4/2 by omega]
   omega
  rw[e]
  generalize(x/4/2 &&& mk 4 1 n)+(x/4 &&& mk 4 1 n)=y at ih
  constructor
  ·show(4*y+(x/2 % 2+x % 2)) % 4+ds 4 n ((4*y+(x/2 % 2+x % 2))/4)=pc (2*n+2) x
   rw[show(4*y+(x/2 % 2+x % 2))/4=y by omega,ih.1]
   show _=x % 2+(x/2 % 2+pc (2*n) (x/2/2))
   rw[show x/2/2=x/4 by omega]
   omega
  ·refine⟨by omega,?_⟩
   rw[show(4*y+(x/2 % 2+x % 2))/4=y by omega];exact ih.2
theorem step2:∀{n x:Nat},dle 4 2 (2*n) x→ds 16 n ((x/4 &&& mk 16 3 n)+(x &&& mk 16 3 n))=ds 4 (2*n) x∧dle 16 4 n ((x/4 &&& mk 16 3 n)+(x &&& mk 16 3 n))
 |0,x,h=>⟨rfl,trivial⟩
 |n+1,x,h=>by
  obtain⟨h1,h2,h3⟩:=(show x % 4≤2∧x/4 % 4≤2∧dle 4 2 (2*n) (x/4/4)from h)
  rw[show x/4/4=x/16 by omega]at h3
  have ih:=step2 (n:=n) (x:=x/16) h3
  have e:(x/4 &&& mk 16 3 (n+1))+(x &&& mk 16 3 (n+1))=16*((x/16/4 &&& mk 16 3 n)+(x/16 &&& mk 16 3 n))+(x/4 % 4+x % 4):=by
   show(x/4 &&&(16*mk 16 3 n+3))+(x &&&(16*mk 16 3 n+3))=_
   rw[and_3,and_3,show x/4/16=x/16/4 by omega]
   omega
  rw[e]
  generalize(x/16/4 &&& mk 16 3 n)+(x/16 &&& mk 16 3 n)=y at ih
  constructor
  ·show(16*y+(x/4 % 4+x % 4)) % 16+ds 16 n ((16*y+(x/4 % 4+x % 4))/16)=ds 4 (2*n+2) x
   rw[show(16*y+(x/4 % 4+x % 4))/16=y by omega,ih.1]
   show _=x % 4+(x/4 % 4+ds 4 (2*n) (x/4/4))
   rw[show x/4/4=x/16 by omega]
   omega
  ·refine⟨by omega,?_⟩
   rw[show(16*y+(x/4 % 4+x % 4))/16=y by omega];exact ih.2
theorem step3:∀{n x:Nat},dle 16 4 (2*n+1) x→ds 256 n ((x/16+x)&&& mk 256 15 n)=ds 16 (2*n) x∧dle 256 8 n ((x/16+x)&&& mk 256 15 n)
 |0,x,h=>⟨rfl,trivial⟩
 |n+1,x,h=>by
  obtain⟨h1,h2,h3⟩:=(show x % 16≤4∧x/16 % 16≤4∧dle 16 4 (2*n+1) (x/16/16)from h)
  rw[show x/16/16=x/256 by omega]at h3
  have h4:x/256 % 16≤4:=h3.1
  have ih:=step3 (n:=n) (x:=x/256) h3
  have e:(x/16+x)&&& mk 256 15 (n+1)=256*((x/256/16+x/256)&&& mk 256 15 n)+(x/16 % 16+x % 16):=by
   show(x/16+x)&&&(256*mk 256 15 n+15)=_
   have hd:(x/16+x)/256=x/256/16+x/256∧(x/16+x) % 16=x/16 % 16+x % 16:=by
    have e1:x/16/16=x/256:=by omega
    generalize hq:x/256=q at*
    generalize hp:x/16=p at*
    have a1:p=16*q+p % 16:=by omega
    have a2:x=16*p+x % 16:=by omega
    have a3:q=16*(q/16)+q % 16:=by omega
    generalize p % 16=b at*
    generalize x % 16=a at*
    generalize q/16=u at*
    generalize q % 16=v at*
    subst a3
    subst a1
    subst a2
    constructor
    ·omega
    ·omega
   rw[and_15,hd.1,hd.2]
  rw[e]
  generalize(x/256/16+x/256)&&& mk 256 15 n=y at ih
  constructor
  ·show(256*y+(x/16 % 16+x % 16)) % 256+ds 256 n ((256*y+(x/16 % 16+x % 16))/256)=ds 16 (2*n+2) x
   rw[show(256*y+(x/16 % 16+x % 16))/256=y by omega,ih.1]
   show _=x % 16+(x/16 % 16+ds 16 (2*n) (x/16/16))
   rw[show x/16/16=x/256 by omega]
   omega
  ·refine⟨by omega,?_⟩
   rw[show(256*y+(x/16 % 16+x % 16))/256=y by omega];exact ih.2
theorem bytes_sum{a0 a1 a2 a3 a4 a5 a6 a7 x y z:Nat}(h0:a0≤8)(h1:a1≤8)(h2:a2≤8)(h3:a3≤8)(h4:a4≤8)(h5:a5≤8)(h6:a6≤8)(h7:a7≤8)(hx:x=a0+256*a1+65536*a2+16777216*a3+4294967296*a4+1099511627776*a5+281474976710656*a6+72057594037927936*a7)(hy:y=x+x/256)(hz:z=y+y/65536):
 (z+z/4294967296) % 128=a0+(a1+(a2+(a3+(a4+(a5+(a6+(a7+0)))))))∧y<18446744073709551616∧z<18446744073709551616∧z+z/4294967296<18446744073709551616:=by
 have e1:x/256=a1+256*a2+65536*a3+16777216*a4+4294967296*a5+1099511627776*a6+281474976710656*a7:=by omega
 have e2:y=(a0+a1)+256*(a1+a2)+65536*(a2+a3)+16777216*(a3+a4)+4294967296*(a4+a5)+1099511627776*(a5+a6)+281474976710656*(a6+a7)+72057594037927936*(a7):=by omega
 have e3:y/65536=(a2+a3)+256*(a3+a4)+65536*(a4+a5)+16777216*(a5+a6)+4294967296*(a6+a7)+1099511627776*(a7):=by omega
 have e4:z=(a0+a1+a2+a3)+256*(a1+a2+a3+a4)+65536*(a2+a3+a4+a5)+16777216*(a3+a4+a5+a6)+4294967296*(a4+a5+a6+a7)+1099511627776*(a5+a6+a7)+281474976710656*(a6+a7)+72057594037927936*(a7):=by omega
 have e5:z/4294967296=(a4+a5+a6+a7)+256*(a5+a6+a7)+65536*(a6+a7)+16777216*(a7):=by omega
 clear hx hy hz e1 e3
 refine⟨?_,?_,?_,?_⟩
 ·rw[e5,e4];clear e2 e4 e5;omega
 ·rw[e2];clear e2 e4 e5;omega
 ·rw[e4];clear e2 e4 e5;omega
 ·rw[e5,e4];clear e2 e4 e5;omega
theorem step4{x y z:Nat}(hx:x<18446744073709551616)(h:dle 256 8 8 x)(hy:y=x+x/256)(hz:z=y+y/65536):(z+z/4294967296) % 128=ds 256 8 x∧y<18446744073709551616∧z<18446744073709551616∧z+z/4294967296<18446744073709551616:=by
 obtain⟨h0,h1,h2,h3,h4,h5,h6,h7,_⟩:=h
 refine bytes_sum h0 h1 h2 h3 h4 h5 h6 h7 ?_ hy hz
 omega
set_option maxHeartbeats 8000000
theorem dle_more{b m:Nat}:∀{n x:Nat},dle b m n x→x<b^n→dle b m (n+1) x
 |0,x,_,h=>by
  have:x=0:=by simpa using h
  subst this
  exact⟨by simp,trivial⟩
 |n+1,x,h,hx=>⟨h.1,dle_more (n:=n) h.2 (Nat.div_lt_of_lt_mul (by rw[Nat.pow_succ,Nat.mul_comm]at hx;exact hx))⟩
theorem pop_ok{x x1 x2 x3 y z:Nat}(hx:x<18446744073709551616)(h1:x1=(x/2 &&& 6148914691236517205)+(x &&& 6148914691236517205))(h2:x2=(x1/4 &&& 3689348814741910323)+(x1 &&& 3689348814741910323))
 (h3:x3=(x2/16+x2)&&& 1085102592571150095) (hy:y=x3+x3/256) (hz:z=y+y/65536):
 (z+z/4294967296) % 128=pc 64 x∧x1<18446744073709551616∧x2≤7378697629483820646∧x3<18446744073709551616∧y<18446744073709551616∧z<18446744073709551616∧z+z/4294967296<18446744073709551616:=by
 have m0:mk 4 1 32=6148914691236517205:=by decide
 have m1:mk 16 3 16=3689348814741910323:=by decide
 have m2:mk 256 15 8=1085102592571150095:=by decide
 have s1:=step1 (n:=32) (x:=x)
 rw[m0,←h1]at s1
 have s2:=step2 (n:=16) (x:=x1) s1.2
 rw[m1,←h2]at s2
 have b1:x1<18446744073709551616:=by
  have:=Nat.and_le_right (n:=x/2) (m:=6148914691236517205)
  have:=Nat.and_le_right (n:=x) (m:=6148914691236517205)
  omega
 have b2:x2≤7378697629483820646:=by
  have:=Nat.and_le_right (n:=x1/4) (m:=3689348814741910323)
  have:=Nat.and_le_right (n:=x1) (m:=3689348814741910323)
  omega
 have s3:=step3 (n:=8) (x:=x2) (dle_more s2.2 (Nat.lt_of_le_of_lt b2 (by decide)))
 rw[m2,←h3]at s3
 have b3:x3<18446744073709551616:=by
  have:=Nat.and_le_right (n:=x2/16+x2) (m:=1085102592571150095)
  omega
 obtain⟨t1,t2,t3,t4⟩:=step4 b3 s3.2 hy hz
 exact⟨by rw[t1,s3.1];exact s2.1.trans s1.1,b1,b2,b3,t2,t3,t4⟩
theorem wrapU{a:Nat}(h:a<18446744073709551616):IntKind.u64.wrap ((a:Nat):Int)=((a:Nat):Int):=by
 simp only[IntKind.wrap,IntKind.signed,IntKind.bits]
 first|omega|(simp;omega)
theorem wrapA{a b:Nat}(h:a+b<18446744073709551616):IntKind.u64.wrap (((a:Nat):Int)+((b:Nat):Int))=((a+b:Nat):Int):=by
 rw[←Int.natCast_add];exact wrapU h
section
variable {R : Type} {G : ORC R} {k : Nat} {K : LV → OV R}
end
set_option maxHeartbeats 4000000
theorem fin_x{q x:Nat}(p:q % 128=x)(b6:q<18446744073709551616):bits .and .i64 (wrap64 ((q:Nat):Int)) 127=((x:Nat):Int):=by
 rw[i64_and127]
 subst p
 unfold wrap64
 omega
theorem ones_in(n x:Nat)(hx:x<18446744073709551616)(w:World):CallsIn Fence.wide n Tryd.prog 30 #[.int .u64 x] w fun e w'=>e= .returned (.int .i64 ((pc 64 x:Nat):Int))∧w'=w:=by
 refine callsIn_of_wp Tryd.func30 rfl trivial ?_ rfl
 simp only[Tryd.ntmps30,List.size_toArray,List.length_cons,List.length_nil,Nat.reduceAdd,Nat.reduceSub,Array.replicate_succ,Array.replicate_zero,List.push_toArray,List.append_toArray,List.nil_append,List.cons_append]
 gi_wp2
 go_ret
 refine⟨?_,rfl⟩
 obtain⟨x1,h1⟩:∃x1,x1=(x/2 &&& 6148914691236517205)+(x &&& 6148914691236517205):=⟨_,rfl⟩
 obtain⟨x2,h2⟩:∃x2,x2=(x1/4 &&& 3689348814741910323)+(x1 &&& 3689348814741910323):=⟨_,rfl⟩
 obtain⟨x3,h3⟩:∃x3,x3=(x2/16+x2)&&& 1085102592571150095:=⟨_,rfl⟩
 obtain⟨y,hy⟩:∃y,y=x3+x3/256:=⟨_,rfl⟩
 obtain⟨z,hz⟩:∃z,z=y+y/65536:=⟨_,rfl⟩
 obtain⟨p,b1,b2,b3,b4,b5,b6⟩:=pop_ok hx h1 h2 h3 hy hz
 have a1:bits .and .u64 ((x:Int)/2) 6148914691236517205=((x/2 &&& 6148914691236517205:Nat):Int):=u64_and_nat (x/2) 6148914691236517205 (by omega) (by decide)
 have a2:bits .and .u64 (x:Int) 6148914691236517205=((x &&& 6148914691236517205:Nat):Int):=u64_and_nat x 6148914691236517205 hx (by decide)
 rw[a1,a2,wrapA (by omega),←h1]
 have a3:bits .and .u64 ((x1:Int)/4) 3689348814741910323=((x1/4 &&& 3689348814741910323:Nat):Int):=u64_and_nat (x1/4) 3689348814741910323 (by omega) (by decide)
 have a4:bits .and .u64 (x1:Int) 3689348814741910323=((x1 &&& 3689348814741910323:Nat):Int):=u64_and_nat x1 3689348814741910323 b1 (by decide)
 rw[a3,a4,wrapA (by omega),←h2]
 have d4:((x2:Int)/16+(x2:Int))=((x2/16+x2:Nat):Int):=by omega
 have a5:bits .and .u64 ((x2/16+x2:Nat):Int) 1085102592571150095=((x2/16+x2 &&& 1085102592571150095:Nat):Int):=u64_and_nat (x2/16+x2) 1085102592571150095 (by omega) (by decide)
 rw[d4,wrapU (by omega),a5,←h3]
 have d8:((x3:Int)+(x3:Int)/256)=((y:Nat):Int):=by omega
 rw[d8,wrapU b4]
 have d16:((y:Int)+(y:Int)/65536)=((z:Nat):Int):=by omega
 rw[d16,wrapU b5]
 have d32:((z:Int)+(z:Int)/4294967296)=((z+z/4294967296:Nat):Int):=by omega
 rw[d32,wrapU b6]
 rw[fin_x p b6]
 generalize pc 64 x=c
 rfl
theorem pc_le:∀{n x:Nat},pc n x≤n
 |0,x=>Nat.le_refl 0
 |n+1,x=>by
  have:=pc_le (n:=n) (x:=x/2)
  show x % 2+pc n (x/2)≤n+1
  omega
abbrev W1 (w:World) (x y:Value):World:=w.alloc (.cells #[x,y] 28)
theorem len_in(n a b:Nat)(hn:1≤n)(ha:a<18446744073709551616)(hb:b<18446744073709551616)(w:World):
 CallsIn Fence.wide n Tryd.prog 23 #[.agg #[.int .u64 a,.int .u64 b]] w fun e w'=>e= .returned (.int .i64 ((pc 64 a+pc 64 b:Nat):Int))∧w'=W1 w (.int .u64 a) (.int .u64 b):=by
 have pa:=pc_le (n:=64) (x:=a)
 have pb:=pc_le (n:=64) (x:=b)
 refine callsIn_of_wp Tryd.func23 rfl trivial ?_ rfl
 simp only[Tryd.ntmps23,List.size_toArray,List.length_cons,List.length_nil,Nat.reduceAdd,Nat.reduceSub,Array.replicate_succ,Array.replicate_zero,List.push_toArray,List.append_toArray,List.nil_append,List.cons_append]
 gi_wp2
 gi_loopw [3,8] (fun nv iv wr=>((iv= .int .i64 0∧nv= .int .i64 0)∨(iv= .int .i64 1∧nv= .int .i64 ((pc 64 a:Nat):Int))∨(iv= .int .i64 2∧nv= .int .i64 ((pc 64 a+pc 64 b:Nat):Int)))∧wr=W1 w (.int .u64 a) (.int .u64 b))
  (fun _ iv _=>2-(intOf iv).toNat)
 case atStart=>exact⟨.inl ⟨rfl,rfl⟩,rfl⟩
 case round=>
  obtain⟨hrel,rfl⟩:=hrel
  rcases hrel with⟨rfl,rfl⟩|⟨rfl,rfl⟩|⟨rfl,rfl⟩
  ·gi_wp2
   rw[ix0]
   gi_wp2_with (refine⟨trivial,?_⟩;gi_at_call 30;refine(ones_in (n-1) a ha _).mono ?_;rintro e w' ⟨rfl,rfl⟩)
   exact⟨⟨.inr (.inl ⟨rfl,rfl⟩),trivial⟩,by simp[intOf]⟩
  ·gi_wp2
   rw[ix1]
   gi_wp2_with (refine⟨trivial,?_⟩;gi_at_call 30;refine(ones_in (n-1) b hb _).mono ?_;rintro e w' ⟨rfl,rfl⟩)
   exact⟨⟨.inr (.inr ⟨rfl,by rw[Int.natCast_add]⟩),trivial⟩,by simp[intOf]⟩
  ·gi_wp2
   refine bodyPost_ret (results_tmp rfl _ _ _) rfl ?_
   exact⟨rfl,rfl⟩
theorem wlen_ok{x y:Nat}(hx:x<18446744073709551616)(hy:y<18446744073709551616):
 CallOK Tryd.prog TAB.env 23 [.agg [.int .u64 x,.int .u64 y]] [.int .i64 ((pc 64 x+pc 64 y:Nat):Int)]:=by
 refine lib_ok (fn:=Tryd.f23) (sg:=S23) (m:=.pr) (t:=2) (by kernel_rfl) (by kernel_rfl) (by kernel_rfl) (by kernel_rfl) (by decide) rfl rfl rfl rfl rfl (by decide) rfl (show 1≤Tryd.f23.ntmps by decide) fun fr w g args hs hsz hw hft=> ?_
 have hsz:args.size=1:=hsz
 have e0:=set_slot (t:=0) hs rfl
 have ha:args= #[.agg #[.int .u64 x,.int .u64 y]]:=by
  have:args[0]? =some (.agg #[.int .u64 x,.int .u64 y]):=by
   have e0:(args++Array.replicate (Tryd.f23.ntmps-args.size) undef)[0]? =some (.agg #[.int .u64 x,.int .u64 y]):=e0
   rw[Array.getElem?_append_left (by omega)]at e0;exact e0
  apply Array.ext_getElem?
  intro k
  by_cases k0:k=0
  ·subst k0;rw[this];rfl
  ·rw[Array.getElem?_eq_none (by omega),Array.getElem?_eq_none (by simp;omega)]
 rw[ha]
 refine(callsIn_wide.1 (len_in 1 x y (Nat.le_refl _) hx hy w)).mono fun e w' h=> ?_
 obtain⟨rfl,rfl⟩:=h
 generalize pc 64 x+pc 64 y=c
 exact⟨_,[],rfl,⟨rfl,rfl,rfl⟩,.nil,fun x hx=>(by cases hx),fun q hq _=>(by
  show(w.heap.push _)[q]? =_
  rw[Array.getElem?_push,if_neg (by omega)]),(by
  show w.heap.size≤(w.heap.push _).size
  rw[Array.size_push];omega),⟨rfl,rfl,rfl⟩⟩
def g23{R:Type}(G:ORC R)(k:Nat)(args:LV)(K:LV→OV R):OV R:=match args with
 | [.agg [.int .u64 x,.int .u64 y]]=>bif decide (0≤x)&&decide (x<18446744073709551616)&&decide (0≤y)&&decide (y<18446744073709551616)then K [.int .i64 ((pc 64 x.toNat+pc 64 y.toNat:Nat):Int)]else none
 |_=>none
theorem s23{R:Type}{G:ORC R}{k:Nat}(hG:Sound Tryd.prog TAB G)(args:LV)(K:LV→OV R)(r:R)(h:g23 G k args K=some r):∃o,CallOK Tryd.prog TAB.env 23 args o∧K o=some r:=by
 unfold g23 at h
 split at h
 ·rename_i x y
  cases hc:decide (0≤x)&&decide (x<18446744073709551616)&&decide (0≤y)&&decide (y<18446744073709551616)with
  |false=>rw[hc]at h;cases h
  |true=>
   rw[hc]at h
   simp only[Bool.and_eq_true,decide_eq_true_eq]at hc
   obtain⟨⟨⟨h1,h2⟩,h3⟩,h4⟩:=hc
   have:=wlen_ok (x:=x.toNat) (y:=y.toNat) (by omega) (by omega)
   rw[Int.toNat_of_nonneg h1,Int.toNat_of_nonneg h3]at this
   exact⟨_,this,h⟩
 ·cases h
set_option maxHeartbeats 8000000
theorem pc_or_and:∀{n a b:Nat},pc n (a|||b)+pc n (a &&& b)=pc n a+pc n b
 |0,a,b=>rfl
 |n+1,a,b=>by
  have ih:=pc_or_and (n:=n) (a:=a/2) (b:=b/2)
  have e1:(a|||b)/2=a/2|||b/2:=Nat.or_div_two
  have e2:(a &&& b)/2=a/2 &&& b/2:=Nat.and_div_two
  have e3:(a|||b) % 2+(a &&& b) % 2=a % 2+b % 2:=by
   have t1:(a|||b) % 2=1↔a % 2=1∨b % 2=1:=by
    have:=Nat.testBit_or a b 0
    simp only[Nat.testBit_zero]at this
    rw[←Bool.decide_or,decide_eq_decide]at this
    exact this
   have t2:(a &&& b) % 2=1↔a % 2=1∧b % 2=1:=by
    have:=Nat.testBit_and a b 0
    simp only[Nat.testBit_zero]at this
    rw[←Bool.decide_and,decide_eq_decide]at this
    exact this
   omega
  show(a|||b) % 2+pc n ((a|||b)/2)+((a &&& b) % 2+pc n ((a &&& b)/2))=a % 2+pc n (a/2)+(b % 2+pc n (b/2))
  rw[e1,e2]
  omega
section
variable {R : Type} {G : ORC R} {k : Nat} {K : LV → OV R}
def SOrOK(G:ORC R):Prop:=∀(a b c d:Nat) (p q:Nat→Bool) (K:LV→OV R),SetP a b p→SetP c d q→W (fun o=>o=[.agg [.int .u64 ((a|||c:Nat):Int),.int .u64 ((b|||d:Nat):Int)]]) K (G 20 [.agg [.int .u64 a,.int .u64 b],.agg [.int .u64 c,.int .u64 d]] K)
theorem sor_p{a b c d:Nat}{p q:Nat→Bool}(hp:SetP a b p)(hq:SetP c d q):SetP (a|||c) (b|||d) fun i=>p i||q i:=by
 refine⟨Nat.or_lt_two_pow (n:=64) hp.1 hq.1,Nat.or_lt_two_pow (n:=64) hp.2.1 hq.2.1,fun i hi=> ?_⟩
 show _=(p i||q i)
 rw[←hp.2.2 i hi,←hq.2.2 i hi]
 by_cases k:i<64
 ·rw[hasW_lo k,hasW_lo k,hasW_lo k,Nat.testBit_or]
 ·obtain⟨j,rfl⟩:∃j,i=64+j:=⟨i-64,by omega⟩
  rw[hasW_hi,hasW_hi,hasW_hi,Nat.testBit_or]
theorem sand_p{a b c d:Nat}{p q:Nat→Bool}(hp:SetP a b p)(hq:SetP c d q):SetP (a &&& c) (b &&& d) fun i=>p i&&q i:=by
 refine⟨Nat.lt_of_le_of_lt Nat.and_le_left hp.1,Nat.lt_of_le_of_lt Nat.and_le_left hp.2.1,fun i hi=> ?_⟩
 show _=(p i&&q i)
 rw[←hp.2.2 i hi,←hq.2.2 i hi]
 by_cases k:i<64
 ·rw[hasW_lo k,hasW_lo k,hasW_lo k,Nat.testBit_and]
 ·obtain⟨j,rfl⟩:∃j,i=64+j:=⟨i-64,by omega⟩
  rw[hasW_hi,hasW_hi,hasW_hi,Nat.testBit_and]
theorem sor_ok:SOrOK (fun _ args (K:LV→OV R)=>g20 G k args K):=by
 intro a b c d p q K hp hq
 show W _ K (bif decide (0≤(a:Int))&&decide (0≤(b:Int))&&decide (0≤(c:Int))&&decide (0≤(d:Int))then K [.agg [.int .u64 (bits .or .u64 a c),.int .u64 (bits .or .u64 b d)]]else none)
 rw[decide_eq_true (show(0:Int)≤(a:Int)by omega),decide_eq_true (show(0:Int)≤(b:Int)by omega),decide_eq_true (show(0:Int)≤(c:Int)by omega),decide_eq_true (show(0:Int)≤(d:Int)by omega)]
 rw[u64_or_nat a c hp.1 hq.1,u64_or_nat b d hp.2.1 hq.2.1]
 exact W_ret rfl
def SAndOK(G:ORC R):Prop:=∀(a b c d:Nat) (p q:Nat→Bool) (K:LV→OV R),SetP a b p→SetP c d q→W (fun o=>o=[.agg [.int .u64 ((a &&& c:Nat):Int),.int .u64 ((b &&& d:Nat):Int)]]) K (G 21 [.agg [.int .u64 a,.int .u64 b],.agg [.int .u64 c,.int .u64 d]] K)
theorem sand_ok:SAndOK (fun _ args (K:LV→OV R)=>g21 G k args K):=by
 intro a b c d p q K hp hq
 show W _ K (bif decide (0≤(a:Int))&&decide (0≤(b:Int))&&decide (0≤(c:Int))&&decide (0≤(d:Int))then K [.agg [.int .u64 (bits .and .u64 a c),.int .u64 (bits .and .u64 b d)]]else none)
 rw[decide_eq_true (show(0:Int)≤(a:Int)by omega),decide_eq_true (show(0:Int)≤(b:Int)by omega),decide_eq_true (show(0:Int)≤(c:Int)by omega),decide_eq_true (show(0:Int)≤(d:Int)by omega)]
 rw[u64_and_nat a c hp.1 hq.1,u64_and_nat b d hp.2.1 hq.2.1]
 exact W_ret rfl
def SLenOK(G:ORC R):Prop:=∀(a b:Nat) (p:Nat→Bool) (K:LV→OV R),SetP a b p→W (fun o=>o=[.int .i64 ((pc 64 a+pc 64 b:Nat):Int)]) K (G 23 [.agg [.int .u64 a,.int .u64 b]] K)
theorem slen_ok:SLenOK (fun _ args (K:LV→OV R)=>g23 G k args K):=by
 intro a b p K h
 show W _ K (bif decide (0≤(a:Int))&&decide ((a:Int)<18446744073709551616)&&decide (0≤(b:Int))&&decide ((b:Int)<18446744073709551616)then K [.int .i64 ((pc 64 (a:Int).toNat+pc 64 (b:Int).toNat:Nat):Int)]else none)
 have h1:=h.1
 have h2:=h.2.1
 rw[decide_eq_true (show(0:Int)≤(a:Int)by omega),decide_eq_true (show(a:Int)<18446744073709551616 by omega),decide_eq_true (show(0:Int)≤(b:Int)by omega),decide_eq_true (show(b:Int)<18446744073709551616 by omega),Int.toNat_natCast,Int.toNat_natCast]
 exact W_ret rfl
end
set_option maxHeartbeats 16000000
section
variable {R : Type} {G : ORC R} {k : Nat} {K : LV → OV R}
theorem pc_le64:∀{n x:Nat},pc n x≤n
 |0,x=>Nat.le_refl 0
 |n+1,x=>by
  have:=pc_le64 (n:=n) (x:=x/2)
  show x % 2+pc n (x/2)≤n+1
  omega
theorem rules_law(hF:FewOK G)(hK:KnoOK G)(hW:WOfOK G)(hN:SNotOK G)(hO:SOrOK G)(hA:SAndOK G)(hL:SLenOK G)(u v w:LV)(K:LV→OV R)(hu:IntsS u)(hv:IntsS v)(hw:IntsS w):W (fun o=>o=[.bool true]) K (f6 G k u v w K):=by
 obtain⟨a,rfl⟩:=ivs_ex hu
 obtain⟨b,rfl⟩:=ivs_ex hv
 obtain⟨c,rfl⟩:=ivs_ex hw
 unfold f6
 refine W_call (hF a _) ?_
 rintro _ rfl
 (repeat(with_reducible apply U1))
 refine W_not (W_dec (fun ha=> ?_) (fun _=>kn_go hK))
 refine W_call (hF b _) ?_
 rintro _ rfl
 (repeat(with_reducible apply U1))
 refine W_not (W_dec (fun hb=> ?_) (fun _=>kn_go hK))
 refine W_call (hF c _) ?_
 rintro _ rfl
 (repeat(with_reducible apply U1))
 refine W_not (W_dec (fun hc=> ?_) (fun _=>kn_go hK))
 refine W_call (hW a _ (by omega)) ?_
 rintro _ ⟨x,x',rfl,hx⟩
 (repeat(with_reducible apply U1))
 refine W_call (hW b _ (by omega)) ?_
 rintro _ ⟨y,y',rfl,hy⟩
 (repeat(with_reducible apply U1))
 refine W_call (hW c _ (by omega)) ?_
 rintro _ ⟨z,z',rfl,hz⟩
 (repeat(with_reducible apply U1))
 refine W_call (hA x x' y y' _ _ _ hx hy) ?_
 rintro _ rfl
 (repeat(with_reducible apply U1))
 refine W_call (hN x x' y y' _ _ _ hx hy) ?_
 rintro _ ⟨d,d',rfl,hd⟩
 (repeat(with_reducible apply U1))
 refine W_call (hO _ _ d d' _ _ _ (sand_p hx hy) hd) ?_
 rintro _ rfl
 (repeat(with_reducible apply U1))
 rw[eqI]
 refine W_yes (SetP.same (sor_p (sand_p hx hy) hd) hx fun i hi=>by
  cases hasL a (i:Int)<;>cases hasL b (i:Int)<;>rfl) ?_
 refine W_call (hN x x' y y' _ _ _ hx hy) ?_
 rintro _ ⟨e,e',rfl,he⟩
 (repeat(with_reducible apply U1))
 refine W_call (hA e e' y y' _ _ _ he hy) ?_
 rintro _ rfl
 (repeat(with_reducible apply U1))
 obtain⟨q1,q2⟩:=SetP.same (sand_p he hy) zeroP fun i hi=>by
  cases hasL a (i:Int)<;>cases hasL b (i:Int)<;>rfl
 rw[q1,q2]
 refine W_chk rfl ?_
 refine W_call (hO x x' y y' _ _ _ hx hy) ?_
 rintro _ rfl
 (repeat(with_reducible apply U1))
 refine W_call (hO y y' x x' _ _ _ hy hx) ?_
 rintro _ rfl
 (repeat(with_reducible apply U1))
 rw[eqI]
 refine W_yes ⟨Nat.or_comm _ _,Nat.or_comm _ _⟩ ?_
 refine W_call (hO y y' z z' _ _ _ hy hz) ?_
 rintro _ rfl
 (repeat(with_reducible apply U1))
 refine W_call (hA x x' _ _ _ _ _ hx (sor_p hy hz)) ?_
 rintro _ rfl
 (repeat(with_reducible apply U1))
 refine W_call (hA x x' y y' _ _ _ hx hy) ?_
 rintro _ rfl
 (repeat(with_reducible apply U1))
 refine W_call (hA x x' z z' _ _ _ hx hz) ?_
 rintro _ rfl
 (repeat(with_reducible apply U1))
 refine W_call (hO _ _ _ _ _ _ _ (sand_p hx hy) (sand_p hx hz)) ?_
 rintro _ rfl
 (repeat(with_reducible apply U1))
 rw[eqI]
 refine W_yes (SetP.same (sand_p hx (sor_p hy hz)) (sor_p (sand_p hx hy) (sand_p hx hz)) fun i hi=>by
  cases hasL a (i:Int)<;>cases hasL b (i:Int)<;>cases hasL c (i:Int)<;>rfl) ?_
 refine W_call (hO y y' z z' _ _ _ hy hz) ?_
 rintro _ rfl
 (repeat(with_reducible apply U1))
 refine W_call (hN x x' _ _ _ _ _ hx (sor_p hy hz)) ?_
 rintro _ ⟨f,f',rfl,hf⟩
 (repeat(with_reducible apply U1))
 refine W_call (hN x x' y y' _ _ _ hx hy) ?_
 rintro _ ⟨g,g',rfl,hg⟩
 (repeat(with_reducible apply U1))
 refine W_call (hN g g' z z' _ _ _ hg hz) ?_
 rintro _ ⟨h,h',rfl,hh⟩
 (repeat(with_reducible apply U1))
 rw[eqI]
 refine W_yes (SetP.same hf hh fun i hi=>by
  cases hasL a (i:Int)<;>cases hasL b (i:Int)<;>cases hasL c (i:Int)<;>rfl) ?_
 refine W_call (hO x x' y y' _ _ _ hx hy) ?_
 rintro _ rfl
 (repeat(with_reducible apply U1))
 refine W_call (hL _ _ _ _ (sor_p hx hy)) ?_
 rintro _ rfl
 (repeat(with_reducible apply U1))
 refine W_call (hL x x' _ _ hx) ?_
 rintro _ rfl
 (repeat(with_reducible apply U1))
 refine W_call (hL y y' _ _ hy) ?_
 rintro _ rfl
 (repeat(with_reducible apply U1))
 refine W_call (hA x x' y y' _ _ _ hx hy) ?_
 rintro _ rfl
 (repeat(with_reducible apply U1))
 refine W_call (hL _ _ _ _ (sand_p hx hy)) ?_
 rintro _ rfl
 (repeat(with_reducible apply U1))
 have p1:=pc_or_and (n:=64) (a:=x) (b:=y)
 have p2:=pc_or_and (n:=64) (a:=x') (b:=y')
 have l1:=pc_le64 (n:=64) (x:=x)
 have l2:=pc_le64 (n:=64) (x:=x')
 have l3:=pc_le64 (n:=64) (x:=y)
 have l4:=pc_le64 (n:=64) (x:=y')
 refine W_eqY ?_ (kn_go hK)
 rw[wrap_id (n:=((pc 64 x+pc 64 x':Nat):Int)+((pc 64 y+pc 64 y':Nat):Int)) (by omega),wrap_id (by omega)]
 omega
end
def srB(k:Nat)(G:ORC (List V)):ORC (List V):=fun f args K=>match f with
    |4=>g4 G k args K
    |6=>g6 G k args K
    |8=>g8 G k args K
    |9=>g9 G k args K
    |10=>g10 G k args K
    |12=>g12 G k args K
    |13=>g13 G k args K
    |14=>g14 G k args K
    |15=>g15 G k args K
    |18=>g18 G k args K
    |20=>g20 G k args K
    |21=>g21 G k args K
    |22=>g22 G k args K
    |23=>g23 G k args K
    |25=>g25 G k args K
    |29=>g29 G k args K
    |_=>none
def sr(k:Nat):Nat→ORC (List V)
 |0=>fun _ _ _=>none
 |j+1=>fun f args K=>(srB k (sr k j) f args (@some (List V))).bind K
theorem sr_sound(k:Nat):∀j,Sound Tryd.prog TAB (sr k j)
 |0=>fun f args K r h=>by cases h
 |j+1=>fun f args K r h=>by
  have ih:=sr_sound k j
  have h:(srB k (sr k j) f args (@some (List V))).bind K=some r:=h
  cases hb:srB k (sr k j) f args (@some (List V))with
  |none=>rw[hb]at h;cases h
  |some o=>
  rw[hb]at h
  have key:∃o',CallOK Tryd.prog TAB.env f args o'∧some o'=some o:=by
   unfold srB at hb
   split at hb
   ·exact s4 ih args (@some (List V)) o hb
   ·exact s6 ih args (@some (List V)) o hb
   ·exact s8 ih args (@some (List V)) o hb
   ·exact s9 ih args (@some (List V)) o hb
   ·exact s10 ih args (@some (List V)) o hb
   ·exact s12 ih args (@some (List V)) o hb
   ·exact s13 ih args (@some (List V)) o hb
   ·exact s14 ih args (@some (List V)) o hb
   ·exact s15 ih args (@some (List V)) o hb
   ·exact s18 ih args (@some (List V)) o hb
   ·exact s20 ih args (@some (List V)) o hb
   ·exact s21 ih args (@some (List V)) o hb
   ·exact s22 ih args (@some (List V)) o hb
   ·exact s23 ih args (@some (List V)) o hb
   ·exact s25 ih args (@some (List V)) o hb
   ·exact s29 ih args (@some (List V)) o hb
   ·cases hb
  obtain⟨o',h1,h2⟩:=key
  cases h2
  exact⟨o,h1,h⟩
theorem sr_U{k j:Nat}{f:FuncId}{args:List V}{Q:List V→Prop}(h:W Q (@some (List V)) (srB k (sr k j) f args (@some (List V)))):∃o,Q o∧∀K,sr k (j+1) f args K=K o:=by
 obtain⟨o,q,e⟩:=h
 exact⟨o,q,fun K=>by show(srB k (sr k j) f args (@some (List V))).bind K=_;rw[e];rfl⟩
theorem sr_W{k j:Nat}{f:FuncId}{args:List V}{Q:List V→Prop}{K:List V→Option (List V)}(h:W Q (@some (List V)) (srB k (sr k j) f args (@some (List V)))):W Q K (sr k (j+1) f args K):=by
 obtain⟨o,q,e⟩:=sr_U h
 exact⟨o,q,e K⟩
theorem srIn(j:Nat):InOK (sr 10000 (j+1)):=fun n K=>sr_W (in_ok (k:=10000) (G:=sr 10000 j) n some)
theorem srWith(j:Nat):WithOK (sr 10000 (j+2)):=fun a b n p K h=>sr_W (with_ok (k:=10000) (srIn j) a b n p some h)
theorem srOf(j:Nat):WOfOK (sr 10000 (j+3)):=fun l K h=>sr_W (wof_ok (Nat.le_refl _) (srWith j) l some h)
theorem srNot(j:Nat):SNotOK (sr 10000 (j+1)):=fun a b c d p q K h g=>sr_W (snot_ok (k:=10000) (G:=sr 10000 j) a b c d p q some h g)
theorem srFew(j:Nat):FewOK (sr 10000 (j+1)):=fun l K=>sr_W (few_ok (k:=10000) (G:=sr 10000 j) l some)
def isT(o:Option (List V)):Bool:=match o with|some [.bool true]=>true|_=>false
theorem isT_eq:∀{o:Option (List V)},isT o=true→o=some [.bool true]
 |none,h=>by cases h
 |some [.bool true],_=>rfl
 |some [],h=>by cases h
 |some (_::_::_),h=>by simp[isT]at h
 |some [.bool false],h=>by cases h
 |some [.int _ _],h=>by cases h
 |some [.str _],h=>by cases h
 |some [.sl _ _],h=>by cases h
 |some [.agg _],h=>by cases h
 |some [.nilp],h=>by cases h
 |some [.ptr _ _],h=>by cases h
 |some [.fn _ _],h=>by cases h
 |some [.mp _],h=>by cases h
 |some [.undef],h=>by cases h
theorem srkn_run:isT (f9 (sr 10000 19) 10000 some)=true:=by decide+kernel
theorem srKn:KnoOK (sr 10000 20):=fun K=>sr_W (j:=19) (show W _ some (f9 (sr 10000 19) 10000 some)from⟨_,rfl,isT_eq srkn_run⟩)
end Go.Proofs.YtmoinimakjddiaaDoor.Vm
