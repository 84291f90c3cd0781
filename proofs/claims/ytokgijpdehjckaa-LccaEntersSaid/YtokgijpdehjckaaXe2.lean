/- Functions of the program, told by the machine of values, and what they answer: a part. -/
import Derived.Test.YtokgijpdehjckaaXe1
import Derived.Test.YtokgijpdehjckaaXeV5
import Derived.Test.YtokgijpdehjckaaXeV4
open Go Go.VM
set_option linter.unusedVariables false
set_option maxRecDepth 100000
set_option maxHeartbeats 4000000
namespace Go.Proofs.Ytokgijpdehjckaa.Vm
def P8_1h:Pat:={tmps:=unds [.var (.sl 7) .ro,.stat (.one (.ptr 0 0) .pt)] 5 (unds [.var (.sl 1) (.own false),.var (.sl 1) .ro,.var (.int .i64) .pr] 42 []),boxes:=nons [some [.var (.sl 1) .ro true,.var (.int .i64) .pr false]] 52 []}
def P8_1x:Pat:={tmps:=unds [] 7 (unds [.var (.sl 1) (.own false)] 44 []),boxes:=nons [some [.var (.sl 1) .ro true,.var (.int .i64) .pr false]] 52 []}
def b8_1{R:Type}(G:ORC R)(k:Nat)(X:LV→LV→LV→Int→LV→Int→OV R)(Ko:LV→LV→Int→OV R)(xl29 xl30 xl31:LV)(xi32:Int)(xl33:LV)(xi34:Int):OV R:=
 (bif(decide (xi32<(xl31.length:Int)))then(bif((decide (0≤xi32))&&(decide (xi32<(xl31.length:Int))))then(nthK xl31 (Int.toNat xi32) fun e35=>aI .i64 e35 fun n36=>G 8 [.sl 7 xl29,.int .i64 n36,.sl 1 xl33,.int .i64 xi34] fun o37=>uL 1 o37 fun l39 r38=>uI .i64 r38 fun n41 r40=>unNil r40 (bif(decide (List.length xl30+List.length l39≤1073741824))then(X xl29 (xl30++l39) xl31 (IntKind.i64.wrap (xi32+1)) xl33 n41)else none))else none)else(Ko xl30 xl33 xi34))
def l8_1g{R:Type}(G:ORC R)(k:Nat)(Ko:LV→LV→Int→OV R):Nat→LV→LV→LV→Int→LV→Int→OV R
 |0=>fun _ _ _ _ _ _=>none
 |j+1=>b8_1 G k (l8_1g G k Ko j) Ko
def l8_1{R:Type}(G:ORC R)(k:Nat)(xl29 xl30 xl31:LV)(xi32:Int)(xl33:LV)(xi34:Int)(Ko:LV→LV→Int→OV R):OV R:=l8_1g G k Ko k xl29 xl30 xl31 xi32 xl33 xi34
def rd8_1{R:Type}(G:ORC R)(k:Nat)(K:Ex→St→OV R)(j:Nat)(vs:LV):OV R:=match vs with
 | [.sl 7 xl29,.sl 1 xl30,.sl 1 xl31,.int .i64 xi32,.sl 1 xl33,.int .i64 xi34]=>l8_1g G k (fun yl45 yl46 yi47=>K .normal (P8_1x.inst [.sl 1 yl45,.sl 1 yl46,.int .i64 yi47])) j xl29 xl30 xl31 xi32 xl33 xi34
 |_=>none
def L8{R:Type}(G:ORC R)(k:Nat):Nat→St→(Ex→St→OV R)→OV R
 |1,S,K=>P8_1h.mat S fun vs=>rd8_1 G k K k vs
 |_,_,_=>none
def f8{R:Type}(G:ORC R)(k:Nat)(al1:LV)(ai2:Int)(bl3:LV)(bi4:Int)(K:LV→OV R):OV R:=
 (G 25 [.sl 7 al1,.int .i64 ai2] fun o5=>uL 1 o5 fun l7 r6=>unNil r6 (bif((decide (0≤ai2))&&(decide (ai2<(al1.length:Int))))then(nthK al1 (Int.toNat ai2) fun e8=>ca7 e8 fun c9 c10 c11 c12 c13 c14 c15=>aI .i64 c9 fun n16=>bif(n16==2)then(G 26 [.int .i64 (l7.length:Int),.sl 1 bl3,.int .i64 bi4] fun o17=>uI .i64 o17 fun n19 r18=>uI .i64 r18 fun n21 r20=>unNil r20 (bif((decide (0≤n19))&&(decide (n19<(l7.length:Int))))then(nthK l7 (Int.toNat n19) fun e22=>aI .i64 e22 fun n23=>G 8 [.sl 7 al1,.int .i64 n23,.sl 1 bl3,.int .i64 n21] fun o24=>uL 1 o24 fun l26 r25=>uI .i64 r25 fun n28 r27=>unNil r27 (bif(decide (1+List.length l26≤1073741824))then(K [.sl 1 ([.int .i64 ai2]++l26),.int .i64 n28])else none))else none))else(bif(n16==3)then(l8_1 G k al1 [.int .i64 ai2] l7 0 bl3 bi4 (fun yl42 yl43 yi44=>K [.sl 1 yl42,.int .i64 yi44]))else(K [.sl 1 [.int .i64 ai2],.int .i64 bi4])))else none))
noncomputable def D8_1:LoopD:={id:=1,body:=loopAt 1 (bodyOf Try.f8),head:=P8_1h,out:=P8_1x,ret:=default}
theorem l8_1_is{R:Type}(G:ORC R)(k:Nat)(X:LV→OV R)(K:Ex→St→OV R)(xl29 xl30 xl31:LV)(xi32:Int)(xl33:LV)(xi34:Int):
 roundOf (TAB.env 8) G (L8 G k) D8_1 X K [.sl 7 xl29,.sl 1 xl30,.sl 1 xl31,.int .i64 xi32,.sl 1 xl33,.int .i64 xi34]=b8_1 G k (fun xl29 xl30 xl31 xi32 xl33 xi34=>X [.sl 7 xl29,.sl 1 xl30,.sl 1 xl31,.int .i64 xi32,.sl 1 xl33,.int .i64 xi34]) (fun yl45 yl46 yi47=>K .normal (P8_1x.inst [.sl 1 yl45,.sl 1 yl46,.int .i64 yi47])) xl29 xl30 xl31 xi32 xl33 xi34:=by kernel_rfl
theorem f8_is{R:Type}(G:ORC R)(k:Nat)(K:LV→OV R)(al1:LV)(ai2:Int)(bl3:LV)(bi4:Int):
 callF (TAB.env 8) G (L8 G k) Try.f8 S8 [.sl 7 al1,.int .i64 ai2,.sl 1 bl3,.int .i64 bi4] K=f8 G k al1 ai2 bl3 bi4 K:=by kernel_rfl
theorem li8_1{R:Type}(G:ORC R)(k:Nat):LoopIs (TAB.env 8) G (L8 G k) 1 (loopAt 1 (bodyOf Try.f8)):=
 ⟨D8_1,fun j vs K=>rd8_1 G k K j vs,k,rfl,rfl,by kernel_rfl,by kernel_rfl,by kernel_rfl,(fun vs K=>by unfold rd8_1;dsimp only;split<;>rfl),
   (fun j vs K r h=>by
     unfold rd8_1 at h
     dsimp only at h
     split at h
     ·rw[l8_1_is];exact h
     ·cases h),(fun S K r h=>h)⟩
theorem lo8:loopsOf (bodyOf Try.f8)=[(1,loopAt 1 (bodyOf Try.f8))]:=by kernel_rfl
theorem la8{R:Type}(G:ORC R)(k:Nat):LoopsAre (TAB.env 8) G (L8 G k) (bodyOf Try.f8):=
 loopsAre_of (by rw[lo8];intro p hp;simp only[List.mem_cons,List.not_mem_nil,or_false]at hp;subst hp;exact li8_1 G k)
def g8{R:Type}(G:ORC R)(k:Nat)(args:LV)(K:LV→OV R):OV R:=match args with
 | [.sl 7 al1,.int .i64 ai2,.sl 1 bl3,.int .i64 bi4]=>f8 G k al1 ai2 bl3 bi4 K
 |_=>none
theorem s8{R:Type}{G:ORC R}{k:Nat}(hG:Sound Try.prog TAB G)(args:LV)(K:LV→OV R)(r:R)(h:g8 G k args K=some r):∃o,CallOK Try.prog TAB.env 8 args o∧K o=some r:=by
 unfold g8 at h
 split at h
 ·rw[←f8_is]at h
  exact callF_sound (f:=8) TAB_chk MO hG Try.func8 (sg:=S8) (by kernel_rfl) (by kernel_rfl) (la8 G k) h
 ·cases h
def L44{R:Type}(_:ORC R)(_:Nat):Nat→St→(Ex→St→OV R)→OV R:=fun _ _ _=>none
def f44{R:Type}(G:ORC R)(k:Nat)(al1:LV)(ai2:Int)(K:LV→OV R):OV R:=
 (G 63 [.sl 1 al1,.int .i64 ai2] fun o3=>uI .i64 o3 fun n5 r4=>unNil r4 (K [.bool (decide (n5≥0))]))
theorem f44_is{R:Type}(G:ORC R)(k:Nat)(K:LV→OV R)(al1:LV)(ai2:Int):
 callF (TAB.env 44) G (L44 G k) Try.f44 S44 [.sl 1 al1,.int .i64 ai2] K=f44 G k al1 ai2 K:=by kernel_rfl
theorem lo44:loopsOf (bodyOf Try.f44)=[]:=by kernel_rfl
theorem la44{R:Type}(G:ORC R)(k:Nat):LoopsAre (TAB.env 44) G (L44 G k) (bodyOf Try.f44):=
 loopsAre_of (by rw[lo44];intro p hp;cases hp)
def g44{R:Type}(G:ORC R)(k:Nat)(args:LV)(K:LV→OV R):OV R:=match args with
 | [.sl 1 al1,.int .i64 ai2]=>f44 G k al1 ai2 K
 |_=>none
theorem s44{R:Type}{G:ORC R}{k:Nat}(hG:Sound Try.prog TAB G)(args:LV)(K:LV→OV R)(r:R)(h:g44 G k args K=some r):∃o,CallOK Try.prog TAB.env 44 args o∧K o=some r:=by
 unfold g44 at h
 split at h
 ·rw[←f44_is]at h
  exact callF_sound (f:=44) TAB_chk MO hG Try.func44 (sg:=S44) (by kernel_rfl) (by kernel_rfl) (la44 G k) h
 ·cases h
def L31{R:Type}(_:ORC R)(_:Nat):Nat→St→(Ex→St→OV R)→OV R:=fun _ _ _=>none
def f31{R:Type}(G:ORC R)(k:Nat)(al1:LV)(ai2:Int)(K:LV→OV R):OV R:=
 (bif(decide (ai2≥0))then(K [.bool (decide (ai2<(al1.length:Int)))])else(K [.bool false]))
theorem f31_is{R:Type}(G:ORC R)(k:Nat)(K:LV→OV R)(al1:LV)(ai2:Int):
 callF (TAB.env 31) G (L31 G k) Try.f31 S31 [.sl 7 al1,.int .i64 ai2] K=f31 G k al1 ai2 K:=by kernel_rfl
theorem lo31:loopsOf (bodyOf Try.f31)=[]:=by kernel_rfl
theorem la31{R:Type}(G:ORC R)(k:Nat):LoopsAre (TAB.env 31) G (L31 G k) (bodyOf Try.f31):=
 loopsAre_of (by rw[lo31];intro p hp;cases hp)
def g31{R:Type}(G:ORC R)(k:Nat)(args:LV)(K:LV→OV R):OV R:=match args with
 | [.sl 7 al1,.int .i64 ai2]=>f31 G k al1 ai2 K
 |_=>none
theorem s31{R:Type}{G:ORC R}{k:Nat}(hG:Sound Try.prog TAB G)(args:LV)(K:LV→OV R)(r:R)(h:g31 G k args K=some r):∃o,CallOK Try.prog TAB.env 31 args o∧K o=some r:=by
 unfold g31 at h
 split at h
 ·rw[←f31_is]at h
  exact callF_sound (f:=31) TAB_chk MO hG Try.func31 (sg:=S31) (by kernel_rfl) (by kernel_rfl) (la31 G k) h
 ·cases h
def L43{R:Type}(_:ORC R)(_:Nat):Nat→St→(Ex→St→OV R)→OV R:=fun _ _ _=>none
def f43{R:Type}(G:ORC R)(k:Nat)(ai1 ai2:Int)(ai3 ai4:Int)(ai5 ai6:Int)(as7:ByteArray)(K:LV→OV R):OV R:=
 (bif(ai1==4)then(K [.bool true])else(K [.bool (ai1==5)]))
theorem f43_is{R:Type}(G:ORC R)(k:Nat)(K:LV→OV R)(ai1 ai2:Int)(ai3 ai4:Int)(ai5 ai6:Int)(as7:ByteArray):
 callF (TAB.env 43) G (L43 G k) Try.f43 S43 [.agg [.int .i64 ai1,.int .i64 ai2,.int .i64 ai3,.int .i64 ai4,.int .i64 ai5,.int .i64 ai6,.str as7]] K=f43 G k ai1 ai2 ai3 ai4 ai5 ai6 as7 K:=by kernel_rfl
theorem lo43:loopsOf (bodyOf Try.f43)=[]:=by kernel_rfl
theorem la43{R:Type}(G:ORC R)(k:Nat):LoopsAre (TAB.env 43) G (L43 G k) (bodyOf Try.f43):=
 loopsAre_of (by rw[lo43];intro p hp;cases hp)
def g43{R:Type}(G:ORC R)(k:Nat)(args:LV)(K:LV→OV R):OV R:=match args with
 | [.agg [.int .i64 ai1,.int .i64 ai2,.int .i64 ai3,.int .i64 ai4,.int .i64 ai5,.int .i64 ai6,.str as7]]=>f43 G k ai1 ai2 ai3 ai4 ai5 ai6 as7 K
 |_=>none
theorem s43{R:Type}{G:ORC R}{k:Nat}(hG:Sound Try.prog TAB G)(args:LV)(K:LV→OV R)(r:R)(h:g43 G k args K=some r):∃o,CallOK Try.prog TAB.env 43 args o∧K o=some r:=by
 unfold g43 at h
 split at h
 ·rw[←f43_is]at h
  exact callF_sound (f:=43) TAB_chk MO hG Try.func43 (sg:=S43) (by kernel_rfl) (by kernel_rfl) (la43 G k) h
 ·cases h
def P9_2h:Pat:={tmps:=unds [.var (.sl 7) .ro,.var (.sl 1) .ro,.var (.sl 1) .ro,.var (.sl 1) .ro] 5 (unds [.var (.sl 1) (.own true),.var (.int .i64) .pr,.var (.int .i64) .pr,.var (.int .i64) .pr] 100 []),boxes:=nons [] 113 []}
def P9_2x:Pat:={tmps:=unds [.var (.sl 7) .ro,.var (.sl 1) .ro,.var (.sl 1) .ro,.var (.sl 1) .ro] 5 (unds [.var (.sl 1) (.own true),.var (.int .i64) .pr] 102 []),boxes:=nons [] 113 []}
def b9_2{R:Type}(G:ORC R)(k:Nat)(X:LV→LV→LV→LV→LV→Int→Int→Int→OV R)(Ko:LV→LV→LV→LV→LV→Int→OV R)(xl32 xl33:LV)(xl34 xl35 xl36:LV)(xi37 xi38 xi39:Int):OV R:=
 (bif(decide (xi39<(xl33.length:Int)))then(bif((decide (0≤xi39))&&(decide (xi39<(xl33.length:Int))))then(nthK xl33 (Int.toNat xi39) fun e40=>aI .i64 e40 fun n41=>bif((decide (0≤xi37))&&(decide (xi37<(xl32.length:Int))))then(nthK xl32 (Int.toNat xi37) fun e42=>ca7 e42 fun c43 c44 c45 c46 c47 c48 c49=>aI .i64 c43 fun n50=>bif(n50==4)then(bif((decide (0≤n41))&&(decide (n41<(xl32.length:Int))))then(nthK xl32 (Int.toNat n41) fun e51=>ca7 e51 fun c52 c53 c54 c55 c56 c57 c58=>aI .i64 c53 fun n59=>bif(n59==xi38)then(bif((decide (0≤xi37))&&(decide (xi37<(xl36.length:Int))))then(nthK xl36 (Int.toNat xi37) fun e60=>V.asSl e60 fun z61 l62=>bif(z61==1)then(bif(decide (List.length l62+1≤1073741824))then(bif((decide (0≤xi37))&&(decide (xi37<((List.length (List.set xl36 (Int.toNat xi37) .undef):Nat):Int))))then(nthK (List.set xl36 (Int.toNat xi37) .undef) (Int.toNat xi37) fun e63=>X xl32 xl33 xl34 xl35 (List.set (List.set xl36 (Int.toNat xi37) .undef) (Int.toNat xi37) (.sl 1 (l62++[.int .i64 n41]))) xi37 xi38 (IntKind.i64.wrap (xi39+1)))else none)else none)else none)else none)else(bif((decide (0≤xi37))&&(decide (xi37<(xl32.length:Int))))then(nthK xl32 (Int.toNat xi37) fun e64=>ca7 e64 fun c65 c66 c67 c68 c69 c70 c71=>aI .i64 c65 fun n72=>bif(n72==5)then(bif((decide (0≤n41))&&(decide (n41<(xl32.length:Int))))then(nthK xl32 (Int.toNat n41) fun e73=>ca7 e73 fun c74 c75 c76 c77 c78 c79 c80=>aI .i64 c74 fun n81=>bif(n81==1)then(bif(n41 !=xi38)then(G 29 [.sl 7 xl32,.int .i64 n41,.int .i64 xi38] fun o82=>uB o82 fun b84 r83=>unNil r83 (bif b84 then(bif((decide (0≤xi37))&&(decide (xi37<(xl36.length:Int))))then(nthK xl36 (Int.toNat xi37) fun e85=>V.asSl e85 fun z86 l87=>bif(z86==1)then(bif(decide (List.length l87+1≤1073741824))then(bif((decide (0≤xi37))&&(decide (xi37<((List.length (List.set xl36 (Int.toNat xi37) .undef):Nat):Int))))then(nthK (List.set xl36 (Int.toNat xi37) .undef) (Int.toNat xi37) fun e88=>X xl32 xl33 xl34 xl35 (List.set (List.set xl36 (Int.toNat xi37) .undef) (Int.toNat xi37) (.sl 1 (l87++[.int .i64 n41]))) xi37 xi38 (IntKind.i64.wrap (xi39+1)))else none)else none)else none)else none)else(X xl32 xl33 xl34 xl35 xl36 xi37 xi38 (IntKind.i64.wrap (xi39+1)))))else(X xl32 xl33 xl34 xl35 xl36 xi37 xi38 (IntKind.i64.wrap (xi39+1))))else(X xl32 xl33 xl34 xl35 xl36 xi37 xi38 (IntKind.i64.wrap (xi39+1))))else none)else(X xl32 xl33 xl34 xl35 xl36 xi37 xi38 (IntKind.i64.wrap (xi39+1))))else none))else none)else(bif((decide (0≤xi37))&&(decide (xi37<(xl32.length:Int))))then(nthK xl32 (Int.toNat xi37) fun e89=>ca7 e89 fun c90 c91 c92 c93 c94 c95 c96=>aI .i64 c90 fun n97=>bif(n97==5)then(bif((decide (0≤n41))&&(decide (n41<(xl32.length:Int))))then(nthK xl32 (Int.toNat n41) fun e98=>ca7 e98 fun c99 c100 c101 c102 c103 c104 c105=>aI .i64 c99 fun n106=>bif(n106==1)then(bif(n41 !=xi38)then(G 29 [.sl 7 xl32,.int .i64 n41,.int .i64 xi38] fun o107=>uB o107 fun b109 r108=>unNil r108 (bif b109 then(bif((decide (0≤xi37))&&(decide (xi37<(xl36.length:Int))))then(nthK xl36 (Int.toNat xi37) fun e110=>V.asSl e110 fun z111 l112=>bif(z111==1)then(bif(decide (List.length l112+1≤1073741824))then(bif((decide (0≤xi37))&&(decide (xi37<((List.length (List.set xl36 (Int.toNat xi37) .undef):Nat):Int))))then(nthK (List.set xl36 (Int.toNat xi37) .undef) (Int.toNat xi37) fun e113=>X xl32 xl33 xl34 xl35 (List.set (List.set xl36 (Int.toNat xi37) .undef) (Int.toNat xi37) (.sl 1 (l112++[.int .i64 n41]))) xi37 xi38 (IntKind.i64.wrap (xi39+1)))else none)else none)else none)else none)else(X xl32 xl33 xl34 xl35 xl36 xi37 xi38 (IntKind.i64.wrap (xi39+1)))))else(X xl32 xl33 xl34 xl35 xl36 xi37 xi38 (IntKind.i64.wrap (xi39+1))))else(X xl32 xl33 xl34 xl35 xl36 xi37 xi38 (IntKind.i64.wrap (xi39+1))))else none)else(X xl32 xl33 xl34 xl35 xl36 xi37 xi38 (IntKind.i64.wrap (xi39+1))))else none))else none)else none)else(Ko xl32 xl33 xl34 xl35 xl36 xi37))
def l9_2g{R:Type}(G:ORC R)(k:Nat)(Ko:LV→LV→LV→LV→LV→Int→OV R):Nat→LV→LV→LV→LV→LV→Int→Int→Int→OV R
 |0=>fun _ _ _ _ _ _ _ _=>none
 |j+1=>b9_2 G k (l9_2g G k Ko j) Ko
def l9_2{R:Type}(G:ORC R)(k:Nat)(xl32 xl33:LV)(xl34 xl35 xl36:LV)(xi37 xi38 xi39:Int)(Ko:LV→LV→LV→LV→LV→Int→OV R):OV R:=l9_2g G k Ko k xl32 xl33 xl34 xl35 xl36 xi37 xi38 xi39
def P9_0h:Pat:={tmps:=unds [.var (.sl 7) .ro,.var (.sl 1) .ro,.var (.sl 1) .ro,.var (.sl 1) .ro] 5 (unds [.var (.sl 1) (.own true),.var (.int .i64) .pr] 102 []),boxes:=nons [] 113 []}
def P9_0x:Pat:={tmps:=unds [] 9 (unds [.var (.sl 1) (.own true)] 103 []),boxes:=nons [] 113 []}
def b9_0{R:Type}(G:ORC R)(k:Nat)(X:LV→LV→LV→LV→LV→Int→OV R)(Ko:LV→OV R)(xl5 xl6:LV)(xl7 xl8 xl9:LV)(xi10:Int):OV R:=
 (bif(decide (xi10<(xl5.length:Int)))then(bif((decide (0≤xi10))&&(decide (xi10<(xl5.length:Int))))then(nthK xl5 (Int.toNat xi10) fun e11=>V.asAgg e11 fun l12=>G 27 [.agg l12] fun o13=>uB o13 fun b15 r14=>unNil r14 (bif b15 then(X xl5 xl6 xl7 xl8 xl9 (IntKind.i64.wrap (xi10+1)))else(bif((decide (0≤xi10))&&(decide (xi10<(xl5.length:Int))))then(nthK xl5 (Int.toNat xi10) fun e16=>ca7 e16 fun c17 c18 c19 c20 c21 c22 c23=>aI .i64 c18 fun n24=>G 28 [.sl 1 xl7,.int .i64 n24] fun o25=>uB o25 fun b27 r26=>unNil r26 (bif(!b27)then(bif(decide (xi10<(xl8.length:Int)))then(bif((decide (0≤xi10))&&(decide (xi10<(xl8.length:Int))))then(nthK xl8 (Int.toNat xi10) fun e28=>V.asSl e28 fun z29 l30=>bif((((z29==1)&&true)&&true)&&(decide (0+List.length l30≤1073741824)))then(bif(flats l30)then(bif((decide (0≤xi10))&&(decide (xi10<(xl9.length:Int))))then(nthK xl9 (Int.toNat xi10) fun e31=>X xl5 xl6 xl7 xl8 (List.set xl9 (Int.toNat xi10) (.sl 1 ([]++l30))) (IntKind.i64.wrap (xi10+1)))else none)else none)else none)else none)else(X xl5 xl6 xl7 xl8 xl9 (IntKind.i64.wrap (xi10+1))))else(l9_2 G k xl5 xl6 xl7 xl8 xl9 xi10 n24 0 (fun yl32 yl33 yl34 yl35 yl36 yi37=>X yl32 yl33 yl34 yl35 yl36 (IntKind.i64.wrap (yi37+1))))))else none)))else none)else(Ko xl9))
def l9_0g{R:Type}(G:ORC R)(k:Nat)(Ko:LV→OV R):Nat→LV→LV→LV→LV→LV→Int→OV R
 |0=>fun _ _ _ _ _ _=>none
 |j+1=>b9_0 G k (l9_0g G k Ko j) Ko
def l9_0{R:Type}(G:ORC R)(k:Nat)(xl5 xl6:LV)(xl7 xl8 xl9:LV)(xi10:Int)(Ko:LV→OV R):OV R:=l9_0g G k Ko k xl5 xl6 xl7 xl8 xl9 xi10
def rd9_2{R:Type}(G:ORC R)(k:Nat)(K:Ex→St→OV R)(j:Nat)(vs:LV):OV R:=match vs with
 | [.sl 7 xl32,.sl 1 xl33,.sl 1 xl34,.sl 1 xl35,.sl 1 xl36,.int .i64 xi37,.int .i64 xi38,.int .i64 xi39]=>l9_2g G k (fun yl39 yl40 yl41 yl42 yl43 yi44=>K .normal (P9_2x.inst [.sl 7 yl39,.sl 1 yl40,.sl 1 yl41,.sl 1 yl42,.sl 1 yl43,.int .i64 yi44])) j xl32 xl33 xl34 xl35 xl36 xi37 xi38 xi39
 |_=>none
def rd9_0{R:Type}(G:ORC R)(k:Nat)(K:Ex→St→OV R)(j:Nat)(vs:LV):OV R:=match vs with
 | [.sl 7 xl5,.sl 1 xl6,.sl 1 xl7,.sl 1 xl8,.sl 1 xl9,.int .i64 xi10]=>l9_0g G k (fun yl45=>K .normal (P9_0x.inst [.sl 1 yl45])) j xl5 xl6 xl7 xl8 xl9 xi10
 |_=>none
def L9{R:Type}(G:ORC R)(k:Nat):Nat→St→(Ex→St→OV R)→OV R
 |2,S,K=>P9_2h.mat S fun vs=>rd9_2 G k K k vs
 |0,S,K=>P9_0h.mat S fun vs=>rd9_0 G k K k vs
 |_,_,_=>none
def f9{R:Type}(G:ORC R)(k:Nat)(al1 al2:LV)(al3 al4:LV)(K:LV→OV R):OV R:=
 (bif(((decide (0≤(al1.length:Int)))&&(decide ((al1.length:Int)≤(al1.length:Int))))&&(decide ((al1.length:Int)≤1073741824)))then(l9_0 G k al1 al2 al3 al4 (List.replicate (Int.toNat (al1.length:Int)) (V.sl 1 [])) 0 (fun yl38=>K [.sl 1 yl38]))else none)
noncomputable def D9_2:LoopD:={id:=2,body:=loopAt 2 (bodyOf Try.f9),head:=P9_2h,out:=P9_2x,ret:=default}
theorem l9_2_is{R:Type}(G:ORC R)(k:Nat)(X:LV→OV R)(K:Ex→St→OV R)(xl32 xl33:LV)(xl34 xl35 xl36:LV)(xi37 xi38 xi39:Int):
 roundOf (TAB.env 9) G (L9 G k) D9_2 X K [.sl 7 xl32,.sl 1 xl33,.sl 1 xl34,.sl 1 xl35,.sl 1 xl36,.int .i64 xi37,.int .i64 xi38,.int .i64 xi39]=b9_2 G k (fun xl32 xl33 xl34 xl35 xl36 xi37 xi38 xi39=>X [.sl 7 xl32,.sl 1 xl33,.sl 1 xl34,.sl 1 xl35,.sl 1 xl36,.int .i64 xi37,.int .i64 xi38,.int .i64 xi39]) (fun yl39 yl40 yl41 yl42 yl43 yi44=>K .normal (P9_2x.inst [.sl 7 yl39,.sl 1 yl40,.sl 1 yl41,.sl 1 yl42,.sl 1 yl43,.int .i64 yi44])) xl32 xl33 xl34 xl35 xl36 xi37 xi38 xi39:=by kernel_rfl
noncomputable def D9_0:LoopD:={id:=0,body:=loopAt 0 (bodyOf Try.f9),head:=P9_0h,out:=P9_0x,ret:=default}
theorem l9_0_is{R:Type}(G:ORC R)(k:Nat)(X:LV→OV R)(K:Ex→St→OV R)(xl5 xl6:LV)(xl7 xl8 xl9:LV)(xi10:Int):
 roundOf (TAB.env 9) G (L9 G k) D9_0 X K [.sl 7 xl5,.sl 1 xl6,.sl 1 xl7,.sl 1 xl8,.sl 1 xl9,.int .i64 xi10]=b9_0 G k (fun xl5 xl6 xl7 xl8 xl9 xi10=>X [.sl 7 xl5,.sl 1 xl6,.sl 1 xl7,.sl 1 xl8,.sl 1 xl9,.int .i64 xi10]) (fun yl45=>K .normal (P9_0x.inst [.sl 1 yl45])) xl5 xl6 xl7 xl8 xl9 xi10:=by kernel_rfl
theorem f9_is{R:Type}(G:ORC R)(k:Nat)(K:LV→OV R)(al1 al2:LV)(al3 al4:LV):
 callF (TAB.env 9) G (L9 G k) Try.f9 S9 [.sl 7 al1,.sl 1 al2,.sl 1 al3,.sl 1 al4] K=f9 G k al1 al2 al3 al4 K:=by kernel_rfl
theorem li9_2{R:Type}(G:ORC R)(k:Nat):LoopIs (TAB.env 9) G (L9 G k) 2 (loopAt 2 (bodyOf Try.f9)):=
 ⟨D9_2,fun j vs K=>rd9_2 G k K j vs,k,rfl,rfl,by kernel_rfl,by kernel_rfl,by kernel_rfl,(fun vs K=>by unfold rd9_2;dsimp only;split<;>rfl),
   (fun j vs K r h=>by
     unfold rd9_2 at h
     dsimp only at h
     split at h
     ·rw[l9_2_is];exact h
     ·cases h),(fun S K r h=>h)⟩
theorem li9_0{R:Type}(G:ORC R)(k:Nat):LoopIs (TAB.env 9) G (L9 G k) 0 (loopAt 0 (bodyOf Try.f9)):=
 ⟨D9_0,fun j vs K=>rd9_0 G k K j vs,k,rfl,rfl,by kernel_rfl,by kernel_rfl,by kernel_rfl,(fun vs K=>by unfold rd9_0;dsimp only;split<;>rfl),
   (fun j vs K r h=>by
     unfold rd9_0 at h
     dsimp only at h
     split at h
     ·rw[l9_0_is];exact h
     ·cases h),(fun S K r h=>h)⟩
theorem lo9:loopsOf (bodyOf Try.f9)=[(0,loopAt 0 (bodyOf Try.f9)),(2,loopAt 2 (bodyOf Try.f9))]:=by kernel_rfl
theorem la9{R:Type}(G:ORC R)(k:Nat):LoopsAre (TAB.env 9) G (L9 G k) (bodyOf Try.f9):=
 loopsAre_of (by rw[lo9];intro p hp;simp only[List.mem_cons,List.not_mem_nil,or_false]at hp;rcases hp with rfl|rfl<;>first|exact li9_0 G k|exact li9_2 G k)
def g9{R:Type}(G:ORC R)(k:Nat)(args:LV)(K:LV→OV R):OV R:=match args with
 | [.sl 7 al1,.sl 1 al2,.sl 1 al3,.sl 1 al4]=>f9 G k al1 al2 al3 al4 K
 |_=>none
theorem s9{R:Type}{G:ORC R}{k:Nat}(hG:Sound Try.prog TAB G)(args:LV)(K:LV→OV R)(r:R)(h:g9 G k args K=some r):∃o,CallOK Try.prog TAB.env 9 args o∧K o=some r:=by
 unfold g9 at h
 split at h
 ·rw[←f9_is]at h
  exact callF_sound (f:=9) TAB_chk MO hG Try.func9 (sg:=S9) (by kernel_rfl) (by kernel_rfl) (la9 G k) h
 ·cases h
def P39_0h:Pat:={tmps:=unds [.var (.sl 1) .ro,.undef,.undef,.var (.sl 1) (.own true),.var (.int .i64) .pr] 12 [],boxes:=nons [] 17 []}
def P39_0x:Pat:={tmps:=unds [.undef,.undef,.undef,.var (.sl 1) (.own true)] 13 [],boxes:=nons [] 17 []}
def b39_0{R:Type}(G:ORC R)(k:Nat)(X:LV→LV→Int→OV R)(Ko:LV→OV R)(xl2 xl3:LV)(xi4:Int):OV R:=
 (bif(decide (xi4<128))then(G 28 [.sl 1 xl2,.int .i64 xi4] fun o5=>uB o5 fun b7 r6=>unNil r6 (bif b7 then(bif(decide (List.length xl3+1≤1073741824))then(X xl2 (xl3++[.int .i64 xi4]) (IntKind.i64.wrap (xi4+1)))else none)else(X xl2 xl3 (IntKind.i64.wrap (xi4+1)))))else(Ko xl3))
def l39_0g{R:Type}(G:ORC R)(k:Nat)(Ko:LV→OV R):Nat→LV→LV→Int→OV R
 |0=>fun _ _ _=>none
 |j+1=>b39_0 G k (l39_0g G k Ko j) Ko
def l39_0{R:Type}(G:ORC R)(k:Nat)(xl2 xl3:LV)(xi4:Int)(Ko:LV→OV R):OV R:=l39_0g G k Ko k xl2 xl3 xi4
def rd39_0{R:Type}(G:ORC R)(k:Nat)(K:Ex→St→OV R)(j:Nat)(vs:LV):OV R:=match vs with
 | [.sl 1 xl2,.sl 1 xl3,.int .i64 xi4]=>l39_0g G k (fun yl9=>K .normal (P39_0x.inst [.sl 1 yl9])) j xl2 xl3 xi4
 |_=>none
def L39{R:Type}(G:ORC R)(k:Nat):Nat→St→(Ex→St→OV R)→OV R
 |0,S,K=>P39_0h.mat S fun vs=>rd39_0 G k K k vs
 |_,_,_=>none
def f39{R:Type}(G:ORC R)(k:Nat)(al1:LV)(K:LV→OV R):OV R:=
 (l39_0 G k al1 [] 0 (fun yl8=>K [.sl 1 yl8]))
noncomputable def D39_0:LoopD:={id:=0,body:=loopAt 0 (bodyOf Try.f39),head:=P39_0h,out:=P39_0x,ret:=default}
theorem l39_0_is{R:Type}(G:ORC R)(k:Nat)(X:LV→OV R)(K:Ex→St→OV R)(xl2 xl3:LV)(xi4:Int):
 roundOf (TAB.env 39) G (L39 G k) D39_0 X K [.sl 1 xl2,.sl 1 xl3,.int .i64 xi4]=b39_0 G k (fun xl2 xl3 xi4=>X [.sl 1 xl2,.sl 1 xl3,.int .i64 xi4]) (fun yl9=>K .normal (P39_0x.inst [.sl 1 yl9])) xl2 xl3 xi4:=by kernel_rfl
theorem f39_is{R:Type}(G:ORC R)(k:Nat)(K:LV→OV R)(al1:LV):
 callF (TAB.env 39) G (L39 G k) Try.f39 S39 [.sl 1 al1] K=f39 G k al1 K:=by kernel_rfl
theorem li39_0{R:Type}(G:ORC R)(k:Nat):LoopIs (TAB.env 39) G (L39 G k) 0 (loopAt 0 (bodyOf Try.f39)):=
 ⟨D39_0,fun j vs K=>rd39_0 G k K j vs,k,rfl,rfl,by kernel_rfl,by kernel_rfl,by kernel_rfl,(fun vs K=>by unfold rd39_0;dsimp only;split<;>rfl),
   (fun j vs K r h=>by
     unfold rd39_0 at h
     dsimp only at h
     split at h
     ·rw[l39_0_is];exact h
     ·cases h),(fun S K r h=>h)⟩
theorem lo39:loopsOf (bodyOf Try.f39)=[(0,loopAt 0 (bodyOf Try.f39))]:=by kernel_rfl
theorem la39{R:Type}(G:ORC R)(k:Nat):LoopsAre (TAB.env 39) G (L39 G k) (bodyOf Try.f39):=
 loopsAre_of (by rw[lo39];intro p hp;simp only[List.mem_cons,List.not_mem_nil,or_false]at hp;subst hp;exact li39_0 G k)
def g39{R:Type}(G:ORC R)(k:Nat)(args:LV)(K:LV→OV R):OV R:=match args with
 | [.sl 1 al1]=>f39 G k al1 K
 |_=>none
theorem s39{R:Type}{G:ORC R}{k:Nat}(hG:Sound Try.prog TAB G)(args:LV)(K:LV→OV R)(r:R)(h:g39 G k args K=some r):∃o,CallOK Try.prog TAB.env 39 args o∧K o=some r:=by
 unfold g39 at h
 split at h
 ·rw[←f39_is]at h
  exact callF_sound (f:=39) TAB_chk MO hG Try.func39 (sg:=S39) (by kernel_rfl) (by kernel_rfl) (la39 G k) h
 ·cases h
def L37{R:Type}(_:ORC R)(_:Nat):Nat→St→(Ex→St→OV R)→OV R:=fun _ _ _=>none
def f37{R:Type}(G:ORC R)(k:Nat)(ai1:Int)(bl2 bl3 bl4:LV)(K:LV→OV R):OV R:=
 (bif((decide (0≤ai1))&&(decide (ai1<(bl2.length:Int))))then(nthK bl2 (Int.toNat ai1) fun e5=>V.asAgg e5 fun l6=>ce7 l6 fun c7 c8 c9 c10 c11 c12 c13=>aI .i64 c7 fun n22=>aI .i64 c8 fun n23=>aI .i64 c9 fun n24=>aI .i64 c10 fun n25=>aI .i64 c11 fun n26=>aI .i64 c12 fun n27=>V.asStr c13 fun s28=>G 27 [.agg [.int .i64 n22,.int .i64 n23,.int .i64 n24,.int .i64 n25,.int .i64 n26,.int .i64 n27,.str s28]] fun o29=>uB o29 fun b31 r30=>unNil r30 (bif b31 then(K [.sl 1 [.int .i64 ai1],.sl 1 bl4])else(bif(decide (ai1<(bl3.length:Int)))then(bif((decide (0≤ai1))&&(decide (ai1<(bl3.length:Int))))then(nthK bl3 (Int.toNat ai1) fun e32=>V.asSl e32 fun z33 l34=>bif(decide ((l34.length:Int)>0))then(bif((decide (0≤ai1))&&(decide (ai1<(bl3.length:Int))))then(nthK bl3 (Int.toNat ai1) fun e35=>V.asSl e35 fun z36 l37=>K [.sl z36 l37,.sl 1 bl4])else none)else(bif((decide (0≤n23))&&(decide (n23<(bl2.length:Int))))then(nthK bl2 (Int.toNat n23) fun e38=>ca7 e38 fun c39 c40 c41 c42 c43 c44 c45=>aI .i64 c39 fun n46=>bif(n46==2)then(bif((decide (0≤n23))&&(decide (n23<(bl2.length:Int))))then(nthK bl2 (Int.toNat n23) fun e47=>ca7 e47 fun c48 c49 c50 c51 c52 c53 c54=>aI .i64 c51 fun n55=>K [.sl 1 [.int .i64 n55],.sl 1 bl4])else none)else(G 25 [.sl 7 bl2,.int .i64 n23] fun o56=>uL 1 o56 fun l58 r57=>unNil r57 (K [.sl 1 l58,.sl 1 bl4])))else none))else none)else(bif((decide (0≤n23))&&(decide (n23<(bl2.length:Int))))then(nthK bl2 (Int.toNat n23) fun e59=>ca7 e59 fun c60 c61 c62 c63 c64 c65 c66=>aI .i64 c60 fun n67=>bif(n67==2)then(bif((decide (0≤n23))&&(decide (n23<(bl2.length:Int))))then(nthK bl2 (Int.toNat n23) fun e68=>ca7 e68 fun c69 c70 c71 c72 c73 c74 c75=>aI .i64 c72 fun n76=>K [.sl 1 [.int .i64 n76],.sl 1 bl4])else none)else(G 25 [.sl 7 bl2,.int .i64 n23] fun o77=>uL 1 o77 fun l79 r78=>unNil r78 (K [.sl 1 l79,.sl 1 bl4])))else none))))else none)
theorem f37_is{R:Type}(G:ORC R)(k:Nat)(K:LV→OV R)(ai1:Int)(bl2 bl3 bl4:LV):
 callF (TAB.env 37) G (L37 G k) Try.f37 S37 [.int .i64 ai1,.sl 7 bl2,.sl 1 bl3,.sl 1 bl4] K=f37 G k ai1 bl2 bl3 bl4 K:=by kernel_rfl
theorem lo37:loopsOf (bodyOf Try.f37)=[]:=by kernel_rfl
theorem la37{R:Type}(G:ORC R)(k:Nat):LoopsAre (TAB.env 37) G (L37 G k) (bodyOf Try.f37):=
 loopsAre_of (by rw[lo37];intro p hp;cases hp)
def g37{R:Type}(G:ORC R)(k:Nat)(args:LV)(K:LV→OV R):OV R:=match args with
 | [.int .i64 ai1,.sl 7 bl2,.sl 1 bl3,.sl 1 bl4]=>f37 G k ai1 bl2 bl3 bl4 K
 |_=>none
theorem s37{R:Type}{G:ORC R}{k:Nat}(hG:Sound Try.prog TAB G)(args:LV)(K:LV→OV R)(r:R)(h:g37 G k args K=some r):∃o,CallOK Try.prog TAB.env 37 args o∧K o=some r:=by
 unfold g37 at h
 split at h
 ·rw[←f37_is]at h
  exact callF_sound (f:=37) TAB_chk MO hG Try.func37 (sg:=S37) (by kernel_rfl) (by kernel_rfl) (la37 G k) h
 ·cases h
def P38_0h:Pat:={tmps:=unds [.stat (.one (.ptr 0 0) .pt),.undef,.var (.int .i64) .pr,.undef,.undef,.undef,.var (.int .i64) .pr] 54 [],boxes:=nons [some [.var (.sl 7) .ro true,.var (.sl 1) .ro true,.var (.sl 1) (.own true) false]] 61 []}
def P38_0x:Pat:={tmps:=unds [] 61 [],boxes:=nons [some [.var (.sl 7) .ro true,.var (.sl 1) .ro true,.var (.sl 1) (.own true) false]] 61 []}
def b38_0{R:Type}(G:ORC R)(k:Nat)(X:Int→Int→LV→LV→LV→OV R)(Ko:LV→LV→LV→OV R)(xi15 xi16:Int)(xl17 xl18 xl19:LV):OV R:=
 (bif(decide (xi16≥0))then(bif(xi16 !=xi15)then(G 29 [.sl 7 xl17,.int .i64 xi16,.int .i64 xi15] fun o20=>uB o20 fun b22 r21=>unNil r21 (bif b22 then(bif(decide (List.length xl19+1≤1073741824))then(bif((decide (0≤xi16))&&(decide (xi16<(xl17.length:Int))))then(nthK xl17 (Int.toNat xi16) fun e23=>ca7 e23 fun c24 c25 c26 c27 c28 c29 c30=>aI .i64 c24 fun n31=>bif(n31==3)then(G 62 [.int .i64 xi16,.sl 7 xl17,.sl 1 xl18,.sl 1 (xl19++[.int .i64 xi16])] fun o32=>uL 1 o32 fun l34 r33=>unNil r33 (bif((decide (0≤xi16))&&(decide (xi16<(xl17.length:Int))))then(nthK xl17 (Int.toNat xi16) fun e35=>ca7 e35 fun c36 c37 c38 c39 c40 c41 c42=>aI .i64 c37 fun n43=>X xi15 n43 xl17 xl18 l34)else none))else(bif((decide (0≤xi16))&&(decide (xi16<(xl17.length:Int))))then(nthK xl17 (Int.toNat xi16) fun e44=>ca7 e44 fun c45 c46 c47 c48 c49 c50 c51=>aI .i64 c46 fun n52=>X xi15 n52 xl17 xl18 (xl19++[.int .i64 xi16]))else none))else none)else none)else(Ko xl17 xl18 xl19)))else(Ko xl17 xl18 xl19))else(Ko xl17 xl18 xl19))
def l38_0g{R:Type}(G:ORC R)(k:Nat)(Ko:LV→LV→LV→OV R):Nat→Int→Int→LV→LV→LV→OV R
 |0=>fun _ _ _ _ _=>none
 |j+1=>b38_0 G k (l38_0g G k Ko j) Ko
def l38_0{R:Type}(G:ORC R)(k:Nat)(xi15 xi16:Int)(xl17 xl18 xl19:LV)(Ko:LV→LV→LV→OV R):OV R:=l38_0g G k Ko k xi15 xi16 xl17 xl18 xl19
def rd38_0{R:Type}(G:ORC R)(k:Nat)(K:Ex→St→OV R)(j:Nat)(vs:LV):OV R:=match vs with
 | [.int .i64 xi15,.int .i64 xi16,.sl 7 xl17,.sl 1 xl18,.sl 1 xl19]=>l38_0g G k (fun yl56 yl57 yl58=>K .normal (P38_0x.inst [.sl 7 yl56,.sl 1 yl57,.sl 1 yl58])) j xi15 xi16 xl17 xl18 xl19
 |_=>none
def L38{R:Type}(G:ORC R)(k:Nat):Nat→St→(Ex→St→OV R)→OV R
 |0,S,K=>P38_0h.mat S fun vs=>rd38_0 G k K k vs
 |_,_,_=>none
def f38{R:Type}(G:ORC R)(k:Nat)(ai1 ai2:Int)(bl3 bl4 bl5:LV)(K:LV→OV R):OV R:=
 (bif((decide (0≤ai1))&&(decide (ai1<(bl3.length:Int))))then(nthK bl3 (Int.toNat ai1) fun e6=>ca7 e6 fun c7 c8 c9 c10 c11 c12 c13=>aI .i64 c8 fun n14=>l38_0 G k ai2 n14 bl3 bl4 bl5 (fun yl53 yl54 yl55=>K [.sl 1 yl55]))else none)
noncomputable def D38_0:LoopD:={id:=0,body:=loopAt 0 (bodyOf Try.f38),head:=P38_0h,out:=P38_0x,ret:=default}
theorem l38_0_is{R:Type}(G:ORC R)(k:Nat)(X:LV→OV R)(K:Ex→St→OV R)(xi15 xi16:Int)(xl17 xl18 xl19:LV):
 roundOf (TAB.env 38) G (L38 G k) D38_0 X K [.int .i64 xi15,.int .i64 xi16,.sl 7 xl17,.sl 1 xl18,.sl 1 xl19]=b38_0 G k (fun xi15 xi16 xl17 xl18 xl19=>X [.int .i64 xi15,.int .i64 xi16,.sl 7 xl17,.sl 1 xl18,.sl 1 xl19]) (fun yl56 yl57 yl58=>K .normal (P38_0x.inst [.sl 7 yl56,.sl 1 yl57,.sl 1 yl58])) xi15 xi16 xl17 xl18 xl19:=by kernel_rfl
theorem f38_is{R:Type}(G:ORC R)(k:Nat)(K:LV→OV R)(ai1 ai2:Int)(bl3 bl4 bl5:LV):
 callF (TAB.env 38) G (L38 G k) Try.f38 S38 [.int .i64 ai1,.int .i64 ai2,.sl 7 bl3,.sl 1 bl4,.sl 1 bl5] K=f38 G k ai1 ai2 bl3 bl4 bl5 K:=by kernel_rfl
theorem li38_0{R:Type}(G:ORC R)(k:Nat):LoopIs (TAB.env 38) G (L38 G k) 0 (loopAt 0 (bodyOf Try.f38)):=
 ⟨D38_0,fun j vs K=>rd38_0 G k K j vs,k,rfl,rfl,by kernel_rfl,by kernel_rfl,by kernel_rfl,(fun vs K=>by unfold rd38_0;dsimp only;split<;>rfl),
   (fun j vs K r h=>by
     unfold rd38_0 at h
     dsimp only at h
     split at h
     ·rw[l38_0_is];exact h
     ·cases h),(fun S K r h=>h)⟩
theorem lo38:loopsOf (bodyOf Try.f38)=[(0,loopAt 0 (bodyOf Try.f38))]:=by kernel_rfl
theorem la38{R:Type}(G:ORC R)(k:Nat):LoopsAre (TAB.env 38) G (L38 G k) (bodyOf Try.f38):=
 loopsAre_of (by rw[lo38];intro p hp;simp only[List.mem_cons,List.not_mem_nil,or_false]at hp;subst hp;exact li38_0 G k)
def g38{R:Type}(G:ORC R)(k:Nat)(args:LV)(K:LV→OV R):OV R:=match args with
 | [.int .i64 ai1,.int .i64 ai2,.sl 7 bl3,.sl 1 bl4,.sl 1 bl5]=>f38 G k ai1 ai2 bl3 bl4 bl5 K
 |_=>none
theorem s38{R:Type}{G:ORC R}{k:Nat}(hG:Sound Try.prog TAB G)(args:LV)(K:LV→OV R)(r:R)(h:g38 G k args K=some r):∃o,CallOK Try.prog TAB.env 38 args o∧K o=some r:=by
 unfold g38 at h
 split at h
 ·rw[←f38_is]at h
  exact callF_sound (f:=38) TAB_chk MO hG Try.func38 (sg:=S38) (by kernel_rfl) (by kernel_rfl) (la38 G k) h
 ·cases h
def P14_2h:Pat:={tmps:=unds [.var (.sl 7) .ro,.var (.sl 2) .ro] 5 (unds [.stat (.one (.ptr 15 0) .pt),.var (.int .i64) .pr,.stat (.one (.ptr 9 0) .pt),.var (.sl 1) .ro,.var (.int .i64) .pr] 53 []),boxes:=nons [] 9 (nons [some [.var (.int .i64) .pr false,.var (.int .i64) .pr false]] 5 (nons [some [.var (.sl 7) .ro false,.var (.sl 1) .ro false,.var (.sl 1) (.own true) false]] 49 []))}
def P14_2x:Pat:={tmps:=unds [.var (.sl 7) .ro,.var (.sl 2) .ro] 5 (unds [.stat (.one (.ptr 15 0) .pt),.var (.int .i64) .pr] 56 []),boxes:=nons [] 15 (nons [some [.var (.sl 7) .ro false,.var (.sl 1) .ro false,.var (.sl 1) (.own true) false]] 49 [])}
def b14_2{R:Type}(G:ORC R)(k:Nat)(X:LV→LV→Int→LV→Int→Int→Int→LV→LV→LV→OV R)(Ko:LV→LV→Int→LV→LV→LV→OV R)(xl33 xl34:LV)(xi35:Int)(xl36:LV)(xi37 xi38 xi39:Int)(xl40 xl41 xl42:LV):OV R:=
 (bif(decide (xi37<(xl36.length:Int)))then(bif((decide (0≤xi37))&&(decide (xi37<(xl36.length:Int))))then(nthK xl36 (Int.toNat xi37) fun e43=>aI .i64 e43 fun n44=>G 38 [.int .i64 n44,.int .i64 xi39,.sl 7 xl40,.sl 1 xl41,.sl 1 xl42] fun o45=>uL 1 o45 fun l47 r46=>unNil r46 (X xl33 xl34 xi35 xl36 (IntKind.i64.wrap (xi37+1)) xi38 xi39 xl40 xl41 l47))else none)else(Ko xl33 xl34 xi35 xl40 xl41 xl42))
def l14_2g{R:Type}(G:ORC R)(k:Nat)(Ko:LV→LV→Int→LV→LV→LV→OV R):Nat→LV→LV→Int→LV→Int→Int→Int→LV→LV→LV→OV R
 |0=>fun _ _ _ _ _ _ _ _ _ _=>none
 |j+1=>b14_2 G k (l14_2g G k Ko j) Ko
def l14_2{R:Type}(G:ORC R)(k:Nat)(xl33 xl34:LV)(xi35:Int)(xl36:LV)(xi37 xi38 xi39:Int)(xl40 xl41 xl42:LV)(Ko:LV→LV→Int→LV→LV→LV→OV R):OV R:=l14_2g G k Ko k xl33 xl34 xi35 xl36 xi37 xi38 xi39 xl40 xl41 xl42
def P14_0h:Pat:={tmps:=unds [.var (.sl 7) .ro,.var (.sl 2) .ro] 5 (unds [.stat (.one (.ptr 15 0) .pt),.var (.int .i64) .pr] 56 []),boxes:=nons [] 15 (nons [some [.var (.sl 7) .ro false,.var (.sl 1) .ro false,.var (.sl 1) (.own true) false]] 49 [])}
def P14_0x:Pat:={tmps:=unds [] 7 (unds [.stat (.one (.ptr 15 0) .pt)] 57 []),boxes:=nons [] 15 (nons [some [.var (.sl 7) .ro false,.var (.sl 1) .ro false,.var (.sl 1) (.own true) false]] 49 [])}
def b14_0{R:Type}(G:ORC R)(k:Nat)(X:LV→LV→Int→LV→LV→LV→OV R)(Ko:LV→LV→LV→OV R)(xl4 xl5:LV)(xi6:Int)(xl7 xl8 xl9:LV):OV R:=
 (bif(decide (xi6<(xl5.length:Int)))then(bif((decide (0≤xi6))&&(decide (xi6<(xl5.length:Int))))then(nthK xl5 (Int.toNat xi6) fun e10=>V.asAgg e10 fun l11=>ce2 l11 fun c12 c13=>aI .i64 c12 fun n17=>aI .i64 c13 fun n18=>G 30 [.sl 7 xl4,.int .i64 n17] fun o19=>uB o19 fun b21 r20=>unNil r20 (bif(!b21)then(X xl4 xl5 (IntKind.i64.wrap (xi6+1)) xl7 xl8 xl9)else(G 30 [.sl 7 xl4,.int .i64 n18] fun o22=>uB o22 fun b24 r23=>unNil r23 (bif(!b24)then(X xl4 xl5 (IntKind.i64.wrap (xi6+1)) xl7 xl8 xl9)else(G 36 [.int .i64 n17,.sl 7 xl7,.sl 1 xl8,.sl 1 xl9] fun o25=>uL 1 o25 fun l27 r26=>unNil r26 (G 37 [.int .i64 n17,.sl 7 xl7,.sl 1 xl8,.sl 1 l27] fun o28=>uL 1 o28 fun l30 r29=>uL 1 r29 fun l32 r31=>unNil r31 (l14_2 G k xl4 xl5 xi6 l30 0 n17 n18 xl7 xl8 l32 (fun yl33 yl34 yi35 yl36 yl37 yl38=>X yl33 yl34 (IntKind.i64.wrap (yi35+1)) yl36 yl37 yl38))))))))else none)else(Ko xl7 xl8 xl9))
def l14_0g{R:Type}(G:ORC R)(k:Nat)(Ko:LV→LV→LV→OV R):Nat→LV→LV→Int→LV→LV→LV→OV R
 |0=>fun _ _ _ _ _ _=>none
 |j+1=>b14_0 G k (l14_0g G k Ko j) Ko
def l14_0{R:Type}(G:ORC R)(k:Nat)(xl4 xl5:LV)(xi6:Int)(xl7 xl8 xl9:LV)(Ko:LV→LV→LV→OV R):OV R:=l14_0g G k Ko k xl4 xl5 xi6 xl7 xl8 xl9
def rd14_2{R:Type}(G:ORC R)(k:Nat)(K:Ex→St→OV R)(j:Nat)(vs:LV):OV R:=match vs with
 | [.sl 7 xl33,.sl 2 xl34,.int .i64 xi35,.sl 1 xl36,.int .i64 xi37,.int .i64 xi38,.int .i64 xi39,.sl 7 xl40,.sl 1 xl41,.sl 1 xl42]=>l14_2g G k (fun yl45 yl46 yi47 yl48 yl49 yl50=>K .normal (P14_2x.inst [.sl 7 yl45,.sl 2 yl46,.int .i64 yi47,.sl 7 yl48,.sl 1 yl49,.sl 1 yl50])) j xl33 xl34 xi35 xl36 xi37 xi38 xi39 xl40 xl41 xl42
 |_=>none
def rd14_0{R:Type}(G:ORC R)(k:Nat)(K:Ex→St→OV R)(j:Nat)(vs:LV):OV R:=match vs with
 | [.sl 7 xl4,.sl 2 xl5,.int .i64 xi6,.sl 7 xl7,.sl 1 xl8,.sl 1 xl9]=>l14_0g G k (fun yl51 yl52 yl53=>K .normal (P14_0x.inst [.sl 7 yl51,.sl 1 yl52,.sl 1 yl53])) j xl4 xl5 xi6 xl7 xl8 xl9
 |_=>none
def L14{R:Type}(G:ORC R)(k:Nat):Nat→St→(Ex→St→OV R)→OV R
 |2,S,K=>P14_2h.mat S fun vs=>rd14_2 G k K k vs
 |0,S,K=>P14_0h.mat S fun vs=>rd14_0 G k K k vs
 |_,_,_=>none
def f14{R:Type}(G:ORC R)(k:Nat)(al1 al2 al3:LV)(K:LV→OV R):OV R:=
 (l14_0 G k al1 al2 0 al1 al3 [] (fun yl39 yl40 yl41=>G 39 [.sl 1 yl41] fun o42=>uL 1 o42 fun l44 r43=>unNil r43 (K [.sl 1 l44])))
noncomputable def D14_2:LoopD:={id:=2,body:=loopAt 2 (bodyOf Try.f14),head:=P14_2h,out:=P14_2x,ret:=default}
theorem l14_2_is{R:Type}(G:ORC R)(k:Nat)(X:LV→OV R)(K:Ex→St→OV R)(xl33 xl34:LV)(xi35:Int)(xl36:LV)(xi37 xi38 xi39:Int)(xl40 xl41 xl42:LV):
 roundOf (TAB.env 14) G (L14 G k) D14_2 X K [.sl 7 xl33,.sl 2 xl34,.int .i64 xi35,.sl 1 xl36,.int .i64 xi37,.int .i64 xi38,.int .i64 xi39,.sl 7 xl40,.sl 1 xl41,.sl 1 xl42]=b14_2 G k (fun xl33 xl34 xi35 xl36 xi37 xi38 xi39 xl40 xl41 xl42=>X [.sl 7 xl33,.sl 2 xl34,.int .i64 xi35,.sl 1 xl36,.int .i64 xi37,.int .i64 xi38,.int .i64 xi39,.sl 7 xl40,.sl 1 xl41,.sl 1 xl42]) (fun yl45 yl46 yi47 yl48 yl49 yl50=>K .normal (P14_2x.inst [.sl 7 yl45,.sl 2 yl46,.int .i64 yi47,.sl 7 yl48,.sl 1 yl49,.sl 1 yl50])) xl33 xl34 xi35 xl36 xi37 xi38 xi39 xl40 xl41 xl42:=by kernel_rfl
noncomputable def D14_0:LoopD:={id:=0,body:=loopAt 0 (bodyOf Try.f14),head:=P14_0h,out:=P14_0x,ret:=default}
theorem l14_0_is{R:Type}(G:ORC R)(k:Nat)(X:LV→OV R)(K:Ex→St→OV R)(xl4 xl5:LV)(xi6:Int)(xl7 xl8 xl9:LV):
 roundOf (TAB.env 14) G (L14 G k) D14_0 X K [.sl 7 xl4,.sl 2 xl5,.int .i64 xi6,.sl 7 xl7,.sl 1 xl8,.sl 1 xl9]=b14_0 G k (fun xl4 xl5 xi6 xl7 xl8 xl9=>X [.sl 7 xl4,.sl 2 xl5,.int .i64 xi6,.sl 7 xl7,.sl 1 xl8,.sl 1 xl9]) (fun yl51 yl52 yl53=>K .normal (P14_0x.inst [.sl 7 yl51,.sl 1 yl52,.sl 1 yl53])) xl4 xl5 xi6 xl7 xl8 xl9:=by kernel_rfl
theorem f14_is{R:Type}(G:ORC R)(k:Nat)(K:LV→OV R)(al1 al2 al3:LV):
 callF (TAB.env 14) G (L14 G k) Try.f14 S14 [.sl 7 al1,.sl 2 al2,.sl 1 al3] K=f14 G k al1 al2 al3 K:=by kernel_rfl
theorem li14_2{R:Type}(G:ORC R)(k:Nat):LoopIs (TAB.env 14) G (L14 G k) 2 (loopAt 2 (bodyOf Try.f14)):=
 ⟨D14_2,fun j vs K=>rd14_2 G k K j vs,k,rfl,rfl,by kernel_rfl,by kernel_rfl,by kernel_rfl,(fun vs K=>by unfold rd14_2;dsimp only;split<;>rfl),
   (fun j vs K r h=>by
     unfold rd14_2 at h
     dsimp only at h
     split at h
     ·rw[l14_2_is];exact h
     ·cases h),(fun S K r h=>h)⟩
theorem li14_0{R:Type}(G:ORC R)(k:Nat):LoopIs (TAB.env 14) G (L14 G k) 0 (loopAt 0 (bodyOf Try.f14)):=
 ⟨D14_0,fun j vs K=>rd14_0 G k K j vs,k,rfl,rfl,by kernel_rfl,by kernel_rfl,by kernel_rfl,(fun vs K=>by unfold rd14_0;dsimp only;split<;>rfl),
   (fun j vs K r h=>by
     unfold rd14_0 at h
     dsimp only at h
     split at h
     ·rw[l14_0_is];exact h
     ·cases h),(fun S K r h=>h)⟩
theorem lo14:loopsOf (bodyOf Try.f14)=[(0,loopAt 0 (bodyOf Try.f14)),(2,loopAt 2 (bodyOf Try.f14))]:=by kernel_rfl
theorem la14{R:Type}(G:ORC R)(k:Nat):LoopsAre (TAB.env 14) G (L14 G k) (bodyOf Try.f14):=
 loopsAre_of (by rw[lo14];intro p hp;simp only[List.mem_cons,List.not_mem_nil,or_false]at hp;rcases hp with rfl|rfl<;>first|exact li14_0 G k|exact li14_2 G k)
def g14{R:Type}(G:ORC R)(k:Nat)(args:LV)(K:LV→OV R):OV R:=match args with
 | [.sl 7 al1,.sl 2 al2,.sl 1 al3]=>f14 G k al1 al2 al3 K
 |_=>none
theorem s14{R:Type}{G:ORC R}{k:Nat}(hG:Sound Try.prog TAB G)(args:LV)(K:LV→OV R)(r:R)(h:g14 G k args K=some r):∃o,CallOK Try.prog TAB.env 14 args o∧K o=some r:=by
 unfold g14 at h
 split at h
 ·rw[←f14_is]at h
  exact callF_sound (f:=14) TAB_chk MO hG Try.func14 (sg:=S14) (by kernel_rfl) (by kernel_rfl) (la14 G k) h
 ·cases h
def L16{R:Type}(_:ORC R)(_:Nat):Nat→St→(Ex→St→OV R)→OV R:=fun _ _ _=>none
def f16{R:Type}(G:ORC R)(k:Nat)(al1:LV)(K:LV→OV R):OV R:=
 (G 36 [.int .i64 0,.sl 7 al1,.sl 1 [],.sl 1 []] fun o2=>uL 1 o2 fun l4 r3=>unNil r3 (G 39 [.sl 1 l4] fun o5=>uL 1 o5 fun l7 r6=>unNil r6 (K [.sl 1 l7])))
theorem f16_is{R:Type}(G:ORC R)(k:Nat)(K:LV→OV R)(al1:LV):
 callF (TAB.env 16) G (L16 G k) Try.f16 S16 [.sl 7 al1] K=f16 G k al1 K:=by kernel_rfl
theorem lo16:loopsOf (bodyOf Try.f16)=[]:=by kernel_rfl
theorem la16{R:Type}(G:ORC R)(k:Nat):LoopsAre (TAB.env 16) G (L16 G k) (bodyOf Try.f16):=
 loopsAre_of (by rw[lo16];intro p hp;cases hp)
def g16{R:Type}(G:ORC R)(k:Nat)(args:LV)(K:LV→OV R):OV R:=match args with
 | [.sl 7 al1]=>f16 G k al1 K
 |_=>none
theorem s16{R:Type}{G:ORC R}{k:Nat}(hG:Sound Try.prog TAB G)(args:LV)(K:LV→OV R)(r:R)(h:g16 G k args K=some r):∃o,CallOK Try.prog TAB.env 16 args o∧K o=some r:=by
 unfold g16 at h
 split at h
 ·rw[←f16_is]at h
  exact callF_sound (f:=16) TAB_chk MO hG Try.func16 (sg:=S16) (by kernel_rfl) (by kernel_rfl) (la16 G k) h
 ·cases h
def P42_0h:Pat:={tmps:=unds [.var (.sl 7) .ro,.var (.int .i64) .pr,.undef,.undef,.undef,.var (.sl 1) (.own true),.undef,.undef,.var (.sl 7) .ro,.var (.int .i64) .pr,.var (.int .i64) .pr] 19 [],boxes:=nons [] 30 []}
def P42_0x:Pat:={tmps:=unds [] 5 (unds [.var (.sl 1) (.own true)] 24 []),boxes:=nons [] 30 []}
def b42_0{R:Type}(G:ORC R)(k:Nat)(X:LV→Int→LV→LV→Int→Int→OV R)(Ko:LV→OV R)(xl3:LV)(xi4:Int)(xl5 xl6:LV)(xi7 xi8:Int):OV R:=
 (bif(decide (xi8<xi7))then(bif((decide (0≤xi8))&&(decide (xi8<(xl6.length:Int))))then(nthK xl6 (Int.toNat xi8) fun e9=>V.asAgg e9 fun l10=>ce7 l10 fun c11 c12 c13 c14 c15 c16 c17=>aI .i64 c11 fun n26=>aI .i64 c12 fun n27=>aI .i64 c13 fun n28=>aI .i64 c14 fun n29=>aI .i64 c15 fun n30=>aI .i64 c16 fun n31=>V.asStr c17 fun s32=>G 40 [.sl 7 xl3,.int .i64 xi4] fun o33=>uB o33 fun b35 r34=>unNil r34 (bif b35 then(bif(n27==xi4)then(bif(decide (List.length xl5+1≤1073741824))then(X xl3 xi4 (xl5++[.int .i64 xi8]) xl6 xi7 (IntKind.i64.wrap (xi8+1)))else none)else(X xl3 xi4 xl5 xl6 xi7 (IntKind.i64.wrap (xi8+1))))else(X xl3 xi4 xl5 xl6 xi7 (IntKind.i64.wrap (xi8+1)))))else none)else(Ko xl5))
def l42_0g{R:Type}(G:ORC R)(k:Nat)(Ko:LV→OV R):Nat→LV→Int→LV→LV→Int→Int→OV R
 |0=>fun _ _ _ _ _ _=>none
 |j+1=>b42_0 G k (l42_0g G k Ko j) Ko
def l42_0{R:Type}(G:ORC R)(k:Nat)(xl3:LV)(xi4:Int)(xl5 xl6:LV)(xi7 xi8:Int)(Ko:LV→OV R):OV R:=l42_0g G k Ko k xl3 xi4 xl5 xl6 xi7 xi8
def rd42_0{R:Type}(G:ORC R)(k:Nat)(K:Ex→St→OV R)(j:Nat)(vs:LV):OV R:=match vs with
 | [.sl 7 xl3,.int .i64 xi4,.sl 1 xl5,.sl 7 xl6,.int .i64 xi7,.int .i64 xi8]=>l42_0g G k (fun yl37=>K .normal (P42_0x.inst [.sl 1 yl37])) j xl3 xi4 xl5 xl6 xi7 xi8
 |_=>none
def L42{R:Type}(G:ORC R)(k:Nat):Nat→St→(Ex→St→OV R)→OV R
 |0,S,K=>P42_0h.mat S fun vs=>rd42_0 G k K k vs
 |_,_,_=>none
def f42{R:Type}(G:ORC R)(k:Nat)(al1:LV)(ai2:Int)(K:LV→OV R):OV R:=
 (l42_0 G k al1 ai2 [] al1 (al1.length:Int) 0 (fun yl36=>K [.sl 1 yl36]))
noncomputable def D42_0:LoopD:={id:=0,body:=loopAt 0 (bodyOf Try.f42),head:=P42_0h,out:=P42_0x,ret:=default}
theorem l42_0_is{R:Type}(G:ORC R)(k:Nat)(X:LV→OV R)(K:Ex→St→OV R)(xl3:LV)(xi4:Int)(xl5 xl6:LV)(xi7 xi8:Int):
 roundOf (TAB.env 42) G (L42 G k) D42_0 X K [.sl 7 xl3,.int .i64 xi4,.sl 1 xl5,.sl 7 xl6,.int .i64 xi7,.int .i64 xi8]=b42_0 G k (fun xl3 xi4 xl5 xl6 xi7 xi8=>X [.sl 7 xl3,.int .i64 xi4,.sl 1 xl5,.sl 7 xl6,.int .i64 xi7,.int .i64 xi8]) (fun yl37=>K .normal (P42_0x.inst [.sl 1 yl37])) xl3 xi4 xl5 xl6 xi7 xi8:=by kernel_rfl
theorem f42_is{R:Type}(G:ORC R)(k:Nat)(K:LV→OV R)(al1:LV)(ai2:Int):
 callF (TAB.env 42) G (L42 G k) Try.f42 S42 [.sl 7 al1,.int .i64 ai2] K=f42 G k al1 ai2 K:=by kernel_rfl
theorem li42_0{R:Type}(G:ORC R)(k:Nat):LoopIs (TAB.env 42) G (L42 G k) 0 (loopAt 0 (bodyOf Try.f42)):=
 ⟨D42_0,fun j vs K=>rd42_0 G k K j vs,k,rfl,rfl,by kernel_rfl,by kernel_rfl,by kernel_rfl,(fun vs K=>by unfold rd42_0;dsimp only;split<;>rfl),
   (fun j vs K r h=>by
     unfold rd42_0 at h
     dsimp only at h
     split at h
     ·rw[l42_0_is];exact h
     ·cases h),(fun S K r h=>h)⟩
theorem lo42:loopsOf (bodyOf Try.f42)=[(0,loopAt 0 (bodyOf Try.f42))]:=by kernel_rfl
theorem la42{R:Type}(G:ORC R)(k:Nat):LoopsAre (TAB.env 42) G (L42 G k) (bodyOf Try.f42):=
 loopsAre_of (by rw[lo42];intro p hp;simp only[List.mem_cons,List.not_mem_nil,or_false]at hp;subst hp;exact li42_0 G k)
def g42{R:Type}(G:ORC R)(k:Nat)(args:LV)(K:LV→OV R):OV R:=match args with
 | [.sl 7 al1,.int .i64 ai2]=>f42 G k al1 ai2 K
 |_=>none
theorem s42{R:Type}{G:ORC R}{k:Nat}(hG:Sound Try.prog TAB G)(args:LV)(K:LV→OV R)(r:R)(h:g42 G k args K=some r):∃o,CallOK Try.prog TAB.env 42 args o∧K o=some r:=by
 unfold g42 at h
 split at h
 ·rw[←f42_is]at h
  exact callF_sound (f:=42) TAB_chk MO hG Try.func42 (sg:=S42) (by kernel_rfl) (by kernel_rfl) (la42 G k) h
 ·cases h
def L76{R:Type}(_:ORC R)(_:Nat):Nat→St→(Ex→St→OV R)→OV R:=fun _ _ _=>none
def f76{R:Type}(G:ORC R)(k:Nat)(ai1:Int)(bl2:LV)(K:LV→OV R):OV R:=
 (bif((decide (0≤ai1))&&(decide (ai1<(bl2.length:Int))))then(nthK bl2 (Int.toNat ai1) fun e3=>V.asAgg e3 fun l4=>G 43 [.agg l4] fun o5=>uB o5 fun b7 r6=>unNil r6 (K [.bool b7]))else none)
theorem f76_is{R:Type}(G:ORC R)(k:Nat)(K:LV→OV R)(ai1:Int)(bl2:LV):
 callF (TAB.env 76) G (L76 G k) Try.f76 S76 [.int .i64 ai1,.sl 7 bl2] K=f76 G k ai1 bl2 K:=by kernel_rfl
theorem lo76:loopsOf (bodyOf Try.f76)=[]:=by kernel_rfl
theorem la76{R:Type}(G:ORC R)(k:Nat):LoopsAre (TAB.env 76) G (L76 G k) (bodyOf Try.f76):=
 loopsAre_of (by rw[lo76];intro p hp;cases hp)
def g76{R:Type}(G:ORC R)(k:Nat)(args:LV)(K:LV→OV R):OV R:=match args with
 | [.int .i64 ai1,.sl 7 bl2]=>f76 G k ai1 bl2 K
 |_=>none
theorem s76{R:Type}{G:ORC R}{k:Nat}(hG:Sound Try.prog TAB G)(args:LV)(K:LV→OV R)(r:R)(h:g76 G k args K=some r):∃o,CallOK Try.prog TAB.env 76 args o∧K o=some r:=by
 unfold g76 at h
 split at h
 ·rw[←f76_is]at h
  exact callF_sound (f:=76) TAB_chk MO hG Try.func76 (sg:=S76) (by kernel_rfl) (by kernel_rfl) (la76 G k) h
 ·cases h
def P131137_0h:Pat:={tmps:=unds [.var (.sl 1) .ro,.stat (.one (.fn 76 [.ptr 0 0]) .pt)] 5 (unds [.var (.int .i64) .pr,.var (.int .i64) .pr] 10 []),boxes:=nons [some [.var (.sl 7) .ro true]] 19 []}
def P131137_0x:Pat:={tmps:=unds [] 19 [],boxes:=nons [some [.var (.sl 7) .ro true]] 19 []}
def P131137_0r:Pat:={tmps:=unds [.undef,.undef,.undef,.undef,.var (.int .i64) .pr] 14 [],boxes:=nons [some [.var (.sl 7) .ro true]] 19 []}
def b131137_0{R:Type}(G:ORC R)(k:Nat)(X:LV→Int→Int→LV→OV R)(Ko:LV→OV R)(Kr:Int→LV→OV R)(xl3:LV)(xi4 xi5:Int)(xl6:LV):OV R:=
 (bif(decide (xi5<xi4))then(bif((decide (0≤xi5))&&(decide (xi5<(xl3.length:Int))))then(nthK xl3 (Int.toNat xi5) fun e7=>aI .i64 e7 fun n8=>G 76 [.int .i64 n8,.sl 7 xl6] fun o9=>uB o9 fun b11 r10=>unNil r10 (bif b11 then(Kr xi5 xl6)else(X xl3 xi4 (IntKind.i64.wrap (xi5+1)) xl6)))else none)else(Ko xl6))
def l131137_0g{R:Type}(G:ORC R)(k:Nat)(Ko:LV→OV R)(Kr:Int→LV→OV R):Nat→LV→Int→Int→LV→OV R
 |0=>fun _ _ _ _=>none
 |j+1=>b131137_0 G k (l131137_0g G k Ko Kr j) Ko Kr
def l131137_0{R:Type}(G:ORC R)(k:Nat)(xl3:LV)(xi4 xi5:Int)(xl6:LV)(Ko:LV→OV R)(Kr:Int→LV→OV R):OV R:=l131137_0g G k Ko Kr k xl3 xi4 xi5 xl6
def rd131137_0{R:Type}(G:ORC R)(k:Nat)(K:Ex→St→OV R)(j:Nat)(vs:LV):OV R:=match vs with
 | [.sl 1 xl3,.int .i64 xi4,.int .i64 xi5,.sl 7 xl6]=>l131137_0g G k (fun yl15=>K .normal (P131137_0x.inst [.sl 7 yl15])) (fun yi16 yl17=>K .ret (P131137_0r.inst [.int .i64 yi16,.sl 7 yl17])) j xl3 xi4 xi5 xl6
 |_=>none
def L131137{R:Type}(G:ORC R)(k:Nat):Nat→St→(Ex→St→OV R)→OV R
 |0,S,K=>P131137_0h.mat S fun vs=>rd131137_0 G k K k vs
 |_,_,_=>none
def f131137{R:Type}(G:ORC R)(k:Nat)(al1 bl2:LV)(K:LV→OV R):OV R:=
 (l131137_0 G k al1 (al1.length:Int) 0 bl2 (fun yl12=>K [.int .i64 (-1)]) (fun yi13 yl14=>K [.int .i64 yi13]))
noncomputable def D131137_0:LoopD:={id:=0,body:=loopAt 0 (bodyOf Try.f65),head:=P131137_0h,out:=P131137_0x,ret:=P131137_0r}
theorem l131137_0_is{R:Type}(G:ORC R)(k:Nat)(X:LV→OV R)(K:Ex→St→OV R)(xl3:LV)(xi4 xi5:Int)(xl6:LV):
 roundOf (TAB.env 131137) G (L131137 G k) D131137_0 X K [.sl 1 xl3,.int .i64 xi4,.int .i64 xi5,.sl 7 xl6]=b131137_0 G k (fun xl3 xi4 xi5 xl6=>X [.sl 1 xl3,.int .i64 xi4,.int .i64 xi5,.sl 7 xl6]) (fun yl15=>K .normal (P131137_0x.inst [.sl 7 yl15])) (fun yi16 yl17=>K .ret (P131137_0r.inst [.int .i64 yi16,.sl 7 yl17])) xl3 xi4 xi5 xl6:=by kernel_rfl
theorem f131137_is{R:Type}(G:ORC R)(k:Nat)(K:LV→OV R)(al1 bl2:LV):
 callF (TAB.env 131137) G (L131137 G k) Try.f65 S131137 [.sl 1 al1,.sl 7 bl2] K=f131137 G k al1 bl2 K:=by kernel_rfl
theorem li131137_0{R:Type}(G:ORC R)(k:Nat):LoopIs (TAB.env 131137) G (L131137 G k) 0 (loopAt 0 (bodyOf Try.f65)):=
 ⟨D131137_0,fun j vs K=>rd131137_0 G k K j vs,k,rfl,rfl,by kernel_rfl,by kernel_rfl,by kernel_rfl,(fun vs K=>by unfold rd131137_0;dsimp only;split<;>rfl),
   (fun j vs K r h=>by
     unfold rd131137_0 at h
     dsimp only at h
     split at h
     ·rw[l131137_0_is];exact h
     ·cases h),(fun S K r h=>h)⟩
theorem lo131137:loopsOf (bodyOf Try.f65)=[(0,loopAt 0 (bodyOf Try.f65))]:=by kernel_rfl
theorem la131137{R:Type}(G:ORC R)(k:Nat):LoopsAre (TAB.env 131137) G (L131137 G k) (bodyOf Try.f65):=
 loopsAre_of (by rw[lo131137];intro p hp;simp only[List.mem_cons,List.not_mem_nil,or_false]at hp;subst hp;exact li131137_0 G k)
def g131137{R:Type}(G:ORC R)(k:Nat)(args:LV)(K:LV→OV R):OV R:=match args with
 | [.sl 1 al1,.sl 7 bl2]=>f131137 G k al1 bl2 K
 |_=>none
theorem s131137{R:Type}{G:ORC R}{k:Nat}(hG:Sound Try.prog TAB G)(args:LV)(K:LV→OV R)(r:R)(h:g131137 G k args K=some r):∃o,CallOK Try.prog TAB.env 131137 args o∧K o=some r:=by
 unfold g131137 at h
 split at h
 ·rw[←f131137_is]at h
  exact callF_sound (f:=131137) TAB_chk MO hG Try.func65 (sg:=S131137) (by kernel_rfl) (by kernel_rfl) (la131137 G k) h
 ·cases h
def P65611_0h:Pat:={tmps:=unds [.var (.sl 1) (.own true),.stat (.one (.fn 76 [.ptr 0 0]) .pt),.undef,.undef,.undef,.var (.int .i64) .pr,.var (.int .i64) .pr] 35 [],boxes:=nons [some [.var (.sl 7) .ro true]] 42 []}
def P65611_0x:Pat:={tmps:=unds [.var (.sl 1) (.own true),.undef,.undef,.undef,.undef,.var (.int .i64) .pr] 36 [],boxes:=nons [some [.var (.sl 7) .ro true]] 42 []}
def b65611_0{R:Type}(G:ORC R)(k:Nat)(X:LV→Int→Int→LV→OV R)(Ko:LV→Int→LV→OV R)(xl6:LV)(xi7 xi8:Int)(xl9:LV):OV R:=
 (bif(decide (xi8<(xl6.length:Int)))then(bif((decide (0≤xi8))&&(decide (xi8<(xl6.length:Int))))then(nthK xl6 (Int.toNat xi8) fun e10=>aI .i64 e10 fun n11=>G 76 [.int .i64 n11,.sl 7 xl9] fun o12=>uB o12 fun b14 r13=>unNil r13 (bif(!b14)then(bif((decide (0≤xi7))&&(decide (xi7<(xl6.length:Int))))then(nthK xl6 (Int.toNat xi7) fun e15=>X (List.set xl6 (Int.toNat xi7) (.int .i64 n11)) (IntKind.i64.wrap (xi7+1)) (IntKind.i64.wrap (xi8+1)) xl9)else none)else(X xl6 xi7 (IntKind.i64.wrap (xi8+1)) xl9)))else none)else(Ko xl6 xi7 xl9))
def l65611_0g{R:Type}(G:ORC R)(k:Nat)(Ko:LV→Int→LV→OV R):Nat→LV→Int→Int→LV→OV R
 |0=>fun _ _ _ _=>none
 |j+1=>b65611_0 G k (l65611_0g G k Ko j) Ko
def l65611_0{R:Type}(G:ORC R)(k:Nat)(xl6:LV)(xi7 xi8:Int)(xl9:LV)(Ko:LV→Int→LV→OV R):OV R:=l65611_0g G k Ko k xl6 xi7 xi8 xl9
def rd65611_0{R:Type}(G:ORC R)(k:Nat)(K:Ex→St→OV R)(j:Nat)(vs:LV):OV R:=match vs with
 | [.sl 1 xl6,.int .i64 xi7,.int .i64 xi8,.sl 7 xl9]=>l65611_0g G k (fun yl19 yi20 yl21=>K .normal (P65611_0x.inst [.sl 1 yl19,.int .i64 yi20,.sl 7 yl21])) j xl6 xi7 xi8 xl9
 |_=>none
def L65611{R:Type}(G:ORC R)(k:Nat):Nat→St→(Ex→St→OV R)→OV R
 |0,S,K=>P65611_0h.mat S fun vs=>rd65611_0 G k K k vs
 |_,_,_=>none
def f65611{R:Type}(G:ORC R)(k:Nat)(al1 bl2:LV)(K:LV→OV R):OV R:=
 (G 131137 [.sl 1 al1,.sl 7 bl2] fun o3=>uI .i64 o3 fun n5 r4=>unNil r4 (bif(n5==(-1))then(K [.sl 1 al1])else(l65611_0 G k al1 n5 (IntKind.i64.wrap (n5+1)) bl2 (fun yl16 yi17 yl18=>bif((decide (0≤yi17))&&(decide (yi17<(yl16.length:Int))))then(bif(decide ((Int.toNat yi17)≤(List.length yl16)))then(bif((decide (0≤yi17))&&(decide (yi17≤((List.length ((List.take (Int.toNat yi17) yl16)++(List.replicate ((List.length yl16)-(Int.toNat yi17)) (V.int .i64 0))):Nat):Int))))then(K [.sl 1 (List.take (Int.toNat yi17) ((List.take (Int.toNat yi17) yl16)++(List.replicate ((List.length yl16)-(Int.toNat yi17)) (V.int .i64 0))))])else none)else none)else none))))
noncomputable def D65611_0:LoopD:={id:=0,body:=loopAt 0 (bodyOf Try.f75),head:=P65611_0h,out:=P65611_0x,ret:=default}
theorem l65611_0_is{R:Type}(G:ORC R)(k:Nat)(X:LV→OV R)(K:Ex→St→OV R)(xl6:LV)(xi7 xi8:Int)(xl9:LV):
 roundOf (TAB.env 65611) G (L65611 G k) D65611_0 X K [.sl 1 xl6,.int .i64 xi7,.int .i64 xi8,.sl 7 xl9]=b65611_0 G k (fun xl6 xi7 xi8 xl9=>X [.sl 1 xl6,.int .i64 xi7,.int .i64 xi8,.sl 7 xl9]) (fun yl19 yi20 yl21=>K .normal (P65611_0x.inst [.sl 1 yl19,.int .i64 yi20,.sl 7 yl21])) xl6 xi7 xi8 xl9:=by kernel_rfl
theorem f65611_is{R:Type}(G:ORC R)(k:Nat)(K:LV→OV R)(al1 bl2:LV):
 callF (TAB.env 65611) G (L65611 G k) Try.f75 S65611 [.sl 1 al1,.sl 7 bl2] K=f65611 G k al1 bl2 K:=by kernel_rfl
theorem li65611_0{R:Type}(G:ORC R)(k:Nat):LoopIs (TAB.env 65611) G (L65611 G k) 0 (loopAt 0 (bodyOf Try.f75)):=
 ⟨D65611_0,fun j vs K=>rd65611_0 G k K j vs,k,rfl,rfl,by kernel_rfl,by kernel_rfl,by kernel_rfl,(fun vs K=>by unfold rd65611_0;dsimp only;split<;>rfl),
   (fun j vs K r h=>by
     unfold rd65611_0 at h
     dsimp only at h
     split at h
     ·rw[l65611_0_is];exact h
     ·cases h),(fun S K r h=>h)⟩
theorem lo65611:loopsOf (bodyOf Try.f75)=[(0,loopAt 0 (bodyOf Try.f75))]:=by kernel_rfl
theorem la65611{R:Type}(G:ORC R)(k:Nat):LoopsAre (TAB.env 65611) G (L65611 G k) (bodyOf Try.f75):=
 loopsAre_of (by rw[lo65611];intro p hp;simp only[List.mem_cons,List.not_mem_nil,or_false]at hp;subst hp;exact li65611_0 G k)
def g65611{R:Type}(G:ORC R)(k:Nat)(args:LV)(K:LV→OV R):OV R:=match args with
 | [.sl 1 al1,.sl 7 bl2]=>f65611 G k al1 bl2 K
 |_=>none
theorem s65611{R:Type}{G:ORC R}{k:Nat}(hG:Sound Try.prog TAB G)(args:LV)(K:LV→OV R)(r:R)(h:g65611 G k args K=some r):∃o,CallOK Try.prog TAB.env 65611 args o∧K o=some r:=by
 unfold g65611 at h
 split at h
 ·rw[←f65611_is]at h
  exact callF_sound (f:=65611) TAB_chk MO hG Try.func75 (sg:=S65611) (by kernel_rfl) (by kernel_rfl) (la65611 G k) h
 ·cases h
def L61{R:Type}(_:ORC R)(_:Nat):Nat→St→(Ex→St→OV R)→OV R:=fun _ _ _=>none
def f61{R:Type}(G:ORC R)(k:Nat)(al1:LV)(ai2:Int)(K:LV→OV R):OV R:=
 (G 42 [.sl 7 al1,.int .i64 ai2] fun o3=>uL 1 o3 fun l5 r4=>unNil r4 (G 65611 [.sl 1 l5,.sl 7 al1] fun o6=>uL 1 o6 fun l8 r7=>unNil r7 (K [.sl 1 l8])))
theorem f61_is{R:Type}(G:ORC R)(k:Nat)(K:LV→OV R)(al1:LV)(ai2:Int):
 callF (TAB.env 61) G (L61 G k) Try.f61 S61 [.sl 7 al1,.int .i64 ai2] K=f61 G k al1 ai2 K:=by kernel_rfl
theorem lo61:loopsOf (bodyOf Try.f61)=[]:=by kernel_rfl
theorem la61{R:Type}(G:ORC R)(k:Nat):LoopsAre (TAB.env 61) G (L61 G k) (bodyOf Try.f61):=
 loopsAre_of (by rw[lo61];intro p hp;cases hp)
def g61{R:Type}(G:ORC R)(k:Nat)(args:LV)(K:LV→OV R):OV R:=match args with
 | [.sl 7 al1,.int .i64 ai2]=>f61 G k al1 ai2 K
 |_=>none
theorem s61{R:Type}{G:ORC R}{k:Nat}(hG:Sound Try.prog TAB G)(args:LV)(K:LV→OV R)(r:R)(h:g61 G k args K=some r):∃o,CallOK Try.prog TAB.env 61 args o∧K o=some r:=by
 unfold g61 at h
 split at h
 ·rw[←f61_is]at h
  exact callF_sound (f:=61) TAB_chk MO hG Try.func61 (sg:=S61) (by kernel_rfl) (by kernel_rfl) (la61 G k) h
 ·cases h
def L59{R:Type}(_:ORC R)(_:Nat):Nat→St→(Ex→St→OV R)→OV R:=fun _ _ _=>none
def f59{R:Type}(G:ORC R)(k:Nat)(bl1 bl2 bl3:LV)(bi4:Int)(K:LV→OV R):OV R:=
 (K [.bool (decide ((IntKind.i64.wrap (bi4-1))≥0)),.sl 1 bl3,.int .i64 (IntKind.i64.wrap (bi4-1))])
theorem f59_is{R:Type}(G:ORC R)(k:Nat)(K:LV→OV R)(bl1 bl2 bl3:LV)(bi4:Int):
 callF (TAB.env 59) G (L59 G k) Try.f59 S59 [.sl 7 bl1,.sl 1 bl2,.sl 1 bl3,.int .i64 bi4] K=f59 G k bl1 bl2 bl3 bi4 K:=by kernel_rfl
theorem lo59:loopsOf (bodyOf Try.f59)=[]:=by kernel_rfl
theorem la59{R:Type}(G:ORC R)(k:Nat):LoopsAre (TAB.env 59) G (L59 G k) (bodyOf Try.f59):=
 loopsAre_of (by rw[lo59];intro p hp;cases hp)
def g59{R:Type}(G:ORC R)(k:Nat)(args:LV)(K:LV→OV R):OV R:=match args with
 | [.sl 7 bl1,.sl 1 bl2,.sl 1 bl3,.int .i64 bi4]=>f59 G k bl1 bl2 bl3 bi4 K
 |_=>none
theorem s59{R:Type}{G:ORC R}{k:Nat}(hG:Sound Try.prog TAB G)(args:LV)(K:LV→OV R)(r:R)(h:g59 G k args K=some r):∃o,CallOK Try.prog TAB.env 59 args o∧K o=some r:=by
 unfold g59 at h
 split at h
 ·rw[←f59_is]at h
  exact callF_sound (f:=59) TAB_chk MO hG Try.func59 (sg:=S59) (by kernel_rfl) (by kernel_rfl) (la59 G k) h
 ·cases h
def P74_0h:Pat:={tmps:=unds [.stat (.one (.ptr 0 0) .pt),.var (.int .i64) .pr] 8 (unds [.stat (.ref (.b 0 2) 0),.var (.int .i64) .pr,.var (.int .i64) .pr] 15 []),boxes:=nons [some [.var (.sl 7) .ro true,.var (.sl 1) .ro true,.var (.sl 1) (.own true) false,.var (.int .i64) .pr false]] 28 []}
def P74_0x:Pat:={tmps:=unds [] 28 [],boxes:=nons [some [.var (.sl 7) .ro true,.var (.sl 1) .ro true,.var (.sl 1) (.own true) false,.var (.int .i64) .pr false]] 28 []}
def P74_0r:Pat:={tmps:=unds [.undef,.undef,.undef,.undef,.var .bool .pr] 23 [],boxes:=nons [some [.var (.sl 7) .ro true,.var (.sl 1) .ro true,.var (.sl 1) (.own true) false,.var (.int .i64) .pr false]] 28 []}
def b74_0{R:Type}(G:ORC R)(k:Nat)(X:Int→Int→Int→LV→LV→LV→Int→OV R)(Ko:LV→LV→LV→Int→OV R)(Kr:Bool→LV→LV→LV→Int→OV R)(xi6 xi7 xi8:Int)(xl9 xl10 xl11:LV)(xi12:Int):OV R:=
 (bif(decide (xi8<xi7))then(bif((decide (0≤xi8))&&(decide (xi8<(xl11.length:Int))))then(nthK xl11 (Int.toNat xi8) fun e13=>V.asBool e13 fun b14=>bif b14 then(G 64 [.sl 7 xl9,.int .i64 xi8,.int .i64 xi6] fun o15=>uB o15 fun b17 r16=>unNil r16 (bif b17 then(Kr false xl9 xl10 xl11 xi12)else(X xi6 xi7 (IntKind.i64.wrap (xi8+1)) xl9 xl10 xl11 xi12)))else(X xi6 xi7 (IntKind.i64.wrap (xi8+1)) xl9 xl10 xl11 xi12))else none)else(Ko xl9 xl10 xl11 xi12))
def l74_0g{R:Type}(G:ORC R)(k:Nat)(Ko:LV→LV→LV→Int→OV R)(Kr:Bool→LV→LV→LV→Int→OV R):Nat→Int→Int→Int→LV→LV→LV→Int→OV R
 |0=>fun _ _ _ _ _ _ _=>none
 |j+1=>b74_0 G k (l74_0g G k Ko Kr j) Ko Kr
def l74_0{R:Type}(G:ORC R)(k:Nat)(xi6 xi7 xi8:Int)(xl9 xl10 xl11:LV)(xi12:Int)(Ko:LV→LV→LV→Int→OV R)(Kr:Bool→LV→LV→LV→Int→OV R):OV R:=l74_0g G k Ko Kr k xi6 xi7 xi8 xl9 xl10 xl11 xi12
def rd74_0{R:Type}(G:ORC R)(k:Nat)(K:Ex→St→OV R)(j:Nat)(vs:LV):OV R:=match vs with
 | [.int .i64 xi6,.int .i64 xi7,.int .i64 xi8,.sl 7 xl9,.sl 1 xl10,.sl 1 xl11,.int .i64 xi12]=>l74_0g G k (fun yl27 yl28 yl29 yi30=>K .normal (P74_0x.inst [.sl 7 yl27,.sl 1 yl28,.sl 1 yl29,.int .i64 yi30])) (fun yb31 yl32 yl33 yl34 yi35=>K .ret (P74_0r.inst [.bool yb31,.sl 7 yl32,.sl 1 yl33,.sl 1 yl34,.int .i64 yi35])) j xi6 xi7 xi8 xl9 xl10 xl11 xi12
 |_=>none
def L74{R:Type}(G:ORC R)(k:Nat):Nat→St→(Ex→St→OV R)→OV R
 |0,S,K=>P74_0h.mat S fun vs=>rd74_0 G k K k vs
 |_,_,_=>none
def f74{R:Type}(G:ORC R)(k:Nat)(ai1:Int)(bl2 bl3 bl4:LV)(bi5:Int)(K:LV→OV R):OV R:=
 (l74_0 G k ai1 (bl4.length:Int) 0 bl2 bl3 bl4 bi5 (fun yl18 yl19 yl20 yi21=>K [.bool true,.sl 1 yl20,.int .i64 yi21]) (fun yb22 yl23 yl24 yl25 yi26=>K [.bool yb22,.sl 1 yl25,.int .i64 yi26]))
noncomputable def D74_0:LoopD:={id:=0,body:=loopAt 0 (bodyOf Try.f74),head:=P74_0h,out:=P74_0x,ret:=P74_0r}
theorem l74_0_is{R:Type}(G:ORC R)(k:Nat)(X:LV→OV R)(K:Ex→St→OV R)(xi6 xi7 xi8:Int)(xl9 xl10 xl11:LV)(xi12:Int):
 roundOf (TAB.env 74) G (L74 G k) D74_0 X K [.int .i64 xi6,.int .i64 xi7,.int .i64 xi8,.sl 7 xl9,.sl 1 xl10,.sl 1 xl11,.int .i64 xi12]=b74_0 G k (fun xi6 xi7 xi8 xl9 xl10 xl11 xi12=>X [.int .i64 xi6,.int .i64 xi7,.int .i64 xi8,.sl 7 xl9,.sl 1 xl10,.sl 1 xl11,.int .i64 xi12]) (fun yl27 yl28 yl29 yi30=>K .normal (P74_0x.inst [.sl 7 yl27,.sl 1 yl28,.sl 1 yl29,.int .i64 yi30])) (fun yb31 yl32 yl33 yl34 yi35=>K .ret (P74_0r.inst [.bool yb31,.sl 7 yl32,.sl 1 yl33,.sl 1 yl34,.int .i64 yi35])) xi6 xi7 xi8 xl9 xl10 xl11 xi12:=by kernel_rfl
theorem f74_is{R:Type}(G:ORC R)(k:Nat)(K:LV→OV R)(ai1:Int)(bl2 bl3 bl4:LV)(bi5:Int):
 callF (TAB.env 74) G (L74 G k) Try.f74 S74 [.int .i64 ai1,.sl 7 bl2,.sl 1 bl3,.sl 1 bl4,.int .i64 bi5] K=f74 G k ai1 bl2 bl3 bl4 bi5 K:=by kernel_rfl
theorem li74_0{R:Type}(G:ORC R)(k:Nat):LoopIs (TAB.env 74) G (L74 G k) 0 (loopAt 0 (bodyOf Try.f74)):=
 ⟨D74_0,fun j vs K=>rd74_0 G k K j vs,k,rfl,rfl,by kernel_rfl,by kernel_rfl,by kernel_rfl,(fun vs K=>by unfold rd74_0;dsimp only;split<;>rfl),
   (fun j vs K r h=>by
     unfold rd74_0 at h
     dsimp only at h
     split at h
     ·rw[l74_0_is];exact h
     ·cases h),(fun S K r h=>h)⟩
theorem lo74:loopsOf (bodyOf Try.f74)=[(0,loopAt 0 (bodyOf Try.f74))]:=by kernel_rfl
theorem la74{R:Type}(G:ORC R)(k:Nat):LoopsAre (TAB.env 74) G (L74 G k) (bodyOf Try.f74):=
 loopsAre_of (by rw[lo74];intro p hp;simp only[List.mem_cons,List.not_mem_nil,or_false]at hp;subst hp;exact li74_0 G k)
def g74{R:Type}(G:ORC R)(k:Nat)(args:LV)(K:LV→OV R):OV R:=match args with
 | [.int .i64 ai1,.sl 7 bl2,.sl 1 bl3,.sl 1 bl4,.int .i64 bi5]=>f74 G k ai1 bl2 bl3 bl4 bi5 K
 |_=>none
theorem s74{R:Type}{G:ORC R}{k:Nat}(hG:Sound Try.prog TAB G)(args:LV)(K:LV→OV R)(r:R)(h:g74 G k args K=some r):∃o,CallOK Try.prog TAB.env 74 args o∧K o=some r:=by
 unfold g74 at h
 split at h
 ·rw[←f74_is]at h
  exact callF_sound (f:=74) TAB_chk MO hG Try.func74 (sg:=S74) (by kernel_rfl) (by kernel_rfl) (la74 G k) h
 ·cases h
def P60_0h:Pat:={tmps:=unds [.stat (.one (.ptr 0 0) .pt)] 19 (unds [.var (.sl 1) .ro,.var (.int .i64) .pr,.var (.int .i64) .pr] 10 []),boxes:=nons [some [.var (.sl 7) .ro true,.var (.sl 1) .ro true,.var (.sl 1) (.own true) false,.var (.int .i64) .pr false]] 33 []}
def P60_0x:Pat:={tmps:=unds [] 33 [],boxes:=nons [some [.var (.sl 7) .ro true,.var (.sl 1) .ro true,.var (.sl 1) (.own true) false,.var (.int .i64) .pr false]] 33 []}
def b60_0{R:Type}(G:ORC R)(k:Nat)(X:LV→Int→Int→LV→LV→LV→Int→OV R)(Ko:LV→LV→LV→Int→OV R)(xl18:LV)(xi19 xi20:Int)(xl21 xl22 xl23:LV)(xi24:Int):OV R:=
 (bif(decide (xi20<xi19))then(bif((decide (0≤xi20))&&(decide (xi20<(xl18.length:Int))))then(nthK xl18 (Int.toNat xi20) fun e25=>aI .i64 e25 fun n26=>G 74 [.int .i64 n26,.sl 7 xl21,.sl 1 xl22,.sl 1 xl23,.int .i64 xi24] fun o27=>uB o27 fun b29 r28=>uL 1 r28 fun l31 r30=>uI .i64 r30 fun n33 r32=>unNil r32 (bif b29 then(G 32 [.int .i64 n26,.sl 7 xl21,.sl 1 xl22,.sl 1 l31,.int .i64 n33] fun o34=>uL 1 o34 fun l36 r35=>uI .i64 r35 fun n38 r37=>unNil r37 (X xl18 xi19 (IntKind.i64.wrap (xi20+1)) xl21 xl22 l36 n38))else(X xl18 xi19 (IntKind.i64.wrap (xi20+1)) xl21 xl22 l31 n33)))else none)else(Ko xl21 xl22 xl23 xi24))
def l60_0g{R:Type}(G:ORC R)(k:Nat)(Ko:LV→LV→LV→Int→OV R):Nat→LV→Int→Int→LV→LV→LV→Int→OV R
 |0=>fun _ _ _ _ _ _ _=>none
 |j+1=>b60_0 G k (l60_0g G k Ko j) Ko
def l60_0{R:Type}(G:ORC R)(k:Nat)(xl18:LV)(xi19 xi20:Int)(xl21 xl22 xl23:LV)(xi24:Int)(Ko:LV→LV→LV→Int→OV R):OV R:=l60_0g G k Ko k xl18 xi19 xi20 xl21 xl22 xl23 xi24
def rd60_0{R:Type}(G:ORC R)(k:Nat)(K:Ex→St→OV R)(j:Nat)(vs:LV):OV R:=match vs with
 | [.sl 1 xl18,.int .i64 xi19,.int .i64 xi20,.sl 7 xl21,.sl 1 xl22,.sl 1 xl23,.int .i64 xi24]=>l60_0g G k (fun yl43 yl44 yl45 yi46=>K .normal (P60_0x.inst [.sl 7 yl43,.sl 1 yl44,.sl 1 yl45,.int .i64 yi46])) j xl18 xi19 xi20 xl21 xl22 xl23 xi24
 |_=>none
def L60{R:Type}(G:ORC R)(k:Nat):Nat→St→(Ex→St→OV R)→OV R
 |0,S,K=>P60_0h.mat S fun vs=>rd60_0 G k K k vs
 |_,_,_=>none
def f60{R:Type}(G:ORC R)(k:Nat)(ai1:Int)(bl2 bl3 bl4:LV)(bi5:Int)(K:LV→OV R):OV R:=
 (bif((decide (0≤ai1))&&(decide (ai1<(bl2.length:Int))))then(nthK bl2 (Int.toNat ai1) fun e6=>ca7 e6 fun c7 c8 c9 c10 c11 c12 c13=>aI .i64 c7 fun n14=>bif(n14 !=3)then(K [.sl 1 bl4,.int .i64 bi5])else(G 61 [.sl 7 bl2,.int .i64 ai1] fun o15=>uL 1 o15 fun l17 r16=>unNil r16 (l60_0 G k l17 (l17.length:Int) 0 bl2 bl3 bl4 bi5 (fun yl39 yl40 yl41 yi42=>K [.sl 1 yl41,.int .i64 yi42]))))else none)
noncomputable def D60_0:LoopD:={id:=0,body:=loopAt 0 (bodyOf Try.f60),head:=P60_0h,out:=P60_0x,ret:=default}
theorem l60_0_is{R:Type}(G:ORC R)(k:Nat)(X:LV→OV R)(K:Ex→St→OV R)(xl18:LV)(xi19 xi20:Int)(xl21 xl22 xl23:LV)(xi24:Int):
 roundOf (TAB.env 60) G (L60 G k) D60_0 X K [.sl 1 xl18,.int .i64 xi19,.int .i64 xi20,.sl 7 xl21,.sl 1 xl22,.sl 1 xl23,.int .i64 xi24]=b60_0 G k (fun xl18 xi19 xi20 xl21 xl22 xl23 xi24=>X [.sl 1 xl18,.int .i64 xi19,.int .i64 xi20,.sl 7 xl21,.sl 1 xl22,.sl 1 xl23,.int .i64 xi24]) (fun yl43 yl44 yl45 yi46=>K .normal (P60_0x.inst [.sl 7 yl43,.sl 1 yl44,.sl 1 yl45,.int .i64 yi46])) xl18 xi19 xi20 xl21 xl22 xl23 xi24:=by kernel_rfl
theorem f60_is{R:Type}(G:ORC R)(k:Nat)(K:LV→OV R)(ai1:Int)(bl2 bl3 bl4:LV)(bi5:Int):
 callF (TAB.env 60) G (L60 G k) Try.f60 S60 [.int .i64 ai1,.sl 7 bl2,.sl 1 bl3,.sl 1 bl4,.int .i64 bi5] K=f60 G k ai1 bl2 bl3 bl4 bi5 K:=by kernel_rfl
theorem li60_0{R:Type}(G:ORC R)(k:Nat):LoopIs (TAB.env 60) G (L60 G k) 0 (loopAt 0 (bodyOf Try.f60)):=
 ⟨D60_0,fun j vs K=>rd60_0 G k K j vs,k,rfl,rfl,by kernel_rfl,by kernel_rfl,by kernel_rfl,(fun vs K=>by unfold rd60_0;dsimp only;split<;>rfl),
   (fun j vs K r h=>by
     unfold rd60_0 at h
     dsimp only at h
     split at h
     ·rw[l60_0_is];exact h
     ·cases h),(fun S K r h=>h)⟩
theorem lo60:loopsOf (bodyOf Try.f60)=[(0,loopAt 0 (bodyOf Try.f60))]:=by kernel_rfl
theorem la60{R:Type}(G:ORC R)(k:Nat):LoopsAre (TAB.env 60) G (L60 G k) (bodyOf Try.f60):=
 loopsAre_of (by rw[lo60];intro p hp;simp only[List.mem_cons,List.not_mem_nil,or_false]at hp;subst hp;exact li60_0 G k)
def g60{R:Type}(G:ORC R)(k:Nat)(args:LV)(K:LV→OV R):OV R:=match args with
 | [.int .i64 ai1,.sl 7 bl2,.sl 1 bl3,.sl 1 bl4,.int .i64 bi5]=>f60 G k ai1 bl2 bl3 bl4 bi5 K
 |_=>none
theorem s60{R:Type}{G:ORC R}{k:Nat}(hG:Sound Try.prog TAB G)(args:LV)(K:LV→OV R)(r:R)(h:g60 G k args K=some r):∃o,CallOK Try.prog TAB.env 60 args o∧K o=some r:=by
 unfold g60 at h
 split at h
 ·rw[←f60_is]at h
  exact callF_sound (f:=60) TAB_chk MO hG Try.func60 (sg:=S60) (by kernel_rfl) (by kernel_rfl) (la60 G k) h
 ·cases h
def P32_0h:Pat:={tmps:=unds [.stat (.one (.ptr 0 0) .pt),.var (.int .i64) .pr,.undef,.undef,.var (.sl 1) .ro] 27 (unds [.var (.sl 1) .ro,.var (.int .i64) .pr,.var (.int .i64) .pr] 53 []),boxes:=nons [some [.var (.sl 7) .ro true,.var (.sl 1) .ro true,.var (.sl 1) (.own true) false,.var (.int .i64) .pr false]] 88 []}
def P32_0x:Pat:={tmps:=unds [.stat (.one (.ptr 0 0) .pt),.var (.int .i64) .pr,.undef,.undef,.var (.sl 1) .ro] 83 [],boxes:=nons [some [.var (.sl 7) .ro true,.var (.sl 1) .ro true,.var (.sl 1) (.own true) false,.var (.int .i64) .pr false]] 88 []}
def b32_0{R:Type}(G:ORC R)(k:Nat)(X:Int→LV→LV→Int→Int→LV→LV→LV→Int→OV R)(Ko:Int→LV→LV→LV→LV→Int→OV R)(xi28:Int)(xl29 xl30:LV)(xi31 xi32:Int)(xl33 xl34 xl35:LV)(xi36:Int):OV R:=
 (bif(decide (xi32<xi31))then(bif((decide (0≤xi32))&&(decide (xi32<(xl30.length:Int))))then(nthK xl30 (Int.toNat xi32) fun e37=>aI .i64 e37 fun n38=>G 32 [.int .i64 n38,.sl 7 xl33,.sl 1 xl34,.sl 1 xl35,.int .i64 xi36] fun o39=>uL 1 o39 fun l41 r40=>uI .i64 r40 fun n43 r42=>unNil r42 (X xi28 xl29 xl30 xi31 (IntKind.i64.wrap (xi32+1)) xl33 xl34 l41 n43))else none)else(Ko xi28 xl29 xl33 xl34 xl35 xi36))
def l32_0g{R:Type}(G:ORC R)(k:Nat)(Ko:Int→LV→LV→LV→LV→Int→OV R):Nat→Int→LV→LV→Int→Int→LV→LV→LV→Int→OV R
 |0=>fun _ _ _ _ _ _ _ _ _=>none
 |j+1=>b32_0 G k (l32_0g G k Ko j) Ko
def l32_0{R:Type}(G:ORC R)(k:Nat)(xi28:Int)(xl29 xl30:LV)(xi31 xi32:Int)(xl33 xl34 xl35:LV)(xi36:Int)(Ko:Int→LV→LV→LV→LV→Int→OV R):OV R:=l32_0g G k Ko k xi28 xl29 xl30 xi31 xi32 xl33 xl34 xl35 xi36
def P32_2h:Pat:={tmps:=unds [.stat (.one (.ptr 0 0) .pt),.var (.int .i64) .pr] 40 (unds [.var (.sl 1) .ro,.var (.int .i64) .pr,.var (.int .i64) .pr] 43 []),boxes:=nons [some [.var (.sl 7) .ro true,.var (.sl 1) .ro true,.var (.sl 1) (.own true) false,.var (.int .i64) .pr false]] 88 []}
def P32_2x:Pat:={tmps:=unds [] 88 [],boxes:=nons [some [.var (.sl 7) .ro true,.var (.sl 1) .ro true,.var (.sl 1) (.own true) false,.var (.int .i64) .pr false]] 88 []}
def b32_2{R:Type}(G:ORC R)(k:Nat)(X:Int→LV→Int→Int→LV→LV→LV→Int→OV R)(Ko:LV→LV→LV→Int→OV R)(xi50:Int)(xl51:LV)(xi52 xi53:Int)(xl54 xl55 xl56:LV)(xi57:Int):OV R:=
 (bif(decide (xi53<xi52))then(bif((decide (0≤xi53))&&(decide (xi53<(xl51.length:Int))))then(nthK xl51 (Int.toNat xi53) fun e58=>aI .i64 e58 fun n59=>bif((decide (0≤xi50))&&(decide (xi50<(xl54.length:Int))))then(nthK xl54 (Int.toNat xi50) fun e60=>ca7 e60 fun c61 c62 c63 c64 c65 c66 c67=>aI .i64 c62 fun n68=>G 34 [.int .i64 n59,.int .i64 n68,.sl 7 xl54,.sl 1 xl55,.sl 1 xl56,.int .i64 xi57] fun o69=>uL 1 o69 fun l71 r70=>uI .i64 r70 fun n73 r72=>unNil r72 (X xi50 xl51 xi52 (IntKind.i64.wrap (xi53+1)) xl54 xl55 l71 n73))else none)else none)else(Ko xl54 xl55 xl56 xi57))
def l32_2g{R:Type}(G:ORC R)(k:Nat)(Ko:LV→LV→LV→Int→OV R):Nat→Int→LV→Int→Int→LV→LV→LV→Int→OV R
 |0=>fun _ _ _ _ _ _ _ _=>none
 |j+1=>b32_2 G k (l32_2g G k Ko j) Ko
def l32_2{R:Type}(G:ORC R)(k:Nat)(xi50:Int)(xl51:LV)(xi52 xi53:Int)(xl54 xl55 xl56:LV)(xi57:Int)(Ko:LV→LV→LV→Int→OV R):OV R:=l32_2g G k Ko k xi50 xl51 xi52 xi53 xl54 xl55 xl56 xi57
def rd32_0{R:Type}(G:ORC R)(k:Nat)(K:Ex→St→OV R)(j:Nat)(vs:LV):OV R:=match vs with
 | [.int .i64 xi28,.sl 1 xl29,.sl 1 xl30,.int .i64 xi31,.int .i64 xi32,.sl 7 xl33,.sl 1 xl34,.sl 1 xl35,.int .i64 xi36]=>l32_0g G k (fun yi112 yl113 yl114 yl115 yl116 yi117=>K .normal (P32_0x.inst [.int .i64 yi112,.sl 1 yl113,.sl 7 yl114,.sl 1 yl115,.sl 1 yl116,.int .i64 yi117])) j xi28 xl29 xl30 xi31 xi32 xl33 xl34 xl35 xi36
 |_=>none
def rd32_2{R:Type}(G:ORC R)(k:Nat)(K:Ex→St→OV R)(j:Nat)(vs:LV):OV R:=match vs with
 | [.int .i64 xi50,.sl 1 xl51,.int .i64 xi52,.int .i64 xi53,.sl 7 xl54,.sl 1 xl55,.sl 1 xl56,.int .i64 xi57]=>l32_2g G k (fun yl118 yl119 yl120 yi121=>K .normal (P32_2x.inst [.sl 7 yl118,.sl 1 yl119,.sl 1 yl120,.int .i64 yi121])) j xi50 xl51 xi52 xi53 xl54 xl55 xl56 xi57
 |_=>none
def L32{R:Type}(G:ORC R)(k:Nat):Nat→St→(Ex→St→OV R)→OV R
 |0,S,K=>P32_0h.mat S fun vs=>rd32_0 G k K k vs
 |2,S,K=>P32_2h.mat S fun vs=>rd32_2 G k K k vs
 |_,_,_=>none
def f32{R:Type}(G:ORC R)(k:Nat)(ai1:Int)(bl2 bl3 bl4:LV)(bi5:Int)(K:LV→OV R):OV R:=
 (G 31 [.sl 7 bl2,.int .i64 ai1] fun o6=>uB o6 fun b8 r7=>unNil r7 (bif(!b8)then(K [.sl 1 bl4,.int .i64 bi5])else(G 59 [.sl 7 bl2,.sl 1 bl3,.sl 1 bl4,.int .i64 bi5] fun o9=>uB o9 fun b11 r10=>uL 1 r10 fun l13 r12=>uI .i64 r12 fun n15 r14=>unNil r14 (bif(!b11)then(K [.sl 1 l13,.int .i64 n15])else(bif((decide (0≤ai1))&&(decide (ai1<(bl2.length:Int))))then(nthK bl2 (Int.toNat ai1) fun e16=>V.asAgg e16 fun l17=>G 43 [.agg l17] fun o18=>uB o18 fun b20 r19=>unNil r19 (bif b20 then(G 33 [.int .i64 ai1,.sl 7 bl2,.sl 1 bl3,.sl 1 l13,.int .i64 n15] fun o21=>uL 1 o21 fun l23 r22=>uL 1 r22 fun l25 r24=>uI .i64 r24 fun n27 r26=>unNil r26 (l32_0 G k ai1 l23 l23 (l23.length:Int) 0 bl2 bl3 l25 n27 (fun yi44 yl45 yl46 yl47 yl48 yi49=>l32_2 G k yi44 yl45 (yl45.length:Int) 0 yl46 yl47 yl48 yi49 (fun yl74 yl75 yl76 yi77=>K [.sl 1 yl76,.int .i64 yi77]))))else(bif((decide (0≤ai1))&&(decide (ai1<(l13.length:Int))))then(nthK l13 (Int.toNat ai1) fun e78=>bif((decide (0≤ai1))&&(decide (ai1<(bl2.length:Int))))then(nthK bl2 (Int.toNat ai1) fun e79=>ca7 e79 fun c80 c81 c82 c83 c84 c85 c86=>aI .i64 c80 fun n87=>bif(n87==2)then(bif((decide (0≤ai1))&&(decide (ai1<(bl2.length:Int))))then(nthK bl2 (Int.toNat ai1) fun e88=>ca7 e88 fun c89 c90 c91 c92 c93 c94 c95=>aI .i64 c92 fun n96=>G 32 [.int .i64 n96,.sl 7 bl2,.sl 1 bl3,.sl 1 (List.set l13 (Int.toNat ai1) (.bool true)),.int .i64 n15] fun o97=>uL 1 o97 fun l99 r98=>uI .i64 r98 fun n101 r100=>unNil r100 (G 60 [.int .i64 ai1,.sl 7 bl2,.sl 1 bl3,.sl 1 l99,.int .i64 n101] fun o102=>uL 1 o102 fun l104 r103=>uI .i64 r103 fun n106 r105=>unNil r105 (K [.sl 1 l104,.int .i64 n106])))else none)else(G 60 [.int .i64 ai1,.sl 7 bl2,.sl 1 bl3,.sl 1 (List.set l13 (Int.toNat ai1) (.bool true)),.int .i64 n15] fun o107=>uL 1 o107 fun l109 r108=>uI .i64 r108 fun n111 r110=>unNil r110 (K [.sl 1 l109,.int .i64 n111])))else none)else none)))else none)))))
noncomputable def D32_0:LoopD:={id:=0,body:=loopAt 0 (bodyOf Try.f32),head:=P32_0h,out:=P32_0x,ret:=default}
theorem l32_0_is{R:Type}(G:ORC R)(k:Nat)(X:LV→OV R)(K:Ex→St→OV R)(xi28:Int)(xl29 xl30:LV)(xi31 xi32:Int)(xl33 xl34 xl35:LV)(xi36:Int):
 roundOf (TAB.env 32) G (L32 G k) D32_0 X K [.int .i64 xi28,.sl 1 xl29,.sl 1 xl30,.int .i64 xi31,.int .i64 xi32,.sl 7 xl33,.sl 1 xl34,.sl 1 xl35,.int .i64 xi36]=b32_0 G k (fun xi28 xl29 xl30 xi31 xi32 xl33 xl34 xl35 xi36=>X [.int .i64 xi28,.sl 1 xl29,.sl 1 xl30,.int .i64 xi31,.int .i64 xi32,.sl 7 xl33,.sl 1 xl34,.sl 1 xl35,.int .i64 xi36]) (fun yi112 yl113 yl114 yl115 yl116 yi117=>K .normal (P32_0x.inst [.int .i64 yi112,.sl 1 yl113,.sl 7 yl114,.sl 1 yl115,.sl 1 yl116,.int .i64 yi117])) xi28 xl29 xl30 xi31 xi32 xl33 xl34 xl35 xi36:=by kernel_rfl
noncomputable def D32_2:LoopD:={id:=2,body:=loopAt 2 (bodyOf Try.f32),head:=P32_2h,out:=P32_2x,ret:=default}
theorem l32_2_is{R:Type}(G:ORC R)(k:Nat)(X:LV→OV R)(K:Ex→St→OV R)(xi50:Int)(xl51:LV)(xi52 xi53:Int)(xl54 xl55 xl56:LV)(xi57:Int):
 roundOf (TAB.env 32) G (L32 G k) D32_2 X K [.int .i64 xi50,.sl 1 xl51,.int .i64 xi52,.int .i64 xi53,.sl 7 xl54,.sl 1 xl55,.sl 1 xl56,.int .i64 xi57]=b32_2 G k (fun xi50 xl51 xi52 xi53 xl54 xl55 xl56 xi57=>X [.int .i64 xi50,.sl 1 xl51,.int .i64 xi52,.int .i64 xi53,.sl 7 xl54,.sl 1 xl55,.sl 1 xl56,.int .i64 xi57]) (fun yl118 yl119 yl120 yi121=>K .normal (P32_2x.inst [.sl 7 yl118,.sl 1 yl119,.sl 1 yl120,.int .i64 yi121])) xi50 xl51 xi52 xi53 xl54 xl55 xl56 xi57:=by kernel_rfl
theorem f32_is{R:Type}(G:ORC R)(k:Nat)(K:LV→OV R)(ai1:Int)(bl2 bl3 bl4:LV)(bi5:Int):
 callF (TAB.env 32) G (L32 G k) Try.f32 S32 [.int .i64 ai1,.sl 7 bl2,.sl 1 bl3,.sl 1 bl4,.int .i64 bi5] K=f32 G k ai1 bl2 bl3 bl4 bi5 K:=by kernel_rfl
theorem li32_0{R:Type}(G:ORC R)(k:Nat):LoopIs (TAB.env 32) G (L32 G k) 0 (loopAt 0 (bodyOf Try.f32)):=
 ⟨D32_0,fun j vs K=>rd32_0 G k K j vs,k,rfl,rfl,by kernel_rfl,by kernel_rfl,by kernel_rfl,(fun vs K=>by unfold rd32_0;dsimp only;split<;>rfl),
   (fun j vs K r h=>by
     unfold rd32_0 at h
     dsimp only at h
     split at h
     ·rw[l32_0_is];exact h
     ·cases h),(fun S K r h=>h)⟩
theorem li32_2{R:Type}(G:ORC R)(k:Nat):LoopIs (TAB.env 32) G (L32 G k) 2 (loopAt 2 (bodyOf Try.f32)):=
 ⟨D32_2,fun j vs K=>rd32_2 G k K j vs,k,rfl,rfl,by kernel_rfl,by kernel_rfl,by kernel_rfl,(fun vs K=>by unfold rd32_2;dsimp only;split<;>rfl),
   (fun j vs K r h=>by
     unfold rd32_2 at h
     dsimp only at h
     split at h
     ·rw[l32_2_is];exact h
     ·cases h),(fun S K r h=>h)⟩
theorem lo32:loopsOf (bodyOf Try.f32)=[(0,loopAt 0 (bodyOf Try.f32)),(2,loopAt 2 (bodyOf Try.f32))]:=by kernel_rfl
theorem la32{R:Type}(G:ORC R)(k:Nat):LoopsAre (TAB.env 32) G (L32 G k) (bodyOf Try.f32):=
 loopsAre_of (by rw[lo32];intro p hp;simp only[List.mem_cons,List.not_mem_nil,or_false]at hp;rcases hp with rfl|rfl<;>first|exact li32_0 G k|exact li32_2 G k)
def g32{R:Type}(G:ORC R)(k:Nat)(args:LV)(K:LV→OV R):OV R:=match args with
 | [.int .i64 ai1,.sl 7 bl2,.sl 1 bl3,.sl 1 bl4,.int .i64 bi5]=>f32 G k ai1 bl2 bl3 bl4 bi5 K
 |_=>none
theorem s32{R:Type}{G:ORC R}{k:Nat}(hG:Sound Try.prog TAB G)(args:LV)(K:LV→OV R)(r:R)(h:g32 G k args K=some r):∃o,CallOK Try.prog TAB.env 32 args o∧K o=some r:=by
 unfold g32 at h
 split at h
 ·rw[←f32_is]at h
  exact callF_sound (f:=32) TAB_chk MO hG Try.func32 (sg:=S32) (by kernel_rfl) (by kernel_rfl) (la32 G k) h
 ·cases h
def L33{R:Type}(_:ORC R)(_:Nat):Nat→St→(Ex→St→OV R)→OV R:=fun _ _ _=>none
def f33{R:Type}(G:ORC R)(k:Nat)(ai1:Int)(bl2 bl3 bl4:LV)(bi5:Int)(K:LV→OV R):OV R:=
 (bif((decide (0≤ai1))&&(decide (ai1<(bl2.length:Int))))then(nthK bl2 (Int.toNat ai1) fun e6=>V.asAgg e6 fun l7=>G 43 [.agg l7] fun o8=>uB o8 fun b10 r9=>unNil r9 (bif(!b10)then(K [.sl 1 [.int .i64 ai1],.sl 1 bl4,.int .i64 bi5])else(bif(decide (ai1<(bl3.length:Int)))then(bif((decide (0≤ai1))&&(decide (ai1<(bl3.length:Int))))then(nthK bl3 (Int.toNat ai1) fun e11=>V.asSl e11 fun z12 l13=>bif(decide ((l13.length:Int)>0))then(bif((decide (0≤ai1))&&(decide (ai1<(bl3.length:Int))))then(nthK bl3 (Int.toNat ai1) fun e14=>V.asSl e14 fun z15 l16=>K [.sl z15 l16,.sl 1 bl4,.int .i64 bi5])else none)else(bif((decide (0≤ai1))&&(decide (ai1<(bl2.length:Int))))then(nthK bl2 (Int.toNat ai1) fun e17=>ca7 e17 fun c18 c19 c20 c21 c22 c23 c24=>aI .i64 c19 fun n25=>G 31 [.sl 7 bl2,.int .i64 n25] fun o26=>uB o26 fun b28 r27=>unNil r27 (bif(!b28)then(K [.sl 1 [],.sl 1 bl4,.int .i64 bi5])else(bif((decide (0≤n25))&&(decide (n25<(bl2.length:Int))))then(nthK bl2 (Int.toNat n25) fun e29=>ca7 e29 fun c30 c31 c32 c33 c34 c35 c36=>aI .i64 c30 fun n37=>bif(n37==2)then(bif((decide (0≤n25))&&(decide (n25<(bl2.length:Int))))then(nthK bl2 (Int.toNat n25) fun e38=>ca7 e38 fun c39 c40 c41 c42 c43 c44 c45=>aI .i64 c42 fun n46=>K [.sl 1 [.int .i64 n46],.sl 1 bl4,.int .i64 bi5])else none)else(G 61 [.sl 7 bl2,.int .i64 n25] fun o47=>uL 1 o47 fun l49 r48=>unNil r48 (K [.sl 1 l49,.sl 1 bl4,.int .i64 bi5])))else none)))else none))else none)else(bif((decide (0≤ai1))&&(decide (ai1<(bl2.length:Int))))then(nthK bl2 (Int.toNat ai1) fun e50=>ca7 e50 fun c51 c52 c53 c54 c55 c56 c57=>aI .i64 c52 fun n58=>G 31 [.sl 7 bl2,.int .i64 n58] fun o59=>uB o59 fun b61 r60=>unNil r60 (bif(!b61)then(K [.sl 1 [],.sl 1 bl4,.int .i64 bi5])else(bif((decide (0≤n58))&&(decide (n58<(bl2.length:Int))))then(nthK bl2 (Int.toNat n58) fun e62=>ca7 e62 fun c63 c64 c65 c66 c67 c68 c69=>aI .i64 c63 fun n70=>bif(n70==2)then(bif((decide (0≤n58))&&(decide (n58<(bl2.length:Int))))then(nthK bl2 (Int.toNat n58) fun e71=>ca7 e71 fun c72 c73 c74 c75 c76 c77 c78=>aI .i64 c75 fun n79=>K [.sl 1 [.int .i64 n79],.sl 1 bl4,.int .i64 bi5])else none)else(G 61 [.sl 7 bl2,.int .i64 n58] fun o80=>uL 1 o80 fun l82 r81=>unNil r81 (K [.sl 1 l82,.sl 1 bl4,.int .i64 bi5])))else none)))else none))))else none)
theorem f33_is{R:Type}(G:ORC R)(k:Nat)(K:LV→OV R)(ai1:Int)(bl2 bl3 bl4:LV)(bi5:Int):
 callF (TAB.env 33) G (L33 G k) Try.f33 S33 [.int .i64 ai1,.sl 7 bl2,.sl 1 bl3,.sl 1 bl4,.int .i64 bi5] K=f33 G k ai1 bl2 bl3 bl4 bi5 K:=by kernel_rfl
theorem lo33:loopsOf (bodyOf Try.f33)=[]:=by kernel_rfl
theorem la33{R:Type}(G:ORC R)(k:Nat):LoopsAre (TAB.env 33) G (L33 G k) (bodyOf Try.f33):=
 loopsAre_of (by rw[lo33];intro p hp;cases hp)
def g33{R:Type}(G:ORC R)(k:Nat)(args:LV)(K:LV→OV R):OV R:=match args with
 | [.int .i64 ai1,.sl 7 bl2,.sl 1 bl3,.sl 1 bl4,.int .i64 bi5]=>f33 G k ai1 bl2 bl3 bl4 bi5 K
 |_=>none
theorem s33{R:Type}{G:ORC R}{k:Nat}(hG:Sound Try.prog TAB G)(args:LV)(K:LV→OV R)(r:R)(h:g33 G k args K=some r):∃o,CallOK Try.prog TAB.env 33 args o∧K o=some r:=by
 unfold g33 at h
 split at h
 ·rw[←f33_is]at h
  exact callF_sound (f:=33) TAB_chk MO hG Try.func33 (sg:=S33) (by kernel_rfl) (by kernel_rfl) (la33 G k) h
 ·cases h
def P34_0h:Pat:={tmps:=unds [.stat (.one (.ptr 0 0) .pt),.var (.int .i64) .pr,.var (.int .i64) .pr,.undef,.undef,.undef,.var (.int .i64) .pr] 44 [],boxes:=nons [some [.var (.sl 7) .ro true,.var (.sl 1) .ro true,.var (.sl 1) (.own true) false,.var (.int .i64) .pr false]] 51 []}
def P34_0x:Pat:={tmps:=unds [] 51 [],boxes:=nons [some [.var (.sl 7) .ro true,.var (.sl 1) .ro true,.var (.sl 1) (.own true) false,.var (.int .i64) .pr false]] 51 []}
def b34_0{R:Type}(G:ORC R)(k:Nat)(X:Int→Int→Int→LV→LV→LV→Int→OV R)(Ko:LV→LV→LV→Int→OV R)(xi7 xi8 xi9:Int)(xl10 xl11 xl12:LV)(xi13:Int):OV R:=
 (bif(decide (xi9>xi8))then(G 31 [.sl 7 xl10,.int .i64 xi9] fun o14=>uB o14 fun b16 r15=>unNil r15 (bif b16 then(G 46 [.sl 7 xl10,.int .i64 xi7,.int .i64 xi9] fun o17=>uB o17 fun b19 r18=>unNil r18 (bif b19 then(G 46 [.sl 7 xl10,.int .i64 xi9,.int .i64 xi8] fun o20=>uB o20 fun b22 r21=>unNil r21 (bif b22 then(G 59 [.sl 7 xl10,.sl 1 xl11,.sl 1 xl12,.int .i64 xi13] fun o23=>uB o23 fun b25 r24=>uL 1 r24 fun l27 r26=>uI .i64 r26 fun n29 r28=>unNil r28 (bif b25 then(bif((decide (0≤xi9))&&(decide (xi9<(l27.length:Int))))then(nthK l27 (Int.toNat xi9) fun e30=>G 60 [.int .i64 xi9,.sl 7 xl10,.sl 1 xl11,.sl 1 (List.set l27 (Int.toNat xi9) (.bool true)),.int .i64 n29] fun o31=>uL 1 o31 fun l33 r32=>uI .i64 r32 fun n35 r34=>unNil r34 (X xi7 xi8 (IntKind.i64.wrap (xi9-1)) xl10 xl11 l33 n35))else none)else(X xi7 xi8 (IntKind.i64.wrap (xi9-1)) xl10 xl11 l27 n29)))else(X xi7 xi8 (IntKind.i64.wrap (xi9-1)) xl10 xl11 xl12 xi13)))else(X xi7 xi8 (IntKind.i64.wrap (xi9-1)) xl10 xl11 xl12 xi13)))else(X xi7 xi8 (IntKind.i64.wrap (xi9-1)) xl10 xl11 xl12 xi13)))else(Ko xl10 xl11 xl12 xi13))
def l34_0g{R:Type}(G:ORC R)(k:Nat)(Ko:LV→LV→LV→Int→OV R):Nat→Int→Int→Int→LV→LV→LV→Int→OV R
 |0=>fun _ _ _ _ _ _ _=>none
 |j+1=>b34_0 G k (l34_0g G k Ko j) Ko
def l34_0{R:Type}(G:ORC R)(k:Nat)(xi7 xi8 xi9:Int)(xl10 xl11 xl12:LV)(xi13:Int)(Ko:LV→LV→LV→Int→OV R):OV R:=l34_0g G k Ko k xi7 xi8 xi9 xl10 xl11 xl12 xi13
def rd34_0{R:Type}(G:ORC R)(k:Nat)(K:Ex→St→OV R)(j:Nat)(vs:LV):OV R:=match vs with
 | [.int .i64 xi7,.int .i64 xi8,.int .i64 xi9,.sl 7 xl10,.sl 1 xl11,.sl 1 xl12,.int .i64 xi13]=>l34_0g G k (fun yl40 yl41 yl42 yi43=>K .normal (P34_0x.inst [.sl 7 yl40,.sl 1 yl41,.sl 1 yl42,.int .i64 yi43])) j xi7 xi8 xi9 xl10 xl11 xl12 xi13
 |_=>none
def L34{R:Type}(G:ORC R)(k:Nat):Nat→St→(Ex→St→OV R)→OV R
 |0,S,K=>P34_0h.mat S fun vs=>rd34_0 G k K k vs
 |_,_,_=>none
def f34{R:Type}(G:ORC R)(k:Nat)(ai1 ai2:Int)(bl3 bl4 bl5:LV)(bi6:Int)(K:LV→OV R):OV R:=
 (l34_0 G k ai1 ai2 (IntKind.i64.wrap (ai1-1)) bl3 bl4 bl5 bi6 (fun yl36 yl37 yl38 yi39=>K [.sl 1 yl38,.int .i64 yi39]))
noncomputable def D34_0:LoopD:={id:=0,body:=loopAt 0 (bodyOf Try.f34),head:=P34_0h,out:=P34_0x,ret:=default}
theorem l34_0_is{R:Type}(G:ORC R)(k:Nat)(X:LV→OV R)(K:Ex→St→OV R)(xi7 xi8 xi9:Int)(xl10 xl11 xl12:LV)(xi13:Int):
 roundOf (TAB.env 34) G (L34 G k) D34_0 X K [.int .i64 xi7,.int .i64 xi8,.int .i64 xi9,.sl 7 xl10,.sl 1 xl11,.sl 1 xl12,.int .i64 xi13]=b34_0 G k (fun xi7 xi8 xi9 xl10 xl11 xl12 xi13=>X [.int .i64 xi7,.int .i64 xi8,.int .i64 xi9,.sl 7 xl10,.sl 1 xl11,.sl 1 xl12,.int .i64 xi13]) (fun yl40 yl41 yl42 yi43=>K .normal (P34_0x.inst [.sl 7 yl40,.sl 1 yl41,.sl 1 yl42,.int .i64 yi43])) xi7 xi8 xi9 xl10 xl11 xl12 xi13:=by kernel_rfl
theorem f34_is{R:Type}(G:ORC R)(k:Nat)(K:LV→OV R)(ai1 ai2:Int)(bl3 bl4 bl5:LV)(bi6:Int):
 callF (TAB.env 34) G (L34 G k) Try.f34 S34 [.int .i64 ai1,.int .i64 ai2,.sl 7 bl3,.sl 1 bl4,.sl 1 bl5,.int .i64 bi6] K=f34 G k ai1 ai2 bl3 bl4 bl5 bi6 K:=by kernel_rfl
theorem li34_0{R:Type}(G:ORC R)(k:Nat):LoopIs (TAB.env 34) G (L34 G k) 0 (loopAt 0 (bodyOf Try.f34)):=
 ⟨D34_0,fun j vs K=>rd34_0 G k K j vs,k,rfl,rfl,by kernel_rfl,by kernel_rfl,by kernel_rfl,(fun vs K=>by unfold rd34_0;dsimp only;split<;>rfl),
   (fun j vs K r h=>by
     unfold rd34_0 at h
     dsimp only at h
     split at h
     ·rw[l34_0_is];exact h
     ·cases h),(fun S K r h=>h)⟩
theorem lo34:loopsOf (bodyOf Try.f34)=[(0,loopAt 0 (bodyOf Try.f34))]:=by kernel_rfl
theorem la34{R:Type}(G:ORC R)(k:Nat):LoopsAre (TAB.env 34) G (L34 G k) (bodyOf Try.f34):=
 loopsAre_of (by rw[lo34];intro p hp;simp only[List.mem_cons,List.not_mem_nil,or_false]at hp;subst hp;exact li34_0 G k)
def g34{R:Type}(G:ORC R)(k:Nat)(args:LV)(K:LV→OV R):OV R:=match args with
 | [.int .i64 ai1,.int .i64 ai2,.sl 7 bl3,.sl 1 bl4,.sl 1 bl5,.int .i64 bi6]=>f34 G k ai1 ai2 bl3 bl4 bl5 bi6 K
 |_=>none
theorem s34{R:Type}{G:ORC R}{k:Nat}(hG:Sound Try.prog TAB G)(args:LV)(K:LV→OV R)(r:R)(h:g34 G k args K=some r):∃o,CallOK Try.prog TAB.env 34 args o∧K o=some r:=by
 unfold g34 at h
 split at h
 ·rw[←f34_is]at h
  exact callF_sound (f:=34) TAB_chk MO hG Try.func34 (sg:=S34) (by kernel_rfl) (by kernel_rfl) (la34 G k) h
 ·cases h
def P35_0h:Pat:={tmps:=unds [.undef,.undef,.undef,.var (.sl 1) (.own true)] 5 (unds [.stat (.ref (.b 0 2) 0),.var (.int .i64) .pr,.var (.int .i64) .pr] 11 []),boxes:=nons [some [.var (.sl 7) .ro true,.var (.sl 1) .ro true,.var (.sl 1) (.own true) false,.var (.int .i64) .pr false]] 23 []}
def P35_0x:Pat:={tmps:=unds [.undef,.undef,.undef,.var (.sl 1) (.own true)] 19 [],boxes:=nons [some [.var (.sl 7) .ro true,.var (.sl 1) .ro true,.var (.sl 1) (.own true) false,.var (.int .i64) .pr false]] 23 []}
def b35_0{R:Type}(G:ORC R)(k:Nat)(X:LV→Int→Int→LV→LV→LV→Int→OV R)(Ko:LV→LV→LV→LV→Int→OV R)(xl5:LV)(xi6 xi7:Int)(xl8 xl9 xl10:LV)(xi11:Int):OV R:=
 (bif(decide (xi7<xi6))then(bif((decide (0≤xi7))&&(decide (xi7<(xl10.length:Int))))then(nthK xl10 (Int.toNat xi7) fun e12=>V.asBool e12 fun b13=>bif b13 then(bif(decide (List.length xl5+1≤1073741824))then(X (xl5++[.int .i64 xi7]) xi6 (IntKind.i64.wrap (xi7+1)) xl8 xl9 xl10 xi11)else none)else(X xl5 xi6 (IntKind.i64.wrap (xi7+1)) xl8 xl9 xl10 xi11))else none)else(Ko xl5 xl8 xl9 xl10 xi11))
def l35_0g{R:Type}(G:ORC R)(k:Nat)(Ko:LV→LV→LV→LV→Int→OV R):Nat→LV→Int→Int→LV→LV→LV→Int→OV R
 |0=>fun _ _ _ _ _ _ _=>none
 |j+1=>b35_0 G k (l35_0g G k Ko j) Ko
def l35_0{R:Type}(G:ORC R)(k:Nat)(xl5:LV)(xi6 xi7:Int)(xl8 xl9 xl10:LV)(xi11:Int)(Ko:LV→LV→LV→LV→Int→OV R):OV R:=l35_0g G k Ko k xl5 xi6 xi7 xl8 xl9 xl10 xi11
def rd35_0{R:Type}(G:ORC R)(k:Nat)(K:Ex→St→OV R)(j:Nat)(vs:LV):OV R:=match vs with
 | [.sl 1 xl5,.int .i64 xi6,.int .i64 xi7,.sl 7 xl8,.sl 1 xl9,.sl 1 xl10,.int .i64 xi11]=>l35_0g G k (fun yl19 yl20 yl21 yl22 yi23=>K .normal (P35_0x.inst [.sl 1 yl19,.sl 7 yl20,.sl 1 yl21,.sl 1 yl22,.int .i64 yi23])) j xl5 xi6 xi7 xl8 xl9 xl10 xi11
 |_=>none
def L35{R:Type}(G:ORC R)(k:Nat):Nat→St→(Ex→St→OV R)→OV R
 |0,S,K=>P35_0h.mat S fun vs=>rd35_0 G k K k vs
 |_,_,_=>none
def f35{R:Type}(G:ORC R)(k:Nat)(bl1 bl2 bl3:LV)(bi4:Int)(K:LV→OV R):OV R:=
 (l35_0 G k [] (bl3.length:Int) 0 bl1 bl2 bl3 bi4 (fun yl14 yl15 yl16 yl17 yi18=>K [.sl 1 yl14,.sl 1 yl17,.int .i64 yi18]))
noncomputable def D35_0:LoopD:={id:=0,body:=loopAt 0 (bodyOf Try.f35),head:=P35_0h,out:=P35_0x,ret:=default}
theorem l35_0_is{R:Type}(G:ORC R)(k:Nat)(X:LV→OV R)(K:Ex→St→OV R)(xl5:LV)(xi6 xi7:Int)(xl8 xl9 xl10:LV)(xi11:Int):
 roundOf (TAB.env 35) G (L35 G k) D35_0 X K [.sl 1 xl5,.int .i64 xi6,.int .i64 xi7,.sl 7 xl8,.sl 1 xl9,.sl 1 xl10,.int .i64 xi11]=b35_0 G k (fun xl5 xi6 xi7 xl8 xl9 xl10 xi11=>X [.sl 1 xl5,.int .i64 xi6,.int .i64 xi7,.sl 7 xl8,.sl 1 xl9,.sl 1 xl10,.int .i64 xi11]) (fun yl19 yl20 yl21 yl22 yi23=>K .normal (P35_0x.inst [.sl 1 yl19,.sl 7 yl20,.sl 1 yl21,.sl 1 yl22,.int .i64 yi23])) xl5 xi6 xi7 xl8 xl9 xl10 xi11:=by kernel_rfl
theorem f35_is{R:Type}(G:ORC R)(k:Nat)(K:LV→OV R)(bl1 bl2 bl3:LV)(bi4:Int):
 callF (TAB.env 35) G (L35 G k) Try.f35 S35 [.sl 7 bl1,.sl 1 bl2,.sl 1 bl3,.int .i64 bi4] K=f35 G k bl1 bl2 bl3 bi4 K:=by kernel_rfl
theorem li35_0{R:Type}(G:ORC R)(k:Nat):LoopIs (TAB.env 35) G (L35 G k) 0 (loopAt 0 (bodyOf Try.f35)):=
 ⟨D35_0,fun j vs K=>rd35_0 G k K j vs,k,rfl,rfl,by kernel_rfl,by kernel_rfl,by kernel_rfl,(fun vs K=>by unfold rd35_0;dsimp only;split<;>rfl),
   (fun j vs K r h=>by
     unfold rd35_0 at h
     dsimp only at h
     split at h
     ·rw[l35_0_is];exact h
     ·cases h),(fun S K r h=>h)⟩
theorem lo35:loopsOf (bodyOf Try.f35)=[(0,loopAt 0 (bodyOf Try.f35))]:=by kernel_rfl
theorem la35{R:Type}(G:ORC R)(k:Nat):LoopsAre (TAB.env 35) G (L35 G k) (bodyOf Try.f35):=
 loopsAre_of (by rw[lo35];intro p hp;simp only[List.mem_cons,List.not_mem_nil,or_false]at hp;subst hp;exact li35_0 G k)
def g35{R:Type}(G:ORC R)(k:Nat)(args:LV)(K:LV→OV R):OV R:=match args with
 | [.sl 7 bl1,.sl 1 bl2,.sl 1 bl3,.int .i64 bi4]=>f35 G k bl1 bl2 bl3 bi4 K
 |_=>none
theorem s35{R:Type}{G:ORC R}{k:Nat}(hG:Sound Try.prog TAB G)(args:LV)(K:LV→OV R)(r:R)(h:g35 G k args K=some r):∃o,CallOK Try.prog TAB.env 35 args o∧K o=some r:=by
 unfold g35 at h
 split at h
 ·rw[←f35_is]at h
  exact callF_sound (f:=35) TAB_chk MO hG Try.func35 (sg:=S35) (by kernel_rfl) (by kernel_rfl) (la35 G k) h
 ·cases h
def P13_2h:Pat:={tmps:=unds [.var (.sl 7) .ro] 6 (unds [.stat (.one (.ptr 18 0) .pt),.undef,.stat (.one (.ptr 9 0) .pt)] 9 (unds [.var (.sl 2) .ro,.var (.int .i64) .pr,.var (.int .i64) .pr] 22 (unds [.var (.sl 1) .ro,.var (.int .i64) .pr,.var (.int .i64) .pr] 12 []))),boxes:=nons [] 9 (nons [some [.var (.int .i64) .pr false,.var (.int .i64) .pr false]] 8 (nons [some [.var (.sl 7) .ro false,.var (.sl 1) .ro false,.var (.sl 1) (.own true) false,.var (.int .i64) .pr false]] 40 []))}
def P13_2x:Pat:={tmps:=unds [.var (.sl 7) .ro] 6 (unds [.stat (.one (.ptr 18 0) .pt)] 11 (unds [.var (.sl 2) .ro,.var (.int .i64) .pr,.var (.int .i64) .pr] 37 [])),boxes:=nons [] 18 (nons [some [.var (.sl 7) .ro false,.var (.sl 1) .ro false,.var (.sl 1) (.own true) false,.var (.int .i64) .pr false]] 40 [])}
def b13_2{R:Type}(G:ORC R)(k:Nat)(X:LV→LV→Int→Int→LV→Int→Int→Int→Int→LV→LV→LV→Int→OV R)(Ko:LV→LV→Int→Int→LV→LV→LV→Int→OV R)(xl39 xl40:LV)(xi41 xi42:Int)(xl43:LV)(xi44 xi45:Int)(xi46 xi47:Int)(xl48 xl49 xl50:LV)(xi51:Int):OV R:=
 (bif(decide (xi45<xi44))then(bif((decide (0≤xi45))&&(decide (xi45<(xl43.length:Int))))then(nthK xl43 (Int.toNat xi45) fun e52=>aI .i64 e52 fun n53=>G 34 [.int .i64 n53,.int .i64 xi47,.sl 7 xl48,.sl 1 xl49,.sl 1 xl50,.int .i64 xi51] fun o54=>uL 1 o54 fun l56 r55=>uI .i64 r55 fun n58 r57=>unNil r57 (X xl39 xl40 xi41 xi42 xl43 xi44 (IntKind.i64.wrap (xi45+1)) xi46 xi47 xl48 xl49 l56 n58))else none)else(Ko xl39 xl40 xi41 xi42 xl48 xl49 xl50 xi51))
def l13_2g{R:Type}(G:ORC R)(k:Nat)(Ko:LV→LV→Int→Int→LV→LV→LV→Int→OV R):Nat→LV→LV→Int→Int→LV→Int→Int→Int→Int→LV→LV→LV→Int→OV R
 |0=>fun _ _ _ _ _ _ _ _ _ _ _ _ _=>none
 |j+1=>b13_2 G k (l13_2g G k Ko j) Ko
def l13_2{R:Type}(G:ORC R)(k:Nat)(xl39 xl40:LV)(xi41 xi42:Int)(xl43:LV)(xi44 xi45:Int)(xi46 xi47:Int)(xl48 xl49 xl50:LV)(xi51:Int)(Ko:LV→LV→Int→Int→LV→LV→LV→Int→OV R):OV R:=l13_2g G k Ko k xl39 xl40 xi41 xi42 xl43 xi44 xi45 xi46 xi47 xl48 xl49 xl50 xi51
def P13_0h:Pat:={tmps:=unds [.var (.sl 7) .ro] 6 (unds [.stat (.one (.ptr 18 0) .pt)] 11 (unds [.var (.sl 2) .ro,.var (.int .i64) .pr,.var (.int .i64) .pr] 37 [])),boxes:=nons [] 18 (nons [some [.var (.sl 7) .ro false,.var (.sl 1) .ro false,.var (.sl 1) (.own true) false,.var (.int .i64) .pr false]] 40 [])}
def P13_0x:Pat:={tmps:=unds [] 7 (unds [.stat (.one (.ptr 18 0) .pt)] 51 []),boxes:=nons [] 18 (nons [some [.var (.sl 7) .ro false,.var (.sl 1) .ro false,.var (.sl 1) (.own true) false,.var (.int .i64) .pr false]] 40 [])}
def b13_0{R:Type}(G:ORC R)(k:Nat)(X:LV→LV→Int→Int→LV→LV→LV→Int→OV R)(Ko:LV→LV→LV→Int→OV R)(xl4 xl5:LV)(xi6 xi7:Int)(xl8 xl9 xl10:LV)(xi11:Int):OV R:=
 (bif(decide (xi7<xi6))then(bif((decide (0≤xi7))&&(decide (xi7<(xl5.length:Int))))then(nthK xl5 (Int.toNat xi7) fun e12=>V.asAgg e12 fun l13=>ce2 l13 fun c14 c15=>aI .i64 c14 fun n19=>aI .i64 c15 fun n20=>G 31 [.sl 7 xl4,.int .i64 n19] fun o21=>uB o21 fun b23 r22=>unNil r22 (bif(!b23)then(X xl4 xl5 xi6 (IntKind.i64.wrap (xi7+1)) xl8 xl9 xl10 xi11)else(G 31 [.sl 7 xl4,.int .i64 n20] fun o24=>uB o24 fun b26 r25=>unNil r25 (bif(!b26)then(X xl4 xl5 xi6 (IntKind.i64.wrap (xi7+1)) xl8 xl9 xl10 xi11)else(G 32 [.int .i64 n19,.sl 7 xl8,.sl 1 xl9,.sl 1 xl10,.int .i64 xi11] fun o27=>uL 1 o27 fun l29 r28=>uI .i64 r28 fun n31 r30=>unNil r30 (G 33 [.int .i64 n19,.sl 7 xl8,.sl 1 xl9,.sl 1 l29,.int .i64 n31] fun o32=>uL 1 o32 fun l34 r33=>uL 1 r33 fun l36 r35=>uI .i64 r35 fun n38 r37=>unNil r37 (l13_2 G k xl4 xl5 xi6 xi7 l34 (l34.length:Int) 0 n19 n20 xl8 xl9 l36 n38 (fun yl39 yl40 yi41 yi42 yl43 yl44 yl45 yi46=>X yl39 yl40 yi41 (IntKind.i64.wrap (yi42+1)) yl43 yl44 yl45 yi46))))))))else none)else(Ko xl8 xl9 xl10 xi11))
def l13_0g{R:Type}(G:ORC R)(k:Nat)(Ko:LV→LV→LV→Int→OV R):Nat→LV→LV→Int→Int→LV→LV→LV→Int→OV R
 |0=>fun _ _ _ _ _ _ _ _=>none
 |j+1=>b13_0 G k (l13_0g G k Ko j) Ko
def l13_0{R:Type}(G:ORC R)(k:Nat)(xl4 xl5:LV)(xi6 xi7:Int)(xl8 xl9 xl10:LV)(xi11:Int)(Ko:LV→LV→LV→Int→OV R):OV R:=l13_0g G k Ko k xl4 xl5 xi6 xi7 xl8 xl9 xl10 xi11
def rd13_2{R:Type}(G:ORC R)(k:Nat)(K:Ex→St→OV R)(j:Nat)(vs:LV):OV R:=match vs with
 | [.sl 7 xl39,.sl 2 xl40,.int .i64 xi41,.int .i64 xi42,.sl 1 xl43,.int .i64 xi44,.int .i64 xi45,.int .i64 xi46,.int .i64 xi47,.sl 7 xl48,.sl 1 xl49,.sl 1 xl50,.int .i64 xi51]=>l13_2g G k (fun yl58 yl59 yi60 yi61 yl62 yl63 yl64 yi65=>K .normal (P13_2x.inst [.sl 7 yl58,.sl 2 yl59,.int .i64 yi60,.int .i64 yi61,.sl 7 yl62,.sl 1 yl63,.sl 1 yl64,.int .i64 yi65])) j xl39 xl40 xi41 xi42 xl43 xi44 xi45 xi46 xi47 xl48 xl49 xl50 xi51
 |_=>none
def rd13_0{R:Type}(G:ORC R)(k:Nat)(K:Ex→St→OV R)(j:Nat)(vs:LV):OV R:=match vs with
 | [.sl 7 xl4,.sl 2 xl5,.int .i64 xi6,.int .i64 xi7,.sl 7 xl8,.sl 1 xl9,.sl 1 xl10,.int .i64 xi11]=>l13_0g G k (fun yl66 yl67 yl68 yi69=>K .normal (P13_0x.inst [.sl 7 yl66,.sl 1 yl67,.sl 1 yl68,.int .i64 yi69])) j xl4 xl5 xi6 xi7 xl8 xl9 xl10 xi11
 |_=>none
def L13{R:Type}(G:ORC R)(k:Nat):Nat→St→(Ex→St→OV R)→OV R
 |2,S,K=>P13_2h.mat S fun vs=>rd13_2 G k K k vs
 |0,S,K=>P13_0h.mat S fun vs=>rd13_0 G k K k vs
 |_,_,_=>none
def f13{R:Type}(G:ORC R)(k:Nat)(al1 al2 al3:LV)(K:LV→OV R):OV R:=
 (bif(((decide (0≤(al1.length:Int)))&&(decide ((al1.length:Int)≤(al1.length:Int))))&&(decide ((al1.length:Int)≤1073741824)))then(l13_0 G k al1 al2 (al2.length:Int) 0 al1 al3 (List.replicate (Int.toNat (al1.length:Int)) (V.bool false)) 65536 (fun yl47 yl48 yl49 yi50=>G 35 [.sl 7 yl47,.sl 1 yl48,.sl 1 yl49,.int .i64 yi50] fun o51=>uL 1 o51 fun l53 r52=>uL 1 r52 fun l55 r54=>uI .i64 r54 fun n57 r56=>unNil r56 (K [.sl 1 l53])))else none)
noncomputable def D13_2:LoopD:={id:=2,body:=loopAt 2 (bodyOf Try.f13),head:=P13_2h,out:=P13_2x,ret:=default}
theorem l13_2_is{R:Type}(G:ORC R)(k:Nat)(X:LV→OV R)(K:Ex→St→OV R)(xl39 xl40:LV)(xi41 xi42:Int)(xl43:LV)(xi44 xi45:Int)(xi46 xi47:Int)(xl48 xl49 xl50:LV)(xi51:Int):
 roundOf (TAB.env 13) G (L13 G k) D13_2 X K [.sl 7 xl39,.sl 2 xl40,.int .i64 xi41,.int .i64 xi42,.sl 1 xl43,.int .i64 xi44,.int .i64 xi45,.int .i64 xi46,.int .i64 xi47,.sl 7 xl48,.sl 1 xl49,.sl 1 xl50,.int .i64 xi51]=b13_2 G k (fun xl39 xl40 xi41 xi42 xl43 xi44 xi45 xi46 xi47 xl48 xl49 xl50 xi51=>X [.sl 7 xl39,.sl 2 xl40,.int .i64 xi41,.int .i64 xi42,.sl 1 xl43,.int .i64 xi44,.int .i64 xi45,.int .i64 xi46,.int .i64 xi47,.sl 7 xl48,.sl 1 xl49,.sl 1 xl50,.int .i64 xi51]) (fun yl58 yl59 yi60 yi61 yl62 yl63 yl64 yi65=>K .normal (P13_2x.inst [.sl 7 yl58,.sl 2 yl59,.int .i64 yi60,.int .i64 yi61,.sl 7 yl62,.sl 1 yl63,.sl 1 yl64,.int .i64 yi65])) xl39 xl40 xi41 xi42 xl43 xi44 xi45 xi46 xi47 xl48 xl49 xl50 xi51:=by kernel_rfl
noncomputable def D13_0:LoopD:={id:=0,body:=loopAt 0 (bodyOf Try.f13),head:=P13_0h,out:=P13_0x,ret:=default}
theorem l13_0_is{R:Type}(G:ORC R)(k:Nat)(X:LV→OV R)(K:Ex→St→OV R)(xl4 xl5:LV)(xi6 xi7:Int)(xl8 xl9 xl10:LV)(xi11:Int):
 roundOf (TAB.env 13) G (L13 G k) D13_0 X K [.sl 7 xl4,.sl 2 xl5,.int .i64 xi6,.int .i64 xi7,.sl 7 xl8,.sl 1 xl9,.sl 1 xl10,.int .i64 xi11]=b13_0 G k (fun xl4 xl5 xi6 xi7 xl8 xl9 xl10 xi11=>X [.sl 7 xl4,.sl 2 xl5,.int .i64 xi6,.int .i64 xi7,.sl 7 xl8,.sl 1 xl9,.sl 1 xl10,.int .i64 xi11]) (fun yl66 yl67 yl68 yi69=>K .normal (P13_0x.inst [.sl 7 yl66,.sl 1 yl67,.sl 1 yl68,.int .i64 yi69])) xl4 xl5 xi6 xi7 xl8 xl9 xl10 xi11:=by kernel_rfl
theorem f13_is{R:Type}(G:ORC R)(k:Nat)(K:LV→OV R)(al1 al2 al3:LV):
 callF (TAB.env 13) G (L13 G k) Try.f13 S13 [.sl 7 al1,.sl 2 al2,.sl 1 al3] K=f13 G k al1 al2 al3 K:=by kernel_rfl
theorem li13_2{R:Type}(G:ORC R)(k:Nat):LoopIs (TAB.env 13) G (L13 G k) 2 (loopAt 2 (bodyOf Try.f13)):=
 ⟨D13_2,fun j vs K=>rd13_2 G k K j vs,k,rfl,rfl,by kernel_rfl,by kernel_rfl,by kernel_rfl,(fun vs K=>by unfold rd13_2;dsimp only;split<;>rfl),
   (fun j vs K r h=>by
     unfold rd13_2 at h
     dsimp only at h
     split at h
     ·rw[l13_2_is];exact h
     ·cases h),(fun S K r h=>h)⟩
theorem li13_0{R:Type}(G:ORC R)(k:Nat):LoopIs (TAB.env 13) G (L13 G k) 0 (loopAt 0 (bodyOf Try.f13)):=
 ⟨D13_0,fun j vs K=>rd13_0 G k K j vs,k,rfl,rfl,by kernel_rfl,by kernel_rfl,by kernel_rfl,(fun vs K=>by unfold rd13_0;dsimp only;split<;>rfl),
   (fun j vs K r h=>by
     unfold rd13_0 at h
     dsimp only at h
     split at h
     ·rw[l13_0_is];exact h
     ·cases h),(fun S K r h=>h)⟩
theorem lo13:loopsOf (bodyOf Try.f13)=[(0,loopAt 0 (bodyOf Try.f13)),(2,loopAt 2 (bodyOf Try.f13))]:=by kernel_rfl
theorem la13{R:Type}(G:ORC R)(k:Nat):LoopsAre (TAB.env 13) G (L13 G k) (bodyOf Try.f13):=
 loopsAre_of (by rw[lo13];intro p hp;simp only[List.mem_cons,List.not_mem_nil,or_false]at hp;rcases hp with rfl|rfl<;>first|exact li13_0 G k|exact li13_2 G k)
def g13{R:Type}(G:ORC R)(k:Nat)(args:LV)(K:LV→OV R):OV R:=match args with
 | [.sl 7 al1,.sl 2 al2,.sl 1 al3]=>f13 G k al1 al2 al3 K
 |_=>none
theorem s13{R:Type}{G:ORC R}{k:Nat}(hG:Sound Try.prog TAB G)(args:LV)(K:LV→OV R)(r:R)(h:g13 G k args K=some r):∃o,CallOK Try.prog TAB.env 13 args o∧K o=some r:=by
 unfold g13 at h
 split at h
 ·rw[←f13_is]at h
  exact callF_sound (f:=13) TAB_chk MO hG Try.func13 (sg:=S13) (by kernel_rfl) (by kernel_rfl) (la13 G k) h
 ·cases h
def L15{R:Type}(_:ORC R)(_:Nat):Nat→St→(Ex→St→OV R)→OV R:=fun _ _ _=>none
def f15{R:Type}(G:ORC R)(k:Nat)(al1:LV)(K:LV→OV R):OV R:=
 (bif(((decide (0≤(al1.length:Int)))&&(decide ((al1.length:Int)≤(al1.length:Int))))&&(decide ((al1.length:Int)≤1073741824)))then(G 32 [.int .i64 0,.sl 7 al1,.sl 1 [],.sl 1 (List.replicate (Int.toNat (al1.length:Int)) (V.bool false)),.int .i64 65536] fun o2=>uL 1 o2 fun l4 r3=>uI .i64 r3 fun n6 r5=>unNil r5 (G 35 [.sl 7 al1,.sl 1 [],.sl 1 l4,.int .i64 n6] fun o7=>uL 1 o7 fun l9 r8=>uL 1 r8 fun l11 r10=>uI .i64 r10 fun n13 r12=>unNil r12 (K [.sl 1 l9])))else none)
theorem f15_is{R:Type}(G:ORC R)(k:Nat)(K:LV→OV R)(al1:LV):
 callF (TAB.env 15) G (L15 G k) Try.f15 S15 [.sl 7 al1] K=f15 G k al1 K:=by kernel_rfl
theorem lo15:loopsOf (bodyOf Try.f15)=[]:=by kernel_rfl
theorem la15{R:Type}(G:ORC R)(k:Nat):LoopsAre (TAB.env 15) G (L15 G k) (bodyOf Try.f15):=
 loopsAre_of (by rw[lo15];intro p hp;cases hp)
def g15{R:Type}(G:ORC R)(k:Nat)(args:LV)(K:LV→OV R):OV R:=match args with
 | [.sl 7 al1]=>f15 G k al1 K
 |_=>none
theorem s15{R:Type}{G:ORC R}{k:Nat}(hG:Sound Try.prog TAB G)(args:LV)(K:LV→OV R)(r:R)(h:g15 G k args K=some r):∃o,CallOK Try.prog TAB.env 15 args o∧K o=some r:=by
 unfold g15 at h
 split at h
 ·rw[←f15_is]at h
  exact callF_sound (f:=15) TAB_chk MO hG Try.func15 (sg:=S15) (by kernel_rfl) (by kernel_rfl) (la15 G k) h
 ·cases h
def P12_0h:Pat:={tmps:=unds [.var (.sl 1) .ro,.var (.sl 1) .ro,.undef,.undef,.undef,.var (.int .i64) .pr] 20 [],boxes:=nons [] 26 []}
def P12_0x:Pat:={tmps:=unds [] 26 [],boxes:=nons [] 26 []}
def P12_0r:Pat:={tmps:=unds [.undef,.undef,.undef,.undef,.var .bool .pr] 21 [],boxes:=nons [] 26 []}
def b12_0{R:Type}(G:ORC R)(k:Nat)(X:LV→LV→Int→OV R)(Ko:Unit→OV R)(Kr:Bool→OV R)(xl3 xl4:LV)(xi5:Int):OV R:=
 (bif(decide (xi5<(xl3.length:Int)))then(bif((decide (0≤xi5))&&(decide (xi5<(xl3.length:Int))))then(nthK xl3 (Int.toNat xi5) fun e6=>aI .i64 e6 fun n7=>bif((decide (0≤xi5))&&(decide (xi5<(xl4.length:Int))))then(nthK xl4 (Int.toNat xi5) fun e8=>aI .i64 e8 fun n9=>bif(n7 !=n9)then(Kr false)else(X xl3 xl4 (IntKind.i64.wrap (xi5+1))))else none)else none)else(Ko ()))
def l12_0g{R:Type}(G:ORC R)(k:Nat)(Ko:Unit→OV R)(Kr:Bool→OV R):Nat→LV→LV→Int→OV R
 |0=>fun _ _ _=>none
 |j+1=>b12_0 G k (l12_0g G k Ko Kr j) Ko Kr
def l12_0{R:Type}(G:ORC R)(k:Nat)(xl3 xl4:LV)(xi5:Int)(Ko:Unit→OV R)(Kr:Bool→OV R):OV R:=l12_0g G k Ko Kr k xl3 xl4 xi5
def rd12_0{R:Type}(G:ORC R)(k:Nat)(K:Ex→St→OV R)(j:Nat)(vs:LV):OV R:=match vs with
 | [.sl 1 xl3,.sl 1 xl4,.int .i64 xi5]=>l12_0g G k (fun _=>K .normal (P12_0x.inst [])) (fun yb11=>K .ret (P12_0r.inst [.bool yb11])) j xl3 xl4 xi5
 |_=>none
def L12{R:Type}(G:ORC R)(k:Nat):Nat→St→(Ex→St→OV R)→OV R
 |0,S,K=>P12_0h.mat S fun vs=>rd12_0 G k K k vs
 |_,_,_=>none
def f12{R:Type}(G:ORC R)(k:Nat)(al1 al2:LV)(K:LV→OV R):OV R:=
 (bif((al1.length:Int) !=(al2.length:Int))then(K [.bool false])else(l12_0 G k al1 al2 0 (fun(_:Unit)=>K [.bool true]) (fun yb10=>K [.bool yb10])))
noncomputable def D12_0:LoopD:={id:=0,body:=loopAt 0 (bodyOf Try.f12),head:=P12_0h,out:=P12_0x,ret:=P12_0r}
theorem l12_0_is{R:Type}(G:ORC R)(k:Nat)(X:LV→OV R)(K:Ex→St→OV R)(xl3 xl4:LV)(xi5:Int):
 roundOf (TAB.env 12) G (L12 G k) D12_0 X K [.sl 1 xl3,.sl 1 xl4,.int .i64 xi5]=b12_0 G k (fun xl3 xl4 xi5=>X [.sl 1 xl3,.sl 1 xl4,.int .i64 xi5]) (fun _=>K .normal (P12_0x.inst [])) (fun yb11=>K .ret (P12_0r.inst [.bool yb11])) xl3 xl4 xi5:=by kernel_rfl
theorem f12_is{R:Type}(G:ORC R)(k:Nat)(K:LV→OV R)(al1 al2:LV):
 callF (TAB.env 12) G (L12 G k) Try.f12 S12 [.sl 1 al1,.sl 1 al2] K=f12 G k al1 al2 K:=by kernel_rfl
theorem li12_0{R:Type}(G:ORC R)(k:Nat):LoopIs (TAB.env 12) G (L12 G k) 0 (loopAt 0 (bodyOf Try.f12)):=
 ⟨D12_0,fun j vs K=>rd12_0 G k K j vs,k,rfl,rfl,by kernel_rfl,by kernel_rfl,by kernel_rfl,(fun vs K=>by unfold rd12_0;dsimp only;split<;>rfl),
   (fun j vs K r h=>by
     unfold rd12_0 at h
     dsimp only at h
     split at h
     ·rw[l12_0_is];exact h
     ·cases h),(fun S K r h=>h)⟩
theorem lo12:loopsOf (bodyOf Try.f12)=[(0,loopAt 0 (bodyOf Try.f12))]:=by kernel_rfl
theorem la12{R:Type}(G:ORC R)(k:Nat):LoopsAre (TAB.env 12) G (L12 G k) (bodyOf Try.f12):=
 loopsAre_of (by rw[lo12];intro p hp;simp only[List.mem_cons,List.not_mem_nil,or_false]at hp;subst hp;exact li12_0 G k)
def g12{R:Type}(G:ORC R)(k:Nat)(args:LV)(K:LV→OV R):OV R:=match args with
 | [.sl 1 al1,.sl 1 al2]=>f12 G k al1 al2 K
 |_=>none
theorem s12{R:Type}{G:ORC R}{k:Nat}(hG:Sound Try.prog TAB G)(args:LV)(K:LV→OV R)(r:R)(h:g12 G k args K=some r):∃o,CallOK Try.prog TAB.env 12 args o∧K o=some r:=by
 unfold g12 at h
 split at h
 ·rw[←f12_is]at h
  exact callF_sound (f:=12) TAB_chk MO hG Try.func12 (sg:=S12) (by kernel_rfl) (by kernel_rfl) (la12 G k) h
 ·cases h
def P4_0h:Pat:={tmps:=unds [.undef,.undef,.undef,.var (.sl 1) .ro] 5 (unds [.var (.sl 7) .ro,.undef,.var (.sl 1) .ro,.var (.sl 1) .ro,.var (.sl 1) (.own true),.var (.int .i64) .pr] 81 []),boxes:=nons [] 96 []}
def P4_0x:Pat:={tmps:=unds [] 9 (unds [.var (.sl 7) .ro,.undef,.var (.sl 1) .ro,.var (.sl 1) .ro,.var (.sl 1) (.own true)] 82 []),boxes:=nons [] 96 []}
def b4_0{R:Type}(G:ORC R)(k:Nat)(X:LV→LV→LV→LV→LV→Int→OV R)(Ko:LV→LV→LV→LV→OV R)(xl33 xl34:LV)(xl35 xl36 xl37:LV)(xi38:Int):OV R:=
 (bif(decide (xi38<(xl33.length:Int)))then(bif((decide (0≤xi38))&&(decide (xi38<(xl33.length:Int))))then(nthK xl33 (Int.toNat xi38) fun e39=>aI .i64 e39 fun n40=>G 10 [.int .i64 n40,.int .i64 (xl34.length:Int)] fun o41=>uI .i64 o41 fun n43 r42=>unNil r42 (bif(decide (List.length xl37+1≤1073741824))then(X xl33 xl34 xl35 xl36 (xl37++[.int .i64 n43]) (IntKind.i64.wrap (xi38+1)))else none))else none)else(Ko xl34 xl35 xl36 xl37))
def l4_0g{R:Type}(G:ORC R)(k:Nat)(Ko:LV→LV→LV→LV→OV R):Nat→LV→LV→LV→LV→LV→Int→OV R
 |0=>fun _ _ _ _ _ _=>none
 |j+1=>b4_0 G k (l4_0g G k Ko j) Ko
def l4_0{R:Type}(G:ORC R)(k:Nat)(xl33 xl34:LV)(xl35 xl36 xl37:LV)(xi38:Int)(Ko:LV→LV→LV→LV→OV R):OV R:=l4_0g G k Ko k xl33 xl34 xl35 xl36 xl37 xi38
def rd4_0{R:Type}(G:ORC R)(k:Nat)(K:Ex→St→OV R)(j:Nat)(vs:LV):OV R:=match vs with
 | [.sl 1 xl33,.sl 7 xl34,.sl 1 xl35,.sl 1 xl36,.sl 1 xl37,.int .i64 xi38]=>l4_0g G k (fun yl72 yl73 yl74 yl75=>K .normal (P4_0x.inst [.sl 7 yl72,.sl 1 yl73,.sl 1 yl74,.sl 1 yl75])) j xl33 xl34 xl35 xl36 xl37 xi38
 |_=>none
def L4{R:Type}(G:ORC R)(k:Nat):Nat→St→(Ex→St→OV R)→OV R
 |0,S,K=>P4_0h.mat S fun vs=>rd4_0 G k K k vs
 |_,_,_=>none
def f4{R:Type}(G:ORC R)(k:Nat)(al1 al2:LV)(al3 al4:LV)(K:LV→OV R):OV R:=
 (bif(decide ((al1.length:Int)>200))then(G 6 [] fun o5=>uB o5 fun b7 r6=>unNil r6 (K [.bool b7]))else(bif(decide ((al2.length:Int)>40))then(G 6 [] fun o8=>uB o8 fun b10 r9=>unNil r9 (K [.bool b10]))else(bif(decide ((al3.length:Int)>40))then(G 6 [] fun o11=>uB o11 fun b13 r12=>unNil r12 (K [.bool b13]))else(bif(decide ((al4.length:Int)>8))then(G 6 [] fun o14=>uB o14 fun b16 r15=>unNil r15 (K [.bool b16]))else(G 7 [.sl 1 al1] fun o17=>uL 7 o17 fun l19 r18=>unNil r18 (G 8 [.sl 7 l19,.int .i64 0,.sl 1 al2,.int .i64 0] fun o20=>uL 1 o20 fun l22 r21=>uI .i64 r21 fun n24 r23=>unNil r23 (G 8 [.sl 7 l19,.int .i64 0,.sl 1 al3,.int .i64 0] fun o25=>uL 1 o25 fun l27 r26=>uI .i64 r26 fun n29 r28=>unNil r28 (G 9 [.sl 7 l19,.sl 1 l22,.sl 1 l22,.sl 1 []] fun o30=>uL 1 o30 fun l32 r31=>unNil r31 (l4_0 G k al4 l19 l27 l32 [] 0 (fun yl44 yl45 yl46 yl47=>G 18 [.sl 7 yl44,.sl 1 yl45,.sl 1 yl47] fun o48=>uL 1 o48 fun l50 r49=>unNil r49 (G 20 [.sl 7 yl44,.sl 1 yl45,.sl 1 l50,.sl 1 yl46] fun o51=>uL 1 o51 fun l53 r52=>unNil r52 (G 9 [.sl 7 yl44,.sl 1 yl45,.sl 1 l50,.sl 1 yl46] fun o54=>uL 1 o54 fun l56 r55=>unNil r55 (G 19 [.sl 1 l53,.sl 1 l56] fun o57=>uB o57 fun b59 r58=>unNil r58 (bif b59 then(G 20 [.sl 7 yl44,.sl 1 yl45,.sl 1 l50,.sl 1 []] fun o60=>uL 1 o60 fun l62 r61=>unNil r61 (G 9 [.sl 7 yl44,.sl 1 yl45,.sl 1 l50,.sl 1 []] fun o63=>uL 1 o63 fun l65 r64=>unNil r64 (G 19 [.sl 1 l62,.sl 1 l65] fun o66=>uB o66 fun b68 r67=>unNil r67 (bif b68 then(G 6 [] fun o69=>uB o69 fun b71 r70=>unNil r70 (K [.bool b71]))else(K [.bool false])))))else(K [.bool false])))))))))))))))
noncomputable def D4_0:LoopD:={id:=0,body:=loopAt 0 (bodyOf Try.f4),head:=P4_0h,out:=P4_0x,ret:=default}
theorem l4_0_is{R:Type}(G:ORC R)(k:Nat)(X:LV→OV R)(K:Ex→St→OV R)(xl33 xl34:LV)(xl35 xl36 xl37:LV)(xi38:Int):
 roundOf (TAB.env 4) G (L4 G k) D4_0 X K [.sl 1 xl33,.sl 7 xl34,.sl 1 xl35,.sl 1 xl36,.sl 1 xl37,.int .i64 xi38]=b4_0 G k (fun xl33 xl34 xl35 xl36 xl37 xi38=>X [.sl 1 xl33,.sl 7 xl34,.sl 1 xl35,.sl 1 xl36,.sl 1 xl37,.int .i64 xi38]) (fun yl72 yl73 yl74 yl75=>K .normal (P4_0x.inst [.sl 7 yl72,.sl 1 yl73,.sl 1 yl74,.sl 1 yl75])) xl33 xl34 xl35 xl36 xl37 xi38:=by kernel_rfl
theorem f4_is{R:Type}(G:ORC R)(k:Nat)(K:LV→OV R)(al1 al2:LV)(al3 al4:LV):
 callF (TAB.env 4) G (L4 G k) Try.f4 S4 [.sl 1 al1,.sl 1 al2,.sl 1 al3,.sl 1 al4] K=f4 G k al1 al2 al3 al4 K:=by kernel_rfl
theorem li4_0{R:Type}(G:ORC R)(k:Nat):LoopIs (TAB.env 4) G (L4 G k) 0 (loopAt 0 (bodyOf Try.f4)):=
 ⟨D4_0,fun j vs K=>rd4_0 G k K j vs,k,rfl,rfl,by kernel_rfl,by kernel_rfl,by kernel_rfl,(fun vs K=>by unfold rd4_0;dsimp only;split<;>rfl),
   (fun j vs K r h=>by
     unfold rd4_0 at h
     dsimp only at h
     split at h
     ·rw[l4_0_is];exact h
     ·cases h),(fun S K r h=>h)⟩
theorem lo4:loopsOf (bodyOf Try.f4)=[(0,loopAt 0 (bodyOf Try.f4))]:=by kernel_rfl
theorem la4{R:Type}(G:ORC R)(k:Nat):LoopsAre (TAB.env 4) G (L4 G k) (bodyOf Try.f4):=
 loopsAre_of (by rw[lo4];intro p hp;simp only[List.mem_cons,List.not_mem_nil,or_false]at hp;subst hp;exact li4_0 G k)
def g4{R:Type}(G:ORC R)(k:Nat)(args:LV)(K:LV→OV R):OV R:=match args with
 | [.sl 1 al1,.sl 1 al2,.sl 1 al3,.sl 1 al4]=>f4 G k al1 al2 al3 al4 K
 |_=>none
theorem s4{R:Type}{G:ORC R}{k:Nat}(hG:Sound Try.prog TAB G)(args:LV)(K:LV→OV R)(r:R)(h:g4 G k args K=some r):∃o,CallOK Try.prog TAB.env 4 args o∧K o=some r:=by
 unfold g4 at h
 split at h
 ·rw[←f4_is]at h
  exact callF_sound (f:=4) TAB_chk MO hG Try.func4 (sg:=S4) (by kernel_rfl) (by kernel_rfl) (la4 G k) h
 ·cases h
def L41{R:Type}(_:ORC R)(_:Nat):Nat→St→(Ex→St→OV R)→OV R:=fun _ _ _=>none
def f41{R:Type}(G:ORC R)(k:Nat)(ai1:Int)(K:LV→OV R):OV R:=
 (bif(ai1==4)then(K [.bool true])else(K [.bool (ai1==5)]))
theorem f41_is{R:Type}(G:ORC R)(k:Nat)(K:LV→OV R)(ai1:Int):
 callF (TAB.env 41) G (L41 G k) Try.f41 S41 [.int .i64 ai1] K=f41 G k ai1 K:=by kernel_rfl
theorem lo41:loopsOf (bodyOf Try.f41)=[]:=by kernel_rfl
theorem la41{R:Type}(G:ORC R)(k:Nat):LoopsAre (TAB.env 41) G (L41 G k) (bodyOf Try.f41):=
 loopsAre_of (by rw[lo41];intro p hp;cases hp)
def g41{R:Type}(G:ORC R)(k:Nat)(args:LV)(K:LV→OV R):OV R:=match args with
 | [.int .i64 ai1]=>f41 G k ai1 K
 |_=>none
theorem s41{R:Type}{G:ORC R}{k:Nat}(hG:Sound Try.prog TAB G)(args:LV)(K:LV→OV R)(r:R)(h:g41 G k args K=some r):∃o,CallOK Try.prog TAB.env 41 args o∧K o=some r:=by
 unfold g41 at h
 split at h
 ·rw[←f41_is]at h
  exact callF_sound (f:=41) TAB_chk MO hG Try.func41 (sg:=S41) (by kernel_rfl) (by kernel_rfl) (la41 G k) h
 ·cases h
def P17_0h:Pat:={tmps:=unds [.var (.sl 7) .ro,.var (.sl 1) .ro,.undef,.undef,.undef,.var (.sl 1) (.own true)] 20 (unds [.var (.sl 1) .ro,.var (.int .i64) .pr,.var (.int .i64) .pr] 115 []),boxes:=nons [] 144 []}
def P17_0x:Pat:={tmps:=unds [.var (.sl 7) .ro,.var (.sl 1) .ro,.undef,.undef,.undef,.var (.sl 1) (.own true)] 138 [],boxes:=nons [] 144 []}
def P17_0r:Pat:={tmps:=unds [.undef,.undef,.undef,.undef,.var .bool .pr] 139 [],boxes:=nons [] 144 []}
def b17_0{R:Type}(G:ORC R)(k:Nat)(X:LV→LV→LV→LV→Int→Int→OV R)(Ko:LV→LV→LV→OV R)(Kr:Bool→OV R)(xl5 xl6:LV)(xl7 xl8:LV)(xi9 xi10:Int):OV R:=
 (bif(decide (xi10<xi9))then(bif((decide (0≤xi10))&&(decide (xi10<(xl8.length:Int))))then(nthK xl8 (Int.toNat xi10) fun e11=>aI .i64 e11 fun n12=>G 40 [.sl 7 xl5,.int .i64 n12] fun o13=>uB o13 fun b15 r14=>unNil r14 (bif(!b15)then(Kr false)else(bif(decide (xi10>0))then(bif((decide (0≤(IntKind.i64.wrap (xi10-1))))&&(decide ((IntKind.i64.wrap (xi10-1))<(xl6.length:Int))))then(nthK xl6 (Int.toNat (IntKind.i64.wrap (xi10-1))) fun e16=>aI .i64 e16 fun n17=>bif(decide (n12≤n17))then(Kr false)else(bif((decide (0≤n12))&&(decide (n12<(xl5.length:Int))))then(nthK xl5 (Int.toNat n12) fun e18=>ca7 e18 fun c19 c20 c21 c22 c23 c24 c25=>aI .i64 c19 fun n26=>G 41 [.int .i64 n26] fun o27=>uB o27 fun b29 r28=>unNil r28 (bif b29 then(Kr false)else(bif(decide (n12>0))then(bif((decide (0≤n12))&&(decide (n12<(xl5.length:Int))))then(nthK xl5 (Int.toNat n12) fun e30=>ca7 e30 fun c31 c32 c33 c34 c35 c36 c37=>aI .i64 c32 fun n38=>G 40 [.sl 7 xl5,.int .i64 n38] fun o39=>uB o39 fun b41 r40=>unNil r40 (bif(!b41)then(Kr false)else(bif((decide (0≤n12))&&(decide (n12<(xl5.length:Int))))then(nthK xl5 (Int.toNat n12) fun e42=>ca7 e42 fun c43 c44 c45 c46 c47 c48 c49=>aI .i64 c44 fun n50=>bif((decide (0≤n50))&&(decide (n50<(xl7.length:Int))))then(nthK xl7 (Int.toNat n50) fun e51=>V.asBool e51 fun b52=>bif(!b52)then(Kr false)else(bif((decide (0≤n12))&&(decide (n12<(xl7.length:Int))))then(nthK xl7 (Int.toNat n12) fun e53=>X xl5 xl6 (List.set xl7 (Int.toNat n12) (.bool true)) xl8 xi9 (IntKind.i64.wrap (xi10+1)))else none))else none)else none)))else none)else(bif((decide (0≤n12))&&(decide (n12<(xl7.length:Int))))then(nthK xl7 (Int.toNat n12) fun e54=>X xl5 xl6 (List.set xl7 (Int.toNat n12) (.bool true)) xl8 xi9 (IntKind.i64.wrap (xi10+1)))else none))))else none))else none)else(bif((decide (0≤n12))&&(decide (n12<(xl5.length:Int))))then(nthK xl5 (Int.toNat n12) fun e55=>ca7 e55 fun c56 c57 c58 c59 c60 c61 c62=>aI .i64 c56 fun n63=>G 41 [.int .i64 n63] fun o64=>uB o64 fun b66 r65=>unNil r65 (bif b66 then(Kr false)else(bif(decide (n12>0))then(bif((decide (0≤n12))&&(decide (n12<(xl5.length:Int))))then(nthK xl5 (Int.toNat n12) fun e67=>ca7 e67 fun c68 c69 c70 c71 c72 c73 c74=>aI .i64 c69 fun n75=>G 40 [.sl 7 xl5,.int .i64 n75] fun o76=>uB o76 fun b78 r77=>unNil r77 (bif(!b78)then(Kr false)else(bif((decide (0≤n12))&&(decide (n12<(xl5.length:Int))))then(nthK xl5 (Int.toNat n12) fun e79=>ca7 e79 fun c80 c81 c82 c83 c84 c85 c86=>aI .i64 c81 fun n87=>bif((decide (0≤n87))&&(decide (n87<(xl7.length:Int))))then(nthK xl7 (Int.toNat n87) fun e88=>V.asBool e88 fun b89=>bif(!b89)then(Kr false)else(bif((decide (0≤n12))&&(decide (n12<(xl7.length:Int))))then(nthK xl7 (Int.toNat n12) fun e90=>X xl5 xl6 (List.set xl7 (Int.toNat n12) (.bool true)) xl8 xi9 (IntKind.i64.wrap (xi10+1)))else none))else none)else none)))else none)else(bif((decide (0≤n12))&&(decide (n12<(xl7.length:Int))))then(nthK xl7 (Int.toNat n12) fun e91=>X xl5 xl6 (List.set xl7 (Int.toNat n12) (.bool true)) xl8 xi9 (IntKind.i64.wrap (xi10+1)))else none))))else none))))else none)else(Ko xl5 xl6 xl7))
def l17_0g{R:Type}(G:ORC R)(k:Nat)(Ko:LV→LV→LV→OV R)(Kr:Bool→OV R):Nat→LV→LV→LV→LV→Int→Int→OV R
 |0=>fun _ _ _ _ _ _=>none
 |j+1=>b17_0 G k (l17_0g G k Ko Kr j) Ko Kr
def l17_0{R:Type}(G:ORC R)(k:Nat)(xl5 xl6:LV)(xl7 xl8:LV)(xi9 xi10:Int)(Ko:LV→LV→LV→OV R)(Kr:Bool→OV R):OV R:=l17_0g G k Ko Kr k xl5 xl6 xl7 xl8 xi9 xi10
def P17_4h:Pat:={tmps:=unds [.var (.sl 7) .ro,.undef,.undef,.undef,.undef,.var (.sl 1) (.own true),.undef,.undef,.undef,.var (.int .i64) .pr,.var (.int .i64) .pr,.var .bool .pr] 75 (unds [.var (.sl 1) .ro,.var (.int .i64) .pr,.var (.int .i64) .pr] 5 (unds [.var (.sl 1) (.own true),.var (.int .i64) .pr,.var (.int .i64) .pr] 46 [])),boxes:=nons [] 144 []}
def P17_4x:Pat:={tmps:=unds [.var (.sl 7) .ro,.undef,.undef,.undef,.undef,.var (.sl 1) (.own true),.undef,.undef,.undef,.var (.int .i64) .pr,.var (.int .i64) .pr,.var .bool .pr] 75 (unds [.var (.sl 1) .ro,.var (.int .i64) .pr,.var (.int .i64) .pr] 54 []),boxes:=nons [] 144 []}
def b17_4{R:Type}(G:ORC R)(k:Nat)(X:LV→LV→Int→Int→Bool→LV→Int→Int→LV→Int→Int→OV R)(Ko:LV→LV→Int→Int→Bool→LV→Int→Int→OV R)(xl105 xl106:LV)(xi107 xi108:Int)(xb109:Bool)(xl110:LV)(xi111 xi112:Int)(xl113:LV)(xi114 xi115:Int):OV R:=
 (bif(decide (xi115<xi114))then(bif((decide (0≤xi115))&&(decide (xi115<(xl113.length:Int))))then(nthK xl113 (Int.toNat xi115) fun e116=>aI .i64 e116 fun n117=>bif((decide (0≤n117))&&(decide (n117<(xl105.length:Int))))then(nthK xl105 (Int.toNat n117) fun e118=>ca7 e118 fun c119 c120 c121 c122 c123 c124 c125=>aI .i64 c119 fun n126=>G 41 [.int .i64 n126] fun o127=>uB o127 fun b129 r128=>unNil r128 (bif b129 then(X xl105 xl106 xi107 xi108 xb109 xl110 xi111 xi112 xl113 xi114 (IntKind.i64.wrap (xi115+1)))else(bif((decide (0≤n117))&&(decide (n117<(xl106.length:Int))))then(nthK xl106 (Int.toNat n117) fun e130=>V.asBool e130 fun b131=>bif b131 then(bif xb109 then(bif((decide (0≤n117))&&(decide (n117<(xl106.length:Int))))then(nthK xl106 (Int.toNat n117) fun e132=>V.asBool e132 fun b133=>X xl105 xl106 xi107 (IntKind.i64.wrap (xi108+1)) b133 xl110 xi111 xi112 xl113 xi114 (IntKind.i64.wrap (xi115+1)))else none)else(X xl105 xl106 xi107 (IntKind.i64.wrap (xi108+1)) false xl110 xi111 xi112 xl113 xi114 (IntKind.i64.wrap (xi115+1))))else(bif xb109 then(bif((decide (0≤n117))&&(decide (n117<(xl106.length:Int))))then(nthK xl106 (Int.toNat n117) fun e134=>V.asBool e134 fun b135=>X xl105 xl106 xi107 xi108 b135 xl110 xi111 xi112 xl113 xi114 (IntKind.i64.wrap (xi115+1)))else none)else(X xl105 xl106 xi107 xi108 false xl110 xi111 xi112 xl113 xi114 (IntKind.i64.wrap (xi115+1)))))else none)))else none)else none)else(Ko xl105 xl106 xi107 xi108 xb109 xl110 xi111 xi112))
def l17_4g{R:Type}(G:ORC R)(k:Nat)(Ko:LV→LV→Int→Int→Bool→LV→Int→Int→OV R):Nat→LV→LV→Int→Int→Bool→LV→Int→Int→LV→Int→Int→OV R
 |0=>fun _ _ _ _ _ _ _ _ _ _ _=>none
 |j+1=>b17_4 G k (l17_4g G k Ko j) Ko
def l17_4{R:Type}(G:ORC R)(k:Nat)(xl105 xl106:LV)(xi107 xi108:Int)(xb109:Bool)(xl110:LV)(xi111 xi112:Int)(xl113:LV)(xi114 xi115:Int)(Ko:LV→LV→Int→Int→Bool→LV→Int→Int→OV R):OV R:=l17_4g G k Ko k xl105 xl106 xi107 xi108 xb109 xl110 xi111 xi112 xl113 xi114 xi115
def P17_2h:Pat:={tmps:=unds [.var (.sl 7) .ro,.undef,.undef,.undef,.undef,.var (.sl 1) (.own true)] 81 (unds [.var (.sl 1) .ro,.var (.int .i64) .pr,.var (.int .i64) .pr] 54 []),boxes:=nons [] 144 []}
def P17_2x:Pat:={tmps:=unds [] 144 [],boxes:=nons [] 144 []}
def P17_2r:Pat:={tmps:=unds [.undef,.undef,.undef,.undef,.var .bool .pr] 139 [],boxes:=nons [] 144 []}
def b17_2{R:Type}(G:ORC R)(k:Nat)(X:LV→LV→LV→Int→Int→OV R)(Ko:Unit→OV R)(Kr:Bool→OV R)(xl95 xl96 xl97:LV)(xi98 xi99:Int):OV R:=
 (bif(decide (xi99<xi98))then(bif((decide (0≤xi99))&&(decide (xi99<(xl97.length:Int))))then(nthK xl97 (Int.toNat xi99) fun e100=>aI .i64 e100 fun n101=>G 42 [.sl 7 xl95,.int .i64 n101] fun o102=>uL 1 o102 fun l104 r103=>unNil r103 (l17_4 G k xl95 xl96 n101 0 true xl97 xi98 xi99 l104 (l104.length:Int) 0 (fun yl105 yl106 yi107 yi108 yb109 yl110 yi111 yi112=>bif((decide (0≤yi107))&&(decide (yi107<(yl105.length:Int))))then(nthK yl105 (Int.toNat yi107) fun e113=>ca7 e113 fun c114 c115 c116 c117 c118 c119 c120=>aI .i64 c114 fun n121=>bif(n121==2)then(bif(yi108 !=1)then(Kr false)else(bif((decide (0≤yi107))&&(decide (yi107<(yl105.length:Int))))then(nthK yl105 (Int.toNat yi107) fun e122=>ca7 e122 fun c123 c124 c125 c126 c127 c128 c129=>aI .i64 c123 fun n130=>bif(n130==3)then(bif(!yb109)then(Kr false)else(X yl105 yl106 yl110 yi111 (IntKind.i64.wrap (yi112+1))))else(X yl105 yl106 yl110 yi111 (IntKind.i64.wrap (yi112+1))))else none))else(bif((decide (0≤yi107))&&(decide (yi107<(yl105.length:Int))))then(nthK yl105 (Int.toNat yi107) fun e131=>ca7 e131 fun c132 c133 c134 c135 c136 c137 c138=>aI .i64 c132 fun n139=>bif(n139==3)then(bif(!yb109)then(Kr false)else(X yl105 yl106 yl110 yi111 (IntKind.i64.wrap (yi112+1))))else(X yl105 yl106 yl110 yi111 (IntKind.i64.wrap (yi112+1))))else none))else none)))else none)else(Ko ()))
def l17_2g{R:Type}(G:ORC R)(k:Nat)(Ko:Unit→OV R)(Kr:Bool→OV R):Nat→LV→LV→LV→Int→Int→OV R
 |0=>fun _ _ _ _ _=>none
 |j+1=>b17_2 G k (l17_2g G k Ko Kr j) Ko Kr
def l17_2{R:Type}(G:ORC R)(k:Nat)(xl95 xl96 xl97:LV)(xi98 xi99:Int)(Ko:Unit→OV R)(Kr:Bool→OV R):OV R:=l17_2g G k Ko Kr k xl95 xl96 xl97 xi98 xi99
def rd17_0{R:Type}(G:ORC R)(k:Nat)(K:Ex→St→OV R)(j:Nat)(vs:LV):OV R:=match vs with
 | [.sl 7 xl5,.sl 1 xl6,.sl 1 xl7,.sl 1 xl8,.int .i64 xi9,.int .i64 xi10]=>l17_0g G k (fun yl142 yl143 yl144=>K .normal (P17_0x.inst [.sl 7 yl142,.sl 1 yl143,.sl 1 yl144])) (fun yb145=>K .ret (P17_0r.inst [.bool yb145])) j xl5 xl6 xl7 xl8 xi9 xi10
 |_=>none
def rd17_4{R:Type}(G:ORC R)(k:Nat)(K:Ex→St→OV R)(j:Nat)(vs:LV):OV R:=match vs with
 | [.sl 7 xl105,.sl 1 xl106,.int .i64 xi107,.int .i64 xi108,.bool xb109,.sl 1 xl110,.int .i64 xi111,.int .i64 xi112,.sl 1 xl113,.int .i64 xi114,.int .i64 xi115]=>l17_4g G k (fun yl146 yl147 yi148 yi149 yb150 yl151 yi152 yi153=>K .normal (P17_4x.inst [.sl 7 yl146,.sl 1 yl147,.int .i64 yi148,.int .i64 yi149,.bool yb150,.sl 1 yl151,.int .i64 yi152,.int .i64 yi153])) j xl105 xl106 xi107 xi108 xb109 xl110 xi111 xi112 xl113 xi114 xi115
 |_=>none
def rd17_2{R:Type}(G:ORC R)(k:Nat)(K:Ex→St→OV R)(j:Nat)(vs:LV):OV R:=match vs with
 | [.sl 7 xl95,.sl 1 xl96,.sl 1 xl97,.int .i64 xi98,.int .i64 xi99]=>l17_2g G k (fun _=>K .normal (P17_2x.inst [])) (fun yb154=>K .ret (P17_2r.inst [.bool yb154])) j xl95 xl96 xl97 xi98 xi99
 |_=>none
def L17{R:Type}(G:ORC R)(k:Nat):Nat→St→(Ex→St→OV R)→OV R
 |0,S,K=>P17_0h.mat S fun vs=>rd17_0 G k K k vs
 |4,S,K=>P17_4h.mat S fun vs=>rd17_4 G k K k vs
 |2,S,K=>P17_2h.mat S fun vs=>rd17_2 G k K k vs
 |_,_,_=>none
def f17{R:Type}(G:ORC R)(k:Nat)(al1 al2:LV)(K:LV→OV R):OV R:=
 (bif((al2.length:Int)==0)then(K [.bool false])else(bif(decide (0<(al2.length:Int)))then(nthK al2 0 fun e3=>aI .i64 e3 fun n4=>bif(n4 !=0)then(K [.bool false])else(bif(((decide (0≤(al1.length:Int)))&&(decide ((al1.length:Int)≤(al1.length:Int))))&&(decide ((al1.length:Int)≤1073741824)))then(l17_0 G k al1 al2 (List.replicate (Int.toNat (al1.length:Int)) (V.bool false)) al2 (al2.length:Int) 0 (fun yl92 yl93 yl94=>l17_2 G k yl92 yl94 yl93 (yl93.length:Int) 0 (fun(_:Unit)=>K [.bool true]) (fun yb140=>K [.bool yb140])) (fun yb141=>K [.bool yb141]))else none))else none))
noncomputable def D17_0:LoopD:={id:=0,body:=loopAt 0 (bodyOf Try.f17),head:=P17_0h,out:=P17_0x,ret:=P17_0r}
theorem l17_0_is{R:Type}(G:ORC R)(k:Nat)(X:LV→OV R)(K:Ex→St→OV R)(xl5 xl6:LV)(xl7 xl8:LV)(xi9 xi10:Int):
 roundOf (TAB.env 17) G (L17 G k) D17_0 X K [.sl 7 xl5,.sl 1 xl6,.sl 1 xl7,.sl 1 xl8,.int .i64 xi9,.int .i64 xi10]=b17_0 G k (fun xl5 xl6 xl7 xl8 xi9 xi10=>X [.sl 7 xl5,.sl 1 xl6,.sl 1 xl7,.sl 1 xl8,.int .i64 xi9,.int .i64 xi10]) (fun yl142 yl143 yl144=>K .normal (P17_0x.inst [.sl 7 yl142,.sl 1 yl143,.sl 1 yl144])) (fun yb145=>K .ret (P17_0r.inst [.bool yb145])) xl5 xl6 xl7 xl8 xi9 xi10:=by kernel_rfl
noncomputable def D17_4:LoopD:={id:=4,body:=loopAt 4 (bodyOf Try.f17),head:=P17_4h,out:=P17_4x,ret:=default}
theorem l17_4_is{R:Type}(G:ORC R)(k:Nat)(X:LV→OV R)(K:Ex→St→OV R)(xl105 xl106:LV)(xi107 xi108:Int)(xb109:Bool)(xl110:LV)(xi111 xi112:Int)(xl113:LV)(xi114 xi115:Int):
 roundOf (TAB.env 17) G (L17 G k) D17_4 X K [.sl 7 xl105,.sl 1 xl106,.int .i64 xi107,.int .i64 xi108,.bool xb109,.sl 1 xl110,.int .i64 xi111,.int .i64 xi112,.sl 1 xl113,.int .i64 xi114,.int .i64 xi115]=b17_4 G k (fun xl105 xl106 xi107 xi108 xb109 xl110 xi111 xi112 xl113 xi114 xi115=>X [.sl 7 xl105,.sl 1 xl106,.int .i64 xi107,.int .i64 xi108,.bool xb109,.sl 1 xl110,.int .i64 xi111,.int .i64 xi112,.sl 1 xl113,.int .i64 xi114,.int .i64 xi115]) (fun yl146 yl147 yi148 yi149 yb150 yl151 yi152 yi153=>K .normal (P17_4x.inst [.sl 7 yl146,.sl 1 yl147,.int .i64 yi148,.int .i64 yi149,.bool yb150,.sl 1 yl151,.int .i64 yi152,.int .i64 yi153])) xl105 xl106 xi107 xi108 xb109 xl110 xi111 xi112 xl113 xi114 xi115:=by kernel_rfl
noncomputable def D17_2:LoopD:={id:=2,body:=loopAt 2 (bodyOf Try.f17),head:=P17_2h,out:=P17_2x,ret:=P17_2r}
theorem l17_2_is{R:Type}(G:ORC R)(k:Nat)(X:LV→OV R)(K:Ex→St→OV R)(xl95 xl96 xl97:LV)(xi98 xi99:Int):
 roundOf (TAB.env 17) G (L17 G k) D17_2 X K [.sl 7 xl95,.sl 1 xl96,.sl 1 xl97,.int .i64 xi98,.int .i64 xi99]=b17_2 G k (fun xl95 xl96 xl97 xi98 xi99=>X [.sl 7 xl95,.sl 1 xl96,.sl 1 xl97,.int .i64 xi98,.int .i64 xi99]) (fun _=>K .normal (P17_2x.inst [])) (fun yb154=>K .ret (P17_2r.inst [.bool yb154])) xl95 xl96 xl97 xi98 xi99:=by kernel_rfl
theorem f17_is{R:Type}(G:ORC R)(k:Nat)(K:LV→OV R)(al1 al2:LV):
 callF (TAB.env 17) G (L17 G k) Try.f17 S17 [.sl 7 al1,.sl 1 al2] K=f17 G k al1 al2 K:=by kernel_rfl
theorem li17_0{R:Type}(G:ORC R)(k:Nat):LoopIs (TAB.env 17) G (L17 G k) 0 (loopAt 0 (bodyOf Try.f17)):=
 ⟨D17_0,fun j vs K=>rd17_0 G k K j vs,k,rfl,rfl,by kernel_rfl,by kernel_rfl,by kernel_rfl,(fun vs K=>by unfold rd17_0;dsimp only;split<;>rfl),
   (fun j vs K r h=>by
     unfold rd17_0 at h
     dsimp only at h
     split at h
     ·rw[l17_0_is];exact h
     ·cases h),(fun S K r h=>h)⟩
theorem li17_4{R:Type}(G:ORC R)(k:Nat):LoopIs (TAB.env 17) G (L17 G k) 4 (loopAt 4 (bodyOf Try.f17)):=
 ⟨D17_4,fun j vs K=>rd17_4 G k K j vs,k,rfl,rfl,by kernel_rfl,by kernel_rfl,by kernel_rfl,(fun vs K=>by unfold rd17_4;dsimp only;split<;>rfl),
   (fun j vs K r h=>by
     unfold rd17_4 at h
     dsimp only at h
     split at h
     ·rw[l17_4_is];exact h
     ·cases h),(fun S K r h=>h)⟩
theorem li17_2{R:Type}(G:ORC R)(k:Nat):LoopIs (TAB.env 17) G (L17 G k) 2 (loopAt 2 (bodyOf Try.f17)):=
 ⟨D17_2,fun j vs K=>rd17_2 G k K j vs,k,rfl,rfl,by kernel_rfl,by kernel_rfl,by kernel_rfl,(fun vs K=>by unfold rd17_2;dsimp only;split<;>rfl),
   (fun j vs K r h=>by
     unfold rd17_2 at h
     dsimp only at h
     split at h
     ·rw[l17_2_is];exact h
     ·cases h),(fun S K r h=>h)⟩
theorem lo17:loopsOf (bodyOf Try.f17)=[(0,loopAt 0 (bodyOf Try.f17)),(2,loopAt 2 (bodyOf Try.f17)),(4,loopAt 4 (bodyOf Try.f17))]:=by kernel_rfl
theorem la17{R:Type}(G:ORC R)(k:Nat):LoopsAre (TAB.env 17) G (L17 G k) (bodyOf Try.f17):=
 loopsAre_of (by rw[lo17];intro p hp;simp only[List.mem_cons,List.not_mem_nil,or_false]at hp;rcases hp with rfl|rfl|rfl<;>first|exact li17_0 G k|exact li17_2 G k|exact li17_4 G k)
def g17{R:Type}(G:ORC R)(k:Nat)(args:LV)(K:LV→OV R):OV R:=match args with
 | [.sl 7 al1,.sl 1 al2]=>f17 G k al1 al2 K
 |_=>none
theorem s17{R:Type}{G:ORC R}{k:Nat}(hG:Sound Try.prog TAB G)(args:LV)(K:LV→OV R)(r:R)(h:g17 G k args K=some r):∃o,CallOK Try.prog TAB.env 17 args o∧K o=some r:=by
 unfold g17 at h
 split at h
 ·rw[←f17_is]at h
  exact callF_sound (f:=17) TAB_chk MO hG Try.func17 (sg:=S17) (by kernel_rfl) (by kernel_rfl) (la17 G k) h
 ·cases h
def P3_0h:Pat:={tmps:=unds [.undef,.undef,.undef,.var (.sl 1) .ro] 5 (unds [.var (.sl 7) .ro,.undef,.var (.sl 1) .ro,.var (.sl 2) (.own true),.var (.sl 2) (.own true),.var (.int .i64) .pr] 99 []),boxes:=nons [] 114 []}
def P3_0x:Pat:={tmps:=unds [] 9 (unds [.var (.sl 7) .ro,.undef,.var (.sl 1) .ro,.var (.sl 2) (.own true),.var (.sl 2) (.own true)] 100 []),boxes:=nons [] 114 []}
def b3_0{R:Type}(G:ORC R)(k:Nat)(X:LV→LV→LV→LV→LV→Int→OV R)(Ko:LV→LV→LV→LV→OV R)(xl28 xl29:LV)(xl30 xl31 xl32:LV)(xi33:Int):OV R:=
 (bif(decide ((IntKind.i64.wrap (xi33+1))<(xl28.length:Int)))then(bif((decide (0≤xi33))&&(decide (xi33<(xl28.length:Int))))then(nthK xl28 (Int.toNat xi33) fun e34=>aI .i64 e34 fun n35=>G 10 [.int .i64 n35,.int .i64 (xl29.length:Int)] fun o36=>uI .i64 o36 fun n38 r37=>unNil r37 (bif((decide (0≤(IntKind.i64.wrap (xi33+1))))&&(decide ((IntKind.i64.wrap (xi33+1))<(xl28.length:Int))))then(nthK xl28 (Int.toNat (IntKind.i64.wrap (xi33+1))) fun e39=>aI .i64 e39 fun n40=>G 10 [.int .i64 n40,.int .i64 (xl29.length:Int)] fun o41=>uI .i64 o41 fun n43 r42=>unNil r42 (G 11 [.sl 7 xl29,.int .i64 n38,.int .i64 n43] fun o44=>uI .i64 o44 fun n46 r45=>unNil r45 (bif(decide (List.length xl31+1≤1073741824))then(bif(decide (List.length xl32+1≤1073741824))then(X xl28 xl29 xl30 (xl31++[.agg [.int .i64 n43,.int .i64 n46]]) (xl32++[.agg [.int .i64 n43,.int .i64 n46]]) (IntKind.i64.wrap (xi33+2)))else none)else none)))else none))else none)else(Ko xl29 xl30 xl31 xl32))
def l3_0g{R:Type}(G:ORC R)(k:Nat)(Ko:LV→LV→LV→LV→OV R):Nat→LV→LV→LV→LV→LV→Int→OV R
 |0=>fun _ _ _ _ _ _=>none
 |j+1=>b3_0 G k (l3_0g G k Ko j) Ko
def l3_0{R:Type}(G:ORC R)(k:Nat)(xl28 xl29:LV)(xl30 xl31 xl32:LV)(xi33:Int)(Ko:LV→LV→LV→LV→OV R):OV R:=l3_0g G k Ko k xl28 xl29 xl30 xl31 xl32 xi33
def rd3_0{R:Type}(G:ORC R)(k:Nat)(K:Ex→St→OV R)(j:Nat)(vs:LV):OV R:=match vs with
 | [.sl 1 xl28,.sl 7 xl29,.sl 1 xl30,.sl 2 xl31,.sl 2 xl32,.int .i64 xi33]=>l3_0g G k (fun yl109 yl110 yl111 yl112=>K .normal (P3_0x.inst [.sl 7 yl109,.sl 1 yl110,.sl 2 yl111,.sl 2 yl112])) j xl28 xl29 xl30 xl31 xl32 xi33
 |_=>none
def L3{R:Type}(G:ORC R)(k:Nat):Nat→St→(Ex→St→OV R)→OV R
 |0,S,K=>P3_0h.mat S fun vs=>rd3_0 G k K k vs
 |_,_,_=>none
def f3{R:Type}(G:ORC R)(k:Nat)(al1 al2:LV)(al3 al4:LV)(K:LV→OV R):OV R:=
 (bif(decide ((al1.length:Int)>200))then(G 6 [] fun o5=>uB o5 fun b7 r6=>unNil r6 (K [.bool b7]))else(bif(decide ((al2.length:Int)>40))then(G 6 [] fun o8=>uB o8 fun b10 r9=>unNil r9 (K [.bool b10]))else(bif(decide ((al3.length:Int)>40))then(G 6 [] fun o11=>uB o11 fun b13 r12=>unNil r12 (K [.bool b13]))else(bif(decide ((al4.length:Int)>8))then(G 6 [] fun o14=>uB o14 fun b16 r15=>unNil r15 (K [.bool b16]))else(G 7 [.sl 1 al1] fun o17=>uL 7 o17 fun l19 r18=>unNil r18 (G 8 [.sl 7 l19,.int .i64 0,.sl 1 al2,.int .i64 0] fun o20=>uL 1 o20 fun l22 r21=>uI .i64 r21 fun n24 r23=>unNil r23 (bif(decide ((al3.length:Int)>0))then(G 9 [.sl 7 l19,.sl 1 l22,.sl 1 l22,.sl 1 []] fun o25=>uL 1 o25 fun l27 r26=>unNil r26 (l3_0 G k al4 l19 l27 [] [] 0 (fun yl47 yl48 yl49 yl50=>G 13 [.sl 7 yl47,.sl 2 yl49,.sl 1 yl48] fun o51=>uL 1 o51 fun l53 r52=>unNil r52 (G 14 [.sl 7 yl47,.sl 2 yl50,.sl 1 yl48] fun o54=>uL 1 o54 fun l56 r55=>unNil r55 (G 12 [.sl 1 l53,.sl 1 l56] fun o57=>uB o57 fun b59 r58=>unNil r58 (bif b59 then(G 15 [.sl 7 yl47] fun o60=>uL 1 o60 fun l62 r61=>unNil r61 (G 16 [.sl 7 yl47] fun o63=>uL 1 o63 fun l65 r64=>unNil r64 (G 12 [.sl 1 l62,.sl 1 l65] fun o66=>uB o66 fun b68 r67=>unNil r67 (bif b68 then(G 15 [.sl 7 yl47] fun o69=>uL 1 o69 fun l71 r70=>unNil r70 (G 17 [.sl 7 yl47,.sl 1 l71] fun o72=>uB o72 fun b74 r73=>unNil r73 (bif b74 then(G 6 [] fun o75=>uB o75 fun b77 r76=>unNil r76 (K [.bool b77]))else(K [.bool false]))))else(K [.bool false])))))else(K [.bool false])))))))else(l3_0 G k al4 l19 [] [] [] 0 (fun yl78 yl79 yl80 yl81=>G 13 [.sl 7 yl78,.sl 2 yl80,.sl 1 yl79] fun o82=>uL 1 o82 fun l84 r83=>unNil r83 (G 14 [.sl 7 yl78,.sl 2 yl81,.sl 1 yl79] fun o85=>uL 1 o85 fun l87 r86=>unNil r86 (G 12 [.sl 1 l84,.sl 1 l87] fun o88=>uB o88 fun b90 r89=>unNil r89 (bif b90 then(G 15 [.sl 7 yl78] fun o91=>uL 1 o91 fun l93 r92=>unNil r92 (G 16 [.sl 7 yl78] fun o94=>uL 1 o94 fun l96 r95=>unNil r95 (G 12 [.sl 1 l93,.sl 1 l96] fun o97=>uB o97 fun b99 r98=>unNil r98 (bif b99 then(G 15 [.sl 7 yl78] fun o100=>uL 1 o100 fun l102 r101=>unNil r101 (G 17 [.sl 7 yl78,.sl 1 l102] fun o103=>uB o103 fun b105 r104=>unNil r104 (bif b105 then(G 6 [] fun o106=>uB o106 fun b108 r107=>unNil r107 (K [.bool b108]))else(K [.bool false]))))else(K [.bool false])))))else(K [.bool false])))))))))))))
noncomputable def D3_0:LoopD:={id:=0,body:=loopAt 0 (bodyOf Try.f3),head:=P3_0h,out:=P3_0x,ret:=default}
theorem l3_0_is{R:Type}(G:ORC R)(k:Nat)(X:LV→OV R)(K:Ex→St→OV R)(xl28 xl29:LV)(xl30 xl31 xl32:LV)(xi33:Int):
 roundOf (TAB.env 3) G (L3 G k) D3_0 X K [.sl 1 xl28,.sl 7 xl29,.sl 1 xl30,.sl 2 xl31,.sl 2 xl32,.int .i64 xi33]=b3_0 G k (fun xl28 xl29 xl30 xl31 xl32 xi33=>X [.sl 1 xl28,.sl 7 xl29,.sl 1 xl30,.sl 2 xl31,.sl 2 xl32,.int .i64 xi33]) (fun yl109 yl110 yl111 yl112=>K .normal (P3_0x.inst [.sl 7 yl109,.sl 1 yl110,.sl 2 yl111,.sl 2 yl112])) xl28 xl29 xl30 xl31 xl32 xi33:=by kernel_rfl
theorem f3_is{R:Type}(G:ORC R)(k:Nat)(K:LV→OV R)(al1 al2:LV)(al3 al4:LV):
 callF (TAB.env 3) G (L3 G k) Try.f3 S3 [.sl 1 al1,.sl 1 al2,.sl 1 al3,.sl 1 al4] K=f3 G k al1 al2 al3 al4 K:=by kernel_rfl
theorem li3_0{R:Type}(G:ORC R)(k:Nat):LoopIs (TAB.env 3) G (L3 G k) 0 (loopAt 0 (bodyOf Try.f3)):=
 ⟨D3_0,fun j vs K=>rd3_0 G k K j vs,k,rfl,rfl,by kernel_rfl,by kernel_rfl,by kernel_rfl,(fun vs K=>by unfold rd3_0;dsimp only;split<;>rfl),
   (fun j vs K r h=>by
     unfold rd3_0 at h
     dsimp only at h
     split at h
     ·rw[l3_0_is];exact h
     ·cases h),(fun S K r h=>h)⟩
theorem lo3:loopsOf (bodyOf Try.f3)=[(0,loopAt 0 (bodyOf Try.f3))]:=by kernel_rfl
theorem la3{R:Type}(G:ORC R)(k:Nat):LoopsAre (TAB.env 3) G (L3 G k) (bodyOf Try.f3):=
 loopsAre_of (by rw[lo3];intro p hp;simp only[List.mem_cons,List.not_mem_nil,or_false]at hp;subst hp;exact li3_0 G k)
def g3{R:Type}(G:ORC R)(k:Nat)(args:LV)(K:LV→OV R):OV R:=match args with
 | [.sl 1 al1,.sl 1 al2,.sl 1 al3,.sl 1 al4]=>f3 G k al1 al2 al3 al4 K
 |_=>none
theorem s3{R:Type}{G:ORC R}{k:Nat}(hG:Sound Try.prog TAB G)(args:LV)(K:LV→OV R)(r:R)(h:g3 G k args K=some r):∃o,CallOK Try.prog TAB.env 3 args o∧K o=some r:=by
 unfold g3 at h
 split at h
 ·rw[←f3_is]at h
  exact callF_sound (f:=3) TAB_chk MO hG Try.func3 (sg:=S3) (by kernel_rfl) (by kernel_rfl) (la3 G k) h
 ·cases h
end Go.Proofs.Ytokgijpdehjckaa.Vm
namespace Go.VM
def hasL(l:List Int)(i:Int):Bool:=decide (i∈l)
def notL(a b:List Int):List Int:=a.filter fun x=> !hasL b x
def andL(a b:List Int):List Int:=notL a (notL a b)
theorem hasL_iff{l:List Int}{i:Int}:hasL l i=true↔i∈l:=by simp[hasL]
theorem andL_eq{a b:List Int}:andL a b=a.filter (hasL b):=by
 unfold andL notL
 apply List.filter_congr
 intro x hx
 simp[hasL,hx]
def ofGo(l:List Int):Nat→List Int
 |0=>[]
 |m+1=>ofGo l m++if hasL l m then[(m:Int)]else[]
def ofL(l:List Int):List Int:=ofGo l 128
theorem ofGo_len{l:List Int}:∀{m:Nat},(ofGo l m).length≤m
 |0=>Nat.le_refl 0
 |m+1=>by have:=ofGo_len (l:=l) (m:=m);unfold ofGo;split<;>simp<;>omega
theorem ofGo_more{l:List Int}{m:Nat}(h:∀x∈l,x<m):∀{d:Nat},ofGo l (m+d)=ofGo l m
 |0=>rfl
 |d+1=>by
  rw[show m+(d+1)=(m+d)+1 by omega,ofGo,ofGo_more h (d:=d),if_neg,List.append_nil]
  intro hh
  have:=h _ (hasL_iff.1 hh)
  omega
def isSt(ns:List Nd)(k:Int):Bool:=match ns[k.toNat]? with|some n=>decide (n.kind≤3)|none=>false
def statesN(ns:List Nd)(i:Int):List Int:=(kidsN ns i).filter (isSt ns)
theorem take_snoc{l:List Int}{m:Nat}{c:Int}(h:l[m]? =some c):l.take (m+1)=l.take m++[c]:=by
 rw[List.take_add_one,h];rfl
def actV(n:Nat)(s:List Int):LV:=(List.range n).map fun j:Nat=>.bool (hasL s j)
theorem actV_len{n:Nat}{s:List Int}:(actV n s).length=n:=by simp[actV]
theorem actV_get{n:Nat}{s:List Int}{j:Nat}(h:j<n):(actV n s)[j]? =some (.bool (hasL s j)):=by unfold actV;simp[h]
theorem actV_nil{n:Nat}:List.replicate n (V.bool false)=actV n []:=by
 apply List.ext_getElem?
 intro i
 by_cases h:i<n
 ·rw[actV_get h];simp[h,hasL]
 ·rw[List.getElem?_eq_none (by simp;omega),List.getElem?_eq_none (by rw[actV_len];omega)]
theorem actV_set{n:Nat}{s:List Int}{i:Int}(h0:0≤i)(hi:i<n):(actV n s).set i.toNat (.bool true)=actV n (s++[i]):=by
 apply List.ext_getElem?
 intro j
 rw[List.getElem?_set,actV_len]
 by_cases hj:i.toNat=j
 ·subst hj
  rw[if_pos rfl,if_pos (by omega),actV_get (by omega)]
  congr 2
  symm;rw[hasL_iff];simp;omega
 ·rw[if_neg hj]
  by_cases h:j<n
  ·rw[actV_get h,actV_get h]
   congr 2
   unfold hasL
   have:(j:Int)∈s↔(j:Int)∈s++[i]:=by simp;omega
   by_cases hs:(j:Int)∈s
   ·rw[decide_eq_true hs,decide_eq_true (this.1 hs)]
   ·rw[decide_eq_false hs,decide_eq_false (fun h=>hs (this.2 h))]
  ·rw[List.getElem?_eq_none (by rw[actV_len];omega),List.getElem?_eq_none (by rw[actV_len];omega)]
def StepA(ns:List Nd)(conf:List Int)(i:Nat)(c:Int):Prop:=
 (0≤c∧c<ns.length)∧(∀p,0<i→conf[i-1]? =some p→p<c)∧∀n,ns[c.toNat]? =some n→n.kind≤3∧(0<c→n.parent∈conf)
def StepB(ns:List Nd)(conf:List Int)(c:Int):Prop:=
 ∀n,ns[c.toNat]? =some n→(n.kind=2→(andL (statesN ns c) conf).length=1)∧(n.kind=3→(andL (statesN ns c) conf).length=(statesN ns c).length)
def LegalP(ns:List Nd)(conf:List Int):Prop:=(0:Int)∈conf∧∀(i:Nat) c,conf[i]? =some c→StepA ns conf i c∧StepB ns conf c
theorem asc_le{ns:List Nd}{conf:List Int}(h:∀(i:Nat) c,conf[i]? =some c→StepA ns conf i c){i:Nat}{a:Int}(ha:conf[i]? =some a):∀{d:Nat} {b:Int},conf[i+d]? =some b→a+d≤b
 |0,b,hb=>by
  have e:conf[i]? =some b:=hb
  rw[ha]at e;injection e with e;omega
 |d+1,b,hb=>by
  have hlt:=(List.getElem?_eq_some_iff.1 hb).1
  obtain⟨m,hm⟩:∃m,conf[i+d]? =some m:=⟨_,List.getElem?_eq_getElem (by omega)⟩
  have h1:=asc_le h ha (d:=d) hm
  have h2:=(h _ _ hb).2.1 m (by omega) (by rw[show i+(d+1)-1=i+d by omega];exact hm)
  omega
theorem asc_take{ns:List Nd}{conf:List Int}(h:∀(i:Nat) c,conf[i]? =some c→StepA ns conf i c){m:Nat}{c x:Int}(hc:conf[m]? =some c)(hx:x∈conf)(hlt:x<c):x∈conf.take m:=by
 obtain⟨j,hj,e⟩:=List.mem_iff_getElem.1 hx
 have ej:conf[j]? =some x:=by rw[List.getElem?_eq_getElem hj,e]
 by_cases hjm:j<m
 ·exact List.mem_of_getElem? (i:=j) (by rw[List.getElem?_take,if_pos hjm];exact ej)
 ·have:=asc_le h hc (d:=j-m) (by rw[show m+(j-m)=j by omega];exact ej)
  omega
theorem legal_head{ns:List Nd}{conf:List Int}(h:LegalP ns conf):conf[0]? =some 0:=by
 obtain⟨j,hj,e⟩:=List.mem_iff_getElem.1 h.1
 have ej:conf[j]? =some 0:=by rw[List.getElem?_eq_getElem hj,e]
 obtain⟨a,ha⟩:∃a,conf[0]? =some a:=⟨_,List.getElem?_eq_getElem (by omega)⟩
 have h0:=(h.2 0 a ha).1.1
 have:=asc_le (fun i c hc=>(h.2 i c hc).1) ha (d:=j) (by rw[Nat.zero_add];exact ej)
 rw[ha];congr 1;omega
def chainF(ns:List Nd):Nat→Int→List Int
 |0,_=>[]
 |f+1,c=>if 0≤c then(match ns[c.toNat]? with|some n=>c::chainF ns f n.parent|none=>[])else[]
def chainN(ns:List Nd)(c:Int):List Int:=chainF ns (ns.length+1) c
theorem chainF_neg{ns:List Nd}{f:Nat}{c:Int}(h:c<0):chainF ns f c=[]:=by
 cases f with
 |zero=>rfl
 |succ f=>unfold chainF;rw[if_neg (by omega)]
theorem chainF_stable{ns:List Nd}(T:Tree ns):∀(f f':Nat) (c:Int),c<f→c<f'→chainF ns f c=chainF ns f' c
 |0,f',c,h1,h2=>by rw[chainF_neg (by omega),chainF_neg (by omega)]
 |f+1,0,c,h1,h2=>by rw[chainF_neg (by omega),chainF_neg (by omega)]
 |f+1,f'+1,c,h1,h2=>by
  unfold chainF
  by_cases h0:0≤c
  ·rw[if_pos h0,if_pos h0]
   cases hn:ns[c.toNat]? with
   |none=>rfl
   |some n=>
    have:=T.seg.par c.toNat n hn
    show c::_=c::_
    rw[chainF_stable T f f' n.parent (by omega) (by omega)]
  ·rw[if_neg h0,if_neg h0]
theorem chain_neg{ns:List Nd}{c:Int}(h:c<0):chainN ns c=[]:=chainF_neg h
theorem chain_cons{ns:List Nd}(T:Tree ns){c:Int}{n:Nd}(h0:0≤c)(hn:ns[c.toNat]? =some n):chainN ns c=c::chainN ns n.parent:=by
 have:=T.seg.par c.toNat n hn
 have hl:=(List.getElem?_eq_some_iff.1 hn).1
 unfold chainN
 conv=>lhs;unfold chainF
 rw[if_pos h0,hn]
 show c::_=c::_
 rw[chainF_stable T ns.length (ns.length+1) n.parent (by omega) (by omega)]
theorem chain_all{ns:List Nd}(T:Tree ns):∀(f:Nat) (c:Int),c<f→c<ns.length→(chainN ns c).length≤f∧∀x∈chainN ns c,(0≤x∧x≤c)∧(x=c∨∃n,ns[x.toNat]? =some n∧(n.kind=2∨n.kind=3))∧∀y∈chainN ns x,y∈chainN ns c
 |f,c,h1,h2=>by
  rcases Int.lt_or_le c 0 with h0|h0
  ·rw[chain_neg h0];simp
  ·cases f with
   |zero=>omega
   |succ f=>
   obtain⟨n,hn⟩:∃n,ns[c.toNat]? =some n:=⟨_,List.getElem?_eq_getElem (by omega)⟩
   have hp:=T.seg.par c.toNat n hn
   have ec:=chain_cons T h0 hn
   obtain⟨k1,k2⟩:=chain_all T f n.parent (by omega) (by omega)
   refine⟨by rw[ec,List.length_cons];omega,?_⟩
   intro x hx
   rw[ec]at hx
   rcases List.mem_cons.1 hx with rfl|hx
   ·exact⟨⟨h0,Int.le_refl _⟩,.inl rfl,fun y hy=>hy⟩
   ·obtain⟨⟨a1,a2⟩,a3,a4⟩:=k2 x hx
    refine⟨⟨a1,by omega⟩,.inr ?_,fun y hy=>by rw[ec];exact List.mem_cons_of_mem _ (a4 y hy)⟩
    rcases a3 with rfl|a3
    ·obtain⟨p,p1,p2⟩:=T.seg.kid c.toNat n hn (by omega)
     exact⟨p,by simpa using p1,p2⟩
    ·exact a3
theorem chain_mem{ns:List Nd}(T:Tree ns){c x:Int}(hc:c<ns.length)(hx:x∈chainN ns c):(0≤x∧x≤c)∧(x=c∨∃n,ns[x.toNat]? =some n∧(n.kind=2∨n.kind=3))∧∀y∈chainN ns x,y∈chainN ns c:=
 (chain_all T (c.toNat+1) c (by omega) hc).2 x hx
def atomAt(ns:List Nd)(c:Int):Bool:=decide (0≤c∧c<ns.length)&&(match ns[c.toNat]? with|some n=>decide (n.kind=1)|none=>false)
theorem atomAt_iff{ns:List Nd}{c:Int}:atomAt ns c=true↔0≤c∧c<ns.length∧∃n,ns[c.toNat]? =some n∧n.kind=1:=by
 unfold atomAt
 rw[Bool.and_eq_true,decide_eq_true_eq]
 constructor
 ·rintro⟨⟨h1,h2⟩,h3⟩
  cases hn:ns[c.toNat]? with
  |none=>rw[hn]at h3;simp at h3
  |some n=>rw[hn]at h3;exact⟨h1,h2,n,rfl,by simpa using h3⟩
 ·rintro⟨h1,h2,n,h3,h4⟩
  rw[h3];exact⟨⟨h1,h2⟩,by simpa using h4⟩
def Asc(l:List Int):Prop:=l.Pairwise fun a b=>a<b
theorem mem_statesN{ns:List Nd}{a:Nat}{x:Int}(ha:a<ns.length):x∈statesN ns a↔∃(q:Nat) (m:Nd),x=q∧ns[q]? =some m∧m.parent=a∧m.kind≤3:=by
 unfold statesN
 rw[List.mem_filter,mem_kidsN]
 constructor
 ·rintro⟨⟨q,m,h1,h2,h3,_⟩,h4⟩
  refine⟨q,m,h1,h2,h3,?_⟩
  unfold isSt at h4
  rw[h1,Int.toNat_natCast,h2]at h4
  exact of_decide_eq_true h4
 ·rintro⟨q,m,h1,h2,h3,h4⟩
  refine⟨⟨q,m,h1,h2,h3,by omega,by omega⟩,?_⟩
  unfold isSt
  rw[h1,Int.toNat_natCast,h2]
  exact decide_eq_true h4
theorem kidsGo_asc{l:List Nd}{i:Int}:∀{m:Nat},Asc (kidsGo l i m)
 |0=>List.Pairwise.nil
 |m+1=>by
  unfold kidsGo
  refine List.pairwise_append.2 ⟨kidsGo_asc (m:=m),by split<;>simp,fun x hx y hy=> ?_⟩
  obtain⟨q,h1,h2,_⟩:=mem_kidsGo.1 hx
  split at hy
  ·rw[List.mem_singleton]at hy;omega
  ·simp at hy
theorem statesN_asc{ns:List Nd}{i:Int}:Asc (statesN ns i):=List.Pairwise.filter _ kidsGo_asc
theorem asc_one:∀{l:List Int} {x:Int},Asc l→x∈l→(l.filter fun y=>decide (y=x)).length=1
 | [],x,_,h=>by simp at h
 |a::r,x,h,hx=>by
  obtain⟨h1,h2⟩:=List.pairwise_cons.1 h
  rw[List.filter_cons]
  by_cases e:a=x
  ·rw[if_pos (decide_eq_true e),List.length_cons,List.filter_eq_nil_iff.2]
   ·rfl
   ·intro y hy
    have:=h1 y hy
    simp;omega
  ·rw[if_neg (by simpa using e)]
   rcases List.mem_cons.1 hx with h3|h3
   ·exact absurd h3.symm e
   ·exact asc_one h2 h3
theorem kid_in{ns:List Nd}(T:Tree ns){a k:Nat}{n m:Nd}(ha:ns[a]? =some n)(hk:ns[k]? =some m)(hp:m.parent=a):a<k∧(k:Int)≤n.last∧m.last≤n.last:=by
 have h0:=T.seg.par k m hk
 have h1:=T.seg.lam a k n m ha hk (by omega)
 have hal:=T.seg.last a n ha
 refine⟨by omega,by omega,?_⟩
 have hkl:=T.seg.last k m hk
 have key:∀d j:Nat,j<d→k≤j→(j:Int)≤m.last→(j:Int)≤n.last:=by
  intro d
  induction d with
  |zero=>intro j h;omega
  |succ d ih=>
   intro j hj h2 h3
   by_cases e:j=k
   ·subst e;omega
   ·obtain⟨x,hx⟩:∃x,ns[j]? =some x:=⟨_,List.getElem?_eq_getElem (by omega)⟩
    have l1:=T.seg.lam k j m x hk hx (by omega)
    have l2:=T.seg.lam a j n x ha hx (by omega)
    have l3:=T.seg.par j x hx
    have:=ih x.parent.toNat (by omega) (by omega) (by omega)
    omega
 have:=key (m.last.toNat+1) m.last.toNat (by omega) (by omega) (by omega)
 omega
theorem kid_apart{ns:List Nd}(T:Tree ns){a k k':Nat}{m m':Nd}(hk:ns[k]? =some m)(hp:m.parent=a)(hk':ns[k']? =some m')(hp':m'.parent=a)(h:k<k'):m.last<k':=by
 have l1:=T.seg.lam k k' m m' hk hk' h
 have l2:=T.seg.par k m hk
 omega
def EachS(ns:List Nd)(C:List Int)(x:Int):Prop:=
 ∃n,ns[x.toNat]? =some n∧n.kind≤3∧(n.kind=2→(andL (statesN ns x) C).length=1)∧(n.kind=3→∀y∈statesN ns x,y∈C)
def ParS(ns:List Nd)(C:List Int)(x:Int):Prop:=∀n,ns[x.toNat]? =some n→n.parent∈C
def AtomS(ns:List Nd)(C:List Int)(x:Int):Prop:=∃y∈C,atomAt ns y=true∧x∈chainN ns y
structure Sub (ns:List Nd) (a:Nat) (n:Nd) (C:List Int):Prop where
 head:(a:Int)∈C
 asc:Asc C
 rng:∀x∈C,(a:Int)≤x∧x≤n.last
 each:∀x∈C,EachS ns C x
 par:∀x∈C,x≠a→ParS ns C x
 atom:∀x∈C,AtomS ns C x
theorem each_more{ns:List Nd}{C D:List Int}{x:Int}(hx:x∈C)(h:EachS ns C x)(hsub:∀y∈C,y∈D)(hno:∀y∈statesN ns x,y∈D→y∈C):EachS ns D x:=by
 obtain⟨n,h1,h2,h3,h4⟩:=h
 refine⟨n,h1,h2,fun e=> ?_,fun e y hy=>hsub y (h4 e y hy)⟩
 rw[←h3 e,andL_eq,andL_eq]
 congr 1
 refine List.filter_congr fun y hy=> ?_
 by_cases hC:y∈C
 ·rw[hasL_iff.2 hC,hasL_iff.2 (hsub y hC)]
 ·unfold hasL;rw[decide_eq_false hC,decide_eq_false (fun h=>hC (hno y hy h))]
theorem atom_more{ns:List Nd}{C D:List Int}{x:Int}(h:AtomS ns C x)(hsub:∀y∈C,y∈D):AtomS ns D x:=by
 obtain⟨y,h1,h2⟩:=h;exact⟨y,hsub y h1,h2⟩
theorem atom_up{ns:List Nd}(T:Tree ns){C:List Int}{a k:Nat}{n m:Nd}(ha:ns[a]? =some n)(hk:ns[k]? =some m)(hp:m.parent=a)(h:AtomS ns C k):AtomS ns C a:=by
 obtain⟨y,h1,h2,h3⟩:=h
 refine⟨y,h1,h2,(chain_mem T (atomAt_iff.1 h2).2.1 h3).2.2 _ ?_⟩
 rw[chain_cons T (by omega) (by rw[Int.toNat_natCast];exact hk),hp]
 refine List.mem_cons_of_mem _ ?_
 rw[chain_cons T (by omega) (by rw[Int.toNat_natCast];exact ha)]
 exact List.mem_cons_self
theorem states_gt{ns:List Nd}(T:Tree ns){x y:Int}(h0:0≤x)(hy:y∈statesN ns x):x<y∧∃m,ns[y.toNat]? =some m∧m.parent=x:=by
 have hy':=(List.mem_filter.1 hy).1
 obtain⟨q,m,h1,h2,h3,_⟩:=mem_kidsN.1 hy'
 have:=T.seg.par q m h2
 exact⟨by omega,m,by rw[h1,Int.toNat_natCast];exact h2,h3⟩
theorem sub_atom{ns:List Nd}(T:Tree ns){a:Nat}{n:Nd}(ha:ns[a]? =some n)(hk:n.kind=1):Sub ns a n [(a:Int)]:=by
 have hal:=T.seg.last a n ha
 have hl:=Tree.lt ha
 refine⟨by simp,List.pairwise_singleton _ _,fun x hx=> ?_,fun x hx=> ?_,fun x hx h=>absurd (List.mem_singleton.1 hx) h,fun x hx=> ?_⟩
 ·rw[List.mem_singleton]at hx;omega
 ·rw[List.mem_singleton]at hx;subst hx
  exact⟨n,by rw[Int.toNat_natCast];exact ha,by omega,fun e=>by omega,fun e=>by omega⟩
 ·rw[List.mem_singleton]at hx;subst hx
  refine⟨a,by simp,atomAt_iff.2 ⟨by omega,by omega,n,by rw[Int.toNat_natCast];exact ha,hk⟩,?_⟩
  rw[chain_cons T (by omega) (by rw[Int.toNat_natCast];exact ha)];exact List.mem_cons_self
structure Par (ns:List Nd) (a:Nat) (A D:List Int):Prop where
 head:(a:Int)∈D
 asc:Asc D
 rng:∀x∈D,x=a∨∃(k:Nat) (m:Nd),(k:Int)∈A∧ns[k]? =some m∧m.parent=a∧(k:Int)≤x∧x≤m.last
 kids:∀k∈A,k∈D
 each:∀x∈D,x≠a→EachS ns D x
 par:∀x∈D,x≠a→ParS ns D x
 atom:∀x∈D,x≠a→AtomS ns D x
theorem par_nil{ns:List Nd}{a:Nat}:Par ns a [] [(a:Int)]:=
 ⟨by simp,List.pairwise_singleton _ _,fun x hx=>.inl (List.mem_singleton.1 hx),fun k hk=>by simp at hk,fun x hx h=>absurd (List.mem_singleton.1 hx) h,fun x hx h=>absurd (List.mem_singleton.1 hx) h,fun x hx h=>absurd (List.mem_singleton.1 hx) h⟩
theorem par_snoc{ns:List Nd}(T:Tree ns){a k:Nat}{m:Nd}{A C D:List Int}(hk:ns[k]? =some m)(hp:m.parent=a)(hlt:∀x∈A,x<k)(h:Par ns a A D)(hC:Sub ns k m C):Par ns a (A++[(k:Int)]) (D++C):=by
 have hak:a<k:=by have:=T.seg.par k m hk;omega
 have hml:=T.seg.last k m hk
 have hDk:∀x∈D,(0≤x∧x<k):=fun x hx=>by
  rcases h.rng x hx with rfl|⟨k',m',h1,h2,h3,h4,h5⟩
  ·omega
  ·have:=kid_apart T h2 h3 hk hp (by have:=hlt _ h1;omega)
   omega
 have hCk:∀x∈C,(k:Int)≤x∧x<ns.length:=fun x hx=>by have:=hC.rng x hx;omega
 have sD:∀y∈D,y∈D++C:=fun y h=>List.mem_append_left _ h
 have sC:∀y∈C,y∈D++C:=fun y h=>List.mem_append_right _ h
 refine⟨sD _ h.head,List.pairwise_append.2 ⟨h.asc,hC.asc,fun x hx y hy=> ?_⟩,fun x hx=> ?_,fun x hx=> ?_,fun x hx hne=> ?_,fun x hx hne=> ?_,fun x hx hne=> ?_⟩
 ·have:=hDk x hx;have:=hCk y hy;omega
 ·rcases List.mem_append.1 hx with hx|hx
  ·rcases h.rng x hx with e|⟨k',m',h1,h2,h3,h4,h5⟩
   ·exact .inl e
   ·exact .inr ⟨k',m',List.mem_append_left _ h1,h2,h3,h4,h5⟩
  ·have:=hC.rng x hx
   exact .inr ⟨k,m,by simp,hk,hp,this.1,this.2⟩
 ·rcases List.mem_append.1 hx with hx|hx
  ·exact sD _ (h.kids x hx)
  ·rw[List.mem_singleton]at hx;subst hx;exact sC _ hC.head
 ·rcases List.mem_append.1 hx with hx|hx
  ·refine each_more (C:=D) hx (h.each x hx hne) sD fun y hy hyD=> ?_
   rcases List.mem_append.1 hyD with hyD|hyC
   ·exact hyD
   ·exfalso
    obtain⟨g1,m2,g2,g3⟩:=states_gt T (hDk x hx).1 hy
    rcases h.rng x hx with e|⟨k',m',h1,h2,h3,h4,h5⟩
    ·exact hne e
    ·have l1:=T.seg.lam k' y.toNat m' m2 h2 g2 (by omega)
     have:=kid_apart T h2 h3 hk hp (by have:=hlt _ h1;omega)
     have:=hCk y hyC
     omega
  ·refine each_more (C:=C) hx (hC.each x hx) sC fun y hy hyD=> ?_
   rcases List.mem_append.1 hyD with hyD|hyC
   ·exfalso
    have:=hCk x hx
    obtain⟨g1,_⟩:=states_gt T (by omega) hy
    have:=hDk y hyD
    omega
   ·exact hyC
 ·rcases List.mem_append.1 hx with hx|hx
  ·exact fun n hn=>sD _ (h.par x hx hne n hn)
  ·by_cases e:x=k
   ·subst e
    intro n hn
    rw[Int.toNat_natCast,hk]at hn;cases hn
    rw[hp];exact sD _ h.head
   ·exact fun n hn=>sC _ (hC.par x hx e n hn)
 ·rcases List.mem_append.1 hx with hx|hx
  ·exact atom_more (h.atom x hx hne) sD
  ·exact atom_more (hC.atom x hx) sC
theorem par_rng{ns:List Nd}(T:Tree ns){a:Nat}{n:Nd}{A D:List Int}(ha:ns[a]? =some n)(h:Par ns a A D):∀x∈D,(a:Int)≤x∧x≤n.last:=by
 intro x hx
 have hal:=T.seg.last a n ha
 rcases h.rng x hx with rfl|⟨k,m,h1,h2,h3,h4,h5⟩
 ·omega
 ·have:=kid_in T ha h2 h3;omega
theorem sub_comp{ns:List Nd}(T:Tree ns){a k:Nat}{n m:Nd}{C:List Int}(ha:ns[a]? =some n)(hkd:n.kind=2)(hk:ns[k]? =some m)(hp:m.parent=a)(hm:m.kind≤3)(hC:Sub ns k m C):Sub ns a n ((a:Int)::C):=by
 have P:=par_snoc T hk hp (fun x hx=>by simp at hx) (par_nil (ns:=ns) (a:=a)) hC
 have hla:=Tree.lt ha
 have hkC:(k:Int)∈(a:Int)::C:=List.mem_cons_of_mem _ hC.head
 have hak:=(kid_in T ha hk hp).1
 refine⟨P.head,P.asc,par_rng T ha P,fun x hx=> ?_,P.par,fun x hx=> ?_⟩
 ·by_cases e:x=a
  ·subst e
   refine⟨n,by rw[Int.toNat_natCast];exact ha,by omega,fun _=> ?_,fun e=>by omega⟩
   have hks:(k:Int)∈statesN ns a:=(mem_statesN hla).2 ⟨k,m,rfl,hk,hp,hm⟩
   rw[andL_eq,←asc_one statesN_asc hks]
   congr 1
   refine List.filter_congr fun y hy=> ?_
   obtain⟨q,m2,rfl,g1,g2,g3⟩:=(mem_statesN hla).1 hy
   by_cases e:q=k
   ·subst e;rw[hasL_iff.2 hkC];simp
   ·have:(q:Int)∉(a:Int)::C:=by
     intro hm
     have gq:=T.seg.par q m2 g1
     rcases List.mem_cons.1 hm with h1|h1
     ·omega
     ·have h2:=hC.rng _ h1
      have:=kid_apart T hk hp g1 g2 (by omega)
      omega
    unfold hasL
    rw[decide_eq_false this,decide_eq_false (by omega)]
  ·exact P.each x hx e
 ·by_cases e:x=a
  ·subst e
   exact atom_up T ha hk hp (P.atom k hkC (by omega))
  ·exact P.atom x hx e
theorem sub_par{ns:List Nd}(T:Tree ns){a:Nat}{n:Nd}{D:List Int}(ha:ns[a]? =some n)(hkd:n.kind=3)(P:Par ns a (statesN ns a) D):Sub ns a n D:=by
 have hla:=Tree.lt ha
 refine⟨P.head,P.asc,par_rng T ha P,fun x hx=> ?_,P.par,fun x hx=> ?_⟩
 ·by_cases e:x=a
  ·subst e
   exact⟨n,by rw[Int.toNat_natCast];exact ha,by omega,fun e=>by omega,fun _=>P.kids⟩
  ·exact P.each x hx e
 ·by_cases e:x=a
  ·subst e
   obtain⟨m,h1,h2,h3⟩:=T.seg.first a n ha (.inr hkd)
   have h4:((a+1:Nat):Int)∈statesN ns a:=(mem_statesN hla).2 ⟨a+1,m,rfl,h1,by omega,h3⟩
   exact atom_up T ha h1 (by omega) (P.atom _ (P.kids _ h4) (by omega))
  ·exact P.atom x hx e
theorem filt_next:∀{l:List Int} {m:Nat},Asc l→l.filter (fun x=>decide (x<((m+1:Nat):Int)))=l.filter (fun x=>decide (x<(m:Int)))++if hasL l m then[(m:Int)]else[]
 | [],m,_=>by simp[hasL]
 |a::r,m,h=>by
  obtain⟨h1,h2⟩:=List.pairwise_cons.1 h
  have ih:=filt_next (m:=m) h2
  rw[List.filter_cons,List.filter_cons]
  by_cases e:a<(m:Int)
  ·rw[if_pos (decide_eq_true (by omega)),if_pos (decide_eq_true e),ih]
   have:hasL (a::r) m=hasL r m:=by
    unfold hasL
    by_cases hr:(m:Int)∈r
    ·rw[decide_eq_true hr,decide_eq_true (List.mem_cons_of_mem _ hr)]
    ·rw[decide_eq_false hr,decide_eq_false]
     intro hh
     rcases List.mem_cons.1 hh with h3|h3
     ·omega
     ·exact hr h3
   rw[this];rfl
  ·have nil1:∀b:Int,b≤m+1→(m:Int)≤a→r.filter (fun x=>decide (x<b))=[]:=fun b hb ha=>List.filter_eq_nil_iff.2 fun y hy=>by have:=h1 y hy;simp;omega
   rw[if_neg (show¬decide (a<(m:Int))=true by simp;omega),nil1 m (by omega) (by omega),nil1 ((m+1:Nat):Int) (by omega) (by omega)]
   by_cases e2:a=m
   ·subst e2
    rw[if_pos (decide_eq_true (show(m:Int)<((m+1:Nat):Int)by omega)),if_pos (hasL_iff.2 List.mem_cons_self)];rfl
   ·rw[if_neg (show¬decide (a<((m+1:Nat):Int))=true by simp;omega),if_neg]
    ·rfl
    ·intro hh
     rcases List.mem_cons.1 (hasL_iff.1 hh)with h3|h3
     ·omega
     ·have:=h1 _ h3;omega
theorem ofGo_asc{l:List Int}(h:Asc l)(h0:∀x∈l,0≤x):∀m:Nat,ofGo l m=l.filter fun x=>decide (x<(m:Int))
 |0=>by symm;exact List.filter_eq_nil_iff.2 fun y hy=>by have:=h0 y hy;simp;omega
 |m+1=>by rw[ofGo,ofGo_asc h h0 m,filt_next h]
theorem ofGo_self{l:List Int}{m:Nat}(h:Asc l)(h0:∀x∈l,0≤x∧x<m):ofGo l m=l:=by
 rw[ofGo_asc h (fun x hx=>(h0 x hx).1),List.filter_eq_self]
 intro x hx;exact decide_eq_true (h0 x hx).2
section
variable {ns : List Nd} {n : Nd} {C : List Int}
theorem sub_rng(T:Tree ns)(h0:ns[0]? =some n)(h:Sub ns 0 n C):∀x∈C,0≤x∧x<ns.length:=fun x hx=>by
 have:=h.rng x hx
 have:=T.seg.last 0 n h0
 omega
theorem sub_legal(T:Tree ns)(h0:ns[0]? =some n)(h:Sub ns 0 n C):LegalP ns C:=by
 refine⟨h.head,fun i c hc=> ?_⟩
 have hm:=List.mem_of_getElem? hc
 have hr:=sub_rng T h0 h c hm
 obtain⟨m,m1,m2,m3,m4⟩:=h.each c hm
 refine⟨⟨hr,fun p hi hp=> ?_,fun m' hm'=> ?_⟩,fun m' hm'=> ?_⟩
 ·obtain⟨hi1,e1⟩:=List.getElem?_eq_some_iff.1 hp
  obtain⟨hi2,e2⟩:=List.getElem?_eq_some_iff.1 hc
  have:=List.pairwise_iff_getElem.1 h.asc (i-1) i hi1 hi2 (by omega)
  rw[e1,e2]at this;exact this
 ·rw[m1]at hm';cases hm'
  exact⟨m2,fun hc0=>h.par c hm (by omega) m m1⟩
 ·rw[m1]at hm';cases hm'
  refine⟨m3,fun e=> ?_⟩
  rw[andL_eq,List.length_filter_eq_length_iff]
  exact fun y hy=>hasL_iff.2 (m4 e y hy)
theorem sub_of(T:Tree ns)(hl:ns.length≤128)(h0:ns[0]? =some n)(h:Sub ns 0 n C):ofL C=C:=ofGo_self h.asc fun x hx=>by have:=sub_rng T h0 h x hx;omega
end
def anyN(ns:List Nd)(e:List Int)(k:Int):Bool:=e.any fun x=>inN ns x k
def regF(ns:List Nd)(dn:Int→List Int→List Int):List Int→List Int→List Int
 | [],e=>e
 |k::r,e=>regF ns dn r (if anyN ns e k then e else dn k e)
def dnF(ns:List Nd):Nat→Int→List Int→List Int
 |0,_,e=>e
 |f+1,s,e=>match ns[s.toNat]? with
  |some n=>if n.kind=2 then dnF ns f n.init (e++[s])else if n.kind=3 then regF ns (dnF ns f) (statesN ns s) (e++[s])else e++[s]
  |none=>e
def dnN(ns:List Nd)(s:Int)(e:List Int):List Int:=dnF ns (ns.length+1) s e
theorem regF_congr{ns:List Nd}{p q:Int→List Int→List Int}:∀{l:List Int} {e:List Int},(∀k∈l,∀e,p k e=q k e)→regF ns p l e=regF ns q l e
 | [],e,_=>rfl
 |k::r,e,h=>by
  rw[regF,regF,h k List.mem_cons_self,regF_congr fun j hj=>h j (List.mem_cons_of_mem _ hj)]
theorem dnF_at{ns:List Nd}{f:Nat}{a:Nat}{n:Nd}{e:List Int}(h:ns[a]? =some n):dnF ns (f+1) a e=if n.kind=2 then dnF ns f n.init (e++[(a:Int)])else if n.kind=3 then regF ns (dnF ns f) (statesN ns a) (e++[(a:Int)])else e++[(a:Int)]:=by
 show(match ns[((a:Nat):Int).toNat]? with|some n=>_|none=>_)=_
 rw[Int.toNat_natCast,h]
theorem init_at{ns:List Nd}(T:Tree ns){a:Nat}{n:Nd}(h:ns[a]? =some n)(hk:n.kind=2):n.init=((a+1:Nat):Int)∧∃m,ns[a+1]? =some m∧m.parent=a∧m.kind≤3∧m.last≤n.last:=by
 have h1:=T.seg.init a n h
 obtain⟨m,m1,m2,m3⟩:=T.seg.first a n h (.inl hk)
 rw[if_pos hk]at h1
 refine⟨by omega,m,m1,by omega,m3,?_⟩
 exact(kid_in T h m1 (by omega)).2.2
theorem dnF_same{ns:List Nd}(T:Tree ns):∀(f f':Nat) (a:Nat) (n:Nd) (e:List Int),ns[a]? =some n→n.last-a<f→n.last-a<f'→dnF ns f a e=dnF ns f' a e
 |0,f',a,n,e,h,h1,h2=>by have:=T.seg.last a n h;omega
 |f+1,0,a,n,e,h,h1,h2=>by have:=T.seg.last a n h;omega
 |f+1,f'+1,a,n,e,h,h1,h2=>by
  rw[dnF_at h,dnF_at h]
  split
  ·rename_i hk
   obtain⟨i1,m,m1,m2,m3,m4⟩:=init_at T h hk
   rw[i1]
   exact dnF_same T f f' (a+1) m _ m1 (by omega) (by omega)
  ·split
   ·refine regF_congr fun k hk e'=> ?_
    obtain⟨q,m,rfl,m1,m2,m3⟩:=(mem_statesN (Tree.lt h)).1 hk
    have:=kid_in T h m1 m2
    exact dnF_same T f f' q m e' m1 (by omega) (by omega)
   ·rfl
theorem dnN_at{ns:List Nd}(T:Tree ns){a:Nat}{n:Nd}{e:List Int}(h:ns[a]? =some n):dnN ns a e=if n.kind=2 then dnN ns n.init (e++[(a:Int)])else if n.kind=3 then regF ns (dnN ns) (statesN ns a) (e++[(a:Int)])else e++[(a:Int)]:=by
 have hl:=T.seg.last a n h
 have ha:=Tree.lt h
 unfold dnN
 rw[dnF_at h]
 split
 ·rename_i hk
  obtain⟨i1,m,m1,m2,m3,m4⟩:=init_at T h hk
  rw[i1]
  exact dnF_same T _ _ (a+1) m _ m1 (by omega) (by omega)
 ·split
  ·refine regF_congr fun k hk e'=> ?_
   obtain⟨q,m,rfl,m1,m2,m3⟩:=(mem_statesN (Tree.lt h)).1 hk
   have:=kid_in T h m1 m2
   exact dnF_same T _ _ q m e' m1 (by omega) (by omega)
  ·rfl
theorem regF_len{ns:List Nd}(T:Tree ns){dn:Int→List Int→List Int}{a:Nat}{n:Nd}(ha:ns[a]? =some n)(hd:∀(q:Nat) (m:Nd),ns[q]? =some m→m.parent=a→m.kind≤3→∀e,(dn q e).length≤e.length+(m.last-q+1).toNat):
 ∀(l:List Int) (lo:Int) (e:List Int),(∀k∈l,k∈statesN ns a∧lo≤k)→Asc l→lo≤n.last+1→(regF ns dn l e).length≤e.length+(n.last+1-lo).toNat
 | [],lo,e,_,_,h=>by rw[regF];omega
 |k::r,lo,e,hl,hA,h=>by
  obtain⟨hk,hlo⟩:=hl k List.mem_cons_self
  obtain⟨q,m,rfl,m1,m2,m3⟩:=(mem_statesN (Tree.lt ha)).1 hk
  have h1:=hd q m m1 m2 m3 e
  have h2:=kid_in T ha m1 m2
  have h3:=T.seg.last q m m1
  obtain⟨a1,a2⟩:=List.pairwise_cons.1 hA
  have ih:=regF_len T ha hd r (m.last+1) (if anyN ns e q then e else dn q e) (fun j hj=> ?_) a2 (by omega)
  ·rw[regF]
   refine Nat.le_trans ih ?_
   split<;>omega
  ·have hj2:=(hl j (List.mem_cons_of_mem _ hj)).1
   obtain⟨q',m',rfl,g1,g2,g3⟩:=(mem_statesN (Tree.lt ha)).1 hj2
   have:=a1 _ hj
   have:=kid_apart T m1 m2 g1 g2 (by omega)
   exact⟨hj2,by omega⟩
theorem dnN_len{ns:List Nd}(T:Tree ns):∀(f:Nat) (a:Nat) (n:Nd) (e:List Int),ns[a]? =some n→n.last-a<f→(dnN ns a e).length≤e.length+(n.last-a+1).toNat
 |0,a,n,e,h,h1=>by have:=T.seg.last a n h;omega
 |f+1,a,n,e,h,h1=>by
  have hl:=T.seg.last a n h
  rw[dnN_at T h]
  split
  ·rename_i hk
   obtain⟨i1,m,m1,m2,m3,m4⟩:=init_at T h hk
   rw[i1]
   have:=dnN_len T f (a+1) m (e++[(a:Int)]) m1 (by omega)
   rw[List.length_append,List.length_singleton]at this
   have:=T.seg.last (a+1) m m1
   omega
  ·split
   ·have:=regF_len T h (dn:=dnN ns) (fun q m m1 m2 m3 e=>by
     have:=kid_in T h m1 m2
     exact dnN_len T f q m e m1 (by omega)) (statesN ns a) (a+1) (e++[(a:Int)]) (fun k hk=>⟨hk,by
      have:=(states_gt T (by omega) hk).1
      omega⟩) statesN_asc (by omega)
    rw[List.length_append,List.length_singleton]at this
    omega
   ·rw[List.length_append,List.length_singleton];omega
theorem dnN_le{ns:List Nd}(T:Tree ns){a:Nat}{n:Nd}{e:List Int}(h:ns[a]? =some n):(dnN ns a e).length≤e.length+ns.length:=by
 have:=dnN_len T (n.last-a+1).toNat a n e h (by have:=T.seg.last a n h;omega)
 have:=T.seg.last a n h
 omega
def Free(ns:List Nd)(a:Nat)(n:Nd)(e:List Int):Prop:=∀x∈e,x<(a:Int)∨n.last<x
theorem any_free{ns:List Nd}{a:Nat}{n:Nd}{e:List Int}(h:ns[a]? =some n)(hf:Free ns a n e):anyN ns e a=false:=by
 unfold anyN
 rw[List.any_eq_false]
 intro x hx
 unfold inN
 rw[Int.toNat_natCast,h]
 have:=hf x hx
 simp only[Bool.and_eq_true,decide_eq_true_eq]
 omega
theorem reg_sub{ns:List Nd}(T:Tree ns){a:Nat}{n:Nd}(ha:ns[a]? =some n)
 (hd:∀(q:Nat) (m:Nd),ns[q]? =some m→m.parent=a→m.kind≤3→∀e,Free ns q m e→∃C,dnN ns q e=e++C∧Sub ns q m C) {e:List Int} (he:Free ns a n e):
 ∀(r A D:List Int),statesN ns a=A++r→Par ns a A D→∃D',regF ns (dnN ns) r (e++D)=e++D'∧Par ns a (statesN ns a) D'
 | [],A,D,hA,hP=>⟨D,rfl,by rw[hA,List.append_nil];exact hP⟩
 |k::r,A,D,hA,hP=>by
  have hk:k∈statesN ns a:=by rw[hA];simp
  obtain⟨q,m,rfl,m1,m2,m3⟩:=(mem_statesN (Tree.lt ha)).1 hk
  have hki:=kid_in T ha m1 m2
  have hS:Asc (A++(q:Int)::r):=by rw[←hA];exact statesN_asc
  have hlt:∀x∈A,x<(q:Int):=fun x hx=>(List.pairwise_append.1 hS).2.2 x hx _ List.mem_cons_self
  have hfr:Free ns q m (e++D):=fun x hx=>by
   rcases List.mem_append.1 hx with hx|hx
   ·have:=he x hx;omega
   ·rcases hP.rng x hx with h|⟨k',m',hk',g1,g2,g3,g4⟩
    ·omega
    ·have:=hlt _ hk'
     have:=kid_apart T g1 g2 m1 m2 (by omega)
     omega
  obtain⟨C,c1,c2⟩:=hd q m m1 m2 m3 (e++D) hfr
  obtain⟨D',d1,d2⟩:=reg_sub T ha hd he r (A++[(q:Int)]) (D++C) (by rw[hA];simp) (par_snoc T m1 m2 hlt hP c2)
  refine⟨D',?_,d2⟩
  rw[regF,any_free m1 hfr,if_neg (by simp),c1,List.append_assoc]
  exact d1
theorem dnN_sub{ns:List Nd}(T:Tree ns):∀(f:Nat) (a:Nat) (n:Nd) (e:List Int),ns[a]? =some n→n.kind≤3→n.last-a<f→Free ns a n e→∃C,dnN ns a e=e++C∧Sub ns a n C
 |0,a,n,e,h,_,h1,_=>by have:=T.seg.last a n h;omega
 |f+1,a,n,e,h,h3,h1,hf=>by
  have hl:=T.seg.last a n h
  have hkinds:=T.seg.kinds a n h
  rw[dnN_at T h]
  split
  ·rename_i hk
   obtain⟨i1,m,m1,m2,m3,m4⟩:=init_at T h hk
   rw[i1]
   obtain⟨C,c1,c2⟩:=dnN_sub T f (a+1) m (e++[(a:Int)]) m1 m3 (by omega) (fun x hx=>by
    rcases List.mem_append.1 hx with hx|hx
    ·have:=hf x hx;omega
    ·rw[List.mem_singleton]at hx;omega)
   refine⟨(a:Int)::C,by rw[c1,List.append_assoc];rfl,sub_comp T h hk m1 m2 m3 c2⟩
  ·split
   ·rename_i hk
    obtain⟨D,d1,d2⟩:=reg_sub T h (fun q m m1 m2 m3 e he=>by
     have:=kid_in T h m1 m2
     exact dnN_sub T f q m e m1 m3 (by omega) he) hf (statesN ns a) [] [(a:Int)] rfl par_nil
    exact⟨D,d1,sub_par T h hk d2⟩
   ·exact⟨_,rfl,sub_atom T h (by omega)⟩
theorem begin_sub{ns:List Nd}(T:Tree ns){n:Nd}(h:ns[0]? =some n):Sub ns 0 n (dnN ns 0 []):=by
 obtain⟨C,c1,c2⟩:=dnN_sub T (n.last+1).toNat 0 n [] h (by have:=T.root n h;omega) (by have:=T.seg.last 0 n h;omega) (fun x hx=>by cases hx)
 rw[show dnN ns 0 []=C from c1]
 exact c2
end Go.VM
namespace Go.Proofs.Ytokgijpdehjckaa.Vm
section
variable {R : Type} {G : ORC R} {k : Nat} {K : LV → OV R}
def PlaceS(G:ORC R):Prop:=∀(v n:Int) (K:LV→OV R),0<n→n≤1099511627776→W (fun o=>∃x,o=[.int .i64 x]∧0≤x∧x<n) K (G 10 [.int .i64 v,.int .i64 n] K)
theorem place_ok:PlaceS (fun _ args (K:LV→OV R)=>g10 G k args K):=by
 intro v n K h1 h2
 show W _ K (f10 G k v n K)
 unfold f10
 have ht:=tmod_lt (v:=v) h1
 refine W_not ?_
 refine W_beqI (fun h=>by omega) (fun _=> ?_)
 refine W_dec (fun h=> ?_) (fun h=> ?_)
 ·rw[wrap_id (by omega)];exact W_ret ⟨_,rfl,by omega,by omega⟩
 ·exact W_ret ⟨_,rfl,by omega,by omega⟩
def NextS(G:ORC R):Prop:=∀(n:Int) (L:LV) (i:Int) (K:LV→OV R),0<n→n≤1099511627776→RowS L i→W (fun o=>∃x j,o=[.int .i64 x,.int .i64 j]∧0≤x∧x<n∧RowS L j) K (G 26 [.int .i64 n,.sl 1 L,.int .i64 i] K)
theorem next_ok(hP:PlaceS G):NextS (fun _ args (K:LV→OV R)=>g26 G k args K):=by
 intro n L i K h1 h2 hr
 obtain⟨r1,r2,r3,r4⟩:=hr
 show W _ K (f26 G k n L i K)
 unfold f26
 have e1:IntKind.i64.wrap (i+1)=i+1:=wrap_id (by omega)
 have e2:IntKind.i64.wrap (i+1-1)=i:=by rw[wrap_id (by omega)];omega
 rw[e1,e2]
 refine W_dec (fun h=> ?_) (fun h=> ?_)
 ·exact W_ret ⟨_,_,rfl,by omega,by omega,r1,r2,r3,r4⟩
 ·refine W_and (W_yes (by omega) (W_yes (by omega) ?_))
  refine W_nth (by omega) (fun v _ hv=> ?_)
  obtain⟨m,rfl,hm⟩:=r1 v hv
  refine W_aI ?_
  refine W_call (hP m n _ h1 h2) ?_
  rintro o ⟨x,rfl,x1,x2⟩
  refine W_uI (W_unNil ?_)
  exact W_ret ⟨_,_,rfl,x1,x2,r1,r2,by omega,by omega⟩
def EventS(G:ORC R):Prop:=∀(n:Int) (K:LV→OV R),W (fun o=>∃s,o=[.str s]∧StrS s) K (G 71 [.int .i64 n] K)
theorem event_ok(hP:PlaceS G):EventS (fun _ args (K:LV→OV R)=>g71 G k args K):=by
 intro n K
 show W _ K (f71 G k n K)
 unfold f71
 refine W_call (hP n 8 _ (by omega) (by omega)) ?_
 rintro o ⟨x,rfl,x1,x2⟩
 refine W_uI (W_unNil ?_)
 refine W_and (W_yes (by omega) (W_yes (by omega) ?_))
 refine W_nth (by simp;omega) (fun v _ hv=> ?_)
 simp only[List.mem_cons,List.not_mem_nil,or_false]at hv
 rcases hv with rfl|rfl|rfl|rfl|rfl|rfl|rfl|rfl<;>exact W_ret ⟨_,rfl,by unfold StrS;decide⟩
def PickS(G:ORC R):Prop:=∀(l:LV) (s:ByteArray) (L:LV) (i:Int) (m:Nat) (K:LV→OV R),StrsS m l→m≤100000→StrS s→RowS L i→W (fun o=>∃t j,o=[.str t,.int .i64 j]∧StrS t∧(l=[]∨ .str t∈l)∧RowS L j) K (G 73 [.sl 1 l,.str s,.sl 1 L,.int .i64 i] K)
theorem pick_ok(hN:NextS G):PickS (fun _ args (K:LV→OV R)=>g73 G k args K):=by
 intro l s L i m K hl hm hs hr
 show W _ K (f73 G k l s L i K)
 unfold f73
 have h1:=hl.1
 refine W_beqI (fun h=> ?_) (fun h=> ?_)
 ·exact W_ret ⟨_,_,rfl,hs,.inl (List.eq_nil_of_length_eq_zero (by omega)),hr⟩
 ·refine W_call (hN _ L i _ (by omega) (by omega) hr) ?_
  rintro o ⟨x,j,rfl,x1,x2,hr2⟩
  refine W_uI (W_uI (W_unNil ?_))
  refine W_and (W_yes (by omega) (W_yes (by omega) ?_))
  refine W_nth (by omega) (fun v _ hv=> ?_)
  obtain⟨t,rfl,ht⟩:=hl.2 v hv
  exact W_asStr (W_ret ⟨_,_,rfl,ht,.inr hv,hr2⟩)
end
section
variable {R : Type} {G : ORC R} {k : Nat} {K : LV → OV R}
theorem extract_size(s:ByteArray)(a b:Nat):(ByteArray.extract s a b).size≤s.size:=by
 rw[ByteArray.size_extract];omega
theorem ext_dg{n:Int}(h1:0≤n)(h2:n<10):ByteArray.extract ⟨#[48,49,50,51,52,53,54,55,56,57]⟩ n.toNat (n+1).toNat=dg n.toNat:=by
 have:n=0∨n=1∨n=2∨n=3∨n=4∨n=5∨n=6∨n=7∨n=8∨n=9:=by omega
 rcases this with rfl|rfl|rfl|rfl|rfl|rfl|rfl|rfl|rfl|rfl<;>rfl
def DecS(d:Nat)(G:ORC R):Prop:=∀(n:Int) (K:LV→OV R),0≤n→n<10^d→W (fun o=>o=[.str (decD d n.toNat)]) K (G 89 [.int .i64 n] K)
theorem dec_step{d:Nat}(hd:d≤9)(hD:d=0∨DecS d G):DecS (d+1) (fun _ args (K:LV→OV R)=>g89 G k args K):=by
 intro n K h1 h2
 have hp:(10:Int)^(d+1)=10^d*10:=Int.pow_succ _ _
 have hb:(10:Int)^d≤10^9:=by
  have:(10:Nat)^d≤10^9:=Nat.pow_le_pow_right (by decide) hd
  exact_mod_cast this
 show W _ K (f89 G k n K)
 unfold f89
 refine W_no (by omega) (W_no (by omega) ?_)
 refine W_dec (fun h=> ?_) (fun h=> ?_)
 ·rw[wrap_id (n:=n+1) (by omega)]
  have hsz:ByteArray.size ⟨#[48,49,50,51,52,53,54,55,56,57]⟩=10:=by decide
  refine W_and (W_and (W_yes (by omega) (W_yes (by omega) (W_yes (by rw[hsz];omega) ?_))))
  exact W_ret (by rw[ext_dg h1 h];unfold decD;rw[if_pos (by omega)])
 ·have ht:Int.tdiv n 10=n/10:=Int.tdiv_eq_ediv_of_nonneg h1
  have hm:Int.tmod n 10=n % 10:=Int.tmod_eq_emod_of_nonneg h1
  rw[ht,hm]
  rw[wrap_id (n:=n/10) (by omega)]
  have hD':DecS d G:=by
   rcases hD with rfl|hD
   ·simp at h2;omega
   ·exact hD
  refine W_call (hD' (n/10) _ (by omega) (by omega)) ?_
  rintro o rfl
  have hs:=decD_size (d:=d) (n:=(n/10).toNat)
  refine W_uS (W_unNil ?_)
  rw[wrap_id (n:=n % 10+1) (by omega)]
  have hsz:ByteArray.size ⟨#[48,49,50,51,52,53,54,55,56,57]⟩=10:=by decide
  have he:=extract_size ⟨#[48,49,50,51,52,53,54,55,56,57]⟩ (Int.toNat (n % 10)) (Int.toNat (n % 10+1))
  rw[hsz]at he
  refine W_and (W_and (W_yes (by omega) (W_yes (by omega) (W_yes (by rw[hsz];omega) ?_))))
  refine W_yes (by omega) ?_
  refine W_ret ?_
  rw[ext_dg (n:=n % 10) (by omega) (by omega)]
  show _=[V.str (if n.toNat<10 then dg n.toNat else decD d (n.toNat/10)++dg (n.toNat % 10))]
  rw[if_neg (by omega),show(n/10).toNat=n.toNat/10 by omega,show(n % 10).toNat=n.toNat % 10 by omega]
def DigS(G:ORC R):Prop:=∀(n:Int) (K:LV→OV R),0≤n→n<1000→W (fun o=>o=[.str (digB n.toNat)]) K (G 69 [.int .i64 n] K)
theorem dig_ok(hD:DecS 3 G):DigS (fun _ args (K:LV→OV R)=>g69 G k args K):=by
 intro n K h1 h2
 show W _ K (f69 G k n K)
 unfold f69
 refine W_call (hD n _ h1 (by simpa using h2)) ?_
 rintro o rfl
 exact W_uS (W_unNil (W_ret rfl))
theorem strs_snoc{m:Nat}{l:LV}{s:ByteArray}(h:StrsS m l)(hs:StrS s):StrsS (m+1) (l++[.str s]):=by
 refine⟨by have:=h.1;simp;omega,fun v hv=> ?_⟩
 rcases List.mem_append.1 hv with hv|hv
 ·exact h.2 v hv
 ·rw[List.mem_singleton.1 hv];exact⟨s,rfl,hs⟩
def NamesS(G:ORC R):Prop:=∀(s:ByteArray) (n:Int) (K:LV→OV R),s.size≤10→0≤n→n≤100→W (fun o=>∃l,o=[.sl 1 l]∧StrsS 100 l) K (G 53 [.str s,.int .i64 n] K)
theorem names_loop(hD:DigS G){Q:LV→Prop}{K:LV→OV R}{Ko:LV→OV R}{s:ByteArray}{n:Int}(hs:s.size≤10)(hn:n≤100)(hKo:∀l,StrsS 100 l→W Q K (Ko l)):
 ∀(j:Nat) (acc:LV) (i:Int),0≤i→i≤n→n-i<j→StrsS i.toNat acc→W Q K (l53_0g G k Ko j s n acc i)
 |0,acc,i,h1,h2,h3,h4=>by omega
 |j+1,acc,i,h1,h2,h3,h4=>by
  show W Q K (b53_0 G k (l53_0g G k Ko j) Ko s n acc i)
  unfold b53_0
  refine W_dec (fun h=> ?_) (fun h=> ?_)
  ·refine W_call (hD i _ h1 (by omega)) ?_
   rintro o rfl
   have ht:=decD_size (d:=3) (n:=i.toNat)
   change (digB i.toNat).size≤3 at ht
   refine W_uS (W_unNil ?_)
   have hl:=h4.1
   refine W_yes (by omega) (W_yes (by omega) ?_)
   rw[wrap_id (n:=i+1) (by omega)]
   refine names_loop hD hs hn hKo j _ (i+1) (by omega) (by omega) (by omega) ?_
   rw[show(i+1).toNat=i.toNat+1 by omega]
   exact strs_snoc h4 (by unfold StrS;rw[ByteArray.size_append];omega)
  ·exact hKo acc ⟨by have:=h4.1;omega,h4.2⟩
theorem names_ok(hk:1000≤k)(hD:DigS G):NamesS (fun _ args (K:LV→OV R)=>g53 G k args K):=by
 intro s n K hs h1 h2
 show W _ K (f53 G k s n K)
 unfold f53 l53_0
 exact names_loop hD hs h2 (fun l hl=>W_ret ⟨_,rfl,hl⟩) k [] 0 (by omega) h1 (by omega) ⟨by simp,by simp⟩
theorem named_snoc{m:Nat}{l:LV}{s:ByteArray}{n:Int}(h:NamedS m l)(hs:StrS s)(hn:I64 n):NamedS (m+1) (l++[.agg [.str s,.int .i64 n,.int .i64 0]]):=by
 refine⟨by have:=h.1;simp;omega,fun v hv=> ?_⟩
 rcases List.mem_append.1 hv with hv|hv
 ·exact h.2 v hv
 ·rw[List.mem_singleton.1 hv];exact⟨s,n,rfl,hs,hn⟩
def NumdS(G:ORC R):Prop:=∀(l L:LV) (i:Int) (K:LV→OV R),StrsS 100 l→RowS L i→W (fun o=>∃q j,o=[.sl 3 q,.int .i64 j]∧NamedS 100 q∧RowS L j) K (G 54 [.sl 1 l,.sl 1 L,.int .i64 i] K)
theorem named_loop(hN:NextS G){Q:LV→Prop}{K:LV→OV R}{Ko:LV→LV→Int→OV R}{l L:LV}(hl:StrsS 100 l)(hKo:∀q at_,NamedS 100 q→RowS L at_→W Q K (Ko q L at_)):
 ∀(j:Nat) (acc:LV) (i at_:Int),0≤i→i≤(l.length:Int)→(l.length:Int)-i<j→NamedS i.toNat acc→RowS L at_→W Q K (l54_0g G k Ko j l acc i L at_)
 |0,acc,i,at_,h1,h2,h3,h4,h5=>by omega
 |j+1,acc,i,at_,h1,h2,h3,h4,h5=>by
  show W Q K (b54_0 G k (l54_0g G k Ko j) Ko l acc i L at_)
  unfold b54_0
  have hll:=hl.1
  refine W_dec (fun h=> ?_) (fun h=> ?_)
  ·refine W_and (W_yes h1 (W_yes h ?_))
   refine W_nth (by omega) (fun v _ hv=> ?_)
   obtain⟨t,rfl,ht⟩:=hl.2 v hv
   refine W_asStr ?_
   refine W_call (hN 9 L at_ _ (by omega) (by omega) h5) ?_
   rintro o ⟨x,at2,rfl,x1,x2,h6⟩
   refine W_uI (W_uI (W_unNil ?_))
   have hla:=h4.1
   refine W_yes (by omega) ?_
   rw[wrap_id (n:=i+1) (by omega),wrap_id (n:=x-4) (by omega)]
   refine named_loop hN hl hKo j _ (i+1) at2 (by omega) (by omega) (by omega) ?_ h6
   rw[show(i+1).toNat=i.toNat+1 by omega]
   exact named_snoc h4 ht (by unfold I64;omega)
  ·exact hKo acc at_ ⟨by have:=h4.1;omega,h4.2⟩ h5
theorem named_ok(hk:1000≤k)(hN:NextS G):NumdS (fun _ args (K:LV→OV R)=>g54 G k args K):=by
 intro l L i K hl hr
 show W _ K (f54 G k l L i K)
 unfold f54 l54_0
 exact named_loop hN hl (fun q at_ hq hr=>W_ret ⟨_,_,rfl,hq,hr⟩) k [] 0 i (by omega) (by omega) (by have:=hl.1;omega) ⟨by simp,by simp⟩ hr
def PlainS(G:ORC R):Prop:=∀(l:LV) (K:LV→OV R),StrsS 100 l→W (fun o=>∃q,o=[.sl 3 q]∧NamedS 100 q) K (G 55 [.sl 1 l] K)
theorem plain_loop{Q:LV→Prop}{K:LV→OV R}{Ko:LV→OV R}{l:LV}(hl:StrsS 100 l)(hKo:∀q,NamedS 100 q→W Q K (Ko q)):
 ∀(j:Nat) (acc:LV) (i:Int),0≤i→i≤(l.length:Int)→(l.length:Int)-i<j→NamedS i.toNat acc→W Q K (l55_0g G k Ko j l acc i)
 |0,acc,i,h1,h2,h3,h4=>by omega
 |j+1,acc,i,h1,h2,h3,h4=>by
  show W Q K (b55_0 G k (l55_0g G k Ko j) Ko l acc i)
  unfold b55_0
  have hll:=hl.1
  refine W_dec (fun h=> ?_) (fun h=> ?_)
  ·refine W_and (W_yes h1 (W_yes h ?_))
   refine W_nth (by omega) (fun v _ hv=> ?_)
   obtain⟨t,rfl,ht⟩:=hl.2 v hv
   refine W_asStr ?_
   have hla:=h4.1
   refine W_yes (by omega) ?_
   rw[wrap_id (n:=i+1) (by omega)]
   refine plain_loop hl hKo j _ (i+1) (by omega) (by omega) (by omega) ?_
   rw[show(i+1).toNat=i.toNat+1 by omega]
   exact named_snoc h4 ht (by unfold I64;omega)
  ·exact hKo acc ⟨by have:=h4.1;omega,h4.2⟩
theorem plain_ok(hk:1000≤k):PlainS (fun _ args (K:LV→OV R)=>g55 G k args K):=by
 intro l K hl
 show W _ K (f55 G k l K)
 unfold f55 l55_0
 exact plain_loop hl (fun q hq=>W_ret ⟨_,rfl,hq⟩) k [] 0 (by omega) (by omega) (by have:=hl.1;omega) ⟨by simp,by simp⟩
end
section
variable {R : Type} {G : ORC R} {k : Nat} {K : LV → OV R}
def ExprOK(d:Nat)(G:ORC R):Prop:=∀(a b c s L:LV) (n i:Int) (K:LV→OV R),n=(d:Int)→StrsS 100 a→StrsS 100 s→RowS L i→
 W (fun o=>∃e j,o=[e,.int .i64 j]∧ExprS (d+1) e∧RowS L j) K (G 72 [.agg [.sl 1 a,.sl 1 b,.sl 1 c,.sl 1 s],.int .i64 n,.sl 1 L,.int .i64 i] K)
theorem expr_mk{d:Nat}{kind n:Int}{nm:ByteArray}{kids:LV}(h1:I64 n)(h2:StrS nm)(h3:1≤kind∧kind≤19)(h4:kids.length≤2)(h5:∀e∈kids,ExprS d e)(h6:kind≤4∨(kind≤6∧kids.length=1)∨(7≤kind∧kids.length=2)):
 ExprS (d+1) (.agg [.int .i64 kind,.int .i64 n,.str nm,.sl 5 kids,.int .i64 0]):=⟨kind,n,nm,kids,rfl,h1,h2,h3.1,h3.2,h4,h5,h6⟩
theorem one_mem{d:Nat}{a:V}(h:ExprS d a):∀e∈[a],ExprS d e:=fun e he=>by rw[List.mem_singleton.1 he];exact h
theorem two_mem{d:Nat}{a b:V}(h:ExprS d a)(h':ExprS d b):∀e∈[a,b],ExprS d e:=fun e he=>by
 simp only[List.mem_cons,List.not_mem_nil,or_false]at he
 rcases he with rfl|rfl
 ·exact h
 ·exact h'
theorem strs0:StrS ⟨#[]⟩:=by unfold StrS;decide
theorem expr_ok{d:Nat}(hd:d≤20)(hN:NextS G)(hPk:PickS G)(hE:∀d',d=d'+1→ExprOK d' G):ExprOK d (fun _ args (K:LV→OV R)=>g72 G k args K):=by
 intro a b c s L n i K hn ha hs hr
 show W _ K (f72 G k a b c s n L i K)
 unfold f72
 unfold NextS at hN;unfold PickS at hPk;unfold ExprOK at hE
 have la:=ha.1
 have lss:=hs.1
 have hE':n≠0→∃d',d=d'+1:=fun h=>⟨d-1,by omega⟩
 have hEn:∀d',d=d'+1→IntKind.i64.wrap (n-1)=(d':Int):=fun d' h=>by rw[wrap_id (by omega)];omega
 refine W_call (hN _ _ _ _ (by omega) (by omega) hr) ?_
 rintro o ⟨x,i1,rfl,x1,x2,hr1⟩
 have ht:=tmod_lt (v:=x) (n:=6) (by omega)
 by_cases hn0:n=0
 ·clear hE' hEn hE
  repeat' (first
   |with_reducible (first|(refine W_uI ?_)|(refine W_uS ?_)|(refine W_uL ?_)|(refine W_uA ?_)|(refine W_uB ?_)|(refine W_aI ?_)|(refine W_aL ?_)|(refine W_ca3 ?_)|(refine W_ce3 ?_)|(refine W_ca4 ?_)|(refine W_ce4 ?_)|(refine W_ca5 ?_)|(refine W_ce5 ?_)|(refine W_ca6 ?_)|(refine W_ce6 ?_)|(refine W_ca7 ?_)|(refine W_ce7 ?_)|(refine W_ca8 ?_)|(refine W_ce8 ?_)|(refine W_unCons ?_)|(refine W_unNil ?_)|(refine W_asInt ?_)|(refine W_asStr ?_)|(refine W_asSl ?_)|(refine W_asAgg ?_)|(refine W_kd ?_)|(refine W_z ?_))
   |((with_reducible (refine W_call (hN _ _ _ _ ?_ ?_ (by assumption)) ?_));omega;omega;rintro _ ⟨_,_,rfl,_,_,_⟩)
   |((with_reducible (refine W_call (hPk _ _ _ _ 100 _ (by assumption) ?_ strs0 (by assumption)) ?_));omega;rintro _ ⟨_,_,rfl,_,_,_⟩)
   |(with_reducible (refine W_and ?_))|((with_reducible (refine W_yes ?_ ?_));omega)|((with_reducible (refine W_no ?_ ?_));omega)|((with_reducible (refine W_eqY ?_ ?_));omega)|((with_reducible (refine W_eqN ?_ ?_));omega)
   |(with_reducible (refine W_dec (fun _=> ?_) (fun _=> ?_)))|(with_reducible (refine W_beqI (fun _=> ?_) (fun _=> ?_)))
   |((with_reducible (refine W_nth ?_ (fun v _ hv=> ?_)));(simp;omega);simp only[List.mem_cons,List.not_mem_nil,or_false]at hv;rcases hv with rfl|rfl|rfl|rfl|rfl|rfl)
   |(refine W_ret ⟨_,_,rfl,expr_mk (by unfold I64;omega) (by first|assumption|exact strs0) ⟨by omega,by omega⟩ (by simp) (by simp) (by omega),by assumption⟩))
 ·obtain⟨d',rfl⟩:=hE' hn0
  have hEn:=hEn d' rfl
  have hE:=hE d' rfl
  clear hE'
  repeat' (first
   |with_reducible (first|(refine W_uI ?_)|(refine W_uS ?_)|(refine W_uL ?_)|(refine W_uA ?_)|(refine W_uB ?_)|(refine W_aI ?_)|(refine W_aL ?_)|(refine W_ca3 ?_)|(refine W_ce3 ?_)|(refine W_ca4 ?_)|(refine W_ce4 ?_)|(refine W_ca5 ?_)|(refine W_ce5 ?_)|(refine W_ca6 ?_)|(refine W_ce6 ?_)|(refine W_ca7 ?_)|(refine W_ce7 ?_)|(refine W_ca8 ?_)|(refine W_ce8 ?_)|(refine W_unCons ?_)|(refine W_unNil ?_)|(refine W_asInt ?_)|(refine W_asStr ?_)|(refine W_asSl ?_)|(refine W_asAgg ?_)|(refine W_kd ?_)|(refine W_z ?_))
   |((with_reducible (refine W_call (hN _ _ _ _ ?_ ?_ (by assumption)) ?_));omega;omega;rintro _ ⟨_,_,rfl,_,_,_⟩)
   |((with_reducible (refine W_call (hPk _ _ _ _ 100 _ (by assumption) ?_ strs0 (by assumption)) ?_));omega;rintro _ ⟨_,_,rfl,_,_,_⟩)
   |((with_reducible (refine W_call (hE _ _ _ _ _ _ _ _ hEn (by assumption) (by assumption) (by assumption)) ?_));rintro _ ⟨_,_,rfl,he,_⟩;have he2:=he;obtain⟨_,_,_,_,rfl,_,_,_,_,_,_,_⟩:=he)
   |(with_reducible (refine W_and ?_))|((with_reducible (refine W_yes ?_ ?_));omega)|((with_reducible (refine W_no ?_ ?_));omega)|((with_reducible (refine W_eqY ?_ ?_));omega)|((with_reducible (refine W_eqN ?_ ?_));omega)
   |(with_reducible (refine W_dec (fun _=> ?_) (fun _=> ?_)))|(with_reducible (refine W_beqI (fun _=> ?_) (fun _=> ?_)))
   |((with_reducible (refine W_nth ?_ (fun v _ hv=> ?_)));(simp;omega);simp only[List.mem_cons,List.not_mem_nil,or_false]at hv;rcases hv with rfl|rfl|rfl|rfl|rfl|rfl)
   |(refine W_ret ⟨_,_,rfl,expr_mk (by unfold I64;omega) (by first|assumption|exact strs0) ⟨by first|omega|(rw[wrap_id (by omega)];omega),by first|omega|(rw[wrap_id (by omega)];omega)⟩ (by simp) (by first|exact two_mem (by assumption) (by assumption)|exact one_mem (by assumption)|simp) (by first|exact .inr (.inr ⟨by rw[wrap_id (by omega)];omega,rfl⟩)|exact .inr (.inl ⟨by rw[wrap_id (by omega)];omega,rfl⟩)|omega),by assumption⟩))
end
set_option maxHeartbeats 8000000
section
variable {R : Type} {G : ORC R} {k : Nat} {K : LV → OV R}
def BlockOK(d:Nat)(G:ORC R):Prop:=∀(a b c s L:LV) (n i:Int) (K:LV→OV R),n=(d:Int)→StrsS 100 a→StrsS 100 b→StrsS 100 c→StrsS 100 s→RowS L i→
 W (fun o=>∃q j,o=[.sl 8 q,.int .i64 j]∧BlockS (d+1) q∧RowS L j) K (G 70 [.agg [.sl 1 a,.sl 1 b,.sl 1 c,.sl 1 s],.int .i64 n,.sl 1 L,.int .i64 i] K)
theorem act_mk{d:Nat}{kind n:Int}{nm ev:ByteArray}{x th el:LV}(h1:ActN kind n)(h2:StrS nm)(h3:StrS ev)(h4:1≤kind∧kind≤7)(h5:x.length≤1)(h6:∀e∈x,ExprS 3 e)(h7:kind=6→x.length=1)(h8:BlockS d th)(h9:BlockS d el):
 ActS (d+1) (.agg [.int .i64 kind,.str nm,.str ev,.sl 5 x,.int .i64 n,.sl 8 th,.sl 8 el,.int .i64 0]):=⟨kind,nm,ev,x,n,th,el,rfl,h1,h2,h3,h4.1,h4.2,h5,h6,h7,h8.1,h9.1,h8.2,h9.2⟩
theorem block0{d:Nat}:BlockS d []:=⟨by simp,by simp⟩
theorem take_one{e:V}{n:Nat}(h:ExprS 3 e):(List.take n [e]).length≤1∧∀v∈List.take n [e],ExprS 3 v:=
 ⟨by simp[List.length_take];omega,fun v hv=>one_mem h v (List.mem_of_mem_take hv)⟩
theorem num_of{n:Int}(h:I64 n):∀e∈[V.agg [.int .i64 1,.int .i64 n,.str ⟨#[]⟩,.sl 5 [],.int .i64 0]],ExprS 3 e:=one_mem (expr_mk (d:=2) h strs0 ⟨by omega,by omega⟩ (by simp) (by simp) (by omega))
theorem i64_0:I64 0:=by unfold I64;omega
theorem block_round{d:Nat}(hd:d≤3)(hN:NextS G)(hPk:PickS G)(hEv:EventS G)(hE:ExprOK 2 G)(hB:∀d',d=d'+1→BlockOK d' G){Q:LV→Prop}{K:LV→OV R}{a b c s L acc:LV}{n i dd:Int}
 (X:Int→LV→Int→LV→Int→LV→LV→LV→LV→OV R) (Ko:LV→LV→Int→OV R)
 (hdd:dd=(d:Int)) (ha:StrsS 100 a) (hb:StrsS 100 b) (hc:StrsS 100 c) (hs:StrsS 100 s) (hr:RowS L i) (hn:n>0) (hacc:acc.length≤2)
 (hX1:∀v j,ActS (d+1) v→RowS L j→W Q K (X dd (acc++[v]) (IntKind.i64.wrap (n-1)) L j a b c s))
 (hX0:∀j,RowS L j→W Q K (X dd acc (IntKind.i64.wrap (n-1)) L j a b c s)):
 W Q K (b70_0 G k X Ko dd acc n L i a b c s):=by
 unfold b70_0
 unfold NextS at hN;unfold PickS at hPk;unfold EventS at hEv;unfold ExprOK at hE;unfold BlockOK at hB
 have la:=ha.1
 have lb:=hb.1
 have lc:=hc.1
 refine W_yes hn ?_
 refine W_call (hN _ _ _ _ (by omega) (by omega) hr) ?_
 rintro _ ⟨x,i1,rfl,x1,x2,hr1⟩
 refine W_uI (W_uI (W_unNil ?_))
 refine W_call (hE _ _ _ _ _ _ _ _ (by rfl) ha hs hr1) ?_
 rintro _ ⟨e,i2,rfl,he,hr2⟩
 have he2:=he
 obtain⟨_,_,_,_,rfl,_⟩:=he
 repeat (with_reducible (first|(refine W_uI ?_)|(refine W_uS ?_)|(refine W_uL ?_)|(refine W_uA ?_)|(refine W_uB ?_)|(refine W_aI ?_)|(refine W_aL ?_)|(refine W_ca3 ?_)|(refine W_ce3 ?_)|(refine W_ca4 ?_)|(refine W_ce4 ?_)|(refine W_ca5 ?_)|(refine W_ce5 ?_)|(refine W_ca6 ?_)|(refine W_ce6 ?_)|(refine W_ca7 ?_)|(refine W_ce7 ?_)|(refine W_ca8 ?_)|(refine W_ce8 ?_)|(refine W_unCons ?_)|(refine W_unNil ?_)|(refine W_asInt ?_)|(refine W_asStr ?_)|(refine W_asSl ?_)|(refine W_asAgg ?_)|(refine W_kd ?_)|(refine W_z ?_)))
 have ht:=take_one (n:=0) he2
 by_cases hd0:d=0
 ·have hdd0:¬dd>0:=by omega
  clear hB
  repeat' (first
   |with_reducible (first|(refine W_uI ?_)|(refine W_uS ?_)|(refine W_uL ?_)|(refine W_uA ?_)|(refine W_uB ?_)|(refine W_aI ?_)|(refine W_aL ?_)|(refine W_ca3 ?_)|(refine W_ce3 ?_)|(refine W_ca4 ?_)|(refine W_ce4 ?_)|(refine W_ca5 ?_)|(refine W_ce5 ?_)|(refine W_ca6 ?_)|(refine W_ce6 ?_)|(refine W_ca7 ?_)|(refine W_ce7 ?_)|(refine W_ca8 ?_)|(refine W_ce8 ?_)|(refine W_unCons ?_)|(refine W_unNil ?_)|(refine W_asInt ?_)|(refine W_asStr ?_)|(refine W_asSl ?_)|(refine W_asAgg ?_)|(refine W_kd ?_)|(refine W_z ?_))
   |((with_reducible (refine W_call (hN _ _ _ _ ?_ ?_ (by assumption)) ?_));omega;omega;rintro _ ⟨_,_,rfl,_,_,_⟩)
   |((with_reducible (refine W_call (hPk _ _ _ _ 100 _ (by assumption) ?_ strs0 (by assumption)) ?_));omega;rintro _ ⟨_,_,rfl,_,_,_⟩)
   |((with_reducible (refine W_call (hEv _ _) ?_));rintro _ ⟨_,rfl,_⟩)
   |(with_reducible (refine W_and ?_))|((with_reducible (refine W_no hdd0 ?_)))|((with_reducible (refine W_yes ?_ ?_));omega)|((with_reducible (refine W_no ?_ ?_));omega)|((with_reducible (refine W_eqY ?_ ?_));omega)|((with_reducible (refine W_eqN ?_ ?_));omega)
   |(with_reducible (refine W_dec (fun _=> ?_) (fun _=> ?_)))|(with_reducible (refine W_beqI (fun _=> ?_) (fun _=> ?_)))
   |(with_reducible (exact hX0 _ (by assumption)))
   |((with_reducible (refine hX1 _ _ ?_ (by assumption)));
     exact act_mk (by first|exact⟨i64_0,by omega⟩|(rw[wrap_id (by omega)];unfold ActN I64;omega)) (by first|assumption|exact strs0) (by first|assumption|exact strs0) ⟨by omega,by omega⟩
      (by first|exact Nat.le_refl 1|exact Nat.zero_le 1|exact(take_one he2).1) (by first|exact one_mem he2|exact(take_one he2).2|exact num_of (by rw[wrap_id (by omega)];unfold I64;omega)|simp) (by first|omega|exact fun _=>rfl) block0 block0))
 ·obtain⟨d',rfl⟩:∃d',d=d'+1:=⟨d-1,by omega⟩
  have hdd0:dd>0:=by omega
  have hB:=hB d' rfl
  have hBn:IntKind.i64.wrap (dd-1)=(d':Int):=by rw[wrap_id (by omega)];omega
  repeat' (first
   |with_reducible (first|(refine W_uI ?_)|(refine W_uS ?_)|(refine W_uL ?_)|(refine W_uA ?_)|(refine W_uB ?_)|(refine W_aI ?_)|(refine W_aL ?_)|(refine W_ca3 ?_)|(refine W_ce3 ?_)|(refine W_ca4 ?_)|(refine W_ce4 ?_)|(refine W_ca5 ?_)|(refine W_ce5 ?_)|(refine W_ca6 ?_)|(refine W_ce6 ?_)|(refine W_ca7 ?_)|(refine W_ce7 ?_)|(refine W_ca8 ?_)|(refine W_ce8 ?_)|(refine W_unCons ?_)|(refine W_unNil ?_)|(refine W_asInt ?_)|(refine W_asStr ?_)|(refine W_asSl ?_)|(refine W_asAgg ?_)|(refine W_kd ?_)|(refine W_z ?_))
   |((with_reducible (refine W_call (hN _ _ _ _ ?_ ?_ (by assumption)) ?_));omega;omega;rintro _ ⟨_,_,rfl,_,_,_⟩)
   |((with_reducible (refine W_call (hPk _ _ _ _ 100 _ (by assumption) ?_ strs0 (by assumption)) ?_));omega;rintro _ ⟨_,_,rfl,_,_,_⟩)
   |((with_reducible (refine W_call (hEv _ _) ?_));rintro _ ⟨_,rfl,_⟩)
   |((with_reducible (refine W_call (hB _ _ _ _ _ _ _ _ hBn (by assumption) (by assumption) (by assumption) (by assumption) (by assumption)) ?_));rintro _ ⟨_,_,rfl,_,_⟩)
   |(with_reducible (refine W_and ?_))|((with_reducible (refine W_yes hdd0 ?_)))|((with_reducible (refine W_yes ?_ ?_));omega)|((with_reducible (refine W_no ?_ ?_));omega)|((with_reducible (refine W_eqY ?_ ?_));omega)|((with_reducible (refine W_eqN ?_ ?_));omega)
   |(with_reducible (refine W_dec (fun _=> ?_) (fun _=> ?_)))|(with_reducible (refine W_beqI (fun _=> ?_) (fun _=> ?_)))
   |(with_reducible (exact hX0 _ (by assumption)))
   |((with_reducible (refine hX1 _ _ ?_ (by assumption)));
     exact act_mk (by first|exact⟨i64_0,by omega⟩|(rw[wrap_id (by omega)];unfold ActN I64;omega)) (by first|assumption|exact strs0) (by first|assumption|exact strs0) ⟨by omega,by omega⟩
      (by first|exact Nat.le_refl 1|exact Nat.zero_le 1|exact(take_one he2).1) (by first|exact one_mem he2|exact(take_one he2).2|exact num_of (by rw[wrap_id (by omega)];unfold I64;omega)|simp) (by first|omega|exact fun _=>rfl) (by first|assumption|exact block0) (by first|assumption|exact block0)))
theorem block_loop{d:Nat}(hd:d≤3)(hN:NextS G)(hPk:PickS G)(hEv:EventS G)(hE:ExprOK 2 G)(hB:∀d',d=d'+1→BlockOK d' G){Q:LV→Prop}{K:LV→OV R}{a b c s L:LV}{dd:Int}{Ko:LV→LV→Int→OV R}
 (hdd:dd=(d:Int)) (ha:StrsS 100 a) (hb:StrsS 100 b) (hc:StrsS 100 c) (hs:StrsS 100 s) (hKo:∀q j,BlockS (d+1) q→RowS L j→W Q K (Ko q L j)):
 ∀(j:Nat) (acc:LV) (n i:Int),n<j→(acc.length:Int)+n≤2→0≤n→(∀v∈acc,ActS (d+1) v)→RowS L i→W Q K (l70_0g G k Ko j dd acc n L i a b c s)
 |0,acc,n,i,h1,h2,h3,h4,h5=>by omega
 |j+1,acc,n,i,h1,h2,h3,h4,h5=>by
  show W Q K (b70_0 G k (l70_0g G k Ko j) Ko dd acc n L i a b c s)
  by_cases hn:n>0
  ·refine block_round hd hN hPk hEv hE hB _ _ hdd ha hb hc hs h5 hn (by omega) (fun v j' hv hj=> ?_) (fun j' hj=> ?_)
   ·refine block_loop hd hN hPk hEv hE hB hdd ha hb hc hs hKo j _ _ j' (by rw[wrap_id (by omega)];omega) (by rw[wrap_id (by omega)];simp;omega) (by rw[wrap_id (by omega)];omega) ?_ hj
    intro w hw
    rcases List.mem_append.1 hw with hw|hw
    ·exact h4 w hw
    ·rw[List.mem_singleton.1 hw];exact hv
   ·exact block_loop hd hN hPk hEv hE hB hdd ha hb hc hs hKo j _ _ j' (by rw[wrap_id (by omega)];omega) (by rw[wrap_id (by omega)];omega) (by rw[wrap_id (by omega)];omega) h4 hj
  ·unfold b70_0
   exact W_no hn (hKo acc i ⟨by omega,h4⟩ h5)
theorem block_ok{d:Nat}(hk:1000≤k)(hd:d≤3)(hN:NextS G)(hPk:PickS G)(hEv:EventS G)(hE:ExprOK 2 G)(hB:∀d',d=d'+1→BlockOK d' G):BlockOK d (fun _ args (K:LV→OV R)=>g70 G k args K):=by
 intro a b c s L n i K hn ha hb hc hs hr
 show W _ K (f70 G k a b c s n L i K)
 unfold f70
 refine W_call (hN _ _ _ _ (by omega) (by omega) hr) ?_
 rintro _ ⟨x,i1,rfl,x1,x2,hr1⟩
 refine W_uI (W_uI (W_unNil ?_))
 unfold l70_0
 exact block_loop hd hN hPk hEv hE hB hn ha hb hc hs (fun q j hq hj=>W_ret ⟨_,_,rfl,hq,hj⟩) k [] x i1 (by omega) (by simp;omega) x1 (by simp) hr1
end
section
variable {R : Type} {G : ORC R} {k : Nat} {K : LV → OV R}
def StOK(d:Nat)(G:ORC R):Prop:=∀(b:Bool) (a p c s all L:LV) (n left i:Int) (K:LV→OV R),n=(d:Int)→1≤left→left+all.length≤20→NmsS all→NmI all→RowS L i→
 W (fun o=>∃x left' all' j,o=[x,.int .i64 left',.sl 1 all',.int .i64 j]∧StateS 0 (d+1) x∧kindV x≤2∧0≤left'∧left'<left∧left'+(all'.length:Int)=left+all.length∧NmsS all'∧RowS L j∧all'=all++nmV (d+1) x∧NmI all') K
   (G 56 [.int .i64 n,.bool b,.sl 1 a,.sl 1 p,.sl 1 c,.sl 1 s,.int .i64 left,.sl 1 all,.sl 1 L,.int .i64 i] K)
theorem nms_snoc{l:LV}{s:ByteArray}(h:NmsS l)(hs:StrS s)(h0:0<s.size):NmsS (l++[.str s]):=fun v hv=>by
 rcases List.mem_append.1 hv with hv|hv
 ·exact h v hv
 ·rw[List.mem_singleton.1 hv];exact⟨s,rfl,hs,h0⟩
theorem mem_snoc{P:V→Prop}{l:LV}{x:V}(h:∀v∈l,P v)(hx:P x):∀v∈l++[x],P v:=fun v hv=>by
 rcases List.mem_append.1 hv with hv|hv
 ·exact h v hv
 ·rw[List.mem_singleton.1 hv];exact hx
theorem head_snoc{l:LV}{x:V}(h:∀s r,l=s::r→kindV s≤2)(hx:l=[]→kindV x≤2):∀s r,l++[x]=s::r→kindV s≤2:=by
 intro s r e
 cases l with
 |nil=>simp at e;rw[←e.1];exact hx rfl
 |cons a l=>simp at e;rw[←e.1];exact h a l rfl
theorem state_mk{d:Nat}{kind:Int}{nm:ByteArray}{kids:LV}(h1:StrS nm)(h2:0<nm.size)(h3:1≤kind∧kind≤4)(h4:kids.length≤4)(h5:∀s∈kids,StateS 0 d s)(h6:2<kind→kids=[])(h7:∀s r,kids=s::r→kindV s≤2)(h8:kind=2→kids≠[]):
 StateS 0 (d+1) (.agg [.int .i64 kind,.str nm,.sl 8 [],.sl 8 [],.sl 5 [],.sl 7 kids,.int .i64 0]):=
 ⟨kind,nm,[],[],[],kids,rfl,h1,h2,h3.1,h3.2,block0,block0,by simp,by simp,h4,h5,fun h=>⟨h6 h,rfl,rfl,rfl⟩,h7,h8⟩
theorem pre_strs{c:UInt8}{s:ByteArray}(h:s.size≤30):StrS (⟨#[c]⟩++s)∧0<(⟨#[c]⟩++s:ByteArray).size:=by
 have e:(⟨#[c]⟩++s:ByteArray).size=1+s.size:=by rw[ByteArray.size_append];rfl
 unfold StrS;rw[e];omega
theorem st_loop{d:Nat}(hS:StOK d G){Q:LV→Prop}{K:LV→OV R}{a p c s L h1 h2 h3 h4 en ex tr:LV}{dd h0 h5 kind z T m:Int}{hs nm:ByteArray}{Ko:LV→LV→LV→LV→Int→LV→LV→Int→Int→ByteArray→LV→LV→LV→LV→Int→Int→ByteArray→LV→LV→LV→LV→Int→OV R}
 (hdd:IntKind.i64.wrap (dd-1)=(d:Int)) (hT:T≤20) {all0:LV}
 (hKo:∀left all j kids,(all0++nmVL (d+1) kids=all∧NmI all)→0≤left→left≤m→left+(List.length all:Int)=T→NmsS all→RowS L j→kids.length≤3→(∀s∈kids,StateS 0 (d+1) s)→(∀s r,kids=s::r→kindV s≤2)→kids≠[]→W Q K (Ko a p c s left all L j h0 hs h1 h2 h3 h4 h5 kind nm en ex tr kids z)):
 ∀(j:Nat) (n left:Int) (all:LV) (i:Int) (acc:LV),(all0++nmVL (d+1) acc=all∧NmI all)→n<j→0≤n→(acc.length:Int)+n≤3→(acc=[]→1≤left∧0<n)→0≤left→left≤m→left+(List.length all:Int)=T→NmsS all→RowS L i→(∀s∈acc,StateS 0 (d+1) s)→(∀s r,acc=s::r→kindV s≤2)→
  W Q K (l56_0g G k Ko j dd n a p c s left all L i h0 hs h1 h2 h3 h4 h5 kind nm en ex tr acc z)
 |0,n,left,all,i,acc,a0,a1,a2,a3,a4,a5,a6,a7,a8,a9,a10,a11=>by omega
 |j+1,n,left,all,i,acc,a0,a1,a2,a3,a4,a5,a6,a7,a8,a9,a10,a11=>by
  show W Q K (b56_0 G k (l56_0g G k Ko j) Ko dd n a p c s left all L i h0 hs h1 h2 h3 h4 h5 kind nm en ex tr acc z)
  unfold b56_0
  by_cases hn:n>0
  ·refine W_yes hn ?_
   by_cases hl:left>0
   ·refine W_yes hl ?_
    refine W_call (hS true a p c s all L _ left i _ hdd (by omega) (by omega) a8 a0.2 a9) ?_
    rintro _ ⟨x,left',all',j',rfl,b1,b2,b3,b4,b5,b6,b7,b8,b8'⟩
    have b1':=b1
    have b9:all0++nmVL (d+1) (acc++[x])=all'∧NmI all':=⟨by rw[nmVL_app,←List.append_assoc,a0.1,b8];simp[nmVL],b8'⟩
    obtain⟨_,_,_,_,_,_,rfl,_⟩:=b1
    repeat (with_reducible (first|(refine W_uI ?_)|(refine W_uS ?_)|(refine W_uL ?_)|(refine W_uA ?_)|(refine W_uB ?_)|(refine W_aI ?_)|(refine W_aL ?_)|(refine W_ca3 ?_)|(refine W_ce3 ?_)|(refine W_ca4 ?_)|(refine W_ce4 ?_)|(refine W_ca5 ?_)|(refine W_ce5 ?_)|(refine W_ca6 ?_)|(refine W_ce6 ?_)|(refine W_ca7 ?_)|(refine W_ce7 ?_)|(refine W_ca8 ?_)|(refine W_ce8 ?_)|(refine W_unCons ?_)|(refine W_unNil ?_)|(refine W_asInt ?_)|(refine W_asStr ?_)|(refine W_asSl ?_)|(refine W_asAgg ?_)|(refine W_kd ?_)|(refine W_z ?_)))
    refine W_yes (by omega) ?_
    have e1:IntKind.i64.wrap (n-1)=n-1:=wrap_id (by omega)
    rw[e1]
    exact st_loop hS hdd hT hKo j _ _ _ _ _ b9 (by omega) (by omega) (by simp;omega) (by simp) b3 (by omega) (by omega) b6 b7 (mem_snoc a10 b1') (head_snoc a11 (fun _=>b2))
   ·refine W_no hl ?_
    have hacc:acc≠[]:=fun h=>by have:=(a4 h).1;omega
    have hlen:((acc.length:Nat):Int)≠0:=fun h=>hacc (List.eq_nil_of_length_eq_zero (by omega))
    refine W_eqN hlen ?_
    exact hKo left all i acc a0 a5 a6 a7 a8 a9 (by omega) a10 a11 hacc
  ·exact W_no hn (hKo left all i acc a0 a5 a6 a7 a8 a9 (by omega) a10 a11 (fun h=>by have:=(a4 h).2;omega))
theorem st_ok{d:Nat}(hk:1000≤k)(hd:d≤3)(hN:NextS G)(hDg:DigS G)(hS:∀d',d=d'+1→StOK d' G):StOK d (fun _ args (K:LV→OV R)=>g56 G k args K):=by
 intro b a p c s all L n left i K hn h1 h2 h3 h3' h4
 show W _ K (f56 G k n b a p c s left all L i K)
 unfold f56
 have e1:IntKind.i64.wrap (left-1)=left-1:=wrap_id (by omega)
 rw[e1]
 have s115:ByteArray.size ⟨#[115]⟩=1:=by decide
 have s104:ByteArray.size ⟨#[104]⟩=1:=by decide
 rw[s115,s104]
 unfold NextS at hN;unfold DigS at hDg
 have dsz:∀m,(digB m).size≤30:=fun m=>Nat.le_trans (decD_size (d:=3)) (by omega)
 have ddsz:∀m,(digB m).size≤3:=fun m=>decD_size (d:=3)
 refine W_call (hDg _ _ (by omega) (by omega)) ?_
 rintro _ rfl
 have t1s:=dsz ((all.length:Int).toNat)
 have t1s':=ddsz ((all.length:Int).toNat)
 refine W_uS (W_unNil (W_yes (by omega) (W_yes (by omega) ?_)))
 refine W_call (hDg _ _ (by omega) (by omega)) ?_
 rintro _ rfl
 refine W_uS (W_unNil (W_yes (by omega) ?_))
 have t1p:=pre_strs (c:=115) t1s
 have hall:=nms_snoc h3 t1p.1 t1p.2
 have leaf:StateS 0 (d+1) (.agg [.int .i64 1,.str (⟨#[115]⟩++digB (Int.toNat all.length)),.sl 8 [],.sl 8 [],.sl 5 [],.sl 7 [],.int .i64 0]):=state_mk t1p.1 t1p.2 ⟨by omega,by omega⟩ (by simp) (by simp) (fun _=>rfl) (by simp) (by omega)
 have hlen:left-1+((all++[V.str (⟨#[115]⟩++digB (Int.toNat all.length))]).length:Int)=left+all.length:=by simp;omega
 have hni:NmI (all++[V.str (⟨#[115]⟩++digB (Int.toNat all.length))]):=nmI_snoc h3' (.inl rfl)
 have hsz:all++[V.str (⟨#[115]⟩++digB (Int.toNat all.length))]=all++nmV (d+1) (.agg [.int .i64 1,.str (⟨#[115]⟩++digB (Int.toNat all.length)),.sl 8 [],.sl 8 [],.sl 5 [],.sl 7 [],.int .i64 0])∧NmI (all++[V.str (⟨#[115]⟩++digB (Int.toNat all.length))]):=⟨rfl,hni⟩
 by_cases hd0:n>0
 ·obtain⟨d',rfl⟩:∃d',d=d'+1:=⟨d-1,by omega⟩
  have hdd:IntKind.i64.wrap (n-1)=(d':Int):=by rw[wrap_id (by omega)];omega
  refine W_yes hd0 ?_
  refine W_dec (fun hl=> ?_) (fun _=>W_ret ⟨_,_,_,_,rfl,leaf,by simp[kindV],by omega,by omega,hlen,hall,h4,hsz.1,hsz.2⟩)
  refine W_call (hN _ _ _ _ (by omega) (by omega) h4) ?_
  rintro _ ⟨x1,i1,rfl,x11,x12,r1⟩
  refine W_uI (W_uI (W_unNil ?_))
  refine W_dec (fun hx1=> ?_) (fun _=>W_ret ⟨_,_,_,_,rfl,leaf,by simp[kindV],by omega,by omega,hlen,hall,r1,hsz.1,hsz.2⟩)
  refine W_call (hN _ _ _ _ (by omega) (by omega) r1) ?_
  rintro _ ⟨x2,i2,rfl,x21,x22,r2⟩
  refine W_uI (W_uI (W_unNil ?_))
  refine W_beqI (fun _=> ?_) (fun _=> ?_)
  all_goals
   refine W_call (hN _ _ _ _ (by omega) (by omega) r2) ?_
   rintro _ ⟨x3,i3,rfl,x31,x32,r3⟩
   refine W_uI (W_uI (W_unNil ?_))
   have e2:IntKind.i64.wrap (1+x3)=1+x3:=wrap_id (by omega)
   rw[e2]
   unfold l56_0
   refine st_loop (m:=left-1) (all0:=all++[V.str (⟨#[115]⟩++digB (Int.toNat all.length))]) (hS d' rfl) hdd h2 ?_ k _ _ _ _ _ ⟨by simp[nmVL],hni⟩ (by omega) (by omega) (by simp;omega) (fun _=>⟨by omega,by omega⟩) (by omega) (by omega) hlen hall r3 (by simp) (by simp)
   intro left' all' j' kids c0 c1 c2 c3 c4 c5 c6 c7 c8 c9
   have fin:∀(K':LV→OV R) kd,K'=K→(kd=1∨kd=2)→∀jj,RowS L jj→W (fun o=>∃x left'' all'' j,o=[x,.int .i64 left'',.sl 1 all'',.int .i64 j]∧StateS 0 (d'+1+1) x∧kindV x≤2∧0≤left''∧left''<left∧left''+(all''.length:Int)=left+all.length∧NmsS all''∧RowS L j∧all''=all++nmV (d'+1+1) x∧NmI all'') K
    (K [.agg [.int .i64 kd,.str (⟨#[115]⟩++digB (Int.toNat all.length)),.sl 8 [],.sl 8 [],.sl 5 [],.sl 7 kids,.int .i64 0],.int .i64 left',.sl 1 all',.int .i64 jj]):=by
    intro K' kd _ hkd jj hjj
    exact W_ret ⟨_,_,_,_,rfl,state_mk t1p.1 t1p.2 ⟨by omega,by omega⟩ (by omega) c7 (by omega) c8 (fun _=>c9),by simp[kindV];omega,c1,by omega,by omega,c4,hjj,by rw[←c0.1,List.append_assoc];rfl,c0.2⟩
   refine W_dec (fun hl1=> ?_) (fun _=>fin K _ rfl (by omega) _ c5)
   refine W_call (hN _ _ _ _ (by omega) (by omega) c5) ?_
   rintro _ ⟨x4,i4,rfl,x41,x42,r4⟩
   refine W_uI (W_uI (W_unNil ?_))
   refine W_beqI (fun _=> ?_) (fun _=>fin K _ rfl (by omega) _ r4)
   refine W_call (hN _ _ _ _ (by omega) (by omega) r4) ?_
   rintro _ ⟨x5,i5,rfl,x51,x52,r5⟩
   refine W_uI (W_uI (W_unNil ?_))
   refine W_call (hDg _ _ (by omega) (by omega)) ?_
   rintro _ rfl
   have t3s:=dsz ((all'.length:Int).toNat)
   have t3s':=ddsz ((all'.length:Int).toNat)
   have t3p:=pre_strs (c:=104) t3s
   refine W_uS (W_unNil (W_yes (by omega) (W_yes (by omega) (W_yes (by omega) ?_))))
   have e3:IntKind.i64.wrap (3+x5)=3+x5:=wrap_id (by omega)
   have e4:IntKind.i64.wrap (left'-1)=left'-1:=wrap_id (by omega)
   rw[e3,e4]
   exact W_ret ⟨_,_,_,_,rfl,state_mk t1p.1 t1p.2 ⟨by omega,by omega⟩ (by simp;omega) (mem_snoc c7 (state_mk t3p.1 t3p.2 ⟨by omega,by omega⟩ (by simp) (by simp) (fun _=>rfl) (by simp) (by omega))) (by omega) (head_snoc c8 (fun h=>absurd h c9)) (fun _=>by simp),by simp[kindV],by omega,by omega,by simp;omega,nms_snoc c4 t3p.1 t3p.2,r5,by rw[←c0.1];simp[nmV,nmVL,stKids],nmI_snoc c0.2 (.inr rfl)⟩
 ·exact W_no hd0 (W_ret ⟨_,_,_,_,rfl,leaf,by simp[kindV],by omega,by omega,hlen,hall,h4,hsz.1,hsz.2⟩)
end
section
variable {R : Type} {G : ORC R} {k : Nat} {K : LV → OV R}
def FillOK(d:Nat)(G:ORC R):Prop:=∀(x:V) (a p c s all L:LV) (left i:Int) (K:LV→OV R),StateS 0 d x→StrsS 100 a→StrsS 100 p→StrsS 100 c→StrsS 100 s→NmsS all→all.length≤20→RowS L i→
 W (fun o=>∃y j,o=[y,.int .i64 left,.int .i64 j]∧StateS 2 d y∧kindV y=kindV x∧RowS L j∧nmV d y=nmV d x) K
   (G 57 [x,.sl 1 a,.sl 1 p,.sl 1 c,.sl 1 s,.int .i64 left,.sl 1 all,.sl 1 L,.int .i64 i] K)
theorem trans_mk{ev tg:ByteArray}{gd acts:LV}(h1:StrS ev)(h2:StrS tg)(h3:gd.length≤1)(h4:∀e∈gd,ExprS 3 e)(h5:BlockS 3 acts):TransS (.agg [.str ev,.sl 5 gd,.str tg,.sl 8 acts,.int .i64 0]):=⟨ev,gd,tg,acts,rfl,h1,h2,h3,h4,h5⟩
theorem tr_round(hN:NextS G)(hPk:PickS G)(hEv:EventS G)(hE:ExprOK 2 G)(hB:BlockOK 2 G){Q:LV→Prop}{K:LV→OV R}{a p c s all L h1 h2 h3 h4 en ex tr kids:LV}{left h0 h5 kind z n i:Int}{hs nm:ByteArray}
 (X:Int→LV→LV→LV→LV→Int→LV→LV→Int→Int→ByteArray→LV→LV→LV→LV→Int→Int→ByteArray→LV→LV→LV→LV→Int→OV R) (Ko:LV→LV→LV→LV→Int→LV→LV→Int→Int→ByteArray→LV→LV→LV→LV→Int→Int→ByteArray→LV→LV→LV→LV→Int→OV R)
 (ha:StrsS 100 a) (hp:StrsS 100 p) (hc:StrsS 100 c) (hss:StrsS 100 s) (hal:StrsS 100 all) (hr:RowS L i) (hn:n>0) (htr:tr.length≤2)
 (hX1:∀v j,TransS v→RowS L j→W Q K (X (IntKind.i64.wrap (n-1)) a p c s left all L j kind nm en ex (tr++[v]) kids z h0 hs h1 h2 h3 h4 h5)):
 W Q K (b57_0 G k X Ko n a p c s left all L i kind nm en ex tr kids z h0 hs h1 h2 h3 h4 h5):=by
 unfold b57_0
 unfold NextS at hN;unfold PickS at hPk;unfold EventS at hEv;unfold ExprOK at hE;unfold BlockOK at hB
 refine W_yes hn ?_
 repeat' (first
  |with_reducible (first|(refine W_uI ?_)|(refine W_uS ?_)|(refine W_uL ?_)|(refine W_uA ?_)|(refine W_uB ?_)|(refine W_aI ?_)|(refine W_aL ?_)|(refine W_ca3 ?_)|(refine W_ce3 ?_)|(refine W_ca4 ?_)|(refine W_ce4 ?_)|(refine W_ca5 ?_)|(refine W_ce5 ?_)|(refine W_ca6 ?_)|(refine W_ce6 ?_)|(refine W_ca7 ?_)|(refine W_ce7 ?_)|(refine W_ca8 ?_)|(refine W_ce8 ?_)|(refine W_unCons ?_)|(refine W_unNil ?_)|(refine W_asInt ?_)|(refine W_asStr ?_)|(refine W_asSl ?_)|(refine W_asAgg ?_)|(refine W_kd ?_)|(refine W_z ?_))
  |((with_reducible (refine W_call (hN _ _ _ _ ?_ ?_ (by assumption)) ?_));omega;omega;rintro _ ⟨_,_,rfl,_,_,_⟩)
  |((with_reducible (refine W_call (hPk _ _ _ _ 100 _ (by assumption) ?_ strs0 (by assumption)) ?_));omega;rintro _ ⟨_,_,rfl,_,_,_⟩)
  |((with_reducible (refine W_call (hEv _ _) ?_));rintro _ ⟨_,rfl,_⟩)
  |((with_reducible (refine W_call (hE _ _ _ _ _ _ _ _ ?_ (by assumption) (by assumption) (by assumption)) ?_));(rfl);rintro _ ⟨_,_,rfl,he,_⟩;have he2:=one_mem he;obtain⟨_,_,_,_,rfl,_⟩:=he)
  |((with_reducible (refine W_call (hB _ _ _ _ _ _ _ _ ?_ (by assumption) (by assumption) (by assumption) (by assumption) (by assumption)) ?_));(rfl);rintro _ ⟨_,_,rfl,_,_⟩)
  |((with_reducible (refine W_yes ?_ ?_));omega)
  |(with_reducible (refine W_dec (fun _=> ?_) (fun _=> ?_)))|(with_reducible (refine W_beqI (fun _=> ?_) (fun _=> ?_)))
  |((with_reducible (refine hX1 _ _ ?_ (by assumption)));
    exact trans_mk (by first|assumption|exact strs0) (by first|assumption|exact strs0) (by first|exact Nat.le_refl 1|exact Nat.zero_le 1) (by first|assumption|simp) (by first|assumption|exact block0)))
theorem tr_loop(hN:NextS G)(hPk:PickS G)(hEv:EventS G)(hE:ExprOK 2 G)(hB:BlockOK 2 G){Q:LV→Prop}{K:LV→OV R}{a p c s all L h1 h2 h3 h4 en ex kids:LV}{left h0 h5 kind z:Int}{hs nm:ByteArray}
 {Ko:LV→LV→LV→LV→Int→LV→LV→Int→Int→ByteArray→LV→LV→LV→LV→Int→Int→ByteArray→LV→LV→LV→LV→Int→OV R}
 (ha:StrsS 100 a) (hp:StrsS 100 p) (hc:StrsS 100 c) (hss:StrsS 100 s) (hal:StrsS 100 all)
 (hKo:∀tr j,tr.length≤2→(∀t∈tr,TransS t)→RowS L j→W Q K (Ko a p c s left all L j kind nm en ex tr kids z h0 hs h1 h2 h3 h4 h5)):
 ∀(j:Nat) (n i:Int) (tr:LV),n<j→0≤n→(tr.length:Int)+n≤2→(∀t∈tr,TransS t)→RowS L i→W Q K (l57_0g G k Ko j n a p c s left all L i kind nm en ex tr kids z h0 hs h1 h2 h3 h4 h5)
 |0,n,i,tr,a1,a2,a3,a4,a5=>by omega
 |j+1,n,i,tr,a1,a2,a3,a4,a5=>by
  show W Q K (b57_0 G k (l57_0g G k Ko j) Ko n a p c s left all L i kind nm en ex tr kids z h0 hs h1 h2 h3 h4 h5)
  by_cases hn:n>0
  ·refine tr_round hN hPk hEv hE hB _ _ ha hp hc hss hal a5 hn (by omega) (fun v j' hv hj=> ?_)
   rw[wrap_id (n:=n-1) (by omega)]
   exact tr_loop hN hPk hEv hE hB ha hp hc hss hal hKo j _ _ _ (by omega) (by omega) (by simp;omega) (mem_snoc a4 hv) hj
  ·unfold b57_0
   exact W_no hn (hKo tr i (by omega) a4 a5)
theorem set2{A B:LV}{b u y:V}:List.set (List.set (A++b::B) A.length u) A.length y=A++y::B:=by simp
def kn(d:Nat)(v:V):Int×LV:=(kindV v,nmV d v)
theorem kn_eq{d:Nat}{x y:V}(h:kindV y=kindV x)(h':nmV d y=nmV d x):kn d y=kn d x:=Prod.ext h h'
theorem kid_loop{d:Nat}(hF:FillOK d G){Q:LV→Prop}{K:LV→OV R}{a p c s all L h1 h2 h3 h4 en ex tr:LV}{left h0 h5 kind z:Int}{hs nm:ByteArray}{ks:List (Int×LV)}
 {Ko:LV→LV→LV→LV→Int→LV→LV→Int→Int→ByteArray→LV→LV→LV→LV→Int→Int→ByteArray→LV→LV→LV→LV→Int→OV R}
 (ha:StrsS 100 a) (hp:StrsS 100 p) (hc:StrsS 100 c) (hss:StrsS 100 s) (hal:NmsS all) (hal2:all.length≤20)
 (hKo:∀kids j,kids.map (kn d)=ks→(∀t∈kids,StateS 2 d t)→RowS L j→W Q K (Ko a p c s left all L j kind nm en ex tr kids z h0 hs h1 h2 h3 h4 h5)):
 ∀(B A:LV) (j:Nat) (i:Int),B.length<j→A.length+B.length≤4→(∀t∈A,StateS 2 d t)→(∀t∈B,StateS 0 d t)→(A++B).map (kn d)=ks→RowS L i→
  W Q K (l57_2g G k Ko j (A.length:Int) a p c s left all L i kind nm en ex tr (A++B) z h0 hs h1 h2 h3 h4 h5)
 |B,A,0,i,a1,a2,a3,a4,a5,a6=>by omega
 | [],A,j+1,i,a1,a2,a3,a4,a5,a6=>by
   show W Q K (b57_2 G k (l57_2g G k Ko j) Ko (A.length:Int) a p c s left all L i kind nm en ex tr (A++[]) z h0 hs h1 h2 h3 h4 h5)
   unfold b57_2
   refine W_no (by simp) ?_
   rw[List.append_nil]at a5 ⊢
   exact hKo A i a5 a3 a6
 |b::B,A,j+1,i,a1,a2,a3,a4,a5,a6=>by
  show W Q K (b57_2 G k (l57_2g G k Ko j) Ko (A.length:Int) a p c s left all L i kind nm en ex tr (A++b::B) z h0 hs h1 h2 h3 h4 h5)
  unfold b57_2
  simp only[List.length_cons]at a1 a2
  have hlt:(A.length:Int)<(((A++b::B).length:Nat):Int):=by simp;omega
  refine W_yes hlt (W_and (W_yes (by omega) (W_yes hlt ?_)))
  refine W_nth (by omega) (fun v hv _=> ?_)
  have hvb:v=b:=by simp at hv;exact hv.symm
  subst hvb
  have hb:=a4 v List.mem_cons_self
  have hbk:=hb
  cases d with
  |zero=>exact hb.elim
  |succ d=>
  obtain⟨_,_,_,_,_,_,rfl,_⟩:=hb
  refine W_asAgg ?_
  refine W_call (hF _ a p c s all L left i _ hbk ha hp hc hss hal hal2 a6) ?_
  rintro _ ⟨y,j',rfl,b1,b2,b3,b4⟩
  have b5:=kn_eq b2 b4
  have b1':=b1
  obtain⟨_,_,_,_,_,_,rfl,_⟩:=b1
  repeat (with_reducible (first|(refine W_uI ?_)|(refine W_uS ?_)|(refine W_uL ?_)|(refine W_uA ?_)|(refine W_uB ?_)|(refine W_aI ?_)|(refine W_aL ?_)|(refine W_ca3 ?_)|(refine W_ce3 ?_)|(refine W_ca4 ?_)|(refine W_ce4 ?_)|(refine W_ca5 ?_)|(refine W_ce5 ?_)|(refine W_ca6 ?_)|(refine W_ce6 ?_)|(refine W_ca7 ?_)|(refine W_ce7 ?_)|(refine W_ca8 ?_)|(refine W_ce8 ?_)|(refine W_unCons ?_)|(refine W_unNil ?_)|(refine W_asInt ?_)|(refine W_asStr ?_)|(refine W_asSl ?_)|(refine W_asAgg ?_)|(refine W_kd ?_)|(refine W_z ?_)))
  rw[Int.toNat_natCast,set2]
  refine W_and (W_yes (by omega) (W_yes (by rw[List.length_set];exact hlt) ?_))
  refine W_nth (by rw[List.length_set];omega) (fun v _ _=> ?_)
  rw[wrap_id (n:=(A.length:Int)+1) (by omega)]
  have e:=kid_loop hF (kind:=kind) (z:=z) (h0:=h0) (h5:=h5) (hs:=hs) (nm:=nm) (h1:=h1) (h2:=h2) (h3:=h3) (h4:=h4) (en:=en) (ex:=ex) (tr:=tr) (left:=left) ha hp hc hss hal hal2 hKo B (A++[_]) j j' (by omega) (by simp;omega) (mem_snoc a3 b1') (fun t ht=>a4 t (List.mem_cons_of_mem _ ht)) (by rw[←a5];simp only[List.append_assoc,List.singleton_append,List.map_append,List.map_cons];rw[b5]) b3
  simp only[List.append_assoc,List.singleton_append,List.length_append,List.length_cons,List.length_nil,Nat.zero_add,Int.natCast_add,Int.natCast_one]at e
  exact e
theorem fill_ok{d:Nat}(hk:1000≤k)(hN:NextS G)(hPk:PickS G)(hEv:EventS G)(hE:ExprOK 2 G)(hB2:BlockOK 2 G)(hB1:BlockOK 1 G)(hF:∀d',d=d'+1→FillOK d' G):FillOK d (fun _ args (K:LV→OV R)=>g57 G k args K):=by
 intro x a p c s all L left i K hx ha hp hc hs hal hal2 hr
 cases d with
 |zero=>exact hx.elim
 |succ d=>
 have hx2:=hx
 obtain⟨kind,nm,en,ex,tr,kids,rfl,x1,x2,x3,x4,x5,x6,x7,x8,x9,x10,x11,x12,x13⟩:=hx
 show W _ K (f57 G k kind nm en ex tr kids 0 a p c s left all L i K)
 unfold f57
 have htr:tr=[]:=List.eq_nil_of_length_eq_zero (by omega)
 subst htr
 refine W_dec (fun h=>W_ret ⟨_,_,rfl,StateS.le (by omega) hx2,rfl,hr,rfl⟩) (fun h=> ?_)
 have hal3:StrsS 100 all:=⟨by omega,fun v hv=>by obtain⟨s,e,h,_⟩:=hal v hv;exact⟨s,e,h⟩⟩
 unfold NextS at hN;unfold BlockOK at hB1
 have fin:∀(kids' en' ex' tr':LV) (j:Int),kids'.map (kn d)=kids.map (kn d)→(∀t∈kids',StateS 2 d t)→RowS L j→BlockS 2 en'→BlockS 2 ex'→tr'.length≤2→(∀t∈tr',TransS t)→
  W (fun o=>∃y j,o=[y,.int .i64 left,.int .i64 j]∧StateS 2 (d+1) y∧kindV y=kindV (.agg [.int .i64 kind,.str nm,.sl 8 en,.sl 8 ex,.sl 5 [],.sl 7 kids,.int .i64 0])∧RowS L j∧nmV (d+1) y=nmV (d+1) (.agg [.int .i64 kind,.str nm,.sl 8 en,.sl 8 ex,.sl 5 [],.sl 7 kids,.int .i64 0])) K
    (K [.agg [.int .i64 kind,.str nm,.sl 8 en',.sl 8 ex',.sl 5 tr',.sl 7 kids',.int .i64 0],.int .i64 left,.int .i64 j]):=by
  intro kids' en' ex' tr' j b1 b2 b3 b4 b5 b6 b7
  have hl:kids'.length=kids.length:=by have:=congrArg List.length b1;simpa using this
  refine W_ret ⟨_,_,rfl,⟨kind,nm,en',ex',tr',kids',rfl,x1,x2,x3,x4,b4,b5,b6,b7,by omega,b2,fun h'=>absurd h' h,?_,fun h' e=>x13 h' (List.eq_nil_of_length_eq_zero (by rw[←hl,e];rfl))⟩,rfl,b3,?_⟩
  rotate_left
  ·have e2:=congrArg (List.map Prod.snd) b1
   simp only[List.map_map]at e2
   exact congrArg (fun l:List (LV)=>V.str nm::l.flatten) e2
  intro v r e
  cases kids with
  |nil=>rw[e]at hl;simp at hl
  |cons u us=>
   rw[e]at b1;simp[kn]at b1
   rw[b1.1.1];exact x12 u us rfl
 have go:∀(en' ex':LV) (n j:Int) (Kx:LV→OV R),RowS L j→0≤n→n≤2→BlockS 2 en'→BlockS 2 ex'→
  W (fun o=>∃y j,o=[y,.int .i64 left,.int .i64 j]∧StateS 2 (d+1) y∧kindV y=kindV (.agg [.int .i64 kind,.str nm,.sl 8 en,.sl 8 ex,.sl 5 [],.sl 7 kids,.int .i64 0])∧RowS L j∧nmV (d+1) y=nmV (d+1) (.agg [.int .i64 kind,.str nm,.sl 8 en,.sl 8 ex,.sl 5 [],.sl 7 kids,.int .i64 0])) K
    (l57_0 G k n a p c s left all L j kind nm en' ex' [] kids 0 0 ⟨#[]⟩ [] [] [] [] 0 (fun yl390 yl391 yl392 yl393 yi394 yl395 yl396 yi397 yi398 ys399 yl400 yl401 yl402 yl403 yi404 yi405 ys406 yl407 yl408 yl409 yl410 yi411=>(l57_2 G k (0:Int) yl390 yl391 yl392 yl393 yi394 yl395 yl396 yi397 yi398 ys399 yl400 yl401 yl402 yl403 yi404 yi405 ys406 yl407 yl408 yl409 yl410 yi411 (fun yl477 yl478 yl479 yl480 yi481 yl482 yl483 yi484 yi485 ys486 yl487 yl488 yl489 yl490 yi491 yi492 ys493 yl494 yl495 yl496 yl497 yi498=>(K [(.agg [(.int .i64 yi485),(.str ys486),(.sl 8 yl487),(.sl 8 yl488),(.sl 5 yl489),(.sl 7 yl490),(.int .i64 yi491)]),(.int .i64 yi481),(.int .i64 yi484)]))))):=by
  intro en' ex' n j _ b1 b2 b3 b4 b5
  unfold l57_0
  refine tr_loop hN hPk hEv hE hB2 ha hp hc hs hal3 ?_ k n j [] (by omega) b2 (by simp;omega) (by simp) b1
  intro tr' j' c1 c2 c3
  unfold l57_2
  have e:=kid_loop (Q:=fun o=>∃y j,o=[y,.int .i64 left,.int .i64 j]∧StateS 2 (d+1) y∧kindV y=kindV (.agg [.int .i64 kind,.str nm,.sl 8 en,.sl 8 ex,.sl 5 [],.sl 7 kids,.int .i64 0])∧RowS L j∧nmV (d+1) y=nmV (d+1) (.agg [.int .i64 kind,.str nm,.sl 8 en,.sl 8 ex,.sl 5 [],.sl 7 kids,.int .i64 0])) (K:=K) (k:=k) (hF d rfl) (kind:=kind) (z:=0) (h0:=0) (h5:=0) (hs:=⟨#[]⟩) (nm:=nm) (h1:=[]) (h2:=[]) (h3:=[]) (h4:=[]) (en:=en') (ex:=ex') (tr:=tr') (left:=left) (ks:=kids.map (kn d))
   (Ko:=(fun yl477 yl478 yl479 yl480 yi481 yl482 yl483 yi484 yi485 ys486 yl487 yl488 yl489 yl490 yi491 yi492 ys493 yl494 yl495 yl496 yl497 yi498=>(K [(.agg [(.int .i64 yi485),(.str ys486),(.sl 8 yl487),(.sl 8 yl488),(.sl 5 yl489),(.sl 7 yl490),(.int .i64 yi491)]),(.int .i64 yi481),(.int .i64 yi484)])))
   ha hp hc hs hal hal2 (fun kids' j'' d1 d2 d3=>fin kids' en' ex' tr' j'' d1 d2 d3 b4 b5 c1 c2) kids [] k j' (by omega) (by simpa using x9) (by simp) x10 rfl c3
  exact e
 refine W_call (hN _ _ _ _ (by omega) (by omega) hr) ?_
 rintro _ ⟨y1,i1,rfl,y11,y12,r1⟩
 refine W_uI (W_uI (W_unNil ?_))
 have last:∀(en' ex':LV) (j:Int),RowS L j→BlockS 2 en'→BlockS 2 ex'→∀(F:LV→OV R),(∀n j',F [.int .i64 n,.int .i64 j']=(l57_0 G k n a p c s left all L j' kind nm en' ex' [] kids 0 0 ⟨#[]⟩ [] [] [] [] 0 (fun yl390 yl391 yl392 yl393 yi394 yl395 yl396 yi397 yi398 ys399 yl400 yl401 yl402 yl403 yi404 yi405 ys406 yl407 yl408 yl409 yl410 yi411=>(l57_2 G k (0:Int) yl390 yl391 yl392 yl393 yi394 yl395 yl396 yi397 yi398 ys399 yl400 yl401 yl402 yl403 yi404 yi405 ys406 yl407 yl408 yl409 yl410 yi411 (fun yl477 yl478 yl479 yl480 yi481 yl482 yl483 yi484 yi485 ys486 yl487 yl488 yl489 yl490 yi491 yi492 ys493 yl494 yl495 yl496 yl497 yi498=>(K [(.agg [(.int .i64 yi485),(.str ys486),(.sl 8 yl487),(.sl 8 yl488),(.sl 5 yl489),(.sl 7 yl490),(.int .i64 yi491)]),(.int .i64 yi481),(.int .i64 yi484)]))))))→
  W (fun o=>∃y j,o=[y,.int .i64 left,.int .i64 j]∧StateS 2 (d+1) y∧kindV y=kindV (.agg [.int .i64 kind,.str nm,.sl 8 en,.sl 8 ex,.sl 5 [],.sl 7 kids,.int .i64 0])∧RowS L j∧nmV (d+1) y=nmV (d+1) (.agg [.int .i64 kind,.str nm,.sl 8 en,.sl 8 ex,.sl 5 [],.sl 7 kids,.int .i64 0])) K (G 26 [.int .i64 3,.sl 1 L,.int .i64 j] F):=by
  intro en' ex' j b1 b2 b3 F hFe
  refine W_call (hN _ _ _ _ (by omega) (by omega) b1) ?_
  rintro _ ⟨n,i1,rfl,n1,n2,r1⟩
  rw[hFe]
  exact go en' ex' n i1 K r1 n1 (by omega) b2 b3
 refine W_beqI (fun _=> ?_) (fun _=> ?_)
 ·refine W_call (hB1 _ _ _ _ _ _ _ _ (by rfl) ha hp hc hs r1) ?_
  rintro _ ⟨en',i2,rfl,he,r2⟩
  refine W_uL (W_uI (W_unNil ?_))
  refine W_call (hN _ _ _ _ (by omega) (by omega) r2) ?_
  rintro _ ⟨y2,i3,rfl,y21,y22,r3⟩
  refine W_uI (W_uI (W_unNil ?_))
  refine W_beqI (fun _=> ?_) (fun _=> ?_)
  ·refine W_call (hB1 _ _ _ _ _ _ _ _ (by rfl) ha hp hc hs r3) ?_
   rintro _ ⟨ex',i4,rfl,hex,r4⟩
   refine W_uL (W_uI (W_unNil ?_))
   exact last en' ex' i4 r4 he hex _ (fun n j'=>rfl)
  ·exact last en' ex i3 r3 he x6 _ (fun n j'=>rfl)
 ·refine W_call (hN _ _ _ _ (by omega) (by omega) r1) ?_
  rintro _ ⟨y2,i3,rfl,y21,y22,r3⟩
  refine W_uI (W_uI (W_unNil ?_))
  refine W_beqI (fun _=> ?_) (fun _=> ?_)
  ·refine W_call (hB1 _ _ _ _ _ _ _ _ (by rfl) ha hp hc hs r3) ?_
   rintro _ ⟨ex',i4,rfl,hex,r4⟩
   refine W_uL (W_uI (W_unNil ?_))
   exact last en ex' i4 r4 x5 hex _ (fun n j'=>rfl)
  ·exact last en ex i3 r3 x5 x6 _ (fun n j'=>rfl)
end
section
variable {R : Type} {G : ORC R} {k : Nat}
def ChartOK(G:ORC R):Prop:=∀(nm:ByteArray) (np:Int) (L:LV) (i:Int) (K:LV→OV R),StrS nm→0≤np→np≤100→RowS L i→
 W (fun o=>∃c j,o=[c,.int .i64 j]∧ChartS c∧RowS L j) K (G 24 [.str nm,.int .i64 np,.sl 1 L,.int .i64 i] K)
variable {Q : LV → Prop} {K : LV → OV R} {L a p c q1 q2 q3 q4 vars ports timers : LV} {s1 nm : ByteArray} {z1 z2 z3 z4 st fu : Int}
theorem chart_loop0(hS:StOK 2 G){Ko:LV→Int→ByteArray→Int→Int→LV→LV→LV→LV→Int→ByteArray→Int→Int→LV→LV→LV→LV→Int→LV→LV→LV→LV→Int→LV→OV R}
 {s:LV} {T:Int} (hT:T≤20)
 (hKo:∀states j left all,(nmVL 3 states=all∧NmI all)→states.length≤2→states≠[]→(∀v∈states,StateS 0 3 v∧kindV v≤2)→0≤left→left+(List.length all:Int)=T→NmsS all→RowS L j→W Q K (Ko L j s1 z1 z2 q1 q2 q3 q4 z3 nm st fu vars ports timers states z4 a p c s left all)):
 ∀(j:Nat) (n i left:Int) (states all:LV),(nmVL 3 states=all∧NmI all)→n<j→0≤n→(states.length:Int)+n≤2→(states=[]→1≤left∧0<n)→0≤left→left+(List.length all:Int)=T→NmsS all→RowS L i→(∀v∈states,StateS 0 3 v∧kindV v≤2)→
  W Q K (l24_0g G k Ko j n L i s1 z1 z2 q1 q2 q3 q4 z3 nm st fu vars ports timers states z4 a p c s left all)
 |0,n,i,left,states,all,a0,a1,a2,a3,a4,a5,a6,a7,a8,a9=>by omega
 |j+1,n,i,left,states,all,a0,a1,a2,a3,a4,a5,a6,a7,a8,a9=>by
  show W Q K (b24_0 G k (l24_0g G k Ko j) Ko n L i s1 z1 z2 q1 q2 q3 q4 z3 nm st fu vars ports timers states z4 a p c s left all)
  unfold b24_0
  by_cases hn:n>0
  ·refine W_yes hn ?_
   by_cases hl:left>0
   ·refine W_yes hl ?_
    refine W_call (hS false a p c s all L _ left i _ (by rfl) (by omega) (by omega) a7 a0.2 a8) ?_
    rintro _ ⟨x,left',all',j',rfl,b1,b2,b3,b4,b5,b6,b7,b8,b8'⟩
    have b1':=b1
    have b9:nmVL 3 (states++[x])=all'∧NmI all':=⟨by rw[nmVL_app,a0.1,b8];simp[nmVL],b8'⟩
    obtain⟨_,_,_,_,_,_,rfl,_⟩:=b1
    repeat (with_reducible (first|(refine W_uI ?_)|(refine W_uS ?_)|(refine W_uL ?_)|(refine W_uA ?_)|(refine W_uB ?_)|(refine W_aI ?_)|(refine W_aL ?_)|(refine W_ca3 ?_)|(refine W_ce3 ?_)|(refine W_ca4 ?_)|(refine W_ce4 ?_)|(refine W_ca5 ?_)|(refine W_ce5 ?_)|(refine W_ca6 ?_)|(refine W_ce6 ?_)|(refine W_ca7 ?_)|(refine W_ce7 ?_)|(refine W_ca8 ?_)|(refine W_ce8 ?_)|(refine W_unCons ?_)|(refine W_unNil ?_)|(refine W_asInt ?_)|(refine W_asStr ?_)|(refine W_asSl ?_)|(refine W_asAgg ?_)|(refine W_kd ?_)|(refine W_z ?_)))
    refine W_yes (by omega) ?_
    have e1:IntKind.i64.wrap (n-1)=n-1:=wrap_id (by omega)
    rw[e1]
    exact chart_loop0 hS hT hKo j _ _ _ _ _ b9 (by omega) (by omega) (by simp;omega) (by simp) b3 (by omega) b6 b7 (mem_snoc a9 ⟨b1',b2⟩)
   ·refine W_no hl ?_
    have hacc:states≠[]:=fun h=>by have:=(a4 h).1;omega
    have hlen:((states.length:Nat):Int)≠0:=fun h=>hacc (List.eq_nil_of_length_eq_zero (by omega))
    refine W_eqN hlen ?_
    exact hKo states i left all a0 (by omega) hacc a9 a5 a6 a7 a8
  ·exact W_no hn (hKo states i left all a0 (by omega) (fun h=>by have:=(a4 h).2;omega) a9 a5 a6 a7 a8)
theorem chart_loop2{Ko:LV→Int→ByteArray→Int→Int→LV→LV→LV→LV→Int→ByteArray→Int→Int→LV→LV→LV→LV→Int→LV→LV→LV→LV→Int→LV→OV R}
 {states all:LV} {at_ left:Int} (hall:NmsS all) (hlen:all.length≤20)
 (hKo:∀s,StrsS 20 s→W Q K (Ko L at_ s1 z1 z2 q1 q2 q3 q4 z3 nm st fu vars ports timers states z4 a p c s left all)):
 ∀(j:Nat) (i:Int) (s:LV),(all.length:Int)-i<j→0≤i→i≤all.length→StrsS i.toNat s→
  W Q K (l24_2g G k Ko j i L at_ s1 z1 z2 q1 q2 q3 q4 z3 nm st fu vars ports timers states z4 a p c s left all)
 |0,i,s,a1,a2,a3,a4=>by omega
 |j+1,i,s,a1,a2,a3,a4=>by
  show W Q K (b24_2 G k (l24_2g G k Ko j) Ko i L at_ s1 z1 z2 q1 q2 q3 q4 z3 nm st fu vars ports timers states z4 a p c s left all)
  unfold b24_2
  have hs:=a4.1
  refine W_dec (fun h=> ?_) (fun h=>hKo s ⟨by omega,a4.2⟩)
  have e1:IntKind.i64.wrap (i+1)=i+1:=wrap_id (by omega)
  rw[e1]
  refine W_and (W_yes a2 (W_yes h ?_))
  refine W_nth (by omega) (fun v hv hm=> ?_)
  obtain⟨t,rfl,t1,t2⟩:=hall v hm
  refine W_asStr (W_yes (by omega) ?_)
  refine W_beqI (fun _=> ?_) (fun _=> ?_)
  ·refine W_and (W_yes a2 (W_yes h ?_))
   refine W_nth (by omega) (fun w hw _=> ?_)
   rw[hv]at hw;cases hw
   refine W_asStr (W_yes (by omega) ?_)
   exact chart_loop2 hall hlen hKo j (i+1) _ (by omega) (by omega) (by omega) (by rw[show(i+1).toNat=i.toNat+1 by omega];exact strs_snoc a4 t1)
  ·exact chart_loop2 hall hlen hKo j (i+1) _ (by omega) (by omega) (by omega) ⟨by omega,a4.2⟩
theorem chart_loop4(hF:FillOK 3 G){Ko:LV→Int→ByteArray→Int→Int→LV→LV→LV→LV→Int→ByteArray→Int→Int→LV→LV→LV→LV→Int→OV R}
 {s all:LV} {left:Int} (ha:StrsS 100 a) (hp:StrsS 100 p) (hc:StrsS 100 c) (hs:StrsS 100 s) (hall:NmsS all) (hlen:all.length≤20) {m:Nat} {M:LV}
 (hKo:∀states j,states.length=m→nmVL 3 states=M→(∀v∈states,StateS 2 3 v∧kindV v≤2)→RowS L j→W Q K (Ko L j s1 z1 z2 q1 q2 q3 q4 z3 nm st fu vars ports timers states z4)):
 ∀(B A:LV) (j:Nat) (i:Int),B.length<j→A.length+B.length≤4→(∀v∈A,StateS 2 3 v∧kindV v≤2)→(∀v∈B,StateS 0 3 v∧kindV v≤2)→A.length+B.length=m→nmVL 3 (A++B)=M→RowS L i→
  W Q K (l24_4g G k Ko j (A.length:Int) L i s1 z1 z2 q1 q2 q3 q4 z3 nm st fu vars ports timers (A++B) z4 a p c s left all)
 |B,A,0,i,a1,a2,a3,a4,a5,aM,a6=>by omega
 | [],A,j+1,i,a1,a2,a3,a4,a5,aM,a6=>by
   show W Q K (b24_4 G k (l24_4g G k Ko j) Ko (A.length:Int) L i s1 z1 z2 q1 q2 q3 q4 z3 nm st fu vars ports timers (A++[]) z4 a p c s left all)
   unfold b24_4
   refine W_no (by simp) ?_
   rw[List.append_nil]at aM ⊢
   exact hKo A i (by simpa using a5) aM a3 a6
 |b::B,A,j+1,i,a1,a2,a3,a4,a5,aM,a6=>by
  show W Q K (b24_4 G k (l24_4g G k Ko j) Ko (A.length:Int) L i s1 z1 z2 q1 q2 q3 q4 z3 nm st fu vars ports timers (A++b::B) z4 a p c s left all)
  unfold b24_4
  simp only[List.length_cons]at a1 a2 a5
  have hlt:(A.length:Int)<(((A++b::B).length:Nat):Int):=by simp;omega
  refine W_yes hlt (W_and (W_yes (by omega) (W_yes hlt ?_)))
  refine W_nth (by omega) (fun v hv _=> ?_)
  have hvb:v=b:=by simp at hv;exact hv.symm
  subst hvb
  have hb:=a4 v List.mem_cons_self
  have hbk:=hb
  obtain⟨⟨_,_,_,_,_,_,rfl,_⟩,_⟩:=hb
  refine W_asAgg ?_
  refine W_call (hF _ a p c s all L left i _ hbk.1 ha hp hc hs hall hlen a6) ?_
  rintro _ ⟨y,j',rfl,b1,b2,b3,b4⟩
  have b1':=b1
  have b5:nmVL 3 ((A++[y])++B)=M:=by rw[←aM];simp only[nmVL,List.flatMap_append,List.flatMap_cons,List.flatMap_nil,List.append_nil,List.append_assoc];rw[b4]
  obtain⟨_,_,_,_,_,_,rfl,_⟩:=b1
  repeat (with_reducible (first|(refine W_uI ?_)|(refine W_uS ?_)|(refine W_uL ?_)|(refine W_uA ?_)|(refine W_uB ?_)|(refine W_aI ?_)|(refine W_aL ?_)|(refine W_ca3 ?_)|(refine W_ce3 ?_)|(refine W_ca4 ?_)|(refine W_ce4 ?_)|(refine W_ca5 ?_)|(refine W_ce5 ?_)|(refine W_ca6 ?_)|(refine W_ce6 ?_)|(refine W_ca7 ?_)|(refine W_ce7 ?_)|(refine W_ca8 ?_)|(refine W_ce8 ?_)|(refine W_unCons ?_)|(refine W_unNil ?_)|(refine W_asInt ?_)|(refine W_asStr ?_)|(refine W_asSl ?_)|(refine W_asAgg ?_)|(refine W_kd ?_)|(refine W_z ?_)))
  rw[Int.toNat_natCast,set2]
  refine W_and (W_yes (by omega) (W_yes (by rw[List.length_set];exact hlt) ?_))
  refine W_nth (by rw[List.length_set];omega) (fun v _ _=> ?_)
  rw[wrap_id (n:=(A.length:Int)+1) (by omega)]
  have e:=chart_loop4 hF (left:=left) ha hp hc hs hall hlen hKo B (A++[_]) j j' (by omega) (by simp;omega) (mem_snoc a3 ⟨b1',by rw[b2];exact hbk.2⟩) (fun t ht=>a4 t (List.mem_cons_of_mem _ ht)) (by simp;omega) b5 b3
  simp only[List.append_assoc,List.singleton_append,List.length_append,List.length_cons,List.length_nil,Nat.zero_add,Int.natCast_add,Int.natCast_one]at e
  exact e
theorem sz1(c:UInt8):(⟨#[c]⟩:ByteArray).size≤10:=by show(1:Nat)≤10;omega
theorem chart_ok(hk:1000≤k)(hN:NextS G)(hNm:NamesS G)(hNd:NumdS G)(hPl:PlainS G)(hS:StOK 2 G)(hF:FillOK 3 G):ChartOK (fun _ args (K:LV→OV R)=>g24 G k args K):=by
 intro nm np L i K hnm h1 h2 hr
 show W _ K (f24 G k nm np L i K)
 unfold f24
 unfold NextS at hN;unfold NamesS at hNm;unfold NumdS at hNd;unfold PlainS at hPl
 refine W_call (hN _ _ _ _ (by omega) (by omega) hr) ?_
 rintro _ ⟨x1,i1,rfl,x11,x12,r1⟩
 refine W_uI (W_uI (W_unNil ?_))
 refine W_call (hN _ _ _ _ (by omega) (by omega) r1) ?_
 rintro _ ⟨x2,i2,rfl,x21,x22,r2⟩
 refine W_uI (W_uI (W_unNil ?_))
 refine W_call (hNm _ _ _ (sz1 _) x21 (by omega)) ?_
 rintro _ ⟨l1,rfl,hl1⟩
 refine W_uL (W_unNil ?_)
 refine W_call (hNm _ _ _ (sz1 _) h1 h2) ?_
 rintro _ ⟨l2,rfl,hl2⟩
 refine W_uL (W_unNil ?_)
 refine W_call (hN _ _ _ _ (by omega) (by omega) r2) ?_
 rintro _ ⟨x3,i3,rfl,x31,x32,r3⟩
 refine W_uI (W_uI (W_unNil ?_))
 refine W_call (hNm _ _ _ (sz1 _) x31 (by omega)) ?_
 rintro _ ⟨l3,rfl,hl3⟩
 refine W_uL (W_unNil ?_)
 refine W_call (hN _ _ _ _ (by omega) (by omega) r3) ?_
 rintro _ ⟨x4,i4,rfl,x41,x42,r4⟩
 refine W_uI (W_uI (W_unNil ?_))
 refine W_call (hN _ _ _ _ (by omega) (by omega) r4) ?_
 rintro _ ⟨x5,i5,rfl,x51,x52,r5⟩
 refine W_uI (W_uI (W_unNil ?_))
 refine W_and (W_yes (by omega) (W_yes (by omega) ?_))
 refine W_nth (by simp;omega) (fun v _ hv=> ?_)
 have hv2:∃fu,v= .int .i64 fu∧4≤fu∧fu≤200:=by
  simp only[List.mem_cons,List.not_mem_nil,or_false]at hv
  rcases hv with rfl|rfl|rfl|rfl<;>exact⟨_,rfl,by omega,by omega⟩
 obtain⟨fu,rfl,fu1,fu2⟩:=hv2
 refine W_aI ?_
 refine W_call (hNd _ _ _ _ hl1 r5) ?_
 rintro _ ⟨v1,i6,rfl,hv1,r6⟩
 refine W_uL (W_uI (W_unNil ?_))
 refine W_call (hPl _ _ hl2) ?_
 rintro _ ⟨v2,rfl,hv2⟩
 refine W_uL (W_unNil ?_)
 refine W_call (hPl _ _ hl3) ?_
 rintro _ ⟨v3,rfl,hv3⟩
 refine W_uL (W_unNil ?_)
 refine W_call (hN _ _ _ _ (by omega) (by omega) r6) ?_
 rintro _ ⟨x7,i7,rfl,x71,x72,r7⟩
 refine W_uI (W_uI (W_unNil ?_))
 have e1:IntKind.i64.wrap (1+x7)=1+x7:=wrap_id (by omega)
 have e2:IntKind.i64.wrap (2+x1)=2+x1:=wrap_id (by omega)
 have e3:IntKind.i64.wrap (2+x4)=2+x4:=wrap_id (by omega)
 rw[e1,e2,e3]
 unfold l24_0
 refine chart_loop0 (T:=2+x1) hS (by omega) ?_ k _ _ _ _ _ ⟨rfl,fun i v h=>by simp at h⟩ (by omega) (by omega) (by simp;omega) (fun _=>⟨by omega,by omega⟩) (by omega) (by simp) (by intro v hv;simp at hv) r7 (by simp)
 intro states j left all c0 c1 c2 c3 c4 c5 c6 c7
 unfold l24_2
 refine chart_loop2 c6 (by omega) ?_ k 0 [] (by omega) (by omega) (by omega) ⟨by simp,by simp⟩
 intro s hs
 unfold l24_4
 refine chart_loop4 (A:=[]) (m:=states.length) (M:=nmVL 3 states) hF hl1 hl2 hl3 ⟨by have:=hs.1;omega,hs.2⟩ c6 (by omega) ?_ states k j (by omega) (by simp;omega) (by simp) c3 (by simp) rfl c7
 intro states' j' d1 dM d2 d3
 exact W_ret ⟨_,_,rfl,⟨nm,_,fu,v1,v2,v3,states',rfl,hnm,by omega,by omega,fu1,fu2,hv1,hv2,hv3,by omega,fun h=>c2 (List.eq_nil_of_length_eq_zero (by rw[←d1,h];rfl)),d2,by have:=nmVL_len (d:=3) (l:=states');rw[dM,c0.1]at this;omega,by rw[dM,c0.1];exact c0.2⟩,d3⟩
end
section
variable {R : Type} {G : ORC R} {k : Nat} {K : LV → OV R}
def KindOK(G:ORC R):Prop:=∀(v:V) (m d:Nat) (K:LV→OV R),StateS m d v→W (fun o=>o=[.int .i64 (ndKind v)]) K (G 68 [v] K)
theorem kind_ok:KindOK (fun _ args (K:LV→OV R)=>g68 G k args K):=by
 intro v m d K hv
 cases d with
 |zero=>exact hv.elim
 |succ d=>
 obtain⟨kind,nm,en,ex,tr,kids,rfl,_⟩:=hv
 show W _ K (f68 G k kind nm en ex tr kids 0 K)
 unfold f68
 have e:ndKind (.agg [.int .i64 kind,.str nm,.sl 8 en,.sl 8 ex,.sl 5 tr,.sl 7 kids,.int .i64 0])=if kind=3 then 4 else if kind=4 then 5 else if kind=2 then 3 else if kids.length=0 then 1 else 2:=rfl
 rw[e]
 refine W_beqI (fun h=> ?_) (fun h=> ?_)
 ·exact W_ret (by rw[if_pos h])
 refine W_beqI (fun h1=> ?_) (fun h1=> ?_)
 ·exact W_ret (by rw[if_neg h,if_pos h1])
 refine W_beqI (fun h2=> ?_) (fun h2=> ?_)
 ·exact W_ret (by rw[if_neg h,if_neg h1,if_pos h2])
 refine W_beqI (fun h3=> ?_) (fun h3=> ?_)
 ·exact W_ret (by rw[if_neg h,if_neg h1,if_neg h2,if_pos (by omega)])
 ·exact W_ret (by rw[if_neg h,if_neg h1,if_neg h2,if_neg (by omega)])
def IsStOK(G:ORC R):Prop:=∀(n:Nd) (K:LV→OV R),W (fun o=>o=[.bool (decide (n.kind≤3))]) K (G 27 [n.v] K)
theorem isst_ok:IsStOK (fun _ args (K:LV→OV R)=>g27 G k args K):=by
 intro n K
 show W _ K (f27 G k n.kind n.parent n.last n.init n.entry n.exit n.name K)
 unfold f27
 exact W_ret rfl
def PutOK(d:Nat)(G:ORC R):Prop:=∀(l:List Nd) (kids:LV) (up:Nat) (K:LV→OV R),(∀s∈kids,StateS 2 d s)→(∀s r,kids=s::r→kindV s≤2)→up<l.length→l.length+nszL d kids≤1000→
 W (fun o=>o=[.sl 7 ((fixup l up l.length kids++forest d up l.length kids).map Nd.v)]) K (G 52 [.sl 7 (l.map Nd.v),.sl 7 kids,.int .i64 up] K)
theorem fixup_one{P:List Nd}{nd:Nd}{n:Nat}{s:V}{kids:LV}(hn:P.length=n)(hi:nd.init= -1)(hk:nd.kind=ndKind s)(hs:stKids s=kids):
 fixup (P++[nd]) n (n+1) kids=P++[{nd with init:=if ndKind s=2 then(n:Int)+1 else-1}]:=by
 subst hn
 unfold fixup
 cases kids with
 |nil=>
  have h2:ndKind s≠2:=by unfold ndKind;rw[hs];simp;omega
  simp only[if_neg h2]
  rw[←hi]
 |cons a r=>
  simp only[List.getElem?_append_right (Nat.le_refl _),Nat.sub_self,List.getElem?_cons_zero]
  by_cases h2:ndKind s=2
  ·rw[if_pos ⟨by omega,by omega⟩,if_pos h2];simp
  ·rw[if_neg (by omega),if_neg h2,←hi]
theorem put_loop{d:Nat}(hKd:KindOK G)(hSt:IsStOK G)(hP:∀d',d=d'+1→PutOK d' G){Q:LV→Prop}{K:LV→OV R}{Ko:LV→OV R}{l0:List Nd}{kids:LV}{up:Nat}
 (hk:∀s∈kids,StateS 2 d s) (hh:∀s r,kids=s::r→kindV s≤2) (hup:up<l0.length) (hsz:l0.length+nszL d kids≤1000)
 (hKo:W Q K (Ko ((fixup l0 up l0.length kids++forest d up l0.length kids).map Nd.v))):
 ∀(B A:LV) (j:Nat),kids=A++B→B.length<j→W Q K (l52_0g G k Ko j ((fixup l0 up l0.length A++forest d up l0.length A).map Nd.v) (A++B) up A.length)
 |B,A,0,h1,h2=>by omega
 | [],A,j+1,h1,h2=>by
   show W Q K (b52_0 G k (l52_0g G k Ko j) Ko ((fixup l0 up l0.length A++forest d up l0.length A).map Nd.v) (A++[]) up A.length)
   unfold b52_0
   refine W_no (by simp) ?_
   rw[List.append_nil]at h1
   rw[←h1];exact hKo
 |b::B,A,j+1,h1,h2=>by
  show W Q K (b52_0 G k (l52_0g G k Ko j) Ko ((fixup l0 up l0.length A++forest d up l0.length A).map Nd.v) (A++b::B) up A.length)
  unfold b52_0
  have hb:StateS 2 d b:=hk b (by rw[h1];simp)
  have hbk:=hb
  cases d with
  |zero=>exact hb.elim
  |succ d=>
  simp only[List.length_cons]at h2
  have hAl:=nszL_len (d:=d) (l:=A)
  have hnsz:nszL (d+1) kids=nszL (d+1) A+(1+nszL d (stKids b)+nszL (d+1) B):=by rw[h1,nszL_app,nszL_cons]
  obtain⟨kind,nm,en,ex,tr,kb,rfl,x1,x2,x3,x4,x5,x6,x7,x8,x9,x10,x11,x12,x13⟩:=hb
  have hkb:stKids (.agg [.int .i64 kind,.str nm,.sl 8 en,.sl 8 ex,.sl 5 tr,.sl 7 kb,.int .i64 0])=kb:=rfl
  have hnb:stName (.agg [.int .i64 kind,.str nm,.sl 8 en,.sl 8 ex,.sl 5 tr,.sl 7 kb,.int .i64 0])=nm:=rfl
  have hkk:kindV (.agg [.int .i64 kind,.str nm,.sl 8 en,.sl 8 ex,.sl 5 tr,.sl 7 kb,.int .i64 0])=kind:=rfl
  generalize hbe:(V.agg [.int .i64 kind,.str nm,.sl 8 en,.sl 8 ex,.sl 5 tr,.sl 7 kb,.int .i64 0])=b at*
  have hcl:(fixup l0 up l0.length A++forest (d+1) up l0.length A).length=l0.length+nszL (d+1) A:=by rw[List.length_append,fixup_len,forest_len]
  have hlt:(A.length:Int)<(((A++b::B).length:Nat):Int):=by simp;omega
  have hnthb:∀v,(A++b::B)[Int.toNat (A.length:Int)]? =some v→v=b:=fun v hv=>by simp at hv;exact hv.symm
  refine W_yes hlt (W_and (W_yes (by omega) (W_yes hlt ?_)))
  refine W_nth (by omega) (fun v hv _=> ?_)
  rw[hnthb v hv,←hbe]
  refine W_asAgg ?_
  rw[hbe]
  refine W_call (hKd b 2 (d+1) _ hbk) ?_
  rintro _ rfl
  refine W_uI (W_unNil ?_)
  refine W_and (W_yes (by omega) (W_yes hlt ?_))
  refine W_nth (by omega) (fun v hv _=> ?_)
  rw[hnthb v hv,←hbe]
  refine W_ca7 (W_asStr ?_)
  rw[hbe]
  generalize hcur:fixup l0 up l0.length A++forest (d+1) up l0.length A=cur at*
  generalize hn0:cur.length=n at*
  have hnd:List.map Nd.v cur++[.agg [.int .i64 (ndKind b),.int .i64 (up:Int),.int .i64 0,.int .i64 (-1),.int .i64 (-1),.int .i64 (-1),.str nm]]=(cur++[(⟨ndKind b,up,0,-1,-1,-1,nm⟩:Nd)]).map Nd.v:=by rw[List.map_append];rfl
  rw[hnd]
  refine W_yes (by rw[List.length_map];omega) ?_
  simp only[List.length_map,hn0,List.length_append,List.length_cons,List.length_nil]
  have hupn:up<n:=by omega
  refine W_and (W_yes (by omega) (W_yes (by omega) ?_))
  refine W_nthN (by simp;omega) (fun n1 hn1=>W_nd ?_)
  refine W_ce7 (W_aI ?_)
  have hn1':cur[up]? =some n1:=by
   rw[Int.toNat_natCast,List.getElem?_append_left (by omega)]at hn1;exact hn1
  have hcur1:A=[]→cur=l0:=fun h=>by rw[←hcur,h,fixup_nil];simp[forest]
  have hcur2:A≠[]→¬(n1.init<0∧n1.kind=2):=by
   intro hA hc
   rw[←hcur,List.getElem?_append_left (by rw[fixup_len];exact hup)]at hn1'
   cases A with
   |nil=>exact hA rfl
   |cons a r=>
    have e0:l0[up]? =some l0[up]:=List.getElem?_eq_getElem hup
    unfold fixup at hn1'
    simp only[e0]at hn1'
    by_cases hq:l0[up].init<0∧l0[up].kind=2
    ·rw[if_pos hq,List.getElem?_set_self hup]at hn1'
     cases hn1'
     have:=hc.1
     simp at this;omega
    ·rw[if_neg hq,e0]at hn1'
     cases hn1';exact hq hc
  have hfx:fixup l0 up l0.length (A++[b])++forest (d+1) up l0.length A=if n1.init<0∧n1.kind=2 then cur.set up {n1 with init:=n}else cur:=by
   by_cases hA:A=[]
   ·have hc:=hcur1 hA
    subst hA
    have hn00:n=l0.length:=by rw[←hn0,hc]
    rw[←hn00]
    rw[hc]at hn1' ⊢
    unfold fixup
    simp only[List.nil_append,hn1']
    rw[show forest (d+1) (up:Int) n []=[]by rw[forest],List.append_nil]
   ·rw[if_neg (hcur2 hA),←hcur]
    congr 1
    unfold fixup
    cases A with
    |nil=>exact absurd rfl hA
    |cons a r=>cases l0[up]? <;>rfl
  have fin:∀L2:List Nd,L2=(fixup l0 up l0.length (A++[b])++forest (d+1) up l0.length A)++[(⟨ndKind b,up,0,-1,-1,-1,nm⟩:Nd)]→∀(n2:Nd) (len:Int),len=((fixup L2 n (n+1) kb++forest d n (n+1) kb).length:Int)-1→(fixup L2 n (n+1) kb++forest d n (n+1) kb)[n]? =some n2→
   (fixup L2 n (n+1) kb++forest d n (n+1) kb).set n {n2 with last:=len}=fixup l0 up l0.length (A++[b])++forest (d+1) up l0.length (A++[b]):=by
   intro L2 hL2 n2 len hlen hn2
   have hPl:(fixup l0 up l0.length (A++[b])++forest (d+1) up l0.length A).length=n:=by rw[List.length_append,fixup_len,forest_len];omega
   generalize hPe:fixup l0 up l0.length (A++[b])++forest (d+1) up l0.length A=P at*
   rw[hL2]at hn2 hlen ⊢
   rw[fixup_one hPl rfl rfl hkb]at hn2 hlen ⊢
   rw[List.append_assoc,List.getElem?_append_right (by omega)]at hn2
   rw[hPl,Nat.sub_self]at hn2
   simp only[List.cons_append,List.nil_append,List.getElem?_cons_zero,Option.some.injEq]at hn2
   rw[List.append_assoc,←hPl,List.set_append_right _ _ (Nat.le_refl _),Nat.sub_self]
   simp only[List.cons_append,List.nil_append,List.set_cons_zero]
   rw[forest_app,←List.append_assoc,hPe]
   congr 1
   rw[forest,hkb,hnb,show forest (d+1) (up:Int) (l0.length+nszL (d+1) A+1+nszL d kb) []=[]by rw[forest],List.append_nil]
   have hnn:l0.length+nszL (d+1) A=n:=by omega
   rw[hnn,←hn2,hPl]
   congr 1
   rw[hlen]
   simp only[List.length_append,List.length_cons,List.length_nil,forest_len,hPl]
   congr 1
   omega
  have rest:∀(L2:List Nd),L2=(fixup l0 up l0.length (A++[b])++forest (d+1) up l0.length A)++[(⟨ndKind b,up,0,-1,-1,-1,nm⟩:Nd)]→∀F:LV→OV R,
   (∀n2:Nd,(fixup L2 n (n+1) kb++forest d n (n+1) kb)[n]? =some n2→W Q K (F [.sl 7 ((fixup L2 n (n+1) kb++forest d n (n+1) kb).map Nd.v)]))→W Q K (G 52 [.sl 7 (L2.map Nd.v),.sl 7 kb,.int .i64 (n:Int)] F):=by
   intro L2 hL2 F hF
   have hPl:(fixup l0 up l0.length (A++[b])++forest (d+1) up l0.length A).length=n:=by rw[List.length_append,fixup_len,forest_len];omega
   have hL2l:L2.length=n+1:=by rw[hL2,List.length_append,hPl];rfl
   have hsz2:n+1+nszL d kb≤1000:=by rw[hkb]at hnsz;omega
   refine W_call (hP d rfl L2 kb n F x10 x12 (by omega) (by omega)) ?_
   rintro _ rfl
   rw[hL2l]
   have hl:n<(fixup L2 n (n+1) kb++forest d n (n+1) kb).length:=by rw[List.length_append,fixup_len];omega
   exact hF _ (List.getElem?_eq_getElem hl)
  have hnm1:∀m:Nd,(cur++[(⟨ndKind b,up,0,-1,-1,-1,nm⟩:Nd)])[Int.toNat (up:Int)]? =some m→m=n1:=fun m hm=>by rw[hn1]at hm;cases hm;rfl
  generalize hPe:fixup l0 up l0.length (A++[b])++forest (d+1) up l0.length A=P at hfx rest fin
  refine W_dec (fun hi=> ?_) (fun hi=> ?_)
  ·refine W_and (W_yes (by omega) (W_yes (by omega) ?_))
   refine W_nthN (by simp;omega) (fun m hm=>W_nd ?_)
   rw[hnm1 m hm]
   refine W_ce7 (W_aI ?_)
   refine W_beqI (fun hk2=> ?_) (fun hk2=> ?_)
   ·have hA:A=[]:=Classical.byContradiction fun h=>hcur2 h ⟨hi,hk2⟩
    have hbk2:kindV b≤2:=hh b B (by rw[h1,hA];rfl)
    have hnk:ndKind b≤3:=by unfold ndKind;split;omega;split;omega;split;omega;split<;>omega
    rw[if_pos ⟨hi,hk2⟩]at hfx
    refine W_and (W_yes (by omega) (W_yes (by omega) ?_))
    refine W_nthN (by simp;omega) (fun m hm=>W_nd ?_)
    have hm2:m=⟨ndKind b,up,0,-1,-1,-1,nm⟩:=by
     rw[Int.toNat_natCast,List.getElem?_append_right (by omega),hn0,Nat.sub_self]at hm
     simp at hm;exact hm.symm
    subst hm2
    refine W_ce7 (W_aI (W_aI (W_aI (W_aI (W_aI (W_aI (W_asStr ?_)))))))
    refine W_call (hSt ⟨ndKind b,up,0,-1,-1,-1,nm⟩ _) ?_
    rintro _ rfl
    refine W_uB (W_unNil (W_yes hnk ?_))
    refine W_and (W_yes (by omega) (W_yes (by omega) ?_))
    refine W_nthN (by simp;omega) (fun m hm=>W_nd ?_)
    rw[hnm1 m hm]
    refine W_ce7 ?_
    have hset:List.set (List.map Nd.v (cur++[(⟨ndKind b,up,0,-1,-1,-1,nm⟩:Nd)])) (Int.toNat (up:Int)) (V.agg [.int .i64 n1.kind,.int .i64 n1.parent,.int .i64 n1.last,.int .i64 (n:Int),.int .i64 n1.entry,.int .i64 n1.exit,.str n1.name])=(P++[(⟨ndKind b,up,0,-1,-1,-1,nm⟩:Nd)]).map Nd.v:=by
     rw[Int.toNat_natCast,show V.agg [.int .i64 n1.kind,.int .i64 n1.parent,.int .i64 n1.last,.int .i64 (n:Int),.int .i64 n1.entry,.int .i64 n1.exit,.str n1.name]=({n1 with init:=n}:Nd).v from rfl,set_map,List.set_append_left _ _ (by omega),hfx]
    rw[hset]
    refine W_and (W_yes (by omega) (W_yes (by omega) ?_))
    refine W_nth (by omega) (fun v hv _=> ?_)
    rw[hnthb v hv,←hbe]
    refine W_ca7 (W_asSl ?_)
    rw[hbe]
    refine rest _ rfl _ (fun n2 hn2=> ?_)
    refine W_uL (W_unNil ?_)
    have hlen2:(fixup (P++[(⟨ndKind b,up,0,-1,-1,-1,nm⟩:Nd)]) n (n+1) kb++forest d n (n+1) kb).length=n+1+nszL d kb:=by
     have hPl:P.length=n:=by rw[←hPe,List.length_append,fixup_len,forest_len];omega
     rw[List.length_append,fixup_len,forest_len,List.length_append,hPl];rfl
    refine W_and (W_yes (by omega) (W_yes (by rw[List.length_map];omega) ?_))
    refine W_nthN (by rw[Int.toNat_natCast];omega) (fun m hm=>W_nd ?_)
    rw[Int.toNat_natCast]at hm
    refine W_ce7 ?_
    rw[hkb]at hnsz
    have hw:IntKind.i64.wrap (((List.map Nd.v (fixup (P++[(⟨ndKind b,up,0,-1,-1,-1,nm⟩:Nd)]) n (n+1) kb++forest d n (n+1) kb)).length:Int)-1)=((fixup (P++[(⟨ndKind b,up,0,-1,-1,-1,nm⟩:Nd)]) n (n+1) kb++forest d n (n+1) kb).length:Int)-1:=by
     rw[List.length_map];exact wrap_id (by omega)
    rw[hw,wrap_id (n:=(A.length:Int)+1) (by omega)]
    have hset2:∀len:Int,len=((fixup (P++[(⟨ndKind b,up,0,-1,-1,-1,nm⟩:Nd)]) n (n+1) kb++forest d n (n+1) kb).length:Int)-1→List.set (List.map Nd.v (fixup (P++[(⟨ndKind b,up,0,-1,-1,-1,nm⟩:Nd)]) n (n+1) kb++forest d n (n+1) kb)) (Int.toNat (n:Int)) (V.agg [.int .i64 m.kind,.int .i64 m.parent,.int .i64 len,.int .i64 m.init,.int .i64 m.entry,.int .i64 m.exit,.str m.name])=(fixup l0 up l0.length (A++[b])++forest (d+1) up l0.length (A++[b])).map Nd.v:=by
     intro len hlen
     rw[Int.toNat_natCast,show V.agg [.int .i64 m.kind,.int .i64 m.parent,.int .i64 len,.int .i64 m.init,.int .i64 m.entry,.int .i64 m.exit,.str m.name]=({m with last:=len}:Nd).v from rfl,set_map,fin _ rfl m len hlen hm]
    rw[hset2 _ rfl]
    have e:=put_loop hKd hSt hP hk hh hup hsz hKo B (A++[b]) j (by rw[h1];simp) (by omega)
    simp only[List.append_assoc,List.singleton_append,List.length_append,List.length_cons,List.length_nil,Nat.zero_add,Int.natCast_add,Int.natCast_one]at e
    exact e
   ·rw[if_neg (by rintro⟨_,h⟩;exact hk2 h)]at hfx
    rw[←hfx]
    refine W_and (W_yes (by omega) (W_yes (by omega) ?_))
    refine W_nth (by omega) (fun v hv _=> ?_)
    rw[hnthb v hv,←hbe]
    refine W_ca7 (W_asSl ?_)
    rw[hbe]
    refine rest _ rfl _ (fun n2 hn2=> ?_)
    refine W_uL (W_unNil ?_)
    have hlen2:(fixup (P++[(⟨ndKind b,up,0,-1,-1,-1,nm⟩:Nd)]) n (n+1) kb++forest d n (n+1) kb).length=n+1+nszL d kb:=by
     have hPl:P.length=n:=by rw[←hPe,List.length_append,fixup_len,forest_len];omega
     rw[List.length_append,fixup_len,forest_len,List.length_append,hPl];rfl
    refine W_and (W_yes (by omega) (W_yes (by rw[List.length_map];omega) ?_))
    refine W_nthN (by rw[Int.toNat_natCast];omega) (fun m hm=>W_nd ?_)
    rw[Int.toNat_natCast]at hm
    refine W_ce7 ?_
    rw[hkb]at hnsz
    have hw:IntKind.i64.wrap (((List.map Nd.v (fixup (P++[(⟨ndKind b,up,0,-1,-1,-1,nm⟩:Nd)]) n (n+1) kb++forest d n (n+1) kb)).length:Int)-1)=((fixup (P++[(⟨ndKind b,up,0,-1,-1,-1,nm⟩:Nd)]) n (n+1) kb++forest d n (n+1) kb).length:Int)-1:=by
     rw[List.length_map];exact wrap_id (by omega)
    rw[hw,wrap_id (n:=(A.length:Int)+1) (by omega)]
    have hset2:∀len:Int,len=((fixup (P++[(⟨ndKind b,up,0,-1,-1,-1,nm⟩:Nd)]) n (n+1) kb++forest d n (n+1) kb).length:Int)-1→List.set (List.map Nd.v (fixup (P++[(⟨ndKind b,up,0,-1,-1,-1,nm⟩:Nd)]) n (n+1) kb++forest d n (n+1) kb)) (Int.toNat (n:Int)) (V.agg [.int .i64 m.kind,.int .i64 m.parent,.int .i64 len,.int .i64 m.init,.int .i64 m.entry,.int .i64 m.exit,.str m.name])=(fixup l0 up l0.length (A++[b])++forest (d+1) up l0.length (A++[b])).map Nd.v:=by
     intro len hlen
     rw[Int.toNat_natCast,show V.agg [.int .i64 m.kind,.int .i64 m.parent,.int .i64 len,.int .i64 m.init,.int .i64 m.entry,.int .i64 m.exit,.str m.name]=({m with last:=len}:Nd).v from rfl,set_map,fin _ rfl m len hlen hm]
    rw[hset2 _ rfl]
    have e:=put_loop hKd hSt hP hk hh hup hsz hKo B (A++[b]) j (by rw[h1];simp) (by omega)
    simp only[List.append_assoc,List.singleton_append,List.length_append,List.length_cons,List.length_nil,Nat.zero_add,Int.natCast_add,Int.natCast_one]at e
    exact e
  ·rw[if_neg (by rintro⟨h,_⟩;exact hi h)]at hfx
   rw[←hfx]
   refine W_and (W_yes (by omega) (W_yes (by omega) ?_))
   refine W_nth (by omega) (fun v hv _=> ?_)
   rw[hnthb v hv,←hbe]
   refine W_ca7 (W_asSl ?_)
   rw[hbe]
   refine rest _ rfl _ (fun n2 hn2=> ?_)
   refine W_uL (W_unNil ?_)
   have hlen2:(fixup (P++[(⟨ndKind b,up,0,-1,-1,-1,nm⟩:Nd)]) n (n+1) kb++forest d n (n+1) kb).length=n+1+nszL d kb:=by
    have hPl:P.length=n:=by rw[←hPe,List.length_append,fixup_len,forest_len];omega
    rw[List.length_append,fixup_len,forest_len,List.length_append,hPl];rfl
   refine W_and (W_yes (by omega) (W_yes (by rw[List.length_map];omega) ?_))
   refine W_nthN (by rw[Int.toNat_natCast];omega) (fun m hm=>W_nd ?_)
   rw[Int.toNat_natCast]at hm
   refine W_ce7 ?_
   rw[hkb]at hnsz
   have hw:IntKind.i64.wrap (((List.map Nd.v (fixup (P++[(⟨ndKind b,up,0,-1,-1,-1,nm⟩:Nd)]) n (n+1) kb++forest d n (n+1) kb)).length:Int)-1)=((fixup (P++[(⟨ndKind b,up,0,-1,-1,-1,nm⟩:Nd)]) n (n+1) kb++forest d n (n+1) kb).length:Int)-1:=by
    rw[List.length_map];exact wrap_id (by omega)
   rw[hw,wrap_id (n:=(A.length:Int)+1) (by omega)]
   have hset2:∀len:Int,len=((fixup (P++[(⟨ndKind b,up,0,-1,-1,-1,nm⟩:Nd)]) n (n+1) kb++forest d n (n+1) kb).length:Int)-1→List.set (List.map Nd.v (fixup (P++[(⟨ndKind b,up,0,-1,-1,-1,nm⟩:Nd)]) n (n+1) kb++forest d n (n+1) kb)) (Int.toNat (n:Int)) (V.agg [.int .i64 m.kind,.int .i64 m.parent,.int .i64 len,.int .i64 m.init,.int .i64 m.entry,.int .i64 m.exit,.str m.name])=(fixup l0 up l0.length (A++[b])++forest (d+1) up l0.length (A++[b])).map Nd.v:=by
    intro len hlen
    rw[Int.toNat_natCast,show V.agg [.int .i64 m.kind,.int .i64 m.parent,.int .i64 len,.int .i64 m.init,.int .i64 m.entry,.int .i64 m.exit,.str m.name]=({m with last:=len}:Nd).v from rfl,set_map,fin _ rfl m len hlen hm]
   rw[hset2 _ rfl]
   have e:=put_loop hKd hSt hP hk hh hup hsz hKo B (A++[b]) j (by rw[h1];simp) (by omega)
   simp only[List.append_assoc,List.singleton_append,List.length_append,List.length_cons,List.length_nil,Nat.zero_add,Int.natCast_add,Int.natCast_one]at e
   exact e
theorem put_ok{d:Nat}(hk:10000≤k)(hKd:KindOK G)(hSt:IsStOK G)(hP:∀d',d=d'+1→PutOK d' G):PutOK d (fun _ args (K:LV→OV R)=>g52 G k args K):=by
 intro l kids up K h1 h2 h3 h4
 show W _ K (f52 G k (l.map Nd.v) kids up K)
 unfold f52 l52_0
 have hlen:kids.length≤nszL d kids∨kids=[]:=by
  cases d with
  |zero=>
   cases kids with
   |nil=>exact .inr rfl
   |cons a r=>exact(h1 a (by simp)).elim
  |succ d=>exact .inl nszL_len
 have hl2:kids.length<k:=by
  rcases hlen with h|h
  ·omega
  ·rw[h];simp;omega
 have e:=put_loop (Q:=fun o=>o=[.sl 7 ((fixup l up l.length kids++forest d up l.length kids).map Nd.v)]) (K:=K) (k:=k) (Ko:=fun yl=>K [.sl 7 yl]) hKd hSt hP h1 h2 h3 h4 (W_ret rfl) kids [] k rfl hl2
 rw[fixup_nil,List.nil_append]at e
 have hf:forest d (up:Int) l.length []=[]:=by cases d<;>rw[forest]
 rw[hf,List.append_nil]at e
 exact e
def NodesOK(G:ORC R):Prop:=∀(nm:ByteArray) (x y:Int) (a b c states:LV) (z:Int) (K:LV→OV R),(∀s∈states,StateS 2 3 s∧kindV s≤2)→nszL 3 states≤900→
 W (fun o=>o=[.sl 7 ((ndsOf states).map Nd.v)]) K (G 22 [.agg [.str nm,.int .i64 x,.int .i64 y,.sl 3 a,.sl 3 b,.sl 3 c,.sl 7 states,.int .i64 z]] K)
theorem nodes_ok(hP:PutOK 3 G):NodesOK (fun _ args (K:LV→OV R)=>g22 G k args K):=by
 intro nm x y a b c states z K h1 h2
 show W _ K (f22 G k nm x y a b c states z K)
 unfold f22
 refine W_call (hP [(⟨2,-1,0,-1,-1,-1,⟨#[]⟩⟩:Nd)] states 0 _ (fun s hs=>(h1 s hs).1) (fun s r e=>(h1 s (by rw[e];simp)).2) (by simp) (by simp;omega)) ?_
 rintro _ rfl
 refine W_uL (W_unNil ?_)
 have hl:(fixup [(⟨2,-1,0,-1,-1,-1,⟨#[]⟩⟩:Nd)] 0 1 states++forest 3 (0:Nat) 1 states).length=1+nszL 3 states:=by rw[List.length_append,fixup_len,forest_len];rfl
 simp only[List.length_cons,List.length_nil,Nat.zero_add,List.length_map,hl]
 have hl0:(0:Int)<((1+nszL 3 states:Nat):Int):=by omega
 refine W_yes (by omega) ?_
 refine W_nthN (by rw[hl];omega) (fun n hn=>W_nd ?_)
 refine W_ce7 ?_
 rw[wrap_id (by omega)]
 refine W_ret ?_
 have e:(fixup [(⟨2,-1,0,-1,-1,-1,⟨#[]⟩⟩:Nd)] 0 1 states++forest 3 (0:Nat) 1 states).set 0 {n with last:=((1+nszL 3 states:Nat):Int)-1}=ndsOf states:=by
  have hq:((1+nszL 3 states:Nat):Int)-1=(nszL 3 states:Nat):=by omega
  rw[hq]
  unfold ndsOf
  cases states with
  |nil=>
   rw[fixup_nil]at hn ⊢
   simp at hn;subst hn;rfl
  |cons s r=>
   have hf:fixup [(⟨2,-1,0,-1,-1,-1,⟨#[]⟩⟩:Nd)] 0 1 (s::r)=[⟨2,-1,0,1,-1,-1,⟨#[]⟩⟩]:=by unfold fixup;simp
   rw[hf]at hn ⊢
   simp at hn;subst hn;simp
 rw[←e,←set_map];rfl
end
end Go.Proofs.Ytokgijpdehjckaa.Vm
