/- Functions of the program, told by the machine of values, and what they answer: a part. -/
import Derived.Test.YtokgijpdehjckaaXi1
import Derived.Test.YtokgijpdehjckaaXiV4
import Derived.Shelf.Slices.Reverse
import Derived.Test.YtokgijpdehjckaaXiV5
open Go Go.VM
set_option linter.unusedVariables false
set_option maxRecDepth 100000
set_option maxHeartbeats 4000000
namespace Go.Proofs.Ytokgijpdehjckaa.Vm
def P23_0h:Pat:={tmps:=unds [.var (.sl 7) .ro,.var (.int .i64) .pr,.var (.int .i64) .pr,.undef,.undef,.undef,.undef,.var (.int .i64) .pr] 26 [],boxes:=nons [] 34 []}
def P23_0x:Pat:={tmps:=unds [] 34 [],boxes:=nons [] 34 []}
def P23_0r:Pat:={tmps:=unds [] 6 (unds [.var (.int .i64) .pr] 27 []),boxes:=nons [] 34 []}
def b23_0{R:Type}(G:ORC R)(k:Nat)(X:LV→Int→Int→Int→OV R)(Ko:Unit→OV R)(Kr:Int→OV R)(xl4:LV)(xi5 xi6 xi7:Int):OV R:=
 (bif(decide (xi7≥0))then(bif((decide (0≤xi7))&&(decide (xi7<(xl4.length:Int))))then(nthK xl4 (Int.toNat xi7) fun e8=>ca7 e8 fun c9 c10 c11 c12 c13 c14 c15=>aI .i64 c9 fun n16=>bif(n16==2)then(G 46 [.sl 7 xl4,.int .i64 xi5,.int .i64 xi7] fun o17=>uB o17 fun b19 r18=>unNil r18 (bif b19 then(G 46 [.sl 7 xl4,.int .i64 xi6,.int .i64 xi7] fun o20=>uB o20 fun b22 r21=>unNil r21 (bif b22 then(Kr xi7)else(X xl4 xi5 xi6 (IntKind.i64.wrap (xi7-1)))))else(X xl4 xi5 xi6 (IntKind.i64.wrap (xi7-1)))))else(X xl4 xi5 xi6 (IntKind.i64.wrap (xi7-1))))else none)else(Ko ()))
def l23_0g{R:Type}(G:ORC R)(k:Nat)(Ko:Unit→OV R)(Kr:Int→OV R):Nat→LV→Int→Int→Int→OV R
 |0=>fun _ _ _ _=>none
 |j+1=>b23_0 G k (l23_0g G k Ko Kr j) Ko Kr
def l23_0{R:Type}(G:ORC R)(k:Nat)(xl4:LV)(xi5 xi6 xi7:Int)(Ko:Unit→OV R)(Kr:Int→OV R):OV R:=l23_0g G k Ko Kr k xl4 xi5 xi6 xi7
def rd23_0{R:Type}(G:ORC R)(k:Nat)(K:Ex→St→OV R)(j:Nat)(vs:LV):OV R:=match vs with
 | [.sl 7 xl4,.int .i64 xi5,.int .i64 xi6,.int .i64 xi7]=>l23_0g G k (fun _=>K .normal (P23_0x.inst [])) (fun yi24=>K .ret (P23_0r.inst [.int .i64 yi24])) j xl4 xi5 xi6 xi7
 |_=>none
def L23{R:Type}(G:ORC R)(k:Nat):Nat→St→(Ex→St→OV R)→OV R
 |0,S,K=>P23_0h.mat S fun vs=>rd23_0 G k K k vs
 |_,_,_=>none
def f23{R:Type}(G:ORC R)(k:Nat)(al1:LV)(ai2 ai3:Int)(K:LV→OV R):OV R:=
 (l23_0 G k al1 ai2 ai3 (IntKind.i64.wrap ((al1.length:Int)-1)) (fun(_:Unit)=>K [.int .i64 (-1)]) (fun yi23=>K [.int .i64 yi23]))
noncomputable def D23_0:LoopD:={id:=0,body:=loopAt 0 (bodyOf Try.f23),head:=P23_0h,out:=P23_0x,ret:=P23_0r}
theorem l23_0_is{R:Type}(G:ORC R)(k:Nat)(X:LV→OV R)(K:Ex→St→OV R)(xl4:LV)(xi5 xi6 xi7:Int):
 roundOf (TAB.env 23) G (L23 G k) D23_0 X K [.sl 7 xl4,.int .i64 xi5,.int .i64 xi6,.int .i64 xi7]=b23_0 G k (fun xl4 xi5 xi6 xi7=>X [.sl 7 xl4,.int .i64 xi5,.int .i64 xi6,.int .i64 xi7]) (fun _=>K .normal (P23_0x.inst [])) (fun yi24=>K .ret (P23_0r.inst [.int .i64 yi24])) xl4 xi5 xi6 xi7:=by kernel_rfl
theorem f23_is{R:Type}(G:ORC R)(k:Nat)(K:LV→OV R)(al1:LV)(ai2 ai3:Int):
 callF (TAB.env 23) G (L23 G k) Try.f23 S23 [.sl 7 al1,.int .i64 ai2,.int .i64 ai3] K=f23 G k al1 ai2 ai3 K:=by kernel_rfl
theorem li23_0{R:Type}(G:ORC R)(k:Nat):LoopIs (TAB.env 23) G (L23 G k) 0 (loopAt 0 (bodyOf Try.f23)):=
 ⟨D23_0,fun j vs K=>rd23_0 G k K j vs,k,rfl,rfl,by kernel_rfl,by kernel_rfl,by kernel_rfl,(fun vs K=>by unfold rd23_0;dsimp only;split<;>rfl),
   (fun j vs K r h=>by
     unfold rd23_0 at h
     dsimp only at h
     split at h
     ·rw[l23_0_is];exact h
     ·cases h),(fun S K r h=>h)⟩
theorem lo23:loopsOf (bodyOf Try.f23)=[(0,loopAt 0 (bodyOf Try.f23))]:=by kernel_rfl
theorem la23{R:Type}(G:ORC R)(k:Nat):LoopsAre (TAB.env 23) G (L23 G k) (bodyOf Try.f23):=
 loopsAre_of (by rw[lo23];intro p hp;simp only[List.mem_cons,List.not_mem_nil,or_false]at hp;subst hp;exact li23_0 G k)
def g23{R:Type}(G:ORC R)(k:Nat)(args:LV)(K:LV→OV R):OV R:=match args with
 | [.sl 7 al1,.int .i64 ai2,.int .i64 ai3]=>f23 G k al1 ai2 ai3 K
 |_=>none
theorem s23{R:Type}{G:ORC R}{k:Nat}(hG:Sound Try.prog TAB G)(args:LV)(K:LV→OV R)(r:R)(h:g23 G k args K=some r):∃o,CallOK Try.prog TAB.env 23 args o∧K o=some r:=by
 unfold g23 at h
 split at h
 ·rw[←f23_is]at h
  exact callF_sound (f:=23) TAB_chk MO hG Try.func23 (sg:=S23) (by kernel_rfl) (by kernel_rfl) (la23 G k) h
 ·cases h
def P25_0h:Pat:={tmps:=unds [.var (.sl 7) .ro,.undef,.undef,.undef,.undef,.var (.sl 1) (.own true),.var (.sl 1) .ro,.var (.int .i64) .pr] 25 [],boxes:=nons [] 33 []}
def P25_0x:Pat:={tmps:=unds [] 5 (unds [.var (.sl 1) (.own true)] 27 []),boxes:=nons [] 33 []}
def b25_0{R:Type}(G:ORC R)(k:Nat)(X:LV→LV→LV→Int→OV R)(Ko:LV→OV R)(xl6 xl7 xl8:LV)(xi9:Int):OV R:=
 (bif(decide (xi9<(xl8.length:Int)))then(bif((decide (0≤xi9))&&(decide (xi9<(xl8.length:Int))))then(nthK xl8 (Int.toNat xi9) fun e10=>aI .i64 e10 fun n11=>bif((decide (0≤n11))&&(decide (n11<(xl6.length:Int))))then(nthK xl6 (Int.toNat n11) fun e12=>V.asAgg e12 fun l13=>G 27 [.agg l13] fun o14=>uB o14 fun b16 r15=>unNil r15 (bif b16 then(bif((decide (0≤xi9))&&(decide (xi9<(xl8.length:Int))))then(nthK xl8 (Int.toNat xi9) fun e17=>aI .i64 e17 fun n18=>bif(decide (List.length xl7+1≤1073741824))then(X xl6 (xl7++[.int .i64 n18]) xl8 (IntKind.i64.wrap (xi9+1)))else none)else none)else(X xl6 xl7 xl8 (IntKind.i64.wrap (xi9+1)))))else none)else none)else(Ko xl7))
def l25_0g{R:Type}(G:ORC R)(k:Nat)(Ko:LV→OV R):Nat→LV→LV→LV→Int→OV R
 |0=>fun _ _ _ _=>none
 |j+1=>b25_0 G k (l25_0g G k Ko j) Ko
def l25_0{R:Type}(G:ORC R)(k:Nat)(xl6 xl7 xl8:LV)(xi9:Int)(Ko:LV→OV R):OV R:=l25_0g G k Ko k xl6 xl7 xl8 xi9
def rd25_0{R:Type}(G:ORC R)(k:Nat)(K:Ex→St→OV R)(j:Nat)(vs:LV):OV R:=match vs with
 | [.sl 7 xl6,.sl 1 xl7,.sl 1 xl8,.int .i64 xi9]=>l25_0g G k (fun yl20=>K .normal (P25_0x.inst [.sl 1 yl20])) j xl6 xl7 xl8 xi9
 |_=>none
def L25{R:Type}(G:ORC R)(k:Nat):Nat→St→(Ex→St→OV R)→OV R
 |0,S,K=>P25_0h.mat S fun vs=>rd25_0 G k K k vs
 |_,_,_=>none
def f25{R:Type}(G:ORC R)(k:Nat)(al1:LV)(ai2:Int)(K:LV→OV R):OV R:=
 (G 58 [.sl 7 al1,.int .i64 ai2] fun o3=>uL 1 o3 fun l5 r4=>unNil r4 (l25_0 G k al1 [] l5 0 (fun yl19=>K [.sl 1 yl19])))
noncomputable def D25_0:LoopD:={id:=0,body:=loopAt 0 (bodyOf Try.f25),head:=P25_0h,out:=P25_0x,ret:=default}
theorem l25_0_is{R:Type}(G:ORC R)(k:Nat)(X:LV→OV R)(K:Ex→St→OV R)(xl6 xl7 xl8:LV)(xi9:Int):
 roundOf (TAB.env 25) G (L25 G k) D25_0 X K [.sl 7 xl6,.sl 1 xl7,.sl 1 xl8,.int .i64 xi9]=b25_0 G k (fun xl6 xl7 xl8 xi9=>X [.sl 7 xl6,.sl 1 xl7,.sl 1 xl8,.int .i64 xi9]) (fun yl20=>K .normal (P25_0x.inst [.sl 1 yl20])) xl6 xl7 xl8 xi9:=by kernel_rfl
theorem f25_is{R:Type}(G:ORC R)(k:Nat)(K:LV→OV R)(al1:LV)(ai2:Int):
 callF (TAB.env 25) G (L25 G k) Try.f25 S25 [.sl 7 al1,.int .i64 ai2] K=f25 G k al1 ai2 K:=by kernel_rfl
theorem li25_0{R:Type}(G:ORC R)(k:Nat):LoopIs (TAB.env 25) G (L25 G k) 0 (loopAt 0 (bodyOf Try.f25)):=
 ⟨D25_0,fun j vs K=>rd25_0 G k K j vs,k,rfl,rfl,by kernel_rfl,by kernel_rfl,by kernel_rfl,(fun vs K=>by unfold rd25_0;dsimp only;split<;>rfl),
   (fun j vs K r h=>by
     unfold rd25_0 at h
     dsimp only at h
     split at h
     ·rw[l25_0_is];exact h
     ·cases h),(fun S K r h=>h)⟩
theorem lo25:loopsOf (bodyOf Try.f25)=[(0,loopAt 0 (bodyOf Try.f25))]:=by kernel_rfl
theorem la25{R:Type}(G:ORC R)(k:Nat):LoopsAre (TAB.env 25) G (L25 G k) (bodyOf Try.f25):=
 loopsAre_of (by rw[lo25];intro p hp;simp only[List.mem_cons,List.not_mem_nil,or_false]at hp;subst hp;exact li25_0 G k)
def g25{R:Type}(G:ORC R)(k:Nat)(args:LV)(K:LV→OV R):OV R:=match args with
 | [.sl 7 al1,.int .i64 ai2]=>f25 G k al1 ai2 K
 |_=>none
theorem s25{R:Type}{G:ORC R}{k:Nat}(hG:Sound Try.prog TAB G)(args:LV)(K:LV→OV R)(r:R)(h:g25 G k args K=some r):∃o,CallOK Try.prog TAB.env 25 args o∧K o=some r:=by
 unfold g25 at h
 split at h
 ·rw[←f25_is]at h
  exact callF_sound (f:=25) TAB_chk MO hG Try.func25 (sg:=S25) (by kernel_rfl) (by kernel_rfl) (la25 G k) h
 ·cases h
def L31{R:Type}(_:ORC R)(_:Nat):Nat→St→(Ex→St→OV R)→OV R:=fun _ _ _=>none
def f31{R:Type}(G:ORC R)(k:Nat)(al1:LV)(ai2:Int)(K:LV→OV R):OV R:=
 (bif(decide (ai2≥0))then(K [.bool (decide (ai2<(al1.length:Int)))])else(K [.bool false]))
theorem f31_is{R:Type}(G:ORC R)(k:Nat)(K:LV→OV R)(al1:LV)(ai2:Int):
 callF (TAB.env 31) G (L31 G k) Try.f31 S31 [.sl 7 al1,.int .i64 ai2] K=f31 G k al1 ai2 K:=by kernel_rfl
theorem lo31:loopsOf (bodyOf Try.f31)=[]:=by kernel_rfl
theorem la31{R:Type}(G:ORC R)(k:Nat):LoopsAre (TAB.env 31) G (L31 G k) (bodyOf Try.f31):=
 loopsAre_of (by rw[lo31];intro p hp;cases hp)
def g31{R:Type}(G:ORC R)(k:Nat)(args:LV)(K:LV→OV R):OV R:=match args with
 | [.sl 7 al1,.int .i64 ai2]=>f31 G k al1 ai2 K
 |_=>none
theorem s31{R:Type}{G:ORC R}{k:Nat}(hG:Sound Try.prog TAB G)(args:LV)(K:LV→OV R)(r:R)(h:g31 G k args K=some r):∃o,CallOK Try.prog TAB.env 31 args o∧K o=some r:=by
 unfold g31 at h
 split at h
 ·rw[←f31_is]at h
  exact callF_sound (f:=31) TAB_chk MO hG Try.func31 (sg:=S31) (by kernel_rfl) (by kernel_rfl) (la31 G k) h
 ·cases h
def P32_0h:Pat:={tmps:=unds [.stat (.one (.ptr 0 0) .pt),.var (.int .i64) .pr,.undef,.undef,.var (.sl 1) .ro] 27 (unds [.var (.sl 1) .ro,.var (.int .i64) .pr,.var (.int .i64) .pr] 53 []),boxes:=nons [some [.var (.sl 7) .ro true,.var (.sl 1) .ro true,.var (.sl 1) (.own true) false,.var (.int .i64) .pr false]] 88 []}
def P32_0x:Pat:={tmps:=unds [.stat (.one (.ptr 0 0) .pt),.var (.int .i64) .pr,.undef,.undef,.var (.sl 1) .ro] 83 [],boxes:=nons [some [.var (.sl 7) .ro true,.var (.sl 1) .ro true,.var (.sl 1) (.own true) false,.var (.int .i64) .pr false]] 88 []}
def b32_0{R:Type}(G:ORC R)(k:Nat)(X:Int→LV→LV→Int→Int→LV→LV→LV→Int→OV R)(Ko:Int→LV→LV→LV→LV→Int→OV R)(xi28:Int)(xl29 xl30:LV)(xi31 xi32:Int)(xl33 xl34 xl35:LV)(xi36:Int):OV R:=
 (bif(decide (xi32<xi31))then(bif((decide (0≤xi32))&&(decide (xi32<(xl30.length:Int))))then(nthK xl30 (Int.toNat xi32) fun e37=>aI .i64 e37 fun n38=>G 32 [.int .i64 n38,.sl 7 xl33,.sl 1 xl34,.sl 1 xl35,.int .i64 xi36] fun o39=>uL 1 o39 fun l41 r40=>uI .i64 r40 fun n43 r42=>unNil r42 (X xi28 xl29 xl30 xi31 (IntKind.i64.wrap (xi32+1)) xl33 xl34 l41 n43))else none)else(Ko xi28 xl29 xl33 xl34 xl35 xi36))
def l32_0g{R:Type}(G:ORC R)(k:Nat)(Ko:Int→LV→LV→LV→LV→Int→OV R):Nat→Int→LV→LV→Int→Int→LV→LV→LV→Int→OV R
 |0=>fun _ _ _ _ _ _ _ _ _=>none
 |j+1=>b32_0 G k (l32_0g G k Ko j) Ko
def l32_0{R:Type}(G:ORC R)(k:Nat)(xi28:Int)(xl29 xl30:LV)(xi31 xi32:Int)(xl33 xl34 xl35:LV)(xi36:Int)(Ko:Int→LV→LV→LV→LV→Int→OV R):OV R:=l32_0g G k Ko k xi28 xl29 xl30 xi31 xi32 xl33 xl34 xl35 xi36
def P32_2h:Pat:={tmps:=unds [.stat (.one (.ptr 0 0) .pt),.var (.int .i64) .pr] 40 (unds [.var (.sl 1) .ro,.var (.int .i64) .pr,.var (.int .i64) .pr] 43 []),boxes:=nons [some [.var (.sl 7) .ro true,.var (.sl 1) .ro true,.var (.sl 1) (.own true) false,.var (.int .i64) .pr false]] 88 []}
def P32_2x:Pat:={tmps:=unds [] 88 [],boxes:=nons [some [.var (.sl 7) .ro true,.var (.sl 1) .ro true,.var (.sl 1) (.own true) false,.var (.int .i64) .pr false]] 88 []}
def b32_2{R:Type}(G:ORC R)(k:Nat)(X:Int→LV→Int→Int→LV→LV→LV→Int→OV R)(Ko:LV→LV→LV→Int→OV R)(xi50:Int)(xl51:LV)(xi52 xi53:Int)(xl54 xl55 xl56:LV)(xi57:Int):OV R:=
 (bif(decide (xi53<xi52))then(bif((decide (0≤xi53))&&(decide (xi53<(xl51.length:Int))))then(nthK xl51 (Int.toNat xi53) fun e58=>aI .i64 e58 fun n59=>bif((decide (0≤xi50))&&(decide (xi50<(xl54.length:Int))))then(nthK xl54 (Int.toNat xi50) fun e60=>ca7 e60 fun c61 c62 c63 c64 c65 c66 c67=>aI .i64 c62 fun n68=>G 34 [.int .i64 n59,.int .i64 n68,.sl 7 xl54,.sl 1 xl55,.sl 1 xl56,.int .i64 xi57] fun o69=>uL 1 o69 fun l71 r70=>uI .i64 r70 fun n73 r72=>unNil r72 (X xi50 xl51 xi52 (IntKind.i64.wrap (xi53+1)) xl54 xl55 l71 n73))else none)else none)else(Ko xl54 xl55 xl56 xi57))
def l32_2g{R:Type}(G:ORC R)(k:Nat)(Ko:LV→LV→LV→Int→OV R):Nat→Int→LV→Int→Int→LV→LV→LV→Int→OV R
 |0=>fun _ _ _ _ _ _ _ _=>none
 |j+1=>b32_2 G k (l32_2g G k Ko j) Ko
def l32_2{R:Type}(G:ORC R)(k:Nat)(xi50:Int)(xl51:LV)(xi52 xi53:Int)(xl54 xl55 xl56:LV)(xi57:Int)(Ko:LV→LV→LV→Int→OV R):OV R:=l32_2g G k Ko k xi50 xl51 xi52 xi53 xl54 xl55 xl56 xi57
def rd32_0{R:Type}(G:ORC R)(k:Nat)(K:Ex→St→OV R)(j:Nat)(vs:LV):OV R:=match vs with
 | [.int .i64 xi28,.sl 1 xl29,.sl 1 xl30,.int .i64 xi31,.int .i64 xi32,.sl 7 xl33,.sl 1 xl34,.sl 1 xl35,.int .i64 xi36]=>l32_0g G k (fun yi112 yl113 yl114 yl115 yl116 yi117=>K .normal (P32_0x.inst [.int .i64 yi112,.sl 1 yl113,.sl 7 yl114,.sl 1 yl115,.sl 1 yl116,.int .i64 yi117])) j xi28 xl29 xl30 xi31 xi32 xl33 xl34 xl35 xi36
 |_=>none
def rd32_2{R:Type}(G:ORC R)(k:Nat)(K:Ex→St→OV R)(j:Nat)(vs:LV):OV R:=match vs with
 | [.int .i64 xi50,.sl 1 xl51,.int .i64 xi52,.int .i64 xi53,.sl 7 xl54,.sl 1 xl55,.sl 1 xl56,.int .i64 xi57]=>l32_2g G k (fun yl118 yl119 yl120 yi121=>K .normal (P32_2x.inst [.sl 7 yl118,.sl 1 yl119,.sl 1 yl120,.int .i64 yi121])) j xi50 xl51 xi52 xi53 xl54 xl55 xl56 xi57
 |_=>none
def L32{R:Type}(G:ORC R)(k:Nat):Nat→St→(Ex→St→OV R)→OV R
 |0,S,K=>P32_0h.mat S fun vs=>rd32_0 G k K k vs
 |2,S,K=>P32_2h.mat S fun vs=>rd32_2 G k K k vs
 |_,_,_=>none
def f32{R:Type}(G:ORC R)(k:Nat)(ai1:Int)(bl2 bl3 bl4:LV)(bi5:Int)(K:LV→OV R):OV R:=
 (G 31 [.sl 7 bl2,.int .i64 ai1] fun o6=>uB o6 fun b8 r7=>unNil r7 (bif(!b8)then(K [.sl 1 bl4,.int .i64 bi5])else(G 59 [.sl 7 bl2,.sl 1 bl3,.sl 1 bl4,.int .i64 bi5] fun o9=>uB o9 fun b11 r10=>uL 1 r10 fun l13 r12=>uI .i64 r12 fun n15 r14=>unNil r14 (bif(!b11)then(K [.sl 1 l13,.int .i64 n15])else(bif((decide (0≤ai1))&&(decide (ai1<(bl2.length:Int))))then(nthK bl2 (Int.toNat ai1) fun e16=>V.asAgg e16 fun l17=>G 43 [.agg l17] fun o18=>uB o18 fun b20 r19=>unNil r19 (bif b20 then(G 33 [.int .i64 ai1,.sl 7 bl2,.sl 1 bl3,.sl 1 l13,.int .i64 n15] fun o21=>uL 1 o21 fun l23 r22=>uL 1 r22 fun l25 r24=>uI .i64 r24 fun n27 r26=>unNil r26 (l32_0 G k ai1 l23 l23 (l23.length:Int) 0 bl2 bl3 l25 n27 (fun yi44 yl45 yl46 yl47 yl48 yi49=>l32_2 G k yi44 yl45 (yl45.length:Int) 0 yl46 yl47 yl48 yi49 (fun yl74 yl75 yl76 yi77=>K [.sl 1 yl76,.int .i64 yi77]))))else(bif((decide (0≤ai1))&&(decide (ai1<(l13.length:Int))))then(nthK l13 (Int.toNat ai1) fun e78=>bif((decide (0≤ai1))&&(decide (ai1<(bl2.length:Int))))then(nthK bl2 (Int.toNat ai1) fun e79=>ca7 e79 fun c80 c81 c82 c83 c84 c85 c86=>aI .i64 c80 fun n87=>bif(n87==2)then(bif((decide (0≤ai1))&&(decide (ai1<(bl2.length:Int))))then(nthK bl2 (Int.toNat ai1) fun e88=>ca7 e88 fun c89 c90 c91 c92 c93 c94 c95=>aI .i64 c92 fun n96=>G 32 [.int .i64 n96,.sl 7 bl2,.sl 1 bl3,.sl 1 (List.set l13 (Int.toNat ai1) (.bool true)),.int .i64 n15] fun o97=>uL 1 o97 fun l99 r98=>uI .i64 r98 fun n101 r100=>unNil r100 (G 60 [.int .i64 ai1,.sl 7 bl2,.sl 1 bl3,.sl 1 l99,.int .i64 n101] fun o102=>uL 1 o102 fun l104 r103=>uI .i64 r103 fun n106 r105=>unNil r105 (K [.sl 1 l104,.int .i64 n106])))else none)else(G 60 [.int .i64 ai1,.sl 7 bl2,.sl 1 bl3,.sl 1 (List.set l13 (Int.toNat ai1) (.bool true)),.int .i64 n15] fun o107=>uL 1 o107 fun l109 r108=>uI .i64 r108 fun n111 r110=>unNil r110 (K [.sl 1 l109,.int .i64 n111])))else none)else none)))else none)))))
noncomputable def D32_0:LoopD:={id:=0,body:=loopAt 0 (bodyOf Try.f32),head:=P32_0h,out:=P32_0x,ret:=default}
theorem l32_0_is{R:Type}(G:ORC R)(k:Nat)(X:LV→OV R)(K:Ex→St→OV R)(xi28:Int)(xl29 xl30:LV)(xi31 xi32:Int)(xl33 xl34 xl35:LV)(xi36:Int):
 roundOf (TAB.env 32) G (L32 G k) D32_0 X K [.int .i64 xi28,.sl 1 xl29,.sl 1 xl30,.int .i64 xi31,.int .i64 xi32,.sl 7 xl33,.sl 1 xl34,.sl 1 xl35,.int .i64 xi36]=b32_0 G k (fun xi28 xl29 xl30 xi31 xi32 xl33 xl34 xl35 xi36=>X [.int .i64 xi28,.sl 1 xl29,.sl 1 xl30,.int .i64 xi31,.int .i64 xi32,.sl 7 xl33,.sl 1 xl34,.sl 1 xl35,.int .i64 xi36]) (fun yi112 yl113 yl114 yl115 yl116 yi117=>K .normal (P32_0x.inst [.int .i64 yi112,.sl 1 yl113,.sl 7 yl114,.sl 1 yl115,.sl 1 yl116,.int .i64 yi117])) xi28 xl29 xl30 xi31 xi32 xl33 xl34 xl35 xi36:=by kernel_rfl
noncomputable def D32_2:LoopD:={id:=2,body:=loopAt 2 (bodyOf Try.f32),head:=P32_2h,out:=P32_2x,ret:=default}
theorem l32_2_is{R:Type}(G:ORC R)(k:Nat)(X:LV→OV R)(K:Ex→St→OV R)(xi50:Int)(xl51:LV)(xi52 xi53:Int)(xl54 xl55 xl56:LV)(xi57:Int):
 roundOf (TAB.env 32) G (L32 G k) D32_2 X K [.int .i64 xi50,.sl 1 xl51,.int .i64 xi52,.int .i64 xi53,.sl 7 xl54,.sl 1 xl55,.sl 1 xl56,.int .i64 xi57]=b32_2 G k (fun xi50 xl51 xi52 xi53 xl54 xl55 xl56 xi57=>X [.int .i64 xi50,.sl 1 xl51,.int .i64 xi52,.int .i64 xi53,.sl 7 xl54,.sl 1 xl55,.sl 1 xl56,.int .i64 xi57]) (fun yl118 yl119 yl120 yi121=>K .normal (P32_2x.inst [.sl 7 yl118,.sl 1 yl119,.sl 1 yl120,.int .i64 yi121])) xi50 xl51 xi52 xi53 xl54 xl55 xl56 xi57:=by kernel_rfl
theorem f32_is{R:Type}(G:ORC R)(k:Nat)(K:LV→OV R)(ai1:Int)(bl2 bl3 bl4:LV)(bi5:Int):
 callF (TAB.env 32) G (L32 G k) Try.f32 S32 [.int .i64 ai1,.sl 7 bl2,.sl 1 bl3,.sl 1 bl4,.int .i64 bi5] K=f32 G k ai1 bl2 bl3 bl4 bi5 K:=by kernel_rfl
theorem li32_0{R:Type}(G:ORC R)(k:Nat):LoopIs (TAB.env 32) G (L32 G k) 0 (loopAt 0 (bodyOf Try.f32)):=
 ⟨D32_0,fun j vs K=>rd32_0 G k K j vs,k,rfl,rfl,by kernel_rfl,by kernel_rfl,by kernel_rfl,(fun vs K=>by unfold rd32_0;dsimp only;split<;>rfl),
   (fun j vs K r h=>by
     unfold rd32_0 at h
     dsimp only at h
     split at h
     ·rw[l32_0_is];exact h
     ·cases h),(fun S K r h=>h)⟩
theorem li32_2{R:Type}(G:ORC R)(k:Nat):LoopIs (TAB.env 32) G (L32 G k) 2 (loopAt 2 (bodyOf Try.f32)):=
 ⟨D32_2,fun j vs K=>rd32_2 G k K j vs,k,rfl,rfl,by kernel_rfl,by kernel_rfl,by kernel_rfl,(fun vs K=>by unfold rd32_2;dsimp only;split<;>rfl),
   (fun j vs K r h=>by
     unfold rd32_2 at h
     dsimp only at h
     split at h
     ·rw[l32_2_is];exact h
     ·cases h),(fun S K r h=>h)⟩
theorem lo32:loopsOf (bodyOf Try.f32)=[(0,loopAt 0 (bodyOf Try.f32)),(2,loopAt 2 (bodyOf Try.f32))]:=by kernel_rfl
theorem la32{R:Type}(G:ORC R)(k:Nat):LoopsAre (TAB.env 32) G (L32 G k) (bodyOf Try.f32):=
 loopsAre_of (by rw[lo32];intro p hp;simp only[List.mem_cons,List.not_mem_nil,or_false]at hp;rcases hp with rfl|rfl<;>first|exact li32_0 G k|exact li32_2 G k)
def g32{R:Type}(G:ORC R)(k:Nat)(args:LV)(K:LV→OV R):OV R:=match args with
 | [.int .i64 ai1,.sl 7 bl2,.sl 1 bl3,.sl 1 bl4,.int .i64 bi5]=>f32 G k ai1 bl2 bl3 bl4 bi5 K
 |_=>none
theorem s32{R:Type}{G:ORC R}{k:Nat}(hG:Sound Try.prog TAB G)(args:LV)(K:LV→OV R)(r:R)(h:g32 G k args K=some r):∃o,CallOK Try.prog TAB.env 32 args o∧K o=some r:=by
 unfold g32 at h
 split at h
 ·rw[←f32_is]at h
  exact callF_sound (f:=32) TAB_chk MO hG Try.func32 (sg:=S32) (by kernel_rfl) (by kernel_rfl) (la32 G k) h
 ·cases h
def L33{R:Type}(_:ORC R)(_:Nat):Nat→St→(Ex→St→OV R)→OV R:=fun _ _ _=>none
def f33{R:Type}(G:ORC R)(k:Nat)(ai1:Int)(bl2 bl3 bl4:LV)(bi5:Int)(K:LV→OV R):OV R:=
 (bif((decide (0≤ai1))&&(decide (ai1<(bl2.length:Int))))then(nthK bl2 (Int.toNat ai1) fun e6=>V.asAgg e6 fun l7=>G 43 [.agg l7] fun o8=>uB o8 fun b10 r9=>unNil r9 (bif(!b10)then(K [.sl 1 [.int .i64 ai1],.sl 1 bl4,.int .i64 bi5])else(bif(decide (ai1<(bl3.length:Int)))then(bif((decide (0≤ai1))&&(decide (ai1<(bl3.length:Int))))then(nthK bl3 (Int.toNat ai1) fun e11=>V.asSl e11 fun z12 l13=>bif(decide ((l13.length:Int)>0))then(bif((decide (0≤ai1))&&(decide (ai1<(bl3.length:Int))))then(nthK bl3 (Int.toNat ai1) fun e14=>V.asSl e14 fun z15 l16=>K [.sl z15 l16,.sl 1 bl4,.int .i64 bi5])else none)else(bif((decide (0≤ai1))&&(decide (ai1<(bl2.length:Int))))then(nthK bl2 (Int.toNat ai1) fun e17=>ca7 e17 fun c18 c19 c20 c21 c22 c23 c24=>aI .i64 c19 fun n25=>G 31 [.sl 7 bl2,.int .i64 n25] fun o26=>uB o26 fun b28 r27=>unNil r27 (bif(!b28)then(K [.sl 1 [],.sl 1 bl4,.int .i64 bi5])else(bif((decide (0≤n25))&&(decide (n25<(bl2.length:Int))))then(nthK bl2 (Int.toNat n25) fun e29=>ca7 e29 fun c30 c31 c32 c33 c34 c35 c36=>aI .i64 c30 fun n37=>bif(n37==2)then(bif((decide (0≤n25))&&(decide (n25<(bl2.length:Int))))then(nthK bl2 (Int.toNat n25) fun e38=>ca7 e38 fun c39 c40 c41 c42 c43 c44 c45=>aI .i64 c42 fun n46=>K [.sl 1 [.int .i64 n46],.sl 1 bl4,.int .i64 bi5])else none)else(G 61 [.sl 7 bl2,.int .i64 n25] fun o47=>uL 1 o47 fun l49 r48=>unNil r48 (K [.sl 1 l49,.sl 1 bl4,.int .i64 bi5])))else none)))else none))else none)else(bif((decide (0≤ai1))&&(decide (ai1<(bl2.length:Int))))then(nthK bl2 (Int.toNat ai1) fun e50=>ca7 e50 fun c51 c52 c53 c54 c55 c56 c57=>aI .i64 c52 fun n58=>G 31 [.sl 7 bl2,.int .i64 n58] fun o59=>uB o59 fun b61 r60=>unNil r60 (bif(!b61)then(K [.sl 1 [],.sl 1 bl4,.int .i64 bi5])else(bif((decide (0≤n58))&&(decide (n58<(bl2.length:Int))))then(nthK bl2 (Int.toNat n58) fun e62=>ca7 e62 fun c63 c64 c65 c66 c67 c68 c69=>aI .i64 c63 fun n70=>bif(n70==2)then(bif((decide (0≤n58))&&(decide (n58<(bl2.length:Int))))then(nthK bl2 (Int.toNat n58) fun e71=>ca7 e71 fun c72 c73 c74 c75 c76 c77 c78=>aI .i64 c75 fun n79=>K [.sl 1 [.int .i64 n79],.sl 1 bl4,.int .i64 bi5])else none)else(G 61 [.sl 7 bl2,.int .i64 n58] fun o80=>uL 1 o80 fun l82 r81=>unNil r81 (K [.sl 1 l82,.sl 1 bl4,.int .i64 bi5])))else none)))else none))))else none)
theorem f33_is{R:Type}(G:ORC R)(k:Nat)(K:LV→OV R)(ai1:Int)(bl2 bl3 bl4:LV)(bi5:Int):
 callF (TAB.env 33) G (L33 G k) Try.f33 S33 [.int .i64 ai1,.sl 7 bl2,.sl 1 bl3,.sl 1 bl4,.int .i64 bi5] K=f33 G k ai1 bl2 bl3 bl4 bi5 K:=by kernel_rfl
theorem lo33:loopsOf (bodyOf Try.f33)=[]:=by kernel_rfl
theorem la33{R:Type}(G:ORC R)(k:Nat):LoopsAre (TAB.env 33) G (L33 G k) (bodyOf Try.f33):=
 loopsAre_of (by rw[lo33];intro p hp;cases hp)
def g33{R:Type}(G:ORC R)(k:Nat)(args:LV)(K:LV→OV R):OV R:=match args with
 | [.int .i64 ai1,.sl 7 bl2,.sl 1 bl3,.sl 1 bl4,.int .i64 bi5]=>f33 G k ai1 bl2 bl3 bl4 bi5 K
 |_=>none
theorem s33{R:Type}{G:ORC R}{k:Nat}(hG:Sound Try.prog TAB G)(args:LV)(K:LV→OV R)(r:R)(h:g33 G k args K=some r):∃o,CallOK Try.prog TAB.env 33 args o∧K o=some r:=by
 unfold g33 at h
 split at h
 ·rw[←f33_is]at h
  exact callF_sound (f:=33) TAB_chk MO hG Try.func33 (sg:=S33) (by kernel_rfl) (by kernel_rfl) (la33 G k) h
 ·cases h
def P34_0h:Pat:={tmps:=unds [.stat (.one (.ptr 0 0) .pt),.var (.int .i64) .pr,.var (.int .i64) .pr,.undef,.undef,.undef,.var (.int .i64) .pr] 44 [],boxes:=nons [some [.var (.sl 7) .ro true,.var (.sl 1) .ro true,.var (.sl 1) (.own true) false,.var (.int .i64) .pr false]] 51 []}
def P34_0x:Pat:={tmps:=unds [] 51 [],boxes:=nons [some [.var (.sl 7) .ro true,.var (.sl 1) .ro true,.var (.sl 1) (.own true) false,.var (.int .i64) .pr false]] 51 []}
def b34_0{R:Type}(G:ORC R)(k:Nat)(X:Int→Int→Int→LV→LV→LV→Int→OV R)(Ko:LV→LV→LV→Int→OV R)(xi7 xi8 xi9:Int)(xl10 xl11 xl12:LV)(xi13:Int):OV R:=
 (bif(decide (xi9>xi8))then(G 31 [.sl 7 xl10,.int .i64 xi9] fun o14=>uB o14 fun b16 r15=>unNil r15 (bif b16 then(G 46 [.sl 7 xl10,.int .i64 xi7,.int .i64 xi9] fun o17=>uB o17 fun b19 r18=>unNil r18 (bif b19 then(G 46 [.sl 7 xl10,.int .i64 xi9,.int .i64 xi8] fun o20=>uB o20 fun b22 r21=>unNil r21 (bif b22 then(G 59 [.sl 7 xl10,.sl 1 xl11,.sl 1 xl12,.int .i64 xi13] fun o23=>uB o23 fun b25 r24=>uL 1 r24 fun l27 r26=>uI .i64 r26 fun n29 r28=>unNil r28 (bif b25 then(bif((decide (0≤xi9))&&(decide (xi9<(l27.length:Int))))then(nthK l27 (Int.toNat xi9) fun e30=>G 60 [.int .i64 xi9,.sl 7 xl10,.sl 1 xl11,.sl 1 (List.set l27 (Int.toNat xi9) (.bool true)),.int .i64 n29] fun o31=>uL 1 o31 fun l33 r32=>uI .i64 r32 fun n35 r34=>unNil r34 (X xi7 xi8 (IntKind.i64.wrap (xi9-1)) xl10 xl11 l33 n35))else none)else(X xi7 xi8 (IntKind.i64.wrap (xi9-1)) xl10 xl11 l27 n29)))else(X xi7 xi8 (IntKind.i64.wrap (xi9-1)) xl10 xl11 xl12 xi13)))else(X xi7 xi8 (IntKind.i64.wrap (xi9-1)) xl10 xl11 xl12 xi13)))else(X xi7 xi8 (IntKind.i64.wrap (xi9-1)) xl10 xl11 xl12 xi13)))else(Ko xl10 xl11 xl12 xi13))
def l34_0g{R:Type}(G:ORC R)(k:Nat)(Ko:LV→LV→LV→Int→OV R):Nat→Int→Int→Int→LV→LV→LV→Int→OV R
 |0=>fun _ _ _ _ _ _ _=>none
 |j+1=>b34_0 G k (l34_0g G k Ko j) Ko
def l34_0{R:Type}(G:ORC R)(k:Nat)(xi7 xi8 xi9:Int)(xl10 xl11 xl12:LV)(xi13:Int)(Ko:LV→LV→LV→Int→OV R):OV R:=l34_0g G k Ko k xi7 xi8 xi9 xl10 xl11 xl12 xi13
def rd34_0{R:Type}(G:ORC R)(k:Nat)(K:Ex→St→OV R)(j:Nat)(vs:LV):OV R:=match vs with
 | [.int .i64 xi7,.int .i64 xi8,.int .i64 xi9,.sl 7 xl10,.sl 1 xl11,.sl 1 xl12,.int .i64 xi13]=>l34_0g G k (fun yl40 yl41 yl42 yi43=>K .normal (P34_0x.inst [.sl 7 yl40,.sl 1 yl41,.sl 1 yl42,.int .i64 yi43])) j xi7 xi8 xi9 xl10 xl11 xl12 xi13
 |_=>none
def L34{R:Type}(G:ORC R)(k:Nat):Nat→St→(Ex→St→OV R)→OV R
 |0,S,K=>P34_0h.mat S fun vs=>rd34_0 G k K k vs
 |_,_,_=>none
def f34{R:Type}(G:ORC R)(k:Nat)(ai1 ai2:Int)(bl3 bl4 bl5:LV)(bi6:Int)(K:LV→OV R):OV R:=
 (l34_0 G k ai1 ai2 (IntKind.i64.wrap (ai1-1)) bl3 bl4 bl5 bi6 (fun yl36 yl37 yl38 yi39=>K [.sl 1 yl38,.int .i64 yi39]))
noncomputable def D34_0:LoopD:={id:=0,body:=loopAt 0 (bodyOf Try.f34),head:=P34_0h,out:=P34_0x,ret:=default}
theorem l34_0_is{R:Type}(G:ORC R)(k:Nat)(X:LV→OV R)(K:Ex→St→OV R)(xi7 xi8 xi9:Int)(xl10 xl11 xl12:LV)(xi13:Int):
 roundOf (TAB.env 34) G (L34 G k) D34_0 X K [.int .i64 xi7,.int .i64 xi8,.int .i64 xi9,.sl 7 xl10,.sl 1 xl11,.sl 1 xl12,.int .i64 xi13]=b34_0 G k (fun xi7 xi8 xi9 xl10 xl11 xl12 xi13=>X [.int .i64 xi7,.int .i64 xi8,.int .i64 xi9,.sl 7 xl10,.sl 1 xl11,.sl 1 xl12,.int .i64 xi13]) (fun yl40 yl41 yl42 yi43=>K .normal (P34_0x.inst [.sl 7 yl40,.sl 1 yl41,.sl 1 yl42,.int .i64 yi43])) xi7 xi8 xi9 xl10 xl11 xl12 xi13:=by kernel_rfl
theorem f34_is{R:Type}(G:ORC R)(k:Nat)(K:LV→OV R)(ai1 ai2:Int)(bl3 bl4 bl5:LV)(bi6:Int):
 callF (TAB.env 34) G (L34 G k) Try.f34 S34 [.int .i64 ai1,.int .i64 ai2,.sl 7 bl3,.sl 1 bl4,.sl 1 bl5,.int .i64 bi6] K=f34 G k ai1 ai2 bl3 bl4 bl5 bi6 K:=by kernel_rfl
theorem li34_0{R:Type}(G:ORC R)(k:Nat):LoopIs (TAB.env 34) G (L34 G k) 0 (loopAt 0 (bodyOf Try.f34)):=
 ⟨D34_0,fun j vs K=>rd34_0 G k K j vs,k,rfl,rfl,by kernel_rfl,by kernel_rfl,by kernel_rfl,(fun vs K=>by unfold rd34_0;dsimp only;split<;>rfl),
   (fun j vs K r h=>by
     unfold rd34_0 at h
     dsimp only at h
     split at h
     ·rw[l34_0_is];exact h
     ·cases h),(fun S K r h=>h)⟩
theorem lo34:loopsOf (bodyOf Try.f34)=[(0,loopAt 0 (bodyOf Try.f34))]:=by kernel_rfl
theorem la34{R:Type}(G:ORC R)(k:Nat):LoopsAre (TAB.env 34) G (L34 G k) (bodyOf Try.f34):=
 loopsAre_of (by rw[lo34];intro p hp;simp only[List.mem_cons,List.not_mem_nil,or_false]at hp;subst hp;exact li34_0 G k)
def g34{R:Type}(G:ORC R)(k:Nat)(args:LV)(K:LV→OV R):OV R:=match args with
 | [.int .i64 ai1,.int .i64 ai2,.sl 7 bl3,.sl 1 bl4,.sl 1 bl5,.int .i64 bi6]=>f34 G k ai1 ai2 bl3 bl4 bl5 bi6 K
 |_=>none
theorem s34{R:Type}{G:ORC R}{k:Nat}(hG:Sound Try.prog TAB G)(args:LV)(K:LV→OV R)(r:R)(h:g34 G k args K=some r):∃o,CallOK Try.prog TAB.env 34 args o∧K o=some r:=by
 unfold g34 at h
 split at h
 ·rw[←f34_is]at h
  exact callF_sound (f:=34) TAB_chk MO hG Try.func34 (sg:=S34) (by kernel_rfl) (by kernel_rfl) (la34 G k) h
 ·cases h
def P35_0h:Pat:={tmps:=unds [.undef,.undef,.undef,.var (.sl 1) (.own true)] 5 (unds [.stat (.ref (.b 0 2) 0),.var (.int .i64) .pr,.var (.int .i64) .pr] 11 []),boxes:=nons [some [.var (.sl 7) .ro true,.var (.sl 1) .ro true,.var (.sl 1) (.own true) false,.var (.int .i64) .pr false]] 23 []}
def P35_0x:Pat:={tmps:=unds [.undef,.undef,.undef,.var (.sl 1) (.own true)] 19 [],boxes:=nons [some [.var (.sl 7) .ro true,.var (.sl 1) .ro true,.var (.sl 1) (.own true) false,.var (.int .i64) .pr false]] 23 []}
def b35_0{R:Type}(G:ORC R)(k:Nat)(X:LV→Int→Int→LV→LV→LV→Int→OV R)(Ko:LV→LV→LV→LV→Int→OV R)(xl5:LV)(xi6 xi7:Int)(xl8 xl9 xl10:LV)(xi11:Int):OV R:=
 (bif(decide (xi7<xi6))then(bif((decide (0≤xi7))&&(decide (xi7<(xl10.length:Int))))then(nthK xl10 (Int.toNat xi7) fun e12=>V.asBool e12 fun b13=>bif b13 then(bif(decide (List.length xl5+1≤1073741824))then(X (xl5++[.int .i64 xi7]) xi6 (IntKind.i64.wrap (xi7+1)) xl8 xl9 xl10 xi11)else none)else(X xl5 xi6 (IntKind.i64.wrap (xi7+1)) xl8 xl9 xl10 xi11))else none)else(Ko xl5 xl8 xl9 xl10 xi11))
def l35_0g{R:Type}(G:ORC R)(k:Nat)(Ko:LV→LV→LV→LV→Int→OV R):Nat→LV→Int→Int→LV→LV→LV→Int→OV R
 |0=>fun _ _ _ _ _ _ _=>none
 |j+1=>b35_0 G k (l35_0g G k Ko j) Ko
def l35_0{R:Type}(G:ORC R)(k:Nat)(xl5:LV)(xi6 xi7:Int)(xl8 xl9 xl10:LV)(xi11:Int)(Ko:LV→LV→LV→LV→Int→OV R):OV R:=l35_0g G k Ko k xl5 xi6 xi7 xl8 xl9 xl10 xi11
def rd35_0{R:Type}(G:ORC R)(k:Nat)(K:Ex→St→OV R)(j:Nat)(vs:LV):OV R:=match vs with
 | [.sl 1 xl5,.int .i64 xi6,.int .i64 xi7,.sl 7 xl8,.sl 1 xl9,.sl 1 xl10,.int .i64 xi11]=>l35_0g G k (fun yl19 yl20 yl21 yl22 yi23=>K .normal (P35_0x.inst [.sl 1 yl19,.sl 7 yl20,.sl 1 yl21,.sl 1 yl22,.int .i64 yi23])) j xl5 xi6 xi7 xl8 xl9 xl10 xi11
 |_=>none
def L35{R:Type}(G:ORC R)(k:Nat):Nat→St→(Ex→St→OV R)→OV R
 |0,S,K=>P35_0h.mat S fun vs=>rd35_0 G k K k vs
 |_,_,_=>none
def f35{R:Type}(G:ORC R)(k:Nat)(bl1 bl2 bl3:LV)(bi4:Int)(K:LV→OV R):OV R:=
 (l35_0 G k [] (bl3.length:Int) 0 bl1 bl2 bl3 bi4 (fun yl14 yl15 yl16 yl17 yi18=>K [.sl 1 yl14,.sl 1 yl17,.int .i64 yi18]))
noncomputable def D35_0:LoopD:={id:=0,body:=loopAt 0 (bodyOf Try.f35),head:=P35_0h,out:=P35_0x,ret:=default}
theorem l35_0_is{R:Type}(G:ORC R)(k:Nat)(X:LV→OV R)(K:Ex→St→OV R)(xl5:LV)(xi6 xi7:Int)(xl8 xl9 xl10:LV)(xi11:Int):
 roundOf (TAB.env 35) G (L35 G k) D35_0 X K [.sl 1 xl5,.int .i64 xi6,.int .i64 xi7,.sl 7 xl8,.sl 1 xl9,.sl 1 xl10,.int .i64 xi11]=b35_0 G k (fun xl5 xi6 xi7 xl8 xl9 xl10 xi11=>X [.sl 1 xl5,.int .i64 xi6,.int .i64 xi7,.sl 7 xl8,.sl 1 xl9,.sl 1 xl10,.int .i64 xi11]) (fun yl19 yl20 yl21 yl22 yi23=>K .normal (P35_0x.inst [.sl 1 yl19,.sl 7 yl20,.sl 1 yl21,.sl 1 yl22,.int .i64 yi23])) xl5 xi6 xi7 xl8 xl9 xl10 xi11:=by kernel_rfl
theorem f35_is{R:Type}(G:ORC R)(k:Nat)(K:LV→OV R)(bl1 bl2 bl3:LV)(bi4:Int):
 callF (TAB.env 35) G (L35 G k) Try.f35 S35 [.sl 7 bl1,.sl 1 bl2,.sl 1 bl3,.int .i64 bi4] K=f35 G k bl1 bl2 bl3 bi4 K:=by kernel_rfl
theorem li35_0{R:Type}(G:ORC R)(k:Nat):LoopIs (TAB.env 35) G (L35 G k) 0 (loopAt 0 (bodyOf Try.f35)):=
 ⟨D35_0,fun j vs K=>rd35_0 G k K j vs,k,rfl,rfl,by kernel_rfl,by kernel_rfl,by kernel_rfl,(fun vs K=>by unfold rd35_0;dsimp only;split<;>rfl),
   (fun j vs K r h=>by
     unfold rd35_0 at h
     dsimp only at h
     split at h
     ·rw[l35_0_is];exact h
     ·cases h),(fun S K r h=>h)⟩
theorem lo35:loopsOf (bodyOf Try.f35)=[(0,loopAt 0 (bodyOf Try.f35))]:=by kernel_rfl
theorem la35{R:Type}(G:ORC R)(k:Nat):LoopsAre (TAB.env 35) G (L35 G k) (bodyOf Try.f35):=
 loopsAre_of (by rw[lo35];intro p hp;simp only[List.mem_cons,List.not_mem_nil,or_false]at hp;subst hp;exact li35_0 G k)
def g35{R:Type}(G:ORC R)(k:Nat)(args:LV)(K:LV→OV R):OV R:=match args with
 | [.sl 7 bl1,.sl 1 bl2,.sl 1 bl3,.int .i64 bi4]=>f35 G k bl1 bl2 bl3 bi4 K
 |_=>none
theorem s35{R:Type}{G:ORC R}{k:Nat}(hG:Sound Try.prog TAB G)(args:LV)(K:LV→OV R)(r:R)(h:g35 G k args K=some r):∃o,CallOK Try.prog TAB.env 35 args o∧K o=some r:=by
 unfold g35 at h
 split at h
 ·rw[←f35_is]at h
  exact callF_sound (f:=35) TAB_chk MO hG Try.func35 (sg:=S35) (by kernel_rfl) (by kernel_rfl) (la35 G k) h
 ·cases h
def L40{R:Type}(_:ORC R)(_:Nat):Nat→St→(Ex→St→OV R)→OV R:=fun _ _ _=>none
def f40{R:Type}(G:ORC R)(k:Nat)(al1:LV)(ai2:Int)(K:LV→OV R):OV R:=
 (bif(decide (ai2≥0))then(K [.bool (decide (ai2<(al1.length:Int)))])else(K [.bool false]))
theorem f40_is{R:Type}(G:ORC R)(k:Nat)(K:LV→OV R)(al1:LV)(ai2:Int):
 callF (TAB.env 40) G (L40 G k) Try.f40 S40 [.sl 7 al1,.int .i64 ai2] K=f40 G k al1 ai2 K:=by kernel_rfl
theorem lo40:loopsOf (bodyOf Try.f40)=[]:=by kernel_rfl
theorem la40{R:Type}(G:ORC R)(k:Nat):LoopsAre (TAB.env 40) G (L40 G k) (bodyOf Try.f40):=
 loopsAre_of (by rw[lo40];intro p hp;cases hp)
def g40{R:Type}(G:ORC R)(k:Nat)(args:LV)(K:LV→OV R):OV R:=match args with
 | [.sl 7 al1,.int .i64 ai2]=>f40 G k al1 ai2 K
 |_=>none
theorem s40{R:Type}{G:ORC R}{k:Nat}(hG:Sound Try.prog TAB G)(args:LV)(K:LV→OV R)(r:R)(h:g40 G k args K=some r):∃o,CallOK Try.prog TAB.env 40 args o∧K o=some r:=by
 unfold g40 at h
 split at h
 ·rw[←f40_is]at h
  exact callF_sound (f:=40) TAB_chk MO hG Try.func40 (sg:=S40) (by kernel_rfl) (by kernel_rfl) (la40 G k) h
 ·cases h
def P42_0h:Pat:={tmps:=unds [.var (.sl 7) .ro,.var (.int .i64) .pr,.undef,.undef,.undef,.var (.sl 1) (.own true),.undef,.undef,.var (.sl 7) .ro,.var (.int .i64) .pr,.var (.int .i64) .pr] 19 [],boxes:=nons [] 30 []}
def P42_0x:Pat:={tmps:=unds [] 5 (unds [.var (.sl 1) (.own true)] 24 []),boxes:=nons [] 30 []}
def b42_0{R:Type}(G:ORC R)(k:Nat)(X:LV→Int→LV→LV→Int→Int→OV R)(Ko:LV→OV R)(xl3:LV)(xi4:Int)(xl5 xl6:LV)(xi7 xi8:Int):OV R:=
 (bif(decide (xi8<xi7))then(bif((decide (0≤xi8))&&(decide (xi8<(xl6.length:Int))))then(nthK xl6 (Int.toNat xi8) fun e9=>V.asAgg e9 fun l10=>ce7 l10 fun c11 c12 c13 c14 c15 c16 c17=>aI .i64 c11 fun n26=>aI .i64 c12 fun n27=>aI .i64 c13 fun n28=>aI .i64 c14 fun n29=>aI .i64 c15 fun n30=>aI .i64 c16 fun n31=>V.asStr c17 fun s32=>G 40 [.sl 7 xl3,.int .i64 xi4] fun o33=>uB o33 fun b35 r34=>unNil r34 (bif b35 then(bif(n27==xi4)then(bif(decide (List.length xl5+1≤1073741824))then(X xl3 xi4 (xl5++[.int .i64 xi8]) xl6 xi7 (IntKind.i64.wrap (xi8+1)))else none)else(X xl3 xi4 xl5 xl6 xi7 (IntKind.i64.wrap (xi8+1))))else(X xl3 xi4 xl5 xl6 xi7 (IntKind.i64.wrap (xi8+1)))))else none)else(Ko xl5))
def l42_0g{R:Type}(G:ORC R)(k:Nat)(Ko:LV→OV R):Nat→LV→Int→LV→LV→Int→Int→OV R
 |0=>fun _ _ _ _ _ _=>none
 |j+1=>b42_0 G k (l42_0g G k Ko j) Ko
def l42_0{R:Type}(G:ORC R)(k:Nat)(xl3:LV)(xi4:Int)(xl5 xl6:LV)(xi7 xi8:Int)(Ko:LV→OV R):OV R:=l42_0g G k Ko k xl3 xi4 xl5 xl6 xi7 xi8
def rd42_0{R:Type}(G:ORC R)(k:Nat)(K:Ex→St→OV R)(j:Nat)(vs:LV):OV R:=match vs with
 | [.sl 7 xl3,.int .i64 xi4,.sl 1 xl5,.sl 7 xl6,.int .i64 xi7,.int .i64 xi8]=>l42_0g G k (fun yl37=>K .normal (P42_0x.inst [.sl 1 yl37])) j xl3 xi4 xl5 xl6 xi7 xi8
 |_=>none
def L42{R:Type}(G:ORC R)(k:Nat):Nat→St→(Ex→St→OV R)→OV R
 |0,S,K=>P42_0h.mat S fun vs=>rd42_0 G k K k vs
 |_,_,_=>none
def f42{R:Type}(G:ORC R)(k:Nat)(al1:LV)(ai2:Int)(K:LV→OV R):OV R:=
 (l42_0 G k al1 ai2 [] al1 (al1.length:Int) 0 (fun yl36=>K [.sl 1 yl36]))
noncomputable def D42_0:LoopD:={id:=0,body:=loopAt 0 (bodyOf Try.f42),head:=P42_0h,out:=P42_0x,ret:=default}
theorem l42_0_is{R:Type}(G:ORC R)(k:Nat)(X:LV→OV R)(K:Ex→St→OV R)(xl3:LV)(xi4:Int)(xl5 xl6:LV)(xi7 xi8:Int):
 roundOf (TAB.env 42) G (L42 G k) D42_0 X K [.sl 7 xl3,.int .i64 xi4,.sl 1 xl5,.sl 7 xl6,.int .i64 xi7,.int .i64 xi8]=b42_0 G k (fun xl3 xi4 xl5 xl6 xi7 xi8=>X [.sl 7 xl3,.int .i64 xi4,.sl 1 xl5,.sl 7 xl6,.int .i64 xi7,.int .i64 xi8]) (fun yl37=>K .normal (P42_0x.inst [.sl 1 yl37])) xl3 xi4 xl5 xl6 xi7 xi8:=by kernel_rfl
theorem f42_is{R:Type}(G:ORC R)(k:Nat)(K:LV→OV R)(al1:LV)(ai2:Int):
 callF (TAB.env 42) G (L42 G k) Try.f42 S42 [.sl 7 al1,.int .i64 ai2] K=f42 G k al1 ai2 K:=by kernel_rfl
theorem li42_0{R:Type}(G:ORC R)(k:Nat):LoopIs (TAB.env 42) G (L42 G k) 0 (loopAt 0 (bodyOf Try.f42)):=
 ⟨D42_0,fun j vs K=>rd42_0 G k K j vs,k,rfl,rfl,by kernel_rfl,by kernel_rfl,by kernel_rfl,(fun vs K=>by unfold rd42_0;dsimp only;split<;>rfl),
   (fun j vs K r h=>by
     unfold rd42_0 at h
     dsimp only at h
     split at h
     ·rw[l42_0_is];exact h
     ·cases h),(fun S K r h=>h)⟩
theorem lo42:loopsOf (bodyOf Try.f42)=[(0,loopAt 0 (bodyOf Try.f42))]:=by kernel_rfl
theorem la42{R:Type}(G:ORC R)(k:Nat):LoopsAre (TAB.env 42) G (L42 G k) (bodyOf Try.f42):=
 loopsAre_of (by rw[lo42];intro p hp;simp only[List.mem_cons,List.not_mem_nil,or_false]at hp;subst hp;exact li42_0 G k)
def g42{R:Type}(G:ORC R)(k:Nat)(args:LV)(K:LV→OV R):OV R:=match args with
 | [.sl 7 al1,.int .i64 ai2]=>f42 G k al1 ai2 K
 |_=>none
theorem s42{R:Type}{G:ORC R}{k:Nat}(hG:Sound Try.prog TAB G)(args:LV)(K:LV→OV R)(r:R)(h:g42 G k args K=some r):∃o,CallOK Try.prog TAB.env 42 args o∧K o=some r:=by
 unfold g42 at h
 split at h
 ·rw[←f42_is]at h
  exact callF_sound (f:=42) TAB_chk MO hG Try.func42 (sg:=S42) (by kernel_rfl) (by kernel_rfl) (la42 G k) h
 ·cases h
def L43{R:Type}(_:ORC R)(_:Nat):Nat→St→(Ex→St→OV R)→OV R:=fun _ _ _=>none
def f43{R:Type}(G:ORC R)(k:Nat)(ai1 ai2:Int)(ai3 ai4:Int)(ai5 ai6:Int)(as7:ByteArray)(K:LV→OV R):OV R:=
 (bif(ai1==4)then(K [.bool true])else(K [.bool (ai1==5)]))
theorem f43_is{R:Type}(G:ORC R)(k:Nat)(K:LV→OV R)(ai1 ai2:Int)(ai3 ai4:Int)(ai5 ai6:Int)(as7:ByteArray):
 callF (TAB.env 43) G (L43 G k) Try.f43 S43 [.agg [.int .i64 ai1,.int .i64 ai2,.int .i64 ai3,.int .i64 ai4,.int .i64 ai5,.int .i64 ai6,.str as7]] K=f43 G k ai1 ai2 ai3 ai4 ai5 ai6 as7 K:=by kernel_rfl
theorem lo43:loopsOf (bodyOf Try.f43)=[]:=by kernel_rfl
theorem la43{R:Type}(G:ORC R)(k:Nat):LoopsAre (TAB.env 43) G (L43 G k) (bodyOf Try.f43):=
 loopsAre_of (by rw[lo43];intro p hp;cases hp)
def g43{R:Type}(G:ORC R)(k:Nat)(args:LV)(K:LV→OV R):OV R:=match args with
 | [.agg [.int .i64 ai1,.int .i64 ai2,.int .i64 ai3,.int .i64 ai4,.int .i64 ai5,.int .i64 ai6,.str as7]]=>f43 G k ai1 ai2 ai3 ai4 ai5 ai6 as7 K
 |_=>none
theorem s43{R:Type}{G:ORC R}{k:Nat}(hG:Sound Try.prog TAB G)(args:LV)(K:LV→OV R)(r:R)(h:g43 G k args K=some r):∃o,CallOK Try.prog TAB.env 43 args o∧K o=some r:=by
 unfold g43 at h
 split at h
 ·rw[←f43_is]at h
  exact callF_sound (f:=43) TAB_chk MO hG Try.func43 (sg:=S43) (by kernel_rfl) (by kernel_rfl) (la43 G k) h
 ·cases h
def L46{R:Type}(_:ORC R)(_:Nat):Nat→St→(Ex→St→OV R)→OV R:=fun _ _ _=>none
def f46{R:Type}(G:ORC R)(k:Nat)(al1:LV)(ai2 ai3:Int)(K:LV→OV R):OV R:=
 (bif(ai2 !=ai3)then(G 64 [.sl 7 al1,.int .i64 ai2,.int .i64 ai3] fun o4=>uB o4 fun b6 r5=>unNil r5 (K [.bool b6]))else(K [.bool false]))
theorem f46_is{R:Type}(G:ORC R)(k:Nat)(K:LV→OV R)(al1:LV)(ai2 ai3:Int):
 callF (TAB.env 46) G (L46 G k) Try.f46 S46 [.sl 7 al1,.int .i64 ai2,.int .i64 ai3] K=f46 G k al1 ai2 ai3 K:=by kernel_rfl
theorem lo46:loopsOf (bodyOf Try.f46)=[]:=by kernel_rfl
theorem la46{R:Type}(G:ORC R)(k:Nat):LoopsAre (TAB.env 46) G (L46 G k) (bodyOf Try.f46):=
 loopsAre_of (by rw[lo46];intro p hp;cases hp)
def g46{R:Type}(G:ORC R)(k:Nat)(args:LV)(K:LV→OV R):OV R:=match args with
 | [.sl 7 al1,.int .i64 ai2,.int .i64 ai3]=>f46 G k al1 ai2 ai3 K
 |_=>none
theorem s46{R:Type}{G:ORC R}{k:Nat}(hG:Sound Try.prog TAB G)(args:LV)(K:LV→OV R)(r:R)(h:g46 G k args K=some r):∃o,CallOK Try.prog TAB.env 46 args o∧K o=some r:=by
 unfold g46 at h
 split at h
 ·rw[←f46_is]at h
  exact callF_sound (f:=46) TAB_chk MO hG Try.func46 (sg:=S46) (by kernel_rfl) (by kernel_rfl) (la46 G k) h
 ·cases h
def L48{R:Type}(_:ORC R)(_:Nat):Nat→St→(Ex→St→OV R)→OV R:=fun _ _ _=>none
def f48{R:Type}(G:ORC R)(k:Nat)(ai1:Int)(bl2:LV)(bi3:Int)(K:LV→OV R):OV R:=
 (G 46 [.sl 7 bl2,.int .i64 bi3,.int .i64 ai1] fun o4=>uB o4 fun b6 r5=>unNil r5 (K [.bool b6,.int .i64 bi3]))
theorem f48_is{R:Type}(G:ORC R)(k:Nat)(K:LV→OV R)(ai1:Int)(bl2:LV)(bi3:Int):
 callF (TAB.env 48) G (L48 G k) Try.f48 S48 [.int .i64 ai1,.sl 7 bl2,.int .i64 bi3] K=f48 G k ai1 bl2 bi3 K:=by kernel_rfl
theorem lo48:loopsOf (bodyOf Try.f48)=[]:=by kernel_rfl
theorem la48{R:Type}(G:ORC R)(k:Nat):LoopsAre (TAB.env 48) G (L48 G k) (bodyOf Try.f48):=
 loopsAre_of (by rw[lo48];intro p hp;cases hp)
def g48{R:Type}(G:ORC R)(k:Nat)(args:LV)(K:LV→OV R):OV R:=match args with
 | [.int .i64 ai1,.sl 7 bl2,.int .i64 bi3]=>f48 G k ai1 bl2 bi3 K
 |_=>none
theorem s48{R:Type}{G:ORC R}{k:Nat}(hG:Sound Try.prog TAB G)(args:LV)(K:LV→OV R)(r:R)(h:g48 G k args K=some r):∃o,CallOK Try.prog TAB.env 48 args o∧K o=some r:=by
 unfold g48 at h
 split at h
 ·rw[←f48_is]at h
  exact callF_sound (f:=48) TAB_chk MO hG Try.func48 (sg:=S48) (by kernel_rfl) (by kernel_rfl) (la48 G k) h
 ·cases h
def L49{R:Type}(_:ORC R)(_:Nat):Nat→St→(Ex→St→OV R)→OV R:=fun _ _ _=>none
def f49{R:Type}(G:ORC R)(k:Nat)(al1:LV)(K:LV→OV R):OV R:=
 (G 67 [.int .u64 (IntKind.u64.wrap (al1.length:Int))] fun o2=>uI .i64 o2 fun n4 r3=>unNil r3 (G 66 [.sl 1 al1,.int .i64 0,.int .i64 (al1.length:Int),.int .i64 n4] fun o5=>unNil o5 (K [])))
theorem f49_is{R:Type}(G:ORC R)(k:Nat)(K:LV→OV R)(al1:LV):
 callF (TAB.env 49) G (L49 G k) Try.f49 S49 [.sl 1 al1] K=f49 G k al1 K:=by kernel_rfl
theorem lo49:loopsOf (bodyOf Try.f49)=[]:=by kernel_rfl
theorem la49{R:Type}(G:ORC R)(k:Nat):LoopsAre (TAB.env 49) G (L49 G k) (bodyOf Try.f49):=
 loopsAre_of (by rw[lo49];intro p hp;cases hp)
def g49{R:Type}(G:ORC R)(k:Nat)(args:LV)(K:LV→OV R):OV R:=match args with
 | [.sl 1 al1]=>f49 G k al1 K
 |_=>none
theorem s49{R:Type}{G:ORC R}{k:Nat}(hG:Sound Try.prog TAB G)(args:LV)(K:LV→OV R)(r:R)(h:g49 G k args K=some r):∃o,CallOK Try.prog TAB.env 49 args o∧K o=some r:=by
 unfold g49 at h
 split at h
 ·rw[←f49_is]at h
  exact callF_sound (f:=49) TAB_chk MO hG Try.func49 (sg:=S49) (by kernel_rfl) (by kernel_rfl) (la49 G k) h
 ·cases h
def P50_2h:Pat:={tmps:=unds [.var (.sl 1) .ro,.undef,.undef,.var (.int .i64) .pr,.var (.sl 1) .ro,.var (.int .i64) .pr] 55 [],boxes:=nons [] 61 []}
def P50_2x:Pat:={tmps:=unds [.var (.sl 1) .ro,.undef,.undef,.var (.int .i64) .pr] 57 [],boxes:=nons [] 61 []}
def b50_2{R:Type}(G:ORC R)(k:Nat)(X:LV→Int→LV→Int→OV R)(Ko:LV→Int→OV R)(xl8:LV)(xi9:Int)(xl10:LV)(xi11:Int):OV R:=
 (bif(decide (xi11<(xl10.length:Int)))then(bif((decide (0≤xi11))&&(decide (xi11<(xl10.length:Int))))then(nthK xl10 (Int.toNat xi11) fun e12=>aI .i64 e12 fun n13=>bif((decide (0≤(IntKind.i64.wrap (xi11-1))))&&(decide ((IntKind.i64.wrap (xi11-1))<(xl10.length:Int))))then(nthK xl10 (Int.toNat (IntKind.i64.wrap (xi11-1))) fun e14=>aI .i64 e14 fun n15=>bif(n13 !=n15)then(bif((decide (0≤xi11))&&(decide (xi11<(xl10.length:Int))))then(nthK xl10 (Int.toNat xi11) fun e16=>aI .i64 e16 fun n17=>bif((decide (0≤xi9))&&(decide (xi9<(xl8.length:Int))))then(nthK xl8 (Int.toNat xi9) fun e18=>none)else none)else none)else(X xl8 xi9 xl10 (IntKind.i64.wrap (xi11+1))))else none)else none)else(Ko xl8 xi9))
def l50_2g{R:Type}(G:ORC R)(k:Nat)(Ko:LV→Int→OV R):Nat→LV→Int→LV→Int→OV R
 |0=>fun _ _ _ _=>none
 |j+1=>b50_2 G k (l50_2g G k Ko j) Ko
def l50_2{R:Type}(G:ORC R)(k:Nat)(xl8:LV)(xi9:Int)(xl10:LV)(xi11:Int)(Ko:LV→Int→OV R):OV R:=l50_2g G k Ko k xl8 xi9 xl10 xi11
def P50_0h:Pat:={tmps:=unds [.var (.sl 1) (.own true),.undef,.undef,.var (.int .i64) .pr] 57 [],boxes:=nons [] 61 []}
def P50_0x:Pat:={tmps:=unds [.var (.sl 1) (.own true)] 60 [],boxes:=nons [] 61 []}
def b50_0{R:Type}(G:ORC R)(k:Nat)(X:LV→Int→OV R)(Ko:LV→OV R)(xl2:LV)(xi3:Int):OV R:=
 (bif(decide (xi3<(xl2.length:Int)))then(bif((decide (0≤xi3))&&(decide (xi3<(xl2.length:Int))))then(nthK xl2 (Int.toNat xi3) fun e4=>aI .i64 e4 fun n5=>bif((decide (0≤(IntKind.i64.wrap (xi3-1))))&&(decide ((IntKind.i64.wrap (xi3-1))<(xl2.length:Int))))then(nthK xl2 (Int.toNat (IntKind.i64.wrap (xi3-1))) fun e6=>aI .i64 e6 fun n7=>bif(n5==n7)then(bif(((decide (0≤xi3))&&(decide (xi3≤(xl2.length:Int))))&&(decide ((xl2.length:Int)≤(xl2.length:Int))))then(l50_2 G k xl2 xi3 (List.drop (Int.toNat xi3) (List.take (Int.toNat (xl2.length:Int)) xl2)) 1 (fun yl8 yi9=>bif(((decide (0≤yi9))&&(decide (yi9≤(yl8.length:Int))))&&(decide ((yl8.length:Int)≤(yl8.length:Int))))then none else none))else none)else(X xl2 (IntKind.i64.wrap (xi3+1))))else none)else none)else(Ko xl2))
def l50_0g{R:Type}(G:ORC R)(k:Nat)(Ko:LV→OV R):Nat→LV→Int→OV R
 |0=>fun _ _=>none
 |j+1=>b50_0 G k (l50_0g G k Ko j) Ko
def l50_0{R:Type}(G:ORC R)(k:Nat)(xl2:LV)(xi3:Int)(Ko:LV→OV R):OV R:=l50_0g G k Ko k xl2 xi3
def rd50_2{R:Type}(G:ORC R)(k:Nat)(K:Ex→St→OV R)(j:Nat)(vs:LV):OV R:=match vs with
 | [.sl 1 xl8,.int .i64 xi9,.sl 1 xl10,.int .i64 xi11]=>l50_2g G k (fun yl11 yi12=>K .normal (P50_2x.inst [.sl 1 yl11,.int .i64 yi12])) j xl8 xi9 xl10 xi11
 |_=>none
def rd50_0{R:Type}(G:ORC R)(k:Nat)(K:Ex→St→OV R)(j:Nat)(vs:LV):OV R:=match vs with
 | [.sl 1 xl2,.int .i64 xi3]=>l50_0g G k (fun yl13=>K .normal (P50_0x.inst [.sl 1 yl13])) j xl2 xi3
 |_=>none
def L50{R:Type}(G:ORC R)(k:Nat):Nat→St→(Ex→St→OV R)→OV R
 |2,S,K=>P50_2h.mat S fun vs=>rd50_2 G k K k vs
 |0,S,K=>P50_0h.mat S fun vs=>rd50_0 G k K k vs
 |_,_,_=>none
def f50{R:Type}(G:ORC R)(k:Nat)(al1:LV)(K:LV→OV R):OV R:=
 (bif(decide ((al1.length:Int)<2))then(K [.sl 1 al1])else(l50_0 G k al1 1 (fun yl10=>K [.sl 1 yl10])))
noncomputable def D50_2:LoopD:={id:=2,body:=loopAt 2 (bodyOf Try.f50),head:=P50_2h,out:=P50_2x,ret:=default}
theorem l50_2_is{R:Type}(G:ORC R)(k:Nat)(X:LV→OV R)(K:Ex→St→OV R)(xl8:LV)(xi9:Int)(xl10:LV)(xi11:Int):
 roundOf (TAB.env 50) G (L50 G k) D50_2 X K [.sl 1 xl8,.int .i64 xi9,.sl 1 xl10,.int .i64 xi11]=b50_2 G k (fun xl8 xi9 xl10 xi11=>X [.sl 1 xl8,.int .i64 xi9,.sl 1 xl10,.int .i64 xi11]) (fun yl11 yi12=>K .normal (P50_2x.inst [.sl 1 yl11,.int .i64 yi12])) xl8 xi9 xl10 xi11:=by kernel_rfl
noncomputable def D50_0:LoopD:={id:=0,body:=loopAt 0 (bodyOf Try.f50),head:=P50_0h,out:=P50_0x,ret:=default}
theorem l50_0_is{R:Type}(G:ORC R)(k:Nat)(X:LV→OV R)(K:Ex→St→OV R)(xl2:LV)(xi3:Int):
 roundOf (TAB.env 50) G (L50 G k) D50_0 X K [.sl 1 xl2,.int .i64 xi3]=b50_0 G k (fun xl2 xi3=>X [.sl 1 xl2,.int .i64 xi3]) (fun yl13=>K .normal (P50_0x.inst [.sl 1 yl13])) xl2 xi3:=by kernel_rfl
theorem f50_is{R:Type}(G:ORC R)(k:Nat)(K:LV→OV R)(al1:LV):
 callF (TAB.env 50) G (L50 G k) Try.f50 S50 [.sl 1 al1] K=f50 G k al1 K:=by kernel_rfl
theorem li50_2{R:Type}(G:ORC R)(k:Nat):LoopIs (TAB.env 50) G (L50 G k) 2 (loopAt 2 (bodyOf Try.f50)):=
 ⟨D50_2,fun j vs K=>rd50_2 G k K j vs,k,rfl,rfl,by kernel_rfl,by kernel_rfl,by kernel_rfl,(fun vs K=>by unfold rd50_2;dsimp only;split<;>rfl),
   (fun j vs K r h=>by
     unfold rd50_2 at h
     dsimp only at h
     split at h
     ·rw[l50_2_is];exact h
     ·cases h),(fun S K r h=>h)⟩
theorem li50_0{R:Type}(G:ORC R)(k:Nat):LoopIs (TAB.env 50) G (L50 G k) 0 (loopAt 0 (bodyOf Try.f50)):=
 ⟨D50_0,fun j vs K=>rd50_0 G k K j vs,k,rfl,rfl,by kernel_rfl,by kernel_rfl,by kernel_rfl,(fun vs K=>by unfold rd50_0;dsimp only;split<;>rfl),
   (fun j vs K r h=>by
     unfold rd50_0 at h
     dsimp only at h
     split at h
     ·rw[l50_0_is];exact h
     ·cases h),(fun S K r h=>h)⟩
theorem lo50:loopsOf (bodyOf Try.f50)=[(0,loopAt 0 (bodyOf Try.f50)),(2,loopAt 2 (bodyOf Try.f50))]:=by kernel_rfl
theorem la50{R:Type}(G:ORC R)(k:Nat):LoopsAre (TAB.env 50) G (L50 G k) (bodyOf Try.f50):=
 loopsAre_of (by rw[lo50];intro p hp;simp only[List.mem_cons,List.not_mem_nil,or_false]at hp;rcases hp with rfl|rfl<;>first|exact li50_0 G k|exact li50_2 G k)
def g50{R:Type}(G:ORC R)(k:Nat)(args:LV)(K:LV→OV R):OV R:=match args with
 | [.sl 1 al1]=>f50 G k al1 K
 |_=>none
theorem s50{R:Type}{G:ORC R}{k:Nat}(hG:Sound Try.prog TAB G)(args:LV)(K:LV→OV R)(r:R)(h:g50 G k args K=some r):∃o,CallOK Try.prog TAB.env 50 args o∧K o=some r:=by
 unfold g50 at h
 split at h
 ·rw[←f50_is]at h
  exact callF_sound (f:=50) TAB_chk MO hG Try.func50 (sg:=S50) (by kernel_rfl) (by kernel_rfl) (la50 G k) h
 ·cases h
set_option linter.unusedSimpArgs false
def intsB(l:LV):Bool:=l.all fun v=>match v with| .int .i64 _=>true|_=>false
theorem intsB_ex:∀{l:LV},intsB l=true→∃zs:List Int,l=zs.map fun n=>V.int .i64 n
 | [],_=>⟨[],rfl⟩
 |v::r,h=>by
  unfold intsB at h
  rw[List.all_cons,Bool.and_eq_true]at h
  obtain⟨zs,e⟩:=intsB_ex (l:=r) h.2
  have h1:=h.1
  cases v with
  |int k n=>cases k with
   |i64=>exact⟨n::zs,by rw[e];rfl⟩
   |_=>cases h1
  |_=>cases h1
theorem oes_at{h:Hp}{ro:Nat→Prop}{d:Bool}{c:Array Value}:∀{zs:List Int} {off:Nat} {fp:List Nat},OEs h ro d (zs.map fun n=>V.int .i64 n) c off 1 fp→fp=[]∧∀j (n:Int),zs[j]? =some n→c[off+j]? =some (.int .i64 n)
 | [],off,fp,x=>⟨x,fun j n hj=>by simp at hj⟩
 |a::zs,off,fp,⟨f,g,e0,h1,h2,h3⟩=>by
  obtain⟨e2,e3⟩:=oes_at h3
  obtain⟨h2a,h2b⟩:=(show seg c off 1=[.int .i64 a]∧f=[]from h2)
  refine⟨by rw[e0,h2b,e2];rfl,fun j n hj=> ?_⟩
  cases j with
  |zero=>
   simp only[List.getElem?_cons_zero,Option.some.injEq]at hj
   subst hj
   have:=congrArg (fun l:List Value=>l[0]?) h2a
   simp only[seg_getElem,List.getElem?_cons_zero]at this
   simpa using this
  |succ j=>
   have:=e3 j n (by simpa using hj)
   rw[show off+(j+1)=off+1+j by omega];exact this
theorem at_oes{h:Hp}{ro:Nat→Prop}{d:Bool}{c:Array Value}:∀{zs:List Int} {off:Nat},(∀j (n:Int),zs[j]? =some n→c[off+j]? =some (.int .i64 n))→OEs h ro d (zs.map fun n=>V.int .i64 n) c off 1 []
 | [],off,_=>rfl
 |a::zs,off,hj=>by
  have h0:=hj 0 a (by simp)
  rw[Nat.add_zero]at h0
  have hs:seg c off 1=[.int .i64 a]:=by
   apply List.ext_getElem?
   intro i
   rw[seg_getElem]
   cases i with
   |zero=>simp[h0]
   |succ i=>simp
  exact⟨[],[],rfl,by rw[hs];rfl,⟨hs,rfl⟩,at_oes fun j n hjn=>by
   have:=hj (j+1) n (by simpa using hjn)
   rw[show off+1+j=off+(j+1)by omega];exact this⟩
def revRen:Go.Shelf.Ren:=⟨fun x=>if x=112 then 51 else 0,fun x=>if x=3 then 3 else if x=4 then 4 else if x=28 then 22 else 0,fun x=>x⟩
theorem revL:Go.Proofs.Lays.n112 Try.prog revRen:=
 {mixed:=MO,f112:=by kernel_rfl,t0:=by kernel_rfl,a0:=fun w=>by kernel_rfl,z0:=fun w=>by kernel_rfl,v0:=fun w=>by kernel_rfl,
  t3:=by kernel_rfl,a3:=fun w=>by kernel_rfl,z3:=fun w=>by kernel_rfl,v3:=fun w=>by kernel_rfl,
  t4:=by kernel_rfl,a4:=fun w=>by kernel_rfl,z4:=fun w=>by kernel_rfl,v4:=fun w=>by kernel_rfl,
  t28:=by kernel_rfl,a28:=fun w=>by kernel_rfl,z28:=fun w=>by kernel_rfl,v28:=fun w=>by kernel_rfl}
theorem rev_io{zs:List Int}(hz:zs.length≤1000000):IoOK Try.prog 51 [.sl 1 (zs.map fun n=>V.int .i64 n)] [.sl 1 (zs.reverse.map fun n=>V.int .i64 n)]:=by
 refine⟨_,_,rfl,rfl,fun w ro r fp hel hn hlt=> ?_⟩
 obtain⟨ad,len,cap,e1,e2,e3,y⟩:=hel
 injection e1 with e1 _
 subst e1
 rw[List.length_map]at e2
 subst e2
 show Calls Try.prog (revRen.f 112) _ w _
 by_cases h0:zs=[]
 ·subst h0
  refine(Go.Proofs.Any.slices_Reverse_int_empty revL ad cap w).mono fun e w' h=> ?_
  obtain⟨rfl,rfl⟩:=h
  exact⟨rfl,Same.refl _,Nat.le_refl _,fun _ _ _=>rfl,⟨ad,0,cap,rfl,rfl,e3,y⟩⟩
 ·have hpos:0<zs.length:=List.length_pos_iff.2 h0
  cases ad with
  |none=>obtain⟨hc,_⟩:=y;omega
  |some ad=>
   obtain⟨hsp,c,ty,hb,hbd,fp',hf,y⟩:=y
   simp only[if_true]at y
   obtain⟨rfl,hat⟩:=oes_at y
   obtain⟨bk,q,sp⟩:=ad
   simp only at hsp hb hbd hf hat
   subst hsp
   rw[Nat.mul_one]at hbd
   have hH:Go.Sort.Holds (Value.int .i64) w bk q zs.toArray:=fun j hj=>by
    have hj:j<zs.length:=by simpa using hj
    refine⟨?_,?_⟩
    ·simp only[World.cell?,hb]
     rw[hat j zs[j] (List.getElem?_eq_getElem hj)]
     simp[hj]
    ·simp[World.frozen?,hb]
   refine(Go.Proofs.Any.slices_Reverse_int revL bk q cap zs w hH (by omega)).mono fun e w' h=> ?_
   obtain⟨rfl,n,rfl⟩:=h
   let c2:=Go.Sort.putCells (Value.int .i64) q zs.reverse.toArray c
   have hblk:(Go.Sort.putRow (Value.int .i64) (Go.Sort.ahead w n) bk q zs.reverse.toArray).heap[bk]? =some (.cells c2 ty (0,0)):=by
    simp only[Go.Sort.putRow,Go.Sort.mapBlock,Go.Sort.ahead,Array.getElem?_modify,if_true,hb,Option.map_some,Go.Sort.onCells];rfl
   have hoth:∀x,x≠bk→(Go.Sort.putRow (Value.int .i64) (Go.Sort.ahead w n) bk q zs.reverse.toArray).heap[x]? =w.heap[x]? :=fun x hx=>by
    simp only[Go.Sort.putRow,Go.Sort.mapBlock,Go.Sort.ahead,Array.getElem?_modify]
    rw[if_neg (fun e=>hx e.symm)]
   have hsz:(Go.Sort.putRow (Value.int .i64) (Go.Sort.ahead w n) bk q zs.reverse.toArray).heap.size=w.heap.size:=by
    simp[Go.Sort.putRow,Go.Sort.mapBlock,Go.Sort.ahead]
   refine⟨rfl,⟨rfl,rfl,rfl⟩,by rw[hsz];exact Nat.le_refl _,fun x _ hx=>hoth x fun e=>hx (by rw[hf,e];simp),?_⟩
   refine⟨some ⟨bk,q,none⟩,zs.length,cap,rfl,by simp,e3,rfl,c2,ty,hblk,?_,[],hf,?_⟩
   ·simp only[c2,Go.Sort.putCells,Array.size_mapIdx,Nat.mul_one];exact hbd
   ·simp only[if_true]
    refine at_oes fun j v hj=> ?_
    have hjl:j<zs.length:=by have:=(List.getElem?_eq_some_iff.1 hj).1;simpa using this
    have hc:q+j<c.size:=by omega
    simp only[c2,Go.Sort.putCells,Array.getElem?_mapIdx,Array.getElem?_eq_getElem hc,Option.map_some]
    rw[if_pos (by simp;omega)]
    have e5:q+j-q=j:=by omega
    rw[e5]
    have hj2:=(List.getElem?_eq_some_iff.1 hj)
    obtain⟨hl2,hj2⟩:=hj2
    rw[getElem!_pos _ j (by simpa using hjl)]
    simp only[List.getElem_toArray,hj2]
def g51{R:Type}(G:ORC R)(k:Nat)(args:LV)(K:LV→OV R):OV R:=match args with
 | [.sl 1 l]=>bif decide (l.length≤1000000)then(bif intsB l then K [.sl 1 l.reverse]else none)else none
 |_=>none
theorem s51{R:Type}{G:ORC R}{k:Nat}(hG:Sound Try.prog TAB G)(args:LV)(K:LV→OV R)(r:R)(h:g51 G k args K=some r):∃o,CallOK Try.prog TAB.env 51 args o∧K o=some r:=by
 unfold g51 at h
 split at h
 ·rename_i l
  by_cases hl:l.length≤1000000
  ·rw[decide_eq_true hl]at h
   cases hp:intsB l with
   |false=>rw[hp]at h;cases h
   |true=>
   rw[hp]at h
   obtain⟨zs,rfl⟩:=intsB_ex hp
   refine⟨_,⟨_,S51,Try.func51,by kernel_rfl,by kernel_rfl,by kernel_rfl,by decide,fun _=> ?_,fun e=>by cases e⟩,h⟩
   rw[←List.map_reverse]
   exact rev_io (by simpa using hl)
  ·rw[decide_eq_false hl]at h;cases h
 ·cases h
def P58_0h:Pat:={tmps:=unds [.var (.sl 7) .ro,.var (.int .i64) .pr,.undef,.undef,.undef,.var (.sl 1) (.own true),.var (.int .i64) .pr] 23 [],boxes:=nons [] 30 []}
def P58_0x:Pat:={tmps:=unds [] 5 (unds [.var (.sl 1) (.own true)] 24 []),boxes:=nons [] 30 []}
def b58_0{R:Type}(G:ORC R)(k:Nat)(X:LV→Int→LV→Int→OV R)(Ko:LV→OV R)(xl3:LV)(xi4:Int)(xl5:LV)(xi6:Int):OV R:=
 (bif(decide (xi6<(xl3.length:Int)))then(G 30 [.sl 7 xl3,.int .i64 xi4] fun o7=>uB o7 fun b9 r8=>unNil r8 (bif b9 then(bif((decide (0≤xi6))&&(decide (xi6<(xl3.length:Int))))then(nthK xl3 (Int.toNat xi6) fun e10=>ca7 e10 fun c11 c12 c13 c14 c15 c16 c17=>aI .i64 c12 fun n18=>bif(n18==xi4)then(bif(decide (List.length xl5+1≤1073741824))then(X xl3 xi4 (xl5++[.int .i64 xi6]) (IntKind.i64.wrap (xi6+1)))else none)else(X xl3 xi4 xl5 (IntKind.i64.wrap (xi6+1))))else none)else(Ko xl5)))else(Ko xl5))
def l58_0g{R:Type}(G:ORC R)(k:Nat)(Ko:LV→OV R):Nat→LV→Int→LV→Int→OV R
 |0=>fun _ _ _ _=>none
 |j+1=>b58_0 G k (l58_0g G k Ko j) Ko
def l58_0{R:Type}(G:ORC R)(k:Nat)(xl3:LV)(xi4:Int)(xl5:LV)(xi6:Int)(Ko:LV→OV R):OV R:=l58_0g G k Ko k xl3 xi4 xl5 xi6
def rd58_0{R:Type}(G:ORC R)(k:Nat)(K:Ex→St→OV R)(j:Nat)(vs:LV):OV R:=match vs with
 | [.sl 7 xl3,.int .i64 xi4,.sl 1 xl5,.int .i64 xi6]=>l58_0g G k (fun yl20=>K .normal (P58_0x.inst [.sl 1 yl20])) j xl3 xi4 xl5 xi6
 |_=>none
def L58{R:Type}(G:ORC R)(k:Nat):Nat→St→(Ex→St→OV R)→OV R
 |0,S,K=>P58_0h.mat S fun vs=>rd58_0 G k K k vs
 |_,_,_=>none
def f58{R:Type}(G:ORC R)(k:Nat)(al1:LV)(ai2:Int)(K:LV→OV R):OV R:=
 (l58_0 G k al1 ai2 [] 0 (fun yl19=>K [.sl 1 yl19]))
noncomputable def D58_0:LoopD:={id:=0,body:=loopAt 0 (bodyOf Try.f58),head:=P58_0h,out:=P58_0x,ret:=default}
theorem l58_0_is{R:Type}(G:ORC R)(k:Nat)(X:LV→OV R)(K:Ex→St→OV R)(xl3:LV)(xi4:Int)(xl5:LV)(xi6:Int):
 roundOf (TAB.env 58) G (L58 G k) D58_0 X K [.sl 7 xl3,.int .i64 xi4,.sl 1 xl5,.int .i64 xi6]=b58_0 G k (fun xl3 xi4 xl5 xi6=>X [.sl 7 xl3,.int .i64 xi4,.sl 1 xl5,.int .i64 xi6]) (fun yl20=>K .normal (P58_0x.inst [.sl 1 yl20])) xl3 xi4 xl5 xi6:=by kernel_rfl
theorem f58_is{R:Type}(G:ORC R)(k:Nat)(K:LV→OV R)(al1:LV)(ai2:Int):
 callF (TAB.env 58) G (L58 G k) Try.f58 S58 [.sl 7 al1,.int .i64 ai2] K=f58 G k al1 ai2 K:=by kernel_rfl
theorem li58_0{R:Type}(G:ORC R)(k:Nat):LoopIs (TAB.env 58) G (L58 G k) 0 (loopAt 0 (bodyOf Try.f58)):=
 ⟨D58_0,fun j vs K=>rd58_0 G k K j vs,k,rfl,rfl,by kernel_rfl,by kernel_rfl,by kernel_rfl,(fun vs K=>by unfold rd58_0;dsimp only;split<;>rfl),
   (fun j vs K r h=>by
     unfold rd58_0 at h
     dsimp only at h
     split at h
     ·rw[l58_0_is];exact h
     ·cases h),(fun S K r h=>h)⟩
theorem lo58:loopsOf (bodyOf Try.f58)=[(0,loopAt 0 (bodyOf Try.f58))]:=by kernel_rfl
theorem la58{R:Type}(G:ORC R)(k:Nat):LoopsAre (TAB.env 58) G (L58 G k) (bodyOf Try.f58):=
 loopsAre_of (by rw[lo58];intro p hp;simp only[List.mem_cons,List.not_mem_nil,or_false]at hp;subst hp;exact li58_0 G k)
def g58{R:Type}(G:ORC R)(k:Nat)(args:LV)(K:LV→OV R):OV R:=match args with
 | [.sl 7 al1,.int .i64 ai2]=>f58 G k al1 ai2 K
 |_=>none
theorem s58{R:Type}{G:ORC R}{k:Nat}(hG:Sound Try.prog TAB G)(args:LV)(K:LV→OV R)(r:R)(h:g58 G k args K=some r):∃o,CallOK Try.prog TAB.env 58 args o∧K o=some r:=by
 unfold g58 at h
 split at h
 ·rw[←f58_is]at h
  exact callF_sound (f:=58) TAB_chk MO hG Try.func58 (sg:=S58) (by kernel_rfl) (by kernel_rfl) (la58 G k) h
 ·cases h
def L59{R:Type}(_:ORC R)(_:Nat):Nat→St→(Ex→St→OV R)→OV R:=fun _ _ _=>none
def f59{R:Type}(G:ORC R)(k:Nat)(bl1 bl2 bl3:LV)(bi4:Int)(K:LV→OV R):OV R:=
 (K [.bool (decide ((IntKind.i64.wrap (bi4-1))≥0)),.sl 1 bl3,.int .i64 (IntKind.i64.wrap (bi4-1))])
theorem f59_is{R:Type}(G:ORC R)(k:Nat)(K:LV→OV R)(bl1 bl2 bl3:LV)(bi4:Int):
 callF (TAB.env 59) G (L59 G k) Try.f59 S59 [.sl 7 bl1,.sl 1 bl2,.sl 1 bl3,.int .i64 bi4] K=f59 G k bl1 bl2 bl3 bi4 K:=by kernel_rfl
theorem lo59:loopsOf (bodyOf Try.f59)=[]:=by kernel_rfl
theorem la59{R:Type}(G:ORC R)(k:Nat):LoopsAre (TAB.env 59) G (L59 G k) (bodyOf Try.f59):=
 loopsAre_of (by rw[lo59];intro p hp;cases hp)
def g59{R:Type}(G:ORC R)(k:Nat)(args:LV)(K:LV→OV R):OV R:=match args with
 | [.sl 7 bl1,.sl 1 bl2,.sl 1 bl3,.int .i64 bi4]=>f59 G k bl1 bl2 bl3 bi4 K
 |_=>none
theorem s59{R:Type}{G:ORC R}{k:Nat}(hG:Sound Try.prog TAB G)(args:LV)(K:LV→OV R)(r:R)(h:g59 G k args K=some r):∃o,CallOK Try.prog TAB.env 59 args o∧K o=some r:=by
 unfold g59 at h
 split at h
 ·rw[←f59_is]at h
  exact callF_sound (f:=59) TAB_chk MO hG Try.func59 (sg:=S59) (by kernel_rfl) (by kernel_rfl) (la59 G k) h
 ·cases h
def P60_0h:Pat:={tmps:=unds [.stat (.one (.ptr 0 0) .pt)] 19 (unds [.var (.sl 1) .ro,.var (.int .i64) .pr,.var (.int .i64) .pr] 10 []),boxes:=nons [some [.var (.sl 7) .ro true,.var (.sl 1) .ro true,.var (.sl 1) (.own true) false,.var (.int .i64) .pr false]] 33 []}
def P60_0x:Pat:={tmps:=unds [] 33 [],boxes:=nons [some [.var (.sl 7) .ro true,.var (.sl 1) .ro true,.var (.sl 1) (.own true) false,.var (.int .i64) .pr false]] 33 []}
def b60_0{R:Type}(G:ORC R)(k:Nat)(X:LV→Int→Int→LV→LV→LV→Int→OV R)(Ko:LV→LV→LV→Int→OV R)(xl18:LV)(xi19 xi20:Int)(xl21 xl22 xl23:LV)(xi24:Int):OV R:=
 (bif(decide (xi20<xi19))then(bif((decide (0≤xi20))&&(decide (xi20<(xl18.length:Int))))then(nthK xl18 (Int.toNat xi20) fun e25=>aI .i64 e25 fun n26=>G 74 [.int .i64 n26,.sl 7 xl21,.sl 1 xl22,.sl 1 xl23,.int .i64 xi24] fun o27=>uB o27 fun b29 r28=>uL 1 r28 fun l31 r30=>uI .i64 r30 fun n33 r32=>unNil r32 (bif b29 then(G 32 [.int .i64 n26,.sl 7 xl21,.sl 1 xl22,.sl 1 l31,.int .i64 n33] fun o34=>uL 1 o34 fun l36 r35=>uI .i64 r35 fun n38 r37=>unNil r37 (X xl18 xi19 (IntKind.i64.wrap (xi20+1)) xl21 xl22 l36 n38))else(X xl18 xi19 (IntKind.i64.wrap (xi20+1)) xl21 xl22 l31 n33)))else none)else(Ko xl21 xl22 xl23 xi24))
def l60_0g{R:Type}(G:ORC R)(k:Nat)(Ko:LV→LV→LV→Int→OV R):Nat→LV→Int→Int→LV→LV→LV→Int→OV R
 |0=>fun _ _ _ _ _ _ _=>none
 |j+1=>b60_0 G k (l60_0g G k Ko j) Ko
def l60_0{R:Type}(G:ORC R)(k:Nat)(xl18:LV)(xi19 xi20:Int)(xl21 xl22 xl23:LV)(xi24:Int)(Ko:LV→LV→LV→Int→OV R):OV R:=l60_0g G k Ko k xl18 xi19 xi20 xl21 xl22 xl23 xi24
def rd60_0{R:Type}(G:ORC R)(k:Nat)(K:Ex→St→OV R)(j:Nat)(vs:LV):OV R:=match vs with
 | [.sl 1 xl18,.int .i64 xi19,.int .i64 xi20,.sl 7 xl21,.sl 1 xl22,.sl 1 xl23,.int .i64 xi24]=>l60_0g G k (fun yl43 yl44 yl45 yi46=>K .normal (P60_0x.inst [.sl 7 yl43,.sl 1 yl44,.sl 1 yl45,.int .i64 yi46])) j xl18 xi19 xi20 xl21 xl22 xl23 xi24
 |_=>none
def L60{R:Type}(G:ORC R)(k:Nat):Nat→St→(Ex→St→OV R)→OV R
 |0,S,K=>P60_0h.mat S fun vs=>rd60_0 G k K k vs
 |_,_,_=>none
def f60{R:Type}(G:ORC R)(k:Nat)(ai1:Int)(bl2 bl3 bl4:LV)(bi5:Int)(K:LV→OV R):OV R:=
 (bif((decide (0≤ai1))&&(decide (ai1<(bl2.length:Int))))then(nthK bl2 (Int.toNat ai1) fun e6=>ca7 e6 fun c7 c8 c9 c10 c11 c12 c13=>aI .i64 c7 fun n14=>bif(n14 !=3)then(K [.sl 1 bl4,.int .i64 bi5])else(G 61 [.sl 7 bl2,.int .i64 ai1] fun o15=>uL 1 o15 fun l17 r16=>unNil r16 (l60_0 G k l17 (l17.length:Int) 0 bl2 bl3 bl4 bi5 (fun yl39 yl40 yl41 yi42=>K [.sl 1 yl41,.int .i64 yi42]))))else none)
noncomputable def D60_0:LoopD:={id:=0,body:=loopAt 0 (bodyOf Try.f60),head:=P60_0h,out:=P60_0x,ret:=default}
theorem l60_0_is{R:Type}(G:ORC R)(k:Nat)(X:LV→OV R)(K:Ex→St→OV R)(xl18:LV)(xi19 xi20:Int)(xl21 xl22 xl23:LV)(xi24:Int):
 roundOf (TAB.env 60) G (L60 G k) D60_0 X K [.sl 1 xl18,.int .i64 xi19,.int .i64 xi20,.sl 7 xl21,.sl 1 xl22,.sl 1 xl23,.int .i64 xi24]=b60_0 G k (fun xl18 xi19 xi20 xl21 xl22 xl23 xi24=>X [.sl 1 xl18,.int .i64 xi19,.int .i64 xi20,.sl 7 xl21,.sl 1 xl22,.sl 1 xl23,.int .i64 xi24]) (fun yl43 yl44 yl45 yi46=>K .normal (P60_0x.inst [.sl 7 yl43,.sl 1 yl44,.sl 1 yl45,.int .i64 yi46])) xl18 xi19 xi20 xl21 xl22 xl23 xi24:=by kernel_rfl
theorem f60_is{R:Type}(G:ORC R)(k:Nat)(K:LV→OV R)(ai1:Int)(bl2 bl3 bl4:LV)(bi5:Int):
 callF (TAB.env 60) G (L60 G k) Try.f60 S60 [.int .i64 ai1,.sl 7 bl2,.sl 1 bl3,.sl 1 bl4,.int .i64 bi5] K=f60 G k ai1 bl2 bl3 bl4 bi5 K:=by kernel_rfl
theorem li60_0{R:Type}(G:ORC R)(k:Nat):LoopIs (TAB.env 60) G (L60 G k) 0 (loopAt 0 (bodyOf Try.f60)):=
 ⟨D60_0,fun j vs K=>rd60_0 G k K j vs,k,rfl,rfl,by kernel_rfl,by kernel_rfl,by kernel_rfl,(fun vs K=>by unfold rd60_0;dsimp only;split<;>rfl),
   (fun j vs K r h=>by
     unfold rd60_0 at h
     dsimp only at h
     split at h
     ·rw[l60_0_is];exact h
     ·cases h),(fun S K r h=>h)⟩
theorem lo60:loopsOf (bodyOf Try.f60)=[(0,loopAt 0 (bodyOf Try.f60))]:=by kernel_rfl
theorem la60{R:Type}(G:ORC R)(k:Nat):LoopsAre (TAB.env 60) G (L60 G k) (bodyOf Try.f60):=
 loopsAre_of (by rw[lo60];intro p hp;simp only[List.mem_cons,List.not_mem_nil,or_false]at hp;subst hp;exact li60_0 G k)
def g60{R:Type}(G:ORC R)(k:Nat)(args:LV)(K:LV→OV R):OV R:=match args with
 | [.int .i64 ai1,.sl 7 bl2,.sl 1 bl3,.sl 1 bl4,.int .i64 bi5]=>f60 G k ai1 bl2 bl3 bl4 bi5 K
 |_=>none
theorem s60{R:Type}{G:ORC R}{k:Nat}(hG:Sound Try.prog TAB G)(args:LV)(K:LV→OV R)(r:R)(h:g60 G k args K=some r):∃o,CallOK Try.prog TAB.env 60 args o∧K o=some r:=by
 unfold g60 at h
 split at h
 ·rw[←f60_is]at h
  exact callF_sound (f:=60) TAB_chk MO hG Try.func60 (sg:=S60) (by kernel_rfl) (by kernel_rfl) (la60 G k) h
 ·cases h
def L61{R:Type}(_:ORC R)(_:Nat):Nat→St→(Ex→St→OV R)→OV R:=fun _ _ _=>none
def f61{R:Type}(G:ORC R)(k:Nat)(al1:LV)(ai2:Int)(K:LV→OV R):OV R:=
 (G 42 [.sl 7 al1,.int .i64 ai2] fun o3=>uL 1 o3 fun l5 r4=>unNil r4 (G 65611 [.sl 1 l5,.sl 7 al1] fun o6=>uL 1 o6 fun l8 r7=>unNil r7 (K [.sl 1 l8])))
theorem f61_is{R:Type}(G:ORC R)(k:Nat)(K:LV→OV R)(al1:LV)(ai2:Int):
 callF (TAB.env 61) G (L61 G k) Try.f61 S61 [.sl 7 al1,.int .i64 ai2] K=f61 G k al1 ai2 K:=by kernel_rfl
theorem lo61:loopsOf (bodyOf Try.f61)=[]:=by kernel_rfl
theorem la61{R:Type}(G:ORC R)(k:Nat):LoopsAre (TAB.env 61) G (L61 G k) (bodyOf Try.f61):=
 loopsAre_of (by rw[lo61];intro p hp;cases hp)
def g61{R:Type}(G:ORC R)(k:Nat)(args:LV)(K:LV→OV R):OV R:=match args with
 | [.sl 7 al1,.int .i64 ai2]=>f61 G k al1 ai2 K
 |_=>none
theorem s61{R:Type}{G:ORC R}{k:Nat}(hG:Sound Try.prog TAB G)(args:LV)(K:LV→OV R)(r:R)(h:g61 G k args K=some r):∃o,CallOK Try.prog TAB.env 61 args o∧K o=some r:=by
 unfold g61 at h
 split at h
 ·rw[←f61_is]at h
  exact callF_sound (f:=61) TAB_chk MO hG Try.func61 (sg:=S61) (by kernel_rfl) (by kernel_rfl) (la61 G k) h
 ·cases h
def L64{R:Type}(_:ORC R)(_:Nat):Nat→St→(Ex→St→OV R)→OV R:=fun _ _ _=>none
def f64{R:Type}(G:ORC R)(k:Nat)(al1:LV)(ai2 ai3:Int)(K:LV→OV R):OV R:=
 (G 40 [.sl 7 al1,.int .i64 ai2] fun o4=>uB o4 fun b6 r5=>unNil r5 (bif b6 then(G 40 [.sl 7 al1,.int .i64 ai3] fun o7=>uB o7 fun b9 r8=>unNil r8 (bif b9 then(bif(decide (ai2≥ai3))then(bif((decide (0≤ai3))&&(decide (ai3<(al1.length:Int))))then(nthK al1 (Int.toNat ai3) fun e10=>ca7 e10 fun c11 c12 c13 c14 c15 c16 c17=>aI .i64 c13 fun n18=>K [.bool (decide (ai2≤n18))])else none)else(K [.bool false]))else(K [.bool false])))else(K [.bool false])))
theorem f64_is{R:Type}(G:ORC R)(k:Nat)(K:LV→OV R)(al1:LV)(ai2 ai3:Int):
 callF (TAB.env 64) G (L64 G k) Try.f64 S64 [.sl 7 al1,.int .i64 ai2,.int .i64 ai3] K=f64 G k al1 ai2 ai3 K:=by kernel_rfl
theorem lo64:loopsOf (bodyOf Try.f64)=[]:=by kernel_rfl
theorem la64{R:Type}(G:ORC R)(k:Nat):LoopsAre (TAB.env 64) G (L64 G k) (bodyOf Try.f64):=
 loopsAre_of (by rw[lo64];intro p hp;cases hp)
def g64{R:Type}(G:ORC R)(k:Nat)(args:LV)(K:LV→OV R):OV R:=match args with
 | [.sl 7 al1,.int .i64 ai2,.int .i64 ai3]=>f64 G k al1 ai2 ai3 K
 |_=>none
theorem s64{R:Type}{G:ORC R}{k:Nat}(hG:Sound Try.prog TAB G)(args:LV)(K:LV→OV R)(r:R)(h:g64 G k args K=some r):∃o,CallOK Try.prog TAB.env 64 args o∧K o=some r:=by
 unfold g64 at h
 split at h
 ·rw[←f64_is]at h
  exact callF_sound (f:=64) TAB_chk MO hG Try.func64 (sg:=S64) (by kernel_rfl) (by kernel_rfl) (la64 G k) h
 ·cases h
def P66_0h:Pat:={tmps:=unds [.var (.sl 1) .ro,.var (.int .i64) .pr,.var (.int .i64) .pr,.var (.int .i64) .pr,.undef,.undef,.undef,.undef,.var .bool .pr,.var .bool .pr] 124 [],boxes:=nons [] 134 []}
def P66_0r:Pat:={tmps:=unds [] 134 [],boxes:=nons [] 134 []}
def b66_0{R:Type}(G:ORC R)(k:Nat)(X:LV→Int→Int→Int→Bool→Bool→OV R)(Kr:Unit→OV R)(xl5:LV)(xi6 xi7 xi8:Int)(xb9:Bool)(xb10:Bool):OV R:=
 (bif(decide ((IntKind.i64.wrap (xi7-xi6))≤12))then(G 78 [.sl 1 xl5,.int .i64 xi6,.int .i64 xi7] fun o11=>unNil o11 (Kr ()))else(bif(xi8==0)then(G 79 [.sl 1 xl5,.int .i64 xi6,.int .i64 xi7] fun o12=>unNil o12 (Kr ()))else(bif(!xb9)then(G 80 [.sl 1 xl5,.int .i64 xi6,.int .i64 xi7] fun o13=>unNil o13 (G 81 [.sl 1 xl5,.int .i64 xi6,.int .i64 xi7] fun o14=>uI .i64 o14 fun n16 r15=>uI .i64 r15 fun n18 r17=>unNil r17 (bif(n18==2)then(G 82 [.sl 1 xl5,.int .i64 xi6,.int .i64 xi7] fun o19=>unNil o19 (bif xb9 then(bif xb10 then(G 83 [.sl 1 xl5,.int .i64 xi6,.int .i64 xi7] fun o20=>uB o20 fun b22 r21=>unNil r21 (bif b22 then(Kr ())else(bif(decide (xi6>0))then(bif((decide (0≤(IntKind.i64.wrap (xi6-1))))&&(decide ((IntKind.i64.wrap (xi6-1))<(xl5.length:Int))))then(nthK xl5 (Int.toNat (IntKind.i64.wrap (xi6-1))) fun e23=>aI .i64 e23 fun n24=>bif((decide (0≤(IntKind.i64.wrap ((IntKind.i64.wrap (xi7-1))-(IntKind.i64.wrap (n16-xi6))))))&&(decide ((IntKind.i64.wrap ((IntKind.i64.wrap (xi7-1))-(IntKind.i64.wrap (n16-xi6))))<(xl5.length:Int))))then(nthK xl5 (Int.toNat (IntKind.i64.wrap ((IntKind.i64.wrap (xi7-1))-(IntKind.i64.wrap (n16-xi6))))) fun e25=>aI .i64 e25 fun n26=>G 84 [.int .i64 n24,.int .i64 n26] fun o27=>uB o27 fun b29 r28=>unNil r28 (bif(!b29)then(G 85 [.sl 1 xl5,.int .i64 xi6,.int .i64 xi7,.int .i64 (IntKind.i64.wrap ((IntKind.i64.wrap (xi7-1))-(IntKind.i64.wrap (n16-xi6))))] fun o30=>uI .i64 o30 fun n32 r31=>unNil r31 (X xl5 n32 xi7 (IntKind.i64.wrap (xi8-1)) xb9 xb10))else(G 86 [.sl 1 xl5,.int .i64 xi6,.int .i64 xi7,.int .i64 (IntKind.i64.wrap ((IntKind.i64.wrap (xi7-1))-(IntKind.i64.wrap (n16-xi6))))] fun o33=>uI .i64 o33 fun n35 r34=>uB r34 fun b37 r36=>unNil r36 (bif(decide ((IntKind.i64.wrap (n35-xi6))<(IntKind.i64.wrap (xi7-n35))))then(G 66 [.sl 1 xl5,.int .i64 xi6,.int .i64 n35,.int .i64 (IntKind.i64.wrap (xi8-1))] fun o38=>unNil o38 (X xl5 (IntKind.i64.wrap (n35+1)) xi7 (IntKind.i64.wrap (xi8-1)) (decide ((IntKind.i64.wrap (n35-xi6))≥(IntKind.i64.wrap (Int.tdiv (IntKind.i64.wrap (xi7-xi6)) 8)))) b37))else(G 66 [.sl 1 xl5,.int .i64 (IntKind.i64.wrap (n35+1)),.int .i64 xi7,.int .i64 (IntKind.i64.wrap (xi8-1))] fun o39=>unNil o39 (X xl5 xi6 n35 (IntKind.i64.wrap (xi8-1)) (decide ((IntKind.i64.wrap (xi7-n35))≥(IntKind.i64.wrap (Int.tdiv (IntKind.i64.wrap (xi7-xi6)) 8)))) b37))))))else none)else none)else(G 86 [.sl 1 xl5,.int .i64 xi6,.int .i64 xi7,.int .i64 (IntKind.i64.wrap ((IntKind.i64.wrap (xi7-1))-(IntKind.i64.wrap (n16-xi6))))] fun o40=>uI .i64 o40 fun n42 r41=>uB r41 fun b44 r43=>unNil r43 (bif(decide ((IntKind.i64.wrap (n42-xi6))<(IntKind.i64.wrap (xi7-n42))))then(G 66 [.sl 1 xl5,.int .i64 xi6,.int .i64 n42,.int .i64 (IntKind.i64.wrap (xi8-1))] fun o45=>unNil o45 (X xl5 (IntKind.i64.wrap (n42+1)) xi7 (IntKind.i64.wrap (xi8-1)) (decide ((IntKind.i64.wrap (n42-xi6))≥(IntKind.i64.wrap (Int.tdiv (IntKind.i64.wrap (xi7-xi6)) 8)))) b44))else(G 66 [.sl 1 xl5,.int .i64 (IntKind.i64.wrap (n42+1)),.int .i64 xi7,.int .i64 (IntKind.i64.wrap (xi8-1))] fun o46=>unNil o46 (X xl5 xi6 n42 (IntKind.i64.wrap (xi8-1)) (decide ((IntKind.i64.wrap (xi7-n42))≥(IntKind.i64.wrap (Int.tdiv (IntKind.i64.wrap (xi7-xi6)) 8)))) b44)))))))else(bif(decide (xi6>0))then(bif((decide (0≤(IntKind.i64.wrap (xi6-1))))&&(decide ((IntKind.i64.wrap (xi6-1))<(xl5.length:Int))))then(nthK xl5 (Int.toNat (IntKind.i64.wrap (xi6-1))) fun e47=>aI .i64 e47 fun n48=>bif((decide (0≤(IntKind.i64.wrap ((IntKind.i64.wrap (xi7-1))-(IntKind.i64.wrap (n16-xi6))))))&&(decide ((IntKind.i64.wrap ((IntKind.i64.wrap (xi7-1))-(IntKind.i64.wrap (n16-xi6))))<(xl5.length:Int))))then(nthK xl5 (Int.toNat (IntKind.i64.wrap ((IntKind.i64.wrap (xi7-1))-(IntKind.i64.wrap (n16-xi6))))) fun e49=>aI .i64 e49 fun n50=>G 84 [.int .i64 n48,.int .i64 n50] fun o51=>uB o51 fun b53 r52=>unNil r52 (bif(!b53)then(G 85 [.sl 1 xl5,.int .i64 xi6,.int .i64 xi7,.int .i64 (IntKind.i64.wrap ((IntKind.i64.wrap (xi7-1))-(IntKind.i64.wrap (n16-xi6))))] fun o54=>uI .i64 o54 fun n56 r55=>unNil r55 (X xl5 n56 xi7 (IntKind.i64.wrap (xi8-1)) xb9 xb10))else(G 86 [.sl 1 xl5,.int .i64 xi6,.int .i64 xi7,.int .i64 (IntKind.i64.wrap ((IntKind.i64.wrap (xi7-1))-(IntKind.i64.wrap (n16-xi6))))] fun o57=>uI .i64 o57 fun n59 r58=>uB r58 fun b61 r60=>unNil r60 (bif(decide ((IntKind.i64.wrap (n59-xi6))<(IntKind.i64.wrap (xi7-n59))))then(G 66 [.sl 1 xl5,.int .i64 xi6,.int .i64 n59,.int .i64 (IntKind.i64.wrap (xi8-1))] fun o62=>unNil o62 (X xl5 (IntKind.i64.wrap (n59+1)) xi7 (IntKind.i64.wrap (xi8-1)) (decide ((IntKind.i64.wrap (n59-xi6))≥(IntKind.i64.wrap (Int.tdiv (IntKind.i64.wrap (xi7-xi6)) 8)))) b61))else(G 66 [.sl 1 xl5,.int .i64 (IntKind.i64.wrap (n59+1)),.int .i64 xi7,.int .i64 (IntKind.i64.wrap (xi8-1))] fun o63=>unNil o63 (X xl5 xi6 n59 (IntKind.i64.wrap (xi8-1)) (decide ((IntKind.i64.wrap (xi7-n59))≥(IntKind.i64.wrap (Int.tdiv (IntKind.i64.wrap (xi7-xi6)) 8)))) b61))))))else none)else none)else(G 86 [.sl 1 xl5,.int .i64 xi6,.int .i64 xi7,.int .i64 (IntKind.i64.wrap ((IntKind.i64.wrap (xi7-1))-(IntKind.i64.wrap (n16-xi6))))] fun o64=>uI .i64 o64 fun n66 r65=>uB r65 fun b68 r67=>unNil r67 (bif(decide ((IntKind.i64.wrap (n66-xi6))<(IntKind.i64.wrap (xi7-n66))))then(G 66 [.sl 1 xl5,.int .i64 xi6,.int .i64 n66,.int .i64 (IntKind.i64.wrap (xi8-1))] fun o69=>unNil o69 (X xl5 (IntKind.i64.wrap (n66+1)) xi7 (IntKind.i64.wrap (xi8-1)) (decide ((IntKind.i64.wrap (n66-xi6))≥(IntKind.i64.wrap (Int.tdiv (IntKind.i64.wrap (xi7-xi6)) 8)))) b68))else(G 66 [.sl 1 xl5,.int .i64 (IntKind.i64.wrap (n66+1)),.int .i64 xi7,.int .i64 (IntKind.i64.wrap (xi8-1))] fun o70=>unNil o70 (X xl5 xi6 n66 (IntKind.i64.wrap (xi8-1)) (decide ((IntKind.i64.wrap (xi7-n66))≥(IntKind.i64.wrap (Int.tdiv (IntKind.i64.wrap (xi7-xi6)) 8)))) b68))))))else(bif(decide (xi6>0))then(bif((decide (0≤(IntKind.i64.wrap (xi6-1))))&&(decide ((IntKind.i64.wrap (xi6-1))<(xl5.length:Int))))then(nthK xl5 (Int.toNat (IntKind.i64.wrap (xi6-1))) fun e71=>aI .i64 e71 fun n72=>bif((decide (0≤(IntKind.i64.wrap ((IntKind.i64.wrap (xi7-1))-(IntKind.i64.wrap (n16-xi6))))))&&(decide ((IntKind.i64.wrap ((IntKind.i64.wrap (xi7-1))-(IntKind.i64.wrap (n16-xi6))))<(xl5.length:Int))))then(nthK xl5 (Int.toNat (IntKind.i64.wrap ((IntKind.i64.wrap (xi7-1))-(IntKind.i64.wrap (n16-xi6))))) fun e73=>aI .i64 e73 fun n74=>G 84 [.int .i64 n72,.int .i64 n74] fun o75=>uB o75 fun b77 r76=>unNil r76 (bif(!b77)then(G 85 [.sl 1 xl5,.int .i64 xi6,.int .i64 xi7,.int .i64 (IntKind.i64.wrap ((IntKind.i64.wrap (xi7-1))-(IntKind.i64.wrap (n16-xi6))))] fun o78=>uI .i64 o78 fun n80 r79=>unNil r79 (X xl5 n80 xi7 (IntKind.i64.wrap (xi8-1)) xb9 xb10))else(G 86 [.sl 1 xl5,.int .i64 xi6,.int .i64 xi7,.int .i64 (IntKind.i64.wrap ((IntKind.i64.wrap (xi7-1))-(IntKind.i64.wrap (n16-xi6))))] fun o81=>uI .i64 o81 fun n83 r82=>uB r82 fun b85 r84=>unNil r84 (bif(decide ((IntKind.i64.wrap (n83-xi6))<(IntKind.i64.wrap (xi7-n83))))then(G 66 [.sl 1 xl5,.int .i64 xi6,.int .i64 n83,.int .i64 (IntKind.i64.wrap (xi8-1))] fun o86=>unNil o86 (X xl5 (IntKind.i64.wrap (n83+1)) xi7 (IntKind.i64.wrap (xi8-1)) (decide ((IntKind.i64.wrap (n83-xi6))≥(IntKind.i64.wrap (Int.tdiv (IntKind.i64.wrap (xi7-xi6)) 8)))) b85))else(G 66 [.sl 1 xl5,.int .i64 (IntKind.i64.wrap (n83+1)),.int .i64 xi7,.int .i64 (IntKind.i64.wrap (xi8-1))] fun o87=>unNil o87 (X xl5 xi6 n83 (IntKind.i64.wrap (xi8-1)) (decide ((IntKind.i64.wrap (xi7-n83))≥(IntKind.i64.wrap (Int.tdiv (IntKind.i64.wrap (xi7-xi6)) 8)))) b85))))))else none)else none)else(G 86 [.sl 1 xl5,.int .i64 xi6,.int .i64 xi7,.int .i64 (IntKind.i64.wrap ((IntKind.i64.wrap (xi7-1))-(IntKind.i64.wrap (n16-xi6))))] fun o88=>uI .i64 o88 fun n90 r89=>uB r89 fun b92 r91=>unNil r91 (bif(decide ((IntKind.i64.wrap (n90-xi6))<(IntKind.i64.wrap (xi7-n90))))then(G 66 [.sl 1 xl5,.int .i64 xi6,.int .i64 n90,.int .i64 (IntKind.i64.wrap (xi8-1))] fun o93=>unNil o93 (X xl5 (IntKind.i64.wrap (n90+1)) xi7 (IntKind.i64.wrap (xi8-1)) (decide ((IntKind.i64.wrap (n90-xi6))≥(IntKind.i64.wrap (Int.tdiv (IntKind.i64.wrap (xi7-xi6)) 8)))) b92))else(G 66 [.sl 1 xl5,.int .i64 (IntKind.i64.wrap (n90+1)),.int .i64 xi7,.int .i64 (IntKind.i64.wrap (xi8-1))] fun o94=>unNil o94 (X xl5 xi6 n90 (IntKind.i64.wrap (xi8-1)) (decide ((IntKind.i64.wrap (xi7-n90))≥(IntKind.i64.wrap (Int.tdiv (IntKind.i64.wrap (xi7-xi6)) 8)))) b92)))))))else(bif xb9 then(bif xb10 then(bif(n18==1)then(G 83 [.sl 1 xl5,.int .i64 xi6,.int .i64 xi7] fun o95=>uB o95 fun b97 r96=>unNil r96 (bif b97 then(Kr ())else(bif(decide (xi6>0))then(bif((decide (0≤(IntKind.i64.wrap (xi6-1))))&&(decide ((IntKind.i64.wrap (xi6-1))<(xl5.length:Int))))then(nthK xl5 (Int.toNat (IntKind.i64.wrap (xi6-1))) fun e98=>aI .i64 e98 fun n99=>bif((decide (0≤n16))&&(decide (n16<(xl5.length:Int))))then(nthK xl5 (Int.toNat n16) fun e100=>aI .i64 e100 fun n101=>G 84 [.int .i64 n99,.int .i64 n101] fun o102=>uB o102 fun b104 r103=>unNil r103 (bif(!b104)then(G 85 [.sl 1 xl5,.int .i64 xi6,.int .i64 xi7,.int .i64 n16] fun o105=>uI .i64 o105 fun n107 r106=>unNil r106 (X xl5 n107 xi7 (IntKind.i64.wrap (xi8-1)) xb9 xb10))else(G 86 [.sl 1 xl5,.int .i64 xi6,.int .i64 xi7,.int .i64 n16] fun o108=>uI .i64 o108 fun n110 r109=>uB r109 fun b112 r111=>unNil r111 (bif(decide ((IntKind.i64.wrap (n110-xi6))<(IntKind.i64.wrap (xi7-n110))))then(G 66 [.sl 1 xl5,.int .i64 xi6,.int .i64 n110,.int .i64 (IntKind.i64.wrap (xi8-1))] fun o113=>unNil o113 (X xl5 (IntKind.i64.wrap (n110+1)) xi7 (IntKind.i64.wrap (xi8-1)) (decide ((IntKind.i64.wrap (n110-xi6))≥(IntKind.i64.wrap (Int.tdiv (IntKind.i64.wrap (xi7-xi6)) 8)))) b112))else(G 66 [.sl 1 xl5,.int .i64 (IntKind.i64.wrap (n110+1)),.int .i64 xi7,.int .i64 (IntKind.i64.wrap (xi8-1))] fun o114=>unNil o114 (X xl5 xi6 n110 (IntKind.i64.wrap (xi8-1)) (decide ((IntKind.i64.wrap (xi7-n110))≥(IntKind.i64.wrap (Int.tdiv (IntKind.i64.wrap (xi7-xi6)) 8)))) b112))))))else none)else none)else(G 86 [.sl 1 xl5,.int .i64 xi6,.int .i64 xi7,.int .i64 n16] fun o115=>uI .i64 o115 fun n117 r116=>uB r116 fun b119 r118=>unNil r118 (bif(decide ((IntKind.i64.wrap (n117-xi6))<(IntKind.i64.wrap (xi7-n117))))then(G 66 [.sl 1 xl5,.int .i64 xi6,.int .i64 n117,.int .i64 (IntKind.i64.wrap (xi8-1))] fun o120=>unNil o120 (X xl5 (IntKind.i64.wrap (n117+1)) xi7 (IntKind.i64.wrap (xi8-1)) (decide ((IntKind.i64.wrap (n117-xi6))≥(IntKind.i64.wrap (Int.tdiv (IntKind.i64.wrap (xi7-xi6)) 8)))) b119))else(G 66 [.sl 1 xl5,.int .i64 (IntKind.i64.wrap (n117+1)),.int .i64 xi7,.int .i64 (IntKind.i64.wrap (xi8-1))] fun o121=>unNil o121 (X xl5 xi6 n117 (IntKind.i64.wrap (xi8-1)) (decide ((IntKind.i64.wrap (xi7-n117))≥(IntKind.i64.wrap (Int.tdiv (IntKind.i64.wrap (xi7-xi6)) 8)))) b119)))))))else(bif(decide (xi6>0))then(bif((decide (0≤(IntKind.i64.wrap (xi6-1))))&&(decide ((IntKind.i64.wrap (xi6-1))<(xl5.length:Int))))then(nthK xl5 (Int.toNat (IntKind.i64.wrap (xi6-1))) fun e122=>aI .i64 e122 fun n123=>bif((decide (0≤n16))&&(decide (n16<(xl5.length:Int))))then(nthK xl5 (Int.toNat n16) fun e124=>aI .i64 e124 fun n125=>G 84 [.int .i64 n123,.int .i64 n125] fun o126=>uB o126 fun b128 r127=>unNil r127 (bif(!b128)then(G 85 [.sl 1 xl5,.int .i64 xi6,.int .i64 xi7,.int .i64 n16] fun o129=>uI .i64 o129 fun n131 r130=>unNil r130 (X xl5 n131 xi7 (IntKind.i64.wrap (xi8-1)) xb9 xb10))else(G 86 [.sl 1 xl5,.int .i64 xi6,.int .i64 xi7,.int .i64 n16] fun o132=>uI .i64 o132 fun n134 r133=>uB r133 fun b136 r135=>unNil r135 (bif(decide ((IntKind.i64.wrap (n134-xi6))<(IntKind.i64.wrap (xi7-n134))))then(G 66 [.sl 1 xl5,.int .i64 xi6,.int .i64 n134,.int .i64 (IntKind.i64.wrap (xi8-1))] fun o137=>unNil o137 (X xl5 (IntKind.i64.wrap (n134+1)) xi7 (IntKind.i64.wrap (xi8-1)) (decide ((IntKind.i64.wrap (n134-xi6))≥(IntKind.i64.wrap (Int.tdiv (IntKind.i64.wrap (xi7-xi6)) 8)))) b136))else(G 66 [.sl 1 xl5,.int .i64 (IntKind.i64.wrap (n134+1)),.int .i64 xi7,.int .i64 (IntKind.i64.wrap (xi8-1))] fun o138=>unNil o138 (X xl5 xi6 n134 (IntKind.i64.wrap (xi8-1)) (decide ((IntKind.i64.wrap (xi7-n134))≥(IntKind.i64.wrap (Int.tdiv (IntKind.i64.wrap (xi7-xi6)) 8)))) b136))))))else none)else none)else(G 86 [.sl 1 xl5,.int .i64 xi6,.int .i64 xi7,.int .i64 n16] fun o139=>uI .i64 o139 fun n141 r140=>uB r140 fun b143 r142=>unNil r142 (bif(decide ((IntKind.i64.wrap (n141-xi6))<(IntKind.i64.wrap (xi7-n141))))then(G 66 [.sl 1 xl5,.int .i64 xi6,.int .i64 n141,.int .i64 (IntKind.i64.wrap (xi8-1))] fun o144=>unNil o144 (X xl5 (IntKind.i64.wrap (n141+1)) xi7 (IntKind.i64.wrap (xi8-1)) (decide ((IntKind.i64.wrap (n141-xi6))≥(IntKind.i64.wrap (Int.tdiv (IntKind.i64.wrap (xi7-xi6)) 8)))) b143))else(G 66 [.sl 1 xl5,.int .i64 (IntKind.i64.wrap (n141+1)),.int .i64 xi7,.int .i64 (IntKind.i64.wrap (xi8-1))] fun o145=>unNil o145 (X xl5 xi6 n141 (IntKind.i64.wrap (xi8-1)) (decide ((IntKind.i64.wrap (xi7-n141))≥(IntKind.i64.wrap (Int.tdiv (IntKind.i64.wrap (xi7-xi6)) 8)))) b143))))))else(bif(decide (xi6>0))then(bif((decide (0≤(IntKind.i64.wrap (xi6-1))))&&(decide ((IntKind.i64.wrap (xi6-1))<(xl5.length:Int))))then(nthK xl5 (Int.toNat (IntKind.i64.wrap (xi6-1))) fun e146=>aI .i64 e146 fun n147=>bif((decide (0≤n16))&&(decide (n16<(xl5.length:Int))))then(nthK xl5 (Int.toNat n16) fun e148=>aI .i64 e148 fun n149=>G 84 [.int .i64 n147,.int .i64 n149] fun o150=>uB o150 fun b152 r151=>unNil r151 (bif(!b152)then(G 85 [.sl 1 xl5,.int .i64 xi6,.int .i64 xi7,.int .i64 n16] fun o153=>uI .i64 o153 fun n155 r154=>unNil r154 (X xl5 n155 xi7 (IntKind.i64.wrap (xi8-1)) xb9 xb10))else(G 86 [.sl 1 xl5,.int .i64 xi6,.int .i64 xi7,.int .i64 n16] fun o156=>uI .i64 o156 fun n158 r157=>uB r157 fun b160 r159=>unNil r159 (bif(decide ((IntKind.i64.wrap (n158-xi6))<(IntKind.i64.wrap (xi7-n158))))then(G 66 [.sl 1 xl5,.int .i64 xi6,.int .i64 n158,.int .i64 (IntKind.i64.wrap (xi8-1))] fun o161=>unNil o161 (X xl5 (IntKind.i64.wrap (n158+1)) xi7 (IntKind.i64.wrap (xi8-1)) (decide ((IntKind.i64.wrap (n158-xi6))≥(IntKind.i64.wrap (Int.tdiv (IntKind.i64.wrap (xi7-xi6)) 8)))) b160))else(G 66 [.sl 1 xl5,.int .i64 (IntKind.i64.wrap (n158+1)),.int .i64 xi7,.int .i64 (IntKind.i64.wrap (xi8-1))] fun o162=>unNil o162 (X xl5 xi6 n158 (IntKind.i64.wrap (xi8-1)) (decide ((IntKind.i64.wrap (xi7-n158))≥(IntKind.i64.wrap (Int.tdiv (IntKind.i64.wrap (xi7-xi6)) 8)))) b160))))))else none)else none)else(G 86 [.sl 1 xl5,.int .i64 xi6,.int .i64 xi7,.int .i64 n16] fun o163=>uI .i64 o163 fun n165 r164=>uB r164 fun b167 r166=>unNil r166 (bif(decide ((IntKind.i64.wrap (n165-xi6))<(IntKind.i64.wrap (xi7-n165))))then(G 66 [.sl 1 xl5,.int .i64 xi6,.int .i64 n165,.int .i64 (IntKind.i64.wrap (xi8-1))] fun o168=>unNil o168 (X xl5 (IntKind.i64.wrap (n165+1)) xi7 (IntKind.i64.wrap (xi8-1)) (decide ((IntKind.i64.wrap (n165-xi6))≥(IntKind.i64.wrap (Int.tdiv (IntKind.i64.wrap (xi7-xi6)) 8)))) b167))else(G 66 [.sl 1 xl5,.int .i64 (IntKind.i64.wrap (n165+1)),.int .i64 xi7,.int .i64 (IntKind.i64.wrap (xi8-1))] fun o169=>unNil o169 (X xl5 xi6 n165 (IntKind.i64.wrap (xi8-1)) (decide ((IntKind.i64.wrap (xi7-n165))≥(IntKind.i64.wrap (Int.tdiv (IntKind.i64.wrap (xi7-xi6)) 8)))) b167))))))else(bif(decide (xi6>0))then(bif((decide (0≤(IntKind.i64.wrap (xi6-1))))&&(decide ((IntKind.i64.wrap (xi6-1))<(xl5.length:Int))))then(nthK xl5 (Int.toNat (IntKind.i64.wrap (xi6-1))) fun e170=>aI .i64 e170 fun n171=>bif((decide (0≤n16))&&(decide (n16<(xl5.length:Int))))then(nthK xl5 (Int.toNat n16) fun e172=>aI .i64 e172 fun n173=>G 84 [.int .i64 n171,.int .i64 n173] fun o174=>uB o174 fun b176 r175=>unNil r175 (bif(!b176)then(G 85 [.sl 1 xl5,.int .i64 xi6,.int .i64 xi7,.int .i64 n16] fun o177=>uI .i64 o177 fun n179 r178=>unNil r178 (X xl5 n179 xi7 (IntKind.i64.wrap (xi8-1)) xb9 xb10))else(G 86 [.sl 1 xl5,.int .i64 xi6,.int .i64 xi7,.int .i64 n16] fun o180=>uI .i64 o180 fun n182 r181=>uB r181 fun b184 r183=>unNil r183 (bif(decide ((IntKind.i64.wrap (n182-xi6))<(IntKind.i64.wrap (xi7-n182))))then(G 66 [.sl 1 xl5,.int .i64 xi6,.int .i64 n182,.int .i64 (IntKind.i64.wrap (xi8-1))] fun o185=>unNil o185 (X xl5 (IntKind.i64.wrap (n182+1)) xi7 (IntKind.i64.wrap (xi8-1)) (decide ((IntKind.i64.wrap (n182-xi6))≥(IntKind.i64.wrap (Int.tdiv (IntKind.i64.wrap (xi7-xi6)) 8)))) b184))else(G 66 [.sl 1 xl5,.int .i64 (IntKind.i64.wrap (n182+1)),.int .i64 xi7,.int .i64 (IntKind.i64.wrap (xi8-1))] fun o186=>unNil o186 (X xl5 xi6 n182 (IntKind.i64.wrap (xi8-1)) (decide ((IntKind.i64.wrap (xi7-n182))≥(IntKind.i64.wrap (Int.tdiv (IntKind.i64.wrap (xi7-xi6)) 8)))) b184))))))else none)else none)else(G 86 [.sl 1 xl5,.int .i64 xi6,.int .i64 xi7,.int .i64 n16] fun o187=>uI .i64 o187 fun n189 r188=>uB r188 fun b191 r190=>unNil r190 (bif(decide ((IntKind.i64.wrap (n189-xi6))<(IntKind.i64.wrap (xi7-n189))))then(G 66 [.sl 1 xl5,.int .i64 xi6,.int .i64 n189,.int .i64 (IntKind.i64.wrap (xi8-1))] fun o192=>unNil o192 (X xl5 (IntKind.i64.wrap (n189+1)) xi7 (IntKind.i64.wrap (xi8-1)) (decide ((IntKind.i64.wrap (n189-xi6))≥(IntKind.i64.wrap (Int.tdiv (IntKind.i64.wrap (xi7-xi6)) 8)))) b191))else(G 66 [.sl 1 xl5,.int .i64 (IntKind.i64.wrap (n189+1)),.int .i64 xi7,.int .i64 (IntKind.i64.wrap (xi8-1))] fun o193=>unNil o193 (X xl5 xi6 n189 (IntKind.i64.wrap (xi8-1)) (decide ((IntKind.i64.wrap (xi7-n189))≥(IntKind.i64.wrap (Int.tdiv (IntKind.i64.wrap (xi7-xi6)) 8)))) b191)))))))))else(G 81 [.sl 1 xl5,.int .i64 xi6,.int .i64 xi7] fun o194=>uI .i64 o194 fun n196 r195=>uI .i64 r195 fun n198 r197=>unNil r197 (bif(n198==2)then(G 82 [.sl 1 xl5,.int .i64 xi6,.int .i64 xi7] fun o199=>unNil o199 (bif xb9 then(bif xb10 then(G 83 [.sl 1 xl5,.int .i64 xi6,.int .i64 xi7] fun o200=>uB o200 fun b202 r201=>unNil r201 (bif b202 then(Kr ())else(bif(decide (xi6>0))then(bif((decide (0≤(IntKind.i64.wrap (xi6-1))))&&(decide ((IntKind.i64.wrap (xi6-1))<(xl5.length:Int))))then(nthK xl5 (Int.toNat (IntKind.i64.wrap (xi6-1))) fun e203=>aI .i64 e203 fun n204=>bif((decide (0≤(IntKind.i64.wrap ((IntKind.i64.wrap (xi7-1))-(IntKind.i64.wrap (n196-xi6))))))&&(decide ((IntKind.i64.wrap ((IntKind.i64.wrap (xi7-1))-(IntKind.i64.wrap (n196-xi6))))<(xl5.length:Int))))then(nthK xl5 (Int.toNat (IntKind.i64.wrap ((IntKind.i64.wrap (xi7-1))-(IntKind.i64.wrap (n196-xi6))))) fun e205=>aI .i64 e205 fun n206=>G 84 [.int .i64 n204,.int .i64 n206] fun o207=>uB o207 fun b209 r208=>unNil r208 (bif(!b209)then(G 85 [.sl 1 xl5,.int .i64 xi6,.int .i64 xi7,.int .i64 (IntKind.i64.wrap ((IntKind.i64.wrap (xi7-1))-(IntKind.i64.wrap (n196-xi6))))] fun o210=>uI .i64 o210 fun n212 r211=>unNil r211 (X xl5 n212 xi7 xi8 xb9 xb10))else(G 86 [.sl 1 xl5,.int .i64 xi6,.int .i64 xi7,.int .i64 (IntKind.i64.wrap ((IntKind.i64.wrap (xi7-1))-(IntKind.i64.wrap (n196-xi6))))] fun o213=>uI .i64 o213 fun n215 r214=>uB r214 fun b217 r216=>unNil r216 (bif(decide ((IntKind.i64.wrap (n215-xi6))<(IntKind.i64.wrap (xi7-n215))))then(G 66 [.sl 1 xl5,.int .i64 xi6,.int .i64 n215,.int .i64 xi8] fun o218=>unNil o218 (X xl5 (IntKind.i64.wrap (n215+1)) xi7 xi8 (decide ((IntKind.i64.wrap (n215-xi6))≥(IntKind.i64.wrap (Int.tdiv (IntKind.i64.wrap (xi7-xi6)) 8)))) b217))else(G 66 [.sl 1 xl5,.int .i64 (IntKind.i64.wrap (n215+1)),.int .i64 xi7,.int .i64 xi8] fun o219=>unNil o219 (X xl5 xi6 n215 xi8 (decide ((IntKind.i64.wrap (xi7-n215))≥(IntKind.i64.wrap (Int.tdiv (IntKind.i64.wrap (xi7-xi6)) 8)))) b217))))))else none)else none)else(G 86 [.sl 1 xl5,.int .i64 xi6,.int .i64 xi7,.int .i64 (IntKind.i64.wrap ((IntKind.i64.wrap (xi7-1))-(IntKind.i64.wrap (n196-xi6))))] fun o220=>uI .i64 o220 fun n222 r221=>uB r221 fun b224 r223=>unNil r223 (bif(decide ((IntKind.i64.wrap (n222-xi6))<(IntKind.i64.wrap (xi7-n222))))then(G 66 [.sl 1 xl5,.int .i64 xi6,.int .i64 n222,.int .i64 xi8] fun o225=>unNil o225 (X xl5 (IntKind.i64.wrap (n222+1)) xi7 xi8 (decide ((IntKind.i64.wrap (n222-xi6))≥(IntKind.i64.wrap (Int.tdiv (IntKind.i64.wrap (xi7-xi6)) 8)))) b224))else(G 66 [.sl 1 xl5,.int .i64 (IntKind.i64.wrap (n222+1)),.int .i64 xi7,.int .i64 xi8] fun o226=>unNil o226 (X xl5 xi6 n222 xi8 (decide ((IntKind.i64.wrap (xi7-n222))≥(IntKind.i64.wrap (Int.tdiv (IntKind.i64.wrap (xi7-xi6)) 8)))) b224)))))))else(bif(decide (xi6>0))then(bif((decide (0≤(IntKind.i64.wrap (xi6-1))))&&(decide ((IntKind.i64.wrap (xi6-1))<(xl5.length:Int))))then(nthK xl5 (Int.toNat (IntKind.i64.wrap (xi6-1))) fun e227=>aI .i64 e227 fun n228=>bif((decide (0≤(IntKind.i64.wrap ((IntKind.i64.wrap (xi7-1))-(IntKind.i64.wrap (n196-xi6))))))&&(decide ((IntKind.i64.wrap ((IntKind.i64.wrap (xi7-1))-(IntKind.i64.wrap (n196-xi6))))<(xl5.length:Int))))then(nthK xl5 (Int.toNat (IntKind.i64.wrap ((IntKind.i64.wrap (xi7-1))-(IntKind.i64.wrap (n196-xi6))))) fun e229=>aI .i64 e229 fun n230=>G 84 [.int .i64 n228,.int .i64 n230] fun o231=>uB o231 fun b233 r232=>unNil r232 (bif(!b233)then(G 85 [.sl 1 xl5,.int .i64 xi6,.int .i64 xi7,.int .i64 (IntKind.i64.wrap ((IntKind.i64.wrap (xi7-1))-(IntKind.i64.wrap (n196-xi6))))] fun o234=>uI .i64 o234 fun n236 r235=>unNil r235 (X xl5 n236 xi7 xi8 xb9 xb10))else(G 86 [.sl 1 xl5,.int .i64 xi6,.int .i64 xi7,.int .i64 (IntKind.i64.wrap ((IntKind.i64.wrap (xi7-1))-(IntKind.i64.wrap (n196-xi6))))] fun o237=>uI .i64 o237 fun n239 r238=>uB r238 fun b241 r240=>unNil r240 (bif(decide ((IntKind.i64.wrap (n239-xi6))<(IntKind.i64.wrap (xi7-n239))))then(G 66 [.sl 1 xl5,.int .i64 xi6,.int .i64 n239,.int .i64 xi8] fun o242=>unNil o242 (X xl5 (IntKind.i64.wrap (n239+1)) xi7 xi8 (decide ((IntKind.i64.wrap (n239-xi6))≥(IntKind.i64.wrap (Int.tdiv (IntKind.i64.wrap (xi7-xi6)) 8)))) b241))else(G 66 [.sl 1 xl5,.int .i64 (IntKind.i64.wrap (n239+1)),.int .i64 xi7,.int .i64 xi8] fun o243=>unNil o243 (X xl5 xi6 n239 xi8 (decide ((IntKind.i64.wrap (xi7-n239))≥(IntKind.i64.wrap (Int.tdiv (IntKind.i64.wrap (xi7-xi6)) 8)))) b241))))))else none)else none)else(G 86 [.sl 1 xl5,.int .i64 xi6,.int .i64 xi7,.int .i64 (IntKind.i64.wrap ((IntKind.i64.wrap (xi7-1))-(IntKind.i64.wrap (n196-xi6))))] fun o244=>uI .i64 o244 fun n246 r245=>uB r245 fun b248 r247=>unNil r247 (bif(decide ((IntKind.i64.wrap (n246-xi6))<(IntKind.i64.wrap (xi7-n246))))then(G 66 [.sl 1 xl5,.int .i64 xi6,.int .i64 n246,.int .i64 xi8] fun o249=>unNil o249 (X xl5 (IntKind.i64.wrap (n246+1)) xi7 xi8 (decide ((IntKind.i64.wrap (n246-xi6))≥(IntKind.i64.wrap (Int.tdiv (IntKind.i64.wrap (xi7-xi6)) 8)))) b248))else(G 66 [.sl 1 xl5,.int .i64 (IntKind.i64.wrap (n246+1)),.int .i64 xi7,.int .i64 xi8] fun o250=>unNil o250 (X xl5 xi6 n246 xi8 (decide ((IntKind.i64.wrap (xi7-n246))≥(IntKind.i64.wrap (Int.tdiv (IntKind.i64.wrap (xi7-xi6)) 8)))) b248))))))else(bif(decide (xi6>0))then(bif((decide (0≤(IntKind.i64.wrap (xi6-1))))&&(decide ((IntKind.i64.wrap (xi6-1))<(xl5.length:Int))))then(nthK xl5 (Int.toNat (IntKind.i64.wrap (xi6-1))) fun e251=>aI .i64 e251 fun n252=>bif((decide (0≤(IntKind.i64.wrap ((IntKind.i64.wrap (xi7-1))-(IntKind.i64.wrap (n196-xi6))))))&&(decide ((IntKind.i64.wrap ((IntKind.i64.wrap (xi7-1))-(IntKind.i64.wrap (n196-xi6))))<(xl5.length:Int))))then(nthK xl5 (Int.toNat (IntKind.i64.wrap ((IntKind.i64.wrap (xi7-1))-(IntKind.i64.wrap (n196-xi6))))) fun e253=>aI .i64 e253 fun n254=>G 84 [.int .i64 n252,.int .i64 n254] fun o255=>uB o255 fun b257 r256=>unNil r256 (bif(!b257)then(G 85 [.sl 1 xl5,.int .i64 xi6,.int .i64 xi7,.int .i64 (IntKind.i64.wrap ((IntKind.i64.wrap (xi7-1))-(IntKind.i64.wrap (n196-xi6))))] fun o258=>uI .i64 o258 fun n260 r259=>unNil r259 (X xl5 n260 xi7 xi8 xb9 xb10))else(G 86 [.sl 1 xl5,.int .i64 xi6,.int .i64 xi7,.int .i64 (IntKind.i64.wrap ((IntKind.i64.wrap (xi7-1))-(IntKind.i64.wrap (n196-xi6))))] fun o261=>uI .i64 o261 fun n263 r262=>uB r262 fun b265 r264=>unNil r264 (bif(decide ((IntKind.i64.wrap (n263-xi6))<(IntKind.i64.wrap (xi7-n263))))then(G 66 [.sl 1 xl5,.int .i64 xi6,.int .i64 n263,.int .i64 xi8] fun o266=>unNil o266 (X xl5 (IntKind.i64.wrap (n263+1)) xi7 xi8 (decide ((IntKind.i64.wrap (n263-xi6))≥(IntKind.i64.wrap (Int.tdiv (IntKind.i64.wrap (xi7-xi6)) 8)))) b265))else(G 66 [.sl 1 xl5,.int .i64 (IntKind.i64.wrap (n263+1)),.int .i64 xi7,.int .i64 xi8] fun o267=>unNil o267 (X xl5 xi6 n263 xi8 (decide ((IntKind.i64.wrap (xi7-n263))≥(IntKind.i64.wrap (Int.tdiv (IntKind.i64.wrap (xi7-xi6)) 8)))) b265))))))else none)else none)else(G 86 [.sl 1 xl5,.int .i64 xi6,.int .i64 xi7,.int .i64 (IntKind.i64.wrap ((IntKind.i64.wrap (xi7-1))-(IntKind.i64.wrap (n196-xi6))))] fun o268=>uI .i64 o268 fun n270 r269=>uB r269 fun b272 r271=>unNil r271 (bif(decide ((IntKind.i64.wrap (n270-xi6))<(IntKind.i64.wrap (xi7-n270))))then(G 66 [.sl 1 xl5,.int .i64 xi6,.int .i64 n270,.int .i64 xi8] fun o273=>unNil o273 (X xl5 (IntKind.i64.wrap (n270+1)) xi7 xi8 (decide ((IntKind.i64.wrap (n270-xi6))≥(IntKind.i64.wrap (Int.tdiv (IntKind.i64.wrap (xi7-xi6)) 8)))) b272))else(G 66 [.sl 1 xl5,.int .i64 (IntKind.i64.wrap (n270+1)),.int .i64 xi7,.int .i64 xi8] fun o274=>unNil o274 (X xl5 xi6 n270 xi8 (decide ((IntKind.i64.wrap (xi7-n270))≥(IntKind.i64.wrap (Int.tdiv (IntKind.i64.wrap (xi7-xi6)) 8)))) b272)))))))else(bif xb9 then(bif xb10 then(bif(n198==1)then(G 83 [.sl 1 xl5,.int .i64 xi6,.int .i64 xi7] fun o275=>uB o275 fun b277 r276=>unNil r276 (bif b277 then(Kr ())else(bif(decide (xi6>0))then(bif((decide (0≤(IntKind.i64.wrap (xi6-1))))&&(decide ((IntKind.i64.wrap (xi6-1))<(xl5.length:Int))))then(nthK xl5 (Int.toNat (IntKind.i64.wrap (xi6-1))) fun e278=>aI .i64 e278 fun n279=>bif((decide (0≤n196))&&(decide (n196<(xl5.length:Int))))then(nthK xl5 (Int.toNat n196) fun e280=>aI .i64 e280 fun n281=>G 84 [.int .i64 n279,.int .i64 n281] fun o282=>uB o282 fun b284 r283=>unNil r283 (bif(!b284)then(G 85 [.sl 1 xl5,.int .i64 xi6,.int .i64 xi7,.int .i64 n196] fun o285=>uI .i64 o285 fun n287 r286=>unNil r286 (X xl5 n287 xi7 xi8 xb9 xb10))else(G 86 [.sl 1 xl5,.int .i64 xi6,.int .i64 xi7,.int .i64 n196] fun o288=>uI .i64 o288 fun n290 r289=>uB r289 fun b292 r291=>unNil r291 (bif(decide ((IntKind.i64.wrap (n290-xi6))<(IntKind.i64.wrap (xi7-n290))))then(G 66 [.sl 1 xl5,.int .i64 xi6,.int .i64 n290,.int .i64 xi8] fun o293=>unNil o293 (X xl5 (IntKind.i64.wrap (n290+1)) xi7 xi8 (decide ((IntKind.i64.wrap (n290-xi6))≥(IntKind.i64.wrap (Int.tdiv (IntKind.i64.wrap (xi7-xi6)) 8)))) b292))else(G 66 [.sl 1 xl5,.int .i64 (IntKind.i64.wrap (n290+1)),.int .i64 xi7,.int .i64 xi8] fun o294=>unNil o294 (X xl5 xi6 n290 xi8 (decide ((IntKind.i64.wrap (xi7-n290))≥(IntKind.i64.wrap (Int.tdiv (IntKind.i64.wrap (xi7-xi6)) 8)))) b292))))))else none)else none)else(G 86 [.sl 1 xl5,.int .i64 xi6,.int .i64 xi7,.int .i64 n196] fun o295=>uI .i64 o295 fun n297 r296=>uB r296 fun b299 r298=>unNil r298 (bif(decide ((IntKind.i64.wrap (n297-xi6))<(IntKind.i64.wrap (xi7-n297))))then(G 66 [.sl 1 xl5,.int .i64 xi6,.int .i64 n297,.int .i64 xi8] fun o300=>unNil o300 (X xl5 (IntKind.i64.wrap (n297+1)) xi7 xi8 (decide ((IntKind.i64.wrap (n297-xi6))≥(IntKind.i64.wrap (Int.tdiv (IntKind.i64.wrap (xi7-xi6)) 8)))) b299))else(G 66 [.sl 1 xl5,.int .i64 (IntKind.i64.wrap (n297+1)),.int .i64 xi7,.int .i64 xi8] fun o301=>unNil o301 (X xl5 xi6 n297 xi8 (decide ((IntKind.i64.wrap (xi7-n297))≥(IntKind.i64.wrap (Int.tdiv (IntKind.i64.wrap (xi7-xi6)) 8)))) b299)))))))else(bif(decide (xi6>0))then(bif((decide (0≤(IntKind.i64.wrap (xi6-1))))&&(decide ((IntKind.i64.wrap (xi6-1))<(xl5.length:Int))))then(nthK xl5 (Int.toNat (IntKind.i64.wrap (xi6-1))) fun e302=>aI .i64 e302 fun n303=>bif((decide (0≤n196))&&(decide (n196<(xl5.length:Int))))then(nthK xl5 (Int.toNat n196) fun e304=>aI .i64 e304 fun n305=>G 84 [.int .i64 n303,.int .i64 n305] fun o306=>uB o306 fun b308 r307=>unNil r307 (bif(!b308)then(G 85 [.sl 1 xl5,.int .i64 xi6,.int .i64 xi7,.int .i64 n196] fun o309=>uI .i64 o309 fun n311 r310=>unNil r310 (X xl5 n311 xi7 xi8 xb9 xb10))else(G 86 [.sl 1 xl5,.int .i64 xi6,.int .i64 xi7,.int .i64 n196] fun o312=>uI .i64 o312 fun n314 r313=>uB r313 fun b316 r315=>unNil r315 (bif(decide ((IntKind.i64.wrap (n314-xi6))<(IntKind.i64.wrap (xi7-n314))))then(G 66 [.sl 1 xl5,.int .i64 xi6,.int .i64 n314,.int .i64 xi8] fun o317=>unNil o317 (X xl5 (IntKind.i64.wrap (n314+1)) xi7 xi8 (decide ((IntKind.i64.wrap (n314-xi6))≥(IntKind.i64.wrap (Int.tdiv (IntKind.i64.wrap (xi7-xi6)) 8)))) b316))else(G 66 [.sl 1 xl5,.int .i64 (IntKind.i64.wrap (n314+1)),.int .i64 xi7,.int .i64 xi8] fun o318=>unNil o318 (X xl5 xi6 n314 xi8 (decide ((IntKind.i64.wrap (xi7-n314))≥(IntKind.i64.wrap (Int.tdiv (IntKind.i64.wrap (xi7-xi6)) 8)))) b316))))))else none)else none)else(G 86 [.sl 1 xl5,.int .i64 xi6,.int .i64 xi7,.int .i64 n196] fun o319=>uI .i64 o319 fun n321 r320=>uB r320 fun b323 r322=>unNil r322 (bif(decide ((IntKind.i64.wrap (n321-xi6))<(IntKind.i64.wrap (xi7-n321))))then(G 66 [.sl 1 xl5,.int .i64 xi6,.int .i64 n321,.int .i64 xi8] fun o324=>unNil o324 (X xl5 (IntKind.i64.wrap (n321+1)) xi7 xi8 (decide ((IntKind.i64.wrap (n321-xi6))≥(IntKind.i64.wrap (Int.tdiv (IntKind.i64.wrap (xi7-xi6)) 8)))) b323))else(G 66 [.sl 1 xl5,.int .i64 (IntKind.i64.wrap (n321+1)),.int .i64 xi7,.int .i64 xi8] fun o325=>unNil o325 (X xl5 xi6 n321 xi8 (decide ((IntKind.i64.wrap (xi7-n321))≥(IntKind.i64.wrap (Int.tdiv (IntKind.i64.wrap (xi7-xi6)) 8)))) b323))))))else(bif(decide (xi6>0))then(bif((decide (0≤(IntKind.i64.wrap (xi6-1))))&&(decide ((IntKind.i64.wrap (xi6-1))<(xl5.length:Int))))then(nthK xl5 (Int.toNat (IntKind.i64.wrap (xi6-1))) fun e326=>aI .i64 e326 fun n327=>bif((decide (0≤n196))&&(decide (n196<(xl5.length:Int))))then(nthK xl5 (Int.toNat n196) fun e328=>aI .i64 e328 fun n329=>G 84 [.int .i64 n327,.int .i64 n329] fun o330=>uB o330 fun b332 r331=>unNil r331 (bif(!b332)then(G 85 [.sl 1 xl5,.int .i64 xi6,.int .i64 xi7,.int .i64 n196] fun o333=>uI .i64 o333 fun n335 r334=>unNil r334 (X xl5 n335 xi7 xi8 xb9 xb10))else(G 86 [.sl 1 xl5,.int .i64 xi6,.int .i64 xi7,.int .i64 n196] fun o336=>uI .i64 o336 fun n338 r337=>uB r337 fun b340 r339=>unNil r339 (bif(decide ((IntKind.i64.wrap (n338-xi6))<(IntKind.i64.wrap (xi7-n338))))then(G 66 [.sl 1 xl5,.int .i64 xi6,.int .i64 n338,.int .i64 xi8] fun o341=>unNil o341 (X xl5 (IntKind.i64.wrap (n338+1)) xi7 xi8 (decide ((IntKind.i64.wrap (n338-xi6))≥(IntKind.i64.wrap (Int.tdiv (IntKind.i64.wrap (xi7-xi6)) 8)))) b340))else(G 66 [.sl 1 xl5,.int .i64 (IntKind.i64.wrap (n338+1)),.int .i64 xi7,.int .i64 xi8] fun o342=>unNil o342 (X xl5 xi6 n338 xi8 (decide ((IntKind.i64.wrap (xi7-n338))≥(IntKind.i64.wrap (Int.tdiv (IntKind.i64.wrap (xi7-xi6)) 8)))) b340))))))else none)else none)else(G 86 [.sl 1 xl5,.int .i64 xi6,.int .i64 xi7,.int .i64 n196] fun o343=>uI .i64 o343 fun n345 r344=>uB r344 fun b347 r346=>unNil r346 (bif(decide ((IntKind.i64.wrap (n345-xi6))<(IntKind.i64.wrap (xi7-n345))))then(G 66 [.sl 1 xl5,.int .i64 xi6,.int .i64 n345,.int .i64 xi8] fun o348=>unNil o348 (X xl5 (IntKind.i64.wrap (n345+1)) xi7 xi8 (decide ((IntKind.i64.wrap (n345-xi6))≥(IntKind.i64.wrap (Int.tdiv (IntKind.i64.wrap (xi7-xi6)) 8)))) b347))else(G 66 [.sl 1 xl5,.int .i64 (IntKind.i64.wrap (n345+1)),.int .i64 xi7,.int .i64 xi8] fun o349=>unNil o349 (X xl5 xi6 n345 xi8 (decide ((IntKind.i64.wrap (xi7-n345))≥(IntKind.i64.wrap (Int.tdiv (IntKind.i64.wrap (xi7-xi6)) 8)))) b347))))))else(bif(decide (xi6>0))then(bif((decide (0≤(IntKind.i64.wrap (xi6-1))))&&(decide ((IntKind.i64.wrap (xi6-1))<(xl5.length:Int))))then(nthK xl5 (Int.toNat (IntKind.i64.wrap (xi6-1))) fun e350=>aI .i64 e350 fun n351=>bif((decide (0≤n196))&&(decide (n196<(xl5.length:Int))))then(nthK xl5 (Int.toNat n196) fun e352=>aI .i64 e352 fun n353=>G 84 [.int .i64 n351,.int .i64 n353] fun o354=>uB o354 fun b356 r355=>unNil r355 (bif(!b356)then(G 85 [.sl 1 xl5,.int .i64 xi6,.int .i64 xi7,.int .i64 n196] fun o357=>uI .i64 o357 fun n359 r358=>unNil r358 (X xl5 n359 xi7 xi8 xb9 xb10))else(G 86 [.sl 1 xl5,.int .i64 xi6,.int .i64 xi7,.int .i64 n196] fun o360=>uI .i64 o360 fun n362 r361=>uB r361 fun b364 r363=>unNil r363 (bif(decide ((IntKind.i64.wrap (n362-xi6))<(IntKind.i64.wrap (xi7-n362))))then(G 66 [.sl 1 xl5,.int .i64 xi6,.int .i64 n362,.int .i64 xi8] fun o365=>unNil o365 (X xl5 (IntKind.i64.wrap (n362+1)) xi7 xi8 (decide ((IntKind.i64.wrap (n362-xi6))≥(IntKind.i64.wrap (Int.tdiv (IntKind.i64.wrap (xi7-xi6)) 8)))) b364))else(G 66 [.sl 1 xl5,.int .i64 (IntKind.i64.wrap (n362+1)),.int .i64 xi7,.int .i64 xi8] fun o366=>unNil o366 (X xl5 xi6 n362 xi8 (decide ((IntKind.i64.wrap (xi7-n362))≥(IntKind.i64.wrap (Int.tdiv (IntKind.i64.wrap (xi7-xi6)) 8)))) b364))))))else none)else none)else(G 86 [.sl 1 xl5,.int .i64 xi6,.int .i64 xi7,.int .i64 n196] fun o367=>uI .i64 o367 fun n369 r368=>uB r368 fun b371 r370=>unNil r370 (bif(decide ((IntKind.i64.wrap (n369-xi6))<(IntKind.i64.wrap (xi7-n369))))then(G 66 [.sl 1 xl5,.int .i64 xi6,.int .i64 n369,.int .i64 xi8] fun o372=>unNil o372 (X xl5 (IntKind.i64.wrap (n369+1)) xi7 xi8 (decide ((IntKind.i64.wrap (n369-xi6))≥(IntKind.i64.wrap (Int.tdiv (IntKind.i64.wrap (xi7-xi6)) 8)))) b371))else(G 66 [.sl 1 xl5,.int .i64 (IntKind.i64.wrap (n369+1)),.int .i64 xi7,.int .i64 xi8] fun o373=>unNil o373 (X xl5 xi6 n369 xi8 (decide ((IntKind.i64.wrap (xi7-n369))≥(IntKind.i64.wrap (Int.tdiv (IntKind.i64.wrap (xi7-xi6)) 8)))) b371)))))))))))
def l66_0g{R:Type}(G:ORC R)(k:Nat)(Kr:Unit→OV R):Nat→LV→Int→Int→Int→Bool→Bool→OV R
 |0=>fun _ _ _ _ _ _=>none
 |j+1=>b66_0 G k (l66_0g G k Kr j) Kr
def l66_0{R:Type}(G:ORC R)(k:Nat)(xl5:LV)(xi6 xi7 xi8:Int)(xb9:Bool)(xb10:Bool)(Kr:Unit→OV R):OV R:=l66_0g G k Kr k xl5 xi6 xi7 xi8 xb9 xb10
def rd66_0{R:Type}(G:ORC R)(k:Nat)(K:Ex→St→OV R)(j:Nat)(vs:LV):OV R:=match vs with
 | [.sl 1 xl5,.int .i64 xi6,.int .i64 xi7,.int .i64 xi8,.bool xb9,.bool xb10]=>l66_0g G k (fun _=>K .ret (P66_0r.inst [])) j xl5 xi6 xi7 xi8 xb9 xb10
 |_=>none
def L66{R:Type}(G:ORC R)(k:Nat):Nat→St→(Ex→St→OV R)→OV R
 |0,S,K=>P66_0h.mat S fun vs=>rd66_0 G k K k vs
 |_,_,_=>none
def f66{R:Type}(G:ORC R)(k:Nat)(al1:LV)(ai2 ai3 ai4:Int)(K:LV→OV R):OV R:=
 (l66_0 G k al1 ai2 ai3 ai4 true true (fun(_:Unit)=>K []))
noncomputable def D66_0:LoopD:={id:=0,body:=loopAt 0 (bodyOf Try.f66),head:=P66_0h,out:=default,ret:=P66_0r}
theorem l66_0_is{R:Type}(G:ORC R)(k:Nat)(X:LV→OV R)(K:Ex→St→OV R)(xl5:LV)(xi6 xi7 xi8:Int)(xb9:Bool)(xb10:Bool):
 roundOf (TAB.env 66) G (L66 G k) D66_0 X K [.sl 1 xl5,.int .i64 xi6,.int .i64 xi7,.int .i64 xi8,.bool xb9,.bool xb10]=b66_0 G k (fun xl5 xi6 xi7 xi8 xb9 xb10=>X [.sl 1 xl5,.int .i64 xi6,.int .i64 xi7,.int .i64 xi8,.bool xb9,.bool xb10]) (fun _=>K .ret (P66_0r.inst [])) xl5 xi6 xi7 xi8 xb9 xb10:=by kernel_rfl
theorem f66_is{R:Type}(G:ORC R)(k:Nat)(K:LV→OV R)(al1:LV)(ai2 ai3 ai4:Int):
 callF (TAB.env 66) G (L66 G k) Try.f66 S66 [.sl 1 al1,.int .i64 ai2,.int .i64 ai3,.int .i64 ai4] K=f66 G k al1 ai2 ai3 ai4 K:=by kernel_rfl
theorem li66_0{R:Type}(G:ORC R)(k:Nat):LoopIs (TAB.env 66) G (L66 G k) 0 (loopAt 0 (bodyOf Try.f66)):=
 ⟨D66_0,fun j vs K=>rd66_0 G k K j vs,k,rfl,rfl,by kernel_rfl,by kernel_rfl,by kernel_rfl,(fun vs K=>by unfold rd66_0;dsimp only;split<;>rfl),
   (fun j vs K r h=>by
     unfold rd66_0 at h
     dsimp only at h
     split at h
     ·rw[l66_0_is];exact h
     ·cases h),(fun S K r h=>h)⟩
theorem lo66:loopsOf (bodyOf Try.f66)=[(0,loopAt 0 (bodyOf Try.f66))]:=by kernel_rfl
theorem la66{R:Type}(G:ORC R)(k:Nat):LoopsAre (TAB.env 66) G (L66 G k) (bodyOf Try.f66):=
 loopsAre_of (by rw[lo66];intro p hp;simp only[List.mem_cons,List.not_mem_nil,or_false]at hp;subst hp;exact li66_0 G k)
def g66{R:Type}(G:ORC R)(k:Nat)(args:LV)(K:LV→OV R):OV R:=match args with
 | [.sl 1 al1,.int .i64 ai2,.int .i64 ai3,.int .i64 ai4]=>f66 G k al1 ai2 ai3 ai4 K
 |_=>none
theorem s66{R:Type}{G:ORC R}{k:Nat}(hG:Sound Try.prog TAB G)(args:LV)(K:LV→OV R)(r:R)(h:g66 G k args K=some r):∃o,CallOK Try.prog TAB.env 66 args o∧K o=some r:=by
 unfold g66 at h
 split at h
 ·rw[←f66_is]at h
  exact callF_sound (f:=66) TAB_chk MO hG Try.func66 (sg:=S66) (by kernel_rfl) (by kernel_rfl) (la66 G k) h
 ·cases h
def L67{R:Type}(_:ORC R)(_:Nat):Nat→St→(Ex→St→OV R)→OV R:=fun _ _ _=>none
def f67{R:Type}(G:ORC R)(k:Nat)(ai1:Int)(K:LV→OV R):OV R:=
 (G 88 [.int .u64 ai1] fun o2=>uI .i64 o2 fun n4 r3=>unNil r3 (K [.int .i64 n4]))
theorem f67_is{R:Type}(G:ORC R)(k:Nat)(K:LV→OV R)(ai1:Int):
 callF (TAB.env 67) G (L67 G k) Try.f67 S67 [.int .u64 ai1] K=f67 G k ai1 K:=by kernel_rfl
theorem lo67:loopsOf (bodyOf Try.f67)=[]:=by kernel_rfl
theorem la67{R:Type}(G:ORC R)(k:Nat):LoopsAre (TAB.env 67) G (L67 G k) (bodyOf Try.f67):=
 loopsAre_of (by rw[lo67];intro p hp;cases hp)
def g67{R:Type}(G:ORC R)(k:Nat)(args:LV)(K:LV→OV R):OV R:=match args with
 | [.int .u64 ai1]=>f67 G k ai1 K
 |_=>none
theorem s67{R:Type}{G:ORC R}{k:Nat}(hG:Sound Try.prog TAB G)(args:LV)(K:LV→OV R)(r:R)(h:g67 G k args K=some r):∃o,CallOK Try.prog TAB.env 67 args o∧K o=some r:=by
 unfold g67 at h
 split at h
 ·rw[←f67_is]at h
  exact callF_sound (f:=67) TAB_chk MO hG Try.func67 (sg:=S67) (by kernel_rfl) (by kernel_rfl) (la67 G k) h
 ·cases h
def P74_0h:Pat:={tmps:=unds [.stat (.one (.ptr 0 0) .pt),.var (.int .i64) .pr] 8 (unds [.stat (.ref (.b 0 2) 0),.var (.int .i64) .pr,.var (.int .i64) .pr] 15 []),boxes:=nons [some [.var (.sl 7) .ro true,.var (.sl 1) .ro true,.var (.sl 1) (.own true) false,.var (.int .i64) .pr false]] 28 []}
def P74_0x:Pat:={tmps:=unds [] 28 [],boxes:=nons [some [.var (.sl 7) .ro true,.var (.sl 1) .ro true,.var (.sl 1) (.own true) false,.var (.int .i64) .pr false]] 28 []}
def P74_0r:Pat:={tmps:=unds [.undef,.undef,.undef,.undef,.var .bool .pr] 23 [],boxes:=nons [some [.var (.sl 7) .ro true,.var (.sl 1) .ro true,.var (.sl 1) (.own true) false,.var (.int .i64) .pr false]] 28 []}
def b74_0{R:Type}(G:ORC R)(k:Nat)(X:Int→Int→Int→LV→LV→LV→Int→OV R)(Ko:LV→LV→LV→Int→OV R)(Kr:Bool→LV→LV→LV→Int→OV R)(xi6 xi7 xi8:Int)(xl9 xl10 xl11:LV)(xi12:Int):OV R:=
 (bif(decide (xi8<xi7))then(bif((decide (0≤xi8))&&(decide (xi8<(xl11.length:Int))))then(nthK xl11 (Int.toNat xi8) fun e13=>V.asBool e13 fun b14=>bif b14 then(G 64 [.sl 7 xl9,.int .i64 xi8,.int .i64 xi6] fun o15=>uB o15 fun b17 r16=>unNil r16 (bif b17 then(Kr false xl9 xl10 xl11 xi12)else(X xi6 xi7 (IntKind.i64.wrap (xi8+1)) xl9 xl10 xl11 xi12)))else(X xi6 xi7 (IntKind.i64.wrap (xi8+1)) xl9 xl10 xl11 xi12))else none)else(Ko xl9 xl10 xl11 xi12))
def l74_0g{R:Type}(G:ORC R)(k:Nat)(Ko:LV→LV→LV→Int→OV R)(Kr:Bool→LV→LV→LV→Int→OV R):Nat→Int→Int→Int→LV→LV→LV→Int→OV R
 |0=>fun _ _ _ _ _ _ _=>none
 |j+1=>b74_0 G k (l74_0g G k Ko Kr j) Ko Kr
def l74_0{R:Type}(G:ORC R)(k:Nat)(xi6 xi7 xi8:Int)(xl9 xl10 xl11:LV)(xi12:Int)(Ko:LV→LV→LV→Int→OV R)(Kr:Bool→LV→LV→LV→Int→OV R):OV R:=l74_0g G k Ko Kr k xi6 xi7 xi8 xl9 xl10 xl11 xi12
def rd74_0{R:Type}(G:ORC R)(k:Nat)(K:Ex→St→OV R)(j:Nat)(vs:LV):OV R:=match vs with
 | [.int .i64 xi6,.int .i64 xi7,.int .i64 xi8,.sl 7 xl9,.sl 1 xl10,.sl 1 xl11,.int .i64 xi12]=>l74_0g G k (fun yl27 yl28 yl29 yi30=>K .normal (P74_0x.inst [.sl 7 yl27,.sl 1 yl28,.sl 1 yl29,.int .i64 yi30])) (fun yb31 yl32 yl33 yl34 yi35=>K .ret (P74_0r.inst [.bool yb31,.sl 7 yl32,.sl 1 yl33,.sl 1 yl34,.int .i64 yi35])) j xi6 xi7 xi8 xl9 xl10 xl11 xi12
 |_=>none
def L74{R:Type}(G:ORC R)(k:Nat):Nat→St→(Ex→St→OV R)→OV R
 |0,S,K=>P74_0h.mat S fun vs=>rd74_0 G k K k vs
 |_,_,_=>none
def f74{R:Type}(G:ORC R)(k:Nat)(ai1:Int)(bl2 bl3 bl4:LV)(bi5:Int)(K:LV→OV R):OV R:=
 (l74_0 G k ai1 (bl4.length:Int) 0 bl2 bl3 bl4 bi5 (fun yl18 yl19 yl20 yi21=>K [.bool true,.sl 1 yl20,.int .i64 yi21]) (fun yb22 yl23 yl24 yl25 yi26=>K [.bool yb22,.sl 1 yl25,.int .i64 yi26]))
noncomputable def D74_0:LoopD:={id:=0,body:=loopAt 0 (bodyOf Try.f74),head:=P74_0h,out:=P74_0x,ret:=P74_0r}
theorem l74_0_is{R:Type}(G:ORC R)(k:Nat)(X:LV→OV R)(K:Ex→St→OV R)(xi6 xi7 xi8:Int)(xl9 xl10 xl11:LV)(xi12:Int):
 roundOf (TAB.env 74) G (L74 G k) D74_0 X K [.int .i64 xi6,.int .i64 xi7,.int .i64 xi8,.sl 7 xl9,.sl 1 xl10,.sl 1 xl11,.int .i64 xi12]=b74_0 G k (fun xi6 xi7 xi8 xl9 xl10 xl11 xi12=>X [.int .i64 xi6,.int .i64 xi7,.int .i64 xi8,.sl 7 xl9,.sl 1 xl10,.sl 1 xl11,.int .i64 xi12]) (fun yl27 yl28 yl29 yi30=>K .normal (P74_0x.inst [.sl 7 yl27,.sl 1 yl28,.sl 1 yl29,.int .i64 yi30])) (fun yb31 yl32 yl33 yl34 yi35=>K .ret (P74_0r.inst [.bool yb31,.sl 7 yl32,.sl 1 yl33,.sl 1 yl34,.int .i64 yi35])) xi6 xi7 xi8 xl9 xl10 xl11 xi12:=by kernel_rfl
theorem f74_is{R:Type}(G:ORC R)(k:Nat)(K:LV→OV R)(ai1:Int)(bl2 bl3 bl4:LV)(bi5:Int):
 callF (TAB.env 74) G (L74 G k) Try.f74 S74 [.int .i64 ai1,.sl 7 bl2,.sl 1 bl3,.sl 1 bl4,.int .i64 bi5] K=f74 G k ai1 bl2 bl3 bl4 bi5 K:=by kernel_rfl
theorem li74_0{R:Type}(G:ORC R)(k:Nat):LoopIs (TAB.env 74) G (L74 G k) 0 (loopAt 0 (bodyOf Try.f74)):=
 ⟨D74_0,fun j vs K=>rd74_0 G k K j vs,k,rfl,rfl,by kernel_rfl,by kernel_rfl,by kernel_rfl,(fun vs K=>by unfold rd74_0;dsimp only;split<;>rfl),
   (fun j vs K r h=>by
     unfold rd74_0 at h
     dsimp only at h
     split at h
     ·rw[l74_0_is];exact h
     ·cases h),(fun S K r h=>h)⟩
theorem lo74:loopsOf (bodyOf Try.f74)=[(0,loopAt 0 (bodyOf Try.f74))]:=by kernel_rfl
theorem la74{R:Type}(G:ORC R)(k:Nat):LoopsAre (TAB.env 74) G (L74 G k) (bodyOf Try.f74):=
 loopsAre_of (by rw[lo74];intro p hp;simp only[List.mem_cons,List.not_mem_nil,or_false]at hp;subst hp;exact li74_0 G k)
def g74{R:Type}(G:ORC R)(k:Nat)(args:LV)(K:LV→OV R):OV R:=match args with
 | [.int .i64 ai1,.sl 7 bl2,.sl 1 bl3,.sl 1 bl4,.int .i64 bi5]=>f74 G k ai1 bl2 bl3 bl4 bi5 K
 |_=>none
theorem s74{R:Type}{G:ORC R}{k:Nat}(hG:Sound Try.prog TAB G)(args:LV)(K:LV→OV R)(r:R)(h:g74 G k args K=some r):∃o,CallOK Try.prog TAB.env 74 args o∧K o=some r:=by
 unfold g74 at h
 split at h
 ·rw[←f74_is]at h
  exact callF_sound (f:=74) TAB_chk MO hG Try.func74 (sg:=S74) (by kernel_rfl) (by kernel_rfl) (la74 G k) h
 ·cases h
def L76{R:Type}(_:ORC R)(_:Nat):Nat→St→(Ex→St→OV R)→OV R:=fun _ _ _=>none
def f76{R:Type}(G:ORC R)(k:Nat)(ai1:Int)(bl2:LV)(K:LV→OV R):OV R:=
 (bif((decide (0≤ai1))&&(decide (ai1<(bl2.length:Int))))then(nthK bl2 (Int.toNat ai1) fun e3=>V.asAgg e3 fun l4=>G 43 [.agg l4] fun o5=>uB o5 fun b7 r6=>unNil r6 (K [.bool b7]))else none)
theorem f76_is{R:Type}(G:ORC R)(k:Nat)(K:LV→OV R)(ai1:Int)(bl2:LV):
 callF (TAB.env 76) G (L76 G k) Try.f76 S76 [.int .i64 ai1,.sl 7 bl2] K=f76 G k ai1 bl2 K:=by kernel_rfl
theorem lo76:loopsOf (bodyOf Try.f76)=[]:=by kernel_rfl
theorem la76{R:Type}(G:ORC R)(k:Nat):LoopsAre (TAB.env 76) G (L76 G k) (bodyOf Try.f76):=
 loopsAre_of (by rw[lo76];intro p hp;cases hp)
def g76{R:Type}(G:ORC R)(k:Nat)(args:LV)(K:LV→OV R):OV R:=match args with
 | [.int .i64 ai1,.sl 7 bl2]=>f76 G k ai1 bl2 K
 |_=>none
theorem s76{R:Type}{G:ORC R}{k:Nat}(hG:Sound Try.prog TAB G)(args:LV)(K:LV→OV R)(r:R)(h:g76 G k args K=some r):∃o,CallOK Try.prog TAB.env 76 args o∧K o=some r:=by
 unfold g76 at h
 split at h
 ·rw[←f76_is]at h
  exact callF_sound (f:=76) TAB_chk MO hG Try.func76 (sg:=S76) (by kernel_rfl) (by kernel_rfl) (la76 G k) h
 ·cases h
def P78_2h:Pat:={tmps:=unds [.var (.sl 1) .ro,.var (.int .i64) .pr,.var (.int .i64) .pr,.undef,.undef,.undef,.var (.int .i64) .pr,.var (.int .i64) .pr] 41 [],boxes:=nons [] 49 []}
def P78_2x:Pat:={tmps:=unds [.var (.sl 1) .ro,.var (.int .i64) .pr,.var (.int .i64) .pr,.undef,.undef,.undef,.var (.int .i64) .pr] 42 [],boxes:=nons [] 49 []}
def b78_2{R:Type}(G:ORC R)(k:Nat)(X:LV→Int→Int→Int→Int→OV R)(Ko:LV→Int→Int→Int→OV R)(xl8:LV)(xi9 xi10:Int)(xi11 xi12:Int):OV R:=
 (bif(decide (xi12>xi9))then(bif((decide (0≤xi12))&&(decide (xi12<(xl8.length:Int))))then(nthK xl8 (Int.toNat xi12) fun e13=>aI .i64 e13 fun n14=>bif((decide (0≤(IntKind.i64.wrap (xi12-1))))&&(decide ((IntKind.i64.wrap (xi12-1))<(xl8.length:Int))))then(nthK xl8 (Int.toNat (IntKind.i64.wrap (xi12-1))) fun e15=>aI .i64 e15 fun n16=>G 84 [.int .i64 n14,.int .i64 n16] fun o17=>uB o17 fun b19 r18=>unNil r18 (bif b19 then(bif((decide (0≤(IntKind.i64.wrap (xi12-1))))&&(decide ((IntKind.i64.wrap (xi12-1))<(xl8.length:Int))))then(nthK xl8 (Int.toNat (IntKind.i64.wrap (xi12-1))) fun e20=>aI .i64 e20 fun n21=>bif((decide (0≤xi12))&&(decide (xi12<(xl8.length:Int))))then(nthK xl8 (Int.toNat xi12) fun e22=>aI .i64 e22 fun n23=>bif((decide (0≤xi12))&&(decide (xi12<(xl8.length:Int))))then(nthK xl8 (Int.toNat xi12) fun e24=>none)else none)else none)else none)else(Ko xl8 xi9 xi10 xi11)))else none)else none)else(Ko xl8 xi9 xi10 xi11))
def l78_2g{R:Type}(G:ORC R)(k:Nat)(Ko:LV→Int→Int→Int→OV R):Nat→LV→Int→Int→Int→Int→OV R
 |0=>fun _ _ _ _ _=>none
 |j+1=>b78_2 G k (l78_2g G k Ko j) Ko
def l78_2{R:Type}(G:ORC R)(k:Nat)(xl8:LV)(xi9 xi10:Int)(xi11 xi12:Int)(Ko:LV→Int→Int→Int→OV R):OV R:=l78_2g G k Ko k xl8 xi9 xi10 xi11 xi12
def P78_0h:Pat:={tmps:=unds [.var (.sl 1) .ro,.var (.int .i64) .pr,.var (.int .i64) .pr,.undef,.undef,.undef,.var (.int .i64) .pr] 42 [],boxes:=nons [] 49 []}
def P78_0x:Pat:={tmps:=unds [] 49 [],boxes:=nons [] 49 []}
def b78_0{R:Type}(G:ORC R)(k:Nat)(X:LV→Int→Int→Int→OV R)(Ko:Unit→OV R)(xl4:LV)(xi5 xi6 xi7:Int):OV R:=
 (bif(decide (xi7<xi6))then(l78_2 G k xl4 xi5 xi6 xi7 xi7 (fun yl8 yi9 yi10 yi11=>X yl8 yi9 yi10 (IntKind.i64.wrap (yi11+1))))else(Ko ()))
def l78_0g{R:Type}(G:ORC R)(k:Nat)(Ko:Unit→OV R):Nat→LV→Int→Int→Int→OV R
 |0=>fun _ _ _ _=>none
 |j+1=>b78_0 G k (l78_0g G k Ko j) Ko
def l78_0{R:Type}(G:ORC R)(k:Nat)(xl4:LV)(xi5 xi6 xi7:Int)(Ko:Unit→OV R):OV R:=l78_0g G k Ko k xl4 xi5 xi6 xi7
def rd78_2{R:Type}(G:ORC R)(k:Nat)(K:Ex→St→OV R)(j:Nat)(vs:LV):OV R:=match vs with
 | [.sl 1 xl8,.int .i64 xi9,.int .i64 xi10,.int .i64 xi11,.int .i64 xi12]=>l78_2g G k (fun yl12 yi13 yi14 yi15=>K .normal (P78_2x.inst [.sl 1 yl12,.int .i64 yi13,.int .i64 yi14,.int .i64 yi15])) j xl8 xi9 xi10 xi11 xi12
 |_=>none
def rd78_0{R:Type}(G:ORC R)(k:Nat)(K:Ex→St→OV R)(j:Nat)(vs:LV):OV R:=match vs with
 | [.sl 1 xl4,.int .i64 xi5,.int .i64 xi6,.int .i64 xi7]=>l78_0g G k (fun _=>K .normal (P78_0x.inst [])) j xl4 xi5 xi6 xi7
 |_=>none
def L78{R:Type}(G:ORC R)(k:Nat):Nat→St→(Ex→St→OV R)→OV R
 |2,S,K=>P78_2h.mat S fun vs=>rd78_2 G k K k vs
 |0,S,K=>P78_0h.mat S fun vs=>rd78_0 G k K k vs
 |_,_,_=>none
def f78{R:Type}(G:ORC R)(k:Nat)(al1:LV)(ai2 ai3:Int)(K:LV→OV R):OV R:=
 (l78_0 G k al1 ai2 ai3 (IntKind.i64.wrap (ai2+1)) (fun(_:Unit)=>K []))
noncomputable def D78_2:LoopD:={id:=2,body:=loopAt 2 (bodyOf Try.f78),head:=P78_2h,out:=P78_2x,ret:=default}
theorem l78_2_is{R:Type}(G:ORC R)(k:Nat)(X:LV→OV R)(K:Ex→St→OV R)(xl8:LV)(xi9 xi10:Int)(xi11 xi12:Int):
 roundOf (TAB.env 78) G (L78 G k) D78_2 X K [.sl 1 xl8,.int .i64 xi9,.int .i64 xi10,.int .i64 xi11,.int .i64 xi12]=b78_2 G k (fun xl8 xi9 xi10 xi11 xi12=>X [.sl 1 xl8,.int .i64 xi9,.int .i64 xi10,.int .i64 xi11,.int .i64 xi12]) (fun yl12 yi13 yi14 yi15=>K .normal (P78_2x.inst [.sl 1 yl12,.int .i64 yi13,.int .i64 yi14,.int .i64 yi15])) xl8 xi9 xi10 xi11 xi12:=by kernel_rfl
noncomputable def D78_0:LoopD:={id:=0,body:=loopAt 0 (bodyOf Try.f78),head:=P78_0h,out:=P78_0x,ret:=default}
theorem l78_0_is{R:Type}(G:ORC R)(k:Nat)(X:LV→OV R)(K:Ex→St→OV R)(xl4:LV)(xi5 xi6 xi7:Int):
 roundOf (TAB.env 78) G (L78 G k) D78_0 X K [.sl 1 xl4,.int .i64 xi5,.int .i64 xi6,.int .i64 xi7]=b78_0 G k (fun xl4 xi5 xi6 xi7=>X [.sl 1 xl4,.int .i64 xi5,.int .i64 xi6,.int .i64 xi7]) (fun _=>K .normal (P78_0x.inst [])) xl4 xi5 xi6 xi7:=by kernel_rfl
theorem f78_is{R:Type}(G:ORC R)(k:Nat)(K:LV→OV R)(al1:LV)(ai2 ai3:Int):
 callF (TAB.env 78) G (L78 G k) Try.f78 S78 [.sl 1 al1,.int .i64 ai2,.int .i64 ai3] K=f78 G k al1 ai2 ai3 K:=by kernel_rfl
theorem li78_2{R:Type}(G:ORC R)(k:Nat):LoopIs (TAB.env 78) G (L78 G k) 2 (loopAt 2 (bodyOf Try.f78)):=
 ⟨D78_2,fun j vs K=>rd78_2 G k K j vs,k,rfl,rfl,by kernel_rfl,by kernel_rfl,by kernel_rfl,(fun vs K=>by unfold rd78_2;dsimp only;split<;>rfl),
   (fun j vs K r h=>by
     unfold rd78_2 at h
     dsimp only at h
     split at h
     ·rw[l78_2_is];exact h
     ·cases h),(fun S K r h=>h)⟩
theorem li78_0{R:Type}(G:ORC R)(k:Nat):LoopIs (TAB.env 78) G (L78 G k) 0 (loopAt 0 (bodyOf Try.f78)):=
 ⟨D78_0,fun j vs K=>rd78_0 G k K j vs,k,rfl,rfl,by kernel_rfl,by kernel_rfl,by kernel_rfl,(fun vs K=>by unfold rd78_0;dsimp only;split<;>rfl),
   (fun j vs K r h=>by
     unfold rd78_0 at h
     dsimp only at h
     split at h
     ·rw[l78_0_is];exact h
     ·cases h),(fun S K r h=>h)⟩
theorem lo78:loopsOf (bodyOf Try.f78)=[(0,loopAt 0 (bodyOf Try.f78)),(2,loopAt 2 (bodyOf Try.f78))]:=by kernel_rfl
theorem la78{R:Type}(G:ORC R)(k:Nat):LoopsAre (TAB.env 78) G (L78 G k) (bodyOf Try.f78):=
 loopsAre_of (by rw[lo78];intro p hp;simp only[List.mem_cons,List.not_mem_nil,or_false]at hp;rcases hp with rfl|rfl<;>first|exact li78_0 G k|exact li78_2 G k)
def g78{R:Type}(G:ORC R)(k:Nat)(args:LV)(K:LV→OV R):OV R:=match args with
 | [.sl 1 al1,.int .i64 ai2,.int .i64 ai3]=>f78 G k al1 ai2 ai3 K
 |_=>none
theorem s78{R:Type}{G:ORC R}{k:Nat}(hG:Sound Try.prog TAB G)(args:LV)(K:LV→OV R)(r:R)(h:g78 G k args K=some r):∃o,CallOK Try.prog TAB.env 78 args o∧K o=some r:=by
 unfold g78 at h
 split at h
 ·rw[←f78_is]at h
  exact callF_sound (f:=78) TAB_chk MO hG Try.func78 (sg:=S78) (by kernel_rfl) (by kernel_rfl) (la78 G k) h
 ·cases h
def L84{R:Type}(_:ORC R)(_:Nat):Nat→St→(Ex→St→OV R)→OV R:=fun _ _ _=>none
def f84{R:Type}(G:ORC R)(k:Nat)(ai1 ai2:Int)(K:LV→OV R):OV R:=
 (G 95 [.int .i64 ai1] fun o3=>uB o3 fun b5 r4=>unNil r4 (bif b5 then(G 95 [.int .i64 ai2] fun o6=>uB o6 fun b8 r7=>unNil r7 (bif(!b8)then(K [.bool true])else(K [.bool (decide (ai1<ai2))])))else(K [.bool (decide (ai1<ai2))])))
theorem f84_is{R:Type}(G:ORC R)(k:Nat)(K:LV→OV R)(ai1 ai2:Int):
 callF (TAB.env 84) G (L84 G k) Try.f84 S84 [.int .i64 ai1,.int .i64 ai2] K=f84 G k ai1 ai2 K:=by kernel_rfl
theorem lo84:loopsOf (bodyOf Try.f84)=[]:=by kernel_rfl
theorem la84{R:Type}(G:ORC R)(k:Nat):LoopsAre (TAB.env 84) G (L84 G k) (bodyOf Try.f84):=
 loopsAre_of (by rw[lo84];intro p hp;cases hp)
def g84{R:Type}(G:ORC R)(k:Nat)(args:LV)(K:LV→OV R):OV R:=match args with
 | [.int .i64 ai1,.int .i64 ai2]=>f84 G k ai1 ai2 K
 |_=>none
theorem s84{R:Type}{G:ORC R}{k:Nat}(hG:Sound Try.prog TAB G)(args:LV)(K:LV→OV R)(r:R)(h:g84 G k args K=some r):∃o,CallOK Try.prog TAB.env 84 args o∧K o=some r:=by
 unfold g84 at h
 split at h
 ·rw[←f84_is]at h
  exact callF_sound (f:=84) TAB_chk MO hG Try.func84 (sg:=S84) (by kernel_rfl) (by kernel_rfl) (la84 G k) h
 ·cases h
def L88{R:Type}(_:ORC R)(_:Nat):Nat→St→(Ex→St→OV R)→OV R:=fun _ _ _=>none
def f88{R:Type}(G:ORC R)(k:Nat)(ai1:Int)(K:LV→OV R):OV R:=
 (bif(decide (ai1≥4294967296))then(bif(decide ((Int.fdiv ai1 (2^(min 32 IntKind.u64.bits)))≥65536))then(bif(decide ((Int.fdiv (Int.fdiv ai1 (2^(min 32 IntKind.u64.bits))) (2^(min 16 IntKind.u64.bits)))≥256))then(bif((decide (0≤(IntKind.u8.wrap (Int.fdiv (Int.fdiv (Int.fdiv ai1 (2^(min 32 IntKind.u64.bits))) (2^(min 16 IntKind.u64.bits))) (2^(min 8 IntKind.u64.bits))))))&&(decide ((IntKind.u8.wrap (Int.fdiv (Int.fdiv (Int.fdiv ai1 (2^(min 32 IntKind.u64.bits))) (2^(min 16 IntKind.u64.bits))) (2^(min 8 IntKind.u64.bits))))<((ByteArray.size ⟨#[0,1,2,2,3,3,3,3,4,4,4,4,4,4,4,4,5,5,5,5,5,5,5,5,5,5,5,5,5,5,5,5,6,6,6,6,6,6,6,6,6,6,6,6,6,6,6,6,6,6,6,6,6,6,6,6,6,6,6,6,6,6,6,6,7,7,7,7,7,7,7,7,7,7,7,7,7,7,7,7,7,7,7,7,7,7,7,7,7,7,7,7,7,7,7,7,7,7,7,7,7,7,7,7,7,7,7,7,7,7,7,7,7,7,7,7,7,7,7,7,7,7,7,7,7,7,7,7,8,8,8,8,8,8,8,8,8,8,8,8,8,8,8,8,8,8,8,8,8,8,8,8,8,8,8,8,8,8,8,8,8,8,8,8,8,8,8,8,8,8,8,8,8,8,8,8,8,8,8,8,8,8,8,8,8,8,8,8,8,8,8,8,8,8,8,8,8,8,8,8,8,8,8,8,8,8,8,8,8,8,8,8,8,8,8,8,8,8,8,8,8,8,8,8,8,8,8,8,8,8,8,8,8,8,8,8,8,8,8,8,8,8,8,8,8,8,8,8,8,8,8,8,8,8,8,8]⟩:Nat):Int))))then(K [.int .i64 (IntKind.i64.wrap (56+(IntKind.i64.wrap ((List.getD (⟨#[0,1,2,2,3,3,3,3,4,4,4,4,4,4,4,4,5,5,5,5,5,5,5,5,5,5,5,5,5,5,5,5,6,6,6,6,6,6,6,6,6,6,6,6,6,6,6,6,6,6,6,6,6,6,6,6,6,6,6,6,6,6,6,6,7,7,7,7,7,7,7,7,7,7,7,7,7,7,7,7,7,7,7,7,7,7,7,7,7,7,7,7,7,7,7,7,7,7,7,7,7,7,7,7,7,7,7,7,7,7,7,7,7,7,7,7,7,7,7,7,7,7,7,7,7,7,7,7,8,8,8,8,8,8,8,8,8,8,8,8,8,8,8,8,8,8,8,8,8,8,8,8,8,8,8,8,8,8,8,8,8,8,8,8,8,8,8,8,8,8,8,8,8,8,8,8,8,8,8,8,8,8,8,8,8,8,8,8,8,8,8,8,8,8,8,8,8,8,8,8,8,8,8,8,8,8,8,8,8,8,8,8,8,8,8,8,8,8,8,8,8,8,8,8,8,8,8,8,8,8,8,8,8,8,8,8,8,8,8,8,8,8,8,8,8,8,8,8,8,8,8,8,8,8,8,8]⟩:ByteArray).data.toList (Int.toNat (IntKind.u8.wrap (Int.fdiv (Int.fdiv (Int.fdiv ai1 (2^(min 32 IntKind.u64.bits))) (2^(min 16 IntKind.u64.bits))) (2^(min 8 IntKind.u64.bits))))) 0).toNat:Int))))])else none)else(bif((decide (0≤(IntKind.u8.wrap (Int.fdiv (Int.fdiv ai1 (2^(min 32 IntKind.u64.bits))) (2^(min 16 IntKind.u64.bits))))))&&(decide ((IntKind.u8.wrap (Int.fdiv (Int.fdiv ai1 (2^(min 32 IntKind.u64.bits))) (2^(min 16 IntKind.u64.bits))))<((ByteArray.size ⟨#[0,1,2,2,3,3,3,3,4,4,4,4,4,4,4,4,5,5,5,5,5,5,5,5,5,5,5,5,5,5,5,5,6,6,6,6,6,6,6,6,6,6,6,6,6,6,6,6,6,6,6,6,6,6,6,6,6,6,6,6,6,6,6,6,7,7,7,7,7,7,7,7,7,7,7,7,7,7,7,7,7,7,7,7,7,7,7,7,7,7,7,7,7,7,7,7,7,7,7,7,7,7,7,7,7,7,7,7,7,7,7,7,7,7,7,7,7,7,7,7,7,7,7,7,7,7,7,7,8,8,8,8,8,8,8,8,8,8,8,8,8,8,8,8,8,8,8,8,8,8,8,8,8,8,8,8,8,8,8,8,8,8,8,8,8,8,8,8,8,8,8,8,8,8,8,8,8,8,8,8,8,8,8,8,8,8,8,8,8,8,8,8,8,8,8,8,8,8,8,8,8,8,8,8,8,8,8,8,8,8,8,8,8,8,8,8,8,8,8,8,8,8,8,8,8,8,8,8,8,8,8,8,8,8,8,8,8,8,8,8,8,8,8,8,8,8,8,8,8,8,8,8,8,8,8,8]⟩:Nat):Int))))then(K [.int .i64 (IntKind.i64.wrap (48+(IntKind.i64.wrap ((List.getD (⟨#[0,1,2,2,3,3,3,3,4,4,4,4,4,4,4,4,5,5,5,5,5,5,5,5,5,5,5,5,5,5,5,5,6,6,6,6,6,6,6,6,6,6,6,6,6,6,6,6,6,6,6,6,6,6,6,6,6,6,6,6,6,6,6,6,7,7,7,7,7,7,7,7,7,7,7,7,7,7,7,7,7,7,7,7,7,7,7,7,7,7,7,7,7,7,7,7,7,7,7,7,7,7,7,7,7,7,7,7,7,7,7,7,7,7,7,7,7,7,7,7,7,7,7,7,7,7,7,7,8,8,8,8,8,8,8,8,8,8,8,8,8,8,8,8,8,8,8,8,8,8,8,8,8,8,8,8,8,8,8,8,8,8,8,8,8,8,8,8,8,8,8,8,8,8,8,8,8,8,8,8,8,8,8,8,8,8,8,8,8,8,8,8,8,8,8,8,8,8,8,8,8,8,8,8,8,8,8,8,8,8,8,8,8,8,8,8,8,8,8,8,8,8,8,8,8,8,8,8,8,8,8,8,8,8,8,8,8,8,8,8,8,8,8,8,8,8,8,8,8,8,8,8,8,8,8,8]⟩:ByteArray).data.toList (Int.toNat (IntKind.u8.wrap (Int.fdiv (Int.fdiv ai1 (2^(min 32 IntKind.u64.bits))) (2^(min 16 IntKind.u64.bits))))) 0).toNat:Int))))])else none))else(bif(decide ((Int.fdiv ai1 (2^(min 32 IntKind.u64.bits)))≥256))then(bif((decide (0≤(IntKind.u8.wrap (Int.fdiv (Int.fdiv ai1 (2^(min 32 IntKind.u64.bits))) (2^(min 8 IntKind.u64.bits))))))&&(decide ((IntKind.u8.wrap (Int.fdiv (Int.fdiv ai1 (2^(min 32 IntKind.u64.bits))) (2^(min 8 IntKind.u64.bits))))<((ByteArray.size ⟨#[0,1,2,2,3,3,3,3,4,4,4,4,4,4,4,4,5,5,5,5,5,5,5,5,5,5,5,5,5,5,5,5,6,6,6,6,6,6,6,6,6,6,6,6,6,6,6,6,6,6,6,6,6,6,6,6,6,6,6,6,6,6,6,6,7,7,7,7,7,7,7,7,7,7,7,7,7,7,7,7,7,7,7,7,7,7,7,7,7,7,7,7,7,7,7,7,7,7,7,7,7,7,7,7,7,7,7,7,7,7,7,7,7,7,7,7,7,7,7,7,7,7,7,7,7,7,7,7,8,8,8,8,8,8,8,8,8,8,8,8,8,8,8,8,8,8,8,8,8,8,8,8,8,8,8,8,8,8,8,8,8,8,8,8,8,8,8,8,8,8,8,8,8,8,8,8,8,8,8,8,8,8,8,8,8,8,8,8,8,8,8,8,8,8,8,8,8,8,8,8,8,8,8,8,8,8,8,8,8,8,8,8,8,8,8,8,8,8,8,8,8,8,8,8,8,8,8,8,8,8,8,8,8,8,8,8,8,8,8,8,8,8,8,8,8,8,8,8,8,8,8,8,8,8,8,8]⟩:Nat):Int))))then(K [.int .i64 (IntKind.i64.wrap (40+(IntKind.i64.wrap ((List.getD (⟨#[0,1,2,2,3,3,3,3,4,4,4,4,4,4,4,4,5,5,5,5,5,5,5,5,5,5,5,5,5,5,5,5,6,6,6,6,6,6,6,6,6,6,6,6,6,6,6,6,6,6,6,6,6,6,6,6,6,6,6,6,6,6,6,6,7,7,7,7,7,7,7,7,7,7,7,7,7,7,7,7,7,7,7,7,7,7,7,7,7,7,7,7,7,7,7,7,7,7,7,7,7,7,7,7,7,7,7,7,7,7,7,7,7,7,7,7,7,7,7,7,7,7,7,7,7,7,7,7,8,8,8,8,8,8,8,8,8,8,8,8,8,8,8,8,8,8,8,8,8,8,8,8,8,8,8,8,8,8,8,8,8,8,8,8,8,8,8,8,8,8,8,8,8,8,8,8,8,8,8,8,8,8,8,8,8,8,8,8,8,8,8,8,8,8,8,8,8,8,8,8,8,8,8,8,8,8,8,8,8,8,8,8,8,8,8,8,8,8,8,8,8,8,8,8,8,8,8,8,8,8,8,8,8,8,8,8,8,8,8,8,8,8,8,8,8,8,8,8,8,8,8,8,8,8,8,8]⟩:ByteArray).data.toList (Int.toNat (IntKind.u8.wrap (Int.fdiv (Int.fdiv ai1 (2^(min 32 IntKind.u64.bits))) (2^(min 8 IntKind.u64.bits))))) 0).toNat:Int))))])else none)else(bif((decide (0≤(IntKind.u8.wrap (Int.fdiv ai1 (2^(min 32 IntKind.u64.bits))))))&&(decide ((IntKind.u8.wrap (Int.fdiv ai1 (2^(min 32 IntKind.u64.bits))))<((ByteArray.size ⟨#[0,1,2,2,3,3,3,3,4,4,4,4,4,4,4,4,5,5,5,5,5,5,5,5,5,5,5,5,5,5,5,5,6,6,6,6,6,6,6,6,6,6,6,6,6,6,6,6,6,6,6,6,6,6,6,6,6,6,6,6,6,6,6,6,7,7,7,7,7,7,7,7,7,7,7,7,7,7,7,7,7,7,7,7,7,7,7,7,7,7,7,7,7,7,7,7,7,7,7,7,7,7,7,7,7,7,7,7,7,7,7,7,7,7,7,7,7,7,7,7,7,7,7,7,7,7,7,7,8,8,8,8,8,8,8,8,8,8,8,8,8,8,8,8,8,8,8,8,8,8,8,8,8,8,8,8,8,8,8,8,8,8,8,8,8,8,8,8,8,8,8,8,8,8,8,8,8,8,8,8,8,8,8,8,8,8,8,8,8,8,8,8,8,8,8,8,8,8,8,8,8,8,8,8,8,8,8,8,8,8,8,8,8,8,8,8,8,8,8,8,8,8,8,8,8,8,8,8,8,8,8,8,8,8,8,8,8,8,8,8,8,8,8,8,8,8,8,8,8,8,8,8,8,8,8,8]⟩:Nat):Int))))then(K [.int .i64 (IntKind.i64.wrap (32+(IntKind.i64.wrap ((List.getD (⟨#[0,1,2,2,3,3,3,3,4,4,4,4,4,4,4,4,5,5,5,5,5,5,5,5,5,5,5,5,5,5,5,5,6,6,6,6,6,6,6,6,6,6,6,6,6,6,6,6,6,6,6,6,6,6,6,6,6,6,6,6,6,6,6,6,7,7,7,7,7,7,7,7,7,7,7,7,7,7,7,7,7,7,7,7,7,7,7,7,7,7,7,7,7,7,7,7,7,7,7,7,7,7,7,7,7,7,7,7,7,7,7,7,7,7,7,7,7,7,7,7,7,7,7,7,7,7,7,7,8,8,8,8,8,8,8,8,8,8,8,8,8,8,8,8,8,8,8,8,8,8,8,8,8,8,8,8,8,8,8,8,8,8,8,8,8,8,8,8,8,8,8,8,8,8,8,8,8,8,8,8,8,8,8,8,8,8,8,8,8,8,8,8,8,8,8,8,8,8,8,8,8,8,8,8,8,8,8,8,8,8,8,8,8,8,8,8,8,8,8,8,8,8,8,8,8,8,8,8,8,8,8,8,8,8,8,8,8,8,8,8,8,8,8,8,8,8,8,8,8,8,8,8,8,8,8,8]⟩:ByteArray).data.toList (Int.toNat (IntKind.u8.wrap (Int.fdiv ai1 (2^(min 32 IntKind.u64.bits))))) 0).toNat:Int))))])else none)))else(bif(decide (ai1≥65536))then(bif(decide ((Int.fdiv ai1 (2^(min 16 IntKind.u64.bits)))≥256))then(bif((decide (0≤(IntKind.u8.wrap (Int.fdiv (Int.fdiv ai1 (2^(min 16 IntKind.u64.bits))) (2^(min 8 IntKind.u64.bits))))))&&(decide ((IntKind.u8.wrap (Int.fdiv (Int.fdiv ai1 (2^(min 16 IntKind.u64.bits))) (2^(min 8 IntKind.u64.bits))))<((ByteArray.size ⟨#[0,1,2,2,3,3,3,3,4,4,4,4,4,4,4,4,5,5,5,5,5,5,5,5,5,5,5,5,5,5,5,5,6,6,6,6,6,6,6,6,6,6,6,6,6,6,6,6,6,6,6,6,6,6,6,6,6,6,6,6,6,6,6,6,7,7,7,7,7,7,7,7,7,7,7,7,7,7,7,7,7,7,7,7,7,7,7,7,7,7,7,7,7,7,7,7,7,7,7,7,7,7,7,7,7,7,7,7,7,7,7,7,7,7,7,7,7,7,7,7,7,7,7,7,7,7,7,7,8,8,8,8,8,8,8,8,8,8,8,8,8,8,8,8,8,8,8,8,8,8,8,8,8,8,8,8,8,8,8,8,8,8,8,8,8,8,8,8,8,8,8,8,8,8,8,8,8,8,8,8,8,8,8,8,8,8,8,8,8,8,8,8,8,8,8,8,8,8,8,8,8,8,8,8,8,8,8,8,8,8,8,8,8,8,8,8,8,8,8,8,8,8,8,8,8,8,8,8,8,8,8,8,8,8,8,8,8,8,8,8,8,8,8,8,8,8,8,8,8,8,8,8,8,8,8,8]⟩:Nat):Int))))then(K [.int .i64 (IntKind.i64.wrap (24+(IntKind.i64.wrap ((List.getD (⟨#[0,1,2,2,3,3,3,3,4,4,4,4,4,4,4,4,5,5,5,5,5,5,5,5,5,5,5,5,5,5,5,5,6,6,6,6,6,6,6,6,6,6,6,6,6,6,6,6,6,6,6,6,6,6,6,6,6,6,6,6,6,6,6,6,7,7,7,7,7,7,7,7,7,7,7,7,7,7,7,7,7,7,7,7,7,7,7,7,7,7,7,7,7,7,7,7,7,7,7,7,7,7,7,7,7,7,7,7,7,7,7,7,7,7,7,7,7,7,7,7,7,7,7,7,7,7,7,7,8,8,8,8,8,8,8,8,8,8,8,8,8,8,8,8,8,8,8,8,8,8,8,8,8,8,8,8,8,8,8,8,8,8,8,8,8,8,8,8,8,8,8,8,8,8,8,8,8,8,8,8,8,8,8,8,8,8,8,8,8,8,8,8,8,8,8,8,8,8,8,8,8,8,8,8,8,8,8,8,8,8,8,8,8,8,8,8,8,8,8,8,8,8,8,8,8,8,8,8,8,8,8,8,8,8,8,8,8,8,8,8,8,8,8,8,8,8,8,8,8,8,8,8,8,8,8,8]⟩:ByteArray).data.toList (Int.toNat (IntKind.u8.wrap (Int.fdiv (Int.fdiv ai1 (2^(min 16 IntKind.u64.bits))) (2^(min 8 IntKind.u64.bits))))) 0).toNat:Int))))])else none)else(bif((decide (0≤(IntKind.u8.wrap (Int.fdiv ai1 (2^(min 16 IntKind.u64.bits))))))&&(decide ((IntKind.u8.wrap (Int.fdiv ai1 (2^(min 16 IntKind.u64.bits))))<((ByteArray.size ⟨#[0,1,2,2,3,3,3,3,4,4,4,4,4,4,4,4,5,5,5,5,5,5,5,5,5,5,5,5,5,5,5,5,6,6,6,6,6,6,6,6,6,6,6,6,6,6,6,6,6,6,6,6,6,6,6,6,6,6,6,6,6,6,6,6,7,7,7,7,7,7,7,7,7,7,7,7,7,7,7,7,7,7,7,7,7,7,7,7,7,7,7,7,7,7,7,7,7,7,7,7,7,7,7,7,7,7,7,7,7,7,7,7,7,7,7,7,7,7,7,7,7,7,7,7,7,7,7,7,8,8,8,8,8,8,8,8,8,8,8,8,8,8,8,8,8,8,8,8,8,8,8,8,8,8,8,8,8,8,8,8,8,8,8,8,8,8,8,8,8,8,8,8,8,8,8,8,8,8,8,8,8,8,8,8,8,8,8,8,8,8,8,8,8,8,8,8,8,8,8,8,8,8,8,8,8,8,8,8,8,8,8,8,8,8,8,8,8,8,8,8,8,8,8,8,8,8,8,8,8,8,8,8,8,8,8,8,8,8,8,8,8,8,8,8,8,8,8,8,8,8,8,8,8,8,8,8]⟩:Nat):Int))))then(K [.int .i64 (IntKind.i64.wrap (16+(IntKind.i64.wrap ((List.getD (⟨#[0,1,2,2,3,3,3,3,4,4,4,4,4,4,4,4,5,5,5,5,5,5,5,5,5,5,5,5,5,5,5,5,6,6,6,6,6,6,6,6,6,6,6,6,6,6,6,6,6,6,6,6,6,6,6,6,6,6,6,6,6,6,6,6,7,7,7,7,7,7,7,7,7,7,7,7,7,7,7,7,7,7,7,7,7,7,7,7,7,7,7,7,7,7,7,7,7,7,7,7,7,7,7,7,7,7,7,7,7,7,7,7,7,7,7,7,7,7,7,7,7,7,7,7,7,7,7,7,8,8,8,8,8,8,8,8,8,8,8,8,8,8,8,8,8,8,8,8,8,8,8,8,8,8,8,8,8,8,8,8,8,8,8,8,8,8,8,8,8,8,8,8,8,8,8,8,8,8,8,8,8,8,8,8,8,8,8,8,8,8,8,8,8,8,8,8,8,8,8,8,8,8,8,8,8,8,8,8,8,8,8,8,8,8,8,8,8,8,8,8,8,8,8,8,8,8,8,8,8,8,8,8,8,8,8,8,8,8,8,8,8,8,8,8,8,8,8,8,8,8,8,8,8,8,8,8]⟩:ByteArray).data.toList (Int.toNat (IntKind.u8.wrap (Int.fdiv ai1 (2^(min 16 IntKind.u64.bits))))) 0).toNat:Int))))])else none))else(bif(decide (ai1≥256))then(bif((decide (0≤(IntKind.u8.wrap (Int.fdiv ai1 (2^(min 8 IntKind.u64.bits))))))&&(decide ((IntKind.u8.wrap (Int.fdiv ai1 (2^(min 8 IntKind.u64.bits))))<((ByteArray.size ⟨#[0,1,2,2,3,3,3,3,4,4,4,4,4,4,4,4,5,5,5,5,5,5,5,5,5,5,5,5,5,5,5,5,6,6,6,6,6,6,6,6,6,6,6,6,6,6,6,6,6,6,6,6,6,6,6,6,6,6,6,6,6,6,6,6,7,7,7,7,7,7,7,7,7,7,7,7,7,7,7,7,7,7,7,7,7,7,7,7,7,7,7,7,7,7,7,7,7,7,7,7,7,7,7,7,7,7,7,7,7,7,7,7,7,7,7,7,7,7,7,7,7,7,7,7,7,7,7,7,8,8,8,8,8,8,8,8,8,8,8,8,8,8,8,8,8,8,8,8,8,8,8,8,8,8,8,8,8,8,8,8,8,8,8,8,8,8,8,8,8,8,8,8,8,8,8,8,8,8,8,8,8,8,8,8,8,8,8,8,8,8,8,8,8,8,8,8,8,8,8,8,8,8,8,8,8,8,8,8,8,8,8,8,8,8,8,8,8,8,8,8,8,8,8,8,8,8,8,8,8,8,8,8,8,8,8,8,8,8,8,8,8,8,8,8,8,8,8,8,8,8,8,8,8,8,8,8]⟩:Nat):Int))))then(K [.int .i64 (IntKind.i64.wrap (8+(IntKind.i64.wrap ((List.getD (⟨#[0,1,2,2,3,3,3,3,4,4,4,4,4,4,4,4,5,5,5,5,5,5,5,5,5,5,5,5,5,5,5,5,6,6,6,6,6,6,6,6,6,6,6,6,6,6,6,6,6,6,6,6,6,6,6,6,6,6,6,6,6,6,6,6,7,7,7,7,7,7,7,7,7,7,7,7,7,7,7,7,7,7,7,7,7,7,7,7,7,7,7,7,7,7,7,7,7,7,7,7,7,7,7,7,7,7,7,7,7,7,7,7,7,7,7,7,7,7,7,7,7,7,7,7,7,7,7,7,8,8,8,8,8,8,8,8,8,8,8,8,8,8,8,8,8,8,8,8,8,8,8,8,8,8,8,8,8,8,8,8,8,8,8,8,8,8,8,8,8,8,8,8,8,8,8,8,8,8,8,8,8,8,8,8,8,8,8,8,8,8,8,8,8,8,8,8,8,8,8,8,8,8,8,8,8,8,8,8,8,8,8,8,8,8,8,8,8,8,8,8,8,8,8,8,8,8,8,8,8,8,8,8,8,8,8,8,8,8,8,8,8,8,8,8,8,8,8,8,8,8,8,8,8,8,8,8]⟩:ByteArray).data.toList (Int.toNat (IntKind.u8.wrap (Int.fdiv ai1 (2^(min 8 IntKind.u64.bits))))) 0).toNat:Int))))])else none)else(bif((decide (0≤(IntKind.u8.wrap ai1)))&&(decide ((IntKind.u8.wrap ai1)<((ByteArray.size ⟨#[0,1,2,2,3,3,3,3,4,4,4,4,4,4,4,4,5,5,5,5,5,5,5,5,5,5,5,5,5,5,5,5,6,6,6,6,6,6,6,6,6,6,6,6,6,6,6,6,6,6,6,6,6,6,6,6,6,6,6,6,6,6,6,6,7,7,7,7,7,7,7,7,7,7,7,7,7,7,7,7,7,7,7,7,7,7,7,7,7,7,7,7,7,7,7,7,7,7,7,7,7,7,7,7,7,7,7,7,7,7,7,7,7,7,7,7,7,7,7,7,7,7,7,7,7,7,7,7,8,8,8,8,8,8,8,8,8,8,8,8,8,8,8,8,8,8,8,8,8,8,8,8,8,8,8,8,8,8,8,8,8,8,8,8,8,8,8,8,8,8,8,8,8,8,8,8,8,8,8,8,8,8,8,8,8,8,8,8,8,8,8,8,8,8,8,8,8,8,8,8,8,8,8,8,8,8,8,8,8,8,8,8,8,8,8,8,8,8,8,8,8,8,8,8,8,8,8,8,8,8,8,8,8,8,8,8,8,8,8,8,8,8,8,8,8,8,8,8,8,8,8,8,8,8,8,8]⟩:Nat):Int))))then(K [.int .i64 (IntKind.i64.wrap (0+(IntKind.i64.wrap ((List.getD (⟨#[0,1,2,2,3,3,3,3,4,4,4,4,4,4,4,4,5,5,5,5,5,5,5,5,5,5,5,5,5,5,5,5,6,6,6,6,6,6,6,6,6,6,6,6,6,6,6,6,6,6,6,6,6,6,6,6,6,6,6,6,6,6,6,6,7,7,7,7,7,7,7,7,7,7,7,7,7,7,7,7,7,7,7,7,7,7,7,7,7,7,7,7,7,7,7,7,7,7,7,7,7,7,7,7,7,7,7,7,7,7,7,7,7,7,7,7,7,7,7,7,7,7,7,7,7,7,7,7,8,8,8,8,8,8,8,8,8,8,8,8,8,8,8,8,8,8,8,8,8,8,8,8,8,8,8,8,8,8,8,8,8,8,8,8,8,8,8,8,8,8,8,8,8,8,8,8,8,8,8,8,8,8,8,8,8,8,8,8,8,8,8,8,8,8,8,8,8,8,8,8,8,8,8,8,8,8,8,8,8,8,8,8,8,8,8,8,8,8,8,8,8,8,8,8,8,8,8,8,8,8,8,8,8,8,8,8,8,8,8,8,8,8,8,8,8,8,8,8,8,8,8,8,8,8,8,8]⟩:ByteArray).data.toList (Int.toNat (IntKind.u8.wrap ai1)) 0).toNat:Int))))])else none))))
theorem f88_is{R:Type}(G:ORC R)(k:Nat)(K:LV→OV R)(ai1:Int):
 callF (TAB.env 88) G (L88 G k) Try.f88 S88 [.int .u64 ai1] K=f88 G k ai1 K:=by kernel_rfl
theorem lo88:loopsOf (bodyOf Try.f88)=[]:=by kernel_rfl
theorem la88{R:Type}(G:ORC R)(k:Nat):LoopsAre (TAB.env 88) G (L88 G k) (bodyOf Try.f88):=
 loopsAre_of (by rw[lo88];intro p hp;cases hp)
def g88{R:Type}(G:ORC R)(k:Nat)(args:LV)(K:LV→OV R):OV R:=match args with
 | [.int .u64 ai1]=>f88 G k ai1 K
 |_=>none
theorem s88{R:Type}{G:ORC R}{k:Nat}(hG:Sound Try.prog TAB G)(args:LV)(K:LV→OV R)(r:R)(h:g88 G k args K=some r):∃o,CallOK Try.prog TAB.env 88 args o∧K o=some r:=by
 unfold g88 at h
 split at h
 ·rw[←f88_is]at h
  exact callF_sound (f:=88) TAB_chk MO hG Try.func88 (sg:=S88) (by kernel_rfl) (by kernel_rfl) (la88 G k) h
 ·cases h
def L95{R:Type}(_:ORC R)(_:Nat):Nat→St→(Ex→St→OV R)→OV R:=fun _ _ _=>none
def f95{R:Type}(G:ORC R)(k:Nat)(ai1:Int)(K:LV→OV R):OV R:=
 (K [.bool (ai1 !=ai1)])
theorem f95_is{R:Type}(G:ORC R)(k:Nat)(K:LV→OV R)(ai1:Int):
 callF (TAB.env 95) G (L95 G k) Try.f95 S95 [.int .i64 ai1] K=f95 G k ai1 K:=by kernel_rfl
theorem lo95:loopsOf (bodyOf Try.f95)=[]:=by kernel_rfl
theorem la95{R:Type}(G:ORC R)(k:Nat):LoopsAre (TAB.env 95) G (L95 G k) (bodyOf Try.f95):=
 loopsAre_of (by rw[lo95];intro p hp;cases hp)
def g95{R:Type}(G:ORC R)(k:Nat)(args:LV)(K:LV→OV R):OV R:=match args with
 | [.int .i64 ai1]=>f95 G k ai1 K
 |_=>none
theorem s95{R:Type}{G:ORC R}{k:Nat}(hG:Sound Try.prog TAB G)(args:LV)(K:LV→OV R)(r:R)(h:g95 G k args K=some r):∃o,CallOK Try.prog TAB.env 95 args o∧K o=some r:=by
 unfold g95 at h
 split at h
 ·rw[←f95_is]at h
  exact callF_sound (f:=95) TAB_chk MO hG Try.func95 (sg:=S95) (by kernel_rfl) (by kernel_rfl) (la95 G k) h
 ·cases h
def L65583{R:Type}(_:ORC R)(_:Nat):Nat→St→(Ex→St→OV R)→OV R:=fun _ _ _=>none
def f65583{R:Type}(G:ORC R)(k:Nat)(al1 bl2:LV)(bi3:Int)(K:LV→OV R):OV R:=
 (G 65601 [.sl 1 al1,.sl 7 bl2,.int .i64 bi3] fun o4=>uI .i64 o4 fun n6 r5=>uI .i64 r5 fun n8 r7=>unNil r7 (K [.bool (decide (n6≥0)),.int .i64 n8]))
theorem f65583_is{R:Type}(G:ORC R)(k:Nat)(K:LV→OV R)(al1 bl2:LV)(bi3:Int):
 callF (TAB.env 65583) G (L65583 G k) Try.f47 S65583 [.sl 1 al1,.sl 7 bl2,.int .i64 bi3] K=f65583 G k al1 bl2 bi3 K:=by kernel_rfl
theorem lo65583:loopsOf (bodyOf Try.f47)=[]:=by kernel_rfl
theorem la65583{R:Type}(G:ORC R)(k:Nat):LoopsAre (TAB.env 65583) G (L65583 G k) (bodyOf Try.f47):=
 loopsAre_of (by rw[lo65583];intro p hp;cases hp)
def g65583{R:Type}(G:ORC R)(k:Nat)(args:LV)(K:LV→OV R):OV R:=match args with
 | [.sl 1 al1,.sl 7 bl2,.int .i64 bi3]=>f65583 G k al1 bl2 bi3 K
 |_=>none
theorem s65583{R:Type}{G:ORC R}{k:Nat}(hG:Sound Try.prog TAB G)(args:LV)(K:LV→OV R)(r:R)(h:g65583 G k args K=some r):∃o,CallOK Try.prog TAB.env 65583 args o∧K o=some r:=by
 unfold g65583 at h
 split at h
 ·rw[←f65583_is]at h
  exact callF_sound (f:=65583) TAB_chk MO hG Try.func47 (sg:=S65583) (by kernel_rfl) (by kernel_rfl) (la65583 G k) h
 ·cases h
def P65601_0h:Pat:={tmps:=unds [.var (.sl 1) .ro,.stat (.one (.fn 48 [.ptr 0 0,.ptr 1 0]) .pt)] 5 (unds [.var (.int .i64) .pr,.var (.int .i64) .pr] 10 []),boxes:=nons [some [.var (.sl 7) .ro true],some [.var (.int .i64) .pr false]] 19 []}
def P65601_0x:Pat:={tmps:=unds [] 19 [],boxes:=nons [some [.var (.sl 7) .ro true],some [.var (.int .i64) .pr false]] 19 []}
def P65601_0r:Pat:={tmps:=unds [.undef,.undef,.undef,.undef,.var (.int .i64) .pr] 14 [],boxes:=nons [some [.var (.sl 7) .ro true],some [.var (.int .i64) .pr false]] 19 []}
def b65601_0{R:Type}(G:ORC R)(k:Nat)(X:LV→Int→Int→LV→Int→OV R)(Ko:LV→Int→OV R)(Kr:Int→LV→Int→OV R)(xl4:LV)(xi5 xi6:Int)(xl7:LV)(xi8:Int):OV R:=
 (bif(decide (xi6<xi5))then(bif((decide (0≤xi6))&&(decide (xi6<(xl4.length:Int))))then(nthK xl4 (Int.toNat xi6) fun e9=>aI .i64 e9 fun n10=>G 48 [.int .i64 n10,.sl 7 xl7,.int .i64 xi8] fun o11=>uB o11 fun b13 r12=>uI .i64 r12 fun n15 r14=>unNil r14 (bif b13 then(Kr xi6 xl7 n15)else(X xl4 xi5 (IntKind.i64.wrap (xi6+1)) xl7 n15)))else none)else(Ko xl7 xi8))
def l65601_0g{R:Type}(G:ORC R)(k:Nat)(Ko:LV→Int→OV R)(Kr:Int→LV→Int→OV R):Nat→LV→Int→Int→LV→Int→OV R
 |0=>fun _ _ _ _ _=>none
 |j+1=>b65601_0 G k (l65601_0g G k Ko Kr j) Ko Kr
def l65601_0{R:Type}(G:ORC R)(k:Nat)(xl4:LV)(xi5 xi6:Int)(xl7:LV)(xi8:Int)(Ko:LV→Int→OV R)(Kr:Int→LV→Int→OV R):OV R:=l65601_0g G k Ko Kr k xl4 xi5 xi6 xl7 xi8
def rd65601_0{R:Type}(G:ORC R)(k:Nat)(K:Ex→St→OV R)(j:Nat)(vs:LV):OV R:=match vs with
 | [.sl 1 xl4,.int .i64 xi5,.int .i64 xi6,.sl 7 xl7,.int .i64 xi8]=>l65601_0g G k (fun yl21 yi22=>K .normal (P65601_0x.inst [.sl 7 yl21,.int .i64 yi22])) (fun yi23 yl24 yi25=>K .ret (P65601_0r.inst [.int .i64 yi23,.sl 7 yl24,.int .i64 yi25])) j xl4 xi5 xi6 xl7 xi8
 |_=>none
def L65601{R:Type}(G:ORC R)(k:Nat):Nat→St→(Ex→St→OV R)→OV R
 |0,S,K=>P65601_0h.mat S fun vs=>rd65601_0 G k K k vs
 |_,_,_=>none
def f65601{R:Type}(G:ORC R)(k:Nat)(al1 bl2:LV)(bi3:Int)(K:LV→OV R):OV R:=
 (l65601_0 G k al1 (al1.length:Int) 0 bl2 bi3 (fun yl16 yi17=>K [.int .i64 (-1),.int .i64 yi17]) (fun yi18 yl19 yi20=>K [.int .i64 yi18,.int .i64 yi20]))
noncomputable def D65601_0:LoopD:={id:=0,body:=loopAt 0 (bodyOf Try.f65),head:=P65601_0h,out:=P65601_0x,ret:=P65601_0r}
theorem l65601_0_is{R:Type}(G:ORC R)(k:Nat)(X:LV→OV R)(K:Ex→St→OV R)(xl4:LV)(xi5 xi6:Int)(xl7:LV)(xi8:Int):
 roundOf (TAB.env 65601) G (L65601 G k) D65601_0 X K [.sl 1 xl4,.int .i64 xi5,.int .i64 xi6,.sl 7 xl7,.int .i64 xi8]=b65601_0 G k (fun xl4 xi5 xi6 xl7 xi8=>X [.sl 1 xl4,.int .i64 xi5,.int .i64 xi6,.sl 7 xl7,.int .i64 xi8]) (fun yl21 yi22=>K .normal (P65601_0x.inst [.sl 7 yl21,.int .i64 yi22])) (fun yi23 yl24 yi25=>K .ret (P65601_0r.inst [.int .i64 yi23,.sl 7 yl24,.int .i64 yi25])) xl4 xi5 xi6 xl7 xi8:=by kernel_rfl
theorem f65601_is{R:Type}(G:ORC R)(k:Nat)(K:LV→OV R)(al1 bl2:LV)(bi3:Int):
 callF (TAB.env 65601) G (L65601 G k) Try.f65 S65601 [.sl 1 al1,.sl 7 bl2,.int .i64 bi3] K=f65601 G k al1 bl2 bi3 K:=by kernel_rfl
theorem li65601_0{R:Type}(G:ORC R)(k:Nat):LoopIs (TAB.env 65601) G (L65601 G k) 0 (loopAt 0 (bodyOf Try.f65)):=
 ⟨D65601_0,fun j vs K=>rd65601_0 G k K j vs,k,rfl,rfl,by kernel_rfl,by kernel_rfl,by kernel_rfl,(fun vs K=>by unfold rd65601_0;dsimp only;split<;>rfl),
   (fun j vs K r h=>by
     unfold rd65601_0 at h
     dsimp only at h
     split at h
     ·rw[l65601_0_is];exact h
     ·cases h),(fun S K r h=>h)⟩
theorem lo65601:loopsOf (bodyOf Try.f65)=[(0,loopAt 0 (bodyOf Try.f65))]:=by kernel_rfl
theorem la65601{R:Type}(G:ORC R)(k:Nat):LoopsAre (TAB.env 65601) G (L65601 G k) (bodyOf Try.f65):=
 loopsAre_of (by rw[lo65601];intro p hp;simp only[List.mem_cons,List.not_mem_nil,or_false]at hp;subst hp;exact li65601_0 G k)
def g65601{R:Type}(G:ORC R)(k:Nat)(args:LV)(K:LV→OV R):OV R:=match args with
 | [.sl 1 al1,.sl 7 bl2,.int .i64 bi3]=>f65601 G k al1 bl2 bi3 K
 |_=>none
theorem s65601{R:Type}{G:ORC R}{k:Nat}(hG:Sound Try.prog TAB G)(args:LV)(K:LV→OV R)(r:R)(h:g65601 G k args K=some r):∃o,CallOK Try.prog TAB.env 65601 args o∧K o=some r:=by
 unfold g65601 at h
 split at h
 ·rw[←f65601_is]at h
  exact callF_sound (f:=65601) TAB_chk MO hG Try.func65 (sg:=S65601) (by kernel_rfl) (by kernel_rfl) (la65601 G k) h
 ·cases h
def P65611_0h:Pat:={tmps:=unds [.var (.sl 1) (.own true),.stat (.one (.fn 76 [.ptr 0 0]) .pt),.undef,.undef,.undef,.var (.int .i64) .pr,.var (.int .i64) .pr] 35 [],boxes:=nons [some [.var (.sl 7) .ro true]] 42 []}
def P65611_0x:Pat:={tmps:=unds [.var (.sl 1) (.own true),.undef,.undef,.undef,.undef,.var (.int .i64) .pr] 36 [],boxes:=nons [some [.var (.sl 7) .ro true]] 42 []}
def b65611_0{R:Type}(G:ORC R)(k:Nat)(X:LV→Int→Int→LV→OV R)(Ko:LV→Int→LV→OV R)(xl6:LV)(xi7 xi8:Int)(xl9:LV):OV R:=
 (bif(decide (xi8<(xl6.length:Int)))then(bif((decide (0≤xi8))&&(decide (xi8<(xl6.length:Int))))then(nthK xl6 (Int.toNat xi8) fun e10=>aI .i64 e10 fun n11=>G 76 [.int .i64 n11,.sl 7 xl9] fun o12=>uB o12 fun b14 r13=>unNil r13 (bif(!b14)then(bif((decide (0≤xi7))&&(decide (xi7<(xl6.length:Int))))then(nthK xl6 (Int.toNat xi7) fun e15=>X (List.set xl6 (Int.toNat xi7) (.int .i64 n11)) (IntKind.i64.wrap (xi7+1)) (IntKind.i64.wrap (xi8+1)) xl9)else none)else(X xl6 xi7 (IntKind.i64.wrap (xi8+1)) xl9)))else none)else(Ko xl6 xi7 xl9))
def l65611_0g{R:Type}(G:ORC R)(k:Nat)(Ko:LV→Int→LV→OV R):Nat→LV→Int→Int→LV→OV R
 |0=>fun _ _ _ _=>none
 |j+1=>b65611_0 G k (l65611_0g G k Ko j) Ko
def l65611_0{R:Type}(G:ORC R)(k:Nat)(xl6:LV)(xi7 xi8:Int)(xl9:LV)(Ko:LV→Int→LV→OV R):OV R:=l65611_0g G k Ko k xl6 xi7 xi8 xl9
def rd65611_0{R:Type}(G:ORC R)(k:Nat)(K:Ex→St→OV R)(j:Nat)(vs:LV):OV R:=match vs with
 | [.sl 1 xl6,.int .i64 xi7,.int .i64 xi8,.sl 7 xl9]=>l65611_0g G k (fun yl19 yi20 yl21=>K .normal (P65611_0x.inst [.sl 1 yl19,.int .i64 yi20,.sl 7 yl21])) j xl6 xi7 xi8 xl9
 |_=>none
def L65611{R:Type}(G:ORC R)(k:Nat):Nat→St→(Ex→St→OV R)→OV R
 |0,S,K=>P65611_0h.mat S fun vs=>rd65611_0 G k K k vs
 |_,_,_=>none
def f65611{R:Type}(G:ORC R)(k:Nat)(al1 bl2:LV)(K:LV→OV R):OV R:=
 (G 131137 [.sl 1 al1,.sl 7 bl2] fun o3=>uI .i64 o3 fun n5 r4=>unNil r4 (bif(n5==(-1))then(K [.sl 1 al1])else(l65611_0 G k al1 n5 (IntKind.i64.wrap (n5+1)) bl2 (fun yl16 yi17 yl18=>bif((decide (0≤yi17))&&(decide (yi17<(yl16.length:Int))))then(bif(decide ((Int.toNat yi17)≤(List.length yl16)))then(bif((decide (0≤yi17))&&(decide (yi17≤((List.length ((List.take (Int.toNat yi17) yl16)++(List.replicate ((List.length yl16)-(Int.toNat yi17)) (V.int .i64 0))):Nat):Int))))then(K [.sl 1 (List.take (Int.toNat yi17) ((List.take (Int.toNat yi17) yl16)++(List.replicate ((List.length yl16)-(Int.toNat yi17)) (V.int .i64 0))))])else none)else none)else none))))
noncomputable def D65611_0:LoopD:={id:=0,body:=loopAt 0 (bodyOf Try.f75),head:=P65611_0h,out:=P65611_0x,ret:=default}
theorem l65611_0_is{R:Type}(G:ORC R)(k:Nat)(X:LV→OV R)(K:Ex→St→OV R)(xl6:LV)(xi7 xi8:Int)(xl9:LV):
 roundOf (TAB.env 65611) G (L65611 G k) D65611_0 X K [.sl 1 xl6,.int .i64 xi7,.int .i64 xi8,.sl 7 xl9]=b65611_0 G k (fun xl6 xi7 xi8 xl9=>X [.sl 1 xl6,.int .i64 xi7,.int .i64 xi8,.sl 7 xl9]) (fun yl19 yi20 yl21=>K .normal (P65611_0x.inst [.sl 1 yl19,.int .i64 yi20,.sl 7 yl21])) xl6 xi7 xi8 xl9:=by kernel_rfl
theorem f65611_is{R:Type}(G:ORC R)(k:Nat)(K:LV→OV R)(al1 bl2:LV):
 callF (TAB.env 65611) G (L65611 G k) Try.f75 S65611 [.sl 1 al1,.sl 7 bl2] K=f65611 G k al1 bl2 K:=by kernel_rfl
theorem li65611_0{R:Type}(G:ORC R)(k:Nat):LoopIs (TAB.env 65611) G (L65611 G k) 0 (loopAt 0 (bodyOf Try.f75)):=
 ⟨D65611_0,fun j vs K=>rd65611_0 G k K j vs,k,rfl,rfl,by kernel_rfl,by kernel_rfl,by kernel_rfl,(fun vs K=>by unfold rd65611_0;dsimp only;split<;>rfl),
   (fun j vs K r h=>by
     unfold rd65611_0 at h
     dsimp only at h
     split at h
     ·rw[l65611_0_is];exact h
     ·cases h),(fun S K r h=>h)⟩
theorem lo65611:loopsOf (bodyOf Try.f75)=[(0,loopAt 0 (bodyOf Try.f75))]:=by kernel_rfl
theorem la65611{R:Type}(G:ORC R)(k:Nat):LoopsAre (TAB.env 65611) G (L65611 G k) (bodyOf Try.f75):=
 loopsAre_of (by rw[lo65611];intro p hp;simp only[List.mem_cons,List.not_mem_nil,or_false]at hp;subst hp;exact li65611_0 G k)
def g65611{R:Type}(G:ORC R)(k:Nat)(args:LV)(K:LV→OV R):OV R:=match args with
 | [.sl 1 al1,.sl 7 bl2]=>f65611 G k al1 bl2 K
 |_=>none
theorem s65611{R:Type}{G:ORC R}{k:Nat}(hG:Sound Try.prog TAB G)(args:LV)(K:LV→OV R)(r:R)(h:g65611 G k args K=some r):∃o,CallOK Try.prog TAB.env 65611 args o∧K o=some r:=by
 unfold g65611 at h
 split at h
 ·rw[←f65611_is]at h
  exact callF_sound (f:=65611) TAB_chk MO hG Try.func75 (sg:=S65611) (by kernel_rfl) (by kernel_rfl) (la65611 G k) h
 ·cases h
def P131137_0h:Pat:={tmps:=unds [.var (.sl 1) .ro,.stat (.one (.fn 76 [.ptr 0 0]) .pt)] 5 (unds [.var (.int .i64) .pr,.var (.int .i64) .pr] 10 []),boxes:=nons [some [.var (.sl 7) .ro true]] 19 []}
def P131137_0x:Pat:={tmps:=unds [] 19 [],boxes:=nons [some [.var (.sl 7) .ro true]] 19 []}
def P131137_0r:Pat:={tmps:=unds [.undef,.undef,.undef,.undef,.var (.int .i64) .pr] 14 [],boxes:=nons [some [.var (.sl 7) .ro true]] 19 []}
def b131137_0{R:Type}(G:ORC R)(k:Nat)(X:LV→Int→Int→LV→OV R)(Ko:LV→OV R)(Kr:Int→LV→OV R)(xl3:LV)(xi4 xi5:Int)(xl6:LV):OV R:=
 (bif(decide (xi5<xi4))then(bif((decide (0≤xi5))&&(decide (xi5<(xl3.length:Int))))then(nthK xl3 (Int.toNat xi5) fun e7=>aI .i64 e7 fun n8=>G 76 [.int .i64 n8,.sl 7 xl6] fun o9=>uB o9 fun b11 r10=>unNil r10 (bif b11 then(Kr xi5 xl6)else(X xl3 xi4 (IntKind.i64.wrap (xi5+1)) xl6)))else none)else(Ko xl6))
def l131137_0g{R:Type}(G:ORC R)(k:Nat)(Ko:LV→OV R)(Kr:Int→LV→OV R):Nat→LV→Int→Int→LV→OV R
 |0=>fun _ _ _ _=>none
 |j+1=>b131137_0 G k (l131137_0g G k Ko Kr j) Ko Kr
def l131137_0{R:Type}(G:ORC R)(k:Nat)(xl3:LV)(xi4 xi5:Int)(xl6:LV)(Ko:LV→OV R)(Kr:Int→LV→OV R):OV R:=l131137_0g G k Ko Kr k xl3 xi4 xi5 xl6
def rd131137_0{R:Type}(G:ORC R)(k:Nat)(K:Ex→St→OV R)(j:Nat)(vs:LV):OV R:=match vs with
 | [.sl 1 xl3,.int .i64 xi4,.int .i64 xi5,.sl 7 xl6]=>l131137_0g G k (fun yl15=>K .normal (P131137_0x.inst [.sl 7 yl15])) (fun yi16 yl17=>K .ret (P131137_0r.inst [.int .i64 yi16,.sl 7 yl17])) j xl3 xi4 xi5 xl6
 |_=>none
def L131137{R:Type}(G:ORC R)(k:Nat):Nat→St→(Ex→St→OV R)→OV R
 |0,S,K=>P131137_0h.mat S fun vs=>rd131137_0 G k K k vs
 |_,_,_=>none
def f131137{R:Type}(G:ORC R)(k:Nat)(al1 bl2:LV)(K:LV→OV R):OV R:=
 (l131137_0 G k al1 (al1.length:Int) 0 bl2 (fun yl12=>K [.int .i64 (-1)]) (fun yi13 yl14=>K [.int .i64 yi13]))
noncomputable def D131137_0:LoopD:={id:=0,body:=loopAt 0 (bodyOf Try.f65),head:=P131137_0h,out:=P131137_0x,ret:=P131137_0r}
theorem l131137_0_is{R:Type}(G:ORC R)(k:Nat)(X:LV→OV R)(K:Ex→St→OV R)(xl3:LV)(xi4 xi5:Int)(xl6:LV):
 roundOf (TAB.env 131137) G (L131137 G k) D131137_0 X K [.sl 1 xl3,.int .i64 xi4,.int .i64 xi5,.sl 7 xl6]=b131137_0 G k (fun xl3 xi4 xi5 xl6=>X [.sl 1 xl3,.int .i64 xi4,.int .i64 xi5,.sl 7 xl6]) (fun yl15=>K .normal (P131137_0x.inst [.sl 7 yl15])) (fun yi16 yl17=>K .ret (P131137_0r.inst [.int .i64 yi16,.sl 7 yl17])) xl3 xi4 xi5 xl6:=by kernel_rfl
theorem f131137_is{R:Type}(G:ORC R)(k:Nat)(K:LV→OV R)(al1 bl2:LV):
 callF (TAB.env 131137) G (L131137 G k) Try.f65 S131137 [.sl 1 al1,.sl 7 bl2] K=f131137 G k al1 bl2 K:=by kernel_rfl
theorem li131137_0{R:Type}(G:ORC R)(k:Nat):LoopIs (TAB.env 131137) G (L131137 G k) 0 (loopAt 0 (bodyOf Try.f65)):=
 ⟨D131137_0,fun j vs K=>rd131137_0 G k K j vs,k,rfl,rfl,by kernel_rfl,by kernel_rfl,by kernel_rfl,(fun vs K=>by unfold rd131137_0;dsimp only;split<;>rfl),
   (fun j vs K r h=>by
     unfold rd131137_0 at h
     dsimp only at h
     split at h
     ·rw[l131137_0_is];exact h
     ·cases h),(fun S K r h=>h)⟩
theorem lo131137:loopsOf (bodyOf Try.f65)=[(0,loopAt 0 (bodyOf Try.f65))]:=by kernel_rfl
theorem la131137{R:Type}(G:ORC R)(k:Nat):LoopsAre (TAB.env 131137) G (L131137 G k) (bodyOf Try.f65):=
 loopsAre_of (by rw[lo131137];intro p hp;simp only[List.mem_cons,List.not_mem_nil,or_false]at hp;subst hp;exact li131137_0 G k)
def g131137{R:Type}(G:ORC R)(k:Nat)(args:LV)(K:LV→OV R):OV R:=match args with
 | [.sl 1 al1,.sl 7 bl2]=>f131137 G k al1 bl2 K
 |_=>none
theorem s131137{R:Type}{G:ORC R}{k:Nat}(hG:Sound Try.prog TAB G)(args:LV)(K:LV→OV R)(r:R)(h:g131137 G k args K=some r):∃o,CallOK Try.prog TAB.env 131137 args o∧K o=some r:=by
 unfold g131137 at h
 split at h
 ·rw[←f131137_is]at h
  exact callF_sound (f:=131137) TAB_chk MO hG Try.func65 (sg:=S131137) (by kernel_rfl) (by kernel_rfl) (la131137 G k) h
 ·cases h
def L44{R:Type}(_:ORC R)(_:Nat):Nat→St→(Ex→St→OV R)→OV R:=fun _ _ _=>none
def f44{R:Type}(G:ORC R)(k:Nat)(al1:LV)(ai2:Int)(K:LV→OV R):OV R:=
 (G 63 [.sl 1 al1,.int .i64 ai2] fun o3=>uI .i64 o3 fun n5 r4=>unNil r4 (K [.bool (decide (n5≥0))]))
theorem f44_is{R:Type}(G:ORC R)(k:Nat)(K:LV→OV R)(al1:LV)(ai2:Int):
 callF (TAB.env 44) G (L44 G k) Try.f44 S44 [.sl 1 al1,.int .i64 ai2] K=f44 G k al1 ai2 K:=by kernel_rfl
theorem lo44:loopsOf (bodyOf Try.f44)=[]:=by kernel_rfl
theorem la44{R:Type}(G:ORC R)(k:Nat):LoopsAre (TAB.env 44) G (L44 G k) (bodyOf Try.f44):=
 loopsAre_of (by rw[lo44];intro p hp;cases hp)
def g44{R:Type}(G:ORC R)(k:Nat)(args:LV)(K:LV→OV R):OV R:=match args with
 | [.sl 1 al1,.int .i64 ai2]=>f44 G k al1 ai2 K
 |_=>none
theorem s44{R:Type}{G:ORC R}{k:Nat}(hG:Sound Try.prog TAB G)(args:LV)(K:LV→OV R)(r:R)(h:g44 G k args K=some r):∃o,CallOK Try.prog TAB.env 44 args o∧K o=some r:=by
 unfold g44 at h
 split at h
 ·rw[←f44_is]at h
  exact callF_sound (f:=44) TAB_chk MO hG Try.func44 (sg:=S44) (by kernel_rfl) (by kernel_rfl) (la44 G k) h
 ·cases h
def P9_2h:Pat:={tmps:=unds [.var (.sl 7) .ro,.var (.sl 1) .ro,.var (.sl 1) .ro,.var (.sl 1) .ro] 5 (unds [.var (.sl 1) (.own true),.var (.int .i64) .pr,.var (.int .i64) .pr,.var (.int .i64) .pr] 100 []),boxes:=nons [] 113 []}
def P9_2x:Pat:={tmps:=unds [.var (.sl 7) .ro,.var (.sl 1) .ro,.var (.sl 1) .ro,.var (.sl 1) .ro] 5 (unds [.var (.sl 1) (.own true),.var (.int .i64) .pr] 102 []),boxes:=nons [] 113 []}
def b9_2{R:Type}(G:ORC R)(k:Nat)(X:LV→LV→LV→LV→LV→Int→Int→Int→OV R)(Ko:LV→LV→LV→LV→LV→Int→OV R)(xl32 xl33:LV)(xl34 xl35 xl36:LV)(xi37 xi38 xi39:Int):OV R:=
 (bif(decide (xi39<(xl33.length:Int)))then(bif((decide (0≤xi39))&&(decide (xi39<(xl33.length:Int))))then(nthK xl33 (Int.toNat xi39) fun e40=>aI .i64 e40 fun n41=>bif((decide (0≤xi37))&&(decide (xi37<(xl32.length:Int))))then(nthK xl32 (Int.toNat xi37) fun e42=>ca7 e42 fun c43 c44 c45 c46 c47 c48 c49=>aI .i64 c43 fun n50=>bif(n50==4)then(bif((decide (0≤n41))&&(decide (n41<(xl32.length:Int))))then(nthK xl32 (Int.toNat n41) fun e51=>ca7 e51 fun c52 c53 c54 c55 c56 c57 c58=>aI .i64 c53 fun n59=>bif(n59==xi38)then(bif((decide (0≤xi37))&&(decide (xi37<(xl36.length:Int))))then(nthK xl36 (Int.toNat xi37) fun e60=>V.asSl e60 fun z61 l62=>bif(z61==1)then(bif(decide (List.length l62+1≤1073741824))then(bif((decide (0≤xi37))&&(decide (xi37<((List.length (List.set xl36 (Int.toNat xi37) .undef):Nat):Int))))then(nthK (List.set xl36 (Int.toNat xi37) .undef) (Int.toNat xi37) fun e63=>X xl32 xl33 xl34 xl35 (List.set (List.set xl36 (Int.toNat xi37) .undef) (Int.toNat xi37) (.sl 1 (l62++[.int .i64 n41]))) xi37 xi38 (IntKind.i64.wrap (xi39+1)))else none)else none)else none)else none)else(bif((decide (0≤xi37))&&(decide (xi37<(xl32.length:Int))))then(nthK xl32 (Int.toNat xi37) fun e64=>ca7 e64 fun c65 c66 c67 c68 c69 c70 c71=>aI .i64 c65 fun n72=>bif(n72==5)then(bif((decide (0≤n41))&&(decide (n41<(xl32.length:Int))))then(nthK xl32 (Int.toNat n41) fun e73=>ca7 e73 fun c74 c75 c76 c77 c78 c79 c80=>aI .i64 c74 fun n81=>bif(n81==1)then(bif(n41 !=xi38)then(G 29 [.sl 7 xl32,.int .i64 n41,.int .i64 xi38] fun o82=>uB o82 fun b84 r83=>unNil r83 (bif b84 then(bif((decide (0≤xi37))&&(decide (xi37<(xl36.length:Int))))then(nthK xl36 (Int.toNat xi37) fun e85=>V.asSl e85 fun z86 l87=>bif(z86==1)then(bif(decide (List.length l87+1≤1073741824))then(bif((decide (0≤xi37))&&(decide (xi37<((List.length (List.set xl36 (Int.toNat xi37) .undef):Nat):Int))))then(nthK (List.set xl36 (Int.toNat xi37) .undef) (Int.toNat xi37) fun e88=>X xl32 xl33 xl34 xl35 (List.set (List.set xl36 (Int.toNat xi37) .undef) (Int.toNat xi37) (.sl 1 (l87++[.int .i64 n41]))) xi37 xi38 (IntKind.i64.wrap (xi39+1)))else none)else none)else none)else none)else(X xl32 xl33 xl34 xl35 xl36 xi37 xi38 (IntKind.i64.wrap (xi39+1)))))else(X xl32 xl33 xl34 xl35 xl36 xi37 xi38 (IntKind.i64.wrap (xi39+1))))else(X xl32 xl33 xl34 xl35 xl36 xi37 xi38 (IntKind.i64.wrap (xi39+1))))else none)else(X xl32 xl33 xl34 xl35 xl36 xi37 xi38 (IntKind.i64.wrap (xi39+1))))else none))else none)else(bif((decide (0≤xi37))&&(decide (xi37<(xl32.length:Int))))then(nthK xl32 (Int.toNat xi37) fun e89=>ca7 e89 fun c90 c91 c92 c93 c94 c95 c96=>aI .i64 c90 fun n97=>bif(n97==5)then(bif((decide (0≤n41))&&(decide (n41<(xl32.length:Int))))then(nthK xl32 (Int.toNat n41) fun e98=>ca7 e98 fun c99 c100 c101 c102 c103 c104 c105=>aI .i64 c99 fun n106=>bif(n106==1)then(bif(n41 !=xi38)then(G 29 [.sl 7 xl32,.int .i64 n41,.int .i64 xi38] fun o107=>uB o107 fun b109 r108=>unNil r108 (bif b109 then(bif((decide (0≤xi37))&&(decide (xi37<(xl36.length:Int))))then(nthK xl36 (Int.toNat xi37) fun e110=>V.asSl e110 fun z111 l112=>bif(z111==1)then(bif(decide (List.length l112+1≤1073741824))then(bif((decide (0≤xi37))&&(decide (xi37<((List.length (List.set xl36 (Int.toNat xi37) .undef):Nat):Int))))then(nthK (List.set xl36 (Int.toNat xi37) .undef) (Int.toNat xi37) fun e113=>X xl32 xl33 xl34 xl35 (List.set (List.set xl36 (Int.toNat xi37) .undef) (Int.toNat xi37) (.sl 1 (l112++[.int .i64 n41]))) xi37 xi38 (IntKind.i64.wrap (xi39+1)))else none)else none)else none)else none)else(X xl32 xl33 xl34 xl35 xl36 xi37 xi38 (IntKind.i64.wrap (xi39+1)))))else(X xl32 xl33 xl34 xl35 xl36 xi37 xi38 (IntKind.i64.wrap (xi39+1))))else(X xl32 xl33 xl34 xl35 xl36 xi37 xi38 (IntKind.i64.wrap (xi39+1))))else none)else(X xl32 xl33 xl34 xl35 xl36 xi37 xi38 (IntKind.i64.wrap (xi39+1))))else none))else none)else none)else(Ko xl32 xl33 xl34 xl35 xl36 xi37))
def l9_2g{R:Type}(G:ORC R)(k:Nat)(Ko:LV→LV→LV→LV→LV→Int→OV R):Nat→LV→LV→LV→LV→LV→Int→Int→Int→OV R
 |0=>fun _ _ _ _ _ _ _ _=>none
 |j+1=>b9_2 G k (l9_2g G k Ko j) Ko
def l9_2{R:Type}(G:ORC R)(k:Nat)(xl32 xl33:LV)(xl34 xl35 xl36:LV)(xi37 xi38 xi39:Int)(Ko:LV→LV→LV→LV→LV→Int→OV R):OV R:=l9_2g G k Ko k xl32 xl33 xl34 xl35 xl36 xi37 xi38 xi39
def P9_0h:Pat:={tmps:=unds [.var (.sl 7) .ro,.var (.sl 1) .ro,.var (.sl 1) .ro,.var (.sl 1) .ro] 5 (unds [.var (.sl 1) (.own true),.var (.int .i64) .pr] 102 []),boxes:=nons [] 113 []}
def P9_0x:Pat:={tmps:=unds [] 9 (unds [.var (.sl 1) (.own true)] 103 []),boxes:=nons [] 113 []}
def b9_0{R:Type}(G:ORC R)(k:Nat)(X:LV→LV→LV→LV→LV→Int→OV R)(Ko:LV→OV R)(xl5 xl6:LV)(xl7 xl8 xl9:LV)(xi10:Int):OV R:=
 (bif(decide (xi10<(xl5.length:Int)))then(bif((decide (0≤xi10))&&(decide (xi10<(xl5.length:Int))))then(nthK xl5 (Int.toNat xi10) fun e11=>V.asAgg e11 fun l12=>G 27 [.agg l12] fun o13=>uB o13 fun b15 r14=>unNil r14 (bif b15 then(X xl5 xl6 xl7 xl8 xl9 (IntKind.i64.wrap (xi10+1)))else(bif((decide (0≤xi10))&&(decide (xi10<(xl5.length:Int))))then(nthK xl5 (Int.toNat xi10) fun e16=>ca7 e16 fun c17 c18 c19 c20 c21 c22 c23=>aI .i64 c18 fun n24=>G 28 [.sl 1 xl7,.int .i64 n24] fun o25=>uB o25 fun b27 r26=>unNil r26 (bif(!b27)then(bif(decide (xi10<(xl8.length:Int)))then(bif((decide (0≤xi10))&&(decide (xi10<(xl8.length:Int))))then(nthK xl8 (Int.toNat xi10) fun e28=>V.asSl e28 fun z29 l30=>bif((((z29==1)&&true)&&true)&&(decide (0+List.length l30≤1073741824)))then(bif(flats l30)then(bif((decide (0≤xi10))&&(decide (xi10<(xl9.length:Int))))then(nthK xl9 (Int.toNat xi10) fun e31=>X xl5 xl6 xl7 xl8 (List.set xl9 (Int.toNat xi10) (.sl 1 ([]++l30))) (IntKind.i64.wrap (xi10+1)))else none)else none)else none)else none)else(X xl5 xl6 xl7 xl8 xl9 (IntKind.i64.wrap (xi10+1))))else(l9_2 G k xl5 xl6 xl7 xl8 xl9 xi10 n24 0 (fun yl32 yl33 yl34 yl35 yl36 yi37=>X yl32 yl33 yl34 yl35 yl36 (IntKind.i64.wrap (yi37+1))))))else none)))else none)else(Ko xl9))
def l9_0g{R:Type}(G:ORC R)(k:Nat)(Ko:LV→OV R):Nat→LV→LV→LV→LV→LV→Int→OV R
 |0=>fun _ _ _ _ _ _=>none
 |j+1=>b9_0 G k (l9_0g G k Ko j) Ko
def l9_0{R:Type}(G:ORC R)(k:Nat)(xl5 xl6:LV)(xl7 xl8 xl9:LV)(xi10:Int)(Ko:LV→OV R):OV R:=l9_0g G k Ko k xl5 xl6 xl7 xl8 xl9 xi10
def rd9_2{R:Type}(G:ORC R)(k:Nat)(K:Ex→St→OV R)(j:Nat)(vs:LV):OV R:=match vs with
 | [.sl 7 xl32,.sl 1 xl33,.sl 1 xl34,.sl 1 xl35,.sl 1 xl36,.int .i64 xi37,.int .i64 xi38,.int .i64 xi39]=>l9_2g G k (fun yl39 yl40 yl41 yl42 yl43 yi44=>K .normal (P9_2x.inst [.sl 7 yl39,.sl 1 yl40,.sl 1 yl41,.sl 1 yl42,.sl 1 yl43,.int .i64 yi44])) j xl32 xl33 xl34 xl35 xl36 xi37 xi38 xi39
 |_=>none
def rd9_0{R:Type}(G:ORC R)(k:Nat)(K:Ex→St→OV R)(j:Nat)(vs:LV):OV R:=match vs with
 | [.sl 7 xl5,.sl 1 xl6,.sl 1 xl7,.sl 1 xl8,.sl 1 xl9,.int .i64 xi10]=>l9_0g G k (fun yl45=>K .normal (P9_0x.inst [.sl 1 yl45])) j xl5 xl6 xl7 xl8 xl9 xi10
 |_=>none
def L9{R:Type}(G:ORC R)(k:Nat):Nat→St→(Ex→St→OV R)→OV R
 |2,S,K=>P9_2h.mat S fun vs=>rd9_2 G k K k vs
 |0,S,K=>P9_0h.mat S fun vs=>rd9_0 G k K k vs
 |_,_,_=>none
def f9{R:Type}(G:ORC R)(k:Nat)(al1 al2:LV)(al3 al4:LV)(K:LV→OV R):OV R:=
 (bif(((decide (0≤(al1.length:Int)))&&(decide ((al1.length:Int)≤(al1.length:Int))))&&(decide ((al1.length:Int)≤1073741824)))then(l9_0 G k al1 al2 al3 al4 (List.replicate (Int.toNat (al1.length:Int)) (V.sl 1 [])) 0 (fun yl38=>K [.sl 1 yl38]))else none)
noncomputable def D9_2:LoopD:={id:=2,body:=loopAt 2 (bodyOf Try.f9),head:=P9_2h,out:=P9_2x,ret:=default}
theorem l9_2_is{R:Type}(G:ORC R)(k:Nat)(X:LV→OV R)(K:Ex→St→OV R)(xl32 xl33:LV)(xl34 xl35 xl36:LV)(xi37 xi38 xi39:Int):
 roundOf (TAB.env 9) G (L9 G k) D9_2 X K [.sl 7 xl32,.sl 1 xl33,.sl 1 xl34,.sl 1 xl35,.sl 1 xl36,.int .i64 xi37,.int .i64 xi38,.int .i64 xi39]=b9_2 G k (fun xl32 xl33 xl34 xl35 xl36 xi37 xi38 xi39=>X [.sl 7 xl32,.sl 1 xl33,.sl 1 xl34,.sl 1 xl35,.sl 1 xl36,.int .i64 xi37,.int .i64 xi38,.int .i64 xi39]) (fun yl39 yl40 yl41 yl42 yl43 yi44=>K .normal (P9_2x.inst [.sl 7 yl39,.sl 1 yl40,.sl 1 yl41,.sl 1 yl42,.sl 1 yl43,.int .i64 yi44])) xl32 xl33 xl34 xl35 xl36 xi37 xi38 xi39:=by kernel_rfl
noncomputable def D9_0:LoopD:={id:=0,body:=loopAt 0 (bodyOf Try.f9),head:=P9_0h,out:=P9_0x,ret:=default}
theorem l9_0_is{R:Type}(G:ORC R)(k:Nat)(X:LV→OV R)(K:Ex→St→OV R)(xl5 xl6:LV)(xl7 xl8 xl9:LV)(xi10:Int):
 roundOf (TAB.env 9) G (L9 G k) D9_0 X K [.sl 7 xl5,.sl 1 xl6,.sl 1 xl7,.sl 1 xl8,.sl 1 xl9,.int .i64 xi10]=b9_0 G k (fun xl5 xl6 xl7 xl8 xl9 xi10=>X [.sl 7 xl5,.sl 1 xl6,.sl 1 xl7,.sl 1 xl8,.sl 1 xl9,.int .i64 xi10]) (fun yl45=>K .normal (P9_0x.inst [.sl 1 yl45])) xl5 xl6 xl7 xl8 xl9 xi10:=by kernel_rfl
theorem f9_is{R:Type}(G:ORC R)(k:Nat)(K:LV→OV R)(al1 al2:LV)(al3 al4:LV):
 callF (TAB.env 9) G (L9 G k) Try.f9 S9 [.sl 7 al1,.sl 1 al2,.sl 1 al3,.sl 1 al4] K=f9 G k al1 al2 al3 al4 K:=by kernel_rfl
theorem li9_2{R:Type}(G:ORC R)(k:Nat):LoopIs (TAB.env 9) G (L9 G k) 2 (loopAt 2 (bodyOf Try.f9)):=
 ⟨D9_2,fun j vs K=>rd9_2 G k K j vs,k,rfl,rfl,by kernel_rfl,by kernel_rfl,by kernel_rfl,(fun vs K=>by unfold rd9_2;dsimp only;split<;>rfl),
   (fun j vs K r h=>by
     unfold rd9_2 at h
     dsimp only at h
     split at h
     ·rw[l9_2_is];exact h
     ·cases h),(fun S K r h=>h)⟩
theorem li9_0{R:Type}(G:ORC R)(k:Nat):LoopIs (TAB.env 9) G (L9 G k) 0 (loopAt 0 (bodyOf Try.f9)):=
 ⟨D9_0,fun j vs K=>rd9_0 G k K j vs,k,rfl,rfl,by kernel_rfl,by kernel_rfl,by kernel_rfl,(fun vs K=>by unfold rd9_0;dsimp only;split<;>rfl),
   (fun j vs K r h=>by
     unfold rd9_0 at h
     dsimp only at h
     split at h
     ·rw[l9_0_is];exact h
     ·cases h),(fun S K r h=>h)⟩
theorem lo9:loopsOf (bodyOf Try.f9)=[(0,loopAt 0 (bodyOf Try.f9)),(2,loopAt 2 (bodyOf Try.f9))]:=by kernel_rfl
theorem la9{R:Type}(G:ORC R)(k:Nat):LoopsAre (TAB.env 9) G (L9 G k) (bodyOf Try.f9):=
 loopsAre_of (by rw[lo9];intro p hp;simp only[List.mem_cons,List.not_mem_nil,or_false]at hp;rcases hp with rfl|rfl<;>first|exact li9_0 G k|exact li9_2 G k)
def g9{R:Type}(G:ORC R)(k:Nat)(args:LV)(K:LV→OV R):OV R:=match args with
 | [.sl 7 al1,.sl 1 al2,.sl 1 al3,.sl 1 al4]=>f9 G k al1 al2 al3 al4 K
 |_=>none
theorem s9{R:Type}{G:ORC R}{k:Nat}(hG:Sound Try.prog TAB G)(args:LV)(K:LV→OV R)(r:R)(h:g9 G k args K=some r):∃o,CallOK Try.prog TAB.env 9 args o∧K o=some r:=by
 unfold g9 at h
 split at h
 ·rw[←f9_is]at h
  exact callF_sound (f:=9) TAB_chk MO hG Try.func9 (sg:=S9) (by kernel_rfl) (by kernel_rfl) (la9 G k) h
 ·cases h
def P4_0h:Pat:={tmps:=unds [.undef,.undef,.undef,.var (.sl 1) .ro] 5 (unds [.var (.sl 7) .ro,.undef,.var (.sl 1) .ro,.var (.sl 1) .ro,.var (.sl 1) (.own true),.var (.int .i64) .pr] 81 []),boxes:=nons [] 96 []}
def P4_0x:Pat:={tmps:=unds [] 9 (unds [.var (.sl 7) .ro,.undef,.var (.sl 1) .ro,.var (.sl 1) .ro,.var (.sl 1) (.own true)] 82 []),boxes:=nons [] 96 []}
def b4_0{R:Type}(G:ORC R)(k:Nat)(X:LV→LV→LV→LV→LV→Int→OV R)(Ko:LV→LV→LV→LV→OV R)(xl33 xl34:LV)(xl35 xl36 xl37:LV)(xi38:Int):OV R:=
 (bif(decide (xi38<(xl33.length:Int)))then(bif((decide (0≤xi38))&&(decide (xi38<(xl33.length:Int))))then(nthK xl33 (Int.toNat xi38) fun e39=>aI .i64 e39 fun n40=>G 10 [.int .i64 n40,.int .i64 (xl34.length:Int)] fun o41=>uI .i64 o41 fun n43 r42=>unNil r42 (bif(decide (List.length xl37+1≤1073741824))then(X xl33 xl34 xl35 xl36 (xl37++[.int .i64 n43]) (IntKind.i64.wrap (xi38+1)))else none))else none)else(Ko xl34 xl35 xl36 xl37))
def l4_0g{R:Type}(G:ORC R)(k:Nat)(Ko:LV→LV→LV→LV→OV R):Nat→LV→LV→LV→LV→LV→Int→OV R
 |0=>fun _ _ _ _ _ _=>none
 |j+1=>b4_0 G k (l4_0g G k Ko j) Ko
def l4_0{R:Type}(G:ORC R)(k:Nat)(xl33 xl34:LV)(xl35 xl36 xl37:LV)(xi38:Int)(Ko:LV→LV→LV→LV→OV R):OV R:=l4_0g G k Ko k xl33 xl34 xl35 xl36 xl37 xi38
def rd4_0{R:Type}(G:ORC R)(k:Nat)(K:Ex→St→OV R)(j:Nat)(vs:LV):OV R:=match vs with
 | [.sl 1 xl33,.sl 7 xl34,.sl 1 xl35,.sl 1 xl36,.sl 1 xl37,.int .i64 xi38]=>l4_0g G k (fun yl72 yl73 yl74 yl75=>K .normal (P4_0x.inst [.sl 7 yl72,.sl 1 yl73,.sl 1 yl74,.sl 1 yl75])) j xl33 xl34 xl35 xl36 xl37 xi38
 |_=>none
def L4{R:Type}(G:ORC R)(k:Nat):Nat→St→(Ex→St→OV R)→OV R
 |0,S,K=>P4_0h.mat S fun vs=>rd4_0 G k K k vs
 |_,_,_=>none
def f4{R:Type}(G:ORC R)(k:Nat)(al1 al2:LV)(al3 al4:LV)(K:LV→OV R):OV R:=
 (bif(decide ((al1.length:Int)>200))then(G 6 [] fun o5=>uB o5 fun b7 r6=>unNil r6 (K [.bool b7]))else(bif(decide ((al2.length:Int)>40))then(G 6 [] fun o8=>uB o8 fun b10 r9=>unNil r9 (K [.bool b10]))else(bif(decide ((al3.length:Int)>40))then(G 6 [] fun o11=>uB o11 fun b13 r12=>unNil r12 (K [.bool b13]))else(bif(decide ((al4.length:Int)>8))then(G 6 [] fun o14=>uB o14 fun b16 r15=>unNil r15 (K [.bool b16]))else(G 7 [.sl 1 al1] fun o17=>uL 7 o17 fun l19 r18=>unNil r18 (G 8 [.sl 7 l19,.int .i64 0,.sl 1 al2,.int .i64 0] fun o20=>uL 1 o20 fun l22 r21=>uI .i64 r21 fun n24 r23=>unNil r23 (G 8 [.sl 7 l19,.int .i64 0,.sl 1 al3,.int .i64 0] fun o25=>uL 1 o25 fun l27 r26=>uI .i64 r26 fun n29 r28=>unNil r28 (G 9 [.sl 7 l19,.sl 1 l22,.sl 1 l22,.sl 1 []] fun o30=>uL 1 o30 fun l32 r31=>unNil r31 (l4_0 G k al4 l19 l27 l32 [] 0 (fun yl44 yl45 yl46 yl47=>G 18 [.sl 7 yl44,.sl 1 yl45,.sl 1 yl47] fun o48=>uL 1 o48 fun l50 r49=>unNil r49 (G 20 [.sl 7 yl44,.sl 1 yl45,.sl 1 l50,.sl 1 yl46] fun o51=>uL 1 o51 fun l53 r52=>unNil r52 (G 9 [.sl 7 yl44,.sl 1 yl45,.sl 1 l50,.sl 1 yl46] fun o54=>uL 1 o54 fun l56 r55=>unNil r55 (G 19 [.sl 1 l53,.sl 1 l56] fun o57=>uB o57 fun b59 r58=>unNil r58 (bif b59 then(G 20 [.sl 7 yl44,.sl 1 yl45,.sl 1 l50,.sl 1 []] fun o60=>uL 1 o60 fun l62 r61=>unNil r61 (G 9 [.sl 7 yl44,.sl 1 yl45,.sl 1 l50,.sl 1 []] fun o63=>uL 1 o63 fun l65 r64=>unNil r64 (G 19 [.sl 1 l62,.sl 1 l65] fun o66=>uB o66 fun b68 r67=>unNil r67 (bif b68 then(G 6 [] fun o69=>uB o69 fun b71 r70=>unNil r70 (K [.bool b71]))else(K [.bool false])))))else(K [.bool false])))))))))))))))
noncomputable def D4_0:LoopD:={id:=0,body:=loopAt 0 (bodyOf Try.f4),head:=P4_0h,out:=P4_0x,ret:=default}
theorem l4_0_is{R:Type}(G:ORC R)(k:Nat)(X:LV→OV R)(K:Ex→St→OV R)(xl33 xl34:LV)(xl35 xl36 xl37:LV)(xi38:Int):
 roundOf (TAB.env 4) G (L4 G k) D4_0 X K [.sl 1 xl33,.sl 7 xl34,.sl 1 xl35,.sl 1 xl36,.sl 1 xl37,.int .i64 xi38]=b4_0 G k (fun xl33 xl34 xl35 xl36 xl37 xi38=>X [.sl 1 xl33,.sl 7 xl34,.sl 1 xl35,.sl 1 xl36,.sl 1 xl37,.int .i64 xi38]) (fun yl72 yl73 yl74 yl75=>K .normal (P4_0x.inst [.sl 7 yl72,.sl 1 yl73,.sl 1 yl74,.sl 1 yl75])) xl33 xl34 xl35 xl36 xl37 xi38:=by kernel_rfl
theorem f4_is{R:Type}(G:ORC R)(k:Nat)(K:LV→OV R)(al1 al2:LV)(al3 al4:LV):
 callF (TAB.env 4) G (L4 G k) Try.f4 S4 [.sl 1 al1,.sl 1 al2,.sl 1 al3,.sl 1 al4] K=f4 G k al1 al2 al3 al4 K:=by kernel_rfl
theorem li4_0{R:Type}(G:ORC R)(k:Nat):LoopIs (TAB.env 4) G (L4 G k) 0 (loopAt 0 (bodyOf Try.f4)):=
 ⟨D4_0,fun j vs K=>rd4_0 G k K j vs,k,rfl,rfl,by kernel_rfl,by kernel_rfl,by kernel_rfl,(fun vs K=>by unfold rd4_0;dsimp only;split<;>rfl),
   (fun j vs K r h=>by
     unfold rd4_0 at h
     dsimp only at h
     split at h
     ·rw[l4_0_is];exact h
     ·cases h),(fun S K r h=>h)⟩
theorem lo4:loopsOf (bodyOf Try.f4)=[(0,loopAt 0 (bodyOf Try.f4))]:=by kernel_rfl
theorem la4{R:Type}(G:ORC R)(k:Nat):LoopsAre (TAB.env 4) G (L4 G k) (bodyOf Try.f4):=
 loopsAre_of (by rw[lo4];intro p hp;simp only[List.mem_cons,List.not_mem_nil,or_false]at hp;subst hp;exact li4_0 G k)
def g4{R:Type}(G:ORC R)(k:Nat)(args:LV)(K:LV→OV R):OV R:=match args with
 | [.sl 1 al1,.sl 1 al2,.sl 1 al3,.sl 1 al4]=>f4 G k al1 al2 al3 al4 K
 |_=>none
theorem s4{R:Type}{G:ORC R}{k:Nat}(hG:Sound Try.prog TAB G)(args:LV)(K:LV→OV R)(r:R)(h:g4 G k args K=some r):∃o,CallOK Try.prog TAB.env 4 args o∧K o=some r:=by
 unfold g4 at h
 split at h
 ·rw[←f4_is]at h
  exact callF_sound (f:=4) TAB_chk MO hG Try.func4 (sg:=S4) (by kernel_rfl) (by kernel_rfl) (la4 G k) h
 ·cases h
section
variable {R : Type} {G : ORC R} {k : Nat} {K : LV → OV R}
def PlaceS(G:ORC R):Prop:=∀(v n:Int) (K:LV→OV R),0<n→n≤1099511627776→W (fun o=>∃x,o=[.int .i64 x]∧0≤x∧x<n) K (G 10 [.int .i64 v,.int .i64 n] K)
theorem place_ok:PlaceS (fun _ args (K:LV→OV R)=>g10 G k args K):=by
 intro v n K h1 h2
 show W _ K (f10 G k v n K)
 unfold f10
 have ht:=tmod_lt (v:=v) h1
 refine W_not ?_
 refine W_beqI (fun h=>by omega) (fun _=> ?_)
 refine W_dec (fun h=> ?_) (fun h=> ?_)
 ·rw[wrap_id (by omega)];exact W_ret ⟨_,rfl,by omega,by omega⟩
 ·exact W_ret ⟨_,rfl,by omega,by omega⟩
def NextS(G:ORC R):Prop:=∀(n:Int) (L:LV) (i:Int) (K:LV→OV R),0<n→n≤1099511627776→RowS L i→W (fun o=>∃x j,o=[.int .i64 x,.int .i64 j]∧0≤x∧x<n∧RowS L j) K (G 26 [.int .i64 n,.sl 1 L,.int .i64 i] K)
theorem next_ok(hP:PlaceS G):NextS (fun _ args (K:LV→OV R)=>g26 G k args K):=by
 intro n L i K h1 h2 hr
 obtain⟨r1,r2,r3,r4⟩:=hr
 show W _ K (f26 G k n L i K)
 unfold f26
 have e1:IntKind.i64.wrap (i+1)=i+1:=wrap_id (by omega)
 have e2:IntKind.i64.wrap (i+1-1)=i:=by rw[wrap_id (by omega)];omega
 rw[e1,e2]
 refine W_dec (fun h=> ?_) (fun h=> ?_)
 ·exact W_ret ⟨_,_,rfl,by omega,by omega,r1,r2,r3,r4⟩
 ·refine W_and (W_yes (by omega) (W_yes (by omega) ?_))
  refine W_nth (by omega) (fun v _ hv=> ?_)
  obtain⟨m,rfl,hm⟩:=r1 v hv
  refine W_aI ?_
  refine W_call (hP m n _ h1 h2) ?_
  rintro o ⟨x,rfl,x1,x2⟩
  refine W_uI (W_unNil ?_)
  exact W_ret ⟨_,_,rfl,x1,x2,r1,r2,by omega,by omega⟩
def EventS(G:ORC R):Prop:=∀(n:Int) (K:LV→OV R),W (fun o=>∃s,o=[.str s]∧StrS s) K (G 71 [.int .i64 n] K)
theorem event_ok(hP:PlaceS G):EventS (fun _ args (K:LV→OV R)=>g71 G k args K):=by
 intro n K
 show W _ K (f71 G k n K)
 unfold f71
 refine W_call (hP n 8 _ (by omega) (by omega)) ?_
 rintro o ⟨x,rfl,x1,x2⟩
 refine W_uI (W_unNil ?_)
 refine W_and (W_yes (by omega) (W_yes (by omega) ?_))
 refine W_nth (by simp;omega) (fun v _ hv=> ?_)
 simp only[List.mem_cons,List.not_mem_nil,or_false]at hv
 rcases hv with rfl|rfl|rfl|rfl|rfl|rfl|rfl|rfl<;>exact W_ret ⟨_,rfl,by unfold StrS;decide⟩
def PickS(G:ORC R):Prop:=∀(l:LV) (s:ByteArray) (L:LV) (i:Int) (m:Nat) (K:LV→OV R),StrsS m l→m≤100000→StrS s→RowS L i→W (fun o=>∃t j,o=[.str t,.int .i64 j]∧StrS t∧(l=[]∨ .str t∈l)∧RowS L j) K (G 73 [.sl 1 l,.str s,.sl 1 L,.int .i64 i] K)
theorem pick_ok(hN:NextS G):PickS (fun _ args (K:LV→OV R)=>g73 G k args K):=by
 intro l s L i m K hl hm hs hr
 show W _ K (f73 G k l s L i K)
 unfold f73
 have h1:=hl.1
 refine W_beqI (fun h=> ?_) (fun h=> ?_)
 ·exact W_ret ⟨_,_,rfl,hs,.inl (List.eq_nil_of_length_eq_zero (by omega)),hr⟩
 ·refine W_call (hN _ L i _ (by omega) (by omega) hr) ?_
  rintro o ⟨x,j,rfl,x1,x2,hr2⟩
  refine W_uI (W_uI (W_unNil ?_))
  refine W_and (W_yes (by omega) (W_yes (by omega) ?_))
  refine W_nth (by omega) (fun v _ hv=> ?_)
  obtain⟨t,rfl,ht⟩:=hl.2 v hv
  exact W_asStr (W_ret ⟨_,_,rfl,ht,.inr hv,hr2⟩)
end
section
variable {R : Type} {G : ORC R} {k : Nat} {K : LV → OV R}
theorem extract_size(s:ByteArray)(a b:Nat):(ByteArray.extract s a b).size≤s.size:=by
 rw[ByteArray.size_extract];omega
theorem ext_dg{n:Int}(h1:0≤n)(h2:n<10):ByteArray.extract ⟨#[48,49,50,51,52,53,54,55,56,57]⟩ n.toNat (n+1).toNat=dg n.toNat:=by
 have:n=0∨n=1∨n=2∨n=3∨n=4∨n=5∨n=6∨n=7∨n=8∨n=9:=by omega
 rcases this with rfl|rfl|rfl|rfl|rfl|rfl|rfl|rfl|rfl|rfl<;>rfl
def DecS(d:Nat)(G:ORC R):Prop:=∀(n:Int) (K:LV→OV R),0≤n→n<10^d→W (fun o=>o=[.str (decD d n.toNat)]) K (G 89 [.int .i64 n] K)
theorem dec_step{d:Nat}(hd:d≤9)(hD:d=0∨DecS d G):DecS (d+1) (fun _ args (K:LV→OV R)=>g89 G k args K):=by
 intro n K h1 h2
 have hp:(10:Int)^(d+1)=10^d*10:=Int.pow_succ _ _
 have hb:(10:Int)^d≤10^9:=by
  have:(10:Nat)^d≤10^9:=Nat.pow_le_pow_right (by decide) hd
  exact_mod_cast this
 show W _ K (f89 G k n K)
 unfold f89
 refine W_no (by omega) (W_no (by omega) ?_)
 refine W_dec (fun h=> ?_) (fun h=> ?_)
 ·rw[wrap_id (n:=n+1) (by omega)]
  have hsz:ByteArray.size ⟨#[48,49,50,51,52,53,54,55,56,57]⟩=10:=by decide
  refine W_and (W_and (W_yes (by omega) (W_yes (by omega) (W_yes (by rw[hsz];omega) ?_))))
  exact W_ret (by rw[ext_dg h1 h];unfold decD;rw[if_pos (by omega)])
 ·have ht:Int.tdiv n 10=n/10:=Int.tdiv_eq_ediv_of_nonneg h1
  have hm:Int.tmod n 10=n % 10:=Int.tmod_eq_emod_of_nonneg h1
  rw[ht,hm]
  rw[wrap_id (n:=n/10) (by omega)]
  have hD':DecS d G:=by
   rcases hD with rfl|hD
   ·simp at h2;omega
   ·exact hD
  refine W_call (hD' (n/10) _ (by omega) (by omega)) ?_
  rintro o rfl
  have hs:=decD_size (d:=d) (n:=(n/10).toNat)
  refine W_uS (W_unNil ?_)
  rw[wrap_id (n:=n % 10+1) (by omega)]
  have hsz:ByteArray.size ⟨#[48,49,50,51,52,53,54,55,56,57]⟩=10:=by decide
  have he:=extract_size ⟨#[48,49,50,51,52,53,54,55,56,57]⟩ (Int.toNat (n % 10)) (Int.toNat (n % 10+1))
  rw[hsz]at he
  refine W_and (W_and (W_yes (by omega) (W_yes (by omega) (W_yes (by rw[hsz];omega) ?_))))
  refine W_yes (by omega) ?_
  refine W_ret ?_
  rw[ext_dg (n:=n % 10) (by omega) (by omega)]
  show _=[V.str (if n.toNat<10 then dg n.toNat else decD d (n.toNat/10)++dg (n.toNat % 10))]
  rw[if_neg (by omega),show(n/10).toNat=n.toNat/10 by omega,show(n % 10).toNat=n.toNat % 10 by omega]
def DigS(G:ORC R):Prop:=∀(n:Int) (K:LV→OV R),0≤n→n<1000→W (fun o=>o=[.str (digB n.toNat)]) K (G 69 [.int .i64 n] K)
theorem dig_ok(hD:DecS 3 G):DigS (fun _ args (K:LV→OV R)=>g69 G k args K):=by
 intro n K h1 h2
 show W _ K (f69 G k n K)
 unfold f69
 refine W_call (hD n _ h1 (by simpa using h2)) ?_
 rintro o rfl
 exact W_uS (W_unNil (W_ret rfl))
theorem strs_snoc{m:Nat}{l:LV}{s:ByteArray}(h:StrsS m l)(hs:StrS s):StrsS (m+1) (l++[.str s]):=by
 refine⟨by have:=h.1;simp;omega,fun v hv=> ?_⟩
 rcases List.mem_append.1 hv with hv|hv
 ·exact h.2 v hv
 ·rw[List.mem_singleton.1 hv];exact⟨s,rfl,hs⟩
def NamesS(G:ORC R):Prop:=∀(s:ByteArray) (n:Int) (K:LV→OV R),s.size≤10→0≤n→n≤100→W (fun o=>∃l,o=[.sl 1 l]∧StrsS 100 l) K (G 53 [.str s,.int .i64 n] K)
theorem names_loop(hD:DigS G){Q:LV→Prop}{K:LV→OV R}{Ko:LV→OV R}{s:ByteArray}{n:Int}(hs:s.size≤10)(hn:n≤100)(hKo:∀l,StrsS 100 l→W Q K (Ko l)):
 ∀(j:Nat) (acc:LV) (i:Int),0≤i→i≤n→n-i<j→StrsS i.toNat acc→W Q K (l53_0g G k Ko j s n acc i)
 |0,acc,i,h1,h2,h3,h4=>by omega
 |j+1,acc,i,h1,h2,h3,h4=>by
  show W Q K (b53_0 G k (l53_0g G k Ko j) Ko s n acc i)
  unfold b53_0
  refine W_dec (fun h=> ?_) (fun h=> ?_)
  ·refine W_call (hD i _ h1 (by omega)) ?_
   rintro o rfl
   have ht:=decD_size (d:=3) (n:=i.toNat)
   change (digB i.toNat).size≤3 at ht
   refine W_uS (W_unNil ?_)
   have hl:=h4.1
   refine W_yes (by omega) (W_yes (by omega) ?_)
   rw[wrap_id (n:=i+1) (by omega)]
   refine names_loop hD hs hn hKo j _ (i+1) (by omega) (by omega) (by omega) ?_
   rw[show(i+1).toNat=i.toNat+1 by omega]
   exact strs_snoc h4 (by unfold StrS;rw[ByteArray.size_append];omega)
  ·exact hKo acc ⟨by have:=h4.1;omega,h4.2⟩
theorem names_ok(hk:1000≤k)(hD:DigS G):NamesS (fun _ args (K:LV→OV R)=>g53 G k args K):=by
 intro s n K hs h1 h2
 show W _ K (f53 G k s n K)
 unfold f53 l53_0
 exact names_loop hD hs h2 (fun l hl=>W_ret ⟨_,rfl,hl⟩) k [] 0 (by omega) h1 (by omega) ⟨by simp,by simp⟩
theorem named_snoc{m:Nat}{l:LV}{s:ByteArray}{n:Int}(h:NamedS m l)(hs:StrS s)(hn:I64 n):NamedS (m+1) (l++[.agg [.str s,.int .i64 n,.int .i64 0]]):=by
 refine⟨by have:=h.1;simp;omega,fun v hv=> ?_⟩
 rcases List.mem_append.1 hv with hv|hv
 ·exact h.2 v hv
 ·rw[List.mem_singleton.1 hv];exact⟨s,n,rfl,hs,hn⟩
def NumdS(G:ORC R):Prop:=∀(l L:LV) (i:Int) (K:LV→OV R),StrsS 100 l→RowS L i→W (fun o=>∃q j,o=[.sl 3 q,.int .i64 j]∧NamedS 100 q∧RowS L j) K (G 54 [.sl 1 l,.sl 1 L,.int .i64 i] K)
theorem named_loop(hN:NextS G){Q:LV→Prop}{K:LV→OV R}{Ko:LV→LV→Int→OV R}{l L:LV}(hl:StrsS 100 l)(hKo:∀q at_,NamedS 100 q→RowS L at_→W Q K (Ko q L at_)):
 ∀(j:Nat) (acc:LV) (i at_:Int),0≤i→i≤(l.length:Int)→(l.length:Int)-i<j→NamedS i.toNat acc→RowS L at_→W Q K (l54_0g G k Ko j l acc i L at_)
 |0,acc,i,at_,h1,h2,h3,h4,h5=>by omega
 |j+1,acc,i,at_,h1,h2,h3,h4,h5=>by
  show W Q K (b54_0 G k (l54_0g G k Ko j) Ko l acc i L at_)
  unfold b54_0
  have hll:=hl.1
  refine W_dec (fun h=> ?_) (fun h=> ?_)
  ·refine W_and (W_yes h1 (W_yes h ?_))
   refine W_nth (by omega) (fun v _ hv=> ?_)
   obtain⟨t,rfl,ht⟩:=hl.2 v hv
   refine W_asStr ?_
   refine W_call (hN 9 L at_ _ (by omega) (by omega) h5) ?_
   rintro o ⟨x,at2,rfl,x1,x2,h6⟩
   refine W_uI (W_uI (W_unNil ?_))
   have hla:=h4.1
   refine W_yes (by omega) ?_
   rw[wrap_id (n:=i+1) (by omega),wrap_id (n:=x-4) (by omega)]
   refine named_loop hN hl hKo j _ (i+1) at2 (by omega) (by omega) (by omega) ?_ h6
   rw[show(i+1).toNat=i.toNat+1 by omega]
   exact named_snoc h4 ht (by unfold I64;omega)
  ·exact hKo acc at_ ⟨by have:=h4.1;omega,h4.2⟩ h5
theorem named_ok(hk:1000≤k)(hN:NextS G):NumdS (fun _ args (K:LV→OV R)=>g54 G k args K):=by
 intro l L i K hl hr
 show W _ K (f54 G k l L i K)
 unfold f54 l54_0
 exact named_loop hN hl (fun q at_ hq hr=>W_ret ⟨_,_,rfl,hq,hr⟩) k [] 0 i (by omega) (by omega) (by have:=hl.1;omega) ⟨by simp,by simp⟩ hr
def PlainS(G:ORC R):Prop:=∀(l:LV) (K:LV→OV R),StrsS 100 l→W (fun o=>∃q,o=[.sl 3 q]∧NamedS 100 q) K (G 55 [.sl 1 l] K)
theorem plain_loop{Q:LV→Prop}{K:LV→OV R}{Ko:LV→OV R}{l:LV}(hl:StrsS 100 l)(hKo:∀q,NamedS 100 q→W Q K (Ko q)):
 ∀(j:Nat) (acc:LV) (i:Int),0≤i→i≤(l.length:Int)→(l.length:Int)-i<j→NamedS i.toNat acc→W Q K (l55_0g G k Ko j l acc i)
 |0,acc,i,h1,h2,h3,h4=>by omega
 |j+1,acc,i,h1,h2,h3,h4=>by
  show W Q K (b55_0 G k (l55_0g G k Ko j) Ko l acc i)
  unfold b55_0
  have hll:=hl.1
  refine W_dec (fun h=> ?_) (fun h=> ?_)
  ·refine W_and (W_yes h1 (W_yes h ?_))
   refine W_nth (by omega) (fun v _ hv=> ?_)
   obtain⟨t,rfl,ht⟩:=hl.2 v hv
   refine W_asStr ?_
   have hla:=h4.1
   refine W_yes (by omega) ?_
   rw[wrap_id (n:=i+1) (by omega)]
   refine plain_loop hl hKo j _ (i+1) (by omega) (by omega) (by omega) ?_
   rw[show(i+1).toNat=i.toNat+1 by omega]
   exact named_snoc h4 ht (by unfold I64;omega)
  ·exact hKo acc ⟨by have:=h4.1;omega,h4.2⟩
theorem plain_ok(hk:1000≤k):PlainS (fun _ args (K:LV→OV R)=>g55 G k args K):=by
 intro l K hl
 show W _ K (f55 G k l K)
 unfold f55 l55_0
 exact plain_loop hl (fun q hq=>W_ret ⟨_,rfl,hq⟩) k [] 0 (by omega) (by omega) (by have:=hl.1;omega) ⟨by simp,by simp⟩
end
section
variable {R : Type} {G : ORC R} {k : Nat} {K : LV → OV R}
def ExprOK(d:Nat)(G:ORC R):Prop:=∀(a b c s L:LV) (n i:Int) (K:LV→OV R),n=(d:Int)→StrsS 100 a→StrsS 100 s→RowS L i→
 W (fun o=>∃e j,o=[e,.int .i64 j]∧ExprS (d+1) e∧RowS L j) K (G 72 [.agg [.sl 1 a,.sl 1 b,.sl 1 c,.sl 1 s],.int .i64 n,.sl 1 L,.int .i64 i] K)
theorem expr_mk{d:Nat}{kind n:Int}{nm:ByteArray}{kids:LV}(h1:I64 n)(h2:StrS nm)(h3:1≤kind∧kind≤19)(h4:kids.length≤2)(h5:∀e∈kids,ExprS d e)(h6:kind≤4∨(kind≤6∧kids.length=1)∨(7≤kind∧kids.length=2)):
 ExprS (d+1) (.agg [.int .i64 kind,.int .i64 n,.str nm,.sl 5 kids,.int .i64 0]):=⟨kind,n,nm,kids,rfl,h1,h2,h3.1,h3.2,h4,h5,h6⟩
theorem one_mem{d:Nat}{a:V}(h:ExprS d a):∀e∈[a],ExprS d e:=fun e he=>by rw[List.mem_singleton.1 he];exact h
theorem two_mem{d:Nat}{a b:V}(h:ExprS d a)(h':ExprS d b):∀e∈[a,b],ExprS d e:=fun e he=>by
 simp only[List.mem_cons,List.not_mem_nil,or_false]at he
 rcases he with rfl|rfl
 ·exact h
 ·exact h'
theorem strs0:StrS ⟨#[]⟩:=by unfold StrS;decide
theorem expr_ok{d:Nat}(hd:d≤20)(hN:NextS G)(hPk:PickS G)(hE:∀d',d=d'+1→ExprOK d' G):ExprOK d (fun _ args (K:LV→OV R)=>g72 G k args K):=by
 intro a b c s L n i K hn ha hs hr
 show W _ K (f72 G k a b c s n L i K)
 unfold f72
 unfold NextS at hN;unfold PickS at hPk;unfold ExprOK at hE
 have la:=ha.1
 have lss:=hs.1
 have hE':n≠0→∃d',d=d'+1:=fun h=>⟨d-1,by omega⟩
 have hEn:∀d',d=d'+1→IntKind.i64.wrap (n-1)=(d':Int):=fun d' h=>by rw[wrap_id (by omega)];omega
 refine W_call (hN _ _ _ _ (by omega) (by omega) hr) ?_
 rintro o ⟨x,i1,rfl,x1,x2,hr1⟩
 have ht:=tmod_lt (v:=x) (n:=6) (by omega)
 by_cases hn0:n=0
 ·clear hE' hEn hE
  repeat' (first
   |with_reducible (first|(refine W_uI ?_)|(refine W_uS ?_)|(refine W_uL ?_)|(refine W_uA ?_)|(refine W_uB ?_)|(refine W_aI ?_)|(refine W_aL ?_)|(refine W_ca3 ?_)|(refine W_ce3 ?_)|(refine W_ca4 ?_)|(refine W_ce4 ?_)|(refine W_ca5 ?_)|(refine W_ce5 ?_)|(refine W_ca6 ?_)|(refine W_ce6 ?_)|(refine W_ca7 ?_)|(refine W_ce7 ?_)|(refine W_ca8 ?_)|(refine W_ce8 ?_)|(refine W_unCons ?_)|(refine W_unNil ?_)|(refine W_asInt ?_)|(refine W_asStr ?_)|(refine W_asSl ?_)|(refine W_asAgg ?_)|(refine W_kd ?_)|(refine W_z ?_))
   |((with_reducible (refine W_call (hN _ _ _ _ ?_ ?_ (by assumption)) ?_));omega;omega;rintro _ ⟨_,_,rfl,_,_,_⟩)
   |((with_reducible (refine W_call (hPk _ _ _ _ 100 _ (by assumption) ?_ strs0 (by assumption)) ?_));omega;rintro _ ⟨_,_,rfl,_,_,_⟩)
   |(with_reducible (refine W_and ?_))|((with_reducible (refine W_yes ?_ ?_));omega)|((with_reducible (refine W_no ?_ ?_));omega)|((with_reducible (refine W_eqY ?_ ?_));omega)|((with_reducible (refine W_eqN ?_ ?_));omega)
   |(with_reducible (refine W_dec (fun _=> ?_) (fun _=> ?_)))|(with_reducible (refine W_beqI (fun _=> ?_) (fun _=> ?_)))
   |((with_reducible (refine W_nth ?_ (fun v _ hv=> ?_)));(simp;omega);simp only[List.mem_cons,List.not_mem_nil,or_false]at hv;rcases hv with rfl|rfl|rfl|rfl|rfl|rfl)
   |(refine W_ret ⟨_,_,rfl,expr_mk (by unfold I64;omega) (by first|assumption|exact strs0) ⟨by omega,by omega⟩ (by simp) (by simp) (by omega),by assumption⟩))
 ·obtain⟨d',rfl⟩:=hE' hn0
  have hEn:=hEn d' rfl
  have hE:=hE d' rfl
  clear hE'
  repeat' (first
   |with_reducible (first|(refine W_uI ?_)|(refine W_uS ?_)|(refine W_uL ?_)|(refine W_uA ?_)|(refine W_uB ?_)|(refine W_aI ?_)|(refine W_aL ?_)|(refine W_ca3 ?_)|(refine W_ce3 ?_)|(refine W_ca4 ?_)|(refine W_ce4 ?_)|(refine W_ca5 ?_)|(refine W_ce5 ?_)|(refine W_ca6 ?_)|(refine W_ce6 ?_)|(refine W_ca7 ?_)|(refine W_ce7 ?_)|(refine W_ca8 ?_)|(refine W_ce8 ?_)|(refine W_unCons ?_)|(refine W_unNil ?_)|(refine W_asInt ?_)|(refine W_asStr ?_)|(refine W_asSl ?_)|(refine W_asAgg ?_)|(refine W_kd ?_)|(refine W_z ?_))
   |((with_reducible (refine W_call (hN _ _ _ _ ?_ ?_ (by assumption)) ?_));omega;omega;rintro _ ⟨_,_,rfl,_,_,_⟩)
   |((with_reducible (refine W_call (hPk _ _ _ _ 100 _ (by assumption) ?_ strs0 (by assumption)) ?_));omega;rintro _ ⟨_,_,rfl,_,_,_⟩)
   |((with_reducible (refine W_call (hE _ _ _ _ _ _ _ _ hEn (by assumption) (by assumption) (by assumption)) ?_));rintro _ ⟨_,_,rfl,he,_⟩;have he2:=he;obtain⟨_,_,_,_,rfl,_,_,_,_,_,_,_⟩:=he)
   |(with_reducible (refine W_and ?_))|((with_reducible (refine W_yes ?_ ?_));omega)|((with_reducible (refine W_no ?_ ?_));omega)|((with_reducible (refine W_eqY ?_ ?_));omega)|((with_reducible (refine W_eqN ?_ ?_));omega)
   |(with_reducible (refine W_dec (fun _=> ?_) (fun _=> ?_)))|(with_reducible (refine W_beqI (fun _=> ?_) (fun _=> ?_)))
   |((with_reducible (refine W_nth ?_ (fun v _ hv=> ?_)));(simp;omega);simp only[List.mem_cons,List.not_mem_nil,or_false]at hv;rcases hv with rfl|rfl|rfl|rfl|rfl|rfl)
   |(refine W_ret ⟨_,_,rfl,expr_mk (by unfold I64;omega) (by first|assumption|exact strs0) ⟨by first|omega|(rw[wrap_id (by omega)];omega),by first|omega|(rw[wrap_id (by omega)];omega)⟩ (by simp) (by first|exact two_mem (by assumption) (by assumption)|exact one_mem (by assumption)|simp) (by first|exact .inr (.inr ⟨by rw[wrap_id (by omega)];omega,rfl⟩)|exact .inr (.inl ⟨by rw[wrap_id (by omega)];omega,rfl⟩)|omega),by assumption⟩))
end
set_option maxHeartbeats 8000000
section
variable {R : Type} {G : ORC R} {k : Nat} {K : LV → OV R}
def BlockOK(d:Nat)(G:ORC R):Prop:=∀(a b c s L:LV) (n i:Int) (K:LV→OV R),n=(d:Int)→StrsS 100 a→StrsS 100 b→StrsS 100 c→StrsS 100 s→RowS L i→
 W (fun o=>∃q j,o=[.sl 8 q,.int .i64 j]∧BlockS (d+1) q∧RowS L j) K (G 70 [.agg [.sl 1 a,.sl 1 b,.sl 1 c,.sl 1 s],.int .i64 n,.sl 1 L,.int .i64 i] K)
theorem act_mk{d:Nat}{kind n:Int}{nm ev:ByteArray}{x th el:LV}(h1:ActN kind n)(h2:StrS nm)(h3:StrS ev)(h4:1≤kind∧kind≤7)(h5:x.length≤1)(h6:∀e∈x,ExprS 3 e)(h7:kind=6→x.length=1)(h8:BlockS d th)(h9:BlockS d el):
 ActS (d+1) (.agg [.int .i64 kind,.str nm,.str ev,.sl 5 x,.int .i64 n,.sl 8 th,.sl 8 el,.int .i64 0]):=⟨kind,nm,ev,x,n,th,el,rfl,h1,h2,h3,h4.1,h4.2,h5,h6,h7,h8.1,h9.1,h8.2,h9.2⟩
theorem block0{d:Nat}:BlockS d []:=⟨by simp,by simp⟩
theorem take_one{e:V}{n:Nat}(h:ExprS 3 e):(List.take n [e]).length≤1∧∀v∈List.take n [e],ExprS 3 v:=
 ⟨by simp[List.length_take];omega,fun v hv=>one_mem h v (List.mem_of_mem_take hv)⟩
theorem num_of{n:Int}(h:I64 n):∀e∈[V.agg [.int .i64 1,.int .i64 n,.str ⟨#[]⟩,.sl 5 [],.int .i64 0]],ExprS 3 e:=one_mem (expr_mk (d:=2) h strs0 ⟨by omega,by omega⟩ (by simp) (by simp) (by omega))
theorem i64_0:I64 0:=by unfold I64;omega
theorem block_round{d:Nat}(hd:d≤3)(hN:NextS G)(hPk:PickS G)(hEv:EventS G)(hE:ExprOK 2 G)(hB:∀d',d=d'+1→BlockOK d' G){Q:LV→Prop}{K:LV→OV R}{a b c s L acc:LV}{n i dd:Int}
 (X:Int→LV→Int→LV→Int→LV→LV→LV→LV→OV R) (Ko:LV→LV→Int→OV R)
 (hdd:dd=(d:Int)) (ha:StrsS 100 a) (hb:StrsS 100 b) (hc:StrsS 100 c) (hs:StrsS 100 s) (hr:RowS L i) (hn:n>0) (hacc:acc.length≤2)
 (hX1:∀v j,ActS (d+1) v→RowS L j→W Q K (X dd (acc++[v]) (IntKind.i64.wrap (n-1)) L j a b c s))
 (hX0:∀j,RowS L j→W Q K (X dd acc (IntKind.i64.wrap (n-1)) L j a b c s)):
 W Q K (b70_0 G k X Ko dd acc n L i a b c s):=by
 unfold b70_0
 unfold NextS at hN;unfold PickS at hPk;unfold EventS at hEv;unfold ExprOK at hE;unfold BlockOK at hB
 have la:=ha.1
 have lb:=hb.1
 have lc:=hc.1
 refine W_yes hn ?_
 refine W_call (hN _ _ _ _ (by omega) (by omega) hr) ?_
 rintro _ ⟨x,i1,rfl,x1,x2,hr1⟩
 refine W_uI (W_uI (W_unNil ?_))
 refine W_call (hE _ _ _ _ _ _ _ _ (by rfl) ha hs hr1) ?_
 rintro _ ⟨e,i2,rfl,he,hr2⟩
 have he2:=he
 obtain⟨_,_,_,_,rfl,_⟩:=he
 repeat (with_reducible (first|(refine W_uI ?_)|(refine W_uS ?_)|(refine W_uL ?_)|(refine W_uA ?_)|(refine W_uB ?_)|(refine W_aI ?_)|(refine W_aL ?_)|(refine W_ca3 ?_)|(refine W_ce3 ?_)|(refine W_ca4 ?_)|(refine W_ce4 ?_)|(refine W_ca5 ?_)|(refine W_ce5 ?_)|(refine W_ca6 ?_)|(refine W_ce6 ?_)|(refine W_ca7 ?_)|(refine W_ce7 ?_)|(refine W_ca8 ?_)|(refine W_ce8 ?_)|(refine W_unCons ?_)|(refine W_unNil ?_)|(refine W_asInt ?_)|(refine W_asStr ?_)|(refine W_asSl ?_)|(refine W_asAgg ?_)|(refine W_kd ?_)|(refine W_z ?_)))
 have ht:=take_one (n:=0) he2
 by_cases hd0:d=0
 ·have hdd0:¬dd>0:=by omega
  clear hB
  repeat' (first
   |with_reducible (first|(refine W_uI ?_)|(refine W_uS ?_)|(refine W_uL ?_)|(refine W_uA ?_)|(refine W_uB ?_)|(refine W_aI ?_)|(refine W_aL ?_)|(refine W_ca3 ?_)|(refine W_ce3 ?_)|(refine W_ca4 ?_)|(refine W_ce4 ?_)|(refine W_ca5 ?_)|(refine W_ce5 ?_)|(refine W_ca6 ?_)|(refine W_ce6 ?_)|(refine W_ca7 ?_)|(refine W_ce7 ?_)|(refine W_ca8 ?_)|(refine W_ce8 ?_)|(refine W_unCons ?_)|(refine W_unNil ?_)|(refine W_asInt ?_)|(refine W_asStr ?_)|(refine W_asSl ?_)|(refine W_asAgg ?_)|(refine W_kd ?_)|(refine W_z ?_))
   |((with_reducible (refine W_call (hN _ _ _ _ ?_ ?_ (by assumption)) ?_));omega;omega;rintro _ ⟨_,_,rfl,_,_,_⟩)
   |((with_reducible (refine W_call (hPk _ _ _ _ 100 _ (by assumption) ?_ strs0 (by assumption)) ?_));omega;rintro _ ⟨_,_,rfl,_,_,_⟩)
   |((with_reducible (refine W_call (hEv _ _) ?_));rintro _ ⟨_,rfl,_⟩)
   |(with_reducible (refine W_and ?_))|((with_reducible (refine W_no hdd0 ?_)))|((with_reducible (refine W_yes ?_ ?_));omega)|((with_reducible (refine W_no ?_ ?_));omega)|((with_reducible (refine W_eqY ?_ ?_));omega)|((with_reducible (refine W_eqN ?_ ?_));omega)
   |(with_reducible (refine W_dec (fun _=> ?_) (fun _=> ?_)))|(with_reducible (refine W_beqI (fun _=> ?_) (fun _=> ?_)))
   |(with_reducible (exact hX0 _ (by assumption)))
   |((with_reducible (refine hX1 _ _ ?_ (by assumption)));
     exact act_mk (by first|exact⟨i64_0,by omega⟩|(rw[wrap_id (by omega)];unfold ActN I64;omega)) (by first|assumption|exact strs0) (by first|assumption|exact strs0) ⟨by omega,by omega⟩
      (by first|exact Nat.le_refl 1|exact Nat.zero_le 1|exact(take_one he2).1) (by first|exact one_mem he2|exact(take_one he2).2|exact num_of (by rw[wrap_id (by omega)];unfold I64;omega)|simp) (by first|omega|exact fun _=>rfl) block0 block0))
 ·obtain⟨d',rfl⟩:∃d',d=d'+1:=⟨d-1,by omega⟩
  have hdd0:dd>0:=by omega
  have hB:=hB d' rfl
  have hBn:IntKind.i64.wrap (dd-1)=(d':Int):=by rw[wrap_id (by omega)];omega
  repeat' (first
   |with_reducible (first|(refine W_uI ?_)|(refine W_uS ?_)|(refine W_uL ?_)|(refine W_uA ?_)|(refine W_uB ?_)|(refine W_aI ?_)|(refine W_aL ?_)|(refine W_ca3 ?_)|(refine W_ce3 ?_)|(refine W_ca4 ?_)|(refine W_ce4 ?_)|(refine W_ca5 ?_)|(refine W_ce5 ?_)|(refine W_ca6 ?_)|(refine W_ce6 ?_)|(refine W_ca7 ?_)|(refine W_ce7 ?_)|(refine W_ca8 ?_)|(refine W_ce8 ?_)|(refine W_unCons ?_)|(refine W_unNil ?_)|(refine W_asInt ?_)|(refine W_asStr ?_)|(refine W_asSl ?_)|(refine W_asAgg ?_)|(refine W_kd ?_)|(refine W_z ?_))
   |((with_reducible (refine W_call (hN _ _ _ _ ?_ ?_ (by assumption)) ?_));omega;omega;rintro _ ⟨_,_,rfl,_,_,_⟩)
   |((with_reducible (refine W_call (hPk _ _ _ _ 100 _ (by assumption) ?_ strs0 (by assumption)) ?_));omega;rintro _ ⟨_,_,rfl,_,_,_⟩)
   |((with_reducible (refine W_call (hEv _ _) ?_));rintro _ ⟨_,rfl,_⟩)
   |((with_reducible (refine W_call (hB _ _ _ _ _ _ _ _ hBn (by assumption) (by assumption) (by assumption) (by assumption) (by assumption)) ?_));rintro _ ⟨_,_,rfl,_,_⟩)
   |(with_reducible (refine W_and ?_))|((with_reducible (refine W_yes hdd0 ?_)))|((with_reducible (refine W_yes ?_ ?_));omega)|((with_reducible (refine W_no ?_ ?_));omega)|((with_reducible (refine W_eqY ?_ ?_));omega)|((with_reducible (refine W_eqN ?_ ?_));omega)
   |(with_reducible (refine W_dec (fun _=> ?_) (fun _=> ?_)))|(with_reducible (refine W_beqI (fun _=> ?_) (fun _=> ?_)))
   |(with_reducible (exact hX0 _ (by assumption)))
   |((with_reducible (refine hX1 _ _ ?_ (by assumption)));
     exact act_mk (by first|exact⟨i64_0,by omega⟩|(rw[wrap_id (by omega)];unfold ActN I64;omega)) (by first|assumption|exact strs0) (by first|assumption|exact strs0) ⟨by omega,by omega⟩
      (by first|exact Nat.le_refl 1|exact Nat.zero_le 1|exact(take_one he2).1) (by first|exact one_mem he2|exact(take_one he2).2|exact num_of (by rw[wrap_id (by omega)];unfold I64;omega)|simp) (by first|omega|exact fun _=>rfl) (by first|assumption|exact block0) (by first|assumption|exact block0)))
theorem block_loop{d:Nat}(hd:d≤3)(hN:NextS G)(hPk:PickS G)(hEv:EventS G)(hE:ExprOK 2 G)(hB:∀d',d=d'+1→BlockOK d' G){Q:LV→Prop}{K:LV→OV R}{a b c s L:LV}{dd:Int}{Ko:LV→LV→Int→OV R}
 (hdd:dd=(d:Int)) (ha:StrsS 100 a) (hb:StrsS 100 b) (hc:StrsS 100 c) (hs:StrsS 100 s) (hKo:∀q j,BlockS (d+1) q→RowS L j→W Q K (Ko q L j)):
 ∀(j:Nat) (acc:LV) (n i:Int),n<j→(acc.length:Int)+n≤2→0≤n→(∀v∈acc,ActS (d+1) v)→RowS L i→W Q K (l70_0g G k Ko j dd acc n L i a b c s)
 |0,acc,n,i,h1,h2,h3,h4,h5=>by omega
 |j+1,acc,n,i,h1,h2,h3,h4,h5=>by
  show W Q K (b70_0 G k (l70_0g G k Ko j) Ko dd acc n L i a b c s)
  by_cases hn:n>0
  ·refine block_round hd hN hPk hEv hE hB _ _ hdd ha hb hc hs h5 hn (by omega) (fun v j' hv hj=> ?_) (fun j' hj=> ?_)
   ·refine block_loop hd hN hPk hEv hE hB hdd ha hb hc hs hKo j _ _ j' (by rw[wrap_id (by omega)];omega) (by rw[wrap_id (by omega)];simp;omega) (by rw[wrap_id (by omega)];omega) ?_ hj
    intro w hw
    rcases List.mem_append.1 hw with hw|hw
    ·exact h4 w hw
    ·rw[List.mem_singleton.1 hw];exact hv
   ·exact block_loop hd hN hPk hEv hE hB hdd ha hb hc hs hKo j _ _ j' (by rw[wrap_id (by omega)];omega) (by rw[wrap_id (by omega)];omega) (by rw[wrap_id (by omega)];omega) h4 hj
  ·unfold b70_0
   exact W_no hn (hKo acc i ⟨by omega,h4⟩ h5)
theorem block_ok{d:Nat}(hk:1000≤k)(hd:d≤3)(hN:NextS G)(hPk:PickS G)(hEv:EventS G)(hE:ExprOK 2 G)(hB:∀d',d=d'+1→BlockOK d' G):BlockOK d (fun _ args (K:LV→OV R)=>g70 G k args K):=by
 intro a b c s L n i K hn ha hb hc hs hr
 show W _ K (f70 G k a b c s n L i K)
 unfold f70
 refine W_call (hN _ _ _ _ (by omega) (by omega) hr) ?_
 rintro _ ⟨x,i1,rfl,x1,x2,hr1⟩
 refine W_uI (W_uI (W_unNil ?_))
 unfold l70_0
 exact block_loop hd hN hPk hEv hE hB hn ha hb hc hs (fun q j hq hj=>W_ret ⟨_,_,rfl,hq,hj⟩) k [] x i1 (by omega) (by simp;omega) x1 (by simp) hr1
end
section
variable {R : Type} {G : ORC R} {k : Nat} {K : LV → OV R}
def StOK(d:Nat)(G:ORC R):Prop:=∀(b:Bool) (a p c s all L:LV) (n left i:Int) (K:LV→OV R),n=(d:Int)→1≤left→left+all.length≤20→NmsS all→NmI all→RowS L i→
 W (fun o=>∃x left' all' j,o=[x,.int .i64 left',.sl 1 all',.int .i64 j]∧StateS 0 (d+1) x∧kindV x≤2∧0≤left'∧left'<left∧left'+(all'.length:Int)=left+all.length∧NmsS all'∧RowS L j∧all'=all++nmV (d+1) x∧NmI all') K
   (G 56 [.int .i64 n,.bool b,.sl 1 a,.sl 1 p,.sl 1 c,.sl 1 s,.int .i64 left,.sl 1 all,.sl 1 L,.int .i64 i] K)
theorem nms_snoc{l:LV}{s:ByteArray}(h:NmsS l)(hs:StrS s)(h0:0<s.size):NmsS (l++[.str s]):=fun v hv=>by
 rcases List.mem_append.1 hv with hv|hv
 ·exact h v hv
 ·rw[List.mem_singleton.1 hv];exact⟨s,rfl,hs,h0⟩
theorem mem_snoc{P:V→Prop}{l:LV}{x:V}(h:∀v∈l,P v)(hx:P x):∀v∈l++[x],P v:=fun v hv=>by
 rcases List.mem_append.1 hv with hv|hv
 ·exact h v hv
 ·rw[List.mem_singleton.1 hv];exact hx
theorem head_snoc{l:LV}{x:V}(h:∀s r,l=s::r→kindV s≤2)(hx:l=[]→kindV x≤2):∀s r,l++[x]=s::r→kindV s≤2:=by
 intro s r e
 cases l with
 |nil=>simp at e;rw[←e.1];exact hx rfl
 |cons a l=>simp at e;rw[←e.1];exact h a l rfl
theorem state_mk{d:Nat}{kind:Int}{nm:ByteArray}{kids:LV}(h1:StrS nm)(h2:0<nm.size)(h3:1≤kind∧kind≤4)(h4:kids.length≤4)(h5:∀s∈kids,StateS 0 d s)(h6:2<kind→kids=[])(h7:∀s r,kids=s::r→kindV s≤2)(h8:kind=2→kids≠[]):
 StateS 0 (d+1) (.agg [.int .i64 kind,.str nm,.sl 8 [],.sl 8 [],.sl 5 [],.sl 7 kids,.int .i64 0]):=
 ⟨kind,nm,[],[],[],kids,rfl,h1,h2,h3.1,h3.2,block0,block0,by simp,by simp,h4,h5,fun h=>⟨h6 h,rfl,rfl,rfl⟩,h7,h8⟩
theorem pre_strs{c:UInt8}{s:ByteArray}(h:s.size≤30):StrS (⟨#[c]⟩++s)∧0<(⟨#[c]⟩++s:ByteArray).size:=by
 have e:(⟨#[c]⟩++s:ByteArray).size=1+s.size:=by rw[ByteArray.size_append];rfl
 unfold StrS;rw[e];omega
theorem st_loop{d:Nat}(hS:StOK d G){Q:LV→Prop}{K:LV→OV R}{a p c s L h1 h2 h3 h4 en ex tr:LV}{dd h0 h5 kind z T m:Int}{hs nm:ByteArray}{Ko:LV→LV→LV→LV→Int→LV→LV→Int→Int→ByteArray→LV→LV→LV→LV→Int→Int→ByteArray→LV→LV→LV→LV→Int→OV R}
 (hdd:IntKind.i64.wrap (dd-1)=(d:Int)) (hT:T≤20) {all0:LV}
 (hKo:∀left all j kids,(all0++nmVL (d+1) kids=all∧NmI all)→0≤left→left≤m→left+(List.length all:Int)=T→NmsS all→RowS L j→kids.length≤3→(∀s∈kids,StateS 0 (d+1) s)→(∀s r,kids=s::r→kindV s≤2)→kids≠[]→W Q K (Ko a p c s left all L j h0 hs h1 h2 h3 h4 h5 kind nm en ex tr kids z)):
 ∀(j:Nat) (n left:Int) (all:LV) (i:Int) (acc:LV),(all0++nmVL (d+1) acc=all∧NmI all)→n<j→0≤n→(acc.length:Int)+n≤3→(acc=[]→1≤left∧0<n)→0≤left→left≤m→left+(List.length all:Int)=T→NmsS all→RowS L i→(∀s∈acc,StateS 0 (d+1) s)→(∀s r,acc=s::r→kindV s≤2)→
  W Q K (l56_0g G k Ko j dd n a p c s left all L i h0 hs h1 h2 h3 h4 h5 kind nm en ex tr acc z)
 |0,n,left,all,i,acc,a0,a1,a2,a3,a4,a5,a6,a7,a8,a9,a10,a11=>by omega
 |j+1,n,left,all,i,acc,a0,a1,a2,a3,a4,a5,a6,a7,a8,a9,a10,a11=>by
  show W Q K (b56_0 G k (l56_0g G k Ko j) Ko dd n a p c s left all L i h0 hs h1 h2 h3 h4 h5 kind nm en ex tr acc z)
  unfold b56_0
  by_cases hn:n>0
  ·refine W_yes hn ?_
   by_cases hl:left>0
   ·refine W_yes hl ?_
    refine W_call (hS true a p c s all L _ left i _ hdd (by omega) (by omega) a8 a0.2 a9) ?_
    rintro _ ⟨x,left',all',j',rfl,b1,b2,b3,b4,b5,b6,b7,b8,b8'⟩
    have b1':=b1
    have b9:all0++nmVL (d+1) (acc++[x])=all'∧NmI all':=⟨by rw[nmVL_app,←List.append_assoc,a0.1,b8];simp[nmVL],b8'⟩
    obtain⟨_,_,_,_,_,_,rfl,_⟩:=b1
    repeat (with_reducible (first|(refine W_uI ?_)|(refine W_uS ?_)|(refine W_uL ?_)|(refine W_uA ?_)|(refine W_uB ?_)|(refine W_aI ?_)|(refine W_aL ?_)|(refine W_ca3 ?_)|(refine W_ce3 ?_)|(refine W_ca4 ?_)|(refine W_ce4 ?_)|(refine W_ca5 ?_)|(refine W_ce5 ?_)|(refine W_ca6 ?_)|(refine W_ce6 ?_)|(refine W_ca7 ?_)|(refine W_ce7 ?_)|(refine W_ca8 ?_)|(refine W_ce8 ?_)|(refine W_unCons ?_)|(refine W_unNil ?_)|(refine W_asInt ?_)|(refine W_asStr ?_)|(refine W_asSl ?_)|(refine W_asAgg ?_)|(refine W_kd ?_)|(refine W_z ?_)))
    refine W_yes (by omega) ?_
    have e1:IntKind.i64.wrap (n-1)=n-1:=wrap_id (by omega)
    rw[e1]
    exact st_loop hS hdd hT hKo j _ _ _ _ _ b9 (by omega) (by omega) (by simp;omega) (by simp) b3 (by omega) (by omega) b6 b7 (mem_snoc a10 b1') (head_snoc a11 (fun _=>b2))
   ·refine W_no hl ?_
    have hacc:acc≠[]:=fun h=>by have:=(a4 h).1;omega
    have hlen:((acc.length:Nat):Int)≠0:=fun h=>hacc (List.eq_nil_of_length_eq_zero (by omega))
    refine W_eqN hlen ?_
    exact hKo left all i acc a0 a5 a6 a7 a8 a9 (by omega) a10 a11 hacc
  ·exact W_no hn (hKo left all i acc a0 a5 a6 a7 a8 a9 (by omega) a10 a11 (fun h=>by have:=(a4 h).2;omega))
theorem st_ok{d:Nat}(hk:1000≤k)(hd:d≤3)(hN:NextS G)(hDg:DigS G)(hS:∀d',d=d'+1→StOK d' G):StOK d (fun _ args (K:LV→OV R)=>g56 G k args K):=by
 intro b a p c s all L n left i K hn h1 h2 h3 h3' h4
 show W _ K (f56 G k n b a p c s left all L i K)
 unfold f56
 have e1:IntKind.i64.wrap (left-1)=left-1:=wrap_id (by omega)
 rw[e1]
 have s115:ByteArray.size ⟨#[115]⟩=1:=by decide
 have s104:ByteArray.size ⟨#[104]⟩=1:=by decide
 rw[s115,s104]
 unfold NextS at hN;unfold DigS at hDg
 have dsz:∀m,(digB m).size≤30:=fun m=>Nat.le_trans (decD_size (d:=3)) (by omega)
 have ddsz:∀m,(digB m).size≤3:=fun m=>decD_size (d:=3)
 refine W_call (hDg _ _ (by omega) (by omega)) ?_
 rintro _ rfl
 have t1s:=dsz ((all.length:Int).toNat)
 have t1s':=ddsz ((all.length:Int).toNat)
 refine W_uS (W_unNil (W_yes (by omega) (W_yes (by omega) ?_)))
 refine W_call (hDg _ _ (by omega) (by omega)) ?_
 rintro _ rfl
 refine W_uS (W_unNil (W_yes (by omega) ?_))
 have t1p:=pre_strs (c:=115) t1s
 have hall:=nms_snoc h3 t1p.1 t1p.2
 have leaf:StateS 0 (d+1) (.agg [.int .i64 1,.str (⟨#[115]⟩++digB (Int.toNat all.length)),.sl 8 [],.sl 8 [],.sl 5 [],.sl 7 [],.int .i64 0]):=state_mk t1p.1 t1p.2 ⟨by omega,by omega⟩ (by simp) (by simp) (fun _=>rfl) (by simp) (by omega)
 have hlen:left-1+((all++[V.str (⟨#[115]⟩++digB (Int.toNat all.length))]).length:Int)=left+all.length:=by simp;omega
 have hni:NmI (all++[V.str (⟨#[115]⟩++digB (Int.toNat all.length))]):=nmI_snoc h3' (.inl rfl)
 have hsz:all++[V.str (⟨#[115]⟩++digB (Int.toNat all.length))]=all++nmV (d+1) (.agg [.int .i64 1,.str (⟨#[115]⟩++digB (Int.toNat all.length)),.sl 8 [],.sl 8 [],.sl 5 [],.sl 7 [],.int .i64 0])∧NmI (all++[V.str (⟨#[115]⟩++digB (Int.toNat all.length))]):=⟨rfl,hni⟩
 by_cases hd0:n>0
 ·obtain⟨d',rfl⟩:∃d',d=d'+1:=⟨d-1,by omega⟩
  have hdd:IntKind.i64.wrap (n-1)=(d':Int):=by rw[wrap_id (by omega)];omega
  refine W_yes hd0 ?_
  refine W_dec (fun hl=> ?_) (fun _=>W_ret ⟨_,_,_,_,rfl,leaf,by simp[kindV],by omega,by omega,hlen,hall,h4,hsz.1,hsz.2⟩)
  refine W_call (hN _ _ _ _ (by omega) (by omega) h4) ?_
  rintro _ ⟨x1,i1,rfl,x11,x12,r1⟩
  refine W_uI (W_uI (W_unNil ?_))
  refine W_dec (fun hx1=> ?_) (fun _=>W_ret ⟨_,_,_,_,rfl,leaf,by simp[kindV],by omega,by omega,hlen,hall,r1,hsz.1,hsz.2⟩)
  refine W_call (hN _ _ _ _ (by omega) (by omega) r1) ?_
  rintro _ ⟨x2,i2,rfl,x21,x22,r2⟩
  refine W_uI (W_uI (W_unNil ?_))
  refine W_beqI (fun _=> ?_) (fun _=> ?_)
  all_goals
   refine W_call (hN _ _ _ _ (by omega) (by omega) r2) ?_
   rintro _ ⟨x3,i3,rfl,x31,x32,r3⟩
   refine W_uI (W_uI (W_unNil ?_))
   have e2:IntKind.i64.wrap (1+x3)=1+x3:=wrap_id (by omega)
   rw[e2]
   unfold l56_0
   refine st_loop (m:=left-1) (all0:=all++[V.str (⟨#[115]⟩++digB (Int.toNat all.length))]) (hS d' rfl) hdd h2 ?_ k _ _ _ _ _ ⟨by simp[nmVL],hni⟩ (by omega) (by omega) (by simp;omega) (fun _=>⟨by omega,by omega⟩) (by omega) (by omega) hlen hall r3 (by simp) (by simp)
   intro left' all' j' kids c0 c1 c2 c3 c4 c5 c6 c7 c8 c9
   have fin:∀(K':LV→OV R) kd,K'=K→(kd=1∨kd=2)→∀jj,RowS L jj→W (fun o=>∃x left'' all'' j,o=[x,.int .i64 left'',.sl 1 all'',.int .i64 j]∧StateS 0 (d'+1+1) x∧kindV x≤2∧0≤left''∧left''<left∧left''+(all''.length:Int)=left+all.length∧NmsS all''∧RowS L j∧all''=all++nmV (d'+1+1) x∧NmI all'') K
    (K [.agg [.int .i64 kd,.str (⟨#[115]⟩++digB (Int.toNat all.length)),.sl 8 [],.sl 8 [],.sl 5 [],.sl 7 kids,.int .i64 0],.int .i64 left',.sl 1 all',.int .i64 jj]):=by
    intro K' kd _ hkd jj hjj
    exact W_ret ⟨_,_,_,_,rfl,state_mk t1p.1 t1p.2 ⟨by omega,by omega⟩ (by omega) c7 (by omega) c8 (fun _=>c9),by simp[kindV];omega,c1,by omega,by omega,c4,hjj,by rw[←c0.1,List.append_assoc];rfl,c0.2⟩
   refine W_dec (fun hl1=> ?_) (fun _=>fin K _ rfl (by omega) _ c5)
   refine W_call (hN _ _ _ _ (by omega) (by omega) c5) ?_
   rintro _ ⟨x4,i4,rfl,x41,x42,r4⟩
   refine W_uI (W_uI (W_unNil ?_))
   refine W_beqI (fun _=> ?_) (fun _=>fin K _ rfl (by omega) _ r4)
   refine W_call (hN _ _ _ _ (by omega) (by omega) r4) ?_
   rintro _ ⟨x5,i5,rfl,x51,x52,r5⟩
   refine W_uI (W_uI (W_unNil ?_))
   refine W_call (hDg _ _ (by omega) (by omega)) ?_
   rintro _ rfl
   have t3s:=dsz ((all'.length:Int).toNat)
   have t3s':=ddsz ((all'.length:Int).toNat)
   have t3p:=pre_strs (c:=104) t3s
   refine W_uS (W_unNil (W_yes (by omega) (W_yes (by omega) (W_yes (by omega) ?_))))
   have e3:IntKind.i64.wrap (3+x5)=3+x5:=wrap_id (by omega)
   have e4:IntKind.i64.wrap (left'-1)=left'-1:=wrap_id (by omega)
   rw[e3,e4]
   exact W_ret ⟨_,_,_,_,rfl,state_mk t1p.1 t1p.2 ⟨by omega,by omega⟩ (by simp;omega) (mem_snoc c7 (state_mk t3p.1 t3p.2 ⟨by omega,by omega⟩ (by simp) (by simp) (fun _=>rfl) (by simp) (by omega))) (by omega) (head_snoc c8 (fun h=>absurd h c9)) (fun _=>by simp),by simp[kindV],by omega,by omega,by simp;omega,nms_snoc c4 t3p.1 t3p.2,r5,by rw[←c0.1];simp[nmV,nmVL,stKids],nmI_snoc c0.2 (.inr rfl)⟩
 ·exact W_no hd0 (W_ret ⟨_,_,_,_,rfl,leaf,by simp[kindV],by omega,by omega,hlen,hall,h4,hsz.1,hsz.2⟩)
end
section
variable {R : Type} {G : ORC R} {k : Nat} {K : LV → OV R}
def FillOK(d:Nat)(G:ORC R):Prop:=∀(x:V) (a p c s all L:LV) (left i:Int) (K:LV→OV R),StateS 0 d x→StrsS 100 a→StrsS 100 p→StrsS 100 c→StrsS 100 s→NmsS all→all.length≤20→RowS L i→
 W (fun o=>∃y j,o=[y,.int .i64 left,.int .i64 j]∧StateS 2 d y∧kindV y=kindV x∧RowS L j∧nmV d y=nmV d x) K
   (G 57 [x,.sl 1 a,.sl 1 p,.sl 1 c,.sl 1 s,.int .i64 left,.sl 1 all,.sl 1 L,.int .i64 i] K)
theorem trans_mk{ev tg:ByteArray}{gd acts:LV}(h1:StrS ev)(h2:StrS tg)(h3:gd.length≤1)(h4:∀e∈gd,ExprS 3 e)(h5:BlockS 3 acts):TransS (.agg [.str ev,.sl 5 gd,.str tg,.sl 8 acts,.int .i64 0]):=⟨ev,gd,tg,acts,rfl,h1,h2,h3,h4,h5⟩
theorem tr_round(hN:NextS G)(hPk:PickS G)(hEv:EventS G)(hE:ExprOK 2 G)(hB:BlockOK 2 G){Q:LV→Prop}{K:LV→OV R}{a p c s all L h1 h2 h3 h4 en ex tr kids:LV}{left h0 h5 kind z n i:Int}{hs nm:ByteArray}
 (X:Int→LV→LV→LV→LV→Int→LV→LV→Int→Int→ByteArray→LV→LV→LV→LV→Int→Int→ByteArray→LV→LV→LV→LV→Int→OV R) (Ko:LV→LV→LV→LV→Int→LV→LV→Int→Int→ByteArray→LV→LV→LV→LV→Int→Int→ByteArray→LV→LV→LV→LV→Int→OV R)
 (ha:StrsS 100 a) (hp:StrsS 100 p) (hc:StrsS 100 c) (hss:StrsS 100 s) (hal:StrsS 100 all) (hr:RowS L i) (hn:n>0) (htr:tr.length≤2)
 (hX1:∀v j,TransS v→RowS L j→W Q K (X (IntKind.i64.wrap (n-1)) a p c s left all L j kind nm en ex (tr++[v]) kids z h0 hs h1 h2 h3 h4 h5)):
 W Q K (b57_0 G k X Ko n a p c s left all L i kind nm en ex tr kids z h0 hs h1 h2 h3 h4 h5):=by
 unfold b57_0
 unfold NextS at hN;unfold PickS at hPk;unfold EventS at hEv;unfold ExprOK at hE;unfold BlockOK at hB
 refine W_yes hn ?_
 repeat' (first
  |with_reducible (first|(refine W_uI ?_)|(refine W_uS ?_)|(refine W_uL ?_)|(refine W_uA ?_)|(refine W_uB ?_)|(refine W_aI ?_)|(refine W_aL ?_)|(refine W_ca3 ?_)|(refine W_ce3 ?_)|(refine W_ca4 ?_)|(refine W_ce4 ?_)|(refine W_ca5 ?_)|(refine W_ce5 ?_)|(refine W_ca6 ?_)|(refine W_ce6 ?_)|(refine W_ca7 ?_)|(refine W_ce7 ?_)|(refine W_ca8 ?_)|(refine W_ce8 ?_)|(refine W_unCons ?_)|(refine W_unNil ?_)|(refine W_asInt ?_)|(refine W_asStr ?_)|(refine W_asSl ?_)|(refine W_asAgg ?_)|(refine W_kd ?_)|(refine W_z ?_))
  |((with_reducible (refine W_call (hN _ _ _ _ ?_ ?_ (by assumption)) ?_));omega;omega;rintro _ ⟨_,_,rfl,_,_,_⟩)
  |((with_reducible (refine W_call (hPk _ _ _ _ 100 _ (by assumption) ?_ strs0 (by assumption)) ?_));omega;rintro _ ⟨_,_,rfl,_,_,_⟩)
  |((with_reducible (refine W_call (hEv _ _) ?_));rintro _ ⟨_,rfl,_⟩)
  |((with_reducible (refine W_call (hE _ _ _ _ _ _ _ _ ?_ (by assumption) (by assumption) (by assumption)) ?_));(rfl);rintro _ ⟨_,_,rfl,he,_⟩;have he2:=one_mem he;obtain⟨_,_,_,_,rfl,_⟩:=he)
  |((with_reducible (refine W_call (hB _ _ _ _ _ _ _ _ ?_ (by assumption) (by assumption) (by assumption) (by assumption) (by assumption)) ?_));(rfl);rintro _ ⟨_,_,rfl,_,_⟩)
  |((with_reducible (refine W_yes ?_ ?_));omega)
  |(with_reducible (refine W_dec (fun _=> ?_) (fun _=> ?_)))|(with_reducible (refine W_beqI (fun _=> ?_) (fun _=> ?_)))
  |((with_reducible (refine hX1 _ _ ?_ (by assumption)));
    exact trans_mk (by first|assumption|exact strs0) (by first|assumption|exact strs0) (by first|exact Nat.le_refl 1|exact Nat.zero_le 1) (by first|assumption|simp) (by first|assumption|exact block0)))
theorem tr_loop(hN:NextS G)(hPk:PickS G)(hEv:EventS G)(hE:ExprOK 2 G)(hB:BlockOK 2 G){Q:LV→Prop}{K:LV→OV R}{a p c s all L h1 h2 h3 h4 en ex kids:LV}{left h0 h5 kind z:Int}{hs nm:ByteArray}
 {Ko:LV→LV→LV→LV→Int→LV→LV→Int→Int→ByteArray→LV→LV→LV→LV→Int→Int→ByteArray→LV→LV→LV→LV→Int→OV R}
 (ha:StrsS 100 a) (hp:StrsS 100 p) (hc:StrsS 100 c) (hss:StrsS 100 s) (hal:StrsS 100 all)
 (hKo:∀tr j,tr.length≤2→(∀t∈tr,TransS t)→RowS L j→W Q K (Ko a p c s left all L j kind nm en ex tr kids z h0 hs h1 h2 h3 h4 h5)):
 ∀(j:Nat) (n i:Int) (tr:LV),n<j→0≤n→(tr.length:Int)+n≤2→(∀t∈tr,TransS t)→RowS L i→W Q K (l57_0g G k Ko j n a p c s left all L i kind nm en ex tr kids z h0 hs h1 h2 h3 h4 h5)
 |0,n,i,tr,a1,a2,a3,a4,a5=>by omega
 |j+1,n,i,tr,a1,a2,a3,a4,a5=>by
  show W Q K (b57_0 G k (l57_0g G k Ko j) Ko n a p c s left all L i kind nm en ex tr kids z h0 hs h1 h2 h3 h4 h5)
  by_cases hn:n>0
  ·refine tr_round hN hPk hEv hE hB _ _ ha hp hc hss hal a5 hn (by omega) (fun v j' hv hj=> ?_)
   rw[wrap_id (n:=n-1) (by omega)]
   exact tr_loop hN hPk hEv hE hB ha hp hc hss hal hKo j _ _ _ (by omega) (by omega) (by simp;omega) (mem_snoc a4 hv) hj
  ·unfold b57_0
   exact W_no hn (hKo tr i (by omega) a4 a5)
theorem set2{A B:LV}{b u y:V}:List.set (List.set (A++b::B) A.length u) A.length y=A++y::B:=by simp
def kn(d:Nat)(v:V):Int×LV:=(kindV v,nmV d v)
theorem kn_eq{d:Nat}{x y:V}(h:kindV y=kindV x)(h':nmV d y=nmV d x):kn d y=kn d x:=Prod.ext h h'
theorem kid_loop{d:Nat}(hF:FillOK d G){Q:LV→Prop}{K:LV→OV R}{a p c s all L h1 h2 h3 h4 en ex tr:LV}{left h0 h5 kind z:Int}{hs nm:ByteArray}{ks:List (Int×LV)}
 {Ko:LV→LV→LV→LV→Int→LV→LV→Int→Int→ByteArray→LV→LV→LV→LV→Int→Int→ByteArray→LV→LV→LV→LV→Int→OV R}
 (ha:StrsS 100 a) (hp:StrsS 100 p) (hc:StrsS 100 c) (hss:StrsS 100 s) (hal:NmsS all) (hal2:all.length≤20)
 (hKo:∀kids j,kids.map (kn d)=ks→(∀t∈kids,StateS 2 d t)→RowS L j→W Q K (Ko a p c s left all L j kind nm en ex tr kids z h0 hs h1 h2 h3 h4 h5)):
 ∀(B A:LV) (j:Nat) (i:Int),B.length<j→A.length+B.length≤4→(∀t∈A,StateS 2 d t)→(∀t∈B,StateS 0 d t)→(A++B).map (kn d)=ks→RowS L i→
  W Q K (l57_2g G k Ko j (A.length:Int) a p c s left all L i kind nm en ex tr (A++B) z h0 hs h1 h2 h3 h4 h5)
 |B,A,0,i,a1,a2,a3,a4,a5,a6=>by omega
 | [],A,j+1,i,a1,a2,a3,a4,a5,a6=>by
   show W Q K (b57_2 G k (l57_2g G k Ko j) Ko (A.length:Int) a p c s left all L i kind nm en ex tr (A++[]) z h0 hs h1 h2 h3 h4 h5)
   unfold b57_2
   refine W_no (by simp) ?_
   rw[List.append_nil]at a5 ⊢
   exact hKo A i a5 a3 a6
 |b::B,A,j+1,i,a1,a2,a3,a4,a5,a6=>by
  show W Q K (b57_2 G k (l57_2g G k Ko j) Ko (A.length:Int) a p c s left all L i kind nm en ex tr (A++b::B) z h0 hs h1 h2 h3 h4 h5)
  unfold b57_2
  simp only[List.length_cons]at a1 a2
  have hlt:(A.length:Int)<(((A++b::B).length:Nat):Int):=by simp;omega
  refine W_yes hlt (W_and (W_yes (by omega) (W_yes hlt ?_)))
  refine W_nth (by omega) (fun v hv _=> ?_)
  have hvb:v=b:=by simp at hv;exact hv.symm
  subst hvb
  have hb:=a4 v List.mem_cons_self
  have hbk:=hb
  cases d with
  |zero=>exact hb.elim
  |succ d=>
  obtain⟨_,_,_,_,_,_,rfl,_⟩:=hb
  refine W_asAgg ?_
  refine W_call (hF _ a p c s all L left i _ hbk ha hp hc hss hal hal2 a6) ?_
  rintro _ ⟨y,j',rfl,b1,b2,b3,b4⟩
  have b5:=kn_eq b2 b4
  have b1':=b1
  obtain⟨_,_,_,_,_,_,rfl,_⟩:=b1
  repeat (with_reducible (first|(refine W_uI ?_)|(refine W_uS ?_)|(refine W_uL ?_)|(refine W_uA ?_)|(refine W_uB ?_)|(refine W_aI ?_)|(refine W_aL ?_)|(refine W_ca3 ?_)|(refine W_ce3 ?_)|(refine W_ca4 ?_)|(refine W_ce4 ?_)|(refine W_ca5 ?_)|(refine W_ce5 ?_)|(refine W_ca6 ?_)|(refine W_ce6 ?_)|(refine W_ca7 ?_)|(refine W_ce7 ?_)|(refine W_ca8 ?_)|(refine W_ce8 ?_)|(refine W_unCons ?_)|(refine W_unNil ?_)|(refine W_asInt ?_)|(refine W_asStr ?_)|(refine W_asSl ?_)|(refine W_asAgg ?_)|(refine W_kd ?_)|(refine W_z ?_)))
  rw[Int.toNat_natCast,set2]
  refine W_and (W_yes (by omega) (W_yes (by rw[List.length_set];exact hlt) ?_))
  refine W_nth (by rw[List.length_set];omega) (fun v _ _=> ?_)
  rw[wrap_id (n:=(A.length:Int)+1) (by omega)]
  have e:=kid_loop hF (kind:=kind) (z:=z) (h0:=h0) (h5:=h5) (hs:=hs) (nm:=nm) (h1:=h1) (h2:=h2) (h3:=h3) (h4:=h4) (en:=en) (ex:=ex) (tr:=tr) (left:=left) ha hp hc hss hal hal2 hKo B (A++[_]) j j' (by omega) (by simp;omega) (mem_snoc a3 b1') (fun t ht=>a4 t (List.mem_cons_of_mem _ ht)) (by rw[←a5];simp only[List.append_assoc,List.singleton_append,List.map_append,List.map_cons];rw[b5]) b3
  simp only[List.append_assoc,List.singleton_append,List.length_append,List.length_cons,List.length_nil,Nat.zero_add,Int.natCast_add,Int.natCast_one]at e
  exact e
theorem fill_ok{d:Nat}(hk:1000≤k)(hN:NextS G)(hPk:PickS G)(hEv:EventS G)(hE:ExprOK 2 G)(hB2:BlockOK 2 G)(hB1:BlockOK 1 G)(hF:∀d',d=d'+1→FillOK d' G):FillOK d (fun _ args (K:LV→OV R)=>g57 G k args K):=by
 intro x a p c s all L left i K hx ha hp hc hs hal hal2 hr
 cases d with
 |zero=>exact hx.elim
 |succ d=>
 have hx2:=hx
 obtain⟨kind,nm,en,ex,tr,kids,rfl,x1,x2,x3,x4,x5,x6,x7,x8,x9,x10,x11,x12,x13⟩:=hx
 show W _ K (f57 G k kind nm en ex tr kids 0 a p c s left all L i K)
 unfold f57
 have htr:tr=[]:=List.eq_nil_of_length_eq_zero (by omega)
 subst htr
 refine W_dec (fun h=>W_ret ⟨_,_,rfl,StateS.le (by omega) hx2,rfl,hr,rfl⟩) (fun h=> ?_)
 have hal3:StrsS 100 all:=⟨by omega,fun v hv=>by obtain⟨s,e,h,_⟩:=hal v hv;exact⟨s,e,h⟩⟩
 unfold NextS at hN;unfold BlockOK at hB1
 have fin:∀(kids' en' ex' tr':LV) (j:Int),kids'.map (kn d)=kids.map (kn d)→(∀t∈kids',StateS 2 d t)→RowS L j→BlockS 2 en'→BlockS 2 ex'→tr'.length≤2→(∀t∈tr',TransS t)→
  W (fun o=>∃y j,o=[y,.int .i64 left,.int .i64 j]∧StateS 2 (d+1) y∧kindV y=kindV (.agg [.int .i64 kind,.str nm,.sl 8 en,.sl 8 ex,.sl 5 [],.sl 7 kids,.int .i64 0])∧RowS L j∧nmV (d+1) y=nmV (d+1) (.agg [.int .i64 kind,.str nm,.sl 8 en,.sl 8 ex,.sl 5 [],.sl 7 kids,.int .i64 0])) K
    (K [.agg [.int .i64 kind,.str nm,.sl 8 en',.sl 8 ex',.sl 5 tr',.sl 7 kids',.int .i64 0],.int .i64 left,.int .i64 j]):=by
  intro kids' en' ex' tr' j b1 b2 b3 b4 b5 b6 b7
  have hl:kids'.length=kids.length:=by have:=congrArg List.length b1;simpa using this
  refine W_ret ⟨_,_,rfl,⟨kind,nm,en',ex',tr',kids',rfl,x1,x2,x3,x4,b4,b5,b6,b7,by omega,b2,fun h'=>absurd h' h,?_,fun h' e=>x13 h' (List.eq_nil_of_length_eq_zero (by rw[←hl,e];rfl))⟩,rfl,b3,?_⟩
  rotate_left
  ·have e2:=congrArg (List.map Prod.snd) b1
   simp only[List.map_map]at e2
   exact congrArg (fun l:List (LV)=>V.str nm::l.flatten) e2
  intro v r e
  cases kids with
  |nil=>rw[e]at hl;simp at hl
  |cons u us=>
   rw[e]at b1;simp[kn]at b1
   rw[b1.1.1];exact x12 u us rfl
 have go:∀(en' ex':LV) (n j:Int) (Kx:LV→OV R),RowS L j→0≤n→n≤2→BlockS 2 en'→BlockS 2 ex'→
  W (fun o=>∃y j,o=[y,.int .i64 left,.int .i64 j]∧StateS 2 (d+1) y∧kindV y=kindV (.agg [.int .i64 kind,.str nm,.sl 8 en,.sl 8 ex,.sl 5 [],.sl 7 kids,.int .i64 0])∧RowS L j∧nmV (d+1) y=nmV (d+1) (.agg [.int .i64 kind,.str nm,.sl 8 en,.sl 8 ex,.sl 5 [],.sl 7 kids,.int .i64 0])) K
    (l57_0 G k n a p c s left all L j kind nm en' ex' [] kids 0 0 ⟨#[]⟩ [] [] [] [] 0 (fun yl390 yl391 yl392 yl393 yi394 yl395 yl396 yi397 yi398 ys399 yl400 yl401 yl402 yl403 yi404 yi405 ys406 yl407 yl408 yl409 yl410 yi411=>(l57_2 G k (0:Int) yl390 yl391 yl392 yl393 yi394 yl395 yl396 yi397 yi398 ys399 yl400 yl401 yl402 yl403 yi404 yi405 ys406 yl407 yl408 yl409 yl410 yi411 (fun yl477 yl478 yl479 yl480 yi481 yl482 yl483 yi484 yi485 ys486 yl487 yl488 yl489 yl490 yi491 yi492 ys493 yl494 yl495 yl496 yl497 yi498=>(K [(.agg [(.int .i64 yi485),(.str ys486),(.sl 8 yl487),(.sl 8 yl488),(.sl 5 yl489),(.sl 7 yl490),(.int .i64 yi491)]),(.int .i64 yi481),(.int .i64 yi484)]))))):=by
  intro en' ex' n j _ b1 b2 b3 b4 b5
  unfold l57_0
  refine tr_loop hN hPk hEv hE hB2 ha hp hc hs hal3 ?_ k n j [] (by omega) b2 (by simp;omega) (by simp) b1
  intro tr' j' c1 c2 c3
  unfold l57_2
  have e:=kid_loop (Q:=fun o=>∃y j,o=[y,.int .i64 left,.int .i64 j]∧StateS 2 (d+1) y∧kindV y=kindV (.agg [.int .i64 kind,.str nm,.sl 8 en,.sl 8 ex,.sl 5 [],.sl 7 kids,.int .i64 0])∧RowS L j∧nmV (d+1) y=nmV (d+1) (.agg [.int .i64 kind,.str nm,.sl 8 en,.sl 8 ex,.sl 5 [],.sl 7 kids,.int .i64 0])) (K:=K) (k:=k) (hF d rfl) (kind:=kind) (z:=0) (h0:=0) (h5:=0) (hs:=⟨#[]⟩) (nm:=nm) (h1:=[]) (h2:=[]) (h3:=[]) (h4:=[]) (en:=en') (ex:=ex') (tr:=tr') (left:=left) (ks:=kids.map (kn d))
   (Ko:=(fun yl477 yl478 yl479 yl480 yi481 yl482 yl483 yi484 yi485 ys486 yl487 yl488 yl489 yl490 yi491 yi492 ys493 yl494 yl495 yl496 yl497 yi498=>(K [(.agg [(.int .i64 yi485),(.str ys486),(.sl 8 yl487),(.sl 8 yl488),(.sl 5 yl489),(.sl 7 yl490),(.int .i64 yi491)]),(.int .i64 yi481),(.int .i64 yi484)])))
   ha hp hc hs hal hal2 (fun kids' j'' d1 d2 d3=>fin kids' en' ex' tr' j'' d1 d2 d3 b4 b5 c1 c2) kids [] k j' (by omega) (by simpa using x9) (by simp) x10 rfl c3
  exact e
 refine W_call (hN _ _ _ _ (by omega) (by omega) hr) ?_
 rintro _ ⟨y1,i1,rfl,y11,y12,r1⟩
 refine W_uI (W_uI (W_unNil ?_))
 have last:∀(en' ex':LV) (j:Int),RowS L j→BlockS 2 en'→BlockS 2 ex'→∀(F:LV→OV R),(∀n j',F [.int .i64 n,.int .i64 j']=(l57_0 G k n a p c s left all L j' kind nm en' ex' [] kids 0 0 ⟨#[]⟩ [] [] [] [] 0 (fun yl390 yl391 yl392 yl393 yi394 yl395 yl396 yi397 yi398 ys399 yl400 yl401 yl402 yl403 yi404 yi405 ys406 yl407 yl408 yl409 yl410 yi411=>(l57_2 G k (0:Int) yl390 yl391 yl392 yl393 yi394 yl395 yl396 yi397 yi398 ys399 yl400 yl401 yl402 yl403 yi404 yi405 ys406 yl407 yl408 yl409 yl410 yi411 (fun yl477 yl478 yl479 yl480 yi481 yl482 yl483 yi484 yi485 ys486 yl487 yl488 yl489 yl490 yi491 yi492 ys493 yl494 yl495 yl496 yl497 yi498=>(K [(.agg [(.int .i64 yi485),(.str ys486),(.sl 8 yl487),(.sl 8 yl488),(.sl 5 yl489),(.sl 7 yl490),(.int .i64 yi491)]),(.int .i64 yi481),(.int .i64 yi484)]))))))→
  W (fun o=>∃y j,o=[y,.int .i64 left,.int .i64 j]∧StateS 2 (d+1) y∧kindV y=kindV (.agg [.int .i64 kind,.str nm,.sl 8 en,.sl 8 ex,.sl 5 [],.sl 7 kids,.int .i64 0])∧RowS L j∧nmV (d+1) y=nmV (d+1) (.agg [.int .i64 kind,.str nm,.sl 8 en,.sl 8 ex,.sl 5 [],.sl 7 kids,.int .i64 0])) K (G 26 [.int .i64 3,.sl 1 L,.int .i64 j] F):=by
  intro en' ex' j b1 b2 b3 F hFe
  refine W_call (hN _ _ _ _ (by omega) (by omega) b1) ?_
  rintro _ ⟨n,i1,rfl,n1,n2,r1⟩
  rw[hFe]
  exact go en' ex' n i1 K r1 n1 (by omega) b2 b3
 refine W_beqI (fun _=> ?_) (fun _=> ?_)
 ·refine W_call (hB1 _ _ _ _ _ _ _ _ (by rfl) ha hp hc hs r1) ?_
  rintro _ ⟨en',i2,rfl,he,r2⟩
  refine W_uL (W_uI (W_unNil ?_))
  refine W_call (hN _ _ _ _ (by omega) (by omega) r2) ?_
  rintro _ ⟨y2,i3,rfl,y21,y22,r3⟩
  refine W_uI (W_uI (W_unNil ?_))
  refine W_beqI (fun _=> ?_) (fun _=> ?_)
  ·refine W_call (hB1 _ _ _ _ _ _ _ _ (by rfl) ha hp hc hs r3) ?_
   rintro _ ⟨ex',i4,rfl,hex,r4⟩
   refine W_uL (W_uI (W_unNil ?_))
   exact last en' ex' i4 r4 he hex _ (fun n j'=>rfl)
  ·exact last en' ex i3 r3 he x6 _ (fun n j'=>rfl)
 ·refine W_call (hN _ _ _ _ (by omega) (by omega) r1) ?_
  rintro _ ⟨y2,i3,rfl,y21,y22,r3⟩
  refine W_uI (W_uI (W_unNil ?_))
  refine W_beqI (fun _=> ?_) (fun _=> ?_)
  ·refine W_call (hB1 _ _ _ _ _ _ _ _ (by rfl) ha hp hc hs r3) ?_
   rintro _ ⟨ex',i4,rfl,hex,r4⟩
   refine W_uL (W_uI (W_unNil ?_))
   exact last en ex' i4 r4 x5 hex _ (fun n j'=>rfl)
  ·exact last en ex i3 r3 x5 x6 _ (fun n j'=>rfl)
end
section
variable {R : Type} {G : ORC R} {k : Nat}
def ChartOK(G:ORC R):Prop:=∀(nm:ByteArray) (np:Int) (L:LV) (i:Int) (K:LV→OV R),StrS nm→0≤np→np≤100→RowS L i→
 W (fun o=>∃c j,o=[c,.int .i64 j]∧ChartS c∧RowS L j) K (G 24 [.str nm,.int .i64 np,.sl 1 L,.int .i64 i] K)
variable {Q : LV → Prop} {K : LV → OV R} {L a p c q1 q2 q3 q4 vars ports timers : LV} {s1 nm : ByteArray} {z1 z2 z3 z4 st fu : Int}
theorem chart_loop0(hS:StOK 2 G){Ko:LV→Int→ByteArray→Int→Int→LV→LV→LV→LV→Int→ByteArray→Int→Int→LV→LV→LV→LV→Int→LV→LV→LV→LV→Int→LV→OV R}
 {s:LV} {T:Int} (hT:T≤20)
 (hKo:∀states j left all,(nmVL 3 states=all∧NmI all)→states.length≤2→states≠[]→(∀v∈states,StateS 0 3 v∧kindV v≤2)→0≤left→left+(List.length all:Int)=T→NmsS all→RowS L j→W Q K (Ko L j s1 z1 z2 q1 q2 q3 q4 z3 nm st fu vars ports timers states z4 a p c s left all)):
 ∀(j:Nat) (n i left:Int) (states all:LV),(nmVL 3 states=all∧NmI all)→n<j→0≤n→(states.length:Int)+n≤2→(states=[]→1≤left∧0<n)→0≤left→left+(List.length all:Int)=T→NmsS all→RowS L i→(∀v∈states,StateS 0 3 v∧kindV v≤2)→
  W Q K (l24_0g G k Ko j n L i s1 z1 z2 q1 q2 q3 q4 z3 nm st fu vars ports timers states z4 a p c s left all)
 |0,n,i,left,states,all,a0,a1,a2,a3,a4,a5,a6,a7,a8,a9=>by omega
 |j+1,n,i,left,states,all,a0,a1,a2,a3,a4,a5,a6,a7,a8,a9=>by
  show W Q K (b24_0 G k (l24_0g G k Ko j) Ko n L i s1 z1 z2 q1 q2 q3 q4 z3 nm st fu vars ports timers states z4 a p c s left all)
  unfold b24_0
  by_cases hn:n>0
  ·refine W_yes hn ?_
   by_cases hl:left>0
   ·refine W_yes hl ?_
    refine W_call (hS false a p c s all L _ left i _ (by rfl) (by omega) (by omega) a7 a0.2 a8) ?_
    rintro _ ⟨x,left',all',j',rfl,b1,b2,b3,b4,b5,b6,b7,b8,b8'⟩
    have b1':=b1
    have b9:nmVL 3 (states++[x])=all'∧NmI all':=⟨by rw[nmVL_app,a0.1,b8];simp[nmVL],b8'⟩
    obtain⟨_,_,_,_,_,_,rfl,_⟩:=b1
    repeat (with_reducible (first|(refine W_uI ?_)|(refine W_uS ?_)|(refine W_uL ?_)|(refine W_uA ?_)|(refine W_uB ?_)|(refine W_aI ?_)|(refine W_aL ?_)|(refine W_ca3 ?_)|(refine W_ce3 ?_)|(refine W_ca4 ?_)|(refine W_ce4 ?_)|(refine W_ca5 ?_)|(refine W_ce5 ?_)|(refine W_ca6 ?_)|(refine W_ce6 ?_)|(refine W_ca7 ?_)|(refine W_ce7 ?_)|(refine W_ca8 ?_)|(refine W_ce8 ?_)|(refine W_unCons ?_)|(refine W_unNil ?_)|(refine W_asInt ?_)|(refine W_asStr ?_)|(refine W_asSl ?_)|(refine W_asAgg ?_)|(refine W_kd ?_)|(refine W_z ?_)))
    refine W_yes (by omega) ?_
    have e1:IntKind.i64.wrap (n-1)=n-1:=wrap_id (by omega)
    rw[e1]
    exact chart_loop0 hS hT hKo j _ _ _ _ _ b9 (by omega) (by omega) (by simp;omega) (by simp) b3 (by omega) b6 b7 (mem_snoc a9 ⟨b1',b2⟩)
   ·refine W_no hl ?_
    have hacc:states≠[]:=fun h=>by have:=(a4 h).1;omega
    have hlen:((states.length:Nat):Int)≠0:=fun h=>hacc (List.eq_nil_of_length_eq_zero (by omega))
    refine W_eqN hlen ?_
    exact hKo states i left all a0 (by omega) hacc a9 a5 a6 a7 a8
  ·exact W_no hn (hKo states i left all a0 (by omega) (fun h=>by have:=(a4 h).2;omega) a9 a5 a6 a7 a8)
theorem chart_loop2{Ko:LV→Int→ByteArray→Int→Int→LV→LV→LV→LV→Int→ByteArray→Int→Int→LV→LV→LV→LV→Int→LV→LV→LV→LV→Int→LV→OV R}
 {states all:LV} {at_ left:Int} (hall:NmsS all) (hlen:all.length≤20)
 (hKo:∀s,StrsS 20 s→W Q K (Ko L at_ s1 z1 z2 q1 q2 q3 q4 z3 nm st fu vars ports timers states z4 a p c s left all)):
 ∀(j:Nat) (i:Int) (s:LV),(all.length:Int)-i<j→0≤i→i≤all.length→StrsS i.toNat s→
  W Q K (l24_2g G k Ko j i L at_ s1 z1 z2 q1 q2 q3 q4 z3 nm st fu vars ports timers states z4 a p c s left all)
 |0,i,s,a1,a2,a3,a4=>by omega
 |j+1,i,s,a1,a2,a3,a4=>by
  show W Q K (b24_2 G k (l24_2g G k Ko j) Ko i L at_ s1 z1 z2 q1 q2 q3 q4 z3 nm st fu vars ports timers states z4 a p c s left all)
  unfold b24_2
  have hs:=a4.1
  refine W_dec (fun h=> ?_) (fun h=>hKo s ⟨by omega,a4.2⟩)
  have e1:IntKind.i64.wrap (i+1)=i+1:=wrap_id (by omega)
  rw[e1]
  refine W_and (W_yes a2 (W_yes h ?_))
  refine W_nth (by omega) (fun v hv hm=> ?_)
  obtain⟨t,rfl,t1,t2⟩:=hall v hm
  refine W_asStr (W_yes (by omega) ?_)
  refine W_beqI (fun _=> ?_) (fun _=> ?_)
  ·refine W_and (W_yes a2 (W_yes h ?_))
   refine W_nth (by omega) (fun w hw _=> ?_)
   rw[hv]at hw;cases hw
   refine W_asStr (W_yes (by omega) ?_)
   exact chart_loop2 hall hlen hKo j (i+1) _ (by omega) (by omega) (by omega) (by rw[show(i+1).toNat=i.toNat+1 by omega];exact strs_snoc a4 t1)
  ·exact chart_loop2 hall hlen hKo j (i+1) _ (by omega) (by omega) (by omega) ⟨by omega,a4.2⟩
theorem chart_loop4(hF:FillOK 3 G){Ko:LV→Int→ByteArray→Int→Int→LV→LV→LV→LV→Int→ByteArray→Int→Int→LV→LV→LV→LV→Int→OV R}
 {s all:LV} {left:Int} (ha:StrsS 100 a) (hp:StrsS 100 p) (hc:StrsS 100 c) (hs:StrsS 100 s) (hall:NmsS all) (hlen:all.length≤20) {m:Nat} {M:LV}
 (hKo:∀states j,states.length=m→nmVL 3 states=M→(∀v∈states,StateS 2 3 v∧kindV v≤2)→RowS L j→W Q K (Ko L j s1 z1 z2 q1 q2 q3 q4 z3 nm st fu vars ports timers states z4)):
 ∀(B A:LV) (j:Nat) (i:Int),B.length<j→A.length+B.length≤4→(∀v∈A,StateS 2 3 v∧kindV v≤2)→(∀v∈B,StateS 0 3 v∧kindV v≤2)→A.length+B.length=m→nmVL 3 (A++B)=M→RowS L i→
  W Q K (l24_4g G k Ko j (A.length:Int) L i s1 z1 z2 q1 q2 q3 q4 z3 nm st fu vars ports timers (A++B) z4 a p c s left all)
 |B,A,0,i,a1,a2,a3,a4,a5,aM,a6=>by omega
 | [],A,j+1,i,a1,a2,a3,a4,a5,aM,a6=>by
   show W Q K (b24_4 G k (l24_4g G k Ko j) Ko (A.length:Int) L i s1 z1 z2 q1 q2 q3 q4 z3 nm st fu vars ports timers (A++[]) z4 a p c s left all)
   unfold b24_4
   refine W_no (by simp) ?_
   rw[List.append_nil]at aM ⊢
   exact hKo A i (by simpa using a5) aM a3 a6
 |b::B,A,j+1,i,a1,a2,a3,a4,a5,aM,a6=>by
  show W Q K (b24_4 G k (l24_4g G k Ko j) Ko (A.length:Int) L i s1 z1 z2 q1 q2 q3 q4 z3 nm st fu vars ports timers (A++b::B) z4 a p c s left all)
  unfold b24_4
  simp only[List.length_cons]at a1 a2 a5
  have hlt:(A.length:Int)<(((A++b::B).length:Nat):Int):=by simp;omega
  refine W_yes hlt (W_and (W_yes (by omega) (W_yes hlt ?_)))
  refine W_nth (by omega) (fun v hv _=> ?_)
  have hvb:v=b:=by simp at hv;exact hv.symm
  subst hvb
  have hb:=a4 v List.mem_cons_self
  have hbk:=hb
  obtain⟨⟨_,_,_,_,_,_,rfl,_⟩,_⟩:=hb
  refine W_asAgg ?_
  refine W_call (hF _ a p c s all L left i _ hbk.1 ha hp hc hs hall hlen a6) ?_
  rintro _ ⟨y,j',rfl,b1,b2,b3,b4⟩
  have b1':=b1
  have b5:nmVL 3 ((A++[y])++B)=M:=by rw[←aM];simp only[nmVL,List.flatMap_append,List.flatMap_cons,List.flatMap_nil,List.append_nil,List.append_assoc];rw[b4]
  obtain⟨_,_,_,_,_,_,rfl,_⟩:=b1
  repeat (with_reducible (first|(refine W_uI ?_)|(refine W_uS ?_)|(refine W_uL ?_)|(refine W_uA ?_)|(refine W_uB ?_)|(refine W_aI ?_)|(refine W_aL ?_)|(refine W_ca3 ?_)|(refine W_ce3 ?_)|(refine W_ca4 ?_)|(refine W_ce4 ?_)|(refine W_ca5 ?_)|(refine W_ce5 ?_)|(refine W_ca6 ?_)|(refine W_ce6 ?_)|(refine W_ca7 ?_)|(refine W_ce7 ?_)|(refine W_ca8 ?_)|(refine W_ce8 ?_)|(refine W_unCons ?_)|(refine W_unNil ?_)|(refine W_asInt ?_)|(refine W_asStr ?_)|(refine W_asSl ?_)|(refine W_asAgg ?_)|(refine W_kd ?_)|(refine W_z ?_)))
  rw[Int.toNat_natCast,set2]
  refine W_and (W_yes (by omega) (W_yes (by rw[List.length_set];exact hlt) ?_))
  refine W_nth (by rw[List.length_set];omega) (fun v _ _=> ?_)
  rw[wrap_id (n:=(A.length:Int)+1) (by omega)]
  have e:=chart_loop4 hF (left:=left) ha hp hc hs hall hlen hKo B (A++[_]) j j' (by omega) (by simp;omega) (mem_snoc a3 ⟨b1',by rw[b2];exact hbk.2⟩) (fun t ht=>a4 t (List.mem_cons_of_mem _ ht)) (by simp;omega) b5 b3
  simp only[List.append_assoc,List.singleton_append,List.length_append,List.length_cons,List.length_nil,Nat.zero_add,Int.natCast_add,Int.natCast_one]at e
  exact e
theorem sz1(c:UInt8):(⟨#[c]⟩:ByteArray).size≤10:=by show(1:Nat)≤10;omega
theorem chart_ok(hk:1000≤k)(hN:NextS G)(hNm:NamesS G)(hNd:NumdS G)(hPl:PlainS G)(hS:StOK 2 G)(hF:FillOK 3 G):ChartOK (fun _ args (K:LV→OV R)=>g24 G k args K):=by
 intro nm np L i K hnm h1 h2 hr
 show W _ K (f24 G k nm np L i K)
 unfold f24
 unfold NextS at hN;unfold NamesS at hNm;unfold NumdS at hNd;unfold PlainS at hPl
 refine W_call (hN _ _ _ _ (by omega) (by omega) hr) ?_
 rintro _ ⟨x1,i1,rfl,x11,x12,r1⟩
 refine W_uI (W_uI (W_unNil ?_))
 refine W_call (hN _ _ _ _ (by omega) (by omega) r1) ?_
 rintro _ ⟨x2,i2,rfl,x21,x22,r2⟩
 refine W_uI (W_uI (W_unNil ?_))
 refine W_call (hNm _ _ _ (sz1 _) x21 (by omega)) ?_
 rintro _ ⟨l1,rfl,hl1⟩
 refine W_uL (W_unNil ?_)
 refine W_call (hNm _ _ _ (sz1 _) h1 h2) ?_
 rintro _ ⟨l2,rfl,hl2⟩
 refine W_uL (W_unNil ?_)
 refine W_call (hN _ _ _ _ (by omega) (by omega) r2) ?_
 rintro _ ⟨x3,i3,rfl,x31,x32,r3⟩
 refine W_uI (W_uI (W_unNil ?_))
 refine W_call (hNm _ _ _ (sz1 _) x31 (by omega)) ?_
 rintro _ ⟨l3,rfl,hl3⟩
 refine W_uL (W_unNil ?_)
 refine W_call (hN _ _ _ _ (by omega) (by omega) r3) ?_
 rintro _ ⟨x4,i4,rfl,x41,x42,r4⟩
 refine W_uI (W_uI (W_unNil ?_))
 refine W_call (hN _ _ _ _ (by omega) (by omega) r4) ?_
 rintro _ ⟨x5,i5,rfl,x51,x52,r5⟩
 refine W_uI (W_uI (W_unNil ?_))
 refine W_and (W_yes (by omega) (W_yes (by omega) ?_))
 refine W_nth (by simp;omega) (fun v _ hv=> ?_)
 have hv2:∃fu,v= .int .i64 fu∧4≤fu∧fu≤200:=by
  simp only[List.mem_cons,List.not_mem_nil,or_false]at hv
  rcases hv with rfl|rfl|rfl|rfl<;>exact⟨_,rfl,by omega,by omega⟩
 obtain⟨fu,rfl,fu1,fu2⟩:=hv2
 refine W_aI ?_
 refine W_call (hNd _ _ _ _ hl1 r5) ?_
 rintro _ ⟨v1,i6,rfl,hv1,r6⟩
 refine W_uL (W_uI (W_unNil ?_))
 refine W_call (hPl _ _ hl2) ?_
 rintro _ ⟨v2,rfl,hv2⟩
 refine W_uL (W_unNil ?_)
 refine W_call (hPl _ _ hl3) ?_
 rintro _ ⟨v3,rfl,hv3⟩
 refine W_uL (W_unNil ?_)
 refine W_call (hN _ _ _ _ (by omega) (by omega) r6) ?_
 rintro _ ⟨x7,i7,rfl,x71,x72,r7⟩
 refine W_uI (W_uI (W_unNil ?_))
 have e1:IntKind.i64.wrap (1+x7)=1+x7:=wrap_id (by omega)
 have e2:IntKind.i64.wrap (2+x1)=2+x1:=wrap_id (by omega)
 have e3:IntKind.i64.wrap (2+x4)=2+x4:=wrap_id (by omega)
 rw[e1,e2,e3]
 unfold l24_0
 refine chart_loop0 (T:=2+x1) hS (by omega) ?_ k _ _ _ _ _ ⟨rfl,fun i v h=>by simp at h⟩ (by omega) (by omega) (by simp;omega) (fun _=>⟨by omega,by omega⟩) (by omega) (by simp) (by intro v hv;simp at hv) r7 (by simp)
 intro states j left all c0 c1 c2 c3 c4 c5 c6 c7
 unfold l24_2
 refine chart_loop2 c6 (by omega) ?_ k 0 [] (by omega) (by omega) (by omega) ⟨by simp,by simp⟩
 intro s hs
 unfold l24_4
 refine chart_loop4 (A:=[]) (m:=states.length) (M:=nmVL 3 states) hF hl1 hl2 hl3 ⟨by have:=hs.1;omega,hs.2⟩ c6 (by omega) ?_ states k j (by omega) (by simp;omega) (by simp) c3 (by simp) rfl c7
 intro states' j' d1 dM d2 d3
 exact W_ret ⟨_,_,rfl,⟨nm,_,fu,v1,v2,v3,states',rfl,hnm,by omega,by omega,fu1,fu2,hv1,hv2,hv3,by omega,fun h=>c2 (List.eq_nil_of_length_eq_zero (by rw[←d1,h];rfl)),d2,by have:=nmVL_len (d:=3) (l:=states');rw[dM,c0.1]at this;omega,by rw[dM,c0.1];exact c0.2⟩,d3⟩
end
end Go.Proofs.Ytokgijpdehjckaa.Vm
