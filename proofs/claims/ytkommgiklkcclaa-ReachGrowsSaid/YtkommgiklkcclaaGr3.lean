/- Functions of the program, told by the machine of values, and what they answer: a part. -/
import Derived.Test.YtkommgiklkcclaaGr1
import Derived.Test.YtkommgiklkcclaaGrV4
import Derived.Test.YtkommgiklkcclaaGr2
open Go Go.VM
set_option linter.unusedVariables false
set_option maxRecDepth 100000
set_option maxHeartbeats 4000000
namespace Go.Proofs.Ytkommgiklkcclaa.Vm
def P65561_0h:Pat:={tmps:=unds [.undef,.var (.int .i64) .pr,.stat (.one (.fn 26 [.ptr 0 0,.ptr 1 0,.ptr 2 0]) .pt),.undef,.undef,.undef,.undef,.var (.sl 1) (.own true)] 7 (unds [.var (.sl 5) .ro,.var (.int .i64) .pr,.var (.int .i64) .pr] 17 []),boxes:=nons [some [.var (.int .i64) .pr false],some [.var .str .pr false,.var (.int .i64) .pr false,.var (.int .i64) .pr false,.var (.sl 1) .ro true,.var (.sl 1) .ro true,.var (.sl 1) .ro true,.var (.sl 7) .ro true,.var (.sl 6) .ro true,.var (.sl 1) .ro true],some [.var (.sl 1) .ro true,.var (.sl 1) .ro true,.var (.sl 1) .ro true,.var .bool .pr false]] 35 []}
def P65561_0x:Pat:={tmps:=unds [] 7 (unds [.var (.sl 1) (.own true)] 27 []),boxes:=nons [some [.var (.int .i64) .pr false],some [.var .str .pr false,.var (.int .i64) .pr false,.var (.int .i64) .pr false,.var (.sl 1) .ro true,.var (.sl 1) .ro true,.var (.sl 1) .ro true,.var (.sl 7) .ro true,.var (.sl 6) .ro true,.var (.sl 1) .ro true],some [.var (.sl 1) .ro true,.var (.sl 1) .ro true,.var (.sl 1) .ro true,.var .bool .pr false]] 35 []}
def b65561_0{R:Type}(G:ORC R)(k:Nat)(X:Int→LV→LV→Int→Int→Int→ByteArray→Int→Int→LV→LV→LV→LV→LV→LV→LV→LV→LV→Bool→OV R)(Ko:LV→Int→ByteArray→Int→Int→LV→LV→LV→LV→LV→LV→LV→LV→LV→Bool→OV R)(xi22:Int)(xl23 xl24:LV)(xi25 xi26 xi27:Int)(xs28:ByteArray)(xi29 xi30:Int)(xl31 xl32:LV)(xl33 xl34:LV)(xl35 xl36:LV)(xl37 xl38 xl39:LV)(xb40:Bool):OV R:=
 (bif(decide (xi26<xi25))then(bif((decide (0≤xi26))&&(decide (xi26<(xl24.length:Int))))then(nthK xl24 (Int.toNat xi26) fun e41=>V.asAgg e41 fun l42=>ce5 l42 fun c43 c44 c45 c46 c47=>aI .i64 c43 fun n54=>aI .i64 c44 fun n55=>aI .i64 c45 fun n56=>aI .i64 c46 fun n57=>aI .i64 c47 fun n58=>bif(n54==xi22)then(G 26 [.int .i64 n55,.int .i64 xi27,.str xs28,.int .i64 xi29,.int .i64 xi30,.sl 1 xl31,.sl 1 xl32,.sl 1 xl33,.sl 7 xl34,.sl 6 xl35,.sl 1 xl36,.sl 1 xl37,.sl 1 xl38,.sl 1 xl39,.bool xb40] fun o59=>uI .i64 o59 fun n61 r60=>uI .i64 r60 fun n63 r62=>uS r62 fun s65 r64=>uI .i64 r64 fun n67 r66=>uI .i64 r66 fun n69 r68=>uB r68 fun b71 r70=>unNil r70 (bif((decide (0≤xi26))&&(decide (xi26<(xl23.length:Int))))then(nthK xl23 (Int.toNat xi26) fun e72=>X xi22 (List.set xl23 (Int.toNat xi26) (.int .i64 n61)) xl24 xi25 (IntKind.i64.wrap (xi26+1)) n63 s65 n67 n69 xl31 xl32 xl33 xl34 xl35 xl36 xl37 xl38 xl39 b71)else none))else(X xi22 xl23 xl24 xi25 (IntKind.i64.wrap (xi26+1)) xi27 xs28 xi29 xi30 xl31 xl32 xl33 xl34 xl35 xl36 xl37 xl38 xl39 xb40))else none)else(Ko xl23 xi27 xs28 xi29 xi30 xl31 xl32 xl33 xl34 xl35 xl36 xl37 xl38 xl39 xb40))
def l65561_0g{R:Type}(G:ORC R)(k:Nat)(Ko:LV→Int→ByteArray→Int→Int→LV→LV→LV→LV→LV→LV→LV→LV→LV→Bool→OV R):Nat→Int→LV→LV→Int→Int→Int→ByteArray→Int→Int→LV→LV→LV→LV→LV→LV→LV→LV→LV→Bool→OV R
 |0=>fun _ _ _ _ _ _ _ _ _ _ _ _ _ _ _ _ _ _ _=>none
 |j+1=>b65561_0 G k (l65561_0g G k Ko j) Ko
def l65561_0{R:Type}(G:ORC R)(k:Nat)(xi22:Int)(xl23 xl24:LV)(xi25 xi26 xi27:Int)(xs28:ByteArray)(xi29 xi30:Int)(xl31 xl32:LV)(xl33 xl34:LV)(xl35 xl36:LV)(xl37 xl38 xl39:LV)(xb40:Bool)(Ko:LV→Int→ByteArray→Int→Int→LV→LV→LV→LV→LV→LV→LV→LV→LV→Bool→OV R):OV R:=l65561_0g G k Ko k xi22 xl23 xl24 xi25 xi26 xi27 xs28 xi29 xi30 xl31 xl32 xl33 xl34 xl35 xl36 xl37 xl38 xl39 xb40
def rd65561_0{R:Type}(G:ORC R)(k:Nat)(K:Ex→St→OV R)(j:Nat)(vs:LV):OV R:=match vs with
 | [.int .i64 xi22,.sl 1 xl23,.sl 5 xl24,.int .i64 xi25,.int .i64 xi26,.int .i64 xi27,.str xs28,.int .i64 xi29,.int .i64 xi30,.sl 1 xl31,.sl 1 xl32,.sl 1 xl33,.sl 7 xl34,.sl 6 xl35,.sl 1 xl36,.sl 1 xl37,.sl 1 xl38,.sl 1 xl39,.bool xb40]=>l65561_0g G k (fun yl88 yi89 ys90 yi91 yi92 yl93 yl94 yl95 yl96 yl97 yl98 yl99 yl100 yl101 yb102=>K .normal (P65561_0x.inst [.sl 1 yl88,.int .i64 yi89,.str ys90,.int .i64 yi91,.int .i64 yi92,.sl 1 yl93,.sl 1 yl94,.sl 1 yl95,.sl 7 yl96,.sl 6 yl97,.sl 1 yl98,.sl 1 yl99,.sl 1 yl100,.sl 1 yl101,.bool yb102])) j xi22 xl23 xl24 xi25 xi26 xi27 xs28 xi29 xi30 xl31 xl32 xl33 xl34 xl35 xl36 xl37 xl38 xl39 xb40
 |_=>none
def L65561{R:Type}(G:ORC R)(k:Nat):Nat→St→(Ex→St→OV R)→OV R
 |0,S,K=>P65561_0h.mat S fun vs=>rd65561_0 G k K k vs
 |_,_,_=>none
def f65561{R:Type}(G:ORC R)(k:Nat)(ai1:Int)(al2 al3:LV)(al4 al5 al6:LV)(ai7 bi8:Int)(bs9:ByteArray)(bi10 bi11:Int)(bl12 bl13:LV)(bl14 bl15:LV)(bl16 bl17:LV)(bl18 bl19 bl20:LV)(bb21:Bool)(K:LV→OV R):OV R:=
 (bif(((decide (0≤(al4.length:Int)))&&(decide ((al4.length:Int)≤(al4.length:Int))))&&(decide ((al4.length:Int)≤1073741824)))then(l65561_0 G k ai7 (List.replicate (Int.toNat (al4.length:Int)) (V.int .i64 0)) al4 (al4.length:Int) 0 bi8 bs9 bi10 bi11 bl12 bl13 bl14 bl15 bl16 bl17 bl18 bl19 bl20 bb21 (fun yl73 yi74 ys75 yi76 yi77 yl78 yl79 yl80 yl81 yl82 yl83 yl84 yl85 yl86 yb87=>K [.sl 1 yl73,.int .i64 yi74,.str ys75,.int .i64 yi76,.int .i64 yi77,.bool yb87]))else none)
noncomputable def D65561_0:LoopD:={id:=0,body:=loopAt 0 (bodyOf Try.f25),head:=P65561_0h,out:=P65561_0x,ret:=default}
theorem l65561_0_is{R:Type}(G:ORC R)(k:Nat)(X:LV→OV R)(K:Ex→St→OV R)(xi22:Int)(xl23 xl24:LV)(xi25 xi26 xi27:Int)(xs28:ByteArray)(xi29 xi30:Int)(xl31 xl32:LV)(xl33 xl34:LV)(xl35 xl36:LV)(xl37 xl38 xl39:LV)(xb40:Bool):
 roundOf (TAB.env 65561) G (L65561 G k) D65561_0 X K [.int .i64 xi22,.sl 1 xl23,.sl 5 xl24,.int .i64 xi25,.int .i64 xi26,.int .i64 xi27,.str xs28,.int .i64 xi29,.int .i64 xi30,.sl 1 xl31,.sl 1 xl32,.sl 1 xl33,.sl 7 xl34,.sl 6 xl35,.sl 1 xl36,.sl 1 xl37,.sl 1 xl38,.sl 1 xl39,.bool xb40]=b65561_0 G k (fun xi22 xl23 xl24 xi25 xi26 xi27 xs28 xi29 xi30 xl31 xl32 xl33 xl34 xl35 xl36 xl37 xl38 xl39 xb40=>X [.int .i64 xi22,.sl 1 xl23,.sl 5 xl24,.int .i64 xi25,.int .i64 xi26,.int .i64 xi27,.str xs28,.int .i64 xi29,.int .i64 xi30,.sl 1 xl31,.sl 1 xl32,.sl 1 xl33,.sl 7 xl34,.sl 6 xl35,.sl 1 xl36,.sl 1 xl37,.sl 1 xl38,.sl 1 xl39,.bool xb40]) (fun yl88 yi89 ys90 yi91 yi92 yl93 yl94 yl95 yl96 yl97 yl98 yl99 yl100 yl101 yb102=>K .normal (P65561_0x.inst [.sl 1 yl88,.int .i64 yi89,.str ys90,.int .i64 yi91,.int .i64 yi92,.sl 1 yl93,.sl 1 yl94,.sl 1 yl95,.sl 7 yl96,.sl 6 yl97,.sl 1 yl98,.sl 1 yl99,.sl 1 yl100,.sl 1 yl101,.bool yb102])) xi22 xl23 xl24 xi25 xi26 xi27 xs28 xi29 xi30 xl31 xl32 xl33 xl34 xl35 xl36 xl37 xl38 xl39 xb40:=by kernel_rfl
theorem f65561_is{R:Type}(G:ORC R)(k:Nat)(K:LV→OV R)(ai1:Int)(al2 al3:LV)(al4 al5 al6:LV)(ai7 bi8:Int)(bs9:ByteArray)(bi10 bi11:Int)(bl12 bl13:LV)(bl14 bl15:LV)(bl16 bl17:LV)(bl18 bl19 bl20:LV)(bb21:Bool):
 callF (TAB.env 65561) G (L65561 G k) Try.f25 S65561 [.agg [.int .i64 ai1,.sl 9 al2,.sl 6 al3,.sl 5 al4,.sl 1 al5,.sl 1 al6],.int .i64 ai7,.int .i64 bi8,.str bs9,.int .i64 bi10,.int .i64 bi11,.sl 1 bl12,.sl 1 bl13,.sl 1 bl14,.sl 7 bl15,.sl 6 bl16,.sl 1 bl17,.sl 1 bl18,.sl 1 bl19,.sl 1 bl20,.bool bb21] K=f65561 G k ai1 al2 al3 al4 al5 al6 ai7 bi8 bs9 bi10 bi11 bl12 bl13 bl14 bl15 bl16 bl17 bl18 bl19 bl20 bb21 K:=by kernel_rfl
theorem li65561_0{R:Type}(G:ORC R)(k:Nat):LoopIs (TAB.env 65561) G (L65561 G k) 0 (loopAt 0 (bodyOf Try.f25)):=
 ⟨D65561_0,fun j vs K=>rd65561_0 G k K j vs,k,rfl,rfl,by kernel_rfl,by kernel_rfl,by kernel_rfl,(fun vs K=>by unfold rd65561_0;dsimp only;split<;>rfl),
   (fun j vs K r h=>by
     unfold rd65561_0 at h
     dsimp only at h
     split at h
     ·rw[l65561_0_is];exact h
     ·cases h),(fun S K r h=>h)⟩
theorem lo65561:loopsOf (bodyOf Try.f25)=[(0,loopAt 0 (bodyOf Try.f25))]:=by kernel_rfl
theorem la65561{R:Type}(G:ORC R)(k:Nat):LoopsAre (TAB.env 65561) G (L65561 G k) (bodyOf Try.f25):=
 loopsAre_of (by rw[lo65561];intro p hp;simp only[List.mem_cons,List.not_mem_nil,or_false]at hp;subst hp;exact li65561_0 G k)
def g65561{R:Type}(G:ORC R)(k:Nat)(args:LV)(K:LV→OV R):OV R:=match args with
 | [.agg [.int .i64 ai1,.sl 9 al2,.sl 6 al3,.sl 5 al4,.sl 1 al5,.sl 1 al6],.int .i64 ai7,.int .i64 bi8,.str bs9,.int .i64 bi10,.int .i64 bi11,.sl 1 bl12,.sl 1 bl13,.sl 1 bl14,.sl 7 bl15,.sl 6 bl16,.sl 1 bl17,.sl 1 bl18,.sl 1 bl19,.sl 1 bl20,.bool bb21]=>f65561 G k ai1 al2 al3 al4 al5 al6 ai7 bi8 bs9 bi10 bi11 bl12 bl13 bl14 bl15 bl16 bl17 bl18 bl19 bl20 bb21 K
 |_=>none
theorem s65561{R:Type}{G:ORC R}{k:Nat}(hG:Sound Try.prog TAB G)(args:LV)(K:LV→OV R)(r:R)(h:g65561 G k args K=some r):∃o,CallOK Try.prog TAB.env 65561 args o∧K o=some r:=by
 unfold g65561 at h
 split at h
 ·rw[←f65561_is]at h
  exact callF_sound (f:=65561) TAB_chk MO hG Try.func25 (sg:=S65561) (by kernel_rfl) (by kernel_rfl) (la65561 G k) h
 ·cases h
def P131111_2h:Pat:={tmps:=unds [.undef,.undef,.stat (.one (.fn 67 [.ptr 0 0]) .pt),.stat (.one (.ptr 4 0) .pt),.undef,.undef,.undef,.var (.sl 1) (.own true),.undef,.undef,.undef,.undef,.var (.sl 1) .ro,.var (.int .i64) .pr,.var (.int .i64) .pr] 7 (unds [.var .any .ro,.var (.int .i64) .pr,.var (.int .i64) .pr] 21 []),boxes:=nons [some [.var (.int .i64) .pr false],none,none,none,some [.var .str .pr false,.var (.int .i64) .pr false,.var (.int .i64) .pr false,.var (.sl 1) .ro false,.var (.sl 1) .ro false,.var (.sl 1) .ro false,.var (.sl 7) .ro false,.var (.sl 6) .ro false,.var (.sl 1) .ro false]] 42 []}
def P131111_2x:Pat:={tmps:=unds [.undef,.undef,.stat (.one (.fn 67 [.ptr 0 0]) .pt),.stat (.one (.ptr 4 0) .pt),.undef,.undef,.undef,.var (.sl 1) (.own true),.undef,.undef,.undef,.undef,.var (.sl 1) .ro,.var (.int .i64) .pr,.var (.int .i64) .pr] 31 [],boxes:=nons [some [.var (.int .i64) .pr false],none,none,none,some [.var .str .pr false,.var (.int .i64) .pr false,.var (.int .i64) .pr false,.var (.sl 1) .ro false,.var (.sl 1) .ro false,.var (.sl 1) .ro false,.var (.sl 7) .ro false,.var (.sl 6) .ro false,.var (.sl 1) .ro false]] 42 []}
def b131111_2{R:Type}(G:ORC R)(k:Nat)(X:LV→LV→Int→Int→V→Int→Int→Int→ByteArray→Int→Int→LV→LV→LV→LV→LV→LV→OV R)(Ko:LV→LV→Int→Int→Int→ByteArray→Int→Int→LV→LV→LV→LV→LV→LV→OV R)(xl31 xl32:LV)(xi33 xi34:Int)(xv35:V)(xi36 xi37 xi38:Int)(xs39:ByteArray)(xi40 xi41:Int)(xl42 xl43:LV)(xl44 xl45:LV)(xl46 xl47:LV):OV R:=
 (bif(decide (xi37<xi36))then(V.asSl xv35 fun z48 l49=>bif(((z48==4)&&(decide (0≤xi37)))&&(decide (xi37<(l49.length:Int))))then(nthK l49 (Int.toNat xi37) fun e50=>V.asAgg e50 fun l51=>ce4 l51 fun c52 c53 c54 c55=>aI .i64 c52 fun n61=>aI .i64 c53 fun n62=>aI .i64 c54 fun n63=>V.asStr c55 fun s64=>G 67 [.agg [.int .i64 n61,.int .i64 n62,.int .i64 n63,.str s64],.int .i64 xi38] fun o65=>uB o65 fun b67 r66=>uI .i64 r66 fun n69 r68=>unNil r68 (bif b67 then(G 43 [.sl 1 xl31,.str s64] fun o70=>uB o70 fun b72 r71=>unNil r71 (bif(!b72)then(bif(decide (List.length xl31+1≤1073741824))then(X (xl31++[.str s64]) xl32 xi33 xi34 xv35 xi36 (IntKind.i64.wrap (xi37+1)) n69 xs39 xi40 xi41 xl42 xl43 xl44 xl45 xl46 xl47)else none)else(X xl31 xl32 xi33 xi34 xv35 xi36 (IntKind.i64.wrap (xi37+1)) n69 xs39 xi40 xi41 xl42 xl43 xl44 xl45 xl46 xl47)))else(X xl31 xl32 xi33 xi34 xv35 xi36 (IntKind.i64.wrap (xi37+1)) n69 xs39 xi40 xi41 xl42 xl43 xl44 xl45 xl46 xl47)))else none)else(Ko xl31 xl32 xi33 xi34 xi38 xs39 xi40 xi41 xl42 xl43 xl44 xl45 xl46 xl47))
def l131111_2g{R:Type}(G:ORC R)(k:Nat)(Ko:LV→LV→Int→Int→Int→ByteArray→Int→Int→LV→LV→LV→LV→LV→LV→OV R):Nat→LV→LV→Int→Int→V→Int→Int→Int→ByteArray→Int→Int→LV→LV→LV→LV→LV→LV→OV R
 |0=>fun _ _ _ _ _ _ _ _ _ _ _ _ _ _ _ _ _=>none
 |j+1=>b131111_2 G k (l131111_2g G k Ko j) Ko
def l131111_2{R:Type}(G:ORC R)(k:Nat)(xl31 xl32:LV)(xi33 xi34:Int)(xv35:V)(xi36 xi37 xi38:Int)(xs39:ByteArray)(xi40 xi41:Int)(xl42 xl43:LV)(xl44 xl45:LV)(xl46 xl47:LV)(Ko:LV→LV→Int→Int→Int→ByteArray→Int→Int→LV→LV→LV→LV→LV→LV→OV R):OV R:=l131111_2g G k Ko k xl31 xl32 xi33 xi34 xv35 xi36 xi37 xi38 xs39 xi40 xi41 xl42 xl43 xl44 xl45 xl46 xl47
def P131111_0h:Pat:={tmps:=unds [.undef,.undef,.stat (.one (.fn 67 [.ptr 0 0]) .pt),.stat (.one (.ptr 4 0) .pt),.undef,.undef,.undef,.var (.sl 1) (.own true),.undef,.undef,.undef,.undef,.var (.sl 1) .ro,.var (.int .i64) .pr,.var (.int .i64) .pr] 31 [],boxes:=nons [some [.var (.int .i64) .pr false],none,none,none,some [.var .str .pr false,.var (.int .i64) .pr false,.var (.int .i64) .pr false,.var (.sl 1) .ro false,.var (.sl 1) .ro false,.var (.sl 1) .ro false,.var (.sl 7) .ro false,.var (.sl 6) .ro false,.var (.sl 1) .ro false]] 42 []}
def P131111_0x:Pat:={tmps:=unds [] 7 (unds [.var (.sl 1) (.own true)] 38 []),boxes:=nons [some [.var (.int .i64) .pr false]] 46 []}
def b131111_0{R:Type}(G:ORC R)(k:Nat)(X:LV→LV→Int→Int→Int→ByteArray→Int→Int→LV→LV→LV→LV→LV→LV→OV R)(Ko:LV→Int→OV R)(xl12 xl13:LV)(xi14 xi15 xi16:Int)(xs17:ByteArray)(xi18 xi19:Int)(xl20 xl21:LV)(xl22 xl23:LV)(xl24 xl25:LV):OV R:=
 (bif(decide (xi15<xi14))then(bif((decide (0≤xi15))&&(decide (xi15<(xl13.length:Int))))then(nthK xl13 (Int.toNat xi15) fun e26=>aI .i64 e26 fun n27=>bif((decide (0≤n27))&&(decide (n27<(xl25.length:Int))))then(nthK xl25 (Int.toNat n27) fun e28=>V.asSl e28 fun z29 l30=>l131111_2 G k xl12 xl13 xi14 xi15 (.sl z29 l30) (l30.length:Int) 0 xi16 xs17 xi18 xi19 xl20 xl21 xl22 xl23 xl24 xl25 (fun yl31 yl32 yi33 yi34 yi35 ys36 yi37 yi38 yl39 yl40 yl41 yl42 yl43 yl44=>X yl31 yl32 yi33 (IntKind.i64.wrap (yi34+1)) yi35 ys36 yi37 yi38 yl39 yl40 yl41 yl42 yl43 yl44))else none)else none)else(Ko xl12 xi16))
def l131111_0g{R:Type}(G:ORC R)(k:Nat)(Ko:LV→Int→OV R):Nat→LV→LV→Int→Int→Int→ByteArray→Int→Int→LV→LV→LV→LV→LV→LV→OV R
 |0=>fun _ _ _ _ _ _ _ _ _ _ _ _ _ _=>none
 |j+1=>b131111_0 G k (l131111_0g G k Ko j) Ko
def l131111_0{R:Type}(G:ORC R)(k:Nat)(xl12 xl13:LV)(xi14 xi15 xi16:Int)(xs17:ByteArray)(xi18 xi19:Int)(xl20 xl21:LV)(xl22 xl23:LV)(xl24 xl25:LV)(Ko:LV→Int→OV R):OV R:=l131111_0g G k Ko k xl12 xl13 xi14 xi15 xi16 xs17 xi18 xi19 xl20 xl21 xl22 xl23 xl24 xl25
def rd131111_2{R:Type}(G:ORC R)(k:Nat)(K:Ex→St→OV R)(j:Nat)(vs:LV):OV R:=match vs with
 | [.sl 1 xl31,.sl 1 xl32,.int .i64 xi33,.int .i64 xi34,xv35,.int .i64 xi36,.int .i64 xi37,.int .i64 xi38,.str xs39,.int .i64 xi40,.int .i64 xi41,.sl 1 xl42,.sl 1 xl43,.sl 1 xl44,.sl 7 xl45,.sl 6 xl46,.sl 1 xl47]=>l131111_2g G k (fun yl47 yl48 yi49 yi50 yi51 ys52 yi53 yi54 yl55 yl56 yl57 yl58 yl59 yl60=>K .normal (P131111_2x.inst [.sl 1 yl47,.sl 1 yl48,.int .i64 yi49,.int .i64 yi50,.int .i64 yi51,.str ys52,.int .i64 yi53,.int .i64 yi54,.sl 1 yl55,.sl 1 yl56,.sl 1 yl57,.sl 7 yl58,.sl 6 yl59,.sl 1 yl60])) j xl31 xl32 xi33 xi34 xv35 xi36 xi37 xi38 xs39 xi40 xi41 xl42 xl43 xl44 xl45 xl46 xl47
 |_=>none
def rd131111_0{R:Type}(G:ORC R)(k:Nat)(K:Ex→St→OV R)(j:Nat)(vs:LV):OV R:=match vs with
 | [.sl 1 xl12,.sl 1 xl13,.int .i64 xi14,.int .i64 xi15,.int .i64 xi16,.str xs17,.int .i64 xi18,.int .i64 xi19,.sl 1 xl20,.sl 1 xl21,.sl 1 xl22,.sl 7 xl23,.sl 6 xl24,.sl 1 xl25]=>l131111_0g G k (fun yl61 yi62=>K .normal (P131111_0x.inst [.sl 1 yl61,.int .i64 yi62])) j xl12 xl13 xi14 xi15 xi16 xs17 xi18 xi19 xl20 xl21 xl22 xl23 xl24 xl25
 |_=>none
def L131111{R:Type}(G:ORC R)(k:Nat):Nat→St→(Ex→St→OV R)→OV R
 |2,S,K=>P131111_2h.mat S fun vs=>rd131111_2 G k K k vs
 |0,S,K=>P131111_0h.mat S fun vs=>rd131111_0 G k K k vs
 |_,_,_=>none
def f131111{R:Type}(G:ORC R)(k:Nat)(as1:ByteArray)(ai2 ai3:Int)(al4 al5:LV)(al6 al7:LV)(al8 al9 al10:LV)(bi11:Int)(K:LV→OV R):OV R:=
 (l131111_0 G k [] al10 (al10.length:Int) 0 bi11 as1 ai2 ai3 al4 al5 al6 al7 al8 al9 (fun yl45 yi46=>K [.sl 1 yl45,.int .i64 yi46]))
noncomputable def D131111_2:LoopD:={id:=2,body:=loopAt 2 (bodyOf Try.f39),head:=P131111_2h,out:=P131111_2x,ret:=default}
theorem l131111_2_is{R:Type}(G:ORC R)(k:Nat)(X:LV→OV R)(K:Ex→St→OV R)(xl31 xl32:LV)(xi33 xi34:Int)(xv35:V)(xi36 xi37 xi38:Int)(xs39:ByteArray)(xi40 xi41:Int)(xl42 xl43:LV)(xl44 xl45:LV)(xl46 xl47:LV):
 roundOf (TAB.env 131111) G (L131111 G k) D131111_2 X K [.sl 1 xl31,.sl 1 xl32,.int .i64 xi33,.int .i64 xi34,xv35,.int .i64 xi36,.int .i64 xi37,.int .i64 xi38,.str xs39,.int .i64 xi40,.int .i64 xi41,.sl 1 xl42,.sl 1 xl43,.sl 1 xl44,.sl 7 xl45,.sl 6 xl46,.sl 1 xl47]=b131111_2 G k (fun xl31 xl32 xi33 xi34 xv35 xi36 xi37 xi38 xs39 xi40 xi41 xl42 xl43 xl44 xl45 xl46 xl47=>X [.sl 1 xl31,.sl 1 xl32,.int .i64 xi33,.int .i64 xi34,xv35,.int .i64 xi36,.int .i64 xi37,.int .i64 xi38,.str xs39,.int .i64 xi40,.int .i64 xi41,.sl 1 xl42,.sl 1 xl43,.sl 1 xl44,.sl 7 xl45,.sl 6 xl46,.sl 1 xl47]) (fun yl47 yl48 yi49 yi50 yi51 ys52 yi53 yi54 yl55 yl56 yl57 yl58 yl59 yl60=>K .normal (P131111_2x.inst [.sl 1 yl47,.sl 1 yl48,.int .i64 yi49,.int .i64 yi50,.int .i64 yi51,.str ys52,.int .i64 yi53,.int .i64 yi54,.sl 1 yl55,.sl 1 yl56,.sl 1 yl57,.sl 7 yl58,.sl 6 yl59,.sl 1 yl60])) xl31 xl32 xi33 xi34 xv35 xi36 xi37 xi38 xs39 xi40 xi41 xl42 xl43 xl44 xl45 xl46 xl47:=by kernel_rfl
noncomputable def D131111_0:LoopD:={id:=0,body:=loopAt 0 (bodyOf Try.f39),head:=P131111_0h,out:=P131111_0x,ret:=default}
theorem l131111_0_is{R:Type}(G:ORC R)(k:Nat)(X:LV→OV R)(K:Ex→St→OV R)(xl12 xl13:LV)(xi14 xi15 xi16:Int)(xs17:ByteArray)(xi18 xi19:Int)(xl20 xl21:LV)(xl22 xl23:LV)(xl24 xl25:LV):
 roundOf (TAB.env 131111) G (L131111 G k) D131111_0 X K [.sl 1 xl12,.sl 1 xl13,.int .i64 xi14,.int .i64 xi15,.int .i64 xi16,.str xs17,.int .i64 xi18,.int .i64 xi19,.sl 1 xl20,.sl 1 xl21,.sl 1 xl22,.sl 7 xl23,.sl 6 xl24,.sl 1 xl25]=b131111_0 G k (fun xl12 xl13 xi14 xi15 xi16 xs17 xi18 xi19 xl20 xl21 xl22 xl23 xl24 xl25=>X [.sl 1 xl12,.sl 1 xl13,.int .i64 xi14,.int .i64 xi15,.int .i64 xi16,.str xs17,.int .i64 xi18,.int .i64 xi19,.sl 1 xl20,.sl 1 xl21,.sl 1 xl22,.sl 7 xl23,.sl 6 xl24,.sl 1 xl25]) (fun yl61 yi62=>K .normal (P131111_0x.inst [.sl 1 yl61,.int .i64 yi62])) xl12 xl13 xi14 xi15 xi16 xs17 xi18 xi19 xl20 xl21 xl22 xl23 xl24 xl25:=by kernel_rfl
theorem f131111_is{R:Type}(G:ORC R)(k:Nat)(K:LV→OV R)(as1:ByteArray)(ai2 ai3:Int)(al4 al5:LV)(al6 al7:LV)(al8 al9 al10:LV)(bi11:Int):
 callF (TAB.env 131111) G (L131111 G k) Try.f39 S131111 [.agg [.str as1,.int .i64 ai2,.int .i64 ai3,.sl 1 al4,.sl 1 al5,.sl 1 al6,.sl 7 al7,.sl 6 al8,.sl 1 al9],.sl 1 al10,.int .i64 bi11] K=f131111 G k as1 ai2 ai3 al4 al5 al6 al7 al8 al9 al10 bi11 K:=by kernel_rfl
theorem li131111_2{R:Type}(G:ORC R)(k:Nat):LoopIs (TAB.env 131111) G (L131111 G k) 2 (loopAt 2 (bodyOf Try.f39)):=
 ⟨D131111_2,fun j vs K=>rd131111_2 G k K j vs,k,rfl,rfl,by kernel_rfl,by kernel_rfl,by kernel_rfl,(fun vs K=>by unfold rd131111_2;dsimp only;split<;>rfl),
   (fun j vs K r h=>by
     unfold rd131111_2 at h
     dsimp only at h
     split at h
     ·rw[l131111_2_is];exact h
     ·cases h),(fun S K r h=>h)⟩
theorem li131111_0{R:Type}(G:ORC R)(k:Nat):LoopIs (TAB.env 131111) G (L131111 G k) 0 (loopAt 0 (bodyOf Try.f39)):=
 ⟨D131111_0,fun j vs K=>rd131111_0 G k K j vs,k,rfl,rfl,by kernel_rfl,by kernel_rfl,by kernel_rfl,(fun vs K=>by unfold rd131111_0;dsimp only;split<;>rfl),
   (fun j vs K r h=>by
     unfold rd131111_0 at h
     dsimp only at h
     split at h
     ·rw[l131111_0_is];exact h
     ·cases h),(fun S K r h=>h)⟩
theorem lo131111:loopsOf (bodyOf Try.f39)=[(0,loopAt 0 (bodyOf Try.f39)),(2,loopAt 2 (bodyOf Try.f39))]:=by kernel_rfl
theorem la131111{R:Type}(G:ORC R)(k:Nat):LoopsAre (TAB.env 131111) G (L131111 G k) (bodyOf Try.f39):=
 loopsAre_of (by rw[lo131111];intro p hp;simp only[List.mem_cons,List.not_mem_nil,or_false]at hp;rcases hp with rfl|rfl<;>first|exact li131111_0 G k|exact li131111_2 G k)
def g131111{R:Type}(G:ORC R)(k:Nat)(args:LV)(K:LV→OV R):OV R:=match args with
 | [.agg [.str as1,.int .i64 ai2,.int .i64 ai3,.sl 1 al4,.sl 1 al5,.sl 1 al6,.sl 7 al7,.sl 6 al8,.sl 1 al9],.sl 1 al10,.int .i64 bi11]=>f131111 G k as1 ai2 ai3 al4 al5 al6 al7 al8 al9 al10 bi11 K
 |_=>none
theorem s131111{R:Type}{G:ORC R}{k:Nat}(hG:Sound Try.prog TAB G)(args:LV)(K:LV→OV R)(r:R)(h:g131111 G k args K=some r):∃o,CallOK Try.prog TAB.env 131111 args o∧K o=some r:=by
 unfold g131111 at h
 split at h
 ·rw[←f131111_is]at h
  exact callF_sound (f:=131111) TAB_chk MO hG Try.func39 (sg:=S131111) (by kernel_rfl) (by kernel_rfl) (la131111 G k) h
 ·cases h
set_option linter.unusedSimpArgs false
set_option maxHeartbeats 8000000
section
variable {R : Type} {G : ORC R} {k : Nat} {K : LV → OV R}
def CIsOK(G:ORC R):Prop:=∀(l:LV) (i:Int) (K:LV→OV R),W (fun o=>o=[.bool (decide (0≤i∧i<l.length))]) K (G 73 [.sl 7 l,.int .i64 i] K)
theorem cis_ok:CIsOK (fun _ args (K:LV→OV R)=>g73 G k args K):=by
 intro l i K
 show W _ K (f73 G k l i K)
 unfold f73
 refine W_dec (fun h=> ?_) (fun h=> ?_)
 ·exact W_ret (by congr 3;simp;omega)
 ·exact W_ret (by congr 2;symm;rw[decide_eq_false];omega)
def CInOK(G:ORC R):Prop:=∀(l:List Nd) (a b:Int) (K:LV→OV R),W (fun o=>o=[.bool (inN l a b)]) K (G 62 [.sl 7 (l.map Nd.v),.int .i64 a,.int .i64 b] K)
theorem cin_ok(hI:CIsOK G):CInOK (fun _ args (K:LV→OV R)=>g62 G k args K):=by
 intro l a b K
 show W _ K (f62 G k (l.map Nd.v) a b K)
 unfold f62
 unfold CIsOK at hI
 have no:¬(0≤a∧a<l.length∧0≤b∧b<l.length∧a≥b)→inN l a b=false:=fun h=>by unfold inN;rw[decide_eq_false h];rfl
 refine W_call (hI _ _ _) ?_
 rintro _ rfl
 (repeat(with_reducible apply U1))
 simp only[List.length_map]
 refine W_dec (fun h1=> ?_) (fun h1=>W_ret (by rw[no (by omega)]))
 refine W_call (hI _ _ _) ?_
 rintro _ rfl
 (repeat(with_reducible apply U1))
 simp only[List.length_map]
 refine W_dec (fun h2=> ?_) (fun h2=>W_ret (by rw[no (by omega)]))
 refine W_dec (fun h3=> ?_) (fun h3=>W_ret (by rw[no (by omega)]))
 refine W_and (W_yes h2.1 (W_yes h2.2 ?_))
 refine W_nthN (by omega) (fun n hn=>W_nd ?_)
 (repeat(with_reducible apply U1))
 have e:inN l a b=decide (a≤n.last):=by
  unfold inN
  rw[decide_eq_true (show 0≤a∧a<l.length∧0≤b∧b<l.length∧a≥b from⟨h1.1,h1.2,h2.1,h2.2,h3⟩),hn];rfl
 exact W_ret (by rw[e])
end
end Go.Proofs.Ytkommgiklkcclaa.Vm
namespace Go.VM
def hasL(l:List Int)(i:Int):Bool:=decide (i∈l)
def notL(a b:List Int):List Int:=a.filter fun x=> !hasL b x
def andL(a b:List Int):List Int:=notL a (notL a b)
theorem hasL_iff{l:List Int}{i:Int}:hasL l i=true↔i∈l:=by simp[hasL]
theorem andL_eq{a b:List Int}:andL a b=a.filter (hasL b):=by
 unfold andL notL
 apply List.filter_congr
 intro x hx
 simp[hasL,hx]
def ofGo(l:List Int):Nat→List Int
 |0=>[]
 |m+1=>ofGo l m++if hasL l m then[(m:Int)]else[]
def ofL(l:List Int):List Int:=ofGo l 128
theorem ofGo_len{l:List Int}:∀{m:Nat},(ofGo l m).length≤m
 |0=>Nat.le_refl 0
 |m+1=>by have:=ofGo_len (l:=l) (m:=m);unfold ofGo;split<;>simp<;>omega
def isSt(ns:List Nd)(k:Int):Bool:=match ns[k.toNat]? with|some n=>decide (n.kind≤3)|none=>false
def statesN(ns:List Nd)(i:Int):List Int:=(kidsN ns i).filter (isSt ns)
theorem take_snoc{l:List Int}{m:Nat}{c:Int}(h:l[m]? =some c):l.take (m+1)=l.take m++[c]:=by
 rw[List.take_add_one,h];rfl
def actV(n:Nat)(s:List Int):LV:=(List.range n).map fun j:Nat=>.bool (hasL s j)
theorem actV_len{n:Nat}{s:List Int}:(actV n s).length=n:=by simp[actV]
theorem actV_get{n:Nat}{s:List Int}{j:Nat}(h:j<n):(actV n s)[j]? =some (.bool (hasL s j)):=by unfold actV;simp[h]
theorem actV_nil{n:Nat}:List.replicate n (V.bool false)=actV n []:=by
 apply List.ext_getElem?
 intro i
 by_cases h:i<n
 ·rw[actV_get h];simp[h,hasL]
 ·rw[List.getElem?_eq_none (by simp;omega),List.getElem?_eq_none (by rw[actV_len];omega)]
theorem actV_set{n:Nat}{s:List Int}{i:Int}(h0:0≤i)(hi:i<n):(actV n s).set i.toNat (.bool true)=actV n (s++[i]):=by
 apply List.ext_getElem?
 intro j
 rw[List.getElem?_set,actV_len]
 by_cases hj:i.toNat=j
 ·subst hj
  rw[if_pos rfl,if_pos (by omega),actV_get (by omega)]
  congr 2
  symm;rw[hasL_iff];simp;omega
 ·rw[if_neg hj]
  by_cases h:j<n
  ·rw[actV_get h,actV_get h]
   congr 2
   unfold hasL
   have:(j:Int)∈s↔(j:Int)∈s++[i]:=by simp;omega
   by_cases hs:(j:Int)∈s
   ·rw[decide_eq_true hs,decide_eq_true (this.1 hs)]
   ·rw[decide_eq_false hs,decide_eq_false (fun h=>hs (this.2 h))]
  ·rw[List.getElem?_eq_none (by rw[actV_len];omega),List.getElem?_eq_none (by rw[actV_len];omega)]
def chainF(ns:List Nd):Nat→Int→List Int
 |0,_=>[]
 |f+1,c=>if 0≤c then(match ns[c.toNat]? with|some n=>c::chainF ns f n.parent|none=>[])else[]
def chainN(ns:List Nd)(c:Int):List Int:=chainF ns (ns.length+1) c
theorem chainF_neg{ns:List Nd}{f:Nat}{c:Int}(h:c<0):chainF ns f c=[]:=by
 cases f with
 |zero=>rfl
 |succ f=>unfold chainF;rw[if_neg (by omega)]
theorem chainF_stable{ns:List Nd}(T:Tree ns):∀(f f':Nat) (c:Int),c<f→c<f'→chainF ns f c=chainF ns f' c
 |0,f',c,h1,h2=>by rw[chainF_neg (by omega),chainF_neg (by omega)]
 |f+1,0,c,h1,h2=>by rw[chainF_neg (by omega),chainF_neg (by omega)]
 |f+1,f'+1,c,h1,h2=>by
  unfold chainF
  by_cases h0:0≤c
  ·rw[if_pos h0,if_pos h0]
   cases hn:ns[c.toNat]? with
   |none=>rfl
   |some n=>
    have:=T.seg.par c.toNat n hn
    show c::_=c::_
    rw[chainF_stable T f f' n.parent (by omega) (by omega)]
  ·rw[if_neg h0,if_neg h0]
theorem chain_neg{ns:List Nd}{c:Int}(h:c<0):chainN ns c=[]:=chainF_neg h
theorem chain_cons{ns:List Nd}(T:Tree ns){c:Int}{n:Nd}(h0:0≤c)(hn:ns[c.toNat]? =some n):chainN ns c=c::chainN ns n.parent:=by
 have:=T.seg.par c.toNat n hn
 have hl:=(List.getElem?_eq_some_iff.1 hn).1
 unfold chainN
 conv=>lhs;unfold chainF
 rw[if_pos h0,hn]
 show c::_=c::_
 rw[chainF_stable T ns.length (ns.length+1) n.parent (by omega) (by omega)]
theorem chain_all{ns:List Nd}(T:Tree ns):∀(f:Nat) (c:Int),c<f→c<ns.length→(chainN ns c).length≤f∧∀x∈chainN ns c,(0≤x∧x≤c)∧(x=c∨∃n,ns[x.toNat]? =some n∧(n.kind=2∨n.kind=3))∧∀y∈chainN ns x,y∈chainN ns c
 |f,c,h1,h2=>by
  rcases Int.lt_or_le c 0 with h0|h0
  ·rw[chain_neg h0];simp
  ·cases f with
   |zero=>omega
   |succ f=>
   obtain⟨n,hn⟩:∃n,ns[c.toNat]? =some n:=⟨_,List.getElem?_eq_getElem (by omega)⟩
   have hp:=T.seg.par c.toNat n hn
   have ec:=chain_cons T h0 hn
   obtain⟨k1,k2⟩:=chain_all T f n.parent (by omega) (by omega)
   refine⟨by rw[ec,List.length_cons];omega,?_⟩
   intro x hx
   rw[ec]at hx
   rcases List.mem_cons.1 hx with rfl|hx
   ·exact⟨⟨h0,Int.le_refl _⟩,.inl rfl,fun y hy=>hy⟩
   ·obtain⟨⟨a1,a2⟩,a3,a4⟩:=k2 x hx
    refine⟨⟨a1,by omega⟩,.inr ?_,fun y hy=>by rw[ec];exact List.mem_cons_of_mem _ (a4 y hy)⟩
    rcases a3 with rfl|a3
    ·obtain⟨p,p1,p2⟩:=T.seg.kid c.toNat n hn (by omega)
     exact⟨p,by simpa using p1,p2⟩
    ·exact a3
theorem chain_mem{ns:List Nd}(T:Tree ns){c x:Int}(hc:c<ns.length)(hx:x∈chainN ns c):(0≤x∧x≤c)∧(x=c∨∃n,ns[x.toNat]? =some n∧(n.kind=2∨n.kind=3))∧∀y∈chainN ns x,y∈chainN ns c:=
 (chain_all T (c.toNat+1) c (by omega) hc).2 x hx
def atomAt(ns:List Nd)(c:Int):Bool:=decide (0≤c∧c<ns.length)&&(match ns[c.toNat]? with|some n=>decide (n.kind=1)|none=>false)
theorem atomAt_iff{ns:List Nd}{c:Int}:atomAt ns c=true↔0≤c∧c<ns.length∧∃n,ns[c.toNat]? =some n∧n.kind=1:=by
 unfold atomAt
 rw[Bool.and_eq_true,decide_eq_true_eq]
 constructor
 ·rintro⟨⟨h1,h2⟩,h3⟩
  cases hn:ns[c.toNat]? with
  |none=>rw[hn]at h3;simp at h3
  |some n=>rw[hn]at h3;exact⟨h1,h2,n,rfl,by simpa using h3⟩
 ·rintro⟨h1,h2,n,h3,h4⟩
  rw[h3];exact⟨⟨h1,h2⟩,by simpa using h4⟩
end Go.VM
namespace Go.Proofs.Ytkommgiklkcclaa.Vm
section
variable {R : Type} {G : ORC R} {k : Nat} {K : LV → OV R} {Q : LV → Prop}
def memN(n:Nat)(s:List Int):List Int:=((List.range n).filter fun j:Nat=>hasL s j).map fun j:Nat=>(j:Int)
theorem memN_succ{n:Nat}{s:List Int}:memN (n+1) s=memN n s++if hasL s n then[(n:Int)]else[]:=by
 unfold memN
 rw[List.range_succ,List.filter_append,List.map_append]
 congr 1
 cases h:hasL s n<;>simp[h]
theorem memN_len{n:Nat}{s:List Int}:(memN n s).length≤n:=by
 unfold memN
 rw[List.length_map]
 exact Nat.le_trans (List.length_filter_le _ _) (by simp)
theorem mem_memN{n:Nat}{s:List Int}{x:Int}:x∈memN n s↔(0≤x∧x<n)∧x∈s:=by
 unfold memN
 rw[List.mem_map]
 constructor
 ·rintro⟨j,hj,rfl⟩
  obtain⟨h1,h2⟩:=List.mem_filter.1 hj
  exact⟨⟨by omega,by have:=List.mem_range.1 h1;omega⟩,hasL_iff.1 h2⟩
 ·rintro⟨⟨h0,h1⟩,h2⟩
  exact⟨x.toNat,List.mem_filter.2 ⟨List.mem_range.2 (by omega),by rw[show((x.toNat:Nat):Int)=x by omega];exact hasL_iff.2 h2⟩,by omega⟩
def PlacesOK(G:ORC R):Prop:=∀(n:Nat) (s:List Int) (K:LV→OV R),n≤1000→W (fun o=>o=[.sl 1 (ivs (memN n s))]) K (G 40 [.sl 1 (actV n s)] K)
theorem places_loop{Ko:LV→OV R}{n:Nat}{s:List Int}(hn:n≤1000)(hKo:W Q K (Ko (ivs (memN n s)))):
 ∀(j i:Nat),n-i<j→i≤n→W Q K (l40_0g G k Ko j (ivs (memN i s)) (actV n s) n i)
 |0,i,h1,h2=>by omega
 |j+1,i,h1,h2=>by
  show W Q K (b40_0 G k (l40_0g G k Ko j) Ko (ivs (memN i s)) (actV n s) n i)
  unfold b40_0
  refine W_dec (fun h=> ?_) (fun h=>by rw[show i=n by omega];exact hKo)
  have next:=places_loop (Ko:=Ko) hn hKo j (i+1) (by omega) (by omega)
  rw[memN_succ]at next
  have hl:=memN_len (n:=i) (s:=s)
  refine W_at (by omega) (by rw[Int.toNat_natCast];exact actV_get (by omega)) ?_
  (repeat(with_reducible apply U1))
  rw[wrap_id (n:=(i:Int)+1) (by omega)]
  refine W_bool (fun hb=> ?_) (fun hb=> ?_)
  ·refine W_yes (by rw[ivs_len];omega) ?_
   rw[hb,if_pos rfl,ivs_app]at next
   exact next
  ·rw[hb,if_neg (by simp),List.append_nil]at next
   exact next
theorem places_ok(hk:10000≤k):PlacesOK (fun _ args (K:LV→OV R)=>g40 G k args K):=by
 intro n s K hn
 show W _ K (f40 G k (actV n s) K)
 unfold f40 l40_0
 rw[actV_len]
 exact places_loop (Q:=fun o=>o=[.sl 1 (ivs (memN n s))]) (Ko:=fun x=>K [.sl 1 x]) hn (W_ret rfl) k 0 (by omega) (by omega)
def putC(N:Nat)(C:List Int)(c:Int):List Int:=if 0≤c∧c<N then C++[c]else C
structure Srch where
 nm:ByteArray
 st:Int
 fu:Int
 vars:LV
 ports:LV
 timers:LV
 ns:List Nd
 es:LV
 cs:LV
 any:Bool
 ev:LV
def CodeOK(G:ORC R):Prop:=∀(x:Srch) (c:Int) (er ra:LV) (N:Nat) (C:List Int) (K:LV→OV R),W (fun o=>o=[.str x.nm,.int .i64 x.st,.int .i64 x.fu,.bool x.any,.sl 1 (actV N (putC N C c))]) K
 (G 61 [.int .i64 c,.str x.nm,.int .i64 x.st,.int .i64 x.fu,.sl 1 x.vars,.sl 1 x.ports,.sl 1 x.timers,.sl 7 (x.ns.map Nd.v),.sl 6 x.es,.sl 1 x.cs,.bool x.any,.sl 1 x.ev,.sl 1 er,.sl 1 (actV N C),.sl 1 ra] K)
theorem code_ok:CodeOK (fun _ args (K:LV→OV R)=>g61 G k args K):=by
 intro x c er ra N C K
 show W _ K (f61 G k c x.nm x.st x.fu x.vars x.ports x.timers (x.ns.map Nd.v) x.es x.cs x.any x.ev er (actV N C) ra K)
 unfold f61 putC
 rw[actV_len]
 refine W_dec (fun h0=> ?_) (fun h0=>W_ret (by rw[if_neg (by omega)]))
 refine W_dec (fun h1=> ?_) (fun h1=>W_ret (by rw[if_neg (by omega)]))
 have hat:(actV N C)[c.toNat]? =some (.bool (hasL C c)):=by rw[actV_get (by omega),show((c.toNat:Nat):Int)=c by omega]
 have:=W_at (Q:=fun o=>o=[.str x.nm,.int .i64 x.st,.int .i64 x.fu,.bool x.any,.sl 1 (actV N (if 0≤c∧c<N then C++[c]else C))]) (K:=K) (E:=none) (F:=fun _=>K [.str x.nm,.int .i64 x.st,.int .i64 x.fu,.bool x.any,.sl 1 (List.set (actV N C) (Int.toNat c) (.bool true))]) (by omega) hat (W_ret (by rw[actV_set h0 h1,if_pos ⟨h0,h1⟩]))
 rw[actV_len]at this
 exact this
def nodC(ns:List Nd)(N:Nat)(dom:Int):Nat→List Int→List Int
 |0,C=>C
 |i+1,C=>match ns[i]? with
  |some n=>if(i:Int)≠dom∧inN ns i dom=true then putC N (putC N (nodC ns N dom i C) n.entry) n.exit else nodC ns N dom i C
  |none=>nodC ns N dom i C
theorem nodC_at{ns:List Nd}{N:Nat}{dom:Int}{i:Nat}{C:List Int}{n:Nd}(h:ns[i]? =some n):nodC ns N dom (i+1) C=if(i:Int)≠dom∧inN ns i dom=true then putC N (putC N (nodC ns N dom i C) n.entry) n.exit else nodC ns N dom i C:=by
 show(match ns[i]? with|some n=>_|none=>_)=_
 rw[h]
theorem edge_loop(hI:CInOK G)(hC:CodeOK G){x:Srch}{N:Nat}{C:List Int}{er ra:LV}{a1 a2 dom a4 a5:Int}{s:ByteArray}(hl:x.ns.length≤1000)
 {Ko:ByteArray→Int→Int→LV→LV→LV→LV→LV→LV→Bool→LV→LV→LV→LV→OV R}
 (hKo:W Q K (Ko x.nm x.st x.fu x.vars x.ports x.timers (x.ns.map Nd.v) x.es x.cs x.any x.ev er (actV N (nodC x.ns N dom x.ns.length C)) ra)):
 ∀(j i:Nat),x.ns.length-i<j→i≤x.ns.length→W Q K (l44_0g G k Ko j (x.ns.map Nd.v) x.ns.length i x.nm x.st x.fu x.vars x.ports x.timers (x.ns.map Nd.v) x.es x.cs x.any x.ev er (actV N (nodC x.ns N dom i C)) ra a1 a2 dom a4 a5 s)
 |0,i,h1,h2=>by omega
 |j+1,i,h1,h2=>by
  show W Q K (b44_0 G k (l44_0g G k Ko j) Ko (x.ns.map Nd.v) x.ns.length i x.nm x.st x.fu x.vars x.ports x.timers (x.ns.map Nd.v) x.es x.cs x.any x.ev er (actV N (nodC x.ns N dom i C)) ra a1 a2 dom a4 a5 s)
  unfold b44_0
  refine W_dec (fun h=> ?_) (fun h=>by rw[show i=x.ns.length by omega];exact hKo)
  have next:=edge_loop (Ko:=Ko) (C:=C) (a1:=a1) (a2:=a2) (a4:=a4) (a5:=a5) (s:=s) hI hC hl hKo j (i+1) (by omega) (by omega)
  obtain⟨n,hn⟩:∃n,x.ns[i]? =some n:=⟨_,List.getElem?_eq_getElem (by omega)⟩
  rw[nodC_at hn]at next
  have hI':=hI
  have hC':=hC
  unfold CInOK at hI';unfold CodeOK at hC'
  refine W_at (by omega) (by rw[Int.toNat_natCast];exact nd_get hn) (W_asAgg ?_)
  (repeat(with_reducible apply U1))
  rw[wrap_id (n:=(i:Int)+1) (by omega)]
  by_cases hd:(i:Int)=dom
  ·refine W_chk' (by simp[hd]) ?_
   rw[if_neg (by simp[hd])]at next
   exact next
  ·refine W_chk (by simp[hd]) ?_
   refine W_call (hI' _ _ _ _) ?_
   rintro _ rfl
   (repeat(with_reducible apply U1))
   refine W_bool (fun hb=> ?_) (fun hb=>by rw[if_neg (by simp[hb])]at next;exact next)
   rw[if_pos ⟨hd,hb⟩]at next
   refine W_call (hC' x _ _ _ _ _ _) ?_
   rintro _ rfl
   (repeat(with_reducible apply U1))
   refine W_call (hC' x _ _ _ _ _ _) ?_
   rintro _ rfl
   (repeat(with_reducible apply U1))
   exact next
def edgC(ns:List Nd)(N:Nat)(dom acts:Int)(C:List Int):List Int:=nodC ns N dom ns.length (putC N C acts)
def EdgeOK(G:ORC R):Prop:=∀(x:Srch) (a1 a2 dom a4 acts:Int) (s:ByteArray) (er ra:LV) (N:Nat) (C:List Int) (K:LV→OV R),x.ns.length≤1000→W (fun o=>o=[.str x.nm,.int .i64 x.st,.int .i64 x.fu,.bool x.any,.sl 1 (actV N (edgC x.ns N dom acts C))]) K
 (G 44 [.agg [.int .i64 a1,.int .i64 a2,.int .i64 dom,.int .i64 a4,.int .i64 acts,.str s],.str x.nm,.int .i64 x.st,.int .i64 x.fu,.sl 1 x.vars,.sl 1 x.ports,.sl 1 x.timers,.sl 7 (x.ns.map Nd.v),.sl 6 x.es,.sl 1 x.cs,.bool x.any,.sl 1 x.ev,.sl 1 er,.sl 1 (actV N C),.sl 1 ra] K)
theorem edge_ok(hk:10000≤k)(hI:CInOK G)(hC:CodeOK G):EdgeOK (fun _ args (K:LV→OV R)=>g44 G k args K):=by
 intro x a1 a2 dom a4 acts s er ra N C K hl
 show W _ K (f44 G k a1 a2 dom a4 acts s x.nm x.st x.fu x.vars x.ports x.timers (x.ns.map Nd.v) x.es x.cs x.any x.ev er (actV N C) ra K)
 unfold f44
 have hC':=hC
 unfold CodeOK at hC'
 refine W_call (hC' x _ _ _ _ _ _) ?_
 rintro _ rfl
 (repeat(with_reducible apply U1))
 unfold l44_0
 simp only[List.length_map]
 exact edge_loop (Q:=fun o=>o=[.str x.nm,.int .i64 x.st,.int .i64 x.fu,.bool x.any,.sl 1 (actV N (edgC x.ns N dom acts C))]) (Ko:=fun a b c _ _ _ _ _ _ d _ _ e _=>K [.str a,.int .i64 b,.int .i64 c,.bool d,.sl 1 e]) hI hC hl (W_ret rfl) k 0 (by omega) (by omega)
end
section
variable {R : Type} {G : ORC R} {k : Nat} {K : LV → OV R} {Q : LV → Prop}
theorem W_nk{l:LV}{i:Nat}{v:V}{F:V→OV R}(hv:l[i]? =some v)(h:W Q K (F v)):W Q K (nthK l i F):=by unfold nthK;rw[hv];exact h
def sv(l:List ByteArray):LV:=l.map .str
theorem sv_len{l:List ByteArray}:(sv l).length=l.length:=by simp[sv]
theorem sv_at{l:List ByteArray}{i:Nat}{s:ByteArray}(h:l[i]? =some s):(sv l)[i]? =some (.str s):=by unfold sv;rw[List.getElem?_map,h];rfl
theorem sv_snoc{l:List ByteArray}{s:ByteArray}:sv l++[.str s]=sv (l++[s]):=by simp[sv]
def hasS(l:List ByteArray)(s:ByteArray):Bool:=l.any fun t=>s.toList==t.toList
theorem hasS_snoc{l:List ByteArray}{s t:ByteArray}:hasS (l++[t]) s=(hasS l s||s.toList==t.toList):=by unfold hasS;rw[List.any_append];simp
theorem takeS{α:Type}{l:List α}{m:Nat}{x:α}(h:l[m]? =some x):l.take (m+1)=l.take m++[x]:=by rw[List.take_add_one,h];rfl
def SiS(G:ORC R):Prop:=∀(l:List ByteArray) (s:ByteArray) (K:LV→OV R),l.length≤1000000→W (fun o=>∃i,o=[.int .i64 i]∧(0≤i↔hasS l s=true)) K (G 60 [.sl 1 (sv l),.str s] K)
theorem sis_loop{Ko:Unit→OV R}{Kr:Int→OV R}{l:List ByteArray}{s:ByteArray}(hl:l.length≤1000000)(hKo:hasS l s=false→W Q K (Ko ()))(hKr:∀i,0≤i→hasS l s=true→W Q K (Kr i)):
 ∀(j m:Nat),l.length-m<j→m≤l.length→hasS (l.take m) s=false→W Q K (l60_0g G k Ko Kr j (sv l) s l.length m)
 |0,m,h1,h2,h3=>by omega
 |j+1,m,h1,h2,h3=>by
  show W Q K (b60_0 G k (l60_0g G k Ko Kr j) Ko Kr (sv l) s l.length m)
  unfold b60_0
  refine W_dec (fun h=> ?_) (fun h=>hKo (by rw[List.take_of_length_le (by omega)]at h3;exact h3))
  obtain⟨t,ht⟩:∃t,l[m]? =some t:=⟨_,List.getElem?_eq_getElem (by omega)⟩
  refine W_at (by omega) (by rw[Int.toNat_natCast];exact sv_at ht) ?_
  (repeat(with_reducible apply U1))
  refine W_bool (fun e=>hKr m (by omega) ?_) (fun e=> ?_)
  ·unfold hasS
   exact List.any_eq_true.2 ⟨t,List.mem_of_getElem? ht,e⟩
  ·rw[wrap_id (n:=(m:Int)+1) (by omega)]
   refine sis_loop hl hKo hKr j (m+1) (by omega) (by omega) ?_
   rw[takeS ht,hasS_snoc,h3,e];rfl
theorem sis_ok(hk:1000002≤k):SiS (fun _ args (K:LV→OV R)=>g60 G k args K):=by
 intro l s K hl
 show W _ K (f60 G k (sv l) s K)
 unfold f60 l60_0
 rw[sv_len]
 exact sis_loop (Q:=fun o=>∃i,o=[.int .i64 i]∧(0≤i↔hasS l s=true)) (K:=K) (Ko:=fun _=>K [.int .i64 (-1)]) (Kr:=fun y=>K [.int .i64 y]) hl (fun h=>W_ret ⟨_,rfl,by rw[h];constructor<;>intro h'<;>first|omega|cases h'⟩) (fun i h0 h=>W_ret ⟨_,rfl,fun _=>h,fun _=>h0⟩) k 0 (by omega) (by omega) rfl
def CoS(G:ORC R):Prop:=∀(l:List ByteArray) (s:ByteArray) (K:LV→OV R),l.length≤1000000→W (fun o=>o=[.bool (hasS l s)]) K (G 43 [.sl 1 (sv l),.str s] K)
theorem cos_ok(hS:SiS G):CoS (fun _ args (K:LV→OV R)=>g43 G k args K):=by
 intro l s K hl
 show W _ K (f43 G k (sv l) s K)
 unfold f43
 unfold SiS at hS
 refine W_call (hS _ _ _ hl) ?_
 rintro _ ⟨i,rfl,hi⟩
 (repeat(with_reducible apply U1))
 refine W_ret ?_
 cases h:hasS l s with
 |true=>rw[decide_eq_true (hi.2 h)]
 |false=>rw[decide_eq_false (fun h'=>by rw[hi.1 h']at h;cases h)]
def RaisesX(G:ORC R):Prop:=∀(op a n:Int) (s:ByteArray) (K:LV→OV R),W (fun o=>o=[.bool (op==19)]) K (G 41 [.agg [.int .i64 op,.int .i64 a,.int .i64 n,.str s]] K)
theorem raises_ok:RaisesX (fun _ args (K:LV→OV R)=>g41 G k args K):=by
 intro op a n s K
 show W _ K (f41 G k op a n s K)
 unfold f41
 exact W_ret rfl
def raisesP(code:LV)(s:ByteArray):Prop:=∃a n s',V.agg [.int .i64 19,.int .i64 a,.int .i64 n,.str s']∈code∧s.toList=s'.toList
theorem told_in(hR:RaisesX G)(hC:CoS G){code:LV}(hA:AllI code)(hcl:code.length≤9900){L cs:LV}{n i:Int}{T0:List ByteArray}{x:Srch}(hT:T0.length≤900000)
 {Ko:LV→LV→Int→Int→ByteArray→Int→Int→LV→LV→LV→LV→LV→LV→OV R}
 (hKo:∀T:List ByteArray,T.length≤T0.length+code.length→(∀s,hasS T s=true↔hasS T0 s=true∨raisesP code s)→W Q K (Ko (sv T) L n i x.nm x.st x.fu x.vars x.ports x.timers (x.ns.map Nd.v) x.es cs)):
 ∀(j m:Nat) (T:List ByteArray),code.length-m<j→m≤code.length→T.length≤T0.length+m→(∀s,hasS T s=true↔hasS T0 s=true∨raisesP (code.take m) s)→
  W Q K (l65575_2g G k Ko j (sv T) L n i (.sl 4 code) code.length m x.nm x.st x.fu x.vars x.ports x.timers (x.ns.map Nd.v) x.es cs)
 |0,m,T,h1,h2,h3,h4=>by omega
 |j+1,m,T,h1,h2,h3,h4=>by
  show W Q K (b65575_2 G k (l65575_2g G k Ko j) Ko (sv T) L n i (.sl 4 code) code.length m x.nm x.st x.fu x.vars x.ports x.timers (x.ns.map Nd.v) x.es cs)
  unfold b65575_2
  refine W_dec (fun h=> ?_) (fun h=>by rw[List.take_of_length_le (by omega)]at h4;exact hKo T (by omega) h4)
  obtain⟨v,hv⟩:∃v,code[m]? =some v:=⟨_,List.getElem?_eq_getElem (by omega)⟩
  obtain⟨op,a,n',s,rfl⟩:=hA v (List.mem_of_getElem? hv)
  have step:∀t,raisesP (code.take (m+1)) t↔raisesP (code.take m) t∨(op=19∧t.toList=s.toList):=fun t=>by
   rw[takeS hv]
   constructor
   ·rintro⟨a1,n1,s1,h5,h6⟩
    rcases List.mem_append.1 h5 with h5|h5
    ·exact .inl ⟨a1,n1,s1,h5,h6⟩
    ·rw[List.mem_singleton]at h5
     injection h5 with h5
     injection h5 with e1 h5
     injection h5 with e2 h5
     injection h5 with e3 h5
     injection h5 with e4 h5
     injection e1 with _ e1
     injection e4 with e4
     exact .inr ⟨e1.symm,by rw[h6,e4]⟩
   ·rintro(⟨a1,n1,s1,h5,h6⟩|⟨h5,h6⟩)
    ·exact⟨a1,n1,s1,List.mem_append.2 (.inl h5),h6⟩
    ·exact⟨a,n',s,List.mem_append.2 (.inr (by rw[h5];simp)),h6⟩
  have next:∀T':List ByteArray,T'.length≤T0.length+(m+1)→(∀t,hasS T' t=true↔hasS T0 t=true∨raisesP (code.take (m+1)) t)→
   W Q K (l65575_2g G k Ko j (sv T') L n i (.sl 4 code) code.length (IntKind.i64.wrap ((m:Int)+1)) x.nm x.st x.fu x.vars x.ports x.timers (x.ns.map Nd.v) x.es cs):=fun T' q1 q2=>by
   rw[wrap_id (n:=(m:Int)+1) (by omega)]
   exact told_in hR hC hA hcl hT hKo j (m+1) T' (by omega) (by omega) q1 q2
  unfold RaisesX at hR;unfold CoS at hC
  (repeat(with_reducible apply U1))
  refine W_and (W_and (W_chk rfl (W_yes (by omega) (W_yes (by omega) ?_))))
  refine W_nk (by rw[Int.toNat_natCast];exact hv) ?_
  (repeat(with_reducible apply U1))
  refine W_call (hR _ _ _ _ _) ?_
  rintro _ rfl
  (repeat(with_reducible apply U1))
  refine W_bool (fun e=> ?_) (fun e=> ?_)
  ·have e:=beq_iff_eq.1 e
   refine W_call (hC _ _ _ (by omega)) ?_
   rintro _ rfl
   (repeat(with_reducible apply U1))
   refine W_not (W_bool (fun hb=> ?_) (fun hb=> ?_))
   ·refine next T (by omega) fun t=> ?_
    rw[h4 t,step t]
    constructor
    ·rintro(q|q)
     ·exact .inl q
     ·exact .inr (.inl q)
    ·rintro(q|q|⟨_,q⟩)
     ·exact .inl q
     ·exact .inr q
     ·refine(h4 t).1 ?_
      unfold hasS at hb ⊢
      rw[q];exact hb
   ·refine W_yes (by rw[sv_len];omega) ?_
    rw[sv_snoc]
    refine next _ (by rw[List.length_append];simp;omega) fun t=> ?_
    rw[hasS_snoc,Bool.or_eq_true,h4 t,step t,beq_iff_eq]
    constructor
    ·rintro((q|q)|q)
     ·exact .inl q
     ·exact .inr (.inl q)
     ·exact .inr (.inr ⟨e,q⟩)
    ·rintro(q|q|⟨_,q⟩)
     ·exact .inl (.inl q)
     ·exact .inl (.inr q)
     ·exact .inr q
  ·refine next T (by omega) fun t=> ?_
   rw[h4 t,step t]
   have e:op≠19:=fun h=>by rw[h]at e;simp at e
   constructor
   ·rintro(q|q)
    ·exact .inl q
    ·exact .inr (.inl q)
   ·rintro(q|q|⟨q,_⟩)
    ·exact .inl q
    ·exact .inr q
    ·exact absurd q e
def RaisedBy(cs:LV)(L:List Int)(s:ByteArray):Prop:=∃c∈L,∃code,cs[c.toNat]? =some (.sl 4 code)∧raisesP code s
def CodesA(l:LV):Prop:=∀v∈l,∃c,v= .sl 4 c∧AllI c∧c.length≤9900
def ToldOK(G:ORC R):Prop:=∀(x:Srch) (L:List Int) (K:LV→OV R),CodesA x.cs→L.length≤90→(∀c∈L,0≤c∧c<x.cs.length)→
 W (fun o=>∃T:List ByteArray,o=[.sl 1 (sv T)]∧T.length≤900000∧∀s,hasS T s=true↔RaisedBy x.cs L s) K
   (G 65575 [.agg [.str x.nm,.int .i64 x.st,.int .i64 x.fu,.sl 1 x.vars,.sl 1 x.ports,.sl 1 x.timers,.sl 7 (x.ns.map Nd.v),.sl 6 x.es,.sl 1 x.cs],.sl 1 (ivs L)] K)
theorem told_loop(hk:10000≤k)(hR:RaisesX G)(hC:CoS G){x:Srch}{L:List Int}(hA:CodesA x.cs)(hl:L.length≤90)(hL:∀c∈L,0≤c∧c<x.cs.length)
 {Ko:LV→OV R} (hKo:∀T:List ByteArray,T.length≤900000→(∀s,hasS T s=true↔RaisedBy x.cs L s)→W Q K (Ko (sv T))):
 ∀(j m:Nat) (T:List ByteArray),L.length-m<j→m≤L.length→T.length≤m*9900→(∀s,hasS T s=true↔RaisedBy x.cs (L.take m) s)→
  W Q K (l65575_0g G k Ko j (sv T) (ivs L) L.length m x.nm x.st x.fu x.vars x.ports x.timers (x.ns.map Nd.v) x.es x.cs)
 |0,m,T,h1,h2,h3,h4=>by omega
 |j+1,m,T,h1,h2,h3,h4=>by
  show W Q K (b65575_0 G k (l65575_0g G k Ko j) Ko (sv T) (ivs L) L.length m x.nm x.st x.fu x.vars x.ports x.timers (x.ns.map Nd.v) x.es x.cs)
  unfold b65575_0
  refine W_dec (fun h=> ?_) (fun h=>by rw[List.take_of_length_le (by omega)]at h4;exact hKo T (by omega) h4)
  obtain⟨c,hc⟩:∃c,L[m]? =some c:=⟨_,List.getElem?_eq_getElem (by omega)⟩
  obtain⟨c0,c1⟩:=hL c (List.mem_of_getElem? hc)
  obtain⟨v,hv⟩:∃v,x.cs[c.toNat]? =some v:=⟨_,List.getElem?_eq_getElem (by omega)⟩
  obtain⟨code,rfl,a1,a2⟩:=hA v (List.mem_of_getElem? hv)
  refine W_at (by omega) (by rw[Int.toNat_natCast];exact ivs_at hc) (W_aI ?_)
  refine W_at c0 hv ?_
  (repeat(with_reducible apply U1))
  unfold l65575_2
  refine told_in (Ko:=fun yl29 yl30 yi31 yi32 ys33 yi34 yi35 yl36 yl37 yl38 yl39 yl40 yl41=>l65575_0g G k Ko j yl29 yl30 yi31 (IntKind.i64.wrap (yi32+1)) ys33 yi34 yi35 yl36 yl37 yl38 yl39 yl40 yl41) hR hC a1 a2 (T0:=T) (by omega) (fun T' q1 q2=> ?_) k 0 T (by omega) (by omega) (by omega) (fun s=>⟨fun q=>.inl q,fun q=>q.elim id fun⟨_,_,_,q,_⟩=>by cases q⟩)
  show W Q K (l65575_0g G k Ko j (sv T') (ivs L) L.length (IntKind.i64.wrap ((m:Int)+1)) x.nm x.st x.fu x.vars x.ports x.timers (x.ns.map Nd.v) x.es x.cs)
  rw[wrap_id (n:=(m:Int)+1) (by omega)]
  refine told_loop hk hR hC hA hl hL hKo j (m+1) T' (by omega) (by omega) (by rw[Nat.succ_mul];omega) fun s=> ?_
  rw[q2 s,h4 s,takeS hc]
  constructor
  ·rintro(⟨c',h5,h6⟩|h5)
   ·exact⟨c',List.mem_append.2 (.inl h5),h6⟩
   ·exact⟨c,List.mem_append.2 (.inr (by simp)),code,hv,h5⟩
  ·rintro⟨c',h5,h6⟩
   rcases List.mem_append.1 h5 with h5|h5
   ·exact .inl ⟨c',h5,h6⟩
   ·rw[List.mem_singleton]at h5
    subst h5
    obtain⟨code',h7,h8⟩:=h6
    rw[hv]at h7
    injection h7 with h7
    injection h7 with _ h7
    rw[h7];exact .inr h8
theorem told_ok(hk:10000≤k)(hR:RaisesX G)(hC:CoS G):ToldOK (fun _ args (K:LV→OV R)=>g65575 G k args K):=by
 intro x L K hA hl hL
 show W _ K (f65575 G k x.nm x.st x.fu x.vars x.ports x.timers (x.ns.map Nd.v) x.es x.cs (ivs L) K)
 unfold f65575 l65575_0
 rw[ivs_len]
 exact told_loop (Q:=fun o=>∃T:List ByteArray,o=[.sl 1 (sv T)]∧T.length≤900000∧∀s,hasS T s=true↔RaisedBy x.cs L s) (Ko:=fun y=>K [.sl 1 y]) hk hR hC hA hl hL (fun T q1 q2=>W_ret ⟨T,rfl,q1,q2⟩) k 0 [] (by omega) (by omega) (by simp) (fun s=>⟨fun q=>(by cases q),fun⟨_,q,_⟩=>(by cases q)⟩)
end
section
variable {R : Type} {G : ORC R} {k : Nat} {K : LV → OV R} {Q : LV → Prop}
def lateB(T:List ByteArray)(s:ByteArray):Bool:=(s.toList==ByteArray.toList ⟨#[]⟩)||((s.toList==ByteArray.toList ⟨#[101,114,114,111,114]⟩)||hasS T s)
def edV(a b c d f:Int)(s:ByteArray):V:=.agg [.int .i64 a,.int .i64 b,.int .i64 c,.int .i64 d,.int .i64 f,.str s]
def LaterX(G:ORC R):Prop:=∀(x:Srch) (a b c d f:Int) (s:ByteArray) (er cr:LV) (T:List ByteArray) (K:LV→OV R),T.length≤1000000→
 W (fun o=>o=[.bool (lateB T s),.str x.nm,.int .i64 x.st,.int .i64 x.fu,.bool x.any]) K
   (G 42 [edV a b c d f s,.str x.nm,.int .i64 x.st,.int .i64 x.fu,.sl 1 x.vars,.sl 1 x.ports,.sl 1 x.timers,.sl 7 (x.ns.map Nd.v),.sl 6 x.es,.sl 1 x.cs,.bool x.any,.sl 1 x.ev,.sl 1 er,.sl 1 cr,.sl 1 (sv T)] K)
theorem later_ok(hC:CoS G):LaterX (fun _ args (K:LV→OV R)=>g42 G k args K):=by
 intro x a b c d f s er cr T K hT
 show W _ K (f42 G k a b c d f s x.nm x.st x.fu x.vars x.ports x.timers (x.ns.map Nd.v) x.es x.cs x.any x.ev er cr (sv T) K)
 unfold f42 lateB
 refine W_bool (fun h=>W_ret (by rw[h];rfl)) (fun h=> ?_)
 refine W_bool (fun h2=>W_ret (by rw[h,h2];rfl)) (fun h2=> ?_)
 unfold CoS at hC
 refine W_call (hC _ _ _ hT) ?_
 rintro _ rfl
 (repeat(with_reducible apply U1))
 exact W_ret (by rw[h,h2];rfl)
def wantB(x:Srch)(ev T:List ByteArray)(s:ByteArray):Bool:=x.any||(lateB T s||hasS ev s)
def EdsS(es:LV):Prop:=∀e∈es,∃a b c d f s,e=edV a b c d f s
theorem round_loop(hE:EdgeOK G)(hL:LaterX G)(hC:CoS G){x:Srch}{ev T:List ByteArray}(hev:x.ev=sv ev)(hevl:ev.length≤1000000)(hT:T.length≤1000000)(hes:EdsS x.es)(hel:x.es.length≤1000)(hnl:x.ns.length≤1000){N:Nat}{r1 r2 r3:LV}{bg b4:Bool}
 (Inv:List Int→List Int→Prop) (hstep:∀E C (i:Nat) a b c d f s,x.es[i]? =some (edV a b c d f s)→Inv E C→hasL E i=false→wantB x ev T s=true→Inv (E++[(i:Int)]) (edgC x.ns N c f C))
 {E0 C0:List Int}
 {Ko:Bool→Bool→ByteArray→Int→Int→LV→LV→LV→LV→LV→LV→Bool→LV→LV→LV→LV→LV→LV→LV→Bool→OV R}
 (hKo:∀E C (fd:Bool),Inv E C→(fd=true→E0.length<E.length)→(fd=false→E=E0∧C=C0∧∀(i:Nat) a b c d f s,x.es[i]? =some (edV a b c d f s)→hasL E0 i=true∨wantB x ev T s=false)→
   W Q K (Ko bg fd x.nm x.st x.fu x.vars x.ports x.timers (x.ns.map Nd.v) x.es x.cs x.any x.ev (actV x.es.length E) (actV N C) (sv T) r1 r2 r3 b4)):
 ∀(j m:Nat) (E C:List Int) (fd:Bool),x.es.length-m<j→m≤x.es.length→Inv E C→(fd=true→E0.length<E.length)→(fd=false→E=E0∧C=C0∧∀(i:Nat) a b c d f s,i<m→x.es[i]? =some (edV a b c d f s)→hasL E0 i=true∨wantB x ev T s=false)→
  W Q K (l18_2g G k Ko j bg fd x.es x.es.length m x.nm x.st x.fu x.vars x.ports x.timers (x.ns.map Nd.v) x.es x.cs x.any x.ev (actV x.es.length E) (actV N C) (sv T) r1 r2 r3 b4)
 |0,m,E,C,fd,h1,h2,h3,h4,h5=>by omega
 |j+1,m,E,C,fd,h1,h2,h3,h4,h5=>by
  show W Q K (b18_2 G k (l18_2g G k Ko j) Ko bg fd x.es x.es.length m x.nm x.st x.fu x.vars x.ports x.timers (x.ns.map Nd.v) x.es x.cs x.any x.ev (actV x.es.length E) (actV N C) (sv T) r1 r2 r3 b4)
  unfold b18_2
  refine W_dec (fun h=> ?_) (fun h=>hKo E C fd h3 h4 fun e=>by
   obtain⟨q1,q2,q3⟩:=h5 e
   exact⟨q1,q2,fun i a b c d f s hi=>q3 i a b c d f s (by have:=(List.getElem?_eq_some_iff.1 hi).1;omega) hi⟩)
  obtain⟨e,he⟩:∃e,x.es[m]? =some e:=⟨_,List.getElem?_eq_getElem (by omega)⟩
  obtain⟨a,b,c,d,f,s,rfl⟩:=hes e (List.mem_of_getElem? he)
  have hE':=hE
  have hL':=hL
  have hC':=hC
  unfold EdgeOK at hE';unfold LaterX at hL';unfold CoS at hC'
  have hat:(actV x.es.length E)[((m:Nat):Int).toNat]? =some (.bool (hasL E m)):=by rw[Int.toNat_natCast];exact actV_get (by omega)
  have hset:(actV x.es.length E).set ((m:Nat):Int).toNat (.bool true)=actV x.es.length (E++[(m:Int)]):=actV_set (by omega) (by omega)
  have he2:=he
  unfold edV at he
  have stay:hasL E m=true∨wantB x ev T s=false→W Q K (l18_2g G k Ko j bg fd x.es x.es.length (IntKind.i64.wrap ((m:Int)+1)) x.nm x.st x.fu x.vars x.ports x.timers (x.ns.map Nd.v) x.es x.cs x.any x.ev (actV x.es.length E) (actV N C) (sv T) r1 r2 r3 b4):=fun hh=>by
   rw[wrap_id (n:=(m:Int)+1) (by omega)]
   refine round_loop hE hL hC hev hevl hT hes hel hnl Inv hstep hKo j (m+1) E C fd (by omega) (by omega) h3 h4 fun e=> ?_
   obtain⟨q1,q2,q3⟩:=h5 e
   refine⟨q1,q2,fun i a' b' c' d' f' s' hi hi2=> ?_⟩
   by_cases hm:i=m
   ·subst hm
    rw[he2]at hi2
    injection hi2 with hi2
    unfold edV at hi2
    injection hi2 with hi2
    injection hi2 with _ hi2
    injection hi2 with _ hi2
    injection hi2 with _ hi2
    injection hi2 with _ hi2
    injection hi2 with _ hi2
    injection hi2 with hi2 _
    injection hi2 with hi2
    rw[←hi2,←q1]
    exact hh
   ·exact q3 i a' b' c' d' f' s' (by omega) hi2
  have go:hasL E m=false→wantB x ev T s=true→W Q K (G 44 [edV a b c d f s,.str x.nm,.int .i64 x.st,.int .i64 x.fu,.sl 1 x.vars,.sl 1 x.ports,.sl 1 x.timers,.sl 7 (x.ns.map Nd.v),.sl 6 x.es,.sl 1 x.cs,.bool x.any,.sl 1 x.ev,.sl 1 (actV x.es.length (E++[(m:Int)])),.sl 1 (actV N C),.sl 1 (sv T)] fun o89=>(uS o89 fun s91 r90=>(uI .i64 r90 fun n93 r92=>(uI .i64 r92 fun n95 r94=>(uB r94 fun b97 r96=>(uL 1 r96 fun l99 r98=>(unNil r98 (l18_2g G k Ko j bg true x.es x.es.length (IntKind.i64.wrap ((m:Int)+1)) s91 n93 n95 x.vars x.ports x.timers (x.ns.map Nd.v) x.es x.cs b97 x.ev (actV x.es.length (E++[(m:Int)])) l99 (sv T) r1 r2 r3 b4)))))))):=fun g1 g2=>by
   unfold edV
   refine W_call (hE' x a b c d f s _ _ N C _ hnl) ?_
   rintro _ rfl
   (repeat(with_reducible apply U1))
   rw[wrap_id (n:=(m:Int)+1) (by omega)]
   refine round_loop hE hL hC hev hevl hT hes hel hnl Inv hstep hKo j (m+1) _ _ true (by omega) (by omega) (hstep E C m a b c d f s he2 h3 g1 g2) (fun _=> ?_) (fun e=>by cases e)
   rw[List.length_append,List.length_singleton]
   cases fd with
   |true=>have:=h4 rfl;omega
   |false=>rw[(h5 rfl).1];omega
  refine W_at (by omega) (by rw[Int.toNat_natCast];exact he) (W_asAgg ?_)
  (repeat(with_reducible apply U1))
  have W_at2:∀{F:V→OV R} {E1:OV R},W Q K (F (.bool (hasL E m)))→W Q K (bif(decide (0≤((m:Nat):Int))&&decide (((m:Nat):Int)<(((actV x.es.length E).length:Nat):Int)))then nthK (actV x.es.length E) ((m:Nat):Int).toNat F else E1):=fun hF=>W_at (by omega) hat hF
  refine W_at2 ?_
  (repeat(with_reducible apply U1))
  refine W_not (W_bool (fun g1=>stay (.inl g1)) (fun g1=> ?_))
  refine W_bool (fun ga=> ?_) (fun ga=> ?_)
  ·refine W_at2 ?_
   rw[hset]
   exact go g1 (by unfold wantB;rw[ga];rfl)
  ·refine W_call (hL' x a b c d f s _ _ T _ hT) ?_
   rintro _ rfl
   (repeat(with_reducible apply U1))
   refine W_bool (fun gl=> ?_) (fun gl=> ?_)
   ·refine W_at2 ?_
    rw[hset]
    exact go g1 (by unfold wantB;rw[ga,gl];rfl)
   ·rw[hev]
    refine W_call (hC' _ _ _ hevl) ?_
    rintro _ rfl
    (repeat(with_reducible apply U1))
    refine W_bool (fun gh=> ?_) (fun gh=> ?_)
    ·refine W_at2 ?_
     rw[hset]
     have:=go g1 (by unfold wantB;rw[ga,gl,gh];rfl)
     rw[hev]at this
     exact this
    ·have:=stay (.inr (by unfold wantB;rw[ga,gl,gh];rfl))
     rw[hev]at this
     exact this
theorem search_loop(hk:10000≤k)(hP:PlacesOK G)(hTo:ToldOK G)(hE:EdgeOK G)(hL:LaterX G)(hC:CoS G){x:Srch}{ev:List ByteArray}(hev:x.ev=sv ev)(hevl:ev.length≤1000000)(hes:EdsS x.es)(hel:x.es.length≤1000)(hnl:x.ns.length≤1000)(hcs:CodesA x.cs)(hcl:x.cs.length≤90){r1 r2 r3:LV}{bg b4:Bool}
 (Inv:List Int→List Int→Prop) (hbd:∀E C,Inv E C→E.length≤x.es.length)
 (hstep:∀(T:List ByteArray) E0 C0,Inv E0 C0→(∀s,hasS T s=true↔RaisedBy x.cs (memN x.cs.length C0) s)→∀E C (i:Nat) a b c d f s,x.es[i]? =some (edV a b c d f s)→Inv E C→hasL E i=false→wantB x ev T s=true→Inv (E++[(i:Int)]) (edgC x.ns x.cs.length c f C))
 {Ko:Bool→ByteArray→Int→Int→LV→LV→LV→LV→LV→LV→Bool→LV→LV→LV→LV→LV→LV→LV→Bool→OV R}
 (hfin:∀E C (T:List ByteArray),Inv E C→T.length≤900000→(∀s,hasS T s=true↔RaisedBy x.cs (memN x.cs.length C) s)→(∀(i:Nat) a b c d f s,x.es[i]? =some (edV a b c d f s)→hasL E i=true∨wantB x ev T s=false)→
   W Q K (Ko bg x.nm x.st x.fu x.vars x.ports x.timers (x.ns.map Nd.v) x.es x.cs x.any x.ev (actV x.es.length E) (actV x.cs.length C) (sv T) r1 r2 r3 b4)):
 ∀(j:Nat) (E C:List Int) (ra:LV),Inv E C→x.es.length-E.length+1<j→W Q K (l18_0g G k Ko j bg true x.nm x.st x.fu x.vars x.ports x.timers (x.ns.map Nd.v) x.es x.cs x.any x.ev (actV x.es.length E) (actV x.cs.length C) ra r1 r2 r3 b4)
 |0,E,C,ra,h1,h2=>by omega
 |j+1,E,C,ra,h1,h2=>by
  show W Q K (b18_0 G k (l18_0g G k Ko j) Ko bg true x.nm x.st x.fu x.vars x.ports x.timers (x.ns.map Nd.v) x.es x.cs x.any x.ev (actV x.es.length E) (actV x.cs.length C) ra r1 r2 r3 b4)
  unfold b18_0
  have hP':=hP
  have hTo':=hTo
  unfold PlacesOK at hP';unfold ToldOK at hTo'
  refine W_chk rfl ?_
  refine W_call (hP' _ _ _ (by omega)) ?_
  rintro _ rfl
  (repeat(with_reducible apply U1))
  have hml:=memN_len (n:=x.cs.length) (s:=C)
  refine W_call (hTo' x (memN x.cs.length C) _ hcs (by omega) (fun c hc=>(mem_memN.1 hc).1)) ?_
  rintro _ ⟨T,rfl,t1,t2⟩
  (repeat(with_reducible apply U1))
  unfold l18_2
  refine round_loop hE hL hC hev hevl (by omega) hes hel hnl Inv (hstep T E C h1 t2) (E0:=E) (C0:=C) (Ko:=l18_0g G k Ko j) (fun E' C' fd i1 i2 i3=> ?_) k 0 E C false (by omega) (by omega) h1 (fun e=>by cases e) (fun _=>⟨rfl,rfl,fun i _ _ _ _ _ _ hi=>by omega⟩)
  cases fd with
  |true=>
   have:=i2 rfl
   have:=hbd E' C' i1
   exact search_loop hk hP hTo hE hL hC hev hevl hes hel hnl hcs hcl Inv hbd hstep hfin j E' C' _ i1 (by omega)
  |false=>
   obtain⟨q1,q2,q3⟩:=i3 rfl
   subst q1;subst q2
   obtain⟨j',rfl⟩:∃j',j=j'+1:=⟨j-1,by omega⟩
   show W Q K (b18_0 G k (l18_0g G k Ko j') Ko bg false x.nm x.st x.fu x.vars x.ports x.timers (x.ns.map Nd.v) x.es x.cs x.any x.ev (actV x.es.length E') (actV x.cs.length C') (sv T) r1 r2 r3 b4)
   unfold b18_0
   exact W_chk' rfl (hfin E' C' T h1 t1 t2 q3)
end
section
variable {R : Type} {G : ORC R} {k : Nat} {K : LV → OV R} {Q : LV → Prop}
def lateAt(es:LV)(T:List ByteArray)(i:Int):Bool:=match es[i.toNat]? with
 |some (.agg [_,_,_,_,_,.str s])=>lateB T s
 |_=>false
theorem lateAt_eq{es:LV}{T:List ByteArray}{i:Int}{a b c d f:Int}{s:ByteArray}(h:es[i.toNat]? =some (edV a b c d f s)):lateAt es T i=lateB T s:=by
 unfold lateAt;rw[h];rfl
theorem more_loop(hL:LaterX G){x:Srch}{T:List ByteArray}(hT:T.length≤1000000)(hes:EdsS x.es){EL:List Int}(hEL:∀i∈EL,0≤i∧i<x.es.length)(hll:EL.length≤1000){er cr r1 r2 r3 CL RL:LV}{b4:Bool}
 {Ko:ByteArray→Int→Int→LV→LV→LV→LV→LV→LV→Bool→LV→LV→LV→LV→LV→LV→LV→Bool→LV→LV→LV→Bool→OV R}
 (hKo:W Q K (Ko x.nm x.st x.fu x.vars x.ports x.timers (x.ns.map Nd.v) x.es x.cs x.any x.ev er cr (sv T) r1 r2 r3 b4 (ivs EL) CL RL (EL.any (lateAt x.es T)))):
 ∀(j m:Nat),EL.length-m<j→m≤EL.length→W Q K (l18_4g G k Ko j false EL.length m x.nm x.st x.fu x.vars x.ports x.timers (x.ns.map Nd.v) x.es x.cs x.any x.ev er cr (sv T) r1 r2 r3 b4 (ivs EL) CL RL ((EL.take m).any (lateAt x.es T)))
 |0,m,h1,h2=>by omega
 |j+1,m,h1,h2=>by
  show W Q K (b18_4 G k (l18_4g G k Ko j) Ko false EL.length m x.nm x.st x.fu x.vars x.ports x.timers (x.ns.map Nd.v) x.es x.cs x.any x.ev er cr (sv T) r1 r2 r3 b4 (ivs EL) CL RL ((EL.take m).any (lateAt x.es T)))
  unfold b18_4
  refine W_dec (fun h=> ?_) (fun h=>by rw[List.take_of_length_le (by omega)];exact hKo)
  obtain⟨i,hi⟩:∃i,EL[m]? =some i:=⟨_,List.getElem?_eq_getElem (by omega)⟩
  obtain⟨i0,i1⟩:=hEL i (List.mem_of_getElem? hi)
  obtain⟨e,he⟩:∃e,x.es[i.toNat]? =some e:=⟨_,List.getElem?_eq_getElem (by omega)⟩
  obtain⟨a,b,c,d,f,s,rfl⟩:=hes e (List.mem_of_getElem? he)
  have hs:(EL.take (m+1)).any (lateAt x.es T)=((EL.take m).any (lateAt x.es T)||lateB T s):=by rw[takeS hi,List.any_append];simp[lateAt_eq he]
  have next:∀b',b'=(EL.take (m+1)).any (lateAt x.es T)→W Q K (l18_4g G k Ko j false EL.length (IntKind.i64.wrap ((m:Int)+1)) x.nm x.st x.fu x.vars x.ports x.timers (x.ns.map Nd.v) x.es x.cs x.any x.ev er cr (sv T) r1 r2 r3 b4 (ivs EL) CL RL b'):=fun b' hb=>by
   rw[wrap_id (n:=(m:Int)+1) (by omega),hb]
   exact more_loop hL hT hes hEL hll hKo j (m+1) (by omega) (by omega)
  have hL':=hL
  unfold LaterX at hL'
  refine W_at (by omega) (by rw[Int.toNat_natCast];exact ivs_at hi) (W_aI ?_)
  refine W_bool (fun hb=>next _ (by rw[hs,hb];rfl)) (fun hb=> ?_)
  refine W_not (W_chk' rfl ?_)
  refine W_at i0 he ?_
  unfold edV at hL' ⊢
  (repeat(with_reducible apply U1))
  refine W_call (hL' x a b c d f s _ _ T _ hT) ?_
  rintro _ rfl
  (repeat(with_reducible apply U1))
  exact next _ (by rw[hs,hb];rfl)
def AllX(G:ORC R):Prop:=∀(x:Srch) (ev:List ByteArray) (Inv:List Int→List Int→Prop) (ra:LV) (K:LV→OV R),x.ev=sv ev→ev.length≤1000000→EdsS x.es→x.es.length≤1000→x.ns.length≤1000→CodesA x.cs→x.cs.length≤90→Inv [] []→(∀E C,Inv E C→E.length≤x.es.length)→
 (∀(T:List ByteArray) E0 C0,Inv E0 C0→(∀s,hasS T s=true↔RaisedBy x.cs (memN x.cs.length C0) s)→∀E C (i:Nat) a b c d f s,x.es[i]? =some (edV a b c d f s)→Inv E C→hasL E i=false→wantB x ev T s=true→Inv (E++[(i:Int)]) (edgC x.ns x.cs.length c f C))→
 W (fun o=>∃(E C:List Int) (T:List ByteArray) (r1 r2 r3:LV),o=[.agg [.sl 1 (ivs (memN x.es.length E)),.sl 1 (ivs (memN x.cs.length C)),.sl 1 (sv T),.bool ((memN x.es.length E).any (lateAt x.es T))],.str x.nm,.int .i64 x.st,.int .i64 x.fu,.bool x.any,.sl 1 r1,.sl 1 r2,.sl 1 r3]∧
     Inv E C∧(∀s,hasS T s=true↔RaisedBy x.cs (memN x.cs.length C) s)∧∀(i:Nat) a b c d f s,x.es[i]? =some (edV a b c d f s)→hasL E i=true∨wantB x ev T s=false) K
   (G 18 [.bool false,.str x.nm,.int .i64 x.st,.int .i64 x.fu,.sl 1 x.vars,.sl 1 x.ports,.sl 1 x.timers,.sl 7 (x.ns.map Nd.v),.sl 6 x.es,.sl 1 x.cs,.bool x.any,.sl 1 x.ev,.sl 1 (actV x.es.length []),.sl 1 (actV x.cs.length []),.sl 1 ra] K)
theorem all_ok(hk:10000≤k)(hP:PlacesOK G)(hTo:ToldOK G)(hE:EdgeOK G)(hL:LaterX G)(hC:CoS G):AllX (fun _ args (K:LV→OV R)=>g18 G k args K):=by
 intro x ev Inv ra K hev hevl hes hel hnl hcs hcl h0 hbd hstep
 show W _ K (f18 G k false x.nm x.st x.fu x.vars x.ports x.timers (x.ns.map Nd.v) x.es x.cs x.any x.ev (actV x.es.length []) (actV x.cs.length []) ra K)
 unfold f18 l18_0
 have hP':=hP
 unfold PlacesOK at hP'
 refine search_loop hk hP hTo hE hL hC hev hevl hes hel hnl hcs hcl Inv hbd hstep (fun E C T i1 t1 t2 q3=> ?_) k [] [] ra h0 (by simp;omega)
 refine W_call (hP' _ _ _ hel) ?_
 rintro _ rfl
 (repeat(with_reducible apply U1))
 refine W_call (hP' _ _ _ (by omega)) ?_
 rintro _ rfl
 (repeat(with_reducible apply U1))
 refine W_chk' rfl ?_
 unfold l18_4
 have hml:=memN_len (n:=x.es.length) (s:=E)
 rw[ivs_len]
 exact more_loop (Ko:=fun ys152 yi153 yi154 yl155 yl156 yl157 yl158 yl159 yl160 yb161 yl162 yl163 yl164 yl165 yl166 yl167 yl168 yb169 yl170 yl171 yl172 yb173=>K [(.agg [(.sl 1 yl170),(.sl 1 yl171),(.sl 1 yl172),(.bool yb173)]),(.str ys152),(.int .i64 yi153),(.int .i64 yi154),(.bool yb161),(.sl 1 yl163),(.sl 1 yl164),(.sl 1 yl165)]) hL (by omega) hes (fun i hi=>(mem_memN.1 hi).1) (by omega) (W_ret ⟨E,C,T,_,_,_,rfl,i1,t2,q3⟩) k 0 (by omega) (by omega)
end
section
variable {R : Type} {G : ORC R} {k : Nat} {K : LV → OV R} {Q : LV → Prop}
theorem mem_putC{N:Nat}{C:List Int}{c y:Int}:y∈putC N C c↔y∈C∨(y=c∧0≤c∧c<N):=by
 unfold putC
 split
 ·rename_i h
  rw[List.mem_append,List.mem_singleton]
  exact⟨fun q=>q.elim .inl (fun e=>.inr ⟨e,h⟩),fun q=>q.elim .inl (fun e=>.inr e.1)⟩
 ·rename_i h
  exact⟨.inl,fun q=>q.elim id fun e=>absurd e.2 h⟩
theorem mem_nodC{ns:List Nd}{N:Nat}{dom:Int}{y:Int}:∀{i:Nat} {C:List Int},y∈nodC ns N dom i C↔y∈C∨y∈nodC ns N dom i []
 |0,C=>by simp[nodC]
 |i+1,C=>by
  have ih:=mem_nodC (ns:=ns) (N:=N) (dom:=dom) (y:=y) (i:=i) (C:=C)
  cases h:ns[i]? with
  |none=>
   have e:∀D,nodC ns N dom (i+1) D=nodC ns N dom i D:=fun D=>by
    show(match ns[i]? with|some n=>_|none=>_)=_
    rw[h]
   rw[e,e];exact ih
  |some n=>
   rw[nodC_at h,nodC_at h]
   split
   ·rw[mem_putC,mem_putC,mem_putC,mem_putC,ih,or_assoc,or_assoc,or_assoc]
   ·exact ih
theorem mem_edgC{ns:List Nd}{N:Nat}{dom acts y:Int}{C:List Int}:y∈edgC ns N dom acts C↔y∈C∨y∈edgC ns N dom acts []:=by
 unfold edgC
 rw[mem_nodC (C:=putC N C acts),mem_nodC (C:=putC N [] acts),mem_putC,mem_putC,or_assoc]
 simp
def LateP(cs:LV)(C:List Int)(s:ByteArray):Prop:=s.toList=ByteArray.toList ⟨#[]⟩∨s.toList=ByteArray.toList ⟨#[101,114,114,111,114]⟩∨RaisedBy cs (memN cs.length C) s
theorem late_iff{cs:LV}{C:List Int}{T:List ByteArray}{s:ByteArray}(h:∀s,hasS T s=true↔RaisedBy cs (memN cs.length C) s):lateB T s=true↔LateP cs C s:=by
 unfold lateB LateP
 rw[Bool.or_eq_true,Bool.or_eq_true,beq_iff_eq,beq_iff_eq,h s]
theorem raised_mono{cs:LV}{A B:List Int}{s:ByteArray}(h:∀y∈A,y∈B):RaisedBy cs (memN cs.length A) s→RaisedBy cs (memN cs.length B) s:=by
 rintro⟨c,h1,h2⟩
 obtain⟨q1,q2⟩:=mem_memN.1 h1
 exact⟨c,mem_memN.2 ⟨q1,h c q2⟩,h2⟩
theorem late_mono{cs:LV}{A B:List Int}{s:ByteArray}(h:∀y∈A,y∈B):LateP cs A s→LateP cs B s:=by
 rintro(q|q|q)
 ·exact .inl q
 ·exact .inr (.inl q)
 ·exact .inr (.inr (raised_mono h q))
structure Clo (es cs:LV) (ns:List Nd) (any:Bool) (ev:List ByteArray) (E C:List Int):Prop where
 edges:∀(i:Nat) a b c d f s,es[i]? =some (edV a b c d f s)→any=true∨LateP cs C s∨hasS ev s=true→(i:Int)∈E
 codes:∀(i:Nat) a b c d f s,es[i]? =some (edV a b c d f s)→(i:Int)∈E→∀y∈edgC ns cs.length c f [],y∈C
theorem Clo.less{es cs:LV}{ns:List Nd}{any any':Bool}{ev ev':List ByteArray}{E C:List Int}(h:Clo es cs ns any ev E C)(ha:any'=true→any=true)(he:∀s,hasS ev' s=true→hasS ev s=true):Clo es cs ns any' ev' E C:=
 ⟨fun i a b c d f s hi q=>h.edges i a b c d f s hi (q.elim (fun q=>.inl (ha q)) fun q=>q.elim (fun q=>.inr (.inl q)) fun q=>.inr (.inr (he s q))),h.codes⟩
structure Lst (es cs:LV) (ns:List Nd) (any:Bool) (ev:List ByteArray) (E C:List Int):Prop where
 clo:Clo es cs ns any ev E C
 least:∀E' C',Clo es cs ns any ev E' C'→(∀y∈E,y∈E')∧∀y∈C,y∈C'
 nd:E.Nodup
 rng:∀y∈E,0≤y∧y<es.length
def OfX(G:ORC R):Prop:=∀(x:Srch) (ev:List ByteArray) (K:LV→OV R),x.ev=sv ev→ev.length≤1000000→EdsS x.es→x.es.length≤1000→x.ns.length≤1000→CodesA x.cs→x.cs.length≤90→
 W (fun o=>∃(E C:List Int) (T:List ByteArray),o=[.agg [.sl 1 (ivs (memN x.es.length E)),.sl 1 (ivs (memN x.cs.length C)),.sl 1 (sv T),.bool ((memN x.es.length E).any (lateAt x.es T))]]∧
     Lst x.es x.cs x.ns x.any ev E C∧∀s,hasS T s=true↔RaisedBy x.cs (memN x.cs.length C) s) K
   (G 7 [.agg [.str x.nm,.int .i64 x.st,.int .i64 x.fu,.sl 1 x.vars,.sl 1 x.ports,.sl 1 x.timers,.sl 7 (x.ns.map Nd.v),.sl 6 x.es,.sl 1 x.cs],.bool x.any,.sl 1 x.ev] K)
theorem nodup_rng:∀{n:Nat} {l:List Int},l.Nodup→(∀y∈l,0≤y∧y<n)→l.length≤n
 |0,[],_,_=>Nat.le_refl 0
 |0,a::l,_,h=>by have:=h a List.mem_cons_self;omega
 |n+1,l,hn,h=>by
  by_cases hm:(n:Int)∈l
  ·have h1:=nodup_rng (n:=n) (l:=l.erase (n:Int)) (hn.erase _) fun y hy=>by
    have:=(hn.mem_erase_iff).1 hy
    have:=h y this.2
    omega
   rw[List.length_erase_of_mem hm]at h1
   omega
  ·have:=nodup_rng (n:=n) (l:=l) hn fun y hy=>by
    have h2:=h y hy
    have:y≠n:=fun e=>hm (e▸hy)
    omega
   omega
theorem ofx_ok(hA:AllX G):OfX (fun _ args (K:LV→OV R)=>g7 G k args K):=by
 intro x ev K hev hevl hes hel hnl hcs hcl
 show W _ K (f7 G k x.nm x.st x.fu x.vars x.ports x.timers (x.ns.map Nd.v) x.es x.cs x.any x.ev K)
 unfold f7
 refine W_chk (by simp;omega) (W_chk (by simp;omega) ?_)
 rw[Int.toNat_natCast,Int.toNat_natCast,actV_nil,actV_nil]
 unfold AllX at hA
 refine W_call (hA x ev (fun E C=>(∀E' C',Clo x.es x.cs x.ns x.any ev E' C'→(∀y∈E,y∈E')∧∀y∈C,y∈C')∧E.Nodup∧(∀y∈E,0≤y∧y<x.es.length)∧∀(i:Nat) a b c d f s,x.es[i]? =some (edV a b c d f s)→(i:Int)∈E→∀y∈edgC x.ns x.cs.length c f [],y∈C) [] _ hev hevl hes hel hnl hcs hcl
  ⟨fun E' C' h=>⟨fun y hy=>(by cases hy),fun y hy=>(by cases hy)⟩,List.nodup_nil,fun y hy=>(by cases hy),fun i _ _ _ _ _ _ _ hi=>(by cases hi)⟩ (fun E C h=>nodup_rng h.2.1 h.2.2.1) (fun T E0 C0 h0 hT E C i a b c d f s hi h1 hno hw=> ?_)) ?_
 ·obtain⟨l1,n1,r1,c1⟩:=h1
  have hni:(i:Int)∉E:=fun q=>by rw[hasL_iff.2 q]at hno;cases hno
  refine⟨fun E' C' hc=> ?_,?_,?_,?_⟩
  ·obtain⟨m1,m2⟩:=l1 E' C' hc
   obtain⟨_,m3⟩:=h0.1 E' C' hc
   have hiE:(i:Int)∈E':=by
    refine hc.edges i a b c d f s hi ?_
    unfold wantB at hw
    rw[Bool.or_eq_true,Bool.or_eq_true]at hw
    rcases hw with q|q|q
    ·exact .inl q
    ·exact .inr (.inl (late_mono m3 ((late_iff hT).1 q)))
    ·exact .inr (.inr q)
   refine⟨fun y hy=> ?_,fun y hy=> ?_⟩
   ·rcases List.mem_append.1 hy with hy|hy
    ·exact m1 y hy
    ·rw[List.mem_singleton.1 hy];exact hiE
   ·rcases mem_edgC.1 hy with hy|hy
    ·exact m2 y hy
    ·exact hc.codes i a b c d f s hi hiE y hy
  ·exact List.nodup_append.2 ⟨n1,by simp,fun p hp q hq e=>hni (by rw[List.mem_singleton]at hq;rw[←hq,←e];exact hp)⟩
  ·intro y hy
   rcases List.mem_append.1 hy with hy|hy
   ·exact r1 y hy
   ·rw[List.mem_singleton.1 hy]
    have:=(List.getElem?_eq_some_iff.1 hi).1
    omega
  ·intro i' a' b' c' d' f' s' hi' hm y hy
   rcases List.mem_append.1 hm with hm|hm
   ·exact mem_edgC.2 (.inl (c1 i' a' b' c' d' f' s' hi' hm y hy))
   ·rw[List.mem_singleton]at hm
    have e:i'=i:=by omega
    subst e
    rw[hi]at hi'
    injection hi' with hi'
    unfold edV at hi'
    injection hi' with hi'
    injection hi' with _ hi'
    injection hi' with _ hi'
    injection hi' with e3 hi'
    injection hi' with _ hi'
    injection hi' with e5 _
    injection e3 with _ e3
    injection e5 with _ e5
    rw[←e3,←e5]at hy
    exact mem_edgC.2 (.inr hy)
 rintro _ ⟨E,C,T,r1,r2,r3,rfl,⟨q1,q2,q3,q4⟩,hT,hcl2⟩
 (repeat(with_reducible apply U1))
 refine W_ret ⟨E,C,T,rfl,⟨⟨fun i a b c d f s hi hw=> ?_,q4⟩,q1,q2,q3⟩,hT⟩
 rcases hcl2 i a b c d f s hi with h|h
 ·exact hasL_iff.1 h
 ·unfold wantB at h
  rw[Bool.or_eq_false_iff,Bool.or_eq_false_iff]at h
  rcases hw with q|q|q
  ·rw[q]at h;cases h.1
  ·rw[(late_iff hT).2 q]at h;cases h.2.1
  ·rw[q]at h;cases h.2.2
end
set_option maxHeartbeats 4000000
section
variable {R : Type} {G : ORC R} {k : Nat} {K : LV → OV R}
def PlaceS(G:ORC R):Prop:=∀(v n:Int) (K:LV→OV R),0<n→n≤1099511627776→W (fun o=>∃x,o=[.int .i64 x]∧0≤x∧x<n) K (G 17 [.int .i64 v,.int .i64 n] K)
theorem place_ok:PlaceS (fun _ args (K:LV→OV R)=>g17 G k args K):=by
 intro v n K h1 h2
 show W _ K (f17 G k v n K)
 unfold f17
 have ht:=tmod_lt (v:=v) h1
 refine W_not ?_
 refine W_beqI (fun h=>by omega) (fun _=> ?_)
 refine W_dec (fun h=> ?_) (fun h=> ?_)
 ·rw[wrap_id (by omega)];exact W_ret ⟨_,rfl,by omega,by omega⟩
 ·exact W_ret ⟨_,rfl,by omega,by omega⟩
def NextS(G:ORC R):Prop:=∀(n:Int) (L:LV) (i:Int) (K:LV→OV R),0<n→n≤1099511627776→RowS L i→W (fun o=>∃x j,o=[.int .i64 x,.int .i64 j]∧0≤x∧x<n∧RowS L j) K (G 33 [.int .i64 n,.sl 1 L,.int .i64 i] K)
theorem next_ok(hP:PlaceS G):NextS (fun _ args (K:LV→OV R)=>g33 G k args K):=by
 intro n L i K h1 h2 hr
 obtain⟨r1,r2,r3,r4⟩:=hr
 show W _ K (f33 G k n L i K)
 unfold f33
 have e1:IntKind.i64.wrap (i+1)=i+1:=wrap_id (by omega)
 have e2:IntKind.i64.wrap (i+1-1)=i:=by rw[wrap_id (by omega)];omega
 rw[e1,e2]
 refine W_dec (fun h=> ?_) (fun h=> ?_)
 ·exact W_ret ⟨_,_,rfl,by omega,by omega,r1,r2,r3,r4⟩
 ·refine W_and (W_yes (by omega) (W_yes (by omega) ?_))
  refine W_nth (by omega) (fun v _ hv=> ?_)
  obtain⟨m,rfl,hm⟩:=r1 v hv
  refine W_aI ?_
  refine W_call (hP m n _ h1 h2) ?_
  rintro o ⟨x,rfl,x1,x2⟩
  refine W_uI (W_unNil ?_)
  exact W_ret ⟨_,_,rfl,x1,x2,r1,r2,by omega,by omega⟩
def EventS(G:ORC R):Prop:=∀(n:Int) (K:LV→OV R),W (fun o=>∃s,o=[.str s]∧StrS s) K (G 6 [.int .i64 n] K)
theorem event_ok(hP:PlaceS G):EventS (fun _ args (K:LV→OV R)=>g6 G k args K):=by
 intro n K
 show W _ K (f6 G k n K)
 unfold f6
 refine W_call (hP n 8 _ (by omega) (by omega)) ?_
 rintro o ⟨x,rfl,x1,x2⟩
 refine W_uI (W_unNil ?_)
 refine W_and (W_yes (by omega) (W_yes (by omega) ?_))
 refine W_nth (by simp;omega) (fun v _ hv=> ?_)
 simp only[List.mem_cons,List.not_mem_nil,or_false]at hv
 rcases hv with rfl|rfl|rfl|rfl|rfl|rfl|rfl|rfl<;>exact W_ret ⟨_,rfl,by unfold StrS;decide⟩
def PickS(G:ORC R):Prop:=∀(l:LV) (s:ByteArray) (L:LV) (i:Int) (m:Nat) (K:LV→OV R),StrsS m l→m≤100000→StrS s→RowS L i→W (fun o=>∃t j,o=[.str t,.int .i64 j]∧StrS t∧(l=[]∨ .str t∈l)∧RowS L j) K (G 59 [.sl 1 l,.str s,.sl 1 L,.int .i64 i] K)
theorem pick_ok(hN:NextS G):PickS (fun _ args (K:LV→OV R)=>g59 G k args K):=by
 intro l s L i m K hl hm hs hr
 show W _ K (f59 G k l s L i K)
 unfold f59
 have h1:=hl.1
 refine W_beqI (fun h=> ?_) (fun h=> ?_)
 ·exact W_ret ⟨_,_,rfl,hs,.inl (List.eq_nil_of_length_eq_zero (by omega)),hr⟩
 ·refine W_call (hN _ L i _ (by omega) (by omega) hr) ?_
  rintro o ⟨x,j,rfl,x1,x2,hr2⟩
  refine W_uI (W_uI (W_unNil ?_))
  refine W_and (W_yes (by omega) (W_yes (by omega) ?_))
  refine W_nth (by omega) (fun v _ hv=> ?_)
  obtain⟨t,rfl,ht⟩:=hl.2 v hv
  exact W_asStr (W_ret ⟨_,_,rfl,ht,.inr hv,hr2⟩)
end
set_option maxHeartbeats 8000000
section
variable {R : Type} {G : ORC R} {k : Nat} {K : LV → OV R}
def NamesNE(l:List Nd):Prop:=(∀n,l[0]? =some n→n.name.toList=[])∧∀(j:Nat) n,l[j]? =some n→0<j→n.name.toList≠[]
def FindOK(G:ORC R):Prop:=∀(l:List Nd) (s:ByteArray) (K:LV→OV R),l.length≤1000→W (fun o=>o=[.int .i64 (findN l s)]) K (G 52 [.sl 7 (l.map Nd.v),.str s] K)
theorem find_loop{Q:LV→Prop}{K:LV→OV R}{Ko:Unit→OV R}{Kr:Int→OV R}{l:List Nd}{s:ByteArray}(hl:l.length≤1000)
 (hKo:findN l s= -1→W Q K (Ko ())) (hKr:∀i,i=findN l s→W Q K (Kr i)):
 ∀(j i:Nat),l.length-i<j→findGo s (l.drop i) i=findN l s→W Q K (l52_0g G k Ko Kr j (l.map Nd.v) s i)
 |0,i,h1,h2=>by omega
 |j+1,i,h1,h2=>by
  show W Q K (b52_0 G k (l52_0g G k Ko Kr j) Ko Kr (l.map Nd.v) s i)
  unfold b52_0
  simp only[List.length_map]
  refine W_dec (fun h=> ?_) (fun h=> ?_)
  ·refine W_and (W_yes (by omega) (W_yes h ?_))
   refine W_nthN (by omega) (fun n hn=>W_nd ?_)
   rw[Int.toNat_natCast]at hn
   have hd:l.drop i=n::l.drop (i+1):=by
    have hi:i<l.length:=by omega
    rw[List.drop_eq_getElem_cons hi]
    rw[List.getElem?_eq_getElem hi]at hn;cases hn;rfl
   refine W_ce7 (W_asStr ?_)
   rw[hd]at h2
   unfold findGo at h2
   refine W_bool (fun e=> ?_) (fun e=> ?_)
   ·rw[if_pos (beq_iff_eq.1 e)]at h2
    exact hKr _ h2
   ·rw[if_neg (fun e'=>by rw[e',beq_self_eq_true]at e;cases e)]at h2
    rw[wrap_id (n:=(i:Int)+1) (by omega)]
    exact find_loop hl hKo hKr j (i+1) (by omega) h2
  ·refine hKo ?_
   rw[←h2,List.drop_eq_nil_of_le (by omega)];rfl
theorem find_ok(hk:10000≤k):FindOK (fun _ args (K:LV→OV R)=>g52 G k args K):=by
 intro l s K hl
 show W _ K (f52 G k (l.map Nd.v) s K)
 unfold f52 l52_0
 exact find_loop (Q:=fun o=>o=[.int .i64 (findN l s)]) (K:=K) (Ko:=fun _=>K [.int .i64 (-1)]) (Kr:=fun i=>K [.int .i64 i]) hl (fun e=>W_ret (by rw[e])) (fun i e=>W_ret (by rw[e])) k 1 (by omega) rfl
end
section
variable {R : Type} {G : ORC R} {k : Nat} {K : LV → OV R}
def ins(op a n:Int):V:=.agg [.int .i64 op,.int .i64 a,.int .i64 n,.str ⟨#[]⟩]
def insS(op a n:Int)(s:ByteArray):V:=.agg [.int .i64 op,.int .i64 a,.int .i64 n,.str s]
structure Nms where
 a:LV
 p:LV
 t:LV
 nd:List Nd
def Nms.v(N:Nms):V:=.agg [.sl 1 N.a,.sl 1 N.p,.sl 1 N.t,.sl 7 (N.nd.map Nd.v)]
def Nms.ok(N:Nms):Prop:=StrsS 100 N.a∧StrsS 100 N.p∧StrsS 100 N.t∧N.nd.length≤1000∧NamesNE N.nd
def plGo(s:ByteArray):LV→Int→Int
 | .str t::r,i=>if t.toList=s.toList then i else plGo s r (i+1)
 |_,_=> -1
def plN(l:LV)(s:ByteArray):Int:=plGo s l 0
def andX(at_:Nat)(E0 E1:LV):LV:=
 E0++ins 24 (at_+E0.length+1+E1.length+3) 0::(E1++[ins 24 (at_+E0.length+1+E1.length+3) 0,ins 1 0 1,ins 23 (at_+E0.length+1+E1.length+4) 0,ins 1 0 0])
def orX(at_:Nat)(E0 E1:LV):LV:=
 E0++[ins 24 (at_+E0.length+3) 0,ins 1 0 1,ins 23 (at_+E0.length+3+E1.length+4) 0]++(E1++[ins 24 (at_+E0.length+3+E1.length+3) 0,ins 1 0 1,ins 23 (at_+E0.length+3+E1.length+4) 0,ins 1 0 0])
def cE(N:Nms):Nat→Nat→V→LV
 |d+1,at_,.agg [.int _ kind,.int _ n,.str nm,.sl _ kids,_]=>
  if kind=1 then[ins 1 0 n]else if kind=2 then[ins 2 (plN N.a nm) 0]else if kind=3 then[ins 3 0 0]else if kind=4 then[ins 4 (findN N.nd nm) 0]
  else match kids with
   | [a]=>cE N d at_ a++[ins kind 0 0]
   | [a,b]=>let E0:=cE N d at_ a
     if kind=18 then andX at_ E0 (cE N d (at_+E0.length+1) b)
     else if kind=19 then orX at_ E0 (cE N d (at_+E0.length+3) b)
     else E0++cE N d (at_+E0.length) b++[ins kind 0 0]
   |_=>[]
 |_,_,_=>[]
theorem andX_len{a:Nat}{E0 E1:LV}:(andX a E0 E1).length=E0.length+E1.length+5:=by simp[andX];omega
theorem orX_len{a:Nat}{E0 E1:LV}:(orX a E0 E1).length=E0.length+E1.length+7:=by simp[orX];omega
theorem cE_len{N:Nms}:∀{d at_:Nat} {e:V},ExprS d e→(cE N d at_ e).length≤ce d
 |0,_,_,h=>h.elim
 |d+1,at_,e,h=>by
  obtain⟨kind,n,nm,kids,rfl,x1,x2,x3,x4,x5,x6,x7⟩:=h
  have hce:ce (d+1)=2*ce d+8:=rfl
  unfold cE
  split
  ·simp;omega
  split
  ·simp;omega
  split
  ·simp;omega
  split
  ·simp;omega
  split
  ·rename_i a
   have:=cE_len (N:=N) (at_:=at_) (x6 a (by simp))
   simp;omega
  ·rename_i a b
   have h1:=cE_len (N:=N) (at_:=at_) (x6 a (by simp))
   have h2:=fun q=>cE_len (N:=N) (at_:=q) (x6 b (by simp))
   dsimp only
   split
   ·rw[andX_len];have:=h2 (at_+(cE N d at_ a).length+1);omega
   split
   ·rw[orX_len];have:=h2 (at_+(cE N d at_ a).length+3);omega
   ·simp;have:=h2 (at_+(cE N d at_ a).length);omega
  ·simp
theorem set_at{L Q:LV}{x v:V}{i:Nat}(h:i=L.length):(L++x::Q).set i v=L++v::Q:=by subst h;simp
theorem get_at{L Q:LV}{x:V}{i:Nat}(h:i=L.length):(L++x::Q)[i]? =some x:=by subst h;simp
theorem W_nth0{Q:LV→Prop}{a:V}{l:LV}{F:V→OV R}(h:W Q K (F a)):W Q K (nthK (a::l) 0 F):=h
theorem W_nth1{Q:LV→Prop}{a b:V}{l:LV}{F:V→OV R}(h:W Q K (F b)):W Q K (nthK (a::b::l) 1 F):=h
def PlX(f:FuncId)(G:ORC R):Prop:=∀(l:LV) (s:ByteArray) (K:LV→OV R),StrsS 100 l→W (fun o=>o=[.int .i64 (plN l s)]) K (G f [.sl 1 l,.str s] K)
theorem pl_go{s:ByteArray}:∀{l:LV} {m:Nat} {i:Int},StrsS 100 l→m≤l.length→(∀j t,j<m→l[j]? =some (.str t)→t.toList≠s.toList)→plGo s l i=plGo s (l.drop m) (i+m)
 |l,0,i,h,h1,h2=>by simp
 | [],m+1,i,h,h1,h2=>by simp at h1
 |v::r,m+1,i,h,h1,h2=>by
  obtain⟨t,rfl,ht⟩:=h.2 v List.mem_cons_self
  have hne:=h2 0 t (by omega) rfl
  rw[plGo,if_neg hne,List.drop_succ_cons]
  rw[pl_go (m:=m) (i:=i+1) ⟨by have:=h.1;simp at this;omega,fun v hv=>h.2 v (List.mem_cons_of_mem _ hv)⟩ (by simp at h1;omega) (fun j t hj e=>h2 (j+1) t (by omega) (by simpa using e))]
  congr 1;omega
theorem pl_hit{s t:ByteArray}{l:LV}{m:Nat}(h:StrsS 100 l)(h2:∀j t,j<m→l[j]? =some (.str t)→t.toList≠s.toList)(hm:l[m]? =some (.str t))(he:t.toList=s.toList):plN l s=m:=by
 obtain⟨hl,e⟩:=List.getElem?_eq_some_iff.1 hm
 unfold plN
 rw[pl_go h (Nat.le_of_lt hl) h2,List.drop_eq_getElem_cons hl,e,plGo,if_pos he];omega
theorem pl_none{s:ByteArray}{l:LV}(h:StrsS 100 l)(h2:∀j t,j<l.length→l[j]? =some (.str t)→t.toList≠s.toList):plN l s= -1:=by
 unfold plN
 rw[pl_go h (Nat.le_refl _) h2,List.drop_length];rfl
theorem plx_loop{Q:LV→Prop}{K:LV→OV R}{Ko:Unit→OV R}{Kr:Int→OV R}{l:LV}{s:ByteArray}(hl:StrsS 100 l)(hKo:plN l s= -1→W Q K (Ko ()))(hKr:∀i,plN l s=i→W Q K (Kr i)):
 ∀(j m:Nat),l.length-m<j→m≤l.length→(∀j t,j<m→l[j]? =some (.str t)→t.toList≠s.toList)→W Q K (l76_0g G k Ko Kr j l s m)
 |0,m,h1,h2,h3=>by omega
 |j+1,m,h1,h2,h3=>by
  show W Q K (b76_0 G k (l76_0g G k Ko Kr j) Ko Kr l s m)
  unfold b76_0
  have hll:=hl.1
  refine W_dec (fun h=> ?_) (fun h=>hKo (pl_none hl (by rw[show l.length=m by omega];exact h3)))
  obtain⟨v,hv⟩:∃v,l[m]? =some v:=⟨_,List.getElem?_eq_getElem (by omega)⟩
  obtain⟨t,rfl,ht⟩:=hl.2 v (List.mem_of_getElem? hv)
  refine W_at (by omega) (by rw[Int.toNat_natCast];exact hv) (W_asStr (W_bool (fun he=>hKr m (pl_hit hl h3 hv (by simpa using he))) (fun he=> ?_)))
  rw[wrap_id (n:=(m:Int)+1) (by omega)]
  refine plx_loop hl hKo hKr j (m+1) (by omega) (by omega) (fun i u hi hu=> ?_)
  by_cases e:i=m
  ·subst e;rw[hv]at hu;cases hu;intro c;rw[c]at he;simp at he
  ·exact h3 i u (by omega) hu
theorem plx_ok(hk:10000≤k):PlX 76 (fun _ args (K:LV→OV R)=>g76 G k args K):=by
 intro l s K hl
 show W _ K (f76 G k l s K)
 unfold f76 l76_0
 have hll:=hl.1
 exact plx_loop (Q:=fun o=>o=[.int .i64 (plN l s)]) (K:=K) hl (fun e=>W_ret (by rw[e])) (fun i e=>W_ret (by rw[e])) k 0 (by omega) (by omega) (fun j t h=>by omega)
def OpX(f:FuncId)(G:ORC R):Prop:=∀(n:Int) (K:LV→OV R),5≤n→n≤17→W (fun o=>o=[.int .i64 n]) K (G f [.int .i64 n] K)
theorem opx_ok:OpX 77 (fun _ args (K:LV→OV R)=>g77 G k args K):=by
 intro n K h1 h2
 show W _ K (f77 G k n K)
 unfold f77
 refine W_beqI (fun e=>W_ret (by rw[e])) (fun _=> ?_)
 refine W_beqI (fun e=>W_ret (by rw[e])) (fun _=>W_ret ?_)
 rw[wrap_id (n:=7+n) (by omega),wrap_id (n:=7+n-7) (by omega),show 7+n-7=n by omega]
def RX(d:Nat)(G:ORC R):Prop:=∀(c:LV) (e:V) (N:Nms) (K:LV→OV R),ExprS d e→N.ok→c.length+ce d≤1000000→W (fun o=>o=[.sl 4 (c++cE N d c.length e)]) K (G 71 [.sl 4 c,e,N.v] K)
def RBX(f:FuncId)(X:Nat→LV→LV→LV)(q:Nat)(d:Nat)(G:ORC R):Prop:=∀(c:LV) (kind n x:Int) (nm:ByteArray) (a b:V) (N:Nms) (K:LV→OV R),ExprS d a→ExprS d b→N.ok→c.length+ce (d+1)≤1000000→
 W (fun o=>o=[.sl 4 (c++X c.length (cE N d c.length a) (cE N d (c.length+(cE N d c.length a).length+q) b))]) K (G f [.sl 4 c,.agg [.int .i64 kind,.int .i64 n,.str nm,.sl 5 [a,b],.int .i64 x],N.v] K)
theorem randx_ok{d:Nat}(hE:RX d G):RBX 78 andX 1 d (fun _ args (K:LV→OV R)=>g78 G k args K):=by
 intro c kind n x nm a b N K ha hb hN hm
 show W _ K (f78 G k c kind n nm [a,b] x N.a N.p N.t (N.nd.map Nd.v) K)
 unfold f78
 have hce:ce (d+1)=2*ce d+8:=rfl
 unfold RX at hE
 cases d with
 |zero=>exact ha.elim
 |succ d=>
 have l0:=cE_len (N:=N) (at_:=c.length) ha
 have l1:=fun q=>cE_len (N:=N) (at_:=q) hb
 have ha':=ha
 have hb':=hb
 obtain⟨_,_,_,_,rfl,_⟩:=ha
 obtain⟨_,_,_,_,rfl,_⟩:=hb
 refine W_yes (by simp) (W_nth0 (W_asAgg ?_))
 refine W_call (hE c _ N _ ha' hN (by omega)) ?_
 rintro _ rfl
 generalize hE0:cE N (d+1) c.length _=E0 at l0 ⊢
 refine W_uL (W_unNil (W_yes (by simp;omega) (W_yes (by simp) (W_nth1 (W_asAgg ?_)))))
 refine W_call (hE _ _ N _ hb' hN (by simp;omega)) ?_
 rintro _ rfl
 have hl:(c++E0++[V.agg [.int .i64 24,.int .i64 0,.int .i64 0,.str ⟨#[]⟩]]).length=c.length+E0.length+1:=by simp;omega
 rw[hl]
 have l1:=l1 (c.length+E0.length+1)
 generalize hE1:cE N (d+1) (c.length+E0.length+1) _=E1 at l1 ⊢
 refine W_uL (W_unNil (W_yes (by simp;omega) ?_))
 have e1:c++E0++[V.agg [.int .i64 24,.int .i64 0,.int .i64 0,.str ⟨#[]⟩]]++E1++[V.agg [.int .i64 24,.int .i64 0,.int .i64 0,.str ⟨#[]⟩],.agg [.int .i64 1,.int .i64 0,.int .i64 1,.str ⟨#[]⟩],.agg [.int .i64 23,.int .i64 0,.int .i64 0,.str ⟨#[]⟩]]=(c++E0)++ins 24 0 0::(E1++[ins 24 0 0,ins 1 0 1,ins 23 0 0]):=by simp[ins]
 have hy:(c++E0++[V.agg [.int .i64 24,.int .i64 0,.int .i64 0,.str ⟨#[]⟩]]++E1).length=c.length+E0.length+1+E1.length:=by simp;omega
 rw[e1,hy]
 refine W_at (by omega) (get_at (by(first|(simp only[Int.toNat_natCast,List.length_append,List.length_cons,List.length_nil,List.length_set];done)|(simp only[Int.toNat_natCast,List.length_append,List.length_cons,List.length_nil,List.length_set];omega)))) (W_ca4 ?_)
 rw[set_at (L:=c++E0) (by(first|(simp only[Int.toNat_natCast,List.length_append,List.length_cons,List.length_nil,List.length_set];done)|(simp only[Int.toNat_natCast,List.length_append,List.length_cons,List.length_nil,List.length_set];omega)))]
 have e2:∀z:V,(c++E0)++z::(E1++[ins 24 0 0,ins 1 0 1,ins 23 0 0])=(c++E0++z::E1)++ins 24 0 0::[ins 1 0 1,ins 23 0 0]:=fun z=>by simp
 rw[e2]
 refine W_at (by omega) (get_at (by(first|(simp only[Int.toNat_natCast,List.length_append,List.length_cons,List.length_nil,List.length_set];done)|(simp only[Int.toNat_natCast,List.length_append,List.length_cons,List.length_nil,List.length_set];omega)))) (W_ca4 ?_)
 rw[set_at (L:=c++E0++_::E1) (by(first|(simp only[Int.toNat_natCast,List.length_append,List.length_cons,List.length_nil,List.length_set];done)|(simp only[Int.toNat_natCast,List.length_append,List.length_cons,List.length_nil,List.length_set];omega)))]
 refine W_yes (by(first|(simp only[Int.toNat_natCast,List.length_append,List.length_cons,List.length_nil,List.length_set];done)|(simp only[Int.toNat_natCast,List.length_append,List.length_cons,List.length_nil,List.length_set];omega))) ?_
 rw[wrap_id (n:=((c.length+E0.length+1+E1.length:Nat):Int)+2) (by omega)]
 have e3:∀z y w:V,(c++E0++z::E1++[y,ins 1 0 1,ins 23 0 0])++[w]=(c++E0++z::E1++[y,ins 1 0 1])++ins 23 0 0::[w]:=fun z y w=>by simp
 rw[e3]
 have hi:(((c.length+E0.length+1+E1.length:Nat):Int)+2).toNat=c.length+E0.length+1+E1.length+2:=by omega
 refine W_at (by omega) (get_at (by rw[hi];(first|(simp only[Int.toNat_natCast,List.length_append,List.length_cons,List.length_nil,List.length_set];done)|(simp only[Int.toNat_natCast,List.length_append,List.length_cons,List.length_nil,List.length_set];omega)))) (W_ca4 ?_)
 rw[hi,set_at (L:=c++E0++_::E1++[_,ins 1 0 1]) (by(first|(simp only[Int.toNat_natCast,List.length_append,List.length_cons,List.length_nil,List.length_set];done)|(simp only[Int.toNat_natCast,List.length_append,List.length_cons,List.length_nil,List.length_set];omega)))]
 refine W_ret ?_
 simp[andX,ins]
 omega
theorem rorx_ok{d:Nat}(hE:RX d G):RBX 79 orX 3 d (fun _ args (K:LV→OV R)=>g79 G k args K):=by
 intro c kind n x nm a b N K ha hb hN hm
 show W _ K (f79 G k c kind n nm [a,b] x N.a N.p N.t (N.nd.map Nd.v) K)
 unfold f79
 have hce:ce (d+1)=2*ce d+8:=rfl
 unfold RX at hE
 cases d with
 |zero=>exact ha.elim
 |succ d=>
 have l0:=cE_len (N:=N) (at_:=c.length) ha
 have l1:=fun q=>cE_len (N:=N) (at_:=q) hb
 have ha':=ha
 have hb':=hb
 obtain⟨_,_,_,_,rfl,_⟩:=ha
 obtain⟨_,_,_,_,rfl,_⟩:=hb
 refine W_yes (by simp) (W_nth0 (W_asAgg ?_))
 refine W_call (hE c _ N _ ha' hN (by omega)) ?_
 rintro _ rfl
 generalize hE0:cE N (d+1) c.length _=E0 at l0 ⊢
 refine W_uL (W_unNil (W_yes (by simp;omega) ?_))
 have e1:c++E0++[V.agg [.int .i64 24,.int .i64 0,.int .i64 0,.str ⟨#[]⟩],.agg [.int .i64 1,.int .i64 0,.int .i64 1,.str ⟨#[]⟩],.agg [.int .i64 23,.int .i64 0,.int .i64 0,.str ⟨#[]⟩]]=(c++E0)++ins 24 0 0::[ins 1 0 1,ins 23 0 0]:=by simp[ins]
 rw[e1]
 refine W_at (by omega) (get_at (by(first|(simp only[Int.toNat_natCast,List.length_append,List.length_cons,List.length_nil,List.length_set];done)|(simp only[Int.toNat_natCast,List.length_append,List.length_cons,List.length_nil,List.length_set];omega)))) (W_ca4 ?_)
 rw[set_at (L:=c++E0) (by(first|(simp only[Int.toNat_natCast,List.length_append,List.length_cons,List.length_nil,List.length_set];done)|(simp only[Int.toNat_natCast,List.length_append,List.length_cons,List.length_nil,List.length_set];omega)))]
 have hl:∀z:V,(c++E0++z::[ins 1 0 1,ins 23 0 0]).length=c.length+E0.length+3:=fun z=>by simp;omega
 rw[hl]
 refine W_yes (by simp) (W_nth1 (W_asAgg ?_))
 refine W_call (hE _ _ N _ hb' hN (by rw[hl];omega)) ?_
 rintro _ rfl
 rw[hl]
 have l1:=l1 (c.length+E0.length+3)
 generalize hE1:cE N (d+1) (c.length+E0.length+3) _=E1 at l1 ⊢
 refine W_uL (W_unNil (W_yes (by(first|(simp only[Int.toNat_natCast,List.length_append,List.length_cons,List.length_nil,List.length_set];done)|(simp only[Int.toNat_natCast,List.length_append,List.length_cons,List.length_nil,List.length_set];omega))) ?_))
 have e2:∀z:V,c++E0++z::[ins 1 0 1,ins 23 0 0]++E1++[V.agg [.int .i64 24,.int .i64 0,.int .i64 0,.str ⟨#[]⟩],.agg [.int .i64 1,.int .i64 0,.int .i64 1,.str ⟨#[]⟩],.agg [.int .i64 23,.int .i64 0,.int .i64 0,.str ⟨#[]⟩]]=(c++E0++z::[ins 1 0 1,ins 23 0 0]++E1)++ins 24 0 0::[ins 1 0 1,ins 23 0 0]:=fun z=>by simp[ins]
 rw[e2]
 refine W_at (by omega) (get_at (by(first|(simp only[Int.toNat_natCast,List.length_append,List.length_cons,List.length_nil,List.length_set];done)|(simp only[Int.toNat_natCast,List.length_append,List.length_cons,List.length_nil,List.length_set];omega)))) (W_ca4 ?_)
 rw[set_at (L:=c++E0++_::[ins 1 0 1,ins 23 0 0]++E1) (by(first|(simp only[Int.toNat_natCast,List.length_append,List.length_cons,List.length_nil,List.length_set];done)|(simp only[Int.toNat_natCast,List.length_append,List.length_cons,List.length_nil,List.length_set];omega)))]
 refine W_yes (by(first|(simp only[Int.toNat_natCast,List.length_append,List.length_cons,List.length_nil,List.length_set];done)|(simp only[Int.toNat_natCast,List.length_append,List.length_cons,List.length_nil,List.length_set];omega))) ?_
 have hx:((c++E0).length:Int)=(c.length+E0.length:Nat):=by simp
 have hy:∀z:V,((c++E0++z::[ins 1 0 1,ins 23 0 0]++E1).length:Int)=(c.length+E0.length+3+E1.length:Nat):=fun z=>by simp;omega
 rw[hx,hy]
 rw[wrap_id (n:=((c.length+E0.length:Nat):Int)+2) (by omega),wrap_id (n:=((c.length+E0.length+3+E1.length:Nat):Int)+2) (by omega)]
 have e3:∀z y w:V,c++E0++z::[ins 1 0 1,ins 23 0 0]++E1++y::[ins 1 0 1,ins 23 0 0]++[w]=(c++E0++[z,ins 1 0 1])++ins 23 0 0::(E1++y::[ins 1 0 1,ins 23 0 0,w]):=fun z y w=>by simp
 rw[e3]
 have hi:(((c.length+E0.length:Nat):Int)+2).toNat=c.length+E0.length+2:=by omega
 have hj:(((c.length+E0.length+3+E1.length:Nat):Int)+2).toNat=c.length+E0.length+3+E1.length+2:=by omega
 refine W_at (by omega) (get_at (by rw[hi];(first|(simp only[Int.toNat_natCast,List.length_append,List.length_cons,List.length_nil,List.length_set];done)|(simp only[Int.toNat_natCast,List.length_append,List.length_cons,List.length_nil,List.length_set];omega)))) (W_ca4 ?_)
 rw[hi,set_at (L:=c++E0++[_,ins 1 0 1]) (by(first|(simp only[Int.toNat_natCast,List.length_append,List.length_cons,List.length_nil,List.length_set];done)|(simp only[Int.toNat_natCast,List.length_append,List.length_cons,List.length_nil,List.length_set];omega)))]
 have e4:∀z u y w:V,(c++E0++[z,ins 1 0 1])++u::(E1++y::[ins 1 0 1,ins 23 0 0,w])=(c++E0++[z,ins 1 0 1]++u::E1++[y,ins 1 0 1])++ins 23 0 0::[w]:=fun z u y w=>by simp
 rw[e4]
 refine W_at (by omega) (get_at (by rw[hj];(first|(simp only[Int.toNat_natCast,List.length_append,List.length_cons,List.length_nil,List.length_set];done)|(simp only[Int.toNat_natCast,List.length_append,List.length_cons,List.length_nil,List.length_set];omega)))) (W_ca4 ?_)
 rw[hj,set_at (L:=c++E0++[_,ins 1 0 1]++_::E1++[_,ins 1 0 1]) (by(first|(simp only[Int.toNat_natCast,List.length_append,List.length_cons,List.length_nil,List.length_set];done)|(simp only[Int.toNat_natCast,List.length_append,List.length_cons,List.length_nil,List.length_set];omega)))]
 refine W_ret ?_
 simp[orX,ins]
 omega
theorem rexprx_ok{d:Nat}(hPl:PlX 76 G)(hF:FindOK G)(hOp:OpX 77 G)(hE:RX d G)(hA:RBX 78 andX 1 d G)(hO:RBX 79 orX 3 d G):RX (d+1) (fun _ args (K:LV→OV R)=>g71 G k args K):=by
 intro c e N K he hN hm
 have hlen:=cE_len (N:=N) (at_:=c.length) he
 obtain⟨kind,n,nm,kids,rfl,x1,x2,x3,x4,x5,x6,x7⟩:=he
 show W _ K (f71 G k c kind n nm kids 0 N.a N.p N.t (N.nd.map Nd.v) K)
 unfold f71
 have hce:ce (d+1)=2*ce d+8:=rfl
 unfold RX at hE;unfold RBX at hA hO;unfold PlX at hPl;unfold FindOK at hF;unfold OpX at hOp
 have hc1:c.length+1≤1073741824:=by omega
 refine W_beqI (fun h=>W_yes hc1 (W_ret (by unfold cE;rw[if_pos h];rfl))) (fun h1=> ?_)
 refine W_beqI (fun h=> ?_) (fun h2=> ?_)
 ·refine W_call (hPl _ _ _ hN.1) ?_
  rintro _ rfl
  (repeat(with_reducible apply U1))
  exact W_yes hc1 (W_ret (by unfold cE;rw[if_neg h1,if_pos h];rfl))
 refine W_beqI (fun h=>W_yes hc1 (W_ret (by unfold cE;rw[if_neg h1,if_neg h2,if_pos h];rfl))) (fun h3=> ?_)
 refine W_beqI (fun h=> ?_) (fun h4=> ?_)
 ·refine W_call (hF _ _ _ hN.2.2.2.1) ?_
  rintro _ rfl
  (repeat(with_reducible apply U1))
  exact W_yes hc1 (W_ret (by unfold cE;rw[if_neg h1,if_neg h2,if_neg h3,if_pos h];rfl))
 have unary:(kind=5∨kind=6)→W (fun o=>o=[.sl 4 (c++cE N (d+1) c.length (.agg [.int .i64 kind,.int .i64 n,.str nm,.sl 5 kids,.int .i64 0]))]) K
  (bif decide (0<((List.length kids:Nat):Int))then nthK kids 0 fun e17=>V.asAgg e17 fun l18=>G 71 [.sl 4 c,.agg l18,.agg [.sl 1 N.a,.sl 1 N.p,.sl 1 N.t,.sl 7 (N.nd.map Nd.v)]] fun o19=>uL 4 o19 fun l21 r20=>unNil r20 (G 77 [.int .i64 kind] fun o22=>uI .i64 o22 fun n24 r23=>unNil r23 (bif decide (List.length l21+1≤1073741824)then K [.sl 4 (l21++[.agg [.int .i64 n24,.int .i64 0,.int .i64 0,.str ⟨#[]⟩]])]else none))else none):=fun h=>by
  have hk1:kids.length=1:=by omega
  obtain⟨a,rfl⟩:∃a,kids=[a]:=by
   match kids,hk1 with
   | [a],_=>exact⟨a,rfl⟩
  have ha:=x6 a (by simp)
  have la:=cE_len (N:=N) (at_:=c.length) ha
  have ha':=ha
  cases d with
  |zero=>exact ha.elim
  |succ d=>
  obtain⟨_,_,_,_,rfl,_⟩:=ha
  refine W_yes (by simp) (W_nth0 (W_asAgg ?_))
  refine W_call (hE c _ N _ ha' hN (by omega)) ?_
  rintro _ rfl
  refine W_uL (W_unNil ?_)
  refine W_call (hOp _ _ (by omega) (by omega)) ?_
  rintro _ rfl
  refine W_uI (W_unNil (W_yes (by simp;omega) (W_ret ?_)))
  conv=>rhs;unfold cE
  rw[if_neg h1,if_neg h2,if_neg h3,if_neg h4,List.append_assoc]
  rfl
 refine W_beqI (fun h5=> ?_) (fun h5=> ?_)
 ·exact W_eqY h5 (unary (.inl h5))
 refine W_beqI (fun h6=>unary (.inr h6)) (fun h6=> ?_)
 have hk2:kids.length=2:=by omega
 obtain⟨a,b,rfl⟩:∃a b,kids=[a,b]:=by
  match kids,hk2 with
  | [a,b],_=>exact⟨a,b,rfl⟩
 have ha:=x6 a (by simp)
 have hb:=x6 b (by simp)
 refine W_beqI (fun h18=> ?_) (fun h18=> ?_)
 ·refine W_call (hA c kind n 0 nm a b N _ ha hb hN hm) ?_
  rintro _ rfl
  refine W_uL (W_unNil (W_ret ?_))
  conv=>rhs;unfold cE
  rw[if_neg h1,if_neg h2,if_neg h3,if_neg h4]
  dsimp only
  rw[if_pos h18]
 refine W_beqI (fun h19=> ?_) (fun h19=> ?_)
 ·refine W_call (hO c kind n 0 nm a b N _ ha hb hN hm) ?_
  rintro _ rfl
  refine W_uL (W_unNil (W_ret ?_))
  conv=>rhs;unfold cE
  rw[if_neg h1,if_neg h2,if_neg h3,if_neg h4]
  dsimp only
  rw[if_neg h18,if_pos h19]
 cases d with
 |zero=>exact ha.elim
 |succ d=>
 have l0:=cE_len (N:=N) (at_:=c.length) ha
 have l1:=fun q=>cE_len (N:=N) (at_:=q) hb
 have ha':=ha
 have hb':=hb
 have fin:∀E0 E1:LV,E0=cE N (d+1) c.length a→E1=cE N (d+1) (c.length+E0.length) b→[V.sl 4 (c++E0++E1++[ins kind 0 0])]=[V.sl 4 (c++cE N (d+1+1) c.length (.agg [.int .i64 kind,.int .i64 n,.str nm,.sl 5 [a,b],.int .i64 0]))]:=fun E0 E1 q0 q1=>by
  conv=>rhs;unfold cE
  rw[if_neg h1,if_neg h2,if_neg h3,if_neg h4]
  dsimp only
  rw[if_neg h18,if_neg h19,←q0,←q1]
  simp
 obtain⟨_,_,_,_,rfl,_⟩:=ha
 obtain⟨_,_,_,_,rfl,_⟩:=hb
 refine W_yes (by simp) (W_nth0 (W_asAgg ?_))
 refine W_call (hE c _ N _ ha' hN (by omega)) ?_
 rintro _ rfl
 generalize q0:cE N (d+1) c.length _=E0 at l0 ⊢
 refine W_uL (W_unNil (W_yes (by simp) (W_nth1 (W_asAgg ?_))))
 refine W_call (hE _ _ N _ hb' hN (by simp;omega)) ?_
 rintro _ rfl
 rw[List.length_append]
 have l1:=l1 (c.length+E0.length)
 generalize q1:cE N (d+1) (c.length+E0.length) _=E1 at l1 ⊢
 refine W_uL (W_unNil ?_)
 refine W_call (hOp _ _ (by omega) (by omega)) ?_
 rintro _ rfl
 exact W_uI (W_unNil (W_yes (by simp;omega) (W_ret (fin _ _ q0.symm q1.symm))))
end
section
variable {R : Type} {G : ORC R} {k : Nat} {K : LV → OV R}
theorem allI_ins{op a n:Int}:InsS (ins op a n):=⟨op,a,n,⟨#[]⟩,rfl⟩
theorem andX_all{q:Nat}{E0 E1:LV}(h0:AllI E0)(h1:AllI E1):AllI (andX q E0 E1):=by
 intro v hv
 simp only[andX,List.mem_append,List.mem_cons,List.not_mem_nil,or_false]at hv
 rcases hv with h|h|h|h|h|h|h
 ·exact h0 v h
 ·rw[h];exact allI_ins
 ·exact h1 v h
 ·rw[h];exact allI_ins
 ·rw[h];exact allI_ins
 ·rw[h];exact allI_ins
 ·rw[h];exact allI_ins
theorem orX_all{q:Nat}{E0 E1:LV}(h0:AllI E0)(h1:AllI E1):AllI (orX q E0 E1):=by
 intro v hv
 simp only[orX,List.mem_append,List.mem_cons,List.not_mem_nil,or_false]at hv
 rcases hv with(h|h|h|h)|h|h|h|h|h
 ·exact h0 v h
 ·rw[h];exact allI_ins
 ·rw[h];exact allI_ins
 ·rw[h];exact allI_ins
 ·exact h1 v h
 ·rw[h];exact allI_ins
 ·rw[h];exact allI_ins
 ·rw[h];exact allI_ins
 ·rw[h];exact allI_ins
theorem allI_one{op a n:Int}:AllI [ins op a n]:=fun v hv=>by rw[List.mem_singleton]at hv;rw[hv];exact allI_ins
theorem allI_ap{a b:LV}(ha:AllI a)(hb:AllI b):AllI (a++b):=fun v hv=>(List.mem_append.1 hv).elim (ha v) (hb v)
theorem cE_all{N:Nms}:∀{d at_:Nat} {e:V},ExprS d e→AllI (cE N d at_ e)
 |0,_,_,h=>h.elim
 |d+1,at_,e,h=>by
  obtain⟨kind,n,nm,kids,rfl,x1,x2,x3,x4,x5,x6,x7⟩:=h
  unfold cE
  split
  ·exact allI_one
  split
  ·exact allI_one
  split
  ·exact allI_one
  split
  ·exact allI_one
  split
  ·rename_i a
   exact allI_ap (cE_all (x6 a (by simp))) allI_one
  ·rename_i a b
   have h1:=cE_all (N:=N) (at_:=at_) (x6 a (by simp))
   have h2:=fun q=>cE_all (N:=N) (at_:=q) (x6 b (by simp))
   dsimp only
   split
   ·exact andX_all h1 (h2 _)
   split
   ·exact orX_all h1 (h2 _)
   ·exact allI_ap (allI_ap h1 (h2 _)) allI_one
  ·intro v hv;simp at hv
end
section
def cX(N:Nms)(at_:Nat):LV→LV
 | []=>[ins 1 0 0]
 |e::_=>cE N 3 at_ e
def cR(F:Nat→V→LV):Nat→LV→LV
 |_,[]=>[]
 |at_,a::r=>F at_ a++cR F (at_+(F at_ a).length) r
def loopX(at_:Nat)(n:Int)(B:LV):LV:=ins 25 (at_+B.length+2:Nat) n::(B++[ins 26 at_ 0])
def ifX(at_:Nat)(E B:LV):LV:=E++ins 24 (at_+E.length+1+B.length:Nat) 0::B
def elX(at_:Nat)(E B C:LV):LV:=E++ins 24 (at_+E.length+1+B.length+1:Nat) 0::(B++ins 23 (at_+E.length+1+B.length+1+C.length:Nat) 0::C)
def chX(F:Nat→V→LV)(at_:Nat)(E th:LV):LV→LV
 | []=>ifX at_ E (cR F (at_+E.length+1) th)
 |e::r=>elX at_ E (cR F (at_+E.length+1) th) (cR F (at_+E.length+1+(cR F (at_+E.length+1) th).length+1) (e::r))
def cA(N:Nms):Nat→Nat→V→LV
 |d+1,at_,.agg [.int _ kind,.str nm,.str ev,.sl _ x,.int _ n,.sl _ th,.sl _ el,_]=>
  if kind=1 then cX N at_ x++[ins 18 (plN N.a nm) 0]else if kind=2 then cX N at_ x++[insS 19 0 0 ev]else if kind=3 then cX N at_ x++[insS 20 (plN N.p nm) 0 ev]
  else if kind=4 then cX N at_ x++[ins 21 (plN N.t nm) 0]else if kind=5 then[ins 22 (plN N.t nm) 0]
  else if kind=7 then loopX at_ n (cR (cA N d) (at_+1) th)
  else chX (cA N d) at_ (cX N at_ x) th el
 |_,_,_=>[]
def ca:Nat→Nat
 |0=>0
 |d+1=>ce 3+2+4*ca d
theorem loopX_len{a:Nat}{n:Int}{B:LV}:(loopX a n B).length=B.length+2:=by simp[loopX]
theorem ifX_len{a:Nat}{E B:LV}:(ifX a E B).length=E.length+B.length+1:=by simp[ifX];omega
theorem elX_len{a:Nat}{E B C:LV}:(elX a E B C).length=E.length+B.length+C.length+2:=by simp[elX];omega
theorem ce3:1≤ce 3:=by decide
theorem cX_len{N:Nms}{at_:Nat}{x:LV}(h:∀e∈x,ExprS 3 e):(cX N at_ x).length≤ce 3:=by
 cases x with
 |nil=>exact ce3
 |cons e r=>exact cE_len (h e List.mem_cons_self)
theorem cR_len{F:Nat→V→LV}{m:Nat}:∀{l:LV} {at_:Nat},(∀q,∀a∈l,(F q a).length≤m)→(cR F at_ l).length≤l.length*m
 | [],_,_=>by simp[cR]
 |a::r,at_,h=>by
  have h1:=h at_ a List.mem_cons_self
  have h2:=cR_len (F:=F) (l:=r) (at_:=at_+(F at_ a).length) fun q a ha=>h q a (List.mem_cons_of_mem _ ha)
  rw[cR,List.length_append,List.length_cons,Nat.succ_mul];omega
theorem cA_len{N:Nms}:∀{d at_:Nat} {a:V},ActS d a→(cA N d at_ a).length≤ca d
 |0,_,_,h=>h.elim
 |d+1,at_,a,h=>by
  obtain⟨kind,nm,ev,x,n,th,el,rfl,x1,x2,x3,x4,x5,x6,x7,x8,x9,x10,x11,x12⟩:=h
  have hca:ca (d+1)=ce 3+2+4*ca d:=rfl
  have lx:=cX_len (N:=N) (at_:=at_) x7
  have lt:=fun q=>cR_len (F:=cA N d) (m:=ca d) (l:=th) (at_:=q) fun q a ha=>cA_len (x11 a ha)
  have le:=fun q=>cR_len (F:=cA N d) (m:=ca d) (l:=el) (at_:=q) fun q a ha=>cA_len (x12 a ha)
  have mt:th.length*ca d≤2*ca d:=Nat.mul_le_mul_right _ x9
  have me:el.length*ca d≤2*ca d:=Nat.mul_le_mul_right _ x10
  have:=ce3
  unfold cA
  split
  ·simp;omega
  split
  ·simp;omega
  split
  ·simp;omega
  split
  ·simp;omega
  split
  ·simp;omega
  split
  ·rw[loopX_len];have:=lt (at_+1);omega
  have l1:=lt (at_+(cX N at_ x).length+1)
  have l2:=le (at_+(cX N at_ x).length+1+(cR (cA N d) (at_+(cX N at_ x).length+1) th).length+1)
  cases el with
  |nil=>rw[chX,ifX_len];omega
  |cons e r=>rw[chX,elX_len];omega
theorem cBl_len{N:Nms}{d at_:Nat}{l:LV}(h:BlockS d l):(cR (cA N d) at_ l).length≤2*ca d:=
 Nat.le_trans (cR_len (m:=ca d) fun q a ha=>cA_len (h.2 a ha)) (Nat.mul_le_mul_right _ h.1)
theorem allS_one{op a n:Int}{s:ByteArray}:AllI [insS op a n s]:=fun v hv=>by rw[List.mem_singleton]at hv;rw[hv];exact⟨op,a,n,s,rfl⟩
theorem cX_all{N:Nms}{at_:Nat}{x:LV}(h:∀e∈x,ExprS 3 e):AllI (cX N at_ x):=by
 cases x with
 |nil=>exact allI_one
 |cons e r=>exact cE_all (h e List.mem_cons_self)
theorem cR_all{F:Nat→V→LV}:∀{l:LV} {at_:Nat},(∀q,∀a∈l,AllI (F q a))→AllI (cR F at_ l)
 | [],_,_=>fun v hv=>by simp[cR]at hv
 |a::r,at_,h=>allI_ap (h at_ a List.mem_cons_self) (cR_all fun q a ha=>h q a (List.mem_cons_of_mem _ ha))
theorem cA_all{N:Nms}:∀{d at_:Nat} {a:V},ActS d a→AllI (cA N d at_ a)
 |0,_,_,h=>h.elim
 |d+1,at_,a,h=>by
  obtain⟨kind,nm,ev,x,n,th,el,rfl,x1,x2,x3,x4,x5,x6,x7,x8,x9,x10,x11,x12⟩:=h
  have ax:=cX_all (N:=N) (at_:=at_) x7
  have at1:=fun q=>cR_all (F:=cA N d) (l:=th) (at_:=q) fun q a ha=>cA_all (x11 a ha)
  have ae1:=fun q=>cR_all (F:=cA N d) (l:=el) (at_:=q) fun q a ha=>cA_all (x12 a ha)
  unfold cA
  split
  ·exact allI_ap ax allI_one
  split
  ·exact allI_ap ax allS_one
  split
  ·exact allI_ap ax allS_one
  split
  ·exact allI_ap ax allI_one
  split
  ·exact allI_one
  split
  ·exact allI_cons allI_ins (allI_ap (at1 _) allI_one)
  cases el with
  |nil=>exact allI_ap ax (allI_cons allI_ins (at1 _))
  |cons e r=>exact allI_ap ax (allI_cons allI_ins (allI_ap (at1 _) (allI_cons allI_ins (ae1 _))))
theorem cBl_all{N:Nms}{d at_:Nat}{l:LV}(h:BlockS d l):AllI (cR (cA N d) at_ l):=cR_all fun q a ha=>cA_all (h.2 a ha)
end
section
inductive Seg (e:Nat):Nat→LV→List Int→Prop
 |nil {p:Nat}:Seg e p [] []
 |one {p:Nat} {op a n:Int} {s:ByteArray} {c:LV} {t:List Int}:op≠25→op≠26→(op=23∨op=24→(p:Int)<a∧a≤e)→Seg e (p+1) c t→Seg e p (insS op a n s::c) (1::t)
 |loop {p:Nat} {n:Int} {B c:LV} {tb t:List Int}:1≤n→n≤16→Seg e (p+1) B tb→p+B.length+2≤e→Seg e (p+B.length+2) c t→
   Seg e p (ins 25 (p+B.length+2:Nat) n::(B++ins 26 p 0::c)) (1::(tb.map (n* ·)++n::t))
theorem seg_app{e:Nat}{p q:Nat}{c c':LV}{t t':List Int}(h:Seg e p c t)(hq:q=p+c.length)(h':Seg e q c' t'):Seg e p (c++c') (t++t'):=by
 induction h with
 |nil=>rw[List.length_nil,Nat.add_zero]at hq;subst hq;exact h'
 |one h1 h2 h3 h4 ih=>exact .one h1 h2 h3 (ih (by rw[List.length_cons]at hq;omega))
 | @loop p n B c tb t h1 h2 h3 h4 h5 ih1 ih2=>
   have:=Seg.loop h1 h2 h3 h4 (ih2 (by simp at hq;omega))
   simpa using this
theorem seg_one{e p:Nat}{op a n:Int}{s:ByteArray}(h1:op≠25)(h2:op≠26)(h3:op=23∨op=24→(p:Int)<a∧a≤e):Seg e p [insS op a n s] [1]:=.one h1 h2 h3 .nil
theorem seg_len{e p:Nat}{c:LV}{t:List Int}(h:Seg e p c t):c.length=t.length:=by
 induction h with
 |nil=>rfl
 |one _ _ _ _ ih=>simp[ih]
 |loop _ _ _ _ _ ih1 ih2=>simp[ih1,ih2]
def Sh(F:Nat→LV)(t:List Int)(m:Int):Prop:=(∀q e,q+t.length≤e→Seg e q (F q) t)∧∀x∈t,1≤x∧x≤m
theorem sh_len{F:Nat→LV}{t:List Int}{m:Int}(h:Sh F t m)(q:Nat):(F q).length=t.length:=seg_len (h.1 q (q+t.length) (Nat.le_refl _))
theorem sh_mono{F:Nat→LV}{t:List Int}{m m':Int}(h:Sh F t m)(hm:m≤m'):Sh F t m':=⟨h.1,fun x hx=>⟨(h.2 x hx).1,Int.le_trans (h.2 x hx).2 hm⟩⟩
theorem sh_nil{m:Int}:Sh (fun _=>[]) [] m:=⟨fun q e h=>.nil,fun x hx=>by cases hx⟩
theorem sh_eq{F F':Nat→LV}{t:List Int}{m:Int}(h:Sh F t m)(he:∀q,F' q=F q):Sh F' t m:=⟨fun q e hq=>by rw[he];exact h.1 q e hq,h.2⟩
theorem sh_app{F F':Nat→LV}{t t':List Int}{m:Int}(h:Sh F t m)(h':Sh F' t' m):Sh (fun q=>F q++F' (q+(F q).length)) (t++t') m:=by
 refine⟨fun q e hq=> ?_,fun x hx=> ?_⟩
 ·rw[List.length_append]at hq
  exact seg_app (h.1 q e (by omega)) rfl (by rw[sh_len h q];exact h'.1 _ e (by omega))
 ·rcases List.mem_append.1 hx with hx|hx
  ·exact h.2 x hx
  ·exact h'.2 x hx
theorem sh_one{op a n:Int}{s:ByteArray}{m:Int}(hm:1≤m)(h1:op≤22):Sh (fun _=>[insS op a n s]) [1] m:=
 ⟨fun q e hq=>seg_one (by omega) (by omega) (fun h=>by omega),fun x hx=>by rw[List.mem_singleton.1 hx];omega⟩
theorem sh_loop{F:Nat→LV}{t:List Int}{m n:Int}(h1:1≤n)(h2:n≤16)(hm:1≤m)(h:Sh F t m):Sh (fun q=>loopX q n (F (q+1))) (1::(t.map (n* ·)++[n])) (16*m):=by
 refine⟨fun q e hq=> ?_,fun x hx=> ?_⟩
 ·simp only[List.length_cons,List.length_append,List.length_map,List.length_nil]at hq
  exact .loop h1 h2 (h.1 _ e (by omega)) (by rw[sh_len h];omega) .nil
 ·simp only[List.mem_cons,List.mem_append,List.mem_map,List.not_mem_nil,or_false]at hx
  rcases hx with rfl|⟨y,hy,rfl⟩|rfl
  ·omega
  ·obtain⟨y1,y2⟩:=h.2 y hy
   have e1:1*1≤n*y:=Int.mul_le_mul h1 y1 (by omega) (by omega)
   have e2:n*y≤16*m:=Int.mul_le_mul h2 y2 (by omega) (by omega)
   omega
  ·omega
theorem sh_and{F F':Nat→LV}{t t':List Int}{m:Int}(hm:1≤m)(h:Sh F t m)(h':Sh F' t' m):Sh (fun q=>andX q (F q) (F' (q+(F q).length+1))) (t++(1::(t'++[1,1,1,1]))) m:=by
 refine⟨fun q e hq=> ?_,fun x hx=> ?_⟩
 ·simp only[List.length_append,List.length_cons,List.length_nil]at hq
  have l:=sh_len h q
  have l':=sh_len h' (q+(F q).length+1)
  refine seg_app (h.1 q e (by omega)) rfl (.one (by omega) (by omega) (fun _=>by omega) (seg_app (h'.1 _ e (by omega)) rfl ?_))
  exact .one (by omega) (by omega) (fun _=>by omega) (.one (by omega) (by omega) (fun _=>by omega) (.one (by omega) (by omega) (fun _=>by omega) (seg_one (by omega) (by omega) (fun _=>by omega))))
 ·simp only[List.mem_append,List.mem_cons,List.not_mem_nil,or_false]at hx
  rcases hx with hx|rfl|hx|rfl|rfl|rfl|rfl
  ·exact h.2 x hx
  ·omega
  ·exact h'.2 x hx
  all_goals omega
theorem sh_or{F F':Nat→LV}{t t':List Int}{m:Int}(hm:1≤m)(h:Sh F t m)(h':Sh F' t' m):Sh (fun q=>orX q (F q) (F' (q+(F q).length+3))) (t++(1::1::1::(t'++[1,1,1,1]))) m:=by
 refine⟨fun q e hq=> ?_,fun x hx=> ?_⟩
 ·simp only[List.length_append,List.length_cons,List.length_nil]at hq
  have l:=sh_len h q
  have l':=sh_len h' (q+(F q).length+3)
  have ho:∀(q:Nat) (A B:LV),orX q A B=A++ins 24 (q+A.length+3) 0::ins 1 0 1::ins 23 (q+A.length+3+B.length+4) 0::(B++[ins 24 (q+A.length+3+B.length+3) 0,ins 1 0 1,ins 23 (q+A.length+3+B.length+4) 0,ins 1 0 0]):=fun q A B=>by simp[orX]
  show Seg e q (orX q (F q) (F' (q+(F q).length+3))) _
  rw[ho]
  refine seg_app (h.1 q e (by omega)) rfl (.one (by omega) (by omega) (fun _=>by omega) (.one (by omega) (by omega) (fun _=>by omega) (.one (by omega) (by omega) (fun _=>by omega) (seg_app (h'.1 _ e (by omega)) rfl ?_))))
  exact .one (by omega) (by omega) (fun _=>by omega) (.one (by omega) (by omega) (fun _=>by omega) (.one (by omega) (by omega) (fun _=>by omega) (seg_one (by omega) (by omega) (fun _=>by omega))))
 ·simp only[List.mem_append,List.mem_cons,List.not_mem_nil,or_false]at hx
  rcases hx with hx|rfl|rfl|rfl|hx|rfl|rfl|rfl|rfl
  ·exact h.2 x hx
  ·omega
  ·omega
  ·omega
  ·exact h'.2 x hx
  all_goals omega
theorem cE_sh{N:Nms}:∀{d:Nat} {x:V},ExprS d x→∃t,Sh (fun q=>cE N d q x) t 1
 |0,_,h=>h.elim
 |d+1,x,h=>by
  obtain⟨kind,n,nm,kids,rfl,x1,x2,x3,x4,x5,x6,x7⟩:=h
  by_cases h1:kind=1
  ·exact⟨[1],sh_eq (sh_one (op:=1) (a:=0) (n:=n) (s:=⟨#[]⟩) (by omega) (by omega)) fun q=>by(conv=>lhs;unfold cE);rw[if_pos h1];rfl⟩
  by_cases h2:kind=2
  ·exact⟨[1],sh_eq (sh_one (op:=2) (a:=plN N.a nm) (n:=0) (s:=⟨#[]⟩) (by omega) (by omega)) fun q=>by(conv=>lhs;unfold cE);rw[if_neg h1,if_pos h2];rfl⟩
  by_cases h3:kind=3
  ·exact⟨[1],sh_eq (sh_one (op:=3) (a:=0) (n:=0) (s:=⟨#[]⟩) (by omega) (by omega)) fun q=>by(conv=>lhs;unfold cE);rw[if_neg h1,if_neg h2,if_pos h3];rfl⟩
  by_cases h4:kind=4
  ·exact⟨[1],sh_eq (sh_one (op:=4) (a:=findN N.nd nm) (n:=0) (s:=⟨#[]⟩) (by omega) (by omega)) fun q=>by(conv=>lhs;unfold cE);rw[if_neg h1,if_neg h2,if_neg h3,if_pos h4];rfl⟩
  have hk:kids.length=1∨kids.length=2:=by omega
  match kids,hk,x6 with
  | [a],_,x6=>
    obtain⟨t,ht⟩:=cE_sh (N:=N) (x6 a (by simp))
    exact⟨t++[1],sh_eq (sh_app ht (sh_one (op:=kind) (a:=0) (n:=0) (s:=⟨#[]⟩) (by omega) (by omega))) fun q=>by(conv=>lhs;unfold cE);rw[if_neg h1,if_neg h2,if_neg h3,if_neg h4];rfl⟩
  | [a,b],_,x6=>
    obtain⟨t,ht⟩:=cE_sh (N:=N) (x6 a (by simp))
    obtain⟨t',ht'⟩:=cE_sh (N:=N) (x6 b (by simp))
    by_cases h18:kind=18
    ·exact⟨_,sh_eq (sh_and (by omega) ht ht') fun q=>by(conv=>lhs;unfold cE);rw[if_neg h1,if_neg h2,if_neg h3,if_neg h4];dsimp only;rw[if_pos h18]⟩
    by_cases h19:kind=19
    ·exact⟨_,sh_eq (sh_or (by omega) ht ht') fun q=>by(conv=>lhs;unfold cE);rw[if_neg h1,if_neg h2,if_neg h3,if_neg h4];dsimp only;rw[if_neg h18,if_pos h19]⟩
    ·exact⟨_,sh_eq (sh_app (sh_app ht ht') (sh_one (op:=kind) (a:=0) (n:=0) (s:=⟨#[]⟩) (by omega) (by omega))) fun q=>by(conv=>lhs;unfold cE);rw[if_neg h1,if_neg h2,if_neg h3,if_neg h4];dsimp only;rw[if_neg h18,if_neg h19];rfl⟩
theorem cX_sh{N:Nms}{x:LV}(h:∀e∈x,ExprS 3 e):∃t,Sh (fun q=>cX N q x) t 1:=by
 cases x with
 |nil=>exact⟨[1],sh_one (op:=1) (a:=0) (n:=0) (s:=⟨#[]⟩) (by omega) (by omega)⟩
 |cons e r=>exact cE_sh (N:=N) (h e List.mem_cons_self)
theorem cR_sh{F:Nat→V→LV}{m:Int}:∀{l:LV},(∀a∈l,∃t,Sh (fun q=>F q a) t m)→∃t,Sh (fun q=>cR F q l) t m
 | [],_=>⟨[],sh_nil⟩
 |a::r,h=>by
  obtain⟨t,ht⟩:=h a List.mem_cons_self
  obtain⟨t',ht'⟩:=cR_sh fun a ha=>h a (List.mem_cons_of_mem _ ha)
  exact⟨t++t',sh_app ht ht'⟩
theorem sh_if{F F':Nat→LV}{t t':List Int}{m:Int}(hm:1≤m)(h:Sh F t m)(h':Sh F' t' m):Sh (fun q=>ifX q (F q) (F' (q+(F q).length+1))) (t++1::t') m:=by
 refine⟨fun q e hq=> ?_,fun x hx=> ?_⟩
 ·simp only[List.length_append,List.length_cons]at hq
  have l:=sh_len h q
  have l':=sh_len h' (q+(F q).length+1)
  exact seg_app (h.1 q e (by omega)) rfl (.one (by omega) (by omega) (fun _=>by omega) (h'.1 _ e (by omega)))
 ·simp only[List.mem_append,List.mem_cons]at hx
  rcases hx with hx|rfl|hx
  ·exact h.2 x hx
  ·omega
  ·exact h'.2 x hx
theorem sh_el{F F' F'':Nat→LV}{t t' t'':List Int}{m:Int}(hm:1≤m)(h:Sh F t m)(h':Sh F' t' m)(h'':Sh F'' t'' m):
 Sh (fun q=>elX q (F q) (F' (q+(F q).length+1)) (F'' (q+(F q).length+1+(F' (q+(F q).length+1)).length+1))) (t++1::(t'++1::t'')) m:=by
 refine⟨fun q e hq=> ?_,fun x hx=> ?_⟩
 ·simp only[List.length_append,List.length_cons]at hq
  have l:=sh_len h q
  have l':=sh_len h' (q+(F q).length+1)
  have l'':=sh_len h'' (q+(F q).length+1+(F' (q+(F q).length+1)).length+1)
  exact seg_app (h.1 q e (by omega)) rfl (.one (by omega) (by omega) (fun _=>by omega) (seg_app (h'.1 _ e (by omega)) rfl (.one (by omega) (by omega) (fun _=>by omega) (h''.1 _ e (by omega)))))
 ·simp only[List.mem_append,List.mem_cons]at hx
  rcases hx with hx|rfl|hx|rfl|hx
  ·exact h.2 x hx
  ·omega
  ·exact h'.2 x hx
  ·omega
  ·exact h''.2 x hx
def cm:Nat→Int
 |0=>1
 |d+1=>16*cm d
theorem cm_pos:∀d,1≤cm d
 |0=>by decide
 |d+1=>by have:=cm_pos d;show 1≤16*cm d;omega
theorem cA_sh{N:Nms}:∀{d:Nat} {a:V},ActS d a→∃t,Sh (fun q=>cA N d q a) t (cm d)
 |0,_,h=>h.elim
 |d+1,a,h=>by
  obtain⟨kind,nm,ev,x,n,th,el,rfl,x1,x2,x3,x4,x5,x6,x7,x8,x9,x10,x11,x12⟩:=h
  have hp:=cm_pos d
  have hc:cm (d+1)=16*cm d:=rfl
  obtain⟨tx,hx1⟩:=cX_sh (N:=N) x7
  have hx:=sh_mono hx1 (m':=cm d) (by omega)
  have hx':=sh_mono hx1 (m':=cm (d+1)) (by omega)
  obtain⟨tt,ht⟩:=cR_sh (F:=cA N d) (m:=cm d) (l:=th) fun a ha=>cA_sh (N:=N) (x11 a ha)
  obtain⟨te,he⟩:=cR_sh (F:=cA N d) (m:=cm d) (l:=el) fun a ha=>cA_sh (N:=N) (x12 a ha)
  by_cases h1:kind=1
  ·exact⟨_,sh_eq (sh_app hx' (sh_one (op:=18) (a:=plN N.a nm) (n:=0) (s:=⟨#[]⟩) (by omega) (by omega))) fun q=>by(conv=>lhs;unfold cA);rw[if_pos h1];rfl⟩
  by_cases h2:kind=2
  ·exact⟨_,sh_eq (sh_app hx' (sh_one (op:=19) (a:=0) (n:=0) (s:=ev) (by omega) (by omega))) fun q=>by(conv=>lhs;unfold cA);rw[if_neg h1,if_pos h2]⟩
  by_cases h3:kind=3
  ·exact⟨_,sh_eq (sh_app hx' (sh_one (op:=20) (a:=plN N.p nm) (n:=0) (s:=ev) (by omega) (by omega))) fun q=>by(conv=>lhs;unfold cA);rw[if_neg h1,if_neg h2,if_pos h3]⟩
  by_cases h4:kind=4
  ·exact⟨_,sh_eq (sh_app hx' (sh_one (op:=21) (a:=plN N.t nm) (n:=0) (s:=⟨#[]⟩) (by omega) (by omega))) fun q=>by(conv=>lhs;unfold cA);rw[if_neg h1,if_neg h2,if_neg h3,if_pos h4];rfl⟩
  by_cases h5:kind=5
  ·exact⟨_,sh_eq (sh_one (op:=22) (a:=plN N.t nm) (n:=0) (s:=⟨#[]⟩) (by omega) (by omega)) fun q=>by(conv=>lhs;unfold cA);rw[if_neg h1,if_neg h2,if_neg h3,if_neg h4,if_pos h5];rfl⟩
  by_cases h7:kind=7
  ·obtain⟨n1,n2⟩:=x1.2 h7
   exact⟨_,sh_eq (sh_loop n1 n2 hp ht) fun q=>by(conv=>lhs;unfold cA);rw[if_neg h1,if_neg h2,if_neg h3,if_neg h4,if_neg h5,if_pos h7]⟩
  have hch:∀q,cA N (d+1) q (.agg [.int .i64 kind,.str nm,.str ev,.sl 5 x,.int .i64 n,.sl 8 th,.sl 8 el,.int .i64 0])=chX (cA N d) q (cX N q x) th el:=fun q=>by(conv=>lhs;unfold cA);rw[if_neg h1,if_neg h2,if_neg h3,if_neg h4,if_neg h5,if_neg h7]
  cases el with
  |nil=>exact⟨_,sh_mono (sh_eq (sh_if hp hx ht) fun q=>hch q) (by omega)⟩
  |cons e r=>exact⟨_,sh_mono (sh_eq (sh_el hp hx ht he) fun q=>hch q) (by omega)⟩
theorem cBl_sh{N:Nms}{d:Nat}{l:LV}(h:BlockS d l):∃t,Sh (fun q=>cR (cA N d) q l) t (cm d):=cR_sh fun a ha=>cA_sh (N:=N) (h.2 a ha)
end
section
variable {R : Type} {G : ORC R} {k : Nat} {K : LV → OV R}
def fac(at_:Int):V→Int
 | .agg [.int _ op,.int _ a,.int _ n,_]=>if op=25∧at_<a then n else 1
 |_=>1
def tpr(at_:Int):LV→Int
 | []=>1
 |v::r=>fac at_ v*tpr at_ r
theorem tpr_app{q:Int}:∀{a b:LV},tpr q (a++b)=tpr q a*tpr q b
 | [],b=>by simp[tpr]
 |v::a,b=>by rw[List.cons_append,tpr,tpr,tpr_app,Int.mul_assoc]
theorem fac_ne{q op a n:Int}{s:ByteArray}(h:op≠25):fac q (insS op a n s)=1:=by unfold fac insS;exact if_neg fun h'=>h h'.1
theorem fac_no{q a n:Int}{s:ByteArray}(h:a≤q):fac q (insS 25 a n s)=1:=by unfold fac insS;exact if_neg fun h'=>by omega
theorem fac_in{q a n:Int}{s:ByteArray}(h:q<a):fac q (insS 25 a n s)=n:=by unfold fac insS;exact if_pos ⟨rfl,h⟩
theorem seg_out{e p:Nat}{c:LV}{t:List Int}(h:Seg e p c t):∀q:Int,((p+c.length:Nat):Int)≤q→tpr q c=1:=by
 induction h with
 |nil=>intro q _;rfl
 |one h1 h2 h3 h4 ih=>intro q hq;rw[tpr,fac_ne h1,ih q (by rw[List.length_cons]at hq;omega)];rfl
 | @loop p n B c tb t h1 h2 h3 h4 h5 ih1 ih2=>
   intro q hq
   simp only[List.length_cons,List.length_append]at hq
   rw[tpr,show ins 25 (p+B.length+2:Nat) n=insS 25 (p+B.length+2:Nat) n ⟨#[]⟩from rfl,fac_no (by omega),tpr_app,ih1 q (by omega),tpr,show ins 26 (p:Int) 0=insS 26 p 0 ⟨#[]⟩from rfl,fac_ne (by omega),ih2 q (by omega)];rfl
theorem seg_in{e p:Nat}{c:LV}{t:List Int}(h:Seg e p c t):∀i:Nat,i<c.length→t[i]? =some (tpr ((p+i:Nat):Int) (c.take i)):=by
 induction h with
 |nil=>intro i hi;simp at hi
 | @one p op a n s c t h1 h2 h3 h4 ih=>
   intro i hi
   cases i with
   |zero=>rfl
   |succ i=>
    rw[List.getElem?_cons_succ,ih i (by simpa using hi),List.take_succ_cons,tpr,fac_ne h1,Int.one_mul,show p+1+i=p+(i+1)by omega]
 | @loop p n B c tb t h1 h2 h3 h4 h5 ih1 ih2=>
   intro i hi
   cases i with
   |zero=>rfl
   |succ i=>
    have lb:=seg_len h3
    simp only[List.length_cons,List.length_append]at hi
    rw[List.getElem?_cons_succ,List.take_succ_cons,tpr,show ins 25 (p+B.length+2:Nat) n=insS 25 (p+B.length+2:Nat) n ⟨#[]⟩from rfl]
    by_cases hb:i<B.length
    ·rw[fac_in (by omega),List.take_append_of_le_length (by omega),List.getElem?_append_left (by simp;omega),List.getElem?_map,ih1 i hb,show p+(i+1)=p+1+i by omega];rfl
    ·by_cases he:i=B.length
     ·subst he
      rw[fac_in (by omega),List.take_append_of_le_length (Nat.le_refl _),List.take_length,seg_out h3 _ (by omega),List.getElem?_append_right (by simp;omega)]
      simp[lb]
     ·obtain⟨m,rfl⟩:∃m,i=B.length+1+m:=⟨i-B.length-1,by omega⟩
      rw[fac_no (by omega),List.getElem?_append_right (by simp;omega)]
      have e1:B.length+1+m-(tb.map (n* ·)).length=m+1:=by simp;omega
      have e2:(B++ins 26 (p:Int) 0::c).take (B.length+1+m)=B++ins 26 (p:Int) 0::c.take m:=by
       rw[List.take_append,List.take_of_length_le (by omega),show B.length+1+m-B.length=m+1 by omega,List.take_succ_cons]
      rw[e1,e2,List.getElem?_cons_succ,tpr_app,seg_out h3 _ (by omega),tpr,show ins 26 (p:Int) 0=insS 26 p 0 ⟨#[]⟩from rfl,fac_ne (by omega),ih2 m (by omega),show p+B.length+2+m=p+(B.length+1+m+1)by omega]
      simp
def Ok25(l:LV):Prop:=∀v∈l,∃op a n s,v=insS op a n s∧(op=25→1≤n∧n≤16)
theorem seg_ok{e p:Nat}{c:LV}{t:List Int}(h:Seg e p c t):Ok25 c:=by
 induction h with
 |nil=>intro v hv;cases hv
 | @one p op a n s c t h1 h2 h3 h4 ih=>
   intro v hv
   rcases List.mem_cons.1 hv with rfl|hv
   ·exact⟨op,a,n,s,rfl,fun h=>absurd h h1⟩
   ·exact ih v hv
 | @loop p n B c tb t h1 h2 h3 h4 h5 ih1 ih2=>
   intro v hv
   simp only[List.mem_cons,List.mem_append]at hv
   rcases hv with rfl|hv|rfl|hv
   ·exact⟨25,_,n,⟨#[]⟩,rfl,fun _=>⟨h1,h2⟩⟩
   ·exact ih1 v hv
   ·exact⟨26,_,0,⟨#[]⟩,rfl,fun h=>by omega⟩
   ·exact ih2 v hv
theorem ok25_take{l:LV}{m:Nat}(h:Ok25 l):Ok25 (l.take m):=fun v hv=>h v (List.mem_of_mem_take hv)
theorem tpr_pos{q:Int}:∀{l:LV},Ok25 l→1≤tpr q l
 | [],_=>by simp[tpr]
 |v::r,h=>by
  obtain⟨op,a,n,s,rfl,hn⟩:=h v List.mem_cons_self
  have h2:=tpr_pos (q:=q) (l:=r) fun u hu=>h u (List.mem_cons_of_mem _ hu)
  have h1:1≤fac q (insS op a n s):=by
   unfold fac insS
   dsimp only
   split
   ·rename_i h';exact(hn h'.1).1
   ·omega
  have:1*1≤fac q (insS op a n s)*tpr q r:=Int.mul_le_mul h1 h2 (by omega) (by omega)
  rw[tpr];omega
theorem tpr_le{q:Int}{l:LV}{m:Nat}(h:Ok25 l):tpr q (l.take m)≤tpr q l:=by
 have h1:=tpr_pos (q:=q) (ok25_take (m:=m) h)
 have h2:=tpr_pos (q:=q) (l:=l.drop m) fun v hv=>h v (List.mem_of_mem_drop hv)
 have e:tpr q l=tpr q (l.take m)*tpr q (l.drop m):=by rw[←tpr_app,List.take_append_drop]
 have:tpr q (l.take m)*1≤tpr q (l.take m)*tpr q (l.drop m):=Int.mul_le_mul_of_nonneg_left h2 (by omega)
 rw[e];omega
theorem tpr_snoc{q:Int}{l:LV}{v:V}{m:Nat}(h:l[m]? =some v):tpr q (l.take (m+1))=tpr q (l.take m)*fac q v:=by
 rw[List.take_add_one,h,tpr_app]
 simp[tpr]
def tmAt(t:List Int)(q:Int):Int:=if 0≤q∧q<t.length then t.getD q.toNat 0 else 0
theorem tmAt_in{t:List Int}{i:Nat}{x:Int}(h:t[i]? =some x):tmAt t (i:Int)=x:=by
 obtain⟨hl,e⟩:=List.getElem?_eq_some_iff.1 h
 unfold tmAt
 rw[if_pos ⟨by omega,by omega⟩,Int.toNat_natCast,List.getD_eq_getElem?_getD,h];rfl
def TmX(f:FuncId)(G:ORC R):Prop:=∀(c:LV) (t:List Int) (e:Nat) (q:Int) (K:LV→OV R),Seg e 0 c t→(∀x∈t,1≤x∧x≤1099511627776)→c.length≤9999→W (fun o=>o=[.int .i64 (tmAt t q)]) K (G f [.sl 4 c,.int .i64 q] K)
theorem ct_loop{Q:LV→Prop}{K:LV→OV R}{Ko:Int→OV R}{L:LV}{q:Int}(hL:Ok25 L)(hq:(L.length:Int)≤q)(hl:L.length≤9999)(hm:tpr q L≤1099511627776)(hKo:W Q K (Ko (tpr q L))):
 ∀(j m:Nat),L.length-m<j→m≤L.length→W Q K (l20_0g G k Ko j q (tpr q (L.take m)) L L.length m)
 |0,m,h1,h2=>by omega
 |j+1,m,h1,h2=>by
  show W Q K (b20_0 G k (l20_0g G k Ko j) Ko q (tpr q (L.take m)) L L.length m)
  unfold b20_0
  refine W_dec (fun h=> ?_) (fun h=>by rw[show m=L.length by omega,List.take_length];exact hKo)
  obtain⟨v,hv⟩:∃v,L[m]? =some v:=⟨_,List.getElem?_eq_getElem (by omega)⟩
  have hs:=tpr_snoc (q:=q) hv
  have hle:=Int.le_trans (tpr_le (q:=q) (m:=m+1) hL) hm
  have hps:=tpr_pos (q:=q) (ok25_take (m:=m+1) hL)
  have next:=ct_loop hL hq hl hm hKo j (m+1) (by omega) (by omega)
  obtain⟨op,a,n,s,rfl,hn⟩:=hL v (List.mem_of_getElem? hv)
  refine W_at (by omega) (by rw[Int.toNat_natCast];exact hv) ?_
  unfold insS
  (repeat(with_reducible apply U1))
  rw[wrap_id (n:=(m:Int)+1) (by omega)]
  refine W_beqI (fun h25=> ?_) (fun h25=> ?_)
  ·subst h25
   refine W_yes (by omega) ?_
   refine W_dec (fun ha=> ?_) (fun ha=> ?_)
   ·rw[fac_in ha]at hs
    rw[←hs,wrap_id (by omega)];exact next
   ·rw[fac_no (by omega),Int.mul_one]at hs
    rw[←hs];exact next
  ·rw[fac_ne h25,Int.mul_one]at hs
   rw[←hs];exact next
theorem ctx_ok(hk:10000≤k):TmX 20 (fun _ args (K:LV→OV R)=>g20 G k args K):=by
 intro c t e q K hc ht hl
 show W _ K (f20 G k c q K)
 unfold f20
 have lt:=seg_len hc
 refine W_dec (fun h=>W_ret (by rw[tmAt,if_neg (by omega)])) (fun h=> ?_)
 refine W_dec (fun h=>W_ret (by rw[tmAt,if_neg (by omega)])) (fun h'=> ?_)
 obtain⟨i,rfl⟩:∃i:Nat,q=i:=⟨q.toNat,by omega⟩
 have hi:=seg_in hc i (by omega)
 rw[Nat.zero_add]at hi
 have hx:=ht _ (List.mem_of_getElem? hi)
 refine W_and (W_yes (by omega) (W_yes (by omega) ?_))
 rw[Int.toNat_natCast]
 unfold l20_0
 have:=ct_loop (G:=G) (k:=k) (Q:=fun o=>o=[.int .i64 (tmAt t i)]) (K:=K) (Ko:=fun y=>K [.int .i64 y]) (L:=c.take i) (q:=(i:Int)) (ok25_take (seg_ok hc)) (by simp;omega) (by simp;omega) (by omega) (W_ret (by rw[tmAt_in hi])) k 0 (by simp;omega) (by omega)
 exact this
end
section
variable {R : Type} {G : ORC R} {k : Nat} {K : LV → OV R} {Q : LV → Prop}
def sdV(p:Int):V→Bool
 | .agg (.int _ op:: .int _ a::_)=>op==20&&a==p
 |_=>false
def sdS(p:Int):LV→List Int→Int
 |v::c,x::t=>(if sdV p v then x else 0)+sdS p c t
 |_,_=>0
theorem sdS_app{p:Int}:∀{a b:LV} {t t':List Int},a.length=t.length→sdS p (a++b) (t++t')=sdS p a t+sdS p b t'
 | [],b,[],t',_=>by simp[sdS]
 |v::a,b,x::t,t',h=>by rw[List.cons_append,List.cons_append,sdS,sdS,sdS_app (by simpa using h)];omega
theorem sdS_bd{p:Int}:∀{a:LV} {t:List Int},(∀x∈t,1≤x∧x≤65536)→0≤sdS p a t∧sdS p a t≤a.length*65536
 | [],t,_=>by simp[sdS]
 |v::a,[],_=>by simp[sdS];omega
 |v::a,x::t,h=>by
  have h1:=h x List.mem_cons_self
  have h2:=sdS_bd (p:=p) (a:=a) fun y hy=>h y (List.mem_cons_of_mem _ hy)
  rw[sdS,List.length_cons];split<;>omega
theorem sdS_snoc{p:Int}{c:LV}{t:List Int}{m:Nat}{v:V}{x:Int}(hl:c.length=t.length)(hv:c[m]? =some v)(h:t[m]? =some x):sdS p (c.take (m+1)) (t.take (m+1))=sdS p (c.take m) (t.take m)+if sdV p v then x else 0:=by
 rw[List.take_add_one,List.take_add_one,h,hv,sdS_app (by simp[hl])]
 simp[sdS]
theorem sends_in(hT:TmX 20 G){x:Srch}{code:LV}{t:List Int}(hA:AllI code)(hS:Seg t.length 0 code t)(ht:∀y∈t,1≤y∧y≤65536)(hl:code.length≤9900){p s0 c n i:Int}{L:LV}(h0:0≤s0)(h9:s0≤1000000000000000)(hc0:0≤c)(hc:x.cs[c.toNat]? =some (.sl 4 code))
 {Ko:Int→Int→LV→Int→Int→ByteArray→Int→Int→LV→LV→LV→LV→LV→LV→OV R} (hKo:W Q K (Ko p (s0+sdS p code t) L n i x.nm x.st x.fu x.vars x.ports x.timers (x.ns.map Nd.v) x.es x.cs)):
 ∀(j m:Nat),code.length-m<j→m≤code.length→W Q K (l9_2g G k Ko j p (s0+sdS p (code.take m) (t.take m)) c L n i (.sl 4 code) code.length m x.nm x.st x.fu x.vars x.ports x.timers (x.ns.map Nd.v) x.es x.cs)
 |0,m,h1,h2=>by omega
 |j+1,m,h1,h2=>by
  show W Q K (b9_2 G k (l9_2g G k Ko j) Ko p (s0+sdS p (code.take m) (t.take m)) c L n i (.sl 4 code) code.length m x.nm x.st x.fu x.vars x.ports x.timers (x.ns.map Nd.v) x.es x.cs)
  unfold b9_2
  have lt:=seg_len hS
  refine W_dec (fun h=> ?_) (fun h=>by
   have e:m=code.length:=by omega
   rw[show t.take m=t by rw[e,lt,List.take_length],show code.take m=code by rw[e,List.take_length]];exact hKo)
  obtain⟨y,hy⟩:∃y,t[m]? =some y:=⟨_,List.getElem?_eq_getElem (by omega)⟩
  have hy1:=ht y (List.mem_of_getElem? hy)
  obtain⟨v,hv⟩:∃v,code[m]? =some v:=⟨_,List.getElem?_eq_getElem (by omega)⟩
  obtain⟨op,a,n',s,rfl⟩:=hA v (List.mem_of_getElem? hv)
  have next:=sends_in hT hA hS ht hl (Ko:=Ko) (L:=L) (n:=n) (i:=i) (c:=c) h0 h9 hc0 hc hKo j (m+1) (by omega) (by omega)
  rw[sdS_snoc lt hv hy]at next
  have bd:=sdS_bd (p:=p) (a:=code.take m) (t:=t.take m) fun z hz=>ht z (List.mem_of_mem_take hz)
  have bl:(code.take m).length≤9900:=by simp;omega
  have ht':∀z∈t,1≤z∧z≤1099511627776:=fun z hz=>by have:=ht z hz;omega
  have hT':=hT
  unfold TmX at hT'
  (repeat(with_reducible apply U1))
  refine W_and (W_and (W_chk rfl (W_yes (by omega) (W_yes (by omega) ?_))))
  refine W_nk (by rw[Int.toNat_natCast];exact hv) ?_
  (repeat(with_reducible apply U1))
  rw[wrap_id (n:=(m:Int)+1) (by omega)]
  refine W_beqI (fun e1=> ?_) (fun e1=> ?_)
  ·refine W_beqI (fun e2=> ?_) (fun e2=> ?_)
   ·refine W_at hc0 hc ?_
    (repeat(with_reducible apply U1))
    refine W_call (hT' code t t.length m _ hS ht' (by omega)) ?_
    rintro _ rfl
    (repeat(with_reducible apply U1))
    rw[tmAt_in hy,wrap_id (by omega)]
    rw[if_pos (by simp[sdV,e1,e2]),←Int.add_assoc]at next
    exact next
   ·rw[if_neg (by simp[sdV,e2]),Int.add_zero]at next
    exact next
  ·rw[if_neg (by simp[sdV,e1]),Int.add_zero]at next
   exact next
def SegC(cs:LV)(c:Int)(code:LV)(t:List Int):Prop:=cs[c.toNat]? =some (.sl 4 code)∧AllI code∧code.length≤9900∧Seg t.length 0 code t∧∀y∈t,1≤y∧y≤65536
open Classical in
noncomputable def sC(cs:LV)(p c:Int):Int:=if h:∃code t,SegC cs c code t then sdS p (Classical.choose h) (Classical.choose (Classical.choose_spec h))else 0
theorem sC_bd{cs:LV}{p c:Int}:0≤sC cs p c∧sC cs p c≤648806400:=by
 unfold sC
 split
 ·rename_i h
  obtain⟨h1,h2,h3,h4,h5⟩:=Classical.choose_spec (Classical.choose_spec h)
  have:=sdS_bd (p:=p) (a:=Classical.choose h) h5
  omega
 ·omega
theorem sC_at{cs:LV}{p c:Int}(h:∃code t,SegC cs c code t):∃code t,SegC cs c code t∧sC cs p c=sdS p code t:=by
 refine⟨_,_,Classical.choose_spec (Classical.choose_spec h),?_⟩
 unfold sC
 rw[dif_pos h]
def sumL(f:Int→Int):List Int→Int
 | []=>0
 |c::L=>f c+sumL f L
theorem sumL_snoc{f:Int→Int}{c:Int}:∀{L:List Int},sumL f (L++[c])=sumL f L+f c
 | []=>by simp[sumL]
 |a::L=>by rw[List.cons_append,sumL,sumL,sumL_snoc];omega
theorem sumL_bd{f:Int→Int}{b:Int}(h:∀c,0≤f c∧f c≤b):∀{L:List Int},0≤sumL f L∧sumL f L≤L.length*b
 | []=>by simp[sumL]
 |a::L=>by
  have h1:=h a
  have h2:=sumL_bd h (L:=L)
  rw[sumL,List.length_cons,Int.natCast_succ,Int.add_mul];omega
def SendsX(G:ORC R):Prop:=∀(x:Srch) (L:List Int) (p:Int) (K:LV→OV R),(∀c∈L,0≤c∧c<x.cs.length∧∃code t,SegC x.cs c code t)→L.length≤90→W (fun o=>o=[.int .i64 (sumL (sC x.cs p) L)]) K
 (G 9 [.agg [.str x.nm,.int .i64 x.st,.int .i64 x.fu,.sl 1 x.vars,.sl 1 x.ports,.sl 1 x.timers,.sl 7 (x.ns.map Nd.v),.sl 6 x.es,.sl 1 x.cs],.sl 1 (ivs L),.int .i64 p] K)
theorem sends_loop(hk:10000≤k)(hT:TmX 20 G){x:Srch}{L:List Int}{p:Int}(hL:∀c∈L,0≤c∧c<x.cs.length∧∃code t,SegC x.cs c code t)(hl:L.length≤90){Ko:Int→OV R}(hKo:W Q K (Ko (sumL (sC x.cs p) L))):
 ∀(j m:Nat),L.length-m<j→m≤L.length→W Q K (l9_0g G k Ko j p (sumL (sC x.cs p) (L.take m)) (ivs L) L.length m x.nm x.st x.fu x.vars x.ports x.timers (x.ns.map Nd.v) x.es x.cs)
 |0,m,h1,h2=>by omega
 |j+1,m,h1,h2=>by
  show W Q K (b9_0 G k (l9_0g G k Ko j) Ko p (sumL (sC x.cs p) (L.take m)) (ivs L) L.length m x.nm x.st x.fu x.vars x.ports x.timers (x.ns.map Nd.v) x.es x.cs)
  unfold b9_0
  refine W_dec (fun h=> ?_) (fun h=>by rw[List.take_of_length_le (by omega)];exact hKo)
  obtain⟨c,hc⟩:∃c,L[m]? =some c:=⟨_,List.getElem?_eq_getElem (by omega)⟩
  obtain⟨c0,c1,hseg⟩:=hL c (List.mem_of_getElem? hc)
  obtain⟨code,t,⟨g1,g2,g3,g4,g5⟩,hsC⟩:=sC_at (p:=p) hseg
  have bd:=sumL_bd (f:=sC x.cs p) (fun c=>sC_bd) (L:=L.take m)
  have bl:(L.take m).length≤90:=by simp;omega
  have next:=sends_loop hk hT hL hl hKo j (m+1) (by omega) (by omega)
  rw[takeS hc,sumL_snoc,hsC]at next
  refine W_at (by omega) (by rw[Int.toNat_natCast];exact ivs_at hc) (W_aI ?_)
  refine W_no (by omega) (W_no (by omega) ?_)
  refine W_at c0 g1 ?_
  (repeat(with_reducible apply U1))
  unfold l9_2
  have:=sends_in (Q:=Q) (K:=K) (k:=k) hT g2 g4 g5 g3 (p:=p) (s0:=sumL (sC x.cs p) (L.take m)) (c:=c) (n:=L.length) (i:=m) (L:=ivs L) (Ko:=fun yi31 yi32 yl33 yi34 yi35 ys36 yi37 yi38 yl39 yl40 yl41 yl42 yl43 yl44=>l9_0g G k Ko j yi31 yi32 yl33 yi34 (IntKind.i64.wrap (yi35+1)) ys36 yi37 yi38 yl39 yl40 yl41 yl42 yl43 yl44) bd.1 (by omega) c0 g1 (by
   show W Q K (l9_0g G k Ko j p _ (ivs L) L.length (IntKind.i64.wrap ((m:Int)+1)) x.nm x.st x.fu x.vars x.ports x.timers (x.ns.map Nd.v) x.es x.cs)
   rw[wrap_id (n:=(m:Int)+1) (by omega)]
   exact next) k 0 (by omega) (by omega)
  have e0:sdS p (code.take 0) (t.take 0)=0:=by simp[sdS]
  rw[e0,Int.add_zero]at this
  exact this
theorem sends_ok(hk:10000≤k)(hT:TmX 20 G):SendsX (fun _ args (K:LV→OV R)=>g9 G k args K):=by
 intro x L p K hL hl
 show W _ K (f9 G k x.nm x.st x.fu x.vars x.ports x.timers (x.ns.map Nd.v) x.es x.cs (ivs L) p K)
 unfold f9 l9_0
 rw[ivs_len]
 exact sends_loop (Q:=fun o=>o=[.int .i64 (sumL (sC x.cs p) L)]) (Ko:=fun y=>K [.int .i64 y]) hk hT hL hl (W_ret rfl) k 0 (by omega) (by omega)
theorem sum_less{f:Int→Int}(hf:∀c,0≤f c){A B:List Int}(h:∀y∈A,y∈B):∀{n:Nat},sumL f (memN n A)≤sumL f (memN n B)
 |0=>by simp[memN,sumL]
 |n+1=>by
  have ih:=sum_less hf h (n:=n)
  have h0:=hf n
  rw[memN_succ,memN_succ]
  cases ha:hasL A n with
  |true=>
   have hb:hasL B n=true:=hasL_iff.2 (h _ (hasL_iff.1 ha))
   rw[hb,if_pos rfl,sumL_snoc,sumL_snoc];omega
  |false=>
   rw[if_neg (by simp),List.append_nil]
   split
   ·rw[sumL_snoc];omega
   ·rw[List.append_nil];exact ih
end
set_option maxHeartbeats 4000000
section
variable {R : Type} {G : ORC R} {k : Nat} {K : LV → OV R}
theorem extract_size(s:ByteArray)(a b:Nat):(ByteArray.extract s a b).size≤s.size:=by
 rw[ByteArray.size_extract];omega
theorem ext_dg{n:Int}(h1:0≤n)(h2:n<10):ByteArray.extract ⟨#[48,49,50,51,52,53,54,55,56,57]⟩ n.toNat (n+1).toNat=dg n.toNat:=by
 have:n=0∨n=1∨n=2∨n=3∨n=4∨n=5∨n=6∨n=7∨n=8∨n=9:=by omega
 rcases this with rfl|rfl|rfl|rfl|rfl|rfl|rfl|rfl|rfl|rfl<;>rfl
def DecS(d:Nat)(G:ORC R):Prop:=∀(n:Int) (K:LV→OV R),0≤n→n<10^d→W (fun o=>o=[.str (decD d n.toNat)]) K (G 72 [.int .i64 n] K)
theorem dec_step{d:Nat}(hd:d≤9)(hD:d=0∨DecS d G):DecS (d+1) (fun _ args (K:LV→OV R)=>g72 G k args K):=by
 intro n K h1 h2
 have hp:(10:Int)^(d+1)=10^d*10:=Int.pow_succ _ _
 have hb:(10:Int)^d≤10^9:=by
  have:(10:Nat)^d≤10^9:=Nat.pow_le_pow_right (by decide) hd
  exact_mod_cast this
 show W _ K (f72 G k n K)
 unfold f72
 refine W_no (by omega) (W_no (by omega) ?_)
 refine W_dec (fun h=> ?_) (fun h=> ?_)
 ·rw[wrap_id (n:=n+1) (by omega)]
  have hsz:ByteArray.size ⟨#[48,49,50,51,52,53,54,55,56,57]⟩=10:=by decide
  refine W_and (W_and (W_yes (by omega) (W_yes (by omega) (W_yes (by rw[hsz];omega) ?_))))
  exact W_ret (by rw[ext_dg h1 h];unfold decD;rw[if_pos (by omega)])
 ·have ht:Int.tdiv n 10=n/10:=Int.tdiv_eq_ediv_of_nonneg h1
  have hm:Int.tmod n 10=n % 10:=Int.tmod_eq_emod_of_nonneg h1
  rw[ht,hm]
  rw[wrap_id (n:=n/10) (by omega)]
  have hD':DecS d G:=by
   rcases hD with rfl|hD
   ·simp at h2;omega
   ·exact hD
  refine W_call (hD' (n/10) _ (by omega) (by omega)) ?_
  rintro o rfl
  have hs:=decD_size (d:=d) (n:=(n/10).toNat)
  refine W_uS (W_unNil ?_)
  rw[wrap_id (n:=n % 10+1) (by omega)]
  have hsz:ByteArray.size ⟨#[48,49,50,51,52,53,54,55,56,57]⟩=10:=by decide
  have he:=extract_size ⟨#[48,49,50,51,52,53,54,55,56,57]⟩ (Int.toNat (n % 10)) (Int.toNat (n % 10+1))
  rw[hsz]at he
  refine W_and (W_and (W_yes (by omega) (W_yes (by omega) (W_yes (by rw[hsz];omega) ?_))))
  refine W_yes (by omega) ?_
  refine W_ret ?_
  rw[ext_dg (n:=n % 10) (by omega) (by omega)]
  show _=[V.str (if n.toNat<10 then dg n.toNat else decD d (n.toNat/10)++dg (n.toNat % 10))]
  rw[if_neg (by omega),show(n/10).toNat=n.toNat/10 by omega,show(n % 10).toNat=n.toNat % 10 by omega]
def DigS(G:ORC R):Prop:=∀(n:Int) (K:LV→OV R),0≤n→n<1000→W (fun o=>o=[.str (digB n.toNat)]) K (G 56 [.int .i64 n] K)
theorem dig_ok(hD:DecS 3 G):DigS (fun _ args (K:LV→OV R)=>g56 G k args K):=by
 intro n K h1 h2
 show W _ K (f56 G k n K)
 unfold f56
 refine W_call (hD n _ h1 (by simpa using h2)) ?_
 rintro o rfl
 exact W_uS (W_unNil (W_ret rfl))
theorem strs_snoc{m:Nat}{l:LV}{s:ByteArray}(h:StrsS m l)(hs:StrS s):StrsS (m+1) (l++[.str s]):=by
 refine⟨by have:=h.1;simp;omega,fun v hv=> ?_⟩
 rcases List.mem_append.1 hv with hv|hv
 ·exact h.2 v hv
 ·rw[List.mem_singleton.1 hv];exact⟨s,rfl,hs⟩
def NamesS(G:ORC R):Prop:=∀(s:ByteArray) (n:Int) (K:LV→OV R),s.size≤10→0≤n→n≤100→W (fun o=>∃l,o=[.sl 1 l]∧StrsS 100 l) K (G 34 [.str s,.int .i64 n] K)
theorem names_loop(hD:DigS G){Q:LV→Prop}{K:LV→OV R}{Ko:LV→OV R}{s:ByteArray}{n:Int}(hs:s.size≤10)(hn:n≤100)(hKo:∀l,StrsS 100 l→W Q K (Ko l)):
 ∀(j:Nat) (acc:LV) (i:Int),0≤i→i≤n→n-i<j→StrsS i.toNat acc→W Q K (l34_0g G k Ko j s n acc i)
 |0,acc,i,h1,h2,h3,h4=>by omega
 |j+1,acc,i,h1,h2,h3,h4=>by
  show W Q K (b34_0 G k (l34_0g G k Ko j) Ko s n acc i)
  unfold b34_0
  refine W_dec (fun h=> ?_) (fun h=> ?_)
  ·refine W_call (hD i _ h1 (by omega)) ?_
   rintro o rfl
   have ht:=decD_size (d:=3) (n:=i.toNat)
   change (digB i.toNat).size≤3 at ht
   refine W_uS (W_unNil ?_)
   have hl:=h4.1
   refine W_yes (by omega) (W_yes (by omega) ?_)
   rw[wrap_id (n:=i+1) (by omega)]
   refine names_loop hD hs hn hKo j _ (i+1) (by omega) (by omega) (by omega) ?_
   rw[show(i+1).toNat=i.toNat+1 by omega]
   exact strs_snoc h4 (by unfold StrS;rw[ByteArray.size_append];omega)
  ·exact hKo acc ⟨by have:=h4.1;omega,h4.2⟩
theorem names_ok(hk:1000≤k)(hD:DigS G):NamesS (fun _ args (K:LV→OV R)=>g34 G k args K):=by
 intro s n K hs h1 h2
 show W _ K (f34 G k s n K)
 unfold f34 l34_0
 exact names_loop hD hs h2 (fun l hl=>W_ret ⟨_,rfl,hl⟩) k [] 0 (by omega) h1 (by omega) ⟨by simp,by simp⟩
theorem named_snoc{m:Nat}{l:LV}{s:ByteArray}{n:Int}(h:NamedS m l)(hs:StrS s)(hn:I64 n):NamedS (m+1) (l++[.agg [.str s,.int .i64 n,.int .i64 0]]):=by
 refine⟨by have:=h.1;simp;omega,fun v hv=> ?_⟩
 rcases List.mem_append.1 hv with hv|hv
 ·exact h.2 v hv
 ·rw[List.mem_singleton.1 hv];exact⟨s,n,rfl,hs,hn⟩
def NumdS(G:ORC R):Prop:=∀(l L:LV) (i:Int) (K:LV→OV R),StrsS 100 l→RowS L i→W (fun o=>∃q j,o=[.sl 3 q,.int .i64 j]∧NamedS 100 q∧RowS L j) K (G 35 [.sl 1 l,.sl 1 L,.int .i64 i] K)
theorem named_loop(hN:NextS G){Q:LV→Prop}{K:LV→OV R}{Ko:LV→LV→Int→OV R}{l L:LV}(hl:StrsS 100 l)(hKo:∀q at_,NamedS 100 q→RowS L at_→W Q K (Ko q L at_)):
 ∀(j:Nat) (acc:LV) (i at_:Int),0≤i→i≤(l.length:Int)→(l.length:Int)-i<j→NamedS i.toNat acc→RowS L at_→W Q K (l35_0g G k Ko j l acc i L at_)
 |0,acc,i,at_,h1,h2,h3,h4,h5=>by omega
 |j+1,acc,i,at_,h1,h2,h3,h4,h5=>by
  show W Q K (b35_0 G k (l35_0g G k Ko j) Ko l acc i L at_)
  unfold b35_0
  have hll:=hl.1
  refine W_dec (fun h=> ?_) (fun h=> ?_)
  ·refine W_and (W_yes h1 (W_yes h ?_))
   refine W_nth (by omega) (fun v _ hv=> ?_)
   obtain⟨t,rfl,ht⟩:=hl.2 v hv
   refine W_asStr ?_
   refine W_call (hN 9 L at_ _ (by omega) (by omega) h5) ?_
   rintro o ⟨x,at2,rfl,x1,x2,h6⟩
   refine W_uI (W_uI (W_unNil ?_))
   have hla:=h4.1
   refine W_yes (by omega) ?_
   rw[wrap_id (n:=i+1) (by omega),wrap_id (n:=x-4) (by omega)]
   refine named_loop hN hl hKo j _ (i+1) at2 (by omega) (by omega) (by omega) ?_ h6
   rw[show(i+1).toNat=i.toNat+1 by omega]
   exact named_snoc h4 ht (by unfold I64;omega)
  ·exact hKo acc at_ ⟨by have:=h4.1;omega,h4.2⟩ h5
theorem named_ok(hk:1000≤k)(hN:NextS G):NumdS (fun _ args (K:LV→OV R)=>g35 G k args K):=by
 intro l L i K hl hr
 show W _ K (f35 G k l L i K)
 unfold f35 l35_0
 exact named_loop hN hl (fun q at_ hq hr=>W_ret ⟨_,_,rfl,hq,hr⟩) k [] 0 i (by omega) (by omega) (by have:=hl.1;omega) ⟨by simp,by simp⟩ hr
def PlainS(G:ORC R):Prop:=∀(l:LV) (K:LV→OV R),StrsS 100 l→W (fun o=>∃q,o=[.sl 3 q]∧NamedS 100 q) K (G 36 [.sl 1 l] K)
theorem plain_loop{Q:LV→Prop}{K:LV→OV R}{Ko:LV→OV R}{l:LV}(hl:StrsS 100 l)(hKo:∀q,NamedS 100 q→W Q K (Ko q)):
 ∀(j:Nat) (acc:LV) (i:Int),0≤i→i≤(l.length:Int)→(l.length:Int)-i<j→NamedS i.toNat acc→W Q K (l36_0g G k Ko j l acc i)
 |0,acc,i,h1,h2,h3,h4=>by omega
 |j+1,acc,i,h1,h2,h3,h4=>by
  show W Q K (b36_0 G k (l36_0g G k Ko j) Ko l acc i)
  unfold b36_0
  have hll:=hl.1
  refine W_dec (fun h=> ?_) (fun h=> ?_)
  ·refine W_and (W_yes h1 (W_yes h ?_))
   refine W_nth (by omega) (fun v _ hv=> ?_)
   obtain⟨t,rfl,ht⟩:=hl.2 v hv
   refine W_asStr ?_
   have hla:=h4.1
   refine W_yes (by omega) ?_
   rw[wrap_id (n:=i+1) (by omega)]
   refine plain_loop hl hKo j _ (i+1) (by omega) (by omega) (by omega) ?_
   rw[show(i+1).toNat=i.toNat+1 by omega]
   exact named_snoc h4 ht (by unfold I64;omega)
  ·exact hKo acc ⟨by have:=h4.1;omega,h4.2⟩
theorem plain_ok(hk:1000≤k):PlainS (fun _ args (K:LV→OV R)=>g36 G k args K):=by
 intro l K hl
 show W _ K (f36 G k l K)
 unfold f36 l36_0
 exact plain_loop hl (fun q hq=>W_ret ⟨_,rfl,hq⟩) k [] 0 (by omega) (by omega) (by have:=hl.1;omega) ⟨by simp,by simp⟩
end
section
variable {R : Type} {G : ORC R} {k : Nat} {K : LV → OV R}
def ExprOK(d:Nat)(G:ORC R):Prop:=∀(a b c s L:LV) (n i:Int) (K:LV→OV R),n=(d:Int)→StrsS 100 a→StrsS 100 s→RowS L i→
 W (fun o=>∃e j,o=[e,.int .i64 j]∧ExprS (d+1) e∧RowS L j) K (G 58 [.agg [.sl 1 a,.sl 1 b,.sl 1 c,.sl 1 s],.int .i64 n,.sl 1 L,.int .i64 i] K)
theorem expr_mk{d:Nat}{kind n:Int}{nm:ByteArray}{kids:LV}(h1:I64 n)(h2:StrS nm)(h3:1≤kind∧kind≤19)(h4:kids.length≤2)(h5:∀e∈kids,ExprS d e)(h6:kind≤4∨(kind≤6∧kids.length=1)∨(7≤kind∧kids.length=2)):
 ExprS (d+1) (.agg [.int .i64 kind,.int .i64 n,.str nm,.sl 5 kids,.int .i64 0]):=⟨kind,n,nm,kids,rfl,h1,h2,h3.1,h3.2,h4,h5,h6⟩
theorem one_mem{d:Nat}{a:V}(h:ExprS d a):∀e∈[a],ExprS d e:=fun e he=>by rw[List.mem_singleton.1 he];exact h
theorem two_mem{d:Nat}{a b:V}(h:ExprS d a)(h':ExprS d b):∀e∈[a,b],ExprS d e:=fun e he=>by
 simp only[List.mem_cons,List.not_mem_nil,or_false]at he
 rcases he with rfl|rfl
 ·exact h
 ·exact h'
theorem strs0:StrS ⟨#[]⟩:=by unfold StrS;decide
theorem expr_ok{d:Nat}(hd:d≤20)(hN:NextS G)(hPk:PickS G)(hE:∀d',d=d'+1→ExprOK d' G):ExprOK d (fun _ args (K:LV→OV R)=>g58 G k args K):=by
 intro a b c s L n i K hn ha hs hr
 show W _ K (f58 G k a b c s n L i K)
 unfold f58
 unfold NextS at hN;unfold PickS at hPk;unfold ExprOK at hE
 have la:=ha.1
 have lss:=hs.1
 have hE':n≠0→∃d',d=d'+1:=fun h=>⟨d-1,by omega⟩
 have hEn:∀d',d=d'+1→IntKind.i64.wrap (n-1)=(d':Int):=fun d' h=>by rw[wrap_id (by omega)];omega
 refine W_call (hN _ _ _ _ (by omega) (by omega) hr) ?_
 rintro o ⟨x,i1,rfl,x1,x2,hr1⟩
 have ht:=tmod_lt (v:=x) (n:=6) (by omega)
 by_cases hn0:n=0
 ·clear hE' hEn hE
  repeat' (first
   |with_reducible (first|(refine W_uI ?_)|(refine W_uS ?_)|(refine W_uL ?_)|(refine W_uA ?_)|(refine W_uB ?_)|(refine W_aI ?_)|(refine W_aL ?_)|(refine W_ca3 ?_)|(refine W_ce3 ?_)|(refine W_ca4 ?_)|(refine W_ce4 ?_)|(refine W_ca5 ?_)|(refine W_ce5 ?_)|(refine W_ca6 ?_)|(refine W_ce6 ?_)|(refine W_ca7 ?_)|(refine W_ce7 ?_)|(refine W_ca8 ?_)|(refine W_ce8 ?_)|(refine W_unCons ?_)|(refine W_unNil ?_)|(refine W_asInt ?_)|(refine W_asStr ?_)|(refine W_asSl ?_)|(refine W_asAgg ?_)|(refine W_kd ?_)|(refine W_z ?_))
   |((with_reducible (refine W_call (hN _ _ _ _ ?_ ?_ (by assumption)) ?_));omega;omega;rintro _ ⟨_,_,rfl,_,_,_⟩)
   |((with_reducible (refine W_call (hPk _ _ _ _ 100 _ (by assumption) ?_ strs0 (by assumption)) ?_));omega;rintro _ ⟨_,_,rfl,_,_,_⟩)
   |(with_reducible (refine W_and ?_))|((with_reducible (refine W_yes ?_ ?_));omega)|((with_reducible (refine W_no ?_ ?_));omega)|((with_reducible (refine W_eqY ?_ ?_));omega)|((with_reducible (refine W_eqN ?_ ?_));omega)
   |(with_reducible (refine W_dec (fun _=> ?_) (fun _=> ?_)))|(with_reducible (refine W_beqI (fun _=> ?_) (fun _=> ?_)))
   |((with_reducible (refine W_nth ?_ (fun v _ hv=> ?_)));(simp;omega);simp only[List.mem_cons,List.not_mem_nil,or_false]at hv;rcases hv with rfl|rfl|rfl|rfl|rfl|rfl)
   |(refine W_ret ⟨_,_,rfl,expr_mk (by unfold I64;omega) (by first|assumption|exact strs0) ⟨by omega,by omega⟩ (by simp) (by simp) (by omega),by assumption⟩))
 ·obtain⟨d',rfl⟩:=hE' hn0
  have hEn:=hEn d' rfl
  have hE:=hE d' rfl
  clear hE'
  repeat' (first
   |with_reducible (first|(refine W_uI ?_)|(refine W_uS ?_)|(refine W_uL ?_)|(refine W_uA ?_)|(refine W_uB ?_)|(refine W_aI ?_)|(refine W_aL ?_)|(refine W_ca3 ?_)|(refine W_ce3 ?_)|(refine W_ca4 ?_)|(refine W_ce4 ?_)|(refine W_ca5 ?_)|(refine W_ce5 ?_)|(refine W_ca6 ?_)|(refine W_ce6 ?_)|(refine W_ca7 ?_)|(refine W_ce7 ?_)|(refine W_ca8 ?_)|(refine W_ce8 ?_)|(refine W_unCons ?_)|(refine W_unNil ?_)|(refine W_asInt ?_)|(refine W_asStr ?_)|(refine W_asSl ?_)|(refine W_asAgg ?_)|(refine W_kd ?_)|(refine W_z ?_))
   |((with_reducible (refine W_call (hN _ _ _ _ ?_ ?_ (by assumption)) ?_));omega;omega;rintro _ ⟨_,_,rfl,_,_,_⟩)
   |((with_reducible (refine W_call (hPk _ _ _ _ 100 _ (by assumption) ?_ strs0 (by assumption)) ?_));omega;rintro _ ⟨_,_,rfl,_,_,_⟩)
   |((with_reducible (refine W_call (hE _ _ _ _ _ _ _ _ hEn (by assumption) (by assumption) (by assumption)) ?_));rintro _ ⟨_,_,rfl,he,_⟩;have he2:=he;obtain⟨_,_,_,_,rfl,_,_,_,_,_,_,_⟩:=he)
   |(with_reducible (refine W_and ?_))|((with_reducible (refine W_yes ?_ ?_));omega)|((with_reducible (refine W_no ?_ ?_));omega)|((with_reducible (refine W_eqY ?_ ?_));omega)|((with_reducible (refine W_eqN ?_ ?_));omega)
   |(with_reducible (refine W_dec (fun _=> ?_) (fun _=> ?_)))|(with_reducible (refine W_beqI (fun _=> ?_) (fun _=> ?_)))
   |((with_reducible (refine W_nth ?_ (fun v _ hv=> ?_)));(simp;omega);simp only[List.mem_cons,List.not_mem_nil,or_false]at hv;rcases hv with rfl|rfl|rfl|rfl|rfl|rfl)
   |(refine W_ret ⟨_,_,rfl,expr_mk (by unfold I64;omega) (by first|assumption|exact strs0) ⟨by first|omega|(rw[wrap_id (by omega)];omega),by first|omega|(rw[wrap_id (by omega)];omega)⟩ (by simp) (by first|exact two_mem (by assumption) (by assumption)|exact one_mem (by assumption)|simp) (by first|exact .inr (.inr ⟨by rw[wrap_id (by omega)];omega,rfl⟩)|exact .inr (.inl ⟨by rw[wrap_id (by omega)];omega,rfl⟩)|omega),by assumption⟩))
end
set_option maxHeartbeats 8000000
section
variable {R : Type} {G : ORC R} {k : Nat} {K : LV → OV R}
def BlockOK(d:Nat)(G:ORC R):Prop:=∀(a b c s L:LV) (n i:Int) (K:LV→OV R),n=(d:Int)→StrsS 100 a→StrsS 100 b→StrsS 100 c→StrsS 100 s→RowS L i→
 W (fun o=>∃q j,o=[.sl 8 q,.int .i64 j]∧BlockS (d+1) q∧RowS L j) K (G 57 [.agg [.sl 1 a,.sl 1 b,.sl 1 c,.sl 1 s],.int .i64 n,.sl 1 L,.int .i64 i] K)
theorem act_mk{d:Nat}{kind n:Int}{nm ev:ByteArray}{x th el:LV}(h1:ActN kind n)(h2:StrS nm)(h3:StrS ev)(h4:1≤kind∧kind≤7)(h5:x.length≤1)(h6:∀e∈x,ExprS 3 e)(h7:kind=6→x.length=1)(h8:BlockS d th)(h9:BlockS d el):
 ActS (d+1) (.agg [.int .i64 kind,.str nm,.str ev,.sl 5 x,.int .i64 n,.sl 8 th,.sl 8 el,.int .i64 0]):=⟨kind,nm,ev,x,n,th,el,rfl,h1,h2,h3,h4.1,h4.2,h5,h6,h7,h8.1,h9.1,h8.2,h9.2⟩
theorem block0{d:Nat}:BlockS d []:=⟨by simp,by simp⟩
theorem take_one{e:V}{n:Nat}(h:ExprS 3 e):(List.take n [e]).length≤1∧∀v∈List.take n [e],ExprS 3 v:=
 ⟨by simp[List.length_take];omega,fun v hv=>one_mem h v (List.mem_of_mem_take hv)⟩
theorem num_of{n:Int}(h:I64 n):∀e∈[V.agg [.int .i64 1,.int .i64 n,.str ⟨#[]⟩,.sl 5 [],.int .i64 0]],ExprS 3 e:=one_mem (expr_mk (d:=2) h strs0 ⟨by omega,by omega⟩ (by simp) (by simp) (by omega))
theorem i64_0:I64 0:=by unfold I64;omega
theorem block_round{d:Nat}(hd:d≤3)(hN:NextS G)(hPk:PickS G)(hEv:EventS G)(hE:ExprOK 2 G)(hB:∀d',d=d'+1→BlockOK d' G){Q:LV→Prop}{K:LV→OV R}{a b c s L acc:LV}{n i dd:Int}
 (X:Int→LV→Int→LV→Int→LV→LV→LV→LV→OV R) (Ko:LV→LV→Int→OV R)
 (hdd:dd=(d:Int)) (ha:StrsS 100 a) (hb:StrsS 100 b) (hc:StrsS 100 c) (hs:StrsS 100 s) (hr:RowS L i) (hn:n>0) (hacc:acc.length≤2)
 (hX1:∀v j,ActS (d+1) v→RowS L j→W Q K (X dd (acc++[v]) (IntKind.i64.wrap (n-1)) L j a b c s))
 (hX0:∀j,RowS L j→W Q K (X dd acc (IntKind.i64.wrap (n-1)) L j a b c s)):
 W Q K (b57_0 G k X Ko dd acc n L i a b c s):=by
 unfold b57_0
 unfold NextS at hN;unfold PickS at hPk;unfold EventS at hEv;unfold ExprOK at hE;unfold BlockOK at hB
 have la:=ha.1
 have lb:=hb.1
 have lc:=hc.1
 refine W_yes hn ?_
 refine W_call (hN _ _ _ _ (by omega) (by omega) hr) ?_
 rintro _ ⟨x,i1,rfl,x1,x2,hr1⟩
 refine W_uI (W_uI (W_unNil ?_))
 refine W_call (hE _ _ _ _ _ _ _ _ (by rfl) ha hs hr1) ?_
 rintro _ ⟨e,i2,rfl,he,hr2⟩
 have he2:=he
 obtain⟨_,_,_,_,rfl,_⟩:=he
 repeat (with_reducible (first|(refine W_uI ?_)|(refine W_uS ?_)|(refine W_uL ?_)|(refine W_uA ?_)|(refine W_uB ?_)|(refine W_aI ?_)|(refine W_aL ?_)|(refine W_ca3 ?_)|(refine W_ce3 ?_)|(refine W_ca4 ?_)|(refine W_ce4 ?_)|(refine W_ca5 ?_)|(refine W_ce5 ?_)|(refine W_ca6 ?_)|(refine W_ce6 ?_)|(refine W_ca7 ?_)|(refine W_ce7 ?_)|(refine W_ca8 ?_)|(refine W_ce8 ?_)|(refine W_unCons ?_)|(refine W_unNil ?_)|(refine W_asInt ?_)|(refine W_asStr ?_)|(refine W_asSl ?_)|(refine W_asAgg ?_)|(refine W_kd ?_)|(refine W_z ?_)))
 have ht:=take_one (n:=0) he2
 by_cases hd0:d=0
 ·have hdd0:¬dd>0:=by omega
  clear hB
  repeat' (first
   |with_reducible (first|(refine W_uI ?_)|(refine W_uS ?_)|(refine W_uL ?_)|(refine W_uA ?_)|(refine W_uB ?_)|(refine W_aI ?_)|(refine W_aL ?_)|(refine W_ca3 ?_)|(refine W_ce3 ?_)|(refine W_ca4 ?_)|(refine W_ce4 ?_)|(refine W_ca5 ?_)|(refine W_ce5 ?_)|(refine W_ca6 ?_)|(refine W_ce6 ?_)|(refine W_ca7 ?_)|(refine W_ce7 ?_)|(refine W_ca8 ?_)|(refine W_ce8 ?_)|(refine W_unCons ?_)|(refine W_unNil ?_)|(refine W_asInt ?_)|(refine W_asStr ?_)|(refine W_asSl ?_)|(refine W_asAgg ?_)|(refine W_kd ?_)|(refine W_z ?_))
   |((with_reducible (refine W_call (hN _ _ _ _ ?_ ?_ (by assumption)) ?_));omega;omega;rintro _ ⟨_,_,rfl,_,_,_⟩)
   |((with_reducible (refine W_call (hPk _ _ _ _ 100 _ (by assumption) ?_ strs0 (by assumption)) ?_));omega;rintro _ ⟨_,_,rfl,_,_,_⟩)
   |((with_reducible (refine W_call (hEv _ _) ?_));rintro _ ⟨_,rfl,_⟩)
   |(with_reducible (refine W_and ?_))|((with_reducible (refine W_no hdd0 ?_)))|((with_reducible (refine W_yes ?_ ?_));omega)|((with_reducible (refine W_no ?_ ?_));omega)|((with_reducible (refine W_eqY ?_ ?_));omega)|((with_reducible (refine W_eqN ?_ ?_));omega)
   |(with_reducible (refine W_dec (fun _=> ?_) (fun _=> ?_)))|(with_reducible (refine W_beqI (fun _=> ?_) (fun _=> ?_)))
   |(with_reducible (exact hX0 _ (by assumption)))
   |((with_reducible (refine hX1 _ _ ?_ (by assumption)));
     exact act_mk (by first|exact⟨i64_0,by omega⟩|(rw[wrap_id (by omega)];unfold ActN I64;omega)) (by first|assumption|exact strs0) (by first|assumption|exact strs0) ⟨by omega,by omega⟩
      (by first|exact Nat.le_refl 1|exact Nat.zero_le 1|exact(take_one he2).1) (by first|exact one_mem he2|exact(take_one he2).2|exact num_of (by rw[wrap_id (by omega)];unfold I64;omega)|simp) (by first|omega|exact fun _=>rfl) block0 block0))
 ·obtain⟨d',rfl⟩:∃d',d=d'+1:=⟨d-1,by omega⟩
  have hdd0:dd>0:=by omega
  have hB:=hB d' rfl
  have hBn:IntKind.i64.wrap (dd-1)=(d':Int):=by rw[wrap_id (by omega)];omega
  repeat' (first
   |with_reducible (first|(refine W_uI ?_)|(refine W_uS ?_)|(refine W_uL ?_)|(refine W_uA ?_)|(refine W_uB ?_)|(refine W_aI ?_)|(refine W_aL ?_)|(refine W_ca3 ?_)|(refine W_ce3 ?_)|(refine W_ca4 ?_)|(refine W_ce4 ?_)|(refine W_ca5 ?_)|(refine W_ce5 ?_)|(refine W_ca6 ?_)|(refine W_ce6 ?_)|(refine W_ca7 ?_)|(refine W_ce7 ?_)|(refine W_ca8 ?_)|(refine W_ce8 ?_)|(refine W_unCons ?_)|(refine W_unNil ?_)|(refine W_asInt ?_)|(refine W_asStr ?_)|(refine W_asSl ?_)|(refine W_asAgg ?_)|(refine W_kd ?_)|(refine W_z ?_))
   |((with_reducible (refine W_call (hN _ _ _ _ ?_ ?_ (by assumption)) ?_));omega;omega;rintro _ ⟨_,_,rfl,_,_,_⟩)
   |((with_reducible (refine W_call (hPk _ _ _ _ 100 _ (by assumption) ?_ strs0 (by assumption)) ?_));omega;rintro _ ⟨_,_,rfl,_,_,_⟩)
   |((with_reducible (refine W_call (hEv _ _) ?_));rintro _ ⟨_,rfl,_⟩)
   |((with_reducible (refine W_call (hB _ _ _ _ _ _ _ _ hBn (by assumption) (by assumption) (by assumption) (by assumption) (by assumption)) ?_));rintro _ ⟨_,_,rfl,_,_⟩)
   |(with_reducible (refine W_and ?_))|((with_reducible (refine W_yes hdd0 ?_)))|((with_reducible (refine W_yes ?_ ?_));omega)|((with_reducible (refine W_no ?_ ?_));omega)|((with_reducible (refine W_eqY ?_ ?_));omega)|((with_reducible (refine W_eqN ?_ ?_));omega)
   |(with_reducible (refine W_dec (fun _=> ?_) (fun _=> ?_)))|(with_reducible (refine W_beqI (fun _=> ?_) (fun _=> ?_)))
   |(with_reducible (exact hX0 _ (by assumption)))
   |((with_reducible (refine hX1 _ _ ?_ (by assumption)));
     exact act_mk (by first|exact⟨i64_0,by omega⟩|(rw[wrap_id (by omega)];unfold ActN I64;omega)) (by first|assumption|exact strs0) (by first|assumption|exact strs0) ⟨by omega,by omega⟩
      (by first|exact Nat.le_refl 1|exact Nat.zero_le 1|exact(take_one he2).1) (by first|exact one_mem he2|exact(take_one he2).2|exact num_of (by rw[wrap_id (by omega)];unfold I64;omega)|simp) (by first|omega|exact fun _=>rfl) (by first|assumption|exact block0) (by first|assumption|exact block0)))
theorem block_loop{d:Nat}(hd:d≤3)(hN:NextS G)(hPk:PickS G)(hEv:EventS G)(hE:ExprOK 2 G)(hB:∀d',d=d'+1→BlockOK d' G){Q:LV→Prop}{K:LV→OV R}{a b c s L:LV}{dd:Int}{Ko:LV→LV→Int→OV R}
 (hdd:dd=(d:Int)) (ha:StrsS 100 a) (hb:StrsS 100 b) (hc:StrsS 100 c) (hs:StrsS 100 s) (hKo:∀q j,BlockS (d+1) q→RowS L j→W Q K (Ko q L j)):
 ∀(j:Nat) (acc:LV) (n i:Int),n<j→(acc.length:Int)+n≤2→0≤n→(∀v∈acc,ActS (d+1) v)→RowS L i→W Q K (l57_0g G k Ko j dd acc n L i a b c s)
 |0,acc,n,i,h1,h2,h3,h4,h5=>by omega
 |j+1,acc,n,i,h1,h2,h3,h4,h5=>by
  show W Q K (b57_0 G k (l57_0g G k Ko j) Ko dd acc n L i a b c s)
  by_cases hn:n>0
  ·refine block_round hd hN hPk hEv hE hB _ _ hdd ha hb hc hs h5 hn (by omega) (fun v j' hv hj=> ?_) (fun j' hj=> ?_)
   ·refine block_loop hd hN hPk hEv hE hB hdd ha hb hc hs hKo j _ _ j' (by rw[wrap_id (by omega)];omega) (by rw[wrap_id (by omega)];simp;omega) (by rw[wrap_id (by omega)];omega) ?_ hj
    intro w hw
    rcases List.mem_append.1 hw with hw|hw
    ·exact h4 w hw
    ·rw[List.mem_singleton.1 hw];exact hv
   ·exact block_loop hd hN hPk hEv hE hB hdd ha hb hc hs hKo j _ _ j' (by rw[wrap_id (by omega)];omega) (by rw[wrap_id (by omega)];omega) (by rw[wrap_id (by omega)];omega) h4 hj
  ·unfold b57_0
   exact W_no hn (hKo acc i ⟨by omega,h4⟩ h5)
theorem block_ok{d:Nat}(hk:1000≤k)(hd:d≤3)(hN:NextS G)(hPk:PickS G)(hEv:EventS G)(hE:ExprOK 2 G)(hB:∀d',d=d'+1→BlockOK d' G):BlockOK d (fun _ args (K:LV→OV R)=>g57 G k args K):=by
 intro a b c s L n i K hn ha hb hc hs hr
 show W _ K (f57 G k a b c s n L i K)
 unfold f57
 refine W_call (hN _ _ _ _ (by omega) (by omega) hr) ?_
 rintro _ ⟨x,i1,rfl,x1,x2,hr1⟩
 refine W_uI (W_uI (W_unNil ?_))
 unfold l57_0
 exact block_loop hd hN hPk hEv hE hB hn ha hb hc hs (fun q j hq hj=>W_ret ⟨_,_,rfl,hq,hj⟩) k [] x i1 (by omega) (by simp;omega) x1 (by simp) hr1
end
section
variable {R : Type} {G : ORC R} {k : Nat} {K : LV → OV R}
def StOK(d:Nat)(G:ORC R):Prop:=∀(b:Bool) (a p c s all L:LV) (n left i:Int) (K:LV→OV R),n=(d:Int)→1≤left→left+all.length≤20→NmsS all→NmI all→RowS L i→
 W (fun o=>∃x left' all' j,o=[x,.int .i64 left',.sl 1 all',.int .i64 j]∧StateS 0 (d+1) x∧kindV x≤2∧0≤left'∧left'<left∧left'+(all'.length:Int)=left+all.length∧NmsS all'∧RowS L j∧all'=all++nmV (d+1) x∧NmI all') K
   (G 37 [.int .i64 n,.bool b,.sl 1 a,.sl 1 p,.sl 1 c,.sl 1 s,.int .i64 left,.sl 1 all,.sl 1 L,.int .i64 i] K)
theorem nms_snoc{l:LV}{s:ByteArray}(h:NmsS l)(hs:StrS s)(h0:0<s.size):NmsS (l++[.str s]):=fun v hv=>by
 rcases List.mem_append.1 hv with hv|hv
 ·exact h v hv
 ·rw[List.mem_singleton.1 hv];exact⟨s,rfl,hs,h0⟩
theorem mem_snoc{P:V→Prop}{l:LV}{x:V}(h:∀v∈l,P v)(hx:P x):∀v∈l++[x],P v:=fun v hv=>by
 rcases List.mem_append.1 hv with hv|hv
 ·exact h v hv
 ·rw[List.mem_singleton.1 hv];exact hx
theorem head_snoc{l:LV}{x:V}(h:∀s r,l=s::r→kindV s≤2)(hx:l=[]→kindV x≤2):∀s r,l++[x]=s::r→kindV s≤2:=by
 intro s r e
 cases l with
 |nil=>simp at e;rw[←e.1];exact hx rfl
 |cons a l=>simp at e;rw[←e.1];exact h a l rfl
theorem state_mk{d:Nat}{kind:Int}{nm:ByteArray}{kids:LV}(h1:StrS nm)(h2:0<nm.size)(h3:1≤kind∧kind≤4)(h4:kids.length≤4)(h5:∀s∈kids,StateS 0 d s)(h6:2<kind→kids=[])(h7:∀s r,kids=s::r→kindV s≤2)(h8:kind=2→kids≠[]):
 StateS 0 (d+1) (.agg [.int .i64 kind,.str nm,.sl 8 [],.sl 8 [],.sl 5 [],.sl 7 kids,.int .i64 0]):=
 ⟨kind,nm,[],[],[],kids,rfl,h1,h2,h3.1,h3.2,block0,block0,by simp,by simp,h4,h5,fun h=>⟨h6 h,rfl,rfl,rfl⟩,h7,h8⟩
theorem pre_strs{c:UInt8}{s:ByteArray}(h:s.size≤30):StrS (⟨#[c]⟩++s)∧0<(⟨#[c]⟩++s:ByteArray).size:=by
 have e:(⟨#[c]⟩++s:ByteArray).size=1+s.size:=by rw[ByteArray.size_append];rfl
 unfold StrS;rw[e];omega
theorem st_loop{d:Nat}(hS:StOK d G){Q:LV→Prop}{K:LV→OV R}{a p c s L h1 h2 h3 h4 en ex tr:LV}{dd h0 h5 kind z T m:Int}{hs nm:ByteArray}{Ko:LV→LV→LV→LV→Int→LV→LV→Int→Int→ByteArray→LV→LV→LV→LV→Int→Int→ByteArray→LV→LV→LV→LV→Int→OV R}
 (hdd:IntKind.i64.wrap (dd-1)=(d:Int)) (hT:T≤20) {all0:LV}
 (hKo:∀left all j kids,(all0++nmVL (d+1) kids=all∧NmI all)→0≤left→left≤m→left+(List.length all:Int)=T→NmsS all→RowS L j→kids.length≤3→(∀s∈kids,StateS 0 (d+1) s)→(∀s r,kids=s::r→kindV s≤2)→kids≠[]→W Q K (Ko a p c s left all L j h0 hs h1 h2 h3 h4 h5 kind nm en ex tr kids z)):
 ∀(j:Nat) (n left:Int) (all:LV) (i:Int) (acc:LV),(all0++nmVL (d+1) acc=all∧NmI all)→n<j→0≤n→(acc.length:Int)+n≤3→(acc=[]→1≤left∧0<n)→0≤left→left≤m→left+(List.length all:Int)=T→NmsS all→RowS L i→(∀s∈acc,StateS 0 (d+1) s)→(∀s r,acc=s::r→kindV s≤2)→
  W Q K (l37_0g G k Ko j dd n a p c s left all L i h0 hs h1 h2 h3 h4 h5 kind nm en ex tr acc z)
 |0,n,left,all,i,acc,a0,a1,a2,a3,a4,a5,a6,a7,a8,a9,a10,a11=>by omega
 |j+1,n,left,all,i,acc,a0,a1,a2,a3,a4,a5,a6,a7,a8,a9,a10,a11=>by
  show W Q K (b37_0 G k (l37_0g G k Ko j) Ko dd n a p c s left all L i h0 hs h1 h2 h3 h4 h5 kind nm en ex tr acc z)
  unfold b37_0
  by_cases hn:n>0
  ·refine W_yes hn ?_
   by_cases hl:left>0
   ·refine W_yes hl ?_
    refine W_call (hS true a p c s all L _ left i _ hdd (by omega) (by omega) a8 a0.2 a9) ?_
    rintro _ ⟨x,left',all',j',rfl,b1,b2,b3,b4,b5,b6,b7,b8,b8'⟩
    have b1':=b1
    have b9:all0++nmVL (d+1) (acc++[x])=all'∧NmI all':=⟨by rw[nmVL_app,←List.append_assoc,a0.1,b8];simp[nmVL],b8'⟩
    obtain⟨_,_,_,_,_,_,rfl,_⟩:=b1
    repeat (with_reducible (first|(refine W_uI ?_)|(refine W_uS ?_)|(refine W_uL ?_)|(refine W_uA ?_)|(refine W_uB ?_)|(refine W_aI ?_)|(refine W_aL ?_)|(refine W_ca3 ?_)|(refine W_ce3 ?_)|(refine W_ca4 ?_)|(refine W_ce4 ?_)|(refine W_ca5 ?_)|(refine W_ce5 ?_)|(refine W_ca6 ?_)|(refine W_ce6 ?_)|(refine W_ca7 ?_)|(refine W_ce7 ?_)|(refine W_ca8 ?_)|(refine W_ce8 ?_)|(refine W_unCons ?_)|(refine W_unNil ?_)|(refine W_asInt ?_)|(refine W_asStr ?_)|(refine W_asSl ?_)|(refine W_asAgg ?_)|(refine W_kd ?_)|(refine W_z ?_)))
    refine W_yes (by omega) ?_
    have e1:IntKind.i64.wrap (n-1)=n-1:=wrap_id (by omega)
    rw[e1]
    exact st_loop hS hdd hT hKo j _ _ _ _ _ b9 (by omega) (by omega) (by simp;omega) (by simp) b3 (by omega) (by omega) b6 b7 (mem_snoc a10 b1') (head_snoc a11 (fun _=>b2))
   ·refine W_no hl ?_
    have hacc:acc≠[]:=fun h=>by have:=(a4 h).1;omega
    have hlen:((acc.length:Nat):Int)≠0:=fun h=>hacc (List.eq_nil_of_length_eq_zero (by omega))
    refine W_eqN hlen ?_
    exact hKo left all i acc a0 a5 a6 a7 a8 a9 (by omega) a10 a11 hacc
  ·exact W_no hn (hKo left all i acc a0 a5 a6 a7 a8 a9 (by omega) a10 a11 (fun h=>by have:=(a4 h).2;omega))
theorem st_ok{d:Nat}(hk:1000≤k)(hd:d≤3)(hN:NextS G)(hDg:DigS G)(hS:∀d',d=d'+1→StOK d' G):StOK d (fun _ args (K:LV→OV R)=>g37 G k args K):=by
 intro b a p c s all L n left i K hn h1 h2 h3 h3' h4
 show W _ K (f37 G k n b a p c s left all L i K)
 unfold f37
 have e1:IntKind.i64.wrap (left-1)=left-1:=wrap_id (by omega)
 rw[e1]
 have s115:ByteArray.size ⟨#[115]⟩=1:=by decide
 have s104:ByteArray.size ⟨#[104]⟩=1:=by decide
 rw[s115,s104]
 unfold NextS at hN;unfold DigS at hDg
 have dsz:∀m,(digB m).size≤30:=fun m=>Nat.le_trans (decD_size (d:=3)) (by omega)
 have ddsz:∀m,(digB m).size≤3:=fun m=>decD_size (d:=3)
 refine W_call (hDg _ _ (by omega) (by omega)) ?_
 rintro _ rfl
 have t1s:=dsz ((all.length:Int).toNat)
 have t1s':=ddsz ((all.length:Int).toNat)
 refine W_uS (W_unNil (W_yes (by omega) (W_yes (by omega) ?_)))
 refine W_call (hDg _ _ (by omega) (by omega)) ?_
 rintro _ rfl
 refine W_uS (W_unNil (W_yes (by omega) ?_))
 have t1p:=pre_strs (c:=115) t1s
 have hall:=nms_snoc h3 t1p.1 t1p.2
 have leaf:StateS 0 (d+1) (.agg [.int .i64 1,.str (⟨#[115]⟩++digB (Int.toNat all.length)),.sl 8 [],.sl 8 [],.sl 5 [],.sl 7 [],.int .i64 0]):=state_mk t1p.1 t1p.2 ⟨by omega,by omega⟩ (by simp) (by simp) (fun _=>rfl) (by simp) (by omega)
 have hlen:left-1+((all++[V.str (⟨#[115]⟩++digB (Int.toNat all.length))]).length:Int)=left+all.length:=by simp;omega
 have hni:NmI (all++[V.str (⟨#[115]⟩++digB (Int.toNat all.length))]):=nmI_snoc h3' (.inl rfl)
 have hsz:all++[V.str (⟨#[115]⟩++digB (Int.toNat all.length))]=all++nmV (d+1) (.agg [.int .i64 1,.str (⟨#[115]⟩++digB (Int.toNat all.length)),.sl 8 [],.sl 8 [],.sl 5 [],.sl 7 [],.int .i64 0])∧NmI (all++[V.str (⟨#[115]⟩++digB (Int.toNat all.length))]):=⟨rfl,hni⟩
 by_cases hd0:n>0
 ·obtain⟨d',rfl⟩:∃d',d=d'+1:=⟨d-1,by omega⟩
  have hdd:IntKind.i64.wrap (n-1)=(d':Int):=by rw[wrap_id (by omega)];omega
  refine W_yes hd0 ?_
  refine W_dec (fun hl=> ?_) (fun _=>W_ret ⟨_,_,_,_,rfl,leaf,by simp[kindV],by omega,by omega,hlen,hall,h4,hsz.1,hsz.2⟩)
  refine W_call (hN _ _ _ _ (by omega) (by omega) h4) ?_
  rintro _ ⟨x1,i1,rfl,x11,x12,r1⟩
  refine W_uI (W_uI (W_unNil ?_))
  refine W_dec (fun hx1=> ?_) (fun _=>W_ret ⟨_,_,_,_,rfl,leaf,by simp[kindV],by omega,by omega,hlen,hall,r1,hsz.1,hsz.2⟩)
  refine W_call (hN _ _ _ _ (by omega) (by omega) r1) ?_
  rintro _ ⟨x2,i2,rfl,x21,x22,r2⟩
  refine W_uI (W_uI (W_unNil ?_))
  refine W_beqI (fun _=> ?_) (fun _=> ?_)
  all_goals
   refine W_call (hN _ _ _ _ (by omega) (by omega) r2) ?_
   rintro _ ⟨x3,i3,rfl,x31,x32,r3⟩
   refine W_uI (W_uI (W_unNil ?_))
   have e2:IntKind.i64.wrap (1+x3)=1+x3:=wrap_id (by omega)
   rw[e2]
   unfold l37_0
   refine st_loop (m:=left-1) (all0:=all++[V.str (⟨#[115]⟩++digB (Int.toNat all.length))]) (hS d' rfl) hdd h2 ?_ k _ _ _ _ _ ⟨by simp[nmVL],hni⟩ (by omega) (by omega) (by simp;omega) (fun _=>⟨by omega,by omega⟩) (by omega) (by omega) hlen hall r3 (by simp) (by simp)
   intro left' all' j' kids c0 c1 c2 c3 c4 c5 c6 c7 c8 c9
   have fin:∀(K':LV→OV R) kd,K'=K→(kd=1∨kd=2)→∀jj,RowS L jj→W (fun o=>∃x left'' all'' j,o=[x,.int .i64 left'',.sl 1 all'',.int .i64 j]∧StateS 0 (d'+1+1) x∧kindV x≤2∧0≤left''∧left''<left∧left''+(all''.length:Int)=left+all.length∧NmsS all''∧RowS L j∧all''=all++nmV (d'+1+1) x∧NmI all'') K
    (K [.agg [.int .i64 kd,.str (⟨#[115]⟩++digB (Int.toNat all.length)),.sl 8 [],.sl 8 [],.sl 5 [],.sl 7 kids,.int .i64 0],.int .i64 left',.sl 1 all',.int .i64 jj]):=by
    intro K' kd _ hkd jj hjj
    exact W_ret ⟨_,_,_,_,rfl,state_mk t1p.1 t1p.2 ⟨by omega,by omega⟩ (by omega) c7 (by omega) c8 (fun _=>c9),by simp[kindV];omega,c1,by omega,by omega,c4,hjj,by rw[←c0.1,List.append_assoc];rfl,c0.2⟩
   refine W_dec (fun hl1=> ?_) (fun _=>fin K _ rfl (by omega) _ c5)
   refine W_call (hN _ _ _ _ (by omega) (by omega) c5) ?_
   rintro _ ⟨x4,i4,rfl,x41,x42,r4⟩
   refine W_uI (W_uI (W_unNil ?_))
   refine W_beqI (fun _=> ?_) (fun _=>fin K _ rfl (by omega) _ r4)
   refine W_call (hN _ _ _ _ (by omega) (by omega) r4) ?_
   rintro _ ⟨x5,i5,rfl,x51,x52,r5⟩
   refine W_uI (W_uI (W_unNil ?_))
   refine W_call (hDg _ _ (by omega) (by omega)) ?_
   rintro _ rfl
   have t3s:=dsz ((all'.length:Int).toNat)
   have t3s':=ddsz ((all'.length:Int).toNat)
   have t3p:=pre_strs (c:=104) t3s
   refine W_uS (W_unNil (W_yes (by omega) (W_yes (by omega) (W_yes (by omega) ?_))))
   have e3:IntKind.i64.wrap (3+x5)=3+x5:=wrap_id (by omega)
   have e4:IntKind.i64.wrap (left'-1)=left'-1:=wrap_id (by omega)
   rw[e3,e4]
   exact W_ret ⟨_,_,_,_,rfl,state_mk t1p.1 t1p.2 ⟨by omega,by omega⟩ (by simp;omega) (mem_snoc c7 (state_mk t3p.1 t3p.2 ⟨by omega,by omega⟩ (by simp) (by simp) (fun _=>rfl) (by simp) (by omega))) (by omega) (head_snoc c8 (fun h=>absurd h c9)) (fun _=>by simp),by simp[kindV],by omega,by omega,by simp;omega,nms_snoc c4 t3p.1 t3p.2,r5,by rw[←c0.1];simp[nmV,nmVL,stKids],nmI_snoc c0.2 (.inr rfl)⟩
 ·exact W_no hd0 (W_ret ⟨_,_,_,_,rfl,leaf,by simp[kindV],by omega,by omega,hlen,hall,h4,hsz.1,hsz.2⟩)
end
section
variable {R : Type} {G : ORC R} {k : Nat} {K : LV → OV R}
def FillOK(d:Nat)(G:ORC R):Prop:=∀(x:V) (a p c s all L:LV) (left i:Int) (K:LV→OV R),StateS 0 d x→StrsS 100 a→StrsS 100 p→StrsS 100 c→StrsS 100 s→NmsS all→all.length≤20→RowS L i→
 W (fun o=>∃y j,o=[y,.int .i64 left,.int .i64 j]∧StateS 2 d y∧kindV y=kindV x∧RowS L j∧nmV d y=nmV d x) K
   (G 38 [x,.sl 1 a,.sl 1 p,.sl 1 c,.sl 1 s,.int .i64 left,.sl 1 all,.sl 1 L,.int .i64 i] K)
theorem trans_mk{ev tg:ByteArray}{gd acts:LV}(h1:StrS ev)(h2:StrS tg)(h3:gd.length≤1)(h4:∀e∈gd,ExprS 3 e)(h5:BlockS 3 acts):TransS (.agg [.str ev,.sl 5 gd,.str tg,.sl 8 acts,.int .i64 0]):=⟨ev,gd,tg,acts,rfl,h1,h2,h3,h4,h5⟩
theorem tr_round(hN:NextS G)(hPk:PickS G)(hEv:EventS G)(hE:ExprOK 2 G)(hB:BlockOK 2 G){Q:LV→Prop}{K:LV→OV R}{a p c s all L h1 h2 h3 h4 en ex tr kids:LV}{left h0 h5 kind z n i:Int}{hs nm:ByteArray}
 (X:Int→LV→LV→LV→LV→Int→LV→LV→Int→Int→ByteArray→LV→LV→LV→LV→Int→Int→ByteArray→LV→LV→LV→LV→Int→OV R) (Ko:LV→LV→LV→LV→Int→LV→LV→Int→Int→ByteArray→LV→LV→LV→LV→Int→Int→ByteArray→LV→LV→LV→LV→Int→OV R)
 (ha:StrsS 100 a) (hp:StrsS 100 p) (hc:StrsS 100 c) (hss:StrsS 100 s) (hal:StrsS 100 all) (hr:RowS L i) (hn:n>0) (htr:tr.length≤2)
 (hX1:∀v j,TransS v→RowS L j→W Q K (X (IntKind.i64.wrap (n-1)) a p c s left all L j kind nm en ex (tr++[v]) kids z h0 hs h1 h2 h3 h4 h5)):
 W Q K (b38_0 G k X Ko n a p c s left all L i kind nm en ex tr kids z h0 hs h1 h2 h3 h4 h5):=by
 unfold b38_0
 unfold NextS at hN;unfold PickS at hPk;unfold EventS at hEv;unfold ExprOK at hE;unfold BlockOK at hB
 refine W_yes hn ?_
 repeat' (first
  |with_reducible (first|(refine W_uI ?_)|(refine W_uS ?_)|(refine W_uL ?_)|(refine W_uA ?_)|(refine W_uB ?_)|(refine W_aI ?_)|(refine W_aL ?_)|(refine W_ca3 ?_)|(refine W_ce3 ?_)|(refine W_ca4 ?_)|(refine W_ce4 ?_)|(refine W_ca5 ?_)|(refine W_ce5 ?_)|(refine W_ca6 ?_)|(refine W_ce6 ?_)|(refine W_ca7 ?_)|(refine W_ce7 ?_)|(refine W_ca8 ?_)|(refine W_ce8 ?_)|(refine W_unCons ?_)|(refine W_unNil ?_)|(refine W_asInt ?_)|(refine W_asStr ?_)|(refine W_asSl ?_)|(refine W_asAgg ?_)|(refine W_kd ?_)|(refine W_z ?_))
  |((with_reducible (refine W_call (hN _ _ _ _ ?_ ?_ (by assumption)) ?_));omega;omega;rintro _ ⟨_,_,rfl,_,_,_⟩)
  |((with_reducible (refine W_call (hPk _ _ _ _ 100 _ (by assumption) ?_ strs0 (by assumption)) ?_));omega;rintro _ ⟨_,_,rfl,_,_,_⟩)
  |((with_reducible (refine W_call (hEv _ _) ?_));rintro _ ⟨_,rfl,_⟩)
  |((with_reducible (refine W_call (hE _ _ _ _ _ _ _ _ ?_ (by assumption) (by assumption) (by assumption)) ?_));(rfl);rintro _ ⟨_,_,rfl,he,_⟩;have he2:=one_mem he;obtain⟨_,_,_,_,rfl,_⟩:=he)
  |((with_reducible (refine W_call (hB _ _ _ _ _ _ _ _ ?_ (by assumption) (by assumption) (by assumption) (by assumption) (by assumption)) ?_));(rfl);rintro _ ⟨_,_,rfl,_,_⟩)
  |((with_reducible (refine W_yes ?_ ?_));omega)
  |(with_reducible (refine W_dec (fun _=> ?_) (fun _=> ?_)))|(with_reducible (refine W_beqI (fun _=> ?_) (fun _=> ?_)))
  |((with_reducible (refine hX1 _ _ ?_ (by assumption)));
    exact trans_mk (by first|assumption|exact strs0) (by first|assumption|exact strs0) (by first|exact Nat.le_refl 1|exact Nat.zero_le 1) (by first|assumption|simp) (by first|assumption|exact block0)))
theorem tr_loop(hN:NextS G)(hPk:PickS G)(hEv:EventS G)(hE:ExprOK 2 G)(hB:BlockOK 2 G){Q:LV→Prop}{K:LV→OV R}{a p c s all L h1 h2 h3 h4 en ex kids:LV}{left h0 h5 kind z:Int}{hs nm:ByteArray}
 {Ko:LV→LV→LV→LV→Int→LV→LV→Int→Int→ByteArray→LV→LV→LV→LV→Int→Int→ByteArray→LV→LV→LV→LV→Int→OV R}
 (ha:StrsS 100 a) (hp:StrsS 100 p) (hc:StrsS 100 c) (hss:StrsS 100 s) (hal:StrsS 100 all)
 (hKo:∀tr j,tr.length≤2→(∀t∈tr,TransS t)→RowS L j→W Q K (Ko a p c s left all L j kind nm en ex tr kids z h0 hs h1 h2 h3 h4 h5)):
 ∀(j:Nat) (n i:Int) (tr:LV),n<j→0≤n→(tr.length:Int)+n≤2→(∀t∈tr,TransS t)→RowS L i→W Q K (l38_0g G k Ko j n a p c s left all L i kind nm en ex tr kids z h0 hs h1 h2 h3 h4 h5)
 |0,n,i,tr,a1,a2,a3,a4,a5=>by omega
 |j+1,n,i,tr,a1,a2,a3,a4,a5=>by
  show W Q K (b38_0 G k (l38_0g G k Ko j) Ko n a p c s left all L i kind nm en ex tr kids z h0 hs h1 h2 h3 h4 h5)
  by_cases hn:n>0
  ·refine tr_round hN hPk hEv hE hB _ _ ha hp hc hss hal a5 hn (by omega) (fun v j' hv hj=> ?_)
   rw[wrap_id (n:=n-1) (by omega)]
   exact tr_loop hN hPk hEv hE hB ha hp hc hss hal hKo j _ _ _ (by omega) (by omega) (by simp;omega) (mem_snoc a4 hv) hj
  ·unfold b38_0
   exact W_no hn (hKo tr i (by omega) a4 a5)
theorem set2{A B:LV}{b u y:V}:List.set (List.set (A++b::B) A.length u) A.length y=A++y::B:=by simp
def kn(d:Nat)(v:V):Int×LV:=(kindV v,nmV d v)
theorem kn_eq{d:Nat}{x y:V}(h:kindV y=kindV x)(h':nmV d y=nmV d x):kn d y=kn d x:=Prod.ext h h'
theorem kid_loop{d:Nat}(hF:FillOK d G){Q:LV→Prop}{K:LV→OV R}{a p c s all L h1 h2 h3 h4 en ex tr:LV}{left h0 h5 kind z:Int}{hs nm:ByteArray}{ks:List (Int×LV)}
 {Ko:LV→LV→LV→LV→Int→LV→LV→Int→Int→ByteArray→LV→LV→LV→LV→Int→Int→ByteArray→LV→LV→LV→LV→Int→OV R}
 (ha:StrsS 100 a) (hp:StrsS 100 p) (hc:StrsS 100 c) (hss:StrsS 100 s) (hal:NmsS all) (hal2:all.length≤20)
 (hKo:∀kids j,kids.map (kn d)=ks→(∀t∈kids,StateS 2 d t)→RowS L j→W Q K (Ko a p c s left all L j kind nm en ex tr kids z h0 hs h1 h2 h3 h4 h5)):
 ∀(B A:LV) (j:Nat) (i:Int),B.length<j→A.length+B.length≤4→(∀t∈A,StateS 2 d t)→(∀t∈B,StateS 0 d t)→(A++B).map (kn d)=ks→RowS L i→
  W Q K (l38_2g G k Ko j (A.length:Int) a p c s left all L i kind nm en ex tr (A++B) z h0 hs h1 h2 h3 h4 h5)
 |B,A,0,i,a1,a2,a3,a4,a5,a6=>by omega
 | [],A,j+1,i,a1,a2,a3,a4,a5,a6=>by
   show W Q K (b38_2 G k (l38_2g G k Ko j) Ko (A.length:Int) a p c s left all L i kind nm en ex tr (A++[]) z h0 hs h1 h2 h3 h4 h5)
   unfold b38_2
   refine W_no (by simp) ?_
   rw[List.append_nil]at a5 ⊢
   exact hKo A i a5 a3 a6
 |b::B,A,j+1,i,a1,a2,a3,a4,a5,a6=>by
  show W Q K (b38_2 G k (l38_2g G k Ko j) Ko (A.length:Int) a p c s left all L i kind nm en ex tr (A++b::B) z h0 hs h1 h2 h3 h4 h5)
  unfold b38_2
  simp only[List.length_cons]at a1 a2
  have hlt:(A.length:Int)<(((A++b::B).length:Nat):Int):=by simp;omega
  refine W_yes hlt (W_and (W_yes (by omega) (W_yes hlt ?_)))
  refine W_nth (by omega) (fun v hv _=> ?_)
  have hvb:v=b:=by simp at hv;exact hv.symm
  subst hvb
  have hb:=a4 v List.mem_cons_self
  have hbk:=hb
  cases d with
  |zero=>exact hb.elim
  |succ d=>
  obtain⟨_,_,_,_,_,_,rfl,_⟩:=hb
  refine W_asAgg ?_
  refine W_call (hF _ a p c s all L left i _ hbk ha hp hc hss hal hal2 a6) ?_
  rintro _ ⟨y,j',rfl,b1,b2,b3,b4⟩
  have b5:=kn_eq b2 b4
  have b1':=b1
  obtain⟨_,_,_,_,_,_,rfl,_⟩:=b1
  repeat (with_reducible (first|(refine W_uI ?_)|(refine W_uS ?_)|(refine W_uL ?_)|(refine W_uA ?_)|(refine W_uB ?_)|(refine W_aI ?_)|(refine W_aL ?_)|(refine W_ca3 ?_)|(refine W_ce3 ?_)|(refine W_ca4 ?_)|(refine W_ce4 ?_)|(refine W_ca5 ?_)|(refine W_ce5 ?_)|(refine W_ca6 ?_)|(refine W_ce6 ?_)|(refine W_ca7 ?_)|(refine W_ce7 ?_)|(refine W_ca8 ?_)|(refine W_ce8 ?_)|(refine W_unCons ?_)|(refine W_unNil ?_)|(refine W_asInt ?_)|(refine W_asStr ?_)|(refine W_asSl ?_)|(refine W_asAgg ?_)|(refine W_kd ?_)|(refine W_z ?_)))
  rw[Int.toNat_natCast,set2]
  refine W_and (W_yes (by omega) (W_yes (by rw[List.length_set];exact hlt) ?_))
  refine W_nth (by rw[List.length_set];omega) (fun v _ _=> ?_)
  rw[wrap_id (n:=(A.length:Int)+1) (by omega)]
  have e:=kid_loop hF (kind:=kind) (z:=z) (h0:=h0) (h5:=h5) (hs:=hs) (nm:=nm) (h1:=h1) (h2:=h2) (h3:=h3) (h4:=h4) (en:=en) (ex:=ex) (tr:=tr) (left:=left) ha hp hc hss hal hal2 hKo B (A++[_]) j j' (by omega) (by simp;omega) (mem_snoc a3 b1') (fun t ht=>a4 t (List.mem_cons_of_mem _ ht)) (by rw[←a5];simp only[List.append_assoc,List.singleton_append,List.map_append,List.map_cons];rw[b5]) b3
  simp only[List.append_assoc,List.singleton_append,List.length_append,List.length_cons,List.length_nil,Nat.zero_add,Int.natCast_add,Int.natCast_one]at e
  exact e
theorem fill_ok{d:Nat}(hk:1000≤k)(hN:NextS G)(hPk:PickS G)(hEv:EventS G)(hE:ExprOK 2 G)(hB2:BlockOK 2 G)(hB1:BlockOK 1 G)(hF:∀d',d=d'+1→FillOK d' G):FillOK d (fun _ args (K:LV→OV R)=>g38 G k args K):=by
 intro x a p c s all L left i K hx ha hp hc hs hal hal2 hr
 cases d with
 |zero=>exact hx.elim
 |succ d=>
 have hx2:=hx
 obtain⟨kind,nm,en,ex,tr,kids,rfl,x1,x2,x3,x4,x5,x6,x7,x8,x9,x10,x11,x12,x13⟩:=hx
 show W _ K (f38 G k kind nm en ex tr kids 0 a p c s left all L i K)
 unfold f38
 have htr:tr=[]:=List.eq_nil_of_length_eq_zero (by omega)
 subst htr
 refine W_dec (fun h=>W_ret ⟨_,_,rfl,StateS.le (by omega) hx2,rfl,hr,rfl⟩) (fun h=> ?_)
 have hal3:StrsS 100 all:=⟨by omega,fun v hv=>by obtain⟨s,e,h,_⟩:=hal v hv;exact⟨s,e,h⟩⟩
 unfold NextS at hN;unfold BlockOK at hB1
 have fin:∀(kids' en' ex' tr':LV) (j:Int),kids'.map (kn d)=kids.map (kn d)→(∀t∈kids',StateS 2 d t)→RowS L j→BlockS 2 en'→BlockS 2 ex'→tr'.length≤2→(∀t∈tr',TransS t)→
  W (fun o=>∃y j,o=[y,.int .i64 left,.int .i64 j]∧StateS 2 (d+1) y∧kindV y=kindV (.agg [.int .i64 kind,.str nm,.sl 8 en,.sl 8 ex,.sl 5 [],.sl 7 kids,.int .i64 0])∧RowS L j∧nmV (d+1) y=nmV (d+1) (.agg [.int .i64 kind,.str nm,.sl 8 en,.sl 8 ex,.sl 5 [],.sl 7 kids,.int .i64 0])) K
    (K [.agg [.int .i64 kind,.str nm,.sl 8 en',.sl 8 ex',.sl 5 tr',.sl 7 kids',.int .i64 0],.int .i64 left,.int .i64 j]):=by
  intro kids' en' ex' tr' j b1 b2 b3 b4 b5 b6 b7
  have hl:kids'.length=kids.length:=by have:=congrArg List.length b1;simpa using this
  refine W_ret ⟨_,_,rfl,⟨kind,nm,en',ex',tr',kids',rfl,x1,x2,x3,x4,b4,b5,b6,b7,by omega,b2,fun h'=>absurd h' h,?_,fun h' e=>x13 h' (List.eq_nil_of_length_eq_zero (by rw[←hl,e];rfl))⟩,rfl,b3,?_⟩
  rotate_left
  ·have e2:=congrArg (List.map Prod.snd) b1
   simp only[List.map_map]at e2
   exact congrArg (fun l:List (LV)=>V.str nm::l.flatten) e2
  intro v r e
  cases kids with
  |nil=>rw[e]at hl;simp at hl
  |cons u us=>
   rw[e]at b1;simp[kn]at b1
   rw[b1.1.1];exact x12 u us rfl
 have go:∀(en' ex':LV) (n j:Int) (Kx:LV→OV R),RowS L j→0≤n→n≤2→BlockS 2 en'→BlockS 2 ex'→
  W (fun o=>∃y j,o=[y,.int .i64 left,.int .i64 j]∧StateS 2 (d+1) y∧kindV y=kindV (.agg [.int .i64 kind,.str nm,.sl 8 en,.sl 8 ex,.sl 5 [],.sl 7 kids,.int .i64 0])∧RowS L j∧nmV (d+1) y=nmV (d+1) (.agg [.int .i64 kind,.str nm,.sl 8 en,.sl 8 ex,.sl 5 [],.sl 7 kids,.int .i64 0])) K
    (l38_0 G k n a p c s left all L j kind nm en' ex' [] kids 0 0 ⟨#[]⟩ [] [] [] [] 0 (fun yl390 yl391 yl392 yl393 yi394 yl395 yl396 yi397 yi398 ys399 yl400 yl401 yl402 yl403 yi404 yi405 ys406 yl407 yl408 yl409 yl410 yi411=>(l38_2 G k (0:Int) yl390 yl391 yl392 yl393 yi394 yl395 yl396 yi397 yi398 ys399 yl400 yl401 yl402 yl403 yi404 yi405 ys406 yl407 yl408 yl409 yl410 yi411 (fun yl477 yl478 yl479 yl480 yi481 yl482 yl483 yi484 yi485 ys486 yl487 yl488 yl489 yl490 yi491 yi492 ys493 yl494 yl495 yl496 yl497 yi498=>(K [(.agg [(.int .i64 yi485),(.str ys486),(.sl 8 yl487),(.sl 8 yl488),(.sl 5 yl489),(.sl 7 yl490),(.int .i64 yi491)]),(.int .i64 yi481),(.int .i64 yi484)]))))):=by
  intro en' ex' n j _ b1 b2 b3 b4 b5
  unfold l38_0
  refine tr_loop hN hPk hEv hE hB2 ha hp hc hs hal3 ?_ k n j [] (by omega) b2 (by simp;omega) (by simp) b1
  intro tr' j' c1 c2 c3
  unfold l38_2
  have e:=kid_loop (Q:=fun o=>∃y j,o=[y,.int .i64 left,.int .i64 j]∧StateS 2 (d+1) y∧kindV y=kindV (.agg [.int .i64 kind,.str nm,.sl 8 en,.sl 8 ex,.sl 5 [],.sl 7 kids,.int .i64 0])∧RowS L j∧nmV (d+1) y=nmV (d+1) (.agg [.int .i64 kind,.str nm,.sl 8 en,.sl 8 ex,.sl 5 [],.sl 7 kids,.int .i64 0])) (K:=K) (k:=k) (hF d rfl) (kind:=kind) (z:=0) (h0:=0) (h5:=0) (hs:=⟨#[]⟩) (nm:=nm) (h1:=[]) (h2:=[]) (h3:=[]) (h4:=[]) (en:=en') (ex:=ex') (tr:=tr') (left:=left) (ks:=kids.map (kn d))
   (Ko:=(fun yl477 yl478 yl479 yl480 yi481 yl482 yl483 yi484 yi485 ys486 yl487 yl488 yl489 yl490 yi491 yi492 ys493 yl494 yl495 yl496 yl497 yi498=>(K [(.agg [(.int .i64 yi485),(.str ys486),(.sl 8 yl487),(.sl 8 yl488),(.sl 5 yl489),(.sl 7 yl490),(.int .i64 yi491)]),(.int .i64 yi481),(.int .i64 yi484)])))
   ha hp hc hs hal hal2 (fun kids' j'' d1 d2 d3=>fin kids' en' ex' tr' j'' d1 d2 d3 b4 b5 c1 c2) kids [] k j' (by omega) (by simpa using x9) (by simp) x10 rfl c3
  exact e
 refine W_call (hN _ _ _ _ (by omega) (by omega) hr) ?_
 rintro _ ⟨y1,i1,rfl,y11,y12,r1⟩
 refine W_uI (W_uI (W_unNil ?_))
 have last:∀(en' ex':LV) (j:Int),RowS L j→BlockS 2 en'→BlockS 2 ex'→∀(F:LV→OV R),(∀n j',F [.int .i64 n,.int .i64 j']=(l38_0 G k n a p c s left all L j' kind nm en' ex' [] kids 0 0 ⟨#[]⟩ [] [] [] [] 0 (fun yl390 yl391 yl392 yl393 yi394 yl395 yl396 yi397 yi398 ys399 yl400 yl401 yl402 yl403 yi404 yi405 ys406 yl407 yl408 yl409 yl410 yi411=>(l38_2 G k (0:Int) yl390 yl391 yl392 yl393 yi394 yl395 yl396 yi397 yi398 ys399 yl400 yl401 yl402 yl403 yi404 yi405 ys406 yl407 yl408 yl409 yl410 yi411 (fun yl477 yl478 yl479 yl480 yi481 yl482 yl483 yi484 yi485 ys486 yl487 yl488 yl489 yl490 yi491 yi492 ys493 yl494 yl495 yl496 yl497 yi498=>(K [(.agg [(.int .i64 yi485),(.str ys486),(.sl 8 yl487),(.sl 8 yl488),(.sl 5 yl489),(.sl 7 yl490),(.int .i64 yi491)]),(.int .i64 yi481),(.int .i64 yi484)]))))))→
  W (fun o=>∃y j,o=[y,.int .i64 left,.int .i64 j]∧StateS 2 (d+1) y∧kindV y=kindV (.agg [.int .i64 kind,.str nm,.sl 8 en,.sl 8 ex,.sl 5 [],.sl 7 kids,.int .i64 0])∧RowS L j∧nmV (d+1) y=nmV (d+1) (.agg [.int .i64 kind,.str nm,.sl 8 en,.sl 8 ex,.sl 5 [],.sl 7 kids,.int .i64 0])) K (G 33 [.int .i64 3,.sl 1 L,.int .i64 j] F):=by
  intro en' ex' j b1 b2 b3 F hFe
  refine W_call (hN _ _ _ _ (by omega) (by omega) b1) ?_
  rintro _ ⟨n,i1,rfl,n1,n2,r1⟩
  rw[hFe]
  exact go en' ex' n i1 K r1 n1 (by omega) b2 b3
 refine W_beqI (fun _=> ?_) (fun _=> ?_)
 ·refine W_call (hB1 _ _ _ _ _ _ _ _ (by rfl) ha hp hc hs r1) ?_
  rintro _ ⟨en',i2,rfl,he,r2⟩
  refine W_uL (W_uI (W_unNil ?_))
  refine W_call (hN _ _ _ _ (by omega) (by omega) r2) ?_
  rintro _ ⟨y2,i3,rfl,y21,y22,r3⟩
  refine W_uI (W_uI (W_unNil ?_))
  refine W_beqI (fun _=> ?_) (fun _=> ?_)
  ·refine W_call (hB1 _ _ _ _ _ _ _ _ (by rfl) ha hp hc hs r3) ?_
   rintro _ ⟨ex',i4,rfl,hex,r4⟩
   refine W_uL (W_uI (W_unNil ?_))
   exact last en' ex' i4 r4 he hex _ (fun n j'=>rfl)
  ·exact last en' ex i3 r3 he x6 _ (fun n j'=>rfl)
 ·refine W_call (hN _ _ _ _ (by omega) (by omega) r1) ?_
  rintro _ ⟨y2,i3,rfl,y21,y22,r3⟩
  refine W_uI (W_uI (W_unNil ?_))
  refine W_beqI (fun _=> ?_) (fun _=> ?_)
  ·refine W_call (hB1 _ _ _ _ _ _ _ _ (by rfl) ha hp hc hs r3) ?_
   rintro _ ⟨ex',i4,rfl,hex,r4⟩
   refine W_uL (W_uI (W_unNil ?_))
   exact last en ex' i4 r4 x5 hex _ (fun n j'=>rfl)
  ·exact last en ex i3 r3 x5 x6 _ (fun n j'=>rfl)
end
section
variable {R : Type} {G : ORC R} {k : Nat}
def ChartOK(G:ORC R):Prop:=∀(nm:ByteArray) (np:Int) (L:LV) (i:Int) (K:LV→OV R),StrS nm→0≤np→np≤100→RowS L i→
 W (fun o=>∃c j,o=[c,.int .i64 j]∧ChartS c∧RowS L j) K (G 16 [.str nm,.int .i64 np,.sl 1 L,.int .i64 i] K)
variable {Q : LV → Prop} {K : LV → OV R} {L a p c q1 q2 q3 q4 vars ports timers : LV} {s1 nm : ByteArray} {z1 z2 z3 z4 st fu : Int}
theorem chart_loop0(hS:StOK 2 G){Ko:LV→Int→ByteArray→Int→Int→LV→LV→LV→LV→Int→ByteArray→Int→Int→LV→LV→LV→LV→Int→LV→LV→LV→LV→Int→LV→OV R}
 {s:LV} {T:Int} (hT:T≤20)
 (hKo:∀states j left all,(nmVL 3 states=all∧NmI all)→states.length≤2→states≠[]→(∀v∈states,StateS 0 3 v∧kindV v≤2)→0≤left→left+(List.length all:Int)=T→NmsS all→RowS L j→W Q K (Ko L j s1 z1 z2 q1 q2 q3 q4 z3 nm st fu vars ports timers states z4 a p c s left all)):
 ∀(j:Nat) (n i left:Int) (states all:LV),(nmVL 3 states=all∧NmI all)→n<j→0≤n→(states.length:Int)+n≤2→(states=[]→1≤left∧0<n)→0≤left→left+(List.length all:Int)=T→NmsS all→RowS L i→(∀v∈states,StateS 0 3 v∧kindV v≤2)→
  W Q K (l16_0g G k Ko j n L i s1 z1 z2 q1 q2 q3 q4 z3 nm st fu vars ports timers states z4 a p c s left all)
 |0,n,i,left,states,all,a0,a1,a2,a3,a4,a5,a6,a7,a8,a9=>by omega
 |j+1,n,i,left,states,all,a0,a1,a2,a3,a4,a5,a6,a7,a8,a9=>by
  show W Q K (b16_0 G k (l16_0g G k Ko j) Ko n L i s1 z1 z2 q1 q2 q3 q4 z3 nm st fu vars ports timers states z4 a p c s left all)
  unfold b16_0
  by_cases hn:n>0
  ·refine W_yes hn ?_
   by_cases hl:left>0
   ·refine W_yes hl ?_
    refine W_call (hS false a p c s all L _ left i _ (by rfl) (by omega) (by omega) a7 a0.2 a8) ?_
    rintro _ ⟨x,left',all',j',rfl,b1,b2,b3,b4,b5,b6,b7,b8,b8'⟩
    have b1':=b1
    have b9:nmVL 3 (states++[x])=all'∧NmI all':=⟨by rw[nmVL_app,a0.1,b8];simp[nmVL],b8'⟩
    obtain⟨_,_,_,_,_,_,rfl,_⟩:=b1
    repeat (with_reducible (first|(refine W_uI ?_)|(refine W_uS ?_)|(refine W_uL ?_)|(refine W_uA ?_)|(refine W_uB ?_)|(refine W_aI ?_)|(refine W_aL ?_)|(refine W_ca3 ?_)|(refine W_ce3 ?_)|(refine W_ca4 ?_)|(refine W_ce4 ?_)|(refine W_ca5 ?_)|(refine W_ce5 ?_)|(refine W_ca6 ?_)|(refine W_ce6 ?_)|(refine W_ca7 ?_)|(refine W_ce7 ?_)|(refine W_ca8 ?_)|(refine W_ce8 ?_)|(refine W_unCons ?_)|(refine W_unNil ?_)|(refine W_asInt ?_)|(refine W_asStr ?_)|(refine W_asSl ?_)|(refine W_asAgg ?_)|(refine W_kd ?_)|(refine W_z ?_)))
    refine W_yes (by omega) ?_
    have e1:IntKind.i64.wrap (n-1)=n-1:=wrap_id (by omega)
    rw[e1]
    exact chart_loop0 hS hT hKo j _ _ _ _ _ b9 (by omega) (by omega) (by simp;omega) (by simp) b3 (by omega) b6 b7 (mem_snoc a9 ⟨b1',b2⟩)
   ·refine W_no hl ?_
    have hacc:states≠[]:=fun h=>by have:=(a4 h).1;omega
    have hlen:((states.length:Nat):Int)≠0:=fun h=>hacc (List.eq_nil_of_length_eq_zero (by omega))
    refine W_eqN hlen ?_
    exact hKo states i left all a0 (by omega) hacc a9 a5 a6 a7 a8
  ·exact W_no hn (hKo states i left all a0 (by omega) (fun h=>by have:=(a4 h).2;omega) a9 a5 a6 a7 a8)
theorem chart_loop2{Ko:LV→Int→ByteArray→Int→Int→LV→LV→LV→LV→Int→ByteArray→Int→Int→LV→LV→LV→LV→Int→LV→LV→LV→LV→Int→LV→OV R}
 {states all:LV} {at_ left:Int} (hall:NmsS all) (hlen:all.length≤20)
 (hKo:∀s,StrsS 20 s→W Q K (Ko L at_ s1 z1 z2 q1 q2 q3 q4 z3 nm st fu vars ports timers states z4 a p c s left all)):
 ∀(j:Nat) (i:Int) (s:LV),(all.length:Int)-i<j→0≤i→i≤all.length→StrsS i.toNat s→
  W Q K (l16_2g G k Ko j i L at_ s1 z1 z2 q1 q2 q3 q4 z3 nm st fu vars ports timers states z4 a p c s left all)
 |0,i,s,a1,a2,a3,a4=>by omega
 |j+1,i,s,a1,a2,a3,a4=>by
  show W Q K (b16_2 G k (l16_2g G k Ko j) Ko i L at_ s1 z1 z2 q1 q2 q3 q4 z3 nm st fu vars ports timers states z4 a p c s left all)
  unfold b16_2
  have hs:=a4.1
  refine W_dec (fun h=> ?_) (fun h=>hKo s ⟨by omega,a4.2⟩)
  have e1:IntKind.i64.wrap (i+1)=i+1:=wrap_id (by omega)
  rw[e1]
  refine W_and (W_yes a2 (W_yes h ?_))
  refine W_nth (by omega) (fun v hv hm=> ?_)
  obtain⟨t,rfl,t1,t2⟩:=hall v hm
  refine W_asStr (W_yes (by omega) ?_)
  refine W_beqI (fun _=> ?_) (fun _=> ?_)
  ·refine W_and (W_yes a2 (W_yes h ?_))
   refine W_nth (by omega) (fun w hw _=> ?_)
   rw[hv]at hw;cases hw
   refine W_asStr (W_yes (by omega) ?_)
   exact chart_loop2 hall hlen hKo j (i+1) _ (by omega) (by omega) (by omega) (by rw[show(i+1).toNat=i.toNat+1 by omega];exact strs_snoc a4 t1)
  ·exact chart_loop2 hall hlen hKo j (i+1) _ (by omega) (by omega) (by omega) ⟨by omega,a4.2⟩
theorem chart_loop4(hF:FillOK 3 G){Ko:LV→Int→ByteArray→Int→Int→LV→LV→LV→LV→Int→ByteArray→Int→Int→LV→LV→LV→LV→Int→OV R}
 {s all:LV} {left:Int} (ha:StrsS 100 a) (hp:StrsS 100 p) (hc:StrsS 100 c) (hs:StrsS 100 s) (hall:NmsS all) (hlen:all.length≤20) {m:Nat} {M:LV}
 (hKo:∀states j,states.length=m→nmVL 3 states=M→(∀v∈states,StateS 2 3 v∧kindV v≤2)→RowS L j→W Q K (Ko L j s1 z1 z2 q1 q2 q3 q4 z3 nm st fu vars ports timers states z4)):
 ∀(B A:LV) (j:Nat) (i:Int),B.length<j→A.length+B.length≤4→(∀v∈A,StateS 2 3 v∧kindV v≤2)→(∀v∈B,StateS 0 3 v∧kindV v≤2)→A.length+B.length=m→nmVL 3 (A++B)=M→RowS L i→
  W Q K (l16_4g G k Ko j (A.length:Int) L i s1 z1 z2 q1 q2 q3 q4 z3 nm st fu vars ports timers (A++B) z4 a p c s left all)
 |B,A,0,i,a1,a2,a3,a4,a5,aM,a6=>by omega
 | [],A,j+1,i,a1,a2,a3,a4,a5,aM,a6=>by
   show W Q K (b16_4 G k (l16_4g G k Ko j) Ko (A.length:Int) L i s1 z1 z2 q1 q2 q3 q4 z3 nm st fu vars ports timers (A++[]) z4 a p c s left all)
   unfold b16_4
   refine W_no (by simp) ?_
   rw[List.append_nil]at aM ⊢
   exact hKo A i (by simpa using a5) aM a3 a6
 |b::B,A,j+1,i,a1,a2,a3,a4,a5,aM,a6=>by
  show W Q K (b16_4 G k (l16_4g G k Ko j) Ko (A.length:Int) L i s1 z1 z2 q1 q2 q3 q4 z3 nm st fu vars ports timers (A++b::B) z4 a p c s left all)
  unfold b16_4
  simp only[List.length_cons]at a1 a2 a5
  have hlt:(A.length:Int)<(((A++b::B).length:Nat):Int):=by simp;omega
  refine W_yes hlt (W_and (W_yes (by omega) (W_yes hlt ?_)))
  refine W_nth (by omega) (fun v hv _=> ?_)
  have hvb:v=b:=by simp at hv;exact hv.symm
  subst hvb
  have hb:=a4 v List.mem_cons_self
  have hbk:=hb
  obtain⟨⟨_,_,_,_,_,_,rfl,_⟩,_⟩:=hb
  refine W_asAgg ?_
  refine W_call (hF _ a p c s all L left i _ hbk.1 ha hp hc hs hall hlen a6) ?_
  rintro _ ⟨y,j',rfl,b1,b2,b3,b4⟩
  have b1':=b1
  have b5:nmVL 3 ((A++[y])++B)=M:=by rw[←aM];simp only[nmVL,List.flatMap_append,List.flatMap_cons,List.flatMap_nil,List.append_nil,List.append_assoc];rw[b4]
  obtain⟨_,_,_,_,_,_,rfl,_⟩:=b1
  repeat (with_reducible (first|(refine W_uI ?_)|(refine W_uS ?_)|(refine W_uL ?_)|(refine W_uA ?_)|(refine W_uB ?_)|(refine W_aI ?_)|(refine W_aL ?_)|(refine W_ca3 ?_)|(refine W_ce3 ?_)|(refine W_ca4 ?_)|(refine W_ce4 ?_)|(refine W_ca5 ?_)|(refine W_ce5 ?_)|(refine W_ca6 ?_)|(refine W_ce6 ?_)|(refine W_ca7 ?_)|(refine W_ce7 ?_)|(refine W_ca8 ?_)|(refine W_ce8 ?_)|(refine W_unCons ?_)|(refine W_unNil ?_)|(refine W_asInt ?_)|(refine W_asStr ?_)|(refine W_asSl ?_)|(refine W_asAgg ?_)|(refine W_kd ?_)|(refine W_z ?_)))
  rw[Int.toNat_natCast,set2]
  refine W_and (W_yes (by omega) (W_yes (by rw[List.length_set];exact hlt) ?_))
  refine W_nth (by rw[List.length_set];omega) (fun v _ _=> ?_)
  rw[wrap_id (n:=(A.length:Int)+1) (by omega)]
  have e:=chart_loop4 hF (left:=left) ha hp hc hs hall hlen hKo B (A++[_]) j j' (by omega) (by simp;omega) (mem_snoc a3 ⟨b1',by rw[b2];exact hbk.2⟩) (fun t ht=>a4 t (List.mem_cons_of_mem _ ht)) (by simp;omega) b5 b3
  simp only[List.append_assoc,List.singleton_append,List.length_append,List.length_cons,List.length_nil,Nat.zero_add,Int.natCast_add,Int.natCast_one]at e
  exact e
theorem sz1(c:UInt8):(⟨#[c]⟩:ByteArray).size≤10:=by show(1:Nat)≤10;omega
theorem chart_ok(hk:1000≤k)(hN:NextS G)(hNm:NamesS G)(hNd:NumdS G)(hPl:PlainS G)(hS:StOK 2 G)(hF:FillOK 3 G):ChartOK (fun _ args (K:LV→OV R)=>g16 G k args K):=by
 intro nm np L i K hnm h1 h2 hr
 show W _ K (f16 G k nm np L i K)
 unfold f16
 unfold NextS at hN;unfold NamesS at hNm;unfold NumdS at hNd;unfold PlainS at hPl
 refine W_call (hN _ _ _ _ (by omega) (by omega) hr) ?_
 rintro _ ⟨x1,i1,rfl,x11,x12,r1⟩
 refine W_uI (W_uI (W_unNil ?_))
 refine W_call (hN _ _ _ _ (by omega) (by omega) r1) ?_
 rintro _ ⟨x2,i2,rfl,x21,x22,r2⟩
 refine W_uI (W_uI (W_unNil ?_))
 refine W_call (hNm _ _ _ (sz1 _) x21 (by omega)) ?_
 rintro _ ⟨l1,rfl,hl1⟩
 refine W_uL (W_unNil ?_)
 refine W_call (hNm _ _ _ (sz1 _) h1 h2) ?_
 rintro _ ⟨l2,rfl,hl2⟩
 refine W_uL (W_unNil ?_)
 refine W_call (hN _ _ _ _ (by omega) (by omega) r2) ?_
 rintro _ ⟨x3,i3,rfl,x31,x32,r3⟩
 refine W_uI (W_uI (W_unNil ?_))
 refine W_call (hNm _ _ _ (sz1 _) x31 (by omega)) ?_
 rintro _ ⟨l3,rfl,hl3⟩
 refine W_uL (W_unNil ?_)
 refine W_call (hN _ _ _ _ (by omega) (by omega) r3) ?_
 rintro _ ⟨x4,i4,rfl,x41,x42,r4⟩
 refine W_uI (W_uI (W_unNil ?_))
 refine W_call (hN _ _ _ _ (by omega) (by omega) r4) ?_
 rintro _ ⟨x5,i5,rfl,x51,x52,r5⟩
 refine W_uI (W_uI (W_unNil ?_))
 refine W_and (W_yes (by omega) (W_yes (by omega) ?_))
 refine W_nth (by simp;omega) (fun v _ hv=> ?_)
 have hv2:∃fu,v= .int .i64 fu∧4≤fu∧fu≤200:=by
  simp only[List.mem_cons,List.not_mem_nil,or_false]at hv
  rcases hv with rfl|rfl|rfl|rfl<;>exact⟨_,rfl,by omega,by omega⟩
 obtain⟨fu,rfl,fu1,fu2⟩:=hv2
 refine W_aI ?_
 refine W_call (hNd _ _ _ _ hl1 r5) ?_
 rintro _ ⟨v1,i6,rfl,hv1,r6⟩
 refine W_uL (W_uI (W_unNil ?_))
 refine W_call (hPl _ _ hl2) ?_
 rintro _ ⟨v2,rfl,hv2⟩
 refine W_uL (W_unNil ?_)
 refine W_call (hPl _ _ hl3) ?_
 rintro _ ⟨v3,rfl,hv3⟩
 refine W_uL (W_unNil ?_)
 refine W_call (hN _ _ _ _ (by omega) (by omega) r6) ?_
 rintro _ ⟨x7,i7,rfl,x71,x72,r7⟩
 refine W_uI (W_uI (W_unNil ?_))
 have e1:IntKind.i64.wrap (1+x7)=1+x7:=wrap_id (by omega)
 have e2:IntKind.i64.wrap (2+x1)=2+x1:=wrap_id (by omega)
 have e3:IntKind.i64.wrap (2+x4)=2+x4:=wrap_id (by omega)
 rw[e1,e2,e3]
 unfold l16_0
 refine chart_loop0 (T:=2+x1) hS (by omega) ?_ k _ _ _ _ _ ⟨rfl,fun i v h=>by simp at h⟩ (by omega) (by omega) (by simp;omega) (fun _=>⟨by omega,by omega⟩) (by omega) (by simp) (by intro v hv;simp at hv) r7 (by simp)
 intro states j left all c0 c1 c2 c3 c4 c5 c6 c7
 unfold l16_2
 refine chart_loop2 c6 (by omega) ?_ k 0 [] (by omega) (by omega) (by omega) ⟨by simp,by simp⟩
 intro s hs
 unfold l16_4
 refine chart_loop4 (A:=[]) (m:=states.length) (M:=nmVL 3 states) hF hl1 hl2 hl3 ⟨by have:=hs.1;omega,hs.2⟩ c6 (by omega) ?_ states k j (by omega) (by simp;omega) (by simp) c3 (by simp) rfl c7
 intro states' j' d1 dM d2 d3
 exact W_ret ⟨_,_,rfl,⟨nm,_,fu,v1,v2,v3,states',rfl,hnm,by omega,by omega,fu1,fu2,hv1,hv2,hv3,by omega,fun h=>c2 (List.eq_nil_of_length_eq_zero (by rw[←d1,h];rfl)),d2,by have:=nmVL_len (d:=3) (l:=states');rw[dM,c0.1]at this;omega,by rw[dM,c0.1];exact c0.2⟩,d3⟩
end
section
variable {R : Type} {G : ORC R} {k : Nat} {K : LV → OV R}
def KindOK(G:ORC R):Prop:=∀(v:V) (m d:Nat) (K:LV→OV R),StateS m d v→W (fun o=>o=[.int .i64 (ndKind v)]) K (G 68 [v] K)
theorem kind_ok:KindOK (fun _ args (K:LV→OV R)=>g68 G k args K):=by
 intro v m d K hv
 cases d with
 |zero=>exact hv.elim
 |succ d=>
 obtain⟨kind,nm,en,ex,tr,kids,rfl,_⟩:=hv
 show W _ K (f68 G k kind nm en ex tr kids 0 K)
 unfold f68
 have e:ndKind (.agg [.int .i64 kind,.str nm,.sl 8 en,.sl 8 ex,.sl 5 tr,.sl 7 kids,.int .i64 0])=if kind=3 then 4 else if kind=4 then 5 else if kind=2 then 3 else if kids.length=0 then 1 else 2:=rfl
 rw[e]
 refine W_beqI (fun h=> ?_) (fun h=> ?_)
 ·exact W_ret (by rw[if_pos h])
 refine W_beqI (fun h1=> ?_) (fun h1=> ?_)
 ·exact W_ret (by rw[if_neg h,if_pos h1])
 refine W_beqI (fun h2=> ?_) (fun h2=> ?_)
 ·exact W_ret (by rw[if_neg h,if_neg h1,if_pos h2])
 refine W_beqI (fun h3=> ?_) (fun h3=> ?_)
 ·exact W_ret (by rw[if_neg h,if_neg h1,if_neg h2,if_pos (by omega)])
 ·exact W_ret (by rw[if_neg h,if_neg h1,if_neg h2,if_neg (by omega)])
def IsStOK(G:ORC R):Prop:=∀(n:Nd) (K:LV→OV R),W (fun o=>o=[.bool (decide (n.kind≤3))]) K (G 46 [n.v] K)
theorem isst_ok:IsStOK (fun _ args (K:LV→OV R)=>g46 G k args K):=by
 intro n K
 show W _ K (f46 G k n.kind n.parent n.last n.init n.entry n.exit n.name K)
 unfold f46
 exact W_ret rfl
def PutOK(d:Nat)(G:ORC R):Prop:=∀(l:List Nd) (kids:LV) (up:Nat) (K:LV→OV R),(∀s∈kids,StateS 2 d s)→(∀s r,kids=s::r→kindV s≤2)→up<l.length→l.length+nszL d kids≤1000→
 W (fun o=>o=[.sl 7 ((fixup l up l.length kids++forest d up l.length kids).map Nd.v)]) K (G 51 [.sl 7 (l.map Nd.v),.sl 7 kids,.int .i64 up] K)
theorem fixup_one{P:List Nd}{nd:Nd}{n:Nat}{s:V}{kids:LV}(hn:P.length=n)(hi:nd.init= -1)(hk:nd.kind=ndKind s)(hs:stKids s=kids):
 fixup (P++[nd]) n (n+1) kids=P++[{nd with init:=if ndKind s=2 then(n:Int)+1 else-1}]:=by
 subst hn
 unfold fixup
 cases kids with
 |nil=>
  have h2:ndKind s≠2:=by unfold ndKind;rw[hs];simp;omega
  simp only[if_neg h2]
  rw[←hi]
 |cons a r=>
  simp only[List.getElem?_append_right (Nat.le_refl _),Nat.sub_self,List.getElem?_cons_zero]
  by_cases h2:ndKind s=2
  ·rw[if_pos ⟨by omega,by omega⟩,if_pos h2];simp
  ·rw[if_neg (by omega),if_neg h2,←hi]
theorem put_loop{d:Nat}(hKd:KindOK G)(hSt:IsStOK G)(hP:∀d',d=d'+1→PutOK d' G){Q:LV→Prop}{K:LV→OV R}{Ko:LV→OV R}{l0:List Nd}{kids:LV}{up:Nat}
 (hk:∀s∈kids,StateS 2 d s) (hh:∀s r,kids=s::r→kindV s≤2) (hup:up<l0.length) (hsz:l0.length+nszL d kids≤1000)
 (hKo:W Q K (Ko ((fixup l0 up l0.length kids++forest d up l0.length kids).map Nd.v))):
 ∀(B A:LV) (j:Nat),kids=A++B→B.length<j→W Q K (l51_0g G k Ko j ((fixup l0 up l0.length A++forest d up l0.length A).map Nd.v) (A++B) up A.length)
 |B,A,0,h1,h2=>by omega
 | [],A,j+1,h1,h2=>by
   show W Q K (b51_0 G k (l51_0g G k Ko j) Ko ((fixup l0 up l0.length A++forest d up l0.length A).map Nd.v) (A++[]) up A.length)
   unfold b51_0
   refine W_no (by simp) ?_
   rw[List.append_nil]at h1
   rw[←h1];exact hKo
 |b::B,A,j+1,h1,h2=>by
  show W Q K (b51_0 G k (l51_0g G k Ko j) Ko ((fixup l0 up l0.length A++forest d up l0.length A).map Nd.v) (A++b::B) up A.length)
  unfold b51_0
  have hb:StateS 2 d b:=hk b (by rw[h1];simp)
  have hbk:=hb
  cases d with
  |zero=>exact hb.elim
  |succ d=>
  simp only[List.length_cons]at h2
  have hAl:=nszL_len (d:=d) (l:=A)
  have hnsz:nszL (d+1) kids=nszL (d+1) A+(1+nszL d (stKids b)+nszL (d+1) B):=by rw[h1,nszL_app,nszL_cons]
  obtain⟨kind,nm,en,ex,tr,kb,rfl,x1,x2,x3,x4,x5,x6,x7,x8,x9,x10,x11,x12,x13⟩:=hb
  have hkb:stKids (.agg [.int .i64 kind,.str nm,.sl 8 en,.sl 8 ex,.sl 5 tr,.sl 7 kb,.int .i64 0])=kb:=rfl
  have hnb:stName (.agg [.int .i64 kind,.str nm,.sl 8 en,.sl 8 ex,.sl 5 tr,.sl 7 kb,.int .i64 0])=nm:=rfl
  have hkk:kindV (.agg [.int .i64 kind,.str nm,.sl 8 en,.sl 8 ex,.sl 5 tr,.sl 7 kb,.int .i64 0])=kind:=rfl
  generalize hbe:(V.agg [.int .i64 kind,.str nm,.sl 8 en,.sl 8 ex,.sl 5 tr,.sl 7 kb,.int .i64 0])=b at*
  have hcl:(fixup l0 up l0.length A++forest (d+1) up l0.length A).length=l0.length+nszL (d+1) A:=by rw[List.length_append,fixup_len,forest_len]
  have hlt:(A.length:Int)<(((A++b::B).length:Nat):Int):=by simp;omega
  have hnthb:∀v,(A++b::B)[Int.toNat (A.length:Int)]? =some v→v=b:=fun v hv=>by simp at hv;exact hv.symm
  refine W_yes hlt (W_and (W_yes (by omega) (W_yes hlt ?_)))
  refine W_nth (by omega) (fun v hv _=> ?_)
  rw[hnthb v hv,←hbe]
  refine W_asAgg ?_
  rw[hbe]
  refine W_call (hKd b 2 (d+1) _ hbk) ?_
  rintro _ rfl
  refine W_uI (W_unNil ?_)
  refine W_and (W_yes (by omega) (W_yes hlt ?_))
  refine W_nth (by omega) (fun v hv _=> ?_)
  rw[hnthb v hv,←hbe]
  refine W_ca7 (W_asStr ?_)
  rw[hbe]
  generalize hcur:fixup l0 up l0.length A++forest (d+1) up l0.length A=cur at*
  generalize hn0:cur.length=n at*
  have hnd:List.map Nd.v cur++[.agg [.int .i64 (ndKind b),.int .i64 (up:Int),.int .i64 0,.int .i64 (-1),.int .i64 (-1),.int .i64 (-1),.str nm]]=(cur++[(⟨ndKind b,up,0,-1,-1,-1,nm⟩:Nd)]).map Nd.v:=by rw[List.map_append];rfl
  rw[hnd]
  refine W_yes (by rw[List.length_map];omega) ?_
  simp only[List.length_map,hn0,List.length_append,List.length_cons,List.length_nil]
  have hupn:up<n:=by omega
  refine W_and (W_yes (by omega) (W_yes (by omega) ?_))
  refine W_nthN (by simp;omega) (fun n1 hn1=>W_nd ?_)
  refine W_ce7 (W_aI ?_)
  have hn1':cur[up]? =some n1:=by
   rw[Int.toNat_natCast,List.getElem?_append_left (by omega)]at hn1;exact hn1
  have hcur1:A=[]→cur=l0:=fun h=>by rw[←hcur,h,fixup_nil];simp[forest]
  have hcur2:A≠[]→¬(n1.init<0∧n1.kind=2):=by
   intro hA hc
   rw[←hcur,List.getElem?_append_left (by rw[fixup_len];exact hup)]at hn1'
   cases A with
   |nil=>exact hA rfl
   |cons a r=>
    have e0:l0[up]? =some l0[up]:=List.getElem?_eq_getElem hup
    unfold fixup at hn1'
    simp only[e0]at hn1'
    by_cases hq:l0[up].init<0∧l0[up].kind=2
    ·rw[if_pos hq,List.getElem?_set_self hup]at hn1'
     cases hn1'
     have:=hc.1
     simp at this;omega
    ·rw[if_neg hq,e0]at hn1'
     cases hn1';exact hq hc
  have hfx:fixup l0 up l0.length (A++[b])++forest (d+1) up l0.length A=if n1.init<0∧n1.kind=2 then cur.set up {n1 with init:=n}else cur:=by
   by_cases hA:A=[]
   ·have hc:=hcur1 hA
    subst hA
    have hn00:n=l0.length:=by rw[←hn0,hc]
    rw[←hn00]
    rw[hc]at hn1' ⊢
    unfold fixup
    simp only[List.nil_append,hn1']
    rw[show forest (d+1) (up:Int) n []=[]by rw[forest],List.append_nil]
   ·rw[if_neg (hcur2 hA),←hcur]
    congr 1
    unfold fixup
    cases A with
    |nil=>exact absurd rfl hA
    |cons a r=>cases l0[up]? <;>rfl
  have fin:∀L2:List Nd,L2=(fixup l0 up l0.length (A++[b])++forest (d+1) up l0.length A)++[(⟨ndKind b,up,0,-1,-1,-1,nm⟩:Nd)]→∀(n2:Nd) (len:Int),len=((fixup L2 n (n+1) kb++forest d n (n+1) kb).length:Int)-1→(fixup L2 n (n+1) kb++forest d n (n+1) kb)[n]? =some n2→
   (fixup L2 n (n+1) kb++forest d n (n+1) kb).set n {n2 with last:=len}=fixup l0 up l0.length (A++[b])++forest (d+1) up l0.length (A++[b]):=by
   intro L2 hL2 n2 len hlen hn2
   have hPl:(fixup l0 up l0.length (A++[b])++forest (d+1) up l0.length A).length=n:=by rw[List.length_append,fixup_len,forest_len];omega
   generalize hPe:fixup l0 up l0.length (A++[b])++forest (d+1) up l0.length A=P at*
   rw[hL2]at hn2 hlen ⊢
   rw[fixup_one hPl rfl rfl hkb]at hn2 hlen ⊢
   rw[List.append_assoc,List.getElem?_append_right (by omega)]at hn2
   rw[hPl,Nat.sub_self]at hn2
   simp only[List.cons_append,List.nil_append,List.getElem?_cons_zero,Option.some.injEq]at hn2
   rw[List.append_assoc,←hPl,List.set_append_right _ _ (Nat.le_refl _),Nat.sub_self]
   simp only[List.cons_append,List.nil_append,List.set_cons_zero]
   rw[forest_app,←List.append_assoc,hPe]
   congr 1
   rw[forest,hkb,hnb,show forest (d+1) (up:Int) (l0.length+nszL (d+1) A+1+nszL d kb) []=[]by rw[forest],List.append_nil]
   have hnn:l0.length+nszL (d+1) A=n:=by omega
   rw[hnn,←hn2,hPl]
   congr 1
   rw[hlen]
   simp only[List.length_append,List.length_cons,List.length_nil,forest_len,hPl]
   congr 1
   omega
  have rest:∀(L2:List Nd),L2=(fixup l0 up l0.length (A++[b])++forest (d+1) up l0.length A)++[(⟨ndKind b,up,0,-1,-1,-1,nm⟩:Nd)]→∀F:LV→OV R,
   (∀n2:Nd,(fixup L2 n (n+1) kb++forest d n (n+1) kb)[n]? =some n2→W Q K (F [.sl 7 ((fixup L2 n (n+1) kb++forest d n (n+1) kb).map Nd.v)]))→W Q K (G 51 [.sl 7 (L2.map Nd.v),.sl 7 kb,.int .i64 (n:Int)] F):=by
   intro L2 hL2 F hF
   have hPl:(fixup l0 up l0.length (A++[b])++forest (d+1) up l0.length A).length=n:=by rw[List.length_append,fixup_len,forest_len];omega
   have hL2l:L2.length=n+1:=by rw[hL2,List.length_append,hPl];rfl
   have hsz2:n+1+nszL d kb≤1000:=by rw[hkb]at hnsz;omega
   refine W_call (hP d rfl L2 kb n F x10 x12 (by omega) (by omega)) ?_
   rintro _ rfl
   rw[hL2l]
   have hl:n<(fixup L2 n (n+1) kb++forest d n (n+1) kb).length:=by rw[List.length_append,fixup_len];omega
   exact hF _ (List.getElem?_eq_getElem hl)
  have hnm1:∀m:Nd,(cur++[(⟨ndKind b,up,0,-1,-1,-1,nm⟩:Nd)])[Int.toNat (up:Int)]? =some m→m=n1:=fun m hm=>by rw[hn1]at hm;cases hm;rfl
  generalize hPe:fixup l0 up l0.length (A++[b])++forest (d+1) up l0.length A=P at hfx rest fin
  refine W_dec (fun hi=> ?_) (fun hi=> ?_)
  ·refine W_and (W_yes (by omega) (W_yes (by omega) ?_))
   refine W_nthN (by simp;omega) (fun m hm=>W_nd ?_)
   rw[hnm1 m hm]
   refine W_ce7 (W_aI ?_)
   refine W_beqI (fun hk2=> ?_) (fun hk2=> ?_)
   ·have hA:A=[]:=Classical.byContradiction fun h=>hcur2 h ⟨hi,hk2⟩
    have hbk2:kindV b≤2:=hh b B (by rw[h1,hA];rfl)
    have hnk:ndKind b≤3:=by unfold ndKind;split;omega;split;omega;split;omega;split<;>omega
    rw[if_pos ⟨hi,hk2⟩]at hfx
    refine W_and (W_yes (by omega) (W_yes (by omega) ?_))
    refine W_nthN (by simp;omega) (fun m hm=>W_nd ?_)
    have hm2:m=⟨ndKind b,up,0,-1,-1,-1,nm⟩:=by
     rw[Int.toNat_natCast,List.getElem?_append_right (by omega),hn0,Nat.sub_self]at hm
     simp at hm;exact hm.symm
    subst hm2
    refine W_ce7 (W_aI (W_aI (W_aI (W_aI (W_aI (W_aI (W_asStr ?_)))))))
    refine W_call (hSt ⟨ndKind b,up,0,-1,-1,-1,nm⟩ _) ?_
    rintro _ rfl
    refine W_uB (W_unNil (W_yes hnk ?_))
    refine W_and (W_yes (by omega) (W_yes (by omega) ?_))
    refine W_nthN (by simp;omega) (fun m hm=>W_nd ?_)
    rw[hnm1 m hm]
    refine W_ce7 ?_
    have hset:List.set (List.map Nd.v (cur++[(⟨ndKind b,up,0,-1,-1,-1,nm⟩:Nd)])) (Int.toNat (up:Int)) (V.agg [.int .i64 n1.kind,.int .i64 n1.parent,.int .i64 n1.last,.int .i64 (n:Int),.int .i64 n1.entry,.int .i64 n1.exit,.str n1.name])=(P++[(⟨ndKind b,up,0,-1,-1,-1,nm⟩:Nd)]).map Nd.v:=by
     rw[Int.toNat_natCast,show V.agg [.int .i64 n1.kind,.int .i64 n1.parent,.int .i64 n1.last,.int .i64 (n:Int),.int .i64 n1.entry,.int .i64 n1.exit,.str n1.name]=({n1 with init:=n}:Nd).v from rfl,set_map,List.set_append_left _ _ (by omega),hfx]
    rw[hset]
    refine W_and (W_yes (by omega) (W_yes (by omega) ?_))
    refine W_nth (by omega) (fun v hv _=> ?_)
    rw[hnthb v hv,←hbe]
    refine W_ca7 (W_asSl ?_)
    rw[hbe]
    refine rest _ rfl _ (fun n2 hn2=> ?_)
    refine W_uL (W_unNil ?_)
    have hlen2:(fixup (P++[(⟨ndKind b,up,0,-1,-1,-1,nm⟩:Nd)]) n (n+1) kb++forest d n (n+1) kb).length=n+1+nszL d kb:=by
     have hPl:P.length=n:=by rw[←hPe,List.length_append,fixup_len,forest_len];omega
     rw[List.length_append,fixup_len,forest_len,List.length_append,hPl];rfl
    refine W_and (W_yes (by omega) (W_yes (by rw[List.length_map];omega) ?_))
    refine W_nthN (by rw[Int.toNat_natCast];omega) (fun m hm=>W_nd ?_)
    rw[Int.toNat_natCast]at hm
    refine W_ce7 ?_
    rw[hkb]at hnsz
    have hw:IntKind.i64.wrap (((List.map Nd.v (fixup (P++[(⟨ndKind b,up,0,-1,-1,-1,nm⟩:Nd)]) n (n+1) kb++forest d n (n+1) kb)).length:Int)-1)=((fixup (P++[(⟨ndKind b,up,0,-1,-1,-1,nm⟩:Nd)]) n (n+1) kb++forest d n (n+1) kb).length:Int)-1:=by
     rw[List.length_map];exact wrap_id (by omega)
    rw[hw,wrap_id (n:=(A.length:Int)+1) (by omega)]
    have hset2:∀len:Int,len=((fixup (P++[(⟨ndKind b,up,0,-1,-1,-1,nm⟩:Nd)]) n (n+1) kb++forest d n (n+1) kb).length:Int)-1→List.set (List.map Nd.v (fixup (P++[(⟨ndKind b,up,0,-1,-1,-1,nm⟩:Nd)]) n (n+1) kb++forest d n (n+1) kb)) (Int.toNat (n:Int)) (V.agg [.int .i64 m.kind,.int .i64 m.parent,.int .i64 len,.int .i64 m.init,.int .i64 m.entry,.int .i64 m.exit,.str m.name])=(fixup l0 up l0.length (A++[b])++forest (d+1) up l0.length (A++[b])).map Nd.v:=by
     intro len hlen
     rw[Int.toNat_natCast,show V.agg [.int .i64 m.kind,.int .i64 m.parent,.int .i64 len,.int .i64 m.init,.int .i64 m.entry,.int .i64 m.exit,.str m.name]=({m with last:=len}:Nd).v from rfl,set_map,fin _ rfl m len hlen hm]
    rw[hset2 _ rfl]
    have e:=put_loop hKd hSt hP hk hh hup hsz hKo B (A++[b]) j (by rw[h1];simp) (by omega)
    simp only[List.append_assoc,List.singleton_append,List.length_append,List.length_cons,List.length_nil,Nat.zero_add,Int.natCast_add,Int.natCast_one]at e
    exact e
   ·rw[if_neg (by rintro⟨_,h⟩;exact hk2 h)]at hfx
    rw[←hfx]
    refine W_and (W_yes (by omega) (W_yes (by omega) ?_))
    refine W_nth (by omega) (fun v hv _=> ?_)
    rw[hnthb v hv,←hbe]
    refine W_ca7 (W_asSl ?_)
    rw[hbe]
    refine rest _ rfl _ (fun n2 hn2=> ?_)
    refine W_uL (W_unNil ?_)
    have hlen2:(fixup (P++[(⟨ndKind b,up,0,-1,-1,-1,nm⟩:Nd)]) n (n+1) kb++forest d n (n+1) kb).length=n+1+nszL d kb:=by
     have hPl:P.length=n:=by rw[←hPe,List.length_append,fixup_len,forest_len];omega
     rw[List.length_append,fixup_len,forest_len,List.length_append,hPl];rfl
    refine W_and (W_yes (by omega) (W_yes (by rw[List.length_map];omega) ?_))
    refine W_nthN (by rw[Int.toNat_natCast];omega) (fun m hm=>W_nd ?_)
    rw[Int.toNat_natCast]at hm
    refine W_ce7 ?_
    rw[hkb]at hnsz
    have hw:IntKind.i64.wrap (((List.map Nd.v (fixup (P++[(⟨ndKind b,up,0,-1,-1,-1,nm⟩:Nd)]) n (n+1) kb++forest d n (n+1) kb)).length:Int)-1)=((fixup (P++[(⟨ndKind b,up,0,-1,-1,-1,nm⟩:Nd)]) n (n+1) kb++forest d n (n+1) kb).length:Int)-1:=by
     rw[List.length_map];exact wrap_id (by omega)
    rw[hw,wrap_id (n:=(A.length:Int)+1) (by omega)]
    have hset2:∀len:Int,len=((fixup (P++[(⟨ndKind b,up,0,-1,-1,-1,nm⟩:Nd)]) n (n+1) kb++forest d n (n+1) kb).length:Int)-1→List.set (List.map Nd.v (fixup (P++[(⟨ndKind b,up,0,-1,-1,-1,nm⟩:Nd)]) n (n+1) kb++forest d n (n+1) kb)) (Int.toNat (n:Int)) (V.agg [.int .i64 m.kind,.int .i64 m.parent,.int .i64 len,.int .i64 m.init,.int .i64 m.entry,.int .i64 m.exit,.str m.name])=(fixup l0 up l0.length (A++[b])++forest (d+1) up l0.length (A++[b])).map Nd.v:=by
     intro len hlen
     rw[Int.toNat_natCast,show V.agg [.int .i64 m.kind,.int .i64 m.parent,.int .i64 len,.int .i64 m.init,.int .i64 m.entry,.int .i64 m.exit,.str m.name]=({m with last:=len}:Nd).v from rfl,set_map,fin _ rfl m len hlen hm]
    rw[hset2 _ rfl]
    have e:=put_loop hKd hSt hP hk hh hup hsz hKo B (A++[b]) j (by rw[h1];simp) (by omega)
    simp only[List.append_assoc,List.singleton_append,List.length_append,List.length_cons,List.length_nil,Nat.zero_add,Int.natCast_add,Int.natCast_one]at e
    exact e
  ·rw[if_neg (by rintro⟨h,_⟩;exact hi h)]at hfx
   rw[←hfx]
   refine W_and (W_yes (by omega) (W_yes (by omega) ?_))
   refine W_nth (by omega) (fun v hv _=> ?_)
   rw[hnthb v hv,←hbe]
   refine W_ca7 (W_asSl ?_)
   rw[hbe]
   refine rest _ rfl _ (fun n2 hn2=> ?_)
   refine W_uL (W_unNil ?_)
   have hlen2:(fixup (P++[(⟨ndKind b,up,0,-1,-1,-1,nm⟩:Nd)]) n (n+1) kb++forest d n (n+1) kb).length=n+1+nszL d kb:=by
    have hPl:P.length=n:=by rw[←hPe,List.length_append,fixup_len,forest_len];omega
    rw[List.length_append,fixup_len,forest_len,List.length_append,hPl];rfl
   refine W_and (W_yes (by omega) (W_yes (by rw[List.length_map];omega) ?_))
   refine W_nthN (by rw[Int.toNat_natCast];omega) (fun m hm=>W_nd ?_)
   rw[Int.toNat_natCast]at hm
   refine W_ce7 ?_
   rw[hkb]at hnsz
   have hw:IntKind.i64.wrap (((List.map Nd.v (fixup (P++[(⟨ndKind b,up,0,-1,-1,-1,nm⟩:Nd)]) n (n+1) kb++forest d n (n+1) kb)).length:Int)-1)=((fixup (P++[(⟨ndKind b,up,0,-1,-1,-1,nm⟩:Nd)]) n (n+1) kb++forest d n (n+1) kb).length:Int)-1:=by
    rw[List.length_map];exact wrap_id (by omega)
   rw[hw,wrap_id (n:=(A.length:Int)+1) (by omega)]
   have hset2:∀len:Int,len=((fixup (P++[(⟨ndKind b,up,0,-1,-1,-1,nm⟩:Nd)]) n (n+1) kb++forest d n (n+1) kb).length:Int)-1→List.set (List.map Nd.v (fixup (P++[(⟨ndKind b,up,0,-1,-1,-1,nm⟩:Nd)]) n (n+1) kb++forest d n (n+1) kb)) (Int.toNat (n:Int)) (V.agg [.int .i64 m.kind,.int .i64 m.parent,.int .i64 len,.int .i64 m.init,.int .i64 m.entry,.int .i64 m.exit,.str m.name])=(fixup l0 up l0.length (A++[b])++forest (d+1) up l0.length (A++[b])).map Nd.v:=by
    intro len hlen
    rw[Int.toNat_natCast,show V.agg [.int .i64 m.kind,.int .i64 m.parent,.int .i64 len,.int .i64 m.init,.int .i64 m.entry,.int .i64 m.exit,.str m.name]=({m with last:=len}:Nd).v from rfl,set_map,fin _ rfl m len hlen hm]
   rw[hset2 _ rfl]
   have e:=put_loop hKd hSt hP hk hh hup hsz hKo B (A++[b]) j (by rw[h1];simp) (by omega)
   simp only[List.append_assoc,List.singleton_append,List.length_append,List.length_cons,List.length_nil,Nat.zero_add,Int.natCast_add,Int.natCast_one]at e
   exact e
theorem put_ok{d:Nat}(hk:10000≤k)(hKd:KindOK G)(hSt:IsStOK G)(hP:∀d',d=d'+1→PutOK d' G):PutOK d (fun _ args (K:LV→OV R)=>g51 G k args K):=by
 intro l kids up K h1 h2 h3 h4
 show W _ K (f51 G k (l.map Nd.v) kids up K)
 unfold f51 l51_0
 have hlen:kids.length≤nszL d kids∨kids=[]:=by
  cases d with
  |zero=>
   cases kids with
   |nil=>exact .inr rfl
   |cons a r=>exact(h1 a (by simp)).elim
  |succ d=>exact .inl nszL_len
 have hl2:kids.length<k:=by
  rcases hlen with h|h
  ·omega
  ·rw[h];simp;omega
 have e:=put_loop (Q:=fun o=>o=[.sl 7 ((fixup l up l.length kids++forest d up l.length kids).map Nd.v)]) (K:=K) (k:=k) (Ko:=fun yl=>K [.sl 7 yl]) hKd hSt hP h1 h2 h3 h4 (W_ret rfl) kids [] k rfl hl2
 rw[fixup_nil,List.nil_append]at e
 have hf:forest d (up:Int) l.length []=[]:=by cases d<;>rw[forest]
 rw[hf,List.append_nil]at e
 exact e
def NodesOK(G:ORC R):Prop:=∀(nm:ByteArray) (x y:Int) (a b c states:LV) (z:Int) (K:LV→OV R),(∀s∈states,StateS 2 3 s∧kindV s≤2)→nszL 3 states≤900→
 W (fun o=>o=[.sl 7 ((ndsOf states).map Nd.v)]) K (G 31 [.agg [.str nm,.int .i64 x,.int .i64 y,.sl 3 a,.sl 3 b,.sl 3 c,.sl 7 states,.int .i64 z]] K)
theorem nodes_ok(hP:PutOK 3 G):NodesOK (fun _ args (K:LV→OV R)=>g31 G k args K):=by
 intro nm x y a b c states z K h1 h2
 show W _ K (f31 G k nm x y a b c states z K)
 unfold f31
 refine W_call (hP [(⟨2,-1,0,-1,-1,-1,⟨#[]⟩⟩:Nd)] states 0 _ (fun s hs=>(h1 s hs).1) (fun s r e=>(h1 s (by rw[e];simp)).2) (by simp) (by simp;omega)) ?_
 rintro _ rfl
 refine W_uL (W_unNil ?_)
 have hl:(fixup [(⟨2,-1,0,-1,-1,-1,⟨#[]⟩⟩:Nd)] 0 1 states++forest 3 (0:Nat) 1 states).length=1+nszL 3 states:=by rw[List.length_append,fixup_len,forest_len];rfl
 simp only[List.length_cons,List.length_nil,Nat.zero_add,List.length_map,hl]
 have hl0:(0:Int)<((1+nszL 3 states:Nat):Int):=by omega
 refine W_yes (by omega) ?_
 refine W_nthN (by rw[hl];omega) (fun n hn=>W_nd ?_)
 refine W_ce7 ?_
 rw[wrap_id (by omega)]
 refine W_ret ?_
 have e:(fixup [(⟨2,-1,0,-1,-1,-1,⟨#[]⟩⟩:Nd)] 0 1 states++forest 3 (0:Nat) 1 states).set 0 {n with last:=((1+nszL 3 states:Nat):Int)-1}=ndsOf states:=by
  have hq:((1+nszL 3 states:Nat):Int)-1=(nszL 3 states:Nat):=by omega
  rw[hq]
  unfold ndsOf
  cases states with
  |nil=>
   rw[fixup_nil]at hn ⊢
   simp at hn;subst hn;rfl
  |cons s r=>
   have hf:fixup [(⟨2,-1,0,-1,-1,-1,⟨#[]⟩⟩:Nd)] 0 1 (s::r)=[⟨2,-1,0,1,-1,-1,⟨#[]⟩⟩]:=by unfold fixup;simp
   rw[hf]at hn ⊢
   simp at hn;subst hn;simp
 rw[←e,←set_map];rfl
end
section
variable {R : Type} {G : ORC R} {k : Nat} {K : LV → OV R}
def IsOK(G:ORC R):Prop:=∀(l:LV) (i:Int) (K:LV→OV R),W (fun o=>o=[.bool (decide (0≤i∧i<l.length))]) K (G 70 [.sl 7 l,.int .i64 i] K)
theorem is_ok:IsOK (fun _ args (K:LV→OV R)=>g70 G k args K):=by
 intro l i K
 show W _ K (f70 G k l i K)
 unfold f70
 refine W_dec (fun h=> ?_) (fun h=> ?_)
 ·exact W_ret (by congr 3;simp;omega)
 ·exact W_ret (by congr 2;symm;rw[decide_eq_false];omega)
def InOK(G:ORC R):Prop:=∀(l:List Nd) (a b:Int) (K:LV→OV R),W (fun o=>o=[.bool (inN l a b)]) K (G 65 [.sl 7 (l.map Nd.v),.int .i64 a,.int .i64 b] K)
theorem in_ok(hI:IsOK G):InOK (fun _ args (K:LV→OV R)=>g65 G k args K):=by
 intro l a b K
 show W _ K (f65 G k (l.map Nd.v) a b K)
 unfold f65
 unfold IsOK at hI
 have no:¬(0≤a∧a<l.length∧0≤b∧b<l.length∧a≥b)→inN l a b=false:=fun h=>by unfold inN;rw[decide_eq_false h];rfl
 refine W_call (hI _ _ _) ?_
 rintro _ rfl
 refine W_uB (W_unNil ?_)
 simp only[List.length_map]
 refine W_dec (fun h1=> ?_) (fun h1=>W_ret (by rw[no (by omega)]))
 refine W_call (hI _ _ _) ?_
 rintro _ rfl
 refine W_uB (W_unNil ?_)
 simp only[List.length_map]
 refine W_dec (fun h2=> ?_) (fun h2=>W_ret (by rw[no (by omega)]))
 refine W_dec (fun h3=> ?_) (fun h3=>W_ret (by rw[no (by omega)]))
 refine W_and (W_yes h2.1 (W_yes h2.2 ?_))
 refine W_nthN (by omega) (fun n hn=>W_nd ?_)
 refine W_ce7 (W_aI ?_)
 have e:inN l a b=decide (a≤n.last):=by
  unfold inN
  rw[decide_eq_true (show 0≤a∧a<l.length∧0≤b∧b<l.length∧a≥b from⟨h1.1,h1.2,h2.1,h2.2,h3⟩),hn];rfl
 exact W_ret (by rw[e])
def DomOK(G:ORC R):Prop:=∀(l:List Nd) (a b:Int) (K:LV→OV R),l.length≤1000→W (fun o=>o=[.int .i64 (domN l a b)]) K (G 54 [.sl 7 (l.map Nd.v),.int .i64 a,.int .i64 b] K)
theorem dom_no{l:List Nd}{a b:Int}(h:¬(0≤a∧a<l.length)∨¬(0≤b∧b<l.length)):∀i,domGo l a b i= -1
 |0=>rfl
 |i+1=>by
  unfold domGo
  have e:domAt l a b i=false:=by
   unfold domAt
   rcases h with h|h
   ·rw[show inN l a i=false by unfold inN;rw[decide_eq_false (by omega)];rfl];simp
   ·rw[show inN l b i=false by unfold inN;rw[decide_eq_false (by omega)];rfl];simp
  rw[if_neg (by rw[e];simp)]
  exact dom_no h i
theorem dom_loop(hI:InOK G){Q:LV→Prop}{K:LV→OV R}{Ko:Int→OV R}{l:List Nd}{a b:Int}(hl:l.length≤1000)
 (hKo:W Q K (Ko (domN l a b))):
 ∀(j i:Nat),l.length-i<j→i≤l.length→W Q K (l54_0g G k Ko j (l.map Nd.v) a b (domGo l a b i) i)
 |0,i,h1,h2=>by omega
 |j+1,i,h1,h2=>by
  show W Q K (b54_0 G k (l54_0g G k Ko j) Ko (l.map Nd.v) a b (domGo l a b i) i)
  unfold b54_0
  simp only[List.length_map]
  unfold InOK at hI
  refine W_dec (fun h=> ?_) (fun h=> ?_)
  ·have hi:i<l.length:=by omega
   have hgo:∀d,domGo l a b (i+1)=d→W Q K (l54_0g G k Ko j (l.map Nd.v) a b d (IntKind.i64.wrap ((i:Int)+1))):=by
    intro d hd
    rw[wrap_id (n:=(i:Int)+1) (by omega),←hd]
    exact dom_loop hI hl hKo j (i+1) (by omega) (by omega)
   have hN:domAt l a b i=false→domGo l a b (i+1)=domGo l a b i:=fun e=>by
    show(if domAt l a b i=true then(i:Int)else domGo l a b i)=_
    rw[if_neg (by rw[e];simp)]
   have hY:domAt l a b i=true→domGo l a b (i+1)=i:=fun e=>by
    show(if domAt l a b i=true then(i:Int)else domGo l a b i)=_
    rw[if_pos e]
   refine W_and (W_yes (by omega) (W_yes h ?_))
   refine W_nthN (by omega) (fun n hn=>W_nd ?_)
   rw[Int.toNat_natCast]at hn
   have hat:domAt l a b i=(decide (n.kind=2)&&decide ((i:Int)≠a)&&decide ((i:Int)≠b)&&inN l a i&&inN l b i):=by unfold domAt;rw[hn]
   refine W_ce7 (W_aI ?_)
   refine W_beqI (fun e1=> ?_) (fun e1=>hgo _ (hN (by rw[hat,decide_eq_false e1];rfl)))
   refine W_bool (fun e2=> ?_) (fun e2=>hgo _ (hN (by rw[hat];simp at e2;simp[e2])))
   refine W_bool (fun e3=> ?_) (fun e3=>hgo _ (hN (by rw[hat];simp at e3;simp[e3])))
   refine W_call (hI _ _ _ _) ?_
   rintro _ rfl
   refine W_uB (W_unNil ?_)
   refine W_bool (fun e4=> ?_) (fun e4=>hgo _ (hN (by rw[hat,e4];simp)))
   refine W_call (hI _ _ _ _) ?_
   rintro _ rfl
   refine W_uB (W_unNil ?_)
   refine W_bool (fun e5=> ?_) (fun e5=>hgo _ (hN (by rw[hat,e5];simp)))
   refine hgo _ (hY ?_)
   rw[hat,e4,e5,decide_eq_true e1]
   simp at e2 e3
   simp[e2,e3]
  ·have he:i=l.length:=by omega
   subst he
   exact hKo
theorem dom_ok(hk:10000≤k)(hIs:IsOK G)(hI:InOK G):DomOK (fun _ args (K:LV→OV R)=>g54 G k args K):=by
 intro l a b K hl
 show W _ K (f54 G k (l.map Nd.v) a b K)
 unfold f54
 unfold IsOK at hIs
 refine W_call (hIs _ _ _) ?_
 rintro _ rfl
 refine W_uB (W_unNil (W_not ?_))
 simp only[List.length_map]
 refine W_dec (fun h1=> ?_) (fun h1=>W_ret (by unfold domN;rw[dom_no (.inl h1)]))
 refine W_call (hIs _ _ _) ?_
 rintro _ rfl
 refine W_uB (W_unNil (W_not ?_))
 simp only[List.length_map]
 refine W_dec (fun h2=> ?_) (fun h2=>W_ret (by unfold domN;rw[dom_no (.inr h2)]))
 unfold l54_0
 exact dom_loop (Q:=fun o=>o=[.int .i64 (domN l a b)]) (K:=K) (Ko:=fun d=>K [.int .i64 d]) hI hl (W_ret rfl) k 0 (by omega) (by omega)
end
section
variable {R : Type} {G : ORC R} {k : Nat} {K : LV → OV R}
def RArg(G:ORC R):Prop:=∀(c x:LV) (N:Nms) (K:LV→OV R),(∀e∈x,ExprS 3 e)→N.ok→c.length+ce 3≤1000000→W (fun o=>o=[.sl 4 (c++cX N c.length x)]) K (G 81 [.sl 4 c,.sl 5 x,N.v] K)
theorem rarg_ok(hE:RX 3 G):RArg (fun _ args (K:LV→OV R)=>g81 G k args K):=by
 intro c x N K hx hN hm
 show W _ K (f81 G k c x N.a N.p N.t (N.nd.map Nd.v) K)
 unfold f81
 unfold RX at hE
 cases x with
 |nil=>exact W_eqY rfl (W_yes (by omega) (W_ret rfl))
 |cons e r=>
  have he:=hx e List.mem_cons_self
  have he':=he
  obtain⟨_,_,_,_,rfl,_⟩:=he
  refine W_eqN (by simp;omega) (W_yes (by simp) (W_nth0 (W_asAgg ?_)))
  refine W_call (hE c _ N _ he' hN hm) ?_
  rintro _ rfl
  exact W_uL (W_unNil (W_ret rfl))
def RAct(d:Nat)(G:ORC R):Prop:=∀(c:LV) (a:V) (N:Nms) (K:LV→OV R),ActS d a→N.ok→c.length+ca d≤1000000→W (fun o=>o=[.sl 4 (c++cA N d c.length a)]) K (G 80 [.sl 4 c,a,N.v] K)
def RBlk(d:Nat)(G:ORC R):Prop:=∀(c l:LV) (N:Nms) (K:LV→OV R),BlockS d l→N.ok→c.length+2*ca d≤1000000→W (fun o=>o=[.sl 4 (c++cR (cA N d) c.length l)]) K (G 75 [.sl 4 c,.sl 8 l,N.v] K)
theorem rblk_loop{d:Nat}(hA:RAct d G){Q:LV→Prop}{K:LV→OV R}{Ko:LV→OV R}{N:Nms}{l:LV}(hN:N.ok)(hl:BlockS d l){out:LV}(hKo:W Q K (Ko out)):
 ∀(B A:LV) (j:Nat) (c:LV),l=A++B→B.length<j→out=c++cR (cA N d) c.length B→c.length+B.length*ca d≤1000000→W Q K (l75_0g G k Ko j c l A.length N.a N.p N.t (N.nd.map Nd.v))
 |B,A,0,c,h1,h2,h3,h4=>by omega
 | [],A,j+1,c,h1,h2,h3,h4=>by
   show W Q K (b75_0 G k (l75_0g G k Ko j) Ko c l A.length N.a N.p N.t (N.nd.map Nd.v))
   unfold b75_0
   rw[List.append_nil]at h1
   subst h1
   refine W_no (by omega) ?_
   rw[h3]at hKo
   simpa [cR]using hKo
 |b::B,A,j+1,c,h1,h2,h3,h4=>by
  show W Q K (b75_0 G k (l75_0g G k Ko j) Ko c l A.length N.a N.p N.t (N.nd.map Nd.v))
  unfold b75_0
  have hb:=hl.2 b (by rw[h1];simp)
  have lb:=cA_len (N:=N) (at_:=c.length) hb
  have hlen:l.length=A.length+(B.length+1):=by rw[h1];simp
  have h2l:=hl.1
  have hget:l[((A.length:Nat):Int).toNat]? =some b:=by rw[Int.toNat_natCast,h1];simp
  have hA':=hA
  unfold RAct at hA'
  have hb':=hb
  cases d with
  |zero=>exact hb.elim
  |succ d=>
  obtain⟨kind,nm,ev,x,n,th,el,rfl,_⟩:=hb
  rw[List.length_cons,Nat.succ_mul]at h4
  refine W_yes (by omega) (W_at (by omega) hget (W_asAgg ?_))
  refine W_call (hA' c _ N _ hb' hN (by omega)) ?_
  rintro _ rfl
  refine W_uL (W_unNil ?_)
  rw[wrap_id (n:=(A.length:Int)+1) (by omega)]
  have:=rblk_loop hA hN hl hKo B (A++[V.agg [.int .i64 kind,.str nm,.str ev,.sl 5 x,.int .i64 n,.sl 8 th,.sl 8 el,.int .i64 0]]) j (c++cA N (d+1) c.length (V.agg [.int .i64 kind,.str nm,.str ev,.sl 5 x,.int .i64 n,.sl 8 th,.sl 8 el,.int .i64 0])) (by rw[h1];simp) (by simp at h2;omega) (by rw[h3,cR,List.length_append,List.append_assoc]) (by rw[List.length_append];omega)
  simpa using this
theorem rblk_ok{d:Nat}(hk:1000≤k)(hA:RAct d G):RBlk d (fun _ args (K:LV→OV R)=>g75 G k args K):=by
 intro c l N K hl hN hm
 show W _ K (f75 G k c l N.a N.p N.t (N.nd.map Nd.v) K)
 unfold f75 l75_0
 have h2l:=hl.1
 exact rblk_loop (Q:=fun o=>o=[.sl 4 (c++cR (cA N d) c.length l)]) (K:=K) (Ko:=fun yl=>K [.sl 4 yl]) (out:=c++cR (cA N d) c.length l) hA hN hl (W_ret rfl) l [] k c rfl (by omega) rfl (by have:l.length*ca d≤2*ca d:=Nat.mul_le_mul_right _ hl.1;omega)
theorem ract_ok{d:Nat}(hPl:PlX 76 G)(hE:RX 3 G)(hA:RArg G)(hB:RBlk d G):RAct (d+1) (fun _ args (K:LV→OV R)=>g80 G k args K):=by
 intro c a N K ha hN hm
 have hlen:=cA_len (N:=N) (at_:=c.length) ha
 obtain⟨kind,nm,ev,x,n,th,el,rfl,x1,x2,x3,x4,x5,x6,x7,x8,x9,x10,x11,x12⟩:=ha
 show W _ K (f80 G k c kind nm ev x n th el 0 N.a N.p N.t (N.nd.map Nd.v) K)
 unfold f80
 have hca:ca (d+1)=ce 3+2+4*ca d:=rfl
 have hth:BlockS d th:=⟨x9,x11⟩
 have hel:BlockS d el:=⟨x10,x12⟩
 unfold PlX at hPl;unfold RX at hE;unfold RArg at hA;unfold RBlk at hB
 have lx:=cX_len (N:=N) (at_:=c.length) x7
 have lt:=fun q=>cBl_len (N:=N) (at_:=q) hth
 have le:=fun q=>cBl_len (N:=N) (at_:=q) hel
 refine W_beqI (fun h=> ?_) (fun h1=> ?_)
 ·refine W_call (hA c x N _ x7 hN (by omega)) ?_
  rintro _ rfl
  refine W_uL (W_unNil ?_)
  refine W_call (hPl _ _ _ hN.1) ?_
  rintro _ rfl
  refine W_uI (W_unNil (W_yes (by(first|(simp only[List.length_append,List.length_cons,List.length_nil];done)|(simp only[List.length_append,List.length_cons,List.length_nil];omega))) (W_ret ?_)))
  conv=>rhs;unfold cA
  rw[if_pos h,List.append_assoc];rfl
 refine W_beqI (fun h=> ?_) (fun h2=> ?_)
 ·refine W_call (hA c x N _ x7 hN (by omega)) ?_
  rintro _ rfl
  refine W_uL (W_unNil (W_yes (by(first|(simp only[List.length_append,List.length_cons,List.length_nil];done)|(simp only[List.length_append,List.length_cons,List.length_nil];omega))) (W_ret ?_)))
  conv=>rhs;unfold cA
  rw[if_neg h1,if_pos h,List.append_assoc];rfl
 refine W_beqI (fun h=> ?_) (fun h3=> ?_)
 ·refine W_call (hA c x N _ x7 hN (by omega)) ?_
  rintro _ rfl
  refine W_uL (W_unNil ?_)
  refine W_call (hPl _ _ _ hN.2.1) ?_
  rintro _ rfl
  refine W_uI (W_unNil (W_yes (by(first|(simp only[List.length_append,List.length_cons,List.length_nil];done)|(simp only[List.length_append,List.length_cons,List.length_nil];omega))) (W_ret ?_)))
  conv=>rhs;unfold cA
  rw[if_neg h1,if_neg h2,if_pos h,List.append_assoc];rfl
 refine W_beqI (fun h=> ?_) (fun h4=> ?_)
 ·refine W_call (hA c x N _ x7 hN (by omega)) ?_
  rintro _ rfl
  refine W_uL (W_unNil ?_)
  refine W_call (hPl _ _ _ hN.2.2.1) ?_
  rintro _ rfl
  refine W_uI (W_unNil (W_yes (by(first|(simp only[List.length_append,List.length_cons,List.length_nil];done)|(simp only[List.length_append,List.length_cons,List.length_nil];omega))) (W_ret ?_)))
  conv=>rhs;unfold cA
  rw[if_neg h1,if_neg h2,if_neg h3,if_pos h,List.append_assoc];rfl
 refine W_beqI (fun h=> ?_) (fun h5=> ?_)
 ·refine W_call (hPl _ _ _ hN.2.2.1) ?_
  rintro _ rfl
  refine W_uI (W_unNil (W_yes (by omega) (W_ret ?_)))
  conv=>rhs;unfold cA
  rw[if_neg h1,if_neg h2,if_neg h3,if_neg h4,if_pos h];rfl
 refine W_beqI (fun h=> ?_) (fun h7=> ?_)
 ·refine W_yes (by omega) ?_
  refine W_call (hB _ th N _ hth hN (by(first|(simp only[List.length_append,List.length_cons,List.length_nil];done)|(simp only[List.length_append,List.length_cons,List.length_nil];omega)))) ?_
  rintro _ rfl
  have hl:∀z:V,(c++[z]).length=c.length+1:=fun z=>by simp
  rw[hl]
  have lt:=lt (c.length+1)
  generalize hBe:cR (cA N d) (c.length+1) th=B at lt ⊢
  refine W_uL (W_unNil (W_yes (by(first|(simp only[List.length_append,List.length_cons,List.length_nil];done)|(simp only[List.length_append,List.length_cons,List.length_nil];omega))) ?_))
  have e1:∀z w:V,c++[z]++B++[w]=c++z::(B++[w]):=fun z w=>by simp
  rw[e1]
  refine W_at (by omega) (get_at (by(first|(simp only[Int.toNat_natCast,List.length_append,List.length_cons,List.length_nil,List.length_set];done)|(simp only[Int.toNat_natCast,List.length_append,List.length_cons,List.length_nil,List.length_set];omega)))) (W_ca4 ?_)
  rw[set_at (by(first|(simp only[Int.toNat_natCast,List.length_append,List.length_cons,List.length_nil,List.length_set];done)|(simp only[Int.toNat_natCast,List.length_append,List.length_cons,List.length_nil,List.length_set];omega)))]
  refine W_ret ?_
  conv=>rhs;unfold cA
  rw[if_neg h1,if_neg h2,if_neg h3,if_neg h4,if_neg h5,if_pos h,hBe]
  have e2:∀z w:V,(c++z::(B++[w])).length=c.length+B.length+2:=fun z w=>by simp;omega
  rw[e2];rfl
 have h6:kind=6:=by omega
 have hx1:=x8 h6
 obtain⟨e,rfl⟩:∃e,x=[e]:=by
  match x,hx1 with
  | [e],_=>exact⟨e,rfl⟩
 have he:=x7 e (by simp)
 have he':=he
 refine W_yes (by simp) (W_nth0 ?_)
 have fin:cA N (d+1) c.length (V.agg [.int .i64 kind,.str nm,.str ev,.sl 5 [e],.int .i64 n,.sl 8 th,.sl 8 el,.int .i64 0])=chX (cA N d) c.length (cE N 3 c.length e) th el:=by
  conv=>lhs;unfold cA
  rw[if_neg h1,if_neg h2,if_neg h3,if_neg h4,if_neg h5,if_neg h7];rfl
 have lx':(cE N 3 c.length e).length≤ce 3:=cE_len he
 rw[fin]
 obtain⟨_,_,_,_,rfl,_⟩:=he
 refine W_asAgg ?_
 refine W_call (hE c _ N _ he' hN (by omega)) ?_
 rintro _ rfl
 generalize hE0:cE N 3 c.length _=E at lx' ⊢
 refine W_uL (W_unNil (W_yes (by(first|(simp only[List.length_append,List.length_cons,List.length_nil];done)|(simp only[List.length_append,List.length_cons,List.length_nil];omega))) ?_))
 refine W_call (hB _ th N _ hth hN (by(first|(simp only[List.length_append,List.length_cons,List.length_nil];done)|(simp only[List.length_append,List.length_cons,List.length_nil];omega)))) ?_
 rintro _ rfl
 have hl:∀z:V,(c++E++[z]).length=c.length+E.length+1:=fun z=>by simp;omega
 rw[hl]
 have lt:=lt (c.length+E.length+1)
 generalize hBe:cR (cA N d) (c.length+E.length+1) th=B at lt ⊢
 refine W_uL (W_unNil ?_)
 cases el with
 |nil=>
  refine W_no (by simp) ?_
  have e1:∀z:V,c++E++[z]++B=(c++E)++z::B:=fun z=>by simp
  rw[e1]
  refine W_at (by omega) (get_at (by(first|(simp only[Int.toNat_natCast,List.length_append,List.length_cons,List.length_nil,List.length_set];done)|(simp only[Int.toNat_natCast,List.length_append,List.length_cons,List.length_nil,List.length_set];omega)))) (W_ca4 ?_)
  rw[set_at (L:=c++E) (by(first|(simp only[Int.toNat_natCast,List.length_append,List.length_cons,List.length_nil,List.length_set];done)|(simp only[Int.toNat_natCast,List.length_append,List.length_cons,List.length_nil,List.length_set];omega)))]
  refine W_ret ?_
  have e2:∀z:V,((c++E)++z::B).length=c.length+E.length+1+B.length:=fun z=>by simp;omega
  rw[e2]
  rw[chX,hBe,ifX,List.append_assoc];rfl
 |cons e0 r0=>
  have le:=le (c.length+E.length+1+B.length+1)
  rw[chX,hBe]
  refine W_yes (by simp) ?_
  refine W_yes (by(first|(simp only[List.length_append,List.length_cons,List.length_nil];done)|(simp only[List.length_append,List.length_cons,List.length_nil];omega))) ?_
  have e1:∀z w:V,c++E++[z]++B++[w]=(c++E)++z::(B++[w]):=fun z w=>by simp
  rw[e1]
  refine W_at (by omega) (get_at (by(first|(simp only[Int.toNat_natCast,List.length_append,List.length_cons,List.length_nil,List.length_set];done)|(simp only[Int.toNat_natCast,List.length_append,List.length_cons,List.length_nil,List.length_set];omega)))) (W_ca4 ?_)
  rw[set_at (L:=c++E) (by(first|(simp only[Int.toNat_natCast,List.length_append,List.length_cons,List.length_nil,List.length_set];done)|(simp only[Int.toNat_natCast,List.length_append,List.length_cons,List.length_nil,List.length_set];omega)))]
  have e2:∀z w:V,((c++E)++z::(B++[w])).length=c.length+E.length+1+B.length+1:=fun z w=>by simp;omega
  rw[e2]
  refine W_call (hB _ (e0::r0) N _ hel hN (by rw[e2];omega)) ?_
  rintro _ rfl
  rw[e2]
  generalize hCe:cR (cA N d) (c.length+E.length+1+B.length+1) (e0::r0)=C at le ⊢
  refine W_uL (W_unNil ?_)
  have e3:∀z w:V,(c++E)++z::(B++[w])++C=(c++E++z::B)++w::C:=fun z w=>by simp
  rw[e3]
  have e4:((c++E++[V.agg [.int .i64 24,.int .i64 0,.int .i64 0,.str ⟨#[]⟩]]++B).length:Int)=((c++E++V.agg [.int .i64 24,.int .i64 0,.int .i64 0,.str ⟨#[]⟩]::B).length:Nat):=by simp
  first
   |rw[e4]
   |skip
  refine W_at (by omega) (get_at (by(first|(simp only[Int.toNat_natCast,List.length_append,List.length_cons,List.length_nil,List.length_set];done)|(simp only[Int.toNat_natCast,List.length_append,List.length_cons,List.length_nil,List.length_set];omega)))) (W_ca4 ?_)
  rw[set_at (L:=c++E++_::B) (by(first|(simp only[Int.toNat_natCast,List.length_append,List.length_cons,List.length_nil,List.length_set];done)|(simp only[Int.toNat_natCast,List.length_append,List.length_cons,List.length_nil,List.length_set];omega)))]
  refine W_ret ?_
  have e5:∀z w:V,((c++E++z::B)++w::C).length=c.length+E.length+1+B.length+1+C.length:=fun z w=>by simp;omega
  rw[e5,elX]
  simp[ins]
def BlX(f:FuncId)(d:Nat)(G:ORC R):Prop:=∀(l:LV) (N:Nms) (K:LV→OV R),BlockS d l→N.ok→W (fun o=>o=[.sl 4 (cR (cA N d) 0 l)]) K (G f [.sl 8 l,N.v] K)
theorem rblx_ok{d:Nat}(hd:2*ca d≤1000000)(hB:RBlk d G):BlX 69 d (fun _ args (K:LV→OV R)=>g69 G k args K):=by
 intro l N K hl hN
 show W _ K (f69 G k l N.a N.p N.t (N.nd.map Nd.v) K)
 unfold f69
 unfold RBlk at hB
 refine W_call (hB [] l N _ hl hN (by simpa using hd)) ?_
 rintro _ rfl
 exact W_uL (W_unNil (W_ret rfl))
end
section
variable {R : Type} {G : ORC R} {k : Nat} {K : LV → OV R}
def GdX(f:FuncId)(d:Nat)(G:ORC R):Prop:=∀(e:V) (N:Nms) (K:LV→OV R),ExprS d e→N.ok→W (fun o=>o=[.sl 4 (cE N d 0 e)]) K (G f [e,N.v] K)
theorem rgdx_ok{d:Nat}(hd:ce d≤1000000)(hE:RX d G):GdX 55 d (fun _ args (K:LV→OV R)=>g55 G k args K):=by
 intro e N K he hN
 have he':=he
 cases d with
 |zero=>exact he.elim
 |succ d=>
 obtain⟨kind,n,nm,kids,rfl,_⟩:=he
 show W _ K (f55 G k kind n nm kids 0 N.a N.p N.t (N.nd.map Nd.v) K)
 unfold f55
 unfold RX at hE
 refine W_call (hE [] _ N _ he' hN (by simpa using hd)) ?_
 rintro _ rfl
 exact W_uL (W_unNil (W_ret rfl))
end
section
variable {R : Type} {G : ORC R} {k : Nat} {K : LV → OV R}
theorem namesNE_nds{states:LV}(hs:∀s∈states,StateS 2 3 s∧kindV s≤2)(hn:NmI (nmVL 3 states)):NamesNE (ndsOf states):=by
 refine⟨fun n h=> ?_,fun j n h hj=> ?_⟩
 ·rcases names_nds hs hn h with⟨_,e⟩|⟨h0,_⟩
  ·rw[e,ba_toList]
  ·omega
 ·rcases names_nds hs hn h with⟨h0,_⟩|⟨_,c,hc,e⟩
  ·omega
  ·rw[e]
   intro e2
   have e3:(nmOf c (j-1)).size=0:=by rw[←ba_len,e2];rfl
   have e4:(nmOf c (j-1)).size=1+(digB (j-1)).size:=by unfold nmOf;rw[ByteArray.size_append];rfl
   omega
def namV(a p t:LV)(nd:List Nd):V:=.agg [.sl 1 a,.sl 1 p,.sl 1 t,.sl 7 (nd.map Nd.v)]
def NamS(a p t:LV)(nd:List Nd):Prop:=Nms.ok ⟨a,p,t,nd⟩
def CodeG(c:LV):Prop:=AllI c∧c.length≤9900∧∃t,Seg t.length 0 c t∧∀x∈t,1≤x∧x≤65536
def CodesG(l:LV):Prop:=∀v∈l,∃c,v= .sl 4 c∧CodeG c
theorem codesG_snoc{l c:LV}(h:CodesG l)(hc:CodeG c):CodesG (l++[.sl 4 c]):=fun v hv=>by
 rcases List.mem_append.1 hv with hv|hv
 ·exact h v hv
 ·rw[List.mem_singleton.1 hv];exact⟨c,rfl,hc⟩
def CodeQ(o:LV):Prop:=∃c',o=[.sl 4 c']∧CodeG c'∧True∧True
def BlkOK(d:Nat)(G:ORC R):Prop:=∀(l a p t:LV) (nd:List Nd) (K:LV→OV R),BlockS d l→NamS a p t nd→W CodeQ K (G 69 [.sl 8 l,namV a p t nd] K)
def GdOK(G:ORC R):Prop:=∀(e:V) (a p t:LV) (nd:List Nd) (K:LV→OV R),ExprS 3 e→NamS a p t nd→W CodeQ K (G 55 [e,namV a p t nd] K)
theorem blk_of(hB:BlX 69 3 G):BlkOK 3 G:=by
 intro l a p t nd K hl hn
 unfold BlX at hB
 refine W_call (hB l ⟨a,p,t,nd⟩ _ hl hn) ?_
 rintro _ rfl
 obtain⟨u,hu⟩:=cBl_sh (N:=⟨a,p,t,nd⟩) hl
 have hs:=sh_len hu 0
 have hlen:=cBl_len (N:=⟨a,p,t,nd⟩) (at_:=0) hl
 have e1:2*ca 3≤9900:=by decide
 have e2:cm 3≤65536:=by decide
 exact W_ret ⟨_,rfl,⟨cBl_all hl,by omega,u,hu.1 0 u.length (by omega),fun x hx=>by have:=hu.2 x hx;omega⟩,trivial,trivial⟩
theorem gd_of(hG:GdX 55 3 G):GdOK G:=by
 intro e a p t nd K he hn
 unfold GdX at hG
 refine W_call (hG e ⟨a,p,t,nd⟩ _ he hn) ?_
 rintro _ rfl
 obtain⟨u,hu⟩:=cE_sh (N:=⟨a,p,t,nd⟩) he
 have hs:=sh_len hu 0
 have hlen:=cE_len (N:=⟨a,p,t,nd⟩) (at_:=0) he
 have e1:ce 3≤9900:=by decide
 exact W_ret ⟨_,rfl,⟨cE_all he,by omega,u,hu.1 0 u.length (by omega),fun x hx=>by have:=hu.2 x hx;omega⟩,trivial,trivial⟩
end
end Go.Proofs.Ytkommgiklkcclaa.Vm
