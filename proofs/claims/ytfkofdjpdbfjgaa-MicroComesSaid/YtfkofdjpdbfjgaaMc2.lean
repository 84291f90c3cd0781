/- Functions of the program, told by the machine of values, and what they answer: a part. -/
import Derived.Test.YtfkofdjpdbfjgaaMcV4
import Derived.Test.YtfkofdjpdbfjgaaMc1
open Go Go.VM
set_option linter.unusedVariables false
set_option maxRecDepth 100000
namespace Go.Proofs.Ytfkofdjpdbfjgaa.Vm
def mcB(k:Nat)(G:ORC (List V)):ORC (List V):=fun f args K=>match f with
    |4=>g4 G k args K
    |7=>g7 G k args K
    |9=>g9 G k args K
    |10=>g10 G k args K
    |11=>g11 G k args K
    |12=>g12 G k args K
    |17=>g17 G k args K
    |18=>g18 G k args K
    |19=>g19 G k args K
    |20=>g20 G k args K
    |21=>g21 G k args K
    |22=>g22 G k args K
    |23=>g23 G k args K
    |24=>g24 G k args K
    |25=>g25 G k args K
    |27=>g27 G k args K
    |28=>g28 G k args K
    |29=>g29 G k args K
    |30=>g30 G k args K
    |36=>g36 G k args K
    |38=>g38 G k args K
    |39=>g39 G k args K
    |40=>g40 G k args K
    |41=>g41 G k args K
    |43=>g43 G k args K
    |44=>g44 G k args K
    |45=>g45 G k args K
    |46=>g46 G k args K
    |47=>g47 G k args K
    |48=>g48 G k args K
    |49=>g49 G k args K
    |50=>g50 G k args K
    |52=>g52 G k args K
    |53=>g53 G k args K
    |54=>g54 G k args K
    |55=>g55 G k args K
    |56=>g56 G k args K
    |57=>g57 G k args K
    |58=>g58 G k args K
    |61=>g61 G k args K
    |63=>g63 G k args K
    |66=>g66 G k args K
    |67=>g67 G k args K
    |68=>g68 G k args K
    |69=>g69 G k args K
    |71=>g71 G k args K
    |72=>g72 G k args K
    |73=>g73 G k args K
    |76=>g76 G k args K
    |77=>g77 G k args K
    |78=>g78 G k args K
    |79=>g79 G k args K
    |88=>g88 G k args K
    |89=>g89 G k args K
    |90=>g90 G k args K
    |91=>g91 G k args K
    |92=>g92 G k args K
    |93=>g93 G k args K
    |94=>g94 G k args K
    |95=>g95 G k args K
    |96=>g96 G k args K
    |97=>g97 G k args K
    |98=>g98 G k args K
    |99=>g99 G k args K
    |101=>g101 G k args K
    |102=>g102 G k args K
    |103=>g103 G k args K
    |109=>g109 G k args K
    |110=>g110 G k args K
    |111=>g111 G k args K
    |112=>g112 G k args K
    |113=>g113 G k args K
    |114=>g114 G k args K
    |115=>g115 G k args K
    |65562=>g65562 G k args K
    |65578=>g65578 G k args K
    |65587=>g65587 G k args K
    |131123=>g131123 G k args K
    |196634=>g196634 G k args K
    |262195=>g262195 G k args K
    |_=>none
def mc(k:Nat):Nat→ORC (List V)
 |0=>fun _ _ _=>none
 |j+1=>fun f args K=>(mcB k (mc k j) f args (@some (List V))).bind K
theorem mc_sound(k:Nat):∀j,Sound Try.prog TAB (mc k j)
 |0=>fun f args K r h=>by cases h
 |j+1=>fun f args K r h=>by
  have ih:=mc_sound k j
  have h:(mcB k (mc k j) f args (@some (List V))).bind K=some r:=h
  cases hb:mcB k (mc k j) f args (@some (List V))with
  |none=>rw[hb]at h;cases h
  |some o=>
  rw[hb]at h
  have key:∃o',CallOK Try.prog TAB.env f args o'∧some o'=some o:=by
   unfold mcB at hb
   split at hb
   ·exact s4 ih args (@some (List V)) o hb
   ·exact s7 ih args (@some (List V)) o hb
   ·exact s9 ih args (@some (List V)) o hb
   ·exact s10 ih args (@some (List V)) o hb
   ·exact s11 ih args (@some (List V)) o hb
   ·exact s12 ih args (@some (List V)) o hb
   ·exact s17 ih args (@some (List V)) o hb
   ·exact s18 ih args (@some (List V)) o hb
   ·exact s19 ih args (@some (List V)) o hb
   ·exact s20 ih args (@some (List V)) o hb
   ·exact s21 ih args (@some (List V)) o hb
   ·exact s22 ih args (@some (List V)) o hb
   ·exact s23 ih args (@some (List V)) o hb
   ·exact s24 ih args (@some (List V)) o hb
   ·exact s25 ih args (@some (List V)) o hb
   ·exact s27 ih args (@some (List V)) o hb
   ·exact s28 ih args (@some (List V)) o hb
   ·exact s29 ih args (@some (List V)) o hb
   ·exact s30 ih args (@some (List V)) o hb
   ·exact s36 ih args (@some (List V)) o hb
   ·exact s38 ih args (@some (List V)) o hb
   ·exact s39 ih args (@some (List V)) o hb
   ·exact s40 ih args (@some (List V)) o hb
   ·exact s41 ih args (@some (List V)) o hb
   ·exact s43 ih args (@some (List V)) o hb
   ·exact s44 ih args (@some (List V)) o hb
   ·exact s45 ih args (@some (List V)) o hb
   ·exact s46 ih args (@some (List V)) o hb
   ·exact s47 ih args (@some (List V)) o hb
   ·exact s48 ih args (@some (List V)) o hb
   ·exact s49 ih args (@some (List V)) o hb
   ·exact s50 ih args (@some (List V)) o hb
   ·exact s52 ih args (@some (List V)) o hb
   ·exact s53 ih args (@some (List V)) o hb
   ·exact s54 ih args (@some (List V)) o hb
   ·exact s55 ih args (@some (List V)) o hb
   ·exact s56 ih args (@some (List V)) o hb
   ·exact s57 ih args (@some (List V)) o hb
   ·exact s58 ih args (@some (List V)) o hb
   ·exact s61 ih args (@some (List V)) o hb
   ·exact s63 ih args (@some (List V)) o hb
   ·exact s66 ih args (@some (List V)) o hb
   ·exact s67 ih args (@some (List V)) o hb
   ·exact s68 ih args (@some (List V)) o hb
   ·exact s69 ih args (@some (List V)) o hb
   ·exact s71 ih args (@some (List V)) o hb
   ·exact s72 ih args (@some (List V)) o hb
   ·exact s73 ih args (@some (List V)) o hb
   ·exact s76 ih args (@some (List V)) o hb
   ·exact s77 ih args (@some (List V)) o hb
   ·exact s78 ih args (@some (List V)) o hb
   ·exact s79 ih args (@some (List V)) o hb
   ·exact s88 ih args (@some (List V)) o hb
   ·exact s89 ih args (@some (List V)) o hb
   ·exact s90 ih args (@some (List V)) o hb
   ·exact s91 ih args (@some (List V)) o hb
   ·exact s92 ih args (@some (List V)) o hb
   ·exact s93 ih args (@some (List V)) o hb
   ·exact s94 ih args (@some (List V)) o hb
   ·exact s95 ih args (@some (List V)) o hb
   ·exact s96 ih args (@some (List V)) o hb
   ·exact s97 ih args (@some (List V)) o hb
   ·exact s98 ih args (@some (List V)) o hb
   ·exact s99 ih args (@some (List V)) o hb
   ·exact s101 ih args (@some (List V)) o hb
   ·exact s102 ih args (@some (List V)) o hb
   ·exact s103 ih args (@some (List V)) o hb
   ·exact s109 ih args (@some (List V)) o hb
   ·exact s110 ih args (@some (List V)) o hb
   ·exact s111 ih args (@some (List V)) o hb
   ·exact s112 ih args (@some (List V)) o hb
   ·exact s113 ih args (@some (List V)) o hb
   ·exact s114 ih args (@some (List V)) o hb
   ·exact s115 ih args (@some (List V)) o hb
   ·exact s65562 ih args (@some (List V)) o hb
   ·exact s65578 ih args (@some (List V)) o hb
   ·exact s65587 ih args (@some (List V)) o hb
   ·exact s131123 ih args (@some (List V)) o hb
   ·exact s196634 ih args (@some (List V)) o hb
   ·exact s262195 ih args (@some (List V)) o hb
   ·cases hb
  obtain⟨o',h1,h2⟩:=key
  cases h2
  exact⟨o,h1,h⟩
theorem mc_U{k j:Nat}{f:FuncId}{args:List V}{Q:List V→Prop}(h:W Q (@some (List V)) (mcB k (mc k j) f args (@some (List V)))):∃o,Q o∧∀K,mc k (j+1) f args K=K o:=by
 obtain⟨o,q,e⟩:=h
 exact⟨o,q,fun K=>by show(mcB k (mc k j) f args (@some (List V))).bind K=_;rw[e];rfl⟩
theorem mc_W{k j:Nat}{f:FuncId}{args:List V}{Q:List V→Prop}{K:List V→Option (List V)}(h:W Q (@some (List V)) (mcB k (mc k j) f args (@some (List V)))):W Q K (mc k (j+1) f args K):=by
 obtain⟨o,q,e⟩:=mc_U h
 exact⟨o,q,e K⟩
end Go.Proofs.Ytfkofdjpdbfjgaa.Vm
