/- Functions of the program, told by the machine of values, and what they answer: a part. -/
import Derived.Test.YtnimfaaefdlepaaGreatTeV4
import Derived.Test.YtnimfaaefdlepaaGreatTe2
import Derived.Test.YtnimfaaefdlepaaGreatTe1
import Derived.Test.YtnimfaaefdlepaaGreatTe3
open Go Go.VM
set_option linter.unusedVariables false
set_option maxRecDepth 100000
namespace Go.Proofs.YtnimfaaefdlepaaGreat.Vm
def teB(k:Nat)(G:ORC (List V)):ORC (List V):=fun f args K=>match f with
    |3=>g3 G k args K
    |4=>g4 G k args K
    |5=>g5 G k args K
    |6=>g6 G k args K
    |7=>g7 G k args K
    |8=>g8 G k args K
    |9=>g9 G k args K
    |10=>g10 G k args K
    |11=>g11 G k args K
    |12=>g12 G k args K
    |13=>g13 G k args K
    |14=>g14 G k args K
    |15=>g15 G k args K
    |16=>g16 G k args K
    |17=>g17 G k args K
    |18=>g18 G k args K
    |19=>g19 G k args K
    |20=>g20 G k args K
    |21=>g21 G k args K
    |22=>g22 G k args K
    |23=>g23 G k args K
    |24=>g24 G k args K
    |25=>g25 G k args K
    |26=>g26 G k args K
    |27=>g27 G k args K
    |28=>g28 G k args K
    |29=>g29 G k args K
    |30=>g30 G k args K
    |31=>g31 G k args K
    |32=>g32 G k args K
    |34=>g34 G k args K
    |35=>g35 G k args K
    |36=>g36 G k args K
    |37=>g37 G k args K
    |38=>g38 G k args K
    |39=>g39 G k args K
    |40=>g40 G k args K
    |41=>g41 G k args K
    |43=>g43 G k args K
    |44=>g44 G k args K
    |45=>g45 G k args K
    |46=>g46 G k args K
    |47=>g47 G k args K
    |48=>g48 G k args K
    |49=>g49 G k args K
    |50=>g50 G k args K
    |51=>g51 G k args K
    |52=>g52 G k args K
    |53=>g53 G k args K
    |54=>g54 G k args K
    |55=>g55 G k args K
    |56=>g56 G k args K
    |57=>g57 G k args K
    |58=>g58 G k args K
    |59=>g59 G k args K
    |60=>g60 G k args K
    |61=>g61 G k args K
    |62=>g62 G k args K
    |63=>g63 G k args K
    |64=>g64 G k args K
    |65=>g65 G k args K
    |66=>g66 G k args K
    |67=>g67 G k args K
    |68=>g68 G k args K
    |69=>g69 G k args K
    |70=>g70 G k args K
    |71=>g71 G k args K
    |72=>g72 G k args K
    |73=>g73 G k args K
    |74=>g74 G k args K
    |75=>g75 G k args K
    |76=>g76 G k args K
    |77=>g77 G k args K
    |78=>g78 G k args K
    |79=>g79 G k args K
    |80=>g80 G k args K
    |81=>g81 G k args K
    |82=>g82 G k args K
    |83=>g83 G k args K
    |84=>g84 G k args K
    |85=>g85 G k args K
    |86=>g86 G k args K
    |87=>g87 G k args K
    |88=>g88 G k args K
    |89=>g89 G k args K
    |90=>g90 G k args K
    |91=>g91 G k args K
    |92=>g92 G k args K
    |93=>g93 G k args K
    |94=>g94 G k args K
    |95=>g95 G k args K
    |96=>g96 G k args K
    |97=>g97 G k args K
    |98=>g98 G k args K
    |99=>g99 G k args K
    |100=>g100 G k args K
    |101=>g101 G k args K
    |102=>g102 G k args K
    |103=>g103 G k args K
    |104=>g104 G k args K
    |105=>g105 G k args K
    |107=>g107 G k args K
    |108=>g108 G k args K
    |109=>g109 G k args K
    |110=>g110 G k args K
    |111=>g111 G k args K
    |113=>g113 G k args K
    |114=>g114 G k args K
    |65569=>g65569 G k args K
    |65578=>g65578 G k args K
    |65642=>g65642 G k args K
    |65648=>g65648 G k args K
    |131105=>g131105 G k args K
    |_=>none
def te(k:Nat):Nat→ORC (List V)
 |0=>fun _ _ _=>none
 |j+1=>fun f args K=>(teB k (te k j) f args (@some (List V))).bind K
theorem te_sound(k:Nat):∀j,Sound Tryz.prog TAB (te k j)
 |0=>fun f args K r h=>by cases h
 |j+1=>fun f args K r h=>by
  have ih:=te_sound k j
  have h:(teB k (te k j) f args (@some (List V))).bind K=some r:=h
  cases hb:teB k (te k j) f args (@some (List V))with
  |none=>rw[hb]at h;cases h
  |some o=>
  rw[hb]at h
  have key:∃o',CallOK Tryz.prog TAB.env f args o'∧some o'=some o:=by
   unfold teB at hb
   split at hb
   ·exact s3 ih args (@some (List V)) o hb
   ·exact s4 ih args (@some (List V)) o hb
   ·exact s5 ih args (@some (List V)) o hb
   ·exact s6 ih args (@some (List V)) o hb
   ·exact s7 ih args (@some (List V)) o hb
   ·exact s8 ih args (@some (List V)) o hb
   ·exact s9 ih args (@some (List V)) o hb
   ·exact s10 ih args (@some (List V)) o hb
   ·exact s11 ih args (@some (List V)) o hb
   ·exact s12 ih args (@some (List V)) o hb
   ·exact s13 ih args (@some (List V)) o hb
   ·exact s14 ih args (@some (List V)) o hb
   ·exact s15 ih args (@some (List V)) o hb
   ·exact s16 ih args (@some (List V)) o hb
   ·exact s17 ih args (@some (List V)) o hb
   ·exact s18 ih args (@some (List V)) o hb
   ·exact s19 ih args (@some (List V)) o hb
   ·exact s20 ih args (@some (List V)) o hb
   ·exact s21 ih args (@some (List V)) o hb
   ·exact s22 ih args (@some (List V)) o hb
   ·exact s23 ih args (@some (List V)) o hb
   ·exact s24 ih args (@some (List V)) o hb
   ·exact s25 ih args (@some (List V)) o hb
   ·exact s26 ih args (@some (List V)) o hb
   ·exact s27 ih args (@some (List V)) o hb
   ·exact s28 ih args (@some (List V)) o hb
   ·exact s29 ih args (@some (List V)) o hb
   ·exact s30 ih args (@some (List V)) o hb
   ·exact s31 ih args (@some (List V)) o hb
   ·exact s32 ih args (@some (List V)) o hb
   ·exact s34 ih args (@some (List V)) o hb
   ·exact s35 ih args (@some (List V)) o hb
   ·exact s36 ih args (@some (List V)) o hb
   ·exact s37 ih args (@some (List V)) o hb
   ·exact s38 ih args (@some (List V)) o hb
   ·exact s39 ih args (@some (List V)) o hb
   ·exact s40 ih args (@some (List V)) o hb
   ·exact s41 ih args (@some (List V)) o hb
   ·exact s43 ih args (@some (List V)) o hb
   ·exact s44 ih args (@some (List V)) o hb
   ·exact s45 ih args (@some (List V)) o hb
   ·exact s46 ih args (@some (List V)) o hb
   ·exact s47 ih args (@some (List V)) o hb
   ·exact s48 ih args (@some (List V)) o hb
   ·exact s49 ih args (@some (List V)) o hb
   ·exact s50 ih args (@some (List V)) o hb
   ·exact s51 ih args (@some (List V)) o hb
   ·exact s52 ih args (@some (List V)) o hb
   ·exact s53 ih args (@some (List V)) o hb
   ·exact s54 ih args (@some (List V)) o hb
   ·exact s55 ih args (@some (List V)) o hb
   ·exact s56 ih args (@some (List V)) o hb
   ·exact s57 ih args (@some (List V)) o hb
   ·exact s58 ih args (@some (List V)) o hb
   ·exact s59 ih args (@some (List V)) o hb
   ·exact s60 ih args (@some (List V)) o hb
   ·exact s61 ih args (@some (List V)) o hb
   ·exact s62 ih args (@some (List V)) o hb
   ·exact s63 ih args (@some (List V)) o hb
   ·exact s64 ih args (@some (List V)) o hb
   ·exact s65 ih args (@some (List V)) o hb
   ·exact s66 ih args (@some (List V)) o hb
   ·exact s67 ih args (@some (List V)) o hb
   ·exact s68 ih args (@some (List V)) o hb
   ·exact s69 ih args (@some (List V)) o hb
   ·exact s70 ih args (@some (List V)) o hb
   ·exact s71 ih args (@some (List V)) o hb
   ·exact s72 ih args (@some (List V)) o hb
   ·exact s73 ih args (@some (List V)) o hb
   ·exact s74 ih args (@some (List V)) o hb
   ·exact s75 ih args (@some (List V)) o hb
   ·exact s76 ih args (@some (List V)) o hb
   ·exact s77 ih args (@some (List V)) o hb
   ·exact s78 ih args (@some (List V)) o hb
   ·exact s79 ih args (@some (List V)) o hb
   ·exact s80 ih args (@some (List V)) o hb
   ·exact s81 ih args (@some (List V)) o hb
   ·exact s82 ih args (@some (List V)) o hb
   ·exact s83 ih args (@some (List V)) o hb
   ·exact s84 ih args (@some (List V)) o hb
   ·exact s85 ih args (@some (List V)) o hb
   ·exact s86 ih args (@some (List V)) o hb
   ·exact s87 ih args (@some (List V)) o hb
   ·exact s88 ih args (@some (List V)) o hb
   ·exact s89 ih args (@some (List V)) o hb
   ·exact s90 ih args (@some (List V)) o hb
   ·exact s91 ih args (@some (List V)) o hb
   ·exact s92 ih args (@some (List V)) o hb
   ·exact s93 ih args (@some (List V)) o hb
   ·exact s94 ih args (@some (List V)) o hb
   ·exact s95 ih args (@some (List V)) o hb
   ·exact s96 ih args (@some (List V)) o hb
   ·exact s97 ih args (@some (List V)) o hb
   ·exact s98 ih args (@some (List V)) o hb
   ·exact s99 ih args (@some (List V)) o hb
   ·exact s100 ih args (@some (List V)) o hb
   ·exact s101 ih args (@some (List V)) o hb
   ·exact s102 ih args (@some (List V)) o hb
   ·exact s103 ih args (@some (List V)) o hb
   ·exact s104 ih args (@some (List V)) o hb
   ·exact s105 ih args (@some (List V)) o hb
   ·exact s107 ih args (@some (List V)) o hb
   ·exact s108 ih args (@some (List V)) o hb
   ·exact s109 ih args (@some (List V)) o hb
   ·exact s110 ih args (@some (List V)) o hb
   ·exact s111 ih args (@some (List V)) o hb
   ·exact s113 ih args (@some (List V)) o hb
   ·exact s114 ih args (@some (List V)) o hb
   ·exact s65569 ih args (@some (List V)) o hb
   ·exact s65578 ih args (@some (List V)) o hb
   ·exact s65642 ih args (@some (List V)) o hb
   ·exact s65648 ih args (@some (List V)) o hb
   ·exact s131105 ih args (@some (List V)) o hb
   ·cases hb
  obtain⟨o',h1,h2⟩:=key
  cases h2
  exact⟨o,h1,h⟩
theorem te_U{k j:Nat}{f:FuncId}{args:List V}{Q:List V→Prop}(h:W Q (@some (List V)) (teB k (te k j) f args (@some (List V)))):∃o,Q o∧∀K,te k (j+1) f args K=K o:=by
 obtain⟨o,q,e⟩:=h
 exact⟨o,q,fun K=>by show(teB k (te k j) f args (@some (List V))).bind K=_;rw[e];rfl⟩
theorem te_W{k j:Nat}{f:FuncId}{args:List V}{Q:List V→Prop}{K:List V→Option (List V)}(h:W Q (@some (List V)) (teB k (te k j) f args (@some (List V)))):W Q K (te k (j+1) f args K):=by
 obtain⟨o,q,e⟩:=te_U h
 exact⟨o,q,e K⟩
set_option linter.unusedSimpArgs false
set_option maxHeartbeats 8000000
section
def Ev(P:ORC (List V)→Prop):Prop:=∃N,∀j,N≤j→P (te 1100000 j)
theorem ev0{P:ORC (List V)→Prop}(h:∀j,P (te 1100000 (j+1))):Ev P:=⟨1,fun j hj=>by obtain⟨j',rfl⟩:∃j',j=j'+1:=⟨j-1,by omega⟩;exact h j'⟩
theorem evS{A P:ORC (List V)→Prop}(hA:Ev A)(h:∀j,A (te 1100000 j)→P (te 1100000 (j+1))):Ev P:=by
 obtain⟨N,hN⟩:=hA
 refine⟨N+1,fun j hj=> ?_⟩
 obtain⟨j',rfl⟩:∃j',j=j'+1:=⟨j-1,by omega⟩
 exact h j' (hN j' (by omega))
theorem evA{A B:ORC (List V)→Prop}(hA:Ev A)(hB:Ev B):Ev fun G=>A G∧B G:=by
 obtain⟨N,hN⟩:=hA
 obtain⟨M,hM⟩:=hB
 exact⟨N+M,fun j hj=>⟨hN j (by omega),hM j (by omega)⟩⟩
theorem evT{P:ORC (List V)→Prop}(h:∀G,P G):Ev P:=⟨0,fun j _=>h _⟩
theorem evPlace:Ev PlaceS:=ev0 fun j=>by have e:=place_ok (G:=te 1100000 j) (k:=1100000);unfold PlaceS at e ⊢;(intros;refine te_W ?_;apply e<;>assumption)
theorem evNext:Ev NextS:=evS evPlace fun j h=>by have e:=next_ok (G:=te 1100000 j) (k:=1100000) h;unfold NextS at e ⊢;(intros;refine te_W ?_;apply e<;>assumption)
theorem evPick:Ev PickS:=evS evNext fun j h=>by have e:=pick_ok (G:=te 1100000 j) (k:=1100000) h;unfold PickS at e ⊢;(intros;refine te_W ?_;apply e<;>assumption)
theorem evExpr:∀d,d≤20→Ev (ExprOK d)
 |0,_=>evS (evA evNext evPick) fun j h=>by have e:=expr_ok (G:=te 1100000 j) (k:=1100000) (d:=0) (by omega) h.1 h.2 (fun d' e=>by omega);unfold ExprOK at e ⊢;(intros;refine te_W ?_;apply e<;>assumption)
 |d+1,hd=>evS (evA (evA evNext evPick) (evExpr d (by omega))) fun j h=>by have e:=expr_ok (G:=te 1100000 j) (k:=1100000) (d:=d+1) hd h.1.1 h.1.2 (fun d' e=>by cases e;exact h.2);unfold ExprOK at e ⊢;(intros;refine te_W ?_;apply e<;>assumption)
end
theorem evEvent:Ev EventS:=evS evPlace fun j h=>by have e:=event_ok (G:=te 1100000 j) (k:=1100000) h;unfold EventS at e ⊢;(intros;refine te_W ?_;apply e<;>assumption)
theorem evBlock:∀d,d≤3→Ev (BlockOK d)
 |0,_=>evS (evA (evA evNext evPick) (evA evEvent (evExpr 2 (by omega)))) fun j h=>by have e:=block_ok (G:=te 1100000 j) (k:=1100000) (d:=0) (by omega) (by omega) h.1.1 h.1.2 h.2.1 h.2.2 (fun d' e=>by omega);unfold BlockOK at e ⊢;(intros;refine te_W ?_;apply e<;>assumption)
 |d+1,hd=>evS (evA (evA (evA evNext evPick) (evA evEvent (evExpr 2 (by omega)))) (evBlock d (by omega))) fun j h=>by have e:=block_ok (G:=te 1100000 j) (k:=1100000) (d:=d+1) (by omega) hd h.1.1.1 h.1.1.2 h.1.2.1 h.1.2.2 (fun d' e=>by cases e;exact h.2);unfold BlockOK at e ⊢;(intros;refine te_W ?_;apply e<;>assumption)
section
theorem evDec1:Ev (DecS 1):=ev0 fun j=>by have e:=dec_step (G:=te 1100000 j) (k:=1100000) (d:=0) (by omega) (.inl rfl);unfold DecS at e ⊢;(intros;refine te_W ?_;apply e<;>assumption)
theorem evDec2:Ev (DecS 2):=evS evDec1 fun j h=>by have e:=dec_step (G:=te 1100000 j) (k:=1100000) (d:=1) (by omega) (.inr h);unfold DecS at e ⊢;(intros;refine te_W ?_;apply e<;>assumption)
theorem evDec3:Ev (DecS 3):=evS evDec2 fun j h=>by have e:=dec_step (G:=te 1100000 j) (k:=1100000) (d:=2) (by omega) (.inr h);unfold DecS at e ⊢;(intros;refine te_W ?_;apply e<;>assumption)
theorem evDig:Ev DigS:=evS evDec3 fun j h=>by have e:=dig_ok (G:=te 1100000 j) (k:=1100000) h;unfold DigS at e ⊢;(intros;refine te_W ?_;apply e<;>assumption)
theorem evNames:Ev NamesS:=evS evDig fun j h=>by have e:=names_ok (G:=te 1100000 j) (k:=1100000) (by omega) h;unfold NamesS at e ⊢;(intros;refine te_W ?_;apply e<;>assumption)
theorem evNumd:Ev NumdS:=evS evNext fun j h=>by have e:=named_ok (G:=te 1100000 j) (k:=1100000) (by omega) h;unfold NumdS at e ⊢;(intros;refine te_W ?_;apply e<;>assumption)
theorem evPlain:Ev PlainS:=ev0 fun j=>by have e:=plain_ok (G:=te 1100000 j) (k:=1100000) (by omega);unfold PlainS at e ⊢;(intros;refine te_W ?_;apply e<;>assumption)
theorem evSt:∀d,d≤2→Ev (StOK d)
 |0,_=>evS (evA evNext evDig) fun j h=>by have e:=st_ok (G:=te 1100000 j) (k:=1100000) (d:=0) (by omega) (by omega) h.1 h.2 (fun d' e=>by omega);unfold StOK at e ⊢;(intros;refine te_W ?_;apply e<;>assumption)
 |d+1,hd=>evS (evA (evA evNext evDig) (evSt d (by omega))) fun j h=>by have e:=st_ok (G:=te 1100000 j) (k:=1100000) (d:=d+1) (by omega) (by omega) h.1.1 h.1.2 (fun d' e=>by cases e;exact h.2);unfold StOK at e ⊢;(intros;refine te_W ?_;apply e<;>assumption)
theorem evFill:∀d,Ev (FillOK d)
 |0=>evT fun G x a p c s all L left i K h=>h.elim
 |d+1=>evS (evA (evA (evA evNext evPick) (evA evEvent (evExpr 2 (by omega)))) (evA (evA (evBlock 2 (by omega)) (evBlock 1 (by omega))) (evFill d))) fun j h=>by have e:=fill_ok (G:=te 1100000 j) (k:=1100000) (d:=d+1) (by omega) h.1.1.1 h.1.1.2 h.1.2.1 h.1.2.2 h.2.1.1 h.2.1.2 (fun d' e=>by cases e;exact h.2.2);unfold FillOK at e ⊢;(intros;refine te_W ?_;apply e<;>assumption)
theorem evChart:Ev ChartOK:=evS (evA (evA (evA evNext evNames) (evA evNumd evPlain)) (evA (evSt 2 (by omega)) (evFill 3))) fun j h=>by have e:=chart_ok (G:=te 1100000 j) (k:=1100000) (by omega) h.1.1.1 h.1.1.2 h.1.2.1 h.1.2.2 h.2.1 h.2.2;unfold ChartOK at e ⊢;(intros;refine te_W ?_;apply e<;>assumption)
theorem evKind:Ev KindOK:=ev0 fun j=>by have e:=kind_ok (G:=te 1100000 j) (k:=1100000);unfold KindOK at e ⊢;(intros;refine te_W ?_;apply e<;>assumption)
theorem evIsSt:Ev IsStOK:=ev0 fun j=>by have e:=isst_ok (G:=te 1100000 j) (k:=1100000);unfold IsStOK at e ⊢;(intros;refine te_W ?_;apply e<;>assumption)
theorem evPut:∀d,Ev (PutOK d)
 |0=>evS (evA evKind evIsSt) fun j h=>by have e:=put_ok (G:=te 1100000 j) (k:=1100000) (d:=0) (by omega) h.1 h.2 (fun d' e=>by omega);unfold PutOK at e ⊢;(intros;refine te_W ?_;apply e<;>assumption)
 |d+1=>evS (evA (evA evKind evIsSt) (evPut d)) fun j h=>by have e:=put_ok (G:=te 1100000 j) (k:=1100000) (d:=d+1) (by omega) h.1.1 h.1.2 (fun d' e=>by cases e;exact h.2);unfold PutOK at e ⊢;(intros;refine te_W ?_;apply e<;>assumption)
theorem evNodes:Ev NodesOK:=evS (evPut 3) fun j h=>by have e:=nodes_ok (G:=te 1100000 j) (k:=1100000) h;unfold NodesOK at e ⊢;(intros;refine te_W ?_;apply e<;>assumption)
theorem evIs:Ev IsOK:=ev0 fun j=>by have e:=is_ok (G:=te 1100000 j) (k:=1100000);unfold IsOK at e ⊢;(intros;refine te_W ?_;apply e<;>assumption)
theorem evIn:Ev InOK:=evS evIs fun j h=>by have e:=in_ok (G:=te 1100000 j) (k:=1100000) h;unfold InOK at e ⊢;(intros;refine te_W ?_;apply e<;>assumption)
end
theorem evFind:Ev FindOK:=ev0 fun j=>by have e:=find_ok (G:=te 1100000 j) (k:=1100000) (by omega);unfold FindOK at e ⊢;(intros;refine te_W ?_;apply e<;>assumption)
theorem evPlX:Ev (PlX 102):=ev0 fun j=>by have e:=plx_ok (G:=te 1100000 j) (k:=1100000) (by omega);unfold PlX at e ⊢;(intros;refine te_W ?_;apply e<;>assumption)
theorem evOpX:Ev (OpX 103):=ev0 fun j=>by have e:=opx_ok (G:=te 1100000 j) (k:=1100000);unfold OpX at e ⊢;(intros;refine te_W ?_;apply e<;>assumption)
theorem evRX:∀d,Ev (RX d)
 |0=>evT fun G c e N K h=>h.elim
 |d+1=>evS (evA (evA evPlX evFind) (evA (evA evOpX (evRX d)) (evA (P1 d) (P2 d)))) fun j h=>by have e:=rexprx_ok (G:=te 1100000 j) (k:=1100000) h.1.1 h.1.2 h.2.1.1 h.2.1.2 h.2.2.1 h.2.2.2;unfold RX at e ⊢;(intros;refine te_W ?_;apply e<;>assumption)
where
 P1 (d:Nat):Ev (RBX 104 andX 1 d):=evS (evRX d) fun j h=>by have e:=randx_ok (G:=te 1100000 j) (k:=1100000) h;unfold RBX at e ⊢;(intros;refine te_W ?_;apply e<;>assumption)
 P2 (d:Nat):Ev (RBX 105 orX 3 d):=evS (evRX d) fun j h=>by have e:=rorx_ok (G:=te 1100000 j) (k:=1100000) h;unfold RBX at e ⊢;(intros;refine te_W ?_;apply e<;>assumption)
theorem evRArg:Ev RArg:=evS (evRX 3) fun j h=>by have e:=rarg_ok (G:=te 1100000 j) (k:=1100000) h;unfold RArg at e ⊢;(intros;refine te_W ?_;apply e<;>assumption)
theorem evRAct:∀d,Ev (RAct d)
 |0=>evT fun G c a N K h=>h.elim
 |d+1=>evS (evA (evA evPlX (evRX 3)) (evA evRArg (evS (P:=RBlk d) (evRAct d) fun j h=>by have e:=rblk_ok (G:=te 1100000 j) (k:=1100000) (by omega) h;unfold RBlk at e ⊢;(intros;refine te_W ?_;apply e<;>assumption)))) fun j h=>by have e:=ract_ok (G:=te 1100000 j) (k:=1100000) h.1.1 h.1.2 h.2.1 h.2.2;unfold RAct at e ⊢;(intros;refine te_W ?_;apply e<;>assumption)
theorem evRBlk{d:Nat}:Ev (RBlk d):=evS (evRAct d) fun j h=>by have e:=rblk_ok (G:=te 1100000 j) (k:=1100000) (by omega) h;unfold RBlk at e ⊢;(intros;refine te_W ?_;apply e<;>assumption)
theorem evRBl{d:Nat}(hd:2*ca d≤1000000):Ev (BlX 90 d):=evS evRBlk fun j h=>by have e:=rblx_ok (G:=te 1100000 j) (k:=1100000) hd h;unfold BlX at e ⊢;(intros;refine te_W ?_;apply e<;>assumption)
theorem evDom:Ev DomOK:=evS (evA evIs evIn) fun j h=>by have e:=dom_ok (G:=te 1100000 j) (k:=1100000) (by omega) h.1 h.2;unfold DomOK at e ⊢;(intros;refine te_W ?_;apply e<;>assumption)
theorem evRGd3:Ev (GdX 70 3):=evS (evRX 3) fun j h=>by have e:=rgdx_ok (G:=te 1100000 j) (k:=1100000) (by decide) h;unfold GdX at e ⊢;(intros;refine te_W ?_;apply e<;>assumption)
theorem evBlk:Ev (BlkOK 3):=by
 obtain⟨N,h⟩:=evRBl (d:=3) (by decide)
 exact⟨N,fun j hj=>blk_of (h j hj)⟩
theorem evGd:Ev GdOK:=by
 obtain⟨N,h⟩:=evRGd3
 exact⟨N,fun j hj=>gd_of (h j hj)⟩
theorem evTexts:Ev TextsOK:=ev0 fun j=>by have e:=texts_ok (G:=te 1100000 j) (k:=1100000) (by omega);unfold TextsOK at e ⊢;(intros;refine te_W ?_;apply e<;>assumption)
theorem evNamesC:Ev NamesC:=evS (evA evTexts evNodes) fun j h=>by have e:=names_c (G:=te 1100000 j) (k:=1100000) h.1 h.2;unfold NamesC at e ⊢;(intros;refine te_W ?_;apply e<;>assumption)
theorem evLb:Ev LbOK:=evS evBlk fun j h=>by have e:=lb_ok (G:=te 1100000 j) (k:=1100000) h;unfold LbOK at e ⊢;(intros;refine te_W ?_;apply e<;>assumption)
theorem evSts:∀d,Ev (StsOK d)
 |0=>evS (evA (evA evFind evDom) (evA evLb evGd)) fun j h=>by have e:=sts_ok (G:=te 1100000 j) (k:=1100000) (d:=0) (by omega) h.1.1 h.1.2 h.2.1 h.2.2 (fun d' e=>by omega);unfold StsOK at e ⊢;(intros;refine te_W ?_;apply e<;>assumption)
 |d+1=>evS (evA (evA (evA evFind evDom) (evA evLb evGd)) (evSts d)) fun j h=>by have e:=sts_ok (G:=te 1100000 j) (k:=1100000) (d:=d+1) (by omega) h.1.1.1 h.1.1.2 h.1.2.1 h.1.2.2 (fun d' e=>by cases e;exact h.2);unfold StsOK at e ⊢;(intros;refine te_W ?_;apply e<;>assumption)
theorem evTab:Ev TabOK:=evS (evA (evA evNamesC evTexts) (evA evNodes (evSts 3))) fun j h=>by have e:=tab_ok (G:=te 1100000 j) (k:=1100000) (by omega) h.1.1 h.1.2 h.2.1 h.2.2;unfold TabOK at e ⊢;(intros;refine te_W ?_;apply e<;>assumption)
theorem evTbl:Ev TblOK:=evS (evA evChart evTab) fun j h=>by have e:=tbl_ok (G:=te 1100000 j) (k:=1100000) h.1 h.2;unfold TblOK at e ⊢;(intros;refine te_W ?_;apply e<;>assumption)
theorem evCIs:Ev CIsOK:=ev0 fun j=>by have e:=cis_ok (G:=te 1100000 j) (k:=1100000);unfold CIsOK at e ⊢;(intros;refine te_W ?_;apply e<;>assumption)
theorem evCIn:Ev CInOK:=evS evCIs fun j h=>by have e:=cin_ok (G:=te 1100000 j) (k:=1100000) h;unfold CInOK at e ⊢;(intros;refine te_W ?_;apply e<;>assumption)
theorem evPlaces:Ev PlacesOK:=ev0 fun j=>by have e:=places_ok (G:=te 1100000 j) (k:=1100000) (by omega);unfold PlacesOK at e ⊢;(intros;refine te_W ?_;apply e<;>assumption)
theorem evCode:Ev CodeOK:=ev0 fun j=>by have e:=code_ok (G:=te 1100000 j) (k:=1100000);unfold CodeOK at e ⊢;(intros;refine te_W ?_;apply e<;>assumption)
theorem evEdge:Ev EdgeOK:=evS (evA evCIn evCode) fun j h=>by have e:=edge_ok (G:=te 1100000 j) (k:=1100000) (by omega) h.1 h.2;unfold EdgeOK at e ⊢;(intros;refine te_W ?_;apply e<;>assumption)
theorem evSiS:Ev SiS:=ev0 fun j=>by have e:=sis_ok (G:=te 1100000 j) (k:=1100000) (by omega);unfold SiS at e ⊢;(intros;refine te_W ?_;apply e<;>assumption)
theorem evCoS:Ev CoS:=evS evSiS fun j h=>by have e:=cos_ok (G:=te 1100000 j) (k:=1100000) h;unfold CoS at e ⊢;(intros;refine te_W ?_;apply e<;>assumption)
theorem evRaises:Ev RaisesX:=ev0 fun j=>by have e:=raises_ok (G:=te 1100000 j) (k:=1100000);unfold RaisesX at e ⊢;(intros;refine te_W ?_;apply e<;>assumption)
theorem evTold:Ev ToldOK:=evS (evA evRaises evCoS) fun j h=>by have e:=told_ok (G:=te 1100000 j) (k:=1100000) (by omega) h.1 h.2;unfold ToldOK at e ⊢;(intros;refine te_W ?_;apply e<;>assumption)
theorem evLater:Ev LaterX:=evS evCoS fun j h=>by have e:=later_ok (G:=te 1100000 j) (k:=1100000) h;unfold LaterX at e ⊢;(intros;refine te_W ?_;apply e<;>assumption)
theorem evAll:Ev AllX:=evS (evA (evA evPlaces evTold) (evA evEdge (evA evLater evCoS))) fun j h=>by have e:=all_ok (G:=te 1100000 j) (k:=1100000) (by omega) h.1.1 h.1.2 h.2.1 h.2.2.1 h.2.2.2;unfold AllX at e ⊢;(intros;refine te_W ?_;apply e<;>assumption)
theorem evOf:Ev OfX:=evS evAll fun j h=>by have e:=ofx_ok (G:=te 1100000 j) (k:=1100000) h;unfold OfX at e ⊢;(intros;refine te_W ?_;apply e<;>assumption)
theorem evTm:Ev (TmX 36):=ev0 fun j=>by have e:=ctx_ok (G:=te 1100000 j) (k:=1100000) (by omega);unfold TmX at e ⊢;(intros;refine te_W ?_;apply e<;>assumption)
end Go.Proofs.YtnimfaaefdlepaaGreat.Vm
