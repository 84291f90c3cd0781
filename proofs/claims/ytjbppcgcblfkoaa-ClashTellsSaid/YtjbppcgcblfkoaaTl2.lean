/- Functions of the program, told by the machine of values, and what they answer: part 2. -/
import Derived.Test.YtjbppcgcblfkoaaTl1
open Go Go.VM
set_option linter.unusedVariables false
set_option maxRecDepth 100000
set_option maxHeartbeats 8000000
namespace Go.Proofs.Ytjbppcgcblfkoaa.Vm
section
variable {R : Type} {G : ORC R} {k : Nat} {K : List V → Option R}
def FillOK (d : Nat) (G : ORC R) : Prop := ∀ (x : V) (a p c s all L : List V) (left i : Int) (K : List V → Option R), StateS 0 d x → StrsS 100 a → StrsS 100 p → StrsS 100 c → StrsS 100 s → NmsS all → all.length ≤ 20 → RowS L i →
  W (fun o => ∃ y j, o = [y, .int .i64 left, .int .i64 j] ∧ StateS 2 d y ∧ kindV y = kindV x ∧ RowS L j ∧ nsz d y = nsz d x) K
    (G 33 [x, .sl 1 a, .sl 1 p, .sl 1 c, .sl 1 s, .int .i64 left, .sl 1 all, .sl 1 L, .int .i64 i] K)
theorem trans_mk {ev tg : ByteArray} {gd acts : List V} (h1 : StrS ev) (h2 : StrS tg) (h3 : gd.length ≤ 1) (h4 : ∀ e ∈ gd, ExprS 3 e) (h5 : BlockS 3 acts) : TransS (.agg [.str ev, .sl 5 gd, .str tg, .sl 8 acts, .int .i64 0]) := ⟨ev, gd, tg, acts, rfl, h1, h2, h3, h4, h5⟩
theorem tr_round (hN : NextS G) (hPk : PickS G) (hEv : EventS G) (hE : ExprOK 2 G) (hB : BlockOK 2 G) {Q : List V → Prop} {K : List V → Option R} {a p c s all L h1 h2 h3 h4 en ex tr kids : List V} {left h0 h5 kind z n i : Int} {hs nm : ByteArray}
    (X : Int → List V → List V → List V → List V → Int → List V → List V → Int → Int → ByteArray → List V → List V → List V → List V → Int → Int → ByteArray → List V → List V → List V → List V → Int → Option R) (Ko : List V → List V → List V → List V → Int → List V → List V → Int → Int → ByteArray → List V → List V → List V → List V → Int → Int → ByteArray → List V → List V → List V → List V → Int → Option R)
    (ha : StrsS 100 a) (hp : StrsS 100 p) (hc : StrsS 100 c) (hss : StrsS 100 s) (hal : StrsS 100 all) (hr : RowS L i) (hn : n > 0) (htr : tr.length ≤ 2)
    (hX1 : ∀ v j, TransS v → RowS L j → W Q K (X (IntKind.i64.wrap (n - 1)) a p c s left all L j kind nm en ex (tr ++ [v]) kids z h0 hs h1 h2 h3 h4 h5)) :
    W Q K (b33_0 G k X Ko n a p c s left all L i kind nm en ex tr kids z h0 hs h1 h2 h3 h4 h5) := by
  unfold b33_0
  unfold NextS at hN; unfold PickS at hPk; unfold EventS at hEv; unfold ExprOK at hE; unfold BlockOK at hB
  refine W_yes hn ?_
  repeat' (first
      | with_reducible (first | (refine W_unCons ?_) | (refine W_unNil ?_) | (refine W_asInt ?_) | (refine W_asStr ?_) | (refine W_asSl ?_) | (refine W_asAgg ?_) | (refine W_kd ?_) | (refine W_z ?_))
      | ((with_reducible (refine W_call (hN _ _ _ _ ?_ ?_ (by assumption)) ?_)); omega; omega; rintro _ ⟨_, _, rfl, _, _, _⟩)
      | ((with_reducible (refine W_call (hPk _ _ _ _ 100 _ (by assumption) ?_ strs0 (by assumption)) ?_)); omega; rintro _ ⟨_, _, rfl, _, _, _⟩)
      | ((with_reducible (refine W_call (hEv _ _) ?_)); rintro _ ⟨_, rfl, _⟩)
      | ((with_reducible (refine W_call (hE _ _ _ _ _ _ _ _ ?_ (by assumption) (by assumption) (by assumption)) ?_)); (rfl); rintro _ ⟨_, _, rfl, he, _⟩; have he2 := one_mem he; obtain ⟨_, _, _, _, rfl, _⟩ := he)
      | ((with_reducible (refine W_call (hB _ _ _ _ _ _ _ _ ?_ (by assumption) (by assumption) (by assumption) (by assumption) (by assumption)) ?_)); (rfl); rintro _ ⟨_, _, rfl, _, _⟩)
      | ((with_reducible (refine W_yes ?_ ?_)); omega)
      | (with_reducible (refine W_dec (fun _ => ?_) (fun _ => ?_))) | (with_reducible (refine W_beqI (fun _ => ?_) (fun _ => ?_)))
      | ((with_reducible (refine hX1 _ _ ?_ (by assumption)));
         exact trans_mk (by first | assumption | exact strs0) (by first | assumption | exact strs0) (by first | exact Nat.le_refl 1 | exact Nat.zero_le 1) (by first | assumption | simp) (by first | assumption | exact block0)))
theorem tr_loop (hN : NextS G) (hPk : PickS G) (hEv : EventS G) (hE : ExprOK 2 G) (hB : BlockOK 2 G) {Q : List V → Prop} {K : List V → Option R} {a p c s all L h1 h2 h3 h4 en ex kids : List V} {left h0 h5 kind z : Int} {hs nm : ByteArray}
    {Ko : List V → List V → List V → List V → Int → List V → List V → Int → Int → ByteArray → List V → List V → List V → List V → Int → Int → ByteArray → List V → List V → List V → List V → Int → Option R}
    (ha : StrsS 100 a) (hp : StrsS 100 p) (hc : StrsS 100 c) (hss : StrsS 100 s) (hal : StrsS 100 all)
    (hKo : ∀ tr j, tr.length ≤ 2 → (∀ t ∈ tr, TransS t) → RowS L j → W Q K (Ko a p c s left all L j kind nm en ex tr kids z h0 hs h1 h2 h3 h4 h5)) :
    ∀ (j : Nat) (n i : Int) (tr : List V), n < j → 0 ≤ n → (tr.length : Int) + n ≤ 2 → (∀ t ∈ tr, TransS t) → RowS L i → W Q K (l33_0g G k Ko j n a p c s left all L i kind nm en ex tr kids z h0 hs h1 h2 h3 h4 h5)
  | 0, n, i, tr, a1, a2, a3, a4, a5 => by omega
  | j + 1, n, i, tr, a1, a2, a3, a4, a5 => by
    show W Q K (b33_0 G k (l33_0g G k Ko j) Ko n a p c s left all L i kind nm en ex tr kids z h0 hs h1 h2 h3 h4 h5)
    by_cases hn : n > 0
    · refine tr_round hN hPk hEv hE hB _ _ ha hp hc hss hal a5 hn (by omega) (fun v j' hv hj => ?_)
      rw [wrap_id (n := n - 1) (by omega)]
      exact tr_loop hN hPk hEv hE hB ha hp hc hss hal hKo j _ _ _ (by omega) (by omega) (by simp; omega) (mem_snoc a4 hv) hj
    · unfold b33_0
      exact W_no hn (hKo tr i (by omega) a4 a5)
theorem set2 {A B : List V} {b u y : V} : List.set (List.set (A ++ b :: B) A.length u) A.length y = A ++ y :: B := by simp
def kn (d : Nat) (v : V) : Int × Nat := (kindV v, nsz d v)
theorem kn_eq {d : Nat} {x y : V} (h : kindV y = kindV x) (h' : nsz d y = nsz d x) : kn d y = kn d x := Prod.ext h h'
theorem kid_loop {d : Nat} (hF : FillOK d G) {Q : List V → Prop} {K : List V → Option R} {a p c s all L h1 h2 h3 h4 en ex tr : List V} {left h0 h5 kind z : Int} {hs nm : ByteArray} {ks : List (Int × Nat)}
    {Ko : List V → List V → List V → List V → Int → List V → List V → Int → Int → ByteArray → List V → List V → List V → List V → Int → Int → ByteArray → List V → List V → List V → List V → Int → Option R}
    (ha : StrsS 100 a) (hp : StrsS 100 p) (hc : StrsS 100 c) (hss : StrsS 100 s) (hal : NmsS all) (hal2 : all.length ≤ 20)
    (hKo : ∀ kids j, kids.map (kn d) = ks → (∀ t ∈ kids, StateS 2 d t) → RowS L j → W Q K (Ko a p c s left all L j kind nm en ex tr kids z h0 hs h1 h2 h3 h4 h5)) :
    ∀ (B A : List V) (j : Nat) (i : Int), B.length < j → A.length + B.length ≤ 4 → (∀ t ∈ A, StateS 2 d t) → (∀ t ∈ B, StateS 0 d t) → (A ++ B).map (kn d) = ks → RowS L i →
      W Q K (l33_2g G k Ko j (A.length : Int) a p c s left all L i kind nm en ex tr (A ++ B) z h0 hs h1 h2 h3 h4 h5)
  | B, A, 0, i, a1, a2, a3, a4, a5, a6 => by omega
  | [], A, j + 1, i, a1, a2, a3, a4, a5, a6 => by
    show W Q K (b33_2 G k (l33_2g G k Ko j) Ko (A.length : Int) a p c s left all L i kind nm en ex tr (A ++ []) z h0 hs h1 h2 h3 h4 h5)
    unfold b33_2
    refine W_no (by simp) ?_
    rw [List.append_nil] at a5 ⊢
    exact hKo A i a5 a3 a6
  | b :: B, A, j + 1, i, a1, a2, a3, a4, a5, a6 => by
    show W Q K (b33_2 G k (l33_2g G k Ko j) Ko (A.length : Int) a p c s left all L i kind nm en ex tr (A ++ b :: B) z h0 hs h1 h2 h3 h4 h5)
    unfold b33_2
    simp only [List.length_cons] at a1 a2
    have hlt : (A.length : Int) < (((A ++ b :: B).length : Nat) : Int) := by simp; omega
    refine W_yes hlt (W_and (W_yes (by omega) (W_yes hlt ?_)))
    refine W_nth (by omega) (fun v hv _ => ?_)
    have hvb : v = b := by simp at hv; exact hv.symm
    subst hvb
    have hb := a4 v List.mem_cons_self
    have hbk := hb
    cases d with
    | zero => exact hb.elim
    | succ d =>
    obtain ⟨_, _, _, _, _, _, rfl, _⟩ := hb
    refine W_asAgg ?_
    refine W_call (hF _ a p c s all L left i _ hbk ha hp hc hss hal hal2 a6) ?_
    rintro _ ⟨y, j', rfl, b1, b2, b3, b4⟩
    have b5 := kn_eq b2 b4
    have b1' := b1
    obtain ⟨_, _, _, _, _, _, rfl, _⟩ := b1
    repeat (with_reducible (first | (refine W_unCons ?_) | (refine W_unNil ?_) | (refine W_asInt ?_) | (refine W_asStr ?_) | (refine W_asSl ?_) | (refine W_asAgg ?_) | (refine W_kd ?_) | (refine W_z ?_)))
    rw [Int.toNat_natCast, set2]
    refine W_and (W_yes (by omega) (W_yes (by rw [List.length_set]; exact hlt) ?_))
    refine W_nth (by rw [List.length_set]; omega) (fun v _ _ => ?_)
    rw [wrap_id (n := (A.length : Int) + 1) (by omega)]
    have e := kid_loop hF (kind := kind) (z := z) (h0 := h0) (h5 := h5) (hs := hs) (nm := nm) (h1 := h1) (h2 := h2) (h3 := h3) (h4 := h4) (en := en) (ex := ex) (tr := tr) (left := left) ha hp hc hss hal hal2 hKo B (A ++ [_]) j j' (by omega) (by simp; omega) (mem_snoc a3 b1') (fun t ht => a4 t (List.mem_cons_of_mem _ ht)) (by rw [← a5]; simp only [List.append_assoc, List.singleton_append, List.map_append, List.map_cons]; rw [b5]) b3
    simp only [List.append_assoc, List.singleton_append, List.length_append, List.length_cons, List.length_nil, Nat.zero_add, Int.natCast_add, Int.natCast_one] at e
    exact e
theorem fill_ok {d : Nat} (hk : 1000 ≤ k) (hN : NextS G) (hPk : PickS G) (hEv : EventS G) (hE : ExprOK 2 G) (hB2 : BlockOK 2 G) (hB1 : BlockOK 1 G) (hF : ∀ d', d = d' + 1 → FillOK d' G) : FillOK d (fun _ args (K : List V → Option R) => g33 G k args K) := by
  intro x a p c s all L left i K hx ha hp hc hs hal hal2 hr
  cases d with
  | zero => exact hx.elim
  | succ d =>
  have hx2 := hx
  obtain ⟨kind, nm, en, ex, tr, kids, rfl, x1, x2, x3, x4, x5, x6, x7, x8, x9, x10, x11, x12, x13⟩ := hx
  show W _ K (f33 G k kind nm en ex tr kids 0 a p c s left all L i K)
  unfold f33
  have htr : tr = [] := List.eq_nil_of_length_eq_zero (by omega)
  subst htr
  refine W_dec (fun h => W_ret ⟨_, _, rfl, StateS.le (by omega) hx2, rfl, hr, rfl⟩) (fun h => ?_)
  have hal3 : StrsS 100 all := ⟨by omega, fun v hv => by obtain ⟨s, e, h, _⟩ := hal v hv; exact ⟨s, e, h⟩⟩
  unfold NextS at hN; unfold BlockOK at hB1
  have fin : ∀ (kids' en' ex' tr' : List V) (j : Int), kids'.map (kn d) = kids.map (kn d) → (∀ t ∈ kids', StateS 2 d t) → RowS L j → BlockS 2 en' → BlockS 2 ex' → tr'.length ≤ 2 → (∀ t ∈ tr', TransS t) →
      W (fun o => ∃ y j, o = [y, .int .i64 left, .int .i64 j] ∧ StateS 2 (d + 1) y ∧ kindV y = kindV (.agg [.int .i64 kind, .str nm, .sl 8 en, .sl 8 ex, .sl 5 [], .sl 7 kids, .int .i64 0]) ∧ RowS L j ∧ nsz (d + 1) y = nsz (d + 1) (.agg [.int .i64 kind, .str nm, .sl 8 en, .sl 8 ex, .sl 5 [], .sl 7 kids, .int .i64 0])) K
        (K [.agg [.int .i64 kind, .str nm, .sl 8 en', .sl 8 ex', .sl 5 tr', .sl 7 kids', .int .i64 0], .int .i64 left, .int .i64 j]) := by
    intro kids' en' ex' tr' j b1 b2 b3 b4 b5 b6 b7
    have hl : kids'.length = kids.length := by have := congrArg List.length b1; simpa using this
    refine W_ret ⟨_, _, rfl, ⟨kind, nm, en', ex', tr', kids', rfl, x1, x2, x3, x4, b4, b5, b6, b7, by omega, b2, fun h' => absurd h' h, ?_, fun h' e => x13 h' (List.eq_nil_of_length_eq_zero (by rw [← hl, e]; rfl))⟩, rfl, b3, ?_⟩
    rotate_left
    · have e2 := congrArg (List.map Prod.snd) b1
      simp only [List.map_map] at e2
      exact congrArg (fun l : List Nat => 1 + l.sum) e2
    intro v r e
    cases kids with
    | nil => rw [e] at hl; simp at hl
    | cons u us =>
      rw [e] at b1; simp [kn] at b1
      rw [b1.1.1]; exact x12 u us rfl
  have go : ∀ (en' ex' : List V) (n j : Int) (Kx : List V → Option R), RowS L j → 0 ≤ n → n ≤ 2 → BlockS 2 en' → BlockS 2 ex' →
      W (fun o => ∃ y j, o = [y, .int .i64 left, .int .i64 j] ∧ StateS 2 (d + 1) y ∧ kindV y = kindV (.agg [.int .i64 kind, .str nm, .sl 8 en, .sl 8 ex, .sl 5 [], .sl 7 kids, .int .i64 0]) ∧ RowS L j ∧ nsz (d + 1) y = nsz (d + 1) (.agg [.int .i64 kind, .str nm, .sl 8 en, .sl 8 ex, .sl 5 [], .sl 7 kids, .int .i64 0])) K
        (l33_0 G k n a p c s left all L j kind nm en' ex' [] kids 0 0 ⟨#[]⟩ [] [] [] [] 0 (fun yl390 yl391 yl392 yl393 yi394 yl395 yl396 yi397 yi398 ys399 yl400 yl401 yl402 yl403 yi404 yi405 ys406 yl407 yl408 yl409 yl410 yi411 => (l33_2 G k (0 : Int) yl390 yl391 yl392 yl393 yi394 yl395 yl396 yi397 yi398 ys399 yl400 yl401 yl402 yl403 yi404 yi405 ys406 yl407 yl408 yl409 yl410 yi411 (fun yl477 yl478 yl479 yl480 yi481 yl482 yl483 yi484 yi485 ys486 yl487 yl488 yl489 yl490 yi491 yi492 ys493 yl494 yl495 yl496 yl497 yi498 => (K [(.agg [(.int .i64 yi485), (.str ys486), (.sl 8 yl487), (.sl 8 yl488), (.sl 5 yl489), (.sl 7 yl490), (.int .i64 yi491)]), (.int .i64 yi481), (.int .i64 yi484)]))))) := by
    intro en' ex' n j _ b1 b2 b3 b4 b5
    unfold l33_0
    refine tr_loop hN hPk hEv hE hB2 ha hp hc hs hal3 ?_ k n j [] (by omega) b2 (by simp; omega) (by simp) b1
    intro tr' j' c1 c2 c3
    unfold l33_2
    have e := kid_loop (Q := fun o => ∃ y j, o = [y, .int .i64 left, .int .i64 j] ∧ StateS 2 (d + 1) y ∧ kindV y = kindV (.agg [.int .i64 kind, .str nm, .sl 8 en, .sl 8 ex, .sl 5 [], .sl 7 kids, .int .i64 0]) ∧ RowS L j ∧ nsz (d + 1) y = nsz (d + 1) (.agg [.int .i64 kind, .str nm, .sl 8 en, .sl 8 ex, .sl 5 [], .sl 7 kids, .int .i64 0])) (K := K) (k := k) (hF d rfl) (kind := kind) (z := 0) (h0 := 0) (h5 := 0) (hs := ⟨#[]⟩) (nm := nm) (h1 := []) (h2 := []) (h3 := []) (h4 := []) (en := en') (ex := ex') (tr := tr') (left := left) (ks := kids.map (kn d))
      (Ko := (fun yl477 yl478 yl479 yl480 yi481 yl482 yl483 yi484 yi485 ys486 yl487 yl488 yl489 yl490 yi491 yi492 ys493 yl494 yl495 yl496 yl497 yi498 => (K [(.agg [(.int .i64 yi485), (.str ys486), (.sl 8 yl487), (.sl 8 yl488), (.sl 5 yl489), (.sl 7 yl490), (.int .i64 yi491)]), (.int .i64 yi481), (.int .i64 yi484)])))
      ha hp hc hs hal hal2 (fun kids' j'' d1 d2 d3 => fin kids' en' ex' tr' j'' d1 d2 d3 b4 b5 c1 c2) kids [] k j' (by omega) (by simpa using x9) (by simp) x10 rfl c3
    exact e
  refine W_call (hN _ _ _ _ (by omega) (by omega) hr) ?_
  rintro _ ⟨y1, i1, rfl, y11, y12, r1⟩
  refine W_unCons (W_asInt (W_kd (W_unCons (W_asInt (W_kd (W_unNil ?_))))))
  have last : ∀ (en' ex' : List V) (j : Int), RowS L j → BlockS 2 en' → BlockS 2 ex' → ∀ (F : List V → Option R), (∀ n j', F [.int .i64 n, .int .i64 j'] = (l33_0 G k n a p c s left all L j' kind nm en' ex' [] kids 0 0 ⟨#[]⟩ [] [] [] [] 0 (fun yl390 yl391 yl392 yl393 yi394 yl395 yl396 yi397 yi398 ys399 yl400 yl401 yl402 yl403 yi404 yi405 ys406 yl407 yl408 yl409 yl410 yi411 => (l33_2 G k (0 : Int) yl390 yl391 yl392 yl393 yi394 yl395 yl396 yi397 yi398 ys399 yl400 yl401 yl402 yl403 yi404 yi405 ys406 yl407 yl408 yl409 yl410 yi411 (fun yl477 yl478 yl479 yl480 yi481 yl482 yl483 yi484 yi485 ys486 yl487 yl488 yl489 yl490 yi491 yi492 ys493 yl494 yl495 yl496 yl497 yi498 => (K [(.agg [(.int .i64 yi485), (.str ys486), (.sl 8 yl487), (.sl 8 yl488), (.sl 5 yl489), (.sl 7 yl490), (.int .i64 yi491)]), (.int .i64 yi481), (.int .i64 yi484)])))))) →
      W (fun o => ∃ y j, o = [y, .int .i64 left, .int .i64 j] ∧ StateS 2 (d + 1) y ∧ kindV y = kindV (.agg [.int .i64 kind, .str nm, .sl 8 en, .sl 8 ex, .sl 5 [], .sl 7 kids, .int .i64 0]) ∧ RowS L j ∧ nsz (d + 1) y = nsz (d + 1) (.agg [.int .i64 kind, .str nm, .sl 8 en, .sl 8 ex, .sl 5 [], .sl 7 kids, .int .i64 0])) K (G 22 [.int .i64 3, .sl 1 L, .int .i64 j] F) := by
    intro en' ex' j b1 b2 b3 F hFe
    refine W_call (hN _ _ _ _ (by omega) (by omega) b1) ?_
    rintro _ ⟨n, i1, rfl, n1, n2, r1⟩
    rw [hFe]
    exact go en' ex' n i1 K r1 n1 (by omega) b2 b3
  refine W_beqI (fun _ => ?_) (fun _ => ?_)
  · refine W_call (hB1 _ _ _ _ _ _ _ _ (by rfl) ha hp hc hs r1) ?_
    rintro _ ⟨en', i2, rfl, he, r2⟩
    refine W_unCons (W_asSl (W_z (W_unCons (W_asInt (W_kd (W_unNil ?_))))))
    refine W_call (hN _ _ _ _ (by omega) (by omega) r2) ?_
    rintro _ ⟨y2, i3, rfl, y21, y22, r3⟩
    refine W_unCons (W_asInt (W_kd (W_unCons (W_asInt (W_kd (W_unNil ?_))))))
    refine W_beqI (fun _ => ?_) (fun _ => ?_)
    · refine W_call (hB1 _ _ _ _ _ _ _ _ (by rfl) ha hp hc hs r3) ?_
      rintro _ ⟨ex', i4, rfl, hex, r4⟩
      refine W_unCons (W_asSl (W_z (W_unCons (W_asInt (W_kd (W_unNil ?_))))))
      exact last en' ex' i4 r4 he hex _ (fun n j' => rfl)
    · exact last en' ex i3 r3 he x6 _ (fun n j' => rfl)
  · refine W_call (hN _ _ _ _ (by omega) (by omega) r1) ?_
    rintro _ ⟨y2, i3, rfl, y21, y22, r3⟩
    refine W_unCons (W_asInt (W_kd (W_unCons (W_asInt (W_kd (W_unNil ?_))))))
    refine W_beqI (fun _ => ?_) (fun _ => ?_)
    · refine W_call (hB1 _ _ _ _ _ _ _ _ (by rfl) ha hp hc hs r3) ?_
      rintro _ ⟨ex', i4, rfl, hex, r4⟩
      refine W_unCons (W_asSl (W_z (W_unCons (W_asInt (W_kd (W_unNil ?_))))))
      exact last en ex' i4 r4 x5 hex _ (fun n j' => rfl)
    · exact last en ex i3 r3 x5 x6 _ (fun n j' => rfl)
end
end Go.Proofs.Ytjbppcgcblfkoaa.Vm
open Go Go.VM
set_option linter.unusedVariables false
set_option maxRecDepth 100000
set_option maxHeartbeats 4000000
namespace Go.Proofs.Ytjbppcgcblfkoaa.Vm
/-! ### cotillion/cotillionref37.Chart: function 18 -/
def P18_0h : Pat := { tmps := unds [] 6 (unds [.stat (.one (.ptr 7 0) .pt), .stat (.one (.ptr 18 0) .pt), .stat (.one (.ptr 9 0) .pt), .var (.int .i64) .pr] 133 []), boxes := nons [some [.var (.sl 1) .ro true, .var (.int .i64) .pr false]] 6 (nons [some [.var .str .pr false, .var (.int .i64) .pr false, .var (.int .i64) .pr false, .var (.sl 3) (.own true) false, .var (.sl 3) (.own true) false, .var (.sl 3) (.own true) false, .var (.sl 7) (.own true) false, .var (.int .i64) .pr false], none, some [.var .str .pr false, .var (.int .i64) .pr false, .var (.int .i64) .pr false, .var (.sl 3) .ro false, .var (.sl 3) .ro false, .var (.sl 3) .ro false, .var (.sl 7) (.own true) false, .var (.int .i64) .pr false]] 8 (nons [some [.stat ⟨(.ptr 0 0), .pt, 0, false⟩, .var (.sl 1) .ro false, .var (.sl 1) .ro false, .var (.sl 1) .ro false, .var (.sl 1) (.own true) false, .var (.int .i64) .pr false, .var (.sl 1) (.own true) false]] 125 [])) }
def P18_0x : Pat := { tmps := unds [] 6 (unds [.stat (.one (.ptr 7 0) .pt), .stat (.one (.ptr 18 0) .pt), .stat (.one (.ptr 9 0) .pt)] 134 []), boxes := nons [some [.var (.sl 1) .ro true, .var (.int .i64) .pr false]] 6 (nons [some [.var .str .pr false, .var (.int .i64) .pr false, .var (.int .i64) .pr false, .var (.sl 3) (.own true) false, .var (.sl 3) (.own true) false, .var (.sl 3) (.own true) false, .var (.sl 7) (.own true) false, .var (.int .i64) .pr false], none, some [.var .str .pr false, .var (.int .i64) .pr false, .var (.int .i64) .pr false, .var (.sl 3) .ro false, .var (.sl 3) .ro false, .var (.sl 3) .ro false, .var (.sl 7) (.own true) false, .var (.int .i64) .pr false]] 8 (nons [some [.stat ⟨(.ptr 0 0), .pt, 0, false⟩, .var (.sl 1) .ro false, .var (.sl 1) .ro false, .var (.sl 1) .ro false, .var (.sl 1) (.own true) false, .var (.int .i64) .pr false, .var (.sl 1) (.own true) false]] 125 [])) }
def b18_0 {R : Type} (G : ORC R) (k : Nat) (X : Int → List V → Int → ByteArray → Int → Int → List V → List V → List V → List V → Int → ByteArray → Int → Int → List V → List V → List V → List V → Int → List V → List V → List V → List V → Int → List V → Option R) (Ko : List V → Int → ByteArray → Int → Int → List V → List V → List V → List V → Int → ByteArray → Int → Int → List V → List V → List V → List V → Int → List V → List V → List V → List V → Int → List V → Option R) (xi96 : Int) (xl97 : List V) (xi98 : Int) (xs99 : ByteArray) (xi100 xi101 : Int) (xl102 xl103 : List V) (xl104 xl105 : List V) (xi106 : Int) (xs107 : ByteArray) (xi108 xi109 : Int) (xl110 xl111 : List V) (xl112 xl113 : List V) (xi114 : Int) (xl115 xl116 : List V) (xl117 xl118 : List V) (xi119 : Int) (xl120 : List V) : Option R :=
  (bif (decide (xi96 > 0)) then (bif (decide (xi119 > 0)) then (G 32 [(.int .i64 2), (.bool false), (.sl 1 xl115), (.sl 1 xl116), (.sl 1 xl117), (.sl 1 xl118), (.int .i64 xi119), (.sl 1 xl120), (.sl 1 xl97), (.int .i64 xi98)] fun o121 => (unCons o121 fun c122 r123 => (V.asAgg c122 fun l124 => (unCons l124 fun c125 r126 => (V.asInt c125 fun k127 n128 => (bif decide (k127 = .i64) then (unCons r126 fun c129 r130 => (V.asStr c129 fun s131 => (unCons r130 fun c132 r133 => (V.asSl c132 fun z134 l135 => (bif (z134 == 8) then (unCons r133 fun c136 r137 => (V.asSl c136 fun z138 l139 => (bif (z138 == 8) then (unCons r137 fun c140 r141 => (V.asSl c140 fun z142 l143 => (bif (z142 == 5) then (unCons r141 fun c144 r145 => (V.asSl c144 fun z146 l147 => (bif (z146 == 7) then (unCons r145 fun c148 r149 => (V.asInt c148 fun k150 n151 => (bif decide (k150 = .i64) then (unNil r149 (unCons r123 fun c152 r153 => (V.asInt c152 fun k154 n155 => (bif decide (k154 = .i64) then (unCons r153 fun c156 r157 => (V.asSl c156 fun z158 l159 => (bif (z158 == 1) then (unCons r157 fun c160 r161 => (V.asInt c160 fun k162 n163 => (bif decide (k162 = .i64) then (unNil r161 (bif (decide (List.length xl113 + 1 ≤ 1073741824)) then (X (IntKind.i64.wrap (xi96 - 1)) xl97 n163 xs99 xi100 xi101 xl102 xl103 xl104 xl105 xi106 xs107 xi108 xi109 xl110 xl111 xl112 (xl113 ++ [(.agg [(.int .i64 n128), (.str s131), (.sl 8 l135), (.sl 8 l139), (.sl 5 l143), (.sl 7 l147), (.int .i64 n151)])]) xi114 xl115 xl116 xl117 xl118 n155 l159) else none)) else none))) else none))) else none)))) else none))) else none))) else none))) else none))) else none))))) else none)))))) else (bif (((List.length xl113 : Nat) : Int) == 0) then (G 32 [(.int .i64 2), (.bool false), (.sl 1 xl115), (.sl 1 xl116), (.sl 1 xl117), (.sl 1 xl118), (.int .i64 xi119), (.sl 1 xl120), (.sl 1 xl97), (.int .i64 xi98)] fun o164 => (unCons o164 fun c165 r166 => (V.asAgg c165 fun l167 => (unCons l167 fun c168 r169 => (V.asInt c168 fun k170 n171 => (bif decide (k170 = .i64) then (unCons r169 fun c172 r173 => (V.asStr c172 fun s174 => (unCons r173 fun c175 r176 => (V.asSl c175 fun z177 l178 => (bif (z177 == 8) then (unCons r176 fun c179 r180 => (V.asSl c179 fun z181 l182 => (bif (z181 == 8) then (unCons r180 fun c183 r184 => (V.asSl c183 fun z185 l186 => (bif (z185 == 5) then (unCons r184 fun c187 r188 => (V.asSl c187 fun z189 l190 => (bif (z189 == 7) then (unCons r188 fun c191 r192 => (V.asInt c191 fun k193 n194 => (bif decide (k193 = .i64) then (unNil r192 (unCons r166 fun c195 r196 => (V.asInt c195 fun k197 n198 => (bif decide (k197 = .i64) then (unCons r196 fun c199 r200 => (V.asSl c199 fun z201 l202 => (bif (z201 == 1) then (unCons r200 fun c203 r204 => (V.asInt c203 fun k205 n206 => (bif decide (k205 = .i64) then (unNil r204 (bif (decide (List.length xl113 + 1 ≤ 1073741824)) then (X (IntKind.i64.wrap (xi96 - 1)) xl97 n206 xs99 xi100 xi101 xl102 xl103 xl104 xl105 xi106 xs107 xi108 xi109 xl110 xl111 xl112 (xl113 ++ [(.agg [(.int .i64 n171), (.str s174), (.sl 8 l178), (.sl 8 l182), (.sl 5 l186), (.sl 7 l190), (.int .i64 n194)])]) xi114 xl115 xl116 xl117 xl118 n198 l202) else none)) else none))) else none))) else none)))) else none))) else none))) else none))) else none))) else none))))) else none)))))) else (Ko xl97 xi98 xs99 xi100 xi101 xl102 xl103 xl104 xl105 xi106 xs107 xi108 xi109 xl110 xl111 xl112 xl113 xi114 xl115 xl116 xl117 xl118 xi119 xl120))) else (Ko xl97 xi98 xs99 xi100 xi101 xl102 xl103 xl104 xl105 xi106 xs107 xi108 xi109 xl110 xl111 xl112 xl113 xi114 xl115 xl116 xl117 xl118 xi119 xl120))
def l18_0g {R : Type} (G : ORC R) (k : Nat) (Ko : List V → Int → ByteArray → Int → Int → List V → List V → List V → List V → Int → ByteArray → Int → Int → List V → List V → List V → List V → Int → List V → List V → List V → List V → Int → List V → Option R) : Nat → Int → List V → Int → ByteArray → Int → Int → List V → List V → List V → List V → Int → ByteArray → Int → Int → List V → List V → List V → List V → Int → List V → List V → List V → List V → Int → List V → Option R
  | 0 => fun _ _ _ _ _ _ _ _ _ _ _ _ _ _ _ _ _ _ _ _ _ _ _ _ _ => none
  | j + 1 => b18_0 G k (l18_0g G k Ko j) Ko
def l18_0 {R : Type} (G : ORC R) (k : Nat) (xi96 : Int) (xl97 : List V) (xi98 : Int) (xs99 : ByteArray) (xi100 xi101 : Int) (xl102 xl103 : List V) (xl104 xl105 : List V) (xi106 : Int) (xs107 : ByteArray) (xi108 xi109 : Int) (xl110 xl111 : List V) (xl112 xl113 : List V) (xi114 : Int) (xl115 xl116 : List V) (xl117 xl118 : List V) (xi119 : Int) (xl120 : List V) (Ko : List V → Int → ByteArray → Int → Int → List V → List V → List V → List V → Int → ByteArray → Int → Int → List V → List V → List V → List V → Int → List V → List V → List V → List V → Int → List V → Option R) : Option R := l18_0g G k Ko k xi96 xl97 xi98 xs99 xi100 xi101 xl102 xl103 xl104 xl105 xi106 xs107 xi108 xi109 xl110 xl111 xl112 xl113 xi114 xl115 xl116 xl117 xl118 xi119 xl120
def P18_2h : Pat := { tmps := unds [] 6 (unds [.stat (.one (.ptr 7 0) .pt), .stat (.one (.ptr 18 0) .pt), .stat (.one (.ptr 9 0) .pt), .undef, .var (.int .i64) .pr] 132 []), boxes := nons [some [.var (.sl 1) .ro true, .var (.int .i64) .pr false]] 6 (nons [some [.var .str .pr false, .var (.int .i64) .pr false, .var (.int .i64) .pr false, .var (.sl 3) (.own true) false, .var (.sl 3) (.own true) false, .var (.sl 3) (.own true) false, .var (.sl 7) (.own true) false, .var (.int .i64) .pr false], none, some [.var .str .pr false, .var (.int .i64) .pr false, .var (.int .i64) .pr false, .var (.sl 3) .ro false, .var (.sl 3) .ro false, .var (.sl 3) .ro false, .var (.sl 7) (.own true) false, .var (.int .i64) .pr false]] 8 (nons [some [.stat ⟨(.ptr 0 0), .pt, 0, false⟩, .var (.sl 1) .ro false, .var (.sl 1) .ro false, .var (.sl 1) .ro false, .var (.sl 1) (.own true) false, .var (.int .i64) .pr false, .var (.sl 1) (.own true) false]] 125 [])) }
def P18_2x : Pat := { tmps := unds [] 6 (unds [.stat (.one (.ptr 7 0) .pt), .stat (.one (.ptr 18 0) .pt), .stat (.one (.ptr 9 0) .pt)] 134 []), boxes := nons [some [.var (.sl 1) .ro true, .var (.int .i64) .pr false]] 6 (nons [some [.var .str .pr false, .var (.int .i64) .pr false, .var (.int .i64) .pr false, .var (.sl 3) (.own true) false, .var (.sl 3) (.own true) false, .var (.sl 3) (.own true) false, .var (.sl 7) (.own true) false, .var (.int .i64) .pr false], none, some [.var .str .pr false, .var (.int .i64) .pr false, .var (.int .i64) .pr false, .var (.sl 3) .ro false, .var (.sl 3) .ro false, .var (.sl 3) .ro false, .var (.sl 7) (.own true) false, .var (.int .i64) .pr false]] 8 (nons [some [.stat ⟨(.ptr 0 0), .pt, 0, false⟩, .var (.sl 1) .ro false, .var (.sl 1) .ro false, .var (.sl 1) .ro false, .var (.sl 1) (.own true) false, .var (.int .i64) .pr false, .var (.sl 1) (.own true) false]] 125 [])) }
def b18_2 {R : Type} (G : ORC R) (k : Nat) (X : Int → List V → Int → ByteArray → Int → Int → List V → List V → List V → List V → Int → ByteArray → Int → Int → List V → List V → List V → List V → Int → List V → List V → List V → List V → Int → List V → Option R) (Ko : List V → Int → ByteArray → Int → Int → List V → List V → List V → List V → Int → ByteArray → Int → Int → List V → List V → List V → List V → Int → List V → List V → List V → List V → Int → List V → Option R) (xi231 : Int) (xl232 : List V) (xi233 : Int) (xs234 : ByteArray) (xi235 xi236 : Int) (xl237 xl238 : List V) (xl239 xl240 : List V) (xi241 : Int) (xs242 : ByteArray) (xi243 xi244 : Int) (xl245 xl246 : List V) (xl247 xl248 : List V) (xi249 : Int) (xl250 xl251 : List V) (xl252 xl253 : List V) (xi254 : Int) (xl255 : List V) : Option R :=
  (bif (decide (xi231 < ((List.length xl255 : Nat) : Int))) then (bif ((decide (0 ≤ xi231)) && (decide (xi231 < ((List.length xl255 : Nat) : Int)))) then (nthK xl255 (Int.toNat xi231) fun e256 => (V.asStr e256 fun s257 => (bif (decide (0 < ((ByteArray.size s257 : Nat) : Int))) then (bif (((List.getD s257.data.toList 0 0).toNat : Int) == 115) then (bif ((decide (0 ≤ xi231)) && (decide (xi231 < ((List.length xl255 : Nat) : Int)))) then (nthK xl255 (Int.toNat xi231) fun e258 => (V.asStr e258 fun s259 => (bif (decide (List.length xl253 + 1 ≤ 1073741824)) then (X (IntKind.i64.wrap (xi231 + 1)) xl232 xi233 xs234 xi235 xi236 xl237 xl238 xl239 xl240 xi241 xs242 xi243 xi244 xl245 xl246 xl247 xl248 xi249 xl250 xl251 xl252 (xl253 ++ [(.str s259)]) xi254 xl255) else none))) else none) else (X (IntKind.i64.wrap (xi231 + 1)) xl232 xi233 xs234 xi235 xi236 xl237 xl238 xl239 xl240 xi241 xs242 xi243 xi244 xl245 xl246 xl247 xl248 xi249 xl250 xl251 xl252 xl253 xi254 xl255)) else none))) else none) else (Ko xl232 xi233 xs234 xi235 xi236 xl237 xl238 xl239 xl240 xi241 xs242 xi243 xi244 xl245 xl246 xl247 xl248 xi249 xl250 xl251 xl252 xl253 xi254 xl255))
def l18_2g {R : Type} (G : ORC R) (k : Nat) (Ko : List V → Int → ByteArray → Int → Int → List V → List V → List V → List V → Int → ByteArray → Int → Int → List V → List V → List V → List V → Int → List V → List V → List V → List V → Int → List V → Option R) : Nat → Int → List V → Int → ByteArray → Int → Int → List V → List V → List V → List V → Int → ByteArray → Int → Int → List V → List V → List V → List V → Int → List V → List V → List V → List V → Int → List V → Option R
  | 0 => fun _ _ _ _ _ _ _ _ _ _ _ _ _ _ _ _ _ _ _ _ _ _ _ _ _ => none
  | j + 1 => b18_2 G k (l18_2g G k Ko j) Ko
def l18_2 {R : Type} (G : ORC R) (k : Nat) (xi231 : Int) (xl232 : List V) (xi233 : Int) (xs234 : ByteArray) (xi235 xi236 : Int) (xl237 xl238 : List V) (xl239 xl240 : List V) (xi241 : Int) (xs242 : ByteArray) (xi243 xi244 : Int) (xl245 xl246 : List V) (xl247 xl248 : List V) (xi249 : Int) (xl250 xl251 : List V) (xl252 xl253 : List V) (xi254 : Int) (xl255 : List V) (Ko : List V → Int → ByteArray → Int → Int → List V → List V → List V → List V → Int → ByteArray → Int → Int → List V → List V → List V → List V → Int → List V → List V → List V → List V → Int → List V → Option R) : Option R := l18_2g G k Ko k xi231 xl232 xi233 xs234 xi235 xi236 xl237 xl238 xl239 xl240 xi241 xs242 xi243 xi244 xl245 xl246 xl247 xl248 xi249 xl250 xl251 xl252 xl253 xi254 xl255
def P18_4h : Pat := { tmps := unds [] 6 (unds [.stat (.one (.ptr 7 0) .pt), .stat (.one (.ptr 18 0) .pt), .stat (.one (.ptr 9 0) .pt), .undef, .undef, .var (.int .i64) .pr] 131 []), boxes := nons [some [.var (.sl 1) .ro true, .var (.int .i64) .pr false]] 6 (nons [some [.var .str .pr false, .var (.int .i64) .pr false, .var (.int .i64) .pr false, .var (.sl 3) (.own true) false, .var (.sl 3) (.own true) false, .var (.sl 3) (.own true) false, .var (.sl 7) (.own true) false, .var (.int .i64) .pr false], none, some [.var .str .pr false, .var (.int .i64) .pr false, .var (.int .i64) .pr false, .var (.sl 3) .ro false, .var (.sl 3) .ro false, .var (.sl 3) .ro false, .var (.sl 7) (.own true) false, .var (.int .i64) .pr false]] 8 (nons [some [.stat ⟨(.ptr 0 0), .pt, 0, false⟩, .var (.sl 1) .ro false, .var (.sl 1) .ro false, .var (.sl 1) .ro false, .var (.sl 1) (.own true) false, .var (.int .i64) .pr false, .var (.sl 1) (.own true) false]] 125 [])) }
def P18_4x : Pat := { tmps := unds [] 6 (unds [.stat (.one (.ptr 7 0) .pt), .undef, .stat (.one (.ptr 9 0) .pt)] 134 []), boxes := nons [some [.var (.sl 1) .ro true, .var (.int .i64) .pr false]] 6 (nons [some [.var .str .pr false, .var (.int .i64) .pr false, .var (.int .i64) .pr false, .var (.sl 3) (.own true) false, .var (.sl 3) (.own true) false, .var (.sl 3) (.own true) false, .var (.sl 7) (.own true) false, .var (.int .i64) .pr false], none, some [.var .str .pr false, .var (.int .i64) .pr false, .var (.int .i64) .pr false, .var (.sl 3) .ro false, .var (.sl 3) .ro false, .var (.sl 3) .ro false, .var (.sl 7) (.own true) false, .var (.int .i64) .pr false]] 134 []) }
def b18_4 {R : Type} (G : ORC R) (k : Nat) (X : Int → List V → Int → ByteArray → Int → Int → List V → List V → List V → List V → Int → ByteArray → Int → Int → List V → List V → List V → List V → Int → List V → List V → List V → List V → Int → List V → Option R) (Ko : List V → Int → ByteArray → Int → Int → List V → List V → List V → List V → Int → ByteArray → Int → Int → List V → List V → List V → List V → Int → Option R) (xi284 : Int) (xl285 : List V) (xi286 : Int) (xs287 : ByteArray) (xi288 xi289 : Int) (xl290 xl291 : List V) (xl292 xl293 : List V) (xi294 : Int) (xs295 : ByteArray) (xi296 xi297 : Int) (xl298 xl299 : List V) (xl300 xl301 : List V) (xi302 : Int) (xl303 xl304 : List V) (xl305 xl306 : List V) (xi307 : Int) (xl308 : List V) : Option R :=
  (bif (decide (xi284 < ((List.length xl301 : Nat) : Int))) then (bif ((decide (0 ≤ xi284)) && (decide (xi284 < ((List.length xl301 : Nat) : Int)))) then (nthK xl301 (Int.toNat xi284) fun e309 => (V.asAgg e309 fun l310 => (G 33 [(.agg l310), (.sl 1 xl303), (.sl 1 xl304), (.sl 1 xl305), (.sl 1 xl306), (.int .i64 xi307), (.sl 1 xl308), (.sl 1 xl285), (.int .i64 xi286)] fun o311 => (unCons o311 fun c312 r313 => (V.asAgg c312 fun l314 => (unCons l314 fun c315 r316 => (V.asInt c315 fun k317 n318 => (bif decide (k317 = .i64) then (unCons r316 fun c319 r320 => (V.asStr c319 fun s321 => (unCons r320 fun c322 r323 => (V.asSl c322 fun z324 l325 => (bif (z324 == 8) then (unCons r323 fun c326 r327 => (V.asSl c326 fun z328 l329 => (bif (z328 == 8) then (unCons r327 fun c330 r331 => (V.asSl c330 fun z332 l333 => (bif (z332 == 5) then (unCons r331 fun c334 r335 => (V.asSl c334 fun z336 l337 => (bif (z336 == 7) then (unCons r335 fun c338 r339 => (V.asInt c338 fun k340 n341 => (bif decide (k340 = .i64) then (unNil r339 (unCons r313 fun c342 r343 => (V.asInt c342 fun k344 n345 => (bif decide (k344 = .i64) then (unCons r343 fun c346 r347 => (V.asInt c346 fun k348 n349 => (bif decide (k348 = .i64) then (unNil r347 (bif ((decide (0 ≤ xi284)) && (decide (xi284 < ((List.length (List.set xl301 (Int.toNat xi284) .undef) : Nat) : Int)))) then (nthK (List.set xl301 (Int.toNat xi284) .undef) (Int.toNat xi284) fun e350 => (X (IntKind.i64.wrap (xi284 + 1)) xl285 n349 xs287 xi288 xi289 xl290 xl291 xl292 xl293 xi294 xs295 xi296 xi297 xl298 xl299 xl300 (List.set (List.set xl301 (Int.toNat xi284) .undef) (Int.toNat xi284) (.agg [(.int .i64 n318), (.str s321), (.sl 8 l325), (.sl 8 l329), (.sl 5 l333), (.sl 7 l337), (.int .i64 n341)])) xi302 xl303 xl304 xl305 xl306 n345 xl308)) else none)) else none))) else none)))) else none))) else none))) else none))) else none))) else none))))) else none)))))))) else none) else (Ko xl285 xi286 xs287 xi288 xi289 xl290 xl291 xl292 xl293 xi294 xs295 xi296 xi297 xl298 xl299 xl300 xl301 xi302))
def l18_4g {R : Type} (G : ORC R) (k : Nat) (Ko : List V → Int → ByteArray → Int → Int → List V → List V → List V → List V → Int → ByteArray → Int → Int → List V → List V → List V → List V → Int → Option R) : Nat → Int → List V → Int → ByteArray → Int → Int → List V → List V → List V → List V → Int → ByteArray → Int → Int → List V → List V → List V → List V → Int → List V → List V → List V → List V → Int → List V → Option R
  | 0 => fun _ _ _ _ _ _ _ _ _ _ _ _ _ _ _ _ _ _ _ _ _ _ _ _ _ => none
  | j + 1 => b18_4 G k (l18_4g G k Ko j) Ko
def l18_4 {R : Type} (G : ORC R) (k : Nat) (xi284 : Int) (xl285 : List V) (xi286 : Int) (xs287 : ByteArray) (xi288 xi289 : Int) (xl290 xl291 : List V) (xl292 xl293 : List V) (xi294 : Int) (xs295 : ByteArray) (xi296 xi297 : Int) (xl298 xl299 : List V) (xl300 xl301 : List V) (xi302 : Int) (xl303 xl304 : List V) (xl305 xl306 : List V) (xi307 : Int) (xl308 : List V) (Ko : List V → Int → ByteArray → Int → Int → List V → List V → List V → List V → Int → ByteArray → Int → Int → List V → List V → List V → List V → Int → Option R) : Option R := l18_4g G k Ko k xi284 xl285 xi286 xs287 xi288 xi289 xl290 xl291 xl292 xl293 xi294 xs295 xi296 xi297 xl298 xl299 xl300 xl301 xi302 xl303 xl304 xl305 xl306 xi307 xl308
def rd18_0 {R : Type} (G : ORC R) (k : Nat) (K : Ex → St → Option R) (j : Nat) (vs : List V) : Option R := match vs with
  | [(.int .i64 xi96), (.sl 1 xl97), (.int .i64 xi98), (.str xs99), (.int .i64 xi100), (.int .i64 xi101), (.sl 3 xl102), (.sl 3 xl103), (.sl 3 xl104), (.sl 7 xl105), (.int .i64 xi106), (.str xs107), (.int .i64 xi108), (.int .i64 xi109), (.sl 3 xl110), (.sl 3 xl111), (.sl 3 xl112), (.sl 7 xl113), (.int .i64 xi114), (.sl 1 xl115), (.sl 1 xl116), (.sl 1 xl117), (.sl 1 xl118), (.int .i64 xi119), (.sl 1 xl120)] => l18_0g G k (fun yl369 yi370 ys371 yi372 yi373 yl374 yl375 yl376 yl377 yi378 ys379 yi380 yi381 yl382 yl383 yl384 yl385 yi386 yl387 yl388 yl389 yl390 yi391 yl392 => K .normal (P18_0x.inst [(.sl 1 yl369), (.int .i64 yi370), (.str ys371), (.int .i64 yi372), (.int .i64 yi373), (.sl 3 yl374), (.sl 3 yl375), (.sl 3 yl376), (.sl 7 yl377), (.int .i64 yi378), (.str ys379), (.int .i64 yi380), (.int .i64 yi381), (.sl 3 yl382), (.sl 3 yl383), (.sl 3 yl384), (.sl 7 yl385), (.int .i64 yi386), (.sl 1 yl387), (.sl 1 yl388), (.sl 1 yl389), (.sl 1 yl390), (.int .i64 yi391), (.sl 1 yl392)])) j xi96 xl97 xi98 xs99 xi100 xi101 xl102 xl103 xl104 xl105 xi106 xs107 xi108 xi109 xl110 xl111 xl112 xl113 xi114 xl115 xl116 xl117 xl118 xi119 xl120
  | _ => none
def rd18_2 {R : Type} (G : ORC R) (k : Nat) (K : Ex → St → Option R) (j : Nat) (vs : List V) : Option R := match vs with
  | [(.int .i64 xi231), (.sl 1 xl232), (.int .i64 xi233), (.str xs234), (.int .i64 xi235), (.int .i64 xi236), (.sl 3 xl237), (.sl 3 xl238), (.sl 3 xl239), (.sl 7 xl240), (.int .i64 xi241), (.str xs242), (.int .i64 xi243), (.int .i64 xi244), (.sl 3 xl245), (.sl 3 xl246), (.sl 3 xl247), (.sl 7 xl248), (.int .i64 xi249), (.sl 1 xl250), (.sl 1 xl251), (.sl 1 xl252), (.sl 1 xl253), (.int .i64 xi254), (.sl 1 xl255)] => l18_2g G k (fun yl393 yi394 ys395 yi396 yi397 yl398 yl399 yl400 yl401 yi402 ys403 yi404 yi405 yl406 yl407 yl408 yl409 yi410 yl411 yl412 yl413 yl414 yi415 yl416 => K .normal (P18_2x.inst [(.sl 1 yl393), (.int .i64 yi394), (.str ys395), (.int .i64 yi396), (.int .i64 yi397), (.sl 3 yl398), (.sl 3 yl399), (.sl 3 yl400), (.sl 7 yl401), (.int .i64 yi402), (.str ys403), (.int .i64 yi404), (.int .i64 yi405), (.sl 3 yl406), (.sl 3 yl407), (.sl 3 yl408), (.sl 7 yl409), (.int .i64 yi410), (.sl 1 yl411), (.sl 1 yl412), (.sl 1 yl413), (.sl 1 yl414), (.int .i64 yi415), (.sl 1 yl416)])) j xi231 xl232 xi233 xs234 xi235 xi236 xl237 xl238 xl239 xl240 xi241 xs242 xi243 xi244 xl245 xl246 xl247 xl248 xi249 xl250 xl251 xl252 xl253 xi254 xl255
  | _ => none
def rd18_4 {R : Type} (G : ORC R) (k : Nat) (K : Ex → St → Option R) (j : Nat) (vs : List V) : Option R := match vs with
  | [(.int .i64 xi284), (.sl 1 xl285), (.int .i64 xi286), (.str xs287), (.int .i64 xi288), (.int .i64 xi289), (.sl 3 xl290), (.sl 3 xl291), (.sl 3 xl292), (.sl 7 xl293), (.int .i64 xi294), (.str xs295), (.int .i64 xi296), (.int .i64 xi297), (.sl 3 xl298), (.sl 3 xl299), (.sl 3 xl300), (.sl 7 xl301), (.int .i64 xi302), (.sl 1 xl303), (.sl 1 xl304), (.sl 1 xl305), (.sl 1 xl306), (.int .i64 xi307), (.sl 1 xl308)] => l18_4g G k (fun yl417 yi418 ys419 yi420 yi421 yl422 yl423 yl424 yl425 yi426 ys427 yi428 yi429 yl430 yl431 yl432 yl433 yi434 => K .normal (P18_4x.inst [(.sl 1 yl417), (.int .i64 yi418), (.str ys419), (.int .i64 yi420), (.int .i64 yi421), (.sl 3 yl422), (.sl 3 yl423), (.sl 3 yl424), (.sl 7 yl425), (.int .i64 yi426), (.str ys427), (.int .i64 yi428), (.int .i64 yi429), (.sl 3 yl430), (.sl 3 yl431), (.sl 3 yl432), (.sl 7 yl433), (.int .i64 yi434)])) j xi284 xl285 xi286 xs287 xi288 xi289 xl290 xl291 xl292 xl293 xi294 xs295 xi296 xi297 xl298 xl299 xl300 xl301 xi302 xl303 xl304 xl305 xl306 xi307 xl308
  | _ => none
def L18 {R : Type} (G : ORC R) (k : Nat) : Nat → St → (Ex → St → Option R) → Option R
  | 0, S, K => P18_0h.mat S fun vs => rd18_0 G k K k vs
  | 2, S, K => P18_2h.mat S fun vs => rd18_2 G k K k vs
  | 4, S, K => P18_4h.mat S fun vs => rd18_4 G k K k vs
  | _, _, _ => none
def f18 {R : Type} (G : ORC R) (k : Nat) (as1 : ByteArray) (ai2 : Int) (bl3 : List V) (bi4 : Int) (K : List V → Option R) : Option R :=
  (G 22 [(.int .i64 8), (.sl 1 bl3), (.int .i64 bi4)] fun o5 => (unCons o5 fun c6 r7 => (V.asInt c6 fun k8 n9 => (bif decide (k8 = .i64) then (unCons r7 fun c10 r11 => (V.asInt c10 fun k12 n13 => (bif decide (k12 = .i64) then (unNil r11 (G 22 [(.int .i64 3), (.sl 1 bl3), (.int .i64 n13)] fun o14 => (unCons o14 fun c15 r16 => (V.asInt c15 fun k17 n18 => (bif decide (k17 = .i64) then (unCons r16 fun c19 r20 => (V.asInt c19 fun k21 n22 => (bif decide (k21 = .i64) then (unNil r20 (G 29 [(.str ⟨#[118]⟩), (.int .i64 n18)] fun o23 => (unCons o23 fun c24 r25 => (V.asSl c24 fun z26 l27 => (bif (z26 == 1) then (unNil r25 (G 29 [(.str ⟨#[112]⟩), (.int .i64 ai2)] fun o28 => (unCons o28 fun c29 r30 => (V.asSl c29 fun z31 l32 => (bif (z31 == 1) then (unNil r30 (G 22 [(.int .i64 3), (.sl 1 bl3), (.int .i64 n22)] fun o33 => (unCons o33 fun c34 r35 => (V.asInt c34 fun k36 n37 => (bif decide (k36 = .i64) then (unCons r35 fun c38 r39 => (V.asInt c38 fun k40 n41 => (bif decide (k40 = .i64) then (unNil r39 (G 29 [(.str ⟨#[116]⟩), (.int .i64 n37)] fun o42 => (unCons o42 fun c43 r44 => (V.asSl c43 fun z45 l46 => (bif (z45 == 1) then (unNil r44 (G 22 [(.int .i64 5), (.sl 1 bl3), (.int .i64 n41)] fun o47 => (unCons o47 fun c48 r49 => (V.asInt c48 fun k50 n51 => (bif decide (k50 = .i64) then (unCons r49 fun c52 r53 => (V.asInt c52 fun k54 n55 => (bif decide (k54 = .i64) then (unNil r53 (G 22 [(.int .i64 4), (.sl 1 bl3), (.int .i64 n55)] fun o56 => (unCons o56 fun c57 r58 => (V.asInt c57 fun k59 n60 => (bif decide (k59 = .i64) then (unCons r58 fun c61 r62 => (V.asInt c61 fun k63 n64 => (bif decide (k63 = .i64) then (unNil r62 (bif ((decide (0 ≤ n60)) && (decide (n60 < 4))) then (nthK [(.int .i64 40), (.int .i64 12), (.int .i64 4), (.int .i64 200)] (Int.toNat n60) fun e65 => (V.asInt e65 fun k66 n67 => (bif decide (k66 = .i64) then (G 30 [(.sl 1 l27), (.sl 1 bl3), (.int .i64 n64)] fun o68 => (unCons o68 fun c69 r70 => (V.asSl c69 fun z71 l72 => (bif (z71 == 3) then (unCons r70 fun c73 r74 => (V.asInt c73 fun k75 n76 => (bif decide (k75 = .i64) then (unNil r74 (G 31 [(.sl 1 l32)] fun o77 => (unCons o77 fun c78 r79 => (V.asSl c78 fun z80 l81 => (bif (z80 == 3) then (unNil r79 (G 31 [(.sl 1 l46)] fun o82 => (unCons o82 fun c83 r84 => (V.asSl c83 fun z85 l86 => (bif (z85 == 3) then (unNil r84 (G 22 [(.int .i64 2), (.sl 1 bl3), (.int .i64 n76)] fun o87 => (unCons o87 fun c88 r89 => (V.asInt c88 fun k90 n91 => (bif decide (k90 = .i64) then (unCons r89 fun c92 r93 => (V.asInt c92 fun k94 n95 => (bif decide (k94 = .i64) then (unNil r93 (l18_0 G k (IntKind.i64.wrap (1 + n91)) bl3 n95 ⟨#[]⟩ 0 0 [] [] [] [] 0 as1 (IntKind.i64.wrap (2 + n51)) n67 l72 l81 l86 [] 0 l27 l32 l46 [] (IntKind.i64.wrap (2 + n9)) [] (fun yl207 yi208 ys209 yi210 yi211 yl212 yl213 yl214 yl215 yi216 ys217 yi218 yi219 yl220 yl221 yl222 yl223 yi224 yl225 yl226 yl227 yl228 yi229 yl230 => (l18_2 G k 0 yl207 yi208 ys209 yi210 yi211 yl212 yl213 yl214 yl215 yi216 ys217 yi218 yi219 yl220 yl221 yl222 yl223 yi224 yl225 yl226 yl227 yl228 yi229 yl230 (fun yl260 yi261 ys262 yi263 yi264 yl265 yl266 yl267 yl268 yi269 ys270 yi271 yi272 yl273 yl274 yl275 yl276 yi277 yl278 yl279 yl280 yl281 yi282 yl283 => (l18_4 G k 0 yl260 yi261 ys262 yi263 yi264 yl265 yl266 yl267 yl268 yi269 ys270 yi271 yi272 yl273 yl274 yl275 yl276 yi277 yl278 yl279 yl280 yl281 yi282 yl283 (fun yl351 yi352 ys353 yi354 yi355 yl356 yl357 yl358 yl359 yi360 ys361 yi362 yi363 yl364 yl365 yl366 yl367 yi368 => (K [(.agg [(.str ys361), (.int .i64 yi362), (.int .i64 yi363), (.sl 3 yl364), (.sl 3 yl365), (.sl 3 yl366), (.sl 7 yl367), (.int .i64 yi368)]), (.int .i64 yi352)])))))))) else none))) else none))))) else none))))) else none))))) else none))) else none)))) else none))) else none)) else none))) else none))))) else none))) else none))))) else none))))) else none))) else none))))) else none))))) else none))))) else none))) else none))))) else none))) else none))))
noncomputable def D18_0 : LoopD := { id := 0, body := loopAt 0 (bodyOf Try.f18), head := P18_0h, out := P18_0x, ret := default }
theorem l18_0_is {R : Type} (G : ORC R) (k : Nat) (X : List V → Option R) (K : Ex → St → Option R) (xi96 : Int) (xl97 : List V) (xi98 : Int) (xs99 : ByteArray) (xi100 xi101 : Int) (xl102 xl103 : List V) (xl104 xl105 : List V) (xi106 : Int) (xs107 : ByteArray) (xi108 xi109 : Int) (xl110 xl111 : List V) (xl112 xl113 : List V) (xi114 : Int) (xl115 xl116 : List V) (xl117 xl118 : List V) (xi119 : Int) (xl120 : List V) :
    roundOf (TAB.env 18) G (L18 G k) D18_0 X K [(.int .i64 xi96), (.sl 1 xl97), (.int .i64 xi98), (.str xs99), (.int .i64 xi100), (.int .i64 xi101), (.sl 3 xl102), (.sl 3 xl103), (.sl 3 xl104), (.sl 7 xl105), (.int .i64 xi106), (.str xs107), (.int .i64 xi108), (.int .i64 xi109), (.sl 3 xl110), (.sl 3 xl111), (.sl 3 xl112), (.sl 7 xl113), (.int .i64 xi114), (.sl 1 xl115), (.sl 1 xl116), (.sl 1 xl117), (.sl 1 xl118), (.int .i64 xi119), (.sl 1 xl120)] = b18_0 G k (fun xi96 xl97 xi98 xs99 xi100 xi101 xl102 xl103 xl104 xl105 xi106 xs107 xi108 xi109 xl110 xl111 xl112 xl113 xi114 xl115 xl116 xl117 xl118 xi119 xl120 => X [(.int .i64 xi96), (.sl 1 xl97), (.int .i64 xi98), (.str xs99), (.int .i64 xi100), (.int .i64 xi101), (.sl 3 xl102), (.sl 3 xl103), (.sl 3 xl104), (.sl 7 xl105), (.int .i64 xi106), (.str xs107), (.int .i64 xi108), (.int .i64 xi109), (.sl 3 xl110), (.sl 3 xl111), (.sl 3 xl112), (.sl 7 xl113), (.int .i64 xi114), (.sl 1 xl115), (.sl 1 xl116), (.sl 1 xl117), (.sl 1 xl118), (.int .i64 xi119), (.sl 1 xl120)]) (fun yl369 yi370 ys371 yi372 yi373 yl374 yl375 yl376 yl377 yi378 ys379 yi380 yi381 yl382 yl383 yl384 yl385 yi386 yl387 yl388 yl389 yl390 yi391 yl392 => K .normal (P18_0x.inst [(.sl 1 yl369), (.int .i64 yi370), (.str ys371), (.int .i64 yi372), (.int .i64 yi373), (.sl 3 yl374), (.sl 3 yl375), (.sl 3 yl376), (.sl 7 yl377), (.int .i64 yi378), (.str ys379), (.int .i64 yi380), (.int .i64 yi381), (.sl 3 yl382), (.sl 3 yl383), (.sl 3 yl384), (.sl 7 yl385), (.int .i64 yi386), (.sl 1 yl387), (.sl 1 yl388), (.sl 1 yl389), (.sl 1 yl390), (.int .i64 yi391), (.sl 1 yl392)])) xi96 xl97 xi98 xs99 xi100 xi101 xl102 xl103 xl104 xl105 xi106 xs107 xi108 xi109 xl110 xl111 xl112 xl113 xi114 xl115 xl116 xl117 xl118 xi119 xl120 := by kernel_rfl
noncomputable def D18_2 : LoopD := { id := 2, body := loopAt 2 (bodyOf Try.f18), head := P18_2h, out := P18_2x, ret := default }
theorem l18_2_is {R : Type} (G : ORC R) (k : Nat) (X : List V → Option R) (K : Ex → St → Option R) (xi231 : Int) (xl232 : List V) (xi233 : Int) (xs234 : ByteArray) (xi235 xi236 : Int) (xl237 xl238 : List V) (xl239 xl240 : List V) (xi241 : Int) (xs242 : ByteArray) (xi243 xi244 : Int) (xl245 xl246 : List V) (xl247 xl248 : List V) (xi249 : Int) (xl250 xl251 : List V) (xl252 xl253 : List V) (xi254 : Int) (xl255 : List V) :
    roundOf (TAB.env 18) G (L18 G k) D18_2 X K [(.int .i64 xi231), (.sl 1 xl232), (.int .i64 xi233), (.str xs234), (.int .i64 xi235), (.int .i64 xi236), (.sl 3 xl237), (.sl 3 xl238), (.sl 3 xl239), (.sl 7 xl240), (.int .i64 xi241), (.str xs242), (.int .i64 xi243), (.int .i64 xi244), (.sl 3 xl245), (.sl 3 xl246), (.sl 3 xl247), (.sl 7 xl248), (.int .i64 xi249), (.sl 1 xl250), (.sl 1 xl251), (.sl 1 xl252), (.sl 1 xl253), (.int .i64 xi254), (.sl 1 xl255)] = b18_2 G k (fun xi231 xl232 xi233 xs234 xi235 xi236 xl237 xl238 xl239 xl240 xi241 xs242 xi243 xi244 xl245 xl246 xl247 xl248 xi249 xl250 xl251 xl252 xl253 xi254 xl255 => X [(.int .i64 xi231), (.sl 1 xl232), (.int .i64 xi233), (.str xs234), (.int .i64 xi235), (.int .i64 xi236), (.sl 3 xl237), (.sl 3 xl238), (.sl 3 xl239), (.sl 7 xl240), (.int .i64 xi241), (.str xs242), (.int .i64 xi243), (.int .i64 xi244), (.sl 3 xl245), (.sl 3 xl246), (.sl 3 xl247), (.sl 7 xl248), (.int .i64 xi249), (.sl 1 xl250), (.sl 1 xl251), (.sl 1 xl252), (.sl 1 xl253), (.int .i64 xi254), (.sl 1 xl255)]) (fun yl393 yi394 ys395 yi396 yi397 yl398 yl399 yl400 yl401 yi402 ys403 yi404 yi405 yl406 yl407 yl408 yl409 yi410 yl411 yl412 yl413 yl414 yi415 yl416 => K .normal (P18_2x.inst [(.sl 1 yl393), (.int .i64 yi394), (.str ys395), (.int .i64 yi396), (.int .i64 yi397), (.sl 3 yl398), (.sl 3 yl399), (.sl 3 yl400), (.sl 7 yl401), (.int .i64 yi402), (.str ys403), (.int .i64 yi404), (.int .i64 yi405), (.sl 3 yl406), (.sl 3 yl407), (.sl 3 yl408), (.sl 7 yl409), (.int .i64 yi410), (.sl 1 yl411), (.sl 1 yl412), (.sl 1 yl413), (.sl 1 yl414), (.int .i64 yi415), (.sl 1 yl416)])) xi231 xl232 xi233 xs234 xi235 xi236 xl237 xl238 xl239 xl240 xi241 xs242 xi243 xi244 xl245 xl246 xl247 xl248 xi249 xl250 xl251 xl252 xl253 xi254 xl255 := by kernel_rfl
noncomputable def D18_4 : LoopD := { id := 4, body := loopAt 4 (bodyOf Try.f18), head := P18_4h, out := P18_4x, ret := default }
theorem l18_4_is {R : Type} (G : ORC R) (k : Nat) (X : List V → Option R) (K : Ex → St → Option R) (xi284 : Int) (xl285 : List V) (xi286 : Int) (xs287 : ByteArray) (xi288 xi289 : Int) (xl290 xl291 : List V) (xl292 xl293 : List V) (xi294 : Int) (xs295 : ByteArray) (xi296 xi297 : Int) (xl298 xl299 : List V) (xl300 xl301 : List V) (xi302 : Int) (xl303 xl304 : List V) (xl305 xl306 : List V) (xi307 : Int) (xl308 : List V) :
    roundOf (TAB.env 18) G (L18 G k) D18_4 X K [(.int .i64 xi284), (.sl 1 xl285), (.int .i64 xi286), (.str xs287), (.int .i64 xi288), (.int .i64 xi289), (.sl 3 xl290), (.sl 3 xl291), (.sl 3 xl292), (.sl 7 xl293), (.int .i64 xi294), (.str xs295), (.int .i64 xi296), (.int .i64 xi297), (.sl 3 xl298), (.sl 3 xl299), (.sl 3 xl300), (.sl 7 xl301), (.int .i64 xi302), (.sl 1 xl303), (.sl 1 xl304), (.sl 1 xl305), (.sl 1 xl306), (.int .i64 xi307), (.sl 1 xl308)] = b18_4 G k (fun xi284 xl285 xi286 xs287 xi288 xi289 xl290 xl291 xl292 xl293 xi294 xs295 xi296 xi297 xl298 xl299 xl300 xl301 xi302 xl303 xl304 xl305 xl306 xi307 xl308 => X [(.int .i64 xi284), (.sl 1 xl285), (.int .i64 xi286), (.str xs287), (.int .i64 xi288), (.int .i64 xi289), (.sl 3 xl290), (.sl 3 xl291), (.sl 3 xl292), (.sl 7 xl293), (.int .i64 xi294), (.str xs295), (.int .i64 xi296), (.int .i64 xi297), (.sl 3 xl298), (.sl 3 xl299), (.sl 3 xl300), (.sl 7 xl301), (.int .i64 xi302), (.sl 1 xl303), (.sl 1 xl304), (.sl 1 xl305), (.sl 1 xl306), (.int .i64 xi307), (.sl 1 xl308)]) (fun yl417 yi418 ys419 yi420 yi421 yl422 yl423 yl424 yl425 yi426 ys427 yi428 yi429 yl430 yl431 yl432 yl433 yi434 => K .normal (P18_4x.inst [(.sl 1 yl417), (.int .i64 yi418), (.str ys419), (.int .i64 yi420), (.int .i64 yi421), (.sl 3 yl422), (.sl 3 yl423), (.sl 3 yl424), (.sl 7 yl425), (.int .i64 yi426), (.str ys427), (.int .i64 yi428), (.int .i64 yi429), (.sl 3 yl430), (.sl 3 yl431), (.sl 3 yl432), (.sl 7 yl433), (.int .i64 yi434)])) xi284 xl285 xi286 xs287 xi288 xi289 xl290 xl291 xl292 xl293 xi294 xs295 xi296 xi297 xl298 xl299 xl300 xl301 xi302 xl303 xl304 xl305 xl306 xi307 xl308 := by kernel_rfl
theorem f18_is {R : Type} (G : ORC R) (k : Nat) (K : List V → Option R) (as1 : ByteArray) (ai2 : Int) (bl3 : List V) (bi4 : Int) :
    callF (TAB.env 18) G (L18 G k) Try.f18 S18 [(.str as1), (.int .i64 ai2), (.sl 1 bl3), (.int .i64 bi4)] K = f18 G k as1 ai2 bl3 bi4 K := by kernel_rfl
theorem li18_0 {R : Type} (G : ORC R) (k : Nat) : LoopIs (TAB.env 18) G (L18 G k) 0 (loopAt 0 (bodyOf Try.f18)) :=
  ⟨D18_0, fun j vs K => rd18_0 G k K j vs, k, rfl, rfl, by kernel_rfl, by kernel_rfl, by kernel_rfl, (fun vs K => by unfold rd18_0; dsimp only; split <;> rfl),
    (fun j vs K r h => by
      unfold rd18_0 at h
      dsimp only at h
      split at h
      · rw [l18_0_is]; exact h
      · cases h), (fun S K r h => h)⟩
theorem li18_2 {R : Type} (G : ORC R) (k : Nat) : LoopIs (TAB.env 18) G (L18 G k) 2 (loopAt 2 (bodyOf Try.f18)) :=
  ⟨D18_2, fun j vs K => rd18_2 G k K j vs, k, rfl, rfl, by kernel_rfl, by kernel_rfl, by kernel_rfl, (fun vs K => by unfold rd18_2; dsimp only; split <;> rfl),
    (fun j vs K r h => by
      unfold rd18_2 at h
      dsimp only at h
      split at h
      · rw [l18_2_is]; exact h
      · cases h), (fun S K r h => h)⟩
theorem li18_4 {R : Type} (G : ORC R) (k : Nat) : LoopIs (TAB.env 18) G (L18 G k) 4 (loopAt 4 (bodyOf Try.f18)) :=
  ⟨D18_4, fun j vs K => rd18_4 G k K j vs, k, rfl, rfl, by kernel_rfl, by kernel_rfl, by kernel_rfl, (fun vs K => by unfold rd18_4; dsimp only; split <;> rfl),
    (fun j vs K r h => by
      unfold rd18_4 at h
      dsimp only at h
      split at h
      · rw [l18_4_is]; exact h
      · cases h), (fun S K r h => h)⟩
theorem lo18 : loopsOf (bodyOf Try.f18) = [(0, loopAt 0 (bodyOf Try.f18)), (2, loopAt 2 (bodyOf Try.f18)), (4, loopAt 4 (bodyOf Try.f18))] := by kernel_rfl
theorem la18 {R : Type} (G : ORC R) (k : Nat) : LoopsAre (TAB.env 18) G (L18 G k) (bodyOf Try.f18) :=
  loopsAre_of (by rw [lo18]; intro p hp; simp only [List.mem_cons, List.not_mem_nil, or_false] at hp; rcases hp with rfl | rfl | rfl <;> first | exact li18_0 G k | exact li18_2 G k | exact li18_4 G k)
def g18 {R : Type} (G : ORC R) (k : Nat) (args : List V) (K : List V → Option R) : Option R := match args with
  | [(.str as1), (.int .i64 ai2), (.sl 1 bl3), (.int .i64 bi4)] => f18 G k as1 ai2 bl3 bi4 K
  | _ => none
theorem s18 {R : Type} {G : ORC R} {k : Nat} (hG : Sound Try.prog TAB G) (args : List V) (K : List V → Option R) (r : R) (h : g18 G k args K = some r) : ∃ o, CallOK Try.prog TAB.env 18 args o ∧ K o = some r := by
  unfold g18 at h
  split at h
  · rw [← f18_is] at h
    exact callF_sound TAB_chk MO hG Try.func18 (sg := S18) (by kernel_rfl) (by kernel_rfl) (la18 G k) h
  · cases h
end Go.Proofs.Ytjbppcgcblfkoaa.Vm
open Go Go.VM
set_option linter.unusedVariables false
set_option maxRecDepth 100000
set_option maxHeartbeats 8000000
namespace Go.Proofs.Ytjbppcgcblfkoaa.Vm
section
variable {R : Type} {G : ORC R} {k : Nat}
def ChartOK (G : ORC R) : Prop := ∀ (nm : ByteArray) (np : Int) (L : List V) (i : Int) (K : List V → Option R), StrS nm → 0 ≤ np → np ≤ 100 → RowS L i →
  W (fun o => ∃ c j, o = [c, .int .i64 j] ∧ ChartS c ∧ RowS L j) K (G 18 [.str nm, .int .i64 np, .sl 1 L, .int .i64 i] K)
variable {Q : List V → Prop} {K : List V → Option R} {L a p c q1 q2 q3 q4 vars ports timers : List V} {s1 nm : ByteArray} {z1 z2 z3 z4 st fu : Int}
theorem chart_loop0 (hS : StOK 2 G) {Ko : List V → Int → ByteArray → Int → Int → List V → List V → List V → List V → Int → ByteArray → Int → Int → List V → List V → List V → List V → Int → List V → List V → List V → List V → Int → List V → Option R}
    {s : List V} {T : Int} (hT : T ≤ 20)
    (hKo : ∀ states j left all, nszL 3 states = all.length → states.length ≤ 2 → states ≠ [] → (∀ v ∈ states, StateS 0 3 v ∧ kindV v ≤ 2) → 0 ≤ left → left + (List.length all : Int) = T → NmsS all → RowS L j → W Q K (Ko L j s1 z1 z2 q1 q2 q3 q4 z3 nm st fu vars ports timers states z4 a p c s left all)) :
    ∀ (j : Nat) (n i left : Int) (states all : List V), nszL 3 states = all.length → n < j → 0 ≤ n → (states.length : Int) + n ≤ 2 → (states = [] → 1 ≤ left ∧ 0 < n) → 0 ≤ left → left + (List.length all : Int) = T → NmsS all → RowS L i → (∀ v ∈ states, StateS 0 3 v ∧ kindV v ≤ 2) →
      W Q K (l18_0g G k Ko j n L i s1 z1 z2 q1 q2 q3 q4 z3 nm st fu vars ports timers states z4 a p c s left all)
  | 0, n, i, left, states, all, a0, a1, a2, a3, a4, a5, a6, a7, a8, a9 => by omega
  | j + 1, n, i, left, states, all, a0, a1, a2, a3, a4, a5, a6, a7, a8, a9 => by
    show W Q K (b18_0 G k (l18_0g G k Ko j) Ko n L i s1 z1 z2 q1 q2 q3 q4 z3 nm st fu vars ports timers states z4 a p c s left all)
    unfold b18_0
    by_cases hn : n > 0
    · refine W_yes hn ?_
      by_cases hl : left > 0
      · refine W_yes hl ?_
        refine W_call (hS false a p c s all L _ left i _ (by rfl) (by omega) (by omega) a7 a8) ?_
        rintro _ ⟨x, left', all', j', rfl, b1, b2, b3, b4, b5, b6, b7, b8⟩
        have b1' := b1
        have b8' : nsz 3 x + all.length = all'.length := b8
        have b9 : nszL 3 (states ++ [x]) = all'.length := by rw [nszL_app]; simp only [nszL, List.map_cons, List.map_nil, List.sum_cons, List.sum_nil] at a0 ⊢; omega
        obtain ⟨_, _, _, _, _, _, rfl, _⟩ := b1
        repeat (with_reducible (first | (refine W_unCons ?_) | (refine W_unNil ?_) | (refine W_asInt ?_) | (refine W_asStr ?_) | (refine W_asSl ?_) | (refine W_asAgg ?_) | (refine W_kd ?_) | (refine W_z ?_)))
        refine W_yes (by omega) ?_
        have e1 : IntKind.i64.wrap (n - 1) = n - 1 := wrap_id (by omega)
        rw [e1]
        exact chart_loop0 hS hT hKo j _ _ _ _ _ b9 (by omega) (by omega) (by simp; omega) (by simp) b3 (by omega) b6 b7 (mem_snoc a9 ⟨b1', b2⟩)
      · refine W_no hl ?_
        have hacc : states ≠ [] := fun h => by have := (a4 h).1; omega
        have hlen : ((states.length : Nat) : Int) ≠ 0 := fun h => hacc (List.eq_nil_of_length_eq_zero (by omega))
        refine W_eqN hlen ?_
        exact hKo states i left all a0 (by omega) hacc a9 a5 a6 a7 a8
    · exact W_no hn (hKo states i left all a0 (by omega) (fun h => by have := (a4 h).2; omega) a9 a5 a6 a7 a8)
theorem chart_loop2 {Ko : List V → Int → ByteArray → Int → Int → List V → List V → List V → List V → Int → ByteArray → Int → Int → List V → List V → List V → List V → Int → List V → List V → List V → List V → Int → List V → Option R}
    {states all : List V} {at_ left : Int} (hall : NmsS all) (hlen : all.length ≤ 20)
    (hKo : ∀ s, StrsS 20 s → W Q K (Ko L at_ s1 z1 z2 q1 q2 q3 q4 z3 nm st fu vars ports timers states z4 a p c s left all)) :
    ∀ (j : Nat) (i : Int) (s : List V), (all.length : Int) - i < j → 0 ≤ i → i ≤ all.length → StrsS i.toNat s →
      W Q K (l18_2g G k Ko j i L at_ s1 z1 z2 q1 q2 q3 q4 z3 nm st fu vars ports timers states z4 a p c s left all)
  | 0, i, s, a1, a2, a3, a4 => by omega
  | j + 1, i, s, a1, a2, a3, a4 => by
    show W Q K (b18_2 G k (l18_2g G k Ko j) Ko i L at_ s1 z1 z2 q1 q2 q3 q4 z3 nm st fu vars ports timers states z4 a p c s left all)
    unfold b18_2
    have hs := a4.1
    refine W_dec (fun h => ?_) (fun h => hKo s ⟨by omega, a4.2⟩)
    have e1 : IntKind.i64.wrap (i + 1) = i + 1 := wrap_id (by omega)
    rw [e1]
    refine W_and (W_yes a2 (W_yes h ?_))
    refine W_nth (by omega) (fun v hv hm => ?_)
    obtain ⟨t, rfl, t1, t2⟩ := hall v hm
    refine W_asStr (W_yes (by omega) ?_)
    refine W_beqI (fun _ => ?_) (fun _ => ?_)
    · refine W_and (W_yes a2 (W_yes h ?_))
      refine W_nth (by omega) (fun w hw _ => ?_)
      rw [hv] at hw; cases hw
      refine W_asStr (W_yes (by omega) ?_)
      exact chart_loop2 hall hlen hKo j (i + 1) _ (by omega) (by omega) (by omega) (by rw [show (i + 1).toNat = i.toNat + 1 by omega]; exact strs_snoc a4 t1)
    · exact chart_loop2 hall hlen hKo j (i + 1) _ (by omega) (by omega) (by omega) ⟨by omega, a4.2⟩
theorem chart_loop4 (hF : FillOK 3 G) {Ko : List V → Int → ByteArray → Int → Int → List V → List V → List V → List V → Int → ByteArray → Int → Int → List V → List V → List V → List V → Int → Option R}
    {s all : List V} {left : Int} (ha : StrsS 100 a) (hp : StrsS 100 p) (hc : StrsS 100 c) (hs : StrsS 100 s) (hall : NmsS all) (hlen : all.length ≤ 20) {m M : Nat}
    (hKo : ∀ states j, states.length = m → nszL 3 states = M → (∀ v ∈ states, StateS 2 3 v ∧ kindV v ≤ 2) → RowS L j → W Q K (Ko L j s1 z1 z2 q1 q2 q3 q4 z3 nm st fu vars ports timers states z4)) :
    ∀ (B A : List V) (j : Nat) (i : Int), B.length < j → A.length + B.length ≤ 4 → (∀ v ∈ A, StateS 2 3 v ∧ kindV v ≤ 2) → (∀ v ∈ B, StateS 0 3 v ∧ kindV v ≤ 2) → A.length + B.length = m → nszL 3 (A ++ B) = M → RowS L i →
      W Q K (l18_4g G k Ko j (A.length : Int) L i s1 z1 z2 q1 q2 q3 q4 z3 nm st fu vars ports timers (A ++ B) z4 a p c s left all)
  | B, A, 0, i, a1, a2, a3, a4, a5, aM, a6 => by omega
  | [], A, j + 1, i, a1, a2, a3, a4, a5, aM, a6 => by
    show W Q K (b18_4 G k (l18_4g G k Ko j) Ko (A.length : Int) L i s1 z1 z2 q1 q2 q3 q4 z3 nm st fu vars ports timers (A ++ []) z4 a p c s left all)
    unfold b18_4
    refine W_no (by simp) ?_
    rw [List.append_nil] at aM ⊢
    exact hKo A i (by simpa using a5) aM a3 a6
  | b :: B, A, j + 1, i, a1, a2, a3, a4, a5, aM, a6 => by
    show W Q K (b18_4 G k (l18_4g G k Ko j) Ko (A.length : Int) L i s1 z1 z2 q1 q2 q3 q4 z3 nm st fu vars ports timers (A ++ b :: B) z4 a p c s left all)
    unfold b18_4
    simp only [List.length_cons] at a1 a2 a5
    have hlt : (A.length : Int) < (((A ++ b :: B).length : Nat) : Int) := by simp; omega
    refine W_yes hlt (W_and (W_yes (by omega) (W_yes hlt ?_)))
    refine W_nth (by omega) (fun v hv _ => ?_)
    have hvb : v = b := by simp at hv; exact hv.symm
    subst hvb
    have hb := a4 v List.mem_cons_self
    have hbk := hb
    obtain ⟨⟨_, _, _, _, _, _, rfl, _⟩, _⟩ := hb
    refine W_asAgg ?_
    refine W_call (hF _ a p c s all L left i _ hbk.1 ha hp hc hs hall hlen a6) ?_
    rintro _ ⟨y, j', rfl, b1, b2, b3, b4⟩
    have b1' := b1
    have b5 : nszL 3 ((A ++ [y]) ++ B) = M := by rw [← aM]; simp only [nszL, List.map_append, List.map_cons, List.map_nil, List.sum_append, List.sum_cons, List.sum_nil]; rw [b4]; omega
    obtain ⟨_, _, _, _, _, _, rfl, _⟩ := b1
    repeat (with_reducible (first | (refine W_unCons ?_) | (refine W_unNil ?_) | (refine W_asInt ?_) | (refine W_asStr ?_) | (refine W_asSl ?_) | (refine W_asAgg ?_) | (refine W_kd ?_) | (refine W_z ?_)))
    rw [Int.toNat_natCast, set2]
    refine W_and (W_yes (by omega) (W_yes (by rw [List.length_set]; exact hlt) ?_))
    refine W_nth (by rw [List.length_set]; omega) (fun v _ _ => ?_)
    rw [wrap_id (n := (A.length : Int) + 1) (by omega)]
    have e := chart_loop4 hF (left := left) ha hp hc hs hall hlen hKo B (A ++ [_]) j j' (by omega) (by simp; omega) (mem_snoc a3 ⟨b1', by rw [b2]; exact hbk.2⟩) (fun t ht => a4 t (List.mem_cons_of_mem _ ht)) (by simp; omega) b5 b3
    simp only [List.append_assoc, List.singleton_append, List.length_append, List.length_cons, List.length_nil, Nat.zero_add, Int.natCast_add, Int.natCast_one] at e
    exact e
theorem sz1 (c : UInt8) : (⟨#[c]⟩ : ByteArray).size ≤ 10 := by show (1 : Nat) ≤ 10; omega
theorem chart_ok (hk : 1000 ≤ k) (hN : NextS G) (hNm : NamesS G) (hNd : NumdS G) (hPl : PlainS G) (hS : StOK 2 G) (hF : FillOK 3 G) : ChartOK (fun _ args (K : List V → Option R) => g18 G k args K) := by
  intro nm np L i K hnm h1 h2 hr
  show W _ K (f18 G k nm np L i K)
  unfold f18
  unfold NextS at hN; unfold NamesS at hNm; unfold NumdS at hNd; unfold PlainS at hPl
  refine W_call (hN _ _ _ _ (by omega) (by omega) hr) ?_
  rintro _ ⟨x1, i1, rfl, x11, x12, r1⟩
  refine W_unCons (W_asInt (W_kd (W_unCons (W_asInt (W_kd (W_unNil ?_))))))
  refine W_call (hN _ _ _ _ (by omega) (by omega) r1) ?_
  rintro _ ⟨x2, i2, rfl, x21, x22, r2⟩
  refine W_unCons (W_asInt (W_kd (W_unCons (W_asInt (W_kd (W_unNil ?_))))))
  refine W_call (hNm _ _ _ (sz1 _) x21 (by omega)) ?_
  rintro _ ⟨l1, rfl, hl1⟩
  refine W_unCons (W_asSl (W_z (W_unNil ?_)))
  refine W_call (hNm _ _ _ (sz1 _) h1 h2) ?_
  rintro _ ⟨l2, rfl, hl2⟩
  refine W_unCons (W_asSl (W_z (W_unNil ?_)))
  refine W_call (hN _ _ _ _ (by omega) (by omega) r2) ?_
  rintro _ ⟨x3, i3, rfl, x31, x32, r3⟩
  refine W_unCons (W_asInt (W_kd (W_unCons (W_asInt (W_kd (W_unNil ?_))))))
  refine W_call (hNm _ _ _ (sz1 _) x31 (by omega)) ?_
  rintro _ ⟨l3, rfl, hl3⟩
  refine W_unCons (W_asSl (W_z (W_unNil ?_)))
  refine W_call (hN _ _ _ _ (by omega) (by omega) r3) ?_
  rintro _ ⟨x4, i4, rfl, x41, x42, r4⟩
  refine W_unCons (W_asInt (W_kd (W_unCons (W_asInt (W_kd (W_unNil ?_))))))
  refine W_call (hN _ _ _ _ (by omega) (by omega) r4) ?_
  rintro _ ⟨x5, i5, rfl, x51, x52, r5⟩
  refine W_unCons (W_asInt (W_kd (W_unCons (W_asInt (W_kd (W_unNil ?_))))))
  refine W_and (W_yes (by omega) (W_yes (by omega) ?_))
  refine W_nth (by simp; omega) (fun v _ hv => ?_)
  have hv2 : ∃ fu, v = .int .i64 fu ∧ 4 ≤ fu ∧ fu ≤ 200 := by
    simp only [List.mem_cons, List.not_mem_nil, or_false] at hv
    rcases hv with rfl | rfl | rfl | rfl <;> exact ⟨_, rfl, by omega, by omega⟩
  obtain ⟨fu, rfl, fu1, fu2⟩ := hv2
  refine W_asInt (W_kd ?_)
  refine W_call (hNd _ _ _ _ hl1 r5) ?_
  rintro _ ⟨v1, i6, rfl, hv1, r6⟩
  refine W_unCons (W_asSl (W_z (W_unCons (W_asInt (W_kd (W_unNil ?_))))))
  refine W_call (hPl _ _ hl2) ?_
  rintro _ ⟨v2, rfl, hv2⟩
  refine W_unCons (W_asSl (W_z (W_unNil ?_)))
  refine W_call (hPl _ _ hl3) ?_
  rintro _ ⟨v3, rfl, hv3⟩
  refine W_unCons (W_asSl (W_z (W_unNil ?_)))
  refine W_call (hN _ _ _ _ (by omega) (by omega) r6) ?_
  rintro _ ⟨x7, i7, rfl, x71, x72, r7⟩
  refine W_unCons (W_asInt (W_kd (W_unCons (W_asInt (W_kd (W_unNil ?_))))))
  have e1 : IntKind.i64.wrap (1 + x7) = 1 + x7 := wrap_id (by omega)
  have e2 : IntKind.i64.wrap (2 + x1) = 2 + x1 := wrap_id (by omega)
  have e3 : IntKind.i64.wrap (2 + x4) = 2 + x4 := wrap_id (by omega)
  rw [e1, e2, e3]
  unfold l18_0
  refine chart_loop0 (T := 2 + x1) hS (by omega) ?_ k _ _ _ _ _ (by simp [nszL]) (by omega) (by omega) (by simp; omega) (fun _ => ⟨by omega, by omega⟩) (by omega) (by simp) (by intro v hv; simp at hv) r7 (by simp)
  intro states j left all c0 c1 c2 c3 c4 c5 c6 c7
  unfold l18_2
  refine chart_loop2 c6 (by omega) ?_ k 0 [] (by omega) (by omega) (by omega) ⟨by simp, by simp⟩
  intro s hs
  unfold l18_4
  refine chart_loop4 (A := []) (m := states.length) (M := nszL 3 states) hF hl1 hl2 hl3 ⟨by have := hs.1; omega, hs.2⟩ c6 (by omega) ?_ states k j (by omega) (by simp; omega) (by simp) c3 (by simp) rfl c7
  intro states' j' d1 dM d2 d3
  exact W_ret ⟨_, _, rfl, ⟨nm, _, fu, v1, v2, v3, states', rfl, hnm, by omega, by omega, fu1, fu2, hv1, hv2, hv3, by omega, fun h => c2 (List.eq_nil_of_length_eq_zero (by rw [← d1, h]; rfl)), d2, by omega⟩, d3⟩
end
end Go.Proofs.Ytjbppcgcblfkoaa.Vm
open Go Go.VM
set_option linter.unusedVariables false
set_option maxRecDepth 100000
set_option maxHeartbeats 4000000
namespace Go.Proofs.Ytjbppcgcblfkoaa.Vm
/-! ### cotillion/cotillionref13.kind: function 38 -/
def L38 {R : Type} (_ : ORC R) (_ : Nat) : Nat → St → (Ex → St → Option R) → Option R := fun _ _ _ => none
def f38 {R : Type} (G : ORC R) (k : Nat) (ai1 : Int) (as2 : ByteArray) (al3 al4 : List V) (al5 al6 : List V) (ai7 : Int) (K : List V → Option R) : Option R :=
  (bif (ai1 == 3) then (K [(.int .i64 4)]) else (bif (ai1 == 4) then (K [(.int .i64 5)]) else (bif (ai1 == 2) then (K [(.int .i64 3)]) else (bif (((List.length al6 : Nat) : Int) == 0) then (K [(.int .i64 1)]) else (K [(.int .i64 2)])))))
theorem f38_is {R : Type} (G : ORC R) (k : Nat) (K : List V → Option R) (ai1 : Int) (as2 : ByteArray) (al3 al4 : List V) (al5 al6 : List V) (ai7 : Int) :
    callF (TAB.env 38) G (L38 G k) Try.f38 S38 [(.agg [(.int .i64 ai1), (.str as2), (.sl 8 al3), (.sl 8 al4), (.sl 5 al5), (.sl 7 al6), (.int .i64 ai7)])] K = f38 G k ai1 as2 al3 al4 al5 al6 ai7 K := by kernel_rfl
theorem lo38 : loopsOf (bodyOf Try.f38) = [] := by kernel_rfl
theorem la38 {R : Type} (G : ORC R) (k : Nat) : LoopsAre (TAB.env 38) G (L38 G k) (bodyOf Try.f38) :=
  loopsAre_of (by rw [lo38]; intro p hp; cases hp)
def g38 {R : Type} (G : ORC R) (k : Nat) (args : List V) (K : List V → Option R) : Option R := match args with
  | [(.agg [(.int .i64 ai1), (.str as2), (.sl 8 al3), (.sl 8 al4), (.sl 5 al5), (.sl 7 al6), (.int .i64 ai7)])] => f38 G k ai1 as2 al3 al4 al5 al6 ai7 K
  | _ => none
theorem s38 {R : Type} {G : ORC R} {k : Nat} (hG : Sound Try.prog TAB G) (args : List V) (K : List V → Option R) (r : R) (h : g38 G k args K = some r) : ∃ o, CallOK Try.prog TAB.env 38 args o ∧ K o = some r := by
  unfold g38 at h
  split at h
  · rw [← f38_is] at h
    exact callF_sound TAB_chk MO hG Try.func38 (sg := S38) (by kernel_rfl) (by kernel_rfl) (la38 G k) h
  · cases h
end Go.Proofs.Ytjbppcgcblfkoaa.Vm
open Go Go.VM
set_option linter.unusedVariables false
set_option maxRecDepth 100000
set_option maxHeartbeats 4000000
namespace Go.Proofs.Ytjbppcgcblfkoaa.Vm
/-! ### cotillion/cotillionref13.IsState: function 36 -/
def L36 {R : Type} (_ : ORC R) (_ : Nat) : Nat → St → (Ex → St → Option R) → Option R := fun _ _ _ => none
def f36 {R : Type} (G : ORC R) (k : Nat) (ai1 ai2 : Int) (ai3 ai4 : Int) (ai5 ai6 : Int) (as7 : ByteArray) (K : List V → Option R) : Option R :=
  (K [(.bool (decide (ai1 ≤ 3)))])
theorem f36_is {R : Type} (G : ORC R) (k : Nat) (K : List V → Option R) (ai1 ai2 : Int) (ai3 ai4 : Int) (ai5 ai6 : Int) (as7 : ByteArray) :
    callF (TAB.env 36) G (L36 G k) Try.f36 S36 [(.agg [(.int .i64 ai1), (.int .i64 ai2), (.int .i64 ai3), (.int .i64 ai4), (.int .i64 ai5), (.int .i64 ai6), (.str as7)])] K = f36 G k ai1 ai2 ai3 ai4 ai5 ai6 as7 K := by kernel_rfl
theorem lo36 : loopsOf (bodyOf Try.f36) = [] := by kernel_rfl
theorem la36 {R : Type} (G : ORC R) (k : Nat) : LoopsAre (TAB.env 36) G (L36 G k) (bodyOf Try.f36) :=
  loopsAre_of (by rw [lo36]; intro p hp; cases hp)
def g36 {R : Type} (G : ORC R) (k : Nat) (args : List V) (K : List V → Option R) : Option R := match args with
  | [(.agg [(.int .i64 ai1), (.int .i64 ai2), (.int .i64 ai3), (.int .i64 ai4), (.int .i64 ai5), (.int .i64 ai6), (.str as7)])] => f36 G k ai1 ai2 ai3 ai4 ai5 ai6 as7 K
  | _ => none
theorem s36 {R : Type} {G : ORC R} {k : Nat} (hG : Sound Try.prog TAB G) (args : List V) (K : List V → Option R) (r : R) (h : g36 G k args K = some r) : ∃ o, CallOK Try.prog TAB.env 36 args o ∧ K o = some r := by
  unfold g36 at h
  split at h
  · rw [← f36_is] at h
    exact callF_sound TAB_chk MO hG Try.func36 (sg := S36) (by kernel_rfl) (by kernel_rfl) (la36 G k) h
  · cases h
end Go.Proofs.Ytjbppcgcblfkoaa.Vm
open Go Go.VM
set_option linter.unusedVariables false
set_option maxRecDepth 100000
set_option maxHeartbeats 4000000
namespace Go.Proofs.Ytjbppcgcblfkoaa.Vm
/-! ### cotillion/cotillionref13.put: function 24 -/
def P24_0h : Pat := { tmps := unds [.var (.sl 7) (.own true), .var (.sl 7) .ro, .var (.int .i64) .pr, .undef, .undef, .undef, .undef, .var (.int .i64) .pr] 66 [], boxes := nons [] 74 [] }
def P24_0x : Pat := { tmps := unds [.var (.sl 7) (.own true)] 73 [], boxes := nons [] 74 [] }
def b24_0 {R : Type} (G : ORC R) (k : Nat) (X : List V → List V → Int → Int → Option R) (Ko : List V → Option R) (xl4 xl5 : List V) (xi6 xi7 : Int) : Option R :=
  (bif (decide (xi7 < ((List.length xl5 : Nat) : Int))) then (bif ((decide (0 ≤ xi7)) && (decide (xi7 < ((List.length xl5 : Nat) : Int)))) then (nthK xl5 (Int.toNat xi7) fun e8 => (V.asAgg e8 fun l9 => (G 38 [(.agg l9)] fun o10 => (unCons o10 fun c11 r12 => (V.asInt c11 fun k13 n14 => (bif decide (k13 = .i64) then (unNil r12 (bif ((decide (0 ≤ xi7)) && (decide (xi7 < ((List.length xl5 : Nat) : Int)))) then (nthK xl5 (Int.toNat xi7) fun e15 => (V.asAgg e15 fun l16 => (unCons l16 fun c17 r370 => (unCons r370 fun c18 r371 => (unCons r371 fun c19 r372 => (unCons r372 fun c20 r373 => (unCons r373 fun c21 r374 => (unCons r374 fun c22 r375 => (unCons r375 fun c23 r376 => (unNil r376 (V.asStr c18 fun s32 => (bif (decide (List.length xl4 + 1 ≤ 1073741824)) then (bif ((decide (0 ≤ xi6)) && (decide (xi6 < ((List.length (xl4 ++ [(.agg [(.int .i64 n14), (.int .i64 xi6), (.int .i64 0), (.int .i64 (-1)), (.int .i64 (-1)), (.int .i64 (-1)), (.str s32)])]) : Nat) : Int)))) then (nthK (xl4 ++ [(.agg [(.int .i64 n14), (.int .i64 xi6), (.int .i64 0), (.int .i64 (-1)), (.int .i64 (-1)), (.int .i64 (-1)), (.str s32)])]) (Int.toNat xi6) fun e33 => (V.asAgg e33 fun l34 => (unCons l34 fun c35 r363 => (unCons r363 fun c36 r364 => (unCons r364 fun c37 r365 => (unCons r365 fun c38 r366 => (unCons r366 fun c39 r367 => (unCons r367 fun c40 r368 => (unCons r368 fun c41 r369 => (unNil r369 (V.asInt c38 fun k50 n51 => (bif decide (k50 = .i64) then (bif (decide (n51 < 0)) then (bif ((decide (0 ≤ xi6)) && (decide (xi6 < ((List.length (xl4 ++ [(.agg [(.int .i64 n14), (.int .i64 xi6), (.int .i64 0), (.int .i64 (-1)), (.int .i64 (-1)), (.int .i64 (-1)), (.str s32)])]) : Nat) : Int)))) then (nthK (xl4 ++ [(.agg [(.int .i64 n14), (.int .i64 xi6), (.int .i64 0), (.int .i64 (-1)), (.int .i64 (-1)), (.int .i64 (-1)), (.str s32)])]) (Int.toNat xi6) fun e52 => (V.asAgg e52 fun l53 => (unCons l53 fun c54 r301 => (unCons r301 fun c55 r302 => (unCons r302 fun c56 r303 => (unCons r303 fun c57 r304 => (unCons r304 fun c58 r305 => (unCons r305 fun c59 r306 => (unCons r306 fun c60 r307 => (unNil r307 (V.asInt c54 fun k69 n70 => (bif decide (k69 = .i64) then (bif (n70 == 2) then (bif ((decide (0 ≤ ((List.length xl4 : Nat) : Int))) && (decide (((List.length xl4 : Nat) : Int) < ((List.length (xl4 ++ [(.agg [(.int .i64 n14), (.int .i64 xi6), (.int .i64 0), (.int .i64 (-1)), (.int .i64 (-1)), (.int .i64 (-1)), (.str s32)])]) : Nat) : Int)))) then (nthK (xl4 ++ [(.agg [(.int .i64 n14), (.int .i64 xi6), (.int .i64 0), (.int .i64 (-1)), (.int .i64 (-1)), (.int .i64 (-1)), (.str s32)])]) (Int.toNat ((List.length xl4 : Nat) : Int)) fun e71 => (V.asAgg e71 fun l72 => (unCons l72 fun c73 r239 => (unCons r239 fun c74 r240 => (unCons r240 fun c75 r241 => (unCons r241 fun c76 r242 => (unCons r242 fun c77 r243 => (unCons r243 fun c78 r244 => (unCons r244 fun c79 r245 => (unNil r245 (V.asInt c73 fun k88 n89 => (bif decide (k88 = .i64) then (V.asInt c74 fun k90 n91 => (bif decide (k90 = .i64) then (V.asInt c75 fun k92 n93 => (bif decide (k92 = .i64) then (V.asInt c76 fun k94 n95 => (bif decide (k94 = .i64) then (V.asInt c77 fun k96 n97 => (bif decide (k96 = .i64) then (V.asInt c78 fun k98 n99 => (bif decide (k98 = .i64) then (V.asStr c79 fun s100 => (G 36 [(.agg [(.int .i64 n89), (.int .i64 n91), (.int .i64 n93), (.int .i64 n95), (.int .i64 n97), (.int .i64 n99), (.str s100)])] fun o101 => (unCons o101 fun c102 r103 => (V.asBool c102 fun b104 => (unNil r103 (bif b104 then (bif ((decide (0 ≤ xi6)) && (decide (xi6 < ((List.length (xl4 ++ [(.agg [(.int .i64 n14), (.int .i64 xi6), (.int .i64 0), (.int .i64 (-1)), (.int .i64 (-1)), (.int .i64 (-1)), (.str s32)])]) : Nat) : Int)))) then (nthK (xl4 ++ [(.agg [(.int .i64 n14), (.int .i64 xi6), (.int .i64 0), (.int .i64 (-1)), (.int .i64 (-1)), (.int .i64 (-1)), (.str s32)])]) (Int.toNat xi6) fun e105 => (V.asAgg e105 fun l106 => (unCons l106 fun c107 r177 => (unCons r177 fun c108 r178 => (unCons r178 fun c109 r179 => (unCons r179 fun c110 r180 => (unCons r180 fun c111 r181 => (unCons r181 fun c112 r182 => (unCons r182 fun c113 r183 => (unNil r183 (bif ((decide (0 ≤ xi7)) && (decide (xi7 < ((List.length xl5 : Nat) : Int)))) then (nthK xl5 (Int.toNat xi7) fun e122 => (V.asAgg e122 fun l123 => (unCons l123 fun c124 r170 => (unCons r170 fun c125 r171 => (unCons r171 fun c126 r172 => (unCons r172 fun c127 r173 => (unCons r173 fun c128 r174 => (unCons r174 fun c129 r175 => (unCons r175 fun c130 r176 => (unNil r176 (V.asSl c129 fun z139 l140 => (G 24 [(.sl 7 (List.set (xl4 ++ [(.agg [(.int .i64 n14), (.int .i64 xi6), (.int .i64 0), (.int .i64 (-1)), (.int .i64 (-1)), (.int .i64 (-1)), (.str s32)])]) (Int.toNat xi6) (.agg [c107, c108, c109, (.int .i64 ((List.length xl4 : Nat) : Int)), c111, c112, c113]))), (.sl z139 l140), (.int .i64 ((List.length xl4 : Nat) : Int))] fun o141 => (unCons o141 fun c142 r143 => (V.asSl c142 fun z144 l145 => (bif (z144 == 7) then (unNil r143 (bif ((decide (0 ≤ ((List.length xl4 : Nat) : Int))) && (decide (((List.length xl4 : Nat) : Int) < ((List.length l145 : Nat) : Int)))) then (nthK l145 (Int.toNat ((List.length xl4 : Nat) : Int)) fun e146 => (V.asAgg e146 fun l147 => (unCons l147 fun c148 r163 => (unCons r163 fun c149 r164 => (unCons r164 fun c150 r165 => (unCons r165 fun c151 r166 => (unCons r166 fun c152 r167 => (unCons r167 fun c153 r168 => (unCons r168 fun c154 r169 => (unNil r169 (X (List.set l145 (Int.toNat ((List.length xl4 : Nat) : Int)) (.agg [c148, c149, (.int .i64 (IntKind.i64.wrap (((List.length l145 : Nat) : Int) - 1))), c151, c152, c153, c154])) xl5 xi6 (IntKind.i64.wrap (xi7 + 1))))))))))))) else none)) else none))))))))))))))) else none))))))))))) else none) else (bif ((decide (0 ≤ xi7)) && (decide (xi7 < ((List.length xl5 : Nat) : Int)))) then (nthK xl5 (Int.toNat xi7) fun e184 => (V.asAgg e184 fun l185 => (unCons l185 fun c186 r232 => (unCons r232 fun c187 r233 => (unCons r233 fun c188 r234 => (unCons r234 fun c189 r235 => (unCons r235 fun c190 r236 => (unCons r236 fun c191 r237 => (unCons r237 fun c192 r238 => (unNil r238 (V.asSl c191 fun z201 l202 => (G 24 [(.sl 7 (xl4 ++ [(.agg [(.int .i64 n14), (.int .i64 xi6), (.int .i64 0), (.int .i64 (-1)), (.int .i64 (-1)), (.int .i64 (-1)), (.str s32)])])), (.sl z201 l202), (.int .i64 ((List.length xl4 : Nat) : Int))] fun o203 => (unCons o203 fun c204 r205 => (V.asSl c204 fun z206 l207 => (bif (z206 == 7) then (unNil r205 (bif ((decide (0 ≤ ((List.length xl4 : Nat) : Int))) && (decide (((List.length xl4 : Nat) : Int) < ((List.length l207 : Nat) : Int)))) then (nthK l207 (Int.toNat ((List.length xl4 : Nat) : Int)) fun e208 => (V.asAgg e208 fun l209 => (unCons l209 fun c210 r225 => (unCons r225 fun c211 r226 => (unCons r226 fun c212 r227 => (unCons r227 fun c213 r228 => (unCons r228 fun c214 r229 => (unCons r229 fun c215 r230 => (unCons r230 fun c216 r231 => (unNil r231 (X (List.set l207 (Int.toNat ((List.length xl4 : Nat) : Int)) (.agg [c210, c211, (.int .i64 (IntKind.i64.wrap (((List.length l207 : Nat) : Int) - 1))), c213, c214, c215, c216])) xl5 xi6 (IntKind.i64.wrap (xi7 + 1))))))))))))) else none)) else none))))))))))))))) else none))))))) else none)) else none)) else none)) else none)) else none)) else none)))))))))))) else none) else (bif ((decide (0 ≤ xi7)) && (decide (xi7 < ((List.length xl5 : Nat) : Int)))) then (nthK xl5 (Int.toNat xi7) fun e246 => (V.asAgg e246 fun l247 => (unCons l247 fun c248 r294 => (unCons r294 fun c249 r295 => (unCons r295 fun c250 r296 => (unCons r296 fun c251 r297 => (unCons r297 fun c252 r298 => (unCons r298 fun c253 r299 => (unCons r299 fun c254 r300 => (unNil r300 (V.asSl c253 fun z263 l264 => (G 24 [(.sl 7 (xl4 ++ [(.agg [(.int .i64 n14), (.int .i64 xi6), (.int .i64 0), (.int .i64 (-1)), (.int .i64 (-1)), (.int .i64 (-1)), (.str s32)])])), (.sl z263 l264), (.int .i64 ((List.length xl4 : Nat) : Int))] fun o265 => (unCons o265 fun c266 r267 => (V.asSl c266 fun z268 l269 => (bif (z268 == 7) then (unNil r267 (bif ((decide (0 ≤ ((List.length xl4 : Nat) : Int))) && (decide (((List.length xl4 : Nat) : Int) < ((List.length l269 : Nat) : Int)))) then (nthK l269 (Int.toNat ((List.length xl4 : Nat) : Int)) fun e270 => (V.asAgg e270 fun l271 => (unCons l271 fun c272 r287 => (unCons r287 fun c273 r288 => (unCons r288 fun c274 r289 => (unCons r289 fun c275 r290 => (unCons r290 fun c276 r291 => (unCons r291 fun c277 r292 => (unCons r292 fun c278 r293 => (unNil r293 (X (List.set l269 (Int.toNat ((List.length xl4 : Nat) : Int)) (.agg [c272, c273, (.int .i64 (IntKind.i64.wrap (((List.length l269 : Nat) : Int) - 1))), c275, c276, c277, c278])) xl5 xi6 (IntKind.i64.wrap (xi7 + 1))))))))))))) else none)) else none))))))))))))))) else none)) else none)))))))))))) else none) else (bif ((decide (0 ≤ xi7)) && (decide (xi7 < ((List.length xl5 : Nat) : Int)))) then (nthK xl5 (Int.toNat xi7) fun e308 => (V.asAgg e308 fun l309 => (unCons l309 fun c310 r356 => (unCons r356 fun c311 r357 => (unCons r357 fun c312 r358 => (unCons r358 fun c313 r359 => (unCons r359 fun c314 r360 => (unCons r360 fun c315 r361 => (unCons r361 fun c316 r362 => (unNil r362 (V.asSl c315 fun z325 l326 => (G 24 [(.sl 7 (xl4 ++ [(.agg [(.int .i64 n14), (.int .i64 xi6), (.int .i64 0), (.int .i64 (-1)), (.int .i64 (-1)), (.int .i64 (-1)), (.str s32)])])), (.sl z325 l326), (.int .i64 ((List.length xl4 : Nat) : Int))] fun o327 => (unCons o327 fun c328 r329 => (V.asSl c328 fun z330 l331 => (bif (z330 == 7) then (unNil r329 (bif ((decide (0 ≤ ((List.length xl4 : Nat) : Int))) && (decide (((List.length xl4 : Nat) : Int) < ((List.length l331 : Nat) : Int)))) then (nthK l331 (Int.toNat ((List.length xl4 : Nat) : Int)) fun e332 => (V.asAgg e332 fun l333 => (unCons l333 fun c334 r349 => (unCons r349 fun c335 r350 => (unCons r350 fun c336 r351 => (unCons r351 fun c337 r352 => (unCons r352 fun c338 r353 => (unCons r353 fun c339 r354 => (unCons r354 fun c340 r355 => (unNil r355 (X (List.set l331 (Int.toNat ((List.length xl4 : Nat) : Int)) (.agg [c334, c335, (.int .i64 (IntKind.i64.wrap (((List.length l331 : Nat) : Int) - 1))), c337, c338, c339, c340])) xl5 xi6 (IntKind.i64.wrap (xi7 + 1))))))))))))) else none)) else none))))))))))))))) else none)) else none)))))))))))) else none) else none)))))))))))) else none)) else none)))))) else none) else (Ko xl4))
def l24_0g {R : Type} (G : ORC R) (k : Nat) (Ko : List V → Option R) : Nat → List V → List V → Int → Int → Option R
  | 0 => fun _ _ _ _ => none
  | j + 1 => b24_0 G k (l24_0g G k Ko j) Ko
def l24_0 {R : Type} (G : ORC R) (k : Nat) (xl4 xl5 : List V) (xi6 xi7 : Int) (Ko : List V → Option R) : Option R := l24_0g G k Ko k xl4 xl5 xi6 xi7
def rd24_0 {R : Type} (G : ORC R) (k : Nat) (K : Ex → St → Option R) (j : Nat) (vs : List V) : Option R := match vs with
  | [(.sl 7 xl4), (.sl 7 xl5), (.int .i64 xi6), (.int .i64 xi7)] => l24_0g G k (fun yl378 => K .normal (P24_0x.inst [(.sl 7 yl378)])) j xl4 xl5 xi6 xi7
  | _ => none
def L24 {R : Type} (G : ORC R) (k : Nat) : Nat → St → (Ex → St → Option R) → Option R
  | 0, S, K => P24_0h.mat S fun vs => rd24_0 G k K k vs
  | _, _, _ => none
def f24 {R : Type} (G : ORC R) (k : Nat) (al1 al2 : List V) (ai3 : Int) (K : List V → Option R) : Option R :=
  (l24_0 G k al1 al2 ai3 0 (fun yl377 => (K [(.sl 7 yl377)])))
noncomputable def D24_0 : LoopD := { id := 0, body := loopAt 0 (bodyOf Try.f24), head := P24_0h, out := P24_0x, ret := default }
theorem l24_0_is {R : Type} (G : ORC R) (k : Nat) (X : List V → Option R) (K : Ex → St → Option R) (xl4 xl5 : List V) (xi6 xi7 : Int) :
    roundOf (TAB.env 24) G (L24 G k) D24_0 X K [(.sl 7 xl4), (.sl 7 xl5), (.int .i64 xi6), (.int .i64 xi7)] = b24_0 G k (fun xl4 xl5 xi6 xi7 => X [(.sl 7 xl4), (.sl 7 xl5), (.int .i64 xi6), (.int .i64 xi7)]) (fun yl378 => K .normal (P24_0x.inst [(.sl 7 yl378)])) xl4 xl5 xi6 xi7 := by kernel_rfl
theorem f24_is {R : Type} (G : ORC R) (k : Nat) (K : List V → Option R) (al1 al2 : List V) (ai3 : Int) :
    callF (TAB.env 24) G (L24 G k) Try.f24 S24 [(.sl 7 al1), (.sl 7 al2), (.int .i64 ai3)] K = f24 G k al1 al2 ai3 K := by kernel_rfl
theorem li24_0 {R : Type} (G : ORC R) (k : Nat) : LoopIs (TAB.env 24) G (L24 G k) 0 (loopAt 0 (bodyOf Try.f24)) :=
  ⟨D24_0, fun j vs K => rd24_0 G k K j vs, k, rfl, rfl, by kernel_rfl, by kernel_rfl, by kernel_rfl, (fun vs K => by unfold rd24_0; dsimp only; split <;> rfl),
    (fun j vs K r h => by
      unfold rd24_0 at h
      dsimp only at h
      split at h
      · rw [l24_0_is]; exact h
      · cases h), (fun S K r h => h)⟩
theorem lo24 : loopsOf (bodyOf Try.f24) = [(0, loopAt 0 (bodyOf Try.f24))] := by kernel_rfl
theorem la24 {R : Type} (G : ORC R) (k : Nat) : LoopsAre (TAB.env 24) G (L24 G k) (bodyOf Try.f24) :=
  loopsAre_of (by rw [lo24]; intro p hp; simp only [List.mem_cons, List.not_mem_nil, or_false] at hp; subst hp; exact li24_0 G k)
def g24 {R : Type} (G : ORC R) (k : Nat) (args : List V) (K : List V → Option R) : Option R := match args with
  | [(.sl 7 al1), (.sl 7 al2), (.int .i64 ai3)] => f24 G k al1 al2 ai3 K
  | _ => none
theorem s24 {R : Type} {G : ORC R} {k : Nat} (hG : Sound Try.prog TAB G) (args : List V) (K : List V → Option R) (r : R) (h : g24 G k args K = some r) : ∃ o, CallOK Try.prog TAB.env 24 args o ∧ K o = some r := by
  unfold g24 at h
  split at h
  · rw [← f24_is] at h
    exact callF_sound TAB_chk MO hG Try.func24 (sg := S24) (by kernel_rfl) (by kernel_rfl) (la24 G k) h
  · cases h
end Go.Proofs.Ytjbppcgcblfkoaa.Vm
open Go Go.VM
set_option linter.unusedVariables false
set_option maxRecDepth 100000
set_option maxHeartbeats 4000000
namespace Go.Proofs.Ytjbppcgcblfkoaa.Vm
/-! ### cotillion/cotillionref13.Nodes: function 15 -/
def L15 {R : Type} (_ : ORC R) (_ : Nat) : Nat → St → (Ex → St → Option R) → Option R := fun _ _ _ => none
def f15 {R : Type} (G : ORC R) (k : Nat) (as1 : ByteArray) (ai2 ai3 : Int) (al4 al5 : List V) (al6 al7 : List V) (ai8 : Int) (K : List V → Option R) : Option R :=
  (G 24 [(.sl 7 [(.agg [(.int .i64 2), (.int .i64 (-1)), (.int .i64 0), (.int .i64 (-1)), (.int .i64 (-1)), (.int .i64 (-1)), (.str ⟨#[]⟩)])]), (.sl 7 al7), (.int .i64 0)] fun o9 => (unCons o9 fun c10 r11 => (V.asSl c10 fun z12 l13 => (bif (z12 == 7) then (unNil r11 (bif (decide (0 < ((List.length l13 : Nat) : Int))) then (nthK l13 0 fun e14 => (V.asAgg e14 fun l15 => (unCons l15 fun c16 r31 => (unCons r31 fun c17 r32 => (unCons r32 fun c18 r33 => (unCons r33 fun c19 r34 => (unCons r34 fun c20 r35 => (unCons r35 fun c21 r36 => (unCons r36 fun c22 r37 => (unNil r37 (K [(.sl 7 (List.set l13 0 (.agg [c16, c17, (.int .i64 (IntKind.i64.wrap (((List.length l13 : Nat) : Int) - 1))), c19, c20, c21, c22])))]))))))))))) else none)) else none))))
theorem f15_is {R : Type} (G : ORC R) (k : Nat) (K : List V → Option R) (as1 : ByteArray) (ai2 ai3 : Int) (al4 al5 : List V) (al6 al7 : List V) (ai8 : Int) :
    callF (TAB.env 15) G (L15 G k) Try.f15 S15 [(.agg [(.str as1), (.int .i64 ai2), (.int .i64 ai3), (.sl 3 al4), (.sl 3 al5), (.sl 3 al6), (.sl 7 al7), (.int .i64 ai8)])] K = f15 G k as1 ai2 ai3 al4 al5 al6 al7 ai8 K := by kernel_rfl
theorem lo15 : loopsOf (bodyOf Try.f15) = [] := by kernel_rfl
theorem la15 {R : Type} (G : ORC R) (k : Nat) : LoopsAre (TAB.env 15) G (L15 G k) (bodyOf Try.f15) :=
  loopsAre_of (by rw [lo15]; intro p hp; cases hp)
def g15 {R : Type} (G : ORC R) (k : Nat) (args : List V) (K : List V → Option R) : Option R := match args with
  | [(.agg [(.str as1), (.int .i64 ai2), (.int .i64 ai3), (.sl 3 al4), (.sl 3 al5), (.sl 3 al6), (.sl 7 al7), (.int .i64 ai8)])] => f15 G k as1 ai2 ai3 al4 al5 al6 al7 ai8 K
  | _ => none
theorem s15 {R : Type} {G : ORC R} {k : Nat} (hG : Sound Try.prog TAB G) (args : List V) (K : List V → Option R) (r : R) (h : g15 G k args K = some r) : ∃ o, CallOK Try.prog TAB.env 15 args o ∧ K o = some r := by
  unfold g15 at h
  split at h
  · rw [← f15_is] at h
    exact callF_sound TAB_chk MO hG Try.func15 (sg := S15) (by kernel_rfl) (by kernel_rfl) (la15 G k) h
  · cases h
end Go.Proofs.Ytjbppcgcblfkoaa.Vm
open Go Go.VM
set_option linter.unusedVariables false
set_option maxRecDepth 100000
set_option maxHeartbeats 8000000
namespace Go.Proofs.Ytjbppcgcblfkoaa.Vm
section
variable {R : Type} {G : ORC R} {k : Nat} {K : List V → Option R}
def KindOK (G : ORC R) : Prop := ∀ (v : V) (m d : Nat) (K : List V → Option R), StateS m d v → W (fun o => o = [.int .i64 (ndKind v)]) K (G 38 [v] K)
theorem kind_ok : KindOK (fun _ args (K : List V → Option R) => g38 G k args K) := by
  intro v m d K hv
  cases d with
  | zero => exact hv.elim
  | succ d =>
  obtain ⟨kind, nm, en, ex, tr, kids, rfl, _⟩ := hv
  show W _ K (f38 G k kind nm en ex tr kids 0 K)
  unfold f38
  have e : ndKind (.agg [.int .i64 kind, .str nm, .sl 8 en, .sl 8 ex, .sl 5 tr, .sl 7 kids, .int .i64 0]) = if kind = 3 then 4 else if kind = 4 then 5 else if kind = 2 then 3 else if kids.length = 0 then 1 else 2 := rfl
  rw [e]
  refine W_beqI (fun h => ?_) (fun h => ?_)
  · exact W_ret (by rw [if_pos h])
  refine W_beqI (fun h1 => ?_) (fun h1 => ?_)
  · exact W_ret (by rw [if_neg h, if_pos h1])
  refine W_beqI (fun h2 => ?_) (fun h2 => ?_)
  · exact W_ret (by rw [if_neg h, if_neg h1, if_pos h2])
  refine W_beqI (fun h3 => ?_) (fun h3 => ?_)
  · exact W_ret (by rw [if_neg h, if_neg h1, if_neg h2, if_pos (by omega)])
  · exact W_ret (by rw [if_neg h, if_neg h1, if_neg h2, if_neg (by omega)])
def IsStOK (G : ORC R) : Prop := ∀ (n : Nd) (K : List V → Option R), W (fun o => o = [.bool (decide (n.kind ≤ 3))]) K (G 36 [n.v] K)
theorem isst_ok : IsStOK (fun _ args (K : List V → Option R) => g36 G k args K) := by
  intro n K
  show W _ K (f36 G k n.kind n.parent n.last n.init n.entry n.exit n.name K)
  unfold f36
  exact W_ret rfl
def PutOK (d : Nat) (G : ORC R) : Prop := ∀ (l : List Nd) (kids : List V) (up : Nat) (K : List V → Option R), (∀ s ∈ kids, StateS 2 d s) → (∀ s r, kids = s :: r → kindV s ≤ 2) → up < l.length → l.length + nszL d kids ≤ 1000 →
  W (fun o => o = [.sl 7 ((fixup l up l.length kids ++ forest d up l.length kids).map Nd.v)]) K (G 24 [.sl 7 (l.map Nd.v), .sl 7 kids, .int .i64 up] K)
theorem fixup_one {P : List Nd} {nd : Nd} {n : Nat} {s : V} {kids : List V} (hn : P.length = n) (hi : nd.init = -1) (hk : nd.kind = ndKind s) (hs : stKids s = kids) :
    fixup (P ++ [nd]) n (n + 1) kids = P ++ [{ nd with init := if ndKind s = 2 then (n : Int) + 1 else -1 }] := by
  subst hn
  unfold fixup
  cases kids with
  | nil =>
    have h2 : ndKind s ≠ 2 := by unfold ndKind; rw [hs]; simp; omega
    simp only [if_neg h2]
    rw [← hi]
  | cons a r =>
    simp only [List.getElem?_append_right (Nat.le_refl _), Nat.sub_self, List.getElem?_cons_zero]
    by_cases h2 : ndKind s = 2
    · rw [if_pos ⟨by omega, by omega⟩, if_pos h2]; simp
    · rw [if_neg (by omega), if_neg h2, ← hi]
theorem put_loop {d : Nat} (hKd : KindOK G) (hSt : IsStOK G) (hP : ∀ d', d = d' + 1 → PutOK d' G) {Q : List V → Prop} {K : List V → Option R} {Ko : List V → Option R} {l0 : List Nd} {kids : List V} {up : Nat}
    (hk : ∀ s ∈ kids, StateS 2 d s) (hh : ∀ s r, kids = s :: r → kindV s ≤ 2) (hup : up < l0.length) (hsz : l0.length + nszL d kids ≤ 1000)
    (hKo : W Q K (Ko ((fixup l0 up l0.length kids ++ forest d up l0.length kids).map Nd.v))) :
    ∀ (B A : List V) (j : Nat), kids = A ++ B → B.length < j → W Q K (l24_0g G k Ko j ((fixup l0 up l0.length A ++ forest d up l0.length A).map Nd.v) (A ++ B) up A.length)
  | B, A, 0, h1, h2 => by omega
  | [], A, j + 1, h1, h2 => by
    show W Q K (b24_0 G k (l24_0g G k Ko j) Ko ((fixup l0 up l0.length A ++ forest d up l0.length A).map Nd.v) (A ++ []) up A.length)
    unfold b24_0
    refine W_no (by simp) ?_
    rw [List.append_nil] at h1
    rw [← h1]; exact hKo
  | b :: B, A, j + 1, h1, h2 => by
    show W Q K (b24_0 G k (l24_0g G k Ko j) Ko ((fixup l0 up l0.length A ++ forest d up l0.length A).map Nd.v) (A ++ b :: B) up A.length)
    unfold b24_0
    have hb : StateS 2 d b := hk b (by rw [h1]; simp)
    have hbk := hb
    cases d with
    | zero => exact hb.elim
    | succ d =>
    simp only [List.length_cons] at h2
    have hAl := nszL_len (d := d) (l := A)
    have hnsz : nszL (d + 1) kids = nszL (d + 1) A + (1 + nszL d (stKids b) + nszL (d + 1) B) := by rw [h1, nszL_app, nszL_cons]
    obtain ⟨kind, nm, en, ex, tr, kb, rfl, x1, x2, x3, x4, x5, x6, x7, x8, x9, x10, x11, x12, x13⟩ := hb
    have hkb : stKids (.agg [.int .i64 kind, .str nm, .sl 8 en, .sl 8 ex, .sl 5 tr, .sl 7 kb, .int .i64 0]) = kb := rfl
    have hnb : stName (.agg [.int .i64 kind, .str nm, .sl 8 en, .sl 8 ex, .sl 5 tr, .sl 7 kb, .int .i64 0]) = nm := rfl
    have hkk : kindV (.agg [.int .i64 kind, .str nm, .sl 8 en, .sl 8 ex, .sl 5 tr, .sl 7 kb, .int .i64 0]) = kind := rfl
    generalize hbe : (V.agg [.int .i64 kind, .str nm, .sl 8 en, .sl 8 ex, .sl 5 tr, .sl 7 kb, .int .i64 0]) = b at *
    have hcl : (fixup l0 up l0.length A ++ forest (d + 1) up l0.length A).length = l0.length + nszL (d + 1) A := by rw [List.length_append, fixup_len, forest_len]
    have hlt : (A.length : Int) < (((A ++ b :: B).length : Nat) : Int) := by simp; omega
    have hnthb : ∀ v, (A ++ b :: B)[Int.toNat (A.length : Int)]? = some v → v = b := fun v hv => by simp at hv; exact hv.symm
    refine W_yes hlt (W_and (W_yes (by omega) (W_yes hlt ?_)))
    refine W_nth (by omega) (fun v hv _ => ?_)
    rw [hnthb v hv, ← hbe]
    refine W_asAgg ?_
    rw [hbe]
    refine W_call (hKd b 2 (d + 1) _ hbk) ?_
    rintro _ rfl
    refine W_unCons (W_asInt (W_kd (W_unNil ?_)))
    refine W_and (W_yes (by omega) (W_yes hlt ?_))
    refine W_nth (by omega) (fun v hv _ => ?_)
    rw [hnthb v hv, ← hbe]
    refine W_asAgg (W_unCons (W_unCons (W_unCons (W_unCons (W_unCons (W_unCons (W_unCons (W_unNil (W_asStr ?_)))))))))
    rw [hbe]
    generalize hcur : fixup l0 up l0.length A ++ forest (d + 1) up l0.length A = cur at *
    generalize hn0 : cur.length = n at *
    have hnd : List.map Nd.v cur ++ [.agg [.int .i64 (ndKind b), .int .i64 (up : Int), .int .i64 0, .int .i64 (-1), .int .i64 (-1), .int .i64 (-1), .str nm]] = (cur ++ [(⟨ndKind b, up, 0, -1, -1, -1, nm⟩ : Nd)]).map Nd.v := by rw [List.map_append]; rfl
    rw [hnd]
    refine W_yes (by rw [List.length_map]; omega) ?_
    simp only [List.length_map, hn0, List.length_append, List.length_cons, List.length_nil]
    have hupn : up < n := by omega
    refine W_and (W_yes (by omega) (W_yes (by omega) ?_))
    refine W_nthN (by simp; omega) (fun n1 hn1 => W_nd ?_)
    refine W_unCons (W_unCons (W_unCons (W_unCons (W_unCons (W_unCons (W_unCons (W_unNil (W_asInt (W_kd ?_)))))))))
    have hn1' : cur[up]? = some n1 := by
      rw [Int.toNat_natCast, List.getElem?_append_left (by omega)] at hn1; exact hn1
    -- what the parent is told
    have hcur1 : A = [] → cur = l0 := fun h => by rw [← hcur, h, fixup_nil]; simp [forest]
    have hcur2 : A ≠ [] → ¬ (n1.init < 0 ∧ n1.kind = 2) := by
      intro hA hc
      rw [← hcur, List.getElem?_append_left (by rw [fixup_len]; exact hup)] at hn1'
      cases A with
      | nil => exact hA rfl
      | cons a r =>
        have e0 : l0[up]? = some l0[up] := List.getElem?_eq_getElem hup
        unfold fixup at hn1'
        simp only [e0] at hn1'
        by_cases hq : l0[up].init < 0 ∧ l0[up].kind = 2
        · rw [if_pos hq, List.getElem?_set_self hup] at hn1'
          cases hn1'
          have := hc.1
          simp at this; omega
        · rw [if_neg hq, e0] at hn1'
          cases hn1'; exact hq hc
    have hfx : fixup l0 up l0.length (A ++ [b]) ++ forest (d + 1) up l0.length A = if n1.init < 0 ∧ n1.kind = 2 then cur.set up { n1 with init := n } else cur := by
      by_cases hA : A = []
      · have hc := hcur1 hA
        subst hA
        have hn00 : n = l0.length := by rw [← hn0, hc]
        rw [← hn00]
        rw [hc] at hn1' ⊢
        unfold fixup
        simp only [List.nil_append, hn1']
        rw [show forest (d + 1) (up : Int) n [] = [] by rw [forest], List.append_nil]
      · rw [if_neg (hcur2 hA), ← hcur]
        congr 1
        unfold fixup
        cases A with
        | nil => exact absurd rfl hA
        | cons a r => cases l0[up]? <;> rfl
    -- the rest of the round
    have fin : ∀ L2 : List Nd, L2 = (fixup l0 up l0.length (A ++ [b]) ++ forest (d + 1) up l0.length A) ++ [(⟨ndKind b, up, 0, -1, -1, -1, nm⟩ : Nd)] → ∀ (n2 : Nd) (len : Int), len = ((fixup L2 n (n + 1) kb ++ forest d n (n + 1) kb).length : Int) - 1 → (fixup L2 n (n + 1) kb ++ forest d n (n + 1) kb)[n]? = some n2 →
        (fixup L2 n (n + 1) kb ++ forest d n (n + 1) kb).set n { n2 with last := len } = fixup l0 up l0.length (A ++ [b]) ++ forest (d + 1) up l0.length (A ++ [b]) := by
      intro L2 hL2 n2 len hlen hn2
      have hPl : (fixup l0 up l0.length (A ++ [b]) ++ forest (d + 1) up l0.length A).length = n := by rw [List.length_append, fixup_len, forest_len]; omega
      generalize hPe : fixup l0 up l0.length (A ++ [b]) ++ forest (d + 1) up l0.length A = P at *
      rw [hL2] at hn2 hlen ⊢
      rw [fixup_one hPl rfl rfl hkb] at hn2 hlen ⊢
      rw [List.append_assoc, List.getElem?_append_right (by omega)] at hn2
      rw [hPl, Nat.sub_self] at hn2
      simp only [List.cons_append, List.nil_append, List.getElem?_cons_zero, Option.some.injEq] at hn2
      rw [List.append_assoc, ← hPl, List.set_append_right _ _ (Nat.le_refl _), Nat.sub_self]
      simp only [List.cons_append, List.nil_append, List.set_cons_zero]
      rw [forest_app, ← List.append_assoc, hPe]
      congr 1
      rw [forest, hkb, hnb, show forest (d + 1) (up : Int) (l0.length + nszL (d + 1) A + 1 + nszL d kb) [] = [] by rw [forest], List.append_nil]
      have hnn : l0.length + nszL (d + 1) A = n := by omega
      rw [hnn, ← hn2, hPl]
      congr 1
      rw [hlen]
      simp only [List.length_append, List.length_cons, List.length_nil, forest_len, hPl]
      congr 1
      omega
    have rest : ∀ (L2 : List Nd), L2 = (fixup l0 up l0.length (A ++ [b]) ++ forest (d + 1) up l0.length A) ++ [(⟨ndKind b, up, 0, -1, -1, -1, nm⟩ : Nd)] → ∀ F : List V → Option R,
        (∀ n2 : Nd, (fixup L2 n (n + 1) kb ++ forest d n (n + 1) kb)[n]? = some n2 → W Q K (F [.sl 7 ((fixup L2 n (n + 1) kb ++ forest d n (n + 1) kb).map Nd.v)])) → W Q K (G 24 [.sl 7 (L2.map Nd.v), .sl 7 kb, .int .i64 (n : Int)] F) := by
      intro L2 hL2 F hF
      have hPl : (fixup l0 up l0.length (A ++ [b]) ++ forest (d + 1) up l0.length A).length = n := by rw [List.length_append, fixup_len, forest_len]; omega
      have hL2l : L2.length = n + 1 := by rw [hL2, List.length_append, hPl]; rfl
      have hsz2 : n + 1 + nszL d kb ≤ 1000 := by rw [hkb] at hnsz; omega
      refine W_call (hP d rfl L2 kb n F x10 x12 (by omega) (by omega)) ?_
      rintro _ rfl
      rw [hL2l]
      have hl : n < (fixup L2 n (n + 1) kb ++ forest d n (n + 1) kb).length := by rw [List.length_append, fixup_len]; omega
      exact hF _ (List.getElem?_eq_getElem hl)
    have hnm1 : ∀ m : Nd, (cur ++ [(⟨ndKind b, up, 0, -1, -1, -1, nm⟩ : Nd)])[Int.toNat (up : Int)]? = some m → m = n1 := fun m hm => by rw [hn1] at hm; cases hm; rfl
    generalize hPe : fixup l0 up l0.length (A ++ [b]) ++ forest (d + 1) up l0.length A = P at hfx rest fin
    refine W_dec (fun hi => ?_) (fun hi => ?_)
    · refine W_and (W_yes (by omega) (W_yes (by omega) ?_))
      refine W_nthN (by simp; omega) (fun m hm => W_nd ?_)
      rw [hnm1 m hm]
      refine W_unCons (W_unCons (W_unCons (W_unCons (W_unCons (W_unCons (W_unCons (W_unNil (W_asInt (W_kd ?_)))))))))
      refine W_beqI (fun hk2 => ?_) (fun hk2 => ?_)
      · have hA : A = [] := Classical.byContradiction fun h => hcur2 h ⟨hi, hk2⟩
        have hbk2 : kindV b ≤ 2 := hh b B (by rw [h1, hA]; rfl)
        have hnk : ndKind b ≤ 3 := by unfold ndKind; split; omega; split; omega; split; omega; split <;> omega
        rw [if_pos ⟨hi, hk2⟩] at hfx
        refine W_and (W_yes (by omega) (W_yes (by omega) ?_))
        refine W_nthN (by simp; omega) (fun m hm => W_nd ?_)
        have hm2 : m = ⟨ndKind b, up, 0, -1, -1, -1, nm⟩ := by
          rw [Int.toNat_natCast, List.getElem?_append_right (by omega), hn0, Nat.sub_self] at hm
          simp at hm; exact hm.symm
        subst hm2
        refine W_unCons (W_unCons (W_unCons (W_unCons (W_unCons (W_unCons (W_unCons (W_unNil (W_asInt (W_kd (W_asInt (W_kd (W_asInt (W_kd (W_asInt (W_kd (W_asInt (W_kd (W_asInt (W_kd (W_asStr ?_))))))))))))))))))))
        refine W_call (hSt ⟨ndKind b, up, 0, -1, -1, -1, nm⟩ _) ?_
        rintro _ rfl
        refine W_unCons (W_asBool (W_unNil (W_yes hnk ?_)))
        refine W_and (W_yes (by omega) (W_yes (by omega) ?_))
        refine W_nthN (by simp; omega) (fun m hm => W_nd ?_)
        rw [hnm1 m hm]
        refine W_unCons (W_unCons (W_unCons (W_unCons (W_unCons (W_unCons (W_unCons (W_unNil ?_)))))))
        have hset : List.set (List.map Nd.v (cur ++ [(⟨ndKind b, up, 0, -1, -1, -1, nm⟩ : Nd)])) (Int.toNat (up : Int)) (V.agg [.int .i64 n1.kind, .int .i64 n1.parent, .int .i64 n1.last, .int .i64 (n : Int), .int .i64 n1.entry, .int .i64 n1.exit, .str n1.name]) = (P ++ [(⟨ndKind b, up, 0, -1, -1, -1, nm⟩ : Nd)]).map Nd.v := by
          rw [Int.toNat_natCast, show V.agg [.int .i64 n1.kind, .int .i64 n1.parent, .int .i64 n1.last, .int .i64 (n : Int), .int .i64 n1.entry, .int .i64 n1.exit, .str n1.name] = ({ n1 with init := n } : Nd).v from rfl, set_map, List.set_append_left _ _ (by omega), hfx]
        rw [hset]
        refine W_and (W_yes (by omega) (W_yes (by omega) ?_))
        refine W_nth (by omega) (fun v hv _ => ?_)
        rw [hnthb v hv, ← hbe]
        refine W_asAgg (W_unCons (W_unCons (W_unCons (W_unCons (W_unCons (W_unCons (W_unCons (W_unNil (W_asSl ?_)))))))))
        rw [hbe]
        refine rest _ rfl _ (fun n2 hn2 => ?_)
        refine W_unCons (W_asSl (W_z (W_unNil ?_)))
        have hlen2 : (fixup (P ++ [(⟨ndKind b, up, 0, -1, -1, -1, nm⟩ : Nd)]) n (n + 1) kb ++ forest d n (n + 1) kb).length = n + 1 + nszL d kb := by
          have hPl : P.length = n := by rw [← hPe, List.length_append, fixup_len, forest_len]; omega
          rw [List.length_append, fixup_len, forest_len, List.length_append, hPl]; rfl
        refine W_and (W_yes (by omega) (W_yes (by rw [List.length_map]; omega) ?_))
        refine W_nthN (by rw [Int.toNat_natCast]; omega) (fun m hm => W_nd ?_)
        rw [Int.toNat_natCast] at hm
        refine W_unCons (W_unCons (W_unCons (W_unCons (W_unCons (W_unCons (W_unCons (W_unNil ?_)))))))
        rw [hkb] at hnsz
        have hw : IntKind.i64.wrap (((List.map Nd.v (fixup (P ++ [(⟨ndKind b, up, 0, -1, -1, -1, nm⟩ : Nd)]) n (n + 1) kb ++ forest d n (n + 1) kb)).length : Int) - 1) = ((fixup (P ++ [(⟨ndKind b, up, 0, -1, -1, -1, nm⟩ : Nd)]) n (n + 1) kb ++ forest d n (n + 1) kb).length : Int) - 1 := by
          rw [List.length_map]; exact wrap_id (by omega)
        rw [hw, wrap_id (n := (A.length : Int) + 1) (by omega)]
        have hset2 : ∀ len : Int, len = ((fixup (P ++ [(⟨ndKind b, up, 0, -1, -1, -1, nm⟩ : Nd)]) n (n + 1) kb ++ forest d n (n + 1) kb).length : Int) - 1 → List.set (List.map Nd.v (fixup (P ++ [(⟨ndKind b, up, 0, -1, -1, -1, nm⟩ : Nd)]) n (n + 1) kb ++ forest d n (n + 1) kb)) (Int.toNat (n : Int)) (V.agg [.int .i64 m.kind, .int .i64 m.parent, .int .i64 len, .int .i64 m.init, .int .i64 m.entry, .int .i64 m.exit, .str m.name]) = (fixup l0 up l0.length (A ++ [b]) ++ forest (d + 1) up l0.length (A ++ [b])).map Nd.v := by
          intro len hlen
          rw [Int.toNat_natCast, show V.agg [.int .i64 m.kind, .int .i64 m.parent, .int .i64 len, .int .i64 m.init, .int .i64 m.entry, .int .i64 m.exit, .str m.name] = ({ m with last := len } : Nd).v from rfl, set_map, fin _ rfl m len hlen hm]
        rw [hset2 _ rfl]
        have e := put_loop hKd hSt hP hk hh hup hsz hKo B (A ++ [b]) j (by rw [h1]; simp) (by omega)
        simp only [List.append_assoc, List.singleton_append, List.length_append, List.length_cons, List.length_nil, Nat.zero_add, Int.natCast_add, Int.natCast_one] at e
        exact e
      · rw [if_neg (by rintro ⟨_, h⟩; exact hk2 h)] at hfx
        rw [← hfx]
        refine W_and (W_yes (by omega) (W_yes (by omega) ?_))
        refine W_nth (by omega) (fun v hv _ => ?_)
        rw [hnthb v hv, ← hbe]
        refine W_asAgg (W_unCons (W_unCons (W_unCons (W_unCons (W_unCons (W_unCons (W_unCons (W_unNil (W_asSl ?_)))))))))
        rw [hbe]
        refine rest _ rfl _ (fun n2 hn2 => ?_)
        refine W_unCons (W_asSl (W_z (W_unNil ?_)))
        have hlen2 : (fixup (P ++ [(⟨ndKind b, up, 0, -1, -1, -1, nm⟩ : Nd)]) n (n + 1) kb ++ forest d n (n + 1) kb).length = n + 1 + nszL d kb := by
          have hPl : P.length = n := by rw [← hPe, List.length_append, fixup_len, forest_len]; omega
          rw [List.length_append, fixup_len, forest_len, List.length_append, hPl]; rfl
        refine W_and (W_yes (by omega) (W_yes (by rw [List.length_map]; omega) ?_))
        refine W_nthN (by rw [Int.toNat_natCast]; omega) (fun m hm => W_nd ?_)
        rw [Int.toNat_natCast] at hm
        refine W_unCons (W_unCons (W_unCons (W_unCons (W_unCons (W_unCons (W_unCons (W_unNil ?_)))))))
        rw [hkb] at hnsz
        have hw : IntKind.i64.wrap (((List.map Nd.v (fixup (P ++ [(⟨ndKind b, up, 0, -1, -1, -1, nm⟩ : Nd)]) n (n + 1) kb ++ forest d n (n + 1) kb)).length : Int) - 1) = ((fixup (P ++ [(⟨ndKind b, up, 0, -1, -1, -1, nm⟩ : Nd)]) n (n + 1) kb ++ forest d n (n + 1) kb).length : Int) - 1 := by
          rw [List.length_map]; exact wrap_id (by omega)
        rw [hw, wrap_id (n := (A.length : Int) + 1) (by omega)]
        have hset2 : ∀ len : Int, len = ((fixup (P ++ [(⟨ndKind b, up, 0, -1, -1, -1, nm⟩ : Nd)]) n (n + 1) kb ++ forest d n (n + 1) kb).length : Int) - 1 → List.set (List.map Nd.v (fixup (P ++ [(⟨ndKind b, up, 0, -1, -1, -1, nm⟩ : Nd)]) n (n + 1) kb ++ forest d n (n + 1) kb)) (Int.toNat (n : Int)) (V.agg [.int .i64 m.kind, .int .i64 m.parent, .int .i64 len, .int .i64 m.init, .int .i64 m.entry, .int .i64 m.exit, .str m.name]) = (fixup l0 up l0.length (A ++ [b]) ++ forest (d + 1) up l0.length (A ++ [b])).map Nd.v := by
          intro len hlen
          rw [Int.toNat_natCast, show V.agg [.int .i64 m.kind, .int .i64 m.parent, .int .i64 len, .int .i64 m.init, .int .i64 m.entry, .int .i64 m.exit, .str m.name] = ({ m with last := len } : Nd).v from rfl, set_map, fin _ rfl m len hlen hm]
        rw [hset2 _ rfl]
        have e := put_loop hKd hSt hP hk hh hup hsz hKo B (A ++ [b]) j (by rw [h1]; simp) (by omega)
        simp only [List.append_assoc, List.singleton_append, List.length_append, List.length_cons, List.length_nil, Nat.zero_add, Int.natCast_add, Int.natCast_one] at e
        exact e
    · rw [if_neg (by rintro ⟨h, _⟩; exact hi h)] at hfx
      rw [← hfx]
      refine W_and (W_yes (by omega) (W_yes (by omega) ?_))
      refine W_nth (by omega) (fun v hv _ => ?_)
      rw [hnthb v hv, ← hbe]
      refine W_asAgg (W_unCons (W_unCons (W_unCons (W_unCons (W_unCons (W_unCons (W_unCons (W_unNil (W_asSl ?_)))))))))
      rw [hbe]
      refine rest _ rfl _ (fun n2 hn2 => ?_)
      refine W_unCons (W_asSl (W_z (W_unNil ?_)))
      have hlen2 : (fixup (P ++ [(⟨ndKind b, up, 0, -1, -1, -1, nm⟩ : Nd)]) n (n + 1) kb ++ forest d n (n + 1) kb).length = n + 1 + nszL d kb := by
        have hPl : P.length = n := by rw [← hPe, List.length_append, fixup_len, forest_len]; omega
        rw [List.length_append, fixup_len, forest_len, List.length_append, hPl]; rfl
      refine W_and (W_yes (by omega) (W_yes (by rw [List.length_map]; omega) ?_))
      refine W_nthN (by rw [Int.toNat_natCast]; omega) (fun m hm => W_nd ?_)
      rw [Int.toNat_natCast] at hm
      refine W_unCons (W_unCons (W_unCons (W_unCons (W_unCons (W_unCons (W_unCons (W_unNil ?_)))))))
      rw [hkb] at hnsz
      have hw : IntKind.i64.wrap (((List.map Nd.v (fixup (P ++ [(⟨ndKind b, up, 0, -1, -1, -1, nm⟩ : Nd)]) n (n + 1) kb ++ forest d n (n + 1) kb)).length : Int) - 1) = ((fixup (P ++ [(⟨ndKind b, up, 0, -1, -1, -1, nm⟩ : Nd)]) n (n + 1) kb ++ forest d n (n + 1) kb).length : Int) - 1 := by
        rw [List.length_map]; exact wrap_id (by omega)
      rw [hw, wrap_id (n := (A.length : Int) + 1) (by omega)]
      have hset2 : ∀ len : Int, len = ((fixup (P ++ [(⟨ndKind b, up, 0, -1, -1, -1, nm⟩ : Nd)]) n (n + 1) kb ++ forest d n (n + 1) kb).length : Int) - 1 → List.set (List.map Nd.v (fixup (P ++ [(⟨ndKind b, up, 0, -1, -1, -1, nm⟩ : Nd)]) n (n + 1) kb ++ forest d n (n + 1) kb)) (Int.toNat (n : Int)) (V.agg [.int .i64 m.kind, .int .i64 m.parent, .int .i64 len, .int .i64 m.init, .int .i64 m.entry, .int .i64 m.exit, .str m.name]) = (fixup l0 up l0.length (A ++ [b]) ++ forest (d + 1) up l0.length (A ++ [b])).map Nd.v := by
        intro len hlen
        rw [Int.toNat_natCast, show V.agg [.int .i64 m.kind, .int .i64 m.parent, .int .i64 len, .int .i64 m.init, .int .i64 m.entry, .int .i64 m.exit, .str m.name] = ({ m with last := len } : Nd).v from rfl, set_map, fin _ rfl m len hlen hm]
      rw [hset2 _ rfl]
      have e := put_loop hKd hSt hP hk hh hup hsz hKo B (A ++ [b]) j (by rw [h1]; simp) (by omega)
      simp only [List.append_assoc, List.singleton_append, List.length_append, List.length_cons, List.length_nil, Nat.zero_add, Int.natCast_add, Int.natCast_one] at e
      exact e
theorem put_ok {d : Nat} (hk : 10000 ≤ k) (hKd : KindOK G) (hSt : IsStOK G) (hP : ∀ d', d = d' + 1 → PutOK d' G) : PutOK d (fun _ args (K : List V → Option R) => g24 G k args K) := by
  intro l kids up K h1 h2 h3 h4
  show W _ K (f24 G k (l.map Nd.v) kids up K)
  unfold f24 l24_0
  have hlen : kids.length ≤ nszL d kids ∨ kids = [] := by
    cases d with
    | zero =>
      cases kids with
      | nil => exact .inr rfl
      | cons a r => exact (h1 a (by simp)).elim
    | succ d => exact .inl nszL_len
  have hl2 : kids.length < k := by
    rcases hlen with h | h
    · omega
    · rw [h]; simp; omega
  have e := put_loop (Q := fun o => o = [.sl 7 ((fixup l up l.length kids ++ forest d up l.length kids).map Nd.v)]) (K := K) (k := k) (Ko := fun yl => K [.sl 7 yl]) hKd hSt hP h1 h2 h3 h4 (W_ret rfl) kids [] k rfl hl2
  rw [fixup_nil, List.nil_append] at e
  have hf : forest d (up : Int) l.length [] = [] := by cases d <;> rw [forest]
  rw [hf, List.append_nil] at e
  exact e
def NodesOK (G : ORC R) : Prop := ∀ (nm : ByteArray) (x y : Int) (a b c states : List V) (z : Int) (K : List V → Option R), (∀ s ∈ states, StateS 2 3 s ∧ kindV s ≤ 2) → nszL 3 states ≤ 900 →
  W (fun o => o = [.sl 7 ((ndsOf states).map Nd.v)]) K (G 15 [.agg [.str nm, .int .i64 x, .int .i64 y, .sl 3 a, .sl 3 b, .sl 3 c, .sl 7 states, .int .i64 z]] K)
theorem nodes_ok (hP : PutOK 3 G) : NodesOK (fun _ args (K : List V → Option R) => g15 G k args K) := by
  intro nm x y a b c states z K h1 h2
  show W _ K (f15 G k nm x y a b c states z K)
  unfold f15
  refine W_call (hP [(⟨2, -1, 0, -1, -1, -1, ⟨#[]⟩⟩ : Nd)] states 0 _ (fun s hs => (h1 s hs).1) (fun s r e => (h1 s (by rw [e]; simp)).2) (by simp) (by simp; omega)) ?_
  rintro _ rfl
  refine W_unCons (W_asSl (W_z (W_unNil ?_)))
  have hl : (fixup [(⟨2, -1, 0, -1, -1, -1, ⟨#[]⟩⟩ : Nd)] 0 1 states ++ forest 3 (0 : Nat) 1 states).length = 1 + nszL 3 states := by rw [List.length_append, fixup_len, forest_len]; rfl
  simp only [List.length_cons, List.length_nil, Nat.zero_add, List.length_map, hl]
  have hl0 : (0 : Int) < ((1 + nszL 3 states : Nat) : Int) := by omega
  refine W_yes (by omega) ?_
  refine W_nthN (by rw [hl]; omega) (fun n hn => W_nd ?_)
  refine W_unCons (W_unCons (W_unCons (W_unCons (W_unCons (W_unCons (W_unCons (W_unNil ?_)))))))
  rw [wrap_id (by omega)]
  refine W_ret ?_
  have e : (fixup [(⟨2, -1, 0, -1, -1, -1, ⟨#[]⟩⟩ : Nd)] 0 1 states ++ forest 3 (0 : Nat) 1 states).set 0 { n with last := ((1 + nszL 3 states : Nat) : Int) - 1 } = ndsOf states := by
    have hq : ((1 + nszL 3 states : Nat) : Int) - 1 = (nszL 3 states : Nat) := by omega
    rw [hq]
    unfold ndsOf
    cases states with
    | nil =>
      rw [fixup_nil] at hn ⊢
      simp at hn; subst hn; rfl
    | cons s r =>
      have hf : fixup [(⟨2, -1, 0, -1, -1, -1, ⟨#[]⟩⟩ : Nd)] 0 1 (s :: r) = [⟨2, -1, 0, 1, -1, -1, ⟨#[]⟩⟩] := by unfold fixup; simp
      rw [hf] at hn ⊢
      simp at hn; subst hn; simp
  rw [← e, ← set_map]; rfl
end
end Go.Proofs.Ytjbppcgcblfkoaa.Vm
open Go Go.VM
set_option linter.unusedVariables false
set_option maxRecDepth 100000
set_option maxHeartbeats 4000000
namespace Go.Proofs.Ytjbppcgcblfkoaa.Vm
/-! ### cotillion/cotillionref13.Find: function 39 -/
def P39_0h : Pat := { tmps := unds [.var (.sl 7) .ro, .var .str .pr, .undef, .undef, .undef, .var (.int .i64) .pr] 14 [], boxes := nons [] 20 [] }
def P39_0x : Pat := { tmps := unds [] 20 [], boxes := nons [] 20 [] }
def P39_0r : Pat := { tmps := unds [.undef, .undef, .undef, .undef, .var (.int .i64) .pr] 15 [], boxes := nons [] 20 [] }
def b39_0 {R : Type} (G : ORC R) (k : Nat) (X : List V → ByteArray → Int → Option R) (Ko : Unit → Option R) (Kr : Int → Option R) (xl3 : List V) (xs4 : ByteArray) (xi5 : Int) : Option R :=
  (bif (decide (xi5 < ((List.length xl3 : Nat) : Int))) then (bif ((decide (0 ≤ xi5)) && (decide (xi5 < ((List.length xl3 : Nat) : Int)))) then (nthK xl3 (Int.toNat xi5) fun e6 => (V.asAgg e6 fun l7 => (unCons l7 fun c8 r24 => (unCons r24 fun c9 r25 => (unCons r25 fun c10 r26 => (unCons r26 fun c11 r27 => (unCons r27 fun c12 r28 => (unCons r28 fun c13 r29 => (unCons r29 fun c14 r30 => (unNil r30 (V.asStr c14 fun s23 => (bif (ByteArray.toList s23 == ByteArray.toList xs4) then (Kr xi5) else (X xl3 xs4 (IntKind.i64.wrap (xi5 + 1))))))))))))))) else none) else (Ko ()))
def l39_0g {R : Type} (G : ORC R) (k : Nat) (Ko : Unit → Option R) (Kr : Int → Option R) : Nat → List V → ByteArray → Int → Option R
  | 0 => fun _ _ _ => none
  | j + 1 => b39_0 G k (l39_0g G k Ko Kr j) Ko Kr
def l39_0 {R : Type} (G : ORC R) (k : Nat) (xl3 : List V) (xs4 : ByteArray) (xi5 : Int) (Ko : Unit → Option R) (Kr : Int → Option R) : Option R := l39_0g G k Ko Kr k xl3 xs4 xi5
def rd39_0 {R : Type} (G : ORC R) (k : Nat) (K : Ex → St → Option R) (j : Nat) (vs : List V) : Option R := match vs with
  | [(.sl 7 xl3), (.str xs4), (.int .i64 xi5)] => l39_0g G k (fun _ => K .normal (P39_0x.inst [])) (fun yi32 => K .ret (P39_0r.inst [(.int .i64 yi32)])) j xl3 xs4 xi5
  | _ => none
def L39 {R : Type} (G : ORC R) (k : Nat) : Nat → St → (Ex → St → Option R) → Option R
  | 0, S, K => P39_0h.mat S fun vs => rd39_0 G k K k vs
  | _, _, _ => none
def f39 {R : Type} (G : ORC R) (k : Nat) (al1 : List V) (as2 : ByteArray) (K : List V → Option R) : Option R :=
  (l39_0 G k al1 as2 1 (fun (_ : Unit) => (K [(.int .i64 (-1))])) (fun yi31 => (K [(.int .i64 yi31)])))
noncomputable def D39_0 : LoopD := { id := 0, body := loopAt 0 (bodyOf Try.f39), head := P39_0h, out := P39_0x, ret := P39_0r }
theorem l39_0_is {R : Type} (G : ORC R) (k : Nat) (X : List V → Option R) (K : Ex → St → Option R) (xl3 : List V) (xs4 : ByteArray) (xi5 : Int) :
    roundOf (TAB.env 39) G (L39 G k) D39_0 X K [(.sl 7 xl3), (.str xs4), (.int .i64 xi5)] = b39_0 G k (fun xl3 xs4 xi5 => X [(.sl 7 xl3), (.str xs4), (.int .i64 xi5)]) (fun _ => K .normal (P39_0x.inst [])) (fun yi32 => K .ret (P39_0r.inst [(.int .i64 yi32)])) xl3 xs4 xi5 := by kernel_rfl
theorem f39_is {R : Type} (G : ORC R) (k : Nat) (K : List V → Option R) (al1 : List V) (as2 : ByteArray) :
    callF (TAB.env 39) G (L39 G k) Try.f39 S39 [(.sl 7 al1), (.str as2)] K = f39 G k al1 as2 K := by kernel_rfl
theorem li39_0 {R : Type} (G : ORC R) (k : Nat) : LoopIs (TAB.env 39) G (L39 G k) 0 (loopAt 0 (bodyOf Try.f39)) :=
  ⟨D39_0, fun j vs K => rd39_0 G k K j vs, k, rfl, rfl, by kernel_rfl, by kernel_rfl, by kernel_rfl, (fun vs K => by unfold rd39_0; dsimp only; split <;> rfl),
    (fun j vs K r h => by
      unfold rd39_0 at h
      dsimp only at h
      split at h
      · rw [l39_0_is]; exact h
      · cases h), (fun S K r h => h)⟩
theorem lo39 : loopsOf (bodyOf Try.f39) = [(0, loopAt 0 (bodyOf Try.f39))] := by kernel_rfl
theorem la39 {R : Type} (G : ORC R) (k : Nat) : LoopsAre (TAB.env 39) G (L39 G k) (bodyOf Try.f39) :=
  loopsAre_of (by rw [lo39]; intro p hp; simp only [List.mem_cons, List.not_mem_nil, or_false] at hp; subst hp; exact li39_0 G k)
def g39 {R : Type} (G : ORC R) (k : Nat) (args : List V) (K : List V → Option R) : Option R := match args with
  | [(.sl 7 al1), (.str as2)] => f39 G k al1 as2 K
  | _ => none
theorem s39 {R : Type} {G : ORC R} {k : Nat} (hG : Sound Try.prog TAB G) (args : List V) (K : List V → Option R) (r : R) (h : g39 G k args K = some r) : ∃ o, CallOK Try.prog TAB.env 39 args o ∧ K o = some r := by
  unfold g39 at h
  split at h
  · rw [← f39_is] at h
    exact callF_sound TAB_chk MO hG Try.func39 (sg := S39) (by kernel_rfl) (by kernel_rfl) (la39 G k) h
  · cases h
end Go.Proofs.Ytjbppcgcblfkoaa.Vm
open Go Go.VM
set_option linter.unusedVariables false
set_option maxRecDepth 100000
set_option maxHeartbeats 4000000
namespace Go.Proofs.Ytjbppcgcblfkoaa.Vm
/-! ### cotillion/cotillionref13.Is: function 25 -/
def L25 {R : Type} (_ : ORC R) (_ : Nat) : Nat → St → (Ex → St → Option R) → Option R := fun _ _ _ => none
def f25 {R : Type} (G : ORC R) (k : Nat) (al1 : List V) (ai2 : Int) (K : List V → Option R) : Option R :=
  (bif (decide (ai2 ≥ 0)) then (K [(.bool (decide (ai2 < ((List.length al1 : Nat) : Int))))]) else (K [(.bool false)]))
theorem f25_is {R : Type} (G : ORC R) (k : Nat) (K : List V → Option R) (al1 : List V) (ai2 : Int) :
    callF (TAB.env 25) G (L25 G k) Try.f25 S25 [(.sl 7 al1), (.int .i64 ai2)] K = f25 G k al1 ai2 K := by kernel_rfl
theorem lo25 : loopsOf (bodyOf Try.f25) = [] := by kernel_rfl
theorem la25 {R : Type} (G : ORC R) (k : Nat) : LoopsAre (TAB.env 25) G (L25 G k) (bodyOf Try.f25) :=
  loopsAre_of (by rw [lo25]; intro p hp; cases hp)
def g25 {R : Type} (G : ORC R) (k : Nat) (args : List V) (K : List V → Option R) : Option R := match args with
  | [(.sl 7 al1), (.int .i64 ai2)] => f25 G k al1 ai2 K
  | _ => none
theorem s25 {R : Type} {G : ORC R} {k : Nat} (hG : Sound Try.prog TAB G) (args : List V) (K : List V → Option R) (r : R) (h : g25 G k args K = some r) : ∃ o, CallOK Try.prog TAB.env 25 args o ∧ K o = some r := by
  unfold g25 at h
  split at h
  · rw [← f25_is] at h
    exact callF_sound TAB_chk MO hG Try.func25 (sg := S25) (by kernel_rfl) (by kernel_rfl) (la25 G k) h
  · cases h
end Go.Proofs.Ytjbppcgcblfkoaa.Vm
open Go Go.VM
set_option linter.unusedVariables false
set_option maxRecDepth 100000
set_option maxHeartbeats 4000000
namespace Go.Proofs.Ytjbppcgcblfkoaa.Vm
/-! ### cotillion/cotillionref13.In: function 19 -/
def L19 {R : Type} (_ : ORC R) (_ : Nat) : Nat → St → (Ex → St → Option R) → Option R := fun _ _ _ => none
def f19 {R : Type} (G : ORC R) (k : Nat) (al1 : List V) (ai2 ai3 : Int) (K : List V → Option R) : Option R :=
  (G 25 [(.sl 7 al1), (.int .i64 ai2)] fun o4 => (unCons o4 fun c5 r6 => (V.asBool c5 fun b7 => (unNil r6 (bif b7 then (G 25 [(.sl 7 al1), (.int .i64 ai3)] fun o8 => (unCons o8 fun c9 r10 => (V.asBool c9 fun b11 => (unNil r10 (bif b11 then (bif (decide (ai2 ≥ ai3)) then (bif ((decide (0 ≤ ai3)) && (decide (ai3 < ((List.length al1 : Nat) : Int)))) then (nthK al1 (Int.toNat ai3) fun e12 => (V.asAgg e12 fun l13 => (unCons l13 fun c14 r31 => (unCons r31 fun c15 r32 => (unCons r32 fun c16 r33 => (unCons r33 fun c17 r34 => (unCons r34 fun c18 r35 => (unCons r35 fun c19 r36 => (unCons r36 fun c20 r37 => (unNil r37 (V.asInt c16 fun k29 n30 => (bif decide (k29 = .i64) then (K [(.bool (decide (ai2 ≤ n30)))]) else none)))))))))))) else none) else (K [(.bool false)])) else (K [(.bool false)])))))) else (K [(.bool false)]))))))
theorem f19_is {R : Type} (G : ORC R) (k : Nat) (K : List V → Option R) (al1 : List V) (ai2 ai3 : Int) :
    callF (TAB.env 19) G (L19 G k) Try.f19 S19 [(.sl 7 al1), (.int .i64 ai2), (.int .i64 ai3)] K = f19 G k al1 ai2 ai3 K := by kernel_rfl
theorem lo19 : loopsOf (bodyOf Try.f19) = [] := by kernel_rfl
theorem la19 {R : Type} (G : ORC R) (k : Nat) : LoopsAre (TAB.env 19) G (L19 G k) (bodyOf Try.f19) :=
  loopsAre_of (by rw [lo19]; intro p hp; cases hp)
def g19 {R : Type} (G : ORC R) (k : Nat) (args : List V) (K : List V → Option R) : Option R := match args with
  | [(.sl 7 al1), (.int .i64 ai2), (.int .i64 ai3)] => f19 G k al1 ai2 ai3 K
  | _ => none
theorem s19 {R : Type} {G : ORC R} {k : Nat} (hG : Sound Try.prog TAB G) (args : List V) (K : List V → Option R) (r : R) (h : g19 G k args K = some r) : ∃ o, CallOK Try.prog TAB.env 19 args o ∧ K o = some r := by
  unfold g19 at h
  split at h
  · rw [← f19_is] at h
    exact callF_sound TAB_chk MO hG Try.func19 (sg := S19) (by kernel_rfl) (by kernel_rfl) (la19 G k) h
  · cases h
end Go.Proofs.Ytjbppcgcblfkoaa.Vm
open Go Go.VM
set_option linter.unusedVariables false
set_option maxRecDepth 100000
set_option maxHeartbeats 4000000
namespace Go.Proofs.Ytjbppcgcblfkoaa.Vm
/-! ### cotillion/cotillionref14.Dom: function 16 -/
def P16_0h : Pat := { tmps := unds [.var (.sl 7) .ro, .var (.int .i64) .pr, .var (.int .i64) .pr, .undef, .undef, .undef, .undef, .var (.int .i64) .pr, .var (.int .i64) .pr] 46 [], boxes := nons [] 55 [] }
def P16_0x : Pat := { tmps := unds [] 7 (unds [.var (.int .i64) .pr] 47 []), boxes := nons [] 55 [] }
def b16_0 {R : Type} (G : ORC R) (k : Nat) (X : List V → Int → Int → Int → Int → Option R) (Ko : Int → Option R) (xl12 : List V) (xi13 xi14 : Int) (xi15 xi16 : Int) : Option R :=
  (bif (decide (xi16 < ((List.length xl12 : Nat) : Int))) then (bif ((decide (0 ≤ xi16)) && (decide (xi16 < ((List.length xl12 : Nat) : Int)))) then (nthK xl12 (Int.toNat xi16) fun e17 => (V.asAgg e17 fun l18 => (unCons l18 fun c19 r44 => (unCons r44 fun c20 r45 => (unCons r45 fun c21 r46 => (unCons r46 fun c22 r47 => (unCons r47 fun c23 r48 => (unCons r48 fun c24 r49 => (unCons r49 fun c25 r50 => (unNil r50 (V.asInt c19 fun k34 n35 => (bif decide (k34 = .i64) then (bif (n35 == 2) then (bif (xi16 != xi13) then (bif (xi16 != xi14) then (G 19 [(.sl 7 xl12), (.int .i64 xi13), (.int .i64 xi16)] fun o36 => (unCons o36 fun c37 r38 => (V.asBool c37 fun b39 => (unNil r38 (bif b39 then (G 19 [(.sl 7 xl12), (.int .i64 xi14), (.int .i64 xi16)] fun o40 => (unCons o40 fun c41 r42 => (V.asBool c41 fun b43 => (unNil r42 (bif b43 then (X xl12 xi13 xi14 xi16 (IntKind.i64.wrap (xi16 + 1))) else (X xl12 xi13 xi14 xi15 (IntKind.i64.wrap (xi16 + 1)))))))) else (X xl12 xi13 xi14 xi15 (IntKind.i64.wrap (xi16 + 1)))))))) else (X xl12 xi13 xi14 xi15 (IntKind.i64.wrap (xi16 + 1)))) else (X xl12 xi13 xi14 xi15 (IntKind.i64.wrap (xi16 + 1)))) else (X xl12 xi13 xi14 xi15 (IntKind.i64.wrap (xi16 + 1)))) else none)))))))))))) else none) else (Ko xi15))
def l16_0g {R : Type} (G : ORC R) (k : Nat) (Ko : Int → Option R) : Nat → List V → Int → Int → Int → Int → Option R
  | 0 => fun _ _ _ _ _ => none
  | j + 1 => b16_0 G k (l16_0g G k Ko j) Ko
def l16_0 {R : Type} (G : ORC R) (k : Nat) (xl12 : List V) (xi13 xi14 : Int) (xi15 xi16 : Int) (Ko : Int → Option R) : Option R := l16_0g G k Ko k xl12 xi13 xi14 xi15 xi16
def rd16_0 {R : Type} (G : ORC R) (k : Nat) (K : Ex → St → Option R) (j : Nat) (vs : List V) : Option R := match vs with
  | [(.sl 7 xl12), (.int .i64 xi13), (.int .i64 xi14), (.int .i64 xi15), (.int .i64 xi16)] => l16_0g G k (fun yi52 => K .normal (P16_0x.inst [(.int .i64 yi52)])) j xl12 xi13 xi14 xi15 xi16
  | _ => none
def L16 {R : Type} (G : ORC R) (k : Nat) : Nat → St → (Ex → St → Option R) → Option R
  | 0, S, K => P16_0h.mat S fun vs => rd16_0 G k K k vs
  | _, _, _ => none
def f16 {R : Type} (G : ORC R) (k : Nat) (al1 : List V) (ai2 ai3 : Int) (K : List V → Option R) : Option R :=
  (G 25 [(.sl 7 al1), (.int .i64 ai2)] fun o4 => (unCons o4 fun c5 r6 => (V.asBool c5 fun b7 => (unNil r6 (bif (!b7) then (K [(.int .i64 (-1))]) else (G 25 [(.sl 7 al1), (.int .i64 ai3)] fun o8 => (unCons o8 fun c9 r10 => (V.asBool c9 fun b11 => (unNil r10 (bif (!b11) then (K [(.int .i64 (-1))]) else (l16_0 G k al1 ai2 ai3 (-1) 0 (fun yi51 => (K [(.int .i64 yi51)])))))))))))))
noncomputable def D16_0 : LoopD := { id := 0, body := loopAt 0 (bodyOf Try.f16), head := P16_0h, out := P16_0x, ret := default }
theorem l16_0_is {R : Type} (G : ORC R) (k : Nat) (X : List V → Option R) (K : Ex → St → Option R) (xl12 : List V) (xi13 xi14 : Int) (xi15 xi16 : Int) :
    roundOf (TAB.env 16) G (L16 G k) D16_0 X K [(.sl 7 xl12), (.int .i64 xi13), (.int .i64 xi14), (.int .i64 xi15), (.int .i64 xi16)] = b16_0 G k (fun xl12 xi13 xi14 xi15 xi16 => X [(.sl 7 xl12), (.int .i64 xi13), (.int .i64 xi14), (.int .i64 xi15), (.int .i64 xi16)]) (fun yi52 => K .normal (P16_0x.inst [(.int .i64 yi52)])) xl12 xi13 xi14 xi15 xi16 := by kernel_rfl
theorem f16_is {R : Type} (G : ORC R) (k : Nat) (K : List V → Option R) (al1 : List V) (ai2 ai3 : Int) :
    callF (TAB.env 16) G (L16 G k) Try.f16 S16 [(.sl 7 al1), (.int .i64 ai2), (.int .i64 ai3)] K = f16 G k al1 ai2 ai3 K := by kernel_rfl
theorem li16_0 {R : Type} (G : ORC R) (k : Nat) : LoopIs (TAB.env 16) G (L16 G k) 0 (loopAt 0 (bodyOf Try.f16)) :=
  ⟨D16_0, fun j vs K => rd16_0 G k K j vs, k, rfl, rfl, by kernel_rfl, by kernel_rfl, by kernel_rfl, (fun vs K => by unfold rd16_0; dsimp only; split <;> rfl),
    (fun j vs K r h => by
      unfold rd16_0 at h
      dsimp only at h
      split at h
      · rw [l16_0_is]; exact h
      · cases h), (fun S K r h => h)⟩
theorem lo16 : loopsOf (bodyOf Try.f16) = [(0, loopAt 0 (bodyOf Try.f16))] := by kernel_rfl
theorem la16 {R : Type} (G : ORC R) (k : Nat) : LoopsAre (TAB.env 16) G (L16 G k) (bodyOf Try.f16) :=
  loopsAre_of (by rw [lo16]; intro p hp; simp only [List.mem_cons, List.not_mem_nil, or_false] at hp; subst hp; exact li16_0 G k)
def g16 {R : Type} (G : ORC R) (k : Nat) (args : List V) (K : List V → Option R) : Option R := match args with
  | [(.sl 7 al1), (.int .i64 ai2), (.int .i64 ai3)] => f16 G k al1 ai2 ai3 K
  | _ => none
theorem s16 {R : Type} {G : ORC R} {k : Nat} (hG : Sound Try.prog TAB G) (args : List V) (K : List V → Option R) (r : R) (h : g16 G k args K = some r) : ∃ o, CallOK Try.prog TAB.env 16 args o ∧ K o = some r := by
  unfold g16 at h
  split at h
  · rw [← f16_is] at h
    exact callF_sound TAB_chk MO hG Try.func16 (sg := S16) (by kernel_rfl) (by kernel_rfl) (la16 G k) h
  · cases h
end Go.Proofs.Ytjbppcgcblfkoaa.Vm
open Go Go.VM
set_option linter.unusedVariables false
set_option maxRecDepth 100000
set_option maxHeartbeats 8000000
namespace Go.Proofs.Ytjbppcgcblfkoaa.Vm
section
variable {R : Type} {G : ORC R} {k : Nat} {K : List V → Option R}
def FindOK (G : ORC R) : Prop := ∀ (l : List Nd) (s : ByteArray) (K : List V → Option R), l.length ≤ 1000 → W (fun o => o = [.int .i64 (findN l s)]) K (G 39 [.sl 7 (l.map Nd.v), .str s] K)
theorem find_loop {Q : List V → Prop} {K : List V → Option R} {Ko : Unit → Option R} {Kr : Int → Option R} {l : List Nd} {s : ByteArray} (hl : l.length ≤ 1000)
    (hKo : findN l s = -1 → W Q K (Ko ())) (hKr : ∀ i, i = findN l s → W Q K (Kr i)) :
    ∀ (j i : Nat), l.length - i < j → findGo s (l.drop i) i = findN l s → W Q K (l39_0g G k Ko Kr j (l.map Nd.v) s i)
  | 0, i, h1, h2 => by omega
  | j + 1, i, h1, h2 => by
    show W Q K (b39_0 G k (l39_0g G k Ko Kr j) Ko Kr (l.map Nd.v) s i)
    unfold b39_0
    simp only [List.length_map]
    refine W_dec (fun h => ?_) (fun h => ?_)
    · refine W_and (W_yes (by omega) (W_yes h ?_))
      refine W_nthN (by omega) (fun n hn => W_nd ?_)
      rw [Int.toNat_natCast] at hn
      have hd : l.drop i = n :: l.drop (i + 1) := by
        have hi : i < l.length := by omega
        rw [List.drop_eq_getElem_cons hi]
        rw [List.getElem?_eq_getElem hi] at hn; cases hn; rfl
      refine W_unCons (W_unCons (W_unCons (W_unCons (W_unCons (W_unCons (W_unCons (W_unNil (W_asStr ?_))))))))
      rw [hd] at h2
      unfold findGo at h2
      refine W_bool (fun e => ?_) (fun e => ?_)
      · rw [if_pos (beq_iff_eq.1 e)] at h2
        exact hKr _ h2
      · rw [if_neg (fun e' => by rw [e', beq_self_eq_true] at e; cases e)] at h2
        rw [wrap_id (n := (i : Int) + 1) (by omega)]
        exact find_loop hl hKo hKr j (i + 1) (by omega) h2
    · refine hKo ?_
      rw [← h2, List.drop_eq_nil_of_le (by omega)]; rfl
theorem find_ok (hk : 10000 ≤ k) : FindOK (fun _ args (K : List V → Option R) => g39 G k args K) := by
  intro l s K hl
  show W _ K (f39 G k (l.map Nd.v) s K)
  unfold f39 l39_0
  exact find_loop (Q := fun o => o = [.int .i64 (findN l s)]) (K := K) (Ko := fun _ => K [.int .i64 (-1)]) (Kr := fun i => K [.int .i64 i]) hl (fun e => W_ret (by rw [e])) (fun i e => W_ret (by rw [e])) k 1 (by omega) rfl
def IsOK (G : ORC R) : Prop := ∀ (l : List V) (i : Int) (K : List V → Option R), W (fun o => o = [.bool (decide (0 ≤ i ∧ i < l.length))]) K (G 25 [.sl 7 l, .int .i64 i] K)
theorem is_ok : IsOK (fun _ args (K : List V → Option R) => g25 G k args K) := by
  intro l i K
  show W _ K (f25 G k l i K)
  unfold f25
  refine W_dec (fun h => ?_) (fun h => ?_)
  · exact W_ret (by congr 3; simp; omega)
  · exact W_ret (by congr 2; symm; rw [decide_eq_false]; omega)
def InOK (G : ORC R) : Prop := ∀ (l : List Nd) (a b : Int) (K : List V → Option R), W (fun o => o = [.bool (inN l a b)]) K (G 19 [.sl 7 (l.map Nd.v), .int .i64 a, .int .i64 b] K)
theorem in_ok (hI : IsOK G) : InOK (fun _ args (K : List V → Option R) => g19 G k args K) := by
  intro l a b K
  show W _ K (f19 G k (l.map Nd.v) a b K)
  unfold f19
  unfold IsOK at hI
  have no : ¬ (0 ≤ a ∧ a < l.length ∧ 0 ≤ b ∧ b < l.length ∧ a ≥ b) → inN l a b = false := fun h => by unfold inN; rw [decide_eq_false h]; rfl
  refine W_call (hI _ _ _) ?_
  rintro _ rfl
  refine W_unCons (W_asBool (W_unNil ?_))
  simp only [List.length_map]
  refine W_dec (fun h1 => ?_) (fun h1 => W_ret (by rw [no (by omega)]))
  refine W_call (hI _ _ _) ?_
  rintro _ rfl
  refine W_unCons (W_asBool (W_unNil ?_))
  simp only [List.length_map]
  refine W_dec (fun h2 => ?_) (fun h2 => W_ret (by rw [no (by omega)]))
  refine W_dec (fun h3 => ?_) (fun h3 => W_ret (by rw [no (by omega)]))
  refine W_and (W_yes h2.1 (W_yes h2.2 ?_))
  refine W_nthN (by omega) (fun n hn => W_nd ?_)
  refine W_unCons (W_unCons (W_unCons (W_unCons (W_unCons (W_unCons (W_unCons (W_unNil (W_asInt (W_kd ?_)))))))))
  have e : inN l a b = decide (a ≤ n.last) := by
    unfold inN
    rw [decide_eq_true (show 0 ≤ a ∧ a < l.length ∧ 0 ≤ b ∧ b < l.length ∧ a ≥ b from ⟨h1.1, h1.2, h2.1, h2.2, h3⟩), hn]; rfl
  exact W_ret (by rw [e])
def DomOK (G : ORC R) : Prop := ∀ (l : List Nd) (a b : Int) (K : List V → Option R), l.length ≤ 1000 → W (fun o => o = [.int .i64 (domN l a b)]) K (G 16 [.sl 7 (l.map Nd.v), .int .i64 a, .int .i64 b] K)
theorem dom_no {l : List Nd} {a b : Int} (h : ¬ (0 ≤ a ∧ a < l.length) ∨ ¬ (0 ≤ b ∧ b < l.length)) : ∀ i, domGo l a b i = -1
  | 0 => rfl
  | i + 1 => by
    unfold domGo
    have e : domAt l a b i = false := by
      unfold domAt
      rcases h with h | h
      · rw [show inN l a i = false by unfold inN; rw [decide_eq_false (by omega)]; rfl]; simp
      · rw [show inN l b i = false by unfold inN; rw [decide_eq_false (by omega)]; rfl]; simp
    rw [if_neg (by rw [e]; simp)]
    exact dom_no h i
theorem dom_loop (hI : InOK G) {Q : List V → Prop} {K : List V → Option R} {Ko : Int → Option R} {l : List Nd} {a b : Int} (hl : l.length ≤ 1000)
    (hKo : W Q K (Ko (domN l a b))) :
    ∀ (j i : Nat), l.length - i < j → i ≤ l.length → W Q K (l16_0g G k Ko j (l.map Nd.v) a b (domGo l a b i) i)
  | 0, i, h1, h2 => by omega
  | j + 1, i, h1, h2 => by
    show W Q K (b16_0 G k (l16_0g G k Ko j) Ko (l.map Nd.v) a b (domGo l a b i) i)
    unfold b16_0
    simp only [List.length_map]
    unfold InOK at hI
    refine W_dec (fun h => ?_) (fun h => ?_)
    · have hi : i < l.length := by omega
      have hgo : ∀ d, domGo l a b (i + 1) = d → W Q K (l16_0g G k Ko j (l.map Nd.v) a b d (IntKind.i64.wrap ((i : Int) + 1))) := by
        intro d hd
        rw [wrap_id (n := (i : Int) + 1) (by omega), ← hd]
        exact dom_loop hI hl hKo j (i + 1) (by omega) (by omega)
      have hN : domAt l a b i = false → domGo l a b (i + 1) = domGo l a b i := fun e => by
        show (if domAt l a b i = true then (i : Int) else domGo l a b i) = _
        rw [if_neg (by rw [e]; simp)]
      have hY : domAt l a b i = true → domGo l a b (i + 1) = i := fun e => by
        show (if domAt l a b i = true then (i : Int) else domGo l a b i) = _
        rw [if_pos e]
      refine W_and (W_yes (by omega) (W_yes h ?_))
      refine W_nthN (by omega) (fun n hn => W_nd ?_)
      rw [Int.toNat_natCast] at hn
      have hat : domAt l a b i = (decide (n.kind = 2) && decide ((i : Int) ≠ a) && decide ((i : Int) ≠ b) && inN l a i && inN l b i) := by unfold domAt; rw [hn]
      refine W_unCons (W_unCons (W_unCons (W_unCons (W_unCons (W_unCons (W_unCons (W_unNil (W_asInt (W_kd ?_)))))))))
      refine W_beqI (fun e1 => ?_) (fun e1 => hgo _ (hN (by rw [hat, decide_eq_false e1]; rfl)))
      refine W_bool (fun e2 => ?_) (fun e2 => hgo _ (hN (by rw [hat]; simp at e2; simp [e2])))
      refine W_bool (fun e3 => ?_) (fun e3 => hgo _ (hN (by rw [hat]; simp at e3; simp [e3])))
      refine W_call (hI _ _ _ _) ?_
      rintro _ rfl
      refine W_unCons (W_asBool (W_unNil ?_))
      refine W_bool (fun e4 => ?_) (fun e4 => hgo _ (hN (by rw [hat, e4]; simp)))
      refine W_call (hI _ _ _ _) ?_
      rintro _ rfl
      refine W_unCons (W_asBool (W_unNil ?_))
      refine W_bool (fun e5 => ?_) (fun e5 => hgo _ (hN (by rw [hat, e5]; simp)))
      refine hgo _ (hY ?_)
      rw [hat, e4, e5, decide_eq_true e1]
      simp at e2 e3
      simp [e2, e3]
    · have he : i = l.length := by omega
      subst he
      exact hKo
theorem dom_ok (hk : 10000 ≤ k) (hIs : IsOK G) (hI : InOK G) : DomOK (fun _ args (K : List V → Option R) => g16 G k args K) := by
  intro l a b K hl
  show W _ K (f16 G k (l.map Nd.v) a b K)
  unfold f16
  unfold IsOK at hIs
  refine W_call (hIs _ _ _) ?_
  rintro _ rfl
  refine W_unCons (W_asBool (W_unNil (W_not ?_)))
  simp only [List.length_map]
  refine W_dec (fun h1 => ?_) (fun h1 => W_ret (by unfold domN; rw [dom_no (.inl h1)]))
  refine W_call (hIs _ _ _) ?_
  rintro _ rfl
  refine W_unCons (W_asBool (W_unNil (W_not ?_)))
  simp only [List.length_map]
  refine W_dec (fun h2 => ?_) (fun h2 => W_ret (by unfold domN; rw [dom_no (.inr h2)]))
  unfold l16_0
  exact dom_loop (Q := fun o => o = [.int .i64 (domN l a b)]) (K := K) (Ko := fun d => K [.int .i64 d]) hI hl (W_ret rfl) k 0 (by omega) (by omega)
end
end Go.Proofs.Ytjbppcgcblfkoaa.Vm
open Go Go.VM
set_option linter.unusedVariables false
set_option maxRecDepth 100000
set_option maxHeartbeats 4000000
namespace Go.Proofs.Ytjbppcgcblfkoaa.Vm
/-! ### cotillion/cotillionref16.place: function 51 -/
def P51_0h : Pat := { tmps := unds [.var (.sl 1) .ro, .var .str .pr, .undef, .undef, .undef, .var (.int .i64) .pr] 13 [], boxes := nons [] 19 [] }
def P51_0x : Pat := { tmps := unds [] 19 [], boxes := nons [] 19 [] }
def P51_0r : Pat := { tmps := unds [.undef, .undef, .undef, .undef, .var (.int .i64) .pr] 14 [], boxes := nons [] 19 [] }
def b51_0 {R : Type} (G : ORC R) (k : Nat) (X : List V → ByteArray → Int → Option R) (Ko : Unit → Option R) (Kr : Int → Option R) (xl3 : List V) (xs4 : ByteArray) (xi5 : Int) : Option R :=
  (bif (decide (xi5 < ((List.length xl3 : Nat) : Int))) then (bif ((decide (0 ≤ xi5)) && (decide (xi5 < ((List.length xl3 : Nat) : Int)))) then (nthK xl3 (Int.toNat xi5) fun e6 => (V.asStr e6 fun s7 => (bif (ByteArray.toList s7 == ByteArray.toList xs4) then (Kr xi5) else (X xl3 xs4 (IntKind.i64.wrap (xi5 + 1)))))) else none) else (Ko ()))
def l51_0g {R : Type} (G : ORC R) (k : Nat) (Ko : Unit → Option R) (Kr : Int → Option R) : Nat → List V → ByteArray → Int → Option R
  | 0 => fun _ _ _ => none
  | j + 1 => b51_0 G k (l51_0g G k Ko Kr j) Ko Kr
def l51_0 {R : Type} (G : ORC R) (k : Nat) (xl3 : List V) (xs4 : ByteArray) (xi5 : Int) (Ko : Unit → Option R) (Kr : Int → Option R) : Option R := l51_0g G k Ko Kr k xl3 xs4 xi5
def rd51_0 {R : Type} (G : ORC R) (k : Nat) (K : Ex → St → Option R) (j : Nat) (vs : List V) : Option R := match vs with
  | [(.sl 1 xl3), (.str xs4), (.int .i64 xi5)] => l51_0g G k (fun _ => K .normal (P51_0x.inst [])) (fun yi9 => K .ret (P51_0r.inst [(.int .i64 yi9)])) j xl3 xs4 xi5
  | _ => none
def L51 {R : Type} (G : ORC R) (k : Nat) : Nat → St → (Ex → St → Option R) → Option R
  | 0, S, K => P51_0h.mat S fun vs => rd51_0 G k K k vs
  | _, _, _ => none
def f51 {R : Type} (G : ORC R) (k : Nat) (al1 : List V) (as2 : ByteArray) (K : List V → Option R) : Option R :=
  (l51_0 G k al1 as2 0 (fun (_ : Unit) => (K [(.int .i64 (-1))])) (fun yi8 => (K [(.int .i64 yi8)])))
noncomputable def D51_0 : LoopD := { id := 0, body := loopAt 0 (bodyOf Try.f51), head := P51_0h, out := P51_0x, ret := P51_0r }
theorem l51_0_is {R : Type} (G : ORC R) (k : Nat) (X : List V → Option R) (K : Ex → St → Option R) (xl3 : List V) (xs4 : ByteArray) (xi5 : Int) :
    roundOf (TAB.env 51) G (L51 G k) D51_0 X K [(.sl 1 xl3), (.str xs4), (.int .i64 xi5)] = b51_0 G k (fun xl3 xs4 xi5 => X [(.sl 1 xl3), (.str xs4), (.int .i64 xi5)]) (fun _ => K .normal (P51_0x.inst [])) (fun yi9 => K .ret (P51_0r.inst [(.int .i64 yi9)])) xl3 xs4 xi5 := by kernel_rfl
theorem f51_is {R : Type} (G : ORC R) (k : Nat) (K : List V → Option R) (al1 : List V) (as2 : ByteArray) :
    callF (TAB.env 51) G (L51 G k) Try.f51 S51 [(.sl 1 al1), (.str as2)] K = f51 G k al1 as2 K := by kernel_rfl
theorem li51_0 {R : Type} (G : ORC R) (k : Nat) : LoopIs (TAB.env 51) G (L51 G k) 0 (loopAt 0 (bodyOf Try.f51)) :=
  ⟨D51_0, fun j vs K => rd51_0 G k K j vs, k, rfl, rfl, by kernel_rfl, by kernel_rfl, by kernel_rfl, (fun vs K => by unfold rd51_0; dsimp only; split <;> rfl),
    (fun j vs K r h => by
      unfold rd51_0 at h
      dsimp only at h
      split at h
      · rw [l51_0_is]; exact h
      · cases h), (fun S K r h => h)⟩
theorem lo51 : loopsOf (bodyOf Try.f51) = [(0, loopAt 0 (bodyOf Try.f51))] := by kernel_rfl
theorem la51 {R : Type} (G : ORC R) (k : Nat) : LoopsAre (TAB.env 51) G (L51 G k) (bodyOf Try.f51) :=
  loopsAre_of (by rw [lo51]; intro p hp; simp only [List.mem_cons, List.not_mem_nil, or_false] at hp; subst hp; exact li51_0 G k)
def g51 {R : Type} (G : ORC R) (k : Nat) (args : List V) (K : List V → Option R) : Option R := match args with
  | [(.sl 1 al1), (.str as2)] => f51 G k al1 as2 K
  | _ => none
theorem s51 {R : Type} {G : ORC R} {k : Nat} (hG : Sound Try.prog TAB G) (args : List V) (K : List V → Option R) (r : R) (h : g51 G k args K = some r) : ∃ o, CallOK Try.prog TAB.env 51 args o ∧ K o = some r := by
  unfold g51 at h
  split at h
  · rw [← f51_is] at h
    exact callF_sound TAB_chk MO hG Try.func51 (sg := S51) (by kernel_rfl) (by kernel_rfl) (la51 G k) h
  · cases h
end Go.Proofs.Ytjbppcgcblfkoaa.Vm
open Go Go.VM
set_option linter.unusedVariables false
set_option maxRecDepth 100000
set_option maxHeartbeats 4000000
namespace Go.Proofs.Ytjbppcgcblfkoaa.Vm
/-! ### cotillion/cotillionref16.op: function 52 -/
def L52 {R : Type} (_ : ORC R) (_ : Nat) : Nat → St → (Ex → St → Option R) → Option R := fun _ _ _ => none
def f52 {R : Type} (G : ORC R) (k : Nat) (ai1 : Int) (K : List V → Option R) : Option R :=
  (bif (ai1 == 5) then (K [(.int .i64 5)]) else (bif (ai1 == 6) then (K [(.int .i64 6)]) else (K [(.int .i64 (IntKind.i64.wrap ((IntKind.i64.wrap (7 + ai1)) - 7)))])))
theorem f52_is {R : Type} (G : ORC R) (k : Nat) (K : List V → Option R) (ai1 : Int) :
    callF (TAB.env 52) G (L52 G k) Try.f52 S52 [(.int .i64 ai1)] K = f52 G k ai1 K := by kernel_rfl
theorem lo52 : loopsOf (bodyOf Try.f52) = [] := by kernel_rfl
theorem la52 {R : Type} (G : ORC R) (k : Nat) : LoopsAre (TAB.env 52) G (L52 G k) (bodyOf Try.f52) :=
  loopsAre_of (by rw [lo52]; intro p hp; cases hp)
def g52 {R : Type} (G : ORC R) (k : Nat) (args : List V) (K : List V → Option R) : Option R := match args with
  | [(.int .i64 ai1)] => f52 G k ai1 K
  | _ => none
theorem s52 {R : Type} {G : ORC R} {k : Nat} (hG : Sound Try.prog TAB G) (args : List V) (K : List V → Option R) (r : R) (h : g52 G k args K = some r) : ∃ o, CallOK Try.prog TAB.env 52 args o ∧ K o = some r := by
  unfold g52 at h
  split at h
  · rw [← f52_is] at h
    exact callF_sound TAB_chk MO hG Try.func52 (sg := S52) (by kernel_rfl) (by kernel_rfl) (la52 G k) h
  · cases h
end Go.Proofs.Ytjbppcgcblfkoaa.Vm
open Go Go.VM
set_option linter.unusedVariables false
set_option maxRecDepth 100000
set_option maxHeartbeats 4000000
namespace Go.Proofs.Ytjbppcgcblfkoaa.Vm
/-! ### cotillion/cotillionref16.expr: function 48 -/
def L48 {R : Type} (_ : ORC R) (_ : Nat) : Nat → St → (Ex → St → Option R) → Option R := fun _ _ _ => none
def f48 {R : Type} (G : ORC R) (k : Nat) (al1 : List V) (ai2 ai3 : Int) (as4 : ByteArray) (al5 : List V) (ai6 : Int) (al7 al8 : List V) (al9 al10 : List V) (K : List V → Option R) : Option R :=
  (bif (ai2 == 1) then (bif (decide (List.length al1 + 1 ≤ 1073741824)) then (K [(.sl 4 (al1 ++ [(.agg [(.int .i64 1), (.int .i64 0), (.int .i64 ai3), (.str ⟨#[]⟩)])]))]) else none) else (bif (ai2 == 2) then (G 51 [(.sl 1 al7), (.str as4)] fun o11 => (unCons o11 fun c12 r13 => (V.asInt c12 fun k14 n15 => (bif decide (k14 = .i64) then (unNil r13 (bif (decide (List.length al1 + 1 ≤ 1073741824)) then (K [(.sl 4 (al1 ++ [(.agg [(.int .i64 2), (.int .i64 n15), (.int .i64 0), (.str ⟨#[]⟩)])]))]) else none)) else none)))) else (bif (ai2 == 3) then (bif (decide (List.length al1 + 1 ≤ 1073741824)) then (K [(.sl 4 (al1 ++ [(.agg [(.int .i64 3), (.int .i64 0), (.int .i64 0), (.str ⟨#[]⟩)])]))]) else none) else (bif (ai2 == 4) then (G 39 [(.sl 7 al10), (.str as4)] fun o16 => (unCons o16 fun c17 r18 => (V.asInt c17 fun k19 n20 => (bif decide (k19 = .i64) then (unNil r18 (bif (decide (List.length al1 + 1 ≤ 1073741824)) then (K [(.sl 4 (al1 ++ [(.agg [(.int .i64 4), (.int .i64 n20), (.int .i64 0), (.str ⟨#[]⟩)])]))]) else none)) else none)))) else (bif (ai2 == 5) then (bif (ai2 == 5) then (bif (decide (0 < ((List.length al5 : Nat) : Int))) then (nthK al5 0 fun e21 => (V.asAgg e21 fun l22 => (G 48 [(.sl 4 al1), (.agg l22), (.agg [(.sl 1 al7), (.sl 1 al8), (.sl 1 al9), (.sl 7 al10)])] fun o23 => (unCons o23 fun c24 r25 => (V.asSl c24 fun z26 l27 => (bif (z26 == 4) then (unNil r25 (G 52 [(.int .i64 ai2)] fun o28 => (unCons o28 fun c29 r30 => (V.asInt c29 fun k31 n32 => (bif decide (k31 = .i64) then (unNil r30 (bif (decide (List.length l27 + 1 ≤ 1073741824)) then (K [(.sl 4 (l27 ++ [(.agg [(.int .i64 n32), (.int .i64 0), (.int .i64 0), (.str ⟨#[]⟩)])]))]) else none)) else none))))) else none)))))) else none) else (bif (ai2 == 18) then (G 53 [(.sl 4 al1), (.agg [(.int .i64 ai2), (.int .i64 ai3), (.str as4), (.sl 5 al5), (.int .i64 ai6)]), (.agg [(.sl 1 al7), (.sl 1 al8), (.sl 1 al9), (.sl 7 al10)])] fun o33 => (unCons o33 fun c34 r35 => (V.asSl c34 fun z36 l37 => (bif (z36 == 4) then (unNil r35 (K [(.sl 4 l37)])) else none)))) else (bif (ai2 == 19) then (G 54 [(.sl 4 al1), (.agg [(.int .i64 ai2), (.int .i64 ai3), (.str as4), (.sl 5 al5), (.int .i64 ai6)]), (.agg [(.sl 1 al7), (.sl 1 al8), (.sl 1 al9), (.sl 7 al10)])] fun o38 => (unCons o38 fun c39 r40 => (V.asSl c39 fun z41 l42 => (bif (z41 == 4) then (unNil r40 (K [(.sl 4 l42)])) else none)))) else (bif (decide (0 < ((List.length al5 : Nat) : Int))) then (nthK al5 0 fun e43 => (V.asAgg e43 fun l44 => (G 48 [(.sl 4 al1), (.agg l44), (.agg [(.sl 1 al7), (.sl 1 al8), (.sl 1 al9), (.sl 7 al10)])] fun o45 => (unCons o45 fun c46 r47 => (V.asSl c46 fun z48 l49 => (bif (z48 == 4) then (unNil r47 (bif (decide (1 < ((List.length al5 : Nat) : Int))) then (nthK al5 1 fun e50 => (V.asAgg e50 fun l51 => (G 48 [(.sl 4 l49), (.agg l51), (.agg [(.sl 1 al7), (.sl 1 al8), (.sl 1 al9), (.sl 7 al10)])] fun o52 => (unCons o52 fun c53 r54 => (V.asSl c53 fun z55 l56 => (bif (z55 == 4) then (unNil r54 (G 52 [(.int .i64 ai2)] fun o57 => (unCons o57 fun c58 r59 => (V.asInt c58 fun k60 n61 => (bif decide (k60 = .i64) then (unNil r59 (bif (decide (List.length l56 + 1 ≤ 1073741824)) then (K [(.sl 4 (l56 ++ [(.agg [(.int .i64 n61), (.int .i64 0), (.int .i64 0), (.str ⟨#[]⟩)])]))]) else none)) else none))))) else none)))))) else none)) else none)))))) else none)))) else (bif (ai2 == 6) then (bif (decide (0 < ((List.length al5 : Nat) : Int))) then (nthK al5 0 fun e62 => (V.asAgg e62 fun l63 => (G 48 [(.sl 4 al1), (.agg l63), (.agg [(.sl 1 al7), (.sl 1 al8), (.sl 1 al9), (.sl 7 al10)])] fun o64 => (unCons o64 fun c65 r66 => (V.asSl c65 fun z67 l68 => (bif (z67 == 4) then (unNil r66 (G 52 [(.int .i64 ai2)] fun o69 => (unCons o69 fun c70 r71 => (V.asInt c70 fun k72 n73 => (bif decide (k72 = .i64) then (unNil r71 (bif (decide (List.length l68 + 1 ≤ 1073741824)) then (K [(.sl 4 (l68 ++ [(.agg [(.int .i64 n73), (.int .i64 0), (.int .i64 0), (.str ⟨#[]⟩)])]))]) else none)) else none))))) else none)))))) else none) else (bif (ai2 == 18) then (G 53 [(.sl 4 al1), (.agg [(.int .i64 ai2), (.int .i64 ai3), (.str as4), (.sl 5 al5), (.int .i64 ai6)]), (.agg [(.sl 1 al7), (.sl 1 al8), (.sl 1 al9), (.sl 7 al10)])] fun o74 => (unCons o74 fun c75 r76 => (V.asSl c75 fun z77 l78 => (bif (z77 == 4) then (unNil r76 (K [(.sl 4 l78)])) else none)))) else (bif (ai2 == 19) then (G 54 [(.sl 4 al1), (.agg [(.int .i64 ai2), (.int .i64 ai3), (.str as4), (.sl 5 al5), (.int .i64 ai6)]), (.agg [(.sl 1 al7), (.sl 1 al8), (.sl 1 al9), (.sl 7 al10)])] fun o79 => (unCons o79 fun c80 r81 => (V.asSl c80 fun z82 l83 => (bif (z82 == 4) then (unNil r81 (K [(.sl 4 l83)])) else none)))) else (bif (decide (0 < ((List.length al5 : Nat) : Int))) then (nthK al5 0 fun e84 => (V.asAgg e84 fun l85 => (G 48 [(.sl 4 al1), (.agg l85), (.agg [(.sl 1 al7), (.sl 1 al8), (.sl 1 al9), (.sl 7 al10)])] fun o86 => (unCons o86 fun c87 r88 => (V.asSl c87 fun z89 l90 => (bif (z89 == 4) then (unNil r88 (bif (decide (1 < ((List.length al5 : Nat) : Int))) then (nthK al5 1 fun e91 => (V.asAgg e91 fun l92 => (G 48 [(.sl 4 l90), (.agg l92), (.agg [(.sl 1 al7), (.sl 1 al8), (.sl 1 al9), (.sl 7 al10)])] fun o93 => (unCons o93 fun c94 r95 => (V.asSl c94 fun z96 l97 => (bif (z96 == 4) then (unNil r95 (G 52 [(.int .i64 ai2)] fun o98 => (unCons o98 fun c99 r100 => (V.asInt c99 fun k101 n102 => (bif decide (k101 = .i64) then (unNil r100 (bif (decide (List.length l97 + 1 ≤ 1073741824)) then (K [(.sl 4 (l97 ++ [(.agg [(.int .i64 n102), (.int .i64 0), (.int .i64 0), (.str ⟨#[]⟩)])]))]) else none)) else none))))) else none)))))) else none)) else none)))))) else none)))))))))
theorem f48_is {R : Type} (G : ORC R) (k : Nat) (K : List V → Option R) (al1 : List V) (ai2 ai3 : Int) (as4 : ByteArray) (al5 : List V) (ai6 : Int) (al7 al8 : List V) (al9 al10 : List V) :
    callF (TAB.env 48) G (L48 G k) Try.f48 S48 [(.sl 4 al1), (.agg [(.int .i64 ai2), (.int .i64 ai3), (.str as4), (.sl 5 al5), (.int .i64 ai6)]), (.agg [(.sl 1 al7), (.sl 1 al8), (.sl 1 al9), (.sl 7 al10)])] K = f48 G k al1 ai2 ai3 as4 al5 ai6 al7 al8 al9 al10 K := by kernel_rfl
theorem lo48 : loopsOf (bodyOf Try.f48) = [] := by kernel_rfl
theorem la48 {R : Type} (G : ORC R) (k : Nat) : LoopsAre (TAB.env 48) G (L48 G k) (bodyOf Try.f48) :=
  loopsAre_of (by rw [lo48]; intro p hp; cases hp)
def g48 {R : Type} (G : ORC R) (k : Nat) (args : List V) (K : List V → Option R) : Option R := match args with
  | [(.sl 4 al1), (.agg [(.int .i64 ai2), (.int .i64 ai3), (.str as4), (.sl 5 al5), (.int .i64 ai6)]), (.agg [(.sl 1 al7), (.sl 1 al8), (.sl 1 al9), (.sl 7 al10)])] => f48 G k al1 ai2 ai3 as4 al5 ai6 al7 al8 al9 al10 K
  | _ => none
theorem s48 {R : Type} {G : ORC R} {k : Nat} (hG : Sound Try.prog TAB G) (args : List V) (K : List V → Option R) (r : R) (h : g48 G k args K = some r) : ∃ o, CallOK Try.prog TAB.env 48 args o ∧ K o = some r := by
  unfold g48 at h
  split at h
  · rw [← f48_is] at h
    exact callF_sound TAB_chk MO hG Try.func48 (sg := S48) (by kernel_rfl) (by kernel_rfl) (la48 G k) h
  · cases h
end Go.Proofs.Ytjbppcgcblfkoaa.Vm
open Go Go.VM
set_option linter.unusedVariables false
set_option maxRecDepth 100000
set_option maxHeartbeats 4000000
namespace Go.Proofs.Ytjbppcgcblfkoaa.Vm
/-! ### cotillion/cotillionref16.and: function 53 -/
def L53 {R : Type} (_ : ORC R) (_ : Nat) : Nat → St → (Ex → St → Option R) → Option R := fun _ _ _ => none
def f53 {R : Type} (G : ORC R) (k : Nat) (al1 : List V) (ai2 ai3 : Int) (as4 : ByteArray) (al5 : List V) (ai6 : Int) (al7 al8 : List V) (al9 al10 : List V) (K : List V → Option R) : Option R :=
  (bif (decide (0 < ((List.length al5 : Nat) : Int))) then (nthK al5 0 fun e11 => (V.asAgg e11 fun l12 => (G 48 [(.sl 4 al1), (.agg l12), (.agg [(.sl 1 al7), (.sl 1 al8), (.sl 1 al9), (.sl 7 al10)])] fun o13 => (unCons o13 fun c14 r15 => (V.asSl c14 fun z16 l17 => (bif (z16 == 4) then (unNil r15 (bif (decide (List.length l17 + 1 ≤ 1073741824)) then (bif (decide (1 < ((List.length al5 : Nat) : Int))) then (nthK al5 1 fun e18 => (V.asAgg e18 fun l19 => (G 48 [(.sl 4 (l17 ++ [(.agg [(.int .i64 24), (.int .i64 0), (.int .i64 0), (.str ⟨#[]⟩)])])), (.agg l19), (.agg [(.sl 1 al7), (.sl 1 al8), (.sl 1 al9), (.sl 7 al10)])] fun o20 => (unCons o20 fun c21 r22 => (V.asSl c21 fun z23 l24 => (bif (z23 == 4) then (unNil r22 (bif (decide (List.length l24 + 3 ≤ 1073741824)) then (bif ((decide (0 ≤ ((List.length l17 : Nat) : Int))) && (decide (((List.length l17 : Nat) : Int) < ((List.length (l24 ++ [(.agg [(.int .i64 24), (.int .i64 0), (.int .i64 0), (.str ⟨#[]⟩)]), (.agg [(.int .i64 1), (.int .i64 0), (.int .i64 1), (.str ⟨#[]⟩)]), (.agg [(.int .i64 23), (.int .i64 0), (.int .i64 0), (.str ⟨#[]⟩)])]) : Nat) : Int)))) then (nthK (l24 ++ [(.agg [(.int .i64 24), (.int .i64 0), (.int .i64 0), (.str ⟨#[]⟩)]), (.agg [(.int .i64 1), (.int .i64 0), (.int .i64 1), (.str ⟨#[]⟩)]), (.agg [(.int .i64 23), (.int .i64 0), (.int .i64 0), (.str ⟨#[]⟩)])]) (Int.toNat ((List.length l17 : Nat) : Int)) fun e25 => (V.asAgg e25 fun l26 => (unCons l26 fun c27 r66 => (unCons r66 fun c28 r67 => (unCons r67 fun c29 r68 => (unCons r68 fun c30 r69 => (unNil r69 (bif ((decide (0 ≤ ((List.length l24 : Nat) : Int))) && (decide (((List.length l24 : Nat) : Int) < ((List.length (List.set (l24 ++ [(.agg [(.int .i64 24), (.int .i64 0), (.int .i64 0), (.str ⟨#[]⟩)]), (.agg [(.int .i64 1), (.int .i64 0), (.int .i64 1), (.str ⟨#[]⟩)]), (.agg [(.int .i64 23), (.int .i64 0), (.int .i64 0), (.str ⟨#[]⟩)])]) (Int.toNat ((List.length l17 : Nat) : Int)) (.agg [c27, (.int .i64 ((List.length (l24 ++ [(.agg [(.int .i64 24), (.int .i64 0), (.int .i64 0), (.str ⟨#[]⟩)]), (.agg [(.int .i64 1), (.int .i64 0), (.int .i64 1), (.str ⟨#[]⟩)]), (.agg [(.int .i64 23), (.int .i64 0), (.int .i64 0), (.str ⟨#[]⟩)])]) : Nat) : Int)), c29, c30])) : Nat) : Int)))) then (nthK (List.set (l24 ++ [(.agg [(.int .i64 24), (.int .i64 0), (.int .i64 0), (.str ⟨#[]⟩)]), (.agg [(.int .i64 1), (.int .i64 0), (.int .i64 1), (.str ⟨#[]⟩)]), (.agg [(.int .i64 23), (.int .i64 0), (.int .i64 0), (.str ⟨#[]⟩)])]) (Int.toNat ((List.length l17 : Nat) : Int)) (.agg [c27, (.int .i64 ((List.length (l24 ++ [(.agg [(.int .i64 24), (.int .i64 0), (.int .i64 0), (.str ⟨#[]⟩)]), (.agg [(.int .i64 1), (.int .i64 0), (.int .i64 1), (.str ⟨#[]⟩)]), (.agg [(.int .i64 23), (.int .i64 0), (.int .i64 0), (.str ⟨#[]⟩)])]) : Nat) : Int)), c29, c30])) (Int.toNat ((List.length l24 : Nat) : Int)) fun e36 => (V.asAgg e36 fun l37 => (unCons l37 fun c38 r62 => (unCons r62 fun c39 r63 => (unCons r63 fun c40 r64 => (unCons r64 fun c41 r65 => (unNil r65 (bif (decide (List.length (List.set (List.set (l24 ++ [(.agg [(.int .i64 24), (.int .i64 0), (.int .i64 0), (.str ⟨#[]⟩)]), (.agg [(.int .i64 1), (.int .i64 0), (.int .i64 1), (.str ⟨#[]⟩)]), (.agg [(.int .i64 23), (.int .i64 0), (.int .i64 0), (.str ⟨#[]⟩)])]) (Int.toNat ((List.length l17 : Nat) : Int)) (.agg [c27, (.int .i64 ((List.length (l24 ++ [(.agg [(.int .i64 24), (.int .i64 0), (.int .i64 0), (.str ⟨#[]⟩)]), (.agg [(.int .i64 1), (.int .i64 0), (.int .i64 1), (.str ⟨#[]⟩)]), (.agg [(.int .i64 23), (.int .i64 0), (.int .i64 0), (.str ⟨#[]⟩)])]) : Nat) : Int)), c29, c30])) (Int.toNat ((List.length l24 : Nat) : Int)) (.agg [c38, (.int .i64 ((List.length (l24 ++ [(.agg [(.int .i64 24), (.int .i64 0), (.int .i64 0), (.str ⟨#[]⟩)]), (.agg [(.int .i64 1), (.int .i64 0), (.int .i64 1), (.str ⟨#[]⟩)]), (.agg [(.int .i64 23), (.int .i64 0), (.int .i64 0), (.str ⟨#[]⟩)])]) : Nat) : Int)), c40, c41])) + 1 ≤ 1073741824)) then (bif ((decide (0 ≤ (IntKind.i64.wrap (((List.length l24 : Nat) : Int) + 2)))) && (decide ((IntKind.i64.wrap (((List.length l24 : Nat) : Int) + 2)) < ((List.length ((List.set (List.set (l24 ++ [(.agg [(.int .i64 24), (.int .i64 0), (.int .i64 0), (.str ⟨#[]⟩)]), (.agg [(.int .i64 1), (.int .i64 0), (.int .i64 1), (.str ⟨#[]⟩)]), (.agg [(.int .i64 23), (.int .i64 0), (.int .i64 0), (.str ⟨#[]⟩)])]) (Int.toNat ((List.length l17 : Nat) : Int)) (.agg [c27, (.int .i64 ((List.length (l24 ++ [(.agg [(.int .i64 24), (.int .i64 0), (.int .i64 0), (.str ⟨#[]⟩)]), (.agg [(.int .i64 1), (.int .i64 0), (.int .i64 1), (.str ⟨#[]⟩)]), (.agg [(.int .i64 23), (.int .i64 0), (.int .i64 0), (.str ⟨#[]⟩)])]) : Nat) : Int)), c29, c30])) (Int.toNat ((List.length l24 : Nat) : Int)) (.agg [c38, (.int .i64 ((List.length (l24 ++ [(.agg [(.int .i64 24), (.int .i64 0), (.int .i64 0), (.str ⟨#[]⟩)]), (.agg [(.int .i64 1), (.int .i64 0), (.int .i64 1), (.str ⟨#[]⟩)]), (.agg [(.int .i64 23), (.int .i64 0), (.int .i64 0), (.str ⟨#[]⟩)])]) : Nat) : Int)), c40, c41])) ++ [(.agg [(.int .i64 1), (.int .i64 0), (.int .i64 0), (.str ⟨#[]⟩)])]) : Nat) : Int)))) then (nthK ((List.set (List.set (l24 ++ [(.agg [(.int .i64 24), (.int .i64 0), (.int .i64 0), (.str ⟨#[]⟩)]), (.agg [(.int .i64 1), (.int .i64 0), (.int .i64 1), (.str ⟨#[]⟩)]), (.agg [(.int .i64 23), (.int .i64 0), (.int .i64 0), (.str ⟨#[]⟩)])]) (Int.toNat ((List.length l17 : Nat) : Int)) (.agg [c27, (.int .i64 ((List.length (l24 ++ [(.agg [(.int .i64 24), (.int .i64 0), (.int .i64 0), (.str ⟨#[]⟩)]), (.agg [(.int .i64 1), (.int .i64 0), (.int .i64 1), (.str ⟨#[]⟩)]), (.agg [(.int .i64 23), (.int .i64 0), (.int .i64 0), (.str ⟨#[]⟩)])]) : Nat) : Int)), c29, c30])) (Int.toNat ((List.length l24 : Nat) : Int)) (.agg [c38, (.int .i64 ((List.length (l24 ++ [(.agg [(.int .i64 24), (.int .i64 0), (.int .i64 0), (.str ⟨#[]⟩)]), (.agg [(.int .i64 1), (.int .i64 0), (.int .i64 1), (.str ⟨#[]⟩)]), (.agg [(.int .i64 23), (.int .i64 0), (.int .i64 0), (.str ⟨#[]⟩)])]) : Nat) : Int)), c40, c41])) ++ [(.agg [(.int .i64 1), (.int .i64 0), (.int .i64 0), (.str ⟨#[]⟩)])]) (Int.toNat (IntKind.i64.wrap (((List.length l24 : Nat) : Int) + 2))) fun e47 => (V.asAgg e47 fun l48 => (unCons l48 fun c49 r58 => (unCons r58 fun c50 r59 => (unCons r59 fun c51 r60 => (unCons r60 fun c52 r61 => (unNil r61 (K [(.sl 4 (List.set ((List.set (List.set (l24 ++ [(.agg [(.int .i64 24), (.int .i64 0), (.int .i64 0), (.str ⟨#[]⟩)]), (.agg [(.int .i64 1), (.int .i64 0), (.int .i64 1), (.str ⟨#[]⟩)]), (.agg [(.int .i64 23), (.int .i64 0), (.int .i64 0), (.str ⟨#[]⟩)])]) (Int.toNat ((List.length l17 : Nat) : Int)) (.agg [c27, (.int .i64 ((List.length (l24 ++ [(.agg [(.int .i64 24), (.int .i64 0), (.int .i64 0), (.str ⟨#[]⟩)]), (.agg [(.int .i64 1), (.int .i64 0), (.int .i64 1), (.str ⟨#[]⟩)]), (.agg [(.int .i64 23), (.int .i64 0), (.int .i64 0), (.str ⟨#[]⟩)])]) : Nat) : Int)), c29, c30])) (Int.toNat ((List.length l24 : Nat) : Int)) (.agg [c38, (.int .i64 ((List.length (l24 ++ [(.agg [(.int .i64 24), (.int .i64 0), (.int .i64 0), (.str ⟨#[]⟩)]), (.agg [(.int .i64 1), (.int .i64 0), (.int .i64 1), (.str ⟨#[]⟩)]), (.agg [(.int .i64 23), (.int .i64 0), (.int .i64 0), (.str ⟨#[]⟩)])]) : Nat) : Int)), c40, c41])) ++ [(.agg [(.int .i64 1), (.int .i64 0), (.int .i64 0), (.str ⟨#[]⟩)])]) (Int.toNat (IntKind.i64.wrap (((List.length l24 : Nat) : Int) + 2))) (.agg [c49, (.int .i64 ((List.length ((List.set (List.set (l24 ++ [(.agg [(.int .i64 24), (.int .i64 0), (.int .i64 0), (.str ⟨#[]⟩)]), (.agg [(.int .i64 1), (.int .i64 0), (.int .i64 1), (.str ⟨#[]⟩)]), (.agg [(.int .i64 23), (.int .i64 0), (.int .i64 0), (.str ⟨#[]⟩)])]) (Int.toNat ((List.length l17 : Nat) : Int)) (.agg [c27, (.int .i64 ((List.length (l24 ++ [(.agg [(.int .i64 24), (.int .i64 0), (.int .i64 0), (.str ⟨#[]⟩)]), (.agg [(.int .i64 1), (.int .i64 0), (.int .i64 1), (.str ⟨#[]⟩)]), (.agg [(.int .i64 23), (.int .i64 0), (.int .i64 0), (.str ⟨#[]⟩)])]) : Nat) : Int)), c29, c30])) (Int.toNat ((List.length l24 : Nat) : Int)) (.agg [c38, (.int .i64 ((List.length (l24 ++ [(.agg [(.int .i64 24), (.int .i64 0), (.int .i64 0), (.str ⟨#[]⟩)]), (.agg [(.int .i64 1), (.int .i64 0), (.int .i64 1), (.str ⟨#[]⟩)]), (.agg [(.int .i64 23), (.int .i64 0), (.int .i64 0), (.str ⟨#[]⟩)])]) : Nat) : Int)), c40, c41])) ++ [(.agg [(.int .i64 1), (.int .i64 0), (.int .i64 0), (.str ⟨#[]⟩)])]) : Nat) : Int)), c51, c52])))])))))))) else none) else none)))))))) else none)))))))) else none) else none)) else none)))))) else none) else none)) else none)))))) else none)
theorem f53_is {R : Type} (G : ORC R) (k : Nat) (K : List V → Option R) (al1 : List V) (ai2 ai3 : Int) (as4 : ByteArray) (al5 : List V) (ai6 : Int) (al7 al8 : List V) (al9 al10 : List V) :
    callF (TAB.env 53) G (L53 G k) Try.f53 S53 [(.sl 4 al1), (.agg [(.int .i64 ai2), (.int .i64 ai3), (.str as4), (.sl 5 al5), (.int .i64 ai6)]), (.agg [(.sl 1 al7), (.sl 1 al8), (.sl 1 al9), (.sl 7 al10)])] K = f53 G k al1 ai2 ai3 as4 al5 ai6 al7 al8 al9 al10 K := by kernel_rfl
theorem lo53 : loopsOf (bodyOf Try.f53) = [] := by kernel_rfl
theorem la53 {R : Type} (G : ORC R) (k : Nat) : LoopsAre (TAB.env 53) G (L53 G k) (bodyOf Try.f53) :=
  loopsAre_of (by rw [lo53]; intro p hp; cases hp)
def g53 {R : Type} (G : ORC R) (k : Nat) (args : List V) (K : List V → Option R) : Option R := match args with
  | [(.sl 4 al1), (.agg [(.int .i64 ai2), (.int .i64 ai3), (.str as4), (.sl 5 al5), (.int .i64 ai6)]), (.agg [(.sl 1 al7), (.sl 1 al8), (.sl 1 al9), (.sl 7 al10)])] => f53 G k al1 ai2 ai3 as4 al5 ai6 al7 al8 al9 al10 K
  | _ => none
theorem s53 {R : Type} {G : ORC R} {k : Nat} (hG : Sound Try.prog TAB G) (args : List V) (K : List V → Option R) (r : R) (h : g53 G k args K = some r) : ∃ o, CallOK Try.prog TAB.env 53 args o ∧ K o = some r := by
  unfold g53 at h
  split at h
  · rw [← f53_is] at h
    exact callF_sound TAB_chk MO hG Try.func53 (sg := S53) (by kernel_rfl) (by kernel_rfl) (la53 G k) h
  · cases h
end Go.Proofs.Ytjbppcgcblfkoaa.Vm
open Go Go.VM
set_option linter.unusedVariables false
set_option maxRecDepth 100000
set_option maxHeartbeats 4000000
namespace Go.Proofs.Ytjbppcgcblfkoaa.Vm
/-! ### cotillion/cotillionref16.or: function 54 -/
def L54 {R : Type} (_ : ORC R) (_ : Nat) : Nat → St → (Ex → St → Option R) → Option R := fun _ _ _ => none
def f54 {R : Type} (G : ORC R) (k : Nat) (al1 : List V) (ai2 ai3 : Int) (as4 : ByteArray) (al5 : List V) (ai6 : Int) (al7 al8 : List V) (al9 al10 : List V) (K : List V → Option R) : Option R :=
  (bif (decide (0 < ((List.length al5 : Nat) : Int))) then (nthK al5 0 fun e11 => (V.asAgg e11 fun l12 => (G 48 [(.sl 4 al1), (.agg l12), (.agg [(.sl 1 al7), (.sl 1 al8), (.sl 1 al9), (.sl 7 al10)])] fun o13 => (unCons o13 fun c14 r15 => (V.asSl c14 fun z16 l17 => (bif (z16 == 4) then (unNil r15 (bif (decide (List.length l17 + 3 ≤ 1073741824)) then (bif ((decide (0 ≤ ((List.length l17 : Nat) : Int))) && (decide (((List.length l17 : Nat) : Int) < ((List.length (l17 ++ [(.agg [(.int .i64 24), (.int .i64 0), (.int .i64 0), (.str ⟨#[]⟩)]), (.agg [(.int .i64 1), (.int .i64 0), (.int .i64 1), (.str ⟨#[]⟩)]), (.agg [(.int .i64 23), (.int .i64 0), (.int .i64 0), (.str ⟨#[]⟩)])]) : Nat) : Int)))) then (nthK (l17 ++ [(.agg [(.int .i64 24), (.int .i64 0), (.int .i64 0), (.str ⟨#[]⟩)]), (.agg [(.int .i64 1), (.int .i64 0), (.int .i64 1), (.str ⟨#[]⟩)]), (.agg [(.int .i64 23), (.int .i64 0), (.int .i64 0), (.str ⟨#[]⟩)])]) (Int.toNat ((List.length l17 : Nat) : Int)) fun e18 => (V.asAgg e18 fun l19 => (unCons l19 fun c20 r81 => (unCons r81 fun c21 r82 => (unCons r82 fun c22 r83 => (unCons r83 fun c23 r84 => (unNil r84 (bif (decide (1 < ((List.length al5 : Nat) : Int))) then (nthK al5 1 fun e29 => (V.asAgg e29 fun l30 => (G 48 [(.sl 4 (List.set (l17 ++ [(.agg [(.int .i64 24), (.int .i64 0), (.int .i64 0), (.str ⟨#[]⟩)]), (.agg [(.int .i64 1), (.int .i64 0), (.int .i64 1), (.str ⟨#[]⟩)]), (.agg [(.int .i64 23), (.int .i64 0), (.int .i64 0), (.str ⟨#[]⟩)])]) (Int.toNat ((List.length l17 : Nat) : Int)) (.agg [c20, (.int .i64 ((List.length (l17 ++ [(.agg [(.int .i64 24), (.int .i64 0), (.int .i64 0), (.str ⟨#[]⟩)]), (.agg [(.int .i64 1), (.int .i64 0), (.int .i64 1), (.str ⟨#[]⟩)]), (.agg [(.int .i64 23), (.int .i64 0), (.int .i64 0), (.str ⟨#[]⟩)])]) : Nat) : Int)), c22, c23]))), (.agg l30), (.agg [(.sl 1 al7), (.sl 1 al8), (.sl 1 al9), (.sl 7 al10)])] fun o31 => (unCons o31 fun c32 r33 => (V.asSl c32 fun z34 l35 => (bif (z34 == 4) then (unNil r33 (bif (decide (List.length l35 + 3 ≤ 1073741824)) then (bif ((decide (0 ≤ ((List.length l35 : Nat) : Int))) && (decide (((List.length l35 : Nat) : Int) < ((List.length (l35 ++ [(.agg [(.int .i64 24), (.int .i64 0), (.int .i64 0), (.str ⟨#[]⟩)]), (.agg [(.int .i64 1), (.int .i64 0), (.int .i64 1), (.str ⟨#[]⟩)]), (.agg [(.int .i64 23), (.int .i64 0), (.int .i64 0), (.str ⟨#[]⟩)])]) : Nat) : Int)))) then (nthK (l35 ++ [(.agg [(.int .i64 24), (.int .i64 0), (.int .i64 0), (.str ⟨#[]⟩)]), (.agg [(.int .i64 1), (.int .i64 0), (.int .i64 1), (.str ⟨#[]⟩)]), (.agg [(.int .i64 23), (.int .i64 0), (.int .i64 0), (.str ⟨#[]⟩)])]) (Int.toNat ((List.length l35 : Nat) : Int)) fun e36 => (V.asAgg e36 fun l37 => (unCons l37 fun c38 r77 => (unCons r77 fun c39 r78 => (unCons r78 fun c40 r79 => (unCons r79 fun c41 r80 => (unNil r80 (bif (decide (List.length (List.set (l35 ++ [(.agg [(.int .i64 24), (.int .i64 0), (.int .i64 0), (.str ⟨#[]⟩)]), (.agg [(.int .i64 1), (.int .i64 0), (.int .i64 1), (.str ⟨#[]⟩)]), (.agg [(.int .i64 23), (.int .i64 0), (.int .i64 0), (.str ⟨#[]⟩)])]) (Int.toNat ((List.length l35 : Nat) : Int)) (.agg [c38, (.int .i64 ((List.length (l35 ++ [(.agg [(.int .i64 24), (.int .i64 0), (.int .i64 0), (.str ⟨#[]⟩)]), (.agg [(.int .i64 1), (.int .i64 0), (.int .i64 1), (.str ⟨#[]⟩)]), (.agg [(.int .i64 23), (.int .i64 0), (.int .i64 0), (.str ⟨#[]⟩)])]) : Nat) : Int)), c40, c41])) + 1 ≤ 1073741824)) then (bif ((decide (0 ≤ (IntKind.i64.wrap (((List.length l17 : Nat) : Int) + 2)))) && (decide ((IntKind.i64.wrap (((List.length l17 : Nat) : Int) + 2)) < ((List.length ((List.set (l35 ++ [(.agg [(.int .i64 24), (.int .i64 0), (.int .i64 0), (.str ⟨#[]⟩)]), (.agg [(.int .i64 1), (.int .i64 0), (.int .i64 1), (.str ⟨#[]⟩)]), (.agg [(.int .i64 23), (.int .i64 0), (.int .i64 0), (.str ⟨#[]⟩)])]) (Int.toNat ((List.length l35 : Nat) : Int)) (.agg [c38, (.int .i64 ((List.length (l35 ++ [(.agg [(.int .i64 24), (.int .i64 0), (.int .i64 0), (.str ⟨#[]⟩)]), (.agg [(.int .i64 1), (.int .i64 0), (.int .i64 1), (.str ⟨#[]⟩)]), (.agg [(.int .i64 23), (.int .i64 0), (.int .i64 0), (.str ⟨#[]⟩)])]) : Nat) : Int)), c40, c41])) ++ [(.agg [(.int .i64 1), (.int .i64 0), (.int .i64 0), (.str ⟨#[]⟩)])]) : Nat) : Int)))) then (nthK ((List.set (l35 ++ [(.agg [(.int .i64 24), (.int .i64 0), (.int .i64 0), (.str ⟨#[]⟩)]), (.agg [(.int .i64 1), (.int .i64 0), (.int .i64 1), (.str ⟨#[]⟩)]), (.agg [(.int .i64 23), (.int .i64 0), (.int .i64 0), (.str ⟨#[]⟩)])]) (Int.toNat ((List.length l35 : Nat) : Int)) (.agg [c38, (.int .i64 ((List.length (l35 ++ [(.agg [(.int .i64 24), (.int .i64 0), (.int .i64 0), (.str ⟨#[]⟩)]), (.agg [(.int .i64 1), (.int .i64 0), (.int .i64 1), (.str ⟨#[]⟩)]), (.agg [(.int .i64 23), (.int .i64 0), (.int .i64 0), (.str ⟨#[]⟩)])]) : Nat) : Int)), c40, c41])) ++ [(.agg [(.int .i64 1), (.int .i64 0), (.int .i64 0), (.str ⟨#[]⟩)])]) (Int.toNat (IntKind.i64.wrap (((List.length l17 : Nat) : Int) + 2))) fun e47 => (V.asAgg e47 fun l48 => (unCons l48 fun c49 r73 => (unCons r73 fun c50 r74 => (unCons r74 fun c51 r75 => (unCons r75 fun c52 r76 => (unNil r76 (bif ((decide (0 ≤ (IntKind.i64.wrap (((List.length l35 : Nat) : Int) + 2)))) && (decide ((IntKind.i64.wrap (((List.length l35 : Nat) : Int) + 2)) < ((List.length (List.set ((List.set (l35 ++ [(.agg [(.int .i64 24), (.int .i64 0), (.int .i64 0), (.str ⟨#[]⟩)]), (.agg [(.int .i64 1), (.int .i64 0), (.int .i64 1), (.str ⟨#[]⟩)]), (.agg [(.int .i64 23), (.int .i64 0), (.int .i64 0), (.str ⟨#[]⟩)])]) (Int.toNat ((List.length l35 : Nat) : Int)) (.agg [c38, (.int .i64 ((List.length (l35 ++ [(.agg [(.int .i64 24), (.int .i64 0), (.int .i64 0), (.str ⟨#[]⟩)]), (.agg [(.int .i64 1), (.int .i64 0), (.int .i64 1), (.str ⟨#[]⟩)]), (.agg [(.int .i64 23), (.int .i64 0), (.int .i64 0), (.str ⟨#[]⟩)])]) : Nat) : Int)), c40, c41])) ++ [(.agg [(.int .i64 1), (.int .i64 0), (.int .i64 0), (.str ⟨#[]⟩)])]) (Int.toNat (IntKind.i64.wrap (((List.length l17 : Nat) : Int) + 2))) (.agg [c49, (.int .i64 ((List.length ((List.set (l35 ++ [(.agg [(.int .i64 24), (.int .i64 0), (.int .i64 0), (.str ⟨#[]⟩)]), (.agg [(.int .i64 1), (.int .i64 0), (.int .i64 1), (.str ⟨#[]⟩)]), (.agg [(.int .i64 23), (.int .i64 0), (.int .i64 0), (.str ⟨#[]⟩)])]) (Int.toNat ((List.length l35 : Nat) : Int)) (.agg [c38, (.int .i64 ((List.length (l35 ++ [(.agg [(.int .i64 24), (.int .i64 0), (.int .i64 0), (.str ⟨#[]⟩)]), (.agg [(.int .i64 1), (.int .i64 0), (.int .i64 1), (.str ⟨#[]⟩)]), (.agg [(.int .i64 23), (.int .i64 0), (.int .i64 0), (.str ⟨#[]⟩)])]) : Nat) : Int)), c40, c41])) ++ [(.agg [(.int .i64 1), (.int .i64 0), (.int .i64 0), (.str ⟨#[]⟩)])]) : Nat) : Int)), c51, c52])) : Nat) : Int)))) then (nthK (List.set ((List.set (l35 ++ [(.agg [(.int .i64 24), (.int .i64 0), (.int .i64 0), (.str ⟨#[]⟩)]), (.agg [(.int .i64 1), (.int .i64 0), (.int .i64 1), (.str ⟨#[]⟩)]), (.agg [(.int .i64 23), (.int .i64 0), (.int .i64 0), (.str ⟨#[]⟩)])]) (Int.toNat ((List.length l35 : Nat) : Int)) (.agg [c38, (.int .i64 ((List.length (l35 ++ [(.agg [(.int .i64 24), (.int .i64 0), (.int .i64 0), (.str ⟨#[]⟩)]), (.agg [(.int .i64 1), (.int .i64 0), (.int .i64 1), (.str ⟨#[]⟩)]), (.agg [(.int .i64 23), (.int .i64 0), (.int .i64 0), (.str ⟨#[]⟩)])]) : Nat) : Int)), c40, c41])) ++ [(.agg [(.int .i64 1), (.int .i64 0), (.int .i64 0), (.str ⟨#[]⟩)])]) (Int.toNat (IntKind.i64.wrap (((List.length l17 : Nat) : Int) + 2))) (.agg [c49, (.int .i64 ((List.length ((List.set (l35 ++ [(.agg [(.int .i64 24), (.int .i64 0), (.int .i64 0), (.str ⟨#[]⟩)]), (.agg [(.int .i64 1), (.int .i64 0), (.int .i64 1), (.str ⟨#[]⟩)]), (.agg [(.int .i64 23), (.int .i64 0), (.int .i64 0), (.str ⟨#[]⟩)])]) (Int.toNat ((List.length l35 : Nat) : Int)) (.agg [c38, (.int .i64 ((List.length (l35 ++ [(.agg [(.int .i64 24), (.int .i64 0), (.int .i64 0), (.str ⟨#[]⟩)]), (.agg [(.int .i64 1), (.int .i64 0), (.int .i64 1), (.str ⟨#[]⟩)]), (.agg [(.int .i64 23), (.int .i64 0), (.int .i64 0), (.str ⟨#[]⟩)])]) : Nat) : Int)), c40, c41])) ++ [(.agg [(.int .i64 1), (.int .i64 0), (.int .i64 0), (.str ⟨#[]⟩)])]) : Nat) : Int)), c51, c52])) (Int.toNat (IntKind.i64.wrap (((List.length l35 : Nat) : Int) + 2))) fun e58 => (V.asAgg e58 fun l59 => (unCons l59 fun c60 r69 => (unCons r69 fun c61 r70 => (unCons r70 fun c62 r71 => (unCons r71 fun c63 r72 => (unNil r72 (K [(.sl 4 (List.set (List.set ((List.set (l35 ++ [(.agg [(.int .i64 24), (.int .i64 0), (.int .i64 0), (.str ⟨#[]⟩)]), (.agg [(.int .i64 1), (.int .i64 0), (.int .i64 1), (.str ⟨#[]⟩)]), (.agg [(.int .i64 23), (.int .i64 0), (.int .i64 0), (.str ⟨#[]⟩)])]) (Int.toNat ((List.length l35 : Nat) : Int)) (.agg [c38, (.int .i64 ((List.length (l35 ++ [(.agg [(.int .i64 24), (.int .i64 0), (.int .i64 0), (.str ⟨#[]⟩)]), (.agg [(.int .i64 1), (.int .i64 0), (.int .i64 1), (.str ⟨#[]⟩)]), (.agg [(.int .i64 23), (.int .i64 0), (.int .i64 0), (.str ⟨#[]⟩)])]) : Nat) : Int)), c40, c41])) ++ [(.agg [(.int .i64 1), (.int .i64 0), (.int .i64 0), (.str ⟨#[]⟩)])]) (Int.toNat (IntKind.i64.wrap (((List.length l17 : Nat) : Int) + 2))) (.agg [c49, (.int .i64 ((List.length ((List.set (l35 ++ [(.agg [(.int .i64 24), (.int .i64 0), (.int .i64 0), (.str ⟨#[]⟩)]), (.agg [(.int .i64 1), (.int .i64 0), (.int .i64 1), (.str ⟨#[]⟩)]), (.agg [(.int .i64 23), (.int .i64 0), (.int .i64 0), (.str ⟨#[]⟩)])]) (Int.toNat ((List.length l35 : Nat) : Int)) (.agg [c38, (.int .i64 ((List.length (l35 ++ [(.agg [(.int .i64 24), (.int .i64 0), (.int .i64 0), (.str ⟨#[]⟩)]), (.agg [(.int .i64 1), (.int .i64 0), (.int .i64 1), (.str ⟨#[]⟩)]), (.agg [(.int .i64 23), (.int .i64 0), (.int .i64 0), (.str ⟨#[]⟩)])]) : Nat) : Int)), c40, c41])) ++ [(.agg [(.int .i64 1), (.int .i64 0), (.int .i64 0), (.str ⟨#[]⟩)])]) : Nat) : Int)), c51, c52])) (Int.toNat (IntKind.i64.wrap (((List.length l35 : Nat) : Int) + 2))) (.agg [c60, (.int .i64 ((List.length ((List.set (l35 ++ [(.agg [(.int .i64 24), (.int .i64 0), (.int .i64 0), (.str ⟨#[]⟩)]), (.agg [(.int .i64 1), (.int .i64 0), (.int .i64 1), (.str ⟨#[]⟩)]), (.agg [(.int .i64 23), (.int .i64 0), (.int .i64 0), (.str ⟨#[]⟩)])]) (Int.toNat ((List.length l35 : Nat) : Int)) (.agg [c38, (.int .i64 ((List.length (l35 ++ [(.agg [(.int .i64 24), (.int .i64 0), (.int .i64 0), (.str ⟨#[]⟩)]), (.agg [(.int .i64 1), (.int .i64 0), (.int .i64 1), (.str ⟨#[]⟩)]), (.agg [(.int .i64 23), (.int .i64 0), (.int .i64 0), (.str ⟨#[]⟩)])]) : Nat) : Int)), c40, c41])) ++ [(.agg [(.int .i64 1), (.int .i64 0), (.int .i64 0), (.str ⟨#[]⟩)])]) : Nat) : Int)), c62, c63])))])))))))) else none)))))))) else none) else none)))))))) else none) else none)) else none)))))) else none)))))))) else none) else none)) else none)))))) else none)
theorem f54_is {R : Type} (G : ORC R) (k : Nat) (K : List V → Option R) (al1 : List V) (ai2 ai3 : Int) (as4 : ByteArray) (al5 : List V) (ai6 : Int) (al7 al8 : List V) (al9 al10 : List V) :
    callF (TAB.env 54) G (L54 G k) Try.f54 S54 [(.sl 4 al1), (.agg [(.int .i64 ai2), (.int .i64 ai3), (.str as4), (.sl 5 al5), (.int .i64 ai6)]), (.agg [(.sl 1 al7), (.sl 1 al8), (.sl 1 al9), (.sl 7 al10)])] K = f54 G k al1 ai2 ai3 as4 al5 ai6 al7 al8 al9 al10 K := by kernel_rfl
theorem lo54 : loopsOf (bodyOf Try.f54) = [] := by kernel_rfl
theorem la54 {R : Type} (G : ORC R) (k : Nat) : LoopsAre (TAB.env 54) G (L54 G k) (bodyOf Try.f54) :=
  loopsAre_of (by rw [lo54]; intro p hp; cases hp)
def g54 {R : Type} (G : ORC R) (k : Nat) (args : List V) (K : List V → Option R) : Option R := match args with
  | [(.sl 4 al1), (.agg [(.int .i64 ai2), (.int .i64 ai3), (.str as4), (.sl 5 al5), (.int .i64 ai6)]), (.agg [(.sl 1 al7), (.sl 1 al8), (.sl 1 al9), (.sl 7 al10)])] => f54 G k al1 ai2 ai3 as4 al5 ai6 al7 al8 al9 al10 K
  | _ => none
theorem s54 {R : Type} {G : ORC R} {k : Nat} (hG : Sound Try.prog TAB G) (args : List V) (K : List V → Option R) (r : R) (h : g54 G k args K = some r) : ∃ o, CallOK Try.prog TAB.env 54 args o ∧ K o = some r := by
  unfold g54 at h
  split at h
  · rw [← f54_is] at h
    exact callF_sound TAB_chk MO hG Try.func54 (sg := S54) (by kernel_rfl) (by kernel_rfl) (la54 G k) h
  · cases h
end Go.Proofs.Ytjbppcgcblfkoaa.Vm
open Go Go.VM
set_option linter.unusedVariables false
set_option maxRecDepth 100000
set_option maxHeartbeats 4000000
namespace Go.Proofs.Ytjbppcgcblfkoaa.Vm
/-! ### cotillion/cotillionref16.arg: function 56 -/
def L56 {R : Type} (_ : ORC R) (_ : Nat) : Nat → St → (Ex → St → Option R) → Option R := fun _ _ _ => none
def f56 {R : Type} (G : ORC R) (k : Nat) (al1 al2 : List V) (al3 al4 : List V) (al5 al6 : List V) (K : List V → Option R) : Option R :=
  (bif (((List.length al2 : Nat) : Int) == 0) then (bif (decide (List.length al1 + 1 ≤ 1073741824)) then (K [(.sl 4 (al1 ++ [(.agg [(.int .i64 1), (.int .i64 0), (.int .i64 0), (.str ⟨#[]⟩)])]))]) else none) else (bif (decide (0 < ((List.length al2 : Nat) : Int))) then (nthK al2 0 fun e7 => (V.asAgg e7 fun l8 => (G 48 [(.sl 4 al1), (.agg l8), (.agg [(.sl 1 al3), (.sl 1 al4), (.sl 1 al5), (.sl 7 al6)])] fun o9 => (unCons o9 fun c10 r11 => (V.asSl c10 fun z12 l13 => (bif (z12 == 4) then (unNil r11 (K [(.sl 4 l13)])) else none)))))) else none))
theorem f56_is {R : Type} (G : ORC R) (k : Nat) (K : List V → Option R) (al1 al2 : List V) (al3 al4 : List V) (al5 al6 : List V) :
    callF (TAB.env 56) G (L56 G k) Try.f56 S56 [(.sl 4 al1), (.sl 5 al2), (.agg [(.sl 1 al3), (.sl 1 al4), (.sl 1 al5), (.sl 7 al6)])] K = f56 G k al1 al2 al3 al4 al5 al6 K := by kernel_rfl
theorem lo56 : loopsOf (bodyOf Try.f56) = [] := by kernel_rfl
theorem la56 {R : Type} (G : ORC R) (k : Nat) : LoopsAre (TAB.env 56) G (L56 G k) (bodyOf Try.f56) :=
  loopsAre_of (by rw [lo56]; intro p hp; cases hp)
def g56 {R : Type} (G : ORC R) (k : Nat) (args : List V) (K : List V → Option R) : Option R := match args with
  | [(.sl 4 al1), (.sl 5 al2), (.agg [(.sl 1 al3), (.sl 1 al4), (.sl 1 al5), (.sl 7 al6)])] => f56 G k al1 al2 al3 al4 al5 al6 K
  | _ => none
theorem s56 {R : Type} {G : ORC R} {k : Nat} (hG : Sound Try.prog TAB G) (args : List V) (K : List V → Option R) (r : R) (h : g56 G k args K = some r) : ∃ o, CallOK Try.prog TAB.env 56 args o ∧ K o = some r := by
  unfold g56 at h
  split at h
  · rw [← f56_is] at h
    exact callF_sound TAB_chk MO hG Try.func56 (sg := S56) (by kernel_rfl) (by kernel_rfl) (la56 G k) h
  · cases h
end Go.Proofs.Ytjbppcgcblfkoaa.Vm
open Go Go.VM
set_option linter.unusedVariables false
set_option maxRecDepth 100000
set_option maxHeartbeats 4000000
namespace Go.Proofs.Ytjbppcgcblfkoaa.Vm
/-! ### cotillion/cotillionref16.act: function 55 -/
def L55 {R : Type} (_ : ORC R) (_ : Nat) : Nat → St → (Ex → St → Option R) → Option R := fun _ _ _ => none
def f55 {R : Type} (G : ORC R) (k : Nat) (al1 : List V) (ai2 : Int) (as3 as4 : ByteArray) (al5 : List V) (ai6 : Int) (al7 al8 : List V) (ai9 : Int) (al10 al11 : List V) (al12 al13 : List V) (K : List V → Option R) : Option R :=
  (bif (ai2 == 1) then (G 56 [(.sl 4 al1), (.sl 5 al5), (.agg [(.sl 1 al10), (.sl 1 al11), (.sl 1 al12), (.sl 7 al13)])] fun o14 => (unCons o14 fun c15 r16 => (V.asSl c15 fun z17 l18 => (bif (z17 == 4) then (unNil r16 (G 51 [(.sl 1 al10), (.str as3)] fun o19 => (unCons o19 fun c20 r21 => (V.asInt c20 fun k22 n23 => (bif decide (k22 = .i64) then (unNil r21 (bif (decide (List.length l18 + 1 ≤ 1073741824)) then (K [(.sl 4 (l18 ++ [(.agg [(.int .i64 18), (.int .i64 n23), (.int .i64 0), (.str ⟨#[]⟩)])]))]) else none)) else none))))) else none)))) else (bif (ai2 == 2) then (G 56 [(.sl 4 al1), (.sl 5 al5), (.agg [(.sl 1 al10), (.sl 1 al11), (.sl 1 al12), (.sl 7 al13)])] fun o24 => (unCons o24 fun c25 r26 => (V.asSl c25 fun z27 l28 => (bif (z27 == 4) then (unNil r26 (bif (decide (List.length l28 + 1 ≤ 1073741824)) then (K [(.sl 4 (l28 ++ [(.agg [(.int .i64 19), (.int .i64 0), (.int .i64 0), (.str as4)])]))]) else none)) else none)))) else (bif (ai2 == 3) then (G 56 [(.sl 4 al1), (.sl 5 al5), (.agg [(.sl 1 al10), (.sl 1 al11), (.sl 1 al12), (.sl 7 al13)])] fun o29 => (unCons o29 fun c30 r31 => (V.asSl c30 fun z32 l33 => (bif (z32 == 4) then (unNil r31 (G 51 [(.sl 1 al11), (.str as3)] fun o34 => (unCons o34 fun c35 r36 => (V.asInt c35 fun k37 n38 => (bif decide (k37 = .i64) then (unNil r36 (bif (decide (List.length l33 + 1 ≤ 1073741824)) then (K [(.sl 4 (l33 ++ [(.agg [(.int .i64 20), (.int .i64 n38), (.int .i64 0), (.str as4)])]))]) else none)) else none))))) else none)))) else (bif (ai2 == 4) then (G 56 [(.sl 4 al1), (.sl 5 al5), (.agg [(.sl 1 al10), (.sl 1 al11), (.sl 1 al12), (.sl 7 al13)])] fun o39 => (unCons o39 fun c40 r41 => (V.asSl c40 fun z42 l43 => (bif (z42 == 4) then (unNil r41 (G 51 [(.sl 1 al12), (.str as3)] fun o44 => (unCons o44 fun c45 r46 => (V.asInt c45 fun k47 n48 => (bif decide (k47 = .i64) then (unNil r46 (bif (decide (List.length l43 + 1 ≤ 1073741824)) then (K [(.sl 4 (l43 ++ [(.agg [(.int .i64 21), (.int .i64 n48), (.int .i64 0), (.str ⟨#[]⟩)])]))]) else none)) else none))))) else none)))) else (bif (ai2 == 5) then (G 51 [(.sl 1 al12), (.str as3)] fun o49 => (unCons o49 fun c50 r51 => (V.asInt c50 fun k52 n53 => (bif decide (k52 = .i64) then (unNil r51 (bif (decide (List.length al1 + 1 ≤ 1073741824)) then (K [(.sl 4 (al1 ++ [(.agg [(.int .i64 22), (.int .i64 n53), (.int .i64 0), (.str ⟨#[]⟩)])]))]) else none)) else none)))) else (bif (ai2 == 7) then (bif (decide (List.length al1 + 1 ≤ 1073741824)) then (G 50 [(.sl 4 (al1 ++ [(.agg [(.int .i64 25), (.int .i64 0), (.int .i64 ai6), (.str ⟨#[]⟩)])])), (.sl 8 al7), (.agg [(.sl 1 al10), (.sl 1 al11), (.sl 1 al12), (.sl 7 al13)])] fun o54 => (unCons o54 fun c55 r56 => (V.asSl c55 fun z57 l58 => (bif (z57 == 4) then (unNil r56 (bif (decide (List.length l58 + 1 ≤ 1073741824)) then (bif ((decide (0 ≤ ((List.length al1 : Nat) : Int))) && (decide (((List.length al1 : Nat) : Int) < ((List.length (l58 ++ [(.agg [(.int .i64 26), (.int .i64 ((List.length al1 : Nat) : Int)), (.int .i64 0), (.str ⟨#[]⟩)])]) : Nat) : Int)))) then (nthK (l58 ++ [(.agg [(.int .i64 26), (.int .i64 ((List.length al1 : Nat) : Int)), (.int .i64 0), (.str ⟨#[]⟩)])]) (Int.toNat ((List.length al1 : Nat) : Int)) fun e59 => (V.asAgg e59 fun l60 => (unCons l60 fun c61 r70 => (unCons r70 fun c62 r71 => (unCons r71 fun c63 r72 => (unCons r72 fun c64 r73 => (unNil r73 (K [(.sl 4 (List.set (l58 ++ [(.agg [(.int .i64 26), (.int .i64 ((List.length al1 : Nat) : Int)), (.int .i64 0), (.str ⟨#[]⟩)])]) (Int.toNat ((List.length al1 : Nat) : Int)) (.agg [c61, (.int .i64 ((List.length (l58 ++ [(.agg [(.int .i64 26), (.int .i64 ((List.length al1 : Nat) : Int)), (.int .i64 0), (.str ⟨#[]⟩)])]) : Nat) : Int)), c63, c64])))])))))))) else none) else none)) else none)))) else none) else (bif (decide (0 < ((List.length al5 : Nat) : Int))) then (nthK al5 0 fun e74 => (V.asAgg e74 fun l75 => (G 48 [(.sl 4 al1), (.agg l75), (.agg [(.sl 1 al10), (.sl 1 al11), (.sl 1 al12), (.sl 7 al13)])] fun o76 => (unCons o76 fun c77 r78 => (V.asSl c77 fun z79 l80 => (bif (z79 == 4) then (unNil r78 (bif (decide (List.length l80 + 1 ≤ 1073741824)) then (G 50 [(.sl 4 (l80 ++ [(.agg [(.int .i64 24), (.int .i64 0), (.int .i64 0), (.str ⟨#[]⟩)])])), (.sl 8 al7), (.agg [(.sl 1 al10), (.sl 1 al11), (.sl 1 al12), (.sl 7 al13)])] fun o81 => (unCons o81 fun c82 r83 => (V.asSl c82 fun z84 l85 => (bif (z84 == 4) then (unNil r83 (bif (decide (((List.length al8 : Nat) : Int) > 0)) then (bif (decide (List.length l85 + 1 ≤ 1073741824)) then (bif ((decide (0 ≤ ((List.length l80 : Nat) : Int))) && (decide (((List.length l80 : Nat) : Int) < ((List.length (l85 ++ [(.agg [(.int .i64 23), (.int .i64 0), (.int .i64 0), (.str ⟨#[]⟩)])]) : Nat) : Int)))) then (nthK (l85 ++ [(.agg [(.int .i64 23), (.int .i64 0), (.int .i64 0), (.str ⟨#[]⟩)])]) (Int.toNat ((List.length l80 : Nat) : Int)) fun e86 => (V.asAgg e86 fun l87 => (unCons l87 fun c88 r117 => (unCons r117 fun c89 r118 => (unCons r118 fun c90 r119 => (unCons r119 fun c91 r120 => (unNil r120 (G 50 [(.sl 4 (List.set (l85 ++ [(.agg [(.int .i64 23), (.int .i64 0), (.int .i64 0), (.str ⟨#[]⟩)])]) (Int.toNat ((List.length l80 : Nat) : Int)) (.agg [c88, (.int .i64 ((List.length (l85 ++ [(.agg [(.int .i64 23), (.int .i64 0), (.int .i64 0), (.str ⟨#[]⟩)])]) : Nat) : Int)), c90, c91]))), (.sl 8 al8), (.agg [(.sl 1 al10), (.sl 1 al11), (.sl 1 al12), (.sl 7 al13)])] fun o97 => (unCons o97 fun c98 r99 => (V.asSl c98 fun z100 l101 => (bif (z100 == 4) then (unNil r99 (bif ((decide (0 ≤ ((List.length l85 : Nat) : Int))) && (decide (((List.length l85 : Nat) : Int) < ((List.length l101 : Nat) : Int)))) then (nthK l101 (Int.toNat ((List.length l85 : Nat) : Int)) fun e102 => (V.asAgg e102 fun l103 => (unCons l103 fun c104 r113 => (unCons r113 fun c105 r114 => (unCons r114 fun c106 r115 => (unCons r115 fun c107 r116 => (unNil r116 (K [(.sl 4 (List.set l101 (Int.toNat ((List.length l85 : Nat) : Int)) (.agg [c104, (.int .i64 ((List.length l101 : Nat) : Int)), c106, c107])))])))))))) else none)) else none))))))))))) else none) else none) else (bif ((decide (0 ≤ ((List.length l80 : Nat) : Int))) && (decide (((List.length l80 : Nat) : Int) < ((List.length l85 : Nat) : Int)))) then (nthK l85 (Int.toNat ((List.length l80 : Nat) : Int)) fun e121 => (V.asAgg e121 fun l122 => (unCons l122 fun c123 r132 => (unCons r132 fun c124 r133 => (unCons r133 fun c125 r134 => (unCons r134 fun c126 r135 => (unNil r135 (K [(.sl 4 (List.set l85 (Int.toNat ((List.length l80 : Nat) : Int)) (.agg [c123, (.int .i64 ((List.length l85 : Nat) : Int)), c125, c126])))])))))))) else none))) else none)))) else none)) else none)))))) else none)))))))
theorem f55_is {R : Type} (G : ORC R) (k : Nat) (K : List V → Option R) (al1 : List V) (ai2 : Int) (as3 as4 : ByteArray) (al5 : List V) (ai6 : Int) (al7 al8 : List V) (ai9 : Int) (al10 al11 : List V) (al12 al13 : List V) :
    callF (TAB.env 55) G (L55 G k) Try.f55 S55 [(.sl 4 al1), (.agg [(.int .i64 ai2), (.str as3), (.str as4), (.sl 5 al5), (.int .i64 ai6), (.sl 8 al7), (.sl 8 al8), (.int .i64 ai9)]), (.agg [(.sl 1 al10), (.sl 1 al11), (.sl 1 al12), (.sl 7 al13)])] K = f55 G k al1 ai2 as3 as4 al5 ai6 al7 al8 ai9 al10 al11 al12 al13 K := by kernel_rfl
theorem lo55 : loopsOf (bodyOf Try.f55) = [] := by kernel_rfl
theorem la55 {R : Type} (G : ORC R) (k : Nat) : LoopsAre (TAB.env 55) G (L55 G k) (bodyOf Try.f55) :=
  loopsAre_of (by rw [lo55]; intro p hp; cases hp)
def g55 {R : Type} (G : ORC R) (k : Nat) (args : List V) (K : List V → Option R) : Option R := match args with
  | [(.sl 4 al1), (.agg [(.int .i64 ai2), (.str as3), (.str as4), (.sl 5 al5), (.int .i64 ai6), (.sl 8 al7), (.sl 8 al8), (.int .i64 ai9)]), (.agg [(.sl 1 al10), (.sl 1 al11), (.sl 1 al12), (.sl 7 al13)])] => f55 G k al1 ai2 as3 as4 al5 ai6 al7 al8 ai9 al10 al11 al12 al13 K
  | _ => none
theorem s55 {R : Type} {G : ORC R} {k : Nat} (hG : Sound Try.prog TAB G) (args : List V) (K : List V → Option R) (r : R) (h : g55 G k args K = some r) : ∃ o, CallOK Try.prog TAB.env 55 args o ∧ K o = some r := by
  unfold g55 at h
  split at h
  · rw [← f55_is] at h
    exact callF_sound TAB_chk MO hG Try.func55 (sg := S55) (by kernel_rfl) (by kernel_rfl) (la55 G k) h
  · cases h
end Go.Proofs.Ytjbppcgcblfkoaa.Vm
open Go Go.VM
set_option linter.unusedVariables false
set_option maxRecDepth 100000
set_option maxHeartbeats 4000000
namespace Go.Proofs.Ytjbppcgcblfkoaa.Vm
/-! ### cotillion/cotillionref16.block: function 50 -/
def P50_0h : Pat := { tmps := unds [.var (.sl 4) (.own true), .var (.sl 8) .ro, .undef, .undef, .undef, .stat (.one (.ptr 5 0) .pt), .undef, .var (.int .i64) .pr] 14 [], boxes := nons [] 5 (nons [some [.var (.sl 1) .ro false, .var (.sl 1) .ro false, .var (.sl 1) .ro false, .var (.sl 7) .ro false]] 16 []) }
def P50_0x : Pat := { tmps := unds [.var (.sl 4) (.own true)] 21 [], boxes := nons [] 22 [] }
def b50_0 {R : Type} (G : ORC R) (k : Nat) (X : List V → List V → Int → List V → List V → List V → List V → Option R) (Ko : List V → Option R) (xl7 xl8 : List V) (xi9 : Int) (xl10 xl11 : List V) (xl12 xl13 : List V) : Option R :=
  (bif (decide (xi9 < ((List.length xl8 : Nat) : Int))) then (bif ((decide (0 ≤ xi9)) && (decide (xi9 < ((List.length xl8 : Nat) : Int)))) then (nthK xl8 (Int.toNat xi9) fun e14 => (V.asAgg e14 fun l15 => (G 55 [(.sl 4 xl7), (.agg l15), (.agg [(.sl 1 xl10), (.sl 1 xl11), (.sl 1 xl12), (.sl 7 xl13)])] fun o16 => (unCons o16 fun c17 r18 => (V.asSl c17 fun z19 l20 => (bif (z19 == 4) then (unNil r18 (X l20 xl8 (IntKind.i64.wrap (xi9 + 1)) xl10 xl11 xl12 xl13)) else none)))))) else none) else (Ko xl7))
def l50_0g {R : Type} (G : ORC R) (k : Nat) (Ko : List V → Option R) : Nat → List V → List V → Int → List V → List V → List V → List V → Option R
  | 0 => fun _ _ _ _ _ _ _ => none
  | j + 1 => b50_0 G k (l50_0g G k Ko j) Ko
def l50_0 {R : Type} (G : ORC R) (k : Nat) (xl7 xl8 : List V) (xi9 : Int) (xl10 xl11 : List V) (xl12 xl13 : List V) (Ko : List V → Option R) : Option R := l50_0g G k Ko k xl7 xl8 xi9 xl10 xl11 xl12 xl13
def rd50_0 {R : Type} (G : ORC R) (k : Nat) (K : Ex → St → Option R) (j : Nat) (vs : List V) : Option R := match vs with
  | [(.sl 4 xl7), (.sl 8 xl8), (.int .i64 xi9), (.sl 1 xl10), (.sl 1 xl11), (.sl 1 xl12), (.sl 7 xl13)] => l50_0g G k (fun yl22 => K .normal (P50_0x.inst [(.sl 4 yl22)])) j xl7 xl8 xi9 xl10 xl11 xl12 xl13
  | _ => none
def L50 {R : Type} (G : ORC R) (k : Nat) : Nat → St → (Ex → St → Option R) → Option R
  | 0, S, K => P50_0h.mat S fun vs => rd50_0 G k K k vs
  | _, _, _ => none
def f50 {R : Type} (G : ORC R) (k : Nat) (al1 al2 : List V) (al3 al4 : List V) (al5 al6 : List V) (K : List V → Option R) : Option R :=
  (l50_0 G k al1 al2 0 al3 al4 al5 al6 (fun yl21 => (K [(.sl 4 yl21)])))
noncomputable def D50_0 : LoopD := { id := 0, body := loopAt 0 (bodyOf Try.f50), head := P50_0h, out := P50_0x, ret := default }
theorem l50_0_is {R : Type} (G : ORC R) (k : Nat) (X : List V → Option R) (K : Ex → St → Option R) (xl7 xl8 : List V) (xi9 : Int) (xl10 xl11 : List V) (xl12 xl13 : List V) :
    roundOf (TAB.env 50) G (L50 G k) D50_0 X K [(.sl 4 xl7), (.sl 8 xl8), (.int .i64 xi9), (.sl 1 xl10), (.sl 1 xl11), (.sl 1 xl12), (.sl 7 xl13)] = b50_0 G k (fun xl7 xl8 xi9 xl10 xl11 xl12 xl13 => X [(.sl 4 xl7), (.sl 8 xl8), (.int .i64 xi9), (.sl 1 xl10), (.sl 1 xl11), (.sl 1 xl12), (.sl 7 xl13)]) (fun yl22 => K .normal (P50_0x.inst [(.sl 4 yl22)])) xl7 xl8 xi9 xl10 xl11 xl12 xl13 := by kernel_rfl
theorem f50_is {R : Type} (G : ORC R) (k : Nat) (K : List V → Option R) (al1 al2 : List V) (al3 al4 : List V) (al5 al6 : List V) :
    callF (TAB.env 50) G (L50 G k) Try.f50 S50 [(.sl 4 al1), (.sl 8 al2), (.agg [(.sl 1 al3), (.sl 1 al4), (.sl 1 al5), (.sl 7 al6)])] K = f50 G k al1 al2 al3 al4 al5 al6 K := by kernel_rfl
theorem li50_0 {R : Type} (G : ORC R) (k : Nat) : LoopIs (TAB.env 50) G (L50 G k) 0 (loopAt 0 (bodyOf Try.f50)) :=
  ⟨D50_0, fun j vs K => rd50_0 G k K j vs, k, rfl, rfl, by kernel_rfl, by kernel_rfl, by kernel_rfl, (fun vs K => by unfold rd50_0; dsimp only; split <;> rfl),
    (fun j vs K r h => by
      unfold rd50_0 at h
      dsimp only at h
      split at h
      · rw [l50_0_is]; exact h
      · cases h), (fun S K r h => h)⟩
theorem lo50 : loopsOf (bodyOf Try.f50) = [(0, loopAt 0 (bodyOf Try.f50))] := by kernel_rfl
theorem la50 {R : Type} (G : ORC R) (k : Nat) : LoopsAre (TAB.env 50) G (L50 G k) (bodyOf Try.f50) :=
  loopsAre_of (by rw [lo50]; intro p hp; simp only [List.mem_cons, List.not_mem_nil, or_false] at hp; subst hp; exact li50_0 G k)
def g50 {R : Type} (G : ORC R) (k : Nat) (args : List V) (K : List V → Option R) : Option R := match args with
  | [(.sl 4 al1), (.sl 8 al2), (.agg [(.sl 1 al3), (.sl 1 al4), (.sl 1 al5), (.sl 7 al6)])] => f50 G k al1 al2 al3 al4 al5 al6 K
  | _ => none
theorem s50 {R : Type} {G : ORC R} {k : Nat} (hG : Sound Try.prog TAB G) (args : List V) (K : List V → Option R) (r : R) (h : g50 G k args K = some r) : ∃ o, CallOK Try.prog TAB.env 50 args o ∧ K o = some r := by
  unfold g50 at h
  split at h
  · rw [← f50_is] at h
    exact callF_sound TAB_chk MO hG Try.func50 (sg := S50) (by kernel_rfl) (by kernel_rfl) (la50 G k) h
  · cases h
end Go.Proofs.Ytjbppcgcblfkoaa.Vm
open Go Go.VM
set_option linter.unusedVariables false
set_option maxRecDepth 100000
set_option maxHeartbeats 4000000
namespace Go.Proofs.Ytjbppcgcblfkoaa.Vm
/-! ### cotillion/cotillionref16.Block: function 47 -/
def L47 {R : Type} (_ : ORC R) (_ : Nat) : Nat → St → (Ex → St → Option R) → Option R := fun _ _ _ => none
def f47 {R : Type} (G : ORC R) (k : Nat) (al1 al2 : List V) (al3 al4 al5 : List V) (K : List V → Option R) : Option R :=
  (G 50 [(.sl 4 []), (.sl 8 al1), (.agg [(.sl 1 al2), (.sl 1 al3), (.sl 1 al4), (.sl 7 al5)])] fun o6 => (unCons o6 fun c7 r8 => (V.asSl c7 fun z9 l10 => (bif (z9 == 4) then (unNil r8 (K [(.sl 4 l10)])) else none))))
theorem f47_is {R : Type} (G : ORC R) (k : Nat) (K : List V → Option R) (al1 al2 : List V) (al3 al4 al5 : List V) :
    callF (TAB.env 47) G (L47 G k) Try.f47 S47 [(.sl 8 al1), (.agg [(.sl 1 al2), (.sl 1 al3), (.sl 1 al4), (.sl 7 al5)])] K = f47 G k al1 al2 al3 al4 al5 K := by kernel_rfl
theorem lo47 : loopsOf (bodyOf Try.f47) = [] := by kernel_rfl
theorem la47 {R : Type} (G : ORC R) (k : Nat) : LoopsAre (TAB.env 47) G (L47 G k) (bodyOf Try.f47) :=
  loopsAre_of (by rw [lo47]; intro p hp; cases hp)
def g47 {R : Type} (G : ORC R) (k : Nat) (args : List V) (K : List V → Option R) : Option R := match args with
  | [(.sl 8 al1), (.agg [(.sl 1 al2), (.sl 1 al3), (.sl 1 al4), (.sl 7 al5)])] => f47 G k al1 al2 al3 al4 al5 K
  | _ => none
theorem s47 {R : Type} {G : ORC R} {k : Nat} (hG : Sound Try.prog TAB G) (args : List V) (K : List V → Option R) (r : R) (h : g47 G k args K = some r) : ∃ o, CallOK Try.prog TAB.env 47 args o ∧ K o = some r := by
  unfold g47 at h
  split at h
  · rw [← f47_is] at h
    exact callF_sound TAB_chk MO hG Try.func47 (sg := S47) (by kernel_rfl) (by kernel_rfl) (la47 G k) h
  · cases h
end Go.Proofs.Ytjbppcgcblfkoaa.Vm
open Go Go.VM
set_option linter.unusedVariables false
set_option maxRecDepth 100000
set_option maxHeartbeats 4000000
namespace Go.Proofs.Ytjbppcgcblfkoaa.Vm
/-! ### cotillion/cotillionref16.Guard: function 41 -/
def L41 {R : Type} (_ : ORC R) (_ : Nat) : Nat → St → (Ex → St → Option R) → Option R := fun _ _ _ => none
def f41 {R : Type} (G : ORC R) (k : Nat) (ai1 ai2 : Int) (as3 : ByteArray) (al4 : List V) (ai5 : Int) (al6 al7 : List V) (al8 al9 : List V) (K : List V → Option R) : Option R :=
  (G 48 [(.sl 4 []), (.agg [(.int .i64 ai1), (.int .i64 ai2), (.str as3), (.sl 5 al4), (.int .i64 ai5)]), (.agg [(.sl 1 al6), (.sl 1 al7), (.sl 1 al8), (.sl 7 al9)])] fun o10 => (unCons o10 fun c11 r12 => (V.asSl c11 fun z13 l14 => (bif (z13 == 4) then (unNil r12 (K [(.sl 4 l14)])) else none))))
theorem f41_is {R : Type} (G : ORC R) (k : Nat) (K : List V → Option R) (ai1 ai2 : Int) (as3 : ByteArray) (al4 : List V) (ai5 : Int) (al6 al7 : List V) (al8 al9 : List V) :
    callF (TAB.env 41) G (L41 G k) Try.f41 S41 [(.agg [(.int .i64 ai1), (.int .i64 ai2), (.str as3), (.sl 5 al4), (.int .i64 ai5)]), (.agg [(.sl 1 al6), (.sl 1 al7), (.sl 1 al8), (.sl 7 al9)])] K = f41 G k ai1 ai2 as3 al4 ai5 al6 al7 al8 al9 K := by kernel_rfl
theorem lo41 : loopsOf (bodyOf Try.f41) = [] := by kernel_rfl
theorem la41 {R : Type} (G : ORC R) (k : Nat) : LoopsAre (TAB.env 41) G (L41 G k) (bodyOf Try.f41) :=
  loopsAre_of (by rw [lo41]; intro p hp; cases hp)
def g41 {R : Type} (G : ORC R) (k : Nat) (args : List V) (K : List V → Option R) : Option R := match args with
  | [(.agg [(.int .i64 ai1), (.int .i64 ai2), (.str as3), (.sl 5 al4), (.int .i64 ai5)]), (.agg [(.sl 1 al6), (.sl 1 al7), (.sl 1 al8), (.sl 7 al9)])] => f41 G k ai1 ai2 as3 al4 ai5 al6 al7 al8 al9 K
  | _ => none
theorem s41 {R : Type} {G : ORC R} {k : Nat} (hG : Sound Try.prog TAB G) (args : List V) (K : List V → Option R) (r : R) (h : g41 G k args K = some r) : ∃ o, CallOK Try.prog TAB.env 41 args o ∧ K o = some r := by
  unfold g41 at h
  split at h
  · rw [← f41_is] at h
    exact callF_sound TAB_chk MO hG Try.func41 (sg := S41) (by kernel_rfl) (by kernel_rfl) (la41 G k) h
  · cases h
end Go.Proofs.Ytjbppcgcblfkoaa.Vm
open Go Go.VM
set_option linter.unusedVariables false
set_option linter.unusedSimpArgs false
set_option maxRecDepth 100000
set_option maxHeartbeats 8000000
namespace Go.Proofs.Ytjbppcgcblfkoaa.Vm
section
variable {R : Type} {G : ORC R} {k : Nat} {K : List V → Option R}
def PlOK (G : ORC R) : Prop := ∀ (l : List V) (s : ByteArray) (K : List V → Option R), StrsS 100 l → W (fun o => ∃ i, o = [.int .i64 i]) K (G 51 [.sl 1 l, .str s] K)
theorem pl_loop {Q : List V → Prop} {K : List V → Option R} {Ko : Unit → Option R} {Kr : Int → Option R} {l : List V} {s : ByteArray} (hl : StrsS 100 l) (hKo : W Q K (Ko ())) (hKr : ∀ i, W Q K (Kr i)) :
    ∀ (j : Nat) (i : Int), 0 ≤ i → i ≤ l.length → l.length - i < j → W Q K (l51_0g G k Ko Kr j l s i)
  | 0, i, h1, h2, h3 => by omega
  | j + 1, i, h1, h2, h3 => by
    show W Q K (b51_0 G k (l51_0g G k Ko Kr j) Ko Kr l s i)
    unfold b51_0
    have hll := hl.1
    refine W_dec (fun h => ?_) (fun h => hKo)
    refine W_and (W_yes h1 (W_yes h ?_))
    refine W_nth (by omega) (fun v _ hv => ?_)
    obtain ⟨t, rfl, ht⟩ := hl.2 v hv
    refine W_asStr (W_bool (fun _ => hKr i) (fun _ => ?_))
    rw [wrap_id (n := i + 1) (by omega)]
    exact pl_loop hl hKo hKr j (i + 1) (by omega) (by omega) (by omega)
theorem pl_ok (hk : 10000 ≤ k) : PlOK (fun _ args (K : List V → Option R) => g51 G k args K) := by
  intro l s K hl
  show W _ K (f51 G k l s K)
  unfold f51 l51_0
  have hll := hl.1
  exact pl_loop hl (W_ret ⟨_, rfl⟩) (fun i => W_ret ⟨_, rfl⟩) k 0 (by omega) (by omega) (by omega)
def OpOK (G : ORC R) : Prop := ∀ (n : Int) (K : List V → Option R), W (fun o => ∃ i, o = [.int .i64 i]) K (G 52 [.int .i64 n] K)
theorem op_ok : OpOK (fun _ args (K : List V → Option R) => g52 G k args K) := by
  intro n K
  show W _ K (f52 G k n K)
  unfold f52
  refine W_beqI (fun _ => W_ret ⟨_, rfl⟩) (fun _ => ?_)
  exact W_beqI (fun _ => W_ret ⟨_, rfl⟩) (fun _ => W_ret ⟨_, rfl⟩)
def CodeQ (c : List V) (m : Nat) (o : List V) : Prop := ∃ c', o = [.sl 4 c'] ∧ AllI c' ∧ c.length ≤ c'.length ∧ c'.length ≤ c.length + m
def NamS (a p t : List V) (nd : List Nd) : Prop := StrsS 100 a ∧ StrsS 100 p ∧ StrsS 100 t ∧ nd.length ≤ 1000
def namV (a p t : List V) (nd : List Nd) : V := .agg [.sl 1 a, .sl 1 p, .sl 1 t, .sl 7 (nd.map Nd.v)]
def RExprOK (d : Nat) (G : ORC R) : Prop := ∀ (c : List V) (e : V) (a p t : List V) (nd : List Nd) (K : List V → Option R), AllI c → ExprS d e → NamS a p t nd → c.length + ce d ≤ 1000000 →
  W (CodeQ c (ce d)) K (G 48 [.sl 4 c, e, namV a p t nd] K)
def RBothOK (f : Nat) (d : Nat) (G : ORC R) : Prop := ∀ (c : List V) (kind n x : Int) (nm : ByteArray) (kids a p t : List V) (nd : List Nd) (K : List V → Option R), AllI c → kids.length = 2 → (∀ e ∈ kids, ExprS d e) → NamS a p t nd → c.length + ce (d + 1) ≤ 1000000 →
  W (CodeQ c (ce (d + 1))) K (G f [.sl 4 c, .agg [.int .i64 kind, .int .i64 n, .str nm, .sl 5 kids, .int .i64 x], namV a p t nd] K)
theorem rand_ok {d : Nat} (hE : RExprOK d G) : RBothOK 53 d (fun _ args (K : List V → Option R) => g53 G k args K) := by
  intro c kind n x nm kids a p t nd K hc hk hkd hn hm
  show W _ K (f53 G k c kind n nm kids x a p t (nd.map Nd.v) K)
  unfold f53
  have hce : ce (d + 1) = 2 * ce d + 8 := rfl
  unfold RExprOK CodeQ namV at hE
  refine W_yes (by omega) (W_nth (by omega) (fun v hv hvm => ?_))
  have h1 := hkd v hvm
  have h1' := h1
  cases d with
  | zero => exact h1.elim
  | succ d =>
  obtain ⟨_, _, _, _, rfl, _⟩ := h1
  refine W_asAgg ?_
  refine W_call (hE c _ a p t nd _ hc h1' hn (by omega)) ?_
  rintro _ ⟨c1, rfl, a1, b1, b2⟩
  refine W_unCons (W_asSl (W_z (W_unNil (W_yes (by omega) (W_yes (by omega) (W_nth (by omega) (fun v hv hvm => ?_)))))))
  have h2 := hkd v hvm
  have h2' := h2
  obtain ⟨_, _, _, _, rfl, _⟩ := h2
  refine W_asAgg ?_
  refine W_call (hE _ _ a p t nd _ (by (repeat (first | assumption | exact allI_nil | refine allI_app ?_ ?_ | refine allI_set ?_ ?_ | refine allI_cons ?_ ?_ | exact ⟨_, _, _, _, rfl⟩))) h2' hn (by (first | omega | (simp only [List.length_set, List.length_append, List.length_cons, List.length_nil, Int.toNat_natCast] at *; omega)))) ?_
  rintro _ ⟨c2, rfl, a2, b3, b4⟩
  simp only [List.length_append, List.length_cons, List.length_nil] at b3 b4
  refine W_unCons (W_asSl (W_z (W_unNil (W_yes (by (first | omega | (simp only [List.length_set, List.length_append, List.length_cons, List.length_nil, Int.toNat_natCast] at *; omega))) (W_and (W_yes (by (first | omega | (simp only [List.length_set, List.length_append, List.length_cons, List.length_nil, Int.toNat_natCast] at *; omega))) (W_yes (by (first | omega | (simp only [List.length_set, List.length_append, List.length_cons, List.length_nil, Int.toNat_natCast] at *; omega))) (W_nth (by (first | omega | (simp only [List.length_set, List.length_append, List.length_cons, List.length_nil, Int.toNat_natCast] at *; omega))) (fun v hv hvm => ?_)))))))))
  obtain ⟨_, _, _, _, rfl⟩ := (show AllI _ by (repeat (first | assumption | exact allI_nil | refine allI_app ?_ ?_ | refine allI_set ?_ ?_ | refine allI_cons ?_ ?_ | exact ⟨_, _, _, _, rfl⟩))) v hvm
  refine W_asAgg (W_unCons (W_unCons (W_unCons (W_unCons (W_unNil (W_and (W_yes (by (first | omega | (simp only [List.length_set, List.length_append, List.length_cons, List.length_nil, Int.toNat_natCast] at *; omega))) (W_yes (by (first | omega | (simp only [List.length_set, List.length_append, List.length_cons, List.length_nil, Int.toNat_natCast] at *; omega))) (W_nth (by (first | omega | (simp only [List.length_set, List.length_append, List.length_cons, List.length_nil, Int.toNat_natCast] at *; omega))) (fun v hv hvm => ?_))))))))))
  obtain ⟨_, _, _, _, rfl⟩ := (show AllI _ by (repeat (first | assumption | exact allI_nil | refine allI_app ?_ ?_ | refine allI_set ?_ ?_ | refine allI_cons ?_ ?_ | exact ⟨_, _, _, _, rfl⟩))) v hvm
  refine W_asAgg (W_unCons (W_unCons (W_unCons (W_unCons (W_unNil (W_yes (by (first | omega | (simp only [List.length_set, List.length_append, List.length_cons, List.length_nil, Int.toNat_natCast] at *; omega))) ?_))))))
  rw [wrap_id (n := (c2.length : Int) + 2) (by omega)]
  refine W_and (W_yes (by omega) (W_yes (by (first | omega | (simp only [List.length_set, List.length_append, List.length_cons, List.length_nil, Int.toNat_natCast] at *; omega))) (W_nth (by (first | omega | (simp only [List.length_set, List.length_append, List.length_cons, List.length_nil, Int.toNat_natCast] at *; omega))) (fun v hv hvm => ?_))))
  obtain ⟨_, _, _, _, rfl⟩ := (show AllI _ by (repeat (first | assumption | exact allI_nil | refine allI_app ?_ ?_ | refine allI_set ?_ ?_ | refine allI_cons ?_ ?_ | exact ⟨_, _, _, _, rfl⟩))) v hvm
  refine W_asAgg (W_unCons (W_unCons (W_unCons (W_unCons (W_unNil (W_ret ⟨_, rfl, by (repeat (first | assumption | exact allI_nil | refine allI_app ?_ ?_ | refine allI_set ?_ ?_ | refine allI_cons ?_ ?_ | exact ⟨_, _, _, _, rfl⟩)), by (first | omega | (simp only [List.length_set, List.length_append, List.length_cons, List.length_nil, Int.toNat_natCast] at *; omega)), by (first | omega | (simp only [List.length_set, List.length_append, List.length_cons, List.length_nil, Int.toNat_natCast] at *; omega))⟩))))))
theorem ror_ok {d : Nat} (hE : RExprOK d G) : RBothOK 54 d (fun _ args (K : List V → Option R) => g54 G k args K) := by
  intro c kind n x nm kids a p t nd K hc hk hkd hn hm
  show W _ K (f54 G k c kind n nm kids x a p t (nd.map Nd.v) K)
  unfold f54
  have hce : ce (d + 1) = 2 * ce d + 8 := rfl
  unfold RExprOK CodeQ namV at hE
  refine W_yes (by omega) (W_nth (by omega) (fun v hv hvm => ?_))
  have h1 := hkd v hvm
  have h1' := h1
  cases d with
  | zero => exact h1.elim
  | succ d =>
  obtain ⟨_, _, _, _, rfl, _⟩ := h1
  refine W_asAgg ?_
  refine W_call (hE c _ a p t nd _ hc h1' hn (by omega)) ?_
  rintro _ ⟨c1, rfl, a1, b1, b2⟩
  refine W_unCons (W_asSl (W_z (W_unNil (W_yes (by (first | omega | (simp only [List.length_set, List.length_append, List.length_cons, List.length_nil, Int.toNat_natCast] at *; omega))) (W_and (W_yes (by (first | omega | (simp only [List.length_set, List.length_append, List.length_cons, List.length_nil, Int.toNat_natCast] at *; omega))) (W_yes (by (first | omega | (simp only [List.length_set, List.length_append, List.length_cons, List.length_nil, Int.toNat_natCast] at *; omega))) (W_nth (by (first | omega | (simp only [List.length_set, List.length_append, List.length_cons, List.length_nil, Int.toNat_natCast] at *; omega))) (fun v hv hvm => ?_)))))))))
  obtain ⟨_, _, _, _, rfl⟩ := (show AllI _ by (repeat (first | assumption | exact allI_nil | refine allI_app ?_ ?_ | refine allI_set ?_ ?_ | refine allI_cons ?_ ?_ | exact ⟨_, _, _, _, rfl⟩))) v hvm
  refine W_asAgg (W_unCons (W_unCons (W_unCons (W_unCons (W_unNil ?_)))))
  refine W_yes (by omega) (W_nth (by omega) (fun v hv hvm => ?_))
  have h2 := hkd v hvm
  have h2' := h2
  obtain ⟨_, _, _, _, rfl, _⟩ := h2
  refine W_asAgg ?_
  refine W_call (hE _ _ a p t nd _ (by (repeat (first | assumption | exact allI_nil | refine allI_app ?_ ?_ | refine allI_set ?_ ?_ | refine allI_cons ?_ ?_ | exact ⟨_, _, _, _, rfl⟩))) h2' hn (by (first | omega | (simp only [List.length_set, List.length_append, List.length_cons, List.length_nil, Int.toNat_natCast] at *; omega)))) ?_
  rintro _ ⟨c2, rfl, a2, b3, b4⟩
  simp only [List.length_set, List.length_append, List.length_cons, List.length_nil] at b3 b4
  refine W_unCons (W_asSl (W_z (W_unNil (W_yes (by (first | omega | (simp only [List.length_set, List.length_append, List.length_cons, List.length_nil, Int.toNat_natCast] at *; omega))) (W_and (W_yes (by (first | omega | (simp only [List.length_set, List.length_append, List.length_cons, List.length_nil, Int.toNat_natCast] at *; omega))) (W_yes (by (first | omega | (simp only [List.length_set, List.length_append, List.length_cons, List.length_nil, Int.toNat_natCast] at *; omega))) (W_nth (by (first | omega | (simp only [List.length_set, List.length_append, List.length_cons, List.length_nil, Int.toNat_natCast] at *; omega))) (fun v hv hvm => ?_)))))))))
  obtain ⟨_, _, _, _, rfl⟩ := (show AllI _ by (repeat (first | assumption | exact allI_nil | refine allI_app ?_ ?_ | refine allI_set ?_ ?_ | refine allI_cons ?_ ?_ | exact ⟨_, _, _, _, rfl⟩))) v hvm
  refine W_asAgg (W_unCons (W_unCons (W_unCons (W_unCons (W_unNil (W_yes (by (first | omega | (simp only [List.length_set, List.length_append, List.length_cons, List.length_nil, Int.toNat_natCast] at *; omega))) ?_))))))
  rw [wrap_id (n := (c1.length : Int) + 2) (by omega), wrap_id (n := (c2.length : Int) + 2) (by omega)]
  refine W_and (W_yes (by omega) (W_yes (by (first | omega | (simp only [List.length_set, List.length_append, List.length_cons, List.length_nil, Int.toNat_natCast] at *; omega))) (W_nth (by (first | omega | (simp only [List.length_set, List.length_append, List.length_cons, List.length_nil, Int.toNat_natCast] at *; omega))) (fun v hv hvm => ?_))))
  obtain ⟨_, _, _, _, rfl⟩ := (show AllI _ by (repeat (first | assumption | exact allI_nil | refine allI_app ?_ ?_ | refine allI_set ?_ ?_ | refine allI_cons ?_ ?_ | exact ⟨_, _, _, _, rfl⟩))) v hvm
  refine W_asAgg (W_unCons (W_unCons (W_unCons (W_unCons (W_unNil ?_)))))
  refine W_and (W_yes (by omega) (W_yes (by (first | omega | (simp only [List.length_set, List.length_append, List.length_cons, List.length_nil, Int.toNat_natCast] at *; omega))) (W_nth (by (first | omega | (simp only [List.length_set, List.length_append, List.length_cons, List.length_nil, Int.toNat_natCast] at *; omega))) (fun v hv hvm => ?_))))
  obtain ⟨_, _, _, _, rfl⟩ := (show AllI _ by (repeat (first | assumption | exact allI_nil | refine allI_app ?_ ?_ | refine allI_set ?_ ?_ | refine allI_cons ?_ ?_ | exact ⟨_, _, _, _, rfl⟩))) v hvm
  refine W_asAgg (W_unCons (W_unCons (W_unCons (W_unCons (W_unNil (W_ret ⟨_, rfl, by (repeat (first | assumption | exact allI_nil | refine allI_app ?_ ?_ | refine allI_set ?_ ?_ | refine allI_cons ?_ ?_ | exact ⟨_, _, _, _, rfl⟩)), by (first | omega | (simp only [List.length_set, List.length_append, List.length_cons, List.length_nil, Int.toNat_natCast] at *; omega)), by (first | omega | (simp only [List.length_set, List.length_append, List.length_cons, List.length_nil, Int.toNat_natCast] at *; omega))⟩))))))
theorem allI_snoc {c : List V} {v : V} (h : AllI c) (h1 : InsS v) : AllI (c ++ [v]) := allI_app h (allI_cons h1 allI_nil)
theorem ins_mk {a b c : Int} {s : ByteArray} : InsS (.agg [.int .i64 a, .int .i64 b, .int .i64 c, .str s]) := ⟨_, _, _, _, rfl⟩
theorem rexpr_ok {d : Nat} (hPl : PlOK G) (hF : FindOK G) (hOp : OpOK G) (hE : RExprOK d G) (hA : RBothOK 53 d G) (hO : RBothOK 54 d G) : RExprOK (d + 1) (fun _ args (K : List V → Option R) => g48 G k args K) := by
  intro c e a p t nd K hc he hn hm
  obtain ⟨kind, n, nm, kids, rfl, x1, x2, x3, x4, x5, x6, x7⟩ := he
  show W _ K (f48 G k c kind n nm kids 0 a p t (nd.map Nd.v) K)
  unfold f48
  have hce : ce (d + 1) = 2 * ce d + 8 := rfl
  unfold RExprOK CodeQ namV at hE
  unfold RBothOK CodeQ namV at hA hO
  unfold PlOK at hPl; unfold FindOK at hF; unfold OpOK at hOp
  have sn : ∀ {c' : List V} {v : V}, AllI c' → InsS v → c.length ≤ c'.length → c'.length + 1 ≤ c.length + ce (d + 1) → W (CodeQ c (ce (d + 1))) K (bif decide (List.length c' + 1 ≤ 1073741824) then K [.sl 4 (c' ++ [v])] else none) :=
    fun h1 h2 h3 h4 => W_yes (by omega) (W_ret ⟨_, rfl, allI_snoc h1 h2, by (first | omega | (simp only [List.length_set, List.length_append, List.length_cons, List.length_nil, Int.toNat_natCast] at *; omega)), by (first | omega | (simp only [List.length_set, List.length_append, List.length_cons, List.length_nil, Int.toNat_natCast] at *; omega))⟩)
  have one : ∀ (h : kids.length = 1 ∨ kids.length = 2), W (CodeQ c (ce (d + 1))) K (bif decide ((0 : Int) < ((List.length kids : Nat) : Int)) then nthK kids 0 fun e21 => V.asAgg e21 fun l22 => G 48 [.sl 4 c, .agg l22, .agg [.sl 1 a, .sl 1 p, .sl 1 t, .sl 7 (nd.map Nd.v)]] fun o23 => unCons o23 fun c24 r25 => V.asSl c24 fun z26 l27 => bif z26 == 4 then unNil r25 (G 52 [.int .i64 kind] fun o28 => unCons o28 fun c29 r30 => V.asInt c29 fun k31 n32 => bif decide (k31 = .i64) then unNil r30 (bif decide (List.length l27 + 1 ≤ 1073741824) then K [.sl 4 (l27 ++ [.agg [.int .i64 n32, .int .i64 0, .int .i64 0, .str ⟨#[]⟩]])] else none) else none) else none else none) := by
    intro h
    refine W_yes (by omega) (W_nth (by omega) (fun v hv hvm => ?_))
    have h1 := x6 v hvm
    have h1' := h1
    cases d with
    | zero => exact h1.elim
    | succ d =>
    obtain ⟨_, _, _, _, rfl, _⟩ := h1
    refine W_asAgg (W_call (hE c _ a p t nd _ hc h1' hn (by omega)) ?_)
    rintro _ ⟨c1, rfl, a1, b1, b2⟩
    refine W_unCons (W_asSl (W_z (W_unNil (W_call (hOp _ _) ?_))))
    rintro _ ⟨i, rfl⟩
    exact W_unCons (W_asInt (W_kd (W_unNil (sn a1 ins_mk (by omega) (by omega)))))
  have both : ∀ (h : kids.length = 2), W (CodeQ c (ce (d + 1))) K (bif decide ((0 : Int) < ((List.length kids : Nat) : Int)) then nthK kids 0 fun e21 => V.asAgg e21 fun l22 => G 48 [.sl 4 c, .agg l22, .agg [.sl 1 a, .sl 1 p, .sl 1 t, .sl 7 (nd.map Nd.v)]] fun o23 => unCons o23 fun c24 r25 => V.asSl c24 fun z26 l27 => bif z26 == 4 then unNil r25 (bif decide ((1 : Int) < ((List.length kids : Nat) : Int)) then nthK kids 1 fun e50 => V.asAgg e50 fun l51 => G 48 [.sl 4 l27, .agg l51, .agg [.sl 1 a, .sl 1 p, .sl 1 t, .sl 7 (nd.map Nd.v)]] fun o52 => unCons o52 fun c53 r54 => V.asSl c53 fun z55 l56 => bif z55 == 4 then unNil r54 (G 52 [.int .i64 kind] fun o28 => unCons o28 fun c29 r30 => V.asInt c29 fun k31 n32 => bif decide (k31 = .i64) then unNil r30 (bif decide (List.length l56 + 1 ≤ 1073741824) then K [.sl 4 (l56 ++ [.agg [.int .i64 n32, .int .i64 0, .int .i64 0, .str ⟨#[]⟩]])] else none) else none) else none else none) else none else none) := by
    intro h
    refine W_yes (by omega) (W_nth (by omega) (fun v hv hvm => ?_))
    have h1 := x6 v hvm
    have h1' := h1
    cases d with
    | zero => exact h1.elim
    | succ d =>
    obtain ⟨_, _, _, _, rfl, _⟩ := h1
    refine W_asAgg (W_call (hE c _ a p t nd _ hc h1' hn (by omega)) ?_)
    rintro _ ⟨c1, rfl, a1, b1, b2⟩
    refine W_unCons (W_asSl (W_z (W_unNil ?_)))
    refine W_yes (by omega) (W_nth (by omega) (fun v hv hvm => ?_))
    have h2 := x6 v hvm
    have h2' := h2
    obtain ⟨_, _, _, _, rfl, _⟩ := h2
    refine W_asAgg (W_call (hE c1 _ a p t nd _ a1 h2' hn (by omega)) ?_)
    rintro _ ⟨c2, rfl, a2, b3, b4⟩
    refine W_unCons (W_asSl (W_z (W_unNil (W_call (hOp _ _) ?_))))
    rintro _ ⟨i, rfl⟩
    exact W_unCons (W_asInt (W_kd (W_unNil (sn a2 ins_mk (by omega) (by omega)))))
  have hand : kids.length = 2 → W (CodeQ c (ce (d + 1))) K (G 53 [.sl 4 c, .agg [.int .i64 kind, .int .i64 n, .str nm, .sl 5 kids, .int .i64 0], .agg [.sl 1 a, .sl 1 p, .sl 1 t, .sl 7 (nd.map Nd.v)]] fun o33 => unCons o33 fun c34 r35 => V.asSl c34 fun z36 l37 => bif z36 == 4 then unNil r35 (K [.sl 4 l37]) else none) := by
    intro h
    refine W_call (hA c kind n 0 nm kids a p t nd _ hc h x6 hn hm) ?_
    rintro _ ⟨c1, rfl, a1, b1, b2⟩
    exact W_unCons (W_asSl (W_z (W_unNil (W_ret ⟨_, rfl, a1, b1, b2⟩))))
  have hor : kids.length = 2 → W (CodeQ c (ce (d + 1))) K (G 54 [.sl 4 c, .agg [.int .i64 kind, .int .i64 n, .str nm, .sl 5 kids, .int .i64 0], .agg [.sl 1 a, .sl 1 p, .sl 1 t, .sl 7 (nd.map Nd.v)]] fun o33 => unCons o33 fun c34 r35 => V.asSl c34 fun z36 l37 => bif z36 == 4 then unNil r35 (K [.sl 4 l37]) else none) := by
    intro h
    refine W_call (hO c kind n 0 nm kids a p t nd _ hc h x6 hn hm) ?_
    rintro _ ⟨c1, rfl, a1, b1, b2⟩
    exact W_unCons (W_asSl (W_z (W_unNil (W_ret ⟨_, rfl, a1, b1, b2⟩))))
  refine W_beqI (fun _ => sn hc ins_mk (by omega) (by omega)) (fun k1 => ?_)
  refine W_beqI (fun _ => ?_) (fun k2 => ?_)
  · refine W_call (hPl _ _ _ hn.1) ?_
    rintro _ ⟨i, rfl⟩
    exact W_unCons (W_asInt (W_kd (W_unNil (sn hc ins_mk (by omega) (by omega)))))
  refine W_beqI (fun _ => sn hc ins_mk (by omega) (by omega)) (fun k3 => ?_)
  refine W_beqI (fun _ => ?_) (fun k4 => ?_)
  · refine W_call (hF _ _ _ hn.2.2.2) ?_
    rintro _ rfl
    exact W_unCons (W_asInt (W_kd (W_unNil (sn hc ins_mk (by omega) (by omega)))))
  refine W_beqI (fun k5 => W_eqY k5 (one (by omega))) (fun k5 => ?_)
  refine W_beqI (fun k6 => one (by omega)) (fun k6 => ?_)
  have h2 : kids.length = 2 := by omega
  refine W_beqI (fun k18 => hand h2) (fun k18 => ?_)
  exact W_beqI (fun k19 => hor h2) (fun k19 => both h2)
def RArgOK (G : ORC R) : Prop := ∀ (c x a p t : List V) (nd : List Nd) (K : List V → Option R), AllI c → x.length ≤ 1 → (∀ e ∈ x, ExprS 3 e) → NamS a p t nd → c.length + ce 3 + 1 ≤ 1000000 →
  W (CodeQ c (ce 3 + 1)) K (G 56 [.sl 4 c, .sl 5 x, namV a p t nd] K)
theorem rarg_ok (hE : RExprOK 3 G) : RArgOK (fun _ args (K : List V → Option R) => g56 G k args K) := by
  intro c x a p t nd K hc hx hxe hn hm
  show W _ K (f56 G k c x a p t (nd.map Nd.v) K)
  unfold f56
  unfold RExprOK CodeQ namV at hE
  refine W_beqI (fun _ => W_yes (by omega) (W_ret ⟨_, rfl, allI_snoc hc ins_mk, by (first | omega | (simp only [List.length_set, List.length_append, List.length_cons, List.length_nil, Int.toNat_natCast] at *; omega)), by (first | omega | (simp only [List.length_set, List.length_append, List.length_cons, List.length_nil, Int.toNat_natCast] at *; omega))⟩)) (fun h => ?_)
  refine W_yes (by omega) (W_nth (by omega) (fun v hv hvm => ?_))
  have h1 := hxe v hvm
  have h1' := h1
  obtain ⟨_, _, _, _, rfl, _⟩ := h1
  refine W_asAgg (W_call (hE c _ a p t nd _ hc h1' hn (by omega)) ?_)
  rintro _ ⟨c1, rfl, a1, b1, b2⟩
  exact W_unCons (W_asSl (W_z (W_unNil (W_ret ⟨_, rfl, a1, by omega, by omega⟩))))
def RBlOK (d : Nat) (G : ORC R) : Prop := ∀ (c l a p t : List V) (nd : List Nd) (K : List V → Option R), AllI c → BlockS d l → NamS a p t nd → c.length + cb d ≤ 1000000 →
  W (CodeQ c (cb d)) K (G 50 [.sl 4 c, .sl 8 l, namV a p t nd] K)
def RActOK (d : Nat) (G : ORC R) : Prop := ∀ (c : List V) (e : V) (a p t : List V) (nd : List Nd) (K : List V → Option R), AllI c → ActS d e → NamS a p t nd → 2 * c.length + cb d ≤ 2000000 →
  W (fun o => ∃ c', o = [.sl 4 c'] ∧ AllI c' ∧ c.length ≤ c'.length ∧ 2 * c'.length ≤ 2 * c.length + cb d) K (G 55 [.sl 4 c, e, namV a p t nd] K)
theorem ract_ok {d : Nat} (hPl : PlOK G) (hE : RExprOK 3 G) (hA : RArgOK G) (hB : RBlOK d G) : RActOK (d + 1) (fun _ args (K : List V → Option R) => g55 G k args K) := by
  intro c e a p t nd K hc he hn hm
  obtain ⟨kind, nm, ev, x, n, th, el, rfl, x1, x2, x3, x4, x5, x6, x7, x8, x9, x10, x11, x12⟩ := he
  show W _ K (f55 G k c kind nm ev x n th el 0 a p t (nd.map Nd.v) K)
  unfold f55
  have hcb : cb (d + 1) = 2 * (ce 3 + 2 * cb d + 4) := rfl
  unfold RExprOK CodeQ namV at hE
  unfold RArgOK CodeQ namV at hA
  unfold RBlOK CodeQ namV at hB
  unfold PlOK at hPl
  have sn : ∀ {c' : List V} {v : V}, AllI c' → InsS v → c.length ≤ c'.length → c'.length ≤ c.length + ce 3 + 2 → W (fun o => ∃ c', o = [.sl 4 c'] ∧ AllI c' ∧ c.length ≤ c'.length ∧ 2 * c'.length ≤ 2 * c.length + cb (d + 1)) K (bif decide (List.length c' + 1 ≤ 1073741824) then K [.sl 4 (c' ++ [v])] else none) :=
    fun h1 h2 h3 h4 => W_yes (by omega) (W_ret ⟨_, rfl, allI_snoc h1 h2, by (first | omega | (simp only [List.length_set, List.length_append, List.length_cons, List.length_nil, Int.toNat_natCast] at *; omega)), by (first | omega | (simp only [List.length_set, List.length_append, List.length_cons, List.length_nil, Int.toNat_natCast] at *; omega))⟩)
  refine W_beqI (fun _ => ?_) (fun k1 => ?_)
  · refine W_call (hA c x a p t nd _ hc x6 x7 hn (by omega)) ?_
    rintro _ ⟨c1, rfl, a1, b1, b2⟩
    refine W_unCons (W_asSl (W_z (W_unNil (W_call (hPl _ _ _ hn.1) ?_))))
    rintro _ ⟨i, rfl⟩
    exact W_unCons (W_asInt (W_kd (W_unNil (sn a1 ins_mk (by omega) (by omega)))))
  refine W_beqI (fun _ => ?_) (fun k2 => ?_)
  · refine W_call (hA c x a p t nd _ hc x6 x7 hn (by omega)) ?_
    rintro _ ⟨c1, rfl, a1, b1, b2⟩
    exact W_unCons (W_asSl (W_z (W_unNil (sn a1 ins_mk (by omega) (by omega)))))
  refine W_beqI (fun _ => ?_) (fun k3 => ?_)
  · refine W_call (hA c x a p t nd _ hc x6 x7 hn (by omega)) ?_
    rintro _ ⟨c1, rfl, a1, b1, b2⟩
    refine W_unCons (W_asSl (W_z (W_unNil (W_call (hPl _ _ _ hn.2.1) ?_))))
    rintro _ ⟨i, rfl⟩
    exact W_unCons (W_asInt (W_kd (W_unNil (sn a1 ins_mk (by omega) (by omega)))))
  refine W_beqI (fun _ => ?_) (fun k4 => ?_)
  · refine W_call (hA c x a p t nd _ hc x6 x7 hn (by omega)) ?_
    rintro _ ⟨c1, rfl, a1, b1, b2⟩
    refine W_unCons (W_asSl (W_z (W_unNil (W_call (hPl _ _ _ hn.2.2.1) ?_))))
    rintro _ ⟨i, rfl⟩
    exact W_unCons (W_asInt (W_kd (W_unNil (sn a1 ins_mk (by omega) (by omega)))))
  refine W_beqI (fun _ => ?_) (fun k5 => ?_)
  · refine W_call (hPl _ _ _ hn.2.2.1) ?_
    rintro _ ⟨i, rfl⟩
    exact W_unCons (W_asInt (W_kd (W_unNil (sn hc ins_mk (by omega) (by omega)))))
  refine W_beqI (fun _ => ?_) (fun k7 => ?_)
  · refine W_yes (by omega) ?_
    refine W_call (hB _ th a p t nd _ (allI_snoc hc ins_mk) ⟨x9, x11⟩ hn (by (first | omega | (simp only [List.length_set, List.length_append, List.length_cons, List.length_nil, Int.toNat_natCast] at *; omega)))) ?_
    rintro _ ⟨c1, rfl, a1, b1, b2⟩
    simp only [List.length_append, List.length_cons, List.length_nil] at b1 b2
    refine W_unCons (W_asSl (W_z (W_unNil (W_yes (by omega) (W_and (W_yes (by omega) (W_yes (by (first | omega | (simp only [List.length_set, List.length_append, List.length_cons, List.length_nil, Int.toNat_natCast] at *; omega))) (W_nth (by (first | omega | (simp only [List.length_set, List.length_append, List.length_cons, List.length_nil, Int.toNat_natCast] at *; omega))) (fun v hv hvm => ?_)))))))))
    obtain ⟨_, _, _, _, rfl⟩ := (show AllI _ by (repeat (first | assumption | exact allI_nil | refine allI_app ?_ ?_ | refine allI_set ?_ ?_ | refine allI_cons ?_ ?_ | exact ⟨_, _, _, _, rfl⟩))) v hvm
    exact W_asAgg (W_unCons (W_unCons (W_unCons (W_unCons (W_unNil (W_ret ⟨_, rfl, by (repeat (first | assumption | exact allI_nil | refine allI_app ?_ ?_ | refine allI_set ?_ ?_ | refine allI_cons ?_ ?_ | exact ⟨_, _, _, _, rfl⟩)), by (first | omega | (simp only [List.length_set, List.length_append, List.length_cons, List.length_nil, Int.toNat_natCast] at *; omega)), by (first | omega | (simp only [List.length_set, List.length_append, List.length_cons, List.length_nil, Int.toNat_natCast] at *; omega))⟩))))))
  have hx1 : x.length = 1 := x8 (by omega)
  refine W_yes (by omega) (W_nth (by omega) (fun v hv hvm => ?_))
  have h1 := x7 v hvm
  have h1' := h1
  obtain ⟨_, _, _, _, rfl, _⟩ := h1
  refine W_asAgg (W_call (hE c _ a p t nd _ hc h1' hn (by omega)) ?_)
  rintro _ ⟨c1, rfl, a1, b1, b2⟩
  refine W_unCons (W_asSl (W_z (W_unNil (W_yes (by omega) ?_))))
  refine W_call (hB _ th a p t nd _ (allI_snoc a1 ins_mk) ⟨x9, x11⟩ hn (by (first | omega | (simp only [List.length_set, List.length_append, List.length_cons, List.length_nil, Int.toNat_natCast] at *; omega)))) ?_
  rintro _ ⟨c2, rfl, a2, b3, b4⟩
  simp only [List.length_append, List.length_cons, List.length_nil] at b3 b4
  refine W_unCons (W_asSl (W_z (W_unNil ?_)))
  refine W_dec (fun h => ?_) (fun h => ?_)
  · refine W_yes (by omega) (W_and (W_yes (by omega) (W_yes (by (first | omega | (simp only [List.length_set, List.length_append, List.length_cons, List.length_nil, Int.toNat_natCast] at *; omega))) (W_nth (by (first | omega | (simp only [List.length_set, List.length_append, List.length_cons, List.length_nil, Int.toNat_natCast] at *; omega))) (fun v hv hvm => ?_)))))
    obtain ⟨_, _, _, _, rfl⟩ := (show AllI _ by (repeat (first | assumption | exact allI_nil | refine allI_app ?_ ?_ | refine allI_set ?_ ?_ | refine allI_cons ?_ ?_ | exact ⟨_, _, _, _, rfl⟩))) v hvm
    refine W_asAgg (W_unCons (W_unCons (W_unCons (W_unCons (W_unNil ?_)))))
    refine W_call (hB _ el a p t nd _ (by (repeat (first | assumption | exact allI_nil | refine allI_app ?_ ?_ | refine allI_set ?_ ?_ | refine allI_cons ?_ ?_ | exact ⟨_, _, _, _, rfl⟩))) ⟨x10, x12⟩ hn (by (first | omega | (simp only [List.length_set, List.length_append, List.length_cons, List.length_nil, Int.toNat_natCast] at *; omega)))) ?_
    rintro _ ⟨c3, rfl, a3, b5, b6⟩
    simp only [List.length_set, List.length_append, List.length_cons, List.length_nil] at b5 b6
    refine W_unCons (W_asSl (W_z (W_unNil (W_and (W_yes (by omega) (W_yes (by omega) (W_nth (by (first | omega | (simp only [List.length_set, List.length_append, List.length_cons, List.length_nil, Int.toNat_natCast] at *; omega))) (fun v hv hvm => ?_))))))))
    obtain ⟨_, _, _, _, rfl⟩ := (show AllI _ by (repeat (first | assumption | exact allI_nil | refine allI_app ?_ ?_ | refine allI_set ?_ ?_ | refine allI_cons ?_ ?_ | exact ⟨_, _, _, _, rfl⟩))) v hvm
    exact W_asAgg (W_unCons (W_unCons (W_unCons (W_unCons (W_unNil (W_ret ⟨_, rfl, by (repeat (first | assumption | exact allI_nil | refine allI_app ?_ ?_ | refine allI_set ?_ ?_ | refine allI_cons ?_ ?_ | exact ⟨_, _, _, _, rfl⟩)), by (first | omega | (simp only [List.length_set, List.length_append, List.length_cons, List.length_nil, Int.toNat_natCast] at *; omega)), by (first | omega | (simp only [List.length_set, List.length_append, List.length_cons, List.length_nil, Int.toNat_natCast] at *; omega))⟩))))))
  · refine W_and (W_yes (by omega) (W_yes (by omega) (W_nth (by (first | omega | (simp only [List.length_set, List.length_append, List.length_cons, List.length_nil, Int.toNat_natCast] at *; omega))) (fun v hv hvm => ?_))))
    obtain ⟨_, _, _, _, rfl⟩ := (show AllI _ by (repeat (first | assumption | exact allI_nil | refine allI_app ?_ ?_ | refine allI_set ?_ ?_ | refine allI_cons ?_ ?_ | exact ⟨_, _, _, _, rfl⟩))) v hvm
    exact W_asAgg (W_unCons (W_unCons (W_unCons (W_unCons (W_unNil (W_ret ⟨_, rfl, by (repeat (first | assumption | exact allI_nil | refine allI_app ?_ ?_ | refine allI_set ?_ ?_ | refine allI_cons ?_ ?_ | exact ⟨_, _, _, _, rfl⟩)), by (first | omega | (simp only [List.length_set, List.length_append, List.length_cons, List.length_nil, Int.toNat_natCast] at *; omega)), by (first | omega | (simp only [List.length_set, List.length_append, List.length_cons, List.length_nil, Int.toNat_natCast] at *; omega))⟩))))))
theorem rbl_loop {d : Nat} (hA : RActOK d G) {Q : List V → Prop} {K : List V → Option R} {Ko : List V → Option R} {c0 a p t : List V} {nd : List Nd} (hn : NamS a p t nd) (hm : c0.length + cb d ≤ 1000000)
    (hKo : ∀ c, AllI c → c0.length ≤ c.length → c.length ≤ c0.length + cb d → W Q K (Ko c)) :
    ∀ (B A c : List V) (j : Nat), B.length < j → A.length + B.length ≤ 2 → (∀ v ∈ B, ActS d v) → AllI c → c0.length ≤ c.length → 2 * c.length ≤ 2 * c0.length + A.length * cb d → W Q K (l50_0g G k Ko j c (A ++ B) A.length a p t (nd.map Nd.v))
  | B, A, c, 0, h1, h2, h3, h4, h5, h6 => by omega
  | [], A, c, j + 1, h1, h2, h3, h4, h5, h6 => by
    show W Q K (b50_0 G k (l50_0g G k Ko j) Ko c (A ++ []) A.length a p t (nd.map Nd.v))
    unfold b50_0
    have hA2 : A.length * cb d ≤ 2 * cb d := Nat.mul_le_mul_right _ (by simpa using h2)
    exact W_no (by simp) (hKo c h4 h5 (by omega))
  | b :: B, A, c, j + 1, h1, h2, h3, h4, h5, h6 => by
    show W Q K (b50_0 G k (l50_0g G k Ko j) Ko c (A ++ b :: B) A.length a p t (nd.map Nd.v))
    unfold b50_0
    simp only [List.length_cons] at h1 h2
    have hlt : (A.length : Int) < (((A ++ b :: B).length : Nat) : Int) := by simp; omega
    refine W_yes hlt (W_and (W_yes (by omega) (W_yes hlt (W_nth (by omega) (fun v hv _ => ?_)))))
    have hvb : v = b := by simp at hv; exact hv.symm
    subst hvb
    have hb := h3 v List.mem_cons_self
    have hbk := hb
    have hA2 : A.length * cb d ≤ 1 * cb d := Nat.mul_le_mul_right _ (by omega)
    cases d with
    | zero => exact hb.elim
    | succ d =>
    obtain ⟨q1, q2, q3, q4, q5, q6, q7, rfl, _⟩ := hb
    unfold RActOK namV at hA
    refine W_asAgg (W_call (hA c _ a p t nd _ h4 hbk hn (by omega)) ?_)
    rintro _ ⟨c1, rfl, a1, b1, b2⟩
    refine W_unCons (W_asSl (W_z (W_unNil ?_)))
    rw [wrap_id (n := (A.length : Int) + 1) (by omega)]
    have e := rbl_loop hA hn hm hKo B (A ++ [.agg [.int .i64 q1, .str q2, .str q3, .sl 5 q4, .int .i64 q5, .sl 8 q6, .sl 8 q7, .int .i64 0]]) c1 j (by omega) (by simp; omega) (fun w hw => h3 w (List.mem_cons_of_mem _ hw)) a1 (by omega) (by rw [List.length_append, Nat.add_mul]; simp; omega)
    simp only [List.append_assoc, List.singleton_append, List.length_append, List.length_cons, List.length_nil, Nat.zero_add, Int.natCast_add, Int.natCast_one] at e
    exact e
theorem rbl_ok {d : Nat} (hk : 1000 ≤ k) (hA : RActOK d G) : RBlOK d (fun _ args (K : List V → Option R) => g50 G k args K) := by
  intro c l a p t nd K hc hl hn hm
  show W _ K (f50 G k c l a p t (nd.map Nd.v) K)
  unfold f50 l50_0
  exact rbl_loop (Q := CodeQ c (cb d)) (K := K) (k := k) (Ko := fun c => K [.sl 4 c]) (c0 := c) hA hn hm (fun c' h1 h2 h3 => W_ret ⟨_, rfl, h1, h2, h3⟩) l [] c k (by have := hl.1; omega) (by simpa using hl.1) hl.2 hc (Nat.le_refl _) (by simp)
def BlkOK (d : Nat) (G : ORC R) : Prop := ∀ (l a p t : List V) (nd : List Nd) (K : List V → Option R), BlockS d l → NamS a p t nd → W (CodeQ [] (cb d)) K (G 47 [.sl 8 l, namV a p t nd] K)
theorem blk_ok {d : Nat} (hd : cb d ≤ 1000000) (hB : RBlOK d G) : BlkOK d (fun _ args (K : List V → Option R) => g47 G k args K) := by
  intro l a p t nd K hl hn
  show W _ K (f47 G k l a p t (nd.map Nd.v) K)
  unfold f47
  unfold RBlOK namV at hB
  refine W_call (hB [] l a p t nd _ allI_nil hl hn (by simpa using hd)) ?_
  rintro _ ⟨c1, rfl, a1, b1, b2⟩
  exact W_unCons (W_asSl (W_z (W_unNil (W_ret ⟨_, rfl, a1, b1, b2⟩))))
def GdOK (G : ORC R) : Prop := ∀ (e : V) (a p t : List V) (nd : List Nd) (K : List V → Option R), ExprS 3 e → NamS a p t nd → W (CodeQ [] (ce 3)) K (G 41 [e, namV a p t nd] K)
theorem gd_ok (hE : RExprOK 3 G) : GdOK (fun _ args (K : List V → Option R) => g41 G k args K) := by
  intro e a p t nd K he hn
  have he' := he
  obtain ⟨kind, n, nm, kids, rfl, _⟩ := he
  show W _ K (f41 G k kind n nm kids 0 a p t (nd.map Nd.v) K)
  unfold f41
  unfold RExprOK namV at hE
  refine W_call (hE [] _ a p t nd _ allI_nil he' hn (by decide)) ?_
  rintro _ ⟨c1, rfl, a1, b1, b2⟩
  exact W_unCons (W_asSl (W_z (W_unNil (W_ret ⟨_, rfl, a1, b1, b2⟩))))
end
end Go.Proofs.Ytjbppcgcblfkoaa.Vm
open Go Go.VM
set_option linter.unusedVariables false
set_option maxRecDepth 100000
set_option maxHeartbeats 4000000
namespace Go.Proofs.Ytjbppcgcblfkoaa.Vm
/-! ### cotillion/cotillionref21.texts: function 27 -/
def P27_0h : Pat := { tmps := unds [.var (.sl 3) .ro, .undef, .undef, .var (.sl 1) (.own true), .var (.int .i64) .pr] 15 [], boxes := nons [] 20 [] }
def P27_0x : Pat := { tmps := unds [.undef, .undef, .undef, .var (.sl 1) (.own true)] 16 [], boxes := nons [] 20 [] }
def b27_0 {R : Type} (G : ORC R) (k : Nat) (X : List V → List V → Int → Option R) (Ko : List V → Option R) (xl2 xl3 : List V) (xi4 : Int) : Option R :=
  (bif (decide (xi4 < ((List.length xl2 : Nat) : Int))) then (bif ((decide (0 ≤ xi4)) && (decide (xi4 < ((List.length xl2 : Nat) : Int)))) then (nthK xl2 (Int.toNat xi4) fun e5 => (V.asAgg e5 fun l6 => (unCons l6 fun c7 r15 => (unCons r15 fun c8 r16 => (unCons r16 fun c9 r17 => (unNil r17 (V.asStr c7 fun s14 => (bif (decide (List.length xl3 + 1 ≤ 1073741824)) then (X xl2 (xl3 ++ [(.str s14)]) (IntKind.i64.wrap (xi4 + 1))) else none)))))))) else none) else (Ko xl3))
def l27_0g {R : Type} (G : ORC R) (k : Nat) (Ko : List V → Option R) : Nat → List V → List V → Int → Option R
  | 0 => fun _ _ _ => none
  | j + 1 => b27_0 G k (l27_0g G k Ko j) Ko
def l27_0 {R : Type} (G : ORC R) (k : Nat) (xl2 xl3 : List V) (xi4 : Int) (Ko : List V → Option R) : Option R := l27_0g G k Ko k xl2 xl3 xi4
def rd27_0 {R : Type} (G : ORC R) (k : Nat) (K : Ex → St → Option R) (j : Nat) (vs : List V) : Option R := match vs with
  | [(.sl 3 xl2), (.sl 1 xl3), (.int .i64 xi4)] => l27_0g G k (fun yl19 => K .normal (P27_0x.inst [(.sl 1 yl19)])) j xl2 xl3 xi4
  | _ => none
def L27 {R : Type} (G : ORC R) (k : Nat) : Nat → St → (Ex → St → Option R) → Option R
  | 0, S, K => P27_0h.mat S fun vs => rd27_0 G k K k vs
  | _, _, _ => none
def f27 {R : Type} (G : ORC R) (k : Nat) (al1 : List V) (K : List V → Option R) : Option R :=
  (l27_0 G k al1 [] 0 (fun yl18 => (K [(.sl 1 yl18)])))
noncomputable def D27_0 : LoopD := { id := 0, body := loopAt 0 (bodyOf Try.f27), head := P27_0h, out := P27_0x, ret := default }
theorem l27_0_is {R : Type} (G : ORC R) (k : Nat) (X : List V → Option R) (K : Ex → St → Option R) (xl2 xl3 : List V) (xi4 : Int) :
    roundOf (TAB.env 27) G (L27 G k) D27_0 X K [(.sl 3 xl2), (.sl 1 xl3), (.int .i64 xi4)] = b27_0 G k (fun xl2 xl3 xi4 => X [(.sl 3 xl2), (.sl 1 xl3), (.int .i64 xi4)]) (fun yl19 => K .normal (P27_0x.inst [(.sl 1 yl19)])) xl2 xl3 xi4 := by kernel_rfl
theorem f27_is {R : Type} (G : ORC R) (k : Nat) (K : List V → Option R) (al1 : List V) :
    callF (TAB.env 27) G (L27 G k) Try.f27 S27 [(.sl 3 al1)] K = f27 G k al1 K := by kernel_rfl
theorem li27_0 {R : Type} (G : ORC R) (k : Nat) : LoopIs (TAB.env 27) G (L27 G k) 0 (loopAt 0 (bodyOf Try.f27)) :=
  ⟨D27_0, fun j vs K => rd27_0 G k K j vs, k, rfl, rfl, by kernel_rfl, by kernel_rfl, by kernel_rfl, (fun vs K => by unfold rd27_0; dsimp only; split <;> rfl),
    (fun j vs K r h => by
      unfold rd27_0 at h
      dsimp only at h
      split at h
      · rw [l27_0_is]; exact h
      · cases h), (fun S K r h => h)⟩
theorem lo27 : loopsOf (bodyOf Try.f27) = [(0, loopAt 0 (bodyOf Try.f27))] := by kernel_rfl
theorem la27 {R : Type} (G : ORC R) (k : Nat) : LoopsAre (TAB.env 27) G (L27 G k) (bodyOf Try.f27) :=
  loopsAre_of (by rw [lo27]; intro p hp; simp only [List.mem_cons, List.not_mem_nil, or_false] at hp; subst hp; exact li27_0 G k)
def g27 {R : Type} (G : ORC R) (k : Nat) (args : List V) (K : List V → Option R) : Option R := match args with
  | [(.sl 3 al1)] => f27 G k al1 K
  | _ => none
theorem s27 {R : Type} {G : ORC R} {k : Nat} (hG : Sound Try.prog TAB G) (args : List V) (K : List V → Option R) (r : R) (h : g27 G k args K = some r) : ∃ o, CallOK Try.prog TAB.env 27 args o ∧ K o = some r := by
  unfold g27 at h
  split at h
  · rw [← f27_is] at h
    exact callF_sound TAB_chk MO hG Try.func27 (sg := S27) (by kernel_rfl) (by kernel_rfl) (la27 G k) h
  · cases h
end Go.Proofs.Ytjbppcgcblfkoaa.Vm
open Go Go.VM
set_option linter.unusedVariables false
set_option maxRecDepth 100000
set_option maxHeartbeats 4000000
namespace Go.Proofs.Ytjbppcgcblfkoaa.Vm
/-! ### cotillion/cotillionref21.Names: function 26 -/
def L26 {R : Type} (_ : ORC R) (_ : Nat) : Nat → St → (Ex → St → Option R) → Option R := fun _ _ _ => none
def f26 {R : Type} (G : ORC R) (k : Nat) (as1 : ByteArray) (ai2 ai3 : Int) (al4 al5 : List V) (al6 al7 : List V) (ai8 : Int) (K : List V → Option R) : Option R :=
  (G 27 [(.sl 3 al4)] fun o9 => (unCons o9 fun c10 r11 => (V.asSl c10 fun z12 l13 => (bif (z12 == 1) then (unNil r11 (G 27 [(.sl 3 al5)] fun o14 => (unCons o14 fun c15 r16 => (V.asSl c15 fun z17 l18 => (bif (z17 == 1) then (unNil r16 (G 27 [(.sl 3 al6)] fun o19 => (unCons o19 fun c20 r21 => (V.asSl c20 fun z22 l23 => (bif (z22 == 1) then (unNil r21 (G 15 [(.agg [(.str as1), (.int .i64 ai2), (.int .i64 ai3), (.sl 3 al4), (.sl 3 al5), (.sl 3 al6), (.sl 7 al7), (.int .i64 ai8)])] fun o24 => (unCons o24 fun c25 r26 => (V.asSl c25 fun z27 l28 => (bif (z27 == 7) then (unNil r26 (K [(.agg [(.sl 1 l13), (.sl 1 l18), (.sl 1 l23), (.sl 7 l28)])])) else none))))) else none))))) else none))))) else none))))
theorem f26_is {R : Type} (G : ORC R) (k : Nat) (K : List V → Option R) (as1 : ByteArray) (ai2 ai3 : Int) (al4 al5 : List V) (al6 al7 : List V) (ai8 : Int) :
    callF (TAB.env 26) G (L26 G k) Try.f26 S26 [(.agg [(.str as1), (.int .i64 ai2), (.int .i64 ai3), (.sl 3 al4), (.sl 3 al5), (.sl 3 al6), (.sl 7 al7), (.int .i64 ai8)])] K = f26 G k as1 ai2 ai3 al4 al5 al6 al7 ai8 K := by kernel_rfl
theorem lo26 : loopsOf (bodyOf Try.f26) = [] := by kernel_rfl
theorem la26 {R : Type} (G : ORC R) (k : Nat) : LoopsAre (TAB.env 26) G (L26 G k) (bodyOf Try.f26) :=
  loopsAre_of (by rw [lo26]; intro p hp; cases hp)
def g26 {R : Type} (G : ORC R) (k : Nat) (args : List V) (K : List V → Option R) : Option R := match args with
  | [(.agg [(.str as1), (.int .i64 ai2), (.int .i64 ai3), (.sl 3 al4), (.sl 3 al5), (.sl 3 al6), (.sl 7 al7), (.int .i64 ai8)])] => f26 G k as1 ai2 ai3 al4 al5 al6 al7 ai8 K
  | _ => none
theorem s26 {R : Type} {G : ORC R} {k : Nat} (hG : Sound Try.prog TAB G) (args : List V) (K : List V → Option R) (r : R) (h : g26 G k args K = some r) : ∃ o, CallOK Try.prog TAB.env 26 args o ∧ K o = some r := by
  unfold g26 at h
  split at h
  · rw [← f26_is] at h
    exact callF_sound TAB_chk MO hG Try.func26 (sg := S26) (by kernel_rfl) (by kernel_rfl) (la26 G k) h
  · cases h
end Go.Proofs.Ytjbppcgcblfkoaa.Vm
open Go Go.VM
set_option linter.unusedVariables false
set_option maxRecDepth 100000
set_option maxHeartbeats 4000000
namespace Go.Proofs.Ytjbppcgcblfkoaa.Vm
/-! ### (*cotillion/cotillionref21.laying).block: function 40 -/
def L40 {R : Type} (_ : ORC R) (_ : Nat) : Nat → St → (Ex → St → Option R) → Option R := fun _ _ _ => none
def f40 {R : Type} (G : ORC R) (k : Nat) (al1 : List V) (bs2 : ByteArray) (bi3 bi4 : Int) (bl5 bl6 : List V) (bl7 bl8 : List V) (bl9 bl10 : List V) (bl11 bl12 : List V) (bl13 bl14 : List V) (K : List V → Option R) : Option R :=
  (bif (((List.length al1 : Nat) : Int) == 0) then (K [(.int .i64 (-1)), (.str bs2), (.int .i64 bi3), (.int .i64 bi4), (.sl 1 bl10)]) else (G 47 [(.sl 8 al1), (.agg [(.sl 1 bl11), (.sl 1 bl12), (.sl 1 bl13), (.sl 7 bl14)])] fun o15 => (unCons o15 fun c16 r17 => (V.asSl c16 fun z18 l19 => (bif (z18 == 4) then (unNil r17 (bif (decide (List.length bl10 + 1 ≤ 1073741824)) then (K [(.int .i64 (IntKind.i64.wrap (((List.length (bl10 ++ [(.sl 4 l19)]) : Nat) : Int) - 1))), (.str bs2), (.int .i64 bi3), (.int .i64 bi4), (.sl 1 (bl10 ++ [(.sl 4 l19)]))]) else none)) else none)))))
theorem f40_is {R : Type} (G : ORC R) (k : Nat) (K : List V → Option R) (al1 : List V) (bs2 : ByteArray) (bi3 bi4 : Int) (bl5 bl6 : List V) (bl7 bl8 : List V) (bl9 bl10 : List V) (bl11 bl12 : List V) (bl13 bl14 : List V) :
    callF (TAB.env 40) G (L40 G k) Try.f40 S40 [(.sl 8 al1), (.str bs2), (.int .i64 bi3), (.int .i64 bi4), (.sl 1 bl5), (.sl 1 bl6), (.sl 1 bl7), (.sl 7 bl8), (.sl 6 bl9), (.sl 1 bl10), (.sl 1 bl11), (.sl 1 bl12), (.sl 1 bl13), (.sl 7 bl14)] K = f40 G k al1 bs2 bi3 bi4 bl5 bl6 bl7 bl8 bl9 bl10 bl11 bl12 bl13 bl14 K := by kernel_rfl
theorem lo40 : loopsOf (bodyOf Try.f40) = [] := by kernel_rfl
theorem la40 {R : Type} (G : ORC R) (k : Nat) : LoopsAre (TAB.env 40) G (L40 G k) (bodyOf Try.f40) :=
  loopsAre_of (by rw [lo40]; intro p hp; cases hp)
def g40 {R : Type} (G : ORC R) (k : Nat) (args : List V) (K : List V → Option R) : Option R := match args with
  | [(.sl 8 al1), (.str bs2), (.int .i64 bi3), (.int .i64 bi4), (.sl 1 bl5), (.sl 1 bl6), (.sl 1 bl7), (.sl 7 bl8), (.sl 6 bl9), (.sl 1 bl10), (.sl 1 bl11), (.sl 1 bl12), (.sl 1 bl13), (.sl 7 bl14)] => f40 G k al1 bs2 bi3 bi4 bl5 bl6 bl7 bl8 bl9 bl10 bl11 bl12 bl13 bl14 K
  | _ => none
theorem s40 {R : Type} {G : ORC R} {k : Nat} (hG : Sound Try.prog TAB G) (args : List V) (K : List V → Option R) (r : R) (h : g40 G k args K = some r) : ∃ o, CallOK Try.prog TAB.env 40 args o ∧ K o = some r := by
  unfold g40 at h
  split at h
  · rw [← f40_is] at h
    exact callF_sound TAB_chk MO hG Try.func40 (sg := S40) (by kernel_rfl) (by kernel_rfl) (la40 G k) h
  · cases h
end Go.Proofs.Ytjbppcgcblfkoaa.Vm
open Go Go.VM
set_option linter.unusedVariables false
set_option maxRecDepth 100000
set_option maxHeartbeats 4000000
namespace Go.Proofs.Ytjbppcgcblfkoaa.Vm
/-! ### (*cotillion/cotillionref21.laying).states: function 28 -/
def P28_2h : Pat := { tmps := unds [.stat (.one (.ptr 0 0) .pt), .var (.sl 7) .ro, .undef, .undef, .var (.int .i64) .pr, .stat (.one (.ptr 6 0) .pt), .var (.int .i64) .pr, .undef, .undef, .var (.int .i64) .pr] 136 [], boxes := nons [some [.var .str .pr false, .var (.int .i64) .pr false, .var (.int .i64) .pr false, .var (.sl 1) .ro true, .var (.sl 1) .ro true, .var (.sl 1) .ro true, .var (.sl 7) (.own true) false, .var (.sl 6) (.own true) false, .var (.sl 1) (.own true) false, .var (.sl 1) .ro true, .var (.sl 1) .ro true, .var (.sl 1) .ro true, .var (.sl 7) .ro true]] 5 (nons [some [.var (.int .i64) .pr false, .var .str .pr false, .var .any .ro false, .var .any .ro false, .var .any .ro false, .var .any .ro false, .var (.int .i64) .pr false]] 140 []) }
def P28_2x : Pat := { tmps := unds [.stat (.one (.ptr 0 0) .pt), .var (.sl 7) .ro, .undef, .undef, .var (.int .i64) .pr, .stat (.one (.ptr 6 0) .pt)] 140 [], boxes := nons [some [.var .str .pr false, .var (.int .i64) .pr false, .var (.int .i64) .pr false, .var (.sl 1) .ro true, .var (.sl 1) .ro true, .var (.sl 1) .ro true, .var (.sl 7) (.own true) false, .var (.sl 6) (.own true) false, .var (.sl 1) (.own true) false, .var (.sl 1) .ro true, .var (.sl 1) .ro true, .var (.sl 1) .ro true, .var (.sl 7) .ro true]] 5 (nons [some [.var (.int .i64) .pr false, .var .str .pr false, .var .any .ro false, .var .any .ro false, .var .any .ro false, .var .any .ro false, .var (.int .i64) .pr false]] 140 []) }
def b28_2 {R : Type} (G : ORC R) (k : Nat) (X : List V → Int → Int → Int → ByteArray → Int → Int → List V → List V → List V → List V → List V → List V → List V → List V → List V → List V → Int → ByteArray → V → V → V → V → Int → Option R) (Ko : List V → Int → ByteArray → Int → Int → List V → List V → List V → List V → List V → List V → List V → List V → List V → List V → Int → ByteArray → V → V → V → V → Int → Option R) (xl139 : List V) (xi140 xi141 xi142 : Int) (xs143 : ByteArray) (xi144 xi145 : Int) (xl146 xl147 : List V) (xl148 xl149 : List V) (xl150 xl151 : List V) (xl152 xl153 : List V) (xl154 xl155 : List V) (xi156 : Int) (xs157 : ByteArray) (xv158 xv159 : V) (xv160 xv161 : V) (xi162 : Int) : Option R :=
  (V.asSl xv160 fun z163 l164 => (bif (decide (xi142 < ((List.length l164 : Nat) : Int))) then (V.asSl xv160 fun z165 l166 => (bif (((z165 == 5) && (decide (0 ≤ xi142))) && (decide (xi142 < ((List.length l166 : Nat) : Int)))) then (nthK l166 (Int.toNat xi142) fun e167 => (V.asAgg e167 fun l168 => (unCons l168 fun c169 r292 => (unCons r292 fun c170 r293 => (unCons r293 fun c171 r294 => (unCons r294 fun c172 r295 => (unCons r295 fun c173 r296 => (unNil r296 (V.asStr c169 fun s180 => (V.asSl c170 fun z181 l182 => (V.asStr c171 fun s183 => (V.asSl c172 fun z184 l185 => (V.asInt c173 fun k186 n187 => (bif decide (k186 = .i64) then (G 39 [(.sl 7 xl149), (.str s183)] fun o188 => (unCons o188 fun c189 r190 => (V.asInt c189 fun k191 n192 => (bif decide (k191 = .i64) then (unNil r190 (bif (decide (n192 ≥ 0)) then (G 16 [(.sl 7 xl149), (.int .i64 xi141), (.int .i64 n192)] fun o193 => (unCons o193 fun c194 r195 => (V.asInt c194 fun k196 n197 => (bif decide (k196 = .i64) then (unNil r195 (bif (decide (((List.length l182 : Nat) : Int) > 0)) then (bif (((z181 == 5) && true) && (decide (0 < ((List.length l182 : Nat) : Int)))) then (nthK l182 0 fun e198 => (V.asAgg e198 fun l199 => (G 41 [(.agg l199), (.agg [(.sl 1 xl152), (.sl 1 xl153), (.sl 1 xl154), (.sl 7 xl155)])] fun o200 => (unCons o200 fun c201 r202 => (V.asSl c201 fun z203 l204 => (bif (z203 == 4) then (unNil r202 (bif (decide (List.length xl151 + 1 ≤ 1073741824)) then (G 40 [(.sl z184 l185), (.str xs143), (.int .i64 xi144), (.int .i64 xi145), (.sl 1 xl146), (.sl 1 xl147), (.sl 1 xl148), (.sl 7 xl149), (.sl 6 xl150), (.sl 1 (xl151 ++ [(.sl 4 l204)])), (.sl 1 xl152), (.sl 1 xl153), (.sl 1 xl154), (.sl 7 xl155)] fun o205 => (unCons o205 fun c206 r207 => (V.asInt c206 fun k208 n209 => (bif decide (k208 = .i64) then (unCons r207 fun c210 r211 => (V.asStr c210 fun s212 => (unCons r211 fun c213 r214 => (V.asInt c213 fun k215 n216 => (bif decide (k215 = .i64) then (unCons r214 fun c217 r218 => (V.asInt c217 fun k219 n220 => (bif decide (k219 = .i64) then (unCons r218 fun c221 r222 => (V.asSl c221 fun z223 l224 => (bif (z223 == 1) then (unNil r222 (bif (decide (List.length xl150 + 1 ≤ 1073741824)) then (X xl139 xi140 xi141 (IntKind.i64.wrap (xi142 + 1)) s212 n216 n220 xl146 xl147 xl148 xl149 (xl150 ++ [(.agg [(.int .i64 xi141), (.int .i64 n192), (.int .i64 n197), (.int .i64 (IntKind.i64.wrap (((List.length (xl151 ++ [(.sl 4 l204)]) : Nat) : Int) - 1))), (.int .i64 n209), (.str s180)])]) l224 xl152 xl153 xl154 xl155 xi156 xs157 xv158 xv159 xv160 xv161 xi162) else none)) else none))) else none))) else none))))) else none)))) else none)) else none)))))) else none) else (G 40 [(.sl z184 l185), (.str xs143), (.int .i64 xi144), (.int .i64 xi145), (.sl 1 xl146), (.sl 1 xl147), (.sl 1 xl148), (.sl 7 xl149), (.sl 6 xl150), (.sl 1 xl151), (.sl 1 xl152), (.sl 1 xl153), (.sl 1 xl154), (.sl 7 xl155)] fun o225 => (unCons o225 fun c226 r227 => (V.asInt c226 fun k228 n229 => (bif decide (k228 = .i64) then (unCons r227 fun c230 r231 => (V.asStr c230 fun s232 => (unCons r231 fun c233 r234 => (V.asInt c233 fun k235 n236 => (bif decide (k235 = .i64) then (unCons r234 fun c237 r238 => (V.asInt c237 fun k239 n240 => (bif decide (k239 = .i64) then (unCons r238 fun c241 r242 => (V.asSl c241 fun z243 l244 => (bif (z243 == 1) then (unNil r242 (bif (decide (List.length xl150 + 1 ≤ 1073741824)) then (X xl139 xi140 xi141 (IntKind.i64.wrap (xi142 + 1)) s232 n236 n240 xl146 xl147 xl148 xl149 (xl150 ++ [(.agg [(.int .i64 xi141), (.int .i64 n192), (.int .i64 n197), (.int .i64 (-1)), (.int .i64 n229), (.str s180)])]) l244 xl152 xl153 xl154 xl155 xi156 xs157 xv158 xv159 xv160 xv161 xi162) else none)) else none))) else none))) else none))))) else none)))))) else none)))) else (bif (decide (((List.length l182 : Nat) : Int) > 0)) then (bif (((z181 == 5) && true) && (decide (0 < ((List.length l182 : Nat) : Int)))) then (nthK l182 0 fun e245 => (V.asAgg e245 fun l246 => (G 41 [(.agg l246), (.agg [(.sl 1 xl152), (.sl 1 xl153), (.sl 1 xl154), (.sl 7 xl155)])] fun o247 => (unCons o247 fun c248 r249 => (V.asSl c248 fun z250 l251 => (bif (z250 == 4) then (unNil r249 (bif (decide (List.length xl151 + 1 ≤ 1073741824)) then (G 40 [(.sl z184 l185), (.str xs143), (.int .i64 xi144), (.int .i64 xi145), (.sl 1 xl146), (.sl 1 xl147), (.sl 1 xl148), (.sl 7 xl149), (.sl 6 xl150), (.sl 1 (xl151 ++ [(.sl 4 l251)])), (.sl 1 xl152), (.sl 1 xl153), (.sl 1 xl154), (.sl 7 xl155)] fun o252 => (unCons o252 fun c253 r254 => (V.asInt c253 fun k255 n256 => (bif decide (k255 = .i64) then (unCons r254 fun c257 r258 => (V.asStr c257 fun s259 => (unCons r258 fun c260 r261 => (V.asInt c260 fun k262 n263 => (bif decide (k262 = .i64) then (unCons r261 fun c264 r265 => (V.asInt c264 fun k266 n267 => (bif decide (k266 = .i64) then (unCons r265 fun c268 r269 => (V.asSl c268 fun z270 l271 => (bif (z270 == 1) then (unNil r269 (bif (decide (List.length xl150 + 1 ≤ 1073741824)) then (X xl139 xi140 xi141 (IntKind.i64.wrap (xi142 + 1)) s259 n263 n267 xl146 xl147 xl148 xl149 (xl150 ++ [(.agg [(.int .i64 xi141), (.int .i64 n192), (.int .i64 (-1)), (.int .i64 (IntKind.i64.wrap (((List.length (xl151 ++ [(.sl 4 l251)]) : Nat) : Int) - 1))), (.int .i64 n256), (.str s180)])]) l271 xl152 xl153 xl154 xl155 xi156 xs157 xv158 xv159 xv160 xv161 xi162) else none)) else none))) else none))) else none))))) else none)))) else none)) else none)))))) else none) else (G 40 [(.sl z184 l185), (.str xs143), (.int .i64 xi144), (.int .i64 xi145), (.sl 1 xl146), (.sl 1 xl147), (.sl 1 xl148), (.sl 7 xl149), (.sl 6 xl150), (.sl 1 xl151), (.sl 1 xl152), (.sl 1 xl153), (.sl 1 xl154), (.sl 7 xl155)] fun o272 => (unCons o272 fun c273 r274 => (V.asInt c273 fun k275 n276 => (bif decide (k275 = .i64) then (unCons r274 fun c277 r278 => (V.asStr c277 fun s279 => (unCons r278 fun c280 r281 => (V.asInt c280 fun k282 n283 => (bif decide (k282 = .i64) then (unCons r281 fun c284 r285 => (V.asInt c284 fun k286 n287 => (bif decide (k286 = .i64) then (unCons r285 fun c288 r289 => (V.asSl c288 fun z290 l291 => (bif (z290 == 1) then (unNil r289 (bif (decide (List.length xl150 + 1 ≤ 1073741824)) then (X xl139 xi140 xi141 (IntKind.i64.wrap (xi142 + 1)) s279 n283 n287 xl146 xl147 xl148 xl149 (xl150 ++ [(.agg [(.int .i64 xi141), (.int .i64 n192), (.int .i64 (-1)), (.int .i64 (-1)), (.int .i64 n276), (.str s180)])]) l291 xl152 xl153 xl154 xl155 xi156 xs157 xv158 xv159 xv160 xv161 xi162) else none)) else none))) else none))) else none))))) else none))))))) else none)))) else none)))))))))))))) else none)) else (Ko xl139 xi140 xs143 xi144 xi145 xl146 xl147 xl148 xl149 xl150 xl151 xl152 xl153 xl154 xl155 xi156 xs157 xv158 xv159 xv160 xv161 xi162)))
def l28_2g {R : Type} (G : ORC R) (k : Nat) (Ko : List V → Int → ByteArray → Int → Int → List V → List V → List V → List V → List V → List V → List V → List V → List V → List V → Int → ByteArray → V → V → V → V → Int → Option R) : Nat → List V → Int → Int → Int → ByteArray → Int → Int → List V → List V → List V → List V → List V → List V → List V → List V → List V → List V → Int → ByteArray → V → V → V → V → Int → Option R
  | 0 => fun _ _ _ _ _ _ _ _ _ _ _ _ _ _ _ _ _ _ _ _ _ _ _ _ => none
  | j + 1 => b28_2 G k (l28_2g G k Ko j) Ko
def l28_2 {R : Type} (G : ORC R) (k : Nat) (xl139 : List V) (xi140 xi141 xi142 : Int) (xs143 : ByteArray) (xi144 xi145 : Int) (xl146 xl147 : List V) (xl148 xl149 : List V) (xl150 xl151 : List V) (xl152 xl153 : List V) (xl154 xl155 : List V) (xi156 : Int) (xs157 : ByteArray) (xv158 xv159 : V) (xv160 xv161 : V) (xi162 : Int) (Ko : List V → Int → ByteArray → Int → Int → List V → List V → List V → List V → List V → List V → List V → List V → List V → List V → Int → ByteArray → V → V → V → V → Int → Option R) : Option R := l28_2g G k Ko k xl139 xi140 xi141 xi142 xs143 xi144 xi145 xl146 xl147 xl148 xl149 xl150 xl151 xl152 xl153 xl154 xl155 xi156 xs157 xv158 xv159 xv160 xv161 xi162
def P28_0h : Pat := { tmps := unds [.stat (.one (.ptr 0 0) .pt), .var (.sl 7) .ro, .undef, .undef, .var (.int .i64) .pr] 141 [], boxes := nons [some [.var .str .pr false, .var (.int .i64) .pr false, .var (.int .i64) .pr false, .var (.sl 1) .ro true, .var (.sl 1) .ro true, .var (.sl 1) .ro true, .var (.sl 7) (.own true) false, .var (.sl 6) (.own true) false, .var (.sl 1) (.own true) false, .var (.sl 1) .ro true, .var (.sl 1) .ro true, .var (.sl 1) .ro true, .var (.sl 7) .ro true]] 146 [] }
def P28_0x : Pat := { tmps := unds [] 146 [], boxes := nons [some [.var .str .pr false, .var (.int .i64) .pr false, .var (.int .i64) .pr false, .var (.sl 1) .ro true, .var (.sl 1) .ro true, .var (.sl 1) .ro true, .var (.sl 7) (.own true) false, .var (.sl 6) (.own true) false, .var (.sl 1) (.own true) false, .var (.sl 1) .ro true, .var (.sl 1) .ro true, .var (.sl 1) .ro true, .var (.sl 7) .ro true]] 146 [] }
def b28_0 {R : Type} (G : ORC R) (k : Nat) (X : List V → Int → ByteArray → Int → Int → List V → List V → List V → List V → List V → List V → List V → List V → List V → List V → Option R) (Ko : ByteArray → Int → Int → List V → List V → List V → List V → List V → List V → List V → List V → List V → List V → Option R) (xl15 : List V) (xi16 : Int) (xs17 : ByteArray) (xi18 xi19 : Int) (xl20 xl21 : List V) (xl22 xl23 : List V) (xl24 xl25 : List V) (xl26 xl27 : List V) (xl28 xl29 : List V) : Option R :=
  (bif (decide (xi16 < ((List.length xl15 : Nat) : Int))) then (bif ((decide (0 ≤ xi16)) && (decide (xi16 < ((List.length xl15 : Nat) : Int)))) then (nthK xl15 (Int.toNat xi16) fun e30 => (V.asAgg e30 fun l31 => (unCons l31 fun c32 r201 => (unCons r201 fun c33 r202 => (unCons r202 fun c34 r203 => (unCons r203 fun c35 r204 => (unCons r204 fun c36 r205 => (unCons r205 fun c37 r206 => (unCons r206 fun c38 r207 => (unNil r207 (V.asInt c32 fun k47 n48 => (bif decide (k47 = .i64) then (V.asStr c33 fun s49 => (V.asSl c34 fun z50 l51 => (V.asSl c35 fun z52 l53 => (V.asSl c36 fun z54 l55 => (V.asSl c37 fun z56 l57 => (V.asInt c38 fun k58 n59 => (bif decide (k58 = .i64) then (G 39 [(.sl 7 xl23), (.str s49)] fun o60 => (unCons o60 fun c61 r62 => (V.asInt c61 fun k63 n64 => (bif decide (k63 = .i64) then (unNil r62 (G 40 [(.sl z50 l51), (.str xs17), (.int .i64 xi18), (.int .i64 xi19), (.sl 1 xl20), (.sl 1 xl21), (.sl 1 xl22), (.sl 7 xl23), (.sl 6 xl24), (.sl 1 xl25), (.sl 1 xl26), (.sl 1 xl27), (.sl 1 xl28), (.sl 7 xl29)] fun o65 => (unCons o65 fun c66 r67 => (V.asInt c66 fun k68 n69 => (bif decide (k68 = .i64) then (unCons r67 fun c70 r71 => (V.asStr c70 fun s72 => (unCons r71 fun c73 r74 => (V.asInt c73 fun k75 n76 => (bif decide (k75 = .i64) then (unCons r74 fun c77 r78 => (V.asInt c77 fun k79 n80 => (bif decide (k79 = .i64) then (unCons r78 fun c81 r82 => (V.asSl c81 fun z83 l84 => (bif (z83 == 1) then (unNil r82 (G 40 [(.sl z52 l53), (.str s72), (.int .i64 n76), (.int .i64 n80), (.sl 1 xl20), (.sl 1 xl21), (.sl 1 xl22), (.sl 7 xl23), (.sl 6 xl24), (.sl 1 l84), (.sl 1 xl26), (.sl 1 xl27), (.sl 1 xl28), (.sl 7 xl29)] fun o85 => (unCons o85 fun c86 r87 => (V.asInt c86 fun k88 n89 => (bif decide (k88 = .i64) then (unCons r87 fun c90 r91 => (V.asStr c90 fun s92 => (unCons r91 fun c93 r94 => (V.asInt c93 fun k95 n96 => (bif decide (k95 = .i64) then (unCons r94 fun c97 r98 => (V.asInt c97 fun k99 n100 => (bif decide (k99 = .i64) then (unCons r98 fun c101 r102 => (V.asSl c101 fun z103 l104 => (bif (z103 == 1) then (unNil r102 (bif ((decide (0 ≤ n64)) && (decide (n64 < ((List.length xl23 : Nat) : Int)))) then (nthK xl23 (Int.toNat n64) fun e105 => (V.asAgg e105 fun l106 => (unCons l106 fun c107 r194 => (unCons r194 fun c108 r195 => (unCons r195 fun c109 r196 => (unCons r196 fun c110 r197 => (unCons r197 fun c111 r198 => (unCons r198 fun c112 r199 => (unCons r199 fun c113 r200 => (unNil r200 (bif ((decide (0 ≤ n64)) && (decide (n64 < ((List.length (List.set xl23 (Int.toNat n64) (.agg [c107, c108, c109, c110, (.int .i64 n69), c112, c113])) : Nat) : Int)))) then (nthK (List.set xl23 (Int.toNat n64) (.agg [c107, c108, c109, c110, (.int .i64 n69), c112, c113])) (Int.toNat n64) fun e122 => (V.asAgg e122 fun l123 => (unCons l123 fun c124 r187 => (unCons r187 fun c125 r188 => (unCons r188 fun c126 r189 => (unCons r189 fun c127 r190 => (unCons r190 fun c128 r191 => (unCons r191 fun c129 r192 => (unCons r192 fun c130 r193 => (unNil r193 (l28_2 G k xl15 xi16 n64 0 s92 n96 n100 xl20 xl21 xl22 (List.set (List.set xl23 (Int.toNat n64) (.agg [c107, c108, c109, c110, (.int .i64 n69), c112, c113])) (Int.toNat n64) (.agg [c124, c125, c126, c127, c128, (.int .i64 n89), c130])) xl24 l104 xl26 xl27 xl28 xl29 n48 s49 (.sl z50 l51) (.sl z52 l53) (.sl z54 l55) (.sl z56 l57) n59 (fun yl139 yi140 ys141 yi142 yi143 yl144 yl145 yl146 yl147 yl148 yl149 yl150 yl151 yl152 yl153 yi154 ys155 yv156 yv157 yv158 yv159 yi160 => (V.asSl yv159 fun z161 l162 => (G 28 [(.sl z161 l162), (.str ys141), (.int .i64 yi142), (.int .i64 yi143), (.sl 1 yl144), (.sl 1 yl145), (.sl 1 yl146), (.sl 7 yl147), (.sl 6 yl148), (.sl 1 yl149), (.sl 1 yl150), (.sl 1 yl151), (.sl 1 yl152), (.sl 7 yl153)] fun o163 => (unCons o163 fun c164 r165 => (V.asStr c164 fun s166 => (unCons r165 fun c167 r168 => (V.asInt c167 fun k169 n170 => (bif decide (k169 = .i64) then (unCons r168 fun c171 r172 => (V.asInt c171 fun k173 n174 => (bif decide (k173 = .i64) then (unCons r172 fun c175 r176 => (V.asSl c175 fun z177 l178 => (bif (z177 == 7) then (unCons r176 fun c179 r180 => (V.asSl c179 fun z181 l182 => (bif (z181 == 6) then (unCons r180 fun c183 r184 => (V.asSl c183 fun z185 l186 => (bif (z185 == 1) then (unNil r184 (X yl139 (IntKind.i64.wrap (yi140 + 1)) s166 n170 n174 yl144 yl145 yl146 l178 l182 l186 yl150 yl151 yl152 yl153)) else none))) else none))) else none))) else none))) else none))))))))))))))))))) else none))))))))))) else none)) else none))) else none))) else none))))) else none))))) else none))) else none))) else none))))) else none))))) else none)))) else none))))))) else none)))))))))))) else none) else (Ko xs17 xi18 xi19 xl20 xl21 xl22 xl23 xl24 xl25 xl26 xl27 xl28 xl29))
def l28_0g {R : Type} (G : ORC R) (k : Nat) (Ko : ByteArray → Int → Int → List V → List V → List V → List V → List V → List V → List V → List V → List V → List V → Option R) : Nat → List V → Int → ByteArray → Int → Int → List V → List V → List V → List V → List V → List V → List V → List V → List V → List V → Option R
  | 0 => fun _ _ _ _ _ _ _ _ _ _ _ _ _ _ _ => none
  | j + 1 => b28_0 G k (l28_0g G k Ko j) Ko
def l28_0 {R : Type} (G : ORC R) (k : Nat) (xl15 : List V) (xi16 : Int) (xs17 : ByteArray) (xi18 xi19 : Int) (xl20 xl21 : List V) (xl22 xl23 : List V) (xl24 xl25 : List V) (xl26 xl27 : List V) (xl28 xl29 : List V) (Ko : ByteArray → Int → Int → List V → List V → List V → List V → List V → List V → List V → List V → List V → List V → Option R) : Option R := l28_0g G k Ko k xl15 xi16 xs17 xi18 xi19 xl20 xl21 xl22 xl23 xl24 xl25 xl26 xl27 xl28 xl29
def rd28_2 {R : Type} (G : ORC R) (k : Nat) (K : Ex → St → Option R) (j : Nat) (vs : List V) : Option R := match vs with
  | [(.sl 7 xl139), (.int .i64 xi140), (.int .i64 xi141), (.int .i64 xi142), (.str xs143), (.int .i64 xi144), (.int .i64 xi145), (.sl 1 xl146), (.sl 1 xl147), (.sl 1 xl148), (.sl 7 xl149), (.sl 6 xl150), (.sl 1 xl151), (.sl 1 xl152), (.sl 1 xl153), (.sl 1 xl154), (.sl 7 xl155), (.int .i64 xi156), (.str xs157), xv158, xv159, xv160, xv161, (.int .i64 xi162)] => l28_2g G k (fun yl221 yi222 ys223 yi224 yi225 yl226 yl227 yl228 yl229 yl230 yl231 yl232 yl233 yl234 yl235 yi236 ys237 yv238 yv239 yv240 yv241 yi242 => K .normal (P28_2x.inst [(.sl 7 yl221), (.int .i64 yi222), (.str ys223), (.int .i64 yi224), (.int .i64 yi225), (.sl 1 yl226), (.sl 1 yl227), (.sl 1 yl228), (.sl 7 yl229), (.sl 6 yl230), (.sl 1 yl231), (.sl 1 yl232), (.sl 1 yl233), (.sl 1 yl234), (.sl 7 yl235), (.int .i64 yi236), (.str ys237), yv238, yv239, yv240, yv241, (.int .i64 yi242)])) j xl139 xi140 xi141 xi142 xs143 xi144 xi145 xl146 xl147 xl148 xl149 xl150 xl151 xl152 xl153 xl154 xl155 xi156 xs157 xv158 xv159 xv160 xv161 xi162
  | _ => none
def rd28_0 {R : Type} (G : ORC R) (k : Nat) (K : Ex → St → Option R) (j : Nat) (vs : List V) : Option R := match vs with
  | [(.sl 7 xl15), (.int .i64 xi16), (.str xs17), (.int .i64 xi18), (.int .i64 xi19), (.sl 1 xl20), (.sl 1 xl21), (.sl 1 xl22), (.sl 7 xl23), (.sl 6 xl24), (.sl 1 xl25), (.sl 1 xl26), (.sl 1 xl27), (.sl 1 xl28), (.sl 7 xl29)] => l28_0g G k (fun ys243 yi244 yi245 yl246 yl247 yl248 yl249 yl250 yl251 yl252 yl253 yl254 yl255 => K .normal (P28_0x.inst [(.str ys243), (.int .i64 yi244), (.int .i64 yi245), (.sl 1 yl246), (.sl 1 yl247), (.sl 1 yl248), (.sl 7 yl249), (.sl 6 yl250), (.sl 1 yl251), (.sl 1 yl252), (.sl 1 yl253), (.sl 1 yl254), (.sl 7 yl255)])) j xl15 xi16 xs17 xi18 xi19 xl20 xl21 xl22 xl23 xl24 xl25 xl26 xl27 xl28 xl29
  | _ => none
def L28 {R : Type} (G : ORC R) (k : Nat) : Nat → St → (Ex → St → Option R) → Option R
  | 2, S, K => P28_2h.mat S fun vs => rd28_2 G k K k vs
  | 0, S, K => P28_0h.mat S fun vs => rd28_0 G k K k vs
  | _, _, _ => none
def f28 {R : Type} (G : ORC R) (k : Nat) (al1 : List V) (bs2 : ByteArray) (bi3 bi4 : Int) (bl5 bl6 : List V) (bl7 bl8 : List V) (bl9 bl10 : List V) (bl11 bl12 : List V) (bl13 bl14 : List V) (K : List V → Option R) : Option R :=
  (l28_0 G k al1 0 bs2 bi3 bi4 bl5 bl6 bl7 bl8 bl9 bl10 bl11 bl12 bl13 bl14 (fun ys208 yi209 yi210 yl211 yl212 yl213 yl214 yl215 yl216 yl217 yl218 yl219 yl220 => (K [(.str ys208), (.int .i64 yi209), (.int .i64 yi210), (.sl 7 yl214), (.sl 6 yl215), (.sl 1 yl216)])))
noncomputable def D28_2 : LoopD := { id := 2, body := loopAt 2 (bodyOf Try.f28), head := P28_2h, out := P28_2x, ret := default }
theorem l28_2_is {R : Type} (G : ORC R) (k : Nat) (X : List V → Option R) (K : Ex → St → Option R) (xl139 : List V) (xi140 xi141 xi142 : Int) (xs143 : ByteArray) (xi144 xi145 : Int) (xl146 xl147 : List V) (xl148 xl149 : List V) (xl150 xl151 : List V) (xl152 xl153 : List V) (xl154 xl155 : List V) (xi156 : Int) (xs157 : ByteArray) (xv158 xv159 : V) (xv160 xv161 : V) (xi162 : Int) :
    roundOf (TAB.env 28) G (L28 G k) D28_2 X K [(.sl 7 xl139), (.int .i64 xi140), (.int .i64 xi141), (.int .i64 xi142), (.str xs143), (.int .i64 xi144), (.int .i64 xi145), (.sl 1 xl146), (.sl 1 xl147), (.sl 1 xl148), (.sl 7 xl149), (.sl 6 xl150), (.sl 1 xl151), (.sl 1 xl152), (.sl 1 xl153), (.sl 1 xl154), (.sl 7 xl155), (.int .i64 xi156), (.str xs157), xv158, xv159, xv160, xv161, (.int .i64 xi162)] = b28_2 G k (fun xl139 xi140 xi141 xi142 xs143 xi144 xi145 xl146 xl147 xl148 xl149 xl150 xl151 xl152 xl153 xl154 xl155 xi156 xs157 xv158 xv159 xv160 xv161 xi162 => X [(.sl 7 xl139), (.int .i64 xi140), (.int .i64 xi141), (.int .i64 xi142), (.str xs143), (.int .i64 xi144), (.int .i64 xi145), (.sl 1 xl146), (.sl 1 xl147), (.sl 1 xl148), (.sl 7 xl149), (.sl 6 xl150), (.sl 1 xl151), (.sl 1 xl152), (.sl 1 xl153), (.sl 1 xl154), (.sl 7 xl155), (.int .i64 xi156), (.str xs157), xv158, xv159, xv160, xv161, (.int .i64 xi162)]) (fun yl221 yi222 ys223 yi224 yi225 yl226 yl227 yl228 yl229 yl230 yl231 yl232 yl233 yl234 yl235 yi236 ys237 yv238 yv239 yv240 yv241 yi242 => K .normal (P28_2x.inst [(.sl 7 yl221), (.int .i64 yi222), (.str ys223), (.int .i64 yi224), (.int .i64 yi225), (.sl 1 yl226), (.sl 1 yl227), (.sl 1 yl228), (.sl 7 yl229), (.sl 6 yl230), (.sl 1 yl231), (.sl 1 yl232), (.sl 1 yl233), (.sl 1 yl234), (.sl 7 yl235), (.int .i64 yi236), (.str ys237), yv238, yv239, yv240, yv241, (.int .i64 yi242)])) xl139 xi140 xi141 xi142 xs143 xi144 xi145 xl146 xl147 xl148 xl149 xl150 xl151 xl152 xl153 xl154 xl155 xi156 xs157 xv158 xv159 xv160 xv161 xi162 := by kernel_rfl
noncomputable def D28_0 : LoopD := { id := 0, body := loopAt 0 (bodyOf Try.f28), head := P28_0h, out := P28_0x, ret := default }
theorem l28_0_is {R : Type} (G : ORC R) (k : Nat) (X : List V → Option R) (K : Ex → St → Option R) (xl15 : List V) (xi16 : Int) (xs17 : ByteArray) (xi18 xi19 : Int) (xl20 xl21 : List V) (xl22 xl23 : List V) (xl24 xl25 : List V) (xl26 xl27 : List V) (xl28 xl29 : List V) :
    roundOf (TAB.env 28) G (L28 G k) D28_0 X K [(.sl 7 xl15), (.int .i64 xi16), (.str xs17), (.int .i64 xi18), (.int .i64 xi19), (.sl 1 xl20), (.sl 1 xl21), (.sl 1 xl22), (.sl 7 xl23), (.sl 6 xl24), (.sl 1 xl25), (.sl 1 xl26), (.sl 1 xl27), (.sl 1 xl28), (.sl 7 xl29)] = b28_0 G k (fun xl15 xi16 xs17 xi18 xi19 xl20 xl21 xl22 xl23 xl24 xl25 xl26 xl27 xl28 xl29 => X [(.sl 7 xl15), (.int .i64 xi16), (.str xs17), (.int .i64 xi18), (.int .i64 xi19), (.sl 1 xl20), (.sl 1 xl21), (.sl 1 xl22), (.sl 7 xl23), (.sl 6 xl24), (.sl 1 xl25), (.sl 1 xl26), (.sl 1 xl27), (.sl 1 xl28), (.sl 7 xl29)]) (fun ys243 yi244 yi245 yl246 yl247 yl248 yl249 yl250 yl251 yl252 yl253 yl254 yl255 => K .normal (P28_0x.inst [(.str ys243), (.int .i64 yi244), (.int .i64 yi245), (.sl 1 yl246), (.sl 1 yl247), (.sl 1 yl248), (.sl 7 yl249), (.sl 6 yl250), (.sl 1 yl251), (.sl 1 yl252), (.sl 1 yl253), (.sl 1 yl254), (.sl 7 yl255)])) xl15 xi16 xs17 xi18 xi19 xl20 xl21 xl22 xl23 xl24 xl25 xl26 xl27 xl28 xl29 := by kernel_rfl
theorem f28_is {R : Type} (G : ORC R) (k : Nat) (K : List V → Option R) (al1 : List V) (bs2 : ByteArray) (bi3 bi4 : Int) (bl5 bl6 : List V) (bl7 bl8 : List V) (bl9 bl10 : List V) (bl11 bl12 : List V) (bl13 bl14 : List V) :
    callF (TAB.env 28) G (L28 G k) Try.f28 S28 [(.sl 7 al1), (.str bs2), (.int .i64 bi3), (.int .i64 bi4), (.sl 1 bl5), (.sl 1 bl6), (.sl 1 bl7), (.sl 7 bl8), (.sl 6 bl9), (.sl 1 bl10), (.sl 1 bl11), (.sl 1 bl12), (.sl 1 bl13), (.sl 7 bl14)] K = f28 G k al1 bs2 bi3 bi4 bl5 bl6 bl7 bl8 bl9 bl10 bl11 bl12 bl13 bl14 K := by kernel_rfl
theorem li28_2 {R : Type} (G : ORC R) (k : Nat) : LoopIs (TAB.env 28) G (L28 G k) 2 (loopAt 2 (bodyOf Try.f28)) :=
  ⟨D28_2, fun j vs K => rd28_2 G k K j vs, k, rfl, rfl, by kernel_rfl, by kernel_rfl, by kernel_rfl, (fun vs K => by unfold rd28_2; dsimp only; split <;> rfl),
    (fun j vs K r h => by
      unfold rd28_2 at h
      dsimp only at h
      split at h
      · rw [l28_2_is]; exact h
      · cases h), (fun S K r h => h)⟩
theorem li28_0 {R : Type} (G : ORC R) (k : Nat) : LoopIs (TAB.env 28) G (L28 G k) 0 (loopAt 0 (bodyOf Try.f28)) :=
  ⟨D28_0, fun j vs K => rd28_0 G k K j vs, k, rfl, rfl, by kernel_rfl, by kernel_rfl, by kernel_rfl, (fun vs K => by unfold rd28_0; dsimp only; split <;> rfl),
    (fun j vs K r h => by
      unfold rd28_0 at h
      dsimp only at h
      split at h
      · rw [l28_0_is]; exact h
      · cases h), (fun S K r h => h)⟩
theorem lo28 : loopsOf (bodyOf Try.f28) = [(0, loopAt 0 (bodyOf Try.f28)), (2, loopAt 2 (bodyOf Try.f28))] := by kernel_rfl
theorem la28 {R : Type} (G : ORC R) (k : Nat) : LoopsAre (TAB.env 28) G (L28 G k) (bodyOf Try.f28) :=
  loopsAre_of (by rw [lo28]; intro p hp; simp only [List.mem_cons, List.not_mem_nil, or_false] at hp; rcases hp with rfl | rfl <;> first | exact li28_0 G k | exact li28_2 G k)
def g28 {R : Type} (G : ORC R) (k : Nat) (args : List V) (K : List V → Option R) : Option R := match args with
  | [(.sl 7 al1), (.str bs2), (.int .i64 bi3), (.int .i64 bi4), (.sl 1 bl5), (.sl 1 bl6), (.sl 1 bl7), (.sl 7 bl8), (.sl 6 bl9), (.sl 1 bl10), (.sl 1 bl11), (.sl 1 bl12), (.sl 1 bl13), (.sl 7 bl14)] => f28 G k al1 bs2 bi3 bi4 bl5 bl6 bl7 bl8 bl9 bl10 bl11 bl12 bl13 bl14 K
  | _ => none
theorem s28 {R : Type} {G : ORC R} {k : Nat} (hG : Sound Try.prog TAB G) (args : List V) (K : List V → Option R) (r : R) (h : g28 G k args K = some r) : ∃ o, CallOK Try.prog TAB.env 28 args o ∧ K o = some r := by
  unfold g28 at h
  split at h
  · rw [← f28_is] at h
    exact callF_sound TAB_chk MO hG Try.func28 (sg := S28) (by kernel_rfl) (by kernel_rfl) (la28 G k) h
  · cases h
end Go.Proofs.Ytjbppcgcblfkoaa.Vm
open Go Go.VM
set_option linter.unusedVariables false
set_option maxRecDepth 100000
set_option maxHeartbeats 4000000
namespace Go.Proofs.Ytjbppcgcblfkoaa.Vm
/-! ### cotillion/cotillionref21.Table: function 17 -/
def P17_0h : Pat := { tmps := unds [.undef, .stat (.one (.ptr 1 0) .pt), .stat (.one (.ptr 2 0) .pt), .stat (.one (.ptr 8 0) .pt), .var (.int .i64) .pr] 54 [], boxes := nons [none, some [.var .str .pr false, .var (.int .i64) .pr false, .var (.int .i64) .pr false, .var (.sl 3) .ro false, .var (.sl 3) .ro false, .var (.sl 3) .ro false, .var (.sl 7) .ro false, .var (.int .i64) .pr false], some [.var .str .pr false, .var (.int .i64) .pr false, .var (.int .i64) .pr false, .var (.sl 1) (.own true) false, .var (.sl 1) (.own true) false, .var (.sl 1) (.own true) false, .var (.sl 7) (.own true) false, .var (.sl 6) (.own true) false, .var (.sl 1) (.own true) false]] 5 (nons [some [.var .str .pr false, .var (.int .i64) .pr false, .var (.int .i64) .pr false, .var (.sl 1) (.own true) false, .var (.sl 1) .ro false, .var (.sl 1) .ro false, .var (.sl 7) (.own true) false, .var (.sl 6) (.own true) false, .var (.sl 1) (.own true) false, .var (.sl 1) .ro false, .var (.sl 1) .ro false, .var (.sl 1) .ro false, .var (.sl 7) .ro false]] 50 []) }
def P17_0x : Pat := { tmps := unds [.undef, .stat (.one (.ptr 1 0) .pt), .stat (.one (.ptr 2 0) .pt), .stat (.one (.ptr 8 0) .pt)] 55 [], boxes := nons [none, some [.var .str .pr false, .var (.int .i64) .pr false, .var (.int .i64) .pr false, .var (.sl 3) .ro false, .var (.sl 3) .ro false, .var (.sl 3) .ro false, .var (.sl 7) .ro false, .var (.int .i64) .pr false], some [.var .str .pr false, .var (.int .i64) .pr false, .var (.int .i64) .pr false, .var (.sl 1) (.own true) false, .var (.sl 1) (.own true) false, .var (.sl 1) (.own true) false, .var (.sl 7) (.own true) false, .var (.sl 6) (.own true) false, .var (.sl 1) (.own true) false]] 5 (nons [some [.var .str .pr false, .var (.int .i64) .pr false, .var (.int .i64) .pr false, .var (.sl 1) (.own true) false, .var (.sl 1) .ro false, .var (.sl 1) .ro false, .var (.sl 7) (.own true) false, .var (.sl 6) (.own true) false, .var (.sl 1) (.own true) false, .var (.sl 1) .ro false, .var (.sl 1) .ro false, .var (.sl 1) .ro false, .var (.sl 7) .ro false]] 50 []) }
def b17_0 {R : Type} (G : ORC R) (k : Nat) (X : Int → ByteArray → Int → Int → List V → List V → List V → List V → Int → ByteArray → Int → Int → List V → List V → List V → List V → List V → List V → ByteArray → Int → Int → List V → List V → List V → List V → List V → List V → List V → List V → List V → List V → Option R) (Ko : ByteArray → Int → Int → List V → List V → List V → List V → Int → ByteArray → Int → Int → List V → List V → List V → List V → List V → List V → ByteArray → Int → Int → List V → List V → List V → List V → List V → List V → List V → List V → List V → List V → Option R) (xi44 : Int) (xs45 : ByteArray) (xi46 xi47 : Int) (xl48 xl49 : List V) (xl50 xl51 : List V) (xi52 : Int) (xs53 : ByteArray) (xi54 xi55 : Int) (xl56 xl57 : List V) (xl58 xl59 : List V) (xl60 xl61 : List V) (xs62 : ByteArray) (xi63 xi64 : Int) (xl65 xl66 : List V) (xl67 xl68 : List V) (xl69 xl70 : List V) (xl71 xl72 : List V) (xl73 xl74 : List V) : Option R :=
  (bif (decide (xi44 < ((List.length xl48 : Nat) : Int))) then (bif ((decide (0 ≤ xi44)) && (decide (xi44 < ((List.length xl48 : Nat) : Int)))) then (nthK xl48 (Int.toNat xi44) fun e75 => (V.asAgg e75 fun l76 => (unCons l76 fun c77 r86 => (unCons r86 fun c78 r87 => (unCons r87 fun c79 r88 => (unNil r88 (V.asInt c78 fun k84 n85 => (bif decide (k84 = .i64) then (bif (decide (List.length xl65 + 1 ≤ 1073741824)) then (X (IntKind.i64.wrap (xi44 + 1)) xs45 xi46 xi47 xl48 xl49 xl50 xl51 xi52 xs53 xi54 xi55 xl56 xl57 xl58 xl59 xl60 xl61 xs62 xi63 xi64 (xl65 ++ [(.int .i64 n85)]) xl66 xl67 xl68 xl69 xl70 xl71 xl72 xl73 xl74) else none) else none)))))))) else none) else (Ko xs45 xi46 xi47 xl48 xl49 xl50 xl51 xi52 xs53 xi54 xi55 xl56 xl57 xl58 xl59 xl60 xl61 xs62 xi63 xi64 xl65 xl66 xl67 xl68 xl69 xl70 xl71 xl72 xl73 xl74))
def l17_0g {R : Type} (G : ORC R) (k : Nat) (Ko : ByteArray → Int → Int → List V → List V → List V → List V → Int → ByteArray → Int → Int → List V → List V → List V → List V → List V → List V → ByteArray → Int → Int → List V → List V → List V → List V → List V → List V → List V → List V → List V → List V → Option R) : Nat → Int → ByteArray → Int → Int → List V → List V → List V → List V → Int → ByteArray → Int → Int → List V → List V → List V → List V → List V → List V → ByteArray → Int → Int → List V → List V → List V → List V → List V → List V → List V → List V → List V → List V → Option R
  | 0 => fun _ _ _ _ _ _ _ _ _ _ _ _ _ _ _ _ _ _ _ _ _ _ _ _ _ _ _ _ _ _ _ => none
  | j + 1 => b17_0 G k (l17_0g G k Ko j) Ko
def l17_0 {R : Type} (G : ORC R) (k : Nat) (xi44 : Int) (xs45 : ByteArray) (xi46 xi47 : Int) (xl48 xl49 : List V) (xl50 xl51 : List V) (xi52 : Int) (xs53 : ByteArray) (xi54 xi55 : Int) (xl56 xl57 : List V) (xl58 xl59 : List V) (xl60 xl61 : List V) (xs62 : ByteArray) (xi63 xi64 : Int) (xl65 xl66 : List V) (xl67 xl68 : List V) (xl69 xl70 : List V) (xl71 xl72 : List V) (xl73 xl74 : List V) (Ko : ByteArray → Int → Int → List V → List V → List V → List V → Int → ByteArray → Int → Int → List V → List V → List V → List V → List V → List V → ByteArray → Int → Int → List V → List V → List V → List V → List V → List V → List V → List V → List V → List V → Option R) : Option R := l17_0g G k Ko k xi44 xs45 xi46 xi47 xl48 xl49 xl50 xl51 xi52 xs53 xi54 xi55 xl56 xl57 xl58 xl59 xl60 xl61 xs62 xi63 xi64 xl65 xl66 xl67 xl68 xl69 xl70 xl71 xl72 xl73 xl74
def rd17_0 {R : Type} (G : ORC R) (k : Nat) (K : Ex → St → Option R) (j : Nat) (vs : List V) : Option R := match vs with
  | [(.int .i64 xi44), (.str xs45), (.int .i64 xi46), (.int .i64 xi47), (.sl 3 xl48), (.sl 3 xl49), (.sl 3 xl50), (.sl 7 xl51), (.int .i64 xi52), (.str xs53), (.int .i64 xi54), (.int .i64 xi55), (.sl 1 xl56), (.sl 1 xl57), (.sl 1 xl58), (.sl 7 xl59), (.sl 6 xl60), (.sl 1 xl61), (.str xs62), (.int .i64 xi63), (.int .i64 xi64), (.sl 1 xl65), (.sl 1 xl66), (.sl 1 xl67), (.sl 7 xl68), (.sl 6 xl69), (.sl 1 xl70), (.sl 1 xl71), (.sl 1 xl72), (.sl 1 xl73), (.sl 7 xl74)] => l17_0g G k (fun ys143 yi144 yi145 yl146 yl147 yl148 yl149 yi150 ys151 yi152 yi153 yl154 yl155 yl156 yl157 yl158 yl159 ys160 yi161 yi162 yl163 yl164 yl165 yl166 yl167 yl168 yl169 yl170 yl171 yl172 => K .normal (P17_0x.inst [(.str ys143), (.int .i64 yi144), (.int .i64 yi145), (.sl 3 yl146), (.sl 3 yl147), (.sl 3 yl148), (.sl 7 yl149), (.int .i64 yi150), (.str ys151), (.int .i64 yi152), (.int .i64 yi153), (.sl 1 yl154), (.sl 1 yl155), (.sl 1 yl156), (.sl 7 yl157), (.sl 6 yl158), (.sl 1 yl159), (.str ys160), (.int .i64 yi161), (.int .i64 yi162), (.sl 1 yl163), (.sl 1 yl164), (.sl 1 yl165), (.sl 7 yl166), (.sl 6 yl167), (.sl 1 yl168), (.sl 1 yl169), (.sl 1 yl170), (.sl 1 yl171), (.sl 7 yl172)])) j xi44 xs45 xi46 xi47 xl48 xl49 xl50 xl51 xi52 xs53 xi54 xi55 xl56 xl57 xl58 xl59 xl60 xl61 xs62 xi63 xi64 xl65 xl66 xl67 xl68 xl69 xl70 xl71 xl72 xl73 xl74
  | _ => none
def L17 {R : Type} (G : ORC R) (k : Nat) : Nat → St → (Ex → St → Option R) → Option R
  | 0, S, K => P17_0h.mat S fun vs => rd17_0 G k K k vs
  | _, _, _ => none
def f17 {R : Type} (G : ORC R) (k : Nat) (as1 : ByteArray) (ai2 ai3 : Int) (al4 al5 : List V) (al6 al7 : List V) (ai8 : Int) (K : List V → Option R) : Option R :=
  (G 26 [(.agg [(.str as1), (.int .i64 ai2), (.int .i64 ai3), (.sl 3 al4), (.sl 3 al5), (.sl 3 al6), (.sl 7 al7), (.int .i64 ai8)])] fun o9 => (unCons o9 fun c10 r11 => (V.asAgg c10 fun l12 => (unCons l12 fun c13 r14 => (V.asSl c13 fun z15 l16 => (bif (z15 == 1) then (unCons r14 fun c17 r18 => (V.asSl c17 fun z19 l20 => (bif (z19 == 1) then (unCons r18 fun c21 r22 => (V.asSl c21 fun z23 l24 => (bif (z23 == 1) then (unCons r22 fun c25 r26 => (V.asSl c25 fun z27 l28 => (bif (z27 == 7) then (unNil r26 (unNil r11 (G 27 [(.sl 3 al5)] fun o29 => (unCons o29 fun c30 r31 => (V.asSl c30 fun z32 l33 => (bif (z32 == 1) then (unNil r31 (G 27 [(.sl 3 al6)] fun o34 => (unCons o34 fun c35 r36 => (V.asSl c35 fun z37 l38 => (bif (z37 == 1) then (unNil r36 (G 15 [(.agg [(.str as1), (.int .i64 ai2), (.int .i64 ai3), (.sl 3 al4), (.sl 3 al5), (.sl 3 al6), (.sl 7 al7), (.int .i64 ai8)])] fun o39 => (unCons o39 fun c40 r41 => (V.asSl c40 fun z42 l43 => (bif (z42 == 7) then (unNil r41 (l17_0 G k 0 as1 ai2 ai3 al4 al5 al6 al7 ai8 ⟨#[]⟩ 0 0 [] [] [] [] [] [] as1 ai2 ai3 [] l33 l38 l43 [] [] l16 l20 l24 l28 (fun ys89 yi90 yi91 yl92 yl93 yl94 yl95 yi96 ys97 yi98 yi99 yl100 yl101 yl102 yl103 yl104 yl105 ys106 yi107 yi108 yl109 yl110 yl111 yl112 yl113 yl114 yl115 yl116 yl117 yl118 => (G 28 [(.sl 7 yl95), (.str ys106), (.int .i64 yi107), (.int .i64 yi108), (.sl 1 yl109), (.sl 1 yl110), (.sl 1 yl111), (.sl 7 yl112), (.sl 6 yl113), (.sl 1 yl114), (.sl 1 yl115), (.sl 1 yl116), (.sl 1 yl117), (.sl 7 yl118)] fun o119 => (unCons o119 fun c120 r121 => (V.asStr c120 fun s122 => (unCons r121 fun c123 r124 => (V.asInt c123 fun k125 n126 => (bif decide (k125 = .i64) then (unCons r124 fun c127 r128 => (V.asInt c127 fun k129 n130 => (bif decide (k129 = .i64) then (unCons r128 fun c131 r132 => (V.asSl c131 fun z133 l134 => (bif (z133 == 7) then (unCons r132 fun c135 r136 => (V.asSl c135 fun z137 l138 => (bif (z137 == 6) then (unCons r136 fun c139 r140 => (V.asSl c139 fun z141 l142 => (bif (z141 == 1) then (unNil r140 (K [(.agg [(.str s122), (.int .i64 n126), (.int .i64 n130), (.sl 1 yl109), (.sl 1 yl110), (.sl 1 yl111), (.sl 7 l134), (.sl 6 l138), (.sl 1 l142)])])) else none))) else none))) else none))) else none))) else none))))))))) else none))))) else none))))) else none)))))) else none))) else none))) else none))) else none))))))
noncomputable def D17_0 : LoopD := { id := 0, body := loopAt 0 (bodyOf Try.f17), head := P17_0h, out := P17_0x, ret := default }
theorem l17_0_is {R : Type} (G : ORC R) (k : Nat) (X : List V → Option R) (K : Ex → St → Option R) (xi44 : Int) (xs45 : ByteArray) (xi46 xi47 : Int) (xl48 xl49 : List V) (xl50 xl51 : List V) (xi52 : Int) (xs53 : ByteArray) (xi54 xi55 : Int) (xl56 xl57 : List V) (xl58 xl59 : List V) (xl60 xl61 : List V) (xs62 : ByteArray) (xi63 xi64 : Int) (xl65 xl66 : List V) (xl67 xl68 : List V) (xl69 xl70 : List V) (xl71 xl72 : List V) (xl73 xl74 : List V) :
    roundOf (TAB.env 17) G (L17 G k) D17_0 X K [(.int .i64 xi44), (.str xs45), (.int .i64 xi46), (.int .i64 xi47), (.sl 3 xl48), (.sl 3 xl49), (.sl 3 xl50), (.sl 7 xl51), (.int .i64 xi52), (.str xs53), (.int .i64 xi54), (.int .i64 xi55), (.sl 1 xl56), (.sl 1 xl57), (.sl 1 xl58), (.sl 7 xl59), (.sl 6 xl60), (.sl 1 xl61), (.str xs62), (.int .i64 xi63), (.int .i64 xi64), (.sl 1 xl65), (.sl 1 xl66), (.sl 1 xl67), (.sl 7 xl68), (.sl 6 xl69), (.sl 1 xl70), (.sl 1 xl71), (.sl 1 xl72), (.sl 1 xl73), (.sl 7 xl74)] = b17_0 G k (fun xi44 xs45 xi46 xi47 xl48 xl49 xl50 xl51 xi52 xs53 xi54 xi55 xl56 xl57 xl58 xl59 xl60 xl61 xs62 xi63 xi64 xl65 xl66 xl67 xl68 xl69 xl70 xl71 xl72 xl73 xl74 => X [(.int .i64 xi44), (.str xs45), (.int .i64 xi46), (.int .i64 xi47), (.sl 3 xl48), (.sl 3 xl49), (.sl 3 xl50), (.sl 7 xl51), (.int .i64 xi52), (.str xs53), (.int .i64 xi54), (.int .i64 xi55), (.sl 1 xl56), (.sl 1 xl57), (.sl 1 xl58), (.sl 7 xl59), (.sl 6 xl60), (.sl 1 xl61), (.str xs62), (.int .i64 xi63), (.int .i64 xi64), (.sl 1 xl65), (.sl 1 xl66), (.sl 1 xl67), (.sl 7 xl68), (.sl 6 xl69), (.sl 1 xl70), (.sl 1 xl71), (.sl 1 xl72), (.sl 1 xl73), (.sl 7 xl74)]) (fun ys143 yi144 yi145 yl146 yl147 yl148 yl149 yi150 ys151 yi152 yi153 yl154 yl155 yl156 yl157 yl158 yl159 ys160 yi161 yi162 yl163 yl164 yl165 yl166 yl167 yl168 yl169 yl170 yl171 yl172 => K .normal (P17_0x.inst [(.str ys143), (.int .i64 yi144), (.int .i64 yi145), (.sl 3 yl146), (.sl 3 yl147), (.sl 3 yl148), (.sl 7 yl149), (.int .i64 yi150), (.str ys151), (.int .i64 yi152), (.int .i64 yi153), (.sl 1 yl154), (.sl 1 yl155), (.sl 1 yl156), (.sl 7 yl157), (.sl 6 yl158), (.sl 1 yl159), (.str ys160), (.int .i64 yi161), (.int .i64 yi162), (.sl 1 yl163), (.sl 1 yl164), (.sl 1 yl165), (.sl 7 yl166), (.sl 6 yl167), (.sl 1 yl168), (.sl 1 yl169), (.sl 1 yl170), (.sl 1 yl171), (.sl 7 yl172)])) xi44 xs45 xi46 xi47 xl48 xl49 xl50 xl51 xi52 xs53 xi54 xi55 xl56 xl57 xl58 xl59 xl60 xl61 xs62 xi63 xi64 xl65 xl66 xl67 xl68 xl69 xl70 xl71 xl72 xl73 xl74 := by kernel_rfl
theorem f17_is {R : Type} (G : ORC R) (k : Nat) (K : List V → Option R) (as1 : ByteArray) (ai2 ai3 : Int) (al4 al5 : List V) (al6 al7 : List V) (ai8 : Int) :
    callF (TAB.env 17) G (L17 G k) Try.f17 S17 [(.agg [(.str as1), (.int .i64 ai2), (.int .i64 ai3), (.sl 3 al4), (.sl 3 al5), (.sl 3 al6), (.sl 7 al7), (.int .i64 ai8)])] K = f17 G k as1 ai2 ai3 al4 al5 al6 al7 ai8 K := by kernel_rfl
theorem li17_0 {R : Type} (G : ORC R) (k : Nat) : LoopIs (TAB.env 17) G (L17 G k) 0 (loopAt 0 (bodyOf Try.f17)) :=
  ⟨D17_0, fun j vs K => rd17_0 G k K j vs, k, rfl, rfl, by kernel_rfl, by kernel_rfl, by kernel_rfl, (fun vs K => by unfold rd17_0; dsimp only; split <;> rfl),
    (fun j vs K r h => by
      unfold rd17_0 at h
      dsimp only at h
      split at h
      · rw [l17_0_is]; exact h
      · cases h), (fun S K r h => h)⟩
theorem lo17 : loopsOf (bodyOf Try.f17) = [(0, loopAt 0 (bodyOf Try.f17))] := by kernel_rfl
theorem la17 {R : Type} (G : ORC R) (k : Nat) : LoopsAre (TAB.env 17) G (L17 G k) (bodyOf Try.f17) :=
  loopsAre_of (by rw [lo17]; intro p hp; simp only [List.mem_cons, List.not_mem_nil, or_false] at hp; subst hp; exact li17_0 G k)
def g17 {R : Type} (G : ORC R) (k : Nat) (args : List V) (K : List V → Option R) : Option R := match args with
  | [(.agg [(.str as1), (.int .i64 ai2), (.int .i64 ai3), (.sl 3 al4), (.sl 3 al5), (.sl 3 al6), (.sl 7 al7), (.int .i64 ai8)])] => f17 G k as1 ai2 ai3 al4 al5 al6 al7 ai8 K
  | _ => none
theorem s17 {R : Type} {G : ORC R} {k : Nat} (hG : Sound Try.prog TAB G) (args : List V) (K : List V → Option R) (r : R) (h : g17 G k args K = some r) : ∃ o, CallOK Try.prog TAB.env 17 args o ∧ K o = some r := by
  unfold g17 at h
  split at h
  · rw [← f17_is] at h
    exact callF_sound TAB_chk MO hG Try.func17 (sg := S17) (by kernel_rfl) (by kernel_rfl) (la17 G k) h
  · cases h
end Go.Proofs.Ytjbppcgcblfkoaa.Vm
