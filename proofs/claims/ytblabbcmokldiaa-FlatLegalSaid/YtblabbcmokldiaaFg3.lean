/- Functions of the program, told by the machine of values, and what they answer: part 3. -/
import Derived.Test.YtblabbcmokldiaaFg2
import Derived.Test.YtblabbcmokldiaaV4
open Go Go.VM
set_option linter.unusedVariables false
set_option linter.unusedSimpArgs false
set_option maxRecDepth 100000
set_option maxHeartbeats 8000000
namespace Go.Proofs.Ytblabbcmokldiaa.Vm
section
variable {R : Type} {G : ORC R} {k : Nat} {K : List V → Option R}
def HistOK (G : ORC R) : Prop := ∀ (n : Int) (K : List V → Option R), W (fun o => o = [.bool (decide (n = 4 ∨ n = 5))]) K (G 65 [.int .i64 n] K)
theorem hist_ok : HistOK (fun _ args (K : List V → Option R) => g65 G k args K) := by
  intro n K
  show W _ K (f65 G k n K)
  unfold f65
  refine W_beqI (fun h => W_ret (by subst h; rfl)) (fun h => W_ret ?_)
  by_cases h5 : n = 5
  · subst h5; rfl
  · rw [beq_eq_false_iff_ne.2 h5, decide_eq_false (by omega)]
def CKindOK (G : ORC R) : Prop := ∀ (v : V) (m d : Nat) (K : List V → Option R), StateS m d v → W (fun o => o = [.int .i64 (ndKind v)]) K (G 93 [v] K)
theorem ckind_ok : CKindOK (fun _ args (K : List V → Option R) => g93 G k args K) := by
  intro v m d K hv
  cases d with
  | zero => exact hv.elim
  | succ d =>
  obtain ⟨kind, nm, en, ex, tr, kids, rfl, _⟩ := hv
  show W _ K (f93 G k kind nm en ex tr kids 0 K)
  unfold f93
  have e : ndKind (.agg [.int .i64 kind, .str nm, .sl 8 en, .sl 8 ex, .sl 5 tr, .sl 7 kids, .int .i64 0]) = if kind = 3 then 4 else if kind = 4 then 5 else if kind = 2 then 3 else if kids.length = 0 then 1 else 2 := rfl
  rw [e]
  refine W_beqI (fun h => W_ret (by subst h; rfl)) (fun h => ?_)
  refine W_beqI (fun h1 => W_ret (by subst h1; rfl)) (fun h1 => ?_)
  refine W_beqI (fun h2 => W_ret (by subst h2; rfl)) (fun h2 => ?_)
  refine W_dec (fun h3 => W_ret (by rw [if_neg h1, if_neg h2, if_neg h, if_neg (by omega)])) (fun h3 => W_ret (by rw [if_neg h1, if_neg h2, if_neg h, if_pos (by omega)]))
/-- A node with what is in it, as the program lays it. -/
def addN (d : Nat) (at_ : Nat) (n : Nd) (kids : List V) : List Nd :=
  { n with last := at_ + nszL d kids, init := if n.kind = 2 ∧ kids ≠ [] then (at_ : Int) + 1 else -1 } :: forest d at_ (at_ + 1) kids
def AddOK (d : Nat) (G : ORC R) : Prop := ∀ (l : List Nd) (n : Nd) (kids : List V) (K : List V → Option R), (∀ s ∈ kids, StateS 2 d s) → (∀ s r, kids = s :: r → kindV s ≤ 2) → n.init = -1 → l.length + 1 + nszL d kids ≤ 1000 →
  W (fun o => o = [.sl 7 ((l ++ addN d l.length n kids).map Nd.v)]) K (G 60 [.sl 7 (l.map Nd.v), n.v, .sl 7 kids] K)
/-- What stands there when so many kids are laid. -/
def mid (d : Nat) (l : List Nd) (n : Nd) (A : List V) : List Nd :=
  l ++ { n with init := if n.kind = 2 ∧ A ≠ [] then (l.length : Int) + 1 else -1 } :: forest d l.length (l.length + 1) A
theorem mid_len {d : Nat} {l : List Nd} {n : Nd} {A : List V} : (mid d l n A).length = l.length + 1 + nszL d A := by unfold mid; rw [List.length_append, List.length_cons, forest_len]; omega
theorem mid_at {d : Nat} {l : List Nd} {n : Nd} {A : List V} : (mid d l n A)[l.length]? = some { n with init := if n.kind = 2 ∧ A ≠ [] then (l.length : Int) + 1 else -1 } := by
  unfold mid; rw [List.getElem?_append_right (Nat.le_refl _), Nat.sub_self]; rfl
theorem add_loop {d : Nat} (hH : HistOK G) (hKd : CKindOK G) (hA : ∀ d', d = d' + 1 → AddOK d' G) {Q : List V → Prop} {K : List V → Option R} {Ko : List V → Int → Option R} {l : List Nd} {n : Nd} {kids : List V}
    (hk : ∀ s ∈ kids, StateS 2 d s) (hh : ∀ s r, kids = s :: r → kindV s ≤ 2) (hsz : l.length + 1 + nszL d kids ≤ 1000) (hKo : W Q K (Ko ((mid d l n kids).map Nd.v) l.length)) :
    ∀ (B A : List V) (j : Nat), kids = A ++ B → B.length < j → W Q K (l60_0g G k Ko j ((mid d l n A).map Nd.v) l.length kids kids.length A.length n.kind n.parent n.last (-1) n.entry n.exit n.name)
  | B, A, 0, h1, h2 => by omega
  | [], A, j + 1, h1, h2 => by
    show W Q K (b60_0 G k (l60_0g G k Ko j) Ko ((mid d l n A).map Nd.v) l.length kids kids.length A.length n.kind n.parent n.last (-1) n.entry n.exit n.name)
    unfold b60_0
    rw [List.append_nil] at h1
    subst h1
    exact W_no (by omega) hKo
  | b :: B, A, j + 1, h1, h2 => by
    show W Q K (b60_0 G k (l60_0g G k Ko j) Ko ((mid d l n A).map Nd.v) l.length kids kids.length A.length n.kind n.parent n.last (-1) n.entry n.exit n.name)
    unfold b60_0
    have hb : StateS 2 d b := hk b (by rw [h1]; simp)
    have hbk := hb
    cases d with
    | zero => exact hb.elim
    | succ d =>
    have hA := hA d rfl
    unfold HistOK at hH; unfold CKindOK at hKd; unfold AddOK at hA
    simp only [List.length_cons] at h2
    have hlen : kids.length = A.length + (B.length + 1) := by rw [h1]; simp
    have hlt : (A.length : Int) < (kids.length : Int) := by omega
    have hAl := nszL_len (d := d) (l := kids)
    have hAl2 := nszL_len (d := d) (l := A)
    have hnsz : nszL (d + 1) kids = nszL (d + 1) A + (1 + nszL d (stKids b) + nszL (d + 1) B) := by rw [h1, nszL_app, nszL_cons]
    have hml := mid_len (d := d + 1) (l := l) (n := n) (A := A)
    obtain ⟨q1, q2, q3, q4, q5, q6⟩ := hbk.kids
    -- the last step of a round
    have fin : ∀ L : List Nd, L = mid (d + 1) l n (A ++ [b]) → W Q K (l60_0g G k Ko j (L.map Nd.v) l.length kids kids.length (IntKind.i64.wrap ((A.length : Int) + 1)) n.kind n.parent n.last (-1) n.entry n.exit n.name) := by
      intro L hL
      rw [wrap_id (n := (A.length : Int) + 1) (by omega), hL]
      have := add_loop hH hKd (fun d' e => by cases e; exact hA) hk hh hsz hKo B (A ++ [b]) j (by rw [h1]; simp) (by omega)
      simpa using this
    have fin2 : ∀ M : List Nd, M = l ++ { n with init := if n.kind = 2 ∧ A ++ [b] ≠ [] then (l.length : Int) + 1 else -1 } :: forest (d + 1) l.length (l.length + 1) A →
        M ++ addN d M.length ⟨ndKind b, l.length, 0, -1, -1, -1, stName b⟩ (stKids b) = mid (d + 1) l n (A ++ [b]) := by
      intro M hM
      have hMl : M.length = l.length + 1 + nszL (d + 1) A := by rw [hM, List.length_append, List.length_cons, forest_len]; omega
      unfold mid
      rw [forest_app, hM, List.append_assoc, List.cons_append]
      rw [hM] at hMl
      rw [hMl]
      congr 3
      unfold addN
      rw [forest]
      have e2 : forest (d + 1) (l.length : Int) (l.length + 1 + nszL (d + 1) A + 1 + nszL d (stKids b)) [] = [] := by rw [forest]
      rw [e2, List.append_nil]
      congr 2
      · by_cases hk2 : ndKind b = 2
        · rw [if_pos ⟨hk2, q5 (.inl hk2)⟩, if_pos hk2]
        · rw [if_neg (fun h => hk2 h.1), if_neg hk2]
    obtain ⟨kind, nm, en, ex, tr, kb, rfl, x1, x2, x3, x4, x5, x6, x7, x8, x9, x10, x11, x12, x13⟩ := hb
    have hnsz' : nszL (d + 1) kids = nszL (d + 1) A + (1 + nszL d kb + nszL (d + 1) B) := hnsz
    refine W_yes hlt (W_and (W_yes (by omega) (W_yes hlt ?_)))
    refine W_nth (by omega) (fun v hv _ => ?_)
    have hv2 : kids[A.length]? = some (.agg [.int .i64 kind, .str nm, .sl 8 en, .sl 8 ex, .sl 5 tr, .sl 7 kb, .int .i64 0]) := by rw [h1]; simp
    rw [Int.toNat_natCast, hv2, Option.some.injEq] at hv
    rw [← hv]
    (repeat (with_reducible (first | (refine W_uI ?_) | (refine W_uS ?_) | (refine W_uL ?_) | (refine W_uA ?_) | (refine W_uB ?_) | (refine W_aI ?_) | (refine W_aL ?_) | (refine W_ca3 ?_) | (refine W_ce3 ?_) | (refine W_ca4 ?_) | (refine W_ce4 ?_) | (refine W_ca5 ?_) | (refine W_ce5 ?_) | (refine W_ca6 ?_) | (refine W_ce6 ?_) | (refine W_ca7 ?_) | (refine W_ce7 ?_) | (refine W_ca8 ?_) | (refine W_ce8 ?_) | (refine W_nd7 ?_) | (refine W_unCons ?_) | (refine W_unNil ?_) | (refine W_asInt ?_) | (refine W_asBool ?_) | (refine W_asStr ?_) | (refine W_asSl ?_) | (refine W_asAgg ?_) | (refine W_kd ?_) | (refine W_z ?_))))
    refine W_call (hKd _ 2 (d + 1) _ hbk) ?_
    rintro _ rfl
    (repeat (with_reducible (first | (refine W_uI ?_) | (refine W_uS ?_) | (refine W_uL ?_) | (refine W_uA ?_) | (refine W_uB ?_) | (refine W_aI ?_) | (refine W_aL ?_) | (refine W_ca3 ?_) | (refine W_ce3 ?_) | (refine W_ca4 ?_) | (refine W_ce4 ?_) | (refine W_ca5 ?_) | (refine W_ce5 ?_) | (refine W_ca6 ?_) | (refine W_ce6 ?_) | (refine W_ca7 ?_) | (refine W_ce7 ?_) | (refine W_ca8 ?_) | (refine W_ce8 ?_) | (refine W_nd7 ?_) | (refine W_unCons ?_) | (refine W_unNil ?_) | (refine W_asInt ?_) | (refine W_asBool ?_) | (refine W_asStr ?_) | (refine W_asSl ?_) | (refine W_asAgg ?_) | (refine W_kd ?_) | (refine W_z ?_))))
    have call : ∀ M : List Nd, M = l ++ { n with init := if n.kind = 2 ∧ A ++ [V.agg [.int .i64 kind, .str nm, .sl 8 en, .sl 8 ex, .sl 5 tr, .sl 7 kb, .int .i64 0]] ≠ [] then (l.length : Int) + 1 else -1 } :: forest (d + 1) l.length (l.length + 1) A →
        W Q K (G 60 [.sl 7 (M.map Nd.v), .agg [.int .i64 (ndKind (.agg [.int .i64 kind, .str nm, .sl 8 en, .sl 8 ex, .sl 5 tr, .sl 7 kb, .int .i64 0])), .int .i64 l.length, .int .i64 0, .int .i64 (-1), .int .i64 (-1), .int .i64 (-1), .str nm], .sl 7 kb] fun o => uL 7 o fun x r => unNil r (l60_0g G k Ko j x l.length kids kids.length (IntKind.i64.wrap ((A.length : Int) + 1)) n.kind n.parent n.last (-1) n.entry n.exit n.name)) := by
      intro M hM
      have hMl : M.length = l.length + 1 + nszL (d + 1) A := by rw [hM, List.length_append, List.length_cons, forest_len]; omega
      refine W_call (hA M ⟨ndKind (.agg [.int .i64 kind, .str nm, .sl 8 en, .sl 8 ex, .sl 5 tr, .sl 7 kb, .int .i64 0]), l.length, 0, -1, -1, -1, nm⟩ kb _ q1 q2 rfl (by omega)) ?_
      rintro _ rfl
      (repeat (with_reducible (first | (refine W_uI ?_) | (refine W_uS ?_) | (refine W_uL ?_) | (refine W_uA ?_) | (refine W_uB ?_) | (refine W_aI ?_) | (refine W_aL ?_) | (refine W_ca3 ?_) | (refine W_ce3 ?_) | (refine W_ca4 ?_) | (refine W_ce4 ?_) | (refine W_ca5 ?_) | (refine W_ce5 ?_) | (refine W_ca6 ?_) | (refine W_ce6 ?_) | (refine W_ca7 ?_) | (refine W_ce7 ?_) | (refine W_ca8 ?_) | (refine W_ce8 ?_) | (refine W_nd7 ?_) | (refine W_unCons ?_) | (refine W_unNil ?_) | (refine W_asInt ?_) | (refine W_asBool ?_) | (refine W_asStr ?_) | (refine W_asSl ?_) | (refine W_asAgg ?_) | (refine W_kd ?_) | (refine W_z ?_))))
      exact fin _ (fin2 M hM)
    have same : n.kind ≠ 2 ∨ A ≠ [] → mid (d + 1) l n A = l ++ { n with init := if n.kind = 2 ∧ A ++ [V.agg [.int .i64 kind, .str nm, .sl 8 en, .sl 8 ex, .sl 5 tr, .sl 7 kb, .int .i64 0]] ≠ [] then (l.length : Int) + 1 else -1 } :: forest (d + 1) l.length (l.length + 1) A := by
      intro h
      unfold mid
      rcases h with h | h
      · rw [if_neg (fun c => h c.1), if_neg (fun c => h c.1)]
      · by_cases h2 : n.kind = 2
        · rw [if_pos ⟨h2, h⟩, if_pos ⟨h2, by simp⟩]
        · rw [if_neg (fun c => h2 c.1), if_neg (fun c => h2 c.1)]
    refine W_beqI (fun hk2 => ?_) (fun hk2 => call _ (same (.inl hk2)))
    simp only [List.length_map]
    refine W_and (W_yes (by omega) (W_yes (by omega) ?_))
    refine W_nthN (by omega) (fun n1 hn1 => ?_)
    rw [Int.toNat_natCast, mid_at, Option.some.injEq] at hn1
    subst hn1
    (repeat (with_reducible (first | (refine W_uI ?_) | (refine W_uS ?_) | (refine W_uL ?_) | (refine W_uA ?_) | (refine W_uB ?_) | (refine W_aI ?_) | (refine W_aL ?_) | (refine W_ca3 ?_) | (refine W_ce3 ?_) | (refine W_ca4 ?_) | (refine W_ce4 ?_) | (refine W_ca5 ?_) | (refine W_ce5 ?_) | (refine W_ca6 ?_) | (refine W_ce6 ?_) | (refine W_ca7 ?_) | (refine W_ce7 ?_) | (refine W_ca8 ?_) | (refine W_ce8 ?_) | (refine W_nd7 ?_) | (refine W_unCons ?_) | (refine W_unNil ?_) | (refine W_asInt ?_) | (refine W_asBool ?_) | (refine W_asStr ?_) | (refine W_asSl ?_) | (refine W_asAgg ?_) | (refine W_kd ?_) | (refine W_z ?_))))
    refine W_dec (fun hi => ?_) (fun hi => call _ (same (.inr fun h => hi (by subst h; simp))))
    have hA0 : A = [] := by
      rcases Classical.em (A = []) with h | h
      · exact h
      · exfalso
        have hi2 : (if n.kind = 2 ∧ A ≠ [] then (l.length : Int) + 1 else -1) < 0 := hi
        rw [if_pos ⟨hk2, h⟩] at hi2; omega
    subst hA0
    refine W_call (hH _ _) ?_
    rintro _ rfl
    (repeat (with_reducible (first | (refine W_uI ?_) | (refine W_uS ?_) | (refine W_uL ?_) | (refine W_uA ?_) | (refine W_uB ?_) | (refine W_aI ?_) | (refine W_aL ?_) | (refine W_ca3 ?_) | (refine W_ce3 ?_) | (refine W_ca4 ?_) | (refine W_ce4 ?_) | (refine W_ca5 ?_) | (refine W_ce5 ?_) | (refine W_ca6 ?_) | (refine W_ce6 ?_) | (refine W_ca7 ?_) | (refine W_ce7 ?_) | (refine W_ca8 ?_) | (refine W_ce8 ?_) | (refine W_nd7 ?_) | (refine W_unCons ?_) | (refine W_unNil ?_) | (refine W_asInt ?_) | (refine W_asBool ?_) | (refine W_asStr ?_) | (refine W_asSl ?_) | (refine W_asAgg ?_) | (refine W_kd ?_) | (refine W_z ?_))))
    have hle := ndKind_le hbk (hh _ B (by rw [h1]; rfl))
    rw [decide_eq_false (show ¬ (ndKind (.agg [.int .i64 kind, .str nm, .sl 8 en, .sl 8 ex, .sl 5 tr, .sl 7 kb, .int .i64 0]) = 4 ∨ ndKind (.agg [.int .i64 kind, .str nm, .sl 8 en, .sl 8 ex, .sl 5 tr, .sl 7 kb, .int .i64 0]) = 5) by omega)]
    refine W_and (W_yes (by omega) (W_yes (by omega) ?_))
    refine W_nthN (by omega) (fun n1 hn1 => ?_)
    rw [Int.toNat_natCast, mid_at, Option.some.injEq] at hn1
    subst hn1
    (repeat (with_reducible (first | (refine W_uI ?_) | (refine W_uS ?_) | (refine W_uL ?_) | (refine W_uA ?_) | (refine W_uB ?_) | (refine W_aI ?_) | (refine W_aL ?_) | (refine W_ca3 ?_) | (refine W_ce3 ?_) | (refine W_ca4 ?_) | (refine W_ce4 ?_) | (refine W_ca5 ?_) | (refine W_ce5 ?_) | (refine W_ca6 ?_) | (refine W_ce6 ?_) | (refine W_ca7 ?_) | (refine W_ce7 ?_) | (refine W_ca8 ?_) | (refine W_ce8 ?_) | (refine W_nd7 ?_) | (refine W_unCons ?_) | (refine W_unNil ?_) | (refine W_asInt ?_) | (refine W_asBool ?_) | (refine W_asStr ?_) | (refine W_asSl ?_) | (refine W_asAgg ?_) | (refine W_kd ?_) | (refine W_z ?_))))
    have hml0 : (mid (d + 1) l n []).length = l.length + 1 := by rw [mid_len]; simp [nszL]
    have e5 : List.set (List.map Nd.v (mid (d + 1) l n [])) (Int.toNat (l.length : Int)) (.agg [.int .i64 n.kind, .int .i64 n.parent, .int .i64 n.last, .int .i64 ((mid (d + 1) l n []).length : Nat), .int .i64 n.entry, .int .i64 n.exit, .str n.name]) = (l ++ { n with init := (l.length : Int) + 1 } :: forest (d + 1) l.length (l.length + 1) []).map Nd.v := by
      have := set_map (l := mid (d + 1) l n []) (i := l.length) (n := { n with init := (l.length : Int) + 1 })
      rw [Int.toNat_natCast, hml0]
      refine Eq.trans ?_ (this.trans ?_)
      · rfl
      · unfold mid; simp
    rw [e5]
    exact call _ (by rw [if_pos ⟨hk2, by simp⟩])
theorem add_ok {d : Nat} (hk : 10000 ≤ k) (hH : HistOK G) (hKd : CKindOK G) (hA : ∀ d', d = d' + 1 → AddOK d' G) : AddOK d (fun _ args (K : List V → Option R) => g60 G k args K) := by
  intro l n kids K h1 h2 h3 h4
  show W _ K (f60 G k (l.map Nd.v) n.kind n.parent n.last n.init n.entry n.exit n.name kids K)
  unfold f60
  simp only [List.length_map, h3]
  refine W_yes (by omega) ?_
  have e0 : List.map Nd.v l ++ [V.agg [.int .i64 n.kind, .int .i64 n.parent, .int .i64 n.last, .int .i64 (-1), .int .i64 n.entry, .int .i64 n.exit, .str n.name]] = (mid d l n []).map Nd.v := by
    unfold mid
    have : forest d (l.length : Int) (l.length + 1) [] = [] := by cases d <;> rw [forest]
    rw [this]; simp [Nd.v]
  rw [e0]
  unfold l60_0
  have hl2 : kids.length ≤ nszL d kids := by
    cases d with
    | zero => cases kids with
              | nil => simp
              | cons a r => exact (h1 a List.mem_cons_self).elim
    | succ d => exact nszL_len
  have := add_loop (Q := fun o => o = [.sl 7 ((l ++ addN d l.length n kids).map Nd.v)]) (K := K) (k := k) hH hKd hA (n := n) (l := l) h1 h2 h4 (Ko := fun yl85 yi86 => (bif ((decide (0 ≤ yi86)) && (decide (yi86 < ((List.length yl85 : Nat) : Int)))) then (nthK yl85 (Int.toNat yi86) fun e87 => (ca7 e87 fun c88 c89 c90 c91 c92 c93 c94 => (K [(.sl 7 (List.set yl85 (Int.toNat yi86) (.agg [c88, c89, (.int .i64 (IntKind.i64.wrap (((List.length yl85 : Nat) : Int) - 1))), c91, c92, c93, c94])))]))) else none)) ?_ kids [] k rfl (by omega)
  · exact this
  · have hm := mid_len (d := d) (l := l) (n := n) (A := kids)
    simp only [List.length_map]
    refine W_and (W_yes (by omega) (W_yes (by omega) ?_))
    refine W_nthN (by omega) (fun n1 hn1 => ?_)
    rw [Int.toNat_natCast, mid_at, Option.some.injEq] at hn1
    subst hn1
    (repeat (with_reducible (first | (refine W_uI ?_) | (refine W_uS ?_) | (refine W_uL ?_) | (refine W_uA ?_) | (refine W_uB ?_) | (refine W_aI ?_) | (refine W_aL ?_) | (refine W_ca3 ?_) | (refine W_ce3 ?_) | (refine W_ca4 ?_) | (refine W_ce4 ?_) | (refine W_ca5 ?_) | (refine W_ce5 ?_) | (refine W_ca6 ?_) | (refine W_ce6 ?_) | (refine W_ca7 ?_) | (refine W_ce7 ?_) | (refine W_ca8 ?_) | (refine W_ce8 ?_) | (refine W_nd7 ?_) | (refine W_unCons ?_) | (refine W_unNil ?_) | (refine W_asInt ?_) | (refine W_asBool ?_) | (refine W_asStr ?_) | (refine W_asSl ?_) | (refine W_asAgg ?_) | (refine W_kd ?_) | (refine W_z ?_))))
    refine W_ret ?_
    rw [wrap_id (n := ((mid d l n kids).length : Int) - 1) (by omega), Int.toNat_natCast]
    have := set_map (l := mid d l n kids) (i := l.length) (n := { n with last := ((mid d l n kids).length : Int) - 1, init := if n.kind = 2 ∧ kids ≠ [] then (l.length : Int) + 1 else -1 })
    refine congrArg (fun x => [V.sl 7 x]) (Eq.trans ?_ (this.trans ?_))
    · rfl
    · rw [hm]; unfold mid addN; simp; rw [show (l.length : Int) + 1 + (nszL d kids : Int) - 1 = l.length + (nszL d kids : Int) by omega]
def CNodesOK (G : ORC R) : Prop := ∀ (nm : ByteArray) (x y : Int) (a b c states : List V) (z : Int) (K : List V → Option R), (∀ s ∈ states, StateS 2 3 s ∧ kindV s ≤ 2) → nszL 3 states ≤ 900 →
  W (fun o => o = [.sl 7 ((ndsOf states).map Nd.v)]) K (G 17 [.agg [.str nm, .int .i64 x, .int .i64 y, .sl 3 a, .sl 3 b, .sl 3 c, .sl 7 states, .int .i64 z]] K)
theorem cnodes_ok (hA : AddOK 3 G) : CNodesOK (fun _ args (K : List V → Option R) => g17 G k args K) := by
  intro nm x y a b c states z K h1 h2
  show W _ K (f17 G k nm x y a b c states z K)
  unfold f17
  refine W_call (hA [] ⟨2, -1, 0, -1, -1, -1, ⟨#[]⟩⟩ states _ (fun s hs => (h1 s hs).1) (fun s r e => (h1 s (by rw [e]; simp)).2) rfl (by simp; omega)) ?_
  rintro _ rfl
  (repeat (with_reducible (first | (refine W_uI ?_) | (refine W_uS ?_) | (refine W_uL ?_) | (refine W_uA ?_) | (refine W_uB ?_) | (refine W_aI ?_) | (refine W_aL ?_) | (refine W_ca3 ?_) | (refine W_ce3 ?_) | (refine W_ca4 ?_) | (refine W_ce4 ?_) | (refine W_ca5 ?_) | (refine W_ce5 ?_) | (refine W_ca6 ?_) | (refine W_ce6 ?_) | (refine W_ca7 ?_) | (refine W_ce7 ?_) | (refine W_ca8 ?_) | (refine W_ce8 ?_) | (refine W_nd7 ?_) | (refine W_unCons ?_) | (refine W_unNil ?_) | (refine W_asInt ?_) | (refine W_asBool ?_) | (refine W_asStr ?_) | (refine W_asSl ?_) | (refine W_asAgg ?_) | (refine W_kd ?_) | (refine W_z ?_))))
  refine W_ret ?_
  unfold addN ndsOf
  by_cases hs : states = []
  · subst hs; simp
  · simp [hs]
def KidsOK (f : FuncId) (G : ORC R) : Prop := ∀ (l : List Nd) (i : Int) (K : List V → Option R), l.length ≤ 1000 → W (fun o => o = [.sl 1 (ivs (kidsN l i))]) K (G f [.sl 7 (l.map Nd.v), .int .i64 i] K)
theorem ckids_loop (hI : CIsOK G) {Q : List V → Prop} {K : List V → Option R} {Ko : List V → Option R} {l : List Nd} {i : Int} (hl : l.length ≤ 1000) (hKo : W Q K (Ko (ivs (kidsN l i)))) :
    ∀ (j m : Nat), l.length - m < j → m ≤ l.length → W Q K (l23_0g G k Ko j (l.map Nd.v) i (ivs (kidsGo l i m)) (l.map Nd.v) l.length m)
  | 0, m, h1, h2 => by omega
  | j + 1, m, h1, h2 => by
    show W Q K (b23_0 G k (l23_0g G k Ko j) Ko (l.map Nd.v) i (ivs (kidsGo l i m)) (l.map Nd.v) l.length m)
    unfold b23_0
    have hgl := kidsGo_len (l := l) (i := i) (m := m)
    have hKo' : ¬ (m : Int) < l.length → W Q K (Ko (ivs (kidsGo l i m))) := fun h => by
      rw [show m = l.length by omega]; exact hKo
    refine W_dec (fun h => ?_) hKo'
    simp only [List.length_map]
    refine W_and (W_yes (by omega) (W_yes (by omega) ?_))
    refine W_nthN (by omega) (fun n hn => ?_)
    rw [Int.toNat_natCast] at hn
    unfold Nd.v
    (repeat (with_reducible (first | (refine W_uI ?_) | (refine W_uS ?_) | (refine W_uL ?_) | (refine W_uA ?_) | (refine W_uB ?_) | (refine W_aI ?_) | (refine W_aL ?_) | (refine W_ca3 ?_) | (refine W_ce3 ?_) | (refine W_ca4 ?_) | (refine W_ce4 ?_) | (refine W_ca5 ?_) | (refine W_ce5 ?_) | (refine W_ca6 ?_) | (refine W_ce6 ?_) | (refine W_ca7 ?_) | (refine W_ce7 ?_) | (refine W_ca8 ?_) | (refine W_ce8 ?_) | (refine W_nd7 ?_) | (refine W_unCons ?_) | (refine W_unNil ?_) | (refine W_asInt ?_) | (refine W_asBool ?_) | (refine W_asStr ?_) | (refine W_asSl ?_) | (refine W_asAgg ?_) | (refine W_kd ?_) | (refine W_z ?_))))
    unfold CIsOK at hI
    refine W_call (hI _ _ _) ?_
    rintro _ rfl
    (repeat (with_reducible (first | (refine W_uI ?_) | (refine W_uS ?_) | (refine W_uL ?_) | (refine W_uA ?_) | (refine W_uB ?_) | (refine W_aI ?_) | (refine W_aL ?_) | (refine W_ca3 ?_) | (refine W_ce3 ?_) | (refine W_ca4 ?_) | (refine W_ce4 ?_) | (refine W_ca5 ?_) | (refine W_ce5 ?_) | (refine W_ca6 ?_) | (refine W_ce6 ?_) | (refine W_ca7 ?_) | (refine W_ce7 ?_) | (refine W_ca8 ?_) | (refine W_ce8 ?_) | (refine W_nd7 ?_) | (refine W_unCons ?_) | (refine W_unNil ?_) | (refine W_asInt ?_) | (refine W_asBool ?_) | (refine W_asStr ?_) | (refine W_asSl ?_) | (refine W_asAgg ?_) | (refine W_kd ?_) | (refine W_z ?_))))
    simp only [List.length_map]
    have next : ∀ a, a = ivs (kidsGo l i (m + 1)) → W Q K (l23_0g G k Ko j (l.map Nd.v) i a (l.map Nd.v) l.length (IntKind.i64.wrap ((m : Int) + 1))) := fun a ha => by
      rw [wrap_id (n := (m : Int) + 1) (by omega), ha]
      exact ckids_loop hI hl hKo j (m + 1) (by omega) (by omega)
    have hk : isK l i m = (decide (0 ≤ i ∧ i < l.length) && decide (n.parent = i)) := by unfold isK; rw [hn]
    refine W_dec (fun hi => ?_) (fun hi => next _ (by rw [kidsGo, hk, decide_eq_false hi]; simp))
    refine W_beqI (fun hp => ?_) (fun hp => next _ (by rw [kidsGo, hk, decide_eq_false hp]; simp))
    refine W_yes (by rw [ivs_len]; omega) (next _ (by rw [kidsGo, hk, decide_eq_true hi, decide_eq_true hp]; simp [ivs]))
theorem ckids_ok (hk : 10000 ≤ k) (hI : CIsOK G) : KidsOK 23 (fun _ args (K : List V → Option R) => g23 G k args K) := by
  intro l i K hl
  show W _ K (f23 G k (l.map Nd.v) i K)
  unfold f23 l23_0
  simp only [List.length_map]
  exact ckids_loop (Q := fun o => o = [.sl 1 (ivs (kidsN l i))]) (K := K) (Ko := fun x => K [.sl 1 x]) hI hl (W_ret rfl) k 0 (by omega) (by omega)
theorem rkids_loop (hI : IsOK G) {Q : List V → Prop} {K : List V → Option R} {Ko : List V → Option R} {l : List Nd} {i : Int} (hl : l.length ≤ 1000) (hKo : W Q K (Ko (ivs (kidsN l i)))) :
    ∀ (j m : Nat), l.length - m < j → m ≤ l.length → W Q K (l24_0g G k Ko j (l.map Nd.v) i (ivs (kidsGo l i m)) m)
  | 0, m, h1, h2 => by omega
  | j + 1, m, h1, h2 => by
    show W Q K (b24_0 G k (l24_0g G k Ko j) Ko (l.map Nd.v) i (ivs (kidsGo l i m)) m)
    unfold b24_0
    have hgl := kidsGo_len (l := l) (i := i) (m := m)
    simp only [List.length_map]
    refine W_dec (fun h => ?_) (fun h => by rw [show m = l.length by omega]; exact hKo)
    unfold IsOK at hI
    refine W_call (hI _ _ _) ?_
    rintro _ rfl
    (repeat (with_reducible (first | (refine W_uI ?_) | (refine W_uS ?_) | (refine W_uL ?_) | (refine W_uA ?_) | (refine W_uB ?_) | (refine W_aI ?_) | (refine W_aL ?_) | (refine W_ca3 ?_) | (refine W_ce3 ?_) | (refine W_ca4 ?_) | (refine W_ce4 ?_) | (refine W_ca5 ?_) | (refine W_ce5 ?_) | (refine W_ca6 ?_) | (refine W_ce6 ?_) | (refine W_ca7 ?_) | (refine W_ce7 ?_) | (refine W_ca8 ?_) | (refine W_ce8 ?_) | (refine W_nd7 ?_) | (refine W_unCons ?_) | (refine W_unNil ?_) | (refine W_asInt ?_) | (refine W_asBool ?_) | (refine W_asStr ?_) | (refine W_asSl ?_) | (refine W_asAgg ?_) | (refine W_kd ?_) | (refine W_z ?_))))
    simp only [List.length_map]
    refine W_dec (fun hi => ?_) (fun hi => ?_)
    · refine W_and (W_yes (by omega) (W_yes (by omega) ?_))
      refine W_nthN (by omega) (fun n hn => ?_)
      rw [Int.toNat_natCast] at hn
      (repeat (with_reducible (first | (refine W_uI ?_) | (refine W_uS ?_) | (refine W_uL ?_) | (refine W_uA ?_) | (refine W_uB ?_) | (refine W_aI ?_) | (refine W_aL ?_) | (refine W_ca3 ?_) | (refine W_ce3 ?_) | (refine W_ca4 ?_) | (refine W_ce4 ?_) | (refine W_ca5 ?_) | (refine W_ce5 ?_) | (refine W_ca6 ?_) | (refine W_ce6 ?_) | (refine W_ca7 ?_) | (refine W_ce7 ?_) | (refine W_ca8 ?_) | (refine W_ce8 ?_) | (refine W_nd7 ?_) | (refine W_unCons ?_) | (refine W_unNil ?_) | (refine W_asInt ?_) | (refine W_asBool ?_) | (refine W_asStr ?_) | (refine W_asSl ?_) | (refine W_asAgg ?_) | (refine W_kd ?_) | (refine W_z ?_))))
      have next : ∀ a, a = ivs (kidsGo l i (m + 1)) → W Q K (l24_0g G k Ko j (l.map Nd.v) i a (IntKind.i64.wrap ((m : Int) + 1))) := fun a ha => by
        rw [wrap_id (n := (m : Int) + 1) (by omega), ha]
        exact rkids_loop hI hl hKo j (m + 1) (by omega) (by omega)
      have hk : isK l i m = (decide (0 ≤ i ∧ i < l.length) && decide (n.parent = i)) := by unfold isK; rw [hn]
      refine W_beqI (fun hp => ?_) (fun hp => next _ (by rw [kidsGo, hk, decide_eq_false hp]; simp))
      refine W_yes (by rw [ivs_len]; omega) (next _ (by rw [kidsGo, hk, decide_eq_true hi, decide_eq_true hp]; simp [ivs]))
    · have e0 : ∀ m, kidsGo l i m = [] := by
        intro m
        induction m with
        | zero => rfl
        | succ m ih => unfold kidsGo; rw [ih]; unfold isK; rw [decide_eq_false hi]; simp
      have : kidsN l i = kidsGo l i m := by unfold kidsN; rw [e0, e0]
      rw [← this]; exact hKo
theorem rkids_ok (hk : 10000 ≤ k) (hI : IsOK G) : KidsOK 24 (fun _ args (K : List V → Option R) => g24 G k args K) := by
  intro l i K hl
  show W _ K (f24 G k (l.map Nd.v) i K)
  unfold f24 l24_0
  exact rkids_loop (Q := fun o => o = [.sl 1 (ivs (kidsN l i))]) (K := K) (Ko := fun x => K [.sl 1 x]) hI hl (W_ret rfl) k 0 (by omega) (by omega)
def SameOK (G : ORC R) : Prop := ∀ (a b : List Int) (K : List V → Option R), a.length ≤ 9000 → W (fun o => o = [.bool (decide (a = b))]) K (G 22 [.sl 1 (ivs a), .sl 1 (ivs b)] K)
theorem ivs_get {l : List Int} {i : Nat} {n : Int} (h : l[i]? = some n) : (ivs l)[i]? = some (.int .i64 n) := by unfold ivs; rw [List.getElem?_map, h]; rfl
theorem same_loop {Q : List V → Prop} {K : List V → Option R} {Ko : Unit → Option R} {Kr : Bool → Option R} {a b : List Int} (hl : a.length = b.length) (h9 : a.length ≤ 9000) (hKo : a = b → W Q K (Ko ())) (hKr : a ≠ b → W Q K (Kr false)) :
    ∀ (j m : Nat), a.length - m < j → m ≤ a.length → (∀ i, i < m → a[i]? = b[i]?) → W Q K (l22_0g G k Ko Kr j (ivs a) (ivs b) m)
  | 0, m, h1, h2, h3 => by omega
  | j + 1, m, h1, h2, h3 => by
    show W Q K (b22_0 G k (l22_0g G k Ko Kr j) Ko Kr (ivs a) (ivs b) m)
    unfold b22_0
    simp only [ivs_len]
    refine W_dec (fun h => ?_) (fun h => hKo (List.ext_getElem? fun i => ?_))
    · obtain ⟨x, hx⟩ : ∃ x, a[m]? = some x := ⟨_, List.getElem?_eq_getElem (by omega)⟩
      obtain ⟨y, hy⟩ : ∃ y, b[m]? = some y := ⟨_, List.getElem?_eq_getElem (by omega)⟩
      refine W_and (W_yes (by omega) (W_yes (by omega) (W_nth (by rw [ivs_len]; omega) (fun v hv _ => ?_))))
      rw [Int.toNat_natCast, ivs_get hx, Option.some.injEq] at hv; rw [← hv]
      refine W_aI (W_and (W_yes (by omega) (W_yes (by omega) (W_nth (by rw [ivs_len]; omega) (fun v hv _ => ?_)))))
      rw [Int.toNat_natCast, ivs_get hy, Option.some.injEq] at hv; rw [← hv]
      refine W_aI ?_
      by_cases e : x = y
      · subst e
        refine W_chk' (by simp) ?_
        rw [wrap_id (n := (m : Int) + 1) (by omega)]
        refine same_loop hl h9 hKo hKr j (m + 1) (by omega) (by omega) (fun i hi => ?_)
        by_cases hm : i = m
        · rw [hm, hx, hy]
        · exact h3 i (by omega)
      · refine W_chk (by simp [e]) (hKr fun he => ?_)
        rw [he, hy] at hx; injection hx with hx; exact e hx.symm
    · by_cases hi : i < m
      · exact h3 i hi
      · rw [List.getElem?_eq_none (by omega), List.getElem?_eq_none (by omega)]
theorem same_ok (hk : 10000 ≤ k) : SameOK (fun _ args (K : List V → Option R) => g22 G k args K) := by
  intro a b K h9
  show W _ K (f22 G k (ivs a) (ivs b) K)
  unfold f22
  simp only [ivs_len]
  by_cases hl : a.length = b.length
  · refine W_chk' (by simp [hl]) ?_
    unfold l22_0
    exact same_loop (Q := fun o => o = [.bool (decide (a = b))]) (K := K) (Ko := fun _ => K [.bool true]) (Kr := fun x => K [.bool x]) hl h9 (fun e => W_ret (by rw [decide_eq_true e])) (fun e => W_ret (by rw [decide_eq_false e])) k 0 (by omega) (by omega) (fun i hi => by omega)
  · refine W_chk (by simp; omega) (W_ret ?_)
    rw [decide_eq_false (fun h => hl (by rw [h]))]
end
end Go.Proofs.Ytblabbcmokldiaa.Vm
open Go Go.VM
set_option linter.unusedVariables false
set_option linter.unusedSimpArgs false
set_option maxRecDepth 100000
set_option maxHeartbeats 8000000
namespace Go.Proofs.Ytblabbcmokldiaa.Vm
section
variable {R : Type} {G : ORC R} {k : Nat} {K : List V → Option R}
/-- The same chart, whatever comes behind it. -/
def MadeU (G : ORC R) : Prop := ∀ (v : List V), IntsS v → v.length ≤ 200 → ∃ c, ChartS c ∧ ∀ K : List V → Option R, G 15 [.sl 1 v] K = K [c]
def MadeOK (G : ORC R) : Prop := ∀ (v : List V) (K : List V → Option R), IntsS v → v.length ≤ 200 → W (fun o => ∃ c, o = [c] ∧ ChartS c) K (G 15 [.sl 1 v] K)
theorem made_ok (hC : ChartOK G) : MadeOK (fun _ args (K : List V → Option R) => g15 G k args K) := by
  intro v K h1 h2
  show W _ K (f15 G k v K)
  unfold f15
  unfold ChartOK at hC
  refine W_call (hC _ _ v 0 _ (by unfold StrS; decide) (by omega) (by omega) ⟨h1, by omega, by omega, by omega⟩) ?_
  rintro _ ⟨c, j, rfl, hc, hj⟩
  have hc' := hc
  obtain ⟨nm, st, fu, vars, ports, timers, states, rfl, _⟩ := hc
  (repeat (with_reducible (first | (refine W_uI ?_) | (refine W_uS ?_) | (refine W_uL ?_) | (refine W_uA ?_) | (refine W_uB ?_) | (refine W_aI ?_) | (refine W_aL ?_) | (refine W_ca3 ?_) | (refine W_ce3 ?_) | (refine W_ca4 ?_) | (refine W_ce4 ?_) | (refine W_ca5 ?_) | (refine W_ce5 ?_) | (refine W_ca6 ?_) | (refine W_ce6 ?_) | (refine W_ca7 ?_) | (refine W_ce7 ?_) | (refine W_ca8 ?_) | (refine W_ce8 ?_) | (refine W_nd7 ?_) | (refine W_unCons ?_) | (refine W_unNil ?_) | (refine W_asInt ?_) | (refine W_asBool ?_) | (refine W_asStr ?_) | (refine W_asSl ?_) | (refine W_asAgg ?_) | (refine W_kd ?_) | (refine W_z ?_))))
  exact W_ret ⟨_, rfl, hc'⟩
/-- The example holds. -/
def KnOK (G : ORC R) : Prop := ∀ K : List V → Option R, G 13 [] K = K [.bool true]
theorem kn_go (hKn : KnOK G) : W (fun o => o = [.bool true]) K (G 13 [] fun o => uB o fun b r => unNil r (K [.bool b])) := by
  rw [hKn]; exact W_uB (W_unNil (W_ret rfl))
end
end Go.Proofs.Ytblabbcmokldiaa.Vm
open Go Go.VM
set_option linter.unusedVariables false
set_option linter.unusedSimpArgs false
set_option maxRecDepth 100000
set_option maxHeartbeats 8000000
namespace Go.Proofs.Ytblabbcmokldiaa.Vm
theorem evHist : Ev HistOK := ev0 fun j => by have e := hist_ok (G := gg 10000 j) (k := 10000); unfold HistOK at e ⊢; (intros; refine gg_W ?_; apply e <;> assumption)
theorem evCIs : Ev CIsOK := ev0 fun j => by have e := cis_ok (G := gg 10000 j) (k := 10000); unfold CIsOK at e ⊢; (intros; refine gg_W ?_; apply e <;> assumption)
theorem evCKids : Ev (KidsOK 23) := evS evCIs fun j h => by have e := ckids_ok (G := gg 10000 j) (k := 10000) (by omega) h; unfold KidsOK at e ⊢; (intros; refine gg_W ?_; apply e <;> assumption)
theorem evRKids : Ev (KidsOK 24) := evS evIs fun j h => by have e := rkids_ok (G := gg 10000 j) (k := 10000) (by omega) h; unfold KidsOK at e ⊢; (intros; refine gg_W ?_; apply e <;> assumption)
theorem evSame : Ev SameOK := ev0 fun j => by have e := same_ok (G := gg 10000 j) (k := 10000) (by omega); unfold SameOK at e ⊢; (intros; refine gg_W ?_; apply e <;> assumption)
theorem evMade : Ev MadeOK := evS evChart fun j h => by have e := made_ok (G := gg 10000 j) (k := 10000) h; unfold MadeOK at e ⊢; (intros; refine gg_W ?_; apply e <;> assumption)
theorem evKn : Ev KnOK := by
  refine ⟨10, fun j hj => ?_⟩
  obtain ⟨j', rfl⟩ : ∃ j', j = j' + 10 := ⟨j - 10, by omega⟩
  intro K
  show _ = _
  kernel_rfl
end Go.Proofs.Ytblabbcmokldiaa.Vm
set_option linter.unusedVariables false
namespace Go.VM
def hasL (l : List Int) (i : Int) : Bool := decide (i ∈ l)
def notL (a b : List Int) : List Int := a.filter fun x => !hasL b x
def andL (a b : List Int) : List Int := notL a (notL a b)
theorem hasL_iff {l : List Int} {i : Int} : hasL l i = true ↔ i ∈ l := by simp [hasL]
theorem hasL_congr {s t : List Int} (h : ∀ x, x ∈ s ↔ x ∈ t) (i : Int) : hasL s i = hasL t i := by
  have := h i
  unfold hasL
  by_cases hs : i ∈ s
  · rw [decide_eq_true hs, decide_eq_true (this.1 hs)]
  · rw [decide_eq_false hs, decide_eq_false (fun h => hs (this.2 h))]
theorem andL_eq {a b : List Int} : andL a b = a.filter (hasL b) := by
  unfold andL notL
  apply List.filter_congr
  intro x hx
  simp [hasL, hx]
/-! The rising row of the numbers below m that stand in a row. -/
def ofGo (l : List Int) : Nat → List Int
  | 0 => []
  | m + 1 => ofGo l m ++ if hasL l m then [(m : Int)] else []
def ofL (l : List Int) : List Int := ofGo l 128
theorem ofGo_len {l : List Int} : ∀ {m : Nat}, (ofGo l m).length ≤ m
  | 0 => Nat.le_refl 0
  | m + 1 => by have := ofGo_len (l := l) (m := m); unfold ofGo; split <;> simp <;> omega
theorem mem_ofGo {l : List Int} {x : Int} : ∀ {m : Nat}, x ∈ ofGo l m ↔ 0 ≤ x ∧ x < m ∧ x ∈ l
  | 0 => by simp [ofGo]; omega
  | m + 1 => by
    unfold ofGo
    rw [List.mem_append, mem_ofGo (m := m)]
    by_cases hm : (m : Int) ∈ l
    · rw [if_pos (hasL_iff.2 hm), List.mem_singleton]
      constructor
      · rintro (⟨h1, h2, h3⟩ | h)
        · exact ⟨h1, by omega, h3⟩
        · exact ⟨by omega, by omega, h ▸ hm⟩
      · rintro ⟨h1, h2, h3⟩
        by_cases e : x = m
        · exact .inr e
        · exact .inl ⟨h1, by omega, h3⟩
    · rw [if_neg (fun h => hm (hasL_iff.1 h))]
      constructor
      · rintro (⟨h1, h2, h3⟩ | h)
        · exact ⟨h1, by omega, h3⟩
        · simp at h
      · rintro ⟨h1, h2, h3⟩
        by_cases e : x = m
        · exact absurd (e ▸ h3) hm
        · exact .inl ⟨h1, by omega, h3⟩
theorem ofGo_congr {s t : List Int} (h : ∀ x, x ∈ s ↔ x ∈ t) : ∀ {m : Nat}, ofGo s m = ofGo t m
  | 0 => rfl
  | m + 1 => by unfold ofGo; rw [ofGo_congr h (m := m), hasL_congr h]
theorem ofGo_more {l : List Int} {m : Nat} (h : ∀ x ∈ l, x < m) : ∀ {d : Nat}, ofGo l (m + d) = ofGo l m
  | 0 => rfl
  | d + 1 => by
    rw [show m + (d + 1) = (m + d) + 1 by omega, ofGo, ofGo_more h (d := d), if_neg, List.append_nil]
    intro hh
    have := h _ (hasL_iff.1 hh)
    omega
/-! Rows of truths. -/
def actV (n : Nat) (s : List Int) : List V := (List.range n).map fun j : Nat => .bool (hasL s j)
theorem actV_len {n : Nat} {s : List Int} : (actV n s).length = n := by simp [actV]
theorem actV_get {n : Nat} {s : List Int} {j : Nat} (h : j < n) : (actV n s)[j]? = some (.bool (hasL s j)) := by unfold actV; simp [h]
theorem actV_nil {n : Nat} : List.replicate n (V.bool false) = actV n [] := by
  apply List.ext_getElem?
  intro i
  by_cases h : i < n
  · rw [actV_get h]; simp [h, hasL]
  · rw [List.getElem?_eq_none (by simp; omega), List.getElem?_eq_none (by rw [actV_len]; omega)]
theorem actV_congr {n : Nat} {s t : List Int} (h : ∀ x, x ∈ s ↔ x ∈ t) : actV n s = actV n t := by
  unfold actV
  apply List.map_congr_left
  intro j _
  rw [hasL_congr h]
theorem actV_set {n : Nat} {s : List Int} {i : Int} (h0 : 0 ≤ i) (hi : i < n) : (actV n s).set i.toNat (.bool true) = actV n (s ++ [i]) := by
  apply List.ext_getElem?
  intro j
  rw [List.getElem?_set, actV_len]
  by_cases hj : i.toNat = j
  · subst hj
    rw [if_pos rfl, if_pos (by omega), actV_get (by omega)]
    congr 2
    symm; rw [hasL_iff]; simp; omega
  · rw [if_neg hj]
    by_cases h : j < n
    · rw [actV_get h, actV_get h]
      congr 2
      unfold hasL
      have : (j : Int) ∈ s ↔ (j : Int) ∈ s ++ [i] := by simp; omega
      by_cases hs : (j : Int) ∈ s
      · rw [decide_eq_true hs, decide_eq_true (this.1 hs)]
      · rw [decide_eq_false hs, decide_eq_false (fun h => hs (this.2 h))]
    · rw [List.getElem?_eq_none (by rw [actV_len]; omega), List.getElem?_eq_none (by rw [actV_len]; omega)]
/-! Configurations. -/
def isSt (ns : List Nd) (k : Int) : Bool := match ns[k.toNat]? with | some n => decide (n.kind ≤ 3) | none => false
def statesN (ns : List Nd) (i : Int) : List Int := (kidsN ns i).filter (isSt ns)
def StepA (ns : List Nd) (conf : List Int) (i : Nat) (c : Int) : Prop :=
  (0 ≤ c ∧ c < ns.length) ∧ (∀ p, 0 < i → conf[i - 1]? = some p → p < c) ∧ ∀ n, ns[c.toNat]? = some n → n.kind ≤ 3 ∧ (0 < c → n.parent ∈ conf)
def StepB (ns : List Nd) (conf : List Int) (c : Int) : Prop :=
  ∀ n, ns[c.toNat]? = some n → (n.kind = 2 → (andL (statesN ns c) conf).length = 1) ∧ (n.kind = 3 → (andL (statesN ns c) conf).length = (statesN ns c).length)
def LegalP (ns : List Nd) (conf : List Int) : Prop := (0 : Int) ∈ conf ∧ ∀ (i : Nat) c, conf[i]? = some c → StepA ns conf i c ∧ StepB ns conf c
theorem asc_le {ns : List Nd} {conf : List Int} (h : ∀ (i : Nat) c, conf[i]? = some c → StepA ns conf i c) {i : Nat} {a : Int} (ha : conf[i]? = some a) : ∀ {d : Nat} {b : Int}, conf[i + d]? = some b → a + d ≤ b
  | 0, b, hb => by
    have e : conf[i]? = some b := hb
    rw [ha] at e; injection e with e; omega
  | d + 1, b, hb => by
    have hlt := (List.getElem?_eq_some_iff.1 hb).1
    obtain ⟨m, hm⟩ : ∃ m, conf[i + d]? = some m := ⟨_, List.getElem?_eq_getElem (by omega)⟩
    have h1 := asc_le h ha (d := d) hm
    have h2 := (h _ _ hb).2.1 m (by omega) (by rw [show i + (d + 1) - 1 = i + d by omega]; exact hm)
    omega
theorem asc_take {ns : List Nd} {conf : List Int} (h : ∀ (i : Nat) c, conf[i]? = some c → StepA ns conf i c) {m : Nat} {c x : Int} (hc : conf[m]? = some c) (hx : x ∈ conf) (hlt : x < c) : x ∈ conf.take m := by
  obtain ⟨j, hj, e⟩ := List.mem_iff_getElem.1 hx
  have ej : conf[j]? = some x := by rw [List.getElem?_eq_getElem hj, e]
  by_cases hjm : j < m
  · exact List.mem_of_getElem? (i := j) (by rw [List.getElem?_take, if_pos hjm]; exact ej)
  · have := asc_le h hc (d := j - m) (by rw [show m + (j - m) = j by omega]; exact ej)
    omega
theorem legal_head {ns : List Nd} {conf : List Int} (h : LegalP ns conf) : conf[0]? = some 0 := by
  obtain ⟨j, hj, e⟩ := List.mem_iff_getElem.1 h.1
  have ej : conf[j]? = some 0 := by rw [List.getElem?_eq_getElem hj, e]
  obtain ⟨a, ha⟩ : ∃ a, conf[0]? = some a := ⟨_, List.getElem?_eq_getElem (by omega)⟩
  have h0 := (h.2 0 a ha).1.1
  have := asc_le (fun i c hc => (h.2 i c hc).1) ha (d := j) (by rw [Nat.zero_add]; exact ej)
  rw [ha]; congr 1; omega
theorem take_snoc {l : List Int} {m : Nat} {c : Int} (h : l[m]? = some c) : l.take (m + 1) = l.take m ++ [c] := by
  rw [List.take_add_one, h]; rfl
/-! The way up. -/
def chainF (ns : List Nd) : Nat → Int → List Int
  | 0, _ => []
  | f + 1, c => if 0 ≤ c then (match ns[c.toNat]? with | some n => c :: chainF ns f n.parent | none => []) else []
def chainN (ns : List Nd) (c : Int) : List Int := chainF ns (ns.length + 1) c
theorem chainF_neg {ns : List Nd} {f : Nat} {c : Int} (h : c < 0) : chainF ns f c = [] := by
  cases f with
  | zero => rfl
  | succ f => unfold chainF; rw [if_neg (by omega)]
theorem chainF_stable {ns : List Nd} (T : Tree ns) : ∀ (f f' : Nat) (c : Int), c < f → c < f' → chainF ns f c = chainF ns f' c
  | 0, f', c, h1, h2 => by rw [chainF_neg (by omega), chainF_neg (by omega)]
  | f + 1, 0, c, h1, h2 => by rw [chainF_neg (by omega), chainF_neg (by omega)]
  | f + 1, f' + 1, c, h1, h2 => by
    unfold chainF
    by_cases h0 : 0 ≤ c
    · rw [if_pos h0, if_pos h0]
      cases hn : ns[c.toNat]? with
      | none => rfl
      | some n =>
        have := T.seg.par c.toNat n hn
        show c :: _ = c :: _
        rw [chainF_stable T f f' n.parent (by omega) (by omega)]
    · rw [if_neg h0, if_neg h0]
theorem chain_neg {ns : List Nd} {c : Int} (h : c < 0) : chainN ns c = [] := chainF_neg h
theorem chain_cons {ns : List Nd} (T : Tree ns) {c : Int} {n : Nd} (h0 : 0 ≤ c) (hn : ns[c.toNat]? = some n) : chainN ns c = c :: chainN ns n.parent := by
  have := T.seg.par c.toNat n hn
  have hl := (List.getElem?_eq_some_iff.1 hn).1
  unfold chainN
  conv => lhs; unfold chainF
  rw [if_pos h0, hn]
  show c :: _ = c :: _
  rw [chainF_stable T ns.length (ns.length + 1) n.parent (by omega) (by omega)]
theorem chain_all {ns : List Nd} (T : Tree ns) : ∀ (f : Nat) (c : Int), c < f → c < ns.length → (chainN ns c).length ≤ f ∧ ∀ x ∈ chainN ns c, (0 ≤ x ∧ x ≤ c) ∧ (x = c ∨ ∃ n, ns[x.toNat]? = some n ∧ (n.kind = 2 ∨ n.kind = 3)) ∧ ∀ y ∈ chainN ns x, y ∈ chainN ns c
  | f, c, h1, h2 => by
    rcases Int.lt_or_le c 0 with h0 | h0
    · rw [chain_neg h0]; simp
    · cases f with
      | zero => omega
      | succ f =>
      obtain ⟨n, hn⟩ : ∃ n, ns[c.toNat]? = some n := ⟨_, List.getElem?_eq_getElem (by omega)⟩
      have hp := T.seg.par c.toNat n hn
      have ec := chain_cons T h0 hn
      obtain ⟨k1, k2⟩ := chain_all T f n.parent (by omega) (by omega)
      refine ⟨by rw [ec, List.length_cons]; omega, ?_⟩
      intro x hx
      rw [ec] at hx
      rcases List.mem_cons.1 hx with rfl | hx
      · exact ⟨⟨h0, Int.le_refl _⟩, .inl rfl, fun y hy => hy⟩
      · obtain ⟨⟨a1, a2⟩, a3, a4⟩ := k2 x hx
        refine ⟨⟨a1, by omega⟩, .inr ?_, fun y hy => by rw [ec]; exact List.mem_cons_of_mem _ (a4 y hy)⟩
        rcases a3 with rfl | a3
        · obtain ⟨p, p1, p2⟩ := T.seg.kid c.toNat n hn (by omega)
          exact ⟨p, by simpa using p1, p2⟩
        · exact a3
theorem chain_mem {ns : List Nd} (T : Tree ns) {c x : Int} (hc : c < ns.length) (hx : x ∈ chainN ns c) : (0 ≤ x ∧ x ≤ c) ∧ (x = c ∨ ∃ n, ns[x.toNat]? = some n ∧ (n.kind = 2 ∨ n.kind = 3)) ∧ ∀ y ∈ chainN ns x, y ∈ chainN ns c :=
  (chain_all T (c.toNat + 1) c (by omega) hc).2 x hx
def chainsN (ns : List Nd) (l : List Int) : List Int := l.flatMap (chainN ns)
theorem chains_snoc {ns : List Nd} {l : List Int} {c : Int} : chainsN ns (l ++ [c]) = chainsN ns l ++ chainN ns c := by simp [chainsN]
theorem mem_chains {ns : List Nd} {l : List Int} {x : Int} : x ∈ chainsN ns l ↔ ∃ c ∈ l, x ∈ chainN ns c := by simp [chainsN]
theorem chains_len {ns : List Nd} (T : Tree ns) : ∀ {l : List Int}, (∀ c ∈ l, c < ns.length) → (chainsN ns l).length ≤ l.length * ns.length
  | [], _ => by simp [chainsN]
  | c :: l, h => by
    have h1 := (chain_all T ns.length c (h c List.mem_cons_self) (h c List.mem_cons_self)).1
    have h2 := chains_len T (l := l) (fun c hc => h c (List.mem_cons_of_mem _ hc))
    unfold chainsN at *
    rw [List.flatMap_cons, List.length_append, List.length_cons, Nat.succ_mul]; omega
def atomAt (ns : List Nd) (c : Int) : Bool := decide (0 ≤ c ∧ c < ns.length) && (match ns[c.toNat]? with | some n => decide (n.kind = 1) | none => false)
def atomN (ns : List Nd) (conf : List Int) : List Int := conf.filter (atomAt ns)
def StepF (ns : List Nd) (l : List Int) (i : Nat) (c : Int) : Prop := atomAt ns c = true ∧ c ∉ l.take i
def GoodP (ns : List Nd) (l : List Int) : Prop := ∀ (i : Nat) c, l[i]? = some c → StepF ns l i c
/-- What Full answers. -/
def FullS (ns : List Nd) (l a : List Int) (p : Bool) : Prop :=
  (p = true → GoodP ns l ∧ LegalP ns (ofL (chainsN ns l)) ∧ a = ofL (chainsN ns l)) ∧ (p = false → a = [] ∧ ¬ (GoodP ns l ∧ LegalP ns (ofL (chainsN ns l))))
theorem full_same {ns : List Nd} {l a b : List Int} {p q : Bool} (h1 : FullS ns l a p) (h2 : FullS ns l b q) : p = q ∧ a = b := by
  cases p <;> cases q
  · exact ⟨rfl, (h1.2 rfl).1.trans (h2.2 rfl).1.symm⟩
  · exact absurd ⟨(h2.1 rfl).1, (h2.1 rfl).2.1⟩ (h1.2 rfl).2
  · exact absurd ⟨(h1.1 rfl).1, (h1.1 rfl).2.1⟩ (h2.2 rfl).2
  · exact ⟨rfl, (h1.1 rfl).2.2.trans (h2.1 rfl).2.2.symm⟩
theorem atomAt_iff {ns : List Nd} {c : Int} : atomAt ns c = true ↔ 0 ≤ c ∧ c < ns.length ∧ ∃ n, ns[c.toNat]? = some n ∧ n.kind = 1 := by
  unfold atomAt
  rw [Bool.and_eq_true, decide_eq_true_eq]
  constructor
  · rintro ⟨⟨h1, h2⟩, h3⟩
    cases hn : ns[c.toNat]? with
    | none => rw [hn] at h3; simp at h3
    | some n => rw [hn] at h3; exact ⟨h1, h2, n, rfl, by simpa using h3⟩
  · rintro ⟨h1, h2, n, h3, h4⟩
    rw [h3]; exact ⟨⟨h1, h2⟩, by simpa using h4⟩
/-- An atomic one lies on the ways up of atomic ones only if it is one of them. -/
theorem atom_chains {ns : List Nd} (T : Tree ns) {l : List Int} {c : Int} (hl : ∀ x ∈ l, atomAt ns x = true) (hc : atomAt ns c = true) : c ∈ chainsN ns l ↔ c ∈ l := by
  rw [mem_chains]
  obtain ⟨c0, c1, n, hn, hk⟩ := atomAt_iff.1 hc
  constructor
  · rintro ⟨x, hx, hm⟩
    have := atomAt_iff.1 (hl x hx)
    rcases (chain_mem T this.2.1 hm).2.1 with rfl | ⟨m, hm, hk2⟩
    · exact hx
    · rw [hn] at hm; cases hm; omega
  · intro h
    exact ⟨c, h, by rw [chain_cons T c0 hn]; exact List.mem_cons_self⟩
end Go.VM
open Go Go.VM
set_option linter.unusedVariables false
set_option linter.unusedSimpArgs false
set_option maxRecDepth 100000
set_option maxHeartbeats 8000000
namespace Go.Proofs.Ytblabbcmokldiaa.Vm
section
variable {R : Type} {G : ORC R} {k : Nat} {K : List V → Option R}
theorem ivs_atZ {l : List Int} {i : Nat} {n : Int} (h : l[i]? = some n) : (ivs l)[((i : Nat) : Int).toNat]? = some (.int .i64 n) := by rw [Int.toNat_natCast]; exact ivs_at h
theorem get_ex {l : List Int} {m : Nat} (h : m < l.length) : ∃ x, l[m]? = some x := ⟨_, List.getElem?_eq_getElem h⟩
def HasOK (G : ORC R) : Prop := ∀ (l : List Int) (i : Int) (K : List V → Option R), l.length ≤ 9000 → W (fun o => o = [.bool (hasL l i)]) K (G 34 [.sl 1 (ivs l), .int .i64 i] K)
theorem has_loop {Q : List V → Prop} {K : List V → Option R} {Ko : Unit → Option R} {Kr : Bool → Option R} {l : List Int} {i : Int} (hl : l.length ≤ 9000) (hKo : i ∉ l → W Q K (Ko ())) (hKr : i ∈ l → W Q K (Kr true)) :
    ∀ (j m : Nat), l.length - m < j → m ≤ l.length → i ∉ l.take m → W Q K (l34_0g G k Ko Kr j (ivs l) i m)
  | 0, m, h1, h2, h3 => by omega
  | j + 1, m, h1, h2, h3 => by
    show W Q K (b34_0 G k (l34_0g G k Ko Kr j) Ko Kr (ivs l) i m)
    unfold b34_0
    refine W_dec (fun h => ?_) (fun h => hKo (by rw [ivs_len] at h; rwa [List.take_of_length_le (by omega)] at h3))
    rw [ivs_len] at h
    obtain ⟨x, hx⟩ := get_ex (l := l) (m := m) (by omega)
    refine W_at (by omega) (ivs_atZ hx) (W_aI ?_)
    refine W_beqI (fun e => hKr (by subst e; exact List.mem_of_getElem? hx)) (fun e => ?_)
    rw [wrap_id (n := (m : Int) + 1) (by omega)]
    exact has_loop hl hKo hKr j (m + 1) (by omega) (by omega) (by rw [take_snoc hx, List.mem_append, List.mem_singleton]; rintro (h | h); exact h3 h; exact e h.symm)
theorem has_ok (hk : 10000 ≤ k) : HasOK (fun _ args (K : List V → Option R) => g34 G k args K) := by
  intro l i K hl
  show W _ K (f34 G k (ivs l) i K)
  unfold f34 l34_0
  exact has_loop (Q := fun o => o = [.bool (hasL l i)]) (K := K) hl (fun h => W_ret (by unfold hasL; rw [decide_eq_false h])) (fun h => W_ret (by unfold hasL; rw [decide_eq_true h])) k 0 (by omega) (by omega) (by simp)
def OfOK (G : ORC R) : Prop := ∀ (l : List Int) (K : List V → Option R), l.length ≤ 9000 → W (fun o => o = [.sl 1 (ivs (ofL l))]) K (G 26 [.sl 1 (ivs l)] K)
theorem of_loop (hH : HasOK G) {Q : List V → Prop} {K : List V → Option R} {Ko : List V → Option R} {l : List Int} (hl : l.length ≤ 9000) (hKo : W Q K (Ko (ivs (ofL l)))) :
    ∀ (j m : Nat), 128 - m < j → m ≤ 128 → W Q K (l26_0g G k Ko j (ivs l) (ivs (ofGo l m)) m)
  | 0, m, h1, h2 => by omega
  | j + 1, m, h1, h2 => by
    show W Q K (b26_0 G k (l26_0g G k Ko j) Ko (ivs l) (ivs (ofGo l m)) m)
    unfold b26_0
    refine W_dec (fun h => ?_) (fun h => by rw [show m = 128 by omega]; exact hKo)
    unfold HasOK at hH
    refine W_call (hH _ _ _ hl) ?_
    rintro _ rfl
    (repeat (with_reducible (first | (refine W_uI ?_) | (refine W_uS ?_) | (refine W_uL ?_) | (refine W_uA ?_) | (refine W_uB ?_) | (refine W_aI ?_) | (refine W_aL ?_) | (refine W_ca3 ?_) | (refine W_ce3 ?_) | (refine W_ca4 ?_) | (refine W_ce4 ?_) | (refine W_ca5 ?_) | (refine W_ce5 ?_) | (refine W_ca6 ?_) | (refine W_ce6 ?_) | (refine W_ca7 ?_) | (refine W_ce7 ?_) | (refine W_ca8 ?_) | (refine W_ce8 ?_) | (refine W_nd7 ?_) | (refine W_unCons ?_) | (refine W_unNil ?_) | (refine W_asInt ?_) | (refine W_asBool ?_) | (refine W_asStr ?_) | (refine W_asSl ?_) | (refine W_asAgg ?_) | (refine W_kd ?_) | (refine W_z ?_))))
    have hgl := ofGo_len (l := l) (m := m)
    have next : ∀ a, a = ivs (ofGo l (m + 1)) → W Q K (l26_0g G k Ko j (ivs l) a (IntKind.i64.wrap ((m : Int) + 1))) := fun a ha => by
      rw [wrap_id (n := (m : Int) + 1) (by omega), ha]
      exact of_loop hH hl hKo j (m + 1) (by omega) (by omega)
    refine W_bool (fun hb => W_yes (by rw [ivs_len]; omega) (next _ (by rw [ofGo, hb]; simp [ivs]))) (fun hb => next _ (by rw [ofGo, hb]; simp))
theorem of_ok (hk : 10000 ≤ k) (hH : HasOK G) : OfOK (fun _ args (K : List V → Option R) => g26 G k args K) := by
  intro l K hl
  show W _ K (f26 G k (ivs l) K)
  unfold f26 l26_0
  exact of_loop (Q := fun o => o = [.sl 1 (ivs (ofL l))]) (K := K) (Ko := fun x => K [.sl 1 x]) hH hl (W_ret rfl) k 0 (by omega) (by omega)
def NotOK (G : ORC R) : Prop := ∀ (a b : List Int) (K : List V → Option R), a.length ≤ 9000 → b.length ≤ 9000 → W (fun o => o = [.sl 1 (ivs (notL a b))]) K (G 36 [.sl 1 (ivs a), .sl 1 (ivs b)] K)
theorem notL_len {a b : List Int} : (notL a b).length ≤ a.length := List.length_filter_le _ _
theorem notL_snoc {a b : List Int} {x : Int} : notL (a ++ [x]) b = notL a b ++ if hasL b x then [] else [x] := by
  unfold notL; rw [List.filter_append, List.filter_cons]; cases hasL b x <;> simp
theorem not_loop (hH : HasOK G) {Q : List V → Prop} {K : List V → Option R} {Ko : List V → Option R} {a b : List Int} (ha : a.length ≤ 9000) (hb : b.length ≤ 9000) (hKo : W Q K (Ko (ivs (notL a b)))) :
    ∀ (j m : Nat), a.length - m < j → m ≤ a.length → W Q K (l36_0g G k Ko j (ivs a) (ivs b) (ivs (notL (a.take m) b)) m)
  | 0, m, h1, h2 => by omega
  | j + 1, m, h1, h2 => by
    show W Q K (b36_0 G k (l36_0g G k Ko j) Ko (ivs a) (ivs b) (ivs (notL (a.take m) b)) m)
    unfold b36_0
    refine W_dec (fun h => ?_) (fun h => by rw [ivs_len] at h; rw [List.take_of_length_le (by omega)]; exact hKo)
    rw [ivs_len] at h
    obtain ⟨x, hx⟩ := get_ex (l := a) (m := m) (by omega)
    have hnl := notL_len (a := a.take m) (b := b)
    rw [List.length_take] at hnl
    unfold HasOK at hH
    refine W_at (by omega) (ivs_atZ hx) (W_aI ?_)
    refine W_call (hH _ _ _ hb) ?_
    rintro _ rfl
    (repeat (with_reducible (first | (refine W_uI ?_) | (refine W_uS ?_) | (refine W_uL ?_) | (refine W_uA ?_) | (refine W_uB ?_) | (refine W_aI ?_) | (refine W_aL ?_) | (refine W_ca3 ?_) | (refine W_ce3 ?_) | (refine W_ca4 ?_) | (refine W_ce4 ?_) | (refine W_ca5 ?_) | (refine W_ce5 ?_) | (refine W_ca6 ?_) | (refine W_ce6 ?_) | (refine W_ca7 ?_) | (refine W_ce7 ?_) | (refine W_ca8 ?_) | (refine W_ce8 ?_) | (refine W_nd7 ?_) | (refine W_unCons ?_) | (refine W_unNil ?_) | (refine W_asInt ?_) | (refine W_asBool ?_) | (refine W_asStr ?_) | (refine W_asSl ?_) | (refine W_asAgg ?_) | (refine W_kd ?_) | (refine W_z ?_))))
    have next : ∀ c, c = ivs (notL (a.take (m + 1)) b) → W Q K (l36_0g G k Ko j (ivs a) (ivs b) c (IntKind.i64.wrap ((m : Int) + 1))) := fun c hc => by
      rw [wrap_id (n := (m : Int) + 1) (by omega), hc]
      exact not_loop hH ha hb hKo j (m + 1) (by omega) (by omega)
    refine W_not (W_bool (fun hb => next _ (by rw [take_snoc hx, notL_snoc, hb]; simp)) (fun hb => ?_))
    refine W_at (by omega) (ivs_atZ hx) (W_aI ?_)
    exact W_yes (by rw [ivs_len]; omega) (next _ (by rw [take_snoc hx, notL_snoc, hb]; simp [ivs]))
theorem not_ok (hk : 10000 ≤ k) (hH : HasOK G) : NotOK (fun _ args (K : List V → Option R) => g36 G k args K) := by
  intro a b K ha hb
  show W _ K (f36 G k (ivs a) (ivs b) K)
  unfold f36 l36_0
  exact not_loop (Q := fun o => o = [.sl 1 (ivs (notL a b))]) (K := K) (Ko := fun x => K [.sl 1 x]) hH ha hb (W_ret rfl) k 0 (by omega) (by omega)
def AndOK (G : ORC R) : Prop := ∀ (a b : List Int) (K : List V → Option R), a.length ≤ 9000 → b.length ≤ 9000 → W (fun o => o = [.sl 1 (ivs (andL a b))]) K (G 57 [.sl 1 (ivs a), .sl 1 (ivs b)] K)
theorem and_ok (hN : NotOK G) : AndOK (fun _ args (K : List V → Option R) => g57 G k args K) := by
  intro a b K ha hb
  show W _ K (f57 G k (ivs a) (ivs b) K)
  unfold f57
  unfold NotOK at hN
  refine W_call (hN _ _ _ ha hb) ?_
  rintro _ rfl
  (repeat (with_reducible (first | (refine W_uI ?_) | (refine W_uS ?_) | (refine W_uL ?_) | (refine W_uA ?_) | (refine W_uB ?_) | (refine W_aI ?_) | (refine W_aL ?_) | (refine W_ca3 ?_) | (refine W_ce3 ?_) | (refine W_ca4 ?_) | (refine W_ce4 ?_) | (refine W_ca5 ?_) | (refine W_ce5 ?_) | (refine W_ca6 ?_) | (refine W_ce6 ?_) | (refine W_ca7 ?_) | (refine W_ce7 ?_) | (refine W_ca8 ?_) | (refine W_ce8 ?_) | (refine W_nd7 ?_) | (refine W_unCons ?_) | (refine W_unNil ?_) | (refine W_asInt ?_) | (refine W_asBool ?_) | (refine W_asStr ?_) | (refine W_asSl ?_) | (refine W_asAgg ?_) | (refine W_kd ?_) | (refine W_z ?_))))
  refine W_call (hN _ _ _ ha (Nat.le_trans notL_len ha)) ?_
  rintro _ rfl
  (repeat (with_reducible (first | (refine W_uI ?_) | (refine W_uS ?_) | (refine W_uL ?_) | (refine W_uA ?_) | (refine W_uB ?_) | (refine W_aI ?_) | (refine W_aL ?_) | (refine W_ca3 ?_) | (refine W_ce3 ?_) | (refine W_ca4 ?_) | (refine W_ce4 ?_) | (refine W_ca5 ?_) | (refine W_ce5 ?_) | (refine W_ca6 ?_) | (refine W_ce6 ?_) | (refine W_ca7 ?_) | (refine W_ce7 ?_) | (refine W_ca8 ?_) | (refine W_ce8 ?_) | (refine W_nd7 ?_) | (refine W_unCons ?_) | (refine W_unNil ?_) | (refine W_asInt ?_) | (refine W_asBool ?_) | (refine W_asStr ?_) | (refine W_asSl ?_) | (refine W_asAgg ?_) | (refine W_kd ?_) | (refine W_z ?_))))
  exact W_ret rfl
/-! The states right in a node. -/
def StatesOK (G : ORC R) : Prop := ∀ (ns : List Nd) (i : Int) (K : List V → Option R), ns.length ≤ 1000 → W (fun o => o = [.sl 1 (ivs (statesN ns i))]) K (G 67 [.sl 7 (ns.map Nd.v), .int .i64 i] K)
theorem filt_snoc {l : List Int} {p : Int → Bool} {x : Int} : (l ++ [x]).filter p = l.filter p ++ if p x then [x] else [] := by
  rw [List.filter_append, List.filter_cons]; cases p x <;> simp
theorem kid_at {ns : List Nd} {i x : Int} {m : Nat} (h : (kidsN ns i)[m]? = some x) : ∃ (q : Nat) (n : Nd), x = q ∧ ns[q]? = some n ∧ q < ns.length ∧ isSt ns x = decide (n.kind ≤ 3) := by
  obtain ⟨q, n, h1, h2, h3, _⟩ := mem_kidsN.1 (List.mem_of_getElem? h)
  exact ⟨q, n, h1, h2, (List.getElem?_eq_some_iff.1 h2).1, by unfold isSt; rw [h1, Int.toNat_natCast, h2]⟩
theorem states_loop (hS : IsStOK G) {Q : List V → Prop} {K : List V → Option R} {Ko : List V → Option R} {ns : List Nd} {i : Int} (hl : ns.length ≤ 1000) (hKo : W Q K (Ko (ivs (statesN ns i)))) :
    ∀ (j m : Nat), (kidsN ns i).length - m < j → m ≤ (kidsN ns i).length → W Q K (l67_0g G k Ko j (ns.map Nd.v) (ivs (((kidsN ns i).take m).filter (isSt ns))) (ivs (kidsN ns i)) m)
  | 0, m, h1, h2 => by omega
  | j + 1, m, h1, h2 => by
    show W Q K (b67_0 G k (l67_0g G k Ko j) Ko (ns.map Nd.v) (ivs (((kidsN ns i).take m).filter (isSt ns))) (ivs (kidsN ns i)) m)
    unfold b67_0
    have hkl : (kidsN ns i).length ≤ ns.length := kidsGo_len
    refine W_dec (fun h => ?_) (fun h => by rw [ivs_len] at h; rw [List.take_of_length_le (by omega)]; exact hKo)
    rw [ivs_len] at h
    obtain ⟨x, hx⟩ := get_ex (l := kidsN ns i) (m := m) (by omega)
    obtain ⟨q, n, rfl, hn, hq, hst⟩ := kid_at hx
    have hfl := List.length_filter_le (isSt ns) ((kidsN ns i).take m)
    rw [List.length_take] at hfl
    unfold IsStOK at hS
    refine W_at (by omega) (ivs_atZ hx) (W_aI ?_)
    refine W_at (by omega) (by rw [Int.toNat_natCast]; exact nd_get hn) (W_asAgg ?_)
    refine W_call (hS n _) ?_
    rintro _ rfl
    (repeat (with_reducible (first | (refine W_uI ?_) | (refine W_uS ?_) | (refine W_uL ?_) | (refine W_uA ?_) | (refine W_uB ?_) | (refine W_aI ?_) | (refine W_aL ?_) | (refine W_ca3 ?_) | (refine W_ce3 ?_) | (refine W_ca4 ?_) | (refine W_ce4 ?_) | (refine W_ca5 ?_) | (refine W_ce5 ?_) | (refine W_ca6 ?_) | (refine W_ce6 ?_) | (refine W_ca7 ?_) | (refine W_ce7 ?_) | (refine W_ca8 ?_) | (refine W_ce8 ?_) | (refine W_nd7 ?_) | (refine W_unCons ?_) | (refine W_unNil ?_) | (refine W_asInt ?_) | (refine W_asBool ?_) | (refine W_asStr ?_) | (refine W_asSl ?_) | (refine W_asAgg ?_) | (refine W_kd ?_) | (refine W_z ?_))))
    have next : ∀ c, c = ivs (((kidsN ns i).take (m + 1)).filter (isSt ns)) → W Q K (l67_0g G k Ko j (ns.map Nd.v) c (ivs (kidsN ns i)) (IntKind.i64.wrap ((m : Int) + 1))) := fun c hc => by
      rw [wrap_id (n := (m : Int) + 1) (by omega), hc]
      exact states_loop hS hl hKo j (m + 1) (by omega) (by omega)
    rw [← hst]
    refine W_bool (fun hb => ?_) (fun hb => next _ (by rw [take_snoc hx, filt_snoc, hb]; simp))
    refine W_at (by omega) (ivs_atZ hx) (W_aI ?_)
    exact W_yes (by rw [ivs_len]; omega) (next _ (by rw [take_snoc hx, filt_snoc, hb]; simp [ivs]))
theorem states_ok (hk : 10000 ≤ k) (hK : KidsOK 24 G) (hS : IsStOK G) : StatesOK (fun _ args (K : List V → Option R) => g67 G k args K) := by
  intro ns i K hl
  show W _ K (f67 G k (ns.map Nd.v) i K)
  unfold f67
  unfold KidsOK at hK
  refine W_call (hK _ _ _ hl) ?_
  rintro _ rfl
  (repeat (with_reducible (first | (refine W_uI ?_) | (refine W_uS ?_) | (refine W_uL ?_) | (refine W_uA ?_) | (refine W_uB ?_) | (refine W_aI ?_) | (refine W_aL ?_) | (refine W_ca3 ?_) | (refine W_ce3 ?_) | (refine W_ca4 ?_) | (refine W_ce4 ?_) | (refine W_ca5 ?_) | (refine W_ce5 ?_) | (refine W_ca6 ?_) | (refine W_ce6 ?_) | (refine W_ca7 ?_) | (refine W_ce7 ?_) | (refine W_ca8 ?_) | (refine W_ce8 ?_) | (refine W_nd7 ?_) | (refine W_unCons ?_) | (refine W_unNil ?_) | (refine W_asInt ?_) | (refine W_asBool ?_) | (refine W_asStr ?_) | (refine W_asSl ?_) | (refine W_asAgg ?_) | (refine W_kd ?_) | (refine W_z ?_))))
  unfold l67_0
  have hkl : (kidsN ns i).length ≤ ns.length := kidsGo_len
  exact states_loop (Q := fun o => o = [.sl 1 (ivs (statesN ns i))]) (K := K) (Ko := fun x => K [.sl 1 x]) hS hl (W_ret rfl) k 0 (by omega) (by omega)
theorem statesN_len {ns : List Nd} {i : Int} : (statesN ns i).length ≤ ns.length := Nat.le_trans (List.length_filter_le _ _) kidsGo_len
theorem andL_len {a b : List Int} : (andL a b).length ≤ a.length := notL_len
/-! The document's Legal. -/
def LegalOK (f : FuncId) (G : ORC R) : Prop := ∀ (ns : List Nd) (conf : List Int) (K : List V → Option R), Tree ns → ns.length ≤ 1000 → conf.length ≤ 9000 → W (fun o => ∃ b, o = [.bool b] ∧ (b = true ↔ LegalP ns conf)) K (G f [.sl 7 (ns.map Nd.v), .sl 1 (ivs conf)] K)
theorem legal_loop (hI : IsOK G) (hT : IsStOK G) (hH : HasOK G) (hS : StatesOK G) (hA : AndOK G) {Q : List V → Prop} {K : List V → Option R} {Ko : Unit → Option R} {Kr : Bool → Option R} {ns : List Nd} {conf : List Int} (hl : ns.length ≤ 1000) (hcl : conf.length ≤ 9000)
    (hKo : (∀ (i : Nat) c, conf[i]? = some c → StepA ns conf i c ∧ StepB ns conf c) → W Q K (Ko ())) (hKr : ∀ (i : Nat) c, conf[i]? = some c → ¬ (StepA ns conf i c ∧ StepB ns conf c) → W Q K (Kr false)) :
    ∀ (j m : Nat), conf.length - m < j → m ≤ conf.length → (∀ (i : Nat) c, i < m → conf[i]? = some c → StepA ns conf i c ∧ StepB ns conf c) → W Q K (l30_0g G k Ko Kr j (ns.map Nd.v) (ivs conf) m)
  | 0, m, h1, h2, h3 => by omega
  | j + 1, m, h1, h2, h3 => by
    show W Q K (b30_0 G k (l30_0g G k Ko Kr j) Ko Kr (ns.map Nd.v) (ivs conf) m)
    unfold b30_0
    refine W_dec (fun h => ?_) (fun h => by rw [ivs_len] at h; exact hKo fun i c hc => h3 i c (by have := (List.getElem?_eq_some_iff.1 hc).1; omega) hc)
    rw [ivs_len] at h
    obtain ⟨c, hc⟩ := get_ex (l := conf) (m := m) (by omega)
    unfold IsOK at hI; unfold IsStOK at hT; unfold HasOK at hH; unfold StatesOK at hS; unfold AndOK at hA
    have bad := hKr m c hc
    refine W_at (by omega) (ivs_atZ hc) (W_aI ?_)
    refine W_call (hI _ _ _) ?_
    rintro _ rfl
    (repeat (with_reducible (first | (refine W_uI ?_) | (refine W_uS ?_) | (refine W_uL ?_) | (refine W_uA ?_) | (refine W_uB ?_) | (refine W_aI ?_) | (refine W_aL ?_) | (refine W_ca3 ?_) | (refine W_ce3 ?_) | (refine W_ca4 ?_) | (refine W_ce4 ?_) | (refine W_ca5 ?_) | (refine W_ce5 ?_) | (refine W_ca6 ?_) | (refine W_ce6 ?_) | (refine W_ca7 ?_) | (refine W_ce7 ?_) | (refine W_ca8 ?_) | (refine W_ce8 ?_) | (refine W_nd7 ?_) | (refine W_unCons ?_) | (refine W_unNil ?_) | (refine W_asInt ?_) | (refine W_asBool ?_) | (refine W_asStr ?_) | (refine W_asSl ?_) | (refine W_asAgg ?_) | (refine W_kd ?_) | (refine W_z ?_))))
    refine W_not (W_dec (fun hr => ?_) (fun hr => bad fun hh => hr (by rw [List.length_map]; exact hh.1.1)))
    rw [List.length_map] at hr
    obtain ⟨n, hn⟩ : ∃ n, ns[c.toNat]? = some n := ⟨_, List.getElem?_eq_getElem (by omega)⟩
    have hg : (ns.map Nd.v)[c.toNat]? = some n.v := nd_get hn
    have hsl : (statesN ns c).length ≤ 9000 := Nat.le_trans statesN_len (by omega)
    have next : StepA ns conf m c → StepB ns conf c → W Q K (l30_0g G k Ko Kr j (ns.map Nd.v) (ivs conf) (IntKind.i64.wrap ((m : Int) + 1))) := fun hsa hsb => by
      rw [wrap_id (n := (m : Int) + 1) (by omega)]
      refine legal_loop hI hT hH hS hA hl hcl hKo hKr j (m + 1) (by omega) (by omega) fun i c' hi hc' => ?_
      by_cases e : i = m
      · subst e; rw [hc] at hc'; cases hc'; exact ⟨hsa, hsb⟩
      · exact h3 i c' (by omega) hc'
    have fin2 : ¬ n.kind = 2 → ¬ n.kind = 3 → StepB ns conf c := fun a b n' hn' => by rw [hn] at hn'; cases hn'; exact ⟨fun e => absurd e a, fun e => absurd e b⟩
    have fin3 : n.kind = 3 → (andL (statesN ns c) conf).length = (statesN ns c).length → StepB ns conf c := fun a b n' hn' => by rw [hn] at hn'; cases hn'; exact ⟨fun e => by omega, fun _ => b⟩
    have fin1 : n.kind = 2 → (andL (statesN ns c) conf).length = 1 → StepB ns conf c := fun a b n' hn' => by rw [hn] at hn'; cases hn'; exact ⟨fun _ => b, fun e => by omega⟩
    refine W_dec (fun h0 => ?_) (fun h0 => ?_)
    · obtain ⟨p, hp⟩ := get_ex (l := conf) (m := m - 1) (by omega)
      refine W_at (by omega) (ivs_atZ hc) (W_aI ?_)
      rw [wrap_id (n := (m : Int) - 1) (by omega)]
      refine W_at (by omega) (by rw [show ((m : Int) - 1).toNat = m - 1 by omega]; exact ivs_at hp) (W_aI ?_)
      refine W_dec (fun hle => bad fun hh => ?_) (fun hle => ?_)
      · have := hh.1.2.1 p (by omega) hp; omega
      have hasc : ∀ q, 0 < m → conf[m - 1]? = some q → q < c := fun q _ hq => by rw [hp] at hq; cases hq; omega
      refine W_at (by omega) (ivs_atZ hc) (W_aI ?_)
      refine W_at (by omega) hg (W_asAgg ?_)
      refine W_call (hT n _) ?_
      rintro _ rfl
      (repeat (with_reducible (first | (refine W_uI ?_) | (refine W_uS ?_) | (refine W_uL ?_) | (refine W_uA ?_) | (refine W_uB ?_) | (refine W_aI ?_) | (refine W_aL ?_) | (refine W_ca3 ?_) | (refine W_ce3 ?_) | (refine W_ca4 ?_) | (refine W_ce4 ?_) | (refine W_ca5 ?_) | (refine W_ce5 ?_) | (refine W_ca6 ?_) | (refine W_ce6 ?_) | (refine W_ca7 ?_) | (refine W_ce7 ?_) | (refine W_ca8 ?_) | (refine W_ce8 ?_) | (refine W_nd7 ?_) | (refine W_unCons ?_) | (refine W_unNil ?_) | (refine W_asInt ?_) | (refine W_asBool ?_) | (refine W_asStr ?_) | (refine W_asSl ?_) | (refine W_asAgg ?_) | (refine W_kd ?_) | (refine W_z ?_))))
      refine W_not (W_dec (fun hk3 => ?_) (fun hk3 => bad fun hh => hk3 (hh.1.2.2 n hn).1))
      refine W_at (by omega) (ivs_atZ hc) (W_aI ?_)
      refine W_dec (fun hc0 => ?_) (fun hc0 => ?_)
      · refine W_at (by omega) (ivs_atZ hc) (W_aI ?_)
        refine W_at (by omega) hg (W_nd7 (W_aI ?_))
        refine W_call (hH _ _ _ hcl) ?_
        rintro _ rfl
        (repeat (with_reducible (first | (refine W_uI ?_) | (refine W_uS ?_) | (refine W_uL ?_) | (refine W_uA ?_) | (refine W_uB ?_) | (refine W_aI ?_) | (refine W_aL ?_) | (refine W_ca3 ?_) | (refine W_ce3 ?_) | (refine W_ca4 ?_) | (refine W_ce4 ?_) | (refine W_ca5 ?_) | (refine W_ce5 ?_) | (refine W_ca6 ?_) | (refine W_ce6 ?_) | (refine W_ca7 ?_) | (refine W_ce7 ?_) | (refine W_ca8 ?_) | (refine W_ce8 ?_) | (refine W_nd7 ?_) | (refine W_unCons ?_) | (refine W_unNil ?_) | (refine W_asInt ?_) | (refine W_asBool ?_) | (refine W_asStr ?_) | (refine W_asSl ?_) | (refine W_asAgg ?_) | (refine W_kd ?_) | (refine W_z ?_))))
        refine W_not (W_bool (fun hb => ?_) (fun hb => bad fun hh => by have := hasL_iff.2 ((hh.1.2.2 n hn).2 (by omega)); rw [hb] at this; cases this))
        have hsa : StepA ns conf m c := ⟨hr, hasc, fun n' hn' => by rw [hn] at hn'; cases hn'; exact ⟨hk3, fun _ => hasL_iff.1 hb⟩⟩
        (refine W_at (by omega) (ivs_atZ hc) (W_aI ?_); refine W_call (hS _ _ _ hl) ?_; rintro _ rfl; (repeat (with_reducible (first | (refine W_uI ?_) | (refine W_uS ?_) | (refine W_uL ?_) | (refine W_uA ?_) | (refine W_uB ?_) | (refine W_aI ?_) | (refine W_aL ?_) | (refine W_ca3 ?_) | (refine W_ce3 ?_) | (refine W_ca4 ?_) | (refine W_ce4 ?_) | (refine W_ca5 ?_) | (refine W_ce5 ?_) | (refine W_ca6 ?_) | (refine W_ce6 ?_) | (refine W_ca7 ?_) | (refine W_ce7 ?_) | (refine W_ca8 ?_) | (refine W_ce8 ?_) | (refine W_nd7 ?_) | (refine W_unCons ?_) | (refine W_unNil ?_) | (refine W_asInt ?_) | (refine W_asBool ?_) | (refine W_asStr ?_) | (refine W_asSl ?_) | (refine W_asAgg ?_) | (refine W_kd ?_) | (refine W_z ?_)))); refine W_call (hA _ _ _ hsl hcl) ?_; rintro _ rfl; (repeat (with_reducible (first | (refine W_uI ?_) | (refine W_uS ?_) | (refine W_uL ?_) | (refine W_uA ?_) | (refine W_uB ?_) | (refine W_aI ?_) | (refine W_aL ?_) | (refine W_ca3 ?_) | (refine W_ce3 ?_) | (refine W_ca4 ?_) | (refine W_ce4 ?_) | (refine W_ca5 ?_) | (refine W_ce5 ?_) | (refine W_ca6 ?_) | (refine W_ce6 ?_) | (refine W_ca7 ?_) | (refine W_ce7 ?_) | (refine W_ca8 ?_) | (refine W_ce8 ?_) | (refine W_nd7 ?_) | (refine W_unCons ?_) | (refine W_unNil ?_) | (refine W_asInt ?_) | (refine W_asBool ?_) | (refine W_asStr ?_) | (refine W_asSl ?_) | (refine W_asAgg ?_) | (refine W_kd ?_) | (refine W_z ?_)))); refine W_at (by omega) (ivs_atZ hc) (W_aI ?_); refine W_at (by omega) hg (W_asAgg (W_ce7 (W_aI (W_aI (W_aI (W_aI (W_aI (W_aI (W_asStr ?_))))))))))
        refine W_beqI (fun h2 => ?_) (fun h2 => ?_)
        · refine W_not (W_beqI (fun e1 => ?_) (fun e1 => bad fun hh => e1 (by rw [ivs_len, (hh.2 n hn).1 h2]; rfl)))
          exact W_eqN (by omega) (next hsa (fin1 h2 (by rw [ivs_len] at e1; omega)))
        · refine W_beqI (fun h4 => ?_) (fun h4 => next hsa (fin2 h2 h4))
          refine W_at (by omega) (ivs_atZ hc) (W_aI ?_)
          refine W_call (hS _ _ _ hl) ?_
          rintro _ rfl
          (repeat (with_reducible (first | (refine W_uI ?_) | (refine W_uS ?_) | (refine W_uL ?_) | (refine W_uA ?_) | (refine W_uB ?_) | (refine W_aI ?_) | (refine W_aL ?_) | (refine W_ca3 ?_) | (refine W_ce3 ?_) | (refine W_ca4 ?_) | (refine W_ce4 ?_) | (refine W_ca5 ?_) | (refine W_ce5 ?_) | (refine W_ca6 ?_) | (refine W_ce6 ?_) | (refine W_ca7 ?_) | (refine W_ce7 ?_) | (refine W_ca8 ?_) | (refine W_ce8 ?_) | (refine W_nd7 ?_) | (refine W_unCons ?_) | (refine W_unNil ?_) | (refine W_asInt ?_) | (refine W_asBool ?_) | (refine W_asStr ?_) | (refine W_asSl ?_) | (refine W_asAgg ?_) | (refine W_kd ?_) | (refine W_z ?_))))
          exact W_not (W_beqI (fun e1 => next hsa (fin3 h4 (by rw [ivs_len, ivs_len] at e1; omega))) (fun e1 => bad fun hh => e1 (by rw [ivs_len, ivs_len, (hh.2 n hn).2 h4])))
      · have hsa : StepA ns conf m c := ⟨hr, hasc, fun n' hn' => by rw [hn] at hn'; cases hn'; exact ⟨hk3, fun h => absurd h hc0⟩⟩
        (refine W_at (by omega) (ivs_atZ hc) (W_aI ?_); refine W_call (hS _ _ _ hl) ?_; rintro _ rfl; (repeat (with_reducible (first | (refine W_uI ?_) | (refine W_uS ?_) | (refine W_uL ?_) | (refine W_uA ?_) | (refine W_uB ?_) | (refine W_aI ?_) | (refine W_aL ?_) | (refine W_ca3 ?_) | (refine W_ce3 ?_) | (refine W_ca4 ?_) | (refine W_ce4 ?_) | (refine W_ca5 ?_) | (refine W_ce5 ?_) | (refine W_ca6 ?_) | (refine W_ce6 ?_) | (refine W_ca7 ?_) | (refine W_ce7 ?_) | (refine W_ca8 ?_) | (refine W_ce8 ?_) | (refine W_nd7 ?_) | (refine W_unCons ?_) | (refine W_unNil ?_) | (refine W_asInt ?_) | (refine W_asBool ?_) | (refine W_asStr ?_) | (refine W_asSl ?_) | (refine W_asAgg ?_) | (refine W_kd ?_) | (refine W_z ?_)))); refine W_call (hA _ _ _ hsl hcl) ?_; rintro _ rfl; (repeat (with_reducible (first | (refine W_uI ?_) | (refine W_uS ?_) | (refine W_uL ?_) | (refine W_uA ?_) | (refine W_uB ?_) | (refine W_aI ?_) | (refine W_aL ?_) | (refine W_ca3 ?_) | (refine W_ce3 ?_) | (refine W_ca4 ?_) | (refine W_ce4 ?_) | (refine W_ca5 ?_) | (refine W_ce5 ?_) | (refine W_ca6 ?_) | (refine W_ce6 ?_) | (refine W_ca7 ?_) | (refine W_ce7 ?_) | (refine W_ca8 ?_) | (refine W_ce8 ?_) | (refine W_nd7 ?_) | (refine W_unCons ?_) | (refine W_unNil ?_) | (refine W_asInt ?_) | (refine W_asBool ?_) | (refine W_asStr ?_) | (refine W_asSl ?_) | (refine W_asAgg ?_) | (refine W_kd ?_) | (refine W_z ?_)))); refine W_at (by omega) (ivs_atZ hc) (W_aI ?_); refine W_at (by omega) hg (W_asAgg (W_ce7 (W_aI (W_aI (W_aI (W_aI (W_aI (W_aI (W_asStr ?_))))))))))
        refine W_beqI (fun h2 => ?_) (fun h2 => ?_)
        · refine W_not (W_beqI (fun e1 => ?_) (fun e1 => bad fun hh => e1 (by rw [ivs_len, (hh.2 n hn).1 h2]; rfl)))
          exact W_eqN (by omega) (next hsa (fin1 h2 (by rw [ivs_len] at e1; omega)))
        · refine W_beqI (fun h4 => ?_) (fun h4 => next hsa (fin2 h2 h4))
          refine W_at (by omega) (ivs_atZ hc) (W_aI ?_)
          refine W_call (hS _ _ _ hl) ?_
          rintro _ rfl
          (repeat (with_reducible (first | (refine W_uI ?_) | (refine W_uS ?_) | (refine W_uL ?_) | (refine W_uA ?_) | (refine W_uB ?_) | (refine W_aI ?_) | (refine W_aL ?_) | (refine W_ca3 ?_) | (refine W_ce3 ?_) | (refine W_ca4 ?_) | (refine W_ce4 ?_) | (refine W_ca5 ?_) | (refine W_ce5 ?_) | (refine W_ca6 ?_) | (refine W_ce6 ?_) | (refine W_ca7 ?_) | (refine W_ce7 ?_) | (refine W_ca8 ?_) | (refine W_ce8 ?_) | (refine W_nd7 ?_) | (refine W_unCons ?_) | (refine W_unNil ?_) | (refine W_asInt ?_) | (refine W_asBool ?_) | (refine W_asStr ?_) | (refine W_asSl ?_) | (refine W_asAgg ?_) | (refine W_kd ?_) | (refine W_z ?_))))
          exact W_not (W_beqI (fun e1 => next hsa (fin3 h4 (by rw [ivs_len, ivs_len] at e1; omega))) (fun e1 => bad fun hh => e1 (by rw [ivs_len, ivs_len, (hh.2 n hn).2 h4])))
    · have hasc : ∀ q, 0 < m → conf[m - 1]? = some q → q < c := fun q h _ => by omega
      refine W_at (by omega) (ivs_atZ hc) (W_aI ?_)
      refine W_at (by omega) hg (W_asAgg ?_)
      refine W_call (hT n _) ?_
      rintro _ rfl
      (repeat (with_reducible (first | (refine W_uI ?_) | (refine W_uS ?_) | (refine W_uL ?_) | (refine W_uA ?_) | (refine W_uB ?_) | (refine W_aI ?_) | (refine W_aL ?_) | (refine W_ca3 ?_) | (refine W_ce3 ?_) | (refine W_ca4 ?_) | (refine W_ce4 ?_) | (refine W_ca5 ?_) | (refine W_ce5 ?_) | (refine W_ca6 ?_) | (refine W_ce6 ?_) | (refine W_ca7 ?_) | (refine W_ce7 ?_) | (refine W_ca8 ?_) | (refine W_ce8 ?_) | (refine W_nd7 ?_) | (refine W_unCons ?_) | (refine W_unNil ?_) | (refine W_asInt ?_) | (refine W_asBool ?_) | (refine W_asStr ?_) | (refine W_asSl ?_) | (refine W_asAgg ?_) | (refine W_kd ?_) | (refine W_z ?_))))
      refine W_not (W_dec (fun hk3 => ?_) (fun hk3 => bad fun hh => hk3 (hh.1.2.2 n hn).1))
      refine W_at (by omega) (ivs_atZ hc) (W_aI ?_)
      refine W_dec (fun hc0 => ?_) (fun hc0 => ?_)
      · refine W_at (by omega) (ivs_atZ hc) (W_aI ?_)
        refine W_at (by omega) hg (W_nd7 (W_aI ?_))
        refine W_call (hH _ _ _ hcl) ?_
        rintro _ rfl
        (repeat (with_reducible (first | (refine W_uI ?_) | (refine W_uS ?_) | (refine W_uL ?_) | (refine W_uA ?_) | (refine W_uB ?_) | (refine W_aI ?_) | (refine W_aL ?_) | (refine W_ca3 ?_) | (refine W_ce3 ?_) | (refine W_ca4 ?_) | (refine W_ce4 ?_) | (refine W_ca5 ?_) | (refine W_ce5 ?_) | (refine W_ca6 ?_) | (refine W_ce6 ?_) | (refine W_ca7 ?_) | (refine W_ce7 ?_) | (refine W_ca8 ?_) | (refine W_ce8 ?_) | (refine W_nd7 ?_) | (refine W_unCons ?_) | (refine W_unNil ?_) | (refine W_asInt ?_) | (refine W_asBool ?_) | (refine W_asStr ?_) | (refine W_asSl ?_) | (refine W_asAgg ?_) | (refine W_kd ?_) | (refine W_z ?_))))
        refine W_not (W_bool (fun hb => ?_) (fun hb => bad fun hh => by have := hasL_iff.2 ((hh.1.2.2 n hn).2 (by omega)); rw [hb] at this; cases this))
        have hsa : StepA ns conf m c := ⟨hr, hasc, fun n' hn' => by rw [hn] at hn'; cases hn'; exact ⟨hk3, fun _ => hasL_iff.1 hb⟩⟩
        (refine W_at (by omega) (ivs_atZ hc) (W_aI ?_); refine W_call (hS _ _ _ hl) ?_; rintro _ rfl; (repeat (with_reducible (first | (refine W_uI ?_) | (refine W_uS ?_) | (refine W_uL ?_) | (refine W_uA ?_) | (refine W_uB ?_) | (refine W_aI ?_) | (refine W_aL ?_) | (refine W_ca3 ?_) | (refine W_ce3 ?_) | (refine W_ca4 ?_) | (refine W_ce4 ?_) | (refine W_ca5 ?_) | (refine W_ce5 ?_) | (refine W_ca6 ?_) | (refine W_ce6 ?_) | (refine W_ca7 ?_) | (refine W_ce7 ?_) | (refine W_ca8 ?_) | (refine W_ce8 ?_) | (refine W_nd7 ?_) | (refine W_unCons ?_) | (refine W_unNil ?_) | (refine W_asInt ?_) | (refine W_asBool ?_) | (refine W_asStr ?_) | (refine W_asSl ?_) | (refine W_asAgg ?_) | (refine W_kd ?_) | (refine W_z ?_)))); refine W_call (hA _ _ _ hsl hcl) ?_; rintro _ rfl; (repeat (with_reducible (first | (refine W_uI ?_) | (refine W_uS ?_) | (refine W_uL ?_) | (refine W_uA ?_) | (refine W_uB ?_) | (refine W_aI ?_) | (refine W_aL ?_) | (refine W_ca3 ?_) | (refine W_ce3 ?_) | (refine W_ca4 ?_) | (refine W_ce4 ?_) | (refine W_ca5 ?_) | (refine W_ce5 ?_) | (refine W_ca6 ?_) | (refine W_ce6 ?_) | (refine W_ca7 ?_) | (refine W_ce7 ?_) | (refine W_ca8 ?_) | (refine W_ce8 ?_) | (refine W_nd7 ?_) | (refine W_unCons ?_) | (refine W_unNil ?_) | (refine W_asInt ?_) | (refine W_asBool ?_) | (refine W_asStr ?_) | (refine W_asSl ?_) | (refine W_asAgg ?_) | (refine W_kd ?_) | (refine W_z ?_)))); refine W_at (by omega) (ivs_atZ hc) (W_aI ?_); refine W_at (by omega) hg (W_asAgg (W_ce7 (W_aI (W_aI (W_aI (W_aI (W_aI (W_aI (W_asStr ?_))))))))))
        refine W_beqI (fun h2 => ?_) (fun h2 => ?_)
        · refine W_not (W_beqI (fun e1 => ?_) (fun e1 => bad fun hh => e1 (by rw [ivs_len, (hh.2 n hn).1 h2]; rfl)))
          exact W_eqN (by omega) (next hsa (fin1 h2 (by rw [ivs_len] at e1; omega)))
        · refine W_beqI (fun h4 => ?_) (fun h4 => next hsa (fin2 h2 h4))
          refine W_at (by omega) (ivs_atZ hc) (W_aI ?_)
          refine W_call (hS _ _ _ hl) ?_
          rintro _ rfl
          (repeat (with_reducible (first | (refine W_uI ?_) | (refine W_uS ?_) | (refine W_uL ?_) | (refine W_uA ?_) | (refine W_uB ?_) | (refine W_aI ?_) | (refine W_aL ?_) | (refine W_ca3 ?_) | (refine W_ce3 ?_) | (refine W_ca4 ?_) | (refine W_ce4 ?_) | (refine W_ca5 ?_) | (refine W_ce5 ?_) | (refine W_ca6 ?_) | (refine W_ce6 ?_) | (refine W_ca7 ?_) | (refine W_ce7 ?_) | (refine W_ca8 ?_) | (refine W_ce8 ?_) | (refine W_nd7 ?_) | (refine W_unCons ?_) | (refine W_unNil ?_) | (refine W_asInt ?_) | (refine W_asBool ?_) | (refine W_asStr ?_) | (refine W_asSl ?_) | (refine W_asAgg ?_) | (refine W_kd ?_) | (refine W_z ?_))))
          exact W_not (W_beqI (fun e1 => next hsa (fin3 h4 (by rw [ivs_len, ivs_len] at e1; omega))) (fun e1 => bad fun hh => e1 (by rw [ivs_len, ivs_len, (hh.2 n hn).2 h4])))
      · have hsa : StepA ns conf m c := ⟨hr, hasc, fun n' hn' => by rw [hn] at hn'; cases hn'; exact ⟨hk3, fun h => absurd h hc0⟩⟩
        (refine W_at (by omega) (ivs_atZ hc) (W_aI ?_); refine W_call (hS _ _ _ hl) ?_; rintro _ rfl; (repeat (with_reducible (first | (refine W_uI ?_) | (refine W_uS ?_) | (refine W_uL ?_) | (refine W_uA ?_) | (refine W_uB ?_) | (refine W_aI ?_) | (refine W_aL ?_) | (refine W_ca3 ?_) | (refine W_ce3 ?_) | (refine W_ca4 ?_) | (refine W_ce4 ?_) | (refine W_ca5 ?_) | (refine W_ce5 ?_) | (refine W_ca6 ?_) | (refine W_ce6 ?_) | (refine W_ca7 ?_) | (refine W_ce7 ?_) | (refine W_ca8 ?_) | (refine W_ce8 ?_) | (refine W_nd7 ?_) | (refine W_unCons ?_) | (refine W_unNil ?_) | (refine W_asInt ?_) | (refine W_asBool ?_) | (refine W_asStr ?_) | (refine W_asSl ?_) | (refine W_asAgg ?_) | (refine W_kd ?_) | (refine W_z ?_)))); refine W_call (hA _ _ _ hsl hcl) ?_; rintro _ rfl; (repeat (with_reducible (first | (refine W_uI ?_) | (refine W_uS ?_) | (refine W_uL ?_) | (refine W_uA ?_) | (refine W_uB ?_) | (refine W_aI ?_) | (refine W_aL ?_) | (refine W_ca3 ?_) | (refine W_ce3 ?_) | (refine W_ca4 ?_) | (refine W_ce4 ?_) | (refine W_ca5 ?_) | (refine W_ce5 ?_) | (refine W_ca6 ?_) | (refine W_ce6 ?_) | (refine W_ca7 ?_) | (refine W_ce7 ?_) | (refine W_ca8 ?_) | (refine W_ce8 ?_) | (refine W_nd7 ?_) | (refine W_unCons ?_) | (refine W_unNil ?_) | (refine W_asInt ?_) | (refine W_asBool ?_) | (refine W_asStr ?_) | (refine W_asSl ?_) | (refine W_asAgg ?_) | (refine W_kd ?_) | (refine W_z ?_)))); refine W_at (by omega) (ivs_atZ hc) (W_aI ?_); refine W_at (by omega) hg (W_asAgg (W_ce7 (W_aI (W_aI (W_aI (W_aI (W_aI (W_aI (W_asStr ?_))))))))))
        refine W_beqI (fun h2 => ?_) (fun h2 => ?_)
        · refine W_not (W_beqI (fun e1 => ?_) (fun e1 => bad fun hh => e1 (by rw [ivs_len, (hh.2 n hn).1 h2]; rfl)))
          exact W_eqN (by omega) (next hsa (fin1 h2 (by rw [ivs_len] at e1; omega)))
        · refine W_beqI (fun h4 => ?_) (fun h4 => next hsa (fin2 h2 h4))
          refine W_at (by omega) (ivs_atZ hc) (W_aI ?_)
          refine W_call (hS _ _ _ hl) ?_
          rintro _ rfl
          (repeat (with_reducible (first | (refine W_uI ?_) | (refine W_uS ?_) | (refine W_uL ?_) | (refine W_uA ?_) | (refine W_uB ?_) | (refine W_aI ?_) | (refine W_aL ?_) | (refine W_ca3 ?_) | (refine W_ce3 ?_) | (refine W_ca4 ?_) | (refine W_ce4 ?_) | (refine W_ca5 ?_) | (refine W_ce5 ?_) | (refine W_ca6 ?_) | (refine W_ce6 ?_) | (refine W_ca7 ?_) | (refine W_ce7 ?_) | (refine W_ca8 ?_) | (refine W_ce8 ?_) | (refine W_nd7 ?_) | (refine W_unCons ?_) | (refine W_unNil ?_) | (refine W_asInt ?_) | (refine W_asBool ?_) | (refine W_asStr ?_) | (refine W_asSl ?_) | (refine W_asAgg ?_) | (refine W_kd ?_) | (refine W_z ?_))))
          exact W_not (W_beqI (fun e1 => next hsa (fin3 h4 (by rw [ivs_len, ivs_len] at e1; omega))) (fun e1 => bad fun hh => e1 (by rw [ivs_len, ivs_len, (hh.2 n hn).2 h4])))
theorem legal_ok (hk : 10000 ≤ k) (hI : IsOK G) (hT : IsStOK G) (hH : HasOK G) (hS : StatesOK G) (hA : AndOK G) : LegalOK 30 (fun _ args (K : List V → Option R) => g30 G k args K) := by
  intro ns conf K T hl hcl
  show W _ K (f30 G k (ns.map Nd.v) (ivs conf) K)
  unfold f30
  have hH' := hH
  unfold HasOK at hH'
  refine W_call (hH' _ _ _ hcl) ?_
  rintro _ rfl
  (repeat (with_reducible (first | (refine W_uI ?_) | (refine W_uS ?_) | (refine W_uL ?_) | (refine W_uA ?_) | (refine W_uB ?_) | (refine W_aI ?_) | (refine W_aL ?_) | (refine W_ca3 ?_) | (refine W_ce3 ?_) | (refine W_ca4 ?_) | (refine W_ce4 ?_) | (refine W_ca5 ?_) | (refine W_ce5 ?_) | (refine W_ca6 ?_) | (refine W_ce6 ?_) | (refine W_ca7 ?_) | (refine W_ce7 ?_) | (refine W_ca8 ?_) | (refine W_ce8 ?_) | (refine W_nd7 ?_) | (refine W_unCons ?_) | (refine W_unNil ?_) | (refine W_asInt ?_) | (refine W_asBool ?_) | (refine W_asStr ?_) | (refine W_asSl ?_) | (refine W_asAgg ?_) | (refine W_kd ?_) | (refine W_z ?_))))
  refine W_not (W_bool (fun hb => ?_) (fun hb => W_ret ⟨false, rfl, by simp; intro hh; have := hasL_iff.2 hh.1; rw [hb] at this; cases this⟩))
  unfold l30_0
  exact legal_loop hI hT hH hS hA hl hcl (fun h => W_ret ⟨true, rfl, by simp; exact ⟨hasL_iff.1 hb, h⟩⟩) (fun i c hc h => W_ret ⟨false, rfl, by simp; intro hh; exact h (hh.2 i c hc)⟩) k 0 (by omega) (by omega) (fun i c hi => by omega)
end
end Go.Proofs.Ytblabbcmokldiaa.Vm
open Go Go.VM
set_option linter.unusedVariables false
set_option linter.unusedSimpArgs false
set_option maxRecDepth 100000
set_option maxHeartbeats 8000000
namespace Go.Proofs.Ytblabbcmokldiaa.Vm
section
variable {R : Type} {G : ORC R} {k : Nat} {K : List V → Option R}
theorem act_at {n : Nat} {s : List Int} {i : Int} (h0 : 0 ≤ i) (h : i < n) : (actV n s)[i.toNat]? = some (.bool (hasL s i)) := by
  rw [actV_get (by omega), show ((i.toNat : Nat) : Int) = i by omega]
theorem clegal_loop0 (hI : CIsOK G) (hH : HistOK G) {Q : List V → Prop} {K : List V → Option R} {Ko : List V → List V → List V → Option R} {Kr : Bool → Option R} {ns : List Nd} {conf : List Int} (T : Tree ns) (hl : ns.length ≤ 1000) (hcl : conf.length ≤ 9000)
    (hKo : (∀ (i : Nat) c, conf[i]? = some c → StepA ns conf i c) → W Q K (Ko (ns.map Nd.v) (ivs conf) (actV ns.length conf))) (hKr : ¬ LegalP ns conf → W Q K (Kr false)) :
    ∀ (j m : Nat), conf.length - m < j → m ≤ conf.length → (∀ (i : Nat) c, i < m → conf[i]? = some c → StepA ns conf i c) → W Q K (l29_0g G k Ko Kr j (ns.map Nd.v) (ivs conf) (actV ns.length (conf.take m)) (ivs conf) conf.length m)
  | 0, m, h1, h2, h3 => by omega
  | j + 1, m, h1, h2, h3 => by
    show W Q K (b29_0 G k (l29_0g G k Ko Kr j) Ko Kr (ns.map Nd.v) (ivs conf) (actV ns.length (conf.take m)) (ivs conf) conf.length m)
    unfold b29_0
    refine W_dec (fun h => ?_) (fun h => by rw [List.take_of_length_le (by omega)]; exact hKo fun i c hc => h3 i c (by have := (List.getElem?_eq_some_iff.1 hc).1; omega) hc)
    obtain ⟨c, hc⟩ := get_ex (l := conf) (m := m) (by omega)
    unfold CIsOK at hI; unfold HistOK at hH
    have bad : (LegalP ns conf → False) → W Q K (Kr false) := hKr
    refine W_at (by omega) (ivs_atZ hc) (W_aI ?_)
    refine W_call (hI _ _ _) ?_
    rintro _ rfl
    (repeat (with_reducible (first | (refine W_uI ?_) | (refine W_uS ?_) | (refine W_uL ?_) | (refine W_uA ?_) | (refine W_uB ?_) | (refine W_aI ?_) | (refine W_aL ?_) | (refine W_ca3 ?_) | (refine W_ce3 ?_) | (refine W_ca4 ?_) | (refine W_ce4 ?_) | (refine W_ca5 ?_) | (refine W_ce5 ?_) | (refine W_ca6 ?_) | (refine W_ce6 ?_) | (refine W_ca7 ?_) | (refine W_ce7 ?_) | (refine W_ca8 ?_) | (refine W_ce8 ?_) | (refine W_nd7 ?_) | (refine W_unCons ?_) | (refine W_unNil ?_) | (refine W_asInt ?_) | (refine W_asBool ?_) | (refine W_asStr ?_) | (refine W_asSl ?_) | (refine W_asAgg ?_) | (refine W_kd ?_) | (refine W_z ?_))))
    refine W_not (W_dec (fun hr => ?_) (fun hr => bad fun hh => hr (by rw [List.length_map]; exact (hh.2 m c hc).1.1)))
    rw [List.length_map] at hr
    obtain ⟨n, hn⟩ : ∃ n, ns[c.toNat]? = some n := ⟨_, List.getElem?_eq_getElem (by omega)⟩
    have hg : (ns.map Nd.v)[c.toNat]? = some n.v := nd_get hn
    have hkinds := T.seg.kinds _ n hn
    have hpar := T.seg.par _ n hn
    have next : StepA ns conf m c → W Q K (l29_0g G k Ko Kr j (ns.map Nd.v) (ivs conf) (List.set (actV ns.length (conf.take m)) c.toNat (.bool true)) (ivs conf) conf.length (IntKind.i64.wrap ((m : Int) + 1))) := fun hsa => by
      rw [wrap_id (n := (m : Int) + 1) (by omega), actV_set hr.1 (by omega), ← take_snoc hc]
      refine clegal_loop0 hI hH T hl hcl hKo hKr j (m + 1) (by omega) (by omega) fun i c' hi hc' => ?_
      by_cases e : i = m
      · subst e; rw [hc] at hc'; cases hc'; exact hsa
      · exact h3 i c' (by omega) hc'
    have hact : (actV ns.length (conf.take m))[c.toNat]? = some (.bool (hasL (conf.take m) c)) := act_at hr.1 hr.2
    refine W_dec (fun h0 => ?_) (fun h0 => ?_)
    · obtain ⟨p, hp⟩ := get_ex (l := conf) (m := m - 1) (by omega)
      rw [wrap_id (n := (m : Int) - 1) (by omega)]
      refine W_at (by omega) (by rw [show ((m : Int) - 1).toNat = m - 1 by omega]; exact ivs_at hp) (W_aI ?_)
      refine W_dec (fun hle => bad fun hh => ?_) (fun hle => ?_)
      · have := (hh.2 m c hc).1.2.1 p (by omega) hp; omega
      have hasc : ∀ q, 0 < m → conf[m - 1]? = some q → q < c := fun q _ hq => by rw [hp] at hq; cases hq; omega
      refine W_at (by omega) hg (W_nd7 (W_aI ?_))
      refine W_call (hH n.kind _) ?_
      rintro _ rfl
      (repeat (with_reducible (first | (refine W_uI ?_) | (refine W_uS ?_) | (refine W_uL ?_) | (refine W_uA ?_) | (refine W_uB ?_) | (refine W_aI ?_) | (refine W_aL ?_) | (refine W_ca3 ?_) | (refine W_ce3 ?_) | (refine W_ca4 ?_) | (refine W_ce4 ?_) | (refine W_ca5 ?_) | (refine W_ce5 ?_) | (refine W_ca6 ?_) | (refine W_ce6 ?_) | (refine W_ca7 ?_) | (refine W_ce7 ?_) | (refine W_ca8 ?_) | (refine W_ce8 ?_) | (refine W_nd7 ?_) | (refine W_unCons ?_) | (refine W_unNil ?_) | (refine W_asInt ?_) | (refine W_asBool ?_) | (refine W_asStr ?_) | (refine W_asSl ?_) | (refine W_asAgg ?_) | (refine W_kd ?_) | (refine W_z ?_))))
      refine W_dec (fun hk3 => bad fun hh => ?_) (fun hk3 => ?_)
      · have := ((hh.2 m c hc).1.2.2 n hn).1; omega
      refine W_dec (fun hc0 => ?_) (fun hc0 => ?_)
      · have hp0 := T.par0 _ n hn (by omega)
        refine W_at (by omega) hg (W_nd7 (W_aI ?_))
        refine W_call (hI _ _ _) ?_
        rintro _ rfl
        (repeat (with_reducible (first | (refine W_uI ?_) | (refine W_uS ?_) | (refine W_uL ?_) | (refine W_uA ?_) | (refine W_uB ?_) | (refine W_aI ?_) | (refine W_aL ?_) | (refine W_ca3 ?_) | (refine W_ce3 ?_) | (refine W_ca4 ?_) | (refine W_ce4 ?_) | (refine W_ca5 ?_) | (refine W_ce5 ?_) | (refine W_ca6 ?_) | (refine W_ce6 ?_) | (refine W_ca7 ?_) | (refine W_ce7 ?_) | (refine W_ca8 ?_) | (refine W_ce8 ?_) | (refine W_nd7 ?_) | (refine W_unCons ?_) | (refine W_unNil ?_) | (refine W_asInt ?_) | (refine W_asBool ?_) | (refine W_asStr ?_) | (refine W_asSl ?_) | (refine W_asAgg ?_) | (refine W_kd ?_) | (refine W_z ?_))))
        refine W_not (W_yes (by rw [List.length_map]; omega) ?_)
        refine W_at (by omega) hg (W_nd7 (W_aI ?_))
        refine W_at (by omega) (act_at (by omega) (by omega)) (W_asBool ?_)
        refine W_not (W_bool (fun hb => ?_) (fun hb => bad fun hh => ?_))
        · refine W_at (by omega) hact ?_
          exact next ⟨hr, hasc, fun n' hn' => by rw [hn] at hn'; cases hn'; exact ⟨by omega, fun _ => List.mem_of_mem_take (hasL_iff.1 hb)⟩⟩
        · have := asc_take (fun i c hc => (hh.2 i c hc).1) hc (((hh.2 m c hc).1.2.2 n hn).2 (by omega)) (by omega)
          rw [← hasL_iff, hb] at this; cases this
      · refine W_at (by omega) hact ?_
        exact next ⟨hr, hasc, fun n' hn' => by rw [hn] at hn'; cases hn'; exact ⟨by omega, fun h => absurd h hc0⟩⟩
    · have hasc : ∀ q, 0 < m → conf[m - 1]? = some q → q < c := fun q h _ => by omega
      refine W_at (by omega) hg (W_nd7 (W_aI ?_))
      refine W_call (hH n.kind _) ?_
      rintro _ rfl
      (repeat (with_reducible (first | (refine W_uI ?_) | (refine W_uS ?_) | (refine W_uL ?_) | (refine W_uA ?_) | (refine W_uB ?_) | (refine W_aI ?_) | (refine W_aL ?_) | (refine W_ca3 ?_) | (refine W_ce3 ?_) | (refine W_ca4 ?_) | (refine W_ce4 ?_) | (refine W_ca5 ?_) | (refine W_ce5 ?_) | (refine W_ca6 ?_) | (refine W_ce6 ?_) | (refine W_ca7 ?_) | (refine W_ce7 ?_) | (refine W_ca8 ?_) | (refine W_ce8 ?_) | (refine W_nd7 ?_) | (refine W_unCons ?_) | (refine W_unNil ?_) | (refine W_asInt ?_) | (refine W_asBool ?_) | (refine W_asStr ?_) | (refine W_asSl ?_) | (refine W_asAgg ?_) | (refine W_kd ?_) | (refine W_z ?_))))
      refine W_dec (fun hk3 => bad fun hh => ?_) (fun hk3 => ?_)
      · have := ((hh.2 m c hc).1.2.2 n hn).1; omega
      refine W_dec (fun hc0 => ?_) (fun hc0 => ?_)
      · have hp0 := T.par0 _ n hn (by omega)
        refine W_at (by omega) hg (W_nd7 (W_aI ?_))
        refine W_call (hI _ _ _) ?_
        rintro _ rfl
        (repeat (with_reducible (first | (refine W_uI ?_) | (refine W_uS ?_) | (refine W_uL ?_) | (refine W_uA ?_) | (refine W_uB ?_) | (refine W_aI ?_) | (refine W_aL ?_) | (refine W_ca3 ?_) | (refine W_ce3 ?_) | (refine W_ca4 ?_) | (refine W_ce4 ?_) | (refine W_ca5 ?_) | (refine W_ce5 ?_) | (refine W_ca6 ?_) | (refine W_ce6 ?_) | (refine W_ca7 ?_) | (refine W_ce7 ?_) | (refine W_ca8 ?_) | (refine W_ce8 ?_) | (refine W_nd7 ?_) | (refine W_unCons ?_) | (refine W_unNil ?_) | (refine W_asInt ?_) | (refine W_asBool ?_) | (refine W_asStr ?_) | (refine W_asSl ?_) | (refine W_asAgg ?_) | (refine W_kd ?_) | (refine W_z ?_))))
        refine W_not (W_yes (by rw [List.length_map]; omega) ?_)
        refine W_at (by omega) hg (W_nd7 (W_aI ?_))
        refine W_at (by omega) (act_at (by omega) (by omega)) (W_asBool ?_)
        refine W_not (W_bool (fun hb => ?_) (fun hb => bad fun hh => ?_))
        · refine W_at (by omega) hact ?_
          exact next ⟨hr, hasc, fun n' hn' => by rw [hn] at hn'; cases hn'; exact ⟨by omega, fun _ => List.mem_of_mem_take (hasL_iff.1 hb)⟩⟩
        · have := asc_take (fun i c hc => (hh.2 i c hc).1) hc (((hh.2 m c hc).1.2.2 n hn).2 (by omega)) (by omega)
          rw [← hasL_iff, hb] at this; cases this
      · refine W_at (by omega) hact ?_
        exact next ⟨hr, hasc, fun n' hn' => by rw [hn] at hn'; cases hn'; exact ⟨by omega, fun h => absurd h hc0⟩⟩
/-- The kids that are states: how many are in, whether all are. -/
theorem clegal_loop4 (hH : HistOK G) {Q : List V → Prop} {K : List V → Option R} {Ko : List V → List V → Int → Int → Bool → List V → Int → Int → Option R} {ns : List Nd} {conf : List Int} {c : Int} {x1 x2 : Int} (T : Tree ns) (hl : ns.length ≤ 1000) (hcl : conf.length ≤ 9000)
    (hKo : W Q K (Ko (ns.map Nd.v) (actV ns.length conf) c (((statesN ns c).filter (hasL conf)).length : Nat) ((statesN ns c).all (hasL conf)) (ivs conf) x1 x2)) :
    ∀ (j m : Nat), (kidsN ns c).length - m < j → m ≤ (kidsN ns c).length →
      W Q K (l29_4g G k Ko j (ns.map Nd.v) (actV ns.length conf) c (((((kidsN ns c).take m).filter (isSt ns)).filter (hasL conf)).length : Nat) ((((kidsN ns c).take m).filter (isSt ns)).all (hasL conf)) (ivs conf) x1 x2 (ivs (kidsN ns c)) (kidsN ns c).length m)
  | 0, m, h1, h2 => by omega
  | j + 1, m, h1, h2 => by
    show W Q K (b29_4 G k (l29_4g G k Ko j) Ko (ns.map Nd.v) (actV ns.length conf) c (((((kidsN ns c).take m).filter (isSt ns)).filter (hasL conf)).length : Nat) ((((kidsN ns c).take m).filter (isSt ns)).all (hasL conf)) (ivs conf) x1 x2 (ivs (kidsN ns c)) (kidsN ns c).length m)
    unfold b29_4
    have hkl : (kidsN ns c).length ≤ ns.length := kidsGo_len
    refine W_dec (fun h => ?_) (fun h => by rw [List.take_of_length_le (by omega)]; exact hKo)
    obtain ⟨x, hx⟩ := get_ex (l := kidsN ns c) (m := m) (by omega)
    obtain ⟨q, n, rfl, hn, hq, hst⟩ := kid_at hx
    have hkinds := T.seg.kinds _ n hn
    unfold HistOK at hH
    have hcnt : ((((kidsN ns c).take m).filter (isSt ns)).filter (hasL conf)).length ≤ 1000 := Nat.le_trans (List.length_filter_le _ _) (Nat.le_trans (List.length_filter_le _ _) (by rw [List.length_take]; omega))
    have next : ∀ (a : Int) (b : Bool), a = (((((kidsN ns c).take (m + 1)).filter (isSt ns)).filter (hasL conf)).length : Nat) → b = ((((kidsN ns c).take (m + 1)).filter (isSt ns)).all (hasL conf)) → W Q K (l29_4g G k Ko j (ns.map Nd.v) (actV ns.length conf) c a b (ivs conf) x1 x2 (ivs (kidsN ns c)) (kidsN ns c).length (IntKind.i64.wrap ((m : Int) + 1))) := fun a b ha hb => by
      rw [wrap_id (n := (m : Int) + 1) (by omega), ha, hb]
      exact clegal_loop4 hH T hl hcl hKo j (m + 1) (by omega) (by omega)
    have hg : (ns.map Nd.v)[((q : Nat) : Int).toNat]? = some n.v := by rw [Int.toNat_natCast]; exact nd_get hn
    have hact : (actV ns.length conf)[((q : Nat) : Int).toNat]? = some (.bool (hasL conf q)) := act_at (by omega) (by omega)
    refine W_at (by omega) (ivs_atZ hx) (W_aI ?_)
    refine W_at (by omega) hg (W_nd7 (W_aI ?_))
    refine W_call (hH n.kind _) ?_
    rintro _ rfl
    (repeat (with_reducible (first | (refine W_uI ?_) | (refine W_uS ?_) | (refine W_uL ?_) | (refine W_uA ?_) | (refine W_uB ?_) | (refine W_aI ?_) | (refine W_aL ?_) | (refine W_ca3 ?_) | (refine W_ce3 ?_) | (refine W_ca4 ?_) | (refine W_ce4 ?_) | (refine W_ca5 ?_) | (refine W_ce5 ?_) | (refine W_ca6 ?_) | (refine W_ce6 ?_) | (refine W_ca7 ?_) | (refine W_ce7 ?_) | (refine W_ca8 ?_) | (refine W_ce8 ?_) | (refine W_nd7 ?_) | (refine W_unCons ?_) | (refine W_unNil ?_) | (refine W_asInt ?_) | (refine W_asBool ?_) | (refine W_asStr ?_) | (refine W_asSl ?_) | (refine W_asAgg ?_) | (refine W_kd ?_) | (refine W_z ?_))))
    rw [take_snoc hx, filt_snoc, hst] at next
    refine W_dec (fun hh => ?_) (fun hh => ?_)
    · rw [decide_eq_false (show ¬ n.kind ≤ 3 by omega)] at next
      exact next _ _ (by simp) (by simp)
    rw [decide_eq_true (show n.kind ≤ 3 by omega)] at next
    refine W_at (by omega) hact (W_asBool ?_)
    have e1 : ∀ l : List Int, (if true = true then [(q : Int)] else l) = [(q : Int)] := fun l => rfl
    rw [e1] at next
    refine W_bool (fun hb => ?_) (fun hb => ?_)
    · rw [wrap_id (n := (((((kidsN ns c).take m).filter (isSt ns)).filter (hasL conf)).length : Int) + 1) (by omega)]
      refine W_bool (fun ha => ?_) (fun ha => ?_)
      · refine W_at (by omega) hact (W_asBool ?_)
        exact next _ _ (by rw [List.filter_append]; simp [hb]) (by rw [List.all_append, ha]; simp)
      · exact next _ _ (by rw [List.filter_append]; simp [hb]) (by rw [List.all_append, ha]; simp)
    · refine W_bool (fun ha => ?_) (fun ha => ?_)
      · refine W_at (by omega) hact (W_asBool ?_)
        exact next _ _ (by rw [List.filter_append]; simp [hb]) (by rw [List.all_append, ha]; simp)
      · exact next _ _ (by rw [List.filter_append]; simp [hb]) (by rw [List.all_append, ha]; simp)
theorem clegal_loop2 (hk : 10000 ≤ k) (hH : HistOK G) (hK : KidsOK 23 G) {Q : List V → Prop} {K : List V → Option R} {Ko : Unit → Option R} {Kr : Bool → Option R} {ns : List Nd} {conf : List Int} (T : Tree ns) (hl : ns.length ≤ 1000) (hcl : conf.length ≤ 9000)
    (hsa : ∀ (i : Nat) c, conf[i]? = some c → StepA ns conf i c)
    (hKo : (∀ (i : Nat) c, conf[i]? = some c → StepB ns conf c) → W Q K (Ko ())) (hKr : ¬ LegalP ns conf → W Q K (Kr false)) :
    ∀ (j m : Nat), conf.length - m < j → m ≤ conf.length → (∀ (i : Nat) c, i < m → conf[i]? = some c → StepB ns conf c) → W Q K (l29_2g G k Ko Kr j (ns.map Nd.v) (actV ns.length conf) (ivs conf) conf.length m)
  | 0, m, h1, h2, h3 => by omega
  | j + 1, m, h1, h2, h3 => by
    show W Q K (b29_2 G k (l29_2g G k Ko Kr j) Ko Kr (ns.map Nd.v) (actV ns.length conf) (ivs conf) conf.length m)
    unfold b29_2
    refine W_dec (fun h => ?_) (fun h => hKo fun i c hc => h3 i c (by have := (List.getElem?_eq_some_iff.1 hc).1; omega) hc)
    obtain ⟨c, hc⟩ := get_ex (l := conf) (m := m) (by omega)
    have hr := (hsa m c hc).1
    obtain ⟨n, hn⟩ : ∃ n, ns[c.toNat]? = some n := ⟨_, List.getElem?_eq_getElem (by omega)⟩
    have hg : (ns.map Nd.v)[c.toNat]? = some n.v := nd_get hn
    have hKK := hK
    unfold KidsOK at hKK
    refine W_at (by omega) (ivs_atZ hc) (W_aI ?_)
    refine W_call (hKK _ _ _ hl) ?_
    rintro _ rfl
    (repeat (with_reducible (first | (refine W_uI ?_) | (refine W_uS ?_) | (refine W_uL ?_) | (refine W_uA ?_) | (refine W_uB ?_) | (refine W_aI ?_) | (refine W_aL ?_) | (refine W_ca3 ?_) | (refine W_ce3 ?_) | (refine W_ca4 ?_) | (refine W_ce4 ?_) | (refine W_ca5 ?_) | (refine W_ce5 ?_) | (refine W_ca6 ?_) | (refine W_ce6 ?_) | (refine W_ca7 ?_) | (refine W_ce7 ?_) | (refine W_ca8 ?_) | (refine W_ce8 ?_) | (refine W_nd7 ?_) | (refine W_unCons ?_) | (refine W_unNil ?_) | (refine W_asInt ?_) | (refine W_asBool ?_) | (refine W_asStr ?_) | (refine W_asSl ?_) | (refine W_asAgg ?_) | (refine W_kd ?_) | (refine W_z ?_))))
    unfold l29_4
    have hkl : (kidsN ns c).length ≤ ns.length := kidsGo_len
    rw [ivs_len]
    refine clegal_loop4 hH T hl hcl ?_ k 0 (by omega) (by omega)
    have next : StepB ns conf c → W Q K (l29_2g G k Ko Kr j (ns.map Nd.v) (actV ns.length conf) (ivs conf) conf.length (IntKind.i64.wrap ((m : Int) + 1))) := fun hsb => by
      rw [wrap_id (n := (m : Int) + 1) (by omega)]
      refine clegal_loop2 hk hH hK T hl hcl hsa hKo hKr j (m + 1) (by omega) (by omega) fun i c' hi hc' => ?_
      by_cases e : i = m
      · subst e; rw [hc] at hc'; cases hc'; exact hsb
      · exact h3 i c' (by omega) hc'
    have hall : (statesN ns c).all (hasL conf) = true ↔ (andL (statesN ns c) conf).length = (statesN ns c).length := by
      rw [andL_eq, List.all_eq_true, List.length_filter_eq_length_iff]
    have bad : ¬ StepB ns conf c → W Q K (Kr false) := fun h => hKr fun hh => h (hh.2 m c hc).2
    refine W_at (by omega) hg (W_nd7 (W_aI ?_))
    refine W_beqI (fun h2 => ?_) (fun h2 => ?_)
    · refine W_not (W_beqI (fun e1 => ?_) (fun e1 => bad fun hh => e1 (by rw [← andL_eq, (hh n hn).1 h2]; rfl)))
      refine W_at (by omega) hg (W_nd7 (W_aI ?_))
      exact W_eqN (by omega) (next fun n' hn' => by rw [hn] at hn'; cases hn'; exact ⟨fun _ => by rw [andL_eq]; omega, fun e => by omega⟩)
    · refine W_at (by omega) hg (W_nd7 (W_aI ?_))
      refine W_beqI (fun h4 => ?_) (fun h4 => next fun n' hn' => by rw [hn] at hn'; cases hn'; exact ⟨fun e => absurd e h2, fun e => absurd e h4⟩)
      refine W_not (W_bool (fun hb => next fun n' hn' => by rw [hn] at hn'; cases hn'; exact ⟨fun e => absurd e h2, fun _ => hall.1 hb⟩) (fun hb => bad fun hh => ?_))
      have := hall.2 ((hh n hn).2 h4)
      rw [hb] at this; cases this
theorem clegal_ok (hk : 10000 ≤ k) (hI : CIsOK G) (hH : HistOK G) (hK : KidsOK 23 G) : LegalOK 29 (fun _ args (K : List V → Option R) => g29 G k args K) := by
  intro ns conf K T hl hcl
  show W _ K (f29 G k (ns.map Nd.v) (ivs conf) K)
  unfold f29
  refine W_beqI (fun h => W_ret ⟨false, rfl, by simp; intro hh; have := legal_head hh; have := (List.getElem?_eq_some_iff.1 this).1; rw [ivs_len] at h; omega⟩) (fun h => ?_)
  rw [ivs_len] at h
  obtain ⟨x, hx⟩ := get_ex (l := conf) (m := 0) (by omega)
  refine W_yes (by rw [ivs_len]; omega) ?_
  refine W_nth (by rw [ivs_len]; omega) (fun v hv _ => ?_)
  rw [ivs_at hx] at hv
  cases hv
  refine W_aI ?_
  refine W_not (W_beqI (fun h0 => ?_) (fun h0 => W_ret ⟨false, rfl, by simp; intro hh; have := legal_head hh; rw [hx] at this; cases this; exact h0 rfl⟩))
  subst h0
  rw [List.length_map, Int.toNat_natCast, actV_nil]
  refine W_chk (by simp; omega) ?_
  unfold l29_0
  rw [ivs_len]
  refine clegal_loop0 hI hH T hl hcl (fun hsa => ?_) (fun h => W_ret ⟨false, rfl, by simp; exact h⟩) k 0 (by omega) (by omega) (fun i c hi => by omega)
  unfold l29_2
  rw [ivs_len]
  exact clegal_loop2 hk hH hK T hl hcl hsa (fun hsb => W_ret ⟨true, rfl, by simp; exact ⟨List.mem_of_getElem? hx, fun i c hc => ⟨hsa i c hc, hsb i c hc⟩⟩⟩) (fun h => W_ret ⟨false, rfl, by simp; exact h⟩) k 0 (by omega) (by omega) (fun i c hi => by omega)
end
end Go.Proofs.Ytblabbcmokldiaa.Vm
open Go Go.VM
set_option linter.unusedVariables false
set_option linter.unusedSimpArgs false
set_option maxRecDepth 100000
set_option maxHeartbeats 8000000
namespace Go.Proofs.Ytblabbcmokldiaa.Vm
section
variable {R : Type} {G : ORC R} {k : Nat} {K : List V → Option R}
def AtomicOK (f : FuncId) (G : ORC R) : Prop := ∀ (ns : List Nd) (conf : List Int) (K : List V → Option R), conf.length ≤ 9000 → W (fun o => o = [.sl 1 (ivs (atomN ns conf))]) K (G f [.sl 7 (ns.map Nd.v), .sl 1 (ivs conf)] K)
theorem atomAt_in {ns : List Nd} {c : Int} {n : Nd} (hr : 0 ≤ c ∧ c < ns.length) (hn : ns[c.toNat]? = some n) : atomAt ns c = decide (n.kind = 1) := by unfold atomAt; rw [hn, decide_eq_true hr]; rfl
theorem atomAt_out {ns : List Nd} {c : Int} (hr : ¬ (0 ≤ c ∧ c < ns.length)) : atomAt ns c = false := by unfold atomAt; rw [decide_eq_false hr]; rfl
theorem atomic_loop (hI : IsOK G) {Q : List V → Prop} {K : List V → Option R} {Ko : List V → Option R} {ns : List Nd} {conf : List Int} (hcl : conf.length ≤ 9000) (hKo : W Q K (Ko (ivs (atomN ns conf)))) :
    ∀ (j m : Nat), conf.length - m < j → m ≤ conf.length → W Q K (l32_0g G k Ko j (ns.map Nd.v) (ivs conf) (ivs (atomN ns (conf.take m))) m)
  | 0, m, h1, h2 => by omega
  | j + 1, m, h1, h2 => by
    show W Q K (b32_0 G k (l32_0g G k Ko j) Ko (ns.map Nd.v) (ivs conf) (ivs (atomN ns (conf.take m))) m)
    unfold b32_0
    refine W_dec (fun h => ?_) (fun h => by rw [ivs_len] at h; rw [List.take_of_length_le (by omega)]; exact hKo)
    rw [ivs_len] at h
    obtain ⟨c, hc⟩ := get_ex (l := conf) (m := m) (by omega)
    unfold IsOK at hI
    have hfl : (atomN ns (conf.take m)).length ≤ 9000 := Nat.le_trans (List.length_filter_le _ _) (by rw [List.length_take]; omega)
    have next : ∀ a, a = ivs (atomN ns (conf.take (m + 1))) → W Q K (l32_0g G k Ko j (ns.map Nd.v) (ivs conf) a (IntKind.i64.wrap ((m : Int) + 1))) := fun a ha => by
      rw [wrap_id (n := (m : Int) + 1) (by omega), ha]
      exact atomic_loop hI hcl hKo j (m + 1) (by omega) (by omega)
    unfold atomN at next
    rw [take_snoc hc, filt_snoc] at next
    refine W_at (by omega) (ivs_atZ hc) (W_aI ?_)
    refine W_call (hI _ _ _) ?_
    rintro _ rfl
    (repeat (with_reducible (first | (refine W_uI ?_) | (refine W_uS ?_) | (refine W_uL ?_) | (refine W_uA ?_) | (refine W_uB ?_) | (refine W_aI ?_) | (refine W_aL ?_) | (refine W_ca3 ?_) | (refine W_ce3 ?_) | (refine W_ca4 ?_) | (refine W_ce4 ?_) | (refine W_ca5 ?_) | (refine W_ce5 ?_) | (refine W_ca6 ?_) | (refine W_ce6 ?_) | (refine W_ca7 ?_) | (refine W_ce7 ?_) | (refine W_ca8 ?_) | (refine W_ce8 ?_) | (refine W_nd7 ?_) | (refine W_unCons ?_) | (refine W_unNil ?_) | (refine W_asInt ?_) | (refine W_asBool ?_) | (refine W_asStr ?_) | (refine W_asSl ?_) | (refine W_asAgg ?_) | (refine W_kd ?_) | (refine W_z ?_))))
    refine W_dec (fun hr => ?_) (fun hr => ?_)
    · rw [List.length_map] at hr
      obtain ⟨n, hn⟩ : ∃ n, ns[c.toNat]? = some n := ⟨_, List.getElem?_eq_getElem (by omega)⟩
      rw [atomAt_in hr hn] at next
      refine W_at (by omega) (ivs_atZ hc) (W_aI ?_)
      refine W_at (by omega) (nd_get hn) (W_nd7 (W_aI ?_))
      refine W_beqI (fun h1 => ?_) (fun h1 => next _ (by rw [decide_eq_false h1]; simp [atomN]))
      refine W_at (by omega) (ivs_atZ hc) (W_aI ?_)
      exact W_yes (by rw [ivs_len]; omega) (next _ (by rw [decide_eq_true h1]; simp [ivs, atomN]))
    · rw [List.length_map] at hr
      rw [atomAt_out hr] at next
      exact next _ (by simp [atomN])
theorem atomic_ok (hk : 10000 ≤ k) (hI : IsOK G) : AtomicOK 32 (fun _ args (K : List V → Option R) => g32 G k args K) := by
  intro ns conf K hcl
  show W _ K (f32 G k (ns.map Nd.v) (ivs conf) K)
  unfold f32 l32_0
  exact atomic_loop (Q := fun o => o = [.sl 1 (ivs (atomN ns conf))]) (K := K) (Ko := fun x => K [.sl 1 x]) hI hcl (W_ret rfl) k 0 (by omega) (by omega)
theorem catomic_loop (hI : CIsOK G) {Q : List V → Prop} {K : List V → Option R} {Ko : List V → Option R} {ns : List Nd} {conf : List Int} (hcl : conf.length ≤ 9000) (hKo : W Q K (Ko (ivs (atomN ns conf)))) :
    ∀ (j m : Nat), conf.length - m < j → m ≤ conf.length → W Q K (l31_0g G k Ko j (ns.map Nd.v) (ivs (atomN ns (conf.take m))) (ivs conf) conf.length m)
  | 0, m, h1, h2 => by omega
  | j + 1, m, h1, h2 => by
    show W Q K (b31_0 G k (l31_0g G k Ko j) Ko (ns.map Nd.v) (ivs (atomN ns (conf.take m))) (ivs conf) conf.length m)
    unfold b31_0
    refine W_dec (fun h => ?_) (fun h => by rw [List.take_of_length_le (by omega)]; exact hKo)
    obtain ⟨c, hc⟩ := get_ex (l := conf) (m := m) (by omega)
    unfold CIsOK at hI
    have hfl : (atomN ns (conf.take m)).length ≤ 9000 := Nat.le_trans (List.length_filter_le _ _) (by rw [List.length_take]; omega)
    have next : ∀ a, a = ivs (atomN ns (conf.take (m + 1))) → W Q K (l31_0g G k Ko j (ns.map Nd.v) a (ivs conf) conf.length (IntKind.i64.wrap ((m : Int) + 1))) := fun a ha => by
      rw [wrap_id (n := (m : Int) + 1) (by omega), ha]
      exact catomic_loop hI hcl hKo j (m + 1) (by omega) (by omega)
    unfold atomN at next
    rw [take_snoc hc, filt_snoc] at next
    refine W_at (by omega) (ivs_atZ hc) (W_aI ?_)
    refine W_call (hI _ _ _) ?_
    rintro _ rfl
    (repeat (with_reducible (first | (refine W_uI ?_) | (refine W_uS ?_) | (refine W_uL ?_) | (refine W_uA ?_) | (refine W_uB ?_) | (refine W_aI ?_) | (refine W_aL ?_) | (refine W_ca3 ?_) | (refine W_ce3 ?_) | (refine W_ca4 ?_) | (refine W_ce4 ?_) | (refine W_ca5 ?_) | (refine W_ce5 ?_) | (refine W_ca6 ?_) | (refine W_ce6 ?_) | (refine W_ca7 ?_) | (refine W_ce7 ?_) | (refine W_ca8 ?_) | (refine W_ce8 ?_) | (refine W_nd7 ?_) | (refine W_unCons ?_) | (refine W_unNil ?_) | (refine W_asInt ?_) | (refine W_asBool ?_) | (refine W_asStr ?_) | (refine W_asSl ?_) | (refine W_asAgg ?_) | (refine W_kd ?_) | (refine W_z ?_))))
    refine W_dec (fun hr => ?_) (fun hr => ?_)
    · rw [List.length_map] at hr
      obtain ⟨n, hn⟩ : ∃ n, ns[c.toNat]? = some n := ⟨_, List.getElem?_eq_getElem (by omega)⟩
      rw [atomAt_in hr hn] at next
      refine W_at (by omega) (nd_get hn) (W_nd7 (W_aI ?_))
      refine W_beqI (fun h1 => ?_) (fun h1 => next _ (by rw [decide_eq_false h1]; simp [atomN]))
      exact W_yes (by rw [ivs_len]; omega) (next _ (by rw [decide_eq_true h1]; simp [ivs, atomN]))
    · rw [List.length_map] at hr
      rw [atomAt_out hr] at next
      exact next _ (by simp [atomN])
theorem catomic_ok (hk : 10000 ≤ k) (hI : CIsOK G) : AtomicOK 31 (fun _ args (K : List V → Option R) => g31 G k args K) := by
  intro ns conf K hcl
  show W _ K (f31 G k (ns.map Nd.v) (ivs conf) K)
  unfold f31 l31_0
  rw [ivs_len]
  exact catomic_loop (Q := fun o => o = [.sl 1 (ivs (atomN ns conf))]) (K := K) (Ko := fun x => K [.sl 1 x]) hI hcl (W_ret rfl) k 0 (by omega) (by omega)
/-! The document's Full. -/
def FullOK (f : FuncId) (G : ORC R) : Prop := ∀ (ns : List Nd) (l : List Int) (K : List V → Option R), Tree ns → ns.length ≤ 100 → l.length ≤ 80 → W (fun o => ∃ a p, o = [.sl 1 (ivs a), .bool p] ∧ FullS ns l a p) K (G f [.sl 7 (ns.map Nd.v), .sl 1 (ivs l)] K)
theorem full_up {Q : List V → Prop} {K : List V → Option R} {Ko : List V → List V → List V → Int → Option R} {ns : List Nd} {l : List Int} {x : Int} (T : Tree ns) {s : List Int} {c : Int} (hsl : (s ++ chainN ns c).length ≤ 9000) (hKo : W Q K (Ko (ns.map Nd.v) (ivs l) (ivs (s ++ chainN ns c)) x)) (hr : -1 ≤ c ∧ c < ns.length) :
    ∀ (j : Nat), c + 1 < j → W Q K (l28_2g G k Ko j (ns.map Nd.v) (ivs l) (ivs s) x c)
  | 0, h1 => by
    exfalso; omega
  | j + 1, h1 => by
    show W Q K (b28_2 G k (l28_2g G k Ko j) Ko (ns.map Nd.v) (ivs l) (ivs s) x c)
    unfold b28_2
    refine W_dec (fun h => ?_) (fun h => by rw [chain_neg (by omega), List.append_nil] at hKo; exact hKo)
    obtain ⟨n, hn⟩ : ∃ n, ns[c.toNat]? = some n := ⟨_, List.getElem?_eq_getElem (by omega)⟩
    have hp := T.seg.par _ n hn
    rw [chain_cons T (by omega) hn] at hsl hKo
    refine W_yes (by rw [ivs_len]; simp at hsl; omega) ?_
    refine W_at (by omega) (nd_get hn) (W_nd7 (W_aI ?_))
    have e : ivs s ++ [.int .i64 c] = ivs (s ++ [c]) := by simp [ivs]
    rw [e]
    exact full_up T (s := s ++ [c]) (c := n.parent) (by simpa using hsl) (by simpa using hKo) (by omega) j (by omega)
theorem full_loop (hk : 10000 ≤ k) (hI : IsOK G) (hH : HasOK G) {Q : List V → Prop} {K : List V → Option R} {Ko : List V → List V → Option R} {Kr : List V → Bool → Option R} {ns : List Nd} {l : List Int} (T : Tree ns) (hl : ns.length ≤ 100) (hll : l.length ≤ 80)
    (hKo : GoodP ns l → W Q K (Ko (ns.map Nd.v) (ivs (chainsN ns l)))) (hKr : ¬ GoodP ns l → W Q K (Kr [] false)) :
    ∀ (j m : Nat), l.length - m < j → m ≤ l.length → (∀ (i : Nat) c, i < m → l[i]? = some c → StepF ns l i c) → W Q K (l28_0g G k Ko Kr j (ns.map Nd.v) (ivs l) (ivs (chainsN ns (l.take m))) m)
  | 0, m, h1, h2, h3 => by omega
  | j + 1, m, h1, h2, h3 => by
    show W Q K (b28_0 G k (l28_0g G k Ko Kr j) Ko Kr (ns.map Nd.v) (ivs l) (ivs (chainsN ns (l.take m))) m)
    unfold b28_0
    refine W_dec (fun h => ?_) (fun h => by rw [ivs_len] at h; rw [List.take_of_length_le (by omega)]; exact hKo fun i c hc => h3 i c (by have := (List.getElem?_eq_some_iff.1 hc).1; omega) hc)
    rw [ivs_len] at h
    obtain ⟨c, hc⟩ := get_ex (l := l) (m := m) (by omega)
    have hH' := hH
    have hI' := hI
    unfold IsOK at hI'; unfold HasOK at hH'
    have bad : ¬ StepF ns l m c → W Q K (Kr [] false) := fun h => hKr fun hh => h (hh m c hc)
    refine W_at (by omega) (ivs_atZ hc) (W_aI ?_)
    refine W_call (hI' _ _ _) ?_
    rintro _ rfl
    (repeat (with_reducible (first | (refine W_uI ?_) | (refine W_uS ?_) | (refine W_uL ?_) | (refine W_uA ?_) | (refine W_uB ?_) | (refine W_aI ?_) | (refine W_aL ?_) | (refine W_ca3 ?_) | (refine W_ce3 ?_) | (refine W_ca4 ?_) | (refine W_ce4 ?_) | (refine W_ca5 ?_) | (refine W_ce5 ?_) | (refine W_ca6 ?_) | (refine W_ce6 ?_) | (refine W_ca7 ?_) | (refine W_ce7 ?_) | (refine W_ca8 ?_) | (refine W_ce8 ?_) | (refine W_nd7 ?_) | (refine W_unCons ?_) | (refine W_unNil ?_) | (refine W_asInt ?_) | (refine W_asBool ?_) | (refine W_asStr ?_) | (refine W_asSl ?_) | (refine W_asAgg ?_) | (refine W_kd ?_) | (refine W_z ?_))))
    refine W_not (W_dec (fun hr => ?_) (fun hr => bad fun hh => by rw [List.length_map] at hr; have := hh.1; rw [atomAt_out hr] at this; cases this))
    rw [List.length_map] at hr
    obtain ⟨n, hn⟩ : ∃ n, ns[c.toNat]? = some n := ⟨_, List.getElem?_eq_getElem (by omega)⟩
    refine W_at (by omega) (ivs_atZ hc) (W_aI ?_)
    refine W_at (by omega) (nd_get hn) (W_nd7 (W_aI ?_))
    refine W_not (W_beqI (fun hk1 => ?_) (fun hk1 => bad fun hh => by have := hh.1; rw [atomAt_in hr hn] at this; exact hk1 (of_decide_eq_true this)))
    have hat : atomAt ns c = true := by rw [atomAt_in hr hn]; exact decide_eq_true hk1
    refine W_and (W_yes (by omega) (W_yes (by rw [ivs_len]; omega) ?_))
    refine W_at (by omega) (ivs_atZ hc) (W_aI ?_)
    have et : List.take ((m : Nat) : Int).toNat (ivs l) = ivs (l.take m) := by rw [Int.toNat_natCast]; unfold ivs; rw [List.map_take]
    rw [et]
    refine W_call (hH' _ _ _ (by rw [List.length_take]; omega)) ?_
    rintro _ rfl
    (repeat (with_reducible (first | (refine W_uI ?_) | (refine W_uS ?_) | (refine W_uL ?_) | (refine W_uA ?_) | (refine W_uB ?_) | (refine W_aI ?_) | (refine W_aL ?_) | (refine W_ca3 ?_) | (refine W_ce3 ?_) | (refine W_ca4 ?_) | (refine W_ce4 ?_) | (refine W_ca5 ?_) | (refine W_ce5 ?_) | (refine W_ca6 ?_) | (refine W_ce6 ?_) | (refine W_ca7 ?_) | (refine W_ce7 ?_) | (refine W_ca8 ?_) | (refine W_ce8 ?_) | (refine W_nd7 ?_) | (refine W_unCons ?_) | (refine W_unNil ?_) | (refine W_asInt ?_) | (refine W_asBool ?_) | (refine W_asStr ?_) | (refine W_asSl ?_) | (refine W_asAgg ?_) | (refine W_kd ?_) | (refine W_z ?_))))
    refine W_bool (fun hb => bad fun hh => hh.2 (hasL_iff.1 hb)) (fun hb => ?_)
    have hsf : StepF ns l m c := ⟨hat, fun hh => by rw [← hasL_iff, hb] at hh; cases hh⟩
    refine W_at (by omega) (ivs_atZ hc) (W_aI ?_)
    unfold l28_2
    have hall : ∀ x ∈ l.take (m + 1), x < (ns.length : Int) := fun x hx => by
      obtain ⟨i, hi, e⟩ := List.mem_iff_getElem.1 hx
      rw [List.length_take] at hi
      have ei : l[i]? = some x := by rw [List.getElem_take] at e; rw [List.getElem?_eq_getElem (by omega), e]
      by_cases e2 : i = m
      · subst e2; rw [hc] at ei; cases ei; exact hr.2
      · exact (atomAt_iff.1 (h3 i x (by omega) ei).1).2.1
    have hcl := chains_len T hall
    rw [take_snoc hc, chains_snoc] at hcl
    have hb2 : (l.take m ++ [c]).length * ns.length ≤ 81 * 100 := Nat.mul_le_mul (by rw [List.length_append, List.length_take]; simp; omega) hl
    refine full_up T (by omega) ?_ ⟨by omega, hr.2⟩ k (by omega)
    rw [wrap_id (n := (m : Int) + 1) (by omega), ← chains_snoc, ← take_snoc hc]
    refine full_loop hk hI hH T hl hll hKo hKr j (m + 1) (by omega) (by omega) fun i c' hi hc' => ?_
    by_cases e : i = m
    · subst e; rw [hc] at hc'; cases hc'; exact hsf
    · exact h3 i c' (by omega) hc'
theorem good_lt {ns : List Nd} {l : List Int} (h : GoodP ns l) {c : Int} (hc : c ∈ l) : atomAt ns c = true := by
  obtain ⟨i, hi, e⟩ := List.mem_iff_getElem.1 hc
  exact (h i c (by rw [List.getElem?_eq_getElem hi, e])).1
theorem full_ok (hk : 10000 ≤ k) (hI : IsOK G) (hH : HasOK G) (hO : OfOK G) (hL : LegalOK 30 G) : FullOK 28 (fun _ args (K : List V → Option R) => g28 G k args K) := by
  intro ns l K T hl hll
  show W _ K (f28 G k (ns.map Nd.v) (ivs l) K)
  unfold f28 l28_0
  refine full_loop hk hI hH T hl hll (fun hg => ?_) (fun hg => W_ret ⟨[], false, rfl, ⟨fun e => (by cases e), fun _ => ⟨rfl, fun hh => hg hh.1⟩⟩⟩) k 0 (by omega) (by omega) (fun i c hi => by omega)
  unfold OfOK at hO; unfold LegalOK at hL
  have hcl := chains_len T (l := l) (fun c hc => (atomAt_iff.1 (good_lt hg hc)).2.1)
  have hb2 : l.length * ns.length ≤ 81 * 100 := Nat.mul_le_mul (by omega) hl
  refine W_call (hO _ _ (by omega)) ?_
  rintro _ rfl
  (repeat (with_reducible (first | (refine W_uI ?_) | (refine W_uS ?_) | (refine W_uL ?_) | (refine W_uA ?_) | (refine W_uB ?_) | (refine W_aI ?_) | (refine W_aL ?_) | (refine W_ca3 ?_) | (refine W_ce3 ?_) | (refine W_ca4 ?_) | (refine W_ce4 ?_) | (refine W_ca5 ?_) | (refine W_ce5 ?_) | (refine W_ca6 ?_) | (refine W_ce6 ?_) | (refine W_ca7 ?_) | (refine W_ce7 ?_) | (refine W_ca8 ?_) | (refine W_ce8 ?_) | (refine W_nd7 ?_) | (refine W_unCons ?_) | (refine W_unNil ?_) | (refine W_asInt ?_) | (refine W_asBool ?_) | (refine W_asStr ?_) | (refine W_asSl ?_) | (refine W_asAgg ?_) | (refine W_kd ?_) | (refine W_z ?_))))
  refine W_call (hL _ _ _ T (by omega) (Nat.le_trans ofGo_len (by omega))) ?_
  rintro _ ⟨b, rfl, hb⟩
  (repeat (with_reducible (first | (refine W_uI ?_) | (refine W_uS ?_) | (refine W_uL ?_) | (refine W_uA ?_) | (refine W_uB ?_) | (refine W_aI ?_) | (refine W_aL ?_) | (refine W_ca3 ?_) | (refine W_ce3 ?_) | (refine W_ca4 ?_) | (refine W_ce4 ?_) | (refine W_ca5 ?_) | (refine W_ce5 ?_) | (refine W_ca6 ?_) | (refine W_ce6 ?_) | (refine W_ca7 ?_) | (refine W_ce7 ?_) | (refine W_ca8 ?_) | (refine W_ce8 ?_) | (refine W_nd7 ?_) | (refine W_unCons ?_) | (refine W_unNil ?_) | (refine W_asInt ?_) | (refine W_asBool ?_) | (refine W_asStr ?_) | (refine W_asSl ?_) | (refine W_asAgg ?_) | (refine W_kd ?_) | (refine W_z ?_))))
  refine W_not (W_bool (fun h => W_ret ⟨_, true, rfl, ⟨fun _ => ⟨hg, hb.1 h, rfl⟩, fun e => by cases e⟩⟩) (fun h => W_ret ⟨[], false, rfl, ⟨fun e => (by cases e), fun _ => ⟨rfl, fun hh => by have := hb.2 hh.2; rw [h] at this; cases this⟩⟩⟩))
end
end Go.Proofs.Ytblabbcmokldiaa.Vm
open Go Go.VM
set_option linter.unusedVariables false
set_option linter.unusedSimpArgs false
set_option maxRecDepth 100000
set_option maxHeartbeats 8000000
namespace Go.Proofs.Ytblabbcmokldiaa.Vm
section
variable {R : Type} {G : ORC R} {k : Nat} {K : List V → Option R}
theorem cfull_up (hI : CIsOK G) {Q : List V → Prop} {K : List V → Option R} {Ko : List V → List V → List V → Int → Int → Option R} {ns : List Nd} {lv : List V} {x1 x2 : Int} (T : Tree ns) (hl : ns.length ≤ 1000) {s0 : List Int} {c0 : Int} 
    (hKo : ∀ s : List Int, (∀ x, x ∈ s ↔ x ∈ s0 ∨ x ∈ chainN ns c0) → W Q K (Ko (ns.map Nd.v) (actV ns.length s) lv x1 x2)) :
    ∀ (j : Nat) (c : Int) (s : List Int), c + 1 < j → -1 ≤ c → c < ns.length → (∀ x, (x ∈ s ∨ x ∈ chainN ns c) ↔ x ∈ s0 ∨ x ∈ chainN ns c0) → (∀ x ∈ s, x ≤ c → ∀ y ∈ chainN ns x, y ∈ s) →
      W Q K (l27_2g G k Ko j (ns.map Nd.v) (actV ns.length s) c lv x1 x2)
  | 0, c, s, h1, h2, h3, h4, h5 => by exfalso; omega
  | j + 1, c, s, h1, h2, h3, h4, h5 => by
    show W Q K (b27_2 G k (l27_2g G k Ko j) Ko (ns.map Nd.v) (actV ns.length s) c lv x1 x2)
    unfold b27_2
    have hI' := hI
    unfold CIsOK at hI'
    refine W_call (hI' _ _ _) ?_
    rintro _ rfl
    (repeat (with_reducible (first | (refine W_uI ?_) | (refine W_uS ?_) | (refine W_uL ?_) | (refine W_uA ?_) | (refine W_uB ?_) | (refine W_aI ?_) | (refine W_aL ?_) | (refine W_ca3 ?_) | (refine W_ce3 ?_) | (refine W_ca4 ?_) | (refine W_ce4 ?_) | (refine W_ca5 ?_) | (refine W_ce5 ?_) | (refine W_ca6 ?_) | (refine W_ce6 ?_) | (refine W_ca7 ?_) | (refine W_ce7 ?_) | (refine W_ca8 ?_) | (refine W_ce8 ?_) | (refine W_nd7 ?_) | (refine W_unCons ?_) | (refine W_unNil ?_) | (refine W_asInt ?_) | (refine W_asBool ?_) | (refine W_asStr ?_) | (refine W_asSl ?_) | (refine W_asAgg ?_) | (refine W_kd ?_) | (refine W_z ?_))))
    refine W_dec (fun hr => ?_) (fun hr => ?_)
    · rw [List.length_map] at hr
      obtain ⟨n, hn⟩ : ∃ n, ns[c.toNat]? = some n := ⟨_, List.getElem?_eq_getElem (by omega)⟩
      have hp := T.seg.par _ n hn
      have ec := chain_cons T hr.1 hn
      refine W_at (by omega) (act_at hr.1 hr.2) (W_asBool ?_)
      refine W_not (W_bool (fun hb => hKo s fun x => ?_) (fun hb => ?_))
      · rw [← h4]
        exact ⟨.inl, fun h => h.elim id (h5 c (hasL_iff.1 hb) (Int.le_refl _) x)⟩
      · refine W_at (by omega) (act_at hr.1 hr.2) ?_
        refine W_at (by omega) (nd_get hn) (W_nd7 (W_aI ?_))
        rw [actV_set hr.1 (by omega)]
        refine cfull_up hI T hl hKo j n.parent (s ++ [c]) (by omega) (by omega) (by omega) (fun x => ?_) (fun x hx hle y hy => ?_)
        · rw [← h4, ec, List.mem_append, List.mem_singleton, List.mem_cons, or_assoc]
        · rw [List.mem_append, List.mem_singleton] at hx ⊢
          rcases hx with hx | rfl
          · exact .inl (h5 x hx (by omega) y hy)
          · omega
    · rw [List.length_map] at hr
      refine hKo s fun x => ?_
      rw [← h4, chain_neg (by omega)]; simp
theorem cfull_loop (hk : 10000 ≤ k) (hI : CIsOK G) {Q : List V → Prop} {K : List V → Option R} {Ko : List V → List V → Option R} {Kr : List V → Bool → Option R} {ns : List Nd} {l : List Int} (T : Tree ns) (hl : ns.length ≤ 100) (hll : l.length ≤ 80)
    (hKo : ∀ s : List Int, (∀ x, x ∈ s ↔ x ∈ chainsN ns l) → GoodP ns l → W Q K (Ko (ns.map Nd.v) (actV ns.length s))) (hKr : ¬ GoodP ns l → W Q K (Kr [] false)) :
    ∀ (j m : Nat) (s : List Int), l.length - m < j → m ≤ l.length → (∀ (i : Nat) c, i < m → l[i]? = some c → StepF ns l i c) → (∀ x, x ∈ s ↔ x ∈ chainsN ns (l.take m)) → W Q K (l27_0g G k Ko Kr j (ns.map Nd.v) (actV ns.length s) (ivs l) l.length m)
  | 0, m, s, h1, h2, h3, h4 => by omega
  | j + 1, m, s, h1, h2, h3, h4 => by
    show W Q K (b27_0 G k (l27_0g G k Ko Kr j) Ko Kr (ns.map Nd.v) (actV ns.length s) (ivs l) l.length m)
    unfold b27_0
    refine W_dec (fun h => ?_) (fun h => hKo s (by rw [List.take_of_length_le (by omega)] at h4; exact h4) fun i c hc => h3 i c (by have := (List.getElem?_eq_some_iff.1 hc).1; omega) hc)
    obtain ⟨c, hc⟩ := get_ex (l := l) (m := m) (by omega)
    have hI' := hI
    unfold CIsOK at hI'
    have bad : ¬ StepF ns l m c → W Q K (Kr [] false) := fun h => hKr fun hh => h (hh m c hc)
    have hat' : ∀ x ∈ l.take m, atomAt ns x = true := fun x hx => by
      obtain ⟨i, hi, e⟩ := List.mem_iff_getElem.1 hx
      rw [List.length_take] at hi
      exact (h3 i x (by omega) (by rw [List.getElem_take] at e; rw [List.getElem?_eq_getElem (by omega), e])).1
    refine W_at (by omega) (ivs_atZ hc) (W_aI ?_)
    refine W_call (hI' _ _ _) ?_
    rintro _ rfl
    (repeat (with_reducible (first | (refine W_uI ?_) | (refine W_uS ?_) | (refine W_uL ?_) | (refine W_uA ?_) | (refine W_uB ?_) | (refine W_aI ?_) | (refine W_aL ?_) | (refine W_ca3 ?_) | (refine W_ce3 ?_) | (refine W_ca4 ?_) | (refine W_ce4 ?_) | (refine W_ca5 ?_) | (refine W_ce5 ?_) | (refine W_ca6 ?_) | (refine W_ce6 ?_) | (refine W_ca7 ?_) | (refine W_ce7 ?_) | (refine W_ca8 ?_) | (refine W_ce8 ?_) | (refine W_nd7 ?_) | (refine W_unCons ?_) | (refine W_unNil ?_) | (refine W_asInt ?_) | (refine W_asBool ?_) | (refine W_asStr ?_) | (refine W_asSl ?_) | (refine W_asAgg ?_) | (refine W_kd ?_) | (refine W_z ?_))))
    refine W_not (W_dec (fun hr => ?_) (fun hr => bad fun hh => by rw [List.length_map] at hr; have := hh.1; rw [atomAt_out hr] at this; cases this))
    rw [List.length_map] at hr
    obtain ⟨n, hn⟩ : ∃ n, ns[c.toNat]? = some n := ⟨_, List.getElem?_eq_getElem (by omega)⟩
    refine W_at (by omega) (nd_get hn) (W_nd7 (W_aI ?_))
    refine W_not (W_beqI (fun hk1 => ?_) (fun hk1 => bad fun hh => by have := hh.1; rw [atomAt_in hr hn] at this; exact hk1 (of_decide_eq_true this)))
    have hat : atomAt ns c = true := by rw [atomAt_in hr hn]; exact decide_eq_true hk1
    have hin : c ∈ s ↔ c ∈ l.take m := by rw [h4, atom_chains T hat' hat]
    refine W_at (by omega) (act_at hr.1 hr.2) (W_asBool ?_)
    refine W_bool (fun hb => bad fun hh => hh.2 (hin.1 (hasL_iff.1 hb))) (fun hb => ?_)
    have hsf : StepF ns l m c := ⟨hat, fun hh => by rw [← hin, ← hasL_iff, hb] at hh; cases hh⟩
    unfold l27_2
    refine cfull_up (s0 := s) (c0 := c) hI T (by omega) (fun s' hs' => ?_) k c s (by omega) (by omega) hr.2 (fun x => Iff.rfl) (fun x hx hle y hy => ?_)
    · rw [wrap_id (n := (m : Int) + 1) (by omega)]
      refine cfull_loop hk hI T hl hll hKo hKr j (m + 1) s' (by omega) (by omega) (fun i c' hi hc' => ?_) (fun x => ?_)
      · by_cases e : i = m
        · subst e; rw [hc] at hc'; cases hc'; exact hsf
        · exact h3 i c' (by omega) hc'
      · rw [hs', take_snoc hc, chains_snoc, List.mem_append, h4]
    · rw [h4, mem_chains] at hx ⊢
      obtain ⟨a, ha, hx⟩ := hx
      exact ⟨a, ha, (chain_mem T (atomAt_iff.1 (hat' a ha)).2.1 hx).2.2 y hy⟩
theorem cfull_out {Q : List V → Prop} {K : List V → Option R} {Ko : List V → List V → Option R} {ns : List Nd} {s : List Int} (hl : ns.length ≤ 1000) (hKo : W Q K (Ko (ns.map Nd.v) (ivs (ofGo s ns.length)))) :
    ∀ (j m : Nat), ns.length - m < j → m ≤ ns.length → W Q K (l27_4g G k Ko j (ns.map Nd.v) (actV ns.length s) (ivs (ofGo s m)) ns.length m)
  | 0, m, h1, h2 => by omega
  | j + 1, m, h1, h2 => by
    show W Q K (b27_4 G k (l27_4g G k Ko j) Ko (ns.map Nd.v) (actV ns.length s) (ivs (ofGo s m)) ns.length m)
    unfold b27_4
    refine W_dec (fun h => ?_) (fun h => by rw [show m = ns.length by omega]; exact hKo)
    have hgl := ofGo_len (l := s) (m := m)
    have next : ∀ a, a = ivs (ofGo s (m + 1)) → W Q K (l27_4g G k Ko j (ns.map Nd.v) (actV ns.length s) a ns.length (IntKind.i64.wrap ((m : Int) + 1))) := fun a ha => by
      rw [wrap_id (n := (m : Int) + 1) (by omega), ha]
      exact cfull_out hl hKo j (m + 1) (by omega) (by omega)
    refine W_at (by omega) (act_at (by omega) (by omega)) (W_asBool ?_)
    refine W_bool (fun hb => W_yes (by rw [ivs_len]; omega) (next _ (by rw [ofGo, hb]; simp [ivs]))) (fun hb => next _ (by rw [ofGo, hb]; simp))
theorem cfull_ok (hk : 10000 ≤ k) (hI : CIsOK G) (hL : LegalOK 29 G) : FullOK 27 (fun _ args (K : List V → Option R) => g27 G k args K) := by
  intro ns l K T hl hll
  show W _ K (f27 G k (ns.map Nd.v) (ivs l) K)
  unfold f27
  rw [List.length_map, Int.toNat_natCast, actV_nil]
  refine W_chk (by simp; omega) ?_
  unfold l27_0
  rw [ivs_len]
  refine cfull_loop hk hI T hl hll (fun s hs hg => ?_) (fun hg => W_ret ⟨[], false, rfl, ⟨fun e => (by cases e), fun _ => ⟨rfl, fun hh => hg hh.1⟩⟩⟩) k 0 [] (by omega) (by omega) (fun i c hi => by omega) (fun x => by simp [chainsN])
  unfold l27_4
  rw [actV_len]
  refine cfull_out (by omega) ?_ k 0 (by omega) (by omega)
  have e : ofGo s ns.length = ofL (chainsN ns l) := by
    rw [ofGo_congr hs]
    unfold ofL
    rw [show 128 = ns.length + (128 - ns.length) by omega]
    symm
    refine ofGo_more fun x hx => ?_
    obtain ⟨c, h1, h2⟩ := mem_chains.1 hx
    have h3 := (atomAt_iff.1 (good_lt hg h1)).2.1
    have := (chain_mem T h3 h2).1
    omega
  rw [e]
  unfold LegalOK at hL
  refine W_call (hL _ _ _ T (by omega) (Nat.le_trans ofGo_len (by omega))) ?_
  rintro _ ⟨b, rfl, hb⟩
  (repeat (with_reducible (first | (refine W_uI ?_) | (refine W_uS ?_) | (refine W_uL ?_) | (refine W_uA ?_) | (refine W_uB ?_) | (refine W_aI ?_) | (refine W_aL ?_) | (refine W_ca3 ?_) | (refine W_ce3 ?_) | (refine W_ca4 ?_) | (refine W_ce4 ?_) | (refine W_ca5 ?_) | (refine W_ce5 ?_) | (refine W_ca6 ?_) | (refine W_ce6 ?_) | (refine W_ca7 ?_) | (refine W_ce7 ?_) | (refine W_ca8 ?_) | (refine W_ce8 ?_) | (refine W_nd7 ?_) | (refine W_unCons ?_) | (refine W_unNil ?_) | (refine W_asInt ?_) | (refine W_asBool ?_) | (refine W_asStr ?_) | (refine W_asSl ?_) | (refine W_asAgg ?_) | (refine W_kd ?_) | (refine W_z ?_))))
  refine W_not (W_bool (fun h => W_ret ⟨_, true, rfl, ⟨fun _ => ⟨hg, hb.1 h, rfl⟩, fun e => by cases e⟩⟩) (fun h => W_ret ⟨[], false, rfl, ⟨fun e => (by cases e), fun _ => ⟨rfl, fun hh => by have := hb.2 hh.2; rw [h] at this; cases this⟩⟩⟩))
end
end Go.Proofs.Ytblabbcmokldiaa.Vm
open Go Go.VM
set_option linter.unusedVariables false
set_option linter.unusedSimpArgs false
set_option maxRecDepth 100000
set_option maxHeartbeats 8000000
namespace Go.Proofs.Ytblabbcmokldiaa.Vm
section
variable {R : Type} {G : ORC R} {k : Nat} {K : List V → Option R}
/-- A row of numbers is one of integers. -/
theorem ints_ivs {l : List V} (h : IntsS l) : ∃ z : List Int, l = ivs z := by
  induction l with
  | nil => exact ⟨[], rfl⟩
  | cons a r ih =>
    obtain ⟨z, hz⟩ := ih fun x hx => h x (List.mem_cons_of_mem _ hx)
    obtain ⟨n, hn⟩ := h a List.mem_cons_self
    exact ⟨n :: z, by rw [hz]; simp only [ivs, List.map_cons]; rw [hn.1]⟩
theorem near0 (hP : PlaceS G) {Q : List V → Prop} {K : List V → Option R} {Ko : List V → List V → List V → List V → List V → Option R} {conf : List Int} {at_ few : List V} {ns : List Nd} (hl : ns.length ≤ 1000) (hcl : conf.length ≤ 200)
    (hKo : ∀ z : List Int, z.length = conf.length → W Q K (Ko (ivs conf) at_ (ns.map Nd.v) (ivs z) few)) :
    ∀ (j m : Nat) (z : List Int), conf.length - m < j → m ≤ conf.length → z.length = m → W Q K (l5_0g G k Ko j (ivs conf) at_ (ns.map Nd.v) (ivs z) few m)
  | 0, m, z, h1, h2, h3 => by omega
  | j + 1, m, z, h1, h2, h3 => by
    show W Q K (b5_0 G k (l5_0g G k Ko j) Ko (ivs conf) at_ (ns.map Nd.v) (ivs z) few m)
    unfold b5_0
    refine W_dec (fun h => ?_) (fun h => by rw [ivs_len] at h; exact hKo z (by omega))
    rw [ivs_len] at h
    obtain ⟨c, hc⟩ := get_ex (l := conf) (m := m) (by omega)
    refine W_at (by omega) (ivs_atZ hc) (W_aI ?_)
    unfold PlaceS at hP
    rw [List.length_map, wrap_id (n := (ns.length : Int) + 1) (by omega)]
    refine W_call (hP _ _ _ (by omega) (by omega)) ?_
    rintro _ ⟨x, rfl, _⟩
    (repeat (with_reducible (first | (refine W_uI ?_) | (refine W_uS ?_) | (refine W_uL ?_) | (refine W_uA ?_) | (refine W_uB ?_) | (refine W_aI ?_) | (refine W_aL ?_) | (refine W_ca3 ?_) | (refine W_ce3 ?_) | (refine W_ca4 ?_) | (refine W_ce4 ?_) | (refine W_ca5 ?_) | (refine W_ce5 ?_) | (refine W_ca6 ?_) | (refine W_ce6 ?_) | (refine W_ca7 ?_) | (refine W_ce7 ?_) | (refine W_ca8 ?_) | (refine W_ce8 ?_) | (refine W_nd7 ?_) | (refine W_unCons ?_) | (refine W_unNil ?_) | (refine W_asInt ?_) | (refine W_asBool ?_) | (refine W_asStr ?_) | (refine W_asSl ?_) | (refine W_asAgg ?_) | (refine W_kd ?_) | (refine W_z ?_))))
    refine W_yes (by rw [ivs_len]; omega) ?_
    rw [wrap_id (n := (m : Int) + 1) (by omega), show ivs z ++ [.int .i64 x] = ivs (z ++ [x]) by simp [ivs]]
    exact near0 hP hl hcl hKo j (m + 1) (z ++ [x]) (by omega) (by omega) (by simp; omega)
theorem near2 (hP : PlaceS G) {Q : List V → Prop} {K : List V → Option R} {Ko : List V → List V → List V → List V → List V → Option R} {conf : List Int} {at_ few : List V} {ns : List Nd} (hl : ns.length ≤ 1000) (hcl : conf.length ≤ 200)
    (hKo : ∀ z : List Int, z.length = conf.length → W Q K (Ko at_ (ivs conf) (ns.map Nd.v) few (ivs z))) :
    ∀ (j m : Nat) (z : List Int), conf.length - m < j → m ≤ conf.length → z.length = m → W Q K (l5_2g G k Ko j at_ (ivs conf) (ns.map Nd.v) few (ivs z) m)
  | 0, m, z, h1, h2, h3 => by omega
  | j + 1, m, z, h1, h2, h3 => by
    show W Q K (b5_2 G k (l5_2g G k Ko j) Ko at_ (ivs conf) (ns.map Nd.v) few (ivs z) m)
    unfold b5_2
    refine W_dec (fun h => ?_) (fun h => by rw [ivs_len] at h; exact hKo z (by omega))
    rw [ivs_len] at h
    obtain ⟨c, hc⟩ := get_ex (l := conf) (m := m) (by omega)
    refine W_at (by omega) (ivs_atZ hc) (W_aI ?_)
    unfold PlaceS at hP
    rw [List.length_map, wrap_id (n := (ns.length : Int) + 1) (by omega)]
    refine W_call (hP _ _ _ (by omega) (by omega)) ?_
    rintro _ ⟨x, rfl, _⟩
    (repeat (with_reducible (first | (refine W_uI ?_) | (refine W_uS ?_) | (refine W_uL ?_) | (refine W_uA ?_) | (refine W_uB ?_) | (refine W_aI ?_) | (refine W_aL ?_) | (refine W_ca3 ?_) | (refine W_ce3 ?_) | (refine W_ca4 ?_) | (refine W_ce4 ?_) | (refine W_ca5 ?_) | (refine W_ce5 ?_) | (refine W_ca6 ?_) | (refine W_ce6 ?_) | (refine W_ca7 ?_) | (refine W_ce7 ?_) | (refine W_ca8 ?_) | (refine W_ce8 ?_) | (refine W_nd7 ?_) | (refine W_unCons ?_) | (refine W_unNil ?_) | (refine W_asInt ?_) | (refine W_asBool ?_) | (refine W_asStr ?_) | (refine W_asSl ?_) | (refine W_asAgg ?_) | (refine W_kd ?_) | (refine W_z ?_))))
    refine W_yes (by rw [ivs_len]; omega) ?_
    rw [wrap_id (n := (m : Int) + 1) (by omega), show ivs z ++ [.int .i64 x] = ivs (z ++ [x]) by simp [ivs]]
    exact near2 hP hl hcl hKo j (m + 1) (z ++ [x]) (by omega) (by omega) (by simp; omega)
def LegalLawOK (G : ORC R) : Prop := ∀ (v a b : List V) (K : List V → Option R), IntsS v → IntsS a → IntsS b → W (fun o => o = [.bool true]) K (G 5 [.sl 1 v, .sl 1 a, .sl 1 b] K)
theorem iff_beq {a b : Bool} {P : Prop} (ha : a = true ↔ P) (hb : b = true ↔ P) : (a == b) = true := by
  cases a <;> cases b <;> simp_all
theorem legal_law (hk : 10000 ≤ k) (hKn : KnOK G) (hM : MadeOK G) (hN : NodesOK G) (hP : PlaceS G) (hO : OfOK G) (hF : FullOK 28 G) (hCF : FullOK 27 G) (hL : LegalOK 30 G) (hCL : LegalOK 29 G) (hA : AtomicOK 32 G) (hCA : AtomicOK 31 G) (hSm : SameOK G) : LegalLawOK (fun _ args (K : List V → Option R) => g5 G k args K) := by
  intro v a b K hv ha hb
  show W _ K (f5 G k v a b K)
  unfold f5
  obtain ⟨a, rfl⟩ := ints_ivs ha
  obtain ⟨b, rfl⟩ := ints_ivs hb
  refine W_dec (fun _ => kn_go hKn) (fun h => ?_)
  refine W_dec (fun _ => kn_go hKn) (fun h2 => ?_)
  refine W_dec (fun _ => kn_go hKn) (fun h3 => ?_)
  rw [ivs_len] at h2 h3
  have hM' := hM
  have hN' := hN
  unfold MadeOK at hM'; unfold NodesOK at hN'; unfold OfOK at hO; unfold FullOK at hF hCF; unfold LegalOK at hL hCL; unfold AtomicOK at hA hCA; unfold SameOK at hSm
  refine W_call (hM' v _ hv (by omega)) ?_
  rintro _ ⟨c, rfl, hc⟩
  obtain ⟨nm, st, fu, vars, ports, timers, states, rfl, x1, x2, x3, x4, x5, x6, x7, x8, x9, x10, x11, x12, x13⟩ := hc
  have hlen : (ndsOf states).length = 1 + nszL 3 states := by unfold ndsOf; rw [List.length_cons, forest_len]; omega
  have T := tree_nds x11 x10
  (repeat (with_reducible (first | (refine W_uI ?_) | (refine W_uS ?_) | (refine W_uL ?_) | (refine W_uA ?_) | (refine W_uB ?_) | (refine W_aI ?_) | (refine W_aL ?_) | (refine W_ca3 ?_) | (refine W_ce3 ?_) | (refine W_ca4 ?_) | (refine W_ce4 ?_) | (refine W_ca5 ?_) | (refine W_ce5 ?_) | (refine W_ca6 ?_) | (refine W_ce6 ?_) | (refine W_ca7 ?_) | (refine W_ce7 ?_) | (refine W_ca8 ?_) | (refine W_ce8 ?_) | (refine W_nd7 ?_) | (refine W_unCons ?_) | (refine W_unNil ?_) | (refine W_asInt ?_) | (refine W_asBool ?_) | (refine W_asStr ?_) | (refine W_asSl ?_) | (refine W_asAgg ?_) | (refine W_kd ?_) | (refine W_z ?_))))
  refine W_call (hN' _ _ _ _ _ _ _ _ _ x11 (by omega)) ?_
  rintro _ rfl
  (repeat (with_reducible (first | (refine W_uI ?_) | (refine W_uS ?_) | (refine W_uL ?_) | (refine W_uA ?_) | (refine W_uB ?_) | (refine W_aI ?_) | (refine W_aL ?_) | (refine W_ca3 ?_) | (refine W_ce3 ?_) | (refine W_ca4 ?_) | (refine W_ce4 ?_) | (refine W_ca5 ?_) | (refine W_ce5 ?_) | (refine W_ca6 ?_) | (refine W_ce6 ?_) | (refine W_ca7 ?_) | (refine W_ce7 ?_) | (refine W_ca8 ?_) | (refine W_ce8 ?_) | (refine W_nd7 ?_) | (refine W_unCons ?_) | (refine W_unNil ?_) | (refine W_asInt ?_) | (refine W_asBool ?_) | (refine W_asStr ?_) | (refine W_asSl ?_) | (refine W_asAgg ?_) | (refine W_kd ?_) | (refine W_z ?_))))
  unfold l5_0
  refine near0 hP (by omega) (by omega) (fun near hnear => ?_) k 0 [] (by omega) (by omega) rfl
  unfold l5_2
  refine near2 hP (by omega) (by omega) (fun few hfew => ?_) k 0 [] (by omega) (by omega) rfl
  refine W_yes (by rw [ivs_len]; omega) ?_
  rw [show ivs near ++ [.int .i64 0] = ivs (near ++ [0]) by simp [ivs]]
  refine W_call (hO _ _ (by simp; omega)) ?_
  rintro _ rfl
  (repeat (with_reducible (first | (refine W_uI ?_) | (refine W_uS ?_) | (refine W_uL ?_) | (refine W_uA ?_) | (refine W_uB ?_) | (refine W_aI ?_) | (refine W_aL ?_) | (refine W_ca3 ?_) | (refine W_ce3 ?_) | (refine W_ca4 ?_) | (refine W_ce4 ?_) | (refine W_ca5 ?_) | (refine W_ce5 ?_) | (refine W_ca6 ?_) | (refine W_ce6 ?_) | (refine W_ca7 ?_) | (refine W_ce7 ?_) | (refine W_ca8 ?_) | (refine W_ce8 ?_) | (refine W_nd7 ?_) | (refine W_unCons ?_) | (refine W_unNil ?_) | (refine W_asInt ?_) | (refine W_asBool ?_) | (refine W_asStr ?_) | (refine W_asSl ?_) | (refine W_asAgg ?_) | (refine W_kd ?_) | (refine W_z ?_))))
  refine W_call (hCF _ _ _ T (by omega) (by omega)) ?_
  rintro _ ⟨a1, p1, rfl, f1⟩
  (repeat (with_reducible (first | (refine W_uI ?_) | (refine W_uS ?_) | (refine W_uL ?_) | (refine W_uA ?_) | (refine W_uB ?_) | (refine W_aI ?_) | (refine W_aL ?_) | (refine W_ca3 ?_) | (refine W_ce3 ?_) | (refine W_ca4 ?_) | (refine W_ce4 ?_) | (refine W_ca5 ?_) | (refine W_ce5 ?_) | (refine W_ca6 ?_) | (refine W_ce6 ?_) | (refine W_ca7 ?_) | (refine W_ce7 ?_) | (refine W_ca8 ?_) | (refine W_ce8 ?_) | (refine W_nd7 ?_) | (refine W_unCons ?_) | (refine W_unNil ?_) | (refine W_asInt ?_) | (refine W_asBool ?_) | (refine W_asStr ?_) | (refine W_asSl ?_) | (refine W_asAgg ?_) | (refine W_kd ?_) | (refine W_z ?_))))
  refine W_call (hF _ _ _ T (by omega) (by omega)) ?_
  rintro _ ⟨a2, p2, rfl, f2⟩
  (repeat (with_reducible (first | (refine W_uI ?_) | (refine W_uS ?_) | (refine W_uL ?_) | (refine W_uA ?_) | (refine W_uB ?_) | (refine W_aI ?_) | (refine W_aL ?_) | (refine W_ca3 ?_) | (refine W_ce3 ?_) | (refine W_ca4 ?_) | (refine W_ce4 ?_) | (refine W_ca5 ?_) | (refine W_ce5 ?_) | (refine W_ca6 ?_) | (refine W_ce6 ?_) | (refine W_ca7 ?_) | (refine W_ce7 ?_) | (refine W_ca8 ?_) | (refine W_ce8 ?_) | (refine W_nd7 ?_) | (refine W_unCons ?_) | (refine W_unNil ?_) | (refine W_asInt ?_) | (refine W_asBool ?_) | (refine W_asStr ?_) | (refine W_asSl ?_) | (refine W_asAgg ?_) | (refine W_kd ?_) | (refine W_z ?_))))
  refine W_call (hCF _ _ _ T (by omega) (by omega)) ?_
  rintro _ ⟨a3, p3, rfl, f3⟩
  (repeat (with_reducible (first | (refine W_uI ?_) | (refine W_uS ?_) | (refine W_uL ?_) | (refine W_uA ?_) | (refine W_uB ?_) | (refine W_aI ?_) | (refine W_aL ?_) | (refine W_ca3 ?_) | (refine W_ce3 ?_) | (refine W_ca4 ?_) | (refine W_ce4 ?_) | (refine W_ca5 ?_) | (refine W_ce5 ?_) | (refine W_ca6 ?_) | (refine W_ce6 ?_) | (refine W_ca7 ?_) | (refine W_ce7 ?_) | (refine W_ca8 ?_) | (refine W_ce8 ?_) | (refine W_nd7 ?_) | (refine W_unCons ?_) | (refine W_unNil ?_) | (refine W_asInt ?_) | (refine W_asBool ?_) | (refine W_asStr ?_) | (refine W_asSl ?_) | (refine W_asAgg ?_) | (refine W_kd ?_) | (refine W_z ?_))))
  refine W_call (hF _ _ _ T (by omega) (by omega)) ?_
  rintro _ ⟨a4, p4, rfl, f4⟩
  (repeat (with_reducible (first | (refine W_uI ?_) | (refine W_uS ?_) | (refine W_uL ?_) | (refine W_uA ?_) | (refine W_uB ?_) | (refine W_aI ?_) | (refine W_aL ?_) | (refine W_ca3 ?_) | (refine W_ce3 ?_) | (refine W_ca4 ?_) | (refine W_ce4 ?_) | (refine W_ca5 ?_) | (refine W_ce5 ?_) | (refine W_ca6 ?_) | (refine W_ce6 ?_) | (refine W_ca7 ?_) | (refine W_ce7 ?_) | (refine W_ca8 ?_) | (refine W_ce8 ?_) | (refine W_nd7 ?_) | (refine W_unCons ?_) | (refine W_unNil ?_) | (refine W_asInt ?_) | (refine W_asBool ?_) | (refine W_asStr ?_) | (refine W_asSl ?_) | (refine W_asAgg ?_) | (refine W_kd ?_) | (refine W_z ?_))))
  obtain ⟨rfl, rfl⟩ := full_same f1 f2
  obtain ⟨rfl, rfl⟩ := full_same f3 f4
  have la : ∀ {l a p}, FullS (ndsOf states) l a p → a.length ≤ 9000 := by
    intro l a p f
    cases p
    · rw [(f.2 rfl).1]; simp
    · rw [(f.1 rfl).2.2]; exact Nat.le_trans ofGo_len (by omega)
  refine W_call (hCL _ _ _ T (by omega) (by omega)) ?_
  rintro _ ⟨b1, rfl, l1⟩
  (repeat (with_reducible (first | (refine W_uI ?_) | (refine W_uS ?_) | (refine W_uL ?_) | (refine W_uA ?_) | (refine W_uB ?_) | (refine W_aI ?_) | (refine W_aL ?_) | (refine W_ca3 ?_) | (refine W_ce3 ?_) | (refine W_ca4 ?_) | (refine W_ce4 ?_) | (refine W_ca5 ?_) | (refine W_ce5 ?_) | (refine W_ca6 ?_) | (refine W_ce6 ?_) | (refine W_ca7 ?_) | (refine W_ce7 ?_) | (refine W_ca8 ?_) | (refine W_ce8 ?_) | (refine W_nd7 ?_) | (refine W_unCons ?_) | (refine W_unNil ?_) | (refine W_asInt ?_) | (refine W_asBool ?_) | (refine W_asStr ?_) | (refine W_asSl ?_) | (refine W_asAgg ?_) | (refine W_kd ?_) | (refine W_z ?_))))
  refine W_call (hL _ _ _ T (by omega) (by omega)) ?_
  rintro _ ⟨b2, rfl, l2⟩
  (repeat (with_reducible (first | (refine W_uI ?_) | (refine W_uS ?_) | (refine W_uL ?_) | (refine W_uA ?_) | (refine W_uB ?_) | (refine W_aI ?_) | (refine W_aL ?_) | (refine W_ca3 ?_) | (refine W_ce3 ?_) | (refine W_ca4 ?_) | (refine W_ce4 ?_) | (refine W_ca5 ?_) | (refine W_ce5 ?_) | (refine W_ca6 ?_) | (refine W_ce6 ?_) | (refine W_ca7 ?_) | (refine W_ce7 ?_) | (refine W_ca8 ?_) | (refine W_ce8 ?_) | (refine W_nd7 ?_) | (refine W_unCons ?_) | (refine W_unNil ?_) | (refine W_asInt ?_) | (refine W_asBool ?_) | (refine W_asStr ?_) | (refine W_asSl ?_) | (refine W_asAgg ?_) | (refine W_kd ?_) | (refine W_z ?_))))
  refine W_chk (iff_beq l1 l2) ?_
  refine W_call (hCL _ _ _ T (by omega) (Nat.le_trans ofGo_len (by omega))) ?_
  rintro _ ⟨b3, rfl, l3⟩
  (repeat (with_reducible (first | (refine W_uI ?_) | (refine W_uS ?_) | (refine W_uL ?_) | (refine W_uA ?_) | (refine W_uB ?_) | (refine W_aI ?_) | (refine W_aL ?_) | (refine W_ca3 ?_) | (refine W_ce3 ?_) | (refine W_ca4 ?_) | (refine W_ce4 ?_) | (refine W_ca5 ?_) | (refine W_ce5 ?_) | (refine W_ca6 ?_) | (refine W_ce6 ?_) | (refine W_ca7 ?_) | (refine W_ce7 ?_) | (refine W_ca8 ?_) | (refine W_ce8 ?_) | (refine W_nd7 ?_) | (refine W_unCons ?_) | (refine W_unNil ?_) | (refine W_asInt ?_) | (refine W_asBool ?_) | (refine W_asStr ?_) | (refine W_asSl ?_) | (refine W_asAgg ?_) | (refine W_kd ?_) | (refine W_z ?_))))
  refine W_call (hL _ _ _ T (by omega) (Nat.le_trans ofGo_len (by omega))) ?_
  rintro _ ⟨b4, rfl, l4⟩
  (repeat (with_reducible (first | (refine W_uI ?_) | (refine W_uS ?_) | (refine W_uL ?_) | (refine W_uA ?_) | (refine W_uB ?_) | (refine W_aI ?_) | (refine W_aL ?_) | (refine W_ca3 ?_) | (refine W_ce3 ?_) | (refine W_ca4 ?_) | (refine W_ce4 ?_) | (refine W_ca5 ?_) | (refine W_ce5 ?_) | (refine W_ca6 ?_) | (refine W_ce6 ?_) | (refine W_ca7 ?_) | (refine W_ce7 ?_) | (refine W_ca8 ?_) | (refine W_ce8 ?_) | (refine W_nd7 ?_) | (refine W_unCons ?_) | (refine W_unNil ?_) | (refine W_asInt ?_) | (refine W_asBool ?_) | (refine W_asStr ?_) | (refine W_asSl ?_) | (refine W_asAgg ?_) | (refine W_kd ?_) | (refine W_z ?_))))
  refine W_chk (iff_beq l3 l4) ?_
  refine W_chk (by simp) ?_
  refine W_call (hSm _ _ _ (la f1)) ?_
  rintro _ rfl
  (repeat (with_reducible (first | (refine W_uI ?_) | (refine W_uS ?_) | (refine W_uL ?_) | (refine W_uA ?_) | (refine W_uB ?_) | (refine W_aI ?_) | (refine W_aL ?_) | (refine W_ca3 ?_) | (refine W_ce3 ?_) | (refine W_ca4 ?_) | (refine W_ce4 ?_) | (refine W_ca5 ?_) | (refine W_ce5 ?_) | (refine W_ca6 ?_) | (refine W_ce6 ?_) | (refine W_ca7 ?_) | (refine W_ce7 ?_) | (refine W_ca8 ?_) | (refine W_ce8 ?_) | (refine W_nd7 ?_) | (refine W_unCons ?_) | (refine W_unNil ?_) | (refine W_asInt ?_) | (refine W_asBool ?_) | (refine W_asStr ?_) | (refine W_asSl ?_) | (refine W_asAgg ?_) | (refine W_kd ?_) | (refine W_z ?_))))
  refine W_yes rfl ?_
  refine W_chk (by simp) ?_
  refine W_call (hSm _ _ _ (la f3)) ?_
  rintro _ rfl
  (repeat (with_reducible (first | (refine W_uI ?_) | (refine W_uS ?_) | (refine W_uL ?_) | (refine W_uA ?_) | (refine W_uB ?_) | (refine W_aI ?_) | (refine W_aL ?_) | (refine W_ca3 ?_) | (refine W_ce3 ?_) | (refine W_ca4 ?_) | (refine W_ce4 ?_) | (refine W_ca5 ?_) | (refine W_ce5 ?_) | (refine W_ca6 ?_) | (refine W_ce6 ?_) | (refine W_ca7 ?_) | (refine W_ce7 ?_) | (refine W_ca8 ?_) | (refine W_ce8 ?_) | (refine W_nd7 ?_) | (refine W_unCons ?_) | (refine W_unNil ?_) | (refine W_asInt ?_) | (refine W_asBool ?_) | (refine W_asStr ?_) | (refine W_asSl ?_) | (refine W_asAgg ?_) | (refine W_kd ?_) | (refine W_z ?_))))
  refine W_yes rfl ?_
  refine W_call (hCA _ _ _ (by omega)) ?_
  rintro _ rfl
  (repeat (with_reducible (first | (refine W_uI ?_) | (refine W_uS ?_) | (refine W_uL ?_) | (refine W_uA ?_) | (refine W_uB ?_) | (refine W_aI ?_) | (refine W_aL ?_) | (refine W_ca3 ?_) | (refine W_ce3 ?_) | (refine W_ca4 ?_) | (refine W_ce4 ?_) | (refine W_ca5 ?_) | (refine W_ce5 ?_) | (refine W_ca6 ?_) | (refine W_ce6 ?_) | (refine W_ca7 ?_) | (refine W_ce7 ?_) | (refine W_ca8 ?_) | (refine W_ce8 ?_) | (refine W_nd7 ?_) | (refine W_unCons ?_) | (refine W_unNil ?_) | (refine W_asInt ?_) | (refine W_asBool ?_) | (refine W_asStr ?_) | (refine W_asSl ?_) | (refine W_asAgg ?_) | (refine W_kd ?_) | (refine W_z ?_))))
  refine W_call (hA _ _ _ (by omega)) ?_
  rintro _ rfl
  (repeat (with_reducible (first | (refine W_uI ?_) | (refine W_uS ?_) | (refine W_uL ?_) | (refine W_uA ?_) | (refine W_uB ?_) | (refine W_aI ?_) | (refine W_aL ?_) | (refine W_ca3 ?_) | (refine W_ce3 ?_) | (refine W_ca4 ?_) | (refine W_ce4 ?_) | (refine W_ca5 ?_) | (refine W_ce5 ?_) | (refine W_ca6 ?_) | (refine W_ce6 ?_) | (refine W_ca7 ?_) | (refine W_ce7 ?_) | (refine W_ca8 ?_) | (refine W_ce8 ?_) | (refine W_nd7 ?_) | (refine W_unCons ?_) | (refine W_unNil ?_) | (refine W_asInt ?_) | (refine W_asBool ?_) | (refine W_asStr ?_) | (refine W_asSl ?_) | (refine W_asAgg ?_) | (refine W_kd ?_) | (refine W_z ?_))))
  refine W_call (hSm _ _ _ (Nat.le_trans (List.length_filter_le _ _) (by omega))) ?_
  rintro _ rfl
  (repeat (with_reducible (first | (refine W_uI ?_) | (refine W_uS ?_) | (refine W_uL ?_) | (refine W_uA ?_) | (refine W_uB ?_) | (refine W_aI ?_) | (refine W_aL ?_) | (refine W_ca3 ?_) | (refine W_ce3 ?_) | (refine W_ca4 ?_) | (refine W_ce4 ?_) | (refine W_ca5 ?_) | (refine W_ce5 ?_) | (refine W_ca6 ?_) | (refine W_ce6 ?_) | (refine W_ca7 ?_) | (refine W_ce7 ?_) | (refine W_ca8 ?_) | (refine W_ce8 ?_) | (refine W_nd7 ?_) | (refine W_unCons ?_) | (refine W_unNil ?_) | (refine W_asInt ?_) | (refine W_asBool ?_) | (refine W_asStr ?_) | (refine W_asSl ?_) | (refine W_asAgg ?_) | (refine W_kd ?_) | (refine W_z ?_))))
  exact W_yes rfl (kn_go hKn)
end
end Go.Proofs.Ytblabbcmokldiaa.Vm
