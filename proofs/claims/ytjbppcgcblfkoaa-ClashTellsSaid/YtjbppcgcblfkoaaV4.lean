/- The machine of values: walks through printed functions; shapes of what the generator makes. -/
import Derived.Test.YtjbppcgcblfkoaaV3
set_option linter.unusedVariables false
namespace Go.VM
section
variable {R : Type} {Q : List V → Prop} {K : List V → Option R}
def W (Q : List V → Prop) (K : List V → Option R) (x : Option R) : Prop := ∃ o, Q o ∧ x = K o
theorem W_ret {o : List V} (h : Q o) : W Q K (K o) := ⟨o, h, rfl⟩
theorem W_dec {p : Prop} [Decidable p] {A B : Option R} (h1 : p → W Q K A) (h2 : ¬ p → W Q K B) : W Q K (bif decide p then A else B) := by
  by_cases h : p
  · rw [decide_eq_true h]; exact h1 h
  · rw [decide_eq_false h]; exact h2 h
theorem W_beqI {a b : Int} {A B : Option R} (h1 : a = b → W Q K A) (h2 : a ≠ b → W Q K B) : W Q K (bif a == b then A else B) := by
  by_cases h : a = b
  · rw [beq_iff_eq.2 h]; exact h1 h
  · rw [beq_eq_false_iff_ne.2 h]; exact h2 h
theorem W_eqY {a b : Int} {A B : Option R} (h : a = b) (h1 : W Q K A) : W Q K (bif a == b then A else B) := by rw [beq_iff_eq.2 h]; exact h1
theorem W_eqN {a b : Int} {A B : Option R} (h : a ≠ b) (h1 : W Q K B) : W Q K (bif a == b then A else B) := by rw [beq_eq_false_iff_ne.2 h]; exact h1
theorem W_bool {c : Bool} {A B : Option R} (h1 : c = true → W Q K A) (h2 : c = false → W Q K B) : W Q K (bif c then A else B) := by
  cases c
  · exact h2 rfl
  · exact h1 rfl
theorem W_not {c : Bool} {A B : Option R} (h : W Q K (bif c then B else A)) : W Q K (bif !c then A else B) := by cases c <;> exact h
theorem W_and {c d : Bool} {A B : Option R} (h : W Q K (bif c then (bif d then A else B) else B)) : W Q K (bif c && d then A else B) := by cases c <;> exact h
theorem W_chk {c : Bool} {A B : Option R} (h : c = true) (h1 : W Q K A) : W Q K (bif c then A else B) := by rw [h]; exact h1
theorem W_chk' {c : Bool} {A B : Option R} (h : c = false) (h1 : W Q K B) : W Q K (bif c then A else B) := by rw [h]; exact h1
theorem W_yes {p : Prop} [Decidable p] {A B : Option R} (h : p) (h1 : W Q K A) : W Q K (bif decide p then A else B) := by rw [decide_eq_true h]; exact h1
theorem W_no {p : Prop} [Decidable p] {A B : Option R} (h : ¬ p) (h1 : W Q K B) : W Q K (bif decide p then A else B) := by rw [decide_eq_false h]; exact h1
theorem W_kd {k : IntKind} {A B : Option R} (h1 : W Q K A) : W Q K (bif decide (k = k) then A else B) := by rw [decide_eq_true rfl]; exact h1
theorem W_z {z : Nat} {A B : Option R} (h1 : W Q K A) : W Q K (bif z == z then A else B) := by rw [beq_self_eq_true]; exact h1
theorem W_unCons {v : V} {r : List V} {F : V → List V → Option R} (h : W Q K (F v r)) : W Q K (unCons (v :: r) F) := h
theorem W_unNil {x : Option R} (h : W Q K x) : W Q K (unNil [] x) := h
theorem W_asInt {k : IntKind} {n : Int} {F : IntKind → Int → Option R} (h : W Q K (F k n)) : W Q K (V.asInt (.int k n) F) := h
theorem W_asBool {b : Bool} {F : Bool → Option R} (h : W Q K (F b)) : W Q K (V.asBool (.bool b) F) := h
theorem W_asStr {s : ByteArray} {F : ByteArray → Option R} (h : W Q K (F s)) : W Q K (V.asStr (.str s) F) := h
theorem W_asSl {z : Nat} {l : List V} {F : Nat → List V → Option R} (h : W Q K (F z l)) : W Q K (V.asSl (.sl z l) F) := h
theorem W_asAgg {l : List V} {F : List V → Option R} (h : W Q K (F l)) : W Q K (V.asAgg (.agg l) F) := h
theorem W_nth {l : List V} {i : Nat} {F : V → Option R} (hi : i < l.length) (h : ∀ v, l[i]? = some v → v ∈ l → W Q K (F v)) : W Q K (nthK l i F) := by
  have e := List.getElem?_eq_getElem hi
  unfold nthK
  rw [e]
  exact h _ e (List.getElem_mem hi)
theorem W_call {Q' : List V → Prop} {F : List V → Option R} {x : Option R} (h : W Q' F x) (h1 : ∀ o, Q' o → W Q K (F o)) : W Q K x := by
  obtain ⟨o, q, e⟩ := h
  rw [e]; exact h1 o q
theorem W_mono {Q' : List V → Prop} {x : Option R} (h : W Q' K x) (h1 : ∀ o, Q' o → Q o) : W Q K x := by
  obtain ⟨o, q, e⟩ := h
  exact ⟨o, h1 o q, e⟩
end
def I64 (n : Int) : Prop := -9223372036854775808 ≤ n ∧ n ≤ 9223372036854775807
theorem wrap_id {n : Int} (h : -9223372036854775808 ≤ n ∧ n ≤ 9223372036854775807) : IntKind.i64.wrap n = n := by
  unfold IntKind.wrap; simp [IntKind.signed, IntKind.bits]; omega
theorem tmod_lt {v n : Int} (hn : 0 < n) : -n < Int.tmod v n ∧ Int.tmod v n < n := by
  have h1 := Int.tmod_lt_of_pos v hn
  refine ⟨?_, h1⟩
  rcases Int.le_total 0 v with h | h
  · have := Int.tmod_nonneg n h; omega
  · have h3 := Int.neg_tmod v n
    have h4 := Int.tmod_lt_of_pos (-v) hn
    omega
theorem wrap_ge (n : Int) : -9223372036854775808 ≤ IntKind.i64.wrap n ∧ IntKind.i64.wrap n ≤ 9223372036854775807 := by
  unfold IntKind.wrap; simp [IntKind.signed, IntKind.bits]; omega
end Go.VM
set_option linter.unusedVariables false
namespace Go.VM
def IntsS (l : List V) : Prop := ∀ v ∈ l, ∃ n, v = .int .i64 n ∧ I64 n
def StrS (s : ByteArray) : Prop := s.size ≤ 100
def StrsS (m : Nat) (l : List V) : Prop := l.length ≤ m ∧ ∀ v ∈ l, ∃ s, v = .str s ∧ StrS s
def ExprS : Nat → V → Prop
  | 0, _ => False
  | d + 1, v => ∃ kind n nm kids, v = .agg [.int .i64 kind, .int .i64 n, .str nm, .sl 5 kids, .int .i64 0] ∧ I64 n ∧ StrS nm ∧ 1 ≤ kind ∧ kind ≤ 21 ∧ kids.length ≤ 2 ∧ (∀ e ∈ kids, ExprS d e) ∧
      (kind ≤ 4 ∨ (kind ≤ 6 ∧ kids.length = 1) ∨ kids.length = 2)
theorem ExprS.mono : ∀ {d : Nat} {v : V}, ExprS d v → ExprS (d + 1) v
  | 0, v, h => h.elim
  | d + 1, v, ⟨kind, n, nm, kids, h1, h2, h3, h4, h5, h6, h7, h8⟩ => ⟨kind, n, nm, kids, h1, h2, h3, h4, h5, h6, fun e he => ExprS.mono (h7 e he), h8⟩
theorem ExprS.le {d d' : Nat} {v : V} (h : ExprS d v) (hd : d ≤ d') : ExprS d' v := by
  induction hd with
  | refl => exact h
  | step _ ih => exact ih.mono
def ActS : Nat → V → Prop
  | 0, _ => False
  | d + 1, v => ∃ kind nm ev x n th el, v = .agg [.int .i64 kind, .str nm, .str ev, .sl 5 x, .int .i64 n, .sl 8 th, .sl 8 el, .int .i64 0] ∧ I64 n ∧ StrS nm ∧ StrS ev ∧ 1 ≤ kind ∧ kind ≤ 7 ∧ x.length ≤ 1 ∧ (∀ e ∈ x, ExprS 3 e) ∧ (kind = 6 → x.length = 1) ∧
      th.length ≤ 2 ∧ el.length ≤ 2 ∧ (∀ a ∈ th, ActS d a) ∧ (∀ a ∈ el, ActS d a)
theorem ActS.mono : ∀ {d : Nat} {v : V}, ActS d v → ActS (d + 1) v
  | 0, v, h => h.elim
  | d + 1, v, ⟨kind, nm, ev, x, n, th, el, h1, h2, h3, h4, h5, h6, h7, h8, h9, h10, h11, h12, h13⟩ =>
    ⟨kind, nm, ev, x, n, th, el, h1, h2, h3, h4, h5, h6, h7, h8, h9, h10, h11, fun a ha => ActS.mono (h12 a ha), fun a ha => ActS.mono (h13 a ha)⟩
def BlockS (d : Nat) (l : List V) : Prop := l.length ≤ 2 ∧ ∀ a ∈ l, ActS d a
theorem BlockS.mono {d : Nat} {l : List V} (h : BlockS d l) : BlockS (d + 1) l := ⟨h.1, fun a ha => (h.2 a ha).mono⟩
def TransS (v : V) : Prop := ∃ ev gd tg acts, v = .agg [.str ev, .sl 5 gd, .str tg, .sl 8 acts, .int .i64 0] ∧ StrS ev ∧ StrS tg ∧ gd.length ≤ 1 ∧ (∀ e ∈ gd, ExprS 3 e) ∧ BlockS 3 acts
def kindV : V → Int
  | .agg (.int _ n :: _) => n
  | _ => 0
def StateS (m : Nat) : Nat → V → Prop
  | 0, _ => False
  | d + 1, v => ∃ kind nm en ex tr kids, v = .agg [.int .i64 kind, .str nm, .sl 8 en, .sl 8 ex, .sl 5 tr, .sl 7 kids, .int .i64 0] ∧ StrS nm ∧ 0 < nm.size ∧ 1 ≤ kind ∧ kind ≤ 4 ∧ BlockS 2 en ∧ BlockS 2 ex ∧ tr.length ≤ m ∧ (∀ t ∈ tr, TransS t) ∧ kids.length ≤ 4 ∧ (∀ s ∈ kids, StateS m d s) ∧
      (2 < kind → kids = [] ∧ en = [] ∧ ex = [] ∧ tr = []) ∧ (∀ s r, kids = s :: r → kindV s ≤ 2) ∧ (kind = 2 → kids ≠ [])
def NmsS (l : List V) : Prop := ∀ v ∈ l, ∃ s, v = .str s ∧ StrS s ∧ 0 < s.size
theorem StateS.le {m m' : Nat} (hm : m ≤ m') : ∀ {d : Nat} {v : V}, StateS m d v → StateS m' d v
  | 0, v, h => h.elim
  | d + 1, v, ⟨kind, nm, en, ex, tr, kids, h1, h2, h3, h4, h5, h6, h7, h8, h9, h10, h11, h12, h13, h14⟩ =>
    ⟨kind, nm, en, ex, tr, kids, h1, h2, h3, h4, h5, h6, h7, Nat.le_trans h8 hm, h9, h10, fun s hs => StateS.le hm (h11 s hs), h12, h13, h14⟩
def RowS (L : List V) (at_ : Int) : Prop := IntsS L ∧ L.length ≤ 100000 ∧ 0 ≤ at_ ∧ at_ ≤ (L.length : Int)
def NamedS (m : Nat) (l : List V) : Prop := l.length ≤ m ∧ ∀ v ∈ l, ∃ s n, v = .agg [.str s, .int .i64 n, .int .i64 0] ∧ StrS s ∧ I64 n
def stKids : V → List V
  | .agg [_, _, _, _, _, .sl _ k, _] => k
  | _ => []
def nsz : Nat → V → Nat
  | 0, _ => 0
  | d + 1, v => 1 + ((stKids v).map (nsz d)).sum
def nszL (d : Nat) (l : List V) : Nat := (l.map (nsz d)).sum
theorem nszL_cons {d : Nat} {s : V} {r : List V} : nszL (d + 1) (s :: r) = 1 + nszL d (stKids s) + nszL (d + 1) r := by simp [nszL, nsz]
theorem nszL_app {d : Nat} {a b : List V} : nszL d (a ++ b) = nszL d a + nszL d b := by simp [nszL]
def ChartS (v : V) : Prop := ∃ nm st fu vars ports timers states, v = .agg [.str nm, .int .i64 st, .int .i64 fu, .sl 3 vars, .sl 3 ports, .sl 3 timers, .sl 7 states, .int .i64 0] ∧ StrS nm ∧ 2 ≤ st ∧ st ≤ 6 ∧ 4 ≤ fu ∧ fu ≤ 200 ∧ NamedS 100 vars ∧ NamedS 100 ports ∧ NamedS 100 timers ∧
  states.length ≤ 2 ∧ states ≠ [] ∧ (∀ s ∈ states, StateS 2 3 s ∧ kindV s ≤ 2) ∧ nszL 3 states ≤ 9
end Go.VM
set_option linter.unusedVariables false
namespace Go.VM
structure Nd where
  kind : Int
  parent : Int
  last : Int
  init : Int
  entry : Int
  exit : Int
  name : ByteArray
def Nd.v (n : Nd) : V := .agg [.int .i64 n.kind, .int .i64 n.parent, .int .i64 n.last, .int .i64 n.init, .int .i64 n.entry, .int .i64 n.exit, .str n.name]
def stName : V → ByteArray
  | .agg [_, .str s, _, _, _, _, _] => s
  | _ => ⟨#[]⟩
def ndKind (v : V) : Int := if kindV v = 3 then 4 else if kindV v = 4 then 5 else if kindV v = 2 then 3 else if (stKids v).length = 0 then 1 else 2
def forest : Nat → Int → Nat → List V → List Nd
  | 0, _, _, _ => []
  | _ + 1, _, _, [] => []
  | d + 1, up, at_, s :: r => ⟨ndKind s, up, (at_ : Int) + nszL d (stKids s), if ndKind s = 2 then (at_ : Int) + 1 else -1, -1, -1, stName s⟩ :: (forest d at_ (at_ + 1) (stKids s) ++ forest (d + 1) up (at_ + 1 + nszL d (stKids s)) r)
termination_by d _ _ l => (d, l.length)
theorem nszL_len {d : Nat} : ∀ {l : List V}, l.length ≤ nszL (d + 1) l
  | [] => by simp
  | a :: r => by have := nszL_len (d := d) (l := r); rw [nszL_cons, List.length_cons]; omega
theorem nszL_zero {l : List V} : nszL 0 l = 0 := by
  induction l with
  | nil => rfl
  | cons a l ih => simp [nszL, nsz] at ih ⊢; exact ih
theorem forest_len : ∀ (d : Nat) (up : Int) (at_ : Nat) (l : List V), (forest d up at_ l).length = nszL d l
  | 0, up, at_, l => by rw [nszL_zero, forest]; rfl
  | d + 1, up, at_, [] => by rw [forest]; rfl
  | d + 1, up, at_, s :: r => by
    rw [forest, nszL_cons, List.length_cons, List.length_append, forest_len d at_ (at_ + 1) (stKids s), forest_len (d + 1) up (at_ + 1 + nszL d (stKids s)) r]
    omega
termination_by d _ _ l => (d, l.length)
theorem forest_app : ∀ (d : Nat) (up : Int) (at_ : Nat) (a b : List V), forest d up at_ (a ++ b) = forest d up at_ a ++ forest d up (at_ + nszL d a) b
  | 0, up, at_, a, b => by simp [forest]
  | d + 1, up, at_, [], b => by simp [forest, nszL]
  | d + 1, up, at_, s :: a, b => by
    rw [List.cons_append, forest, forest_app (d + 1) up _ a b, forest, nszL_cons]
    simp only [List.cons_append, List.append_assoc]
    congr 4
    omega
def fixup (l : List Nd) (up : Nat) (at_ : Nat) (kids : List V) : List Nd :=
  match kids, l[up]? with
  | _ :: _, some n => if n.init < 0 ∧ n.kind = 2 then l.set up { n with init := at_ } else l
  | _, _ => l
theorem fixup_len {l : List Nd} {up at_ : Nat} {kids : List V} : (fixup l up at_ kids).length = l.length := by
  unfold fixup; split
  · split <;> simp
  · rfl
theorem fixup_nil {l : List Nd} {up at_ : Nat} : fixup l up at_ [] = l := by unfold fixup; rfl
def ndsOf (states : List V) : List Nd := ⟨2, -1, nszL 3 states, if states = [] then -1 else 1, -1, -1, ⟨#[]⟩⟩ :: forest 3 0 1 states
def inN (l : List Nd) (a b : Int) : Bool := decide (0 ≤ a ∧ a < l.length ∧ 0 ≤ b ∧ b < l.length ∧ a ≥ b) && (match l[b.toNat]? with | some n => decide (a ≤ n.last) | none => false)
def domAt (l : List Nd) (a b : Int) (i : Nat) : Bool := (match l[i]? with | some n => decide (n.kind = 2) | none => false) && decide ((i : Int) ≠ a) && decide ((i : Int) ≠ b) && inN l a i && inN l b i
def domGo (l : List Nd) (a b : Int) : Nat → Int
  | 0 => -1
  | i + 1 => if domAt l a b i then i else domGo l a b i
def domN (l : List Nd) (a b : Int) : Int := domGo l a b l.length
def findGo (s : ByteArray) : List Nd → Nat → Int
  | [], _ => -1
  | n :: r, i => if n.name.toList = s.toList then i else findGo s r (i + 1)
def findN (l : List Nd) (s : ByteArray) : Int := findGo s (l.drop 1) 1
theorem domGo_at {l : List Nd} {a b : Int} : ∀ {i : Nat}, domGo l a b i = -1 ∨ ∃ j, j < i ∧ domGo l a b i = (j : Int) ∧ domAt l a b j = true
  | 0 => .inl rfl
  | i + 1 => by
    unfold domGo
    by_cases h : domAt l a b i = true
    · rw [if_pos h]; exact .inr ⟨i, by omega, rfl, h⟩
    · rw [if_neg h]
      rcases domGo_at (i := i) with h1 | ⟨j, h1, h2, h3⟩
      · exact .inl h1
      · exact .inr ⟨j, by omega, h2, h3⟩
theorem findGo_at {s : ByteArray} : ∀ {r : List Nd} {i : Nat}, findGo s r i = -1 ∨ ∃ j, i ≤ j ∧ j < i + r.length ∧ findGo s r i = (j : Int)
  | [], i => .inl rfl
  | n :: r, i => by
    unfold findGo
    by_cases h : n.name.toList = s.toList
    · rw [if_pos h]; exact .inr ⟨i, by omega, by simp, rfl⟩
    · rw [if_neg h]
      rcases findGo_at (s := s) (r := r) (i := i + 1) with h1 | ⟨j, h1, h2, h3⟩
      · exact .inl h1
      · exact .inr ⟨j, by omega, by simp; omega, h3⟩
theorem findGo_has {s : ByteArray} : ∀ {r : List Nd} {i : Nat}, (∃ n ∈ r, n.name = s) → findGo s r i ≠ -1
  | [], i, h => by obtain ⟨_, h, _⟩ := h; cases h
  | n :: r, i, ⟨m, hm, e⟩ => by
    unfold findGo
    by_cases h : n.name.toList = s.toList
    · rw [if_pos h]; omega
    · rw [if_neg h]
      refine findGo_has ⟨m, ?_, e⟩
      rcases List.mem_cons.1 hm with rfl | hm
      · rw [e] at h; exact absurd rfl h
      · exact hm
section
variable {R : Type} {Q : List V → Prop} {K : List V → Option R}
theorem W_nd {n : Nd} {F : List V → Option R} (h : W Q K (F [.int .i64 n.kind, .int .i64 n.parent, .int .i64 n.last, .int .i64 n.init, .int .i64 n.entry, .int .i64 n.exit, .str n.name])) : W Q K (V.asAgg n.v F) := h
theorem W_nthN {l : List Nd} {i : Nat} {F : V → Option R} (hi : i < l.length) (h : ∀ n, l[i]? = some n → W Q K (F n.v)) : W Q K (nthK (l.map Nd.v) i F) := by
  have e : l[i]? = some l[i] := List.getElem?_eq_getElem hi
  have e2 : (l.map Nd.v)[i]? = some l[i].v := by rw [List.getElem?_map, e]; rfl
  unfold nthK
  rw [e2]
  exact h _ e
end
def Nd.core (n : Nd) : Nd := { n with entry := -1, exit := -1 }
def CoreEq (a b : List Nd) : Prop := a.map Nd.core = b.map Nd.core
theorem CoreEq.len {a b : List Nd} (h : CoreEq a b) : a.length = b.length := by have := congrArg List.length h; simpa using this
theorem findGo_core {s : ByteArray} : ∀ {l : List Nd} {i : Nat}, findGo s (l.map Nd.core) i = findGo s l i
  | [], i => rfl
  | n :: r, i => by
    rw [List.map_cons, findGo, findGo, findGo_core (l := r)]
    rfl
theorem findN_core {a b : List Nd} {s : ByteArray} (h : CoreEq a b) : findN a s = findN b s := by
  have e : ∀ l : List Nd, findN l s = findGo s ((l.map Nd.core).drop 1) 1 := fun l => by unfold findN; rw [← List.map_drop, findGo_core]
  rw [e, e, show a.map Nd.core = b.map Nd.core from h]
theorem get_core {a b : List Nd} (h : CoreEq a b) (i : Nat) : (a[i]?).map Nd.core = (b[i]?).map Nd.core := by rw [← List.getElem?_map, ← List.getElem?_map, show a.map Nd.core = b.map Nd.core from h]
theorem inN_core {a b : List Nd} {x y : Int} (h : CoreEq a b) : inN a x y = inN b x y := by
  unfold inN
  rw [h.len]
  congr 1
  have e := get_core h y.toNat
  cases h1 : a[y.toNat]? with
  | none => rw [h1] at e; cases h2 : b[y.toNat]? with
    | none => rfl
    | some m => rw [h2] at e; cases e
  | some n => rw [h1] at e; cases h2 : b[y.toNat]? with
    | none => rw [h2] at e; cases e
    | some m =>
      rw [h2] at e
      have : n.last = m.last := by have := congrArg (fun o : Option Nd => o.map Nd.last) e; simpa [Nd.core] using this
      simp only [this]
theorem domAt_core {a b : List Nd} {x y : Int} {i : Nat} (h : CoreEq a b) : domAt a x y i = domAt b x y i := by
  unfold domAt
  rw [inN_core h, inN_core h]
  congr 4
  have e := get_core h i
  cases h1 : a[i]? with
  | none => rw [h1] at e; cases h2 : b[i]? with
    | none => rfl
    | some m => rw [h2] at e; cases e
  | some n => rw [h1] at e; cases h2 : b[i]? with
    | none => rw [h2] at e; cases e
    | some m =>
      rw [h2] at e
      have : n.kind = m.kind := by have := congrArg (fun o : Option Nd => o.map Nd.kind) e; simpa [Nd.core] using this
      simp only [this]
theorem domN_core {a b : List Nd} {x y : Int} (h : CoreEq a b) : domN a x y = domN b x y := by
  have e : ∀ i, domGo a x y i = domGo b x y i := by
    intro i
    induction i with
    | zero => rfl
    | succ i ih => unfold domGo; rw [domAt_core h, ih]
  unfold domN
  rw [h.len]; exact e _
theorem core_set {a b : List Nd} {i : Nat} {n m : Nd} (h : CoreEq a b) (hi : a[i]? = some n) (hm : m.core = n.core) : CoreEq (a.set i m) b := by
  unfold CoreEq
  rw [List.map_set, hm, ← show a.map Nd.core = b.map Nd.core from h]
  apply List.ext_getElem?
  intro j
  by_cases hj : i = j
  · subst hj
    have hl : i < a.length := by
      rcases Nat.lt_or_ge i a.length with h' | h'
      · exact h'
      · rw [List.getElem?_eq_none h'] at hi; cases hi
    rw [List.getElem?_set_self (by simpa using hl), List.getElem?_map, hi]; rfl
  · rw [List.getElem?_set_ne hj]
theorem forest_kid {d : Nat} {s : V} : ∀ {l : List V} {up : Int} {at_ : Nat}, s ∈ l → ∃ up' at', (∃ n ∈ forest (d + 1) up at_ l, n.name = stName s) ∧ ∀ n ∈ forest d up' at' (stKids s), n ∈ forest (d + 1) up at_ l
  | [], up, at_, h => by cases h
  | a :: r, up, at_, h => by
    rw [forest]
    rcases List.mem_cons.1 h with rfl | h
    · exact ⟨at_, at_ + 1, ⟨_, List.mem_cons_self, rfl⟩, fun n hn => List.mem_cons_of_mem _ (List.mem_append_left _ hn)⟩
    · obtain ⟨up', at', ⟨n, h1, h2⟩, h3⟩ := forest_kid (up := up) (at_ := at_ + 1 + nszL d (stKids a)) h
      exact ⟨up', at', ⟨n, List.mem_cons_of_mem _ (List.mem_append_right _ h1), h2⟩, fun m hm => List.mem_cons_of_mem _ (List.mem_append_right _ (h3 m hm))⟩
def NamesIn (ns : List Nd) (d : Nat) (l : List V) : Prop := ∃ up at_, ∀ n ∈ forest d up at_ l, ∃ m ∈ ns.drop 1, m.name = n.name
theorem NamesIn.mem {ns : List Nd} {d : Nat} {l : List V} {s : V} (h : NamesIn ns (d + 1) l) (hs : s ∈ l) : findN ns (stName s) ≠ -1 ∧ NamesIn ns d (stKids s) := by
  obtain ⟨up, at_, h⟩ := h
  obtain ⟨up', at', ⟨n, h1, h2⟩, h3⟩ := forest_kid (up := up) (at_ := at_) hs
  refine ⟨?_, up', at', fun n hn => h n (h3 n hn)⟩
  obtain ⟨m, m1, m2⟩ := h n h1
  exact findGo_has ⟨m, m1, by rw [m2, h2]⟩
theorem namesIn_ndsOf {states : List V} : NamesIn (ndsOf states) 3 states := ⟨0, 1, fun n hn => ⟨n, hn, rfl⟩⟩
theorem findN_at {l : List Nd} {s : ByteArray} : findN l s = -1 ∨ (1 ≤ findN l s ∧ findN l s < l.length) := by
  unfold findN
  rcases findGo_at (s := s) (r := l.drop 1) (i := 1) with h | ⟨j, h1, h2, h3⟩
  · exact .inl h
  · rw [List.length_drop] at h2; exact .inr ⟨by omega, by omega⟩
def EdgeS (ns : List Nd) (v : V) : Prop := ∃ fr to dom gd ac ev, v = .agg [.int .i64 fr, .int .i64 to, .int .i64 dom, .int .i64 gd, .int .i64 ac, .str ev] ∧ 1 ≤ fr ∧ fr < ns.length ∧ StrS ev ∧
  ((to = -1 ∧ dom = -1) ∨ (1 ≤ to ∧ to < ns.length ∧ dom = domN ns fr to)) ∧ -1 ≤ gd ∧ -1 ≤ ac
def InsS (v : V) : Prop := ∃ op a n s, v = .agg [.int .i64 op, .int .i64 a, .int .i64 n, .str s]
def AllI (l : List V) : Prop := ∀ v ∈ l, InsS v
theorem allI_nil : AllI [] := fun v hv => by cases hv
theorem allI_cons {v : V} {l : List V} (h : InsS v) (h1 : AllI l) : AllI (v :: l) := fun w hw => by
  rcases List.mem_cons.1 hw with rfl | hw
  · exact h
  · exact h1 w hw
theorem allI_app {a b : List V} (h : AllI a) (h1 : AllI b) : AllI (a ++ b) := fun w hw => by
  rcases List.mem_append.1 hw with hw | hw
  · exact h w hw
  · exact h1 w hw
theorem allI_set {l : List V} {i : Nat} {v : V} (h : AllI l) (h1 : InsS v) : AllI (l.set i v) := fun w hw => by
  rcases List.mem_or_eq_of_mem_set hw with hw | hw
  · exact h w hw
  · rw [hw]; exact h1
def CodesS (l : List V) : Prop := ∀ v ∈ l, ∃ c, v = .sl 4 c ∧ AllI c
theorem codes_snoc {l c : List V} (h : CodesS l) (hc : AllI c) : CodesS (l ++ [.sl 4 c]) := fun v hv => by
  rcases List.mem_append.1 hv with hv | hv
  · exact h v hv
  · rw [List.mem_singleton.1 hv]; exact ⟨c, rfl, hc⟩
def ce : Nat → Nat
  | 0 => 0
  | d + 1 => 2 * ce d + 8
def cb : Nat → Nat
  | 0 => 0
  | d + 1 => 2 * (ce 3 + 2 * cb d + 4)
theorem set_map {l : List Nd} {i : Nat} {n : Nd} : (l.map Nd.v).set i n.v = (l.set i n).map Nd.v := by rw [List.map_set]
end Go.VM
