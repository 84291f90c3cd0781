/- Functions of the program, told by the machine of values, and what they answer: a part. -/
import Derived.Test.YtdfjodnkplbffaaTt1
import Derived.Test.YtdfjodnkplbffaaTtV4
open Go Go.VM
set_option linter.unusedVariables false
set_option linter.unusedSimpArgs false
set_option maxRecDepth 100000
set_option maxHeartbeats 16000000
namespace Go.Proofs.Ytdfjodnkplbffaa.Vm
section
variable {R : Type} {G : ORC R} {k : Nat} {K : List V → Option R} {Q : List V → Prop}
structure Dn where
  v : Int
  vs : List Int
  ra : List V
  ef : List V
  co : Int
  cd : Int
def Dn.l (d : Dn) : V := .agg [.int .i64 d.v, .sl 1 (iv d.vs), .sl 2 d.ra, .sl 4 d.ef, .int .i64 d.co, .int .i64 d.cd]
def lastI (l : List Int) : Int := l.getLast?.getD 0
inductive Run (b : Bool) (g : Int) (c : List V) (F : Int) : St → Int → Dn → Prop
  | fin {st : St} {co : Int} : (c.length : Int) ≤ st.pc → Run b g c F st co ⟨lastI st.row, st.vs, st.ra, st.ef, co, 0⟩
  | fuel {st : St} {co : Int} : 0 ≤ st.pc → st.pc < c.length → F ≤ co → Run b g c F st co ⟨0, st.vs, st.ra, st.ef, co, 4⟩
  | err {st : St} {co op a n : Int} {s : ByteArray} {e : Int} {st' : St} : 0 ≤ st.pc → c[st.pc.toNat]? = some (insS op a n s) → co < F → Stp b g op a n s st e st' → e ≠ 0 → Run b g c F st co ⟨0, st.vs, st.ra, st.ef, co + 1, e⟩
  | step {st : St} {co op a n : Int} {s : ByteArray} {st' : St} {d : Dn} : 0 ≤ st.pc → c[st.pc.toNat]? = some (insS op a n s) → co < F → Stp b g op a n s st 0 st' → Run b g c F st' (co + 1) d → Run b g c F st co d
def Bd (st : St) (co : Int) : Prop := (st.row.length : Int) ≤ co ∧ (st.rnd.length : Int) ≤ co ∧ (st.ra.length : Int) ≤ co ∧ (st.ef.length : Int) ≤ co
theorem bd_step {b g op a n s st e st' co} (h : Stp b g op a n s st e st') (hb : Bd st co) : Bd st' (co + 1) := by
  obtain ⟨h1, h2, h3, h4⟩ := stp_len h
  unfold Bd at *; omega
theorem get_lt {c : List V} {pc : Int} {v : V} (h0 : 0 ≤ pc) (h : c[pc.toNat]? = some v) : pc < c.length := by
  have := (List.getElem?_eq_some_iff.1 h).1; omega
theorem small_of {c : List V} {st : St} {co : Int} (hc : c.length ≤ 9999) (hb : Bd st co) (h0 : 0 ≤ st.pc) (h1 : st.pc < c.length) (h2 : co < 1048576) : Small st := by
  unfold Small; unfold Bd at hb; omega
theorem last_snoc {l : List Int} {x : Int} : lastI (l ++ [x]) = x := by simp [lastI]
theorem row_cases (l : List Int) : l = [] ∨ ∃ l' x, l = l' ++ [x] := by
  rcases List.eq_nil_or_concat l with h | ⟨l', x, h⟩
  · exact .inl h
  · exact .inr ⟨l', x, by simpa using h⟩
theorem erun_ok {b : Bool} {g : Int} {c : List V} {F : Int} (hSt : StepX G) (hg : InR g) (hc : c.length ≤ 9999) (hF : F ≤ 1048576) {st : St} {co : Int} {d : Dn} (h : Run b g c F st co d) {Q : List V → Prop} {K : List V → Option R}
    {Ko : Int → List V → List V → List V → Int → Int → List V → Int → Int → Int → List V → List V → Int → Option R} {Kp : Int → Int → List V → List V → List V → Int → Int → Option R} :
    (∀ (st : St) (co : Int), (st.row.length : Int) ≤ co → co ≤ 1048576 → d = ⟨lastI st.row, st.vs, st.ra, st.ef, co, 0⟩ → W Q K (Ko 0 (iv st.vs) st.ra st.ef co 0 c (loOf b) 0 g (iv st.row) (iv st.rnd) st.pc)) →
    (∀ (vs : List Int) (ra ef : List V) (co e : Int), d = ⟨0, vs, ra, ef, co, e⟩ → W Q K (Kp e 0 (iv vs) ra ef co 0)) →
    ∀ j : Nat, 0 ≤ co → co ≤ 1048576 → Bd st co → 1048576 - co < j → W Q K (l31_0g G k Ko Kp j c F 0 (iv st.vs) st.ra st.ef co 0 c (loOf b) 0 g (iv st.row) (iv st.rnd) st.pc) := by
  induction h with
  | @fin st co h =>
    intro hKo hKp j h0 h1 hb hj
    obtain ⟨j, rfl⟩ : ∃ j', j = j' + 1 := ⟨j - 1, by omega⟩
    show W Q K (b31_0 G k (l31_0g G k Ko Kp j) Ko Kp c F 0 (iv st.vs) st.ra st.ef co 0 c (loOf b) 0 g (iv st.row) (iv st.rnd) st.pc)
    unfold b31_0
    exact W_yes (by omega) (W_no (by omega) (hKo st co hb.1 h1 rfl))
  | @fuel st co h2 h3 h4 =>
    intro hKo hKp j h0 h1 hb hj
    obtain ⟨j, rfl⟩ : ∃ j', j = j' + 1 := ⟨j - 1, by omega⟩
    show W Q K (b31_0 G k (l31_0g G k Ko Kp j) Ko Kp c F 0 (iv st.vs) st.ra st.ef co 0 c (loOf b) 0 g (iv st.row) (iv st.rnd) st.pc)
    unfold b31_0
    exact W_yes (by omega) (W_yes (by omega) (W_yes (by omega) (hKp _ _ _ _ _ rfl)))
  | @err st co op a n s e st' h2 h3 h4 h5 h6 =>
    intro hKo hKp j h0 h1 hb hj
    obtain ⟨j, rfl⟩ : ∃ j', j = j' + 1 := ⟨j - 1, by omega⟩
    have hlt := get_lt h2 h3
    show W Q K (b31_0 G k (l31_0g G k Ko Kp j) Ko Kp c F 0 (iv st.vs) st.ra st.ef co 0 c (loOf b) 0 g (iv st.row) (iv st.rnd) st.pc)
    unfold b31_0
    refine W_yes (by omega) (W_yes (by omega) (W_no (by omega) (W_at h2 h3 (W_asAgg ?_))))
    rw [wrap_id (n := co + 1) (by omega)]
    unfold StepX at hSt
    refine W_call (hSt b g op a n s st e st' c 0 (co + 1) 0 _ h5 hg (small_of hc hb h2 hlt (by omega))) ?_
    intro o ho
    unfold Out at ho
    rw [if_neg h6] at ho
    obtain ⟨st2, rfl, e1, e2, e3⟩ := ho
    unfold oE
    (repeat(with_reducible apply U1))
    rw [e1, e2, e3]
    exact hKp _ _ _ _ _ rfl
  | @step st co op a n s st' d h2 h3 h4 h5 h6 ih =>
    intro hKo hKp j h0 h1 hb hj
    obtain ⟨j, rfl⟩ : ∃ j', j = j' + 1 := ⟨j - 1, by omega⟩
    have hlt := get_lt h2 h3
    show W Q K (b31_0 G k (l31_0g G k Ko Kp j) Ko Kp c F 0 (iv st.vs) st.ra st.ef co 0 c (loOf b) 0 g (iv st.row) (iv st.rnd) st.pc)
    unfold b31_0
    refine W_yes (by omega) (W_yes (by omega) (W_no (by omega) (W_at h2 h3 (W_asAgg ?_))))
    rw [wrap_id (n := co + 1) (by omega)]
    unfold StepX at hSt
    refine W_call (hSt b g op a n s st 0 st' c 0 (co + 1) 0 _ h5 hg (small_of hc hb h2 hlt (by omega))) ?_
    intro o ho
    unfold Out at ho
    rw [if_pos rfl] at ho
    subst ho
    unfold oE
    (repeat(with_reducible apply U1))
    exact ih hKo hKp j (by omega) (by omega) (bd_step h5 hb) (by omega)
def clip (F : Int) : Int := if 0 < (if 1048576 < F then 1048576 else F) then (if 1048576 < F then 1048576 else F) else 0
theorem clip_le (F : Int) : clip F ≤ 1048576 ∧ 0 ≤ clip F := by unfold clip; split <;> split <;> omega
def lifeV (b : Bool) (x y : Int) : V := .agg [.sl 1 (iv (cfOf b)), .sl 1 (iv [x, y]), .sl 1 []]
def RunX (f : FuncId) (G : ORC R) : Prop := ∀ (b : Bool) (g : Int) (c : List V) (x y F : Int) (d : Dn) (K : List V → Option R), Run b g c (clip F) ⟨0, [], [], [x, y], [], []⟩ 0 d → c.length ≤ 9999 → InR g → W (fun o => o = [d.l]) K (G f [.sl 4 c, lifeV b x y, .int .i64 g, .int .i64 F] K)
def CloneX (G : ORC R) : Prop := ∀ (l : List V) (K : List V → Option R), l.length ≤ 1000000 → W (fun o => o = [.sl 1 l]) K (G 43 [.sl 1 l] K)
theorem clone_ok : CloneX (fun _ args (K : List V → Option R) => g43 G k args K) := by
  intro l K hl
  show W _ K (bif decide (l.length ≤ 1000000) then K [.sl 1 l] else none)
  exact W_yes hl (W_ret rfl)
theorem erunx_ok (hk : 1048578 ≤ k) (hC : CloneX G) (hO : OfX G) (hSt : StepX G) : RunX 31 (fun _ args (K : List V → Option R) => g31 G k args K) := by
  intro b g c x y F d K h hc hg
  refine W_show (y := f31 G k c (iv (cfOf b)) (iv [x, y]) [] g F K) (by kernel_rfl) ?_
  unfold f31
  unfold CloneX at hC; unfold OfX at hO
  refine W_call (hC _ _ (by rw [iv_len]; simp)) ?_
  rintro _ rfl
  (repeat(with_reducible apply U1))
  refine W_call (hO _ _) ?_
  rintro _ rfl
  (repeat(with_reducible apply U1))
  simp only [Bool.cond_decide]
  unfold l31_0
  refine erun_ok (st := ⟨0, [], [], [x, y], [], []⟩) (co := 0) hSt hg hc (clip_le F).1 h ?_ ?_ k (by omega) (by omega) ⟨by simp, by simp, by simp, by simp⟩ (by omega)
  · intro st co h1 h2 hd
    rcases row_cases st.row with h0 | ⟨l', x', h0⟩
    · rw [h0, iv]
      rw [if_neg (by simp)]
      refine W_ret ?_
      rw [hd, h0]; rfl
    · rw [h0] at h1 ⊢
      rw [List.length_append, List.length_singleton] at h1
      rw [iv_snoc, wl (by rw [iv_len]; omega), if_pos (by rw [List.length_append, List.length_singleton]; omega)]
      refine W_at (by omega) gl (W_aI (W_ret ?_))
      rw [hd, h0, last_snoc]; rfl
  · intro vs ra ef co e hd
    refine W_ret ?_
    rw [hd]; rfl
end
set_option maxHeartbeats 8000000
section
variable {R : Type} {G : ORC R} {k : Nat} {K : List V → Option R}
def wr (N : Nms) (c : List V) : List V := [.sl 1 N.a, .sl 1 N.p, .sl 1 N.t, .sl 7 (N.nd.map Nd.v), .sl 4 c]
end
section
variable {R : Type} {G : ORC R} {k : Nat} {K : List V → Option R}
end
section
variable {R : Type} {G : ORC R} {k : Nat} {K : List V → Option R}
end
section
variable {R : Type} {G : ORC R} {k : Nat} {K : List V → Option R}
end
set_option maxHeartbeats 4000000
section
variable {R : Type} {G : ORC R} {k : Nat} {K : List V → Option R}
end
set_option maxHeartbeats 8000000
section
variable {R : Type} {G : ORC R} {k : Nat} {K : List V → Option R}
end
section
def loopX (at_ : Nat) (n : Int) (B : List V) : List V := ins 25 (at_ + B.length + 2 : Nat) n :: (B ++ [ins 26 at_ 0])
theorem ce3 : 1 ≤ ce 3 := by decide
end
section
inductive Seg (e : Nat) : Nat → List V → List Int → Prop
  | nil {p : Nat} : Seg e p [] []
  | one {p : Nat} {op a n : Int} {s : ByteArray} {c : List V} {t : List Int} : op ≠ 25 → op ≠ 26 → (op = 23 ∨ op = 24 → (p : Int) < a ∧ a ≤ e) → Seg e (p + 1) c t → Seg e p (insS op a n s :: c) (1 :: t)
  | loop {p : Nat} {n : Int} {B c : List V} {tb t : List Int} : 1 ≤ n → n ≤ 16 → Seg e (p + 1) B tb → p + B.length + 2 ≤ e → Seg e (p + B.length + 2) c t →
      Seg e p (ins 25 (p + B.length + 2 : Nat) n :: (B ++ ins 26 p 0 :: c)) (1 :: (tb.map (n * ·) ++ n :: t))
theorem seg_one {e p : Nat} {op a n : Int} {s : ByteArray} (h1 : op ≠ 25) (h2 : op ≠ 26) (h3 : op = 23 ∨ op = 24 → (p : Int) < a ∧ a ≤ e) : Seg e p [insS op a n s] [1] := .one h1 h2 h3 .nil
end
section
variable {R : Type} {G : ORC R} {k : Nat} {K : List V → Option R}
end
set_option maxHeartbeats 4000000
section
variable {R : Type} {G : ORC R} {k : Nat} {K : List V → Option R}
def ExprM (A : List V) : Nat → V → Prop
  | 0, _ => False
  | d + 1, v => ∃ kind n nm kids, v = .agg [.int .i64 kind, .int .i64 n, .str nm, .sl 5 kids, .int .i64 0] ∧ I64 n ∧ StrS nm ∧ 1 ≤ kind ∧ kind ≤ 19 ∧ kids.length ≤ 2 ∧ (∀ e ∈ kids, ExprM A d e) ∧
      (kind ≤ 4 ∨ (kind ≤ 6 ∧ kids.length = 1) ∨ (7 ≤ kind ∧ kids.length = 2)) ∧ (kind = 2 → .str nm ∈ A)
theorem ExprM.s {A : List V} : ∀ {d : Nat} {v : V}, ExprM A d v → ExprS d v
  | 0, _, h => h.elim
  | d + 1, v, ⟨kind, n, nm, kids, h1, h2, h3, h4, h5, h6, h7, h8, h9⟩ => ⟨kind, n, nm, kids, h1, h2, h3, h4, h5, h6, fun e he => (h7 e he).s, h8⟩
end
set_option maxHeartbeats 8000000
section
variable {R : Type} {G : ORC R} {k : Nat} {K : List V → Option R}
end
section
variable {R : Type} {G : ORC R} {k : Nat} {K : List V → Option R}
def ActM (A B : List V) : Nat → V → Prop
  | 0, _ => False
  | d + 1, v => ∃ kind nm ev x n th el, v = .agg [.int .i64 kind, .str nm, .str ev, .sl 5 x, .int .i64 n, .sl 8 th, .sl 8 el, .int .i64 0] ∧ ActN kind n ∧ StrS nm ∧ StrS ev ∧ 1 ≤ kind ∧ kind ≤ 7 ∧ x.length ≤ 1 ∧ (∀ e ∈ x, ExprM A 3 e) ∧ (kind = 6 → x.length = 1) ∧
      th.length ≤ 2 ∧ el.length ≤ 2 ∧ (∀ a ∈ th, ActM A B d a) ∧ (∀ a ∈ el, ActM A B d a) ∧ (kind = 1 → .str nm ∈ A) ∧ (kind = 3 → .str nm ∈ B)
theorem ActM.s {A B : List V} : ∀ {d : Nat} {v : V}, ActM A B d v → ActS d v
  | 0, _, h => h.elim
  | d + 1, v, ⟨kind, nm, ev, x, n, th, el, h1, h2, h3, h4, h5, h6, h7, h8, h9, h10, h11, h12, h13, _, _⟩ =>
    ⟨kind, nm, ev, x, n, th, el, h1, h2, h3, h4, h5, h6, h7, fun e he => (h8 e he).s, h9, h10, h11, fun a ha => (h12 a ha).s, fun a ha => (h13 a ha).s⟩
def BlockM (A B : List V) (d : Nat) (l : List V) : Prop := l.length ≤ 2 ∧ ∀ a ∈ l, ActM A B d a
theorem BlockM.s {A B : List V} {d : Nat} {l : List V} (h : BlockM A B d l) : BlockS d l := ⟨h.1, fun a ha => (h.2 a ha).s⟩
end
set_option maxHeartbeats 16000000
section
def isS (p : Int) : V → Bool
  | .agg (.int _ op :: .int _ a :: _) => op == 20 && a == p
  | _ => false
def isF (p : Int) : V → Bool
  | .agg (.int _ kd :: .int _ a :: _) => kd == 1 && a == p
  | _ => false
def nS (p : Int) (l : List V) : Int := (l.countP (isF p) : Nat)
structure Lim where
  M : Int
  S : Int → Int
def Lim.ok (L : Lim) (st : St) (co : Int) : Prop := co ≤ L.M ∧ ∀ p, nS p st.ef ≤ L.S p
inductive Wp (b : Bool) (g : Int) (c : List V) (L : Lim) (Q : St → Int → Prop) : St → Int → Prop
  | done {st : St} {co : Int} : Q st co → Wp b g c L Q st co
  | err {st : St} {co op a n : Int} {s : ByteArray} {e : Int} {st' : St} : 0 ≤ st.pc → c[st.pc.toNat]? = some (insS op a n s) → Stp b g op a n s st e st' → e ≠ 0 → L.ok st (co + 1) → Wp b g c L Q st co
  | step {st : St} {co op a n : Int} {s : ByteArray} {st' : St} : 0 ≤ st.pc → c[st.pc.toNat]? = some (insS op a n s) → Stp b g op a n s st 0 st' → Wp b g c L Q st' (co + 1) → Wp b g c L Q st co
theorem wp_seq {b g c L Q Q'} {st : St} {co : Int} (h : Wp b g c L Q st co) : (∀ st' co', Q st' co' → Wp b g c L Q' st' co') → Wp b g c L Q' st co := by
  induction h with
  | done h => exact fun k => k _ _ h
  | err h1 h2 h3 h4 h5 => exact fun _ => .err h1 h2 h3 h4 h5
  | step h1 h2 h3 _ ih => exact fun k => .step h1 h2 h3 (ih k)
section
variable {b : Bool} {g : Int} {c : List V} {L : Lim}
end
end
section
variable {b : Bool} {g : Int} {c : List V} {L : Lim}
end
section
variable {b : Bool} {g : Int} {c : List V} {L : Lim}
def st0 (x y : Int) : St := ⟨0, [], [], [x, y], [], []⟩
end
set_option maxHeartbeats 8000000
section
variable {R : Type} {G : ORC R} {k : Nat} {K : List V → Option R}
end
section
variable {R : Type} {G : ORC R} {k : Nat} {K : List V → Option R}
end
set_option maxHeartbeats 16000000
section
variable {R : Type} {G : ORC R} {k : Nat} {K : List V → Option R} {Q : List V → Prop}
def LifeX (G : ORC R) : Prop := ∀ (x y : Int) (b : Bool) (K : List V → Option R), W (fun o => o = [lifeV b x y]) K (G 28 [.int .i64 x, .int .i64 y, .bool b] K)
theorem life_ok : LifeX (fun _ args (K : List V → Option R) => g28 G k args K) := by
  intro x y b K
  show W _ K (f28 G k x y b K)
  unfold f28
  cases b <;> exact W_ret rfl
def KnX (G : ORC R) : Prop := ∀ K : List V → Option R, G 26 [] K = K [.bool true]
theorem knx_go (hKn : KnX G) : W (fun o => o = [.bool true]) K (G 26 [] fun o => uB o fun b r => unNil r (K [.bool b])) := by
  rw [hKn]; exact W_uB (W_unNil (W_ret rfl))
end
section
variable {R : Type} {G : ORC R} {k : Nat} {K : List V → Option R} {Q : List V → Prop}
def tN : V := .agg [(.sl 1 [(.str ⟨#[120]⟩), (.str ⟨#[121]⟩)]), (.sl 1 []), (.sl 1 []), (.sl 7 [])]
def tA (s : ByteArray) : V := .agg [(.int .i64 2), (.int .i64 0), (.str s), (.sl 5 []), (.int .i64 0)]
def tK (m : Int) (l : List V) : V := .agg [(.int .i64 m), (.int .i64 0), (.str ⟨#[]⟩), (.sl 5 l), (.int .i64 0)]
def tB : V := tK 8 [.agg [(.int .i64 1), (.int .i64 1), (.str ⟨#[]⟩), (.sl 5 []), (.int .i64 0)], .agg [(.int .i64 1), (.int .i64 0), (.str ⟨#[]⟩), (.sl 5 []), (.int .i64 0)]]
def pA : List V := [ins 2 0 0, ins 24 6 0, ins 2 1 0, ins 24 6 0, ins 1 0 1, ins 23 7 0, ins 1 0 0]
def qA : List V := [ins 2 0 0, ins 24 8 0, ins 1 0 1, ins 1 0 0, ins 8 0 0, ins 24 8 0, ins 1 0 1, ins 23 9 0, ins 1 0 0]
def pO : List V := [ins 2 0 0, ins 24 4 0, ins 1 0 1, ins 23 9 0, ins 2 1 0, ins 24 8 0, ins 1 0 1, ins 23 9 0, ins 1 0 0]
def qO : List V := [ins 2 0 0, ins 24 4 0, ins 1 0 1, ins 23 11 0, ins 1 0 1, ins 1 0 0, ins 8 0 0, ins 24 10 0, ins 1 0 1, ins 23 11 0, ins 1 0 0]
def rN : List V := [ins 2 0 0, ins 6 0 0]
def TrN (G : ORC R) : Prop := ∀ K : List V → Option R, (G 25 [tK 18 [tA ⟨#[120]⟩, tA ⟨#[121]⟩], tN] K = K [.sl 4 pA] ∧ G 25 [tK 18 [tA ⟨#[120]⟩, tB], tN] K = K [.sl 4 qA]) ∧
  (G 25 [tK 19 [tA ⟨#[120]⟩, tA ⟨#[121]⟩], tN] K = K [.sl 4 pO] ∧ G 25 [tK 19 [tA ⟨#[120]⟩, tB], tN] K = K [.sl 4 qO]) ∧ G 25 [tK 6 [tA ⟨#[120]⟩], tN] K = K [.sl 4 rN]
variable {b : Bool} {g F : Int} {c : List V}
theorem rs_push {p : Nat} {n a co : Int} {s : ByteArray} {l r v : List Int} {ra ef : List V} {d : Dn} (hc : c[p]? = some (insS 1 a n s)) (hF : co < F) (hn : InR n) (h : Run b g c F ⟨(p + 1 : Nat), l ++ [n], r, v, ra, ef⟩ (co + 1) d) : Run b g c F ⟨p, l, r, v, ra, ef⟩ co d :=
  .step (Int.natCast_nonneg _) (by rw [Int.toNat_natCast]; exact hc) hF (.push hn) h
theorem rs_load {p : Nat} {i : Nat} {n x co : Int} {s : ByteArray} {l r v : List Int} {ra ef : List V} {d : Dn} (hc : c[p]? = some (insS 2 i n s)) (hF : co < F) (hx : v[i]? = some x) (h : Run b g c F ⟨(p + 1 : Nat), l ++ [x], r, v, ra, ef⟩ (co + 1) d) : Run b g c F ⟨p, l, r, v, ra, ef⟩ co d :=
  .step (Int.natCast_nonneg _) (by rw [Int.toNat_natCast]; exact hc) hF (.load hx) h
theorem rs_jump {p i : Nat} {n co : Int} {s : ByteArray} {l r v : List Int} {ra ef : List V} {d : Dn} (hc : c[p]? = some (insS 23 i n s)) (hF : co < F) (h : Run b g c F ⟨i, l, r, v, ra, ef⟩ (co + 1) d) : Run b g c F ⟨p, l, r, v, ra, ef⟩ co d :=
  .step (Int.natCast_nonneg _) (by rw [Int.toNat_natCast]; exact hc) hF .jump h
theorem rs_f0 {p i : Nat} {n x co : Int} {s : ByteArray} {l r v : List Int} {ra ef : List V} {d : Dn} (hc : c[p]? = some (insS 24 i n s)) (hF : co < F) (hx : x = 0) (h : Run b g c F ⟨i, l, r, v, ra, ef⟩ (co + 1) d) : Run b g c F ⟨p, l ++ [x], r, v, ra, ef⟩ co d :=
  .step (Int.natCast_nonneg _) (by rw [Int.toNat_natCast]; exact hc) hF .fals (by rw [if_pos hx]; exact h)
theorem rs_f1 {p i : Nat} {n x co : Int} {s : ByteArray} {l r v : List Int} {ra ef : List V} {d : Dn} (hc : c[p]? = some (insS 24 i n s)) (hF : co < F) (hx : x ≠ 0) (h : Run b g c F ⟨(p + 1 : Nat), l, r, v, ra, ef⟩ (co + 1) d) : Run b g c F ⟨p, l ++ [x], r, v, ra, ef⟩ co d :=
  .step (Int.natCast_nonneg _) (by rw [Int.toNat_natCast]; exact hc) hF .fals (by rw [if_neg hx]; exact h)
theorem rs_div {p : Nat} {a n co : Int} {s : ByteArray} {l r v : List Int} {ra ef : List V} (hc : c[p]? = some (insS 8 a n s)) (hF : co < F) : Run b g c F ⟨p, l ++ [1] ++ [0], r, v, ra, ef⟩ co ⟨0, v, ra, ef, co + 1, 3⟩ := by
  have h := Stp.two (b := b) (g := g) (op := 8) (a := a) (n := n) (s := s) (p := p) (l := l) (r := r) (v := v) (ra := ra) (ef := ef) (x := 1) (y := 0) (by omega) (by omega) (by unfold InR; omega) (by unfold InR; omega)
  have e : (twoR 8 1 0).2 = 3 := by decide
  rw [e] at h
  exact .err (Int.natCast_nonneg _) (by rw [Int.toNat_natCast]; exact hc) hF h (by decide)
theorem rs_fin {p : Nat} {x co : Int} {r v : List Int} {ra ef : List V} (hc : c.length = p) : Run b g c F ⟨p, [] ++ [x], r, v, ra, ef⟩ co ⟨x, v, ra, ef, co, 0⟩ := .fin (by dsimp only; omega)
theorem rs_not {p : Nat} {a n co x : Int} {s : ByteArray} {l r v : List Int} {ra ef : List V} {d : Dn} (hc : c[p]? = some (insS 6 a n s)) (hF : co < F) (h : Run b g c F ⟨(p + 1 : Nat), l ++ [tr (x == 0)], r, v, ra, ef⟩ (co + 1) d) : Run b g c F ⟨p, l ++ [x], r, v, ra, ef⟩ co d :=
  .step (Int.natCast_nonneg _) (by rw [Int.toNat_natCast]; exact hc) hF .not h
theorem run_pA {x y : Int} : ∃ d, Run false 0 pA 100 (st0 x y) 0 d ∧ d.cd = 0 ∧ d.v = if x ≠ 0 ∧ y ≠ 0 then 1 else 0 := by
  have i0 : InR 0 := by unfold InR; omega
  have i1 : InR 1 := by unfold InR; omega
  by_cases hx : x = 0
  · refine ⟨_, rs_load (p := 0) (i := 0) rfl (by decide) rfl (rs_f0 (i := 6) rfl (by decide) hx (rs_push rfl (by decide) i0 (rs_fin rfl))), rfl, ?_⟩
    rw [if_neg (by omega)]
  by_cases hy : y = 0
  · refine ⟨_, rs_load (p := 0) (i := 0) rfl (by decide) rfl (rs_f1 (i := 6) rfl (by decide) hx (rs_load (i := 1) rfl (by decide) rfl (rs_f0 (i := 6) rfl (by decide) hy (rs_push rfl (by decide) i0 (rs_fin rfl))))), rfl, ?_⟩
    rw [if_neg (by omega)]
  · refine ⟨_, rs_load (p := 0) (i := 0) rfl (by decide) rfl (rs_f1 (i := 6) rfl (by decide) hx (rs_load (i := 1) rfl (by decide) rfl (rs_f1 (i := 6) rfl (by decide) hy (rs_push rfl (by decide) i1 (rs_jump (i := 7) rfl (by decide) (rs_fin rfl)))))), rfl, ?_⟩
    rw [if_pos (by omega)]
theorem run_pO {x y : Int} : ∃ d, Run false 0 pO 100 (st0 x y) 0 d ∧ d.cd = 0 ∧ d.v = if x ≠ 0 ∨ y ≠ 0 then 1 else 0 := by
  have i0 : InR 0 := by unfold InR; omega
  have i1 : InR 1 := by unfold InR; omega
  by_cases hx : x = 0
  · by_cases hy : y = 0
    · refine ⟨_, rs_load (p := 0) (i := 0) rfl (by decide) rfl (rs_f0 (i := 4) rfl (by decide) hx (rs_load (i := 1) rfl (by decide) rfl (rs_f0 (i := 8) rfl (by decide) hy (rs_push rfl (by decide) i0 (rs_fin rfl))))), rfl, ?_⟩
      rw [if_neg (by omega)]
    · refine ⟨_, rs_load (p := 0) (i := 0) rfl (by decide) rfl (rs_f0 (i := 4) rfl (by decide) hx (rs_load (i := 1) rfl (by decide) rfl (rs_f1 (i := 8) rfl (by decide) hy (rs_push rfl (by decide) i1 (rs_jump (i := 9) rfl (by decide) (rs_fin rfl)))))), rfl, ?_⟩
      rw [if_pos (by omega)]
  · refine ⟨_, rs_load (p := 0) (i := 0) rfl (by decide) rfl (rs_f1 (i := 4) rfl (by decide) hx (rs_push rfl (by decide) i1 (rs_jump (i := 9) rfl (by decide) (rs_fin rfl)))), rfl, ?_⟩
    rw [if_pos (by omega)]
theorem run_qA {x y : Int} : ∃ d, Run false 0 qA 100 (st0 x y) 0 d ∧ d.cd = if x ≠ 0 then 3 else 0 := by
  have i0 : InR 0 := by unfold InR; omega
  have i1 : InR 1 := by unfold InR; omega
  by_cases hx : x = 0
  · refine ⟨_, rs_load (p := 0) (i := 0) rfl (by decide) rfl (rs_f0 (i := 8) rfl (by decide) hx (rs_push rfl (by decide) i0 (rs_fin rfl))), ?_⟩
    rw [if_neg (by omega)]
  · refine ⟨_, rs_load (p := 0) (i := 0) rfl (by decide) rfl (rs_f1 (i := 8) rfl (by decide) hx (rs_push rfl (by decide) i1 (rs_push rfl (by decide) i0 (rs_div (l := []) rfl (by decide))))), ?_⟩
    rw [if_pos hx]
theorem run_qO {x y : Int} : ∃ d, Run false 0 qO 100 (st0 x y) 0 d ∧ d.cd = if x = 0 then 3 else 0 := by
  have i0 : InR 0 := by unfold InR; omega
  have i1 : InR 1 := by unfold InR; omega
  by_cases hx : x = 0
  · refine ⟨_, rs_load (p := 0) (i := 0) rfl (by decide) rfl (rs_f0 (i := 4) rfl (by decide) hx (rs_push rfl (by decide) i1 (rs_push rfl (by decide) i0 (rs_div (l := []) rfl (by decide))))), ?_⟩
    rw [if_pos hx]
  · refine ⟨_, rs_load (p := 0) (i := 0) rfl (by decide) rfl (rs_f1 (i := 4) rfl (by decide) hx (rs_push rfl (by decide) i1 (rs_jump (i := 11) rfl (by decide) (rs_fin rfl)))), ?_⟩
    rw [if_neg hx]
theorem run_rN {x y : Int} : ∃ d, Run false 0 rN 100 (st0 x y) 0 d ∧ d.v = tr (x == 0) :=
  ⟨_, rs_load (p := 0) (i := 0) rfl (by decide) rfl (rs_not rfl (by decide) (rs_fin rfl)), rfl⟩
def TruthsOK (G : ORC R) : Prop := ∀ (x y : Int) (b : Bool) (K : List V → Option R), I64 x → I64 y → W (fun o => o = [.bool true]) K (G 11 [.int .i64 x, .int .i64 y, .bool b] K)
theorem truths_law (hKn : KnX G) (hT : TrN G) (hL : LifeX G) (hE : RunX 31 G) : TruthsOK (fun _ args (K : List V → Option R) => g11 G k args K) := by
  intro x y b K hx hy
  show W _ K (f11 G k x y b K)
  unfold f11
  unfold TrN at hT; unfold LifeX at hL; unfold RunX at hE
  have hF : clip 100 = 100 := by decide
  have i0 : InR 0 := by unfold InR; omega
  obtain ⟨r, r1, r2⟩ := run_rN (x := x) (y := y)
  cases b with
  | false =>
    obtain ⟨p, p1, p2, p3⟩ := run_pA (x := x) (y := y)
    obtain ⟨q, q1, q2⟩ := run_qA (x := x) (y := y)
    refine W_chk' rfl (W_call (hL _ _ _ _) ?_)
    rintro _ rfl
    unfold lifeV
    (repeat(with_reducible apply U1))
    refine W_show (hT _).1.1 ?_
    (repeat(with_reducible apply U1))
    refine W_call (hE false 0 _ x y 100 _ _ (hF ▸ p1) (by decide) i0) ?_
    rintro _ rfl
    unfold Dn.l
    (repeat(with_reducible apply U1))
    refine W_show (hT _).1.2 ?_
    (repeat(with_reducible apply U1))
    refine W_call (hE false 0 _ x y 100 _ _ (hF ▸ q1) (by decide) i0) ?_
    rintro _ rfl
    unfold Dn.l
    (repeat(with_reducible apply U1))
    refine W_show (hT _).2.2 ?_
    (repeat(with_reducible apply U1))
    refine W_call (hE false 0 _ x y 100 _ _ (hF ▸ r1) (by decide) i0) ?_
    rintro _ rfl
    unfold Dn.l
    (repeat(with_reducible apply U1))
    rw [p2, p3, q2, r2]
    by_cases hx0 : x = 0
    · subst hx0
      simp [tr]
      exact knx_go hKn
    · have e1 : (x != 0) = true := by simp [hx0]
      have e2 : (x == 0) = false := by simp [hx0]
      by_cases hy0 : y = 0
      · subst hy0
        simp [hx0, tr, e1, e2]
        exact knx_go hKn
      · have e3 : (y != 0) = true := by simp [hy0]
        simp [hx0, hy0, tr, e1, e2, e3]
        exact knx_go hKn
  | true =>
    obtain ⟨p, p1, p2, p3⟩ := run_pO (x := x) (y := y)
    obtain ⟨q, q1, q2⟩ := run_qO (x := x) (y := y)
    refine W_chk rfl (W_call (hL _ _ _ _) ?_)
    rintro _ rfl
    unfold lifeV
    (repeat(with_reducible apply U1))
    refine W_show (hT _).2.1.1 ?_
    (repeat(with_reducible apply U1))
    refine W_call (hE false 0 _ x y 100 _ _ (hF ▸ p1) (by decide) i0) ?_
    rintro _ rfl
    unfold Dn.l
    (repeat(with_reducible apply U1))
    refine W_show (hT _).2.1.2 ?_
    (repeat(with_reducible apply U1))
    refine W_call (hE false 0 _ x y 100 _ _ (hF ▸ q1) (by decide) i0) ?_
    rintro _ rfl
    unfold Dn.l
    (repeat(with_reducible apply U1))
    refine W_show (hT _).2.2 ?_
    (repeat(with_reducible apply U1))
    refine W_call (hE false 0 _ x y 100 _ _ (hF ▸ r1) (by decide) i0) ?_
    rintro _ rfl
    unfold Dn.l
    (repeat(with_reducible apply U1))
    rw [p2, p3, q2, r2]
    by_cases hx0 : x = 0
    · subst hx0
      by_cases hy0 : y = 0
      · subst hy0
        simp [tr]
        exact knx_go hKn
      · have e3 : (y != 0) = true := by simp [hy0]
        simp [hy0, tr, e3]
        exact knx_go hKn
    · have e1 : (x != 0) = true := by simp [hx0]
      have e2 : (x == 0) = false := by simp [hx0]
      simp [hx0, tr, e1, e2]
      try exact knx_go hKn
end
def ttB (k : Nat) (G : ORC (List V)) : ORC (List V) := fun f args K => match f with
    | 11 => g11 G k args K
    | 25 => g25 G k args K
    | 26 => g26 G k args K
    | 28 => g28 G k args K
    | 31 => g31 G k args K
    | 42 => g42 G k args K
    | 43 => g43 G k args K
    | 44 => g44 G k args K
    | 46 => g46 G k args K
    | 61 => g61 G k args K
    | 62 => g62 G k args K
    | 63 => g63 G k args K
    | 64 => g64 G k args K
    | 65 => g65 G k args K
    | 66 => g66 G k args K
    | 67 => g67 G k args K
    | 68 => g68 G k args K
    | 69 => g69 G k args K
    | 70 => g70 G k args K
    | 71 => g71 G k args K
    | 72 => g72 G k args K
    | 73 => g73 G k args K
    | 74 => g74 G k args K
    | 75 => g75 G k args K
    | 89 => g89 G k args K
    | 90 => g90 G k args K
    | 91 => g91 G k args K
    | 92 => g92 G k args K
    | 93 => g93 G k args K
    | 94 => g94 G k args K
    | 95 => g95 G k args K
    | _ => none
def tt (k : Nat) : Nat → ORC (List V)
  | 0 => fun _ _ _ => none
  | j + 1 => fun f args K => (ttB k (tt k j) f args some).bind K
theorem tt_sound (k : Nat) : ∀ j, Sound Try.prog TAB (tt k j)
  | 0 => fun f args K r h => by cases h
  | j + 1 => fun f args K r h => by
    have ih := tt_sound k j
    have h : (ttB k (tt k j) f args some).bind K = some r := h
    cases hb : ttB k (tt k j) f args some with
    | none => rw [hb] at h; cases h
    | some o =>
    rw [hb] at h
    have key : ∃ o', CallOK Try.prog TAB.env f args o' ∧ some o' = some o := by
      unfold ttB at hb
      split at hb
      · exact s11 ih args some o hb
      · exact s25 ih args some o hb
      · exact s26 ih args some o hb
      · exact s28 ih args some o hb
      · exact s31 ih args some o hb
      · exact s42 ih args some o hb
      · exact s43 ih args some o hb
      · exact s44 ih args some o hb
      · exact s46 ih args some o hb
      · exact s61 ih args some o hb
      · exact s62 ih args some o hb
      · exact s63 ih args some o hb
      · exact s64 ih args some o hb
      · exact s65 ih args some o hb
      · exact s66 ih args some o hb
      · exact s67 ih args some o hb
      · exact s68 ih args some o hb
      · exact s69 ih args some o hb
      · exact s70 ih args some o hb
      · exact s71 ih args some o hb
      · exact s72 ih args some o hb
      · exact s73 ih args some o hb
      · exact s74 ih args some o hb
      · exact s75 ih args some o hb
      · exact s89 ih args some o hb
      · exact s90 ih args some o hb
      · exact s91 ih args some o hb
      · exact s92 ih args some o hb
      · exact s93 ih args some o hb
      · exact s94 ih args some o hb
      · exact s95 ih args some o hb
      · cases hb
    obtain ⟨o', h1, h2⟩ := key
    cases h2
    exact ⟨o, h1, h⟩
theorem tt_U {k j : Nat} {f : FuncId} {args : List V} {Q : List V → Prop} (h : W Q some (ttB k (tt k j) f args some)) : ∃ o, Q o ∧ ∀ K, tt k (j + 1) f args K = K o := by
  obtain ⟨o, q, e⟩ := h
  exact ⟨o, q, fun K => by show (ttB k (tt k j) f args some).bind K = _; rw [e]; rfl⟩
theorem tt_W {k j : Nat} {f : FuncId} {args : List V} {Q : List V → Prop} {K : List V → Option (List V)} (h : W Q some (ttB k (tt k j) f args some)) : W Q K (tt k (j + 1) f args K) := by
  obtain ⟨o, q, e⟩ := tt_U h
  exact ⟨o, q, e K⟩
set_option maxHeartbeats 8000000
section
def Ev (P : ORC (List V) → Prop) : Prop := ∃ N, ∀ j, N ≤ j → P (tt 1100000 j)
theorem ev0 {P : ORC (List V) → Prop} (h : ∀ j, P (tt 1100000 (j + 1))) : Ev P := ⟨1, fun j hj => by obtain ⟨j', rfl⟩ : ∃ j', j = j' + 1 := ⟨j - 1, by omega⟩; exact h j'⟩
theorem evS {A P : ORC (List V) → Prop} (hA : Ev A) (h : ∀ j, A (tt 1100000 j) → P (tt 1100000 (j + 1))) : Ev P := by
  obtain ⟨N, hN⟩ := hA
  refine ⟨N + 1, fun j hj => ?_⟩
  obtain ⟨j', rfl⟩ : ∃ j', j = j' + 1 := ⟨j - 1, by omega⟩
  exact h j' (hN j' (by omega))
theorem evA {A B : ORC (List V) → Prop} (hA : Ev A) (hB : Ev B) : Ev fun G => A G ∧ B G := by
  obtain ⟨N, hN⟩ := hA
  obtain ⟨M, hM⟩ := hB
  exact ⟨N + M, fun j hj => ⟨hN j (by omega), hM j (by omega)⟩⟩
end
theorem evNAdd : Ev (TwoX 95 fun a b => over (a + b)) := ev0 fun j => by have e := nadd_ok (G := tt 1100000 j) (k := 1100000); unfold TwoX at e ⊢; (intros; refine tt_W ?_; apply e <;> assumption)
theorem evNSub : Ev (TwoX 90 fun a b => over (a - b)) := ev0 fun j => by have e := nsub_ok (G := tt 1100000 j) (k := 1100000); unfold TwoX at e ⊢; (intros; refine tt_W ?_; apply e <;> assumption)
theorem evNMul : Ev (TwoX 92 fun a b => over (a * b)) := ev0 fun j => by have e := nmul_ok (G := tt 1100000 j) (k := 1100000); unfold TwoX at e ⊢; (intros; refine tt_W ?_; apply e <;> assumption)
theorem evNMod : Ev (TwoX 94 modR) := ev0 fun j => by have e := nmod_ok (G := tt 1100000 j) (k := 1100000); unfold TwoX at e ⊢; (intros; refine tt_W ?_; apply e <;> assumption)
theorem evNNeg : Ev (OneX 71) := evS evNSub fun j h => by have e := nneg_ok (G := tt 1100000 j) (k := 1100000) h; unfold OneX at e ⊢; (intros; refine tt_W ?_; apply e <;> assumption)
theorem evNDiv : Ev (TwoX 93 divR) := evS evNNeg fun j h => by have e := ndiv_ok (G := tt 1100000 j) (k := 1100000) h; unfold TwoX at e ⊢; (intros; refine tt_W ?_; apply e <;> assumption)
theorem evNTr : Ev (TrX 68) := ev0 fun j => by have e := ntr_ok (G := tt 1100000 j) (k := 1100000); unfold TrX at e ⊢; (intros; refine tt_W ?_; apply e <;> assumption)
theorem evInX : Ev InX := ev0 fun j => by have e := inx_ok (G := tt 1100000 j) (k := 1100000); unfold InX at e ⊢; (intros; refine tt_W ?_; apply e <;> assumption)
theorem evWiX : Ev WiX := evS evInX fun j h => by have e := wix_ok (G := tt 1100000 j) (k := 1100000) h; unfold WiX at e ⊢; (intros; refine tt_W ?_; apply e <;> assumption)
theorem evHasX : Ev HasX := evS (evA evWiX evInX) fun j h => by have e := hasx_ok (G := tt 1100000 j) (k := 1100000) h.1 h.2; unfold HasX at e ⊢; (intros; refine tt_W ?_; apply e <;> assumption)
theorem evOfX : Ev OfX := evS evWiX fun j h => by have e := ofx_ok (G := tt 1100000 j) (k := 1100000) (by omega) h; unfold OfX at e ⊢; (intros; refine tt_W ?_; apply e <;> assumption)
theorem evSureX : Ev SureX := ev0 fun j => by have e := sure_ok (G := tt 1100000 j) (k := 1100000); unfold SureX at e ⊢; (intros; refine tt_W ?_; apply e <;> assumption)
theorem evPairX : Ev PairX := evS (evA (evA (evA evNMul evNDiv) (evA evNMod evNAdd)) (evA (evA evNSub evSureX) evNTr)) fun j h => by
  have e := pair_ok (G := tt 1100000 j) (k := 1100000) h.1.1.1 h.1.1.2 h.1.2.1 h.1.2.2 h.2.1.1 h.2.1.2 h.2.2; unfold PairX at e ⊢; (intros; refine tt_W ?_; apply e <;> assumption)
theorem evTakeX : Ev TakeX := ev0 fun j => by have e := take_ok (G := tt 1100000 j) (k := 1100000); unfold TakeX at e ⊢; (intros; refine tt_W ?_; apply e <;> assumption)
theorem evMPutX : Ev MPutX := ev0 fun j => by have e := put_ok (G := tt 1100000 j) (k := 1100000); unfold MPutX at e ⊢; (intros; refine tt_W ?_; apply e <;> assumption)
theorem evEffX : Ev EffX := ev0 fun j => by have e := eff_ok (G := tt 1100000 j) (k := 1100000); unfold EffX at e ⊢; (intros; refine tt_W ?_; apply e <;> assumption)
theorem evTellX : Ev TellX := evS (evA evTakeX evEffX) fun j h => by have e := tell_ok (G := tt 1100000 j) (k := 1100000) h.1 h.2; unfold TellX at e ⊢; (intros; refine tt_W ?_; apply e <;> assumption)
theorem evMoveX : Ev MoveX := evS evTakeX fun j h => by have e := move_ok (G := tt 1100000 j) (k := 1100000) h; unfold MoveX at e ⊢; (intros; refine tt_W ?_; apply e <;> assumption)
theorem evStepX : Ev StepX := evS (evA (evA (evA evTakeX evMPutX) (evA evTellX evMoveX)) (evA (evA evHasX evNTr) (evA evNNeg (evA evSureX evPairX)))) fun j h => by
  have e := step_ok (G := tt 1100000 j) (k := 1100000) h.1.1.1 h.1.1.2 h.1.2.1 h.1.2.2 h.2.1.1 h.2.1.2 h.2.2.1 h.2.2.2.1 h.2.2.2.2; unfold StepX at e ⊢; (intros; refine tt_W ?_; apply e <;> assumption)
theorem evCloneX : Ev CloneX := ev0 fun j => by have e := clone_ok (G := tt 1100000 j) (k := 1100000); unfold CloneX at e ⊢; (intros; refine tt_W ?_; apply e <;> assumption)
theorem evERun : Ev (RunX 31) := evS (evA (evA evCloneX evOfX) evStepX) fun j h => by have e := erunx_ok (G := tt 1100000 j) (k := 1100000) (by omega) h.1.1 h.1.2 h.2; unfold RunX at e ⊢; (intros; refine tt_W ?_; apply e <;> assumption)
theorem evLifeX : Ev LifeX := ev0 fun j => by have e := life_ok (G := tt 1100000 j) (k := 1100000); unfold LifeX at e ⊢; (intros; refine tt_W ?_; apply e <;> assumption)
theorem evKnX : Ev KnX := by
  refine ⟨16, fun j hj => ?_⟩
  obtain ⟨j', rfl⟩ : ∃ j', j = j' + 16 := ⟨j - 16, by omega⟩
  intro K
  show _ = _
  kernel_rfl
theorem evTrN : Ev TrN := by
  refine ⟨16, fun j hj => ?_⟩
  obtain ⟨j', rfl⟩ : ∃ j', j = j' + 16 := ⟨j - 16, by omega⟩
  intro K
  refine ⟨⟨?_, ?_⟩, ⟨?_, ?_⟩, ?_⟩
  · show _ = _
    kernel_rfl
  · show _ = _
    kernel_rfl
  · show _ = _
    kernel_rfl
  · show _ = _
    kernel_rfl
  · show _ = _
    kernel_rfl
theorem evTruthsLaw : Ev TruthsOK := evS (evA (evA evKnX evTrN) (evA evLifeX evERun)) fun j h => by
  have e := truths_law (G := tt 1100000 j) (k := 1100000) h.1.1 h.1.2 h.2.1 h.2.2
  unfold TruthsOK at e ⊢; (intros; refine tt_W ?_; apply e <;> assumption)
end Go.Proofs.Ytdfjodnkplbffaa.Vm
