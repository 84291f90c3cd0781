/- Functions of the program, told by the machine of values, and what they answer: a part. -/
import Derived.Test.YtdfjodnkplbffaaMo2
import Derived.Test.YtdfjodnkplbffaaMoV4
import Derived.Test.YtdfjodnkplbffaaMo1
open Go Go.VM
set_option linter.unusedVariables false
set_option linter.unusedSimpArgs false
set_option maxRecDepth 100000
set_option maxHeartbeats 16000000
namespace Go.Proofs.Ytdfjodnkplbffaa.Vm
section
variable {b : Bool} {g : Int} {c : List V} {L : Lim}
theorem stp_adds {op a n : Int} {s : ByteArray} {st st' : St} {e : Int} (h : Stp b g op a n s st e st') : (∃ x, st'.ra = st.ra ++ x) ∧ (∃ y, st'.ef = st.ef ++ y) ∧ st'.vs.length = st.vs.length := by
  cases h <;> refine ⟨?_, ?_, ?_⟩ <;> first | exact ⟨[], (List.append_nil _).symm⟩ | exact ⟨_, rfl⟩ | rfl | exact List.length_set
theorem nS_app {p : Int} {l x : List V} : nS p l ≤ nS p (l ++ x) := by unfold nS; rw [List.countP_append]; omega
theorem stp_nS {op a n : Int} {s : ByteArray} {st st' : St} {e : Int} (h : Stp b g op a n s st e st') (p : Int) : nS p st.ef ≤ nS p st'.ef := by
  obtain ⟨_, ⟨y, hy⟩, _⟩ := stp_adds h; rw [hy]; exact nS_app
theorem wp_ok {Q : St → Int → Prop} {st : St} {co : Int} (h : Wp b g c L Q st co) : (∀ st co, Q st co → L.ok st co) → L.ok st co := by
  induction h with
  | done h => exact fun k => k _ _ h
  | err h1 h2 h3 h4 h5 => exact fun _ => ⟨by have := h5.1; omega, h5.2⟩
  | step h1 h2 h3 _ ih => exact fun k => ⟨by have := (ih k).1; omega, fun p => Int.le_trans (stp_nS h3 p) ((ih k).2 p)⟩
theorem wp_run {Q : St → Int → Prop} {st : St} {co : Int} (h : Wp b g c L Q st co) : (∀ st co, Q st co → (c.length : Int) ≤ st.pc ∧ L.ok st co) → ∀ F, ∃ d, Run b g c F st co d ∧ d.co ≤ L.M ∧ ∀ p, nS p d.ef ≤ L.S p := by
  induction h with
  | @done st co h => exact fun k F => ⟨_, .fin (k _ _ h).1, (k _ _ h).2.1, (k _ _ h).2.2⟩
  | @err st co op a n s e st' h1 h2 h3 h4 h5 =>
    intro k F
    by_cases hF : F ≤ co
    · exact ⟨_, .fuel h1 (get_lt h1 h2) hF, by have := h5.1; dsimp only; omega, h5.2⟩
    · exact ⟨_, .err h1 h2 (by omega) h3 h4, h5.1, h5.2⟩
  | @step st co op a n s st' h1 h2 h3 h4 ih =>
    intro k F
    by_cases hF : F ≤ co
    · have := wp_ok (.step h1 h2 h3 h4) fun st co q => (k st co q).2
      exact ⟨_, .fuel h1 (get_lt h1 h2) hF, this.1, this.2⟩
    · obtain ⟨d, k1, k2⟩ := ih k F
      exact ⟨d, .step h1 h2 (by omega) h3 k1, k2⟩
theorem run_pre {F : Int} {st : St} {co : Int} {d : Dn} (h : Run b g c F st co d) : (∃ x, d.ra = st.ra ++ x) ∧ (∃ y, d.ef = st.ef ++ y) ∧ d.vs.length = st.vs.length ∧ co ≤ d.co := by
  induction h with
  | fin h => exact ⟨⟨[], by simp⟩, ⟨[], by simp⟩, rfl, Int.le_refl _⟩
  | fuel _ _ h => exact ⟨⟨[], by simp⟩, ⟨[], by simp⟩, rfl, Int.le_refl _⟩
  | err _ _ _ _ _ => exact ⟨⟨[], by simp⟩, ⟨[], by simp⟩, rfl, by dsimp only; omega⟩
  | step h1 h2 h3 h4 _ ih =>
    obtain ⟨⟨x, e1⟩, ⟨y, e2⟩, e3⟩ := stp_adds h4
    obtain ⟨⟨x', f1⟩, ⟨y', f2⟩, f3, f4⟩ := ih
    exact ⟨⟨x ++ x', by rw [f1, e1]; simp⟩, ⟨y ++ y', by rw [f2, e2]; simp⟩, f3.trans e3, by omega⟩
theorem run_val {F : Int} {st : St} {co : Int} {d : Dn} (h : Run b g c F st co d) : d.cd = 0 ∨ d.v = 0 := by
  induction h with
  | fin h => exact .inl rfl
  | fuel _ _ h => exact .inr rfl
  | err _ _ _ _ _ => exact .inr rfl
  | step _ _ _ _ _ ih => exact ih
theorem run_bd {F : Int} {st : St} {co : Int} {d : Dn} (h : Run b g c F st co d) : Bd st co → co ≤ F → (d.ra.length : Int) ≤ d.co ∧ (d.ef.length : Int) ≤ d.co ∧ d.co ≤ F := by
  induction h with
  | fin h => intro h1 h2; exact ⟨h1.2.2.1, h1.2.2.2, h2⟩
  | fuel _ _ h => intro h1 h2; exact ⟨h1.2.2.1, h1.2.2.2, h2⟩
  | err _ _ h _ _ => intro h1 h2; unfold Bd at h1; exact ⟨by dsimp only; omega, by dsimp only; omega, by dsimp only; omega⟩
  | step h1 h2 h3 h4 _ ih => intro k1 k2; exact ih (bd_step h4 k1) (by omega)
def RaS (l : List V) : Prop := ∀ v ∈ l, ∃ s n, v = .agg [.str s, .int .i64 n]
def EfS (A : Int → Prop) (l : List V) : Prop := ∀ v ∈ l, ∃ k a s n, v = .agg [.int .i64 k, .int .i64 a, .str s, .int .i64 n] ∧ (k = 1 → A a)
theorem ras_snoc {l : List V} {v : V} (h : RaS l) (hv : ∃ s n, v = .agg [.str s, .int .i64 n]) : RaS (l ++ [v]) := fun w hw => by
  rcases List.mem_append.1 hw with hw | hw
  · exact h w hw
  · rw [List.mem_singleton.1 hw]; exact hv
theorem efs_snoc {A : Int → Prop} {l : List V} {v : V} (h : EfS A l) (hv : ∃ k a s n, v = .agg [.int .i64 k, .int .i64 a, .str s, .int .i64 n] ∧ (k = 1 → A a)) : EfS A (l ++ [v]) := fun w hw => by
  rcases List.mem_append.1 hw with hw | hw
  · exact h w hw
  · rw [List.mem_singleton.1 hw]; exact hv
def SendA (A : Int → Prop) (c : List V) : Prop := ∀ op a n s, insS op a n s ∈ c → op = 20 → A a
theorem stp_shape {A : Int → Prop} {op a n : Int} {s : ByteArray} {st st' : St} {e : Int} (h : Stp b g op a n s st e st') (hA : op = 20 → A a) (h1 : RaS st.ra) (h2 : EfS A st.ef) : RaS st'.ra ∧ EfS A st'.ef := by
  cases h <;> first
    | exact ⟨h1, h2⟩
    | exact ⟨ras_snoc h1 ⟨_, _, rfl⟩, h2⟩
    | exact ⟨h1, efs_snoc h2 ⟨_, _, _, _, rfl, fun _ => hA rfl⟩⟩
    | exact ⟨h1, efs_snoc h2 ⟨_, _, _, _, rfl, fun h => by omega⟩⟩
theorem run_shape {A : Int → Prop} {F : Int} {st : St} {co : Int} {d : Dn} (h : Run b g c F st co d) (hA : SendA A c) : RaS st.ra → EfS A st.ef → RaS d.ra ∧ EfS A d.ef := by
  induction h with
  | fin h => exact fun h1 h2 => ⟨h1, h2⟩
  | fuel _ _ h => exact fun h1 h2 => ⟨h1, h2⟩
  | err _ _ _ _ _ => exact fun h1 h2 => ⟨h1, h2⟩
  | step h1 h2 h3 h4 _ ih =>
    intro k1 k2
    obtain ⟨q1, q2⟩ := stp_shape h4 (fun e => hA _ _ _ _ (List.mem_of_getElem? h2) e) k1 k2
    exact ih q1 q2
def st0 (x y : Int) : St := ⟨0, [], [], [x, y], [], []⟩
theorem st0_inv {x y : Int} (hx : InR x) (hy : InR y) : Inv (st0 x y) := ⟨rfl, fun z hz => by
  simp only [st0, List.mem_cons, List.not_mem_nil, or_false] at hz
  rcases hz with rfl | rfl
  · exact hx
  · exact hy⟩
theorem st0_bd {x y : Int} : Bd (st0 x y) 0 := ⟨by simp [st0], by simp [st0], by simp [st0], by simp [st0]⟩
theorem runE {x y F : Int} {d : Nat} {v : V} (hg : InR g) (hx : InR x) (hy : InR y) (hv : ExprM N0.a d v) : ∃ r, Run b g (cE N0 d 0 v) F (st0 x y) 0 r ∧ r.co ≤ (cE N0 d 0 v).length ∧ ∀ p, nS p r.ef ≤ 0 := by
  have hat : At (cE N0 d 0 v) 0 (cE N0 d 0 v) := ⟨[], [], by simp, rfl⟩
  have h := cE_do (b := b) (L := ⟨(cE N0 d 0 v).length, fun _ => 0⟩) hg hv hat [] [] [x, y] [] [] 0 (st0_inv hx hy) (by simp) (fun p => by simp [nS])
  refine wp_run (L := ⟨(cE N0 d 0 v).length, fun _ => 0⟩) h (fun st co ⟨h1, z, h2, h3⟩ => ?_) F
  subst h3
  exact ⟨by simp, by dsimp only; omega, fun p => by simp [nS]⟩
theorem runB {x y F : Int} {d : Nat} {l : List V} (hg : InR g) (hx : InR x) (hy : InR y) (hl : BlockM N0.a N0.p d l) (hc : (cR (cA N0 d) 0 l).length ≤ 9999) : ∃ t, Sh (fun q => cR (cA N0 d) q l) t (cm d) ∧ ∃ r, Run b g (cR (cA N0 d) 0 l) F (st0 x y) 0 r ∧ r.co ≤ smI t ∧ ∀ p, nS p r.ef ≤ wS p (cR (cA N0 d) 0 l) t := by
  have hat : At (cR (cA N0 d) 0 l) 0 (cR (cA N0 d) 0 l) := ⟨[], [], by simp, rfl⟩
  obtain ⟨t, ht, hd⟩ := cBl_do (b := b) hg hc hl
  refine ⟨t, ht, ?_⟩
  have h := hd ⟨smI t, fun p => wS p (cR (cA N0 d) 0 l) t⟩ 0 hat [] [] [x, y] [] [] 0 (st0_inv hx hy) (by simp) (fun p => by simp [nS])
  refine wp_run (L := ⟨smI t, fun p => wS p (cR (cA N0 d) 0 l) t⟩) h (fun st co ⟨h1, v', ra', ef', h2, h3, h4⟩ => ?_) F
  subst h2
  exact ⟨by simp, by dsimp only; omega, fun p => by have := h4 p; simp [nS] at this ⊢; exact this⟩
end
set_option maxHeartbeats 8000000
section
variable {R : Type} {G : ORC R} {k : Nat} {K : List V → Option R}
def RArg (G : ORC R) : Prop := ∀ (c x : List V) (N : Nms) (K : List V → Option R), (∀ e ∈ x, ExprS 3 e) → N.ok → c.length + ce 3 ≤ 1000000 → W (fun o => o = [.sl 4 (c ++ cX N c.length x)]) K (G 86 [.sl 4 c, .sl 5 x, N.v] K)
theorem rarg_ok (hE : RX 3 G) : RArg (fun _ args (K : List V → Option R) => g86 G k args K) := by
  intro c x N K hx hN hm
  show W _ K (f86 G k c x N.a N.p N.t (N.nd.map Nd.v) K)
  unfold f86
  unfold RX at hE
  cases x with
  | nil => exact W_eqY rfl (W_yes (by omega) (W_ret rfl))
  | cons e r =>
    have he := hx e List.mem_cons_self
    have he' := he
    obtain ⟨_, _, _, _, rfl, _⟩ := he
    refine W_eqN (by simp; omega) (W_yes (by simp) (W_nth0 (W_asAgg ?_)))
    refine W_call (hE c _ N _ he' hN hm) ?_
    rintro _ rfl
    exact W_uL (W_unNil (W_ret rfl))
def RAct (d : Nat) (G : ORC R) : Prop := ∀ (c : List V) (a : V) (N : Nms) (K : List V → Option R), ActS d a → N.ok → c.length + ca d ≤ 1000000 → W (fun o => o = [.sl 4 (c ++ cA N d c.length a)]) K (G 54 [.sl 4 c, a, N.v] K)
def RBlk (d : Nat) (G : ORC R) : Prop := ∀ (c l : List V) (N : Nms) (K : List V → Option R), BlockS d l → N.ok → c.length + 2 * ca d ≤ 1000000 → W (fun o => o = [.sl 4 (c ++ cR (cA N d) c.length l)]) K (G 40 [.sl 4 c, .sl 8 l, N.v] K)
theorem rblk_loop {d : Nat} (hA : RAct d G) {Q : List V → Prop} {K : List V → Option R} {Ko : List V → Option R} {N : Nms} {l : List V} (hN : N.ok) (hl : BlockS d l) {out : List V} (hKo : W Q K (Ko out)) :
    ∀ (B A : List V) (j : Nat) (c : List V), l = A ++ B → B.length < j → out = c ++ cR (cA N d) c.length B → c.length + B.length * ca d ≤ 1000000 → W Q K (l40_0g G k Ko j c l A.length N.a N.p N.t (N.nd.map Nd.v))
  | B, A, 0, c, h1, h2, h3, h4 => by omega
  | [], A, j + 1, c, h1, h2, h3, h4 => by
    show W Q K (b40_0 G k (l40_0g G k Ko j) Ko c l A.length N.a N.p N.t (N.nd.map Nd.v))
    unfold b40_0
    rw [List.append_nil] at h1
    subst h1
    refine W_no (by omega) ?_
    rw [h3] at hKo
    simpa [cR] using hKo
  | b :: B, A, j + 1, c, h1, h2, h3, h4 => by
    show W Q K (b40_0 G k (l40_0g G k Ko j) Ko c l A.length N.a N.p N.t (N.nd.map Nd.v))
    unfold b40_0
    have hb := hl.2 b (by rw [h1]; simp)
    have lb := cA_len (N := N) (at_ := c.length) hb
    have hlen : l.length = A.length + (B.length + 1) := by rw [h1]; simp
    have h2l := hl.1
    have hget : l[((A.length : Nat) : Int).toNat]? = some b := by rw [Int.toNat_natCast, h1]; simp
    have hA' := hA
    unfold RAct at hA'
    have hb' := hb
    cases d with
    | zero => exact hb.elim
    | succ d =>
    obtain ⟨kind, nm, ev, x, n, th, el, rfl, _⟩ := hb
    rw [List.length_cons, Nat.succ_mul] at h4
    refine W_yes (by omega) (W_at (by omega) hget (W_asAgg ?_))
    refine W_call (hA' c _ N _ hb' hN (by omega)) ?_
    rintro _ rfl
    refine W_uL (W_unNil ?_)
    rw [wrap_id (n := (A.length : Int) + 1) (by omega)]
    have := rblk_loop hA hN hl hKo B (A ++ [V.agg [.int .i64 kind, .str nm, .str ev, .sl 5 x, .int .i64 n, .sl 8 th, .sl 8 el, .int .i64 0]]) j (c ++ cA N (d + 1) c.length (V.agg [.int .i64 kind, .str nm, .str ev, .sl 5 x, .int .i64 n, .sl 8 th, .sl 8 el, .int .i64 0])) (by rw [h1]; simp) (by simp at h2; omega) (by rw [h3, cR, List.length_append, List.append_assoc]) (by rw [List.length_append]; omega)
    simpa using this
theorem rblk_ok {d : Nat} (hk : 1000 ≤ k) (hA : RAct d G) : RBlk d (fun _ args (K : List V → Option R) => g40 G k args K) := by
  intro c l N K hl hN hm
  show W _ K (f40 G k c l N.a N.p N.t (N.nd.map Nd.v) K)
  unfold f40 l40_0
  have h2l := hl.1
  exact rblk_loop (Q := fun o => o = [.sl 4 (c ++ cR (cA N d) c.length l)]) (K := K) (Ko := fun yl => K [.sl 4 yl]) (out := c ++ cR (cA N d) c.length l) hA hN hl (W_ret rfl) l [] k c rfl (by omega) rfl (by have : l.length * ca d ≤ 2 * ca d := Nat.mul_le_mul_right _ hl.1; omega)
theorem ract_ok {d : Nat} (hPl : PlX 61 G) (hE : RX 3 G) (hA : RArg G) (hB : RBlk d G) : RAct (d + 1) (fun _ args (K : List V → Option R) => g54 G k args K) := by
  intro c a N K ha hN hm
  have hlen := cA_len (N := N) (at_ := c.length) ha
  obtain ⟨kind, nm, ev, x, n, th, el, rfl, x1, x2, x3, x4, x5, x6, x7, x8, x9, x10, x11, x12⟩ := ha
  show W _ K (f54 G k c kind nm ev x n th el 0 N.a N.p N.t (N.nd.map Nd.v) K)
  unfold f54
  have hca : ca (d + 1) = ce 3 + 2 + 4 * ca d := rfl
  have hth : BlockS d th := ⟨x9, x11⟩
  have hel : BlockS d el := ⟨x10, x12⟩
  unfold PlX at hPl; unfold RX at hE; unfold RArg at hA; unfold RBlk at hB
  have lx := cX_len (N := N) (at_ := c.length) x7
  have lt := fun q => cBl_len (N := N) (at_ := q) hth
  have le := fun q => cBl_len (N := N) (at_ := q) hel
  refine W_beqI (fun h => ?_) (fun h1 => ?_)
  · refine W_call (hA c x N _ x7 hN (by omega)) ?_
    rintro _ rfl
    refine W_uL (W_unNil ?_)
    refine W_call (hPl _ _ _ hN.1) ?_
    rintro _ rfl
    refine W_uI (W_unNil (W_yes (by (first | (simp only [List.length_append, List.length_cons, List.length_nil]; done) | (simp only [List.length_append, List.length_cons, List.length_nil]; omega))) (W_ret ?_)))
    conv => rhs; unfold cA
    rw [if_pos h, List.append_assoc]; rfl
  refine W_beqI (fun h => ?_) (fun h2 => ?_)
  · refine W_call (hA c x N _ x7 hN (by omega)) ?_
    rintro _ rfl
    refine W_uL (W_unNil (W_yes (by (first | (simp only [List.length_append, List.length_cons, List.length_nil]; done) | (simp only [List.length_append, List.length_cons, List.length_nil]; omega))) (W_ret ?_)))
    conv => rhs; unfold cA
    rw [if_neg h1, if_pos h, List.append_assoc]; rfl
  refine W_beqI (fun h => ?_) (fun h3 => ?_)
  · refine W_call (hA c x N _ x7 hN (by omega)) ?_
    rintro _ rfl
    refine W_uL (W_unNil ?_)
    refine W_call (hPl _ _ _ hN.2.1) ?_
    rintro _ rfl
    refine W_uI (W_unNil (W_yes (by (first | (simp only [List.length_append, List.length_cons, List.length_nil]; done) | (simp only [List.length_append, List.length_cons, List.length_nil]; omega))) (W_ret ?_)))
    conv => rhs; unfold cA
    rw [if_neg h1, if_neg h2, if_pos h, List.append_assoc]; rfl
  refine W_beqI (fun h => ?_) (fun h4 => ?_)
  · refine W_call (hA c x N _ x7 hN (by omega)) ?_
    rintro _ rfl
    refine W_uL (W_unNil ?_)
    refine W_call (hPl _ _ _ hN.2.2.1) ?_
    rintro _ rfl
    refine W_uI (W_unNil (W_yes (by (first | (simp only [List.length_append, List.length_cons, List.length_nil]; done) | (simp only [List.length_append, List.length_cons, List.length_nil]; omega))) (W_ret ?_)))
    conv => rhs; unfold cA
    rw [if_neg h1, if_neg h2, if_neg h3, if_pos h, List.append_assoc]; rfl
  refine W_beqI (fun h => ?_) (fun h5 => ?_)
  · refine W_call (hPl _ _ _ hN.2.2.1) ?_
    rintro _ rfl
    refine W_uI (W_unNil (W_yes (by omega) (W_ret ?_)))
    conv => rhs; unfold cA
    rw [if_neg h1, if_neg h2, if_neg h3, if_neg h4, if_pos h]; rfl
  refine W_beqI (fun h => ?_) (fun h7 => ?_)
  · refine W_yes (by omega) ?_
    refine W_call (hB _ th N _ hth hN (by (first | (simp only [List.length_append, List.length_cons, List.length_nil]; done) | (simp only [List.length_append, List.length_cons, List.length_nil]; omega)))) ?_
    rintro _ rfl
    have hl : ∀ z : V, (c ++ [z]).length = c.length + 1 := fun z => by simp
    rw [hl]
    have lt := lt (c.length + 1)
    generalize hBe : cR (cA N d) (c.length + 1) th = B at lt ⊢
    refine W_uL (W_unNil (W_yes (by (first | (simp only [List.length_append, List.length_cons, List.length_nil]; done) | (simp only [List.length_append, List.length_cons, List.length_nil]; omega))) ?_))
    have e1 : ∀ z w : V, c ++ [z] ++ B ++ [w] = c ++ z :: (B ++ [w]) := fun z w => by simp
    rw [e1]
    refine W_at (by omega) (get_at (by (first | (simp only [Int.toNat_natCast, List.length_append, List.length_cons, List.length_nil, List.length_set]; done) | (simp only [Int.toNat_natCast, List.length_append, List.length_cons, List.length_nil, List.length_set]; omega)))) (W_ca4 ?_)
    rw [set_at (by (first | (simp only [Int.toNat_natCast, List.length_append, List.length_cons, List.length_nil, List.length_set]; done) | (simp only [Int.toNat_natCast, List.length_append, List.length_cons, List.length_nil, List.length_set]; omega)))]
    refine W_ret ?_
    conv => rhs; unfold cA
    rw [if_neg h1, if_neg h2, if_neg h3, if_neg h4, if_neg h5, if_pos h, hBe]
    have e2 : ∀ z w : V, (c ++ z :: (B ++ [w])).length = c.length + B.length + 2 := fun z w => by simp; omega
    rw [e2]; rfl
  have h6 : kind = 6 := by omega
  have hx1 := x8 h6
  obtain ⟨e, rfl⟩ : ∃ e, x = [e] := by
    match x, hx1 with
    | [e], _ => exact ⟨e, rfl⟩
  have he := x7 e (by simp)
  have he' := he
  refine W_yes (by simp) (W_nth0 ?_)
  have fin : cA N (d + 1) c.length (V.agg [.int .i64 kind, .str nm, .str ev, .sl 5 [e], .int .i64 n, .sl 8 th, .sl 8 el, .int .i64 0]) = chX (cA N d) c.length (cE N 3 c.length e) th el := by
    conv => lhs; unfold cA
    rw [if_neg h1, if_neg h2, if_neg h3, if_neg h4, if_neg h5, if_neg h7]; rfl
  have lx' : (cE N 3 c.length e).length ≤ ce 3 := cE_len he
  rw [fin]
  obtain ⟨_, _, _, _, rfl, _⟩ := he
  refine W_asAgg ?_
  refine W_call (hE c _ N _ he' hN (by omega)) ?_
  rintro _ rfl
  generalize hE0 : cE N 3 c.length _ = E at lx' ⊢
  refine W_uL (W_unNil (W_yes (by (first | (simp only [List.length_append, List.length_cons, List.length_nil]; done) | (simp only [List.length_append, List.length_cons, List.length_nil]; omega))) ?_))
  refine W_call (hB _ th N _ hth hN (by (first | (simp only [List.length_append, List.length_cons, List.length_nil]; done) | (simp only [List.length_append, List.length_cons, List.length_nil]; omega)))) ?_
  rintro _ rfl
  have hl : ∀ z : V, (c ++ E ++ [z]).length = c.length + E.length + 1 := fun z => by simp; omega
  rw [hl]
  have lt := lt (c.length + E.length + 1)
  generalize hBe : cR (cA N d) (c.length + E.length + 1) th = B at lt ⊢
  refine W_uL (W_unNil ?_)
  cases el with
  | nil =>
    refine W_no (by simp) ?_
    have e1 : ∀ z : V, c ++ E ++ [z] ++ B = (c ++ E) ++ z :: B := fun z => by simp
    rw [e1]
    refine W_at (by omega) (get_at (by (first | (simp only [Int.toNat_natCast, List.length_append, List.length_cons, List.length_nil, List.length_set]; done) | (simp only [Int.toNat_natCast, List.length_append, List.length_cons, List.length_nil, List.length_set]; omega)))) (W_ca4 ?_)
    rw [set_at (L := c ++ E) (by (first | (simp only [Int.toNat_natCast, List.length_append, List.length_cons, List.length_nil, List.length_set]; done) | (simp only [Int.toNat_natCast, List.length_append, List.length_cons, List.length_nil, List.length_set]; omega)))]
    refine W_ret ?_
    have e2 : ∀ z : V, ((c ++ E) ++ z :: B).length = c.length + E.length + 1 + B.length := fun z => by simp; omega
    rw [e2]
    rw [chX, hBe, ifX, List.append_assoc]; rfl
  | cons e0 r0 =>
    have le := le (c.length + E.length + 1 + B.length + 1)
    rw [chX, hBe]
    refine W_yes (by simp) ?_
    refine W_yes (by (first | (simp only [List.length_append, List.length_cons, List.length_nil]; done) | (simp only [List.length_append, List.length_cons, List.length_nil]; omega))) ?_
    have e1 : ∀ z w : V, c ++ E ++ [z] ++ B ++ [w] = (c ++ E) ++ z :: (B ++ [w]) := fun z w => by simp
    rw [e1]
    refine W_at (by omega) (get_at (by (first | (simp only [Int.toNat_natCast, List.length_append, List.length_cons, List.length_nil, List.length_set]; done) | (simp only [Int.toNat_natCast, List.length_append, List.length_cons, List.length_nil, List.length_set]; omega)))) (W_ca4 ?_)
    rw [set_at (L := c ++ E) (by (first | (simp only [Int.toNat_natCast, List.length_append, List.length_cons, List.length_nil, List.length_set]; done) | (simp only [Int.toNat_natCast, List.length_append, List.length_cons, List.length_nil, List.length_set]; omega)))]
    have e2 : ∀ z w : V, ((c ++ E) ++ z :: (B ++ [w])).length = c.length + E.length + 1 + B.length + 1 := fun z w => by simp; omega
    rw [e2]
    refine W_call (hB _ (e0 :: r0) N _ hel hN (by rw [e2]; omega)) ?_
    rintro _ rfl
    rw [e2]
    generalize hCe : cR (cA N d) (c.length + E.length + 1 + B.length + 1) (e0 :: r0) = C at le ⊢
    refine W_uL (W_unNil ?_)
    have e3 : ∀ z w : V, (c ++ E) ++ z :: (B ++ [w]) ++ C = (c ++ E ++ z :: B) ++ w :: C := fun z w => by simp
    rw [e3]
    have e4 : ((c ++ E ++ [V.agg [.int .i64 24, .int .i64 0, .int .i64 0, .str ⟨#[]⟩]] ++ B).length : Int) = ((c ++ E ++ V.agg [.int .i64 24, .int .i64 0, .int .i64 0, .str ⟨#[]⟩] :: B).length : Nat) := by simp
    first
      | rw [e4]
      | skip
    refine W_at (by omega) (get_at (by (first | (simp only [Int.toNat_natCast, List.length_append, List.length_cons, List.length_nil, List.length_set]; done) | (simp only [Int.toNat_natCast, List.length_append, List.length_cons, List.length_nil, List.length_set]; omega)))) (W_ca4 ?_)
    rw [set_at (L := c ++ E ++ _ :: B) (by (first | (simp only [Int.toNat_natCast, List.length_append, List.length_cons, List.length_nil, List.length_set]; done) | (simp only [Int.toNat_natCast, List.length_append, List.length_cons, List.length_nil, List.length_set]; omega)))]
    refine W_ret ?_
    have e5 : ∀ z w : V, ((c ++ E ++ z :: B) ++ w :: C).length = c.length + E.length + 1 + B.length + 1 + C.length := fun z w => by simp; omega
    rw [e5, elX]
    simp [ins]
def BlX (f : FuncId) (d : Nat) (G : ORC R) : Prop := ∀ (l : List V) (N : Nms) (K : List V → Option R), BlockS d l → N.ok → W (fun o => o = [.sl 4 (cR (cA N d) 0 l)]) K (G f [.sl 8 l, N.v] K)
theorem rblx_ok {d : Nat} (hd : 2 * ca d ≤ 1000000) (hB : RBlk d G) : BlX 19 d (fun _ args (K : List V → Option R) => g19 G k args K) := by
  intro l N K hl hN
  show W _ K (f19 G k l N.a N.p N.t (N.nd.map Nd.v) K)
  unfold f19
  unfold RBlk at hB
  refine W_call (hB [] l N _ hl hN (by simpa using hd)) ?_
  rintro _ rfl
  exact W_uL (W_unNil (W_ret rfl))
end
section
variable {R : Type} {G : ORC R} {k : Nat} {K : List V → Option R}
def GdX (f : FuncId) (d : Nat) (G : ORC R) : Prop := ∀ (e : V) (N : Nms) (K : List V → Option R), ExprS d e → N.ok → W (fun o => o = [.sl 4 (cE N d 0 e)]) K (G f [e, N.v] K)
theorem rgdx_ok {d : Nat} (hd : ce d ≤ 1000000) (hE : RX d G) : GdX 25 d (fun _ args (K : List V → Option R) => g25 G k args K) := by
  intro e N K he hN
  have he' := he
  cases d with
  | zero => exact he.elim
  | succ d =>
  obtain ⟨kind, n, nm, kids, rfl, _⟩ := he
  show W _ K (f25 G k kind n nm kids 0 N.a N.p N.t (N.nd.map Nd.v) K)
  unfold f25
  unfold RX at hE
  refine W_call (hE [] _ N _ he' hN (by simpa using hd)) ?_
  rintro _ rfl
  exact W_uL (W_unNil (W_ret rfl))
end
set_option maxHeartbeats 16000000
section
variable {R : Type} {G : ORC R} {k : Nat} {K : List V → Option R} {Q : List V → Prop}
def LifeX (G : ORC R) : Prop := ∀ (x y : Int) (b : Bool) (K : List V → Option R), W (fun o => o = [lifeV b x y]) K (G 28 [.int .i64 x, .int .i64 y, .bool b] K)
theorem life_ok : LifeX (fun _ args (K : List V → Option R) => g28 G k args K) := by
  intro x y b K
  show W _ K (f28 G k x y b K)
  unfold f28
  cases b <;> exact W_ret rfl
def KnX (G : ORC R) : Prop := ∀ K : List V → Option R, G 26 [] K = K [.bool true]
theorem knx_go (hKn : KnX G) : W (fun o => o = [.bool true]) K (G 26 [] fun o => uB o fun b r => unNil r (K [.bool b])) := by
  rw [hKn]; exact W_uB (W_unNil (W_ret rfl))
def Nd0X (G : ORC R) : Prop := ∀ K : List V → Option R, G 35 [.agg [(.str ⟨#[]⟩), (.int .i64 0), (.int .i64 0), (.sl 3 []), (.sl 3 []), (.sl 3 []), (.sl 7 [(.agg [(.int .i64 1), (.str ⟨#[105, 100, 108, 101]⟩), (.sl 8 []), (.sl 8 []), (.sl 5 []), (.sl 7 []), (.int .i64 0)]), (.agg [(.int .i64 1), (.str ⟨#[98, 117, 115, 121]⟩), (.sl 8 []), (.sl 8 []), (.sl 5 []), (.sl 7 []), (.int .i64 0)])]), (.int .i64 0)]] K = K [.sl 7 (nd0.map Nd.v)]
def MadeS (b : Bool) (c : List V) : Prop := if b then ∃ l, BlockM N0.a N0.p 4 l ∧ c = cR (cA N0 4) 0 l else ∃ e, ExprM N0.a 6 e ∧ c = cE N0 6 0 e
def MadeX (G : ORC R) : Prop := ∀ (v : List V) (b : Bool) (K : List V → Option R), IntsS v → v.length ≤ 200 → W (fun o => ∃ c, o = [.sl 4 c] ∧ MadeS b c) K (G 27 [.sl 1 v, .bool b] K)
theorem n0a_ne : N0.a ≠ [] := by decide
theorem n0p_ne : N0.p ≠ [] := by decide
theorem scS_strs' : StrsS 100 scS := by
  refine ⟨by decide, fun v hv => ?_⟩
  simp only [scS, List.mem_cons, List.not_mem_nil, or_false] at hv
  rcases hv with rfl | rfl
  · exact ⟨_, rfl, by unfold StrS; decide⟩
  · exact ⟨_, rfl, by unfold StrS; decide⟩
theorem made_ok (hN : Nd0X G) (hB : BlockOKM 3 G) (hE : ExprOKM 5 G) (hRB : BlX 19 4 G) (hRG : GdX 25 6 G) : MadeX (fun _ args (K : List V → Option R) => g27 G k args K) := by
  intro v b K hv hl
  show W _ K (f27 G k v b K)
  unfold f27
  rw [hN]
  (repeat(with_reducible apply U1))
  unfold BlockOKM at hB; unfold ExprOKM at hE; unfold BlX at hRB; unfold GdX at hRG
  have hN0 := N0_ok
  refine W_bool (fun hb => ?_) (fun hb => ?_)
  · subst hb
    refine W_call (hB N0.a N0.p N0.t scS _ _ _ _ rfl n0a_ne n0p_ne hN0.1 hN0.2.1 hN0.2.2.1 scS_strs' ⟨hv, by omega, by omega, by omega⟩) ?_
    rintro _ ⟨l, j, rfl, hl, hj⟩
    (repeat(with_reducible apply U1))
    refine W_call (hRB _ N0 _ hl.s hN0) ?_
    rintro _ rfl
    (repeat(with_reducible apply U1))
    exact W_ret ⟨_, rfl, by unfold MadeS; rw [if_pos rfl]; exact ⟨l, hl, rfl⟩⟩
  · subst hb
    refine W_call (hE N0.a N0.p N0.t scS _ _ _ _ rfl n0a_ne hN0.1 scS_strs' ⟨hv, by omega, by omega, by omega⟩) ?_
    rintro _ ⟨e, j, rfl, he, hj⟩
    have he' := he
    obtain ⟨kind, n, nm, kids, rfl, _⟩ := he
    (repeat(with_reducible apply U1))
    refine W_call (hRG _ N0 _ he'.s hN0) ?_
    rintro _ rfl
    (repeat(with_reducible apply U1))
    exact W_ret ⟨_, rfl, by unfold MadeS; rw [if_neg (by decide)]; exact ⟨_, he', rfl⟩⟩
theorem made_len {b : Bool} {c : List V} (h : MadeS b c) : c.length ≤ 9900 := by
  unfold MadeS at h
  cases b with
  | true => obtain ⟨l, hl, rfl⟩ := h; exact Nat.le_trans (cBl_len hl.s) (by decide)
  | false => obtain ⟨e, he, rfl⟩ := h; exact Nat.le_trans (cE_len he.s) (by decide)
theorem ras0 : RaS [] := fun v hv => by cases hv
theorem efs0 {A : Int → Prop} : EfS A [] := fun v hv => by cases hv
theorem run_fit {bz : Bool} {c : List V} {g x y F : Int} {d : Dn} (h : Run bz g c (clip F) (st0 x y) 0 d) : RaS d.ra ∧ EfS (fun _ => True) d.ef ∧ d.vs.length = 2 ∧ d.ra.length ≤ 1048576 ∧ d.ef.length ≤ 1048576 ∧ d.co ≤ 1048576 ∧ 0 ≤ d.co := by
  obtain ⟨k1, k2⟩ := run_shape (A := fun _ => True) h (fun _ _ _ _ _ _ => trivial) ras0 efs0
  obtain ⟨_, _, k3, k4⟩ := run_pre h
  obtain ⟨k5, k6, k7⟩ := run_bd h st0_bd (clip_le F).2
  have := clip_le F
  exact ⟨k1, k2, k3, by omega, by omega, by omega, k4⟩
end
set_option maxHeartbeats 8000000
section
variable {R : Type} {G : ORC R} {k : Nat} {K : List V → Option R}
def fac (at_ : Int) : V → Int
  | .agg [.int _ op, .int _ a, .int _ n, _] => if op = 25 ∧ at_ < a then n else 1
  | _ => 1
def tpr (at_ : Int) : List V → Int
  | [] => 1
  | v :: r => fac at_ v * tpr at_ r
theorem tpr_app {q : Int} : ∀ {a b : List V}, tpr q (a ++ b) = tpr q a * tpr q b
  | [], b => by simp [tpr]
  | v :: a, b => by rw [List.cons_append, tpr, tpr, tpr_app, Int.mul_assoc]
theorem fac_ne {q op a n : Int} {s : ByteArray} (h : op ≠ 25) : fac q (insS op a n s) = 1 := by unfold fac insS; exact if_neg fun h' => h h'.1
theorem fac_no {q a n : Int} {s : ByteArray} (h : a ≤ q) : fac q (insS 25 a n s) = 1 := by unfold fac insS; exact if_neg fun h' => by omega
theorem fac_in {q a n : Int} {s : ByteArray} (h : q < a) : fac q (insS 25 a n s) = n := by unfold fac insS; exact if_pos ⟨rfl, h⟩
theorem seg_out {e p : Nat} {c : List V} {t : List Int} (h : Seg e p c t) : ∀ q : Int, ((p + c.length : Nat) : Int) ≤ q → tpr q c = 1 := by
  induction h with
  | nil => intro q _; rfl
  | one h1 h2 h3 h4 ih => intro q hq; rw [tpr, fac_ne h1, ih q (by rw [List.length_cons] at hq; omega)]; rfl
  | @loop p n B c tb t h1 h2 h3 h4 h5 ih1 ih2 =>
    intro q hq
    simp only [List.length_cons, List.length_append] at hq
    rw [tpr, show ins 25 (p + B.length + 2 : Nat) n = insS 25 (p + B.length + 2 : Nat) n ⟨#[]⟩ from rfl, fac_no (by omega), tpr_app, ih1 q (by omega), tpr, show ins 26 (p : Int) 0 = insS 26 p 0 ⟨#[]⟩ from rfl, fac_ne (by omega), ih2 q (by omega)]; rfl
theorem seg_in {e p : Nat} {c : List V} {t : List Int} (h : Seg e p c t) : ∀ i : Nat, i < c.length → t[i]? = some (tpr ((p + i : Nat) : Int) (c.take i)) := by
  induction h with
  | nil => intro i hi; simp at hi
  | @one p op a n s c t h1 h2 h3 h4 ih =>
    intro i hi
    cases i with
    | zero => rfl
    | succ i =>
      rw [List.getElem?_cons_succ, ih i (by simpa using hi), List.take_succ_cons, tpr, fac_ne h1, Int.one_mul, show p + 1 + i = p + (i + 1) by omega]
  | @loop p n B c tb t h1 h2 h3 h4 h5 ih1 ih2 =>
    intro i hi
    cases i with
    | zero => rfl
    | succ i =>
      have lb := seg_len h3
      simp only [List.length_cons, List.length_append] at hi
      rw [List.getElem?_cons_succ, List.take_succ_cons, tpr, show ins 25 (p + B.length + 2 : Nat) n = insS 25 (p + B.length + 2 : Nat) n ⟨#[]⟩ from rfl]
      by_cases hb : i < B.length
      · rw [fac_in (by omega), List.take_append_of_le_length (by omega), List.getElem?_append_left (by simp; omega), List.getElem?_map, ih1 i hb, show p + (i + 1) = p + 1 + i by omega]; rfl
      · by_cases he : i = B.length
        · subst he
          rw [fac_in (by omega), List.take_append_of_le_length (Nat.le_refl _), List.take_length, seg_out h3 _ (by omega), List.getElem?_append_right (by simp; omega)]
          simp [lb]
        · obtain ⟨m, rfl⟩ : ∃ m, i = B.length + 1 + m := ⟨i - B.length - 1, by omega⟩
          rw [fac_no (by omega), List.getElem?_append_right (by simp; omega)]
          have e1 : B.length + 1 + m - (tb.map (n * ·)).length = m + 1 := by simp; omega
          have e2 : (B ++ ins 26 (p : Int) 0 :: c).take (B.length + 1 + m) = B ++ ins 26 (p : Int) 0 :: c.take m := by
            rw [List.take_append, List.take_of_length_le (by omega), show B.length + 1 + m - B.length = m + 1 by omega, List.take_succ_cons]
          rw [e1, e2, List.getElem?_cons_succ, tpr_app, seg_out h3 _ (by omega), tpr, show ins 26 (p : Int) 0 = insS 26 p 0 ⟨#[]⟩ from rfl, fac_ne (by omega), ih2 m (by omega), show p + B.length + 2 + m = p + (B.length + 1 + m + 1) by omega]
          simp
def Ok25 (l : List V) : Prop := ∀ v ∈ l, ∃ op a n s, v = insS op a n s ∧ (op = 25 → 1 ≤ n ∧ n ≤ 16)
theorem seg_ok {e p : Nat} {c : List V} {t : List Int} (h : Seg e p c t) : Ok25 c := by
  induction h with
  | nil => intro v hv; cases hv
  | @one p op a n s c t h1 h2 h3 h4 ih =>
    intro v hv
    rcases List.mem_cons.1 hv with rfl | hv
    · exact ⟨op, a, n, s, rfl, fun h => absurd h h1⟩
    · exact ih v hv
  | @loop p n B c tb t h1 h2 h3 h4 h5 ih1 ih2 =>
    intro v hv
    simp only [List.mem_cons, List.mem_append] at hv
    rcases hv with rfl | hv | rfl | hv
    · exact ⟨25, _, n, ⟨#[]⟩, rfl, fun _ => ⟨h1, h2⟩⟩
    · exact ih1 v hv
    · exact ⟨26, _, 0, ⟨#[]⟩, rfl, fun h => by omega⟩
    · exact ih2 v hv
theorem ok25_take {l : List V} {m : Nat} (h : Ok25 l) : Ok25 (l.take m) := fun v hv => h v (List.mem_of_mem_take hv)
theorem tpr_pos {q : Int} : ∀ {l : List V}, Ok25 l → 1 ≤ tpr q l
  | [], _ => by simp [tpr]
  | v :: r, h => by
    obtain ⟨op, a, n, s, rfl, hn⟩ := h v List.mem_cons_self
    have h2 := tpr_pos (q := q) (l := r) fun u hu => h u (List.mem_cons_of_mem _ hu)
    have h1 : 1 ≤ fac q (insS op a n s) := by
      unfold fac insS
      dsimp only
      split
      · rename_i h'; exact (hn h'.1).1
      · omega
    have : 1 * 1 ≤ fac q (insS op a n s) * tpr q r := Int.mul_le_mul h1 h2 (by omega) (by omega)
    rw [tpr]; omega
theorem tpr_le {q : Int} {l : List V} {m : Nat} (h : Ok25 l) : tpr q (l.take m) ≤ tpr q l := by
  have h1 := tpr_pos (q := q) (ok25_take (m := m) h)
  have h2 := tpr_pos (q := q) (l := l.drop m) fun v hv => h v (List.mem_of_mem_drop hv)
  have e : tpr q l = tpr q (l.take m) * tpr q (l.drop m) := by rw [← tpr_app, List.take_append_drop]
  have : tpr q (l.take m) * 1 ≤ tpr q (l.take m) * tpr q (l.drop m) := Int.mul_le_mul_of_nonneg_left h2 (by omega)
  rw [e]; omega
theorem tpr_snoc {q : Int} {l : List V} {v : V} {m : Nat} (h : l[m]? = some v) : tpr q (l.take (m + 1)) = tpr q (l.take m) * fac q v := by
  rw [List.take_add_one, h, tpr_app]
  simp [tpr]
def tmAt (t : List Int) (q : Int) : Int := if 0 ≤ q ∧ q < t.length then t.getD q.toNat 0 else 0
theorem tmAt_in {t : List Int} {i : Nat} {x : Int} (h : t[i]? = some x) : tmAt t (i : Int) = x := by
  obtain ⟨hl, e⟩ := List.getElem?_eq_some_iff.1 h
  unfold tmAt
  rw [if_pos ⟨by omega, by omega⟩, Int.toNat_natCast, List.getD_eq_getElem?_getD, h]; rfl
def TmX (f : FuncId) (G : ORC R) : Prop := ∀ (c : List V) (t : List Int) (e : Nat) (q : Int) (K : List V → Option R), Seg e 0 c t → (∀ x ∈ t, 1 ≤ x ∧ x ≤ 1099511627776) → c.length ≤ 9999 → W (fun o => o = [.int .i64 (tmAt t q)]) K (G f [.sl 4 c, .int .i64 q] K)
theorem rt_loop {Q : List V → Prop} {K : List V → Option R} {Ko : Int → Option R} {c : List V} {i : Nat} (hL : Ok25 c) (hi : i < c.length) (hl : c.length ≤ 9999) (hm : tpr i (c.take i) ≤ 1099511627776) (hKo : W Q K (Ko (tpr i (c.take i)))) :
    ∀ (j m : Nat), i - m < j → m ≤ i → W Q K (l21_0g G k Ko j c i (tpr i (c.take m)) m)
  | 0, m, h1, h2 => by omega
  | j + 1, m, h1, h2 => by
    show W Q K (b21_0 G k (l21_0g G k Ko j) Ko c i (tpr i (c.take m)) m)
    unfold b21_0
    refine W_dec (fun h => ?_) (fun h => by rw [show m = i by omega]; exact hKo)
    obtain ⟨v, hv⟩ : ∃ v, c[m]? = some v := ⟨_, List.getElem?_eq_getElem (by omega)⟩
    have hs := tpr_snoc (q := (i : Int)) hv
    have e : (c.take i).take (m + 1) = c.take (m + 1) := by rw [List.take_take, Nat.min_eq_left (by omega)]
    have hle := Int.le_trans (tpr_le (q := (i : Int)) (m := m + 1) (ok25_take (m := i) hL)) hm
    rw [e] at hle
    have hps := tpr_pos (q := (i : Int)) (ok25_take (m := m + 1) hL)
    have next := rt_loop hL hi hl hm hKo j (m + 1) (by omega) (by omega)
    obtain ⟨op, a, n, s, rfl, hn⟩ := hL v (List.mem_of_getElem? hv)
    refine W_at (by omega) (by rw [Int.toNat_natCast]; exact hv) ?_
    unfold insS at hv ⊢
    (repeat(with_reducible apply U1))
    rw [wrap_id (n := (m : Int) + 1) (by omega)]
    refine W_beqI (fun h25 => ?_) (fun h25 => ?_)
    · subst h25
      refine W_at (by omega) (by rw [Int.toNat_natCast]; exact hv) ?_
      (repeat(with_reducible apply U1))
      refine W_dec (fun ha => ?_) (fun ha => ?_)
      · refine W_at (by omega) (by rw [Int.toNat_natCast]; exact hv) ?_
        (repeat(with_reducible apply U1))
        rw [fac_in ha] at hs
        rw [← hs, wrap_id (by omega)]; exact next
      · rw [fac_no (by omega), Int.mul_one] at hs
        rw [← hs]; exact next
    · rw [fac_ne h25, Int.mul_one] at hs
      rw [← hs]; exact next
theorem rtx_ok (hk : 10000 ≤ k) : TmX 21 (fun _ args (K : List V → Option R) => g21 G k args K) := by
  intro c t e q K hc ht hl
  show W _ K (f21 G k c q K)
  unfold f21
  have lt := seg_len hc
  refine W_dec (fun h => W_ret (by rw [tmAt, if_neg (by omega)])) (fun h => ?_)
  refine W_dec (fun h => W_ret (by rw [tmAt, if_neg (by omega)])) (fun h' => ?_)
  obtain ⟨i, rfl⟩ : ∃ i : Nat, q = i := ⟨q.toNat, by omega⟩
  have hi := seg_in hc i (by omega)
  rw [Nat.zero_add] at hi
  have hx := ht _ (List.mem_of_getElem? hi)
  unfold l21_0
  have := rt_loop (G := G) (k := k) (Q := fun o => o = [.int .i64 (tmAt t i)]) (K := K) (Ko := fun y => K [.int .i64 y]) (c := c) (i := i) (seg_ok hc) (by omega) hl (by omega) (W_ret (by rw [tmAt_in hi])) k 0 (by omega) (by omega)
  exact this
end
set_option maxHeartbeats 16000000
section
variable {R : Type} {G : ORC R} {k : Nat} {K : List V → Option R} {Q : List V → Prop}
def GoodS (A : Int → Prop) (v : V) : Prop := ∃ op a n s, v = insS op a n s ∧ (op = 20 → A a)
def AllG (A : Int → Prop) (c : List V) : Prop := ∀ v ∈ c, GoodS A v
theorem ag_nil {A : Int → Prop} : AllG A [] := fun v hv => by cases hv
theorem ag_cons {A : Int → Prop} {v : V} {l : List V} (h : GoodS A v) (h1 : AllG A l) : AllG A (v :: l) := fun w hw => by
  rcases List.mem_cons.1 hw with rfl | hw
  · exact h
  · exact h1 w hw
theorem ag_app {A : Int → Prop} {a b : List V} (h : AllG A a) (h1 : AllG A b) : AllG A (a ++ b) := fun w hw => by
  rcases List.mem_append.1 hw with hw | hw
  · exact h w hw
  · exact h1 w hw
theorem gd {A : Int → Prop} {op a n : Int} {s : ByteArray} (h : op ≠ 20) : GoodS A (insS op a n s) := ⟨op, a, n, s, rfl, fun e => absurd e h⟩
theorem ag_one {A : Int → Prop} {v : V} (h : GoodS A v) : AllG A [v] := ag_cons h ag_nil
theorem cE_g {A : Int → Prop} {N : Nms} : ∀ {d at_ : Nat} {e : V}, ExprS d e → AllG A (cE N d at_ e)
  | 0, _, _, h => h.elim
  | d + 1, at_, e, h => by
    obtain ⟨kind, n, nm, kids, rfl, x1, x2, x3, x4, x5, x6, x7⟩ := h
    unfold cE
    split
    · exact ag_one (gd (by omega))
    split
    · exact ag_one (gd (by omega))
    split
    · exact ag_one (gd (by omega))
    split
    · exact ag_one (gd (by omega))
    split
    · rename_i a
      exact ag_app (cE_g (x6 a (by simp))) (ag_one (gd (by omega)))
    · rename_i a b
      have h1 := cE_g (A := A) (N := N) (at_ := at_) (x6 a (by simp))
      have h2 := fun q => cE_g (A := A) (N := N) (at_ := q) (x6 b (by simp))
      dsimp only
      split
      · exact ag_app h1 (ag_cons (gd (by omega)) (ag_app (h2 _) (ag_cons (gd (by omega)) (ag_cons (gd (by omega)) (ag_cons (gd (by omega)) (ag_one (gd (by omega))))))))
      split
      · exact ag_app (ag_app h1 (ag_cons (gd (by omega)) (ag_cons (gd (by omega)) (ag_one (gd (by omega)))))) (ag_app (h2 _) (ag_cons (gd (by omega)) (ag_cons (gd (by omega)) (ag_cons (gd (by omega)) (ag_one (gd (by omega)))))))
      · exact ag_app (ag_app h1 (h2 _)) (ag_one (gd (by omega)))
    · exact ag_nil
theorem cX_g {A : Int → Prop} {N : Nms} {at_ : Nat} {x : List V} (h : ∀ e ∈ x, ExprS 3 e) : AllG A (cX N at_ x) := by
  cases x with
  | nil => exact ag_one (gd (by omega))
  | cons e r => exact cE_g (h e List.mem_cons_self)
theorem cR_g {A : Int → Prop} {F : Nat → V → List V} : ∀ {l : List V} {at_ : Nat}, (∀ q, ∀ a ∈ l, AllG A (F q a)) → AllG A (cR F at_ l)
  | [], _, _ => ag_nil
  | a :: r, at_, h => ag_app (h at_ a List.mem_cons_self) (cR_g fun q a ha => h q a (List.mem_cons_of_mem _ ha))
theorem chX_g {A : Int → Prop} {F : Nat → V → List V} {at_ : Nat} {E th el : List V} (h1 : AllG A E) (h2 : ∀ q, AllG A (cR F q th)) (h3 : ∀ q, AllG A (cR F q el)) : AllG A (chX F at_ E th el) := by
  cases el with
  | nil => exact ag_app h1 (ag_cons (gd (by omega)) (h2 _))
  | cons e r => exact ag_app h1 (ag_cons (gd (by omega)) (ag_app (h2 _) (ag_cons (gd (by omega)) (h3 _))))
theorem cA_g {N : Nms} {P : Int → Prop} (hP : ∀ s, .str s ∈ N.p → P (plN N.p s)) : ∀ {d at_ : Nat} {a : V}, ActM N.a N.p d a → AllG P (cA N d at_ a)
  | 0, _, _, h => h.elim
  | d + 1, at_, a, h => by
    obtain ⟨kind, nm, ev, x, n, th, el, rfl, x1, x2, x3, x4, x5, x6, x7, x8, x9, x10, x11, x12, x13, x14⟩ := h
    have lx := cX_g (A := P) (N := N) (at_ := at_) fun e he => (x7 e he).s
    have lt := fun q => cR_g (A := P) (F := cA N d) (l := th) (at_ := q) fun q a ha => cA_g hP (x11 a ha)
    have le := fun q => cR_g (A := P) (F := cA N d) (l := el) (at_ := q) fun q a ha => cA_g hP (x12 a ha)
    unfold cA
    split
    · exact ag_app lx (ag_one (gd (by omega)))
    split
    · exact ag_app lx (ag_one (gd (by omega)))
    split
    · exact ag_app lx (ag_one ⟨_, _, _, _, rfl, fun _ => hP _ (x14 (by assumption))⟩)
    split
    · exact ag_app lx (ag_one (gd (by omega)))
    split
    · exact ag_one (gd (by omega))
    split
    · exact ag_cons (gd (by omega)) (ag_app (lt _) (ag_one (gd (by omega))))
    · exact chX_g lx lt le
def Pt2 (a : Int) : Prop := a = 0 ∨ a = 1
theorem n0p_pl : ∀ s, .str s ∈ N0.p → Pt2 (plN N0.p s) := fun s hs => by
  obtain ⟨j, h1, h2⟩ := pl_in (i := 0) (l := N0.p) (s := s) (by
    intro v hv
    simp only [N0, List.mem_cons, List.not_mem_nil, or_false] at hv
    rcases hv with rfl | rfl <;> exact ⟨_, rfl⟩) hs
  have h3 : N0.p.length = 2 := rfl
  unfold Pt2 plN
  omega
theorem made_send {b : Bool} {c : List V} (h : MadeS b c) : AllG Pt2 c := by
  unfold MadeS at h
  cases b with
  | true => obtain ⟨l, hl, rfl⟩ := h; exact cR_g fun q a ha => cA_g n0p_pl (hl.2 a ha)
  | false => obtain ⟨e, he, rfl⟩ := h; exact cE_g he.s
theorem ag_send {A : Int → Prop} {c : List V} (h : AllG A c) : SendA A c := fun op a n s hv ho => by
  obtain ⟨op', a', n', s', e, h1⟩ := h _ hv
  unfold insS at e
  injection e with e
  injection e with e1 e
  injection e with e2 e
  injection e1 with _ e1
  injection e2 with _ e2
  rw [e2]; exact h1 (by omega)
theorem made_most {b bz : Bool} {c : List V} {g x y : Int} (F : Int) (h : MadeS b c) (hg : InR g) (hx : InR x) (hy : InR y) : ∃ t d, Seg t.length 0 c t ∧ (∀ x ∈ t, 1 ≤ x ∧ x ≤ 65536) ∧ Run bz g c F (st0 x y) 0 d ∧ d.co ≤ smI t ∧ ∀ p, nS p d.ef ≤ wS p c t := by
  have hl := made_len h
  unfold MadeS at h
  cases b with
  | true =>
    obtain ⟨l, hb, rfl⟩ := h
    obtain ⟨t, ht, d, hd, h1, h2⟩ := runB (b := bz) (F := F) hg hx hy hb (by omega)
    have hs := sh_len ht 0
    refine ⟨t, d, ht.1 0 t.length (by omega), fun x hx => ?_, hd, h1, h2⟩
    have := ht.2 x hx
    have e : cm 4 = 65536 := by decide
    omega
  | false =>
    obtain ⟨e, he, rfl⟩ := h
    obtain ⟨d, hd, h1, h2⟩ := runE (b := bz) (F := F) hg hx hy he
    obtain ⟨t, ht⟩ := cE_sh (N := N0) he.s
    have hs := sh_len ht 0
    refine ⟨t, d, ht.1 0 t.length (by omega), fun x hx => by have := ht.2 x hx; omega, hd, ?_, fun p => ?_⟩
    · rw [smI_ones ht.2]; omega
    · have := h2 p; have := wS_pos (p := p) (a := cE N0 6 0 e) fun x hx => (ht.2 x hx).1; omega
theorem wS_le {p : Int} : ∀ {a : List V} {t : List Int}, (∀ x ∈ t, 1 ≤ x ∧ x ≤ 65536) → wS p a t ≤ a.length * 65536
  | [], t, _ => by simp [wS]
  | v :: a, [], _ => by simp [wS]; omega
  | v :: a, x :: t, h => by
    have h1 := h x List.mem_cons_self
    have h2 := wS_le (p := p) (a := a) fun y hy => h y (List.mem_cons_of_mem _ hy)
    rw [wS, List.length_cons]; split <;> omega
theorem smI_le : ∀ {t : List Int}, (∀ x ∈ t, 1 ≤ x ∧ x ≤ 65536) → smI t ≤ t.length * 65536
  | [], _ => by simp [smI]
  | x :: t, h => by
    have h1 := h x List.mem_cons_self
    have h2 := smI_le fun y hy => h y (List.mem_cons_of_mem _ hy)
    rw [smI, List.length_cons]; omega
theorem smI_snoc {t : List Int} {m : Nat} {x : Int} (h : t[m]? = some x) : smI (t.take (m + 1)) = smI (t.take m) + x := by
  rw [List.take_add_one, h, smI_app]; simp [smI]
theorem wS_snoc {p : Int} {c : List V} {t : List Int} {m : Nat} {v : V} {x : Int} (hl : c.length = t.length) (hv : c[m]? = some v) (h : t[m]? = some x) : wS p (c.take (m + 1)) (t.take (m + 1)) = wS p (c.take m) (t.take m) + if isS p v then x else 0 := by
  rw [List.take_add_one, List.take_add_one, h, hv, wS_app (by simp [hl])]
  simp [wS]
theorem nS_take {p : Int} {l : List V} {m : Nat} {v : V} (hv : l[m]? = some v) : nS p (l.take (m + 1)) = nS p (l.take m) + if isF p v then 1 else 0 := by
  rw [List.take_add_one, hv]; exact nS_snoc
theorem nS_le {p : Int} {l : List V} : 0 ≤ nS p l ∧ nS p l ≤ l.length := by
  unfold nS; have := List.countP_le_length (p := isF p) (l := l); omega
def RMoX (G : ORC R) : Prop := ∀ (c : List V) (t : List Int) (e : Nat) (K : List V → Option R), Seg e 0 c t → (∀ x ∈ t, 1 ≤ x ∧ x ≤ 65536) → c.length ≤ 9900 → W (fun o => o = [.int .i64 (smI t)]) K (G 34 [.sl 4 c] K)
theorem rmo_loop (hT : TmX 21 G) {Ko : Int → Option R} {L : List V} {t : List Int} {e : Nat} (hS : Seg e 0 L t) (ht : ∀ x ∈ t, 1 ≤ x ∧ x ≤ 65536) (hL : L.length ≤ 9900) (hKo : W Q K (Ko (smI t))) :
    ∀ (j m : Nat), L.length - m < j → m ≤ L.length → W Q K (l34_0g G k Ko j L (smI (t.take m)) m)
  | 0, m, h1, h2 => by omega
  | j + 1, m, h1, h2 => by
    show W Q K (b34_0 G k (l34_0g G k Ko j) Ko L (smI (t.take m)) m)
    unfold b34_0
    have lt := seg_len hS
    refine W_dec (fun h => ?_) (fun h => by rw [show m = t.length by omega, List.take_length]; exact hKo)
    have next := rmo_loop hT hS ht hL hKo j (m + 1) (by omega) (by omega)
    unfold TmX at hT
    have ht' : ∀ x ∈ t, 1 ≤ x ∧ x ≤ 1099511627776 := fun x hx => by have := ht x hx; omega
    obtain ⟨x, hx⟩ : ∃ x, t[m]? = some x := ⟨_, List.getElem?_eq_getElem (by omega)⟩
    have hx1 := ht x (List.mem_of_getElem? hx)
    refine W_call (hT L t e m _ hS ht' (by omega)) ?_
    rintro _ rfl
    (repeat(with_reducible apply U1))
    rw [tmAt_in hx]
    have p0 : 0 ≤ smI (t.take m) := smI_pos fun y hy => (ht y (List.mem_of_mem_take hy)).1
    have p1 : smI (t.take m) ≤ (t.take m).length * 65536 := smI_le fun y hy => ht y (List.mem_of_mem_take hy)
    have p2 : (t.take m).length ≤ 9900 := by simp; omega
    rw [wrap_id (n := (m : Int) + 1) (by omega), wrap_id (n := smI (t.take m) + x) (by omega), ← smI_snoc hx]
    exact next
theorem rmo_ok (hk : 10000 ≤ k) (hT : TmX 21 G) : RMoX (fun _ args (K : List V → Option R) => g34 G k args K) := by
  intro c t e K hS ht hl
  show W _ K (f34 G k c K)
  unfold f34 l34_0
  exact rmo_loop (Q := fun o => o = [.int .i64 (smI t)]) (Ko := fun x => K [.int .i64 x]) hT hS ht hl (W_ret rfl) k 0 (by omega) (by omega)
theorem fs_loop {Ko : List V → Int → List V → List V → List V → Int → Int → V → V → Int → Int → Option R} {Kr : Bool → Option R} {c vs ra ef : List V} {v co cd : Int} (hr : EfS Pt2 ef) (hl : ef.length ≤ 1048576)
    (hKo : W Q K (Ko c v vs ra ef co cd (.int .i64 (nS 0 ef)) (.int .i64 (nS 1 ef)) 0 0)) :
    ∀ (j m : Nat), ef.length - m < j → m ≤ ef.length → W Q K (l10_0g G k Ko Kr j c m v vs ra ef co cd (.int .i64 (nS 0 (ef.take m))) (.int .i64 (nS 1 (ef.take m))) 0 0)
  | 0, m, h1, h2 => by omega
  | j + 1, m, h1, h2 => by
    show W Q K (b10_0 G k (l10_0g G k Ko Kr j) Ko Kr c m v vs ra ef co cd (.int .i64 (nS 0 (ef.take m))) (.int .i64 (nS 1 (ef.take m))) 0 0)
    unfold b10_0
    refine W_dec (fun h => ?_) (fun h => by rw [show m = ef.length by omega, List.take_length]; exact hKo)
    have next := fs_loop (Ko := Ko) (Kr := Kr) hr hl hKo j (m + 1) (by omega) (by omega)
    obtain ⟨w, hw⟩ : ∃ w, ef[m]? = some w := ⟨_, List.getElem?_eq_getElem (by omega)⟩
    obtain ⟨kd, a, s, n, rfl, ha⟩ := hr w (List.mem_of_getElem? hw)
    rw [nS_take hw, nS_take hw] at next
    have b0 := nS_le (p := 0) (l := ef.take m)
    have b1 := nS_le (p := 1) (l := ef.take m)
    have bl : (ef.take m).length ≤ 1048576 := by simp; omega
    rw [wrap_id (n := (m : Int) + 1) (by omega)]
    have hm : ef[((m : Nat) : Int).toNat]? = some (V.agg [.int .i64 kd, .int .i64 a, .str s, .int .i64 n]) := by rw [Int.toNat_natCast]; exact hw
    refine W_at (by omega) hm ?_
    (repeat(with_reducible apply U1))
    refine W_beqI (fun hk => ?_) (fun hk => ?_)
    · subst hk
      refine W_at (by omega) hm ?_
      (repeat(with_reducible apply U1))
      have ha := ha rfl
      refine W_no (by unfold Pt2 at ha; omega) ?_
      refine W_at (by omega) hm ?_
      (repeat(with_reducible apply U1))
      refine W_no (by unfold Pt2 at ha; omega) ?_
      refine W_at (by omega) hm ?_
      (repeat(with_reducible apply U1))
      rcases ha with rfl | rfl
      · refine W_and (W_yes (by omega) (W_yes (by omega) ?_))
        show W Q K (aI .i64 (.int .i64 (nS 0 (ef.take m))) _)
        refine W_aI (W_and (W_yes (by omega) (W_yes (by omega) ?_)))
        rw [wrap_id (n := nS 0 (ef.take m) + 1) (by omega)]
        simp [isF] at next
        exact next
      · refine W_and (W_yes (by omega) (W_yes (by omega) ?_))
        show W Q K (aI .i64 (.int .i64 (nS 1 (ef.take m))) _)
        refine W_aI (W_and (W_yes (by omega) (W_yes (by omega) ?_)))
        rw [wrap_id (n := nS 1 (ef.take m) + 1) (by omega)]
        simp [isF] at next
        exact next
    · have e : ∀ p, isF p (V.agg [.int .i64 kd, .int .i64 a, .str s, .int .i64 n]) = false := fun p => by simp [isF, hk]
      rw [e, e] at next
      simp at next
      push_cast
      exact next
theorem fm_loop (hT : TmX 21 G) {Ko : List V → Int → List V → List V → List V → Int → Int → V → V → V → V → Option R} {c vs ra ef : List V} {v co cd : Int} {s0 s1 : V} {t : List Int} {e : Nat} (hS : Seg e 0 c t) (ht : ∀ x ∈ t, 1 ≤ x ∧ x ≤ 65536) (hg : AllG Pt2 c) (hl : c.length ≤ 9900)
    (hKo : W Q K (Ko c v vs ra ef co cd s0 s1 (.int .i64 (wS 0 c t)) (.int .i64 (wS 1 c t)))) :
    ∀ (j m : Nat), c.length - m < j → m ≤ c.length → W Q K (l10_2g G k Ko j c m v vs ra ef co cd s0 s1 (.int .i64 (wS 0 (c.take m) (t.take m))) (.int .i64 (wS 1 (c.take m) (t.take m))))
  | 0, m, h1, h2 => by omega
  | j + 1, m, h1, h2 => by
    show W Q K (b10_2 G k (l10_2g G k Ko j) Ko c m v vs ra ef co cd s0 s1 (.int .i64 (wS 0 (c.take m) (t.take m))) (.int .i64 (wS 1 (c.take m) (t.take m))))
    unfold b10_2
    have lt := seg_len hS
    refine W_dec (fun h => ?_) (fun h => by have e : m = c.length := by omega
                                            rw [show t.take m = t by rw [e, lt, List.take_length], show c.take m = c by rw [e, List.take_length]]; exact hKo)
    have next := fm_loop (Ko := Ko) (v := v) (vs := vs) (ra := ra) (ef := ef) (co := co) (cd := cd) (s0 := s0) (s1 := s1) hT hS ht hg hl hKo j (m + 1) (by omega) (by omega)
    obtain ⟨x, hx⟩ : ∃ x, t[m]? = some x := ⟨_, List.getElem?_eq_getElem (by omega)⟩
    have hx1 := ht x (List.mem_of_getElem? hx)
    obtain ⟨w, hw⟩ : ∃ w, c[m]? = some w := ⟨_, List.getElem?_eq_getElem (by omega)⟩
    obtain ⟨op, a, n, s, rfl, ha⟩ := hg w (List.mem_of_getElem? hw)
    rw [wS_snoc lt hw hx, wS_snoc lt hw hx] at next
    have ht1 : ∀ x ∈ t.take m, 1 ≤ x ∧ x ≤ 65536 := fun x hx => ht x (List.mem_of_mem_take hx)
    have b0 := wS_pos (p := 0) (a := c.take m) fun x hx => (ht1 x hx).1
    have b1 := wS_pos (p := 1) (a := c.take m) fun x hx => (ht1 x hx).1
    have d0 := wS_le (p := 0) (a := c.take m) ht1
    have d1 := wS_le (p := 1) (a := c.take m) ht1
    have bl : (c.take m).length ≤ 9900 := by simp; omega
    rw [wrap_id (n := (m : Int) + 1) (by omega)]
    have hm : c[((m : Nat) : Int).toNat]? = some (insS op a n s) := by rw [Int.toNat_natCast]; exact hw
    have ht' : ∀ x ∈ t, 1 ≤ x ∧ x ≤ 1099511627776 := fun x hx => by have := ht x hx; omega
    unfold TmX at hT
    unfold insS at hm
    refine W_at (by omega) hm ?_
    (repeat(with_reducible apply U1))
    refine W_beqI (fun hk => ?_) (fun hk => ?_)
    · subst hk
      have ha := ha rfl
      refine W_at (by omega) hm ?_
      (repeat(with_reducible apply U1))
      refine W_at (by omega) hm ?_
      (repeat(with_reducible apply U1))
      rcases ha with rfl | rfl
      · refine W_and (W_yes (by omega) (W_yes (by omega) ?_))
        refine W_show (y := G 21 [(.sl 4 c), (.int .i64 m)] _) rfl ?_
        refine W_call (hT c t e m _ hS ht' (by omega)) ?_
        rintro _ rfl
        rw [tmAt_in hx]
        (repeat(with_reducible apply U1))
        refine W_and (W_yes (by omega) (W_yes (by omega) ?_))
        rw [wrap_id (n := wS 0 (c.take m) (t.take m) + x) (by omega)]
        simp [isS, insS] at next
        exact next
      · refine W_and (W_yes (by omega) (W_yes (by omega) ?_))
        refine W_show (y := G 21 [(.sl 4 c), (.int .i64 m)] _) rfl ?_
        refine W_call (hT c t e m _ hS ht' (by omega)) ?_
        rintro _ rfl
        rw [tmAt_in hx]
        (repeat(with_reducible apply U1))
        refine W_and (W_yes (by omega) (W_yes (by omega) ?_))
        rw [wrap_id (n := wS 1 (c.take m) (t.take m) + x) (by omega)]
        simp [isS, insS] at next
        exact next
    · have e : ∀ p, isS p (insS op a n s) = false := fun p => by simp [isS, insS, hk]
      rw [e, e] at next
      simp at next
      push_cast
      exact next
def MostOK (G : ORC R) : Prop := ∀ (v : List V) (b : Bool) (x y g : Int) (K : List V → Option R), IntsS v → I64 x → I64 y → I64 g → W (fun o => o = [.bool true]) K (G 10 [.sl 1 v, .bool b, .int .i64 x, .int .i64 y, .int .i64 g] K)
theorem most_law (hk : 1048578 ≤ k) (hKn : KnX G) (hM : MadeX G) (hL : LifeX G) (hE : RunX 31 G) (hT : TmX 21 G) (hMo : RMoX G) : MostOK (fun _ args (K : List V → Option R) => g10 G k args K) := by
  intro v b x y g K hv hx hy hg
  show W _ K (f10 G k v b x y g K)
  unfold f10
  unfold MadeX at hM; unfold LifeX at hL; unfold RunX at hE; unfold RMoX at hMo
  refine W_dec (fun _ => knx_go hKn) (fun h => ?_)
  refine W_call (hM v b _ hv (by omega)) ?_
  rintro _ ⟨c, rfl, hc⟩
  have hlen := made_len hc
  (repeat(with_reducible apply U1))
  refine W_call (hL _ _ _ _) ?_
  rintro _ rfl
  unfold lifeV at hE ⊢
  (repeat(with_reducible apply U1))
  obtain ⟨t, d, hS, ht, hd, hco, hse⟩ := made_most (bz := true) (clip 1048576) hc hg hx hy
  obtain ⟨a1, a2, a3, a4, a5, a6, a7⟩ := run_fit hd
  have a8 := (run_shape hd (ag_send (made_send hc)) ras0 efs0).2
  refine W_call (hE true g c x y 1048576 d _ hd (by omega) hg) ?_
  rintro _ rfl
  unfold Dn.l
  (repeat(with_reducible apply U1))
  unfold l10_0
  refine fs_loop a8 a5 ?_ k 0 (by omega) (by omega)
  unfold l10_2
  refine fm_loop hT hS ht (made_send hc) hlen ?_ k 0 (by omega) (by omega)
  refine W_call (hMo c t _ _ hS ht hlen) ?_
  rintro _ rfl
  (repeat(with_reducible apply U1))
  refine W_yes hco ?_
  (repeat(with_reducible apply U1))
  refine W_yes (hse 0) ?_
  (repeat(with_reducible apply U1))
  refine W_yes (hse 1) ?_
  refine W_beqI (fun _ => knx_go hKn) (fun h0 => W_eqY ?_ (knx_go hKn))
  exact (run_val hd).resolve_left h0
end
def moB (k : Nat) (G : ORC (List V)) : ORC (List V) := fun f args K => match f with
    | 10 => g10 G k args K
    | 16 => g16 G k args K
    | 19 => g19 G k args K
    | 21 => g21 G k args K
    | 23 => g23 G k args K
    | 25 => g25 G k args K
    | 26 => g26 G k args K
    | 27 => g27 G k args K
    | 28 => g28 G k args K
    | 29 => g29 G k args K
    | 31 => g31 G k args K
    | 34 => g34 G k args K
    | 35 => g35 G k args K
    | 36 => g36 G k args K
    | 37 => g37 G k args K
    | 38 => g38 G k args K
    | 40 => g40 G k args K
    | 42 => g42 G k args K
    | 43 => g43 G k args K
    | 44 => g44 G k args K
    | 46 => g46 G k args K
    | 50 => g50 G k args K
    | 54 => g54 G k args K
    | 61 => g61 G k args K
    | 62 => g62 G k args K
    | 63 => g63 G k args K
    | 64 => g64 G k args K
    | 65 => g65 G k args K
    | 66 => g66 G k args K
    | 67 => g67 G k args K
    | 68 => g68 G k args K
    | 69 => g69 G k args K
    | 70 => g70 G k args K
    | 71 => g71 G k args K
    | 72 => g72 G k args K
    | 73 => g73 G k args K
    | 74 => g74 G k args K
    | 75 => g75 G k args K
    | 82 => g82 G k args K
    | 83 => g83 G k args K
    | 86 => g86 G k args K
    | 89 => g89 G k args K
    | 90 => g90 G k args K
    | 91 => g91 G k args K
    | 92 => g92 G k args K
    | 93 => g93 G k args K
    | 94 => g94 G k args K
    | 95 => g95 G k args K
    | _ => none
def mo (k : Nat) : Nat → ORC (List V)
  | 0 => fun _ _ _ => none
  | j + 1 => fun f args K => (moB k (mo k j) f args some).bind K
theorem mo_sound (k : Nat) : ∀ j, Sound Try.prog TAB (mo k j)
  | 0 => fun f args K r h => by cases h
  | j + 1 => fun f args K r h => by
    have ih := mo_sound k j
    have h : (moB k (mo k j) f args some).bind K = some r := h
    cases hb : moB k (mo k j) f args some with
    | none => rw [hb] at h; cases h
    | some o =>
    rw [hb] at h
    have key : ∃ o', CallOK Try.prog TAB.env f args o' ∧ some o' = some o := by
      unfold moB at hb
      split at hb
      · exact s10 ih args some o hb
      · exact s16 ih args some o hb
      · exact s19 ih args some o hb
      · exact s21 ih args some o hb
      · exact s23 ih args some o hb
      · exact s25 ih args some o hb
      · exact s26 ih args some o hb
      · exact s27 ih args some o hb
      · exact s28 ih args some o hb
      · exact s29 ih args some o hb
      · exact s31 ih args some o hb
      · exact s34 ih args some o hb
      · exact s35 ih args some o hb
      · exact s36 ih args some o hb
      · exact s37 ih args some o hb
      · exact s38 ih args some o hb
      · exact s40 ih args some o hb
      · exact s42 ih args some o hb
      · exact s43 ih args some o hb
      · exact s44 ih args some o hb
      · exact s46 ih args some o hb
      · exact s50 ih args some o hb
      · exact s54 ih args some o hb
      · exact s61 ih args some o hb
      · exact s62 ih args some o hb
      · exact s63 ih args some o hb
      · exact s64 ih args some o hb
      · exact s65 ih args some o hb
      · exact s66 ih args some o hb
      · exact s67 ih args some o hb
      · exact s68 ih args some o hb
      · exact s69 ih args some o hb
      · exact s70 ih args some o hb
      · exact s71 ih args some o hb
      · exact s72 ih args some o hb
      · exact s73 ih args some o hb
      · exact s74 ih args some o hb
      · exact s75 ih args some o hb
      · exact s82 ih args some o hb
      · exact s83 ih args some o hb
      · exact s86 ih args some o hb
      · exact s89 ih args some o hb
      · exact s90 ih args some o hb
      · exact s91 ih args some o hb
      · exact s92 ih args some o hb
      · exact s93 ih args some o hb
      · exact s94 ih args some o hb
      · exact s95 ih args some o hb
      · cases hb
    obtain ⟨o', h1, h2⟩ := key
    cases h2
    exact ⟨o, h1, h⟩
theorem mo_U {k j : Nat} {f : FuncId} {args : List V} {Q : List V → Prop} (h : W Q some (moB k (mo k j) f args some)) : ∃ o, Q o ∧ ∀ K, mo k (j + 1) f args K = K o := by
  obtain ⟨o, q, e⟩ := h
  exact ⟨o, q, fun K => by show (moB k (mo k j) f args some).bind K = _; rw [e]; rfl⟩
theorem mo_W {k j : Nat} {f : FuncId} {args : List V} {Q : List V → Prop} {K : List V → Option (List V)} (h : W Q some (moB k (mo k j) f args some)) : W Q K (mo k (j + 1) f args K) := by
  obtain ⟨o, q, e⟩ := mo_U h
  exact ⟨o, q, e K⟩
set_option maxHeartbeats 8000000
section
def Ev (P : ORC (List V) → Prop) : Prop := ∃ N, ∀ j, N ≤ j → P (mo 1100000 j)
theorem ev0 {P : ORC (List V) → Prop} (h : ∀ j, P (mo 1100000 (j + 1))) : Ev P := ⟨1, fun j hj => by obtain ⟨j', rfl⟩ : ∃ j', j = j' + 1 := ⟨j - 1, by omega⟩; exact h j'⟩
theorem evS {A P : ORC (List V) → Prop} (hA : Ev A) (h : ∀ j, A (mo 1100000 j) → P (mo 1100000 (j + 1))) : Ev P := by
  obtain ⟨N, hN⟩ := hA
  refine ⟨N + 1, fun j hj => ?_⟩
  obtain ⟨j', rfl⟩ : ∃ j', j = j' + 1 := ⟨j - 1, by omega⟩
  exact h j' (hN j' (by omega))
theorem evA {A B : ORC (List V) → Prop} (hA : Ev A) (hB : Ev B) : Ev fun G => A G ∧ B G := by
  obtain ⟨N, hN⟩ := hA
  obtain ⟨M, hM⟩ := hB
  exact ⟨N + M, fun j hj => ⟨hN j (by omega), hM j (by omega)⟩⟩
theorem evT {P : ORC (List V) → Prop} (h : ∀ G, P G) : Ev P := ⟨0, fun j _ => h _⟩
theorem evPlace : Ev PlaceS := ev0 fun j => by have e := place_ok (G := mo 1100000 j) (k := 1100000); unfold PlaceS at e ⊢; (intros; refine mo_W ?_; apply e <;> assumption)
theorem evNext : Ev NextS := evS evPlace fun j h => by have e := next_ok (G := mo 1100000 j) (k := 1100000) h; unfold NextS at e ⊢; (intros; refine mo_W ?_; apply e <;> assumption)
theorem evPick : Ev PickS := evS evNext fun j h => by have e := pick_ok (G := mo 1100000 j) (k := 1100000) h; unfold PickS at e ⊢; (intros; refine mo_W ?_; apply e <;> assumption)
end
theorem evFind : Ev FindOK := ev0 fun j => by have e := find_ok (G := mo 1100000 j) (k := 1100000) (by omega); unfold FindOK at e ⊢; (intros; refine mo_W ?_; apply e <;> assumption)
theorem evPlX : Ev (PlX 61) := ev0 fun j => by have e := plx_ok (G := mo 1100000 j) (k := 1100000) (by omega); unfold PlX at e ⊢; (intros; refine mo_W ?_; apply e <;> assumption)
theorem evOpX : Ev (OpX 63) := ev0 fun j => by have e := opx_ok (G := mo 1100000 j) (k := 1100000); unfold OpX at e ⊢; (intros; refine mo_W ?_; apply e <;> assumption)
theorem evRX : ∀ d, Ev (RX d)
  | 0 => evT fun G c e N K h => h.elim
  | d + 1 => evS (evA (evA evPlX evFind) (evA (evA evOpX (evRX d)) (evA (P1 d) (P2 d)))) fun j h => by have e := rexprx_ok (G := mo 1100000 j) (k := 1100000) h.1.1 h.1.2 h.2.1.1 h.2.1.2 h.2.2.1 h.2.2.2; unfold RX at e ⊢; (intros; refine mo_W ?_; apply e <;> assumption)
where
  P1 (d : Nat) : Ev (RBX 64 andX 1 d) := evS (evRX d) fun j h => by have e := randx_ok (G := mo 1100000 j) (k := 1100000) h; unfold RBX at e ⊢; (intros; refine mo_W ?_; apply e <;> assumption)
  P2 (d : Nat) : Ev (RBX 65 orX 3 d) := evS (evRX d) fun j h => by have e := rorx_ok (G := mo 1100000 j) (k := 1100000) h; unfold RBX at e ⊢; (intros; refine mo_W ?_; apply e <;> assumption)
theorem evRArg : Ev RArg := evS (evRX 3) fun j h => by have e := rarg_ok (G := mo 1100000 j) (k := 1100000) h; unfold RArg at e ⊢; (intros; refine mo_W ?_; apply e <;> assumption)
theorem evRAct : ∀ d, Ev (RAct d)
  | 0 => evT fun G c a N K h => h.elim
  | d + 1 => evS (evA (evA evPlX (evRX 3)) (evA evRArg (evS (P := RBlk d) (evRAct d) fun j h => by have e := rblk_ok (G := mo 1100000 j) (k := 1100000) (by omega) h; unfold RBlk at e ⊢; (intros; refine mo_W ?_; apply e <;> assumption)))) fun j h => by have e := ract_ok (G := mo 1100000 j) (k := 1100000) h.1.1 h.1.2 h.2.1 h.2.2; unfold RAct at e ⊢; (intros; refine mo_W ?_; apply e <;> assumption)
theorem evRBlk {d : Nat} : Ev (RBlk d) := evS (evRAct d) fun j h => by have e := rblk_ok (G := mo 1100000 j) (k := 1100000) (by omega) h; unfold RBlk at e ⊢; (intros; refine mo_W ?_; apply e <;> assumption)
theorem evRBl {d : Nat} (hd : 2 * ca d ≤ 1000000) : Ev (BlX 19 d) := evS evRBlk fun j h => by have e := rblx_ok (G := mo 1100000 j) (k := 1100000) hd h; unfold BlX at e ⊢; (intros; refine mo_W ?_; apply e <;> assumption)
theorem evEventR : Ev EventS := evS evPlace fun j h => by have e := event_ok (G := mo 1100000 j) (k := 1100000) h; unfold EventS at e ⊢; (intros; refine mo_W ?_; apply e <;> assumption)
theorem evExprM : ∀ d, d ≤ 20 → Ev (ExprOKM d)
  | 0, _ => evS (evA evNext evPick) fun j h => by have e := exprM_ok (G := mo 1100000 j) (k := 1100000) (d := 0) (by omega) h.1 h.2 (fun d' e => by omega); unfold ExprOKM at e ⊢; (intros; refine mo_W ?_; apply e <;> assumption)
  | d + 1, hd => evS (evA (evA evNext evPick) (evExprM d (by omega))) fun j h => by have e := exprM_ok (G := mo 1100000 j) (k := 1100000) (d := d + 1) hd h.1.1 h.1.2 (fun d' e => by cases e; exact h.2); unfold ExprOKM at e ⊢; (intros; refine mo_W ?_; apply e <;> assumption)
theorem evBlockM : ∀ d, d ≤ 3 → Ev (BlockOKM d)
  | 0, _ => evS (evA (evA evNext evPick) (evA evEventR (evExprM 2 (by omega)))) fun j h => by have e := blockM_ok (G := mo 1100000 j) (k := 1100000) (d := 0) (by omega) (by omega) h.1.1 h.1.2 h.2.1 h.2.2 (fun d' e => by omega); unfold BlockOKM at e ⊢; (intros; refine mo_W ?_; apply e <;> assumption)
  | d + 1, hd => evS (evA (evA (evA evNext evPick) (evA evEventR (evExprM 2 (by omega)))) (evBlockM d (by omega))) fun j h => by have e := blockM_ok (G := mo 1100000 j) (k := 1100000) (d := d + 1) (by omega) hd h.1.1.1 h.1.1.2 h.1.2.1 h.1.2.2 (fun d' e => by cases e; exact h.2); unfold BlockOKM at e ⊢; (intros; refine mo_W ?_; apply e <;> assumption)
theorem evNAdd : Ev (TwoX 95 fun a b => over (a + b)) := ev0 fun j => by have e := nadd_ok (G := mo 1100000 j) (k := 1100000); unfold TwoX at e ⊢; (intros; refine mo_W ?_; apply e <;> assumption)
theorem evNSub : Ev (TwoX 90 fun a b => over (a - b)) := ev0 fun j => by have e := nsub_ok (G := mo 1100000 j) (k := 1100000); unfold TwoX at e ⊢; (intros; refine mo_W ?_; apply e <;> assumption)
theorem evNMul : Ev (TwoX 92 fun a b => over (a * b)) := ev0 fun j => by have e := nmul_ok (G := mo 1100000 j) (k := 1100000); unfold TwoX at e ⊢; (intros; refine mo_W ?_; apply e <;> assumption)
theorem evNMod : Ev (TwoX 94 modR) := ev0 fun j => by have e := nmod_ok (G := mo 1100000 j) (k := 1100000); unfold TwoX at e ⊢; (intros; refine mo_W ?_; apply e <;> assumption)
theorem evNNeg : Ev (OneX 71) := evS evNSub fun j h => by have e := nneg_ok (G := mo 1100000 j) (k := 1100000) h; unfold OneX at e ⊢; (intros; refine mo_W ?_; apply e <;> assumption)
theorem evNDiv : Ev (TwoX 93 divR) := evS evNNeg fun j h => by have e := ndiv_ok (G := mo 1100000 j) (k := 1100000) h; unfold TwoX at e ⊢; (intros; refine mo_W ?_; apply e <;> assumption)
theorem evNTr : Ev (TrX 68) := ev0 fun j => by have e := ntr_ok (G := mo 1100000 j) (k := 1100000); unfold TrX at e ⊢; (intros; refine mo_W ?_; apply e <;> assumption)
theorem evInX : Ev InX := ev0 fun j => by have e := inx_ok (G := mo 1100000 j) (k := 1100000); unfold InX at e ⊢; (intros; refine mo_W ?_; apply e <;> assumption)
theorem evWiX : Ev WiX := evS evInX fun j h => by have e := wix_ok (G := mo 1100000 j) (k := 1100000) h; unfold WiX at e ⊢; (intros; refine mo_W ?_; apply e <;> assumption)
theorem evHasX : Ev HasX := evS (evA evWiX evInX) fun j h => by have e := hasx_ok (G := mo 1100000 j) (k := 1100000) h.1 h.2; unfold HasX at e ⊢; (intros; refine mo_W ?_; apply e <;> assumption)
theorem evOfX : Ev OfX := evS evWiX fun j h => by have e := ofx_ok (G := mo 1100000 j) (k := 1100000) (by omega) h; unfold OfX at e ⊢; (intros; refine mo_W ?_; apply e <;> assumption)
theorem evSureX : Ev SureX := ev0 fun j => by have e := sure_ok (G := mo 1100000 j) (k := 1100000); unfold SureX at e ⊢; (intros; refine mo_W ?_; apply e <;> assumption)
theorem evPairX : Ev PairX := evS (evA (evA (evA evNMul evNDiv) (evA evNMod evNAdd)) (evA (evA evNSub evSureX) evNTr)) fun j h => by
  have e := pair_ok (G := mo 1100000 j) (k := 1100000) h.1.1.1 h.1.1.2 h.1.2.1 h.1.2.2 h.2.1.1 h.2.1.2 h.2.2; unfold PairX at e ⊢; (intros; refine mo_W ?_; apply e <;> assumption)
theorem evTakeX : Ev TakeX := ev0 fun j => by have e := take_ok (G := mo 1100000 j) (k := 1100000); unfold TakeX at e ⊢; (intros; refine mo_W ?_; apply e <;> assumption)
theorem evMPutX : Ev MPutX := ev0 fun j => by have e := put_ok (G := mo 1100000 j) (k := 1100000); unfold MPutX at e ⊢; (intros; refine mo_W ?_; apply e <;> assumption)
theorem evEffX : Ev EffX := ev0 fun j => by have e := eff_ok (G := mo 1100000 j) (k := 1100000); unfold EffX at e ⊢; (intros; refine mo_W ?_; apply e <;> assumption)
theorem evTellX : Ev TellX := evS (evA evTakeX evEffX) fun j h => by have e := tell_ok (G := mo 1100000 j) (k := 1100000) h.1 h.2; unfold TellX at e ⊢; (intros; refine mo_W ?_; apply e <;> assumption)
theorem evMoveX : Ev MoveX := evS evTakeX fun j h => by have e := move_ok (G := mo 1100000 j) (k := 1100000) h; unfold MoveX at e ⊢; (intros; refine mo_W ?_; apply e <;> assumption)
theorem evStepX : Ev StepX := evS (evA (evA (evA evTakeX evMPutX) (evA evTellX evMoveX)) (evA (evA evHasX evNTr) (evA evNNeg (evA evSureX evPairX)))) fun j h => by
  have e := step_ok (G := mo 1100000 j) (k := 1100000) h.1.1.1 h.1.1.2 h.1.2.1 h.1.2.2 h.2.1.1 h.2.1.2 h.2.2.1 h.2.2.2.1 h.2.2.2.2; unfold StepX at e ⊢; (intros; refine mo_W ?_; apply e <;> assumption)
theorem evCloneX : Ev CloneX := ev0 fun j => by have e := clone_ok (G := mo 1100000 j) (k := 1100000); unfold CloneX at e ⊢; (intros; refine mo_W ?_; apply e <;> assumption)
theorem evERun : Ev (RunX 31) := evS (evA (evA evCloneX evOfX) evStepX) fun j h => by have e := erunx_ok (G := mo 1100000 j) (k := 1100000) (by omega) h.1.1 h.1.2 h.2; unfold RunX at e ⊢; (intros; refine mo_W ?_; apply e <;> assumption)
theorem evLifeX : Ev LifeX := ev0 fun j => by have e := life_ok (G := mo 1100000 j) (k := 1100000); unfold LifeX at e ⊢; (intros; refine mo_W ?_; apply e <;> assumption)
theorem evNd0 : Ev Nd0X := by
  refine ⟨16, fun j hj => ?_⟩
  obtain ⟨j', rfl⟩ : ∃ j', j = j' + 16 := ⟨j - 16, by omega⟩
  intro K
  show _ = _
  kernel_rfl
theorem evKnX : Ev KnX := by
  refine ⟨16, fun j hj => ?_⟩
  obtain ⟨j', rfl⟩ : ∃ j', j = j' + 16 := ⟨j - 16, by omega⟩
  intro K
  show _ = _
  kernel_rfl
theorem evRGdM : Ev (GdX 25 6) := evS (evRX 6) fun j h => by have e := rgdx_ok (G := mo 1100000 j) (k := 1100000) (by decide) h; unfold GdX at e ⊢; (intros; refine mo_W ?_; apply e <;> assumption)
theorem evMadeX : Ev MadeX := evS (evA (evA evNd0 (evA (evBlockM 3 (by omega)) (evExprM 5 (by omega)))) (evA (evRBl (d := 4) (by decide)) evRGdM)) fun j h => by
  have e := made_ok (G := mo 1100000 j) (k := 1100000) h.1.1 h.1.2.1 h.1.2.2 h.2.1 h.2.2; unfold MadeX at e ⊢; (intros; refine mo_W ?_; apply e <;> assumption)
theorem evRTm : Ev (TmX 21) := ev0 fun j => by have e := rtx_ok (G := mo 1100000 j) (k := 1100000) (by omega); unfold TmX at e ⊢; (intros; refine mo_W ?_; apply e <;> assumption)
theorem evRMo : Ev RMoX := evS evRTm fun j h => by have e := rmo_ok (G := mo 1100000 j) (k := 1100000) (by omega) h; unfold RMoX at e ⊢; (intros; refine mo_W ?_; apply e <;> assumption)
theorem evMostLaw : Ev MostOK := evS (evA (evA evKnX evMadeX) (evA (evA evLifeX evERun) (evA evRTm evRMo))) fun j h => by
  have e := most_law (G := mo 1100000 j) (k := 1100000) (by omega) h.1.1 h.1.2 h.2.1.1 h.2.1.2 h.2.2.1 h.2.2.2
  unfold MostOK at e ⊢; (intros; refine mo_W ?_; apply e <;> assumption)
end Go.Proofs.Ytdfjodnkplbffaa.Vm
