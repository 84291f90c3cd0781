/- Functions of the program, told by the machine of values, and what they answer: a part. -/
import Derived.Test.YtdfjodnkplbffaaFu2
import Derived.Test.YtdfjodnkplbffaaFuV4
import Derived.Test.YtdfjodnkplbffaaFu1
open Go Go.VM
set_option linter.unusedVariables false
set_option linter.unusedSimpArgs false
set_option maxRecDepth 100000
set_option maxHeartbeats 16000000
namespace Go.Proofs.Ytdfjodnkplbffaa.Vm
section
variable {b : Bool} {g : Int} {c : List V} {L : Lim}
theorem stp_adds {op a n : Int} {s : ByteArray} {st st' : St} {e : Int} (h : Stp b g op a n s st e st') : (∃ x, st'.ra = st.ra ++ x) ∧ (∃ y, st'.ef = st.ef ++ y) ∧ st'.vs.length = st.vs.length := by
  cases h <;> refine ⟨?_, ?_, ?_⟩ <;> first | exact ⟨[], (List.append_nil _).symm⟩ | exact ⟨_, rfl⟩ | rfl | exact List.length_set
theorem nS_app {p : Int} {l x : List V} : nS p l ≤ nS p (l ++ x) := by unfold nS; rw [List.countP_append]; omega
theorem stp_nS {op a n : Int} {s : ByteArray} {st st' : St} {e : Int} (h : Stp b g op a n s st e st') (p : Int) : nS p st.ef ≤ nS p st'.ef := by
  obtain ⟨_, ⟨y, hy⟩, _⟩ := stp_adds h; rw [hy]; exact nS_app
theorem wp_ok {Q : St → Int → Prop} {st : St} {co : Int} (h : Wp b g c L Q st co) : (∀ st co, Q st co → L.ok st co) → L.ok st co := by
  induction h with
  | done h => exact fun k => k _ _ h
  | err h1 h2 h3 h4 h5 => exact fun _ => ⟨by have := h5.1; omega, h5.2⟩
  | step h1 h2 h3 _ ih => exact fun k => ⟨by have := (ih k).1; omega, fun p => Int.le_trans (stp_nS h3 p) ((ih k).2 p)⟩
theorem wp_run {Q : St → Int → Prop} {st : St} {co : Int} (h : Wp b g c L Q st co) : (∀ st co, Q st co → (c.length : Int) ≤ st.pc ∧ L.ok st co) → ∀ F, ∃ d, Run b g c F st co d ∧ d.co ≤ L.M ∧ ∀ p, nS p d.ef ≤ L.S p := by
  induction h with
  | @done st co h => exact fun k F => ⟨_, .fin (k _ _ h).1, (k _ _ h).2.1, (k _ _ h).2.2⟩
  | @err st co op a n s e st' h1 h2 h3 h4 h5 =>
    intro k F
    by_cases hF : F ≤ co
    · exact ⟨_, .fuel h1 (get_lt h1 h2) hF, by have := h5.1; dsimp only; omega, h5.2⟩
    · exact ⟨_, .err h1 h2 (by omega) h3 h4, h5.1, h5.2⟩
  | @step st co op a n s st' h1 h2 h3 h4 ih =>
    intro k F
    by_cases hF : F ≤ co
    · have := wp_ok (.step h1 h2 h3 h4) fun st co q => (k st co q).2
      exact ⟨_, .fuel h1 (get_lt h1 h2) hF, this.1, this.2⟩
    · obtain ⟨d, k1, k2⟩ := ih k F
      exact ⟨d, .step h1 h2 (by omega) h3 k1, k2⟩
theorem run_pre {F : Int} {st : St} {co : Int} {d : Dn} (h : Run b g c F st co d) : (∃ x, d.ra = st.ra ++ x) ∧ (∃ y, d.ef = st.ef ++ y) ∧ d.vs.length = st.vs.length ∧ co ≤ d.co := by
  induction h with
  | fin h => exact ⟨⟨[], by simp⟩, ⟨[], by simp⟩, rfl, Int.le_refl _⟩
  | fuel _ _ h => exact ⟨⟨[], by simp⟩, ⟨[], by simp⟩, rfl, Int.le_refl _⟩
  | err _ _ _ _ _ => exact ⟨⟨[], by simp⟩, ⟨[], by simp⟩, rfl, by dsimp only; omega⟩
  | step h1 h2 h3 h4 _ ih =>
    obtain ⟨⟨x, e1⟩, ⟨y, e2⟩, e3⟩ := stp_adds h4
    obtain ⟨⟨x', f1⟩, ⟨y', f2⟩, f3, f4⟩ := ih
    exact ⟨⟨x ++ x', by rw [f1, e1]; simp⟩, ⟨y ++ y', by rw [f2, e2]; simp⟩, f3.trans e3, by omega⟩
theorem run_more {F : Int} {st : St} {co : Int} {d : Dn} (h : Run b g c F st co d) : d.cd ≠ 4 → Run b g c d.co st co d := by
  induction h with
  | fin h => exact fun _ => .fin h
  | fuel _ _ h => exact fun k => absurd rfl k
  | err h1 h2 h3 h4 h5 => exact fun _ => .err h1 h2 (by dsimp only; omega) h4 h5
  | step h1 h2 h3 h4 h5 ih => exact fun k => .step h1 h2 (by have := (run_pre h5).2.2.2; omega) h4 (ih k)
theorem run_cut {F F' : Int} {st : St} {co : Int} {d : Dn} (h : Run b g c F st co d) : co ≤ F' → F' < d.co → ∃ d', Run b g c F' st co d' ∧ d'.cd = 4 ∧ d'.co = F' ∧ d'.v = 0 ∧ (∃ x, d.ra = d'.ra ++ x) ∧ ∃ y, d.ef = d'.ef ++ y := by
  induction h with
  | fin h => intro h1 h2; dsimp only at h2; omega
  | fuel _ _ h => intro h1 h2; dsimp only at h2; omega
  | @err st co op a n s e st' h1 h2 h3 h4 h5 =>
    intro k1 k2
    dsimp only at k2
    exact ⟨_, .fuel h1 (get_lt h1 h2) (by omega), rfl, by dsimp only; omega, rfl, ⟨[], by simp⟩, ⟨[], by simp⟩⟩
  | @step st co op a n s st' d h1 h2 h3 h4 h5 ih =>
    intro k1 k2
    by_cases e : F' = co
    · obtain ⟨p1, p2, _⟩ := run_pre (.step h1 h2 h3 h4 h5)
      exact ⟨_, .fuel h1 (get_lt h1 h2) (by omega), rfl, e.symm, rfl, p1, p2⟩
    · obtain ⟨d', q1, q2⟩ := ih (by omega) k2
      exact ⟨d', .step h1 h2 (by omega) h4 q1, q2⟩
theorem run_bd {F : Int} {st : St} {co : Int} {d : Dn} (h : Run b g c F st co d) : Bd st co → co ≤ F → (d.ra.length : Int) ≤ d.co ∧ (d.ef.length : Int) ≤ d.co ∧ d.co ≤ F := by
  induction h with
  | fin h => intro h1 h2; exact ⟨h1.2.2.1, h1.2.2.2, h2⟩
  | fuel _ _ h => intro h1 h2; exact ⟨h1.2.2.1, h1.2.2.2, h2⟩
  | err _ _ h _ _ => intro h1 h2; unfold Bd at h1; exact ⟨by dsimp only; omega, by dsimp only; omega, by dsimp only; omega⟩
  | step h1 h2 h3 h4 _ ih => intro k1 k2; exact ih (bd_step h4 k1) (by omega)
def RaS (l : List V) : Prop := ∀ v ∈ l, ∃ s n, v = .agg [.str s, .int .i64 n]
def EfS (A : Int → Prop) (l : List V) : Prop := ∀ v ∈ l, ∃ k a s n, v = .agg [.int .i64 k, .int .i64 a, .str s, .int .i64 n] ∧ (k = 1 → A a)
theorem ras_snoc {l : List V} {v : V} (h : RaS l) (hv : ∃ s n, v = .agg [.str s, .int .i64 n]) : RaS (l ++ [v]) := fun w hw => by
  rcases List.mem_append.1 hw with hw | hw
  · exact h w hw
  · rw [List.mem_singleton.1 hw]; exact hv
theorem efs_snoc {A : Int → Prop} {l : List V} {v : V} (h : EfS A l) (hv : ∃ k a s n, v = .agg [.int .i64 k, .int .i64 a, .str s, .int .i64 n] ∧ (k = 1 → A a)) : EfS A (l ++ [v]) := fun w hw => by
  rcases List.mem_append.1 hw with hw | hw
  · exact h w hw
  · rw [List.mem_singleton.1 hw]; exact hv
def SendA (A : Int → Prop) (c : List V) : Prop := ∀ op a n s, insS op a n s ∈ c → op = 20 → A a
theorem stp_shape {A : Int → Prop} {op a n : Int} {s : ByteArray} {st st' : St} {e : Int} (h : Stp b g op a n s st e st') (hA : op = 20 → A a) (h1 : RaS st.ra) (h2 : EfS A st.ef) : RaS st'.ra ∧ EfS A st'.ef := by
  cases h <;> first
    | exact ⟨h1, h2⟩
    | exact ⟨ras_snoc h1 ⟨_, _, rfl⟩, h2⟩
    | exact ⟨h1, efs_snoc h2 ⟨_, _, _, _, rfl, fun _ => hA rfl⟩⟩
    | exact ⟨h1, efs_snoc h2 ⟨_, _, _, _, rfl, fun h => by omega⟩⟩
theorem run_shape {A : Int → Prop} {F : Int} {st : St} {co : Int} {d : Dn} (h : Run b g c F st co d) (hA : SendA A c) : RaS st.ra → EfS A st.ef → RaS d.ra ∧ EfS A d.ef := by
  induction h with
  | fin h => exact fun h1 h2 => ⟨h1, h2⟩
  | fuel _ _ h => exact fun h1 h2 => ⟨h1, h2⟩
  | err _ _ _ _ _ => exact fun h1 h2 => ⟨h1, h2⟩
  | step h1 h2 h3 h4 _ ih =>
    intro k1 k2
    obtain ⟨q1, q2⟩ := stp_shape h4 (fun e => hA _ _ _ _ (List.mem_of_getElem? h2) e) k1 k2
    exact ih q1 q2
def st0 (x y : Int) : St := ⟨0, [], [], [x, y], [], []⟩
theorem st0_inv {x y : Int} (hx : InR x) (hy : InR y) : Inv (st0 x y) := ⟨rfl, fun z hz => by
  simp only [st0, List.mem_cons, List.not_mem_nil, or_false] at hz
  rcases hz with rfl | rfl
  · exact hx
  · exact hy⟩
theorem st0_bd {x y : Int} : Bd (st0 x y) 0 := ⟨by simp [st0], by simp [st0], by simp [st0], by simp [st0]⟩
theorem runE {x y F : Int} {d : Nat} {v : V} (hg : InR g) (hx : InR x) (hy : InR y) (hv : ExprM N0.a d v) : ∃ r, Run b g (cE N0 d 0 v) F (st0 x y) 0 r ∧ r.co ≤ (cE N0 d 0 v).length ∧ ∀ p, nS p r.ef ≤ 0 := by
  have hat : At (cE N0 d 0 v) 0 (cE N0 d 0 v) := ⟨[], [], by simp, rfl⟩
  have h := cE_do (b := b) (L := ⟨(cE N0 d 0 v).length, fun _ => 0⟩) hg hv hat [] [] [x, y] [] [] 0 (st0_inv hx hy) (by simp) (fun p => by simp [nS])
  refine wp_run (L := ⟨(cE N0 d 0 v).length, fun _ => 0⟩) h (fun st co ⟨h1, z, h2, h3⟩ => ?_) F
  subst h3
  exact ⟨by simp, by dsimp only; omega, fun p => by simp [nS]⟩
theorem runB {x y F : Int} {d : Nat} {l : List V} (hg : InR g) (hx : InR x) (hy : InR y) (hl : BlockM N0.a N0.p d l) (hc : (cR (cA N0 d) 0 l).length ≤ 9999) : ∃ t, Sh (fun q => cR (cA N0 d) q l) t (cm d) ∧ ∃ r, Run b g (cR (cA N0 d) 0 l) F (st0 x y) 0 r ∧ r.co ≤ smI t ∧ ∀ p, nS p r.ef ≤ wS p (cR (cA N0 d) 0 l) t := by
  have hat : At (cR (cA N0 d) 0 l) 0 (cR (cA N0 d) 0 l) := ⟨[], [], by simp, rfl⟩
  obtain ⟨t, ht, hd⟩ := cBl_do (b := b) hg hc hl
  refine ⟨t, ht, ?_⟩
  have h := hd ⟨smI t, fun p => wS p (cR (cA N0 d) 0 l) t⟩ 0 hat [] [] [x, y] [] [] 0 (st0_inv hx hy) (by simp) (fun p => by simp [nS])
  refine wp_run (L := ⟨smI t, fun p => wS p (cR (cA N0 d) 0 l) t⟩) h (fun st co ⟨h1, v', ra', ef', h2, h3, h4⟩ => ?_) F
  subst h2
  exact ⟨by simp, by dsimp only; omega, fun p => by have := h4 p; simp [nS] at this ⊢; exact this⟩
end
set_option maxHeartbeats 8000000
section
variable {R : Type} {G : ORC R} {k : Nat} {K : List V → Option R}
def RArg (G : ORC R) : Prop := ∀ (c x : List V) (N : Nms) (K : List V → Option R), (∀ e ∈ x, ExprS 3 e) → N.ok → c.length + ce 3 ≤ 1000000 → W (fun o => o = [.sl 4 (c ++ cX N c.length x)]) K (G 86 [.sl 4 c, .sl 5 x, N.v] K)
theorem rarg_ok (hE : RX 3 G) : RArg (fun _ args (K : List V → Option R) => g86 G k args K) := by
  intro c x N K hx hN hm
  show W _ K (f86 G k c x N.a N.p N.t (N.nd.map Nd.v) K)
  unfold f86
  unfold RX at hE
  cases x with
  | nil => exact W_eqY rfl (W_yes (by omega) (W_ret rfl))
  | cons e r =>
    have he := hx e List.mem_cons_self
    have he' := he
    obtain ⟨_, _, _, _, rfl, _⟩ := he
    refine W_eqN (by simp; omega) (W_yes (by simp) (W_nth0 (W_asAgg ?_)))
    refine W_call (hE c _ N _ he' hN hm) ?_
    rintro _ rfl
    exact W_uL (W_unNil (W_ret rfl))
def RAct (d : Nat) (G : ORC R) : Prop := ∀ (c : List V) (a : V) (N : Nms) (K : List V → Option R), ActS d a → N.ok → c.length + ca d ≤ 1000000 → W (fun o => o = [.sl 4 (c ++ cA N d c.length a)]) K (G 54 [.sl 4 c, a, N.v] K)
def RBlk (d : Nat) (G : ORC R) : Prop := ∀ (c l : List V) (N : Nms) (K : List V → Option R), BlockS d l → N.ok → c.length + 2 * ca d ≤ 1000000 → W (fun o => o = [.sl 4 (c ++ cR (cA N d) c.length l)]) K (G 40 [.sl 4 c, .sl 8 l, N.v] K)
theorem rblk_loop {d : Nat} (hA : RAct d G) {Q : List V → Prop} {K : List V → Option R} {Ko : List V → Option R} {N : Nms} {l : List V} (hN : N.ok) (hl : BlockS d l) {out : List V} (hKo : W Q K (Ko out)) :
    ∀ (B A : List V) (j : Nat) (c : List V), l = A ++ B → B.length < j → out = c ++ cR (cA N d) c.length B → c.length + B.length * ca d ≤ 1000000 → W Q K (l40_0g G k Ko j c l A.length N.a N.p N.t (N.nd.map Nd.v))
  | B, A, 0, c, h1, h2, h3, h4 => by omega
  | [], A, j + 1, c, h1, h2, h3, h4 => by
    show W Q K (b40_0 G k (l40_0g G k Ko j) Ko c l A.length N.a N.p N.t (N.nd.map Nd.v))
    unfold b40_0
    rw [List.append_nil] at h1
    subst h1
    refine W_no (by omega) ?_
    rw [h3] at hKo
    simpa [cR] using hKo
  | b :: B, A, j + 1, c, h1, h2, h3, h4 => by
    show W Q K (b40_0 G k (l40_0g G k Ko j) Ko c l A.length N.a N.p N.t (N.nd.map Nd.v))
    unfold b40_0
    have hb := hl.2 b (by rw [h1]; simp)
    have lb := cA_len (N := N) (at_ := c.length) hb
    have hlen : l.length = A.length + (B.length + 1) := by rw [h1]; simp
    have h2l := hl.1
    have hget : l[((A.length : Nat) : Int).toNat]? = some b := by rw [Int.toNat_natCast, h1]; simp
    have hA' := hA
    unfold RAct at hA'
    have hb' := hb
    cases d with
    | zero => exact hb.elim
    | succ d =>
    obtain ⟨kind, nm, ev, x, n, th, el, rfl, _⟩ := hb
    rw [List.length_cons, Nat.succ_mul] at h4
    refine W_yes (by omega) (W_at (by omega) hget (W_asAgg ?_))
    refine W_call (hA' c _ N _ hb' hN (by omega)) ?_
    rintro _ rfl
    refine W_uL (W_unNil ?_)
    rw [wrap_id (n := (A.length : Int) + 1) (by omega)]
    have := rblk_loop hA hN hl hKo B (A ++ [V.agg [.int .i64 kind, .str nm, .str ev, .sl 5 x, .int .i64 n, .sl 8 th, .sl 8 el, .int .i64 0]]) j (c ++ cA N (d + 1) c.length (V.agg [.int .i64 kind, .str nm, .str ev, .sl 5 x, .int .i64 n, .sl 8 th, .sl 8 el, .int .i64 0])) (by rw [h1]; simp) (by simp at h2; omega) (by rw [h3, cR, List.length_append, List.append_assoc]) (by rw [List.length_append]; omega)
    simpa using this
theorem rblk_ok {d : Nat} (hk : 1000 ≤ k) (hA : RAct d G) : RBlk d (fun _ args (K : List V → Option R) => g40 G k args K) := by
  intro c l N K hl hN hm
  show W _ K (f40 G k c l N.a N.p N.t (N.nd.map Nd.v) K)
  unfold f40 l40_0
  have h2l := hl.1
  exact rblk_loop (Q := fun o => o = [.sl 4 (c ++ cR (cA N d) c.length l)]) (K := K) (Ko := fun yl => K [.sl 4 yl]) (out := c ++ cR (cA N d) c.length l) hA hN hl (W_ret rfl) l [] k c rfl (by omega) rfl (by have : l.length * ca d ≤ 2 * ca d := Nat.mul_le_mul_right _ hl.1; omega)
theorem ract_ok {d : Nat} (hPl : PlX 61 G) (hE : RX 3 G) (hA : RArg G) (hB : RBlk d G) : RAct (d + 1) (fun _ args (K : List V → Option R) => g54 G k args K) := by
  intro c a N K ha hN hm
  have hlen := cA_len (N := N) (at_ := c.length) ha
  obtain ⟨kind, nm, ev, x, n, th, el, rfl, x1, x2, x3, x4, x5, x6, x7, x8, x9, x10, x11, x12⟩ := ha
  show W _ K (f54 G k c kind nm ev x n th el 0 N.a N.p N.t (N.nd.map Nd.v) K)
  unfold f54
  have hca : ca (d + 1) = ce 3 + 2 + 4 * ca d := rfl
  have hth : BlockS d th := ⟨x9, x11⟩
  have hel : BlockS d el := ⟨x10, x12⟩
  unfold PlX at hPl; unfold RX at hE; unfold RArg at hA; unfold RBlk at hB
  have lx := cX_len (N := N) (at_ := c.length) x7
  have lt := fun q => cBl_len (N := N) (at_ := q) hth
  have le := fun q => cBl_len (N := N) (at_ := q) hel
  refine W_beqI (fun h => ?_) (fun h1 => ?_)
  · refine W_call (hA c x N _ x7 hN (by omega)) ?_
    rintro _ rfl
    refine W_uL (W_unNil ?_)
    refine W_call (hPl _ _ _ hN.1) ?_
    rintro _ rfl
    refine W_uI (W_unNil (W_yes (by (first | (simp only [List.length_append, List.length_cons, List.length_nil]; done) | (simp only [List.length_append, List.length_cons, List.length_nil]; omega))) (W_ret ?_)))
    conv => rhs; unfold cA
    rw [if_pos h, List.append_assoc]; rfl
  refine W_beqI (fun h => ?_) (fun h2 => ?_)
  · refine W_call (hA c x N _ x7 hN (by omega)) ?_
    rintro _ rfl
    refine W_uL (W_unNil (W_yes (by (first | (simp only [List.length_append, List.length_cons, List.length_nil]; done) | (simp only [List.length_append, List.length_cons, List.length_nil]; omega))) (W_ret ?_)))
    conv => rhs; unfold cA
    rw [if_neg h1, if_pos h, List.append_assoc]; rfl
  refine W_beqI (fun h => ?_) (fun h3 => ?_)
  · refine W_call (hA c x N _ x7 hN (by omega)) ?_
    rintro _ rfl
    refine W_uL (W_unNil ?_)
    refine W_call (hPl _ _ _ hN.2.1) ?_
    rintro _ rfl
    refine W_uI (W_unNil (W_yes (by (first | (simp only [List.length_append, List.length_cons, List.length_nil]; done) | (simp only [List.length_append, List.length_cons, List.length_nil]; omega))) (W_ret ?_)))
    conv => rhs; unfold cA
    rw [if_neg h1, if_neg h2, if_pos h, List.append_assoc]; rfl
  refine W_beqI (fun h => ?_) (fun h4 => ?_)
  · refine W_call (hA c x N _ x7 hN (by omega)) ?_
    rintro _ rfl
    refine W_uL (W_unNil ?_)
    refine W_call (hPl _ _ _ hN.2.2.1) ?_
    rintro _ rfl
    refine W_uI (W_unNil (W_yes (by (first | (simp only [List.length_append, List.length_cons, List.length_nil]; done) | (simp only [List.length_append, List.length_cons, List.length_nil]; omega))) (W_ret ?_)))
    conv => rhs; unfold cA
    rw [if_neg h1, if_neg h2, if_neg h3, if_pos h, List.append_assoc]; rfl
  refine W_beqI (fun h => ?_) (fun h5 => ?_)
  · refine W_call (hPl _ _ _ hN.2.2.1) ?_
    rintro _ rfl
    refine W_uI (W_unNil (W_yes (by omega) (W_ret ?_)))
    conv => rhs; unfold cA
    rw [if_neg h1, if_neg h2, if_neg h3, if_neg h4, if_pos h]; rfl
  refine W_beqI (fun h => ?_) (fun h7 => ?_)
  · refine W_yes (by omega) ?_
    refine W_call (hB _ th N _ hth hN (by (first | (simp only [List.length_append, List.length_cons, List.length_nil]; done) | (simp only [List.length_append, List.length_cons, List.length_nil]; omega)))) ?_
    rintro _ rfl
    have hl : ∀ z : V, (c ++ [z]).length = c.length + 1 := fun z => by simp
    rw [hl]
    have lt := lt (c.length + 1)
    generalize hBe : cR (cA N d) (c.length + 1) th = B at lt ⊢
    refine W_uL (W_unNil (W_yes (by (first | (simp only [List.length_append, List.length_cons, List.length_nil]; done) | (simp only [List.length_append, List.length_cons, List.length_nil]; omega))) ?_))
    have e1 : ∀ z w : V, c ++ [z] ++ B ++ [w] = c ++ z :: (B ++ [w]) := fun z w => by simp
    rw [e1]
    refine W_at (by omega) (get_at (by (first | (simp only [Int.toNat_natCast, List.length_append, List.length_cons, List.length_nil, List.length_set]; done) | (simp only [Int.toNat_natCast, List.length_append, List.length_cons, List.length_nil, List.length_set]; omega)))) (W_ca4 ?_)
    rw [set_at (by (first | (simp only [Int.toNat_natCast, List.length_append, List.length_cons, List.length_nil, List.length_set]; done) | (simp only [Int.toNat_natCast, List.length_append, List.length_cons, List.length_nil, List.length_set]; omega)))]
    refine W_ret ?_
    conv => rhs; unfold cA
    rw [if_neg h1, if_neg h2, if_neg h3, if_neg h4, if_neg h5, if_pos h, hBe]
    have e2 : ∀ z w : V, (c ++ z :: (B ++ [w])).length = c.length + B.length + 2 := fun z w => by simp; omega
    rw [e2]; rfl
  have h6 : kind = 6 := by omega
  have hx1 := x8 h6
  obtain ⟨e, rfl⟩ : ∃ e, x = [e] := by
    match x, hx1 with
    | [e], _ => exact ⟨e, rfl⟩
  have he := x7 e (by simp)
  have he' := he
  refine W_yes (by simp) (W_nth0 ?_)
  have fin : cA N (d + 1) c.length (V.agg [.int .i64 kind, .str nm, .str ev, .sl 5 [e], .int .i64 n, .sl 8 th, .sl 8 el, .int .i64 0]) = chX (cA N d) c.length (cE N 3 c.length e) th el := by
    conv => lhs; unfold cA
    rw [if_neg h1, if_neg h2, if_neg h3, if_neg h4, if_neg h5, if_neg h7]; rfl
  have lx' : (cE N 3 c.length e).length ≤ ce 3 := cE_len he
  rw [fin]
  obtain ⟨_, _, _, _, rfl, _⟩ := he
  refine W_asAgg ?_
  refine W_call (hE c _ N _ he' hN (by omega)) ?_
  rintro _ rfl
  generalize hE0 : cE N 3 c.length _ = E at lx' ⊢
  refine W_uL (W_unNil (W_yes (by (first | (simp only [List.length_append, List.length_cons, List.length_nil]; done) | (simp only [List.length_append, List.length_cons, List.length_nil]; omega))) ?_))
  refine W_call (hB _ th N _ hth hN (by (first | (simp only [List.length_append, List.length_cons, List.length_nil]; done) | (simp only [List.length_append, List.length_cons, List.length_nil]; omega)))) ?_
  rintro _ rfl
  have hl : ∀ z : V, (c ++ E ++ [z]).length = c.length + E.length + 1 := fun z => by simp; omega
  rw [hl]
  have lt := lt (c.length + E.length + 1)
  generalize hBe : cR (cA N d) (c.length + E.length + 1) th = B at lt ⊢
  refine W_uL (W_unNil ?_)
  cases el with
  | nil =>
    refine W_no (by simp) ?_
    have e1 : ∀ z : V, c ++ E ++ [z] ++ B = (c ++ E) ++ z :: B := fun z => by simp
    rw [e1]
    refine W_at (by omega) (get_at (by (first | (simp only [Int.toNat_natCast, List.length_append, List.length_cons, List.length_nil, List.length_set]; done) | (simp only [Int.toNat_natCast, List.length_append, List.length_cons, List.length_nil, List.length_set]; omega)))) (W_ca4 ?_)
    rw [set_at (L := c ++ E) (by (first | (simp only [Int.toNat_natCast, List.length_append, List.length_cons, List.length_nil, List.length_set]; done) | (simp only [Int.toNat_natCast, List.length_append, List.length_cons, List.length_nil, List.length_set]; omega)))]
    refine W_ret ?_
    have e2 : ∀ z : V, ((c ++ E) ++ z :: B).length = c.length + E.length + 1 + B.length := fun z => by simp; omega
    rw [e2]
    rw [chX, hBe, ifX, List.append_assoc]; rfl
  | cons e0 r0 =>
    have le := le (c.length + E.length + 1 + B.length + 1)
    rw [chX, hBe]
    refine W_yes (by simp) ?_
    refine W_yes (by (first | (simp only [List.length_append, List.length_cons, List.length_nil]; done) | (simp only [List.length_append, List.length_cons, List.length_nil]; omega))) ?_
    have e1 : ∀ z w : V, c ++ E ++ [z] ++ B ++ [w] = (c ++ E) ++ z :: (B ++ [w]) := fun z w => by simp
    rw [e1]
    refine W_at (by omega) (get_at (by (first | (simp only [Int.toNat_natCast, List.length_append, List.length_cons, List.length_nil, List.length_set]; done) | (simp only [Int.toNat_natCast, List.length_append, List.length_cons, List.length_nil, List.length_set]; omega)))) (W_ca4 ?_)
    rw [set_at (L := c ++ E) (by (first | (simp only [Int.toNat_natCast, List.length_append, List.length_cons, List.length_nil, List.length_set]; done) | (simp only [Int.toNat_natCast, List.length_append, List.length_cons, List.length_nil, List.length_set]; omega)))]
    have e2 : ∀ z w : V, ((c ++ E) ++ z :: (B ++ [w])).length = c.length + E.length + 1 + B.length + 1 := fun z w => by simp; omega
    rw [e2]
    refine W_call (hB _ (e0 :: r0) N _ hel hN (by rw [e2]; omega)) ?_
    rintro _ rfl
    rw [e2]
    generalize hCe : cR (cA N d) (c.length + E.length + 1 + B.length + 1) (e0 :: r0) = C at le ⊢
    refine W_uL (W_unNil ?_)
    have e3 : ∀ z w : V, (c ++ E) ++ z :: (B ++ [w]) ++ C = (c ++ E ++ z :: B) ++ w :: C := fun z w => by simp
    rw [e3]
    have e4 : ((c ++ E ++ [V.agg [.int .i64 24, .int .i64 0, .int .i64 0, .str ⟨#[]⟩]] ++ B).length : Int) = ((c ++ E ++ V.agg [.int .i64 24, .int .i64 0, .int .i64 0, .str ⟨#[]⟩] :: B).length : Nat) := by simp
    first
      | rw [e4]
      | skip
    refine W_at (by omega) (get_at (by (first | (simp only [Int.toNat_natCast, List.length_append, List.length_cons, List.length_nil, List.length_set]; done) | (simp only [Int.toNat_natCast, List.length_append, List.length_cons, List.length_nil, List.length_set]; omega)))) (W_ca4 ?_)
    rw [set_at (L := c ++ E ++ _ :: B) (by (first | (simp only [Int.toNat_natCast, List.length_append, List.length_cons, List.length_nil, List.length_set]; done) | (simp only [Int.toNat_natCast, List.length_append, List.length_cons, List.length_nil, List.length_set]; omega)))]
    refine W_ret ?_
    have e5 : ∀ z w : V, ((c ++ E ++ z :: B) ++ w :: C).length = c.length + E.length + 1 + B.length + 1 + C.length := fun z w => by simp; omega
    rw [e5, elX]
    simp [ins]
def BlX (f : FuncId) (d : Nat) (G : ORC R) : Prop := ∀ (l : List V) (N : Nms) (K : List V → Option R), BlockS d l → N.ok → W (fun o => o = [.sl 4 (cR (cA N d) 0 l)]) K (G f [.sl 8 l, N.v] K)
theorem rblx_ok {d : Nat} (hd : 2 * ca d ≤ 1000000) (hB : RBlk d G) : BlX 19 d (fun _ args (K : List V → Option R) => g19 G k args K) := by
  intro l N K hl hN
  show W _ K (f19 G k l N.a N.p N.t (N.nd.map Nd.v) K)
  unfold f19
  unfold RBlk at hB
  refine W_call (hB [] l N _ hl hN (by simpa using hd)) ?_
  rintro _ rfl
  exact W_uL (W_unNil (W_ret rfl))
end
section
variable {R : Type} {G : ORC R} {k : Nat} {K : List V → Option R}
def GdX (f : FuncId) (d : Nat) (G : ORC R) : Prop := ∀ (e : V) (N : Nms) (K : List V → Option R), ExprS d e → N.ok → W (fun o => o = [.sl 4 (cE N d 0 e)]) K (G f [e, N.v] K)
theorem rgdx_ok {d : Nat} (hd : ce d ≤ 1000000) (hE : RX d G) : GdX 25 d (fun _ args (K : List V → Option R) => g25 G k args K) := by
  intro e N K he hN
  have he' := he
  cases d with
  | zero => exact he.elim
  | succ d =>
  obtain ⟨kind, n, nm, kids, rfl, _⟩ := he
  show W _ K (f25 G k kind n nm kids 0 N.a N.p N.t (N.nd.map Nd.v) K)
  unfold f25
  unfold RX at hE
  refine W_call (hE [] _ N _ he' hN (by simpa using hd)) ?_
  rintro _ rfl
  exact W_uL (W_unNil (W_ret rfl))
end
set_option maxHeartbeats 16000000
section
variable {R : Type} {G : ORC R} {k : Nat} {K : List V → Option R} {Q : List V → Prop}
def LifeX (G : ORC R) : Prop := ∀ (x y : Int) (b : Bool) (K : List V → Option R), W (fun o => o = [lifeV b x y]) K (G 28 [.int .i64 x, .int .i64 y, .bool b] K)
theorem life_ok : LifeX (fun _ args (K : List V → Option R) => g28 G k args K) := by
  intro x y b K
  show W _ K (f28 G k x y b K)
  unfold f28
  cases b <;> exact W_ret rfl
def VarsX (G : ORC R) : Prop := ∀ (l : List Int) (K : List V → Option R), l.length ≤ 1000000 → W (fun o => o = [.bool true]) K (G 33 [.sl 1 (iv l), .sl 1 (iv l)] K)
theorem vars_loop {Ko : Unit → Option R} {Kr : Bool → Option R} {l : List Int} (hl : l.length ≤ 1000000) (hKo : W Q K (Ko ())) : ∀ (j m : Nat), l.length - m < j → m ≤ l.length → W Q K (l33_0g G k Ko Kr j (iv l) (iv l) m)
  | 0, m, h1, h2 => by omega
  | j + 1, m, h1, h2 => by
    show W Q K (b33_0 G k (l33_0g G k Ko Kr j) Ko Kr (iv l) (iv l) m)
    unfold b33_0
    refine W_dec (fun h => ?_) (fun h => hKo)
    rw [iv_len] at h
    obtain ⟨x, hx⟩ : ∃ x, l[m]? = some x := ⟨_, List.getElem?_eq_getElem (by omega)⟩
    refine W_at (by omega) (by rw [Int.toNat_natCast]; exact iv_get hx) (W_aI ?_)
    refine W_at (by omega) (by rw [Int.toNat_natCast]; exact iv_get hx) (W_aI (W_neN rfl ?_))
    rw [wrap_id (n := (m : Int) + 1) (by omega)]
    exact vars_loop hl hKo j (m + 1) (by omega) (by omega)
theorem vars_ok (hk : 1048578 ≤ k) : VarsX (fun _ args (K : List V → Option R) => g33 G k args K) := by
  intro l K hl
  show W _ K (f33 G k (iv l) (iv l) K)
  unfold f33 l33_0
  refine W_neN rfl ?_
  exact vars_loop (Q := fun o => o = [.bool true]) (K := K) (G := G) (k := k) (Ko := fun _ => K [.bool true]) (Kr := fun x => K [.bool x]) hl (W_ret rfl) k 0 (by omega) (by omega)
def KnX (G : ORC R) : Prop := ∀ K : List V → Option R, G 26 [] K = K [.bool true]
theorem knx_go (hKn : KnX G) : W (fun o => o = [.bool true]) K (G 26 [] fun o => uB o fun b r => unNil r (K [.bool b])) := by
  rw [hKn]; exact W_uB (W_unNil (W_ret rfl))
def Nd0X (G : ORC R) : Prop := ∀ K : List V → Option R, G 35 [.agg [(.str ⟨#[]⟩), (.int .i64 0), (.int .i64 0), (.sl 3 []), (.sl 3 []), (.sl 3 []), (.sl 7 [(.agg [(.int .i64 1), (.str ⟨#[105, 100, 108, 101]⟩), (.sl 8 []), (.sl 8 []), (.sl 5 []), (.sl 7 []), (.int .i64 0)]), (.agg [(.int .i64 1), (.str ⟨#[98, 117, 115, 121]⟩), (.sl 8 []), (.sl 8 []), (.sl 5 []), (.sl 7 []), (.int .i64 0)])]), (.int .i64 0)]] K = K [.sl 7 (nd0.map Nd.v)]
def MadeS (b : Bool) (c : List V) : Prop := if b then ∃ l, BlockM N0.a N0.p 4 l ∧ c = cR (cA N0 4) 0 l else ∃ e, ExprM N0.a 6 e ∧ c = cE N0 6 0 e
def MadeX (G : ORC R) : Prop := ∀ (v : List V) (b : Bool) (K : List V → Option R), IntsS v → v.length ≤ 200 → W (fun o => ∃ c, o = [.sl 4 c] ∧ MadeS b c) K (G 27 [.sl 1 v, .bool b] K)
theorem n0a_ne : N0.a ≠ [] := by decide
theorem n0p_ne : N0.p ≠ [] := by decide
theorem scS_strs' : StrsS 100 scS := by
  refine ⟨by decide, fun v hv => ?_⟩
  simp only [scS, List.mem_cons, List.not_mem_nil, or_false] at hv
  rcases hv with rfl | rfl
  · exact ⟨_, rfl, by unfold StrS; decide⟩
  · exact ⟨_, rfl, by unfold StrS; decide⟩
theorem made_ok (hN : Nd0X G) (hB : BlockOKM 3 G) (hE : ExprOKM 5 G) (hRB : BlX 19 4 G) (hRG : GdX 25 6 G) : MadeX (fun _ args (K : List V → Option R) => g27 G k args K) := by
  intro v b K hv hl
  show W _ K (f27 G k v b K)
  unfold f27
  rw [hN]
  (repeat(with_reducible apply U1))
  unfold BlockOKM at hB; unfold ExprOKM at hE; unfold BlX at hRB; unfold GdX at hRG
  have hN0 := N0_ok
  refine W_bool (fun hb => ?_) (fun hb => ?_)
  · subst hb
    refine W_call (hB N0.a N0.p N0.t scS _ _ _ _ rfl n0a_ne n0p_ne hN0.1 hN0.2.1 hN0.2.2.1 scS_strs' ⟨hv, by omega, by omega, by omega⟩) ?_
    rintro _ ⟨l, j, rfl, hl, hj⟩
    (repeat(with_reducible apply U1))
    refine W_call (hRB _ N0 _ hl.s hN0) ?_
    rintro _ rfl
    (repeat(with_reducible apply U1))
    exact W_ret ⟨_, rfl, by unfold MadeS; rw [if_pos rfl]; exact ⟨l, hl, rfl⟩⟩
  · subst hb
    refine W_call (hE N0.a N0.p N0.t scS _ _ _ _ rfl n0a_ne hN0.1 scS_strs' ⟨hv, by omega, by omega, by omega⟩) ?_
    rintro _ ⟨e, j, rfl, he, hj⟩
    have he' := he
    obtain ⟨kind, n, nm, kids, rfl, _⟩ := he
    (repeat(with_reducible apply U1))
    refine W_call (hRG _ N0 _ he'.s hN0) ?_
    rintro _ rfl
    (repeat(with_reducible apply U1))
    exact W_ret ⟨_, rfl, by unfold MadeS; rw [if_neg (by decide)]; exact ⟨_, he', rfl⟩⟩
theorem made_len {b : Bool} {c : List V} (h : MadeS b c) : c.length ≤ 9900 := by
  unfold MadeS at h
  cases b with
  | true => obtain ⟨l, hl, rfl⟩ := h; exact Nat.le_trans (cBl_len hl.s) (by decide)
  | false => obtain ⟨e, he, rfl⟩ := h; exact Nat.le_trans (cE_len he.s) (by decide)
theorem made_run {b bz : Bool} {c : List V} {g x y : Int} (F : Int) (h : MadeS b c) (hg : InR g) (hx : InR x) (hy : InR y) : ∃ d, Run bz g c F (st0 x y) 0 d := by
  have hl := made_len h
  unfold MadeS at h
  cases b with
  | true => obtain ⟨l, hb, rfl⟩ := h; obtain ⟨t, _, d, hd, _⟩ := runB (b := bz) (F := F) hg hx hy hb (by omega); exact ⟨d, hd⟩
  | false => obtain ⟨e, he, rfl⟩ := h; obtain ⟨d, hd, _⟩ := runE (b := bz) (F := F) hg hx hy he; exact ⟨d, hd⟩
theorem ras0 : RaS [] := fun v hv => by cases hv
theorem efs0 {A : Int → Prop} : EfS A [] := fun v hv => by cases hv
theorem run_fit {bz : Bool} {c : List V} {g x y F : Int} {d : Dn} (h : Run bz g c (clip F) (st0 x y) 0 d) : RaS d.ra ∧ EfS (fun _ => True) d.ef ∧ d.vs.length = 2 ∧ d.ra.length ≤ 1048576 ∧ d.ef.length ≤ 1048576 ∧ d.co ≤ 1048576 ∧ 0 ≤ d.co := by
  obtain ⟨k1, k2⟩ := run_shape (A := fun _ => True) h (fun _ _ _ _ _ _ => trivial) ras0 efs0
  obtain ⟨_, _, k3, k4⟩ := run_pre h
  obtain ⟨k5, k6, k7⟩ := run_bd h st0_bd (clip_le F).2
  have := clip_le F
  exact ⟨k1, k2, k3, by omega, by omega, by omega, k4⟩
end
section
variable {R : Type} {G : ORC R} {k : Nat} {K : List V → Option R} {Q : List V → Prop}
theorem pre_get {l x : List V} {m : Nat} {w : V} (h : l[m]? = some w) : (l ++ x)[m]? = some w := by
  rw [List.getElem?_append_left (List.getElem?_eq_some_iff.1 h).1]; exact h
theorem fu0_loop {Ko : Int → List V → List V → List V → Int → Int → Int → List V → List V → List V → Int → Int → Option R} {Kr : Bool → Option R} {v v' : Int} {vs ra ef vs' ra' ef' : List V} {co cd co' cd' : Int} (hp : ∃ x, ra = ra' ++ x) (hr : RaS ra') (hl : ra'.length ≤ 1048576) (hKo : W Q K (Ko v vs ra ef co cd v' vs' ra' ef' co' cd')) : ∀ (j m : Nat), ra'.length - m < j → m ≤ ra'.length → W Q K (l9_0g G k Ko Kr j m v vs ra ef co cd v' vs' ra' ef' co' cd')
  | 0, m, h1, h2 => by omega
  | j + 1, m, h1, h2 => by
    show W Q K (b9_0 G k (l9_0g G k Ko Kr j) Ko Kr m v vs ra ef co cd v' vs' ra' ef' co' cd')
    unfold b9_0
    refine W_dec (fun h => ?_) (fun h => hKo)
    obtain ⟨w, hw⟩ : ∃ w, ra'[m]? = some w := ⟨_, List.getElem?_eq_getElem (by omega)⟩
    obtain ⟨s, n, rfl⟩ := hr w (List.mem_of_getElem? hw)
    have next : W Q K (l9_0g G k Ko Kr j ((m + 1 : Nat) : Int) v vs ra ef co cd v' vs' ra' ef' co' cd') := fu0_loop hp hr hl hKo j (m + 1) (by omega) (by omega)
    obtain ⟨x, rfl⟩ := hp
    refine W_at (by omega) (by rw [Int.toNat_natCast]; exact hw) (W_asAgg ?_)
    refine W_at (by omega) (by rw [Int.toNat_natCast]; exact pre_get hw) (W_asAgg ?_)
    refine W_ce2 (W_ce2 ?_)
    (repeat(with_reducible apply U1))
    refine W_and ?_
    (repeat(with_reducible apply U1))
    refine W_chk' (by simp) ?_
    rw [wrap_id (n := (m : Int) + 1) (by omega)]
    exact next
theorem fu2_loop {Ko : Unit → Option R} {Kr : Bool → Option R} {A : Int → Prop} {v v' : Int} {vs ra ef vs' ra' ef' : List V} {co cd co' cd' : Int} (hp : ∃ x, ef = ef' ++ x) (hr : EfS A ef') (hl : ef'.length ≤ 1048576) (hKo : W Q K (Ko ())) : ∀ (j m : Nat), ef'.length - m < j → m ≤ ef'.length → W Q K (l9_2g G k Ko Kr j m v vs ra ef co cd v' vs' ra' ef' co' cd')
  | 0, m, h1, h2 => by omega
  | j + 1, m, h1, h2 => by
    show W Q K (b9_2 G k (l9_2g G k Ko Kr j) Ko Kr m v vs ra ef co cd v' vs' ra' ef' co' cd')
    unfold b9_2
    refine W_dec (fun h => ?_) (fun h => hKo)
    obtain ⟨w, hw⟩ : ∃ w, ef'[m]? = some w := ⟨_, List.getElem?_eq_getElem (by omega)⟩
    obtain ⟨kd, a, s, n, rfl, _⟩ := hr w (List.mem_of_getElem? hw)
    have next : W Q K (l9_2g G k Ko Kr j ((m + 1 : Nat) : Int) v vs ra ef co cd v' vs' ra' ef' co' cd') := fu2_loop hp hr hl hKo j (m + 1) (by omega) (by omega)
    obtain ⟨x, rfl⟩ := hp
    refine W_at (by omega) (by rw [Int.toNat_natCast]; exact hw) (W_asAgg ?_)
    refine W_at (by omega) (by rw [Int.toNat_natCast]; exact pre_get hw) (W_asAgg ?_)
    (repeat(with_reducible apply U1))
    refine W_and ?_
    (repeat(with_reducible apply U1))
    refine W_and ?_
    (repeat(with_reducible apply U1))
    refine W_and ?_
    (repeat(with_reducible apply U1))
    refine W_chk' (by simp) ?_
    rw [wrap_id (n := (m : Int) + 1) (by omega)]
    exact next
def FuelOK (G : ORC R) : Prop := ∀ (v : List V) (x y g cut : Int) (K : List V → Option R), IntsS v → I64 x → I64 y → I64 g → 0 ≤ cut ∧ cut < 65536 → W (fun o => o = [.bool true]) K (G 9 [.sl 1 v, .int .i64 x, .int .i64 y, .int .i64 g, .int .u16 cut] K)
theorem clip_id {n : Int} (h0 : 0 ≤ n) (h1 : n ≤ 1048576) : clip n = n := by unfold clip; split <;> split <;> omega
theorem fuel_law (hk : 1048578 ≤ k) (hKn : KnX G) (hM : MadeX G) (hL : LifeX G) (hE : RunX 31 G) (hV : VarsX G) : FuelOK (fun _ args (K : List V → Option R) => g9 G k args K) := by
  intro v x y g cut K hv hx hy hg hcut
  show W _ K (f9 G k v x y g cut K)
  unfold f9
  unfold MadeX at hM; unfold LifeX at hL; unfold RunX at hE; unfold VarsX at hV
  refine W_dec (fun _ => knx_go hKn) (fun h => ?_)
  refine W_call (hM v true _ hv (by omega)) ?_
  rintro _ ⟨c, rfl, hc⟩
  have hlen := made_len hc
  (repeat(with_reducible apply U1))
  refine W_call (hL _ _ _ _) ?_
  rintro _ rfl
  unfold lifeV at hE ⊢
  (repeat(with_reducible apply U1))
  obtain ⟨d, hd⟩ := made_run (bz := false) (clip 100000) hc hg hx hy
  obtain ⟨a1, a2, a3, a4, a5, a6, a7⟩ := run_fit hd
  have hcd := clip_id a7 a6
  obtain ⟨d0, hd0⟩ := made_run (bz := false) (clip d.co) hc hg hx hy
  refine W_call (hE false g c x y 100000 d _ hd (by omega) hg) ?_
  rintro _ rfl
  unfold Dn.l at hE ⊢
  (repeat(with_reducible apply U1))
  by_cases h4 : d.cd = 4
  · refine W_call (hE false g c x y d.co d0 _ hd0 (by omega) hg) ?_
    rintro _ rfl
    (repeat(with_reducible apply U1))
    exact W_eqY h4 (knx_go hKn)
  have hd2 : Run false g c (clip d.co) (st0 x y) 0 d := by rw [hcd]; exact run_more hd h4
  refine W_call (hE false g c x y d.co d _ hd2 (by omega) hg) ?_
  rintro _ rfl
  (repeat(with_reducible apply U1))
  refine W_eqN h4 (W_neN rfl (W_neN rfl (W_call (hV _ _ (by omega)) ?_)))
  rintro _ rfl
  (repeat(with_reducible apply U1))
  refine W_not (W_chk rfl (W_neN rfl (W_neN rfl ?_)))
  refine W_beqI (fun _ => knx_go hKn) (fun h0 => ?_)
  refine W_not (W_eqN h0 ?_)
  rw [wrap_id (n := cut) (by omega)]
  have m1 := tmod_lt (v := cut) (n := d.co) (by omega)
  have m2 := Int.tmod_nonneg d.co hcut.1
  obtain ⟨d', e1, e2, e3, e4, e5, e6⟩ := run_cut hd (F' := Int.tmod cut d.co) m2 m1.2
  have hcm : clip (Int.tmod cut d.co) = Int.tmod cut d.co := clip_id m2 (by omega)
  rw [← hcm] at e1
  obtain ⟨b1, b2, b3, b4, b5, b6, b7⟩ := run_fit e1
  refine W_call (hE false g c x y (Int.tmod cut d.co) d' _ e1 (by omega) hg) ?_
  rintro _ rfl
  (repeat(with_reducible apply U1))
  have l5 : d'.ra.length ≤ d.ra.length := by obtain ⟨z, hz⟩ := e5; rw [hz]; simp
  have l6 : d'.ef.length ≤ d.ef.length := by obtain ⟨z, hz⟩ := e6; rw [hz]; simp
  refine W_neN e2 (W_neN e3 (W_neN e4 (W_no (by omega) (W_no (by omega) ?_))))
  unfold l9_0
  refine fu0_loop e5 b1 b4 ?_ k 0 (by omega) (by omega)
  unfold l9_2
  exact fu2_loop (Q := fun o => o = [.bool true]) (K := K) (G := G) (k := k) (Kr := fun x => K [.bool x]) (Ko := fun _ => G 26 [] fun o => uB o fun b r => unNil r (K [.bool b])) e6 b2 b5 (knx_go hKn) k 0 (by omega) (by omega)
end
def fuB (k : Nat) (G : ORC (List V)) : ORC (List V) := fun f args K => match f with
    | 9 => g9 G k args K
    | 16 => g16 G k args K
    | 19 => g19 G k args K
    | 23 => g23 G k args K
    | 25 => g25 G k args K
    | 26 => g26 G k args K
    | 27 => g27 G k args K
    | 28 => g28 G k args K
    | 29 => g29 G k args K
    | 31 => g31 G k args K
    | 33 => g33 G k args K
    | 35 => g35 G k args K
    | 36 => g36 G k args K
    | 37 => g37 G k args K
    | 38 => g38 G k args K
    | 40 => g40 G k args K
    | 42 => g42 G k args K
    | 43 => g43 G k args K
    | 44 => g44 G k args K
    | 46 => g46 G k args K
    | 50 => g50 G k args K
    | 54 => g54 G k args K
    | 61 => g61 G k args K
    | 62 => g62 G k args K
    | 63 => g63 G k args K
    | 64 => g64 G k args K
    | 65 => g65 G k args K
    | 66 => g66 G k args K
    | 67 => g67 G k args K
    | 68 => g68 G k args K
    | 69 => g69 G k args K
    | 70 => g70 G k args K
    | 71 => g71 G k args K
    | 72 => g72 G k args K
    | 73 => g73 G k args K
    | 74 => g74 G k args K
    | 75 => g75 G k args K
    | 82 => g82 G k args K
    | 83 => g83 G k args K
    | 86 => g86 G k args K
    | 89 => g89 G k args K
    | 90 => g90 G k args K
    | 91 => g91 G k args K
    | 92 => g92 G k args K
    | 93 => g93 G k args K
    | 94 => g94 G k args K
    | 95 => g95 G k args K
    | _ => none
def fu (k : Nat) : Nat → ORC (List V)
  | 0 => fun _ _ _ => none
  | j + 1 => fun f args K => (fuB k (fu k j) f args some).bind K
theorem fu_sound (k : Nat) : ∀ j, Sound Try.prog TAB (fu k j)
  | 0 => fun f args K r h => by cases h
  | j + 1 => fun f args K r h => by
    have ih := fu_sound k j
    have h : (fuB k (fu k j) f args some).bind K = some r := h
    cases hb : fuB k (fu k j) f args some with
    | none => rw [hb] at h; cases h
    | some o =>
    rw [hb] at h
    have key : ∃ o', CallOK Try.prog TAB.env f args o' ∧ some o' = some o := by
      unfold fuB at hb
      split at hb
      · exact s9 ih args some o hb
      · exact s16 ih args some o hb
      · exact s19 ih args some o hb
      · exact s23 ih args some o hb
      · exact s25 ih args some o hb
      · exact s26 ih args some o hb
      · exact s27 ih args some o hb
      · exact s28 ih args some o hb
      · exact s29 ih args some o hb
      · exact s31 ih args some o hb
      · exact s33 ih args some o hb
      · exact s35 ih args some o hb
      · exact s36 ih args some o hb
      · exact s37 ih args some o hb
      · exact s38 ih args some o hb
      · exact s40 ih args some o hb
      · exact s42 ih args some o hb
      · exact s43 ih args some o hb
      · exact s44 ih args some o hb
      · exact s46 ih args some o hb
      · exact s50 ih args some o hb
      · exact s54 ih args some o hb
      · exact s61 ih args some o hb
      · exact s62 ih args some o hb
      · exact s63 ih args some o hb
      · exact s64 ih args some o hb
      · exact s65 ih args some o hb
      · exact s66 ih args some o hb
      · exact s67 ih args some o hb
      · exact s68 ih args some o hb
      · exact s69 ih args some o hb
      · exact s70 ih args some o hb
      · exact s71 ih args some o hb
      · exact s72 ih args some o hb
      · exact s73 ih args some o hb
      · exact s74 ih args some o hb
      · exact s75 ih args some o hb
      · exact s82 ih args some o hb
      · exact s83 ih args some o hb
      · exact s86 ih args some o hb
      · exact s89 ih args some o hb
      · exact s90 ih args some o hb
      · exact s91 ih args some o hb
      · exact s92 ih args some o hb
      · exact s93 ih args some o hb
      · exact s94 ih args some o hb
      · exact s95 ih args some o hb
      · cases hb
    obtain ⟨o', h1, h2⟩ := key
    cases h2
    exact ⟨o, h1, h⟩
theorem fu_U {k j : Nat} {f : FuncId} {args : List V} {Q : List V → Prop} (h : W Q some (fuB k (fu k j) f args some)) : ∃ o, Q o ∧ ∀ K, fu k (j + 1) f args K = K o := by
  obtain ⟨o, q, e⟩ := h
  exact ⟨o, q, fun K => by show (fuB k (fu k j) f args some).bind K = _; rw [e]; rfl⟩
theorem fu_W {k j : Nat} {f : FuncId} {args : List V} {Q : List V → Prop} {K : List V → Option (List V)} (h : W Q some (fuB k (fu k j) f args some)) : W Q K (fu k (j + 1) f args K) := by
  obtain ⟨o, q, e⟩ := fu_U h
  exact ⟨o, q, e K⟩
set_option maxHeartbeats 8000000
section
def Ev (P : ORC (List V) → Prop) : Prop := ∃ N, ∀ j, N ≤ j → P (fu 1100000 j)
theorem ev0 {P : ORC (List V) → Prop} (h : ∀ j, P (fu 1100000 (j + 1))) : Ev P := ⟨1, fun j hj => by obtain ⟨j', rfl⟩ : ∃ j', j = j' + 1 := ⟨j - 1, by omega⟩; exact h j'⟩
theorem evS {A P : ORC (List V) → Prop} (hA : Ev A) (h : ∀ j, A (fu 1100000 j) → P (fu 1100000 (j + 1))) : Ev P := by
  obtain ⟨N, hN⟩ := hA
  refine ⟨N + 1, fun j hj => ?_⟩
  obtain ⟨j', rfl⟩ : ∃ j', j = j' + 1 := ⟨j - 1, by omega⟩
  exact h j' (hN j' (by omega))
theorem evA {A B : ORC (List V) → Prop} (hA : Ev A) (hB : Ev B) : Ev fun G => A G ∧ B G := by
  obtain ⟨N, hN⟩ := hA
  obtain ⟨M, hM⟩ := hB
  exact ⟨N + M, fun j hj => ⟨hN j (by omega), hM j (by omega)⟩⟩
theorem evT {P : ORC (List V) → Prop} (h : ∀ G, P G) : Ev P := ⟨0, fun j _ => h _⟩
theorem evPlace : Ev PlaceS := ev0 fun j => by have e := place_ok (G := fu 1100000 j) (k := 1100000); unfold PlaceS at e ⊢; (intros; refine fu_W ?_; apply e <;> assumption)
theorem evNext : Ev NextS := evS evPlace fun j h => by have e := next_ok (G := fu 1100000 j) (k := 1100000) h; unfold NextS at e ⊢; (intros; refine fu_W ?_; apply e <;> assumption)
theorem evPick : Ev PickS := evS evNext fun j h => by have e := pick_ok (G := fu 1100000 j) (k := 1100000) h; unfold PickS at e ⊢; (intros; refine fu_W ?_; apply e <;> assumption)
end
theorem evFind : Ev FindOK := ev0 fun j => by have e := find_ok (G := fu 1100000 j) (k := 1100000) (by omega); unfold FindOK at e ⊢; (intros; refine fu_W ?_; apply e <;> assumption)
theorem evPlX : Ev (PlX 61) := ev0 fun j => by have e := plx_ok (G := fu 1100000 j) (k := 1100000) (by omega); unfold PlX at e ⊢; (intros; refine fu_W ?_; apply e <;> assumption)
theorem evOpX : Ev (OpX 63) := ev0 fun j => by have e := opx_ok (G := fu 1100000 j) (k := 1100000); unfold OpX at e ⊢; (intros; refine fu_W ?_; apply e <;> assumption)
theorem evRX : ∀ d, Ev (RX d)
  | 0 => evT fun G c e N K h => h.elim
  | d + 1 => evS (evA (evA evPlX evFind) (evA (evA evOpX (evRX d)) (evA (P1 d) (P2 d)))) fun j h => by have e := rexprx_ok (G := fu 1100000 j) (k := 1100000) h.1.1 h.1.2 h.2.1.1 h.2.1.2 h.2.2.1 h.2.2.2; unfold RX at e ⊢; (intros; refine fu_W ?_; apply e <;> assumption)
where
  P1 (d : Nat) : Ev (RBX 64 andX 1 d) := evS (evRX d) fun j h => by have e := randx_ok (G := fu 1100000 j) (k := 1100000) h; unfold RBX at e ⊢; (intros; refine fu_W ?_; apply e <;> assumption)
  P2 (d : Nat) : Ev (RBX 65 orX 3 d) := evS (evRX d) fun j h => by have e := rorx_ok (G := fu 1100000 j) (k := 1100000) h; unfold RBX at e ⊢; (intros; refine fu_W ?_; apply e <;> assumption)
theorem evRArg : Ev RArg := evS (evRX 3) fun j h => by have e := rarg_ok (G := fu 1100000 j) (k := 1100000) h; unfold RArg at e ⊢; (intros; refine fu_W ?_; apply e <;> assumption)
theorem evRAct : ∀ d, Ev (RAct d)
  | 0 => evT fun G c a N K h => h.elim
  | d + 1 => evS (evA (evA evPlX (evRX 3)) (evA evRArg (evS (P := RBlk d) (evRAct d) fun j h => by have e := rblk_ok (G := fu 1100000 j) (k := 1100000) (by omega) h; unfold RBlk at e ⊢; (intros; refine fu_W ?_; apply e <;> assumption)))) fun j h => by have e := ract_ok (G := fu 1100000 j) (k := 1100000) h.1.1 h.1.2 h.2.1 h.2.2; unfold RAct at e ⊢; (intros; refine fu_W ?_; apply e <;> assumption)
theorem evRBlk {d : Nat} : Ev (RBlk d) := evS (evRAct d) fun j h => by have e := rblk_ok (G := fu 1100000 j) (k := 1100000) (by omega) h; unfold RBlk at e ⊢; (intros; refine fu_W ?_; apply e <;> assumption)
theorem evRBl {d : Nat} (hd : 2 * ca d ≤ 1000000) : Ev (BlX 19 d) := evS evRBlk fun j h => by have e := rblx_ok (G := fu 1100000 j) (k := 1100000) hd h; unfold BlX at e ⊢; (intros; refine fu_W ?_; apply e <;> assumption)
theorem evEventR : Ev EventS := evS evPlace fun j h => by have e := event_ok (G := fu 1100000 j) (k := 1100000) h; unfold EventS at e ⊢; (intros; refine fu_W ?_; apply e <;> assumption)
theorem evExprM : ∀ d, d ≤ 20 → Ev (ExprOKM d)
  | 0, _ => evS (evA evNext evPick) fun j h => by have e := exprM_ok (G := fu 1100000 j) (k := 1100000) (d := 0) (by omega) h.1 h.2 (fun d' e => by omega); unfold ExprOKM at e ⊢; (intros; refine fu_W ?_; apply e <;> assumption)
  | d + 1, hd => evS (evA (evA evNext evPick) (evExprM d (by omega))) fun j h => by have e := exprM_ok (G := fu 1100000 j) (k := 1100000) (d := d + 1) hd h.1.1 h.1.2 (fun d' e => by cases e; exact h.2); unfold ExprOKM at e ⊢; (intros; refine fu_W ?_; apply e <;> assumption)
theorem evBlockM : ∀ d, d ≤ 3 → Ev (BlockOKM d)
  | 0, _ => evS (evA (evA evNext evPick) (evA evEventR (evExprM 2 (by omega)))) fun j h => by have e := blockM_ok (G := fu 1100000 j) (k := 1100000) (d := 0) (by omega) (by omega) h.1.1 h.1.2 h.2.1 h.2.2 (fun d' e => by omega); unfold BlockOKM at e ⊢; (intros; refine fu_W ?_; apply e <;> assumption)
  | d + 1, hd => evS (evA (evA (evA evNext evPick) (evA evEventR (evExprM 2 (by omega)))) (evBlockM d (by omega))) fun j h => by have e := blockM_ok (G := fu 1100000 j) (k := 1100000) (d := d + 1) (by omega) hd h.1.1.1 h.1.1.2 h.1.2.1 h.1.2.2 (fun d' e => by cases e; exact h.2); unfold BlockOKM at e ⊢; (intros; refine fu_W ?_; apply e <;> assumption)
theorem evNAdd : Ev (TwoX 95 fun a b => over (a + b)) := ev0 fun j => by have e := nadd_ok (G := fu 1100000 j) (k := 1100000); unfold TwoX at e ⊢; (intros; refine fu_W ?_; apply e <;> assumption)
theorem evNSub : Ev (TwoX 90 fun a b => over (a - b)) := ev0 fun j => by have e := nsub_ok (G := fu 1100000 j) (k := 1100000); unfold TwoX at e ⊢; (intros; refine fu_W ?_; apply e <;> assumption)
theorem evNMul : Ev (TwoX 92 fun a b => over (a * b)) := ev0 fun j => by have e := nmul_ok (G := fu 1100000 j) (k := 1100000); unfold TwoX at e ⊢; (intros; refine fu_W ?_; apply e <;> assumption)
theorem evNMod : Ev (TwoX 94 modR) := ev0 fun j => by have e := nmod_ok (G := fu 1100000 j) (k := 1100000); unfold TwoX at e ⊢; (intros; refine fu_W ?_; apply e <;> assumption)
theorem evNNeg : Ev (OneX 71) := evS evNSub fun j h => by have e := nneg_ok (G := fu 1100000 j) (k := 1100000) h; unfold OneX at e ⊢; (intros; refine fu_W ?_; apply e <;> assumption)
theorem evNDiv : Ev (TwoX 93 divR) := evS evNNeg fun j h => by have e := ndiv_ok (G := fu 1100000 j) (k := 1100000) h; unfold TwoX at e ⊢; (intros; refine fu_W ?_; apply e <;> assumption)
theorem evNTr : Ev (TrX 68) := ev0 fun j => by have e := ntr_ok (G := fu 1100000 j) (k := 1100000); unfold TrX at e ⊢; (intros; refine fu_W ?_; apply e <;> assumption)
theorem evInX : Ev InX := ev0 fun j => by have e := inx_ok (G := fu 1100000 j) (k := 1100000); unfold InX at e ⊢; (intros; refine fu_W ?_; apply e <;> assumption)
theorem evWiX : Ev WiX := evS evInX fun j h => by have e := wix_ok (G := fu 1100000 j) (k := 1100000) h; unfold WiX at e ⊢; (intros; refine fu_W ?_; apply e <;> assumption)
theorem evHasX : Ev HasX := evS (evA evWiX evInX) fun j h => by have e := hasx_ok (G := fu 1100000 j) (k := 1100000) h.1 h.2; unfold HasX at e ⊢; (intros; refine fu_W ?_; apply e <;> assumption)
theorem evOfX : Ev OfX := evS evWiX fun j h => by have e := ofx_ok (G := fu 1100000 j) (k := 1100000) (by omega) h; unfold OfX at e ⊢; (intros; refine fu_W ?_; apply e <;> assumption)
theorem evSureX : Ev SureX := ev0 fun j => by have e := sure_ok (G := fu 1100000 j) (k := 1100000); unfold SureX at e ⊢; (intros; refine fu_W ?_; apply e <;> assumption)
theorem evPairX : Ev PairX := evS (evA (evA (evA evNMul evNDiv) (evA evNMod evNAdd)) (evA (evA evNSub evSureX) evNTr)) fun j h => by
  have e := pair_ok (G := fu 1100000 j) (k := 1100000) h.1.1.1 h.1.1.2 h.1.2.1 h.1.2.2 h.2.1.1 h.2.1.2 h.2.2; unfold PairX at e ⊢; (intros; refine fu_W ?_; apply e <;> assumption)
theorem evTakeX : Ev TakeX := ev0 fun j => by have e := take_ok (G := fu 1100000 j) (k := 1100000); unfold TakeX at e ⊢; (intros; refine fu_W ?_; apply e <;> assumption)
theorem evMPutX : Ev MPutX := ev0 fun j => by have e := put_ok (G := fu 1100000 j) (k := 1100000); unfold MPutX at e ⊢; (intros; refine fu_W ?_; apply e <;> assumption)
theorem evEffX : Ev EffX := ev0 fun j => by have e := eff_ok (G := fu 1100000 j) (k := 1100000); unfold EffX at e ⊢; (intros; refine fu_W ?_; apply e <;> assumption)
theorem evTellX : Ev TellX := evS (evA evTakeX evEffX) fun j h => by have e := tell_ok (G := fu 1100000 j) (k := 1100000) h.1 h.2; unfold TellX at e ⊢; (intros; refine fu_W ?_; apply e <;> assumption)
theorem evMoveX : Ev MoveX := evS evTakeX fun j h => by have e := move_ok (G := fu 1100000 j) (k := 1100000) h; unfold MoveX at e ⊢; (intros; refine fu_W ?_; apply e <;> assumption)
theorem evStepX : Ev StepX := evS (evA (evA (evA evTakeX evMPutX) (evA evTellX evMoveX)) (evA (evA evHasX evNTr) (evA evNNeg (evA evSureX evPairX)))) fun j h => by
  have e := step_ok (G := fu 1100000 j) (k := 1100000) h.1.1.1 h.1.1.2 h.1.2.1 h.1.2.2 h.2.1.1 h.2.1.2 h.2.2.1 h.2.2.2.1 h.2.2.2.2; unfold StepX at e ⊢; (intros; refine fu_W ?_; apply e <;> assumption)
theorem evCloneX : Ev CloneX := ev0 fun j => by have e := clone_ok (G := fu 1100000 j) (k := 1100000); unfold CloneX at e ⊢; (intros; refine fu_W ?_; apply e <;> assumption)
theorem evERun : Ev (RunX 31) := evS (evA (evA evCloneX evOfX) evStepX) fun j h => by have e := erunx_ok (G := fu 1100000 j) (k := 1100000) (by omega) h.1.1 h.1.2 h.2; unfold RunX at e ⊢; (intros; refine fu_W ?_; apply e <;> assumption)
theorem evLifeX : Ev LifeX := ev0 fun j => by have e := life_ok (G := fu 1100000 j) (k := 1100000); unfold LifeX at e ⊢; (intros; refine fu_W ?_; apply e <;> assumption)
theorem evNd0 : Ev Nd0X := by
  refine ⟨16, fun j hj => ?_⟩
  obtain ⟨j', rfl⟩ : ∃ j', j = j' + 16 := ⟨j - 16, by omega⟩
  intro K
  show _ = _
  kernel_rfl
theorem evKnX : Ev KnX := by
  refine ⟨16, fun j hj => ?_⟩
  obtain ⟨j', rfl⟩ : ∃ j', j = j' + 16 := ⟨j - 16, by omega⟩
  intro K
  show _ = _
  kernel_rfl
theorem evRGdM : Ev (GdX 25 6) := evS (evRX 6) fun j h => by have e := rgdx_ok (G := fu 1100000 j) (k := 1100000) (by decide) h; unfold GdX at e ⊢; (intros; refine fu_W ?_; apply e <;> assumption)
theorem evMadeX : Ev MadeX := evS (evA (evA evNd0 (evA (evBlockM 3 (by omega)) (evExprM 5 (by omega)))) (evA (evRBl (d := 4) (by decide)) evRGdM)) fun j h => by
  have e := made_ok (G := fu 1100000 j) (k := 1100000) h.1.1 h.1.2.1 h.1.2.2 h.2.1 h.2.2; unfold MadeX at e ⊢; (intros; refine fu_W ?_; apply e <;> assumption)
theorem evVarsX : Ev VarsX := ev0 fun j => by have e := vars_ok (G := fu 1100000 j) (k := 1100000) (by omega); unfold VarsX at e ⊢; (intros; refine fu_W ?_; apply e <;> assumption)
theorem evFuelLaw : Ev FuelOK := evS (evA (evA evKnX evMadeX) (evA evLifeX (evA evERun evVarsX))) fun j h => by
  have e := fuel_law (G := fu 1100000 j) (k := 1100000) (by omega) h.1.1 h.1.2 h.2.1 h.2.2.1 h.2.2.2
  unfold FuelOK at e ⊢; (intros; refine fu_W ?_; apply e <;> assumption)
end Go.Proofs.Ytdfjodnkplbffaa.Vm
