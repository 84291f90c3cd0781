/- Functions of the program, told by the machine of values, and what they answer: a part. -/
import Derived.Test.YtdfjodnkplbffaaRn2
import Derived.Test.YtdfjodnkplbffaaRnV4
import Derived.Test.YtdfjodnkplbffaaRn1
open Go Go.VM
set_option linter.unusedVariables false
set_option maxRecDepth 100000
set_option maxHeartbeats 8000000
namespace Go.Proofs.Ytdfjodnkplbffaa.Vm
section
variable {R : Type} {G : ORC R} {k : Nat} {K : List V → Option R}
def ActM (A B : List V) : Nat → V → Prop
  | 0, _ => False
  | d + 1, v => ∃ kind nm ev x n th el, v = .agg [.int .i64 kind, .str nm, .str ev, .sl 5 x, .int .i64 n, .sl 8 th, .sl 8 el, .int .i64 0] ∧ ActN kind n ∧ StrS nm ∧ StrS ev ∧ 1 ≤ kind ∧ kind ≤ 7 ∧ x.length ≤ 1 ∧ (∀ e ∈ x, ExprM A 3 e) ∧ (kind = 6 → x.length = 1) ∧
      th.length ≤ 2 ∧ el.length ≤ 2 ∧ (∀ a ∈ th, ActM A B d a) ∧ (∀ a ∈ el, ActM A B d a) ∧ (kind = 1 → .str nm ∈ A) ∧ (kind = 3 → .str nm ∈ B)
theorem ActM.s {A B : List V} : ∀ {d : Nat} {v : V}, ActM A B d v → ActS d v
  | 0, _, h => h.elim
  | d + 1, v, ⟨kind, nm, ev, x, n, th, el, h1, h2, h3, h4, h5, h6, h7, h8, h9, h10, h11, h12, h13, _, _⟩ =>
    ⟨kind, nm, ev, x, n, th, el, h1, h2, h3, h4, h5, h6, h7, fun e he => (h8 e he).s, h9, h10, h11, fun a ha => (h12 a ha).s, fun a ha => (h13 a ha).s⟩
def BlockM (A B : List V) (d : Nat) (l : List V) : Prop := l.length ≤ 2 ∧ ∀ a ∈ l, ActM A B d a
theorem BlockM.s {A B : List V} {d : Nat} {l : List V} (h : BlockM A B d l) : BlockS d l := ⟨h.1, fun a ha => (h.2 a ha).s⟩
def BlockOKM (d : Nat) (G : ORC R) : Prop := ∀ (a b c s L : List V) (n i : Int) (K : List V → Option R), n = (d : Int) → a ≠ [] → b ≠ [] → StrsS 100 a → StrsS 100 b → StrsS 100 c → StrsS 100 s → RowS L i →
  W (fun o => ∃ q j, o = [.sl 8 q, .int .i64 j] ∧ BlockM a b (d + 1) q ∧ RowS L j) K (G 16 [.agg [.sl 1 a, .sl 1 b, .sl 1 c, .sl 1 s], .int .i64 n, .sl 1 L, .int .i64 i] K)
theorem actM_mk {A B : List V} {d : Nat} {kind n : Int} {nm ev : ByteArray} {x th el : List V} (h1 : ActN kind n) (h2 : StrS nm) (h3 : StrS ev) (h4 : 1 ≤ kind ∧ kind ≤ 7) (h5 : x.length ≤ 1) (h6 : ∀ e ∈ x, ExprM A 3 e) (h7 : kind = 6 → x.length = 1) (h8 : BlockM A B d th) (h9 : BlockM A B d el) (h10 : kind = 1 → .str nm ∈ A) (h11 : kind = 3 → .str nm ∈ B) :
    ActM A B (d + 1) (.agg [.int .i64 kind, .str nm, .str ev, .sl 5 x, .int .i64 n, .sl 8 th, .sl 8 el, .int .i64 0]) := ⟨kind, nm, ev, x, n, th, el, rfl, h1, h2, h3, h4.1, h4.2, h5, h6, h7, h8.1, h9.1, h8.2, h9.2, h10, h11⟩
theorem blockM0 {A B : List V} {d : Nat} : BlockM A B d [] := ⟨by simp, by simp⟩
theorem takeM_one {A : List V} {e : V} {n : Nat} (h : ExprM A 3 e) : (List.take n [e]).length ≤ 1 ∧ ∀ v ∈ List.take n [e], ExprM A 3 v :=
  ⟨by simp [List.length_take]; omega, fun v hv => oneM_mem h v (List.mem_of_mem_take hv)⟩
theorem numM_of {A : List V} {n : Int} (h : I64 n) : ∀ e ∈ [V.agg [.int .i64 1, .int .i64 n, .str ⟨#[]⟩, .sl 5 [], .int .i64 0]], ExprM A 3 e := oneM_mem (exprM_mk (d := 2) h strs0 ⟨by omega, by omega⟩ (by simp) (by simp) (by omega) (by intro h; omega))
theorem blockM_round {d : Nat} (hd : d ≤ 3) (hN : NextS G) (hPk : PickS G) (hEv : EventS G) (hE : ExprOKM 2 G) (hB : ∀ d', d = d' + 1 → BlockOKM d' G) {Q : List V → Prop} {K : List V → Option R} {a b c s L acc : List V} {n i dd : Int}
    (X : Int → List V → Int → List V → Int → List V → List V → List V → List V → Option R) (Ko : List V → List V → Int → Option R)
    (hdd : dd = (d : Int)) (ha0 : a ≠ []) (hb0 : b ≠ []) (ha : StrsS 100 a) (hb : StrsS 100 b) (hc : StrsS 100 c) (hs : StrsS 100 s) (hr : RowS L i) (hn : n > 0) (hacc : acc.length ≤ 2)
    (hX1 : ∀ v j, ActM a b (d + 1) v → RowS L j → W Q K (X dd (acc ++ [v]) (IntKind.i64.wrap (n - 1)) L j a b c s))
    (hX0 : ∀ j, RowS L j → W Q K (X dd acc (IntKind.i64.wrap (n - 1)) L j a b c s)) :
    W Q K (b16_0 G k X Ko dd acc n L i a b c s) := by
  unfold b16_0
  unfold NextS at hN; unfold PickS at hPk; unfold EventS at hEv; unfold ExprOKM at hE; unfold BlockOKM at hB
  have la := ha.1
  have lb := hb.1
  have lc := hc.1
  refine W_yes hn ?_
  refine W_call (hN _ _ _ _ (by omega) (by omega) hr) ?_
  rintro _ ⟨x, i1, rfl, x1, x2, hr1⟩
  refine W_uI (W_uI (W_unNil ?_))
  refine W_call (hE _ _ _ _ _ _ _ _ (by rfl) ha0 ha hs hr1) ?_
  rintro _ ⟨e, i2, rfl, he, hr2⟩
  have he2 := he
  obtain ⟨_, _, _, _, rfl, _⟩ := he
  repeat (with_reducible (first | (refine W_uI ?_) | (refine W_uS ?_) | (refine W_uL ?_) | (refine W_uA ?_) | (refine W_uB ?_) | (refine W_aI ?_) | (refine W_aL ?_) | (refine W_ca3 ?_) | (refine W_ce3 ?_) | (refine W_ca4 ?_) | (refine W_ce4 ?_) | (refine W_ca5 ?_) | (refine W_ce5 ?_) | (refine W_ca6 ?_) | (refine W_ce6 ?_) | (refine W_ca7 ?_) | (refine W_ce7 ?_) | (refine W_ca8 ?_) | (refine W_ce8 ?_) | (refine W_unCons ?_) | (refine W_unNil ?_) | (refine W_asInt ?_) | (refine W_asStr ?_) | (refine W_asSl ?_) | (refine W_asAgg ?_) | (refine W_kd ?_) | (refine W_z ?_)))
  have ht := takeM_one (n := 0) he2
  by_cases hd0 : d = 0
  · have hdd0 : ¬ dd > 0 := by omega
    clear hB
    repeat' (first
      | with_reducible (first | (refine W_uI ?_) | (refine W_uS ?_) | (refine W_uL ?_) | (refine W_uA ?_) | (refine W_uB ?_) | (refine W_aI ?_) | (refine W_aL ?_) | (refine W_ca3 ?_) | (refine W_ce3 ?_) | (refine W_ca4 ?_) | (refine W_ce4 ?_) | (refine W_ca5 ?_) | (refine W_ce5 ?_) | (refine W_ca6 ?_) | (refine W_ce6 ?_) | (refine W_ca7 ?_) | (refine W_ce7 ?_) | (refine W_ca8 ?_) | (refine W_ce8 ?_) | (refine W_unCons ?_) | (refine W_unNil ?_) | (refine W_asInt ?_) | (refine W_asStr ?_) | (refine W_asSl ?_) | (refine W_asAgg ?_) | (refine W_kd ?_) | (refine W_z ?_))
      | ((with_reducible (refine W_call (hN _ _ _ _ ?_ ?_ (by assumption)) ?_)); omega; omega; rintro _ ⟨_, _, rfl, _, _, _⟩)
      | ((with_reducible (refine W_call (hPk _ _ _ _ 100 _ (by assumption) ?_ strs0 (by assumption)) ?_)); omega; rintro _ ⟨_, _, rfl, _, _, _⟩)
      | ((with_reducible (refine W_call (hEv _ _) ?_)); rintro _ ⟨_, rfl, _⟩)
      | (with_reducible (refine W_and ?_)) | ((with_reducible (refine W_no hdd0 ?_))) | ((with_reducible (refine W_yes ?_ ?_)); omega) | ((with_reducible (refine W_no ?_ ?_)); omega) | ((with_reducible (refine W_eqY ?_ ?_)); omega) | ((with_reducible (refine W_eqN ?_ ?_)); omega)
      | (with_reducible (refine W_dec (fun _ => ?_) (fun _ => ?_))) | (with_reducible (refine W_beqI (fun _ => ?_) (fun _ => ?_)))
      | (with_reducible (exact hX0 _ (by assumption)))
      | ((with_reducible (refine hX1 _ _ ?_ (by assumption)));
         exact actM_mk (by first | exact ⟨i64_0, by omega⟩ | (rw [wrap_id (by omega)]; unfold ActN I64; omega)) (by first | assumption | exact strs0) (by first | assumption | exact strs0) ⟨by omega, by omega⟩
           (by first | exact Nat.le_refl 1 | exact Nat.zero_le 1 | exact (takeM_one he2).1) (by first | exact oneM_mem he2 | exact (takeM_one he2).2 | exact numM_of (by rw [wrap_id (by omega)]; unfold I64; omega) | simp) (by first | omega | exact fun _ => rfl) blockM0 blockM0 (by first | (intro; omega) | exact fun _ => Or.resolve_left (by assumption) ha0 | (intro h; rw [wrap_id (by omega)] at h; omega)) (by first | (intro; omega) | exact fun _ => Or.resolve_left (by assumption) hb0 | (intro h; rw [wrap_id (by omega)] at h; omega))))
  · obtain ⟨d', rfl⟩ : ∃ d', d = d' + 1 := ⟨d - 1, by omega⟩
    have hdd0 : dd > 0 := by omega
    have hB := hB d' rfl
    have hBn : IntKind.i64.wrap (dd - 1) = (d' : Int) := by rw [wrap_id (by omega)]; omega
    repeat' (first
      | with_reducible (first | (refine W_uI ?_) | (refine W_uS ?_) | (refine W_uL ?_) | (refine W_uA ?_) | (refine W_uB ?_) | (refine W_aI ?_) | (refine W_aL ?_) | (refine W_ca3 ?_) | (refine W_ce3 ?_) | (refine W_ca4 ?_) | (refine W_ce4 ?_) | (refine W_ca5 ?_) | (refine W_ce5 ?_) | (refine W_ca6 ?_) | (refine W_ce6 ?_) | (refine W_ca7 ?_) | (refine W_ce7 ?_) | (refine W_ca8 ?_) | (refine W_ce8 ?_) | (refine W_unCons ?_) | (refine W_unNil ?_) | (refine W_asInt ?_) | (refine W_asStr ?_) | (refine W_asSl ?_) | (refine W_asAgg ?_) | (refine W_kd ?_) | (refine W_z ?_))
      | ((with_reducible (refine W_call (hN _ _ _ _ ?_ ?_ (by assumption)) ?_)); omega; omega; rintro _ ⟨_, _, rfl, _, _, _⟩)
      | ((with_reducible (refine W_call (hPk _ _ _ _ 100 _ (by assumption) ?_ strs0 (by assumption)) ?_)); omega; rintro _ ⟨_, _, rfl, _, _, _⟩)
      | ((with_reducible (refine W_call (hEv _ _) ?_)); rintro _ ⟨_, rfl, _⟩)
      | ((with_reducible (refine W_call (hB _ _ _ _ _ _ _ _ hBn ha0 hb0 (by assumption) (by assumption) (by assumption) (by assumption) (by assumption)) ?_)); rintro _ ⟨_, _, rfl, _, _⟩)
      | (with_reducible (refine W_and ?_)) | ((with_reducible (refine W_yes hdd0 ?_))) | ((with_reducible (refine W_yes ?_ ?_)); omega) | ((with_reducible (refine W_no ?_ ?_)); omega) | ((with_reducible (refine W_eqY ?_ ?_)); omega) | ((with_reducible (refine W_eqN ?_ ?_)); omega)
      | (with_reducible (refine W_dec (fun _ => ?_) (fun _ => ?_))) | (with_reducible (refine W_beqI (fun _ => ?_) (fun _ => ?_)))
      | (with_reducible (exact hX0 _ (by assumption)))
      | ((with_reducible (refine hX1 _ _ ?_ (by assumption)));
         exact actM_mk (by first | exact ⟨i64_0, by omega⟩ | (rw [wrap_id (by omega)]; unfold ActN I64; omega)) (by first | assumption | exact strs0) (by first | assumption | exact strs0) ⟨by omega, by omega⟩
           (by first | exact Nat.le_refl 1 | exact Nat.zero_le 1 | exact (takeM_one he2).1) (by first | exact oneM_mem he2 | exact (takeM_one he2).2 | exact numM_of (by rw [wrap_id (by omega)]; unfold I64; omega) | simp) (by first | omega | exact fun _ => rfl) (by first | assumption | exact blockM0) (by first | assumption | exact blockM0) (by first | (intro; omega) | exact fun _ => Or.resolve_left (by assumption) ha0 | (intro h; rw [wrap_id (by omega)] at h; omega)) (by first | (intro; omega) | exact fun _ => Or.resolve_left (by assumption) hb0 | (intro h; rw [wrap_id (by omega)] at h; omega))))
theorem blockM_loop {d : Nat} (hd : d ≤ 3) (hN : NextS G) (hPk : PickS G) (hEv : EventS G) (hE : ExprOKM 2 G) (hB : ∀ d', d = d' + 1 → BlockOKM d' G) {Q : List V → Prop} {K : List V → Option R} {a b c s L : List V} {dd : Int} {Ko : List V → List V → Int → Option R}
    (hdd : dd = (d : Int)) (ha0 : a ≠ []) (hb0 : b ≠ []) (ha : StrsS 100 a) (hb : StrsS 100 b) (hc : StrsS 100 c) (hs : StrsS 100 s) (hKo : ∀ q j, BlockM a b (d + 1) q → RowS L j → W Q K (Ko q L j)) :
    ∀ (j : Nat) (acc : List V) (n i : Int), n < j → (acc.length : Int) + n ≤ 2 → 0 ≤ n → (∀ v ∈ acc, ActM a b (d + 1) v) → RowS L i → W Q K (l16_0g G k Ko j dd acc n L i a b c s)
  | 0, acc, n, i, h1, h2, h3, h4, h5 => by omega
  | j + 1, acc, n, i, h1, h2, h3, h4, h5 => by
    show W Q K (b16_0 G k (l16_0g G k Ko j) Ko dd acc n L i a b c s)
    by_cases hn : n > 0
    · refine blockM_round hd hN hPk hEv hE hB _ _ hdd ha0 hb0 ha hb hc hs h5 hn (by omega) (fun v j' hv hj => ?_) (fun j' hj => ?_)
      · refine blockM_loop hd hN hPk hEv hE hB hdd ha0 hb0 ha hb hc hs hKo j _ _ j' (by rw [wrap_id (by omega)]; omega) (by rw [wrap_id (by omega)]; simp; omega) (by rw [wrap_id (by omega)]; omega) ?_ hj
        intro w hw
        rcases List.mem_append.1 hw with hw | hw
        · exact h4 w hw
        · rw [List.mem_singleton.1 hw]; exact hv
      · exact blockM_loop hd hN hPk hEv hE hB hdd ha0 hb0 ha hb hc hs hKo j _ _ j' (by rw [wrap_id (by omega)]; omega) (by rw [wrap_id (by omega)]; omega) (by rw [wrap_id (by omega)]; omega) h4 hj
    · unfold b16_0
      exact W_no hn (hKo acc i ⟨by omega, h4⟩ h5)
theorem blockM_ok {d : Nat} (hk : 1000 ≤ k) (hd : d ≤ 3) (hN : NextS G) (hPk : PickS G) (hEv : EventS G) (hE : ExprOKM 2 G) (hB : ∀ d', d = d' + 1 → BlockOKM d' G) : BlockOKM d (fun _ args (K : List V → Option R) => g16 G k args K) := by
  intro a b c s L n i K hn ha0 hb0 ha hb hc hs hr
  show W _ K (f16 G k a b c s n L i K)
  unfold f16
  refine W_call (hN _ _ _ _ (by omega) (by omega) hr) ?_
  rintro _ ⟨x, i1, rfl, x1, x2, hr1⟩
  refine W_uI (W_uI (W_unNil ?_))
  unfold l16_0
  exact blockM_loop hd hN hPk hEv hE hB hn ha0 hb0 ha hb hc hs (fun q j hq hj => W_ret ⟨_, _, rfl, hq, hj⟩) k [] x i1 (by omega) (by simp; omega) x1 (by simp) hr1
end
set_option linter.unusedSimpArgs false
set_option maxHeartbeats 16000000
section
def smI : List Int → Int
  | [] => 0
  | x :: r => x + smI r
theorem smI_app : ∀ {a b : List Int}, smI (a ++ b) = smI a + smI b
  | [], b => by simp [smI]
  | x :: a, b => by rw [List.cons_append, smI, smI, smI_app]; omega
theorem smI_mul {n : Int} : ∀ {a : List Int}, smI (a.map (n * ·)) = n * smI a
  | [] => by simp [smI]
  | x :: a => by rw [List.map_cons, smI, smI, smI_mul, Int.mul_add]
theorem smI_pos : ∀ {a : List Int}, (∀ x ∈ a, 1 ≤ x) → 0 ≤ smI a
  | [], _ => by simp [smI]
  | x :: a, h => by have := h x List.mem_cons_self; have := smI_pos fun y hy => h y (List.mem_cons_of_mem _ hy); rw [smI]; omega
theorem smI_ones : ∀ {a : List Int}, (∀ x ∈ a, 1 ≤ x ∧ x ≤ 1) → smI a = a.length
  | [], _ => rfl
  | x :: a, h => by
    have := h x List.mem_cons_self
    rw [smI, smI_ones fun y hy => h y (List.mem_cons_of_mem _ hy), List.length_cons]; omega
def isS (p : Int) : V → Bool
  | .agg (.int _ op :: .int _ a :: _) => op == 20 && a == p
  | _ => false
def wS (p : Int) : List V → List Int → Int
  | v :: c, x :: t => (if isS p v then x else 0) + wS p c t
  | _, _ => 0
theorem wS_app {p : Int} : ∀ {a b : List V} {t t' : List Int}, a.length = t.length → wS p (a ++ b) (t ++ t') = wS p a t + wS p b t'
  | [], b, [], t', _ => by simp [wS]
  | v :: a, b, x :: t, t', h => by rw [List.cons_append, List.cons_append, wS, wS, wS_app (by simpa using h)]; omega
theorem wS_mul {p n : Int} : ∀ {a : List V} {t : List Int}, wS p a (t.map (n * ·)) = n * wS p a t
  | [], t => by simp [wS]
  | v :: a, [] => by simp [wS]
  | v :: a, x :: t => by
    rw [List.map_cons, wS, wS, wS_mul, Int.mul_add]
    split <;> simp
theorem wS_pos {p : Int} : ∀ {a : List V} {t : List Int}, (∀ x ∈ t, 1 ≤ x) → 0 ≤ wS p a t
  | [], t, _ => by simp [wS]
  | v :: a, [], _ => by simp [wS]
  | v :: a, x :: t, h => by
    have h1 := h x List.mem_cons_self
    have h2 := wS_pos (p := p) (a := a) fun y hy => h y (List.mem_cons_of_mem _ hy)
    rw [wS]; split <;> omega
def isF (p : Int) : V → Bool
  | .agg (.int _ kd :: .int _ a :: _) => kd == 1 && a == p
  | _ => false
def nS (p : Int) (l : List V) : Int := (l.countP (isF p) : Nat)
theorem nS_snoc {p : Int} {l : List V} {v : V} : nS p (l ++ [v]) = nS p l + if isF p v then 1 else 0 := by
  unfold nS; rw [List.countP_append, List.countP_singleton]; split <;> simp
structure Lim where
  M : Int
  S : Int → Int
def Lim.ok (L : Lim) (st : St) (co : Int) : Prop := co ≤ L.M ∧ ∀ p, nS p st.ef ≤ L.S p
inductive Wp (b : Bool) (g : Int) (c : List V) (L : Lim) (Q : St → Int → Prop) : St → Int → Prop
  | done {st : St} {co : Int} : Q st co → Wp b g c L Q st co
  | err {st : St} {co op a n : Int} {s : ByteArray} {e : Int} {st' : St} : 0 ≤ st.pc → c[st.pc.toNat]? = some (insS op a n s) → Stp b g op a n s st e st' → e ≠ 0 → L.ok st (co + 1) → Wp b g c L Q st co
  | step {st : St} {co op a n : Int} {s : ByteArray} {st' : St} : 0 ≤ st.pc → c[st.pc.toNat]? = some (insS op a n s) → Stp b g op a n s st 0 st' → Wp b g c L Q st' (co + 1) → Wp b g c L Q st co
theorem wp_seq {b g c L Q Q'} {st : St} {co : Int} (h : Wp b g c L Q st co) : (∀ st' co', Q st' co' → Wp b g c L Q' st' co') → Wp b g c L Q' st co := by
  induction h with
  | done h => exact fun k => k _ _ h
  | err h1 h2 h3 h4 h5 => exact fun _ => .err h1 h2 h3 h4 h5
  | step h1 h2 h3 _ ih => exact fun k => .step h1 h2 h3 (ih k)
def At (c : List V) (q : Nat) (C : List V) : Prop := ∃ A D, c = A ++ (C ++ D) ∧ A.length = q
theorem at_app {c : List V} {q : Nat} {C C' : List V} (h : At c q (C ++ C')) : At c q C ∧ At c (q + C.length) C' := by
  obtain ⟨A, D, rfl, rfl⟩ := h
  exact ⟨⟨A, C' ++ D, by simp, rfl⟩, ⟨A ++ C, D, by simp, by simp⟩⟩
theorem at_cons {c : List V} {q : Nat} {v : V} {C : List V} (h : At c q (v :: C)) : c[((q : Nat) : Int).toNat]? = some v ∧ At c (q + 1) C := by
  obtain ⟨A, D, rfl, rfl⟩ := h
  exact ⟨by rw [Int.toNat_natCast]; simp, ⟨A ++ [v], D, by simp, by simp⟩⟩
def Inv (st : St) : Prop := st.vs.length = 2 ∧ ∀ x ∈ st.vs, InR x
def DoE (b : Bool) (g : Int) (c : List V) (L : Lim) (q : Nat) (C : List V) : Prop := ∀ (l r v : List Int) (ra ef : List V) (co : Int), Inv ⟨q, l, r, v, ra, ef⟩ → co + C.length ≤ L.M → (∀ p, nS p ef ≤ L.S p) →
  Wp b g c L (fun st' co' => co' ≤ co + C.length ∧ ∃ y, InR y ∧ st' = ⟨(q + C.length : Nat), l ++ [y], r, v, ra, ef⟩) ⟨q, l, r, v, ra, ef⟩ co
theorem pl_in {s : ByteArray} : ∀ {l : List V} {i : Int}, (∀ v ∈ l, ∃ t, v = .str t) → .str s ∈ l → ∃ j : Nat, j < l.length ∧ plGo s l i = i + j
  | [], _, _, h => by cases h
  | v :: r, i, hl, h => by
    obtain ⟨t, rfl⟩ := hl v List.mem_cons_self
    unfold plGo
    by_cases e : t.toList = s.toList
    · rw [if_pos e]; exact ⟨0, by simp, by simp⟩
    · rw [if_neg e]
      rcases List.mem_cons.1 h with h | h
      · injection h with h; subst h; exact absurd rfl e
      · obtain ⟨j, h1, h2⟩ := pl_in (i := i + 1) (fun v hv => hl v (List.mem_cons_of_mem _ hv)) h
        exact ⟨j + 1, by simp; omega, by rw [h2]; omega⟩
theorem i64_r {n : Int} (h : I64 n) : InR n := h
section
variable {b : Bool} {g : Int} {c : List V} {L : Lim}
theorem doE_one {q : Nat} {op a n : Int} {s : ByteArray} (hat : At c q [insS op a n s]) (h : ∀ (l r v : List Int) (ra ef : List V), Inv ⟨q, l, r, v, ra, ef⟩ → ∃ y, InR y ∧ Stp b g op a n s ⟨q, l, r, v, ra, ef⟩ 0 ⟨q + 1, l ++ [y], r, v, ra, ef⟩) : DoE b g c L q [insS op a n s] := by
  intro l r v ra ef co hi hm hs
  obtain ⟨y, hy, hst⟩ := h l r v ra ef hi
  rw [List.length_singleton] at *
  exact .step (Int.natCast_nonneg q) (at_cons hat).1 hst (.done ⟨by omega, y, hy, rfl⟩)
theorem doE_then {q : Nat} {C : List V} (h : DoE b g c L q C) {l r v : List Int} {ra ef : List V} {co : Int} {Q : St → Int → Prop} (hi : Inv ⟨q, l, r, v, ra, ef⟩) (hm : co + C.length ≤ L.M) (hs : ∀ p, nS p ef ≤ L.S p)
    (k : ∀ y co', InR y → co' ≤ co + C.length → Wp b g c L Q ⟨(q + C.length : Nat), l ++ [y], r, v, ra, ef⟩ co') : Wp b g c L Q ⟨q, l, r, v, ra, ef⟩ co :=
  wp_seq (h l r v ra ef co hi hm hs) fun st' co' ⟨h1, y, hy, h2⟩ => by subst h2; exact k y co' hy h1
theorem inv_any {p p' : Int} {l l' r r' v : List Int} {ra ra' ef ef' : List V} (h : Inv ⟨p, l, r, v, ra, ef⟩) : Inv ⟨p', l', r', v, ra', ef'⟩ := h
theorem doE_un {q : Nat} {C : List V} {op : Int} (ho : op = 5 ∨ op = 6) (h : DoE b g c L q C) (hat : At c q (C ++ [ins op 0 0])) : DoE b g c L q (C ++ [ins op 0 0]) := by
  intro l r v ra ef co hi hm hs
  rw [List.length_append, List.length_singleton] at *
  refine doE_then h hi (by omega) hs fun y co' hy hco => ?_
  have h1 := (at_cons (at_app hat).2).1
  rcases ho with rfl | rfl
  · by_cases e0 : (over (0 - y)).2 = 0
    · exact .step (Int.natCast_nonneg _) h1 (e0 ▸ Stp.neg hy) (.done ⟨by omega, _, over_r _, rfl⟩)
    · exact .err (Int.natCast_nonneg _) h1 (Stp.neg hy) e0 ⟨by omega, hs⟩
  · exact .step (Int.natCast_nonneg _) h1 Stp.not (.done ⟨by omega, _, tr_r, rfl⟩)
theorem doE_two {q : Nat} {C C' : List V} {op : Int} (h7 : 7 ≤ op) (h17 : op ≤ 17) (h : DoE b g c L q C) (h' : DoE b g c L (q + C.length) C') (hat : At c q (C ++ C' ++ [ins op 0 0])) : DoE b g c L q (C ++ C' ++ [ins op 0 0]) := by
  intro l r v ra ef co hi hm hs
  rw [List.length_append, List.length_append, List.length_singleton] at *
  refine doE_then h hi (by omega) hs fun x co1 hx h1 => ?_
  refine doE_then h' (inv_any hi) (by omega) hs fun y co2 hy h2 => ?_
  have ha := (at_cons (at_app hat).2).1
  rw [List.length_append, ← Nat.add_assoc] at ha
  by_cases e0 : (twoR op x y).2 = 0
  · exact .step (Int.natCast_nonneg _) ha (e0 ▸ Stp.two h7 h17 hx hy) (.done ⟨by omega, _, twoR_r hx hy, by congr 1; omega⟩)
  · exact .err (Int.natCast_nonneg _) ha (Stp.two h7 h17 hx hy) e0 ⟨by omega, hs⟩
theorem r01 : InR 0 ∧ InR 1 := by unfold InR; omega
theorem wp_false {q t : Nat} {l r v : List Int} {ra ef : List V} {co y : Int} {Q : St → Int → Prop} {n : Int} {s : ByteArray} (h : c[((q : Nat) : Int).toNat]? = some (insS 24 (t : Int) n s))
    (h0 : y = 0 → Wp b g c L Q ⟨t, l, r, v, ra, ef⟩ (co + 1)) (h1 : y ≠ 0 → Wp b g c L Q ⟨(q + 1 : Nat), l, r, v, ra, ef⟩ (co + 1)) : Wp b g c L Q ⟨q, l ++ [y], r, v, ra, ef⟩ co := by
  refine .step (Int.natCast_nonneg q) h Stp.fals ?_
  by_cases e : y = 0
  · rw [if_pos e]; exact h0 e
  · rw [if_neg e]; exact h1 e
theorem wp_push {q : Nat} {l r v : List Int} {ra ef : List V} {co n a : Int} {Q : St → Int → Prop} {s : ByteArray} (h : c[((q : Nat) : Int).toNat]? = some (insS 1 a n s)) (hn : InR n) (k : Wp b g c L Q ⟨(q + 1 : Nat), l ++ [n], r, v, ra, ef⟩ (co + 1)) : Wp b g c L Q ⟨q, l, r, v, ra, ef⟩ co :=
  .step (Int.natCast_nonneg q) h (Stp.push hn) k
theorem wp_jump {q t : Nat} {l r v : List Int} {ra ef : List V} {co n : Int} {Q : St → Int → Prop} {s : ByteArray} (h : c[((q : Nat) : Int).toNat]? = some (insS 23 (t : Int) n s)) (k : Wp b g c L Q ⟨t, l, r, v, ra, ef⟩ (co + 1)) : Wp b g c L Q ⟨q, l, r, v, ra, ef⟩ co :=
  .step (Int.natCast_nonneg q) h Stp.jump k
theorem doE_and {q : Nat} {C C' : List V} (h : DoE b g c L q C) (h' : DoE b g c L (q + C.length + 1) C') (hat : At c q (andX q C C')) : DoE b g c L q (andX q C C') := by
  intro l r v ra ef co hi hm hs
  rw [andX_len] at *
  unfold andX at hat
  obtain ⟨a1, a2⟩ := at_app hat
  obtain ⟨a3, a4⟩ := at_cons a2
  obtain ⟨a5, a6⟩ := at_app a4
  obtain ⟨a7, a8⟩ := at_cons a6
  obtain ⟨a9, a10⟩ := at_cons a8
  obtain ⟨a11, a12⟩ := at_cons a10
  obtain ⟨a13, _⟩ := at_cons a12
  have zero : ∀ co', co' ≤ co + C.length + C'.length + 2 → Wp b g c L (fun st' co' => co' ≤ co + ((C.length + C'.length + 5 : Nat) : Int) ∧ ∃ y, InR y ∧ st' = ⟨(q + (C.length + C'.length + 5) : Nat), l ++ [y], r, v, ra, ef⟩) ⟨(q + C.length + 1 + C'.length + 3 : Nat), l, r, v, ra, ef⟩ co' := fun co' hc => by
    refine wp_push (by have := a13; rw [show q + C.length + 1 + C'.length + 1 + 1 + 1 = q + C.length + 1 + C'.length + 3 by omega] at this; exact this) r01.1 (.done ⟨by omega, 0, r01.1, ?_⟩)
    congr 1; omega
  refine doE_then h hi (by omega) hs fun x co1 hx h1 => ?_
  refine wp_false (t := q + C.length + 1 + C'.length + 3) a3 (fun _ => zero _ (by omega)) (fun _ => ?_)
  refine doE_then h' (inv_any hi) (by omega) hs fun y co2 hy h2 => ?_
  refine wp_false (t := q + C.length + 1 + C'.length + 3) a7 (fun _ => zero _ (by omega)) (fun _ => ?_)
  refine wp_push a9 r01.2 ?_
  refine wp_jump (t := q + C.length + 1 + C'.length + 4) a11 (.done ⟨by omega, 1, r01.2, ?_⟩)
  congr 1; omega
theorem doE_or {q : Nat} {C C' : List V} (h : DoE b g c L q C) (h' : DoE b g c L (q + C.length + 3) C') (hat : At c q (orX q C C')) : DoE b g c L q (orX q C C') := by
  intro l r v ra ef co hi hm hs
  rw [orX_len] at *
  unfold orX at hat
  rw [List.append_assoc] at hat
  obtain ⟨a1, a2⟩ := at_app hat
  rw [List.cons_append, List.cons_append, List.cons_append, List.nil_append] at a2
  obtain ⟨a3, a4⟩ := at_cons a2
  obtain ⟨a5, a6⟩ := at_cons a4
  obtain ⟨a7, a8⟩ := at_cons a6
  rw [show q + C.length + 1 + 1 + 1 = q + C.length + 3 by omega] at a8
  obtain ⟨a9, a10⟩ := at_app a8
  obtain ⟨a11, a12⟩ := at_cons a10
  obtain ⟨a13, a14⟩ := at_cons a12
  obtain ⟨a15, a16⟩ := at_cons a14
  obtain ⟨a17, _⟩ := at_cons a16
  have fin : ∀ y co', InR y → co' ≤ co + C.length + C'.length + 5 → Wp b g c L (fun st' co' => co' ≤ co + ((C.length + C'.length + 7 : Nat) : Int) ∧ ∃ y, InR y ∧ st' = ⟨(q + (C.length + C'.length + 7) : Nat), l ++ [y], r, v, ra, ef⟩) ⟨(q + C.length + 3 + C'.length + 4 : Nat), l ++ [y], r, v, ra, ef⟩ co' := fun y co' hy hc => by
    refine .done ⟨by omega, y, hy, ?_⟩
    congr 1; omega
  refine doE_then h hi (by omega) hs fun x co1 hx h1 => ?_
  refine wp_false (t := q + C.length + 3) a3 (fun _ => ?_) (fun _ => ?_)
  · refine doE_then h' (inv_any hi) (by omega) hs fun y co2 hy h2 => ?_
    refine wp_false (t := q + C.length + 3 + C'.length + 3) a11 (fun _ => ?_) (fun _ => ?_)
    · refine wp_push (by have := a17; rw [show q + C.length + 3 + C'.length + 1 + 1 + 1 = q + C.length + 3 + C'.length + 3 by omega] at this; exact this) r01.1 ?_
      exact fin 0 _ r01.1 (by omega)
    · refine wp_push a13 r01.2 (wp_jump (t := q + C.length + 3 + C'.length + 4) a15 (fin 1 _ r01.2 (by omega)))
  · exact wp_push a5 r01.2 (wp_jump (t := q + C.length + 3 + C'.length + 4) a7 (fin 1 _ r01.2 (by omega)))
theorem n0_str : ∀ v ∈ N0.a, ∃ t, v = V.str t := fun v hv => by obtain ⟨t, h, _⟩ := N0_ok.1.2 v hv; exact ⟨t, h⟩
theorem cE_do (hg : InR g) : ∀ {d q : Nat} {x : V}, ExprM N0.a d x → At c q (cE N0 d q x) → DoE b g c L q (cE N0 d q x)
  | 0, _, _, h, _ => h.elim
  | d + 1, q, x, h, hat => by
    obtain ⟨kind, n, nm, kids, rfl, x1, x2, x3, x4, x5, x6, x7, x8⟩ := h
    by_cases h1 : kind = 1
    · have e : cE N0 (d + 1) q (.agg [.int .i64 kind, .int .i64 n, .str nm, .sl 5 kids, .int .i64 0]) = [ins 1 0 n] := by (conv => lhs; unfold cE); rw [if_pos h1]
      rw [e] at hat ⊢
      exact doE_one hat fun l r v ra ef hi => ⟨n, i64_r x1, Stp.push (i64_r x1)⟩
    by_cases h2 : kind = 2
    · have e : cE N0 (d + 1) q (.agg [.int .i64 kind, .int .i64 n, .str nm, .sl 5 kids, .int .i64 0]) = [ins 2 (plN N0.a nm) 0] := by (conv => lhs; unfold cE); rw [if_neg h1, if_pos h2]
      rw [e] at hat ⊢
      obtain ⟨j, hj, hp⟩ := pl_in (i := 0) n0_str (x8 h2)
      have hp' : plN N0.a nm = (j : Int) := by unfold plN; rw [hp]; omega
      rw [hp'] at hat ⊢
      refine doE_one hat fun l r v ra ef hi => ?_
      have hlt : j < v.length := by have := hi.1; simp [N0] at hj; dsimp only at this; omega
      exact ⟨v[j], hi.2 _ (List.getElem_mem hlt), Stp.load (List.getElem?_eq_getElem hlt)⟩
    by_cases h3 : kind = 3
    · have e : cE N0 (d + 1) q (.agg [.int .i64 kind, .int .i64 n, .str nm, .sl 5 kids, .int .i64 0]) = [ins 3 0 0] := by (conv => lhs; unfold cE); rw [if_neg h1, if_neg h2, if_pos h3]
      rw [e] at hat ⊢
      exact doE_one hat fun l r v ra ef hi => ⟨g, hg, Stp.arg⟩
    by_cases h4 : kind = 4
    · have e : cE N0 (d + 1) q (.agg [.int .i64 kind, .int .i64 n, .str nm, .sl 5 kids, .int .i64 0]) = [ins 4 (findN N0.nd nm) 0] := by (conv => lhs; unfold cE); rw [if_neg h1, if_neg h2, if_neg h3, if_pos h4]
      rw [e] at hat ⊢
      exact doE_one hat fun l r v ra ef hi => ⟨_, tr_r, Stp.inn⟩
    have hk : kids.length = 1 ∨ kids.length = 2 := by omega
    match kids, hk, x6, x7, hat with
    | [a], _, x6, x7, hat =>
      have e : cE N0 (d + 1) q (.agg [.int .i64 kind, .int .i64 n, .str nm, .sl 5 [a], .int .i64 0]) = cE N0 d q a ++ [ins kind 0 0] := by (conv => lhs; unfold cE); rw [if_neg h1, if_neg h2, if_neg h3, if_neg h4]
      rw [e] at hat ⊢
      exact doE_un (by simp at x7; omega) (cE_do hg (x6 a (by simp)) (at_app hat).1) hat
    | [a, a'], _, x6, x7, hat =>
      by_cases h18 : kind = 18
      · have e : cE N0 (d + 1) q (.agg [.int .i64 kind, .int .i64 n, .str nm, .sl 5 [a, a'], .int .i64 0]) = andX q (cE N0 d q a) (cE N0 d (q + (cE N0 d q a).length + 1) a') := by (conv => lhs; unfold cE); rw [if_neg h1, if_neg h2, if_neg h3, if_neg h4]; dsimp only; rw [if_pos h18]
        rw [e] at hat ⊢
        have hat' := hat
        unfold andX at hat'
        obtain ⟨a1, a2⟩ := at_app hat'
        exact doE_and (cE_do hg (x6 a (by simp)) a1) (cE_do hg (x6 a' (by simp)) (at_app (at_cons a2).2).1) hat
      by_cases h19 : kind = 19
      · have e : cE N0 (d + 1) q (.agg [.int .i64 kind, .int .i64 n, .str nm, .sl 5 [a, a'], .int .i64 0]) = orX q (cE N0 d q a) (cE N0 d (q + (cE N0 d q a).length + 3) a') := by (conv => lhs; unfold cE); rw [if_neg h1, if_neg h2, if_neg h3, if_neg h4]; dsimp only; rw [if_neg h18, if_pos h19]
        rw [e] at hat ⊢
        have hat' := hat
        unfold orX at hat'
        rw [List.append_assoc] at hat'
        obtain ⟨a1, a2⟩ := at_app hat'
        have a3 := (at_app a2).2
        exact doE_or (cE_do hg (x6 a (by simp)) a1) (cE_do hg (x6 a' (by simp)) (at_app a3).1) hat
      · have e : cE N0 (d + 1) q (.agg [.int .i64 kind, .int .i64 n, .str nm, .sl 5 [a, a'], .int .i64 0]) = cE N0 d q a ++ cE N0 d (q + (cE N0 d q a).length) a' ++ [ins kind 0 0] := by (conv => lhs; unfold cE); rw [if_neg h1, if_neg h2, if_neg h3, if_neg h4]; dsimp only; rw [if_neg h18, if_neg h19]
        rw [e] at hat ⊢
        have a1 := at_app (at_app hat).1
        exact doE_two (by simp at x7; omega) (by omega) (cE_do hg (x6 a (by simp)) a1.1) (cE_do hg (x6 a' (by simp)) a1.2) hat
end
end
section
variable {b : Bool} {g : Int} {c : List V} {L : Lim}
def DoA (b : Bool) (g : Int) (c : List V) (L : Lim) (q : Nat) (C : List V) (t : List Int) : Prop := ∀ (l r v : List Int) (ra ef : List V) (co : Int), Inv ⟨q, l, r, v, ra, ef⟩ → co + smI t ≤ L.M → (∀ p, nS p ef + wS p C t ≤ L.S p) →
  Wp b g c L (fun st' co' => co' ≤ co + smI t ∧ ∃ v' ra' ef', st' = ⟨(q + C.length : Nat), l, r, v', ra', ef'⟩ ∧ Inv st' ∧ ∀ p, nS p ef' ≤ nS p ef + wS p C t) ⟨q, l, r, v, ra, ef⟩ co
theorem doA_then {q : Nat} {C : List V} {t : List Int} (h : DoA b g c L q C t) {l r v : List Int} {ra ef : List V} {co : Int} {Q : St → Int → Prop} (hi : Inv ⟨q, l, r, v, ra, ef⟩) (hm : co + smI t ≤ L.M) (hs : ∀ p, nS p ef + wS p C t ≤ L.S p)
    (k : ∀ v' ra' ef' co', Inv ⟨(q + C.length : Nat), l, r, v', ra', ef'⟩ → co' ≤ co + smI t → (∀ p, nS p ef' ≤ nS p ef + wS p C t) → Wp b g c L Q ⟨(q + C.length : Nat), l, r, v', ra', ef'⟩ co') : Wp b g c L Q ⟨q, l, r, v, ra, ef⟩ co :=
  wp_seq (h l r v ra ef co hi hm hs) fun st' co' ⟨h1, v', ra', ef', h2, h3, h4⟩ => by subst h2; exact k v' ra' ef' co' h3 h1 h4
theorem doA_nil {q : Nat} : DoA b g c L q [] [] := fun l r v ra ef co hi hm hs => .done ⟨by simp [smI], v, ra, ef, by simp, hi, fun p => by simp [wS]⟩
def Ones (t : List Int) : Prop := ∀ x ∈ t, 1 ≤ x
theorem doA_app {q : Nat} {C C' : List V} {t t' : List Int} (ht' : Ones t') (hl : C.length = t.length) (h : DoA b g c L q C t) (h' : DoA b g c L (q + C.length) C' t') : DoA b g c L q (C ++ C') (t ++ t') := by
  intro l r v ra ef co hi hm hs
  rw [smI_app] at hm ⊢
  have h1 := smI_pos ht'
  have h2 := fun p => wS_pos (p := p) (a := C') ht'
  have e := fun p => wS_app (p := p) (a := C) (b := C') (t := t) (t' := t') hl
  refine doA_then h hi (by omega) (fun p => by have := hs p; have := h2 p; have := e p; omega) fun v1 ra1 ef1 co1 hi1 hc1 hn1 => ?_
  refine doA_then h' (inv_any hi1) (by omega) (fun p => by have := hs p; have := hn1 p; have := e p; omega) fun v2 ra2 ef2 co2 hi2 hc2 hn2 => ?_
  refine .done ⟨by omega, v2, ra2, ef2, by rw [List.length_append, Nat.add_assoc], inv_any hi2, fun p => by have := hn1 p; have := hn2 p; have := e p; omega⟩
theorem doA_x {q : Nat} {C : List V} {tx : List Int} {op a n : Int} {s : ByteArray} (h : DoE b g c L q C) (hat : At c q (C ++ [insS op a n s])) (hl : C.length = tx.length) (ht : smI tx = C.length) (hw : ∀ p, 0 ≤ wS p C tx)
    (hx : ∀ (p : Int) (l r v : List Int) (ra ef : List V) (y : Int), InR y → Inv ⟨p, l, r, v, ra, ef⟩ → ∃ e v' ra' ef', Stp b g op a n s ⟨p, l ++ [y], r, v, ra, ef⟩ e ⟨p + 1, l, r, v', ra', ef'⟩ ∧ Inv ⟨p, l, r, v', ra', ef'⟩ ∧ (∀ p, nS p ef' ≤ nS p ef + if isS p (insS op a n s) then 1 else 0)) : DoA b g c L q (C ++ [insS op a n s]) (tx ++ [1]) := by
  intro l r v ra ef co hi hm hs
  have e1 : smI (tx ++ [1]) = C.length + 1 := by rw [smI_app, ht]; rfl
  have e2 : ∀ p, wS p (C ++ [insS op a n s]) (tx ++ [1]) = wS p C tx + if isS p (insS op a n s) then 1 else 0 := fun p => by rw [wS_app hl]; simp [wS]
  rw [e1] at hm ⊢
  refine doE_then h hi (by omega) (fun p => by have := hs p; have := hw p; have := e2 p; split at this <;> omega) fun y co1 hy hc => ?_
  obtain ⟨e, v', ra', ef', k1, k2, k3⟩ := hx (q + C.length : Nat) l r v ra ef y hy (inv_any hi)
  have ha := (at_cons (at_app hat).2).1
  by_cases e0 : e = 0
  · subst e0
    refine .step (Int.natCast_nonneg _) ha k1 (.done ⟨by omega, v', ra', ef', ?_, inv_any k2, fun p => by have := k3 p; have := e2 p; have := hw p; omega⟩)
    rw [List.length_append, List.length_singleton]; congr 1
  · exact .err (Int.natCast_nonneg _) ha k1 e0 ⟨by omega, fun p => by have := hs p; have := hw p; have := e2 p; dsimp only; split at this <;> omega⟩
theorem isS_no {p op a n : Int} {s : ByteArray} (h : op ≠ 20) : isS p (insS op a n s) = false := by simp [isS, insS, h]
theorem doA_loop {q : Nat} {B : List V} {tb : List Int} {n : Int} (h1 : 1 ≤ n) (h2 : n ≤ 16) (ht : Ones tb) (hl : B.length = tb.length) (hq : q ≤ 900000) (h : DoA b g c L (q + 1) B tb) (hat : At c q (loopX q n B)) : DoA b g c L q (loopX q n B) (1 :: (tb.map (n * ·) ++ [n])) := by
  intro l r v ra ef co hi hm hs
  have p1 := smI_pos ht
  have p2 := fun p => wS_pos (p := p) (a := B) ht
  have e1 : smI (1 :: (tb.map (n * ·) ++ [n])) = 1 + (n * smI tb + n) := by rw [smI, smI_app, smI_mul]; simp [smI]
  have e2 : ∀ p, wS p (loopX q n B) (1 :: (tb.map (n * ·) ++ [n])) = n * wS p B tb := fun p => by
    unfold loopX
    rw [wS, show ins 25 (q + B.length + 2 : Nat) n = insS 25 (q + B.length + 2 : Nat) n ⟨#[]⟩ from rfl, isS_no (by omega), wS_app (by simpa using hl), wS_mul, wS, show ins 26 (q : Int) 0 = insS 26 q 0 ⟨#[]⟩ from rfl, isS_no (by omega)]
    simp [wS]
  unfold loopX at hat
  obtain ⟨a1, a2⟩ := at_cons hat
  obtain ⟨a3, a4⟩ := at_app a2
  obtain ⟨a5, _⟩ := at_cons a4
  have round : ∀ (m : Nat), (m : Int) < 16 → ∀ (v : List Int) (ra ef : List V) (co : Int), Inv ⟨q, l, r, v, ra, ef⟩ → co + ((m : Int) * (smI tb + 1) + (smI tb + 1)) ≤ L.M → (∀ p, nS p ef + ((m : Int) * wS p B tb + wS p B tb) ≤ L.S p) →
      Wp b g c L (fun st' co' => co' ≤ co + ((m : Int) * (smI tb + 1) + (smI tb + 1)) ∧ ∃ v' ra' ef', st' = ⟨(q + B.length + 2 : Nat), l, r, v', ra', ef'⟩ ∧ Inv st' ∧ ∀ p, nS p ef' ≤ nS p ef + ((m : Int) * wS p B tb + wS p B tb)) ⟨(q + 1 : Nat), l, r ++ [(m : Int) + 1], v, ra, ef⟩ co := by
    intro m
    induction m with
    | zero =>
      intro hm16 v ra ef co hi hm hs
      refine doA_then h (inv_any hi) (by omega) (fun p => by have := hs p; omega) fun v1 ra1 ef1 co1 hi1 hc1 hn1 => ?_
      refine .step (Int.natCast_nonneg _) a5 (Stp.next0 (by omega) (by omega)) (.done ⟨by omega, v1, ra1, ef1, by congr 1; omega, inv_any hi1, fun p => by have := hn1 p; omega⟩)
    | succ m ih =>
      intro hm16 v ra ef co hi hm hs
      have m1 : ((m + 1 : Nat) : Int) * (smI tb + 1) = (m : Int) * (smI tb + 1) + (smI tb + 1) := by rw [Int.natCast_add, Int.add_mul]; simp
      have m2 : ∀ p, ((m + 1 : Nat) : Int) * wS p B tb = (m : Int) * wS p B tb + wS p B tb := fun p => by rw [Int.natCast_add, Int.add_mul]; simp
      have p3 : 0 ≤ (m : Int) * (smI tb + 1) := Int.mul_nonneg (by omega) (by omega)
      have p4 : ∀ p, 0 ≤ (m : Int) * wS p B tb := fun p => Int.mul_nonneg (by omega) (p2 p)
      rw [m1] at hm ⊢
      refine doA_then h (inv_any hi) (by omega) (fun p => by have := hs p; have := m2 p; have := p4 p; have := p2 p; omega) fun v1 ra1 ef1 co1 hi1 hc1 hn1 => ?_
      refine .step (Int.natCast_nonneg _) a5 (Stp.next1 (by omega) (by omega) (by omega) (by omega)) ?_
      have := ih (by omega) v1 ra1 ef1 (co1 + 1) (inv_any hi1) (by omega) (fun p => by have := hs p; have := hn1 p; have := m2 p; omega)
      rw [show (((m + 1 : Nat) : Int) + 1 - 1) = (m : Int) + 1 by omega]
      refine wp_seq this fun st' co' ⟨k1, v', ra', ef', k2, k3, k4⟩ => .done ⟨by omega, v', ra', ef', k2, k3, fun p => by have := k4 p; have := hn1 p; have := m2 p; omega⟩
  obtain ⟨m, rfl⟩ : ∃ m : Nat, n = (m : Int) + 1 := ⟨(n - 1).toNat, by omega⟩
  have f1 : ((m : Int) + 1) * smI tb + ((m : Int) + 1) = (m : Int) * (smI tb + 1) + (smI tb + 1) := by rw [Int.add_mul, Int.mul_add]; omega
  have f2 : ∀ p, ((m : Int) + 1) * wS p B tb = (m : Int) * wS p B tb + wS p B tb := fun p => by rw [Int.add_mul]; omega
  rw [e1, f1] at hm ⊢
  refine .step (Int.natCast_nonneg q) a1 Stp.loop ?_
  have := round m (by omega) v ra ef (co + 1) (inv_any hi) (by omega) (fun p => by have := hs p; rw [e2, f2] at this; exact this)
  refine wp_seq this fun st' co' ⟨k1, v', ra', ef', k2, k3, k4⟩ => .done ⟨by omega, v', ra', ef', ?_, k3, fun p => by rw [e2, f2]; exact k4 p⟩
  rw [k2, loopX_len]
  congr 1
theorem doA_if {q : Nat} {E B : List V} {tx tb : List Int} (hlx : E.length = tx.length) (htx : smI tx = E.length) (hx1 : Ones tx) (ht : Ones tb) (h : DoE b g c L q E) (h' : DoA b g c L (q + E.length + 1) B tb) (hat : At c q (ifX q E B)) : DoA b g c L q (ifX q E B) (tx ++ 1 :: tb) := by
  intro l r v ra ef co hi hm hs
  have p1 := smI_pos ht
  have p2 := fun p => wS_pos (p := p) (a := B) ht
  have p3 := fun p => wS_pos (p := p) (a := E) hx1
  have e1 : smI (tx ++ 1 :: tb) = E.length + 1 + smI tb := by rw [smI_app, htx, smI]; omega
  have e2 : ∀ p, wS p (ifX q E B) (tx ++ 1 :: tb) = wS p E tx + wS p B tb := fun p => by
    unfold ifX
    rw [wS_app hlx, wS, show ins 24 (q + E.length + 1 + B.length : Nat) 0 = insS 24 (q + E.length + 1 + B.length : Nat) 0 ⟨#[]⟩ from rfl, isS_no (by omega)]; simp
  rw [e1] at hm ⊢
  unfold ifX at hat
  obtain ⟨a1, a2⟩ := at_app hat
  obtain ⟨a3, a4⟩ := at_cons a2
  refine doE_then h hi (by omega) (fun p => by have := hs p; have := e2 p; have := p2 p; have := p3 p; omega) fun y co1 hy hc => ?_
  refine wp_false (t := q + E.length + 1 + B.length) a3 (fun _ => ?_) (fun _ => ?_)
  · refine .done ⟨by omega, v, ra, ef, by rw [ifX_len]; congr 1; omega, inv_any hi, fun p => by have := e2 p; have := p2 p; have := p3 p; omega⟩
  · refine doA_then h' (inv_any hi) (by omega) (fun p => by have := hs p; have := e2 p; have := p3 p; omega) fun v1 ra1 ef1 co2 hi1 hc1 hn1 => ?_
    exact .done ⟨by omega, v1, ra1, ef1, by rw [ifX_len]; congr 1; omega, inv_any hi1, fun p => by have := e2 p; have := hn1 p; have := p3 p; omega⟩
theorem doA_el {q : Nat} {E B C : List V} {tx tb tc : List Int} (hlx : E.length = tx.length) (hlb : B.length = tb.length) (htx : smI tx = E.length) (hx1 : Ones tx) (ht : Ones tb) (htc : Ones tc) (h : DoE b g c L q E) (h' : DoA b g c L (q + E.length + 1) B tb) (h'' : DoA b g c L (q + E.length + 1 + B.length + 1) C tc) (hat : At c q (elX q E B C)) : DoA b g c L q (elX q E B C) (tx ++ 1 :: (tb ++ 1 :: tc)) := by
  intro l r v ra ef co hi hm hs
  have p1 := smI_pos ht
  have p1' := smI_pos htc
  have p2 := fun p => wS_pos (p := p) (a := B) ht
  have p2' := fun p => wS_pos (p := p) (a := C) htc
  have p3 := fun p => wS_pos (p := p) (a := E) hx1
  have e1 : smI (tx ++ 1 :: (tb ++ 1 :: tc)) = E.length + 1 + smI tb + 1 + smI tc := by rw [smI_app, htx, smI, smI_app, smI]; omega
  have e2 : ∀ p, wS p (elX q E B C) (tx ++ 1 :: (tb ++ 1 :: tc)) = wS p E tx + wS p B tb + wS p C tc := fun p => by
    unfold elX
    rw [wS_app hlx, wS, show ∀ i : Nat, ins 24 (i : Int) 0 = insS 24 i 0 ⟨#[]⟩ from fun _ => rfl, isS_no (by omega), wS_app hlb, wS, show ∀ i : Nat, ins 23 (i : Int) 0 = insS 23 i 0 ⟨#[]⟩ from fun _ => rfl, isS_no (by omega)]; simp; omega
  rw [e1] at hm ⊢
  unfold elX at hat
  obtain ⟨a1, a2⟩ := at_app hat
  obtain ⟨a3, a4⟩ := at_cons a2
  obtain ⟨a5, a6⟩ := at_app a4
  obtain ⟨a7, a8⟩ := at_cons a6
  refine doE_then h hi (by omega) (fun p => by have := hs p; have := e2 p; have := p2 p; have := p2' p; have := p3 p; omega) fun y co1 hy hc => ?_
  refine wp_false (t := q + E.length + 1 + B.length + 1) a3 (fun _ => ?_) (fun _ => ?_)
  · refine doA_then h'' (inv_any hi) (by omega) (fun p => by have := hs p; have := e2 p; have := p3 p; have := p2 p; omega) fun v1 ra1 ef1 co2 hi1 hc1 hn1 => ?_
    exact .done ⟨by omega, v1, ra1, ef1, by rw [elX_len]; congr 1; omega, inv_any hi1, fun p => by have := e2 p; have := hn1 p; have := p3 p; have := p2 p; omega⟩
  · refine doA_then h' (inv_any hi) (by omega) (fun p => by have := hs p; have := e2 p; have := p3 p; have := p2' p; omega) fun v1 ra1 ef1 co2 hi1 hc1 hn1 => ?_
    refine wp_jump (t := q + E.length + 1 + B.length + 1 + C.length) a7 ?_
    exact .done ⟨by omega, v1, ra1, ef1, by rw [elX_len]; congr 1; omega, inv_any hi1, fun p => by have := e2 p; have := hn1 p; have := p3 p; have := p2' p; omega⟩
theorem sh_ones {F : Nat → List V} {t : List Int} {m : Int} (h : Sh F t m) : Ones t := fun x hx => (h.2 x hx).1
theorem cX_do (hg : InR g) {x : List V} (hx : ∀ e ∈ x, ExprM N0.a 3 e) : ∃ t, Sh (fun q => cX N0 q x) t 1 ∧ ∀ (L : Lim) q, At c q (cX N0 q x) → DoE b g c L q (cX N0 q x) ∧ (cX N0 q x).length = t.length ∧ smI t = (cX N0 q x).length := by
  obtain ⟨t, ht⟩ := cX_sh (N := N0) (x := x) fun e he => (hx e he).s
  refine ⟨t, ht, fun L q hat => ⟨?_, sh_len ht q, by rw [sh_len ht q]; exact smI_ones ht.2⟩⟩
  cases x with
  | nil => exact doE_one hat fun l r v ra ef hi => ⟨0, r01.1, Stp.push r01.1⟩
  | cons e r => exact cE_do hg (hx e List.mem_cons_self) hat
def ActDo (b : Bool) (g : Int) (c : List V) (F : Nat → List V) (m : Int) : Prop := ∃ t, Sh F t m ∧ ∀ (L : Lim) q, At c q (F q) → DoA b g c L q (F q) t
theorem cR_do {F : Nat → V → List V} {m : Int} : ∀ {l : List V}, (∀ a ∈ l, ActDo b g c (fun q => F q a) m) → ActDo b g c (fun q => cR F q l) m
  | [], _ => ⟨[], sh_nil, fun L q _ => doA_nil⟩
  | a :: r, h => by
    obtain ⟨t, ht, k⟩ := h a List.mem_cons_self
    obtain ⟨t', ht', k'⟩ := cR_do fun a ha => h a (List.mem_cons_of_mem _ ha)
    refine ⟨t ++ t', sh_app ht ht', fun L q hat => ?_⟩
    obtain ⟨a1, a2⟩ := at_app hat
    exact doA_app (sh_ones ht') (sh_len ht q) (k L q a1) (k' L _ a2)
theorem actdo_mono {F : Nat → List V} {m m' : Int} (h : ActDo b g c F m) (hm : m ≤ m') : ActDo b g c F m' := by
  obtain ⟨t, h1, h2⟩ := h
  exact ⟨t, sh_mono h1 hm, h2⟩
theorem actdo_eq {F F' : Nat → List V} {m : Int} (h : ActDo b g c F m) (he : ∀ q, F' q = F q) : ActDo b g c F' m := by
  have : F' = F := funext he
  rw [this]; exact h
theorem inv_set {p p' : Int} {l l' r r' v : List Int} {ra ra' ef ef' : List V} {i : Nat} {x : Int} (h : Inv ⟨p, l, r, v, ra, ef⟩) (hx : InR x) : Inv ⟨p', l', r', v.set i x, ra', ef'⟩ := by
  refine ⟨by simpa using h.1, fun y hy => ?_⟩
  rcases List.mem_or_eq_of_mem_set hy with hy | rfl
  · exact h.2 y hy
  · exact hx
theorem isF_no {p kd a n : Int} {s : ByteArray} (h : kd ≠ 1) : isF p (.agg [.int .i64 kd, .int .i64 a, .str s, .int .i64 n]) = false := by simp [isF, h]
theorem cA_do (hg : InR g) (hc : c.length ≤ 9999) : ∀ {d : Nat} {a : V}, ActM N0.a N0.p d a → ActDo b g c (fun q => cA N0 d q a) (cm d)
  | 0, _, h => h.elim
  | d + 1, a, h => by
    obtain ⟨kind, nm, ev, x, n, th, el, rfl, x1, x2, x3, x4, x5, x6, x7, x8, x9, x10, x11, x12, x13, x14⟩ := h
    have hp := cm_pos d
    have hcm : cm (d + 1) = 16 * cm d := rfl
    obtain ⟨tx, hx1, hxd⟩ := cX_do (b := b) (g := g) (c := c) hg x7
    have hx := sh_mono hx1 (m' := cm d) (by omega)
    have hx' := sh_mono hx1 (m' := cm (d + 1)) (by omega)
    have hox := sh_ones hx1
    obtain ⟨tt, ht, htd⟩ := cR_do (F := cA N0 d) (m := cm d) (l := th) fun a ha => cA_do hg hc (x11 a ha)
    obtain ⟨te, he, hed⟩ := cR_do (F := cA N0 d) (m := cm d) (l := el) fun a ha => cA_do hg hc (x12 a ha)
    have xs : ∀ {op a n : Int} {s : ByteArray}, op ≤ 22 → (∀ (p : Int) (l r v : List Int) (ra ef : List V) (y : Int), InR y → Inv ⟨p, l, r, v, ra, ef⟩ → ∃ e v' ra' ef', Stp b g op a n s ⟨p, l ++ [y], r, v, ra, ef⟩ e ⟨p + 1, l, r, v', ra', ef'⟩ ∧ Inv ⟨p, l, r, v', ra', ef'⟩ ∧ (∀ p, nS p ef' ≤ nS p ef + if isS p (insS op a n s) then 1 else 0)) →
        ActDo b g c (fun q => cX N0 q x ++ [insS op a n s]) (cm (d + 1)) := fun {op a n s} h22 hs => by
      refine ⟨tx ++ [1], sh_app hx' (sh_one (by omega) h22), fun L q hat => ?_⟩
      obtain ⟨k1, k2, k3⟩ := hxd L q (at_app hat).1
      exact doA_x k1 hat k2 k3 (fun p => wS_pos hox) hs
    by_cases h1 : kind = 1
    · refine actdo_eq (F := fun q => cX N0 q x ++ [insS 18 (plN N0.a nm) 0 ⟨#[]⟩]) ?_ fun q => by (conv => lhs; unfold cA); rw [if_pos h1]; rfl
      obtain ⟨j, hj, hpl⟩ := pl_in (i := 0) n0_str (x13 h1)
      have hp' : plN N0.a nm = (j : Int) := by unfold plN; rw [hpl]; omega
      rw [hp']
      refine xs (op := 18) (by omega) fun p l r v ra ef y hy hi => ?_
      have hlt : j < v.length := by have := hi.1; simp [N0] at hj; dsimp only at this; omega
      exact ⟨0, _, _, _, Stp.store hlt, inv_set hi hy, fun p => by rw [isS_no (by omega)]; simp⟩
    by_cases h2 : kind = 2
    · refine actdo_eq (F := fun q => cX N0 q x ++ [insS 19 0 0 ev]) ?_ fun q => by (conv => lhs; unfold cA); rw [if_neg h1, if_pos h2]
      refine xs (op := 19) (by omega) fun p l r v ra ef y hy hi => ?_
      exact ⟨0, _, _, _, Stp.raise, inv_any hi, fun p => by rw [isS_no (by omega)]; simp⟩
    by_cases h3 : kind = 3
    · refine actdo_eq (F := fun q => cX N0 q x ++ [insS 20 (plN N0.p nm) 0 ev]) ?_ fun q => by (conv => lhs; unfold cA); rw [if_neg h1, if_neg h2, if_pos h3]
      refine xs (op := 20) (by omega) fun p l r v ra ef y hy hi => ?_
      refine ⟨0, _, _, _, Stp.send, inv_any hi, fun p => ?_⟩
      rw [nS_snoc]
      have : isF p (.agg [.int .i64 1, .int .i64 (plN N0.p nm), .str ev, .int .i64 y]) = isS p (insS 20 (plN N0.p nm) 0 ev) := by simp [isF, isS, insS]
      rw [this]; exact Int.le_refl _
    by_cases h4 : kind = 4
    · refine actdo_eq (F := fun q => cX N0 q x ++ [insS 21 (plN N0.t nm) 0 ⟨#[]⟩]) ?_ fun q => by (conv => lhs; unfold cA); rw [if_neg h1, if_neg h2, if_neg h3, if_pos h4]; rfl
      refine xs (op := 21) (by omega) fun p l r v ra ef y hy hi => ?_
      by_cases hy1 : 1 ≤ y ∧ y ≤ 65536
      · exact ⟨0, _, _, _, Stp.arm hy1.1 hy1.2, inv_any hi, fun p => by rw [isS_no (by omega), nS_snoc, isF_no (by omega)]; simp⟩
      · exact ⟨1, _, _, _, Stp.armE (by omega), inv_any hi, fun p => by rw [isS_no (by omega)]; simp⟩
    by_cases h5 : kind = 5
    · refine actdo_eq (F := fun q => [ins 22 (plN N0.t nm) 0]) ?_ fun q => by (conv => lhs; unfold cA); rw [if_neg h1, if_neg h2, if_neg h3, if_neg h4, if_pos h5]
      refine ⟨[1], sh_one (op := 22) (a := plN N0.t nm) (n := 0) (s := ⟨#[]⟩) (by omega) (by omega), fun L q hat => ?_⟩
      intro l r v ra ef co hi hm hs
      have ha := (at_cons hat).1
      refine .step (Int.natCast_nonneg q) ha Stp.cancel (.done ⟨by simp [smI], v, ra, _, rfl, inv_any hi, fun p => ?_⟩)
      have := hs p
      rw [nS_snoc, isF_no (by omega)]
      have := wS_pos (p := p) (a := [ins 22 (plN N0.t nm) 0]) (t := [1]) (by simp)
      simp; omega
    by_cases h7 : kind = 7
    · obtain ⟨n1, n2⟩ := x1.2 h7
      refine actdo_eq (F := fun q => loopX q n (cR (cA N0 d) (q + 1) th)) ?_ fun q => by (conv => lhs; unfold cA); rw [if_neg h1, if_neg h2, if_neg h3, if_neg h4, if_neg h5, if_pos h7]
      refine ⟨_, sh_loop n1 n2 hp ht, fun L q hat => ?_⟩
      have hat' := hat
      unfold loopX at hat'
      have hq : q ≤ 900000 := by
        obtain ⟨A, D, e1, e2⟩ := hat'
        have := congrArg List.length e1
        simp at this; omega
      exact doA_loop n1 n2 (sh_ones ht) (sh_len ht _) hq (htd L _ (at_app (at_cons hat').2).1) hat
    have hch : ∀ q, cA N0 (d + 1) q (.agg [.int .i64 kind, .str nm, .str ev, .sl 5 x, .int .i64 n, .sl 8 th, .sl 8 el, .int .i64 0]) = chX (cA N0 d) q (cX N0 q x) th el := fun q => by (conv => lhs; unfold cA); rw [if_neg h1, if_neg h2, if_neg h3, if_neg h4, if_neg h5, if_neg h7]
    refine actdo_eq (actdo_mono ?_ (m := cm d) (by omega)) hch
    cases el with
    | nil =>
      refine ⟨_, sh_if hp hx ht, fun L q hat => ?_⟩
      have hat' := hat
      unfold chX ifX at hat'
      obtain ⟨a1, a2⟩ := at_app hat'
      obtain ⟨k1, k2, k3⟩ := hxd L q a1
      exact doA_if k2 k3 hox (sh_ones ht) k1 (htd L _ (at_cons a2).2) hat
    | cons e r =>
      refine ⟨_, sh_el hp hx ht he, fun L q hat => ?_⟩
      have hat' := hat
      unfold chX elX at hat'
      obtain ⟨a1, a2⟩ := at_app hat'
      obtain ⟨k1, k2, k3⟩ := hxd L q a1
      obtain ⟨a5, a6⟩ := at_app (at_cons a2).2
      exact doA_el k2 (sh_len ht _) k3 hox (sh_ones ht) (sh_ones he) k1 (htd L _ a5) (hed L _ (at_cons a6).2) hat
theorem cBl_do (hg : InR g) (hc : c.length ≤ 9999) {d : Nat} {l : List V} (h : BlockM N0.a N0.p d l) : ActDo b g c (fun q => cR (cA N0 d) q l) (cm d) := cR_do fun a ha => cA_do hg hc (h.2 a ha)
end
section
variable {b : Bool} {g : Int} {c : List V} {L : Lim}
theorem stp_adds {op a n : Int} {s : ByteArray} {st st' : St} {e : Int} (h : Stp b g op a n s st e st') : (∃ x, st'.ra = st.ra ++ x) ∧ (∃ y, st'.ef = st.ef ++ y) ∧ st'.vs.length = st.vs.length := by
  cases h <;> refine ⟨?_, ?_, ?_⟩ <;> first | exact ⟨[], (List.append_nil _).symm⟩ | exact ⟨_, rfl⟩ | rfl | exact List.length_set
theorem nS_app {p : Int} {l x : List V} : nS p l ≤ nS p (l ++ x) := by unfold nS; rw [List.countP_append]; omega
theorem stp_nS {op a n : Int} {s : ByteArray} {st st' : St} {e : Int} (h : Stp b g op a n s st e st') (p : Int) : nS p st.ef ≤ nS p st'.ef := by
  obtain ⟨_, ⟨y, hy⟩, _⟩ := stp_adds h; rw [hy]; exact nS_app
theorem wp_ok {Q : St → Int → Prop} {st : St} {co : Int} (h : Wp b g c L Q st co) : (∀ st co, Q st co → L.ok st co) → L.ok st co := by
  induction h with
  | done h => exact fun k => k _ _ h
  | err h1 h2 h3 h4 h5 => exact fun _ => ⟨by have := h5.1; omega, h5.2⟩
  | step h1 h2 h3 _ ih => exact fun k => ⟨by have := (ih k).1; omega, fun p => Int.le_trans (stp_nS h3 p) ((ih k).2 p)⟩
theorem wp_run {Q : St → Int → Prop} {st : St} {co : Int} (h : Wp b g c L Q st co) : (∀ st co, Q st co → (c.length : Int) ≤ st.pc ∧ L.ok st co) → ∀ F, ∃ d, Run b g c F st co d ∧ d.co ≤ L.M ∧ ∀ p, nS p d.ef ≤ L.S p := by
  induction h with
  | @done st co h => exact fun k F => ⟨_, .fin (k _ _ h).1, (k _ _ h).2.1, (k _ _ h).2.2⟩
  | @err st co op a n s e st' h1 h2 h3 h4 h5 =>
    intro k F
    by_cases hF : F ≤ co
    · exact ⟨_, .fuel h1 (get_lt h1 h2) hF, by have := h5.1; dsimp only; omega, h5.2⟩
    · exact ⟨_, .err h1 h2 (by omega) h3 h4, h5.1, h5.2⟩
  | @step st co op a n s st' h1 h2 h3 h4 ih =>
    intro k F
    by_cases hF : F ≤ co
    · have := wp_ok (.step h1 h2 h3 h4) fun st co q => (k st co q).2
      exact ⟨_, .fuel h1 (get_lt h1 h2) hF, this.1, this.2⟩
    · obtain ⟨d, k1, k2⟩ := ih k F
      exact ⟨d, .step h1 h2 (by omega) h3 k1, k2⟩
theorem run_pre {F : Int} {st : St} {co : Int} {d : Dn} (h : Run b g c F st co d) : (∃ x, d.ra = st.ra ++ x) ∧ (∃ y, d.ef = st.ef ++ y) ∧ d.vs.length = st.vs.length ∧ co ≤ d.co := by
  induction h with
  | fin h => exact ⟨⟨[], by simp⟩, ⟨[], by simp⟩, rfl, Int.le_refl _⟩
  | fuel _ _ h => exact ⟨⟨[], by simp⟩, ⟨[], by simp⟩, rfl, Int.le_refl _⟩
  | err _ _ _ _ _ => exact ⟨⟨[], by simp⟩, ⟨[], by simp⟩, rfl, by dsimp only; omega⟩
  | step h1 h2 h3 h4 _ ih =>
    obtain ⟨⟨x, e1⟩, ⟨y, e2⟩, e3⟩ := stp_adds h4
    obtain ⟨⟨x', f1⟩, ⟨y', f2⟩, f3, f4⟩ := ih
    exact ⟨⟨x ++ x', by rw [f1, e1]; simp⟩, ⟨y ++ y', by rw [f2, e2]; simp⟩, f3.trans e3, by omega⟩
theorem run_bd {F : Int} {st : St} {co : Int} {d : Dn} (h : Run b g c F st co d) : Bd st co → co ≤ F → (d.ra.length : Int) ≤ d.co ∧ (d.ef.length : Int) ≤ d.co ∧ d.co ≤ F := by
  induction h with
  | fin h => intro h1 h2; exact ⟨h1.2.2.1, h1.2.2.2, h2⟩
  | fuel _ _ h => intro h1 h2; exact ⟨h1.2.2.1, h1.2.2.2, h2⟩
  | err _ _ h _ _ => intro h1 h2; unfold Bd at h1; exact ⟨by dsimp only; omega, by dsimp only; omega, by dsimp only; omega⟩
  | step h1 h2 h3 h4 _ ih => intro k1 k2; exact ih (bd_step h4 k1) (by omega)
def RaS (l : List V) : Prop := ∀ v ∈ l, ∃ s n, v = .agg [.str s, .int .i64 n]
def EfS (A : Int → Prop) (l : List V) : Prop := ∀ v ∈ l, ∃ k a s n, v = .agg [.int .i64 k, .int .i64 a, .str s, .int .i64 n] ∧ (k = 1 → A a)
theorem ras_snoc {l : List V} {v : V} (h : RaS l) (hv : ∃ s n, v = .agg [.str s, .int .i64 n]) : RaS (l ++ [v]) := fun w hw => by
  rcases List.mem_append.1 hw with hw | hw
  · exact h w hw
  · rw [List.mem_singleton.1 hw]; exact hv
theorem efs_snoc {A : Int → Prop} {l : List V} {v : V} (h : EfS A l) (hv : ∃ k a s n, v = .agg [.int .i64 k, .int .i64 a, .str s, .int .i64 n] ∧ (k = 1 → A a)) : EfS A (l ++ [v]) := fun w hw => by
  rcases List.mem_append.1 hw with hw | hw
  · exact h w hw
  · rw [List.mem_singleton.1 hw]; exact hv
def SendA (A : Int → Prop) (c : List V) : Prop := ∀ op a n s, insS op a n s ∈ c → op = 20 → A a
theorem stp_shape {A : Int → Prop} {op a n : Int} {s : ByteArray} {st st' : St} {e : Int} (h : Stp b g op a n s st e st') (hA : op = 20 → A a) (h1 : RaS st.ra) (h2 : EfS A st.ef) : RaS st'.ra ∧ EfS A st'.ef := by
  cases h <;> first
    | exact ⟨h1, h2⟩
    | exact ⟨ras_snoc h1 ⟨_, _, rfl⟩, h2⟩
    | exact ⟨h1, efs_snoc h2 ⟨_, _, _, _, rfl, fun _ => hA rfl⟩⟩
    | exact ⟨h1, efs_snoc h2 ⟨_, _, _, _, rfl, fun h => by omega⟩⟩
theorem run_shape {A : Int → Prop} {F : Int} {st : St} {co : Int} {d : Dn} (h : Run b g c F st co d) (hA : SendA A c) : RaS st.ra → EfS A st.ef → RaS d.ra ∧ EfS A d.ef := by
  induction h with
  | fin h => exact fun h1 h2 => ⟨h1, h2⟩
  | fuel _ _ h => exact fun h1 h2 => ⟨h1, h2⟩
  | err _ _ _ _ _ => exact fun h1 h2 => ⟨h1, h2⟩
  | step h1 h2 h3 h4 _ ih =>
    intro k1 k2
    obtain ⟨q1, q2⟩ := stp_shape h4 (fun e => hA _ _ _ _ (List.mem_of_getElem? h2) e) k1 k2
    exact ih q1 q2
def st0 (x y : Int) : St := ⟨0, [], [], [x, y], [], []⟩
theorem st0_inv {x y : Int} (hx : InR x) (hy : InR y) : Inv (st0 x y) := ⟨rfl, fun z hz => by
  simp only [st0, List.mem_cons, List.not_mem_nil, or_false] at hz
  rcases hz with rfl | rfl
  · exact hx
  · exact hy⟩
theorem st0_bd {x y : Int} : Bd (st0 x y) 0 := ⟨by simp [st0], by simp [st0], by simp [st0], by simp [st0]⟩
theorem runE {x y F : Int} {d : Nat} {v : V} (hg : InR g) (hx : InR x) (hy : InR y) (hv : ExprM N0.a d v) : ∃ r, Run b g (cE N0 d 0 v) F (st0 x y) 0 r ∧ r.co ≤ (cE N0 d 0 v).length ∧ ∀ p, nS p r.ef ≤ 0 := by
  have hat : At (cE N0 d 0 v) 0 (cE N0 d 0 v) := ⟨[], [], by simp, rfl⟩
  have h := cE_do (b := b) (L := ⟨(cE N0 d 0 v).length, fun _ => 0⟩) hg hv hat [] [] [x, y] [] [] 0 (st0_inv hx hy) (by simp) (fun p => by simp [nS])
  refine wp_run (L := ⟨(cE N0 d 0 v).length, fun _ => 0⟩) h (fun st co ⟨h1, z, h2, h3⟩ => ?_) F
  subst h3
  exact ⟨by simp, by dsimp only; omega, fun p => by simp [nS]⟩
theorem runB {x y F : Int} {d : Nat} {l : List V} (hg : InR g) (hx : InR x) (hy : InR y) (hl : BlockM N0.a N0.p d l) (hc : (cR (cA N0 d) 0 l).length ≤ 9999) : ∃ t, Sh (fun q => cR (cA N0 d) q l) t (cm d) ∧ ∃ r, Run b g (cR (cA N0 d) 0 l) F (st0 x y) 0 r ∧ r.co ≤ smI t ∧ ∀ p, nS p r.ef ≤ wS p (cR (cA N0 d) 0 l) t := by
  have hat : At (cR (cA N0 d) 0 l) 0 (cR (cA N0 d) 0 l) := ⟨[], [], by simp, rfl⟩
  obtain ⟨t, ht, hd⟩ := cBl_do (b := b) hg hc hl
  refine ⟨t, ht, ?_⟩
  have h := hd ⟨smI t, fun p => wS p (cR (cA N0 d) 0 l) t⟩ 0 hat [] [] [x, y] [] [] 0 (st0_inv hx hy) (by simp) (fun p => by simp [nS])
  refine wp_run (L := ⟨smI t, fun p => wS p (cR (cA N0 d) 0 l) t⟩) h (fun st co ⟨h1, v', ra', ef', h2, h3, h4⟩ => ?_) F
  subst h2
  exact ⟨by simp, by dsimp only; omega, fun p => by have := h4 p; simp [nS] at this ⊢; exact this⟩
end
set_option maxHeartbeats 8000000
section
variable {R : Type} {G : ORC R} {k : Nat} {K : List V → Option R}
def RArg (G : ORC R) : Prop := ∀ (c x : List V) (N : Nms) (K : List V → Option R), (∀ e ∈ x, ExprS 3 e) → N.ok → c.length + ce 3 ≤ 1000000 → W (fun o => o = [.sl 4 (c ++ cX N c.length x)]) K (G 86 [.sl 4 c, .sl 5 x, N.v] K)
theorem rarg_ok (hE : RX 3 G) : RArg (fun _ args (K : List V → Option R) => g86 G k args K) := by
  intro c x N K hx hN hm
  show W _ K (f86 G k c x N.a N.p N.t (N.nd.map Nd.v) K)
  unfold f86
  unfold RX at hE
  cases x with
  | nil => exact W_eqY rfl (W_yes (by omega) (W_ret rfl))
  | cons e r =>
    have he := hx e List.mem_cons_self
    have he' := he
    obtain ⟨_, _, _, _, rfl, _⟩ := he
    refine W_eqN (by simp; omega) (W_yes (by simp) (W_nth0 (W_asAgg ?_)))
    refine W_call (hE c _ N _ he' hN hm) ?_
    rintro _ rfl
    exact W_uL (W_unNil (W_ret rfl))
def RAct (d : Nat) (G : ORC R) : Prop := ∀ (c : List V) (a : V) (N : Nms) (K : List V → Option R), ActS d a → N.ok → c.length + ca d ≤ 1000000 → W (fun o => o = [.sl 4 (c ++ cA N d c.length a)]) K (G 54 [.sl 4 c, a, N.v] K)
def RBlk (d : Nat) (G : ORC R) : Prop := ∀ (c l : List V) (N : Nms) (K : List V → Option R), BlockS d l → N.ok → c.length + 2 * ca d ≤ 1000000 → W (fun o => o = [.sl 4 (c ++ cR (cA N d) c.length l)]) K (G 40 [.sl 4 c, .sl 8 l, N.v] K)
theorem rblk_loop {d : Nat} (hA : RAct d G) {Q : List V → Prop} {K : List V → Option R} {Ko : List V → Option R} {N : Nms} {l : List V} (hN : N.ok) (hl : BlockS d l) {out : List V} (hKo : W Q K (Ko out)) :
    ∀ (B A : List V) (j : Nat) (c : List V), l = A ++ B → B.length < j → out = c ++ cR (cA N d) c.length B → c.length + B.length * ca d ≤ 1000000 → W Q K (l40_0g G k Ko j c l A.length N.a N.p N.t (N.nd.map Nd.v))
  | B, A, 0, c, h1, h2, h3, h4 => by omega
  | [], A, j + 1, c, h1, h2, h3, h4 => by
    show W Q K (b40_0 G k (l40_0g G k Ko j) Ko c l A.length N.a N.p N.t (N.nd.map Nd.v))
    unfold b40_0
    rw [List.append_nil] at h1
    subst h1
    refine W_no (by omega) ?_
    rw [h3] at hKo
    simpa [cR] using hKo
  | b :: B, A, j + 1, c, h1, h2, h3, h4 => by
    show W Q K (b40_0 G k (l40_0g G k Ko j) Ko c l A.length N.a N.p N.t (N.nd.map Nd.v))
    unfold b40_0
    have hb := hl.2 b (by rw [h1]; simp)
    have lb := cA_len (N := N) (at_ := c.length) hb
    have hlen : l.length = A.length + (B.length + 1) := by rw [h1]; simp
    have h2l := hl.1
    have hget : l[((A.length : Nat) : Int).toNat]? = some b := by rw [Int.toNat_natCast, h1]; simp
    have hA' := hA
    unfold RAct at hA'
    have hb' := hb
    cases d with
    | zero => exact hb.elim
    | succ d =>
    obtain ⟨kind, nm, ev, x, n, th, el, rfl, _⟩ := hb
    rw [List.length_cons, Nat.succ_mul] at h4
    refine W_yes (by omega) (W_at (by omega) hget (W_asAgg ?_))
    refine W_call (hA' c _ N _ hb' hN (by omega)) ?_
    rintro _ rfl
    refine W_uL (W_unNil ?_)
    rw [wrap_id (n := (A.length : Int) + 1) (by omega)]
    have := rblk_loop hA hN hl hKo B (A ++ [V.agg [.int .i64 kind, .str nm, .str ev, .sl 5 x, .int .i64 n, .sl 8 th, .sl 8 el, .int .i64 0]]) j (c ++ cA N (d + 1) c.length (V.agg [.int .i64 kind, .str nm, .str ev, .sl 5 x, .int .i64 n, .sl 8 th, .sl 8 el, .int .i64 0])) (by rw [h1]; simp) (by simp at h2; omega) (by rw [h3, cR, List.length_append, List.append_assoc]) (by rw [List.length_append]; omega)
    simpa using this
theorem rblk_ok {d : Nat} (hk : 1000 ≤ k) (hA : RAct d G) : RBlk d (fun _ args (K : List V → Option R) => g40 G k args K) := by
  intro c l N K hl hN hm
  show W _ K (f40 G k c l N.a N.p N.t (N.nd.map Nd.v) K)
  unfold f40 l40_0
  have h2l := hl.1
  exact rblk_loop (Q := fun o => o = [.sl 4 (c ++ cR (cA N d) c.length l)]) (K := K) (Ko := fun yl => K [.sl 4 yl]) (out := c ++ cR (cA N d) c.length l) hA hN hl (W_ret rfl) l [] k c rfl (by omega) rfl (by have : l.length * ca d ≤ 2 * ca d := Nat.mul_le_mul_right _ hl.1; omega)
theorem ract_ok {d : Nat} (hPl : PlX 61 G) (hE : RX 3 G) (hA : RArg G) (hB : RBlk d G) : RAct (d + 1) (fun _ args (K : List V → Option R) => g54 G k args K) := by
  intro c a N K ha hN hm
  have hlen := cA_len (N := N) (at_ := c.length) ha
  obtain ⟨kind, nm, ev, x, n, th, el, rfl, x1, x2, x3, x4, x5, x6, x7, x8, x9, x10, x11, x12⟩ := ha
  show W _ K (f54 G k c kind nm ev x n th el 0 N.a N.p N.t (N.nd.map Nd.v) K)
  unfold f54
  have hca : ca (d + 1) = ce 3 + 2 + 4 * ca d := rfl
  have hth : BlockS d th := ⟨x9, x11⟩
  have hel : BlockS d el := ⟨x10, x12⟩
  unfold PlX at hPl; unfold RX at hE; unfold RArg at hA; unfold RBlk at hB
  have lx := cX_len (N := N) (at_ := c.length) x7
  have lt := fun q => cBl_len (N := N) (at_ := q) hth
  have le := fun q => cBl_len (N := N) (at_ := q) hel
  refine W_beqI (fun h => ?_) (fun h1 => ?_)
  · refine W_call (hA c x N _ x7 hN (by omega)) ?_
    rintro _ rfl
    refine W_uL (W_unNil ?_)
    refine W_call (hPl _ _ _ hN.1) ?_
    rintro _ rfl
    refine W_uI (W_unNil (W_yes (by (first | (simp only [List.length_append, List.length_cons, List.length_nil]; done) | (simp only [List.length_append, List.length_cons, List.length_nil]; omega))) (W_ret ?_)))
    conv => rhs; unfold cA
    rw [if_pos h, List.append_assoc]; rfl
  refine W_beqI (fun h => ?_) (fun h2 => ?_)
  · refine W_call (hA c x N _ x7 hN (by omega)) ?_
    rintro _ rfl
    refine W_uL (W_unNil (W_yes (by (first | (simp only [List.length_append, List.length_cons, List.length_nil]; done) | (simp only [List.length_append, List.length_cons, List.length_nil]; omega))) (W_ret ?_)))
    conv => rhs; unfold cA
    rw [if_neg h1, if_pos h, List.append_assoc]; rfl
  refine W_beqI (fun h => ?_) (fun h3 => ?_)
  · refine W_call (hA c x N _ x7 hN (by omega)) ?_
    rintro _ rfl
    refine W_uL (W_unNil ?_)
    refine W_call (hPl _ _ _ hN.2.1) ?_
    rintro _ rfl
    refine W_uI (W_unNil (W_yes (by (first | (simp only [List.length_append, List.length_cons, List.length_nil]; done) | (simp only [List.length_append, List.length_cons, List.length_nil]; omega))) (W_ret ?_)))
    conv => rhs; unfold cA
    rw [if_neg h1, if_neg h2, if_pos h, List.append_assoc]; rfl
  refine W_beqI (fun h => ?_) (fun h4 => ?_)
  · refine W_call (hA c x N _ x7 hN (by omega)) ?_
    rintro _ rfl
    refine W_uL (W_unNil ?_)
    refine W_call (hPl _ _ _ hN.2.2.1) ?_
    rintro _ rfl
    refine W_uI (W_unNil (W_yes (by (first | (simp only [List.length_append, List.length_cons, List.length_nil]; done) | (simp only [List.length_append, List.length_cons, List.length_nil]; omega))) (W_ret ?_)))
    conv => rhs; unfold cA
    rw [if_neg h1, if_neg h2, if_neg h3, if_pos h, List.append_assoc]; rfl
  refine W_beqI (fun h => ?_) (fun h5 => ?_)
  · refine W_call (hPl _ _ _ hN.2.2.1) ?_
    rintro _ rfl
    refine W_uI (W_unNil (W_yes (by omega) (W_ret ?_)))
    conv => rhs; unfold cA
    rw [if_neg h1, if_neg h2, if_neg h3, if_neg h4, if_pos h]; rfl
  refine W_beqI (fun h => ?_) (fun h7 => ?_)
  · refine W_yes (by omega) ?_
    refine W_call (hB _ th N _ hth hN (by (first | (simp only [List.length_append, List.length_cons, List.length_nil]; done) | (simp only [List.length_append, List.length_cons, List.length_nil]; omega)))) ?_
    rintro _ rfl
    have hl : ∀ z : V, (c ++ [z]).length = c.length + 1 := fun z => by simp
    rw [hl]
    have lt := lt (c.length + 1)
    generalize hBe : cR (cA N d) (c.length + 1) th = B at lt ⊢
    refine W_uL (W_unNil (W_yes (by (first | (simp only [List.length_append, List.length_cons, List.length_nil]; done) | (simp only [List.length_append, List.length_cons, List.length_nil]; omega))) ?_))
    have e1 : ∀ z w : V, c ++ [z] ++ B ++ [w] = c ++ z :: (B ++ [w]) := fun z w => by simp
    rw [e1]
    refine W_at (by omega) (get_at (by (first | (simp only [Int.toNat_natCast, List.length_append, List.length_cons, List.length_nil, List.length_set]; done) | (simp only [Int.toNat_natCast, List.length_append, List.length_cons, List.length_nil, List.length_set]; omega)))) (W_ca4 ?_)
    rw [set_at (by (first | (simp only [Int.toNat_natCast, List.length_append, List.length_cons, List.length_nil, List.length_set]; done) | (simp only [Int.toNat_natCast, List.length_append, List.length_cons, List.length_nil, List.length_set]; omega)))]
    refine W_ret ?_
    conv => rhs; unfold cA
    rw [if_neg h1, if_neg h2, if_neg h3, if_neg h4, if_neg h5, if_pos h, hBe]
    have e2 : ∀ z w : V, (c ++ z :: (B ++ [w])).length = c.length + B.length + 2 := fun z w => by simp; omega
    rw [e2]; rfl
  have h6 : kind = 6 := by omega
  have hx1 := x8 h6
  obtain ⟨e, rfl⟩ : ∃ e, x = [e] := by
    match x, hx1 with
    | [e], _ => exact ⟨e, rfl⟩
  have he := x7 e (by simp)
  have he' := he
  refine W_yes (by simp) (W_nth0 ?_)
  have fin : cA N (d + 1) c.length (V.agg [.int .i64 kind, .str nm, .str ev, .sl 5 [e], .int .i64 n, .sl 8 th, .sl 8 el, .int .i64 0]) = chX (cA N d) c.length (cE N 3 c.length e) th el := by
    conv => lhs; unfold cA
    rw [if_neg h1, if_neg h2, if_neg h3, if_neg h4, if_neg h5, if_neg h7]; rfl
  have lx' : (cE N 3 c.length e).length ≤ ce 3 := cE_len he
  rw [fin]
  obtain ⟨_, _, _, _, rfl, _⟩ := he
  refine W_asAgg ?_
  refine W_call (hE c _ N _ he' hN (by omega)) ?_
  rintro _ rfl
  generalize hE0 : cE N 3 c.length _ = E at lx' ⊢
  refine W_uL (W_unNil (W_yes (by (first | (simp only [List.length_append, List.length_cons, List.length_nil]; done) | (simp only [List.length_append, List.length_cons, List.length_nil]; omega))) ?_))
  refine W_call (hB _ th N _ hth hN (by (first | (simp only [List.length_append, List.length_cons, List.length_nil]; done) | (simp only [List.length_append, List.length_cons, List.length_nil]; omega)))) ?_
  rintro _ rfl
  have hl : ∀ z : V, (c ++ E ++ [z]).length = c.length + E.length + 1 := fun z => by simp; omega
  rw [hl]
  have lt := lt (c.length + E.length + 1)
  generalize hBe : cR (cA N d) (c.length + E.length + 1) th = B at lt ⊢
  refine W_uL (W_unNil ?_)
  cases el with
  | nil =>
    refine W_no (by simp) ?_
    have e1 : ∀ z : V, c ++ E ++ [z] ++ B = (c ++ E) ++ z :: B := fun z => by simp
    rw [e1]
    refine W_at (by omega) (get_at (by (first | (simp only [Int.toNat_natCast, List.length_append, List.length_cons, List.length_nil, List.length_set]; done) | (simp only [Int.toNat_natCast, List.length_append, List.length_cons, List.length_nil, List.length_set]; omega)))) (W_ca4 ?_)
    rw [set_at (L := c ++ E) (by (first | (simp only [Int.toNat_natCast, List.length_append, List.length_cons, List.length_nil, List.length_set]; done) | (simp only [Int.toNat_natCast, List.length_append, List.length_cons, List.length_nil, List.length_set]; omega)))]
    refine W_ret ?_
    have e2 : ∀ z : V, ((c ++ E) ++ z :: B).length = c.length + E.length + 1 + B.length := fun z => by simp; omega
    rw [e2]
    rw [chX, hBe, ifX, List.append_assoc]; rfl
  | cons e0 r0 =>
    have le := le (c.length + E.length + 1 + B.length + 1)
    rw [chX, hBe]
    refine W_yes (by simp) ?_
    refine W_yes (by (first | (simp only [List.length_append, List.length_cons, List.length_nil]; done) | (simp only [List.length_append, List.length_cons, List.length_nil]; omega))) ?_
    have e1 : ∀ z w : V, c ++ E ++ [z] ++ B ++ [w] = (c ++ E) ++ z :: (B ++ [w]) := fun z w => by simp
    rw [e1]
    refine W_at (by omega) (get_at (by (first | (simp only [Int.toNat_natCast, List.length_append, List.length_cons, List.length_nil, List.length_set]; done) | (simp only [Int.toNat_natCast, List.length_append, List.length_cons, List.length_nil, List.length_set]; omega)))) (W_ca4 ?_)
    rw [set_at (L := c ++ E) (by (first | (simp only [Int.toNat_natCast, List.length_append, List.length_cons, List.length_nil, List.length_set]; done) | (simp only [Int.toNat_natCast, List.length_append, List.length_cons, List.length_nil, List.length_set]; omega)))]
    have e2 : ∀ z w : V, ((c ++ E) ++ z :: (B ++ [w])).length = c.length + E.length + 1 + B.length + 1 := fun z w => by simp; omega
    rw [e2]
    refine W_call (hB _ (e0 :: r0) N _ hel hN (by rw [e2]; omega)) ?_
    rintro _ rfl
    rw [e2]
    generalize hCe : cR (cA N d) (c.length + E.length + 1 + B.length + 1) (e0 :: r0) = C at le ⊢
    refine W_uL (W_unNil ?_)
    have e3 : ∀ z w : V, (c ++ E) ++ z :: (B ++ [w]) ++ C = (c ++ E ++ z :: B) ++ w :: C := fun z w => by simp
    rw [e3]
    have e4 : ((c ++ E ++ [V.agg [.int .i64 24, .int .i64 0, .int .i64 0, .str ⟨#[]⟩]] ++ B).length : Int) = ((c ++ E ++ V.agg [.int .i64 24, .int .i64 0, .int .i64 0, .str ⟨#[]⟩] :: B).length : Nat) := by simp
    first
      | rw [e4]
      | skip
    refine W_at (by omega) (get_at (by (first | (simp only [Int.toNat_natCast, List.length_append, List.length_cons, List.length_nil, List.length_set]; done) | (simp only [Int.toNat_natCast, List.length_append, List.length_cons, List.length_nil, List.length_set]; omega)))) (W_ca4 ?_)
    rw [set_at (L := c ++ E ++ _ :: B) (by (first | (simp only [Int.toNat_natCast, List.length_append, List.length_cons, List.length_nil, List.length_set]; done) | (simp only [Int.toNat_natCast, List.length_append, List.length_cons, List.length_nil, List.length_set]; omega)))]
    refine W_ret ?_
    have e5 : ∀ z w : V, ((c ++ E ++ z :: B) ++ w :: C).length = c.length + E.length + 1 + B.length + 1 + C.length := fun z w => by simp; omega
    rw [e5, elX]
    simp [ins]
def BlX (f : FuncId) (d : Nat) (G : ORC R) : Prop := ∀ (l : List V) (N : Nms) (K : List V → Option R), BlockS d l → N.ok → W (fun o => o = [.sl 4 (cR (cA N d) 0 l)]) K (G f [.sl 8 l, N.v] K)
theorem rblx_ok {d : Nat} (hd : 2 * ca d ≤ 1000000) (hB : RBlk d G) : BlX 19 d (fun _ args (K : List V → Option R) => g19 G k args K) := by
  intro l N K hl hN
  show W _ K (f19 G k l N.a N.p N.t (N.nd.map Nd.v) K)
  unfold f19
  unfold RBlk at hB
  refine W_call (hB [] l N _ hl hN (by simpa using hd)) ?_
  rintro _ rfl
  exact W_uL (W_unNil (W_ret rfl))
end
section
variable {R : Type} {G : ORC R} {k : Nat} {K : List V → Option R}
def GdX (f : FuncId) (d : Nat) (G : ORC R) : Prop := ∀ (e : V) (N : Nms) (K : List V → Option R), ExprS d e → N.ok → W (fun o => o = [.sl 4 (cE N d 0 e)]) K (G f [e, N.v] K)
theorem rgdx_ok {d : Nat} (hd : ce d ≤ 1000000) (hE : RX d G) : GdX 25 d (fun _ args (K : List V → Option R) => g25 G k args K) := by
  intro e N K he hN
  have he' := he
  cases d with
  | zero => exact he.elim
  | succ d =>
  obtain ⟨kind, n, nm, kids, rfl, _⟩ := he
  show W _ K (f25 G k kind n nm kids 0 N.a N.p N.t (N.nd.map Nd.v) K)
  unfold f25
  unfold RX at hE
  refine W_call (hE [] _ N _ he' hN (by simpa using hd)) ?_
  rintro _ rfl
  exact W_uL (W_unNil (W_ret rfl))
end
set_option maxHeartbeats 16000000
section
variable {R : Type} {G : ORC R} {k : Nat} {K : List V → Option R} {Q : List V → Prop}
def LifeX (G : ORC R) : Prop := ∀ (x y : Int) (b : Bool) (K : List V → Option R), W (fun o => o = [lifeV b x y]) K (G 28 [.int .i64 x, .int .i64 y, .bool b] K)
theorem life_ok : LifeX (fun _ args (K : List V → Option R) => g28 G k args K) := by
  intro x y b K
  show W _ K (f28 G k x y b K)
  unfold f28
  cases b <;> exact W_ret rfl
def VarsX (G : ORC R) : Prop := ∀ (l : List Int) (K : List V → Option R), l.length ≤ 1000000 → W (fun o => o = [.bool true]) K (G 33 [.sl 1 (iv l), .sl 1 (iv l)] K)
theorem vars_loop {Ko : Unit → Option R} {Kr : Bool → Option R} {l : List Int} (hl : l.length ≤ 1000000) (hKo : W Q K (Ko ())) : ∀ (j m : Nat), l.length - m < j → m ≤ l.length → W Q K (l33_0g G k Ko Kr j (iv l) (iv l) m)
  | 0, m, h1, h2 => by omega
  | j + 1, m, h1, h2 => by
    show W Q K (b33_0 G k (l33_0g G k Ko Kr j) Ko Kr (iv l) (iv l) m)
    unfold b33_0
    refine W_dec (fun h => ?_) (fun h => hKo)
    rw [iv_len] at h
    obtain ⟨x, hx⟩ : ∃ x, l[m]? = some x := ⟨_, List.getElem?_eq_getElem (by omega)⟩
    refine W_at (by omega) (by rw [Int.toNat_natCast]; exact iv_get hx) (W_aI ?_)
    refine W_at (by omega) (by rw [Int.toNat_natCast]; exact iv_get hx) (W_aI (W_neN rfl ?_))
    rw [wrap_id (n := (m : Int) + 1) (by omega)]
    exact vars_loop hl hKo j (m + 1) (by omega) (by omega)
theorem vars_ok (hk : 1048578 ≤ k) : VarsX (fun _ args (K : List V → Option R) => g33 G k args K) := by
  intro l K hl
  show W _ K (f33 G k (iv l) (iv l) K)
  unfold f33 l33_0
  refine W_neN rfl ?_
  exact vars_loop (Q := fun o => o = [.bool true]) (K := K) (G := G) (k := k) (Ko := fun _ => K [.bool true]) (Kr := fun x => K [.bool x]) hl (W_ret rfl) k 0 (by omega) (by omega)
def SameX (G : ORC R) : Prop := ∀ (d : Dn) (A : Int → Prop) (K : List V → Option R), RaS d.ra → EfS A d.ef → d.vs.length ≤ 1000000 → d.ra.length ≤ 1048576 → d.ef.length ≤ 1048576 → W (fun o => o = [.bool true]) K (G 30 [d.l, d.l] K)
theorem same0_loop {Ko : Int → List V → List V → List V → Int → Int → Int → List V → List V → List V → Int → Int → Option R} {Kr : Bool → Option R} {v : Int} {vs ra ef : List V} {co cd : Int} (hr : RaS ra) (hl : ra.length ≤ 1048576) (hKo : W Q K (Ko v vs ra ef co cd v vs ra ef co cd)) : ∀ (j m : Nat), ra.length - m < j → m ≤ ra.length → W Q K (l30_0g G k Ko Kr j m v vs ra ef co cd v vs ra ef co cd)
  | 0, m, h1, h2 => by omega
  | j + 1, m, h1, h2 => by
    show W Q K (b30_0 G k (l30_0g G k Ko Kr j) Ko Kr m v vs ra ef co cd v vs ra ef co cd)
    unfold b30_0
    refine W_dec (fun h => ?_) (fun h => hKo)
    obtain ⟨w, hw⟩ : ∃ w, ra[m]? = some w := ⟨_, List.getElem?_eq_getElem (by omega)⟩
    obtain ⟨s, n, rfl⟩ := hr w (List.mem_of_getElem? hw)
    refine W_at (by omega) (by rw [Int.toNat_natCast]; exact hw) (W_asAgg ?_)
    refine W_at (by omega) (by rw [Int.toNat_natCast]; exact hw) (W_asAgg ?_)
    refine W_ce2 (W_ce2 ?_)
    (repeat(with_reducible apply U1))
    refine W_and ?_
    (repeat(with_reducible apply U1))
    refine W_chk' (by simp) ?_
    rw [wrap_id (n := (m : Int) + 1) (by omega)]
    exact same0_loop hr hl hKo j (m + 1) (by omega) (by omega)
theorem same2_loop {Ko : Unit → Option R} {Kr : Bool → Option R} {A : Int → Prop} {v : Int} {vs ra ef : List V} {co cd : Int} (hr : EfS A ef) (hl : ef.length ≤ 1048576) (hKo : W Q K (Ko ())) : ∀ (j m : Nat), ef.length - m < j → m ≤ ef.length → W Q K (l30_2g G k Ko Kr j m v vs ra ef co cd v vs ra ef co cd)
  | 0, m, h1, h2 => by omega
  | j + 1, m, h1, h2 => by
    show W Q K (b30_2 G k (l30_2g G k Ko Kr j) Ko Kr m v vs ra ef co cd v vs ra ef co cd)
    unfold b30_2
    refine W_dec (fun h => ?_) (fun h => hKo)
    obtain ⟨w, hw⟩ : ∃ w, ef[m]? = some w := ⟨_, List.getElem?_eq_getElem (by omega)⟩
    obtain ⟨kd, a, s, n, rfl, _⟩ := hr w (List.mem_of_getElem? hw)
    refine W_at (by omega) (by rw [Int.toNat_natCast]; exact hw) (W_asAgg ?_)
    refine W_at (by omega) (by rw [Int.toNat_natCast]; exact hw) (W_asAgg ?_)
    (repeat(with_reducible apply U1))
    refine W_and ?_
    (repeat(with_reducible apply U1))
    refine W_and ?_
    (repeat(with_reducible apply U1))
    refine W_and ?_
    (repeat(with_reducible apply U1))
    refine W_chk' (by simp) ?_
    rw [wrap_id (n := (m : Int) + 1) (by omega)]
    exact same2_loop hr hl hKo j (m + 1) (by omega) (by omega)
theorem same_ok (hk : 1048578 ≤ k) (hV : VarsX G) : SameX (fun _ args (K : List V → Option R) => g30 G k args K) := by
  intro d A K h1 h2 l1 l2 l3
  refine W_show (y := f30 G k d.v (iv d.vs) d.ra d.ef d.co d.cd d.v (iv d.vs) d.ra d.ef d.co d.cd K) (by kernel_rfl) ?_
  unfold f30
  unfold VarsX at hV
  refine W_neN rfl (W_neN rfl (W_neN rfl (W_call (hV _ _ l1) ?_)))
  rintro _ rfl
  (repeat(with_reducible apply U1))
  refine W_not (W_chk rfl ?_)
  refine W_neN rfl (W_neN rfl ?_)
  unfold l30_0
  refine same0_loop h1 l2 ?_ k 0 (by omega) (by omega)
  unfold l30_2
  exact same2_loop (Q := fun o => o = [.bool true]) (K := K) (G := G) (k := k) (Ko := fun _ => K [.bool true]) (Kr := fun x => K [.bool x]) h2 l3 (W_ret rfl) k 0 (by omega) (by omega)
def KnX (G : ORC R) : Prop := ∀ K : List V → Option R, G 26 [] K = K [.bool true]
theorem knx_go (hKn : KnX G) : W (fun o => o = [.bool true]) K (G 26 [] fun o => uB o fun b r => unNil r (K [.bool b])) := by
  rw [hKn]; exact W_uB (W_unNil (W_ret rfl))
def Nd0X (G : ORC R) : Prop := ∀ K : List V → Option R, G 35 [.agg [(.str ⟨#[]⟩), (.int .i64 0), (.int .i64 0), (.sl 3 []), (.sl 3 []), (.sl 3 []), (.sl 7 [(.agg [(.int .i64 1), (.str ⟨#[105, 100, 108, 101]⟩), (.sl 8 []), (.sl 8 []), (.sl 5 []), (.sl 7 []), (.int .i64 0)]), (.agg [(.int .i64 1), (.str ⟨#[98, 117, 115, 121]⟩), (.sl 8 []), (.sl 8 []), (.sl 5 []), (.sl 7 []), (.int .i64 0)])]), (.int .i64 0)]] K = K [.sl 7 (nd0.map Nd.v)]
def MadeS (b : Bool) (c : List V) : Prop := if b then ∃ l, BlockM N0.a N0.p 4 l ∧ c = cR (cA N0 4) 0 l else ∃ e, ExprM N0.a 6 e ∧ c = cE N0 6 0 e
def MadeX (G : ORC R) : Prop := ∀ (v : List V) (b : Bool) (K : List V → Option R), IntsS v → v.length ≤ 200 → W (fun o => ∃ c, o = [.sl 4 c] ∧ MadeS b c) K (G 27 [.sl 1 v, .bool b] K)
theorem n0a_ne : N0.a ≠ [] := by decide
theorem n0p_ne : N0.p ≠ [] := by decide
theorem scS_strs' : StrsS 100 scS := by
  refine ⟨by decide, fun v hv => ?_⟩
  simp only [scS, List.mem_cons, List.not_mem_nil, or_false] at hv
  rcases hv with rfl | rfl
  · exact ⟨_, rfl, by unfold StrS; decide⟩
  · exact ⟨_, rfl, by unfold StrS; decide⟩
theorem made_ok (hN : Nd0X G) (hB : BlockOKM 3 G) (hE : ExprOKM 5 G) (hRB : BlX 19 4 G) (hRG : GdX 25 6 G) : MadeX (fun _ args (K : List V → Option R) => g27 G k args K) := by
  intro v b K hv hl
  show W _ K (f27 G k v b K)
  unfold f27
  rw [hN]
  (repeat(with_reducible apply U1))
  unfold BlockOKM at hB; unfold ExprOKM at hE; unfold BlX at hRB; unfold GdX at hRG
  have hN0 := N0_ok
  refine W_bool (fun hb => ?_) (fun hb => ?_)
  · subst hb
    refine W_call (hB N0.a N0.p N0.t scS _ _ _ _ rfl n0a_ne n0p_ne hN0.1 hN0.2.1 hN0.2.2.1 scS_strs' ⟨hv, by omega, by omega, by omega⟩) ?_
    rintro _ ⟨l, j, rfl, hl, hj⟩
    (repeat(with_reducible apply U1))
    refine W_call (hRB _ N0 _ hl.s hN0) ?_
    rintro _ rfl
    (repeat(with_reducible apply U1))
    exact W_ret ⟨_, rfl, by unfold MadeS; rw [if_pos rfl]; exact ⟨l, hl, rfl⟩⟩
  · subst hb
    refine W_call (hE N0.a N0.p N0.t scS _ _ _ _ rfl n0a_ne hN0.1 scS_strs' ⟨hv, by omega, by omega, by omega⟩) ?_
    rintro _ ⟨e, j, rfl, he, hj⟩
    have he' := he
    obtain ⟨kind, n, nm, kids, rfl, _⟩ := he
    (repeat(with_reducible apply U1))
    refine W_call (hRG _ N0 _ he'.s hN0) ?_
    rintro _ rfl
    (repeat(with_reducible apply U1))
    exact W_ret ⟨_, rfl, by unfold MadeS; rw [if_neg (by decide)]; exact ⟨_, he', rfl⟩⟩
theorem made_len {b : Bool} {c : List V} (h : MadeS b c) : c.length ≤ 9900 := by
  unfold MadeS at h
  cases b with
  | true => obtain ⟨l, hl, rfl⟩ := h; exact Nat.le_trans (cBl_len hl.s) (by decide)
  | false => obtain ⟨e, he, rfl⟩ := h; exact Nat.le_trans (cE_len he.s) (by decide)
theorem made_run {b bz : Bool} {c : List V} {g x y : Int} (F : Int) (h : MadeS b c) (hg : InR g) (hx : InR x) (hy : InR y) : ∃ d, Run bz g c F (st0 x y) 0 d := by
  have hl := made_len h
  unfold MadeS at h
  cases b with
  | true => obtain ⟨l, hb, rfl⟩ := h; obtain ⟨t, _, d, hd, _⟩ := runB (b := bz) (F := F) hg hx hy hb (by omega); exact ⟨d, hd⟩
  | false => obtain ⟨e, he, rfl⟩ := h; obtain ⟨d, hd, _⟩ := runE (b := bz) (F := F) hg hx hy he; exact ⟨d, hd⟩
theorem ras0 : RaS [] := fun v hv => by cases hv
theorem efs0 {A : Int → Prop} : EfS A [] := fun v hv => by cases hv
theorem run_fit {bz : Bool} {c : List V} {g x y F : Int} {d : Dn} (h : Run bz g c (clip F) (st0 x y) 0 d) : RaS d.ra ∧ EfS (fun _ => True) d.ef ∧ d.vs.length = 2 ∧ d.ra.length ≤ 1048576 ∧ d.ef.length ≤ 1048576 ∧ d.co ≤ 1048576 ∧ 0 ≤ d.co := by
  obtain ⟨k1, k2⟩ := run_shape (A := fun _ => True) h (fun _ _ _ _ _ _ => trivial) ras0 efs0
  obtain ⟨_, _, k3, k4⟩ := run_pre h
  obtain ⟨k5, k6, k7⟩ := run_bd h st0_bd (clip_le F).2
  have := clip_le F
  exact ⟨k1, k2, k3, by omega, by omega, by omega, k4⟩
end
section
variable {R : Type} {G : ORC R} {k : Nat} {K : List V → Option R} {Q : List V → Prop}
def RunsOK (G : ORC R) : Prop := ∀ (v : List V) (b : Bool) (x y : Int) (bz : Bool) (g F : Int) (K : List V → Option R), IntsS v → I64 x → I64 y → I64 g → W (fun o => o = [.bool true]) K (G 8 [.sl 1 v, .bool b, .int .i64 x, .int .i64 y, .bool bz, .int .i64 g, .int .i64 F] K)
theorem runs_law (hKn : KnX G) (hM : MadeX G) (hL : LifeX G) (hP : PlaceS G) (hE : RunX 31 G) (hR : RunX 32 G) (hS : SameX G) : RunsOK (fun _ args (K : List V → Option R) => g8 G k args K) := by
  intro v b x y bz g F K hv hx hy hg
  show W _ K (f8 G k v b x y bz g F K)
  unfold f8
  unfold MadeX at hM; unfold LifeX at hL; unfold PlaceS at hP; unfold RunX at hE hR; unfold SameX at hS
  refine W_dec (fun _ => knx_go hKn) (fun h => ?_)
  refine W_call (hM v b _ hv (by omega)) ?_
  rintro _ ⟨c, rfl, hc⟩
  have hlen := made_len hc
  (repeat(with_reducible apply U1))
  refine W_call (hL _ _ _ _) ?_
  rintro _ rfl
  unfold lifeV at hE hR ⊢
  (repeat(with_reducible apply U1))
  refine W_call (hP _ _ _ (by omega) (by omega)) ?_
  rintro _ ⟨z, rfl, _, _⟩
  (repeat(with_reducible apply U1))
  obtain ⟨d1, hd1⟩ := made_run (bz := bz) (clip z) hc hg hx hy
  obtain ⟨d2, hd2⟩ := made_run (bz := bz) (clip F) hc hg hx hy
  refine W_call (hE bz g c x y z d1 _ hd1 (by omega) hg) ?_
  rintro _ rfl
  unfold Dn.l at hE hR hS ⊢
  (repeat(with_reducible apply U1))
  refine W_call (hR bz g c x y z d1 _ hd1 (by omega) hg) ?_
  rintro _ rfl
  (repeat(with_reducible apply U1))
  obtain ⟨a1, a2, a3, a4, a5, _⟩ := run_fit hd1
  refine W_call (hS d1 _ _ a1 a2 (by omega) a4 a5) ?_
  rintro _ rfl
  (repeat(with_reducible apply U1))
  refine W_chk rfl (W_call (hE bz g c x y F d2 _ hd2 (by omega) hg) ?_)
  rintro _ rfl
  (repeat(with_reducible apply U1))
  refine W_call (hR bz g c x y F d2 _ hd2 (by omega) hg) ?_
  rintro _ rfl
  (repeat(with_reducible apply U1))
  obtain ⟨b1, b2, b3, b4, b5, _⟩ := run_fit hd2
  refine W_call (hS d2 _ _ b1 b2 (by omega) b4 b5) ?_
  rintro _ rfl
  (repeat(with_reducible apply U1))
  exact W_chk rfl (knx_go hKn)
end
def rnB (k : Nat) (G : ORC (List V)) : ORC (List V) := fun f args K => match f with
    | 8 => g8 G k args K
    | 16 => g16 G k args K
    | 19 => g19 G k args K
    | 23 => g23 G k args K
    | 25 => g25 G k args K
    | 26 => g26 G k args K
    | 27 => g27 G k args K
    | 28 => g28 G k args K
    | 29 => g29 G k args K
    | 30 => g30 G k args K
    | 31 => g31 G k args K
    | 32 => g32 G k args K
    | 33 => g33 G k args K
    | 35 => g35 G k args K
    | 36 => g36 G k args K
    | 37 => g37 G k args K
    | 38 => g38 G k args K
    | 40 => g40 G k args K
    | 42 => g42 G k args K
    | 43 => g43 G k args K
    | 44 => g44 G k args K
    | 46 => g46 G k args K
    | 47 => g47 G k args K
    | 48 => g48 G k args K
    | 49 => g49 G k args K
    | 50 => g50 G k args K
    | 54 => g54 G k args K
    | 61 => g61 G k args K
    | 62 => g62 G k args K
    | 63 => g63 G k args K
    | 64 => g64 G k args K
    | 65 => g65 G k args K
    | 66 => g66 G k args K
    | 67 => g67 G k args K
    | 68 => g68 G k args K
    | 69 => g69 G k args K
    | 70 => g70 G k args K
    | 71 => g71 G k args K
    | 72 => g72 G k args K
    | 73 => g73 G k args K
    | 74 => g74 G k args K
    | 75 => g75 G k args K
    | 76 => g76 G k args K
    | 77 => g77 G k args K
    | 78 => g78 G k args K
    | 79 => g79 G k args K
    | 80 => g80 G k args K
    | 81 => g81 G k args K
    | 82 => g82 G k args K
    | 83 => g83 G k args K
    | 86 => g86 G k args K
    | 89 => g89 G k args K
    | 90 => g90 G k args K
    | 91 => g91 G k args K
    | 92 => g92 G k args K
    | 93 => g93 G k args K
    | 94 => g94 G k args K
    | 95 => g95 G k args K
    | 96 => g96 G k args K
    | 97 => g97 G k args K
    | 98 => g98 G k args K
    | 99 => g99 G k args K
    | 100 => g100 G k args K
    | _ => none
def rn (k : Nat) : Nat → ORC (List V)
  | 0 => fun _ _ _ => none
  | j + 1 => fun f args K => (rnB k (rn k j) f args some).bind K
theorem rn_sound (k : Nat) : ∀ j, Sound Try.prog TAB (rn k j)
  | 0 => fun f args K r h => by cases h
  | j + 1 => fun f args K r h => by
    have ih := rn_sound k j
    have h : (rnB k (rn k j) f args some).bind K = some r := h
    cases hb : rnB k (rn k j) f args some with
    | none => rw [hb] at h; cases h
    | some o =>
    rw [hb] at h
    have key : ∃ o', CallOK Try.prog TAB.env f args o' ∧ some o' = some o := by
      unfold rnB at hb
      split at hb
      · exact s8 ih args some o hb
      · exact s16 ih args some o hb
      · exact s19 ih args some o hb
      · exact s23 ih args some o hb
      · exact s25 ih args some o hb
      · exact s26 ih args some o hb
      · exact s27 ih args some o hb
      · exact s28 ih args some o hb
      · exact s29 ih args some o hb
      · exact s30 ih args some o hb
      · exact s31 ih args some o hb
      · exact s32 ih args some o hb
      · exact s33 ih args some o hb
      · exact s35 ih args some o hb
      · exact s36 ih args some o hb
      · exact s37 ih args some o hb
      · exact s38 ih args some o hb
      · exact s40 ih args some o hb
      · exact s42 ih args some o hb
      · exact s43 ih args some o hb
      · exact s44 ih args some o hb
      · exact s46 ih args some o hb
      · exact s47 ih args some o hb
      · exact s48 ih args some o hb
      · exact s49 ih args some o hb
      · exact s50 ih args some o hb
      · exact s54 ih args some o hb
      · exact s61 ih args some o hb
      · exact s62 ih args some o hb
      · exact s63 ih args some o hb
      · exact s64 ih args some o hb
      · exact s65 ih args some o hb
      · exact s66 ih args some o hb
      · exact s67 ih args some o hb
      · exact s68 ih args some o hb
      · exact s69 ih args some o hb
      · exact s70 ih args some o hb
      · exact s71 ih args some o hb
      · exact s72 ih args some o hb
      · exact s73 ih args some o hb
      · exact s74 ih args some o hb
      · exact s75 ih args some o hb
      · exact s76 ih args some o hb
      · exact s77 ih args some o hb
      · exact s78 ih args some o hb
      · exact s79 ih args some o hb
      · exact s80 ih args some o hb
      · exact s81 ih args some o hb
      · exact s82 ih args some o hb
      · exact s83 ih args some o hb
      · exact s86 ih args some o hb
      · exact s89 ih args some o hb
      · exact s90 ih args some o hb
      · exact s91 ih args some o hb
      · exact s92 ih args some o hb
      · exact s93 ih args some o hb
      · exact s94 ih args some o hb
      · exact s95 ih args some o hb
      · exact s96 ih args some o hb
      · exact s97 ih args some o hb
      · exact s98 ih args some o hb
      · exact s99 ih args some o hb
      · exact s100 ih args some o hb
      · cases hb
    obtain ⟨o', h1, h2⟩ := key
    cases h2
    exact ⟨o, h1, h⟩
theorem rn_U {k j : Nat} {f : FuncId} {args : List V} {Q : List V → Prop} (h : W Q some (rnB k (rn k j) f args some)) : ∃ o, Q o ∧ ∀ K, rn k (j + 1) f args K = K o := by
  obtain ⟨o, q, e⟩ := h
  exact ⟨o, q, fun K => by show (rnB k (rn k j) f args some).bind K = _; rw [e]; rfl⟩
theorem rn_W {k j : Nat} {f : FuncId} {args : List V} {Q : List V → Prop} {K : List V → Option (List V)} (h : W Q some (rnB k (rn k j) f args some)) : W Q K (rn k (j + 1) f args K) := by
  obtain ⟨o, q, e⟩ := rn_U h
  exact ⟨o, q, e K⟩
set_option maxHeartbeats 8000000
section
def Ev (P : ORC (List V) → Prop) : Prop := ∃ N, ∀ j, N ≤ j → P (rn 1100000 j)
theorem ev0 {P : ORC (List V) → Prop} (h : ∀ j, P (rn 1100000 (j + 1))) : Ev P := ⟨1, fun j hj => by obtain ⟨j', rfl⟩ : ∃ j', j = j' + 1 := ⟨j - 1, by omega⟩; exact h j'⟩
theorem evS {A P : ORC (List V) → Prop} (hA : Ev A) (h : ∀ j, A (rn 1100000 j) → P (rn 1100000 (j + 1))) : Ev P := by
  obtain ⟨N, hN⟩ := hA
  refine ⟨N + 1, fun j hj => ?_⟩
  obtain ⟨j', rfl⟩ : ∃ j', j = j' + 1 := ⟨j - 1, by omega⟩
  exact h j' (hN j' (by omega))
theorem evA {A B : ORC (List V) → Prop} (hA : Ev A) (hB : Ev B) : Ev fun G => A G ∧ B G := by
  obtain ⟨N, hN⟩ := hA
  obtain ⟨M, hM⟩ := hB
  exact ⟨N + M, fun j hj => ⟨hN j (by omega), hM j (by omega)⟩⟩
theorem evT {P : ORC (List V) → Prop} (h : ∀ G, P G) : Ev P := ⟨0, fun j _ => h _⟩
theorem evPlace : Ev PlaceS := ev0 fun j => by have e := place_ok (G := rn 1100000 j) (k := 1100000); unfold PlaceS at e ⊢; (intros; refine rn_W ?_; apply e <;> assumption)
theorem evNext : Ev NextS := evS evPlace fun j h => by have e := next_ok (G := rn 1100000 j) (k := 1100000) h; unfold NextS at e ⊢; (intros; refine rn_W ?_; apply e <;> assumption)
theorem evPick : Ev PickS := evS evNext fun j h => by have e := pick_ok (G := rn 1100000 j) (k := 1100000) h; unfold PickS at e ⊢; (intros; refine rn_W ?_; apply e <;> assumption)
end
theorem evFind : Ev FindOK := ev0 fun j => by have e := find_ok (G := rn 1100000 j) (k := 1100000) (by omega); unfold FindOK at e ⊢; (intros; refine rn_W ?_; apply e <;> assumption)
theorem evPlX : Ev (PlX 61) := ev0 fun j => by have e := plx_ok (G := rn 1100000 j) (k := 1100000) (by omega); unfold PlX at e ⊢; (intros; refine rn_W ?_; apply e <;> assumption)
theorem evOpX : Ev (OpX 63) := ev0 fun j => by have e := opx_ok (G := rn 1100000 j) (k := 1100000); unfold OpX at e ⊢; (intros; refine rn_W ?_; apply e <;> assumption)
theorem evRX : ∀ d, Ev (RX d)
  | 0 => evT fun G c e N K h => h.elim
  | d + 1 => evS (evA (evA evPlX evFind) (evA (evA evOpX (evRX d)) (evA (P1 d) (P2 d)))) fun j h => by have e := rexprx_ok (G := rn 1100000 j) (k := 1100000) h.1.1 h.1.2 h.2.1.1 h.2.1.2 h.2.2.1 h.2.2.2; unfold RX at e ⊢; (intros; refine rn_W ?_; apply e <;> assumption)
where
  P1 (d : Nat) : Ev (RBX 64 andX 1 d) := evS (evRX d) fun j h => by have e := randx_ok (G := rn 1100000 j) (k := 1100000) h; unfold RBX at e ⊢; (intros; refine rn_W ?_; apply e <;> assumption)
  P2 (d : Nat) : Ev (RBX 65 orX 3 d) := evS (evRX d) fun j h => by have e := rorx_ok (G := rn 1100000 j) (k := 1100000) h; unfold RBX at e ⊢; (intros; refine rn_W ?_; apply e <;> assumption)
theorem evRArg : Ev RArg := evS (evRX 3) fun j h => by have e := rarg_ok (G := rn 1100000 j) (k := 1100000) h; unfold RArg at e ⊢; (intros; refine rn_W ?_; apply e <;> assumption)
theorem evRAct : ∀ d, Ev (RAct d)
  | 0 => evT fun G c a N K h => h.elim
  | d + 1 => evS (evA (evA evPlX (evRX 3)) (evA evRArg (evS (P := RBlk d) (evRAct d) fun j h => by have e := rblk_ok (G := rn 1100000 j) (k := 1100000) (by omega) h; unfold RBlk at e ⊢; (intros; refine rn_W ?_; apply e <;> assumption)))) fun j h => by have e := ract_ok (G := rn 1100000 j) (k := 1100000) h.1.1 h.1.2 h.2.1 h.2.2; unfold RAct at e ⊢; (intros; refine rn_W ?_; apply e <;> assumption)
theorem evRBlk {d : Nat} : Ev (RBlk d) := evS (evRAct d) fun j h => by have e := rblk_ok (G := rn 1100000 j) (k := 1100000) (by omega) h; unfold RBlk at e ⊢; (intros; refine rn_W ?_; apply e <;> assumption)
theorem evRBl {d : Nat} (hd : 2 * ca d ≤ 1000000) : Ev (BlX 19 d) := evS evRBlk fun j h => by have e := rblx_ok (G := rn 1100000 j) (k := 1100000) hd h; unfold BlX at e ⊢; (intros; refine rn_W ?_; apply e <;> assumption)
theorem evEventR : Ev EventS := evS evPlace fun j h => by have e := event_ok (G := rn 1100000 j) (k := 1100000) h; unfold EventS at e ⊢; (intros; refine rn_W ?_; apply e <;> assumption)
theorem evExprM : ∀ d, d ≤ 20 → Ev (ExprOKM d)
  | 0, _ => evS (evA evNext evPick) fun j h => by have e := exprM_ok (G := rn 1100000 j) (k := 1100000) (d := 0) (by omega) h.1 h.2 (fun d' e => by omega); unfold ExprOKM at e ⊢; (intros; refine rn_W ?_; apply e <;> assumption)
  | d + 1, hd => evS (evA (evA evNext evPick) (evExprM d (by omega))) fun j h => by have e := exprM_ok (G := rn 1100000 j) (k := 1100000) (d := d + 1) hd h.1.1 h.1.2 (fun d' e => by cases e; exact h.2); unfold ExprOKM at e ⊢; (intros; refine rn_W ?_; apply e <;> assumption)
theorem evBlockM : ∀ d, d ≤ 3 → Ev (BlockOKM d)
  | 0, _ => evS (evA (evA evNext evPick) (evA evEventR (evExprM 2 (by omega)))) fun j h => by have e := blockM_ok (G := rn 1100000 j) (k := 1100000) (d := 0) (by omega) (by omega) h.1.1 h.1.2 h.2.1 h.2.2 (fun d' e => by omega); unfold BlockOKM at e ⊢; (intros; refine rn_W ?_; apply e <;> assumption)
  | d + 1, hd => evS (evA (evA (evA evNext evPick) (evA evEventR (evExprM 2 (by omega)))) (evBlockM d (by omega))) fun j h => by have e := blockM_ok (G := rn 1100000 j) (k := 1100000) (d := d + 1) (by omega) hd h.1.1.1 h.1.1.2 h.1.2.1 h.1.2.2 (fun d' e => by cases e; exact h.2); unfold BlockOKM at e ⊢; (intros; refine rn_W ?_; apply e <;> assumption)
theorem evNAdd : Ev (TwoX 95 fun a b => over (a + b)) := ev0 fun j => by have e := nadd_ok (G := rn 1100000 j) (k := 1100000); unfold TwoX at e ⊢; (intros; refine rn_W ?_; apply e <;> assumption)
theorem evNSub : Ev (TwoX 90 fun a b => over (a - b)) := ev0 fun j => by have e := nsub_ok (G := rn 1100000 j) (k := 1100000); unfold TwoX at e ⊢; (intros; refine rn_W ?_; apply e <;> assumption)
theorem evNMul : Ev (TwoX 92 fun a b => over (a * b)) := ev0 fun j => by have e := nmul_ok (G := rn 1100000 j) (k := 1100000); unfold TwoX at e ⊢; (intros; refine rn_W ?_; apply e <;> assumption)
theorem evNMod : Ev (TwoX 94 modR) := ev0 fun j => by have e := nmod_ok (G := rn 1100000 j) (k := 1100000); unfold TwoX at e ⊢; (intros; refine rn_W ?_; apply e <;> assumption)
theorem evNNeg : Ev (OneX 71) := evS evNSub fun j h => by have e := nneg_ok (G := rn 1100000 j) (k := 1100000) h; unfold OneX at e ⊢; (intros; refine rn_W ?_; apply e <;> assumption)
theorem evNDiv : Ev (TwoX 93 divR) := evS evNNeg fun j h => by have e := ndiv_ok (G := rn 1100000 j) (k := 1100000) h; unfold TwoX at e ⊢; (intros; refine rn_W ?_; apply e <;> assumption)
theorem evNTr : Ev (TrX 68) := ev0 fun j => by have e := ntr_ok (G := rn 1100000 j) (k := 1100000); unfold TrX at e ⊢; (intros; refine rn_W ?_; apply e <;> assumption)
theorem evInX : Ev InX := ev0 fun j => by have e := inx_ok (G := rn 1100000 j) (k := 1100000); unfold InX at e ⊢; (intros; refine rn_W ?_; apply e <;> assumption)
theorem evWiX : Ev WiX := evS evInX fun j h => by have e := wix_ok (G := rn 1100000 j) (k := 1100000) h; unfold WiX at e ⊢; (intros; refine rn_W ?_; apply e <;> assumption)
theorem evHasX : Ev HasX := evS (evA evWiX evInX) fun j h => by have e := hasx_ok (G := rn 1100000 j) (k := 1100000) h.1 h.2; unfold HasX at e ⊢; (intros; refine rn_W ?_; apply e <;> assumption)
theorem evOfX : Ev OfX := evS evWiX fun j h => by have e := ofx_ok (G := rn 1100000 j) (k := 1100000) (by omega) h; unfold OfX at e ⊢; (intros; refine rn_W ?_; apply e <;> assumption)
theorem evSureX : Ev SureX := ev0 fun j => by have e := sure_ok (G := rn 1100000 j) (k := 1100000); unfold SureX at e ⊢; (intros; refine rn_W ?_; apply e <;> assumption)
theorem evPairX : Ev PairX := evS (evA (evA (evA evNMul evNDiv) (evA evNMod evNAdd)) (evA (evA evNSub evSureX) evNTr)) fun j h => by
  have e := pair_ok (G := rn 1100000 j) (k := 1100000) h.1.1.1 h.1.1.2 h.1.2.1 h.1.2.2 h.2.1.1 h.2.1.2 h.2.2; unfold PairX at e ⊢; (intros; refine rn_W ?_; apply e <;> assumption)
theorem evTakeX : Ev TakeX := ev0 fun j => by have e := take_ok (G := rn 1100000 j) (k := 1100000); unfold TakeX at e ⊢; (intros; refine rn_W ?_; apply e <;> assumption)
theorem evMPutX : Ev MPutX := ev0 fun j => by have e := put_ok (G := rn 1100000 j) (k := 1100000); unfold MPutX at e ⊢; (intros; refine rn_W ?_; apply e <;> assumption)
theorem evEffX : Ev EffX := ev0 fun j => by have e := eff_ok (G := rn 1100000 j) (k := 1100000); unfold EffX at e ⊢; (intros; refine rn_W ?_; apply e <;> assumption)
theorem evTellX : Ev TellX := evS (evA evTakeX evEffX) fun j h => by have e := tell_ok (G := rn 1100000 j) (k := 1100000) h.1 h.2; unfold TellX at e ⊢; (intros; refine rn_W ?_; apply e <;> assumption)
theorem evMoveX : Ev MoveX := evS evTakeX fun j h => by have e := move_ok (G := rn 1100000 j) (k := 1100000) h; unfold MoveX at e ⊢; (intros; refine rn_W ?_; apply e <;> assumption)
theorem evStepX : Ev StepX := evS (evA (evA (evA evTakeX evMPutX) (evA evTellX evMoveX)) (evA (evA evHasX evNTr) (evA evNNeg (evA evSureX evPairX)))) fun j h => by
  have e := step_ok (G := rn 1100000 j) (k := 1100000) h.1.1.1 h.1.1.2 h.1.2.1 h.1.2.2 h.2.1.1 h.2.1.2 h.2.2.1 h.2.2.2.1 h.2.2.2.2; unfold StepX at e ⊢; (intros; refine rn_W ?_; apply e <;> assumption)
theorem evCloneX : Ev CloneX := ev0 fun j => by have e := clone_ok (G := rn 1100000 j) (k := 1100000); unfold CloneX at e ⊢; (intros; refine rn_W ?_; apply e <;> assumption)
theorem evERun : Ev (RunX 31) := evS (evA (evA evCloneX evOfX) evStepX) fun j h => by have e := erunx_ok (G := rn 1100000 j) (k := 1100000) (by omega) h.1.1 h.1.2 h.2; unfold RunX at e ⊢; (intros; refine rn_W ?_; apply e <;> assumption)
theorem evLifeX : Ev LifeX := ev0 fun j => by have e := life_ok (G := rn 1100000 j) (k := 1100000); unfold LifeX at e ⊢; (intros; refine rn_W ?_; apply e <;> assumption)
theorem evNd0 : Ev Nd0X := by
  refine ⟨16, fun j hj => ?_⟩
  obtain ⟨j', rfl⟩ : ∃ j', j = j' + 16 := ⟨j - 16, by omega⟩
  intro K
  show _ = _
  kernel_rfl
theorem evKnX : Ev KnX := by
  refine ⟨16, fun j hj => ?_⟩
  obtain ⟨j', rfl⟩ : ∃ j', j = j' + 16 := ⟨j - 16, by omega⟩
  intro K
  show _ = _
  kernel_rfl
theorem evRGdM : Ev (GdX 25 6) := evS (evRX 6) fun j h => by have e := rgdx_ok (G := rn 1100000 j) (k := 1100000) (by decide) h; unfold GdX at e ⊢; (intros; refine rn_W ?_; apply e <;> assumption)
theorem evMadeX : Ev MadeX := evS (evA (evA evNd0 (evA (evBlockM 3 (by omega)) (evExprM 5 (by omega)))) (evA (evRBl (d := 4) (by decide)) evRGdM)) fun j h => by
  have e := made_ok (G := rn 1100000 j) (k := 1100000) h.1.1 h.1.2.1 h.1.2.2 h.2.1 h.2.2; unfold MadeX at e ⊢; (intros; refine rn_W ?_; apply e <;> assumption)
theorem evRAdd : Ev (TwoX 100 fun a b => over (a + b)) := ev0 fun j => by have e := radd_ok (G := rn 1100000 j) (k := 1100000); unfold TwoX at e ⊢; (intros; refine rn_W ?_; apply e <;> assumption)
theorem evRSub : Ev (TwoX 96 fun a b => over (a - b)) := ev0 fun j => by have e := rsub_ok (G := rn 1100000 j) (k := 1100000); unfold TwoX at e ⊢; (intros; refine rn_W ?_; apply e <;> assumption)
theorem evRMul : Ev (TwoX 97 fun a b => over (a * b)) := ev0 fun j => by have e := rmul_ok (G := rn 1100000 j) (k := 1100000); unfold TwoX at e ⊢; (intros; refine rn_W ?_; apply e <;> assumption)
theorem evRMod : Ev (TwoX 99 modR) := ev0 fun j => by have e := rmod_ok (G := rn 1100000 j) (k := 1100000); unfold TwoX at e ⊢; (intros; refine rn_W ?_; apply e <;> assumption)
theorem evRNeg : Ev (OneX 80) := evS evRSub fun j h => by have e := rneg_ok (G := rn 1100000 j) (k := 1100000) h; unfold OneX at e ⊢; (intros; refine rn_W ?_; apply e <;> assumption)
theorem evRDiv : Ev (TwoX 98 divR) := ev0 fun j => by have e := rdiv_ok (G := rn 1100000 j) (k := 1100000); unfold TwoX at e ⊢; (intros; refine rn_W ?_; apply e <;> assumption)
theorem evRTr : Ev (TrX 77) := ev0 fun j => by have e := rtr_ok (G := rn 1100000 j) (k := 1100000); unfold TrX at e ⊢; (intros; refine rn_W ?_; apply e <;> assumption)
theorem evRHasX : Ev RHasX := ev0 fun j => by have e := rhasx_ok (G := rn 1100000 j) (k := 1100000) (by omega); unfold RHasX at e ⊢; (intros; refine rn_W ?_; apply e <;> assumption)
theorem evRTwoX : Ev RTwoX := evS (evA (evA (evA evRMul evRDiv) (evA evRMod evRAdd)) (evA evRSub evRTr)) fun j h => by
  have e := rtwo_ok (G := rn 1100000 j) (k := 1100000) h.1.1.1 h.1.1.2 h.1.2.1 h.1.2.2 h.2.1 h.2.2; unfold RTwoX at e ⊢; (intros; refine rn_W ?_; apply e <;> assumption)
theorem evRTakeX : Ev RTakeX := ev0 fun j => by have e := rtake_ok (G := rn 1100000 j) (k := 1100000); unfold RTakeX at e ⊢; (intros; refine rn_W ?_; apply e <;> assumption)
theorem evRPutX : Ev RPutX := ev0 fun j => by have e := rput_ok (G := rn 1100000 j) (k := 1100000); unfold RPutX at e ⊢; (intros; refine rn_W ?_; apply e <;> assumption)
theorem evRecX : Ev RecX := evS (evA (evA evRTakeX evRPutX) (evA (evA evRHasX evRTr) (evA evRNeg evRTwoX))) fun j h => by
  have e := rec_ok (G := rn 1100000 j) (k := 1100000) h.1.1 h.1.2 h.2.1.1 h.2.1.2 h.2.2.1 h.2.2.2; unfold RecX at e ⊢; (intros; refine rn_W ?_; apply e <;> assumption)
theorem evActX : Ev ActX := evS evRTakeX fun j h => by have e := act_ok (G := rn 1100000 j) (k := 1100000) h; unfold ActX at e ⊢; (intros; refine rn_W ?_; apply e <;> assumption)
theorem evRMoveX : Ev RMoveX := evS evRTakeX fun j h => by have e := rmove_ok (G := rn 1100000 j) (k := 1100000) h; unfold RMoveX at e ⊢; (intros; refine rn_W ?_; apply e <;> assumption)
theorem evRRun : Ev (RunX 32) := evS (evA evRecX (evA evActX evRMoveX)) fun j h => by have e := rrunx_ok (G := rn 1100000 j) (k := 1100000) (by omega) h.1 h.2.1 h.2.2; unfold RunX at e ⊢; (intros; refine rn_W ?_; apply e <;> assumption)
theorem evVarsX : Ev VarsX := ev0 fun j => by have e := vars_ok (G := rn 1100000 j) (k := 1100000) (by omega); unfold VarsX at e ⊢; (intros; refine rn_W ?_; apply e <;> assumption)
theorem evSameX : Ev SameX := evS evVarsX fun j h => by have e := same_ok (G := rn 1100000 j) (k := 1100000) (by omega) h; unfold SameX at e ⊢; (intros; refine rn_W ?_; apply e <;> assumption)
theorem evRunsLaw : Ev RunsOK := evS (evA (evA evKnX evMadeX) (evA (evA evLifeX evPlace) (evA evERun (evA evRRun evSameX)))) fun j h => by
  have e := runs_law (G := rn 1100000 j) (k := 1100000) h.1.1 h.1.2 h.2.1.1 h.2.1.2 h.2.2.1 h.2.2.2.1 h.2.2.2.2
  unfold RunsOK at e ⊢; (intros; refine rn_W ?_; apply e <;> assumption)
end Go.Proofs.Ytdfjodnkplbffaa.Vm
