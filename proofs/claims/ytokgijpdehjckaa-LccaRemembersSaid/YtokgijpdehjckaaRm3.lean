/- Functions of the program, told by the machine of values, and what they answer: a part. -/
import Derived.Test.YtokgijpdehjckaaRm2
import Derived.Test.YtokgijpdehjckaaRm1
import Derived.Test.YtokgijpdehjckaaRmV4
open Go Go.VM
set_option linter.unusedVariables false
set_option linter.unusedSimpArgs false
set_option maxRecDepth 100000
set_option maxHeartbeats 8000000
namespace Go.Proofs.Ytokgijpdehjckaa.Vm
section
variable {R : Type} {G : ORC R} {k : Nat} {K : List V → Option R} {Q : List V → Prop}
def InsC (ns : List Nd) (C : List Int) : Prop := ∀ c ∈ C, ∃ (q : Nat) (m : Nd), c = q ∧ ns[q]? = some m
def RemOK (f : FuncId) (G : ORC R) : Prop := ∀ (ns : List Nd) (C E : List Int) (H : List (List Int)) (K : List V → Option R), Tree ns → ns.length ≤ 1000 → C.length ≤ 9000 → InsC ns C → E.length ≤ 9000 → (∀ r ∈ H, r.length ≤ 9000) →
  W (fun o => o = [.sl 1 (rws (remN ns C E H))]) K (G f [.sl 7 (ns.map Nd.v), .sl 1 (ivs C), .sl 1 (ivs E), .sl 1 (rws H)] K)
theorem keepC_at {ns : List Nd} {h : Nd} {q : Nat} {m : Nd} (hm : ns[q]? = some m) : keepC ns h q = ((decide (h.kind = 4) && decide (m.parent = h.parent)) || (decide (h.kind = 5) && decide (m.kind = 1) && decide ((q : Int) ≠ h.parent) && inN ns q h.parent)) := by
  unfold keepC; rw [Int.toNat_natCast, hm]
theorem ivs_snoc {l : List Int} {x : Int} : ivs l ++ [.int .i64 x] = ivs (l ++ [x]) := by rw [ivs_app]; rfl
theorem filt_step {ns : List Nd} {h : Nd} {C : List Int} {m : Nat} {c : Int} (hc : C[m]? = some c) : (C.take (m + 1)).filter (keepC ns h) = (C.take m).filter (keepC ns h) ++ if keepC ns h c then [c] else [] := by
  rw [take_snoc hc, filt_snoc]
theorem filt_le {ns : List Nd} {h : Nd} {C : List Int} {m : Nat} : ((C.take m).filter (keepC ns h)).length ≤ C.length := Nat.le_trans (List.length_filter_le _ _) (by rw [List.length_take]; omega)
theorem rrem_in (hI : InOK G) {Ko : List V → List V → List V → List V → List V → Int → Option R} {ns : List Nd} {C E : List Int} {H : List (List Int)} {i : Nat} {h : Nd} (hi : ns[i]? = some h) (hC : InsC ns C) (hcl : C.length ≤ 9000)
    (hKo : W Q K (Ko (ns.map Nd.v) (ivs C) (ivs E) (rws H) (mids ns C E H i (C.filter (keepC ns h))) i)) :
    ∀ (j m : Nat), C.length - m < j → m ≤ C.length → W Q K (l9_2g G k Ko j (ns.map Nd.v) (ivs C) (ivs E) (rws H) (mids ns C E H i ((C.take m).filter (keepC ns h))) i h.parent m)
  | 0, m, h1, h2 => by omega
  | j + 1, m, h1, h2 => by
    show W Q K (b9_2 G k (l9_2g G k Ko j) Ko (ns.map Nd.v) (ivs C) (ivs E) (rws H) (mids ns C E H i ((C.take m).filter (keepC ns h))) i h.parent m)
    unfold b9_2
    refine W_dec (fun hl => ?_) (fun hl => by rw [ivs_len] at hl; rw [List.take_of_length_le (by omega)]; exact hKo)
    rw [ivs_len] at hl
    obtain ⟨c, hc⟩ := get_ex (l := C) (m := m) (by omega)
    obtain ⟨q, n, rfl, hn⟩ := hC c (List.mem_of_getElem? hc)
    have hil := (List.getElem?_eq_some_iff.1 hi).1
    have hfl := filt_le (ns := ns) (h := h) (C := C) (m := m)
    have hst := filt_step (ns := ns) (h := h) hc
    have next : W Q K (l9_2g G k Ko j (ns.map Nd.v) (ivs C) (ivs E) (rws H) (mids ns C E H i ((C.take (m + 1)).filter (keepC ns h))) i h.parent (IntKind.i64.wrap ((m : Int) + 1))) := by
      rw [wrap_id (n := (m : Int) + 1) (by omega)]
      exact rrem_in hI hi hC hcl hKo j (m + 1) (by omega) (by omega)
    have hk := keepC_at (h := h) hn
    have stay : keepC ns h q = false → W Q K (l9_2g G k Ko j (ns.map Nd.v) (ivs C) (ivs E) (rws H) (mids ns C E H i ((C.take m).filter (keepC ns h))) i h.parent (IntKind.i64.wrap ((m : Int) + 1))) := fun e => by
      rw [hst, e] at next; simpa using next
    have hset : keepC ns h q = true → ((mids ns C E H i ((C.take m).filter (keepC ns h))).set ((i : Nat) : Int).toNat .undef).set ((i : Nat) : Int).toNat (.sl 1 (ivs ((C.take m).filter (keepC ns h)) ++ [.int .i64 q])) = mids ns C E H i ((C.take (m + 1)).filter (keepC ns h)) := fun e => by
      rw [ivs_snoc, mids_set2, hst, e]; rfl
    unfold InOK at hI
    refine W_at (by omega) (ivs_atZ hc) (W_aI ?_)
    refine W_at (by omega) (by rw [Int.toNat_natCast]; exact nd_get hi) (W_nd7 (W_aI ?_))
    refine W_beqI (fun k4 => ?_) (fun k4 => ?_)
    · refine W_at (by omega) (by rw [Int.toNat_natCast]; exact nd_get hn) (W_nd7 (W_aI ?_))
      refine W_beqI (fun hp => ?_) (fun hp => ?_)
      · have e : keepC ns h q = true := by rw [hk]; simp [k4, hp]
        refine W_at (by omega) mids_get ?_
        (repeat(with_reducible apply U1))
        refine W_yes (by rw [ivs_len]; omega) ?_
        refine W_at (by omega) mids_getU ?_
        rw [hset e]; exact next
      · have e : keepC ns h q = false := by rw [hk]; simp [k4, hp]
        refine W_at (by omega) (by rw [Int.toNat_natCast]; exact nd_get hi) (W_nd7 (W_aI ?_))
        exact W_eqN (by omega) (stay e)
    · refine W_at (by omega) (by rw [Int.toNat_natCast]; exact nd_get hi) (W_nd7 (W_aI ?_))
      refine W_beqI (fun k5 => ?_) (fun k5 => stay (by rw [hk]; simp [k4, k5]))
      refine W_at (by omega) (by rw [Int.toNat_natCast]; exact nd_get hn) (W_nd7 (W_aI ?_))
      refine W_beqI (fun ka => ?_) (fun ka => stay (by rw [hk]; simp [k4, ka]))
      by_cases hq : (q : Int) = h.parent
      · exact W_chk' (by simp [hq]) (stay (by rw [hk]; simp [k4, hq]))
      · refine W_chk (by simp [hq]) ?_
        refine W_call (hI _ _ _ _) ?_
        rintro _ rfl
        (repeat(with_reducible apply U1))
        refine W_bool (fun hb => ?_) (fun hb => stay (by rw [hk]; simp [k4, hb]))
        have e : keepC ns h q = true := by rw [hk]; simp [k5, ka, hq, hb]
        refine W_at (by omega) mids_get ?_
        (repeat(with_reducible apply U1))
        refine W_yes (by rw [ivs_len]; omega) ?_
        refine W_at (by omega) mids_getU ?_
        rw [hset e]; exact next
theorem get_exA {α : Type} {l : List α} {m : Nat} (h : m < l.length) : ∃ x, l[m]? = some x := ⟨_, List.getElem?_eq_getElem h⟩
theorem remR_at {ns : List Nd} {C E : List Int} {H : List (List Int)} {i : Nat} {h : Nd} (hi : ns[i]? = some h) : remR ns C E H i = if h.kind ≤ 3 then [] else if h.parent ∈ E then C.filter (keepC ns h) else (H[i]?).getD [] := by unfold remR; rw [hi]
theorem has_dec {l : List Int} {x : Int} : hasL l x = decide (x ∈ l) := by
  by_cases h : x ∈ l
  · rw [decide_eq_true h, hasL_iff.2 h]
  · rw [decide_eq_false h]
    cases e : hasL l x with
    | false => rfl
    | true => exact absurd (hasL_iff.1 e) h
theorem rrem_loop (hk : 10000 ≤ k) (hI : InOK G) (hS : IsStOK G) (hH : HasOK G) {Ko : List V → Option R} {ns : List Nd} {C E : List Int} {H : List (List Int)} (T : Tree ns) (hnl : ns.length ≤ 1000) (hC : InsC ns C) (hcl : C.length ≤ 9000) (hel : E.length ≤ 9000) (hhl : ∀ r ∈ H, r.length ≤ 9000)
    (hKo : W Q K (Ko (rws (remN ns C E H)))) :
    ∀ (j i : Nat), ns.length - i < j → i ≤ ns.length → W Q K (l9_0g G k Ko j (ns.map Nd.v) (ivs C) (ivs E) (rws H) (pres ns C E H i) i)
  | 0, i, h1, h2 => by omega
  | j + 1, i, h1, h2 => by
    show W Q K (b9_0 G k (l9_0g G k Ko j) Ko (ns.map Nd.v) (ivs C) (ivs E) (rws H) (pres ns C E H i) i)
    unfold b9_0
    refine W_dec (fun hl => ?_) (fun hl => by rw [List.length_map] at hl; rw [show i = ns.length by omega, presN]; exact hKo)
    rw [List.length_map] at hl
    obtain ⟨h, hi⟩ := get_exA (l := ns) (m := i) (by omega)
    have hr := remR_at (C := C) (E := E) (H := H) hi
    have next : W Q K (l9_0g G k Ko j (ns.map Nd.v) (ivs C) (ivs E) (rws H) (mids ns C E H i (remR ns C E H i)) (IntKind.i64.wrap ((i : Int) + 1))) := by
      rw [wrap_id (n := (i : Int) + 1) (by omega), mids_pres (by omega)]
      exact rrem_loop hk hI hS hH T hnl hC hcl hel hhl hKo j (i + 1) (by omega) (by omega)
    rw [pres_mid (by omega)]
    have hI' := hI
    unfold IsStOK at hS; unfold HasOK at hH
    refine W_at (by omega) (by rw [Int.toNat_natCast]; exact nd_get hi) (W_asAgg ?_)
    refine W_call (hS h _) ?_
    rintro _ rfl
    (repeat(with_reducible apply U1))
    refine W_dec (fun k3 => by rw [hr, if_pos k3] at next; exact next) (fun k3 => ?_)
    rw [if_neg k3] at hr
    refine W_at (by omega) (by rw [Int.toNat_natCast]; exact nd_get hi) (W_nd7 (W_aI ?_))
    refine W_call (hH _ _ _ hel) ?_
    rintro _ rfl
    (repeat(with_reducible apply U1))
    rw [has_dec]
    refine W_not (W_dec (fun hp => ?_) (fun hp => ?_))
    · rw [if_pos hp] at hr
      rw [hr] at next
      unfold l9_2
      exact rrem_in (Ko := fun a b c d e f => l9_0g G k Ko j a b c d e (IntKind.i64.wrap (f + 1))) hI' hi hC hcl next k 0 (by omega) (by omega)
    · rw [if_neg hp] at hr
      refine W_dec (fun hh => ?_) (fun hh => ?_)
      · rw [rws_len] at hh
        obtain ⟨r, hrr⟩ := get_exA (l := H) (m := i) (by omega)
        have hrl := hhl r (List.mem_of_getElem? hrr)
        rw [hr, hrr] at next
        refine W_at (by omega) (by rw [Int.toNat_natCast]; exact rws_at hrr) ?_
        (repeat(with_reducible apply U1))
        refine W_chk (by rw [ivs_len]; simp; omega) (W_chk ivs_plains ?_)
        refine W_at (by omega) mids_get ?_
        rw [List.nil_append, mids_set]
        exact next
      · rw [rws_len] at hh
        rw [hr, List.getElem?_eq_none (by omega)] at next
        exact next
theorem rrem_ok (hk : 10000 ≤ k) (hI : InOK G) (hS : IsStOK G) (hH : HasOK G) : RemOK 9 (fun _ args (K : List V → Option R) => g9 G k args K) := by
  intro ns C E H K T hnl hcl hC hel hhl
  show W _ K (f9 G k (ns.map Nd.v) (ivs C) (ivs E) (rws H) K)
  unfold f9 l9_0
  simp only [List.length_map]
  refine W_chk (by simp; omega) ?_
  rw [Int.toNat_natCast, ← pres0 (C := C) (E := E) (H := H)]
  exact rrem_loop (Q := fun o => o = [.sl 1 (rws (remN ns C E H))]) (Ko := fun x => K [.sl 1 x]) hk hI hS hH T hnl hC hcl hel hhl (W_ret rfl) k 0 (by omega) (by omega)
theorem crem_in (hI : InsOK G) (hL : LisX G) {Ko : List V → List V → List V → List V → List V → List V → Int → Int → Option R} {ns : List Nd} {C E : List Int} {H : List (List Int)} {i : Nat} {h : Nd} (hi : ns[i]? = some h) (hC : InsC ns C) (hcl : C.length ≤ 9000)
    (hKo : W Q K (Ko (ns.map Nd.v) (ivs C) (ivs E) (rws H) (mids ns C E H i (C.filter (keepC ns h))) (ns.map Nd.v) ns.length i)) :
    ∀ (j m : Nat), C.length - m < j → m ≤ C.length → W Q K (l20_3g G k Ko j (ns.map Nd.v) (ivs C) (ivs E) (rws H) (mids ns C E H i ((C.take m).filter (keepC ns h))) i (ns.map Nd.v) ns.length i (ivs C) C.length m h.kind h.parent h.last h.init h.entry h.exit h.name)
  | 0, m, h1, h2 => by omega
  | j + 1, m, h1, h2 => by
    show W Q K (b20_3 G k (l20_3g G k Ko j) Ko (ns.map Nd.v) (ivs C) (ivs E) (rws H) (mids ns C E H i ((C.take m).filter (keepC ns h))) i (ns.map Nd.v) ns.length i (ivs C) C.length m h.kind h.parent h.last h.init h.entry h.exit h.name)
    unfold b20_3
    refine W_dec (fun hl => ?_) (fun hl => by rw [List.take_of_length_le (by omega)]; exact hKo)
    obtain ⟨c, hc⟩ := get_ex (l := C) (m := m) (by omega)
    obtain ⟨q, n, rfl, hn⟩ := hC c (List.mem_of_getElem? hc)
    have hql := (List.getElem?_eq_some_iff.1 hn).1
    have hfl := filt_le (ns := ns) (h := h) (C := C) (m := m)
    have hst := filt_step (ns := ns) (h := h) hc
    have next : W Q K (l20_3g G k Ko j (ns.map Nd.v) (ivs C) (ivs E) (rws H) (mids ns C E H i ((C.take (m + 1)).filter (keepC ns h))) i (ns.map Nd.v) ns.length i (ivs C) C.length (IntKind.i64.wrap ((m : Int) + 1)) h.kind h.parent h.last h.init h.entry h.exit h.name) := by
      rw [wrap_id (n := (m : Int) + 1) (by omega)]
      exact crem_in hI hL hi hC hcl hKo j (m + 1) (by omega) (by omega)
    have hk := keepC_at (h := h) hn
    have stay : keepC ns h q = false → W Q K (l20_3g G k Ko j (ns.map Nd.v) (ivs C) (ivs E) (rws H) (mids ns C E H i ((C.take m).filter (keepC ns h))) i (ns.map Nd.v) ns.length i (ivs C) C.length (IntKind.i64.wrap ((m : Int) + 1)) h.kind h.parent h.last h.init h.entry h.exit h.name) := fun e => by
      rw [hst, e] at next; simpa using next
    have hset : keepC ns h q = true → ((mids ns C E H i ((C.take m).filter (keepC ns h))).set ((i : Nat) : Int).toNat .undef).set ((i : Nat) : Int).toNat (.sl 1 (ivs ((C.take m).filter (keepC ns h)) ++ [.int .i64 q])) = mids ns C E H i ((C.take (m + 1)).filter (keepC ns h)) := fun e => by
      rw [ivs_snoc, mids_set2, hst, e]; rfl
    unfold InsOK insN at hI; unfold LisX at hL
    have his : decide (0 ≤ (q : Int) ∧ (q : Int) < ((ns.map Nd.v).length : Nat)) = true := decide_eq_true (by rw [List.length_map]; omega)
    refine W_at (by omega) (ivs_atZ hc) (W_aI ?_)
    refine W_call (hL _ _ _) ?_
    rintro _ rfl
    (repeat(with_reducible apply U1))
    refine W_chk his ?_
    refine W_at (by omega) (by rw [Int.toNat_natCast]; exact nd_get hn) (W_nd7 (W_aI ?_))
    refine W_call (hL _ _ _) ?_
    rintro _ rfl
    (repeat(with_reducible apply U1))
    refine W_chk his ?_
    refine W_at (by omega) (by rw [Int.toNat_natCast]; exact nd_get hn) (W_nd7 (W_aI ?_))
    refine W_beqI (fun ka => ?_) (fun ka => ?_)
    · refine W_call (hI _ _ _ _) ?_
      rintro _ rfl
      (repeat(with_reducible apply U1))
      refine W_beqI (fun k4 => ?_) (fun k4 => ?_)
      · refine W_beqI (fun hp => ?_) (fun hp => W_eqN (by omega) (stay (by rw [hk]; simp [k4, hp])))
        have e : keepC ns h q = true := by rw [hk]; simp [k4, hp]
        refine W_at (by omega) mids_get ?_
        (repeat(with_reducible apply U1))
        refine W_yes (by rw [ivs_len]; omega) ?_
        refine W_at (by omega) mids_getU ?_
        rw [hset e]; exact next
      · refine W_beqI (fun k5 => ?_) (fun k5 => stay (by rw [hk]; simp [k4, k5]))
        refine W_bool (fun hb => ?_) (fun hb => stay (by rw [hk]; simp [k4]; intro _ _ hq; simpa [hq] using hb))
        have e : keepC ns h q = true := by rw [hk]; simp at hb; simp [k5, ka, hb]
        refine W_at (by omega) mids_get ?_
        (repeat(with_reducible apply U1))
        refine W_yes (by rw [ivs_len]; omega) ?_
        refine W_at (by omega) mids_getU ?_
        rw [hset e]; exact next
    · refine W_beqI (fun k4 => ?_) (fun k4 => ?_)
      · refine W_beqI (fun hp => ?_) (fun hp => W_eqN (by omega) (stay (by rw [hk]; simp [k4, hp])))
        have e : keepC ns h q = true := by rw [hk]; simp [k4, hp]
        refine W_at (by omega) mids_get ?_
        (repeat(with_reducible apply U1))
        refine W_yes (by rw [ivs_len]; omega) ?_
        refine W_at (by omega) mids_getU ?_
        rw [hset e]; exact next
      · have e : keepC ns h q = false := by rw [hk]; simp [k4, ka]
        exact W_beqI (fun k5 => stay e) (fun k5 => stay e)
theorem crem_loop (hk : 10000 ≤ k) (hI : InsOK G) (hL : LisX G) (hS : LhiX G) (hH : CoX G) (hCl : ClX G) {Ko : List V → Option R} {ns : List Nd} {C E : List Int} {H : List (List Int)} (T : Tree ns) (hnl : ns.length ≤ 1000) (hC : InsC ns C) (hcl : C.length ≤ 9000) (hel : E.length ≤ 9000) (hhl : ∀ r ∈ H, r.length ≤ 9000)
    (hKo : W Q K (Ko (rws (remN ns C E H)))) :
    ∀ (j i : Nat), ns.length - i < j → i ≤ ns.length → W Q K (l20_0g G k Ko j (ns.map Nd.v) (ivs C) (ivs E) (rws H) (pres ns C E H i) (ns.map Nd.v) ns.length i)
  | 0, i, h1, h2 => by omega
  | j + 1, i, h1, h2 => by
    show W Q K (b20_0 G k (l20_0g G k Ko j) Ko (ns.map Nd.v) (ivs C) (ivs E) (rws H) (pres ns C E H i) (ns.map Nd.v) ns.length i)
    unfold b20_0
    refine W_dec (fun hl => ?_) (fun hl => by rw [show i = ns.length by omega, presN]; exact hKo)
    obtain ⟨h, hi⟩ := get_exA (l := ns) (m := i) (by omega)
    have hr := remR_at (C := C) (E := E) (H := H) hi
    have hkd := T.seg.kinds i h hi
    have next : W Q K (l20_0g G k Ko j (ns.map Nd.v) (ivs C) (ivs E) (rws H) (mids ns C E H i (remR ns C E H i)) (ns.map Nd.v) ns.length (IntKind.i64.wrap ((i : Int) + 1))) := by
      rw [wrap_id (n := (i : Int) + 1) (by omega), mids_pres (by omega)]
      exact crem_loop hk hI hL hS hH hCl T hnl hC hcl hel hhl hKo j (i + 1) (by omega) (by omega)
    rw [pres_mid (by omega)]
    unfold LhiX at hS; unfold CoX at hH; unfold ClX at hCl
    refine W_at (by omega) (by rw [Int.toNat_natCast]; exact nd_get hi) (W_asAgg ?_)
    (repeat(with_reducible apply U1))
    refine W_call (hS h _) ?_
    rintro _ rfl
    (repeat(with_reducible apply U1))
    refine W_not (W_dec (fun k3 => ?_) (fun k3 => by rw [hr, if_pos (by omega)] at next; exact next))
    rw [if_neg (by omega)] at hr
    refine W_call (hH _ _ _ hel) ?_
    rintro _ rfl
    (repeat(with_reducible apply U1))
    refine W_not (W_dec (fun hp => ?_) (fun hp => ?_))
    · rw [if_pos hp] at hr
      rw [hr] at next
      unfold l20_3
      rw [ivs_len]
      exact crem_in (Ko := fun a b c d e f g i => l20_0g G k Ko j a b c d e f g (IntKind.i64.wrap (i + 1))) hI hL hi hC hcl next k 0 (by omega) (by omega)
    · rw [if_neg hp] at hr
      refine W_dec (fun hh => ?_) (fun hh => ?_)
      · rw [rws_len] at hh
        obtain ⟨r, hrr⟩ := get_exA (l := H) (m := i) (by omega)
        have hrl := hhl r (List.mem_of_getElem? hrr)
        rw [hr, hrr] at next
        refine W_at (by omega) (by rw [Int.toNat_natCast]; exact rws_at hrr) ?_
        (repeat(with_reducible apply U1))
        refine W_call (hCl _ _ hrl) ?_
        rintro _ rfl
        (repeat(with_reducible apply U1))
        refine W_at (by omega) mids_get ?_
        rw [mids_set]
        exact next
      · rw [rws_len] at hh
        rw [hr, List.getElem?_eq_none (by omega)] at next
        exact next
theorem crem_ok (hk : 10000 ≤ k) (hI : InsOK G) (hL : LisX G) (hS : LhiX G) (hH : CoX G) (hCl : ClX G) : RemOK 20 (fun _ args (K : List V → Option R) => g20 G k args K) := by
  intro ns C E H K T hnl hcl hC hel hhl
  show W _ K (f20 G k (ns.map Nd.v) (ivs C) (ivs E) (rws H) K)
  unfold f20 l20_0
  simp only [List.length_map]
  refine W_chk (by simp; omega) ?_
  rw [Int.toNat_natCast, ← pres0 (C := C) (E := E) (H := H)]
  exact crem_loop (Q := fun o => o = [.sl 1 (rws (remN ns C E H))]) (Ko := fun x => K [.sl 1 x]) hk hI hL hS hH hCl T hnl hC hcl hel hhl (W_ret rfl) k 0 (by omega) (by omega)
end
section
variable {R : Type} {G : ORC R} {k : Nat} {K : List V → Option R}
def SameOK (G : ORC R) : Prop := ∀ (a b : List Int) (K : List V → Option R), a.length ≤ 9000 → W (fun o => o = [.bool (decide (a = b))]) K (G 12 [.sl 1 (ivs a), .sl 1 (ivs b)] K)
theorem ivs_get {l : List Int} {i : Nat} {n : Int} (h : l[i]? = some n) : (ivs l)[i]? = some (.int .i64 n) := by unfold ivs; rw [List.getElem?_map, h]; rfl
theorem same_loop {Q : List V → Prop} {K : List V → Option R} {Ko : Unit → Option R} {Kr : Bool → Option R} {a b : List Int} (hl : a.length = b.length) (h9 : a.length ≤ 9000) (hKo : a = b → W Q K (Ko ())) (hKr : a ≠ b → W Q K (Kr false)) :
    ∀ (j m : Nat), a.length - m < j → m ≤ a.length → (∀ i, i < m → a[i]? = b[i]?) → W Q K (l12_0g G k Ko Kr j (ivs a) (ivs b) m)
  | 0, m, h1, h2, h3 => by omega
  | j + 1, m, h1, h2, h3 => by
    show W Q K (b12_0 G k (l12_0g G k Ko Kr j) Ko Kr (ivs a) (ivs b) m)
    unfold b12_0
    simp only [ivs_len]
    refine W_dec (fun h => ?_) (fun h => hKo (List.ext_getElem? fun i => ?_))
    · obtain ⟨x, hx⟩ : ∃ x, a[m]? = some x := ⟨_, List.getElem?_eq_getElem (by omega)⟩
      obtain ⟨y, hy⟩ : ∃ y, b[m]? = some y := ⟨_, List.getElem?_eq_getElem (by omega)⟩
      refine W_and (W_yes (by omega) (W_yes (by omega) (W_nth (by rw [ivs_len]; omega) (fun v hv _ => ?_))))
      rw [Int.toNat_natCast, ivs_get hx, Option.some.injEq] at hv; rw [← hv]
      refine W_aI (W_and (W_yes (by omega) (W_yes (by omega) (W_nth (by rw [ivs_len]; omega) (fun v hv _ => ?_)))))
      rw [Int.toNat_natCast, ivs_get hy, Option.some.injEq] at hv; rw [← hv]
      refine W_aI ?_
      by_cases e : x = y
      · subst e
        refine W_chk' (by simp) ?_
        rw [wrap_id (n := (m : Int) + 1) (by omega)]
        refine same_loop hl h9 hKo hKr j (m + 1) (by omega) (by omega) (fun i hi => ?_)
        by_cases hm : i = m
        · rw [hm, hx, hy]
        · exact h3 i (by omega)
      · refine W_chk (by simp [e]) (hKr fun he => ?_)
        rw [he, hy] at hx; injection hx with hx; exact e hx.symm
    · by_cases hi : i < m
      · exact h3 i hi
      · rw [List.getElem?_eq_none (by omega), List.getElem?_eq_none (by omega)]
theorem same_ok (hk : 10000 ≤ k) : SameOK (fun _ args (K : List V → Option R) => g12 G k args K) := by
  intro a b K h9
  show W _ K (f12 G k (ivs a) (ivs b) K)
  unfold f12
  simp only [ivs_len]
  by_cases hl : a.length = b.length
  · refine W_chk' (by simp [hl]) ?_
    unfold l12_0
    exact same_loop (Q := fun o => o = [.bool (decide (a = b))]) (K := K) (Ko := fun _ => K [.bool true]) (Kr := fun x => K [.bool x]) hl h9 (fun e => W_ret (by rw [decide_eq_true e])) (fun e => W_ret (by rw [decide_eq_false e])) k 0 (by omega) (by omega) (fun i hi => by omega)
  · refine W_chk (by simp; omega) (W_ret ?_)
    rw [decide_eq_false (fun h => hl (by rw [h]))]
end
section
variable {R : Type} {G : ORC R} {k : Nat} {K : List V → Option R} {Q : List V → Prop}
def RowsOK (G : ORC R) : Prop := ∀ (A : List (List Int)) (K : List V → Option R), A.length ≤ 1000 → (∀ r ∈ A, r.length ≤ 9000) → W (fun o => o = [.bool true]) K (G 19 [.sl 1 (rws A), .sl 1 (rws A)] K)
theorem rows_loop (hS : SameOK G) {Ko : Unit → Option R} {Kr : Bool → Option R} {A : List (List Int)} (hl : A.length ≤ 1000) (hr : ∀ r ∈ A, r.length ≤ 9000) (hKo : W Q K (Ko ())) :
    ∀ (j m : Nat), A.length - m < j → m ≤ A.length → W Q K (l19_0g G k Ko Kr j (rws A) (rws A) m)
  | 0, m, h1, h2 => by omega
  | j + 1, m, h1, h2 => by
    show W Q K (b19_0 G k (l19_0g G k Ko Kr j) Ko Kr (rws A) (rws A) m)
    unfold b19_0
    refine W_dec (fun h => ?_) (fun h => hKo)
    rw [rws_len] at h
    obtain ⟨r, hrr⟩ := get_exA (l := A) (m := m) (by omega)
    have hat := rws_at hrr
    refine W_at (by omega) (by rw [Int.toNat_natCast]; exact hat) ?_
    (repeat(with_reducible apply U1))
    refine W_at (by omega) (by rw [Int.toNat_natCast]; exact hat) ?_
    (repeat(with_reducible apply U1))
    have hS' := hS
    unfold SameOK at hS'
    refine W_call (hS' _ _ _ (hr r (List.mem_of_getElem? hrr))) ?_
    rintro _ rfl
    (repeat(with_reducible apply U1))
    refine W_not (W_chk (by simp) ?_)
    rw [wrap_id (n := (m : Int) + 1) (by omega)]
    exact rows_loop hS hl hr hKo j (m + 1) (by omega) (by omega)
theorem rows_ok (hk : 10000 ≤ k) (hS : SameOK G) : RowsOK (fun _ args (K : List V → Option R) => g19 G k args K) := by
  intro A K hl hr
  show W _ K (f19 G k (rws A) (rws A) K)
  unfold f19 l19_0
  refine W_chk' (by simp) ?_
  exact rows_loop (Q := fun o => o = [.bool true]) (Ko := fun _ => K [.bool true]) (Kr := fun x => K [.bool x]) hS hl hr (W_ret rfl) k 0 (by omega) (by omega)
def isEx (ns : List Nd) (c d : Int) : Bool := !(c == d) && inN ns c d
def exitN (ns : List Nd) (C D : List Int) : List Int := (C.filter fun c => D.any (isEx ns c)).reverse
def ExitOK (G : ORC R) : Prop := ∀ (ns : List Nd) (C D : List Int) (K : List V → Option R), C.length ≤ 9000 → D.length ≤ 9000 → W (fun o => o = [.sl 1 (ivs (exitN ns C D))]) K (G 18 [.sl 7 (ns.map Nd.v), .sl 1 (ivs C), .sl 1 (ivs D)] K)
theorem exit_in (hI : InOK G) {Ko : List V → List V → List V → List V → Int → Bool → Option R} {ns : List Nd} {C D : List Int} {out : List V} {i : Nat} {c : Int} (hc : C[i]? = some c) (hdl : D.length ≤ 9000)
    (hKo : W Q K (Ko (ns.map Nd.v) (ivs C) (ivs D) out i (D.any (isEx ns c)))) : ∀ (j m : Nat), D.length - m < j → m ≤ D.length → W Q K (l18_2g G k Ko j (ns.map Nd.v) (ivs C) (ivs D) out i ((D.take m).any (isEx ns c)) m)
  | 0, m, h1, h2 => by omega
  | j + 1, m, h1, h2 => by
    show W Q K (b18_2 G k (l18_2g G k Ko j) Ko (ns.map Nd.v) (ivs C) (ivs D) out i ((D.take m).any (isEx ns c)) m)
    unfold b18_2
    refine W_dec (fun h => ?_) (fun h => by rw [ivs_len] at h; rw [List.take_of_length_le (by omega)]; exact hKo)
    rw [ivs_len] at h
    obtain ⟨d, hd⟩ := get_ex (l := D) (m := m) (by omega)
    have hs : (D.take (m + 1)).any (isEx ns c) = ((D.take m).any (isEx ns c) || isEx ns c d) := by rw [take_snoc hd, List.any_append]; simp
    have next : ∀ b, b = (D.take (m + 1)).any (isEx ns c) → W Q K (l18_2g G k Ko j (ns.map Nd.v) (ivs C) (ivs D) out i b (IntKind.i64.wrap ((m : Int) + 1))) := fun b hb => by
      rw [wrap_id (n := (m : Int) + 1) (by omega), hb]
      exact exit_in hI hc hdl hKo j (m + 1) (by omega) (by omega)
    unfold InOK at hI
    refine W_bool (fun hb => next _ (by rw [hs, hb]; rfl)) (fun hb => ?_)
    rw [hb, Bool.false_or] at hs
    refine W_at (by omega) (ivs_atZ hc) (W_aI ?_)
    refine W_at (by omega) (ivs_atZ hd) (W_aI ?_)
    by_cases e : c = d
    · refine W_chk' (by simp [e]) (next _ (by rw [hs]; simp [isEx, e]))
    · refine W_chk (by simp [e]) ?_
      refine W_at (by omega) (ivs_atZ hc) (W_aI ?_)
      refine W_at (by omega) (ivs_atZ hd) (W_aI ?_)
      refine W_call (hI _ _ _ _) ?_
      rintro _ rfl
      (repeat(with_reducible apply U1))
      exact next _ (by rw [hs]; simp [isEx, e])
theorem exit_loop (hk : 10000 ≤ k) (hI : InOK G) {Ko : List V → Option R} {ns : List Nd} {C D : List Int} (hcl : C.length ≤ 9000) (hdl : D.length ≤ 9000) (hKo : W Q K (Ko (ivs (exitN ns C D)))) :
    ∀ (j i : Nat), i < j → i ≤ C.length → W Q K (l18_0g G k Ko j (ns.map Nd.v) (ivs C) (ivs D) (ivs ((C.drop i).filter (fun c => D.any (isEx ns c))).reverse) ((i : Int) - 1))
  | 0, i, h1, h2 => by omega
  | j + 1, i, h1, h2 => by
    show W Q K (b18_0 G k (l18_0g G k Ko j) Ko (ns.map Nd.v) (ivs C) (ivs D) (ivs ((C.drop i).filter (fun c => D.any (isEx ns c))).reverse) ((i : Int) - 1))
    unfold b18_0
    refine W_dec (fun h => ?_) (fun h => by rw [show i = 0 by omega, List.drop_zero]; exact hKo)
    obtain ⟨i, rfl⟩ : ∃ i', i = i' + 1 := ⟨i - 1, by omega⟩
    rw [show ((i + 1 : Nat) : Int) - 1 = i by omega]
    obtain ⟨c, hc⟩ := get_ex (l := C) (m := i) (by omega)
    have hdr : C.drop i = c :: C.drop (i + 1) := by
      obtain ⟨hi, e⟩ := List.getElem?_eq_some_iff.1 hc
      rw [List.drop_eq_getElem_cons hi, e]
    have hfl : ((C.drop (i + 1)).filter (fun c => D.any (isEx ns c))).reverse.length ≤ 9000 := by rw [List.length_reverse]; exact Nat.le_trans (List.length_filter_le _ _) (by rw [List.length_drop]; omega)
    have next : ∀ a, a = ivs ((C.drop i).filter (fun c => D.any (isEx ns c))).reverse → W Q K (l18_0g G k Ko j (ns.map Nd.v) (ivs C) (ivs D) a (IntKind.i64.wrap ((i : Int) - 1))) := fun a ha => by
      rw [wrap_id (n := (i : Int) - 1) (by omega), ha]
      exact exit_loop hk hI hcl hdl hKo j i (by omega) (by omega)
    rw [hdr, List.filter_cons] at next
    unfold l18_2
    have := exit_in (Q := Q) (K := K) (k := k) hI (ns := ns) (D := D) (out := ivs ((C.drop (i + 1)).filter (fun c => D.any (isEx ns c))).reverse) (Ko := fun yl9 yl10 yl11 yl12 yi13 yb14 => bif yb14 then (bif ((decide (0 ≤ yi13)) && (decide (yi13 < (yl10.length : Int)))) then (nthK yl10 (Int.toNat yi13) fun e15 => (aI .i64 e15 fun n16 => (bif (decide (List.length yl12 + 1 ≤ 1073741824)) then (l18_0g G k Ko j yl9 yl10 yl11 (yl12 ++ [(.int .i64 n16)]) (IntKind.i64.wrap (yi13 - 1))) else none))) else none) else (l18_0g G k Ko j yl9 yl10 yl11 yl12 (IntKind.i64.wrap (yi13 - 1)))) hc hdl ?_ k 0 (by omega) (by omega)
    · exact this
    refine W_bool (fun hb => ?_) (fun hb => next _ (by rw [hb]; rfl))
    refine W_at (by omega) (ivs_atZ hc) (W_aI ?_)
    exact W_yes (by rw [ivs_len]; omega) (next _ (by rw [hb, if_pos rfl, List.reverse_cons, ivs_app]; rfl))
theorem exit_ok (hk : 10000 ≤ k) (hI : InOK G) : ExitOK (fun _ args (K : List V → Option R) => g18 G k args K) := by
  intro ns C D K hcl hdl
  show W _ K (f18 G k (ns.map Nd.v) (ivs C) (ivs D) K)
  unfold f18 l18_0
  rw [ivs_len, wrap_id (n := (C.length : Int) - 1) (by omega)]
  have e : ivs ((C.drop C.length).filter (fun c => D.any (isEx ns c))).reverse = [] := by rw [List.drop_length]; rfl
  have := exit_loop (Q := fun o => o = [.sl 1 (ivs (exitN ns C D))]) (K := K) (Ko := fun x => K [.sl 1 x]) hk hI hcl hdl (W_ret rfl) k C.length (by omega) (Nat.le_refl _)
  rw [e] at this
  exact this
theorem exitN_len {ns : List Nd} {C D : List Int} : (exitN ns C D).length ≤ C.length := by unfold exitN; rw [List.length_reverse]; exact List.length_filter_le _ _
theorem sub_insC {ns : List Nd} {n : Nd} {C : List Int} (T : Tree ns) (h0 : ns[0]? = some n) (h : Sub ns 0 n C) : InsC ns C := fun c hc => by
  have h1 := h.rng c hc
  have h2 := T.seg.last 0 n h0
  have hx : c.toNat < ns.length := by omega
  exact ⟨c.toNat, ns[c.toNat], by omega, List.getElem?_eq_getElem hx⟩
theorem remN_len {ns : List Nd} {C E : List Int} {H : List (List Int)} {b : Nat} (hc : C.length ≤ b) (hh : ∀ r ∈ H, r.length ≤ b) : ∀ r ∈ remN ns C E H, r.length ≤ b := fun r hr => by
  unfold remN at hr
  obtain ⟨i, hi, rfl⟩ := List.mem_map.1 hr
  unfold remR
  split
  · split
    · simp
    · split
      · exact Nat.le_trans (List.length_filter_le _ _) hc
      · cases e : H[i]? with
        | none => simp
        | some q => exact hh q (List.mem_of_getElem? e)
  · simp
theorem remN_len2 {ns : List Nd} {C E : List Int} {H : List (List Int)} : (remN ns C E H).length = ns.length := by unfold remN; simp
def RemLawOK (G : ORC R) : Prop := ∀ (v w x doms : List V) (K : List V → Option R), IntsS v → IntsS w → IntsS x → IntsS doms → W (fun o => o = [.bool true]) K (G 4 [.sl 1 v, .sl 1 w, .sl 1 x, .sl 1 doms] K)
theorem near_loop (hP : PlaceS G) {Ko : List V → List V → List V → List V → Option R} {doms ns c h : List V} (hd : IntsS doms) (hdl : doms.length ≤ 8) (hn0 : 0 < ns.length) (hnl : ns.length ≤ 1000)
    (hKo : ∀ D : List Int, D.length ≤ 8 → W Q K (Ko ns c h (ivs D))) :
    ∀ (j m : Nat) (D : List Int), doms.length - m < j → m ≤ doms.length → D.length = m → W Q K (l4_0g G k Ko j doms ns c h (ivs D) m)
  | 0, m, D, h1, h2, h3 => by omega
  | j + 1, m, D, h1, h2, h3 => by
    show W Q K (b4_0 G k (l4_0g G k Ko j) Ko doms ns c h (ivs D) m)
    unfold b4_0
    refine W_dec (fun hl => ?_) (fun hl => hKo D (by omega))
    obtain ⟨e, he⟩ := get_exA (l := doms) (m := m) (by omega)
    obtain ⟨n, rfl, hn⟩ := hd e (List.mem_of_getElem? he)
    have hP' := hP
    unfold PlaceS at hP'
    refine W_at (by omega) (by rw [Int.toNat_natCast]; exact he) (W_aI ?_)
    refine W_call (hP' _ _ _ (by omega) (by omega)) ?_
    rintro _ ⟨y, rfl, _, _⟩
    (repeat(with_reducible apply U1))
    refine W_yes (by rw [ivs_len]; omega) ?_
    rw [wrap_id (n := (m : Int) + 1) (by omega), ivs_snoc]
    exact near_loop hP hd hdl hn0 hnl hKo j (m + 1) (D ++ [y]) (by omega) (by omega) (by rw [List.length_append, h3]; rfl)
theorem rem_law (hk : 10000 ≤ k) (hKn : KnLOK G) (hN : NdsOK G) (hP : PlaceS G) (hSo : SomeOK 200 G) (hR : RemOK 9 G) (hC : RemOK 20 G) (hE : ExitOK G) (hRw : RowsOK G) : RemLawOK (fun _ args (K : List V → Option R) => g4 G k args K) := by
  intro v w x doms K hv hw hx hd
  show W _ K (f4 G k v w x doms K)
  unfold f4
  unfold NdsOK at hN; unfold SomeOK at hSo; unfold RemOK at hR hC; unfold ExitOK at hE; unfold RowsOK at hRw
  refine W_dec (fun _ => knl_go hKn) (fun g1 => ?_)
  refine W_dec (fun _ => knl_go hKn) (fun g2 => ?_)
  refine W_dec (fun _ => knl_go hKn) (fun g3 => ?_)
  refine W_dec (fun _ => knl_go hKn) (fun g4 => ?_)
  refine W_call (hN v _ hv (by omega)) ?_
  rintro _ ⟨ns, rfl, hns⟩
  (repeat(with_reducible apply U1))
  have T := hns.tree
  have hl := hns.len
  have hpos := T.pos
  obtain ⟨n0, h0⟩ : ∃ n, ns[0]? = some n := ⟨_, List.getElem?_eq_getElem (by omega)⟩
  obtain ⟨r1, r2, r3⟩ := T.root n0 h0
  refine W_call (hSo ns 0 n0 w 0 _ T (by omega) h0 (by omega) (by omega) ⟨hw, by omega, by omega, by omega⟩) ?_
  rintro _ ⟨A, j1, rfl, hA, _⟩
  (repeat(with_reducible apply U1))
  refine W_call (hSo ns 0 n0 x 0 _ T (by omega) h0 (by omega) (by omega) ⟨hx, by omega, by omega, by omega⟩) ?_
  rintro _ ⟨B, j2, rfl, hB, _⟩
  (repeat(with_reducible apply U1))
  have lA : A.length ≤ ns.length := asc_len hA.asc fun x hx => by have := hA.rng x hx; omega
  have lB : B.length ≤ ns.length := asc_len hB.asc fun x hx => by have := hB.rng x hx; omega
  have iA := sub_insC T h0 hA
  have iB := sub_insC T h0 hB
  have rl : ∀ (C E : List Int) (H : List (List Int)), C.length ≤ 9000 → (∀ r ∈ H, r.length ≤ 9000) → ∀ r ∈ remN ns C E H, r.length ≤ 9000 := fun C E H h1 h2 => remN_len h1 h2
  refine W_call (hR ns A A [] _ T (by omega) (by omega) iA (by omega) (by simp)) ?_
  rintro _ rfl
  (repeat(with_reducible apply U1))
  have hH0 := rl A A [] (by omega) (by simp)
  unfold l4_0
  refine near_loop hP hd (by omega) (by rw [List.length_map]; omega) (by rw [List.length_map]; omega) (fun D hD => ?_) k 0 [] (by omega) (by omega) rfl
  refine W_call (hE ns B D _ (by omega) (by omega)) ?_
  rintro _ rfl
  (repeat(with_reducible apply U1))
  have lE := exitN_len (ns := ns) (C := B) (D := D)
  refine W_call (hC ns B (exitN ns B D) (remN ns A A []) _ T (by omega) (by omega) iB (by omega) hH0) ?_
  rintro _ rfl
  (repeat(with_reducible apply U1))
  refine W_call (hR ns B (exitN ns B D) (remN ns A A []) _ T (by omega) (by omega) iB (by omega) hH0) ?_
  rintro _ rfl
  (repeat(with_reducible apply U1))
  refine W_call (hRw _ _ (by rw [remN_len2]; omega) (rl _ _ _ (by omega) hH0)) ?_
  rintro _ rfl
  (repeat(with_reducible apply U1))
  refine W_chk rfl ?_
  refine W_call (hC ns B (exitN ns B D) [] _ T (by omega) (by omega) iB (by omega) (by simp)) ?_
  rintro _ rfl
  (repeat(with_reducible apply U1))
  refine W_call (hR ns B (exitN ns B D) [] _ T (by omega) (by omega) iB (by omega) (by simp)) ?_
  rintro _ rfl
  (repeat(with_reducible apply U1))
  refine W_call (hRw _ _ (by rw [remN_len2]; omega) (rl _ _ _ (by omega) (by simp))) ?_
  rintro _ rfl
  (repeat(with_reducible apply U1))
  exact W_chk rfl (knl_go hKn)
end
theorem evCIs : Ev CIsOK := ev0 fun j => by have e := cis_ok (G := rm 10000 j) (k := 10000); unfold CIsOK at e ⊢; (intros; refine rm_W ?_; apply e <;> assumption)
theorem evCIn : Ev CInOK := evS evCIs fun j h => by have e := cin_ok (G := rm 10000 j) (k := 10000) h; unfold CInOK at e ⊢; (intros; refine rm_W ?_; apply e <;> assumption)
theorem evIns : Ev InsOK := evS evCIn fun j h => by have e := ins_ok (G := rm 10000 j) (k := 10000) h; unfold InsOK at e ⊢; (intros; refine rm_W ?_; apply e <;> assumption)
theorem evNds : Ev NdsOK := evS (evA evChart evNodes) fun j h => by have e := nds_ok (G := rm 10000 j) (k := 10000) h.1 h.2; unfold NdsOK at e ⊢; (intros; refine rm_W ?_; apply e <;> assumption)
theorem evKnL : Ev KnLOK := by
  refine ⟨14, fun j hj => ?_⟩
  obtain ⟨j', rfl⟩ : ∃ j', j = j' + 14 := ⟨j - 14, by omega⟩
  intro K
  show _ = _
  kernel_rfl
theorem evRKids : Ev (KidsOK 58) := evS evIs fun j h => by have e := rkids_ok (G := rm 10000 j) (k := 10000) (by omega) h; unfold KidsOK at e ⊢; (intros; refine rm_W ?_; apply e <;> assumption)
theorem evHas : Ev HasOK := ev0 fun j => by have e := has_ok (G := rm 10000 j) (k := 10000) (by omega); unfold HasOK at e ⊢; (intros; refine rm_W ?_; apply e <;> assumption)
theorem evSame : Ev SameOK := ev0 fun j => by have e := same_ok (G := rm 10000 j) (k := 10000) (by omega); unfold SameOK at e ⊢; (intros; refine rm_W ?_; apply e <;> assumption)
theorem evStates : Ev StatesOK := evS (evA evRKids evIsSt) fun j h => by have e := states_ok (G := rm 10000 j) (k := 10000) (by omega) h.1 h.2; unfold StatesOK at e ⊢; (intros; refine rm_W ?_; apply e <;> assumption)
theorem evSome : ∀ d, Ev (SomeOK d)
  | 0 => evS (evA evStates evNext) fun j h => by have e := some_ok (G := rm 10000 j) (k := 10000) (d := 0) (by omega) h.1 h.2 (fun d' e => by omega); unfold SomeOK at e ⊢; (intros; refine rm_W ?_; apply e <;> assumption)
  | d + 1 => evS (evA (evA evStates evNext) (evSome d)) fun j h => by have e := some_ok (G := rm 10000 j) (k := 10000) (d := d + 1) (by omega) h.1.1 h.1.2 (fun d' e => by cases e; exact h.2); unfold SomeOK at e ⊢; (intros; refine rm_W ?_; apply e <;> assumption)
theorem evExit : Ev ExitOK := evS evIn fun j h => by have e := exit_ok (G := rm 10000 j) (k := 10000) (by omega) h; unfold ExitOK at e ⊢; (intros; refine rm_W ?_; apply e <;> assumption)
theorem evRRem : Ev (RemOK 9) := evS (evA evIn (evA evIsSt evHas)) fun j h => by have e := rrem_ok (G := rm 10000 j) (k := 10000) (by omega) h.1 h.2.1 h.2.2; unfold RemOK at e ⊢; (intros; refine rm_W ?_; apply e <;> assumption)
theorem evSi : Ev SiX := ev0 fun j => by have e := si_ok (G := rm 10000 j) (k := 10000) (by omega); unfold SiX at e ⊢; (intros; refine rm_W ?_; apply e <;> assumption)
theorem evCo : Ev CoX := evS evSi fun j h => by have e := co_ok (G := rm 10000 j) (k := 10000) h; unfold CoX at e ⊢; (intros; refine rm_W ?_; apply e <;> assumption)
theorem evCl : Ev ClX := ev0 fun j => by have e := cl_ok (G := rm 10000 j) (k := 10000); unfold ClX at e ⊢; (intros; refine rm_W ?_; apply e <;> assumption)
theorem evLis : Ev LisX := ev0 fun j => by have e := lis_ok (G := rm 10000 j) (k := 10000); unfold LisX at e ⊢; (intros; refine rm_W ?_; apply e <;> assumption)
theorem evLhi : Ev LhiX := ev0 fun j => by have e := lhi_ok (G := rm 10000 j) (k := 10000); unfold LhiX at e ⊢; (intros; refine rm_W ?_; apply e <;> assumption)
theorem evCRem : Ev (RemOK 20) := evS (evA (evA evIns evLis) (evA evLhi (evA evCo evCl))) fun j h => by have e := crem_ok (G := rm 10000 j) (k := 10000) (by omega) h.1.1 h.1.2 h.2.1 h.2.2.1 h.2.2.2; unfold RemOK at e ⊢; (intros; refine rm_W ?_; apply e <;> assumption)
theorem evRows : Ev RowsOK := evS evSame fun j h => by have e := rows_ok (G := rm 10000 j) (k := 10000) (by omega) h; unfold RowsOK at e ⊢; (intros; refine rm_W ?_; apply e <;> assumption)
theorem evRemLaw : Ev RemLawOK := evS (evA (evA evKnL evNds) (evA (evA evPlace (evSome 200)) (evA (evA evRRem evCRem) (evA evExit evRows)))) fun j h => by
  have e := rem_law (G := rm 10000 j) (k := 10000) (by omega) h.1.1 h.1.2 h.2.1.1 h.2.1.2 h.2.2.1.1 h.2.2.1.2 h.2.2.2.1 h.2.2.2.2
  unfold RemLawOK at e ⊢; (intros; refine rm_W ?_; apply e <;> assumption)
end Go.Proofs.Ytokgijpdehjckaa.Vm
