/- Functions of the program, told by the machine of values, and what they answer: part 3. -/
import Derived.Test.YtblabbcmokldiaaFf1
import Derived.Test.YtblabbcmokldiaaFf2
open Go Go.VM
set_option linter.unusedVariables false
set_option maxRecDepth 100000
set_option maxHeartbeats 4000000
namespace Go.Proofs.Ytblabbcmokldiaa.Vm
/-! ### cotillion/cotillionref3.And: function 57 -/
def L57 {R : Type} (_ : ORC R) (_ : Nat) : Nat → St → (Ex → St → Option R) → Option R := fun _ _ _ => none
def f57 {R : Type} (G : ORC R) (k : Nat) (al1 al2 : List V) (K : List V → Option R) : Option R :=
  (G 36 [(.sl 1 al1), (.sl 1 al2)] fun o3 => (uL 1 o3 fun l5 r4 => (unNil r4 (G 36 [(.sl 1 al1), (.sl 1 l5)] fun o6 => (uL 1 o6 fun l8 r7 => (unNil r7 (K [(.sl 1 l8)])))))))
theorem f57_is {R : Type} (G : ORC R) (k : Nat) (K : List V → Option R) (al1 al2 : List V) :
    callF (TAB.env 57) G (L57 G k) Try.f57 S57 [(.sl 1 al1), (.sl 1 al2)] K = f57 G k al1 al2 K := by kernel_rfl
theorem lo57 : loopsOf (bodyOf Try.f57) = [] := by kernel_rfl
theorem la57 {R : Type} (G : ORC R) (k : Nat) : LoopsAre (TAB.env 57) G (L57 G k) (bodyOf Try.f57) :=
  loopsAre_of (by rw [lo57]; intro p hp; cases hp)
def g57 {R : Type} (G : ORC R) (k : Nat) (args : List V) (K : List V → Option R) : Option R := match args with
  | [(.sl 1 al1), (.sl 1 al2)] => f57 G k al1 al2 K
  | _ => none
theorem s57 {R : Type} {G : ORC R} {k : Nat} (hG : Sound Try.prog TAB G) (args : List V) (K : List V → Option R) (r : R) (h : g57 G k args K = some r) : ∃ o, CallOK Try.prog TAB.env 57 args o ∧ K o = some r := by
  unfold g57 at h
  split at h
  · rw [← f57_is] at h
    exact callF_sound (f := 57) TAB_chk MO hG Try.func57 (sg := S57) (by kernel_rfl) (by kernel_rfl) (la57 G k) h
  · cases h
end Go.Proofs.Ytblabbcmokldiaa.Vm
open Go Go.VM
set_option linter.unusedVariables false
set_option linter.unusedSimpArgs false
set_option maxRecDepth 100000
set_option maxHeartbeats 8000000
namespace Go.Proofs.Ytblabbcmokldiaa.Vm
section
variable {R : Type} {G : ORC R} {k : Nat} {K : List V → Option R}
theorem ivs_atZ {l : List Int} {i : Nat} {n : Int} (h : l[i]? = some n) : (ivs l)[((i : Nat) : Int).toNat]? = some (.int .i64 n) := by rw [Int.toNat_natCast]; exact ivs_at h
theorem get_ex {l : List Int} {m : Nat} (h : m < l.length) : ∃ x, l[m]? = some x := ⟨_, List.getElem?_eq_getElem h⟩
def HasOK (G : ORC R) : Prop := ∀ (l : List Int) (i : Int) (K : List V → Option R), l.length ≤ 9000 → W (fun o => o = [.bool (hasL l i)]) K (G 34 [.sl 1 (ivs l), .int .i64 i] K)
theorem has_loop {Q : List V → Prop} {K : List V → Option R} {Ko : Unit → Option R} {Kr : Bool → Option R} {l : List Int} {i : Int} (hl : l.length ≤ 9000) (hKo : i ∉ l → W Q K (Ko ())) (hKr : i ∈ l → W Q K (Kr true)) :
    ∀ (j m : Nat), l.length - m < j → m ≤ l.length → i ∉ l.take m → W Q K (l34_0g G k Ko Kr j (ivs l) i m)
  | 0, m, h1, h2, h3 => by omega
  | j + 1, m, h1, h2, h3 => by
    show W Q K (b34_0 G k (l34_0g G k Ko Kr j) Ko Kr (ivs l) i m)
    unfold b34_0
    refine W_dec (fun h => ?_) (fun h => hKo (by rw [ivs_len] at h; rwa [List.take_of_length_le (by omega)] at h3))
    rw [ivs_len] at h
    obtain ⟨x, hx⟩ := get_ex (l := l) (m := m) (by omega)
    refine W_at (by omega) (ivs_atZ hx) (W_aI ?_)
    refine W_beqI (fun e => hKr (by subst e; exact List.mem_of_getElem? hx)) (fun e => ?_)
    rw [wrap_id (n := (m : Int) + 1) (by omega)]
    exact has_loop hl hKo hKr j (m + 1) (by omega) (by omega) (by rw [take_snoc hx, List.mem_append, List.mem_singleton]; rintro (h | h); exact h3 h; exact e h.symm)
theorem has_ok (hk : 10000 ≤ k) : HasOK (fun _ args (K : List V → Option R) => g34 G k args K) := by
  intro l i K hl
  show W _ K (f34 G k (ivs l) i K)
  unfold f34 l34_0
  exact has_loop (Q := fun o => o = [.bool (hasL l i)]) (K := K) hl (fun h => W_ret (by unfold hasL; rw [decide_eq_false h])) (fun h => W_ret (by unfold hasL; rw [decide_eq_true h])) k 0 (by omega) (by omega) (by simp)
def OfOK (G : ORC R) : Prop := ∀ (l : List Int) (K : List V → Option R), l.length ≤ 9000 → W (fun o => o = [.sl 1 (ivs (ofL l))]) K (G 26 [.sl 1 (ivs l)] K)
theorem of_loop (hH : HasOK G) {Q : List V → Prop} {K : List V → Option R} {Ko : List V → Option R} {l : List Int} (hl : l.length ≤ 9000) (hKo : W Q K (Ko (ivs (ofL l)))) :
    ∀ (j m : Nat), 128 - m < j → m ≤ 128 → W Q K (l26_0g G k Ko j (ivs l) (ivs (ofGo l m)) m)
  | 0, m, h1, h2 => by omega
  | j + 1, m, h1, h2 => by
    show W Q K (b26_0 G k (l26_0g G k Ko j) Ko (ivs l) (ivs (ofGo l m)) m)
    unfold b26_0
    refine W_dec (fun h => ?_) (fun h => by rw [show m = 128 by omega]; exact hKo)
    unfold HasOK at hH
    refine W_call (hH _ _ _ hl) ?_
    rintro _ rfl
    (repeat (with_reducible (first | (refine W_uI ?_) | (refine W_uS ?_) | (refine W_uL ?_) | (refine W_uA ?_) | (refine W_uB ?_) | (refine W_aI ?_) | (refine W_aL ?_) | (refine W_ca3 ?_) | (refine W_ce3 ?_) | (refine W_ca4 ?_) | (refine W_ce4 ?_) | (refine W_ca5 ?_) | (refine W_ce5 ?_) | (refine W_ca6 ?_) | (refine W_ce6 ?_) | (refine W_ca7 ?_) | (refine W_ce7 ?_) | (refine W_ca8 ?_) | (refine W_ce8 ?_) | (refine W_nd7 ?_) | (refine W_unCons ?_) | (refine W_unNil ?_) | (refine W_asInt ?_) | (refine W_asBool ?_) | (refine W_asStr ?_) | (refine W_asSl ?_) | (refine W_asAgg ?_) | (refine W_kd ?_) | (refine W_z ?_))))
    have hgl := ofGo_len (l := l) (m := m)
    have next : ∀ a, a = ivs (ofGo l (m + 1)) → W Q K (l26_0g G k Ko j (ivs l) a (IntKind.i64.wrap ((m : Int) + 1))) := fun a ha => by
      rw [wrap_id (n := (m : Int) + 1) (by omega), ha]
      exact of_loop hH hl hKo j (m + 1) (by omega) (by omega)
    refine W_bool (fun hb => W_yes (by rw [ivs_len]; omega) (next _ (by rw [ofGo, hb]; simp [ivs]))) (fun hb => next _ (by rw [ofGo, hb]; simp))
theorem of_ok (hk : 10000 ≤ k) (hH : HasOK G) : OfOK (fun _ args (K : List V → Option R) => g26 G k args K) := by
  intro l K hl
  show W _ K (f26 G k (ivs l) K)
  unfold f26 l26_0
  exact of_loop (Q := fun o => o = [.sl 1 (ivs (ofL l))]) (K := K) (Ko := fun x => K [.sl 1 x]) hH hl (W_ret rfl) k 0 (by omega) (by omega)
def NotOK (G : ORC R) : Prop := ∀ (a b : List Int) (K : List V → Option R), a.length ≤ 9000 → b.length ≤ 9000 → W (fun o => o = [.sl 1 (ivs (notL a b))]) K (G 36 [.sl 1 (ivs a), .sl 1 (ivs b)] K)
theorem notL_len {a b : List Int} : (notL a b).length ≤ a.length := List.length_filter_le _ _
theorem notL_snoc {a b : List Int} {x : Int} : notL (a ++ [x]) b = notL a b ++ if hasL b x then [] else [x] := by
  unfold notL; rw [List.filter_append, List.filter_cons]; cases hasL b x <;> simp
theorem not_loop (hH : HasOK G) {Q : List V → Prop} {K : List V → Option R} {Ko : List V → Option R} {a b : List Int} (ha : a.length ≤ 9000) (hb : b.length ≤ 9000) (hKo : W Q K (Ko (ivs (notL a b)))) :
    ∀ (j m : Nat), a.length - m < j → m ≤ a.length → W Q K (l36_0g G k Ko j (ivs a) (ivs b) (ivs (notL (a.take m) b)) m)
  | 0, m, h1, h2 => by omega
  | j + 1, m, h1, h2 => by
    show W Q K (b36_0 G k (l36_0g G k Ko j) Ko (ivs a) (ivs b) (ivs (notL (a.take m) b)) m)
    unfold b36_0
    refine W_dec (fun h => ?_) (fun h => by rw [ivs_len] at h; rw [List.take_of_length_le (by omega)]; exact hKo)
    rw [ivs_len] at h
    obtain ⟨x, hx⟩ := get_ex (l := a) (m := m) (by omega)
    have hnl := notL_len (a := a.take m) (b := b)
    rw [List.length_take] at hnl
    unfold HasOK at hH
    refine W_at (by omega) (ivs_atZ hx) (W_aI ?_)
    refine W_call (hH _ _ _ hb) ?_
    rintro _ rfl
    (repeat (with_reducible (first | (refine W_uI ?_) | (refine W_uS ?_) | (refine W_uL ?_) | (refine W_uA ?_) | (refine W_uB ?_) | (refine W_aI ?_) | (refine W_aL ?_) | (refine W_ca3 ?_) | (refine W_ce3 ?_) | (refine W_ca4 ?_) | (refine W_ce4 ?_) | (refine W_ca5 ?_) | (refine W_ce5 ?_) | (refine W_ca6 ?_) | (refine W_ce6 ?_) | (refine W_ca7 ?_) | (refine W_ce7 ?_) | (refine W_ca8 ?_) | (refine W_ce8 ?_) | (refine W_nd7 ?_) | (refine W_unCons ?_) | (refine W_unNil ?_) | (refine W_asInt ?_) | (refine W_asBool ?_) | (refine W_asStr ?_) | (refine W_asSl ?_) | (refine W_asAgg ?_) | (refine W_kd ?_) | (refine W_z ?_))))
    have next : ∀ c, c = ivs (notL (a.take (m + 1)) b) → W Q K (l36_0g G k Ko j (ivs a) (ivs b) c (IntKind.i64.wrap ((m : Int) + 1))) := fun c hc => by
      rw [wrap_id (n := (m : Int) + 1) (by omega), hc]
      exact not_loop hH ha hb hKo j (m + 1) (by omega) (by omega)
    refine W_not (W_bool (fun hb => next _ (by rw [take_snoc hx, notL_snoc, hb]; simp)) (fun hb => ?_))
    refine W_at (by omega) (ivs_atZ hx) (W_aI ?_)
    exact W_yes (by rw [ivs_len]; omega) (next _ (by rw [take_snoc hx, notL_snoc, hb]; simp [ivs]))
theorem not_ok (hk : 10000 ≤ k) (hH : HasOK G) : NotOK (fun _ args (K : List V → Option R) => g36 G k args K) := by
  intro a b K ha hb
  show W _ K (f36 G k (ivs a) (ivs b) K)
  unfold f36 l36_0
  exact not_loop (Q := fun o => o = [.sl 1 (ivs (notL a b))]) (K := K) (Ko := fun x => K [.sl 1 x]) hH ha hb (W_ret rfl) k 0 (by omega) (by omega)
def AndOK (G : ORC R) : Prop := ∀ (a b : List Int) (K : List V → Option R), a.length ≤ 9000 → b.length ≤ 9000 → W (fun o => o = [.sl 1 (ivs (andL a b))]) K (G 57 [.sl 1 (ivs a), .sl 1 (ivs b)] K)
theorem and_ok (hN : NotOK G) : AndOK (fun _ args (K : List V → Option R) => g57 G k args K) := by
  intro a b K ha hb
  show W _ K (f57 G k (ivs a) (ivs b) K)
  unfold f57
  unfold NotOK at hN
  refine W_call (hN _ _ _ ha hb) ?_
  rintro _ rfl
  (repeat (with_reducible (first | (refine W_uI ?_) | (refine W_uS ?_) | (refine W_uL ?_) | (refine W_uA ?_) | (refine W_uB ?_) | (refine W_aI ?_) | (refine W_aL ?_) | (refine W_ca3 ?_) | (refine W_ce3 ?_) | (refine W_ca4 ?_) | (refine W_ce4 ?_) | (refine W_ca5 ?_) | (refine W_ce5 ?_) | (refine W_ca6 ?_) | (refine W_ce6 ?_) | (refine W_ca7 ?_) | (refine W_ce7 ?_) | (refine W_ca8 ?_) | (refine W_ce8 ?_) | (refine W_nd7 ?_) | (refine W_unCons ?_) | (refine W_unNil ?_) | (refine W_asInt ?_) | (refine W_asBool ?_) | (refine W_asStr ?_) | (refine W_asSl ?_) | (refine W_asAgg ?_) | (refine W_kd ?_) | (refine W_z ?_))))
  refine W_call (hN _ _ _ ha (Nat.le_trans notL_len ha)) ?_
  rintro _ rfl
  (repeat (with_reducible (first | (refine W_uI ?_) | (refine W_uS ?_) | (refine W_uL ?_) | (refine W_uA ?_) | (refine W_uB ?_) | (refine W_aI ?_) | (refine W_aL ?_) | (refine W_ca3 ?_) | (refine W_ce3 ?_) | (refine W_ca4 ?_) | (refine W_ce4 ?_) | (refine W_ca5 ?_) | (refine W_ce5 ?_) | (refine W_ca6 ?_) | (refine W_ce6 ?_) | (refine W_ca7 ?_) | (refine W_ce7 ?_) | (refine W_ca8 ?_) | (refine W_ce8 ?_) | (refine W_nd7 ?_) | (refine W_unCons ?_) | (refine W_unNil ?_) | (refine W_asInt ?_) | (refine W_asBool ?_) | (refine W_asStr ?_) | (refine W_asSl ?_) | (refine W_asAgg ?_) | (refine W_kd ?_) | (refine W_z ?_))))
  exact W_ret rfl
/-! The states right in a node. -/
def StatesOK (G : ORC R) : Prop := ∀ (ns : List Nd) (i : Int) (K : List V → Option R), ns.length ≤ 1000 → W (fun o => o = [.sl 1 (ivs (statesN ns i))]) K (G 67 [.sl 7 (ns.map Nd.v), .int .i64 i] K)
theorem filt_snoc {l : List Int} {p : Int → Bool} {x : Int} : (l ++ [x]).filter p = l.filter p ++ if p x then [x] else [] := by
  rw [List.filter_append, List.filter_cons]; cases p x <;> simp
theorem kid_at {ns : List Nd} {i x : Int} {m : Nat} (h : (kidsN ns i)[m]? = some x) : ∃ (q : Nat) (n : Nd), x = q ∧ ns[q]? = some n ∧ q < ns.length ∧ isSt ns x = decide (n.kind ≤ 3) := by
  obtain ⟨q, n, h1, h2, h3, _⟩ := mem_kidsN.1 (List.mem_of_getElem? h)
  exact ⟨q, n, h1, h2, (List.getElem?_eq_some_iff.1 h2).1, by unfold isSt; rw [h1, Int.toNat_natCast, h2]⟩
theorem states_loop (hS : IsStOK G) {Q : List V → Prop} {K : List V → Option R} {Ko : List V → Option R} {ns : List Nd} {i : Int} (hl : ns.length ≤ 1000) (hKo : W Q K (Ko (ivs (statesN ns i)))) :
    ∀ (j m : Nat), (kidsN ns i).length - m < j → m ≤ (kidsN ns i).length → W Q K (l67_0g G k Ko j (ns.map Nd.v) (ivs (((kidsN ns i).take m).filter (isSt ns))) (ivs (kidsN ns i)) m)
  | 0, m, h1, h2 => by omega
  | j + 1, m, h1, h2 => by
    show W Q K (b67_0 G k (l67_0g G k Ko j) Ko (ns.map Nd.v) (ivs (((kidsN ns i).take m).filter (isSt ns))) (ivs (kidsN ns i)) m)
    unfold b67_0
    have hkl : (kidsN ns i).length ≤ ns.length := kidsGo_len
    refine W_dec (fun h => ?_) (fun h => by rw [ivs_len] at h; rw [List.take_of_length_le (by omega)]; exact hKo)
    rw [ivs_len] at h
    obtain ⟨x, hx⟩ := get_ex (l := kidsN ns i) (m := m) (by omega)
    obtain ⟨q, n, rfl, hn, hq, hst⟩ := kid_at hx
    have hfl := List.length_filter_le (isSt ns) ((kidsN ns i).take m)
    rw [List.length_take] at hfl
    unfold IsStOK at hS
    refine W_at (by omega) (ivs_atZ hx) (W_aI ?_)
    refine W_at (by omega) (by rw [Int.toNat_natCast]; exact nd_get hn) (W_asAgg ?_)
    refine W_call (hS n _) ?_
    rintro _ rfl
    (repeat (with_reducible (first | (refine W_uI ?_) | (refine W_uS ?_) | (refine W_uL ?_) | (refine W_uA ?_) | (refine W_uB ?_) | (refine W_aI ?_) | (refine W_aL ?_) | (refine W_ca3 ?_) | (refine W_ce3 ?_) | (refine W_ca4 ?_) | (refine W_ce4 ?_) | (refine W_ca5 ?_) | (refine W_ce5 ?_) | (refine W_ca6 ?_) | (refine W_ce6 ?_) | (refine W_ca7 ?_) | (refine W_ce7 ?_) | (refine W_ca8 ?_) | (refine W_ce8 ?_) | (refine W_nd7 ?_) | (refine W_unCons ?_) | (refine W_unNil ?_) | (refine W_asInt ?_) | (refine W_asBool ?_) | (refine W_asStr ?_) | (refine W_asSl ?_) | (refine W_asAgg ?_) | (refine W_kd ?_) | (refine W_z ?_))))
    have next : ∀ c, c = ivs (((kidsN ns i).take (m + 1)).filter (isSt ns)) → W Q K (l67_0g G k Ko j (ns.map Nd.v) c (ivs (kidsN ns i)) (IntKind.i64.wrap ((m : Int) + 1))) := fun c hc => by
      rw [wrap_id (n := (m : Int) + 1) (by omega), hc]
      exact states_loop hS hl hKo j (m + 1) (by omega) (by omega)
    rw [← hst]
    refine W_bool (fun hb => ?_) (fun hb => next _ (by rw [take_snoc hx, filt_snoc, hb]; simp))
    refine W_at (by omega) (ivs_atZ hx) (W_aI ?_)
    exact W_yes (by rw [ivs_len]; omega) (next _ (by rw [take_snoc hx, filt_snoc, hb]; simp [ivs]))
theorem states_ok (hk : 10000 ≤ k) (hK : KidsOK 24 G) (hS : IsStOK G) : StatesOK (fun _ args (K : List V → Option R) => g67 G k args K) := by
  intro ns i K hl
  show W _ K (f67 G k (ns.map Nd.v) i K)
  unfold f67
  unfold KidsOK at hK
  refine W_call (hK _ _ _ hl) ?_
  rintro _ rfl
  (repeat (with_reducible (first | (refine W_uI ?_) | (refine W_uS ?_) | (refine W_uL ?_) | (refine W_uA ?_) | (refine W_uB ?_) | (refine W_aI ?_) | (refine W_aL ?_) | (refine W_ca3 ?_) | (refine W_ce3 ?_) | (refine W_ca4 ?_) | (refine W_ce4 ?_) | (refine W_ca5 ?_) | (refine W_ce5 ?_) | (refine W_ca6 ?_) | (refine W_ce6 ?_) | (refine W_ca7 ?_) | (refine W_ce7 ?_) | (refine W_ca8 ?_) | (refine W_ce8 ?_) | (refine W_nd7 ?_) | (refine W_unCons ?_) | (refine W_unNil ?_) | (refine W_asInt ?_) | (refine W_asBool ?_) | (refine W_asStr ?_) | (refine W_asSl ?_) | (refine W_asAgg ?_) | (refine W_kd ?_) | (refine W_z ?_))))
  unfold l67_0
  have hkl : (kidsN ns i).length ≤ ns.length := kidsGo_len
  exact states_loop (Q := fun o => o = [.sl 1 (ivs (statesN ns i))]) (K := K) (Ko := fun x => K [.sl 1 x]) hS hl (W_ret rfl) k 0 (by omega) (by omega)
theorem statesN_len {ns : List Nd} {i : Int} : (statesN ns i).length ≤ ns.length := Nat.le_trans (List.length_filter_le _ _) kidsGo_len
theorem andL_len {a b : List Int} : (andL a b).length ≤ a.length := notL_len
/-! The document's Legal. -/
def LegalOK (f : FuncId) (G : ORC R) : Prop := ∀ (ns : List Nd) (conf : List Int) (K : List V → Option R), Tree ns → ns.length ≤ 1000 → conf.length ≤ 9000 → W (fun o => ∃ b, o = [.bool b] ∧ (b = true ↔ LegalP ns conf)) K (G f [.sl 7 (ns.map Nd.v), .sl 1 (ivs conf)] K)
end
end Go.Proofs.Ytblabbcmokldiaa.Vm
open Go Go.VM
set_option linter.unusedVariables false
set_option linter.unusedSimpArgs false
set_option maxRecDepth 100000
set_option maxHeartbeats 8000000
namespace Go.Proofs.Ytblabbcmokldiaa.Vm
section
variable {R : Type} {G : ORC R} {k : Nat} {K : List V → Option R}
theorem act_at {n : Nat} {s : List Int} {i : Int} (h0 : 0 ≤ i) (h : i < n) : (actV n s)[i.toNat]? = some (.bool (hasL s i)) := by
  rw [actV_get (by omega), show ((i.toNat : Nat) : Int) = i by omega]
theorem clegal_loop0 (hI : CIsOK G) (hH : HistOK G) {Q : List V → Prop} {K : List V → Option R} {Ko : List V → List V → List V → Option R} {Kr : Bool → Option R} {ns : List Nd} {conf : List Int} (T : Tree ns) (hl : ns.length ≤ 1000) (hcl : conf.length ≤ 9000)
    (hKo : (∀ (i : Nat) c, conf[i]? = some c → StepA ns conf i c) → W Q K (Ko (ns.map Nd.v) (ivs conf) (actV ns.length conf))) (hKr : ¬ LegalP ns conf → W Q K (Kr false)) :
    ∀ (j m : Nat), conf.length - m < j → m ≤ conf.length → (∀ (i : Nat) c, i < m → conf[i]? = some c → StepA ns conf i c) → W Q K (l29_0g G k Ko Kr j (ns.map Nd.v) (ivs conf) (actV ns.length (conf.take m)) (ivs conf) conf.length m)
  | 0, m, h1, h2, h3 => by omega
  | j + 1, m, h1, h2, h3 => by
    show W Q K (b29_0 G k (l29_0g G k Ko Kr j) Ko Kr (ns.map Nd.v) (ivs conf) (actV ns.length (conf.take m)) (ivs conf) conf.length m)
    unfold b29_0
    refine W_dec (fun h => ?_) (fun h => by rw [List.take_of_length_le (by omega)]; exact hKo fun i c hc => h3 i c (by have := (List.getElem?_eq_some_iff.1 hc).1; omega) hc)
    obtain ⟨c, hc⟩ := get_ex (l := conf) (m := m) (by omega)
    unfold CIsOK at hI; unfold HistOK at hH
    have bad : (LegalP ns conf → False) → W Q K (Kr false) := hKr
    refine W_at (by omega) (ivs_atZ hc) (W_aI ?_)
    refine W_call (hI _ _ _) ?_
    rintro _ rfl
    (repeat (with_reducible (first | (refine W_uI ?_) | (refine W_uS ?_) | (refine W_uL ?_) | (refine W_uA ?_) | (refine W_uB ?_) | (refine W_aI ?_) | (refine W_aL ?_) | (refine W_ca3 ?_) | (refine W_ce3 ?_) | (refine W_ca4 ?_) | (refine W_ce4 ?_) | (refine W_ca5 ?_) | (refine W_ce5 ?_) | (refine W_ca6 ?_) | (refine W_ce6 ?_) | (refine W_ca7 ?_) | (refine W_ce7 ?_) | (refine W_ca8 ?_) | (refine W_ce8 ?_) | (refine W_nd7 ?_) | (refine W_unCons ?_) | (refine W_unNil ?_) | (refine W_asInt ?_) | (refine W_asBool ?_) | (refine W_asStr ?_) | (refine W_asSl ?_) | (refine W_asAgg ?_) | (refine W_kd ?_) | (refine W_z ?_))))
    refine W_not (W_dec (fun hr => ?_) (fun hr => bad fun hh => hr (by rw [List.length_map]; exact (hh.2 m c hc).1.1)))
    rw [List.length_map] at hr
    obtain ⟨n, hn⟩ : ∃ n, ns[c.toNat]? = some n := ⟨_, List.getElem?_eq_getElem (by omega)⟩
    have hg : (ns.map Nd.v)[c.toNat]? = some n.v := nd_get hn
    have hkinds := T.seg.kinds _ n hn
    have hpar := T.seg.par _ n hn
    have next : StepA ns conf m c → W Q K (l29_0g G k Ko Kr j (ns.map Nd.v) (ivs conf) (List.set (actV ns.length (conf.take m)) c.toNat (.bool true)) (ivs conf) conf.length (IntKind.i64.wrap ((m : Int) + 1))) := fun hsa => by
      rw [wrap_id (n := (m : Int) + 1) (by omega), actV_set hr.1 (by omega), ← take_snoc hc]
      refine clegal_loop0 hI hH T hl hcl hKo hKr j (m + 1) (by omega) (by omega) fun i c' hi hc' => ?_
      by_cases e : i = m
      · subst e; rw [hc] at hc'; cases hc'; exact hsa
      · exact h3 i c' (by omega) hc'
    have hact : (actV ns.length (conf.take m))[c.toNat]? = some (.bool (hasL (conf.take m) c)) := act_at hr.1 hr.2
    refine W_dec (fun h0 => ?_) (fun h0 => ?_)
    · obtain ⟨p, hp⟩ := get_ex (l := conf) (m := m - 1) (by omega)
      rw [wrap_id (n := (m : Int) - 1) (by omega)]
      refine W_at (by omega) (by rw [show ((m : Int) - 1).toNat = m - 1 by omega]; exact ivs_at hp) (W_aI ?_)
      refine W_dec (fun hle => bad fun hh => ?_) (fun hle => ?_)
      · have := (hh.2 m c hc).1.2.1 p (by omega) hp; omega
      have hasc : ∀ q, 0 < m → conf[m - 1]? = some q → q < c := fun q _ hq => by rw [hp] at hq; cases hq; omega
      refine W_at (by omega) hg (W_nd7 (W_aI ?_))
      refine W_call (hH n.kind _) ?_
      rintro _ rfl
      (repeat (with_reducible (first | (refine W_uI ?_) | (refine W_uS ?_) | (refine W_uL ?_) | (refine W_uA ?_) | (refine W_uB ?_) | (refine W_aI ?_) | (refine W_aL ?_) | (refine W_ca3 ?_) | (refine W_ce3 ?_) | (refine W_ca4 ?_) | (refine W_ce4 ?_) | (refine W_ca5 ?_) | (refine W_ce5 ?_) | (refine W_ca6 ?_) | (refine W_ce6 ?_) | (refine W_ca7 ?_) | (refine W_ce7 ?_) | (refine W_ca8 ?_) | (refine W_ce8 ?_) | (refine W_nd7 ?_) | (refine W_unCons ?_) | (refine W_unNil ?_) | (refine W_asInt ?_) | (refine W_asBool ?_) | (refine W_asStr ?_) | (refine W_asSl ?_) | (refine W_asAgg ?_) | (refine W_kd ?_) | (refine W_z ?_))))
      refine W_dec (fun hk3 => bad fun hh => ?_) (fun hk3 => ?_)
      · have := ((hh.2 m c hc).1.2.2 n hn).1; omega
      refine W_dec (fun hc0 => ?_) (fun hc0 => ?_)
      · have hp0 := T.par0 _ n hn (by omega)
        refine W_at (by omega) hg (W_nd7 (W_aI ?_))
        refine W_call (hI _ _ _) ?_
        rintro _ rfl
        (repeat (with_reducible (first | (refine W_uI ?_) | (refine W_uS ?_) | (refine W_uL ?_) | (refine W_uA ?_) | (refine W_uB ?_) | (refine W_aI ?_) | (refine W_aL ?_) | (refine W_ca3 ?_) | (refine W_ce3 ?_) | (refine W_ca4 ?_) | (refine W_ce4 ?_) | (refine W_ca5 ?_) | (refine W_ce5 ?_) | (refine W_ca6 ?_) | (refine W_ce6 ?_) | (refine W_ca7 ?_) | (refine W_ce7 ?_) | (refine W_ca8 ?_) | (refine W_ce8 ?_) | (refine W_nd7 ?_) | (refine W_unCons ?_) | (refine W_unNil ?_) | (refine W_asInt ?_) | (refine W_asBool ?_) | (refine W_asStr ?_) | (refine W_asSl ?_) | (refine W_asAgg ?_) | (refine W_kd ?_) | (refine W_z ?_))))
        refine W_not (W_yes (by rw [List.length_map]; omega) ?_)
        refine W_at (by omega) hg (W_nd7 (W_aI ?_))
        refine W_at (by omega) (act_at (by omega) (by omega)) (W_asBool ?_)
        refine W_not (W_bool (fun hb => ?_) (fun hb => bad fun hh => ?_))
        · refine W_at (by omega) hact ?_
          exact next ⟨hr, hasc, fun n' hn' => by rw [hn] at hn'; cases hn'; exact ⟨by omega, fun _ => List.mem_of_mem_take (hasL_iff.1 hb)⟩⟩
        · have := asc_take (fun i c hc => (hh.2 i c hc).1) hc (((hh.2 m c hc).1.2.2 n hn).2 (by omega)) (by omega)
          rw [← hasL_iff, hb] at this; cases this
      · refine W_at (by omega) hact ?_
        exact next ⟨hr, hasc, fun n' hn' => by rw [hn] at hn'; cases hn'; exact ⟨by omega, fun h => absurd h hc0⟩⟩
    · have hasc : ∀ q, 0 < m → conf[m - 1]? = some q → q < c := fun q h _ => by omega
      refine W_at (by omega) hg (W_nd7 (W_aI ?_))
      refine W_call (hH n.kind _) ?_
      rintro _ rfl
      (repeat (with_reducible (first | (refine W_uI ?_) | (refine W_uS ?_) | (refine W_uL ?_) | (refine W_uA ?_) | (refine W_uB ?_) | (refine W_aI ?_) | (refine W_aL ?_) | (refine W_ca3 ?_) | (refine W_ce3 ?_) | (refine W_ca4 ?_) | (refine W_ce4 ?_) | (refine W_ca5 ?_) | (refine W_ce5 ?_) | (refine W_ca6 ?_) | (refine W_ce6 ?_) | (refine W_ca7 ?_) | (refine W_ce7 ?_) | (refine W_ca8 ?_) | (refine W_ce8 ?_) | (refine W_nd7 ?_) | (refine W_unCons ?_) | (refine W_unNil ?_) | (refine W_asInt ?_) | (refine W_asBool ?_) | (refine W_asStr ?_) | (refine W_asSl ?_) | (refine W_asAgg ?_) | (refine W_kd ?_) | (refine W_z ?_))))
      refine W_dec (fun hk3 => bad fun hh => ?_) (fun hk3 => ?_)
      · have := ((hh.2 m c hc).1.2.2 n hn).1; omega
      refine W_dec (fun hc0 => ?_) (fun hc0 => ?_)
      · have hp0 := T.par0 _ n hn (by omega)
        refine W_at (by omega) hg (W_nd7 (W_aI ?_))
        refine W_call (hI _ _ _) ?_
        rintro _ rfl
        (repeat (with_reducible (first | (refine W_uI ?_) | (refine W_uS ?_) | (refine W_uL ?_) | (refine W_uA ?_) | (refine W_uB ?_) | (refine W_aI ?_) | (refine W_aL ?_) | (refine W_ca3 ?_) | (refine W_ce3 ?_) | (refine W_ca4 ?_) | (refine W_ce4 ?_) | (refine W_ca5 ?_) | (refine W_ce5 ?_) | (refine W_ca6 ?_) | (refine W_ce6 ?_) | (refine W_ca7 ?_) | (refine W_ce7 ?_) | (refine W_ca8 ?_) | (refine W_ce8 ?_) | (refine W_nd7 ?_) | (refine W_unCons ?_) | (refine W_unNil ?_) | (refine W_asInt ?_) | (refine W_asBool ?_) | (refine W_asStr ?_) | (refine W_asSl ?_) | (refine W_asAgg ?_) | (refine W_kd ?_) | (refine W_z ?_))))
        refine W_not (W_yes (by rw [List.length_map]; omega) ?_)
        refine W_at (by omega) hg (W_nd7 (W_aI ?_))
        refine W_at (by omega) (act_at (by omega) (by omega)) (W_asBool ?_)
        refine W_not (W_bool (fun hb => ?_) (fun hb => bad fun hh => ?_))
        · refine W_at (by omega) hact ?_
          exact next ⟨hr, hasc, fun n' hn' => by rw [hn] at hn'; cases hn'; exact ⟨by omega, fun _ => List.mem_of_mem_take (hasL_iff.1 hb)⟩⟩
        · have := asc_take (fun i c hc => (hh.2 i c hc).1) hc (((hh.2 m c hc).1.2.2 n hn).2 (by omega)) (by omega)
          rw [← hasL_iff, hb] at this; cases this
      · refine W_at (by omega) hact ?_
        exact next ⟨hr, hasc, fun n' hn' => by rw [hn] at hn'; cases hn'; exact ⟨by omega, fun h => absurd h hc0⟩⟩
/-- The kids that are states: how many are in, whether all are. -/
theorem clegal_loop4 (hH : HistOK G) {Q : List V → Prop} {K : List V → Option R} {Ko : List V → List V → Int → Int → Bool → List V → Int → Int → Option R} {ns : List Nd} {conf : List Int} {c : Int} {x1 x2 : Int} (T : Tree ns) (hl : ns.length ≤ 1000) (hcl : conf.length ≤ 9000)
    (hKo : W Q K (Ko (ns.map Nd.v) (actV ns.length conf) c (((statesN ns c).filter (hasL conf)).length : Nat) ((statesN ns c).all (hasL conf)) (ivs conf) x1 x2)) :
    ∀ (j m : Nat), (kidsN ns c).length - m < j → m ≤ (kidsN ns c).length →
      W Q K (l29_4g G k Ko j (ns.map Nd.v) (actV ns.length conf) c (((((kidsN ns c).take m).filter (isSt ns)).filter (hasL conf)).length : Nat) ((((kidsN ns c).take m).filter (isSt ns)).all (hasL conf)) (ivs conf) x1 x2 (ivs (kidsN ns c)) (kidsN ns c).length m)
  | 0, m, h1, h2 => by omega
  | j + 1, m, h1, h2 => by
    show W Q K (b29_4 G k (l29_4g G k Ko j) Ko (ns.map Nd.v) (actV ns.length conf) c (((((kidsN ns c).take m).filter (isSt ns)).filter (hasL conf)).length : Nat) ((((kidsN ns c).take m).filter (isSt ns)).all (hasL conf)) (ivs conf) x1 x2 (ivs (kidsN ns c)) (kidsN ns c).length m)
    unfold b29_4
    have hkl : (kidsN ns c).length ≤ ns.length := kidsGo_len
    refine W_dec (fun h => ?_) (fun h => by rw [List.take_of_length_le (by omega)]; exact hKo)
    obtain ⟨x, hx⟩ := get_ex (l := kidsN ns c) (m := m) (by omega)
    obtain ⟨q, n, rfl, hn, hq, hst⟩ := kid_at hx
    have hkinds := T.seg.kinds _ n hn
    unfold HistOK at hH
    have hcnt : ((((kidsN ns c).take m).filter (isSt ns)).filter (hasL conf)).length ≤ 1000 := Nat.le_trans (List.length_filter_le _ _) (Nat.le_trans (List.length_filter_le _ _) (by rw [List.length_take]; omega))
    have next : ∀ (a : Int) (b : Bool), a = (((((kidsN ns c).take (m + 1)).filter (isSt ns)).filter (hasL conf)).length : Nat) → b = ((((kidsN ns c).take (m + 1)).filter (isSt ns)).all (hasL conf)) → W Q K (l29_4g G k Ko j (ns.map Nd.v) (actV ns.length conf) c a b (ivs conf) x1 x2 (ivs (kidsN ns c)) (kidsN ns c).length (IntKind.i64.wrap ((m : Int) + 1))) := fun a b ha hb => by
      rw [wrap_id (n := (m : Int) + 1) (by omega), ha, hb]
      exact clegal_loop4 hH T hl hcl hKo j (m + 1) (by omega) (by omega)
    have hg : (ns.map Nd.v)[((q : Nat) : Int).toNat]? = some n.v := by rw [Int.toNat_natCast]; exact nd_get hn
    have hact : (actV ns.length conf)[((q : Nat) : Int).toNat]? = some (.bool (hasL conf q)) := act_at (by omega) (by omega)
    refine W_at (by omega) (ivs_atZ hx) (W_aI ?_)
    refine W_at (by omega) hg (W_nd7 (W_aI ?_))
    refine W_call (hH n.kind _) ?_
    rintro _ rfl
    (repeat (with_reducible (first | (refine W_uI ?_) | (refine W_uS ?_) | (refine W_uL ?_) | (refine W_uA ?_) | (refine W_uB ?_) | (refine W_aI ?_) | (refine W_aL ?_) | (refine W_ca3 ?_) | (refine W_ce3 ?_) | (refine W_ca4 ?_) | (refine W_ce4 ?_) | (refine W_ca5 ?_) | (refine W_ce5 ?_) | (refine W_ca6 ?_) | (refine W_ce6 ?_) | (refine W_ca7 ?_) | (refine W_ce7 ?_) | (refine W_ca8 ?_) | (refine W_ce8 ?_) | (refine W_nd7 ?_) | (refine W_unCons ?_) | (refine W_unNil ?_) | (refine W_asInt ?_) | (refine W_asBool ?_) | (refine W_asStr ?_) | (refine W_asSl ?_) | (refine W_asAgg ?_) | (refine W_kd ?_) | (refine W_z ?_))))
    rw [take_snoc hx, filt_snoc, hst] at next
    refine W_dec (fun hh => ?_) (fun hh => ?_)
    · rw [decide_eq_false (show ¬ n.kind ≤ 3 by omega)] at next
      exact next _ _ (by simp) (by simp)
    rw [decide_eq_true (show n.kind ≤ 3 by omega)] at next
    refine W_at (by omega) hact (W_asBool ?_)
    have e1 : ∀ l : List Int, (if true = true then [(q : Int)] else l) = [(q : Int)] := fun l => rfl
    rw [e1] at next
    refine W_bool (fun hb => ?_) (fun hb => ?_)
    · rw [wrap_id (n := (((((kidsN ns c).take m).filter (isSt ns)).filter (hasL conf)).length : Int) + 1) (by omega)]
      refine W_bool (fun ha => ?_) (fun ha => ?_)
      · refine W_at (by omega) hact (W_asBool ?_)
        exact next _ _ (by rw [List.filter_append]; simp [hb]) (by rw [List.all_append, ha]; simp)
      · exact next _ _ (by rw [List.filter_append]; simp [hb]) (by rw [List.all_append, ha]; simp)
    · refine W_bool (fun ha => ?_) (fun ha => ?_)
      · refine W_at (by omega) hact (W_asBool ?_)
        exact next _ _ (by rw [List.filter_append]; simp [hb]) (by rw [List.all_append, ha]; simp)
      · exact next _ _ (by rw [List.filter_append]; simp [hb]) (by rw [List.all_append, ha]; simp)
theorem clegal_loop2 (hk : 10000 ≤ k) (hH : HistOK G) (hK : KidsOK 23 G) {Q : List V → Prop} {K : List V → Option R} {Ko : Unit → Option R} {Kr : Bool → Option R} {ns : List Nd} {conf : List Int} (T : Tree ns) (hl : ns.length ≤ 1000) (hcl : conf.length ≤ 9000)
    (hsa : ∀ (i : Nat) c, conf[i]? = some c → StepA ns conf i c)
    (hKo : (∀ (i : Nat) c, conf[i]? = some c → StepB ns conf c) → W Q K (Ko ())) (hKr : ¬ LegalP ns conf → W Q K (Kr false)) :
    ∀ (j m : Nat), conf.length - m < j → m ≤ conf.length → (∀ (i : Nat) c, i < m → conf[i]? = some c → StepB ns conf c) → W Q K (l29_2g G k Ko Kr j (ns.map Nd.v) (actV ns.length conf) (ivs conf) conf.length m)
  | 0, m, h1, h2, h3 => by omega
  | j + 1, m, h1, h2, h3 => by
    show W Q K (b29_2 G k (l29_2g G k Ko Kr j) Ko Kr (ns.map Nd.v) (actV ns.length conf) (ivs conf) conf.length m)
    unfold b29_2
    refine W_dec (fun h => ?_) (fun h => hKo fun i c hc => h3 i c (by have := (List.getElem?_eq_some_iff.1 hc).1; omega) hc)
    obtain ⟨c, hc⟩ := get_ex (l := conf) (m := m) (by omega)
    have hr := (hsa m c hc).1
    obtain ⟨n, hn⟩ : ∃ n, ns[c.toNat]? = some n := ⟨_, List.getElem?_eq_getElem (by omega)⟩
    have hg : (ns.map Nd.v)[c.toNat]? = some n.v := nd_get hn
    have hKK := hK
    unfold KidsOK at hKK
    refine W_at (by omega) (ivs_atZ hc) (W_aI ?_)
    refine W_call (hKK _ _ _ hl) ?_
    rintro _ rfl
    (repeat (with_reducible (first | (refine W_uI ?_) | (refine W_uS ?_) | (refine W_uL ?_) | (refine W_uA ?_) | (refine W_uB ?_) | (refine W_aI ?_) | (refine W_aL ?_) | (refine W_ca3 ?_) | (refine W_ce3 ?_) | (refine W_ca4 ?_) | (refine W_ce4 ?_) | (refine W_ca5 ?_) | (refine W_ce5 ?_) | (refine W_ca6 ?_) | (refine W_ce6 ?_) | (refine W_ca7 ?_) | (refine W_ce7 ?_) | (refine W_ca8 ?_) | (refine W_ce8 ?_) | (refine W_nd7 ?_) | (refine W_unCons ?_) | (refine W_unNil ?_) | (refine W_asInt ?_) | (refine W_asBool ?_) | (refine W_asStr ?_) | (refine W_asSl ?_) | (refine W_asAgg ?_) | (refine W_kd ?_) | (refine W_z ?_))))
    unfold l29_4
    have hkl : (kidsN ns c).length ≤ ns.length := kidsGo_len
    rw [ivs_len]
    refine clegal_loop4 hH T hl hcl ?_ k 0 (by omega) (by omega)
    have next : StepB ns conf c → W Q K (l29_2g G k Ko Kr j (ns.map Nd.v) (actV ns.length conf) (ivs conf) conf.length (IntKind.i64.wrap ((m : Int) + 1))) := fun hsb => by
      rw [wrap_id (n := (m : Int) + 1) (by omega)]
      refine clegal_loop2 hk hH hK T hl hcl hsa hKo hKr j (m + 1) (by omega) (by omega) fun i c' hi hc' => ?_
      by_cases e : i = m
      · subst e; rw [hc] at hc'; cases hc'; exact hsb
      · exact h3 i c' (by omega) hc'
    have hall : (statesN ns c).all (hasL conf) = true ↔ (andL (statesN ns c) conf).length = (statesN ns c).length := by
      rw [andL_eq, List.all_eq_true, List.length_filter_eq_length_iff]
    have bad : ¬ StepB ns conf c → W Q K (Kr false) := fun h => hKr fun hh => h (hh.2 m c hc).2
    refine W_at (by omega) hg (W_nd7 (W_aI ?_))
    refine W_beqI (fun h2 => ?_) (fun h2 => ?_)
    · refine W_not (W_beqI (fun e1 => ?_) (fun e1 => bad fun hh => e1 (by rw [← andL_eq, (hh n hn).1 h2]; rfl)))
      refine W_at (by omega) hg (W_nd7 (W_aI ?_))
      exact W_eqN (by omega) (next fun n' hn' => by rw [hn] at hn'; cases hn'; exact ⟨fun _ => by rw [andL_eq]; omega, fun e => by omega⟩)
    · refine W_at (by omega) hg (W_nd7 (W_aI ?_))
      refine W_beqI (fun h4 => ?_) (fun h4 => next fun n' hn' => by rw [hn] at hn'; cases hn'; exact ⟨fun e => absurd e h2, fun e => absurd e h4⟩)
      refine W_not (W_bool (fun hb => next fun n' hn' => by rw [hn] at hn'; cases hn'; exact ⟨fun e => absurd e h2, fun _ => hall.1 hb⟩) (fun hb => bad fun hh => ?_))
      have := hall.2 ((hh n hn).2 h4)
      rw [hb] at this; cases this
theorem clegal_ok (hk : 10000 ≤ k) (hI : CIsOK G) (hH : HistOK G) (hK : KidsOK 23 G) : LegalOK 29 (fun _ args (K : List V → Option R) => g29 G k args K) := by
  intro ns conf K T hl hcl
  show W _ K (f29 G k (ns.map Nd.v) (ivs conf) K)
  unfold f29
  refine W_beqI (fun h => W_ret ⟨false, rfl, by simp; intro hh; have := legal_head hh; have := (List.getElem?_eq_some_iff.1 this).1; rw [ivs_len] at h; omega⟩) (fun h => ?_)
  rw [ivs_len] at h
  obtain ⟨x, hx⟩ := get_ex (l := conf) (m := 0) (by omega)
  refine W_yes (by rw [ivs_len]; omega) ?_
  refine W_nth (by rw [ivs_len]; omega) (fun v hv _ => ?_)
  rw [ivs_at hx] at hv
  cases hv
  refine W_aI ?_
  refine W_not (W_beqI (fun h0 => ?_) (fun h0 => W_ret ⟨false, rfl, by simp; intro hh; have := legal_head hh; rw [hx] at this; cases this; exact h0 rfl⟩))
  subst h0
  rw [List.length_map, Int.toNat_natCast, actV_nil]
  refine W_chk (by simp; omega) ?_
  unfold l29_0
  rw [ivs_len]
  refine clegal_loop0 hI hH T hl hcl (fun hsa => ?_) (fun h => W_ret ⟨false, rfl, by simp; exact h⟩) k 0 (by omega) (by omega) (fun i c hi => by omega)
  unfold l29_2
  rw [ivs_len]
  exact clegal_loop2 hk hH hK T hl hcl hsa (fun hsb => W_ret ⟨true, rfl, by simp; exact ⟨List.mem_of_getElem? hx, fun i c hc => ⟨hsa i c hc, hsb i c hc⟩⟩⟩) (fun h => W_ret ⟨false, rfl, by simp; exact h⟩) k 0 (by omega) (by omega) (fun i c hi => by omega)
end
end Go.Proofs.Ytblabbcmokldiaa.Vm
open Go Go.VM
set_option linter.unusedVariables false
set_option linter.unusedSimpArgs false
set_option maxRecDepth 100000
set_option maxHeartbeats 8000000
namespace Go.Proofs.Ytblabbcmokldiaa.Vm
section
variable {R : Type} {G : ORC R} {k : Nat} {K : List V → Option R}
def AtomicOK (f : FuncId) (G : ORC R) : Prop := ∀ (ns : List Nd) (conf : List Int) (K : List V → Option R), conf.length ≤ 9000 → W (fun o => o = [.sl 1 (ivs (atomN ns conf))]) K (G f [.sl 7 (ns.map Nd.v), .sl 1 (ivs conf)] K)
theorem atomAt_in {ns : List Nd} {c : Int} {n : Nd} (hr : 0 ≤ c ∧ c < ns.length) (hn : ns[c.toNat]? = some n) : atomAt ns c = decide (n.kind = 1) := by unfold atomAt; rw [hn, decide_eq_true hr]; rfl
theorem atomAt_out {ns : List Nd} {c : Int} (hr : ¬ (0 ≤ c ∧ c < ns.length)) : atomAt ns c = false := by unfold atomAt; rw [decide_eq_false hr]; rfl
theorem catomic_loop (hI : CIsOK G) {Q : List V → Prop} {K : List V → Option R} {Ko : List V → Option R} {ns : List Nd} {conf : List Int} (hcl : conf.length ≤ 9000) (hKo : W Q K (Ko (ivs (atomN ns conf)))) :
    ∀ (j m : Nat), conf.length - m < j → m ≤ conf.length → W Q K (l31_0g G k Ko j (ns.map Nd.v) (ivs (atomN ns (conf.take m))) (ivs conf) conf.length m)
  | 0, m, h1, h2 => by omega
  | j + 1, m, h1, h2 => by
    show W Q K (b31_0 G k (l31_0g G k Ko j) Ko (ns.map Nd.v) (ivs (atomN ns (conf.take m))) (ivs conf) conf.length m)
    unfold b31_0
    refine W_dec (fun h => ?_) (fun h => by rw [List.take_of_length_le (by omega)]; exact hKo)
    obtain ⟨c, hc⟩ := get_ex (l := conf) (m := m) (by omega)
    unfold CIsOK at hI
    have hfl : (atomN ns (conf.take m)).length ≤ 9000 := Nat.le_trans (List.length_filter_le _ _) (by rw [List.length_take]; omega)
    have next : ∀ a, a = ivs (atomN ns (conf.take (m + 1))) → W Q K (l31_0g G k Ko j (ns.map Nd.v) a (ivs conf) conf.length (IntKind.i64.wrap ((m : Int) + 1))) := fun a ha => by
      rw [wrap_id (n := (m : Int) + 1) (by omega), ha]
      exact catomic_loop hI hcl hKo j (m + 1) (by omega) (by omega)
    unfold atomN at next
    rw [take_snoc hc, filt_snoc] at next
    refine W_at (by omega) (ivs_atZ hc) (W_aI ?_)
    refine W_call (hI _ _ _) ?_
    rintro _ rfl
    (repeat (with_reducible (first | (refine W_uI ?_) | (refine W_uS ?_) | (refine W_uL ?_) | (refine W_uA ?_) | (refine W_uB ?_) | (refine W_aI ?_) | (refine W_aL ?_) | (refine W_ca3 ?_) | (refine W_ce3 ?_) | (refine W_ca4 ?_) | (refine W_ce4 ?_) | (refine W_ca5 ?_) | (refine W_ce5 ?_) | (refine W_ca6 ?_) | (refine W_ce6 ?_) | (refine W_ca7 ?_) | (refine W_ce7 ?_) | (refine W_ca8 ?_) | (refine W_ce8 ?_) | (refine W_nd7 ?_) | (refine W_unCons ?_) | (refine W_unNil ?_) | (refine W_asInt ?_) | (refine W_asBool ?_) | (refine W_asStr ?_) | (refine W_asSl ?_) | (refine W_asAgg ?_) | (refine W_kd ?_) | (refine W_z ?_))))
    refine W_dec (fun hr => ?_) (fun hr => ?_)
    · rw [List.length_map] at hr
      obtain ⟨n, hn⟩ : ∃ n, ns[c.toNat]? = some n := ⟨_, List.getElem?_eq_getElem (by omega)⟩
      rw [atomAt_in hr hn] at next
      refine W_at (by omega) (nd_get hn) (W_nd7 (W_aI ?_))
      refine W_beqI (fun h1 => ?_) (fun h1 => next _ (by rw [decide_eq_false h1]; simp [atomN]))
      exact W_yes (by rw [ivs_len]; omega) (next _ (by rw [decide_eq_true h1]; simp [ivs, atomN]))
    · rw [List.length_map] at hr
      rw [atomAt_out hr] at next
      exact next _ (by simp [atomN])
theorem catomic_ok (hk : 10000 ≤ k) (hI : CIsOK G) : AtomicOK 31 (fun _ args (K : List V → Option R) => g31 G k args K) := by
  intro ns conf K hcl
  show W _ K (f31 G k (ns.map Nd.v) (ivs conf) K)
  unfold f31 l31_0
  rw [ivs_len]
  exact catomic_loop (Q := fun o => o = [.sl 1 (ivs (atomN ns conf))]) (K := K) (Ko := fun x => K [.sl 1 x]) hI hcl (W_ret rfl) k 0 (by omega) (by omega)
/-! The document's Full. -/
def FullOK (f : FuncId) (G : ORC R) : Prop := ∀ (ns : List Nd) (l : List Int) (K : List V → Option R), Tree ns → ns.length ≤ 100 → l.length ≤ 80 → W (fun o => ∃ a p, o = [.sl 1 (ivs a), .bool p] ∧ FullS ns l a p) K (G f [.sl 7 (ns.map Nd.v), .sl 1 (ivs l)] K)
theorem good_lt {ns : List Nd} {l : List Int} (h : GoodP ns l) {c : Int} (hc : c ∈ l) : atomAt ns c = true := by
  obtain ⟨i, hi, e⟩ := List.mem_iff_getElem.1 hc
  exact (h i c (by rw [List.getElem?_eq_getElem hi, e])).1
end
end Go.Proofs.Ytblabbcmokldiaa.Vm
open Go Go.VM
set_option linter.unusedVariables false
set_option linter.unusedSimpArgs false
set_option maxRecDepth 100000
set_option maxHeartbeats 8000000
namespace Go.Proofs.Ytblabbcmokldiaa.Vm
section
variable {R : Type} {G : ORC R} {k : Nat} {K : List V → Option R}
theorem cfull_up (hI : CIsOK G) {Q : List V → Prop} {K : List V → Option R} {Ko : List V → List V → List V → Int → Int → Option R} {ns : List Nd} {lv : List V} {x1 x2 : Int} (T : Tree ns) (hl : ns.length ≤ 1000) {s0 : List Int} {c0 : Int} 
    (hKo : ∀ s : List Int, (∀ x, x ∈ s ↔ x ∈ s0 ∨ x ∈ chainN ns c0) → W Q K (Ko (ns.map Nd.v) (actV ns.length s) lv x1 x2)) :
    ∀ (j : Nat) (c : Int) (s : List Int), c + 1 < j → -1 ≤ c → c < ns.length → (∀ x, (x ∈ s ∨ x ∈ chainN ns c) ↔ x ∈ s0 ∨ x ∈ chainN ns c0) → (∀ x ∈ s, x ≤ c → ∀ y ∈ chainN ns x, y ∈ s) →
      W Q K (l27_2g G k Ko j (ns.map Nd.v) (actV ns.length s) c lv x1 x2)
  | 0, c, s, h1, h2, h3, h4, h5 => by exfalso; omega
  | j + 1, c, s, h1, h2, h3, h4, h5 => by
    show W Q K (b27_2 G k (l27_2g G k Ko j) Ko (ns.map Nd.v) (actV ns.length s) c lv x1 x2)
    unfold b27_2
    have hI' := hI
    unfold CIsOK at hI'
    refine W_call (hI' _ _ _) ?_
    rintro _ rfl
    (repeat (with_reducible (first | (refine W_uI ?_) | (refine W_uS ?_) | (refine W_uL ?_) | (refine W_uA ?_) | (refine W_uB ?_) | (refine W_aI ?_) | (refine W_aL ?_) | (refine W_ca3 ?_) | (refine W_ce3 ?_) | (refine W_ca4 ?_) | (refine W_ce4 ?_) | (refine W_ca5 ?_) | (refine W_ce5 ?_) | (refine W_ca6 ?_) | (refine W_ce6 ?_) | (refine W_ca7 ?_) | (refine W_ce7 ?_) | (refine W_ca8 ?_) | (refine W_ce8 ?_) | (refine W_nd7 ?_) | (refine W_unCons ?_) | (refine W_unNil ?_) | (refine W_asInt ?_) | (refine W_asBool ?_) | (refine W_asStr ?_) | (refine W_asSl ?_) | (refine W_asAgg ?_) | (refine W_kd ?_) | (refine W_z ?_))))
    refine W_dec (fun hr => ?_) (fun hr => ?_)
    · rw [List.length_map] at hr
      obtain ⟨n, hn⟩ : ∃ n, ns[c.toNat]? = some n := ⟨_, List.getElem?_eq_getElem (by omega)⟩
      have hp := T.seg.par _ n hn
      have ec := chain_cons T hr.1 hn
      refine W_at (by omega) (act_at hr.1 hr.2) (W_asBool ?_)
      refine W_not (W_bool (fun hb => hKo s fun x => ?_) (fun hb => ?_))
      · rw [← h4]
        exact ⟨.inl, fun h => h.elim id (h5 c (hasL_iff.1 hb) (Int.le_refl _) x)⟩
      · refine W_at (by omega) (act_at hr.1 hr.2) ?_
        refine W_at (by omega) (nd_get hn) (W_nd7 (W_aI ?_))
        rw [actV_set hr.1 (by omega)]
        refine cfull_up hI T hl hKo j n.parent (s ++ [c]) (by omega) (by omega) (by omega) (fun x => ?_) (fun x hx hle y hy => ?_)
        · rw [← h4, ec, List.mem_append, List.mem_singleton, List.mem_cons, or_assoc]
        · rw [List.mem_append, List.mem_singleton] at hx ⊢
          rcases hx with hx | rfl
          · exact .inl (h5 x hx (by omega) y hy)
          · omega
    · rw [List.length_map] at hr
      refine hKo s fun x => ?_
      rw [← h4, chain_neg (by omega)]; simp
theorem cfull_loop (hk : 10000 ≤ k) (hI : CIsOK G) {Q : List V → Prop} {K : List V → Option R} {Ko : List V → List V → Option R} {Kr : List V → Bool → Option R} {ns : List Nd} {l : List Int} (T : Tree ns) (hl : ns.length ≤ 100) (hll : l.length ≤ 80)
    (hKo : ∀ s : List Int, (∀ x, x ∈ s ↔ x ∈ chainsN ns l) → GoodP ns l → W Q K (Ko (ns.map Nd.v) (actV ns.length s))) (hKr : ¬ GoodP ns l → W Q K (Kr [] false)) :
    ∀ (j m : Nat) (s : List Int), l.length - m < j → m ≤ l.length → (∀ (i : Nat) c, i < m → l[i]? = some c → StepF ns l i c) → (∀ x, x ∈ s ↔ x ∈ chainsN ns (l.take m)) → W Q K (l27_0g G k Ko Kr j (ns.map Nd.v) (actV ns.length s) (ivs l) l.length m)
  | 0, m, s, h1, h2, h3, h4 => by omega
  | j + 1, m, s, h1, h2, h3, h4 => by
    show W Q K (b27_0 G k (l27_0g G k Ko Kr j) Ko Kr (ns.map Nd.v) (actV ns.length s) (ivs l) l.length m)
    unfold b27_0
    refine W_dec (fun h => ?_) (fun h => hKo s (by rw [List.take_of_length_le (by omega)] at h4; exact h4) fun i c hc => h3 i c (by have := (List.getElem?_eq_some_iff.1 hc).1; omega) hc)
    obtain ⟨c, hc⟩ := get_ex (l := l) (m := m) (by omega)
    have hI' := hI
    unfold CIsOK at hI'
    have bad : ¬ StepF ns l m c → W Q K (Kr [] false) := fun h => hKr fun hh => h (hh m c hc)
    have hat' : ∀ x ∈ l.take m, atomAt ns x = true := fun x hx => by
      obtain ⟨i, hi, e⟩ := List.mem_iff_getElem.1 hx
      rw [List.length_take] at hi
      exact (h3 i x (by omega) (by rw [List.getElem_take] at e; rw [List.getElem?_eq_getElem (by omega), e])).1
    refine W_at (by omega) (ivs_atZ hc) (W_aI ?_)
    refine W_call (hI' _ _ _) ?_
    rintro _ rfl
    (repeat (with_reducible (first | (refine W_uI ?_) | (refine W_uS ?_) | (refine W_uL ?_) | (refine W_uA ?_) | (refine W_uB ?_) | (refine W_aI ?_) | (refine W_aL ?_) | (refine W_ca3 ?_) | (refine W_ce3 ?_) | (refine W_ca4 ?_) | (refine W_ce4 ?_) | (refine W_ca5 ?_) | (refine W_ce5 ?_) | (refine W_ca6 ?_) | (refine W_ce6 ?_) | (refine W_ca7 ?_) | (refine W_ce7 ?_) | (refine W_ca8 ?_) | (refine W_ce8 ?_) | (refine W_nd7 ?_) | (refine W_unCons ?_) | (refine W_unNil ?_) | (refine W_asInt ?_) | (refine W_asBool ?_) | (refine W_asStr ?_) | (refine W_asSl ?_) | (refine W_asAgg ?_) | (refine W_kd ?_) | (refine W_z ?_))))
    refine W_not (W_dec (fun hr => ?_) (fun hr => bad fun hh => by rw [List.length_map] at hr; have := hh.1; rw [atomAt_out hr] at this; cases this))
    rw [List.length_map] at hr
    obtain ⟨n, hn⟩ : ∃ n, ns[c.toNat]? = some n := ⟨_, List.getElem?_eq_getElem (by omega)⟩
    refine W_at (by omega) (nd_get hn) (W_nd7 (W_aI ?_))
    refine W_not (W_beqI (fun hk1 => ?_) (fun hk1 => bad fun hh => by have := hh.1; rw [atomAt_in hr hn] at this; exact hk1 (of_decide_eq_true this)))
    have hat : atomAt ns c = true := by rw [atomAt_in hr hn]; exact decide_eq_true hk1
    have hin : c ∈ s ↔ c ∈ l.take m := by rw [h4, atom_chains T hat' hat]
    refine W_at (by omega) (act_at hr.1 hr.2) (W_asBool ?_)
    refine W_bool (fun hb => bad fun hh => hh.2 (hin.1 (hasL_iff.1 hb))) (fun hb => ?_)
    have hsf : StepF ns l m c := ⟨hat, fun hh => by rw [← hin, ← hasL_iff, hb] at hh; cases hh⟩
    unfold l27_2
    refine cfull_up (s0 := s) (c0 := c) hI T (by omega) (fun s' hs' => ?_) k c s (by omega) (by omega) hr.2 (fun x => Iff.rfl) (fun x hx hle y hy => ?_)
    · rw [wrap_id (n := (m : Int) + 1) (by omega)]
      refine cfull_loop hk hI T hl hll hKo hKr j (m + 1) s' (by omega) (by omega) (fun i c' hi hc' => ?_) (fun x => ?_)
      · by_cases e : i = m
        · subst e; rw [hc] at hc'; cases hc'; exact hsf
        · exact h3 i c' (by omega) hc'
      · rw [hs', take_snoc hc, chains_snoc, List.mem_append, h4]
    · rw [h4, mem_chains] at hx ⊢
      obtain ⟨a, ha, hx⟩ := hx
      exact ⟨a, ha, (chain_mem T (atomAt_iff.1 (hat' a ha)).2.1 hx).2.2 y hy⟩
theorem cfull_out {Q : List V → Prop} {K : List V → Option R} {Ko : List V → List V → Option R} {ns : List Nd} {s : List Int} (hl : ns.length ≤ 1000) (hKo : W Q K (Ko (ns.map Nd.v) (ivs (ofGo s ns.length)))) :
    ∀ (j m : Nat), ns.length - m < j → m ≤ ns.length → W Q K (l27_4g G k Ko j (ns.map Nd.v) (actV ns.length s) (ivs (ofGo s m)) ns.length m)
  | 0, m, h1, h2 => by omega
  | j + 1, m, h1, h2 => by
    show W Q K (b27_4 G k (l27_4g G k Ko j) Ko (ns.map Nd.v) (actV ns.length s) (ivs (ofGo s m)) ns.length m)
    unfold b27_4
    refine W_dec (fun h => ?_) (fun h => by rw [show m = ns.length by omega]; exact hKo)
    have hgl := ofGo_len (l := s) (m := m)
    have next : ∀ a, a = ivs (ofGo s (m + 1)) → W Q K (l27_4g G k Ko j (ns.map Nd.v) (actV ns.length s) a ns.length (IntKind.i64.wrap ((m : Int) + 1))) := fun a ha => by
      rw [wrap_id (n := (m : Int) + 1) (by omega), ha]
      exact cfull_out hl hKo j (m + 1) (by omega) (by omega)
    refine W_at (by omega) (act_at (by omega) (by omega)) (W_asBool ?_)
    refine W_bool (fun hb => W_yes (by rw [ivs_len]; omega) (next _ (by rw [ofGo, hb]; simp [ivs]))) (fun hb => next _ (by rw [ofGo, hb]; simp))
theorem cfull_ok (hk : 10000 ≤ k) (hI : CIsOK G) (hL : LegalOK 29 G) : FullOK 27 (fun _ args (K : List V → Option R) => g27 G k args K) := by
  intro ns l K T hl hll
  show W _ K (f27 G k (ns.map Nd.v) (ivs l) K)
  unfold f27
  rw [List.length_map, Int.toNat_natCast, actV_nil]
  refine W_chk (by simp; omega) ?_
  unfold l27_0
  rw [ivs_len]
  refine cfull_loop hk hI T hl hll (fun s hs hg => ?_) (fun hg => W_ret ⟨[], false, rfl, ⟨fun e => (by cases e), fun _ => ⟨rfl, fun hh => hg hh.1⟩⟩⟩) k 0 [] (by omega) (by omega) (fun i c hi => by omega) (fun x => by simp [chainsN])
  unfold l27_4
  rw [actV_len]
  refine cfull_out (by omega) ?_ k 0 (by omega) (by omega)
  have e : ofGo s ns.length = ofL (chainsN ns l) := by
    rw [ofGo_congr hs]
    unfold ofL
    rw [show 128 = ns.length + (128 - ns.length) by omega]
    symm
    refine ofGo_more fun x hx => ?_
    obtain ⟨c, h1, h2⟩ := mem_chains.1 hx
    have h3 := (atomAt_iff.1 (good_lt hg h1)).2.1
    have := (chain_mem T h3 h2).1
    omega
  rw [e]
  unfold LegalOK at hL
  refine W_call (hL _ _ _ T (by omega) (Nat.le_trans ofGo_len (by omega))) ?_
  rintro _ ⟨b, rfl, hb⟩
  (repeat (with_reducible (first | (refine W_uI ?_) | (refine W_uS ?_) | (refine W_uL ?_) | (refine W_uA ?_) | (refine W_uB ?_) | (refine W_aI ?_) | (refine W_aL ?_) | (refine W_ca3 ?_) | (refine W_ce3 ?_) | (refine W_ca4 ?_) | (refine W_ce4 ?_) | (refine W_ca5 ?_) | (refine W_ce5 ?_) | (refine W_ca6 ?_) | (refine W_ce6 ?_) | (refine W_ca7 ?_) | (refine W_ce7 ?_) | (refine W_ca8 ?_) | (refine W_ce8 ?_) | (refine W_nd7 ?_) | (refine W_unCons ?_) | (refine W_unNil ?_) | (refine W_asInt ?_) | (refine W_asBool ?_) | (refine W_asStr ?_) | (refine W_asSl ?_) | (refine W_asAgg ?_) | (refine W_kd ?_) | (refine W_z ?_))))
  refine W_not (W_bool (fun h => W_ret ⟨_, true, rfl, ⟨fun _ => ⟨hg, hb.1 h, rfl⟩, fun e => by cases e⟩⟩) (fun h => W_ret ⟨[], false, rfl, ⟨fun e => (by cases e), fun _ => ⟨rfl, fun hh => by have := hb.2 hh.2; rw [h] at this; cases this⟩⟩⟩))
end
end Go.Proofs.Ytblabbcmokldiaa.Vm
open Go Go.VM
set_option linter.unusedVariables false
set_option linter.unusedSimpArgs false
set_option maxRecDepth 100000
set_option maxHeartbeats 8000000
namespace Go.Proofs.Ytblabbcmokldiaa.Vm
theorem evHas : Ev HasOK := ev0 fun j => by have e := has_ok (G := gh 10000 j) (k := 10000) (by omega); unfold HasOK at e ⊢; (intros; refine gh_W ?_; apply e <;> assumption)
theorem evOf : Ev OfOK := evS evHas fun j h => by have e := of_ok (G := gh 10000 j) (k := 10000) (by omega) h; unfold OfOK at e ⊢; (intros; refine gh_W ?_; apply e <;> assumption)
theorem evNot : Ev NotOK := evS evHas fun j h => by have e := not_ok (G := gh 10000 j) (k := 10000) (by omega) h; unfold NotOK at e ⊢; (intros; refine gh_W ?_; apply e <;> assumption)
theorem evCLegal : Ev (LegalOK 29) := evS (evA evCIs (evA evHist evCKids)) fun j h => by have e := clegal_ok (G := gh 10000 j) (k := 10000) (by omega) h.1 h.2.1 h.2.2; unfold LegalOK at e ⊢; (intros; refine gh_W ?_; apply e <;> assumption)
theorem evCAtomic : Ev (AtomicOK 31) := evS evCIs fun j h => by have e := catomic_ok (G := gh 10000 j) (k := 10000) (by omega) h; unfold AtomicOK at e ⊢; (intros; refine gh_W ?_; apply e <;> assumption)
theorem evCFull : Ev (FullOK 27) := evS (evA evCIs evCLegal) fun j h => by have e := cfull_ok (G := gh 10000 j) (k := 10000) (by omega) h.1 h.2; unfold FullOK at e ⊢; (intros; refine gh_W ?_; apply e <;> assumption)
end Go.Proofs.Ytblabbcmokldiaa.Vm
set_option linter.unusedVariables false
namespace Go.VM
def Asc (l : List Int) : Prop := l.Pairwise fun a b => a < b
theorem mem_statesN {ns : List Nd} {a : Nat} {x : Int} (ha : a < ns.length) : x ∈ statesN ns a ↔ ∃ (q : Nat) (m : Nd), x = q ∧ ns[q]? = some m ∧ m.parent = a ∧ m.kind ≤ 3 := by
  unfold statesN
  rw [List.mem_filter, mem_kidsN]
  constructor
  · rintro ⟨⟨q, m, h1, h2, h3, _⟩, h4⟩
    refine ⟨q, m, h1, h2, h3, ?_⟩
    unfold isSt at h4
    rw [h1, Int.toNat_natCast, h2] at h4
    exact of_decide_eq_true h4
  · rintro ⟨q, m, h1, h2, h3, h4⟩
    refine ⟨⟨q, m, h1, h2, h3, by omega, by omega⟩, ?_⟩
    unfold isSt
    rw [h1, Int.toNat_natCast, h2]
    exact decide_eq_true h4
theorem kidsGo_asc {l : List Nd} {i : Int} : ∀ {m : Nat}, Asc (kidsGo l i m)
  | 0 => List.Pairwise.nil
  | m + 1 => by
    unfold kidsGo
    refine List.pairwise_append.2 ⟨kidsGo_asc (m := m), by split <;> simp, fun x hx y hy => ?_⟩
    obtain ⟨q, h1, h2, _⟩ := mem_kidsGo.1 hx
    split at hy
    · rw [List.mem_singleton] at hy; omega
    · simp at hy
theorem statesN_asc {ns : List Nd} {i : Int} : Asc (statesN ns i) := List.Pairwise.filter _ kidsGo_asc
theorem asc_one : ∀ {l : List Int} {x : Int}, Asc l → x ∈ l → (l.filter fun y => decide (y = x)).length = 1
  | [], x, _, h => by simp at h
  | a :: r, x, h, hx => by
    obtain ⟨h1, h2⟩ := List.pairwise_cons.1 h
    rw [List.filter_cons]
    by_cases e : a = x
    · rw [if_pos (decide_eq_true e), List.length_cons, List.filter_eq_nil_iff.2]
      · rfl
      · intro y hy
        have := h1 y hy
        simp; omega
    · rw [if_neg (by simpa using e)]
      rcases List.mem_cons.1 hx with h3 | h3
      · exact absurd h3.symm e
      · exact asc_one h2 h3
/-- What lies in a kid lies in its parent. -/
theorem kid_in {ns : List Nd} (T : Tree ns) {a k : Nat} {n m : Nd} (ha : ns[a]? = some n) (hk : ns[k]? = some m) (hp : m.parent = a) : a < k ∧ (k : Int) ≤ n.last ∧ m.last ≤ n.last := by
  have h0 := T.seg.par k m hk
  have h1 := T.seg.lam a k n m ha hk (by omega)
  have hal := T.seg.last a n ha
  refine ⟨by omega, by omega, ?_⟩
  have hkl := T.seg.last k m hk
  have key : ∀ d j : Nat, j < d → k ≤ j → (j : Int) ≤ m.last → (j : Int) ≤ n.last := by
    intro d
    induction d with
    | zero => intro j h; omega
    | succ d ih =>
      intro j hj h2 h3
      by_cases e : j = k
      · subst e; omega
      · obtain ⟨x, hx⟩ : ∃ x, ns[j]? = some x := ⟨_, List.getElem?_eq_getElem (by omega)⟩
        have l1 := T.seg.lam k j m x hk hx (by omega)
        have l2 := T.seg.lam a j n x ha hx (by omega)
        have l3 := T.seg.par j x hx
        have := ih x.parent.toNat (by omega) (by omega) (by omega)
        omega
  have := key (m.last.toNat + 1) m.last.toNat (by omega) (by omega) (by omega)
  omega
/-- Kids' ranges lie behind each other. -/
theorem kid_apart {ns : List Nd} (T : Tree ns) {a k k' : Nat} {m m' : Nd} (hk : ns[k]? = some m) (hp : m.parent = a) (hk' : ns[k']? = some m') (hp' : m'.parent = a) (h : k < k') : m.last < k' := by
  have l1 := T.seg.lam k k' m m' hk hk' h
  have l2 := T.seg.par k m hk
  omega
def EachS (ns : List Nd) (C : List Int) (x : Int) : Prop :=
  ∃ n, ns[x.toNat]? = some n ∧ n.kind ≤ 3 ∧ (n.kind = 2 → (andL (statesN ns x) C).length = 1) ∧ (n.kind = 3 → ∀ y ∈ statesN ns x, y ∈ C)
def ParS (ns : List Nd) (C : List Int) (x : Int) : Prop := ∀ n, ns[x.toNat]? = some n → n.parent ∈ C
def AtomS (ns : List Nd) (C : List Int) (x : Int) : Prop := ∃ y ∈ C, atomAt ns y = true ∧ x ∈ chainN ns y
/-- A configuration of the part from a node on. -/
structure Sub (ns : List Nd) (a : Nat) (n : Nd) (C : List Int) : Prop where
  head : (a : Int) ∈ C
  asc : Asc C
  rng : ∀ x ∈ C, (a : Int) ≤ x ∧ x ≤ n.last
  each : ∀ x ∈ C, EachS ns C x
  par : ∀ x ∈ C, x ≠ a → ParS ns C x
  atom : ∀ x ∈ C, AtomS ns C x
theorem each_more {ns : List Nd} {C D : List Int} {x : Int} (hx : x ∈ C) (h : EachS ns C x) (hsub : ∀ y ∈ C, y ∈ D) (hno : ∀ y ∈ statesN ns x, y ∈ D → y ∈ C) : EachS ns D x := by
  obtain ⟨n, h1, h2, h3, h4⟩ := h
  refine ⟨n, h1, h2, fun e => ?_, fun e y hy => hsub y (h4 e y hy)⟩
  rw [← h3 e, andL_eq, andL_eq]
  congr 1
  refine List.filter_congr fun y hy => ?_
  by_cases hC : y ∈ C
  · rw [hasL_iff.2 hC, hasL_iff.2 (hsub y hC)]
  · unfold hasL; rw [decide_eq_false hC, decide_eq_false (fun h => hC (hno y hy h))]
theorem atom_more {ns : List Nd} {C D : List Int} {x : Int} (h : AtomS ns C x) (hsub : ∀ y ∈ C, y ∈ D) : AtomS ns D x := by
  obtain ⟨y, h1, h2⟩ := h; exact ⟨y, hsub y h1, h2⟩
/-- The parent of one that has an atomic one below it has it, too. -/
theorem atom_up {ns : List Nd} (T : Tree ns) {C : List Int} {a k : Nat} {n m : Nd} (ha : ns[a]? = some n) (hk : ns[k]? = some m) (hp : m.parent = a) (h : AtomS ns C k) : AtomS ns C a := by
  obtain ⟨y, h1, h2, h3⟩ := h
  refine ⟨y, h1, h2, (chain_mem T (atomAt_iff.1 h2).2.1 h3).2.2 _ ?_⟩
  rw [chain_cons T (by omega) (by rw [Int.toNat_natCast]; exact hk), hp]
  refine List.mem_cons_of_mem _ ?_
  rw [chain_cons T (by omega) (by rw [Int.toNat_natCast]; exact ha)]
  exact List.mem_cons_self
theorem states_gt {ns : List Nd} (T : Tree ns) {x y : Int} (h0 : 0 ≤ x) (hy : y ∈ statesN ns x) : x < y ∧ ∃ m, ns[y.toNat]? = some m ∧ m.parent = x := by
  have hy' := (List.mem_filter.1 hy).1
  obtain ⟨q, m, h1, h2, h3, _⟩ := mem_kidsN.1 hy'
  have := T.seg.par q m h2
  exact ⟨by omega, m, by rw [h1, Int.toNat_natCast]; exact h2, h3⟩
theorem sub_atom {ns : List Nd} (T : Tree ns) {a : Nat} {n : Nd} (ha : ns[a]? = some n) (hk : n.kind = 1) : Sub ns a n [(a : Int)] := by
  have hal := T.seg.last a n ha
  have hl := Tree.lt ha
  refine ⟨by simp, List.pairwise_singleton _ _, fun x hx => ?_, fun x hx => ?_, fun x hx h => absurd (List.mem_singleton.1 hx) h, fun x hx => ?_⟩
  · rw [List.mem_singleton] at hx; omega
  · rw [List.mem_singleton] at hx; subst hx
    exact ⟨n, by rw [Int.toNat_natCast]; exact ha, by omega, fun e => by omega, fun e => by omega⟩
  · rw [List.mem_singleton] at hx; subst hx
    refine ⟨a, by simp, atomAt_iff.2 ⟨by omega, by omega, n, by rw [Int.toNat_natCast]; exact ha, hk⟩, ?_⟩
    rw [chain_cons T (by omega) (by rw [Int.toNat_natCast]; exact ha)]; exact List.mem_cons_self
/-- A node with the configurations of some kids behind it. -/
structure Par (ns : List Nd) (a : Nat) (A D : List Int) : Prop where
  head : (a : Int) ∈ D
  asc : Asc D
  rng : ∀ x ∈ D, x = a ∨ ∃ (k : Nat) (m : Nd), (k : Int) ∈ A ∧ ns[k]? = some m ∧ m.parent = a ∧ (k : Int) ≤ x ∧ x ≤ m.last
  kids : ∀ k ∈ A, k ∈ D
  each : ∀ x ∈ D, x ≠ a → EachS ns D x
  par : ∀ x ∈ D, x ≠ a → ParS ns D x
  atom : ∀ x ∈ D, x ≠ a → AtomS ns D x
theorem par_nil {ns : List Nd} {a : Nat} : Par ns a [] [(a : Int)] :=
  ⟨by simp, List.pairwise_singleton _ _, fun x hx => .inl (List.mem_singleton.1 hx), fun k hk => by simp at hk, fun x hx h => absurd (List.mem_singleton.1 hx) h, fun x hx h => absurd (List.mem_singleton.1 hx) h, fun x hx h => absurd (List.mem_singleton.1 hx) h⟩
theorem par_snoc {ns : List Nd} (T : Tree ns) {a k : Nat} {m : Nd} {A C D : List Int} (hk : ns[k]? = some m) (hp : m.parent = a) (hlt : ∀ x ∈ A, x < k) (h : Par ns a A D) (hC : Sub ns k m C) : Par ns a (A ++ [(k : Int)]) (D ++ C) := by
  have hak : a < k := by have := T.seg.par k m hk; omega
  have hml := T.seg.last k m hk
  have hDk : ∀ x ∈ D, (0 ≤ x ∧ x < k) := fun x hx => by
    rcases h.rng x hx with rfl | ⟨k', m', h1, h2, h3, h4, h5⟩
    · omega
    · have := kid_apart T h2 h3 hk hp (by have := hlt _ h1; omega)
      omega
  have hCk : ∀ x ∈ C, (k : Int) ≤ x ∧ x < ns.length := fun x hx => by have := hC.rng x hx; omega
  have sD : ∀ y ∈ D, y ∈ D ++ C := fun y h => List.mem_append_left _ h
  have sC : ∀ y ∈ C, y ∈ D ++ C := fun y h => List.mem_append_right _ h
  refine ⟨sD _ h.head, List.pairwise_append.2 ⟨h.asc, hC.asc, fun x hx y hy => ?_⟩, fun x hx => ?_, fun x hx => ?_, fun x hx hne => ?_, fun x hx hne => ?_, fun x hx hne => ?_⟩
  · have := hDk x hx; have := hCk y hy; omega
  · rcases List.mem_append.1 hx with hx | hx
    · rcases h.rng x hx with e | ⟨k', m', h1, h2, h3, h4, h5⟩
      · exact .inl e
      · exact .inr ⟨k', m', List.mem_append_left _ h1, h2, h3, h4, h5⟩
    · have := hC.rng x hx
      exact .inr ⟨k, m, by simp, hk, hp, this.1, this.2⟩
  · rcases List.mem_append.1 hx with hx | hx
    · exact sD _ (h.kids x hx)
    · rw [List.mem_singleton] at hx; subst hx; exact sC _ hC.head
  · rcases List.mem_append.1 hx with hx | hx
    · refine each_more (C := D) hx (h.each x hx hne) sD fun y hy hyD => ?_
      rcases List.mem_append.1 hyD with hyD | hyC
      · exact hyD
      · exfalso
        obtain ⟨g1, m2, g2, g3⟩ := states_gt T (hDk x hx).1 hy
        rcases h.rng x hx with e | ⟨k', m', h1, h2, h3, h4, h5⟩
        · exact hne e
        · have l1 := T.seg.lam k' y.toNat m' m2 h2 g2 (by omega)
          have := kid_apart T h2 h3 hk hp (by have := hlt _ h1; omega)
          have := hCk y hyC
          omega
    · refine each_more (C := C) hx (hC.each x hx) sC fun y hy hyD => ?_
      rcases List.mem_append.1 hyD with hyD | hyC
      · exfalso
        have := hCk x hx
        obtain ⟨g1, _⟩ := states_gt T (by omega) hy
        have := hDk y hyD
        omega
      · exact hyC
  · rcases List.mem_append.1 hx with hx | hx
    · exact fun n hn => sD _ (h.par x hx hne n hn)
    · by_cases e : x = k
      · subst e
        intro n hn
        rw [Int.toNat_natCast, hk] at hn; cases hn
        rw [hp]; exact sD _ h.head
      · exact fun n hn => sC _ (hC.par x hx e n hn)
  · rcases List.mem_append.1 hx with hx | hx
    · exact atom_more (h.atom x hx hne) sD
    · exact atom_more (hC.atom x hx) sC
theorem par_rng {ns : List Nd} (T : Tree ns) {a : Nat} {n : Nd} {A D : List Int} (ha : ns[a]? = some n) (h : Par ns a A D) : ∀ x ∈ D, (a : Int) ≤ x ∧ x ≤ n.last := by
  intro x hx
  have hal := T.seg.last a n ha
  rcases h.rng x hx with rfl | ⟨k, m, h1, h2, h3, h4, h5⟩
  · omega
  · have := kid_in T ha h2 h3; omega
/-- One kid is in. -/
theorem sub_comp {ns : List Nd} (T : Tree ns) {a k : Nat} {n m : Nd} {C : List Int} (ha : ns[a]? = some n) (hkd : n.kind = 2) (hk : ns[k]? = some m) (hp : m.parent = a) (hm : m.kind ≤ 3) (hC : Sub ns k m C) : Sub ns a n ((a : Int) :: C) := by
  have P := par_snoc T hk hp (fun x hx => by simp at hx) (par_nil (ns := ns) (a := a)) hC
  have hla := Tree.lt ha
  have hkC : (k : Int) ∈ (a : Int) :: C := List.mem_cons_of_mem _ hC.head
  have hak := (kid_in T ha hk hp).1
  refine ⟨P.head, P.asc, par_rng T ha P, fun x hx => ?_, P.par, fun x hx => ?_⟩
  · by_cases e : x = a
    · subst e
      refine ⟨n, by rw [Int.toNat_natCast]; exact ha, by omega, fun _ => ?_, fun e => by omega⟩
      have hks : (k : Int) ∈ statesN ns a := (mem_statesN hla).2 ⟨k, m, rfl, hk, hp, hm⟩
      rw [andL_eq, ← asc_one statesN_asc hks]
      congr 1
      refine List.filter_congr fun y hy => ?_
      obtain ⟨q, m2, rfl, g1, g2, g3⟩ := (mem_statesN hla).1 hy
      by_cases e : q = k
      · subst e; rw [hasL_iff.2 hkC]; simp
      · have : (q : Int) ∉ (a : Int) :: C := by
          intro hm
          have gq := T.seg.par q m2 g1
          rcases List.mem_cons.1 hm with h1 | h1
          · omega
          · have h2 := hC.rng _ h1
            have := kid_apart T hk hp g1 g2 (by omega)
            omega
        unfold hasL
        rw [decide_eq_false this, decide_eq_false (by omega)]
    · exact P.each x hx e
  · by_cases e : x = a
    · subst e
      exact atom_up T ha hk hp (P.atom k hkC (by omega))
    · exact P.atom x hx e
/-- All kids are in. -/
theorem sub_par {ns : List Nd} (T : Tree ns) {a : Nat} {n : Nd} {D : List Int} (ha : ns[a]? = some n) (hkd : n.kind = 3) (P : Par ns a (statesN ns a) D) : Sub ns a n D := by
  have hla := Tree.lt ha
  refine ⟨P.head, P.asc, par_rng T ha P, fun x hx => ?_, P.par, fun x hx => ?_⟩
  · by_cases e : x = a
    · subst e
      exact ⟨n, by rw [Int.toNat_natCast]; exact ha, by omega, fun e => by omega, fun _ => P.kids⟩
    · exact P.each x hx e
  · by_cases e : x = a
    · subst e
      obtain ⟨m, h1, h2, h3⟩ := T.seg.first a n ha (.inr hkd)
      have h4 : ((a + 1 : Nat) : Int) ∈ statesN ns a := (mem_statesN hla).2 ⟨a + 1, m, rfl, h1, by omega, h3⟩
      exact atom_up T ha h1 (by omega) (P.atom _ (P.kids _ h4) (by omega))
    · exact P.atom x hx e
end Go.VM
set_option linter.unusedVariables false
namespace Go.VM
theorem filt_next : ∀ {l : List Int} {m : Nat}, Asc l → l.filter (fun x => decide (x < ((m + 1 : Nat) : Int))) = l.filter (fun x => decide (x < (m : Int))) ++ if hasL l m then [(m : Int)] else []
  | [], m, _ => by simp [hasL]
  | a :: r, m, h => by
    obtain ⟨h1, h2⟩ := List.pairwise_cons.1 h
    have ih := filt_next (m := m) h2
    rw [List.filter_cons, List.filter_cons]
    by_cases e : a < (m : Int)
    · rw [if_pos (decide_eq_true (by omega)), if_pos (decide_eq_true e), ih]
      have : hasL (a :: r) m = hasL r m := by
        unfold hasL
        by_cases hr : (m : Int) ∈ r
        · rw [decide_eq_true hr, decide_eq_true (List.mem_cons_of_mem _ hr)]
        · rw [decide_eq_false hr, decide_eq_false]
          intro hh
          rcases List.mem_cons.1 hh with h3 | h3
          · omega
          · exact hr h3
      rw [this]; rfl
    · have nil1 : ∀ b : Int, b ≤ m + 1 → (m : Int) ≤ a → r.filter (fun x => decide (x < b)) = [] := fun b hb ha => List.filter_eq_nil_iff.2 fun y hy => by have := h1 y hy; simp; omega
      rw [if_neg (show ¬ decide (a < (m : Int)) = true by simp; omega), nil1 m (by omega) (by omega), nil1 ((m + 1 : Nat) : Int) (by omega) (by omega)]
      by_cases e2 : a = m
      · subst e2
        rw [if_pos (decide_eq_true (show (m : Int) < ((m + 1 : Nat) : Int) by omega)), if_pos (hasL_iff.2 List.mem_cons_self)]; rfl
      · rw [if_neg (show ¬ decide (a < ((m + 1 : Nat) : Int)) = true by simp; omega), if_neg]
        · rfl
        · intro hh
          rcases List.mem_cons.1 (hasL_iff.1 hh) with h3 | h3
          · omega
          · have := h1 _ h3; omega
theorem ofGo_asc {l : List Int} (h : Asc l) (h0 : ∀ x ∈ l, 0 ≤ x) : ∀ m : Nat, ofGo l m = l.filter fun x => decide (x < (m : Int))
  | 0 => by symm; exact List.filter_eq_nil_iff.2 fun y hy => by have := h0 y hy; simp; omega
  | m + 1 => by rw [ofGo, ofGo_asc h h0 m, filt_next h]
theorem ofGo_self {l : List Int} {m : Nat} (h : Asc l) (h0 : ∀ x ∈ l, 0 ≤ x ∧ x < m) : ofGo l m = l := by
  rw [ofGo_asc h (fun x hx => (h0 x hx).1), List.filter_eq_self]
  intro x hx; exact decide_eq_true (h0 x hx).2
theorem filter_lt {p q : Int → Bool} {x : Int} (hpq : ∀ y, p y = true → q y = true) (hq : q x = true) (hp : p x = false) : ∀ {l : List Int}, x ∈ l → (l.filter p).length < (l.filter q).length
  | [], h => by simp at h
  | a :: r, h => by
    have hle : (r.filter p).length ≤ (r.filter q).length := by
      clear h
      induction r with
      | nil => simp
      | cons b r ih =>
        rw [List.filter_cons, List.filter_cons]
        by_cases hb : p b = true
        · rw [if_pos hb, if_pos (hpq b hb)]; simpa using ih
        · rw [if_neg hb]; split
          · simp; omega
          · exact ih
    rw [List.filter_cons, List.filter_cons]
    by_cases e : a = x
    · subst e; rw [hq, hp, if_neg (by simp), if_pos rfl, List.length_cons]; omega
    · have := filter_lt hpq hq hp (l := r) ((List.mem_cons.1 h).resolve_left (fun c => e c.symm))
      by_cases ha : p a = true
      · rw [if_pos ha, if_pos (hpq a ha)]; simpa using this
      · rw [if_neg ha]; split
        · simp; omega
        · exact this
section
variable {ns : List Nd} {n : Nd} {C : List Int}
theorem sub_rng (T : Tree ns) (h0 : ns[0]? = some n) (h : Sub ns 0 n C) : ∀ x ∈ C, 0 ≤ x ∧ x < ns.length := fun x hx => by
  have := h.rng x hx
  have := T.seg.last 0 n h0
  omega
theorem sub_legal (T : Tree ns) (h0 : ns[0]? = some n) (h : Sub ns 0 n C) : LegalP ns C := by
  refine ⟨h.head, fun i c hc => ?_⟩
  have hm := List.mem_of_getElem? hc
  have hr := sub_rng T h0 h c hm
  obtain ⟨m, m1, m2, m3, m4⟩ := h.each c hm
  refine ⟨⟨hr, fun p hi hp => ?_, fun m' hm' => ?_⟩, fun m' hm' => ?_⟩
  · obtain ⟨hi1, e1⟩ := List.getElem?_eq_some_iff.1 hp
    obtain ⟨hi2, e2⟩ := List.getElem?_eq_some_iff.1 hc
    have := List.pairwise_iff_getElem.1 h.asc (i - 1) i hi1 hi2 (by omega)
    rw [e1, e2] at this; exact this
  · rw [m1] at hm'; cases hm'
    exact ⟨m2, fun hc0 => h.par c hm (by omega) m m1⟩
  · rw [m1] at hm'; cases hm'
    refine ⟨m3, fun e => ?_⟩
    rw [andL_eq, List.length_filter_eq_length_iff]
    exact fun y hy => hasL_iff.2 (m4 e y hy)
theorem chain_sub (T : Tree ns) (h0 : ns[0]? = some n) (h : Sub ns 0 n C) : ∀ (f : Nat) (c : Int), c < f → c ∈ C → ∀ x ∈ chainN ns c, x ∈ C
  | 0, c, hf, hc, x, hx => by have := sub_rng T h0 h c hc; omega
  | f + 1, c, hf, hc, x, hx => by
    have hr := sub_rng T h0 h c hc
    obtain ⟨m, hm⟩ : ∃ m, ns[c.toNat]? = some m := ⟨_, List.getElem?_eq_getElem (by omega)⟩
    rw [chain_cons T hr.1 hm] at hx
    rcases List.mem_cons.1 hx with rfl | hx2
    · exact hc
    · have hp := T.seg.par _ m hm
      by_cases e : c = 0
      · subst e
        have hr0 := (T.root m hm).1
        rw [hr0, chain_neg (by omega)] at hx2; simp at hx2
      · exact chain_sub T h0 h f m.parent (by omega) (h.par c hc (by simpa using e) m hm) x hx2
theorem sub_of (T : Tree ns) (hl : ns.length ≤ 128) (h0 : ns[0]? = some n) (h : Sub ns 0 n C) : ofL C = C := ofGo_self h.asc fun x hx => by have := sub_rng T h0 h x hx; omega
theorem sub_len (T : Tree ns) (h0 : ns[0]? = some n) (h : Sub ns 0 n C) : C.length ≤ ns.length := by
  rw [← ofGo_self (m := ns.length) h.asc (sub_rng T h0 h)]; exact ofGo_len
/-- Its atomic ones, in whatever order, tell it. -/
theorem sub_full (T : Tree ns) (hl : ns.length ≤ 128) (h0 : ns[0]? = some n) (h : Sub ns 0 n C) {l a : List Int} {p : Bool} (hn : l.Nodup) (hm : ∀ x, x ∈ l ↔ x ∈ atomN ns C) (hF : FullS ns l a p) : p = true ∧ a = C := by
  have hat : ∀ x ∈ l, atomAt ns x = true ∧ x ∈ C := fun x hx => by have := List.mem_filter.1 ((hm x).1 hx); exact ⟨this.2, this.1⟩
  have hg : GoodP ns l := by
    intro i c hc
    refine ⟨(hat c (List.mem_of_getElem? hc)).1, fun hh => ?_⟩
    obtain ⟨j, hj, e⟩ := List.mem_iff_getElem.1 hh
    rw [List.length_take] at hj
    rw [List.getElem_take] at e
    obtain ⟨hi, e2⟩ := List.getElem?_eq_some_iff.1 hc
    exact List.pairwise_iff_getElem.1 hn j i (by omega) hi (by omega) (e.trans e2.symm)
  have hc : ofL (chainsN ns l) = C := by
    rw [← sub_of T hl h0 h]
    refine ofGo_congr fun x => ?_
    rw [mem_chains]
    constructor
    · rintro ⟨c, h1, h2⟩
      have := (hat c h1).2
      exact chain_sub T h0 h (c.toNat + 1) c (by omega) this x h2
    · intro hx
      obtain ⟨y, h1, h2, h3⟩ := h.atom x hx
      exact ⟨y, (hm y).2 (List.mem_filter.2 ⟨h1, h2⟩), h3⟩
  cases p with
  | true => exact ⟨rfl, (hF.1 rfl).2.2.trans hc⟩
  | false => exact absurd ⟨hg, hc ▸ sub_legal T h0 h⟩ (hF.2 rfl).2
theorem dup_full {l a : List Int} {p : Bool} {c : Int} (hc : c ∈ l) (hF : FullS ns (l ++ [c]) a p) : p = false := by
  cases p with
  | false => rfl
  | true =>
    have := ((hF.1 rfl).1 l.length c (by simp)).2
    simp at this
    exact absurd hc this
theorem sub_par2 (T : Tree ns) {D : List Int} (hD : LegalP ns D) {x : Int} (hx : x ∈ D) (hx0 : 0 < x) : ∃ (m : Nd) (p : Int) (q : Nd), ns[x.toNat]? = some m ∧ m.kind ≤ 3 ∧ p = m.parent ∧ 0 ≤ p ∧ p < x ∧ p ∈ D ∧ ns[p.toNat]? = some q ∧ (q.kind = 2 ∨ q.kind = 3) ∧ x ∈ statesN ns p := by
  obtain ⟨i, hi, e⟩ := List.mem_iff_getElem.1 hx
  have hA := (hD.2 i x (by rw [List.getElem?_eq_getElem hi, e])).1
  obtain ⟨m, hm⟩ : ∃ m, ns[x.toNat]? = some m := ⟨_, List.getElem?_eq_getElem (by have := hA.1; omega)⟩
  have h1 := hA.2.2 m hm
  have h2 := T.seg.par _ m hm
  have h3 := T.par0 _ m hm (by omega)
  obtain ⟨q, h4, h5⟩ := T.seg.kid _ m hm (by omega)
  have h6 : m.parent < x := by omega
  refine ⟨m, m.parent, q, hm, h1.1, rfl, h3, h6, h1.2 hx0, by simpa using h4, h5, ?_⟩
  have := (mem_statesN (ns := ns) (a := m.parent.toNat) (x := x) (by have := hA.1; omega)).2 ⟨x.toNat, m, by omega, hm, by omega, h1.1⟩
  rwa [show ((m.parent.toNat : Nat) : Int) = m.parent by omega] at this
theorem legal_b {D : List Int} (hD : LegalP ns D) {x : Int} (hx : x ∈ D) : StepB ns D x := by
  obtain ⟨i, hi, e⟩ := List.mem_iff_getElem.1 hx
  exact (hD.2 i x (by rw [List.getElem?_eq_getElem hi, e])).2
/-- Of two configurations neither has just one state more. -/
theorem legal_apart (T : Tree ns) {C D : List Int} (hC : LegalP ns C) (hD : LegalP ns D) {x : Int} (hx0 : 0 < x) (hxC : x ∉ C) (hxD : x ∈ D) (hs : ∀ y ∈ C, y ∈ D) (hs2 : ∀ y ∈ D, y ≠ x → y ∈ C) : False := by
  obtain ⟨m, p, q, h1, h2, rfl, h3, h4, h5, h6, h7, h8⟩ := sub_par2 T hD hxD hx0
  have hpC := hs2 _ h5 (by omega)
  have bC := legal_b hC hpC q h6
  have bD := legal_b hD h5 q h6
  rcases h7 with h7 | h7
  · have e1 := bC.1 h7
    have e2 := bD.1 h7
    rw [andL_eq] at e1 e2
    have := filter_lt (p := hasL C) (q := hasL D) (fun y hy => hasL_iff.2 (hs y (hasL_iff.1 hy))) (hasL_iff.2 hxD) (by unfold hasL; exact decide_eq_false hxC) h8
    omega
  · have e1 := bC.2 h7
    rw [andL_eq, List.length_filter_eq_length_iff] at e1
    exact hxC (hasL_iff.1 (e1 x h8))
theorem no_more (T : Tree ns) (hl : ns.length ≤ 128) (h0 : ns[0]? = some n) (h : Sub ns 0 n C) {i : Int} (hi0 : 0 ≤ i) (hi : i < ns.length) (hiC : i ∉ C) : ¬ LegalP ns (ofL (C ++ [i])) := by
  intro hD
  have hmem : ∀ y, y ∈ ofL (C ++ [i]) ↔ y ∈ C ∨ y = i := fun y => by
    unfold ofL
    rw [mem_ofGo, List.mem_append, List.mem_singleton]
    constructor
    · exact fun h => h.2.2
    · intro hh
      refine ⟨?_, ?_, hh⟩
      · rcases hh with hh | rfl
        · exact (sub_rng T h0 h y hh).1
        · exact hi0
      · rcases hh with hh | rfl
        · have := sub_rng T h0 h y hh; omega
        · omega
  refine legal_apart T (sub_legal T h0 h) hD (x := i) ?_ hiC ((hmem i).2 (.inr rfl)) (fun y hy => (hmem y).2 (.inl hy)) (fun y hy hne => ((hmem y).1 hy).resolve_right hne)
  have : i ≠ 0 := fun e => hiC (e ▸ h.head)
  omega
theorem no_less (T : Tree ns) (h0 : ns[0]? = some n) (h : Sub ns 0 n C) {x : Int} (hx : x ∈ C) (hne : x ≠ 0) : ¬ LegalP ns (notL C [x]) := by
  intro hD
  have hmem : ∀ y, y ∈ notL C [x] ↔ y ∈ C ∧ y ≠ x := fun y => by
    unfold notL
    rw [List.mem_filter]
    simp [hasL]
  have := sub_rng T h0 h x hx
  exact legal_apart T hD (sub_legal T h0 h) (x := x) (by omega) (fun hh => ((hmem x).1 hh).2 rfl) hx (fun y hy => ((hmem y).1 hy).1) (fun y hy hne => (hmem y).2 ⟨hy, hne⟩)
end
end Go.VM
open Go Go.VM
set_option linter.unusedVariables false
set_option linter.unusedSimpArgs false
set_option maxRecDepth 100000
set_option maxHeartbeats 8000000
namespace Go.Proofs.Ytblabbcmokldiaa.Vm
section
variable {R : Type} {G : ORC R} {k : Nat} {K : List V → Option R}
theorem asc_len {l : List Int} {m : Nat} (h : Asc l) (h0 : ∀ x ∈ l, 0 ≤ x ∧ x < m) : l.length ≤ m := by
  rw [← ofGo_self h h0]; exact ofGo_len
theorem asc_lt {l : List Int} (h : Asc l) {m : Nat} {x : Int} (hx : l[m]? = some x) : ∀ y ∈ l.take m, y < x := by
  intro y hy
  obtain ⟨i, hi, e⟩ := List.mem_iff_getElem.1 hy
  rw [List.length_take] at hi
  rw [List.getElem_take] at e
  obtain ⟨hm, e2⟩ := List.getElem?_eq_some_iff.1 hx
  have := List.pairwise_iff_getElem.1 h i m (by omega) hm (by omega)
  rw [e, e2] at this; exact this
def SomeOK (d : Nat) (G : ORC R) : Prop := ∀ (ns : List Nd) (a : Nat) (n : Nd) (b : List V) (i : Int) (K : List V → Option R), Tree ns → ns.length ≤ 100 → ns[a]? = some n → n.kind ≤ 3 → n.last - a < d → RowS b i →
  W (fun o => ∃ C j, o = [.sl 1 (ivs C), .int .i64 j] ∧ Sub ns a n C ∧ RowS b j) K (G 33 [.sl 7 (ns.map Nd.v), .int .i64 a, .sl 1 b, .int .i64 i] K)
theorem some_loop {d : Nat} (hS : SomeOK d G) {Q : List V → Prop} {K : List V → Option R} {Ko : List V → List V → Int → Option R} {ns : List Nd} {a : Nat} {n : Nd} {b : List V} (T : Tree ns) (hl : ns.length ≤ 100) (ha : ns[a]? = some n) (hd : n.last - a < (d + 1 : Nat))
    (hKo : ∀ D j, Par ns a (statesN ns a) D → RowS b j → W Q K (Ko (ivs D) b j)) :
    ∀ (j m : Nat) (D : List Int) (i : Int), (statesN ns a).length - m < j → m ≤ (statesN ns a).length → Par ns a ((statesN ns a).take m) D → RowS b i → W Q K (l33_1g G k Ko j (ns.map Nd.v) (ivs D) (ivs (statesN ns a)) m b i)
  | 0, m, D, i, h1, h2, h3, h4 => by omega
  | j + 1, m, D, i, h1, h2, h3, h4 => by
    show W Q K (b33_1 G k (l33_1g G k Ko j) Ko (ns.map Nd.v) (ivs D) (ivs (statesN ns a)) m b i)
    unfold b33_1
    have hsl : (statesN ns a).length ≤ ns.length := statesN_len
    refine W_dec (fun h => ?_) (fun h => by rw [ivs_len] at h; rw [List.take_of_length_le (by omega)] at h3; exact hKo D i h3 h4)
    rw [ivs_len] at h
    obtain ⟨x, hx⟩ := get_ex (l := statesN ns a) (m := m) (by omega)
    obtain ⟨q, m2, rfl, g1, g2, g3⟩ := (mem_statesN (Tree.lt ha)).1 (List.mem_of_getElem? hx)
    have hki := kid_in T ha g1 g2
    refine W_at (by omega) (ivs_atZ hx) (W_aI ?_)
    have hS' := hS
    unfold SomeOK at hS'
    refine W_call (hS' ns q m2 b i _ T hl g1 g3 (by omega) h4) ?_
    rintro _ ⟨C, j2, rfl, hC, hj2⟩
    (repeat (with_reducible (first | (refine W_uI ?_) | (refine W_uS ?_) | (refine W_uL ?_) | (refine W_uA ?_) | (refine W_uB ?_) | (refine W_aI ?_) | (refine W_aL ?_) | (refine W_ca3 ?_) | (refine W_ce3 ?_) | (refine W_ca4 ?_) | (refine W_ce4 ?_) | (refine W_ca5 ?_) | (refine W_ce5 ?_) | (refine W_ca6 ?_) | (refine W_ce6 ?_) | (refine W_ca7 ?_) | (refine W_ce7 ?_) | (refine W_ca8 ?_) | (refine W_ce8 ?_) | (refine W_nd7 ?_) | (refine W_unCons ?_) | (refine W_unNil ?_) | (refine W_asInt ?_) | (refine W_asBool ?_) | (refine W_asStr ?_) | (refine W_asSl ?_) | (refine W_asAgg ?_) | (refine W_kd ?_) | (refine W_z ?_))))
    have hal := T.seg.last a n ha
    have hql := T.seg.last q m2 g1
    have l1 : D.length ≤ ns.length := asc_len h3.asc fun x hx => by have := par_rng T ha h3 x hx; omega
    have l2 : C.length ≤ ns.length := asc_len hC.asc fun x hx => by have := hC.rng x hx; omega
    refine W_yes (by rw [ivs_len, ivs_len]; omega) ?_
    rw [wrap_id (n := (m : Int) + 1) (by omega), ← ivs_app]
    refine some_loop hS T hl ha hd hKo j (m + 1) (D ++ C) j2 (by omega) (by omega) ?_ hj2
    rw [take_snoc hx]
    exact par_snoc T g1 g2 (asc_lt statesN_asc hx) h3 hC
theorem some_ok {d : Nat} (hk : 10000 ≤ k) (hSt : StatesOK G) (hN : NextS G) (hS : ∀ d', d = d' + 1 → SomeOK d' G) : SomeOK d (fun _ args (K : List V → Option R) => g33 G k args K) := by
  intro ns a n b i K T hl ha hk3 hd hr
  show W _ K (f33 G k (ns.map Nd.v) a b i K)
  have hal := T.seg.last a n ha
  cases d with
  | zero => omega
  | succ d =>
  have hS := hS d rfl
  unfold f33
  unfold StatesOK at hSt; unfold NextS at hN
  have hkinds := T.seg.kinds a n ha
  have hla := Tree.lt ha
  refine W_call (hSt _ _ _ (by omega)) ?_
  rintro _ rfl
  (repeat (with_reducible (first | (refine W_uI ?_) | (refine W_uS ?_) | (refine W_uL ?_) | (refine W_uA ?_) | (refine W_uB ?_) | (refine W_aI ?_) | (refine W_aL ?_) | (refine W_ca3 ?_) | (refine W_ce3 ?_) | (refine W_ca4 ?_) | (refine W_ce4 ?_) | (refine W_ca5 ?_) | (refine W_ce5 ?_) | (refine W_ca6 ?_) | (refine W_ce6 ?_) | (refine W_ca7 ?_) | (refine W_ce7 ?_) | (refine W_ca8 ?_) | (refine W_ce8 ?_) | (refine W_nd7 ?_) | (refine W_unCons ?_) | (refine W_unNil ?_) | (refine W_asInt ?_) | (refine W_asBool ?_) | (refine W_asStr ?_) | (refine W_asSl ?_) | (refine W_asAgg ?_) | (refine W_kd ?_) | (refine W_z ?_))))
  refine W_at (by omega) (by rw [Int.toNat_natCast]; exact nd_get ha) (W_nd7 (W_aI ?_))
  refine W_beqI (fun h2 => ?_) (fun h2 => ?_)
  · obtain ⟨m, m1, m2, m3⟩ := T.seg.first a n ha (.inl h2)
    have hne : 0 < (statesN ns a).length := List.length_pos_of_mem ((mem_statesN hla).2 ⟨a + 1, m, rfl, m1, by omega, m3⟩)
    have hsl : (statesN ns a).length ≤ ns.length := statesN_len
    refine W_call (hN _ _ _ _ (by rw [ivs_len]; omega) (by rw [ivs_len]; omega) hr) ?_
    rintro _ ⟨x, j, rfl, x0, x1, hj⟩
    (repeat (with_reducible (first | (refine W_uI ?_) | (refine W_uS ?_) | (refine W_uL ?_) | (refine W_uA ?_) | (refine W_uB ?_) | (refine W_aI ?_) | (refine W_aL ?_) | (refine W_ca3 ?_) | (refine W_ce3 ?_) | (refine W_ca4 ?_) | (refine W_ce4 ?_) | (refine W_ca5 ?_) | (refine W_ce5 ?_) | (refine W_ca6 ?_) | (refine W_ce6 ?_) | (refine W_ca7 ?_) | (refine W_ce7 ?_) | (refine W_ca8 ?_) | (refine W_ce8 ?_) | (refine W_nd7 ?_) | (refine W_unCons ?_) | (refine W_unNil ?_) | (refine W_asInt ?_) | (refine W_asBool ?_) | (refine W_asStr ?_) | (refine W_asSl ?_) | (refine W_asAgg ?_) | (refine W_kd ?_) | (refine W_z ?_))))
    rw [ivs_len] at x1
    obtain ⟨y, hy⟩ := get_ex (l := statesN ns a) (m := x.toNat) (by omega)
    obtain ⟨q, m2, rfl, g1, g2, g3⟩ := (mem_statesN hla).1 (List.mem_of_getElem? hy)
    have hki := kid_in T ha g1 g2
    refine W_at x0 (ivs_at hy) (W_aI ?_)
    have hS' := hS
    unfold SomeOK at hS'
    refine W_call (hS' ns q m2 b j _ T hl g1 g3 (by omega) hj) ?_
    rintro _ ⟨C, j2, rfl, hC, hj2⟩
    (repeat (with_reducible (first | (refine W_uI ?_) | (refine W_uS ?_) | (refine W_uL ?_) | (refine W_uA ?_) | (refine W_uB ?_) | (refine W_aI ?_) | (refine W_aL ?_) | (refine W_ca3 ?_) | (refine W_ce3 ?_) | (refine W_ca4 ?_) | (refine W_ce4 ?_) | (refine W_ca5 ?_) | (refine W_ce5 ?_) | (refine W_ca6 ?_) | (refine W_ce6 ?_) | (refine W_ca7 ?_) | (refine W_ce7 ?_) | (refine W_ca8 ?_) | (refine W_ce8 ?_) | (refine W_nd7 ?_) | (refine W_unCons ?_) | (refine W_unNil ?_) | (refine W_asInt ?_) | (refine W_asBool ?_) | (refine W_asStr ?_) | (refine W_asSl ?_) | (refine W_asAgg ?_) | (refine W_kd ?_) | (refine W_z ?_))))
    have hql := T.seg.last q m2 g1
    have l2 : C.length ≤ ns.length := asc_len hC.asc fun x hx => by have := hC.rng x hx; omega
    refine W_yes (by rw [ivs_len]; omega) (W_ret ⟨(a : Int) :: C, j2, rfl, sub_comp T ha h2 g1 g2 g3 hC, hj2⟩)
  · refine W_beqI (fun h4 => ?_) (fun h4 => W_ret ⟨[(a : Int)], i, rfl, sub_atom T ha (by omega), hr⟩)
    have hsl : (statesN ns a).length ≤ ns.length := statesN_len
    unfold l33_1
    exact some_loop (Ko := fun x y z => K [.sl 1 x, .int .i64 z]) hS T hl ha hd (fun D j hD hj => W_ret ⟨D, j, rfl, sub_par T ha h4 hD, hj⟩) k 0 [(a : Int)] i (by omega) (by omega) par_nil hr
def OrOK (G : ORC R) : Prop := ∀ (a b : List Int) (K : List V → Option R), a.length ≤ 4000 → b.length ≤ 4000 → W (fun o => o = [.sl 1 (ivs (ofL (a ++ b)))]) K (G 35 [.sl 1 (ivs a), .sl 1 (ivs b)] K)
theorem or_ok (hO : OfOK G) : OrOK (fun _ args (K : List V → Option R) => g35 G k args K) := by
  intro a b K ha hb
  show W _ K (f35 G k (ivs a) (ivs b) K)
  unfold f35
  unfold OfOK at hO
  refine W_yes (by rw [ivs_len]; omega) (W_yes (by rw [List.nil_append, ivs_len, ivs_len]; omega) ?_)
  rw [List.nil_append, ← ivs_app]
  refine W_call (hO _ _ (by rw [List.length_append]; omega)) ?_
  rintro _ rfl
  (repeat (with_reducible (first | (refine W_uI ?_) | (refine W_uS ?_) | (refine W_uL ?_) | (refine W_uA ?_) | (refine W_uB ?_) | (refine W_aI ?_) | (refine W_aL ?_) | (refine W_ca3 ?_) | (refine W_ce3 ?_) | (refine W_ca4 ?_) | (refine W_ce4 ?_) | (refine W_ca5 ?_) | (refine W_ce5 ?_) | (refine W_ca6 ?_) | (refine W_ce6 ?_) | (refine W_ca7 ?_) | (refine W_ce7 ?_) | (refine W_ca8 ?_) | (refine W_ce8 ?_) | (refine W_nd7 ?_) | (refine W_unCons ?_) | (refine W_unNil ?_) | (refine W_asInt ?_) | (refine W_asBool ?_) | (refine W_asStr ?_) | (refine W_asSl ?_) | (refine W_asAgg ?_) | (refine W_kd ?_) | (refine W_z ?_))))
  exact W_ret rfl
def FullLawOK (G : ORC R) : Prop := ∀ (v w : List V) (t : Int) (K : List V → Option R), IntsS v → IntsS w → W (fun o => o = [.bool true]) K (G 6 [.sl 1 v, .sl 1 w, .int .i64 t] K)
theorem more_loop (hH : HasOK G) (hO : OrOK G) (hL : LegalOK 29 G) {Q : List V → Prop} {K : List V → Option R} {Ko : List V → List V → Int → Option R} {Kr : Bool → Option R} {ns : List Nd} {n : Nd} {C : List Int} {x : Int} (T : Tree ns) (hl : ns.length ≤ 100) (h0 : ns[0]? = some n) (hC : Sub ns 0 n C) (hcl : C.length ≤ 100)
    (hKo : W Q K (Ko (ns.map Nd.v) (ivs C) x)) :
    ∀ (j m : Nat), ns.length - m < j → m ≤ ns.length → W Q K (l6_0g G k Ko Kr j (ns.map Nd.v) (ivs C) x m)
  | 0, m, h1, h2 => by omega
  | j + 1, m, h1, h2 => by
    show W Q K (b6_0 G k (l6_0g G k Ko Kr j) Ko Kr (ns.map Nd.v) (ivs C) x m)
    unfold b6_0
    refine W_dec (fun h => ?_) (fun h => hKo)
    rw [List.length_map] at h
    have next : W Q K (l6_0g G k Ko Kr j (ns.map Nd.v) (ivs C) x (IntKind.i64.wrap ((m : Int) + 1))) := by
      rw [wrap_id (n := (m : Int) + 1) (by omega)]
      exact more_loop hH hO hL T hl h0 hC hcl hKo j (m + 1) (by omega) (by omega)
    unfold HasOK at hH; unfold OrOK at hO; unfold LegalOK at hL
    refine W_call (hH _ _ _ (by omega)) ?_
    rintro _ rfl
    (repeat (with_reducible (first | (refine W_uI ?_) | (refine W_uS ?_) | (refine W_uL ?_) | (refine W_uA ?_) | (refine W_uB ?_) | (refine W_aI ?_) | (refine W_aL ?_) | (refine W_ca3 ?_) | (refine W_ce3 ?_) | (refine W_ca4 ?_) | (refine W_ce4 ?_) | (refine W_ca5 ?_) | (refine W_ce5 ?_) | (refine W_ca6 ?_) | (refine W_ce6 ?_) | (refine W_ca7 ?_) | (refine W_ce7 ?_) | (refine W_ca8 ?_) | (refine W_ce8 ?_) | (refine W_nd7 ?_) | (refine W_unCons ?_) | (refine W_unNil ?_) | (refine W_asInt ?_) | (refine W_asBool ?_) | (refine W_asStr ?_) | (refine W_asSl ?_) | (refine W_asAgg ?_) | (refine W_kd ?_) | (refine W_z ?_))))
    refine W_not (W_bool (fun _ => next) (fun hb => ?_))
    have e : ([.int .i64 (m : Int)] : List V) = ivs [(m : Int)] := rfl
    rw [e]
    refine W_call (hO _ _ _ (by omega) (by simp)) ?_
    rintro _ rfl
    (repeat (with_reducible (first | (refine W_uI ?_) | (refine W_uS ?_) | (refine W_uL ?_) | (refine W_uA ?_) | (refine W_uB ?_) | (refine W_aI ?_) | (refine W_aL ?_) | (refine W_ca3 ?_) | (refine W_ce3 ?_) | (refine W_ca4 ?_) | (refine W_ce4 ?_) | (refine W_ca5 ?_) | (refine W_ce5 ?_) | (refine W_ca6 ?_) | (refine W_ce6 ?_) | (refine W_ca7 ?_) | (refine W_ce7 ?_) | (refine W_ca8 ?_) | (refine W_ce8 ?_) | (refine W_nd7 ?_) | (refine W_unCons ?_) | (refine W_unNil ?_) | (refine W_asInt ?_) | (refine W_asBool ?_) | (refine W_asStr ?_) | (refine W_asSl ?_) | (refine W_asAgg ?_) | (refine W_kd ?_) | (refine W_z ?_))))
    refine W_call (hL _ _ _ T (by omega) (Nat.le_trans ofGo_len (by omega))) ?_
    rintro _ ⟨b, rfl, hb2⟩
    (repeat (with_reducible (first | (refine W_uI ?_) | (refine W_uS ?_) | (refine W_uL ?_) | (refine W_uA ?_) | (refine W_uB ?_) | (refine W_aI ?_) | (refine W_aL ?_) | (refine W_ca3 ?_) | (refine W_ce3 ?_) | (refine W_ca4 ?_) | (refine W_ce4 ?_) | (refine W_ca5 ?_) | (refine W_ce5 ?_) | (refine W_ca6 ?_) | (refine W_ce6 ?_) | (refine W_ca7 ?_) | (refine W_ce7 ?_) | (refine W_ca8 ?_) | (refine W_ce8 ?_) | (refine W_nd7 ?_) | (refine W_unCons ?_) | (refine W_unNil ?_) | (refine W_asInt ?_) | (refine W_asBool ?_) | (refine W_asStr ?_) | (refine W_asSl ?_) | (refine W_asAgg ?_) | (refine W_kd ?_) | (refine W_z ?_))))
    have hno := no_more T (by omega) h0 hC (i := (m : Int)) (by omega) (by omega) (fun hh => by rw [← hasL_iff, hb] at hh; cases hh)
    cases b with
    | true => exact absurd (hb2.1 rfl) hno
    | false => exact next
theorem full_law (hk : 10000 ≤ k) (hKn : KnOK G) (hM : MadeOK G) (hN : NodesOK G) (hP : PlaceS G) (hSo : SomeOK 200 G) (hCL : LegalOK 29 G) (hCA : AtomicOK 31 G) (hCF : FullOK 27 G) (hSm : SameOK G) (hH : HasOK G) (hO : OrOK G) (hNo : NotOK G) : FullLawOK (fun _ args (K : List V → Option R) => g6 G k args K) := by
  intro v w t K hv hw
  show W _ K (f6 G k v w t K)
  unfold f6
  refine W_dec (fun _ => kn_go hKn) (fun h => ?_)
  refine W_dec (fun _ => kn_go hKn) (fun h2 => ?_)
  have hM' := hM
  have hN' := hN
  have hP' := hP
  have hCL' := hCL
  unfold MadeOK at hM'; unfold NodesOK at hN'; unfold PlaceS at hP'; unfold SomeOK at hSo; unfold LegalOK at hCL'; unfold AtomicOK at hCA; unfold FullOK at hCF; unfold SameOK at hSm; unfold NotOK at hNo
  refine W_call (hM' v _ hv (by omega)) ?_
  rintro _ ⟨c, rfl, hc⟩
  obtain ⟨nm, st, fu, vars, ports, timers, states, rfl, x1, x2, x3, x4, x5, x6, x7, x8, x9, x10, x11, x12, x13⟩ := hc
  have hlen : (ndsOf states).length = 1 + nszL 3 states := by unfold ndsOf; rw [List.length_cons, forest_len]; omega
  have T := tree_nds x11 x10
  (repeat (with_reducible (first | (refine W_uI ?_) | (refine W_uS ?_) | (refine W_uL ?_) | (refine W_uA ?_) | (refine W_uB ?_) | (refine W_aI ?_) | (refine W_aL ?_) | (refine W_ca3 ?_) | (refine W_ce3 ?_) | (refine W_ca4 ?_) | (refine W_ce4 ?_) | (refine W_ca5 ?_) | (refine W_ce5 ?_) | (refine W_ca6 ?_) | (refine W_ce6 ?_) | (refine W_ca7 ?_) | (refine W_ce7 ?_) | (refine W_ca8 ?_) | (refine W_ce8 ?_) | (refine W_nd7 ?_) | (refine W_unCons ?_) | (refine W_unNil ?_) | (refine W_asInt ?_) | (refine W_asBool ?_) | (refine W_asStr ?_) | (refine W_asSl ?_) | (refine W_asAgg ?_) | (refine W_kd ?_) | (refine W_z ?_))))
  refine W_call (hN' _ _ _ _ _ _ _ _ _ x11 (by omega)) ?_
  rintro _ rfl
  (repeat (with_reducible (first | (refine W_uI ?_) | (refine W_uS ?_) | (refine W_uL ?_) | (refine W_uA ?_) | (refine W_uB ?_) | (refine W_aI ?_) | (refine W_aL ?_) | (refine W_ca3 ?_) | (refine W_ce3 ?_) | (refine W_ca4 ?_) | (refine W_ce4 ?_) | (refine W_ca5 ?_) | (refine W_ce5 ?_) | (refine W_ca6 ?_) | (refine W_ce6 ?_) | (refine W_ca7 ?_) | (refine W_ce7 ?_) | (refine W_ca8 ?_) | (refine W_ce8 ?_) | (refine W_nd7 ?_) | (refine W_unCons ?_) | (refine W_unNil ?_) | (refine W_asInt ?_) | (refine W_asBool ?_) | (refine W_asStr ?_) | (refine W_asSl ?_) | (refine W_asAgg ?_) | (refine W_kd ?_) | (refine W_z ?_))))
  generalize hns : ndsOf states = ns at T hlen ⊢
  obtain ⟨n0, h0⟩ : ∃ n, ns[0]? = some n := ⟨_, List.getElem?_eq_getElem (by omega)⟩
  have hr0 := T.root n0 h0
  refine W_call (hSo ns 0 n0 w 0 _ T (by omega) h0 (by omega) (by omega) ⟨hw, by omega, by omega, by omega⟩) ?_
  rintro _ ⟨C, j, rfl, hC, hj⟩
  (repeat (with_reducible (first | (refine W_uI ?_) | (refine W_uS ?_) | (refine W_uL ?_) | (refine W_uA ?_) | (refine W_uB ?_) | (refine W_aI ?_) | (refine W_aL ?_) | (refine W_ca3 ?_) | (refine W_ce3 ?_) | (refine W_ca4 ?_) | (refine W_ce4 ?_) | (refine W_ca5 ?_) | (refine W_ce5 ?_) | (refine W_ca6 ?_) | (refine W_ce6 ?_) | (refine W_ca7 ?_) | (refine W_ce7 ?_) | (refine W_ca8 ?_) | (refine W_ce8 ?_) | (refine W_nd7 ?_) | (refine W_unCons ?_) | (refine W_unNil ?_) | (refine W_asInt ?_) | (refine W_asBool ?_) | (refine W_asStr ?_) | (refine W_asSl ?_) | (refine W_asAgg ?_) | (refine W_kd ?_) | (refine W_z ?_))))
  have hCl := sub_len T h0 hC
  refine W_call (hCL' _ _ _ T (by omega) (by omega)) ?_
  rintro _ ⟨b1, rfl, hb1⟩
  (repeat (with_reducible (first | (refine W_uI ?_) | (refine W_uS ?_) | (refine W_uL ?_) | (refine W_uA ?_) | (refine W_uB ?_) | (refine W_aI ?_) | (refine W_aL ?_) | (refine W_ca3 ?_) | (refine W_ce3 ?_) | (refine W_ca4 ?_) | (refine W_ce4 ?_) | (refine W_ca5 ?_) | (refine W_ce5 ?_) | (refine W_ca6 ?_) | (refine W_ce6 ?_) | (refine W_ca7 ?_) | (refine W_ce7 ?_) | (refine W_ca8 ?_) | (refine W_ce8 ?_) | (refine W_nd7 ?_) | (refine W_unCons ?_) | (refine W_unNil ?_) | (refine W_asInt ?_) | (refine W_asBool ?_) | (refine W_asStr ?_) | (refine W_asSl ?_) | (refine W_asAgg ?_) | (refine W_kd ?_) | (refine W_z ?_))))
  obtain rfl : b1 = true := hb1.2 (sub_legal T h0 hC)
  refine W_chk' rfl ?_
  refine W_call (hCA _ _ _ (by omega)) ?_
  rintro _ rfl
  (repeat (with_reducible (first | (refine W_uI ?_) | (refine W_uS ?_) | (refine W_uL ?_) | (refine W_uA ?_) | (refine W_uB ?_) | (refine W_aI ?_) | (refine W_aL ?_) | (refine W_ca3 ?_) | (refine W_ce3 ?_) | (refine W_ca4 ?_) | (refine W_ce4 ?_) | (refine W_ca5 ?_) | (refine W_ce5 ?_) | (refine W_ca6 ?_) | (refine W_ce6 ?_) | (refine W_ca7 ?_) | (refine W_ce7 ?_) | (refine W_ca8 ?_) | (refine W_ce8 ?_) | (refine W_nd7 ?_) | (refine W_unCons ?_) | (refine W_unNil ?_) | (refine W_asInt ?_) | (refine W_asBool ?_) | (refine W_asStr ?_) | (refine W_asSl ?_) | (refine W_asAgg ?_) | (refine W_kd ?_) | (refine W_z ?_))))
  have hal : (atomN ns C).length ≤ C.length := List.length_filter_le _ _
  have hnd : (atomN ns C).Nodup := List.Pairwise.imp (fun h => by omega) (List.Pairwise.filter _ hC.asc)
  have hpos : 0 < (atomN ns C).length := by
    obtain ⟨y, y1, y2, _⟩ := hC.atom _ hC.head
    exact List.length_pos_of_mem (List.mem_filter.2 ⟨y1, y2⟩)
  generalize ha : atomN ns C = a at hal hnd hpos ⊢
  refine W_eqN (by rw [ivs_len]; omega) ?_
  refine W_call (hP' _ _ _ (by rw [ivs_len]; omega) (by rw [ivs_len]; omega)) ?_
  rintro _ ⟨x, rfl, x0, xl⟩
  (repeat (with_reducible (first | (refine W_uI ?_) | (refine W_uS ?_) | (refine W_uL ?_) | (refine W_uA ?_) | (refine W_uB ?_) | (refine W_aI ?_) | (refine W_aL ?_) | (refine W_ca3 ?_) | (refine W_ce3 ?_) | (refine W_ca4 ?_) | (refine W_ce4 ?_) | (refine W_ca5 ?_) | (refine W_ce5 ?_) | (refine W_ca6 ?_) | (refine W_ce6 ?_) | (refine W_ca7 ?_) | (refine W_ce7 ?_) | (refine W_ca8 ?_) | (refine W_ce8 ?_) | (refine W_nd7 ?_) | (refine W_unCons ?_) | (refine W_unNil ?_) | (refine W_asInt ?_) | (refine W_asBool ?_) | (refine W_asStr ?_) | (refine W_asSl ?_) | (refine W_asAgg ?_) | (refine W_kd ?_) | (refine W_z ?_))))
  rw [ivs_len] at xl
  obtain ⟨xn, rfl⟩ : ∃ xn : Nat, x = xn := ⟨x.toNat, by omega⟩
  refine W_chk (by rw [ivs_len]; simp; omega) ?_
  have e1 : List.drop ((xn : Int)).toNat (List.take (((List.length (ivs a) : Nat) : Int)).toNat (ivs a)) = ivs (a.drop xn) := by
    rw [Int.toNat_natCast, Int.toNat_natCast, List.take_length]; simp [ivs, List.map_drop]
  have e2 : List.take ((xn : Int)).toNat (ivs a) = ivs (a.take xn) := by rw [Int.toNat_natCast]; simp [ivs, List.map_take]
  rw [e1, e2, List.nil_append, List.nil_append, ← ivs_app]
  refine W_yes (by rw [ivs_len, List.length_drop]; omega) ?_
  refine W_chk (by rw [ivs_len]; simp; omega) ?_
  refine W_yes (by rw [ivs_len, ivs_len, List.length_drop, List.length_take]; omega) ?_
  refine W_call (hCF _ _ _ T (by omega) (by rw [List.length_append, List.length_drop, List.length_take]; omega)) ?_
  rintro _ ⟨a1, p1, rfl, f1⟩
  (repeat (with_reducible (first | (refine W_uI ?_) | (refine W_uS ?_) | (refine W_uL ?_) | (refine W_uA ?_) | (refine W_uB ?_) | (refine W_aI ?_) | (refine W_aL ?_) | (refine W_ca3 ?_) | (refine W_ce3 ?_) | (refine W_ca4 ?_) | (refine W_ce4 ?_) | (refine W_ca5 ?_) | (refine W_ce5 ?_) | (refine W_ca6 ?_) | (refine W_ce6 ?_) | (refine W_ca7 ?_) | (refine W_ce7 ?_) | (refine W_ca8 ?_) | (refine W_ce8 ?_) | (refine W_nd7 ?_) | (refine W_unCons ?_) | (refine W_unNil ?_) | (refine W_asInt ?_) | (refine W_asBool ?_) | (refine W_asStr ?_) | (refine W_asSl ?_) | (refine W_asAgg ?_) | (refine W_kd ?_) | (refine W_z ?_))))
  have hperm : (a.drop xn ++ a.take xn).Perm a := by
    have := List.perm_append_comm (l₁ := a.drop xn) (l₂ := a.take xn)
    rwa [List.take_append_drop] at this
  obtain ⟨rfl, rfl⟩ := sub_full T (by omega) h0 hC (hperm.nodup_iff.2 hnd) (fun y => by rw [hperm.mem_iff, ha]) f1
  obtain ⟨y, hy⟩ := get_ex (l := a) (m := xn) (by omega)
  refine W_yes (by rw [ivs_len]; omega) ?_
  refine W_at (by omega) (ivs_atZ hy) (W_aI ?_)
  refine W_yes (by rw [ivs_len]; omega) ?_
  rw [show ivs a ++ [.int .i64 y] = ivs (a ++ [y]) by simp [ivs]]
  refine W_call (hCF _ _ _ T (by omega) (by rw [List.length_append]; simp; omega)) ?_
  rintro _ ⟨a2, p2, rfl, f2⟩
  (repeat (with_reducible (first | (refine W_uI ?_) | (refine W_uS ?_) | (refine W_uL ?_) | (refine W_uA ?_) | (refine W_uB ?_) | (refine W_aI ?_) | (refine W_aL ?_) | (refine W_ca3 ?_) | (refine W_ce3 ?_) | (refine W_ca4 ?_) | (refine W_ce4 ?_) | (refine W_ca5 ?_) | (refine W_ce5 ?_) | (refine W_ca6 ?_) | (refine W_ce6 ?_) | (refine W_ca7 ?_) | (refine W_ce7 ?_) | (refine W_ca8 ?_) | (refine W_ce8 ?_) | (refine W_nd7 ?_) | (refine W_unCons ?_) | (refine W_unNil ?_) | (refine W_asInt ?_) | (refine W_asBool ?_) | (refine W_asStr ?_) | (refine W_asSl ?_) | (refine W_asAgg ?_) | (refine W_kd ?_) | (refine W_z ?_))))
  obtain rfl := dup_full (List.mem_of_getElem? hy) f2
  refine W_chk' rfl (W_chk' rfl ?_)
  refine W_call (hSm _ _ _ (by omega)) ?_
  rintro _ rfl
  (repeat (with_reducible (first | (refine W_uI ?_) | (refine W_uS ?_) | (refine W_uL ?_) | (refine W_uA ?_) | (refine W_uB ?_) | (refine W_aI ?_) | (refine W_aL ?_) | (refine W_ca3 ?_) | (refine W_ce3 ?_) | (refine W_ca4 ?_) | (refine W_ce4 ?_) | (refine W_ca5 ?_) | (refine W_ce5 ?_) | (refine W_ca6 ?_) | (refine W_ce6 ?_) | (refine W_ca7 ?_) | (refine W_ce7 ?_) | (refine W_ca8 ?_) | (refine W_ce8 ?_) | (refine W_nd7 ?_) | (refine W_unCons ?_) | (refine W_unNil ?_) | (refine W_asInt ?_) | (refine W_asBool ?_) | (refine W_asStr ?_) | (refine W_asSl ?_) | (refine W_asAgg ?_) | (refine W_kd ?_) | (refine W_z ?_))))
  refine W_chk' (by simp) ?_
  have hCp : 0 < a1.length := List.length_pos_of_mem hC.head
  refine W_call (hP' _ _ _ (by rw [ivs_len]; omega) (by rw [ivs_len]; omega)) ?_
  rintro _ ⟨z, rfl, z0, zl⟩
  (repeat (with_reducible (first | (refine W_uI ?_) | (refine W_uS ?_) | (refine W_uL ?_) | (refine W_uA ?_) | (refine W_uB ?_) | (refine W_aI ?_) | (refine W_aL ?_) | (refine W_ca3 ?_) | (refine W_ce3 ?_) | (refine W_ca4 ?_) | (refine W_ce4 ?_) | (refine W_ca5 ?_) | (refine W_ce5 ?_) | (refine W_ca6 ?_) | (refine W_ce6 ?_) | (refine W_ca7 ?_) | (refine W_ce7 ?_) | (refine W_ca8 ?_) | (refine W_ce8 ?_) | (refine W_nd7 ?_) | (refine W_unCons ?_) | (refine W_unNil ?_) | (refine W_asInt ?_) | (refine W_asBool ?_) | (refine W_asStr ?_) | (refine W_asSl ?_) | (refine W_asAgg ?_) | (refine W_kd ?_) | (refine W_z ?_))))
  rw [ivs_len] at zl
  rw [wrap_id (n := 1 + z) (by omega)]
  unfold l6_0
  refine more_loop hH hO hCL T (by omega) h0 hC (by omega) ?_ k 0 (by omega) (by omega)
  refine W_beqI (fun _ => kn_go hKn) (fun hne => ?_)
  rw [ivs_len] at hne
  obtain ⟨u, hu⟩ := get_ex (l := a1) (m := (1 + z).toNat) (by omega)
  refine W_at (by omega) (ivs_at hu) (W_aI ?_)
  have e : ([.int .i64 u] : List V) = ivs [u] := rfl
  rw [e]
  refine W_call (hNo _ _ _ (by omega) (by simp)) ?_
  rintro _ rfl
  (repeat (with_reducible (first | (refine W_uI ?_) | (refine W_uS ?_) | (refine W_uL ?_) | (refine W_uA ?_) | (refine W_uB ?_) | (refine W_aI ?_) | (refine W_aL ?_) | (refine W_ca3 ?_) | (refine W_ce3 ?_) | (refine W_ca4 ?_) | (refine W_ce4 ?_) | (refine W_ca5 ?_) | (refine W_ce5 ?_) | (refine W_ca6 ?_) | (refine W_ce6 ?_) | (refine W_ca7 ?_) | (refine W_ce7 ?_) | (refine W_ca8 ?_) | (refine W_ce8 ?_) | (refine W_nd7 ?_) | (refine W_unCons ?_) | (refine W_unNil ?_) | (refine W_asInt ?_) | (refine W_asBool ?_) | (refine W_asStr ?_) | (refine W_asSl ?_) | (refine W_asAgg ?_) | (refine W_kd ?_) | (refine W_z ?_))))
  refine W_call (hCL' _ _ _ T (by omega) (Nat.le_trans notL_len (by omega))) ?_
  rintro _ ⟨b2, rfl, hb2⟩
  (repeat (with_reducible (first | (refine W_uI ?_) | (refine W_uS ?_) | (refine W_uL ?_) | (refine W_uA ?_) | (refine W_uB ?_) | (refine W_aI ?_) | (refine W_aL ?_) | (refine W_ca3 ?_) | (refine W_ce3 ?_) | (refine W_ca4 ?_) | (refine W_ce4 ?_) | (refine W_ca5 ?_) | (refine W_ce5 ?_) | (refine W_ca6 ?_) | (refine W_ce6 ?_) | (refine W_ca7 ?_) | (refine W_ce7 ?_) | (refine W_ca8 ?_) | (refine W_ce8 ?_) | (refine W_nd7 ?_) | (refine W_unCons ?_) | (refine W_unNil ?_) | (refine W_asInt ?_) | (refine W_asBool ?_) | (refine W_asStr ?_) | (refine W_asSl ?_) | (refine W_asAgg ?_) | (refine W_kd ?_) | (refine W_z ?_))))
  have hu0 : u ≠ 0 := by
    intro e
    have h1 := legal_head (sub_legal T h0 hC)
    have := asc_lt hC.asc hu 0 (List.mem_of_getElem? (i := 0) (by rw [List.getElem?_take, if_pos (by omega)]; exact h1))
    omega
  have hno := no_less T h0 hC (List.mem_of_getElem? hu) hu0
  cases b2 with
  | true => exact absurd (hb2.1 rfl) hno
  | false => exact W_chk rfl (kn_go hKn)
end
end Go.Proofs.Ytblabbcmokldiaa.Vm
