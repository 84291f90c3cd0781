/- Functions of the program, told by the machine of values, and what they answer: part 3. -/
import Derived.Test.YtjbppcgcblfkoaaTl2
import Derived.Test.YtjbppcgcblfkoaaTl1
open Go Go.VM
set_option linter.unusedVariables false
set_option linter.unusedSimpArgs false
set_option maxRecDepth 100000
set_option maxHeartbeats 8000000
namespace Go.Proofs.Ytjbppcgcblfkoaa.Vm
section
variable {R : Type} {G : ORC R} {k : Nat} {K : List V → Option R}
def TextsOK (G : ORC R) : Prop := ∀ (l : List V) (K : List V → Option R), NamedS 100 l → W (fun o => ∃ q, o = [.sl 1 q] ∧ StrsS 100 q) K (G 27 [.sl 3 l] K)
theorem texts_loop {Q : List V → Prop} {K : List V → Option R} {Ko : List V → Option R} {l : List V} (hl : NamedS 100 l) (hKo : ∀ q, StrsS 100 q → W Q K (Ko q)) :
    ∀ (j : Nat) (acc : List V) (i : Int), 0 ≤ i → i ≤ (l.length : Int) → (l.length : Int) - i < j → StrsS i.toNat acc → W Q K (l27_0g G k Ko j l acc i)
  | 0, acc, i, h1, h2, h3, h4 => by omega
  | j + 1, acc, i, h1, h2, h3, h4 => by
    show W Q K (b27_0 G k (l27_0g G k Ko j) Ko l acc i)
    unfold b27_0
    have hll := hl.1
    have hla := h4.1
    refine W_dec (fun h => ?_) (fun h => hKo acc ⟨by omega, h4.2⟩)
    refine W_and (W_yes h1 (W_yes h ?_))
    refine W_nth (by omega) (fun v _ hv => ?_)
    obtain ⟨t, n, rfl, ht, hn⟩ := hl.2 v hv
    refine W_asAgg (W_unCons (W_unCons (W_unCons (W_unNil (W_asStr (W_yes (by omega) ?_))))))
    rw [wrap_id (n := i + 1) (by omega)]
    refine texts_loop hl hKo j _ (i + 1) (by omega) (by omega) (by omega) ?_
    rw [show (i + 1).toNat = i.toNat + 1 by omega]
    exact strs_snoc h4 ht
theorem texts_ok (hk : 1000 ≤ k) : TextsOK (fun _ args (K : List V → Option R) => g27 G k args K) := by
  intro l K hl
  show W _ K (f27 G k l K)
  unfold f27 l27_0
  exact texts_loop hl (fun q hq => W_ret ⟨_, rfl, hq⟩) k [] 0 (by omega) (by omega) (by have := hl.1; omega) ⟨by simp, by simp⟩
def NamesC (G : ORC R) : Prop := ∀ (nm : ByteArray) (x y z : Int) (a b c states : List V) (K : List V → Option R), NamedS 100 a → NamedS 100 b → NamedS 100 c → (∀ s ∈ states, StateS 2 3 s ∧ kindV s ≤ 2) → nszL 3 states ≤ 900 →
  W (fun o => ∃ p q t, o = [namV p q t (ndsOf states)] ∧ NamS p q t (ndsOf states)) K (G 26 [.agg [.str nm, .int .i64 x, .int .i64 y, .sl 3 a, .sl 3 b, .sl 3 c, .sl 7 states, .int .i64 z]] K)
theorem ndsOf_len {states : List V} : (ndsOf states).length = 1 + nszL 3 states := by unfold ndsOf; rw [List.length_cons, forest_len]; omega
theorem names_c (hT : TextsOK G) (hN : NodesOK G) : NamesC (fun _ args (K : List V → Option R) => g26 G k args K) := by
  intro nm x y z a b c states K ha hb hc hs hl
  show W _ K (f26 G k nm x y a b c states z K)
  unfold f26
  unfold TextsOK at hT
  refine W_call (hT _ _ ha) ?_
  rintro _ ⟨q1, rfl, hq1⟩
  refine W_unCons (W_asSl (W_z (W_unNil (W_call (hT _ _ hb) ?_))))
  rintro _ ⟨q2, rfl, hq2⟩
  refine W_unCons (W_asSl (W_z (W_unNil (W_call (hT _ _ hc) ?_))))
  rintro _ ⟨q3, rfl, hq3⟩
  refine W_unCons (W_asSl (W_z (W_unNil (W_call (hN nm x y a b c states z _ hs hl) ?_))))
  rintro _ rfl
  exact W_unCons (W_asSl (W_z (W_unNil (W_ret ⟨_, _, _, rfl, hq1, hq2, hq3, by rw [ndsOf_len]; omega⟩))))
def LbOK (G : ORC R) : Prop := ∀ (l : List V) (nm : ByteArray) (x y : Int) (v1 v2 v3 ns es codes a p t : List V) (nd : List Nd) (K : List V → Option R), BlockS 3 l → NamS a p t nd → CodesS codes → codes.length ≤ 1000000 →
  W (fun o => ∃ r codes', o = [.int .i64 r, .str nm, .int .i64 x, .int .i64 y, .sl 1 codes'] ∧ -1 ≤ r ∧ CodesS codes' ∧ codes'.length ≤ codes.length + 1) K
    (G 40 [.sl 8 l, .str nm, .int .i64 x, .int .i64 y, .sl 1 v1, .sl 1 v2, .sl 1 v3, .sl 7 ns, .sl 6 es, .sl 1 codes, .sl 1 a, .sl 1 p, .sl 1 t, .sl 7 (nd.map Nd.v)] K)
theorem lb_ok (hB : BlkOK 3 G) : LbOK (fun _ args (K : List V → Option R) => g40 G k args K) := by
  intro l nm x y v1 v2 v3 ns es codes a p t nd K hl hn hc hcl
  show W _ K (f40 G k l nm x y v1 v2 v3 ns es codes a p t (nd.map Nd.v) K)
  unfold f40
  unfold BlkOK namV at hB
  refine W_beqI (fun _ => W_ret ⟨_, _, rfl, by omega, hc, by omega⟩) (fun _ => ?_)
  refine W_call (hB l a p t nd _ hl hn) ?_
  rintro _ ⟨c1, rfl, a1, b1, b2⟩
  refine W_unCons (W_asSl (W_z (W_unNil (W_yes (by omega) (W_ret ⟨_, _, rfl, ?_, codes_snoc hc a1, by simp⟩)))))
  simp only [List.length_append, List.length_cons, List.length_nil]
  rw [wrap_id (by omega)]; omega
def StsOK (d : Nat) (G : ORC R) : Prop := ∀ (l : List V) (nm : ByteArray) (x y : Int) (v1 v2 v3 es codes a p t : List V) (ns ns0 nd : List Nd) (K : List V → Option R), (∀ s ∈ l, StateS 2 d s) → NamesIn ns0 d l → CoreEq ns ns0 → ns0.length ≤ 1000 → (∀ e ∈ es, EdgeS ns0 e) → es.length + 2 * nszL d l ≤ 100000 → CodesS codes → codes.length + 6 * nszL d l ≤ 100000 → NamS a p t nd → l.length ≤ 4 →
  W (fun o => ∃ ns' es' codes', o = [.str nm, .int .i64 x, .int .i64 y, .sl 7 (ns'.map Nd.v), .sl 6 es', .sl 1 codes'] ∧ CoreEq ns' ns0 ∧ (∀ e ∈ es', EdgeS ns0 e) ∧ es'.length ≤ es.length + 2 * nszL d l ∧ CodesS codes' ∧ codes'.length ≤ codes.length + 6 * nszL d l) K
    (G 28 [.sl 7 l, .str nm, .int .i64 x, .int .i64 y, .sl 1 v1, .sl 1 v2, .sl 1 v3, .sl 7 (ns.map Nd.v), .sl 6 es, .sl 1 codes, .sl 1 a, .sl 1 p, .sl 1 t, .sl 7 (nd.map Nd.v)] K)
theorem edge_snoc {ns : List Nd} {es : List V} {fr to dom gd ac : Int} {ev : ByteArray} (h : ∀ e ∈ es, EdgeS ns e) (h1 : 1 ≤ fr) (h2 : fr < ns.length) (h3 : StrS ev) (h4 : (to = -1 ∧ dom = -1) ∨ (1 ≤ to ∧ to < ns.length ∧ dom = domN ns fr to)) (h5 : -1 ≤ gd) (h6 : -1 ≤ ac) :
    ∀ e ∈ es ++ [.agg [.int .i64 fr, .int .i64 to, .int .i64 dom, .int .i64 gd, .int .i64 ac, .str ev]], EdgeS ns e := mem_snoc h ⟨fr, to, dom, gd, ac, ev, rfl, h1, h2, h3, h4, h5, h6⟩
theorem st_trans (hF : FindOK G) (hD : DomOK G) (hLb : LbOK G) (hG : GdOK G) {Q : List V → Prop} {K : List V → Option R} {l v1 v2 v3 a p t tr : List V} {i fr z kind : Int} {nm sn : ByteArray} {x y : Int} {e1 e2 e4 : V} {ns ns0 nd : List Nd} {Ko : List V → Int → ByteArray → Int → Int → List V → List V → List V → List V → List V → List V → List V → List V → List V → List V → Int → ByteArray → V → V → V → V → Int → Option R}
    (hc : CoreEq ns ns0) (hl0 : ns0.length ≤ 1000) (hn : NamS a p t nd) (hfr : 1 ≤ fr ∧ fr < ns0.length) (htr : tr.length ≤ 2) (htt : ∀ w ∈ tr, TransS w) {m1 m2 : Nat} (hm1 : m1 ≤ 100000) (hm2 : m2 ≤ 100000)
    (hKo : ∀ es codes, (∀ e ∈ es, EdgeS ns0 e) → es.length ≤ m1 → CodesS codes → codes.length ≤ m2 → W Q K (Ko l i nm x y v1 v2 v3 (ns.map Nd.v) es codes a p t (nd.map Nd.v) kind sn e1 e2 (.sl 5 tr) e4 z)) :
    ∀ (j : Nat) (q : Int) (es codes : List V), tr.length - q < j → 0 ≤ q → q ≤ tr.length → (∀ e ∈ es, EdgeS ns0 e) → es.length + (tr.length - q) ≤ m1 → CodesS codes → codes.length + 2 * (tr.length - q) ≤ m2 →
      W Q K (l28_2g G k Ko j l i fr q nm x y v1 v2 v3 (ns.map Nd.v) es codes a p t (nd.map Nd.v) kind sn e1 e2 (.sl 5 tr) e4 z)
  | 0, q, es, codes, h1, h2, h3, h4, h5, h6, h7 => by omega
  | j + 1, q, es, codes, h1, h2, h3, h4, h5, h6, h7 => by
    show W Q K (b28_2 G k (l28_2g G k Ko j) Ko l i fr q nm x y v1 v2 v3 (ns.map Nd.v) es codes a p t (nd.map Nd.v) kind sn e1 e2 (.sl 5 tr) e4 z)
    unfold b28_2
    refine W_asSl (W_dec (fun h => ?_) (fun h => hKo es codes h4 (by omega) h6 (by omega)))
    refine W_asSl (W_and (W_and (W_z (W_yes h2 (W_yes h ?_)))))
    refine W_nth (by omega) (fun v _ hv => ?_)
    obtain ⟨ev, gd, tg, acts, rfl, t1, t2, t3, t4, t5⟩ := htt v hv
    refine W_asAgg (W_unCons (W_unCons (W_unCons (W_unCons (W_unCons (W_unNil (W_asStr (W_asSl (W_asStr (W_asSl (W_asInt (W_kd ?_))))))))))))
    have hnl : ns.length = ns0.length := hc.len
    unfold FindOK at hF; unfold DomOK at hD; unfold LbOK at hLb; unfold GdOK namV at hG
    refine W_call (hF ns tg _ (by omega)) ?_
    rintro _ rfl
    refine W_unCons (W_asInt (W_kd (W_unNil ?_)))
    rw [findN_core hc]
    rw [wrap_id (n := q + 1) (by omega)]
    have next : ∀ (to dom gdn ac : Int) (codes' : List V), ((to = -1 ∧ dom = -1) ∨ (1 ≤ to ∧ to < ns0.length ∧ dom = domN ns0 fr to)) → -1 ≤ gdn → -1 ≤ ac → CodesS codes' → codes'.length ≤ codes.length + 2 →
        W Q K (l28_2g G k Ko j l i fr (q + 1) nm x y v1 v2 v3 (ns.map Nd.v) (es ++ [.agg [.int .i64 fr, .int .i64 to, .int .i64 dom, .int .i64 gdn, .int .i64 ac, .str ev]]) codes' a p t (nd.map Nd.v) kind sn e1 e2 (.sl 5 tr) e4 z) := by
      intro to dom gdn ac codes' k1 k2 k3 k4 k5
      exact st_trans hF hD hLb hG hc hl0 hn hfr htr htt hm1 hm2 hKo j (q + 1) _ codes' (by omega) (by omega) (by omega) (edge_snoc h4 hfr.1 hfr.2 t1 k1 k2 k3) (by simp; omega) k4 (by omega)
    have guard : ∀ (to dom : Int), ((to = -1 ∧ dom = -1) ∨ (1 ≤ to ∧ to < ns0.length ∧ dom = domN ns0 fr to)) → ∀ F : List V → Option R,
        (∀ c1, AllI c1 → W Q K (F [.sl 4 c1])) → gd.length > 0 → W Q K (nthK gd 0 fun e => V.asAgg e fun l => G 41 [.agg l, .agg [.sl 1 a, .sl 1 p, .sl 1 t, .sl 7 (nd.map Nd.v)]] F) := by
      intro to dom _ F hFc hg
      refine W_nth hg (fun v _ hv => ?_)
      have h1 := t4 v hv
      have h1' := h1
      obtain ⟨_, _, _, _, rfl, _⟩ := h1
      refine W_asAgg (W_call (hG _ a p t nd _ h1' hn) ?_)
      rintro _ ⟨c1, rfl, a1, _⟩
      exact hFc c1 a1
    have hcl : codes.length ≤ 100000 := by omega
    refine W_dec (fun hge => ?_) (fun hlt => ?_)
    · have hto : 1 ≤ findN ns0 tg ∧ findN ns0 tg < ns0.length := by rcases findN_at (l := ns0) (s := tg) with e | e <;> omega
      refine W_call (hD ns fr _ _ (by omega)) ?_
      rintro _ rfl
      rw [domN_core hc]
      refine W_unCons (W_asInt (W_kd (W_unNil ?_)))
      refine W_dec (fun hg => ?_) (fun hg => ?_)
      · refine W_and (W_and (W_z (W_chk rfl (W_yes (by omega) ?_))))
        refine guard _ _ (.inr ⟨hto.1, hto.2, rfl⟩) _ (fun c1 a1 => ?_) (by omega)
        refine W_unCons (W_asSl (W_z (W_unNil (W_yes (by omega) ?_))))
        refine W_call (hLb acts nm x y v1 v2 v3 _ _ _ a p t nd _ t5 hn (codes_snoc h6 a1) (by simp; omega)) ?_
        rintro _ ⟨r, codes', rfl, r1, r2, r3⟩
        simp only [List.length_append, List.length_cons, List.length_nil] at r3
        refine W_unCons (W_asInt (W_kd (W_unCons (W_asStr (W_unCons (W_asInt (W_kd (W_unCons (W_asInt (W_kd (W_unCons (W_asSl (W_z (W_unNil (W_yes (by omega) ?_)))))))))))))))
        exact next _ _ _ _ _ (.inr ⟨hto.1, hto.2, rfl⟩) (by simp only [List.length_append, List.length_cons, List.length_nil]; rw [wrap_id (by omega)]; omega) r1 r2 (by omega)
      · refine W_call (hLb acts nm x y v1 v2 v3 _ _ _ a p t nd _ t5 hn h6 (by omega)) ?_
        rintro _ ⟨r, codes', rfl, r1, r2, r3⟩
        refine W_unCons (W_asInt (W_kd (W_unCons (W_asStr (W_unCons (W_asInt (W_kd (W_unCons (W_asInt (W_kd (W_unCons (W_asSl (W_z (W_unNil (W_yes (by omega) ?_)))))))))))))))
        exact next _ _ _ _ _ (.inr ⟨hto.1, hto.2, rfl⟩) (by omega) r1 r2 (by omega)
    · have hto : findN ns0 tg = -1 := by rcases findN_at (l := ns0) (s := tg) with e | e <;> omega
      refine W_dec (fun hg => ?_) (fun hg => ?_)
      · refine W_and (W_and (W_z (W_chk rfl (W_yes (by omega) ?_))))
        refine guard _ _ (.inl ⟨hto, rfl⟩) _ (fun c1 a1 => ?_) (by omega)
        refine W_unCons (W_asSl (W_z (W_unNil (W_yes (by omega) ?_))))
        refine W_call (hLb acts nm x y v1 v2 v3 _ _ _ a p t nd _ t5 hn (codes_snoc h6 a1) (by simp; omega)) ?_
        rintro _ ⟨r, codes', rfl, r1, r2, r3⟩
        simp only [List.length_append, List.length_cons, List.length_nil] at r3
        refine W_unCons (W_asInt (W_kd (W_unCons (W_asStr (W_unCons (W_asInt (W_kd (W_unCons (W_asInt (W_kd (W_unCons (W_asSl (W_z (W_unNil (W_yes (by omega) ?_)))))))))))))))
        exact next _ _ _ _ _ (.inl ⟨hto, rfl⟩) (by simp only [List.length_append, List.length_cons, List.length_nil]; rw [wrap_id (by omega)]; omega) r1 r2 (by omega)
      · refine W_call (hLb acts nm x y v1 v2 v3 _ _ _ a p t nd _ t5 hn h6 (by omega)) ?_
        rintro _ ⟨r, codes', rfl, r1, r2, r3⟩
        refine W_unCons (W_asInt (W_kd (W_unCons (W_asStr (W_unCons (W_asInt (W_kd (W_unCons (W_asInt (W_kd (W_unCons (W_asSl (W_z (W_unNil (W_yes (by omega) ?_)))))))))))))))
        exact next _ _ _ _ _ (.inl ⟨hto, rfl⟩) (by omega) r1 r2 (by omega)
theorem sts_loop {d : Nat} (hk : 1000 ≤ k) (hF : FindOK G) (hD : DomOK G) (hLb : LbOK G) (hG : GdOK G) (hS : ∀ d', d = d' + 1 → StsOK d' G) {Q : List V → Prop} {K : List V → Option R} {l v1 v2 v3 a p t : List V} {nm : ByteArray} {x y : Int} {ns0 nd : List Nd} {Ko : ByteArray → Int → Int → List V → List V → List V → List V → List V → List V → List V → List V → List V → List V → Option R}
    (hl : ∀ s ∈ l, StateS 2 d s) (hnm : NamesIn ns0 d l) (hl0 : ns0.length ≤ 1000) (hn : NamS a p t nd) (hll : l.length ≤ 4) {M1 M2 : Nat} (hM1 : M1 ≤ 100000) (hM2 : M2 ≤ 100000)
    (hKo : ∀ ns es codes, CoreEq ns ns0 → (∀ e ∈ es, EdgeS ns0 e) → es.length ≤ M1 → CodesS codes → codes.length ≤ M2 → W Q K (Ko nm x y v1 v2 v3 (ns.map Nd.v) es codes a p t (nd.map Nd.v))) :
    ∀ (B A : List V) (j : Nat) (ns : List Nd) (es codes : List V), l = A ++ B → B.length < j → CoreEq ns ns0 → (∀ e ∈ es, EdgeS ns0 e) → es.length + 2 * nszL d B ≤ M1 → CodesS codes → codes.length + 6 * nszL d B ≤ M2 →
      W Q K (l28_0g G k Ko j l A.length nm x y v1 v2 v3 (ns.map Nd.v) es codes a p t (nd.map Nd.v))
  | B, A, 0, ns, es, codes, h1, h2, h3, h4, h5, h6, h7 => by omega
  | [], A, j + 1, ns, es, codes, h1, h2, h3, h4, h5, h6, h7 => by
    show W Q K (b28_0 G k (l28_0g G k Ko j) Ko l A.length nm x y v1 v2 v3 (ns.map Nd.v) es codes a p t (nd.map Nd.v))
    unfold b28_0
    refine W_no (by rw [h1]; simp) ?_
    exact hKo ns es codes h3 h4 (by omega) h6 (by omega)
  | b :: B, A, j + 1, ns, es, codes, h1, h2, h3, h4, h5, h6, h7 => by
    show W Q K (b28_0 G k (l28_0g G k Ko j) Ko l A.length nm x y v1 v2 v3 (ns.map Nd.v) es codes a p t (nd.map Nd.v))
    unfold b28_0
    have hbl : b ∈ l := by rw [h1]; simp
    have hb := hl b hbl
    cases d with
    | zero => exact hb.elim
    | succ d =>
    have hbn := hnm.mem hbl
    rw [nszL_cons] at h5 h7
    have hA4 : A.length + (B.length + 1) ≤ 4 := by rw [h1] at hll; simpa using hll
    obtain ⟨kind, sn, en, ex, tr, kids, rfl, x1, x2, x3, x4, x5, x6, x7, x8, x9, x10, x11, x12, x13⟩ := hb
    have hkb : stKids (.agg [.int .i64 kind, .str sn, .sl 8 en, .sl 8 ex, .sl 5 tr, .sl 7 kids, .int .i64 0]) = kids := rfl
    have hsn : stName (.agg [.int .i64 kind, .str sn, .sl 8 en, .sl 8 ex, .sl 5 tr, .sl 7 kids, .int .i64 0]) = sn := rfl
    rw [hkb] at h5 h7 hbn
    rw [hsn] at hbn
    have hlt : (A.length : Int) < ((l.length : Nat) : Int) := by rw [h1]; simp; omega
    refine W_yes hlt (W_and (W_yes (by omega) (W_yes hlt ?_)))
    refine W_nth (by omega) (fun v hv _ => ?_)
    rw [h1] at hv
    have hvb : v = .agg [.int .i64 kind, .str sn, .sl 8 en, .sl 8 ex, .sl 5 tr, .sl 7 kids, .int .i64 0] := by simp at hv; exact hv.symm
    subst hvb
    (repeat (with_reducible (first | (refine W_unCons ?_) | (refine W_unNil ?_) | (refine W_asInt ?_) | (refine W_asStr ?_) | (refine W_asSl ?_) | (refine W_asAgg ?_) | (refine W_kd ?_) | (refine W_z ?_))))
    have hnl : ns.length = ns0.length := h3.len
    have hS' := hS d rfl
    have hF0 := hF; have hD0 := hD; have hLb0 := hLb; have hG0 := hG
    unfold FindOK at hF; unfold LbOK at hLb
    refine W_call (hF ns sn _ (by omega)) ?_
    rintro _ rfl
    rw [findN_core h3]
    (repeat (with_reducible (first | (refine W_unCons ?_) | (refine W_unNil ?_) | (refine W_asInt ?_) | (refine W_asStr ?_) | (refine W_asSl ?_) | (refine W_asAgg ?_) | (refine W_kd ?_) | (refine W_z ?_))))
    have hat : 1 ≤ findN ns0 sn ∧ findN ns0 sn < ns0.length := by rcases findN_at (l := ns0) (s := sn) with e | e; exact absurd e hbn.1; exact e
    refine W_call (hLb en nm x y v1 v2 v3 _ _ _ a p t nd _ x5.mono hn h6 (by omega)) ?_
    rintro _ ⟨r1, codes1, rfl, r11, r12, r13⟩
    (repeat (with_reducible (first | (refine W_unCons ?_) | (refine W_unNil ?_) | (refine W_asInt ?_) | (refine W_asStr ?_) | (refine W_asSl ?_) | (refine W_asAgg ?_) | (refine W_kd ?_) | (refine W_z ?_))))
    refine W_call (hLb ex nm x y v1 v2 v3 _ _ _ a p t nd _ x6.mono hn r12 (by omega)) ?_
    rintro _ ⟨r2, codes2, rfl, r21, r22, r23⟩
    (repeat (with_reducible (first | (refine W_unCons ?_) | (refine W_unNil ?_) | (refine W_asInt ?_) | (refine W_asStr ?_) | (refine W_asSl ?_) | (refine W_asAgg ?_) | (refine W_kd ?_) | (refine W_z ?_))))
    generalize hate : findN ns0 sn = at_ at *
    refine W_and (W_yes (by omega) (W_yes (by rw [List.length_map]; omega) ?_))
    refine W_nthN (by omega) (fun n1 hn1 => W_nd ?_)
    (repeat (with_reducible (first | (refine W_unCons ?_) | (refine W_unNil ?_) | (refine W_asInt ?_) | (refine W_asStr ?_) | (refine W_asSl ?_) | (refine W_asAgg ?_) | (refine W_kd ?_) | (refine W_z ?_))))
    have e1 : List.set (ns.map Nd.v) (Int.toNat at_) (V.agg [.int .i64 n1.kind, .int .i64 n1.parent, .int .i64 n1.last, .int .i64 n1.init, .int .i64 r1, .int .i64 n1.exit, .str n1.name]) = (ns.set (Int.toNat at_) { n1 with entry := r1 }).map Nd.v := by
      rw [show V.agg [.int .i64 n1.kind, .int .i64 n1.parent, .int .i64 n1.last, .int .i64 n1.init, .int .i64 r1, .int .i64 n1.exit, .str n1.name] = ({ n1 with entry := r1 } : Nd).v from rfl, set_map]
    rw [e1]
    have c1 : CoreEq (ns.set (Int.toNat at_) { n1 with entry := r1 }) ns0 := core_set h3 hn1 rfl
    generalize hns1 : ns.set (Int.toNat at_) { n1 with entry := r1 } = ns1 at *
    have hnl1 : ns1.length = ns0.length := c1.len
    refine W_and (W_yes (by omega) (W_yes (by rw [List.length_map]; omega) ?_))
    refine W_nthN (by omega) (fun n2 hn2 => W_nd ?_)
    (repeat (with_reducible (first | (refine W_unCons ?_) | (refine W_unNil ?_) | (refine W_asInt ?_) | (refine W_asStr ?_) | (refine W_asSl ?_) | (refine W_asAgg ?_) | (refine W_kd ?_) | (refine W_z ?_))))
    have e2 : List.set (ns1.map Nd.v) (Int.toNat at_) (V.agg [.int .i64 n2.kind, .int .i64 n2.parent, .int .i64 n2.last, .int .i64 n2.init, .int .i64 n2.entry, .int .i64 r2, .str n2.name]) = (ns1.set (Int.toNat at_) { n2 with exit := r2 }).map Nd.v := by
      rw [show V.agg [.int .i64 n2.kind, .int .i64 n2.parent, .int .i64 n2.last, .int .i64 n2.init, .int .i64 n2.entry, .int .i64 r2, .str n2.name] = ({ n2 with exit := r2 } : Nd).v from rfl, set_map]
    rw [e2]
    have c2 : CoreEq (ns1.set (Int.toNat at_) { n2 with exit := r2 }) ns0 := core_set c1 hn2 rfl
    generalize hns2 : ns1.set (Int.toNat at_) { n2 with exit := r2 } = ns2 at *
    unfold l28_2
    refine st_trans (m1 := es.length + 2) (m2 := codes2.length + 4) hF0 hD0 hLb0 hG0 c2 hl0 hn hat x7 x8 (by omega) (by omega) ?_ k 0 es codes2 (by omega) (by omega) (by omega) h4 (by omega) r22 (by omega)
    intro es3 codes3 s1 s2 s3 s4
    refine W_asSl ?_
    refine W_call (hS' kids nm x y v1 v2 v3 es3 codes3 a p t ns2 ns0 nd _ x10 hbn.2 c2 hl0 s1 (by omega) s3 (by omega) hn x9) ?_
    rintro _ ⟨ns4, es4, codes4, rfl, u1, u2, u3, u4, u5⟩
    (repeat (with_reducible (first | (refine W_unCons ?_) | (refine W_unNil ?_) | (refine W_asInt ?_) | (refine W_asStr ?_) | (refine W_asSl ?_) | (refine W_asAgg ?_) | (refine W_kd ?_) | (refine W_z ?_))))
    rw [wrap_id (n := (A.length : Int) + 1) (by omega)]
    have e := sts_loop hk hF0 hD0 hLb0 hG0 hS hl hnm hl0 hn hll hM1 hM2 hKo B (A ++ [.agg [.int .i64 kind, .str sn, .sl 8 en, .sl 8 ex, .sl 5 tr, .sl 7 kids, .int .i64 0]]) j ns4 es4 codes4 (by rw [h1]; simp) (by simp at h2; omega) u1 u2 (by omega) u4 (by omega)
    simp only [List.length_append, List.length_cons, List.length_nil, Nat.zero_add, Int.natCast_add, Int.natCast_one] at e
    exact e
theorem sts_ok {d : Nat} (hk : 1000 ≤ k) (hF : FindOK G) (hD : DomOK G) (hLb : LbOK G) (hG : GdOK G) (hS : ∀ d', d = d' + 1 → StsOK d' G) : StsOK d (fun _ args (K : List V → Option R) => g28 G k args K) := by
  intro l nm x y v1 v2 v3 es codes a p t ns ns0 nd K h1 h2 h3 h4 h5 h6 h7 h8 h9 h10
  show W _ K (f28 G k l nm x y v1 v2 v3 (ns.map Nd.v) es codes a p t (nd.map Nd.v) K)
  unfold f28 l28_0
  exact sts_loop (M1 := es.length + 2 * nszL d l) (M2 := codes.length + 6 * nszL d l) hk hF hD hLb hG hS h1 h2 h4 h9 h10 h6 h8 (fun ns' es' codes' k1 k2 k3 k4 k5 => W_ret ⟨_, _, _, rfl, k1, k2, k3, k4, k5⟩) l [] k ns es codes rfl (by omega) h3 h5 (Nat.le_refl _) h7 (Nat.le_refl _)
/-- A table of a chart by numbers. -/
def TableS (v : V) : Prop := ∃ nm st fu vars ports timers ns ns0 es codes, v = .agg [.str nm, .int .i64 st, .int .i64 fu, .sl 1 vars, .sl 1 ports, .sl 1 timers, .sl 7 (ns.map Nd.v), .sl 6 es, .sl 1 codes] ∧ IntsS vars ∧ StrsS 100 ports ∧ StrsS 100 timers ∧
  CoreEq ns ns0 ∧ (∃ states, ns0 = ndsOf states ∧ states ≠ [] ∧ (∀ s ∈ states, StateS 2 3 s ∧ kindV s ≤ 2)) ∧ ns0.length ≤ 10 ∧ (∀ e ∈ es, EdgeS ns0 e) ∧ es.length ≤ 18 ∧ CodesS codes ∧ codes.length ≤ 54
def TabOK (G : ORC R) : Prop := ∀ (c : V) (K : List V → Option R), ChartS c → W (fun o => ∃ v, o = [v] ∧ TableS v) K (G 17 [c] K)
theorem vars_loop {Q : List V → Prop} {K : List V → Option R} {Ko : ByteArray → Int → Int → List V → List V → List V → List V → Int → ByteArray → Int → Int → List V → List V → List V → List V → List V → List V → ByteArray → Int → Int → List V → List V → List V → List V → List V → List V → List V → List V → List V → List V → Option R}
    {s1 s2 s3 : ByteArray} {z1 z2 z3 z4 z5 z6 z7 : Int} {l q1 q2 q3 q4 q5 q6 q7 q8 q9 r1 r2 r3 r4 r5 r6 r7 r8 r9 : List V} (hl : NamedS 100 l)
    (hKo : ∀ vs, IntsS vs → W Q K (Ko s1 z1 z2 l q1 q2 q3 z3 s2 z4 z5 q4 q5 q6 q7 q8 q9 s3 z6 z7 vs r1 r2 r3 r4 r5 r6 r7 r8 r9)) :
    ∀ (j : Nat) (i : Int) (vs : List V), 0 ≤ i → l.length - i < j → i ≤ l.length → vs.length = i.toNat → IntsS vs → W Q K (l17_0g G k Ko j i s1 z1 z2 l q1 q2 q3 z3 s2 z4 z5 q4 q5 q6 q7 q8 q9 s3 z6 z7 vs r1 r2 r3 r4 r5 r6 r7 r8 r9)
  | 0, i, vs, h1, h2, h3, h4, h5 => by omega
  | j + 1, i, vs, h1, h2, h3, h4, h5 => by
    show W Q K (b17_0 G k (l17_0g G k Ko j) Ko i s1 z1 z2 l q1 q2 q3 z3 s2 z4 z5 q4 q5 q6 q7 q8 q9 s3 z6 z7 vs r1 r2 r3 r4 r5 r6 r7 r8 r9)
    unfold b17_0
    have hll := hl.1
    refine W_dec (fun h => ?_) (fun h => hKo vs h5)
    refine W_and (W_yes h1 (W_yes h (W_nth (by omega) (fun v _ hv => ?_))))
    obtain ⟨s, n, rfl, _, hn⟩ := hl.2 v hv
    refine W_asAgg (W_unCons (W_unCons (W_unCons (W_unNil (W_asInt (W_kd (W_yes (by omega) ?_)))))))
    rw [wrap_id (n := i + 1) (by omega)]
    exact vars_loop hl hKo j (i + 1) _ (by omega) (by omega) (by omega) (by simp; omega) (mem_snoc h5 ⟨n, rfl, hn⟩)
theorem tab_ok (hk : 1000 ≤ k) (hNm : NamesC G) (hT : TextsOK G) (hN : NodesOK G) (hS : StsOK 3 G) : TabOK (fun _ args (K : List V → Option R) => g17 G k args K) := by
  intro c K hc
  obtain ⟨nm, st, fu, vars, ports, timers, states, rfl, x1, x2, x3, x4, x5, x6, x7, x8, x9, x10, x11, x12⟩ := hc
  show W _ K (f17 G k nm st fu vars ports timers states 0 K)
  unfold f17
  unfold TextsOK at hT
  refine W_call (hNm nm st fu 0 vars ports timers states _ x6 x7 x8 x11 (by omega)) ?_
  rintro _ ⟨p, q, t, rfl, hn⟩
  (repeat (with_reducible (first | (refine W_unCons ?_) | (refine W_unNil ?_) | (refine W_asInt ?_) | (refine W_asStr ?_) | (refine W_asSl ?_) | (refine W_asAgg ?_) | (refine W_kd ?_) | (refine W_z ?_))))
  refine W_call (hT _ _ x7) ?_
  rintro _ ⟨q2, rfl, hq2⟩
  (repeat (with_reducible (first | (refine W_unCons ?_) | (refine W_unNil ?_) | (refine W_asInt ?_) | (refine W_asStr ?_) | (refine W_asSl ?_) | (refine W_asAgg ?_) | (refine W_kd ?_) | (refine W_z ?_))))
  refine W_call (hT _ _ x8) ?_
  rintro _ ⟨q3, rfl, hq3⟩
  (repeat (with_reducible (first | (refine W_unCons ?_) | (refine W_unNil ?_) | (refine W_asInt ?_) | (refine W_asStr ?_) | (refine W_asSl ?_) | (refine W_asAgg ?_) | (refine W_kd ?_) | (refine W_z ?_))))
  refine W_call (hN nm st fu vars ports timers states 0 _ x11 (by omega)) ?_
  rintro _ rfl
  (repeat (with_reducible (first | (refine W_unCons ?_) | (refine W_unNil ?_) | (refine W_asInt ?_) | (refine W_asStr ?_) | (refine W_asSl ?_) | (refine W_asAgg ?_) | (refine W_kd ?_) | (refine W_z ?_))))
  unfold l17_0
  refine vars_loop x6 ?_ k 0 [] (by omega) (by have := x6.1; omega) (by omega) rfl (by intro v hv; cases hv)
  intro vs hvs
  have hlen := ndsOf_len (states := states)
  refine W_call (hS states nm st fu vs q2 q3 [] [] p q t (ndsOf states) (ndsOf states) (ndsOf states) _ (fun s hs => (x11 s hs).1) namesIn_ndsOf rfl (by omega) (by intro e he; cases he) (by simp; omega) (by intro e he; cases he) (by simp; omega) hn (by omega)) ?_
  rintro _ ⟨ns, es, codes, rfl, u1, u2, u3, u4, u5⟩
  simp only [List.length_nil, Nat.zero_add] at u3 u5
  (repeat (with_reducible (first | (refine W_unCons ?_) | (refine W_unNil ?_) | (refine W_asInt ?_) | (refine W_asStr ?_) | (refine W_asSl ?_) | (refine W_asAgg ?_) | (refine W_kd ?_) | (refine W_z ?_))))
  exact W_ret ⟨_, rfl, nm, st, fu, vs, q2, q3, ns, ndsOf states, es, codes, rfl, hvs, hq2, hq3, u1, ⟨states, rfl, x10, x11⟩, by omega, u2, by omega, u4, by omega⟩
end
end Go.Proofs.Ytjbppcgcblfkoaa.Vm
open Go Go.VM
set_option linter.unusedVariables false
set_option maxRecDepth 100000
set_option maxHeartbeats 4000000
namespace Go.Proofs.Ytjbppcgcblfkoaa.Vm
/-! ### cotillion/cotillionlaw15.table: function 7 -/
def L7 {R : Type} (_ : ORC R) (_ : Nat) : Nat → St → (Ex → St → Option R) → Option R := fun _ _ _ => none
def f7 {R : Type} (G : ORC R) (k : Nat) (al1 : List V) (K : List V → Option R) : Option R :=
  (G 18 [(.str ⟨#[99]⟩), (.int .i64 1), (.sl 1 al1), (.int .i64 0)] fun o2 => (unCons o2 fun c3 r4 => (V.asAgg c3 fun l5 => (unCons l5 fun c6 r7 => (V.asStr c6 fun s8 => (unCons r7 fun c9 r10 => (V.asInt c9 fun k11 n12 => (bif decide (k11 = .i64) then (unCons r10 fun c13 r14 => (V.asInt c13 fun k15 n16 => (bif decide (k15 = .i64) then (unCons r14 fun c17 r18 => (V.asSl c17 fun z19 l20 => (bif (z19 == 3) then (unCons r18 fun c21 r22 => (V.asSl c21 fun z23 l24 => (bif (z23 == 3) then (unCons r22 fun c25 r26 => (V.asSl c25 fun z27 l28 => (bif (z27 == 3) then (unCons r26 fun c29 r30 => (V.asSl c29 fun z31 l32 => (bif (z31 == 7) then (unCons r30 fun c33 r34 => (V.asInt c33 fun k35 n36 => (bif decide (k35 = .i64) then (unNil r34 (unCons r4 fun c37 r38 => (V.asInt c37 fun k39 n40 => (bif decide (k39 = .i64) then (unNil r38 (G 17 [(.agg [(.str s8), (.int .i64 n12), (.int .i64 n16), (.sl 3 l20), (.sl 3 l24), (.sl 3 l28), (.sl 7 l32), (.int .i64 n36)])] fun o41 => (unCons o41 fun c42 r43 => (V.asAgg c42 fun l44 => (unCons l44 fun c45 r46 => (V.asStr c45 fun s47 => (unCons r46 fun c48 r49 => (V.asInt c48 fun k50 n51 => (bif decide (k50 = .i64) then (unCons r49 fun c52 r53 => (V.asInt c52 fun k54 n55 => (bif decide (k54 = .i64) then (unCons r53 fun c56 r57 => (V.asSl c56 fun z58 l59 => (bif (z58 == 1) then (unCons r57 fun c60 r61 => (V.asSl c60 fun z62 l63 => (bif (z62 == 1) then (unCons r61 fun c64 r65 => (V.asSl c64 fun z66 l67 => (bif (z66 == 1) then (unCons r65 fun c68 r69 => (V.asSl c68 fun z70 l71 => (bif (z70 == 7) then (unCons r69 fun c72 r73 => (V.asSl c72 fun z74 l75 => (bif (z74 == 6) then (unCons r73 fun c76 r77 => (V.asSl c76 fun z78 l79 => (bif (z78 == 1) then (unNil r77 (unNil r43 (K [(.agg [(.str s47), (.int .i64 n51), (.int .i64 n55), (.sl 1 l59), (.sl 1 l63), (.sl 1 l67), (.sl 7 l71), (.sl 6 l75), (.sl 1 l79)])]))) else none))) else none))) else none))) else none))) else none))) else none))) else none))) else none))))))))) else none)))) else none))) else none))) else none))) else none))) else none))) else none))) else none))))))))
theorem f7_is {R : Type} (G : ORC R) (k : Nat) (K : List V → Option R) (al1 : List V) :
    callF (TAB.env 7) G (L7 G k) Try.f7 S7 [(.sl 1 al1)] K = f7 G k al1 K := by kernel_rfl
theorem lo7 : loopsOf (bodyOf Try.f7) = [] := by kernel_rfl
theorem la7 {R : Type} (G : ORC R) (k : Nat) : LoopsAre (TAB.env 7) G (L7 G k) (bodyOf Try.f7) :=
  loopsAre_of (by rw [lo7]; intro p hp; cases hp)
def g7 {R : Type} (G : ORC R) (k : Nat) (args : List V) (K : List V → Option R) : Option R := match args with
  | [(.sl 1 al1)] => f7 G k al1 K
  | _ => none
theorem s7 {R : Type} {G : ORC R} {k : Nat} (hG : Sound Try.prog TAB G) (args : List V) (K : List V → Option R) (r : R) (h : g7 G k args K = some r) : ∃ o, CallOK Try.prog TAB.env 7 args o ∧ K o = some r := by
  unfold g7 at h
  split at h
  · rw [← f7_is] at h
    exact callF_sound TAB_chk MO hG Try.func7 (sg := S7) (by kernel_rfl) (by kernel_rfl) (la7 G k) h
  · cases h
end Go.Proofs.Ytjbppcgcblfkoaa.Vm
open Go Go.VM
set_option linter.unusedVariables false
set_option maxRecDepth 100000
set_option maxHeartbeats 4000000
namespace Go.Proofs.Ytjbppcgcblfkoaa.Vm
/-! ### cotillion/flat.In: function 20 -/
def L20 {R : Type} (_ : ORC R) (_ : Nat) : Nat → St → (Ex → St → Option R) → Option R := fun _ _ _ => none
def f20 {R : Type} (G : ORC R) (k : Nat) (al1 : List V) (ai2 ai3 : Int) (K : List V → Option R) : Option R :=
  (G 34 [(.sl 7 al1), (.int .i64 ai2)] fun o4 => (unCons o4 fun c5 r6 => (V.asBool c5 fun b7 => (unNil r6 (bif b7 then (G 34 [(.sl 7 al1), (.int .i64 ai3)] fun o8 => (unCons o8 fun c9 r10 => (V.asBool c9 fun b11 => (unNil r10 (bif b11 then (bif (decide (ai2 ≥ ai3)) then (bif ((decide (0 ≤ ai3)) && (decide (ai3 < ((List.length al1 : Nat) : Int)))) then (nthK al1 (Int.toNat ai3) fun e12 => (V.asAgg e12 fun l13 => (unCons l13 fun c14 r31 => (unCons r31 fun c15 r32 => (unCons r32 fun c16 r33 => (unCons r33 fun c17 r34 => (unCons r34 fun c18 r35 => (unCons r35 fun c19 r36 => (unCons r36 fun c20 r37 => (unNil r37 (V.asInt c16 fun k29 n30 => (bif decide (k29 = .i64) then (K [(.bool (decide (ai2 ≤ n30)))]) else none)))))))))))) else none) else (K [(.bool false)])) else (K [(.bool false)])))))) else (K [(.bool false)]))))))
theorem f20_is {R : Type} (G : ORC R) (k : Nat) (K : List V → Option R) (al1 : List V) (ai2 ai3 : Int) :
    callF (TAB.env 20) G (L20 G k) Try.f20 S20 [(.sl 7 al1), (.int .i64 ai2), (.int .i64 ai3)] K = f20 G k al1 ai2 ai3 K := by kernel_rfl
theorem lo20 : loopsOf (bodyOf Try.f20) = [] := by kernel_rfl
theorem la20 {R : Type} (G : ORC R) (k : Nat) : LoopsAre (TAB.env 20) G (L20 G k) (bodyOf Try.f20) :=
  loopsAre_of (by rw [lo20]; intro p hp; cases hp)
def g20 {R : Type} (G : ORC R) (k : Nat) (args : List V) (K : List V → Option R) : Option R := match args with
  | [(.sl 7 al1), (.int .i64 ai2), (.int .i64 ai3)] => f20 G k al1 ai2 ai3 K
  | _ => none
theorem s20 {R : Type} {G : ORC R} {k : Nat} (hG : Sound Try.prog TAB G) (args : List V) (K : List V → Option R) (r : R) (h : g20 G k args K = some r) : ∃ o, CallOK Try.prog TAB.env 20 args o ∧ K o = some r := by
  unfold g20 at h
  split at h
  · rw [← f20_is] at h
    exact callF_sound TAB_chk MO hG Try.func20 (sg := S20) (by kernel_rfl) (by kernel_rfl) (la20 G k) h
  · cases h
end Go.Proofs.Ytjbppcgcblfkoaa.Vm
open Go Go.VM
set_option linter.unusedVariables false
set_option maxRecDepth 100000
set_option maxHeartbeats 4000000
namespace Go.Proofs.Ytjbppcgcblfkoaa.Vm
/-! ### cotillion/flat.is: function 34 -/
def L34 {R : Type} (_ : ORC R) (_ : Nat) : Nat → St → (Ex → St → Option R) → Option R := fun _ _ _ => none
def f34 {R : Type} (G : ORC R) (k : Nat) (al1 : List V) (ai2 : Int) (K : List V → Option R) : Option R :=
  (bif (decide (ai2 ≥ 0)) then (K [(.bool (decide (ai2 < ((List.length al1 : Nat) : Int))))]) else (K [(.bool false)]))
theorem f34_is {R : Type} (G : ORC R) (k : Nat) (K : List V → Option R) (al1 : List V) (ai2 : Int) :
    callF (TAB.env 34) G (L34 G k) Try.f34 S34 [(.sl 7 al1), (.int .i64 ai2)] K = f34 G k al1 ai2 K := by kernel_rfl
theorem lo34 : loopsOf (bodyOf Try.f34) = [] := by kernel_rfl
theorem la34 {R : Type} (G : ORC R) (k : Nat) : LoopsAre (TAB.env 34) G (L34 G k) (bodyOf Try.f34) :=
  loopsAre_of (by rw [lo34]; intro p hp; cases hp)
def g34 {R : Type} (G : ORC R) (k : Nat) (args : List V) (K : List V → Option R) : Option R := match args with
  | [(.sl 7 al1), (.int .i64 ai2)] => f34 G k al1 ai2 K
  | _ => none
theorem s34 {R : Type} {G : ORC R} {k : Nat} (hG : Sound Try.prog TAB G) (args : List V) (K : List V → Option R) (r : R) (h : g34 G k args K = some r) : ∃ o, CallOK Try.prog TAB.env 34 args o ∧ K o = some r := by
  unfold g34 at h
  split at h
  · rw [← f34_is] at h
    exact callF_sound TAB_chk MO hG Try.func34 (sg := S34) (by kernel_rfl) (by kernel_rfl) (la34 G k) h
  · cases h
end Go.Proofs.Ytjbppcgcblfkoaa.Vm
open Go Go.VM
set_option linter.unusedVariables false
set_option maxRecDepth 100000
set_option maxHeartbeats 4000000
namespace Go.Proofs.Ytjbppcgcblfkoaa.Vm
/-! ### cotillion/cotillionref15.Pair: function 9 -/
def L9 {R : Type} (_ : ORC R) (_ : Nat) : Nat → St → (Ex → St → Option R) → Option R := fun _ _ _ => none
def f9 {R : Type} (G : ORC R) (k : Nat) (al1 : List V) (ai2 ai3 : Int) (ai4 ai5 ai6 : Int) (as7 : ByteArray) (ai8 ai9 : Int) (ai10 ai11 ai12 : Int) (as13 : ByteArray) (K : List V → Option R) : Option R :=
  (bif (decide (ai4 ≥ 0)) then (bif (decide (ai10 ≥ 0)) then (G 19 [(.sl 7 al1), (.int .i64 ai4), (.int .i64 ai10)] fun o14 => (unCons o14 fun c15 r16 => (V.asBool c15 fun b17 => (unNil r16 (bif b17 then (K [(.bool true)]) else (G 19 [(.sl 7 al1), (.int .i64 ai10), (.int .i64 ai4)] fun o18 => (unCons o18 fun c19 r20 => (V.asBool c19 fun b21 => (unNil r20 (K [(.bool b21)])))))))))) else (K [(.bool false)])) else (K [(.bool false)]))
theorem f9_is {R : Type} (G : ORC R) (k : Nat) (K : List V → Option R) (al1 : List V) (ai2 ai3 : Int) (ai4 ai5 ai6 : Int) (as7 : ByteArray) (ai8 ai9 : Int) (ai10 ai11 ai12 : Int) (as13 : ByteArray) :
    callF (TAB.env 9) G (L9 G k) Try.f9 S9 [(.sl 7 al1), (.agg [(.int .i64 ai2), (.int .i64 ai3), (.int .i64 ai4), (.int .i64 ai5), (.int .i64 ai6), (.str as7)]), (.agg [(.int .i64 ai8), (.int .i64 ai9), (.int .i64 ai10), (.int .i64 ai11), (.int .i64 ai12), (.str as13)])] K = f9 G k al1 ai2 ai3 ai4 ai5 ai6 as7 ai8 ai9 ai10 ai11 ai12 as13 K := by kernel_rfl
theorem lo9 : loopsOf (bodyOf Try.f9) = [] := by kernel_rfl
theorem la9 {R : Type} (G : ORC R) (k : Nat) : LoopsAre (TAB.env 9) G (L9 G k) (bodyOf Try.f9) :=
  loopsAre_of (by rw [lo9]; intro p hp; cases hp)
def g9 {R : Type} (G : ORC R) (k : Nat) (args : List V) (K : List V → Option R) : Option R := match args with
  | [(.sl 7 al1), (.agg [(.int .i64 ai2), (.int .i64 ai3), (.int .i64 ai4), (.int .i64 ai5), (.int .i64 ai6), (.str as7)]), (.agg [(.int .i64 ai8), (.int .i64 ai9), (.int .i64 ai10), (.int .i64 ai11), (.int .i64 ai12), (.str as13)])] => f9 G k al1 ai2 ai3 ai4 ai5 ai6 as7 ai8 ai9 ai10 ai11 ai12 as13 K
  | _ => none
theorem s9 {R : Type} {G : ORC R} {k : Nat} (hG : Sound Try.prog TAB G) (args : List V) (K : List V → Option R) (r : R) (h : g9 G k args K = some r) : ∃ o, CallOK Try.prog TAB.env 9 args o ∧ K o = some r := by
  unfold g9 at h
  split at h
  · rw [← f9_is] at h
    exact callF_sound TAB_chk MO hG Try.func9 (sg := S9) (by kernel_rfl) (by kernel_rfl) (la9 G k) h
  · cases h
end Go.Proofs.Ytjbppcgcblfkoaa.Vm
open Go Go.VM
set_option linter.unusedVariables false
set_option maxRecDepth 100000
set_option maxHeartbeats 4000000
namespace Go.Proofs.Ytjbppcgcblfkoaa.Vm
/-! ### cotillion/clash.Pair: function 10 -/
def L10 {R : Type} (_ : ORC R) (_ : Nat) : Nat → St → (Ex → St → Option R) → Option R := fun _ _ _ => none
def f10 {R : Type} (G : ORC R) (k : Nat) (al1 : List V) (ai2 ai3 : Int) (ai4 ai5 ai6 : Int) (as7 : ByteArray) (ai8 ai9 : Int) (ai10 ai11 ai12 : Int) (as13 : ByteArray) (K : List V → Option R) : Option R :=
  (bif (ai4 != (-1)) then (bif (ai10 != (-1)) then (G 20 [(.sl 7 al1), (.int .i64 ai4), (.int .i64 ai10)] fun o14 => (unCons o14 fun c15 r16 => (V.asBool c15 fun b17 => (unNil r16 (bif b17 then (K [(.bool true)]) else (G 20 [(.sl 7 al1), (.int .i64 ai10), (.int .i64 ai4)] fun o18 => (unCons o18 fun c19 r20 => (V.asBool c19 fun b21 => (unNil r20 (K [(.bool b21)])))))))))) else (K [(.bool false)])) else (K [(.bool false)]))
theorem f10_is {R : Type} (G : ORC R) (k : Nat) (K : List V → Option R) (al1 : List V) (ai2 ai3 : Int) (ai4 ai5 ai6 : Int) (as7 : ByteArray) (ai8 ai9 : Int) (ai10 ai11 ai12 : Int) (as13 : ByteArray) :
    callF (TAB.env 10) G (L10 G k) Try.f10 S10 [(.sl 7 al1), (.agg [(.int .i64 ai2), (.int .i64 ai3), (.int .i64 ai4), (.int .i64 ai5), (.int .i64 ai6), (.str as7)]), (.agg [(.int .i64 ai8), (.int .i64 ai9), (.int .i64 ai10), (.int .i64 ai11), (.int .i64 ai12), (.str as13)])] K = f10 G k al1 ai2 ai3 ai4 ai5 ai6 as7 ai8 ai9 ai10 ai11 ai12 as13 K := by kernel_rfl
theorem lo10 : loopsOf (bodyOf Try.f10) = [] := by kernel_rfl
theorem la10 {R : Type} (G : ORC R) (k : Nat) : LoopsAre (TAB.env 10) G (L10 G k) (bodyOf Try.f10) :=
  loopsAre_of (by rw [lo10]; intro p hp; cases hp)
def g10 {R : Type} (G : ORC R) (k : Nat) (args : List V) (K : List V → Option R) : Option R := match args with
  | [(.sl 7 al1), (.agg [(.int .i64 ai2), (.int .i64 ai3), (.int .i64 ai4), (.int .i64 ai5), (.int .i64 ai6), (.str as7)]), (.agg [(.int .i64 ai8), (.int .i64 ai9), (.int .i64 ai10), (.int .i64 ai11), (.int .i64 ai12), (.str as13)])] => f10 G k al1 ai2 ai3 ai4 ai5 ai6 as7 ai8 ai9 ai10 ai11 ai12 as13 K
  | _ => none
theorem s10 {R : Type} {G : ORC R} {k : Nat} (hG : Sound Try.prog TAB G) (args : List V) (K : List V → Option R) (r : R) (h : g10 G k args K = some r) : ∃ o, CallOK Try.prog TAB.env 10 args o ∧ K o = some r := by
  unfold g10 at h
  split at h
  · rw [← f10_is] at h
    exact callF_sound TAB_chk MO hG Try.func10 (sg := S10) (by kernel_rfl) (by kernel_rfl) (la10 G k) h
  · cases h
end Go.Proofs.Ytjbppcgcblfkoaa.Vm
open Go Go.VM
set_option linter.unusedVariables false
set_option maxRecDepth 100000
set_option maxHeartbeats 4000000
namespace Go.Proofs.Ytjbppcgcblfkoaa.Vm
/-! ### cotillion/clash.Matrix: function 8 -/
def P8_2h : Pat := { tmps := unds [.var (.sl 7) .ro, .var (.sl 6) .ro, .undef, .undef, .undef, .var (.sl 1) (.own false), .undef, .stat (.one (.ptr 7 0) .pt), .var (.sl 1) (.own true), .undef, .undef, .var (.sl 6) .ro, .var (.int .i64) .pr, .var (.int .i64) .pr] 6 (unds [.var (.sl 6) .ro, .var (.int .i64) .pr, .var (.int .i64) .pr] 18 []), boxes := nons [] 7 (nons [some [.var (.int .i64) .pr false, .var (.int .i64) .pr false, .var (.int .i64) .pr false, .var (.int .i64) .pr false, .var (.int .i64) .pr false, .var .str .pr false]] 33 []) }
def P8_2x : Pat := { tmps := unds [.var (.sl 7) .ro, .var (.sl 6) .ro, .undef, .undef, .undef, .var (.sl 1) (.own false), .undef, .undef, .var (.sl 1) (.own true), .undef, .undef, .var (.sl 6) .ro, .var (.int .i64) .pr, .var (.int .i64) .pr] 27 [], boxes := nons [] 41 [] }
def b8_2 {R : Type} (G : ORC R) (k : Nat) (X : List V → List V → List V → List V → List V → Int → Int → List V → Int → Int → Int → Int → Int → Int → Int → ByteArray → Option R) (Ko : List V → List V → List V → List V → List V → Int → Int → Option R) (xl35 xl36 : List V) (xl37 xl38 xl39 : List V) (xi40 xi41 : Int) (xl42 : List V) (xi43 xi44 : Int) (xi45 xi46 : Int) (xi47 xi48 xi49 : Int) (xs50 : ByteArray) : Option R :=
  (bif (decide (xi44 < xi43)) then (bif ((decide (0 ≤ xi44)) && (decide (xi44 < ((List.length xl42 : Nat) : Int)))) then (nthK xl42 (Int.toNat xi44) fun e51 => (V.asAgg e51 fun l52 => (unCons l52 fun c53 r82 => (unCons r82 fun c54 r83 => (unCons r83 fun c55 r84 => (unCons r84 fun c56 r85 => (unCons r85 fun c57 r86 => (unCons r86 fun c58 r87 => (unNil r87 (V.asInt c53 fun k66 n67 => (bif decide (k66 = .i64) then (V.asInt c54 fun k68 n69 => (bif decide (k68 = .i64) then (V.asInt c55 fun k70 n71 => (bif decide (k70 = .i64) then (V.asInt c56 fun k72 n73 => (bif decide (k72 = .i64) then (V.asInt c57 fun k74 n75 => (bif decide (k74 = .i64) then (V.asStr c58 fun s76 => (G 10 [(.sl 7 xl35), (.agg [(.int .i64 xi45), (.int .i64 xi46), (.int .i64 xi47), (.int .i64 xi48), (.int .i64 xi49), (.str xs50)]), (.agg [(.int .i64 n67), (.int .i64 n69), (.int .i64 n71), (.int .i64 n73), (.int .i64 n75), (.str s76)])] fun o77 => (unCons o77 fun c78 r79 => (V.asBool c78 fun b80 => (unNil r79 (bif ((decide (0 ≤ xi44)) && (decide (xi44 < ((List.length xl38 : Nat) : Int)))) then (nthK xl38 (Int.toNat xi44) fun e81 => (X xl35 xl36 xl37 (List.set xl38 (Int.toNat xi44) (.bool b80)) xl39 xi40 xi41 xl42 xi43 (IntKind.i64.wrap (xi44 + 1)) xi45 xi46 xi47 xi48 xi49 xs50)) else none)))))) else none)) else none)) else none)) else none)) else none))))))))))) else none) else (Ko xl35 xl36 xl37 xl38 xl39 xi40 xi41))
def l8_2g {R : Type} (G : ORC R) (k : Nat) (Ko : List V → List V → List V → List V → List V → Int → Int → Option R) : Nat → List V → List V → List V → List V → List V → Int → Int → List V → Int → Int → Int → Int → Int → Int → Int → ByteArray → Option R
  | 0 => fun _ _ _ _ _ _ _ _ _ _ _ _ _ _ _ _ => none
  | j + 1 => b8_2 G k (l8_2g G k Ko j) Ko
def l8_2 {R : Type} (G : ORC R) (k : Nat) (xl35 xl36 : List V) (xl37 xl38 xl39 : List V) (xi40 xi41 : Int) (xl42 : List V) (xi43 xi44 : Int) (xi45 xi46 : Int) (xi47 xi48 xi49 : Int) (xs50 : ByteArray) (Ko : List V → List V → List V → List V → List V → Int → Int → Option R) : Option R := l8_2g G k Ko k xl35 xl36 xl37 xl38 xl39 xi40 xi41 xl42 xi43 xi44 xi45 xi46 xi47 xi48 xi49 xs50
def P8_0h : Pat := { tmps := unds [.var (.sl 7) .ro, .var (.sl 6) .ro, .undef, .undef, .undef, .var (.sl 1) (.own false)] 5 (unds [.var (.sl 6) .ro, .var (.int .i64) .pr, .var (.int .i64) .pr] 27 []), boxes := nons [] 41 [] }
def P8_0x : Pat := { tmps := unds [] 5 (unds [.var (.sl 1) (.own false)] 35 []), boxes := nons [] 41 [] }
def b8_0 {R : Type} (G : ORC R) (k : Nat) (X : List V → List V → List V → List V → Int → Int → Option R) (Ko : List V → Option R) (xl3 xl4 : List V) (xl5 xl6 : List V) (xi7 xi8 : Int) : Option R :=
  (bif (decide (xi8 < xi7)) then (bif ((decide (0 ≤ xi8)) && (decide (xi8 < ((List.length xl6 : Nat) : Int)))) then (nthK xl6 (Int.toNat xi8) fun e9 => (V.asAgg e9 fun l10 => (unCons l10 fun c11 r42 => (unCons r42 fun c12 r43 => (unCons r43 fun c13 r44 => (unCons r44 fun c14 r45 => (unCons r45 fun c15 r46 => (unCons r46 fun c16 r47 => (unNil r47 (V.asInt c11 fun k24 n25 => (bif decide (k24 = .i64) then (V.asInt c12 fun k26 n27 => (bif decide (k26 = .i64) then (V.asInt c13 fun k28 n29 => (bif decide (k28 = .i64) then (V.asInt c14 fun k30 n31 => (bif decide (k30 = .i64) then (V.asInt c15 fun k32 n33 => (bif decide (k32 = .i64) then (V.asStr c16 fun s34 => (bif (((decide (0 ≤ ((List.length xl4 : Nat) : Int))) && (decide (((List.length xl4 : Nat) : Int) ≤ ((List.length xl4 : Nat) : Int)))) && (decide (((List.length xl4 : Nat) : Int) ≤ 1073741824))) then (l8_2 G k xl3 xl4 xl5 (List.replicate (Int.toNat ((List.length xl4 : Nat) : Int)) (.bool false)) xl6 xi7 xi8 xl4 ((List.length xl4 : Nat) : Int) 0 n25 n27 n29 n31 n33 s34 (fun yl35 yl36 yl37 yl38 yl39 yi40 yi41 => (bif (decide (List.length yl37 + 1 ≤ 1073741824)) then (X yl35 yl36 (yl37 ++ [(.sl 1 yl38)]) yl39 yi40 (IntKind.i64.wrap (yi41 + 1))) else none))) else none)) else none)) else none)) else none)) else none)) else none))))))))))) else none) else (Ko xl5))
def l8_0g {R : Type} (G : ORC R) (k : Nat) (Ko : List V → Option R) : Nat → List V → List V → List V → List V → Int → Int → Option R
  | 0 => fun _ _ _ _ _ _ => none
  | j + 1 => b8_0 G k (l8_0g G k Ko j) Ko
def l8_0 {R : Type} (G : ORC R) (k : Nat) (xl3 xl4 : List V) (xl5 xl6 : List V) (xi7 xi8 : Int) (Ko : List V → Option R) : Option R := l8_0g G k Ko k xl3 xl4 xl5 xl6 xi7 xi8
def rd8_2 {R : Type} (G : ORC R) (k : Nat) (K : Ex → St → Option R) (j : Nat) (vs : List V) : Option R := match vs with
  | [(.sl 7 xl35), (.sl 6 xl36), (.sl 1 xl37), (.sl 1 xl38), (.sl 6 xl39), (.int .i64 xi40), (.int .i64 xi41), (.sl 6 xl42), (.int .i64 xi43), (.int .i64 xi44), (.int .i64 xi45), (.int .i64 xi46), (.int .i64 xi47), (.int .i64 xi48), (.int .i64 xi49), (.str xs50)] => l8_2g G k (fun yl49 yl50 yl51 yl52 yl53 yi54 yi55 => K .normal (P8_2x.inst [(.sl 7 yl49), (.sl 6 yl50), (.sl 1 yl51), (.sl 1 yl52), (.sl 6 yl53), (.int .i64 yi54), (.int .i64 yi55)])) j xl35 xl36 xl37 xl38 xl39 xi40 xi41 xl42 xi43 xi44 xi45 xi46 xi47 xi48 xi49 xs50
  | _ => none
def rd8_0 {R : Type} (G : ORC R) (k : Nat) (K : Ex → St → Option R) (j : Nat) (vs : List V) : Option R := match vs with
  | [(.sl 7 xl3), (.sl 6 xl4), (.sl 1 xl5), (.sl 6 xl6), (.int .i64 xi7), (.int .i64 xi8)] => l8_0g G k (fun yl56 => K .normal (P8_0x.inst [(.sl 1 yl56)])) j xl3 xl4 xl5 xl6 xi7 xi8
  | _ => none
def L8 {R : Type} (G : ORC R) (k : Nat) : Nat → St → (Ex → St → Option R) → Option R
  | 2, S, K => P8_2h.mat S fun vs => rd8_2 G k K k vs
  | 0, S, K => P8_0h.mat S fun vs => rd8_0 G k K k vs
  | _, _, _ => none
def f8 {R : Type} (G : ORC R) (k : Nat) (al1 al2 : List V) (K : List V → Option R) : Option R :=
  (l8_0 G k al1 al2 [] al2 ((List.length al2 : Nat) : Int) 0 (fun yl48 => (K [(.sl 1 yl48)])))
noncomputable def D8_2 : LoopD := { id := 2, body := loopAt 2 (bodyOf Try.f8), head := P8_2h, out := P8_2x, ret := default }
theorem l8_2_is {R : Type} (G : ORC R) (k : Nat) (X : List V → Option R) (K : Ex → St → Option R) (xl35 xl36 : List V) (xl37 xl38 xl39 : List V) (xi40 xi41 : Int) (xl42 : List V) (xi43 xi44 : Int) (xi45 xi46 : Int) (xi47 xi48 xi49 : Int) (xs50 : ByteArray) :
    roundOf (TAB.env 8) G (L8 G k) D8_2 X K [(.sl 7 xl35), (.sl 6 xl36), (.sl 1 xl37), (.sl 1 xl38), (.sl 6 xl39), (.int .i64 xi40), (.int .i64 xi41), (.sl 6 xl42), (.int .i64 xi43), (.int .i64 xi44), (.int .i64 xi45), (.int .i64 xi46), (.int .i64 xi47), (.int .i64 xi48), (.int .i64 xi49), (.str xs50)] = b8_2 G k (fun xl35 xl36 xl37 xl38 xl39 xi40 xi41 xl42 xi43 xi44 xi45 xi46 xi47 xi48 xi49 xs50 => X [(.sl 7 xl35), (.sl 6 xl36), (.sl 1 xl37), (.sl 1 xl38), (.sl 6 xl39), (.int .i64 xi40), (.int .i64 xi41), (.sl 6 xl42), (.int .i64 xi43), (.int .i64 xi44), (.int .i64 xi45), (.int .i64 xi46), (.int .i64 xi47), (.int .i64 xi48), (.int .i64 xi49), (.str xs50)]) (fun yl49 yl50 yl51 yl52 yl53 yi54 yi55 => K .normal (P8_2x.inst [(.sl 7 yl49), (.sl 6 yl50), (.sl 1 yl51), (.sl 1 yl52), (.sl 6 yl53), (.int .i64 yi54), (.int .i64 yi55)])) xl35 xl36 xl37 xl38 xl39 xi40 xi41 xl42 xi43 xi44 xi45 xi46 xi47 xi48 xi49 xs50 := by kernel_rfl
noncomputable def D8_0 : LoopD := { id := 0, body := loopAt 0 (bodyOf Try.f8), head := P8_0h, out := P8_0x, ret := default }
theorem l8_0_is {R : Type} (G : ORC R) (k : Nat) (X : List V → Option R) (K : Ex → St → Option R) (xl3 xl4 : List V) (xl5 xl6 : List V) (xi7 xi8 : Int) :
    roundOf (TAB.env 8) G (L8 G k) D8_0 X K [(.sl 7 xl3), (.sl 6 xl4), (.sl 1 xl5), (.sl 6 xl6), (.int .i64 xi7), (.int .i64 xi8)] = b8_0 G k (fun xl3 xl4 xl5 xl6 xi7 xi8 => X [(.sl 7 xl3), (.sl 6 xl4), (.sl 1 xl5), (.sl 6 xl6), (.int .i64 xi7), (.int .i64 xi8)]) (fun yl56 => K .normal (P8_0x.inst [(.sl 1 yl56)])) xl3 xl4 xl5 xl6 xi7 xi8 := by kernel_rfl
theorem f8_is {R : Type} (G : ORC R) (k : Nat) (K : List V → Option R) (al1 al2 : List V) :
    callF (TAB.env 8) G (L8 G k) Try.f8 S8 [(.sl 7 al1), (.sl 6 al2)] K = f8 G k al1 al2 K := by kernel_rfl
theorem li8_2 {R : Type} (G : ORC R) (k : Nat) : LoopIs (TAB.env 8) G (L8 G k) 2 (loopAt 2 (bodyOf Try.f8)) :=
  ⟨D8_2, fun j vs K => rd8_2 G k K j vs, k, rfl, rfl, by kernel_rfl, by kernel_rfl, by kernel_rfl, (fun vs K => by unfold rd8_2; dsimp only; split <;> rfl),
    (fun j vs K r h => by
      unfold rd8_2 at h
      dsimp only at h
      split at h
      · rw [l8_2_is]; exact h
      · cases h), (fun S K r h => h)⟩
theorem li8_0 {R : Type} (G : ORC R) (k : Nat) : LoopIs (TAB.env 8) G (L8 G k) 0 (loopAt 0 (bodyOf Try.f8)) :=
  ⟨D8_0, fun j vs K => rd8_0 G k K j vs, k, rfl, rfl, by kernel_rfl, by kernel_rfl, by kernel_rfl, (fun vs K => by unfold rd8_0; dsimp only; split <;> rfl),
    (fun j vs K r h => by
      unfold rd8_0 at h
      dsimp only at h
      split at h
      · rw [l8_0_is]; exact h
      · cases h), (fun S K r h => h)⟩
theorem lo8 : loopsOf (bodyOf Try.f8) = [(0, loopAt 0 (bodyOf Try.f8)), (2, loopAt 2 (bodyOf Try.f8))] := by kernel_rfl
theorem la8 {R : Type} (G : ORC R) (k : Nat) : LoopsAre (TAB.env 8) G (L8 G k) (bodyOf Try.f8) :=
  loopsAre_of (by rw [lo8]; intro p hp; simp only [List.mem_cons, List.not_mem_nil, or_false] at hp; rcases hp with rfl | rfl <;> first | exact li8_0 G k | exact li8_2 G k)
def g8 {R : Type} (G : ORC R) (k : Nat) (args : List V) (K : List V → Option R) : Option R := match args with
  | [(.sl 7 al1), (.sl 6 al2)] => f8 G k al1 al2 K
  | _ => none
theorem s8 {R : Type} {G : ORC R} {k : Nat} (hG : Sound Try.prog TAB G) (args : List V) (K : List V → Option R) (r : R) (h : g8 G k args K = some r) : ∃ o, CallOK Try.prog TAB.env 8 args o ∧ K o = some r := by
  unfold g8 at h
  split at h
  · rw [← f8_is] at h
    exact callF_sound TAB_chk MO hG Try.func8 (sg := S8) (by kernel_rfl) (by kernel_rfl) (la8 G k) h
  · cases h
end Go.Proofs.Ytjbppcgcblfkoaa.Vm
open Go Go.VM
set_option linter.unusedVariables false
set_option linter.unusedSimpArgs false
set_option maxRecDepth 100000
set_option maxHeartbeats 8000000
namespace Go.Proofs.Ytjbppcgcblfkoaa.Vm
section
variable {R : Type} {G : ORC R} {k : Nat} {K : List V → Option R}
def TblOK (G : ORC R) : Prop := ∀ (v : List V) (K : List V → Option R), IntsS v → v.length ≤ 200 → W (fun o => ∃ t, o = [t] ∧ TableS t) K (G 7 [.sl 1 v] K)
theorem tbl_ok (hC : ChartOK G) (hT : TabOK G) : TblOK (fun _ args (K : List V → Option R) => g7 G k args K) := by
  intro v K hv hl
  show W _ K (f7 G k v K)
  unfold f7
  unfold ChartOK at hC; unfold TabOK at hT
  refine W_call (hC _ 1 v 0 _ (by unfold StrS; decide) (by omega) (by omega) ⟨hv, by omega, by omega, by omega⟩) ?_
  rintro _ ⟨c, j, rfl, hc, _⟩
  have hc' := hc
  obtain ⟨_, _, _, _, _, _, _, rfl, _⟩ := hc
  (repeat (with_reducible (first | (refine W_unCons ?_) | (refine W_unNil ?_) | (refine W_asInt ?_) | (refine W_asBool ?_) | (refine W_asStr ?_) | (refine W_asSl ?_) | (refine W_asAgg ?_) | (refine W_kd ?_) | (refine W_z ?_))))
  refine W_call (hT _ _ hc') ?_
  rintro _ ⟨t, rfl, ht⟩
  have ht' := ht
  obtain ⟨_, _, _, _, _, _, _, _, _, _, rfl, _⟩ := ht
  (repeat (with_reducible (first | (refine W_unCons ?_) | (refine W_unNil ?_) | (refine W_asInt ?_) | (refine W_asBool ?_) | (refine W_asStr ?_) | (refine W_asSl ?_) | (refine W_asAgg ?_) | (refine W_kd ?_) | (refine W_z ?_))))
  exact W_ret ⟨_, rfl, ht'⟩
def pairN (l : List Nd) (a b : Int) : Bool := decide (a ≥ 0) && decide (b ≥ 0) && (inN l a b || inN l b a)
theorem pairN_comm {l : List Nd} {a b : Int} : pairN l a b = pairN l b a := by unfold pairN; rw [Bool.and_comm (decide (a ≥ 0)), Bool.or_comm]
def RPairOK (G : ORC R) : Prop := ∀ (l : List Nd) (a1 a2 a3 a4 a5 b1 b2 b3 b4 b5 : Int) (s t : ByteArray) (K : List V → Option R), W (fun o => o = [.bool (pairN l a3 b3)]) K
  (G 9 [.sl 7 (l.map Nd.v), .agg [.int .i64 a1, .int .i64 a2, .int .i64 a3, .int .i64 a4, .int .i64 a5, .str s], .agg [.int .i64 b1, .int .i64 b2, .int .i64 b3, .int .i64 b4, .int .i64 b5, .str t]] K)
theorem rpair_ok (hI : InOK G) : RPairOK (fun _ args (K : List V → Option R) => g9 G k args K) := by
  intro l a1 a2 a3 a4 a5 b1 b2 b3 b4 b5 s t K
  show W _ K (f9 G k (l.map Nd.v) a1 a2 a3 a4 a5 s b1 b2 b3 b4 b5 t K)
  unfold f9
  unfold InOK at hI
  refine W_dec (fun h1 => ?_) (fun h1 => W_ret (by unfold pairN; rw [decide_eq_false h1]; rfl))
  refine W_dec (fun h2 => ?_) (fun h2 => W_ret (by unfold pairN; rw [decide_eq_false h2, Bool.and_false]; rfl))
  refine W_call (hI _ _ _ _) ?_
  rintro _ rfl
  (repeat (with_reducible (first | (refine W_unCons ?_) | (refine W_unNil ?_) | (refine W_asInt ?_) | (refine W_asBool ?_) | (refine W_asStr ?_) | (refine W_asSl ?_) | (refine W_asAgg ?_) | (refine W_kd ?_) | (refine W_z ?_))))
  refine W_bool (fun e => W_ret (by unfold pairN; rw [decide_eq_true h1, decide_eq_true h2, e]; rfl)) (fun e => ?_)
  refine W_call (hI _ _ _ _) ?_
  rintro _ rfl
  (repeat (with_reducible (first | (refine W_unCons ?_) | (refine W_unNil ?_) | (refine W_asInt ?_) | (refine W_asBool ?_) | (refine W_asStr ?_) | (refine W_asSl ?_) | (refine W_asAgg ?_) | (refine W_kd ?_) | (refine W_z ?_))))
  exact W_ret (by unfold pairN; rw [decide_eq_true h1, decide_eq_true h2, e]; rfl)
def CIsOK (G : ORC R) : Prop := ∀ (l : List V) (i : Int) (K : List V → Option R), W (fun o => o = [.bool (decide (0 ≤ i ∧ i < l.length))]) K (G 34 [.sl 7 l, .int .i64 i] K)
theorem cis_ok : CIsOK (fun _ args (K : List V → Option R) => g34 G k args K) := by
  intro l i K
  show W _ K (f34 G k l i K)
  unfold f34
  refine W_dec (fun h => ?_) (fun h => ?_)
  · exact W_ret (by congr 3; simp; omega)
  · exact W_ret (by congr 2; symm; rw [decide_eq_false]; omega)
def CInOK (G : ORC R) : Prop := ∀ (l : List Nd) (a b : Int) (K : List V → Option R), W (fun o => o = [.bool (inN l a b)]) K (G 20 [.sl 7 (l.map Nd.v), .int .i64 a, .int .i64 b] K)
theorem cin_ok (hI : CIsOK G) : CInOK (fun _ args (K : List V → Option R) => g20 G k args K) := by
  intro l a b K
  show W _ K (f20 G k (l.map Nd.v) a b K)
  unfold f20
  unfold CIsOK at hI
  have no : ¬ (0 ≤ a ∧ a < l.length ∧ 0 ≤ b ∧ b < l.length ∧ a ≥ b) → inN l a b = false := fun h => by unfold inN; rw [decide_eq_false h]; rfl
  refine W_call (hI _ _ _) ?_
  rintro _ rfl
  (repeat (with_reducible (first | (refine W_unCons ?_) | (refine W_unNil ?_) | (refine W_asInt ?_) | (refine W_asBool ?_) | (refine W_asStr ?_) | (refine W_asSl ?_) | (refine W_asAgg ?_) | (refine W_kd ?_) | (refine W_z ?_))))
  simp only [List.length_map]
  refine W_dec (fun h1 => ?_) (fun h1 => W_ret (by rw [no (by omega)]))
  refine W_call (hI _ _ _) ?_
  rintro _ rfl
  (repeat (with_reducible (first | (refine W_unCons ?_) | (refine W_unNil ?_) | (refine W_asInt ?_) | (refine W_asBool ?_) | (refine W_asStr ?_) | (refine W_asSl ?_) | (refine W_asAgg ?_) | (refine W_kd ?_) | (refine W_z ?_))))
  simp only [List.length_map]
  refine W_dec (fun h2 => ?_) (fun h2 => W_ret (by rw [no (by omega)]))
  refine W_dec (fun h3 => ?_) (fun h3 => W_ret (by rw [no (by omega)]))
  refine W_and (W_yes h2.1 (W_yes h2.2 ?_))
  refine W_nthN (by omega) (fun n hn => W_nd ?_)
  (repeat (with_reducible (first | (refine W_unCons ?_) | (refine W_unNil ?_) | (refine W_asInt ?_) | (refine W_asBool ?_) | (refine W_asStr ?_) | (refine W_asSl ?_) | (refine W_asAgg ?_) | (refine W_kd ?_) | (refine W_z ?_))))
  have e : inN l a b = decide (a ≤ n.last) := by
    unfold inN
    rw [decide_eq_true (show 0 ≤ a ∧ a < l.length ∧ 0 ≤ b ∧ b < l.length ∧ a ≥ b from ⟨h1.1, h1.2, h2.1, h2.2, h3⟩), hn]; rfl
  exact W_ret (by rw [e])
def CPairOK (G : ORC R) : Prop := ∀ (l : List Nd) (a1 a2 a3 a4 a5 b1 b2 b3 b4 b5 : Int) (s t : ByteArray) (K : List V → Option R), -1 ≤ a3 → -1 ≤ b3 → W (fun o => o = [.bool (pairN l a3 b3)]) K
  (G 10 [.sl 7 (l.map Nd.v), .agg [.int .i64 a1, .int .i64 a2, .int .i64 a3, .int .i64 a4, .int .i64 a5, .str s], .agg [.int .i64 b1, .int .i64 b2, .int .i64 b3, .int .i64 b4, .int .i64 b5, .str t]] K)
theorem cpair_ok (hI : CInOK G) : CPairOK (fun _ args (K : List V → Option R) => g10 G k args K) := by
  intro l a1 a2 a3 a4 a5 b1 b2 b3 b4 b5 s t K ha hb
  show W _ K (f10 G k (l.map Nd.v) a1 a2 a3 a4 a5 s b1 b2 b3 b4 b5 t K)
  unfold f10
  unfold CInOK at hI
  refine W_bool (fun h1 => ?_) (fun h1 => W_ret (by unfold pairN; rw [decide_eq_false (p := a3 ≥ 0) (by simp at h1; omega)]; rfl))
  refine W_bool (fun h2 => ?_) (fun h2 => W_ret (by unfold pairN; rw [decide_eq_false (p := b3 ≥ 0) (by simp at h2; omega), Bool.and_false]; rfl))
  have g1 : a3 ≥ 0 := by simp at h1; omega
  have g2 : b3 ≥ 0 := by simp at h2; omega
  refine W_call (hI _ _ _ _) ?_
  rintro _ rfl
  (repeat (with_reducible (first | (refine W_unCons ?_) | (refine W_unNil ?_) | (refine W_asInt ?_) | (refine W_asBool ?_) | (refine W_asStr ?_) | (refine W_asSl ?_) | (refine W_asAgg ?_) | (refine W_kd ?_) | (refine W_z ?_))))
  refine W_bool (fun e => W_ret (by unfold pairN; rw [decide_eq_true g1, decide_eq_true g2, e]; rfl)) (fun e => ?_)
  refine W_call (hI _ _ _ _) ?_
  rintro _ rfl
  (repeat (with_reducible (first | (refine W_unCons ?_) | (refine W_unNil ?_) | (refine W_asInt ?_) | (refine W_asBool ?_) | (refine W_asStr ?_) | (refine W_asSl ?_) | (refine W_asAgg ?_) | (refine W_kd ?_) | (refine W_z ?_))))
  exact W_ret (by unfold pairN; rw [decide_eq_true g1, decide_eq_true g2, e]; rfl)
/-- An edge, with a domain that may be. -/
def EdS (v : V) : Prop := ∃ fr to dom gd ac ev, v = .agg [.int .i64 fr, .int .i64 to, .int .i64 dom, .int .i64 gd, .int .i64 ac, .str ev] ∧ -1 ≤ dom
def domE : V → Int
  | .agg [_, _, .int _ d, _, _, _] => d
  | _ => -1
def rowP (l : List Nd) (a : Int) (es : List V) : List V := es.map fun b => .bool (pairN l a (domE b))
def rowsP (l : List Nd) (as_ es : List V) : List V := as_.map fun a => .sl 1 (rowP l (domE a) es)
theorem set_mid {L Q : List V} {x v : V} : (L ++ x :: Q).set L.length v = L ++ v :: Q := by simp
def MatOK (G : ORC R) : Prop := ∀ (l : List Nd) (es : List V) (K : List V → Option R), (∀ e ∈ es, EdS e) → es.length ≤ 1000 → W (fun o => o = [.sl 1 (rowsP l es es)]) K (G 8 [.sl 7 (l.map Nd.v), .sl 6 es] K)
theorem mat_in (hP : CPairOK G) {Q : List V → Prop} {K : List V → Option R} {l : List Nd} {es out : List V} {i : Int} {a1 a2 a3 a4 a5 : Int} {s : ByteArray} (he : ∀ e ∈ es, EdS e) (hel : es.length ≤ 1000) (ha3 : -1 ≤ a3)
    {Ko : List V → List V → List V → List V → List V → Int → Int → Option R} (hKo : W Q K (Ko (l.map Nd.v) es out (rowP l a3 es) es (es.length : Int) i)) :
    ∀ (B A : List V) (j : Nat), es = A ++ B → B.length < j → W Q K (l8_2g G k Ko j (l.map Nd.v) es out (rowP l a3 A ++ List.replicate B.length (.bool false)) es (es.length : Int) i es (es.length : Int) (A.length : Int) a1 a2 a3 a4 a5 s)
  | B, A, 0, h1, h2 => by omega
  | [], A, j + 1, h1, h2 => by
    rw [List.length_nil, List.replicate_zero]
    show W Q K (b8_2 G k (l8_2g G k Ko j) Ko (l.map Nd.v) es out (rowP l a3 A ++ []) es (es.length : Int) i es (es.length : Int) (A.length : Int) a1 a2 a3 a4 a5 s)
    unfold b8_2
    rw [List.append_nil] at h1 ⊢
    refine W_no (by rw [h1]; omega) ?_
    rw [← h1]; exact hKo
  | b :: B, A, j + 1, h1, h2 => by
    rw [List.length_cons, List.replicate_succ, show l8_2g G k Ko (j + 1) = b8_2 G k (l8_2g G k Ko j) Ko from rfl]
    unfold b8_2
    have hlt : A.length < es.length := by rw [h1]; simp
    have hlr : (rowP l a3 A).length = A.length := by simp [rowP]
    refine W_yes (by omega) (W_and (W_yes (by omega) (W_yes (by omega) ?_)))
    refine W_nth (by omega) (fun v hv _ => ?_)
    have hvb : v = b := by rw [h1] at hv; simp at hv; exact hv.symm
    subst hvb
    obtain ⟨b1, b2, b3, b4, b5, t, rfl, hb3⟩ := he v (by rw [h1]; simp)
    (repeat (with_reducible (first | (refine W_unCons ?_) | (refine W_unNil ?_) | (refine W_asInt ?_) | (refine W_asBool ?_) | (refine W_asStr ?_) | (refine W_asSl ?_) | (refine W_asAgg ?_) | (refine W_kd ?_) | (refine W_z ?_))))
    unfold CPairOK at hP
    refine W_call (hP l a1 a2 a3 a4 a5 b1 b2 b3 b4 b5 s t _ ha3 hb3) ?_
    rintro _ rfl
    (repeat (with_reducible (first | (refine W_unCons ?_) | (refine W_unNil ?_) | (refine W_asInt ?_) | (refine W_asBool ?_) | (refine W_asStr ?_) | (refine W_asSl ?_) | (refine W_asAgg ?_) | (refine W_kd ?_) | (refine W_z ?_))))
    refine W_and (W_yes (by omega) (W_yes (by rw [List.length_append, hlr, List.length_cons]; omega) ?_))
    refine W_nth (by rw [List.length_append, hlr, List.length_cons]; omega) (fun v _ _ => ?_)
    rw [wrap_id (n := (A.length : Int) + 1) (by omega)]
    have e := mat_in hP he hel ha3 hKo B (A ++ [.agg [.int .i64 b1, .int .i64 b2, .int .i64 b3, .int .i64 b4, .int .i64 b5, .str t]]) j (by rw [h1]; simp) (by simp at h2; omega) (i := i) (out := out) (a1 := a1) (a2 := a2) (a4 := a4) (a5 := a5) (s := s)
    have e2 : List.set (rowP l a3 A ++ (.bool false) :: List.replicate B.length (.bool false)) (Int.toNat (A.length : Int)) (.bool (pairN l a3 b3)) = rowP l a3 (A ++ [.agg [.int .i64 b1, .int .i64 b2, .int .i64 b3, .int .i64 b4, .int .i64 b5, .str t]]) ++ List.replicate B.length (.bool false) := by
      rw [Int.toNat_natCast, ← hlr, set_mid]; simp [rowP, domE]
    rw [e2]
    simp only [List.length_append, List.length_cons, List.length_nil, Nat.zero_add, Int.natCast_add, Int.natCast_one] at e
    exact e
theorem mat_out (hk : 1000 < k) (hP : CPairOK G) {Q : List V → Prop} {K : List V → Option R} {l : List Nd} {es : List V} (he : ∀ e ∈ es, EdS e) (hel : es.length ≤ 1000)
    {Ko : List V → Option R} (hKo : W Q K (Ko (rowsP l es es))) :
    ∀ (B A : List V) (j : Nat), es = A ++ B → B.length < j → W Q K (l8_0g G k Ko j (l.map Nd.v) es (rowsP l A es) es (es.length : Int) (A.length : Int))
  | B, A, 0, h1, h2 => by omega
  | [], A, j + 1, h1, h2 => by
    show W Q K (b8_0 G k (l8_0g G k Ko j) Ko (l.map Nd.v) es (rowsP l A es) es (es.length : Int) (A.length : Int))
    unfold b8_0
    rw [List.append_nil] at h1
    refine W_no (by rw [h1]; omega) ?_
    rw [← h1]; exact hKo
  | b :: B, A, j + 1, h1, h2 => by
    show W Q K (b8_0 G k (l8_0g G k Ko j) Ko (l.map Nd.v) es (rowsP l A es) es (es.length : Int) (A.length : Int))
    unfold b8_0
    have hlt : A.length < es.length := by rw [h1]; simp
    refine W_yes (by omega) (W_and (W_yes (by omega) (W_yes (by omega) ?_)))
    refine W_nth (by omega) (fun v hv _ => ?_)
    have hvb : v = b := by rw [h1] at hv; simp at hv; exact hv.symm
    subst hvb
    obtain ⟨b1, b2, b3, b4, b5, t, rfl, hb3⟩ := he v (by rw [h1]; simp)
    (repeat (with_reducible (first | (refine W_unCons ?_) | (refine W_unNil ?_) | (refine W_asInt ?_) | (refine W_asBool ?_) | (refine W_asStr ?_) | (refine W_asSl ?_) | (refine W_asAgg ?_) | (refine W_kd ?_) | (refine W_z ?_))))
    refine W_and (W_and (W_yes (by omega) (W_yes (by omega) (W_yes (by omega) ?_))))
    rw [Int.toNat_natCast]
    unfold l8_2
    refine mat_in hP he hel hb3 ?_ es [] k rfl (by omega)
    refine W_yes (by simp [rowsP]; omega) ?_
    rw [wrap_id (n := (A.length : Int) + 1) (by omega)]
    have e := mat_out hk hP he hel hKo B (A ++ [.agg [.int .i64 b1, .int .i64 b2, .int .i64 b3, .int .i64 b4, .int .i64 b5, .str t]]) j (by rw [h1]; simp) (by simp at h2; omega)
    have e2 : rowsP l A es ++ [.sl 1 (rowP l b3 es)] = rowsP l (A ++ [.agg [.int .i64 b1, .int .i64 b2, .int .i64 b3, .int .i64 b4, .int .i64 b5, .str t]]) es := by simp [rowsP, domE]
    rw [e2]
    simp only [List.length_append, List.length_cons, List.length_nil, Nat.zero_add, Int.natCast_add, Int.natCast_one] at e
    exact e
theorem mat_ok (hk : 1000 < k) (hP : CPairOK G) : MatOK (fun _ args (K : List V → Option R) => g8 G k args K) := by
  intro l es K he hel
  show W _ K (f8 G k (l.map Nd.v) es K)
  unfold f8 l8_0
  exact mat_out (Q := fun o => o = [.sl 1 (rowsP l es es)]) (K := K) (k := k) (Ko := fun q => K [.sl 1 q]) hk hP he hel (W_ret rfl) es [] k rfl (by omega)
theorem domGo_ge {l : List Nd} {a b : Int} (i : Nat) : -1 ≤ domGo l a b i := by rcases domGo_at (l := l) (a := a) (b := b) (i := i) with h | ⟨j, _, h, _⟩ <;> omega
theorem edge_ed {ns : List Nd} {e : V} (h : EdgeS ns e) : EdS e := by
  obtain ⟨fr, to, dom, gd, ac, ev, rfl, _, _, _, h4, _⟩ := h
  refine ⟨fr, to, dom, gd, ac, ev, rfl, ?_⟩
  rcases h4 with ⟨_, h⟩ | ⟨_, _, h⟩
  · omega
  · rw [h]; exact domGo_ge _
end
end Go.Proofs.Ytjbppcgcblfkoaa.Vm
open Go Go.VM
set_option linter.unusedVariables false
set_option maxRecDepth 100000
set_option maxHeartbeats 4000000
namespace Go.Proofs.Ytjbppcgcblfkoaa.Vm
/-! ### cotillion/cotillionlaw15.ClashTells: function 3 -/
def P3_2h : Pat := { tmps := unds [] 7 (unds [.stat (.one (.ptr 7 0) .pt), .var (.sl 1) .ro, .var (.int .i64) .pr, .var (.int .i64) .pr] 104 []), boxes := nons [] 7 (nons [some [.var .str .pr false, .var (.int .i64) .pr false, .var (.int .i64) .pr false, .var (.sl 1) .ro false, .var (.sl 1) .ro false, .var (.sl 1) .ro false, .var (.sl 7) .ro false, .var (.sl 6) .ro false, .var (.sl 1) .ro false]] 107 []) }
def P3_2x : Pat := { tmps := unds [] 7 (unds [.stat (.one (.ptr 7 0) .pt), .var (.sl 1) .ro, .var (.int .i64) .pr] 105 []), boxes := nons [] 7 (nons [some [.var .str .pr false, .var (.int .i64) .pr false, .var (.int .i64) .pr false, .var (.sl 1) .ro false, .var (.sl 1) .ro false, .var (.sl 1) .ro false, .var (.sl 7) .ro false, .var (.sl 6) .ro false, .var (.sl 1) .ro false]] 107 []) }
def P3_2r : Pat := { tmps := unds [] 6 (unds [.var .bool .pr] 108 []), boxes := nons [] 115 [] }
def b3_2 {R : Type} (G : ORC R) (k : Nat) (X : List V → Int → Int → ByteArray → Int → Int → List V → List V → List V → List V → List V → List V → Option R) (Ko : List V → Int → ByteArray → Int → Int → List V → List V → List V → List V → List V → List V → Option R) (Kr : Bool → Option R) (xl66 : List V) (xi67 xi68 : Int) (xs69 : ByteArray) (xi70 xi71 : Int) (xl72 xl73 : List V) (xl74 xl75 : List V) (xl76 xl77 : List V) : Option R :=
  (bif (decide (xi68 < ((List.length xl66 : Nat) : Int))) then (bif ((decide (0 ≤ xi67)) && (decide (xi67 < ((List.length xl76 : Nat) : Int)))) then (nthK xl76 (Int.toNat xi67) fun e78 => (V.asAgg e78 fun l79 => (bif ((decide (0 ≤ xi68)) && (decide (xi68 < ((List.length xl76 : Nat) : Int)))) then (nthK xl76 (Int.toNat xi68) fun e80 => (V.asAgg e80 fun l81 => (G 9 [(.sl 7 xl75), (.agg l79), (.agg l81)] fun o82 => (unCons o82 fun c83 r84 => (V.asBool c83 fun b85 => (unNil r84 (bif ((decide (0 ≤ xi67)) && (decide (xi67 < ((List.length xl66 : Nat) : Int)))) then (nthK xl66 (Int.toNat xi67) fun e86 => (V.asSl e86 fun z87 l88 => (bif (((z87 == 1) && (decide (0 ≤ xi68))) && (decide (xi68 < ((List.length l88 : Nat) : Int)))) then (nthK l88 (Int.toNat xi68) fun e89 => (V.asBool e89 fun b90 => (bif (!(b90 == b85)) then (Kr false) else (bif ((decide (0 ≤ xi68)) && (decide (xi68 < ((List.length xl66 : Nat) : Int)))) then (nthK xl66 (Int.toNat xi68) fun e91 => (V.asSl e91 fun z92 l93 => (bif (((z92 == 1) && (decide (0 ≤ xi67))) && (decide (xi67 < ((List.length l93 : Nat) : Int)))) then (nthK l93 (Int.toNat xi67) fun e94 => (V.asBool e94 fun b95 => (bif (!(b95 == b85)) then (Kr false) else (bif ((decide (0 ≤ xi67)) && (decide (xi67 < ((List.length xl76 : Nat) : Int)))) then (nthK xl76 (Int.toNat xi67) fun e96 => (V.asAgg e96 fun l97 => (bif ((decide (0 ≤ xi68)) && (decide (xi68 < ((List.length xl76 : Nat) : Int)))) then (nthK xl76 (Int.toNat xi68) fun e98 => (V.asAgg e98 fun l99 => (G 10 [(.sl 7 xl75), (.agg l97), (.agg l99)] fun o100 => (unCons o100 fun c101 r102 => (V.asBool c101 fun b103 => (unNil r102 (bif (!(b103 == b85)) then (Kr false) else (X xl66 xi67 (IntKind.i64.wrap (xi68 + 1)) xs69 xi70 xi71 xl72 xl73 xl74 xl75 xl76 xl77)))))))) else none))) else none)))) else none))) else none)))) else none))) else none))))))) else none))) else none) else (Ko xl66 xi67 xs69 xi70 xi71 xl72 xl73 xl74 xl75 xl76 xl77))
def l3_2g {R : Type} (G : ORC R) (k : Nat) (Ko : List V → Int → ByteArray → Int → Int → List V → List V → List V → List V → List V → List V → Option R) (Kr : Bool → Option R) : Nat → List V → Int → Int → ByteArray → Int → Int → List V → List V → List V → List V → List V → List V → Option R
  | 0 => fun _ _ _ _ _ _ _ _ _ _ _ _ => none
  | j + 1 => b3_2 G k (l3_2g G k Ko Kr j) Ko Kr
def l3_2 {R : Type} (G : ORC R) (k : Nat) (xl66 : List V) (xi67 xi68 : Int) (xs69 : ByteArray) (xi70 xi71 : Int) (xl72 xl73 : List V) (xl74 xl75 : List V) (xl76 xl77 : List V) (Ko : List V → Int → ByteArray → Int → Int → List V → List V → List V → List V → List V → List V → Option R) (Kr : Bool → Option R) : Option R := l3_2g G k Ko Kr k xl66 xi67 xi68 xs69 xi70 xi71 xl72 xl73 xl74 xl75 xl76 xl77
def P3_0h : Pat := { tmps := unds [] 7 (unds [.stat (.one (.ptr 7 0) .pt), .var (.sl 1) .ro, .var (.int .i64) .pr] 105 []), boxes := nons [] 7 (nons [some [.var .str .pr false, .var (.int .i64) .pr false, .var (.int .i64) .pr false, .var (.sl 1) .ro false, .var (.sl 1) .ro false, .var (.sl 1) .ro false, .var (.sl 7) .ro false, .var (.sl 6) .ro false, .var (.sl 1) .ro false]] 107 []) }
def P3_0x : Pat := { tmps := unds [] 115 [], boxes := nons [] 115 [] }
def P3_0r : Pat := { tmps := unds [] 6 (unds [.var .bool .pr] 108 []), boxes := nons [] 115 [] }
def b3_0 {R : Type} (G : ORC R) (k : Nat) (X : List V → Int → ByteArray → Int → Int → List V → List V → List V → List V → List V → List V → Option R) (Ko : Unit → Option R) (Kr : Bool → Option R) (xl52 : List V) (xi53 : Int) (xs54 : ByteArray) (xi55 xi56 : Int) (xl57 xl58 : List V) (xl59 xl60 : List V) (xl61 xl62 : List V) : Option R :=
  (bif (decide (xi53 < ((List.length xl52 : Nat) : Int))) then (bif ((decide (0 ≤ xi53)) && (decide (xi53 < ((List.length xl52 : Nat) : Int)))) then (nthK xl52 (Int.toNat xi53) fun e63 => (V.asSl e63 fun z64 l65 => (bif (((List.length l65 : Nat) : Int) != ((List.length xl52 : Nat) : Int)) then (Kr false) else (l3_2 G k xl52 xi53 0 xs54 xi55 xi56 xl57 xl58 xl59 xl60 xl61 xl62 (fun yl66 yi67 ys68 yi69 yi70 yl71 yl72 yl73 yl74 yl75 yl76 => (bif ((decide (0 ≤ yi67)) && (decide (yi67 < ((List.length yl66 : Nat) : Int)))) then (nthK yl66 (Int.toNat yi67) fun e77 => (V.asSl e77 fun z78 l79 => (bif (((z78 == 1) && (decide (0 ≤ yi67))) && (decide (yi67 < ((List.length l79 : Nat) : Int)))) then (nthK l79 (Int.toNat yi67) fun e80 => (V.asBool e80 fun b81 => (bif ((decide (0 ≤ yi67)) && (decide (yi67 < ((List.length yl75 : Nat) : Int)))) then (nthK yl75 (Int.toNat yi67) fun e82 => (V.asAgg e82 fun l83 => (unCons l83 fun c84 r99 => (unCons r99 fun c85 r100 => (unCons r100 fun c86 r101 => (unCons r101 fun c87 r102 => (unCons r102 fun c88 r103 => (unCons r103 fun c89 r104 => (unNil r104 (V.asInt c86 fun k97 n98 => (bif decide (k97 = .i64) then (bif (!(b81 == (decide (n98 ≥ 0)))) then (Kr false) else (X yl66 (IntKind.i64.wrap (yi67 + 1)) ys68 yi69 yi70 yl71 yl72 yl73 yl74 yl75 yl76)) else none))))))))))) else none))) else none))) else none)) (fun yb105 => (Kr yb105)))))) else none) else (Ko ()))
def l3_0g {R : Type} (G : ORC R) (k : Nat) (Ko : Unit → Option R) (Kr : Bool → Option R) : Nat → List V → Int → ByteArray → Int → Int → List V → List V → List V → List V → List V → List V → Option R
  | 0 => fun _ _ _ _ _ _ _ _ _ _ _ => none
  | j + 1 => b3_0 G k (l3_0g G k Ko Kr j) Ko Kr
def l3_0 {R : Type} (G : ORC R) (k : Nat) (xl52 : List V) (xi53 : Int) (xs54 : ByteArray) (xi55 xi56 : Int) (xl57 xl58 : List V) (xl59 xl60 : List V) (xl61 xl62 : List V) (Ko : Unit → Option R) (Kr : Bool → Option R) : Option R := l3_0g G k Ko Kr k xl52 xi53 xs54 xi55 xi56 xl57 xl58 xl59 xl60 xl61 xl62
def rd3_2 {R : Type} (G : ORC R) (k : Nat) (K : Ex → St → Option R) (j : Nat) (vs : List V) : Option R := match vs with
  | [(.sl 1 xl66), (.int .i64 xi67), (.int .i64 xi68), (.str xs69), (.int .i64 xi70), (.int .i64 xi71), (.sl 1 xl72), (.sl 1 xl73), (.sl 1 xl74), (.sl 7 xl75), (.sl 6 xl76), (.sl 1 xl77)] => l3_2g G k (fun yl111 yi112 ys113 yi114 yi115 yl116 yl117 yl118 yl119 yl120 yl121 => K .normal (P3_2x.inst [(.sl 1 yl111), (.int .i64 yi112), (.str ys113), (.int .i64 yi114), (.int .i64 yi115), (.sl 1 yl116), (.sl 1 yl117), (.sl 1 yl118), (.sl 7 yl119), (.sl 6 yl120), (.sl 1 yl121)])) (fun yb122 => K .ret (P3_2r.inst [(.bool yb122)])) j xl66 xi67 xi68 xs69 xi70 xi71 xl72 xl73 xl74 xl75 xl76 xl77
  | _ => none
def rd3_0 {R : Type} (G : ORC R) (k : Nat) (K : Ex → St → Option R) (j : Nat) (vs : List V) : Option R := match vs with
  | [(.sl 1 xl52), (.int .i64 xi53), (.str xs54), (.int .i64 xi55), (.int .i64 xi56), (.sl 1 xl57), (.sl 1 xl58), (.sl 1 xl59), (.sl 7 xl60), (.sl 6 xl61), (.sl 1 xl62)] => l3_0g G k (fun _ => K .normal (P3_0x.inst [])) (fun yb123 => K .ret (P3_0r.inst [(.bool yb123)])) j xl52 xi53 xs54 xi55 xi56 xl57 xl58 xl59 xl60 xl61 xl62
  | _ => none
def L3 {R : Type} (G : ORC R) (k : Nat) : Nat → St → (Ex → St → Option R) → Option R
  | 2, S, K => P3_2h.mat S fun vs => rd3_2 G k K k vs
  | 0, S, K => P3_0h.mat S fun vs => rd3_0 G k K k vs
  | _, _, _ => none
def f3 {R : Type} (G : ORC R) (k : Nat) (al1 : List V) (ai2 ai3 : Int) (K : List V → Option R) : Option R :=
  (bif (decide (((List.length al1 : Nat) : Int) > 200)) then (G 6 [] fun o4 => (unCons o4 fun c5 r6 => (V.asBool c5 fun b7 => (unNil r6 (K [(.bool b7)]))))) else (G 7 [(.sl 1 al1)] fun o8 => (unCons o8 fun c9 r10 => (V.asAgg c9 fun l11 => (unCons l11 fun c12 r13 => (V.asStr c12 fun s14 => (unCons r13 fun c15 r16 => (V.asInt c15 fun k17 n18 => (bif decide (k17 = .i64) then (unCons r16 fun c19 r20 => (V.asInt c19 fun k21 n22 => (bif decide (k21 = .i64) then (unCons r20 fun c23 r24 => (V.asSl c23 fun z25 l26 => (bif (z25 == 1) then (unCons r24 fun c27 r28 => (V.asSl c27 fun z29 l30 => (bif (z29 == 1) then (unCons r28 fun c31 r32 => (V.asSl c31 fun z33 l34 => (bif (z33 == 1) then (unCons r32 fun c35 r36 => (V.asSl c35 fun z37 l38 => (bif (z37 == 7) then (unCons r36 fun c39 r40 => (V.asSl c39 fun z41 l42 => (bif (z41 == 6) then (unCons r40 fun c43 r44 => (V.asSl c43 fun z45 l46 => (bif (z45 == 1) then (unNil r44 (unNil r10 (G 8 [(.sl 7 l38), (.sl 6 l42)] fun o47 => (unCons o47 fun c48 r49 => (V.asSl c48 fun z50 l51 => (bif (z50 == 1) then (unNil r49 (bif (((List.length l51 : Nat) : Int) != ((List.length l42 : Nat) : Int)) then (K [(.bool false)]) else (l3_0 G k l51 0 s14 n18 n22 l26 l30 l34 l38 l42 l46 (fun (_ : Unit) => (G 6 [] fun o106 => (unCons o106 fun c107 r108 => (V.asBool c107 fun b109 => (unNil r108 (K [(.bool b109)])))))) (fun yb110 => (K [(.bool yb110)]))))) else none)))))) else none))) else none))) else none))) else none))) else none))) else none))) else none))) else none)))))))))
noncomputable def D3_2 : LoopD := { id := 2, body := loopAt 2 (bodyOf Try.f3), head := P3_2h, out := P3_2x, ret := P3_2r }
theorem l3_2_is {R : Type} (G : ORC R) (k : Nat) (X : List V → Option R) (K : Ex → St → Option R) (xl66 : List V) (xi67 xi68 : Int) (xs69 : ByteArray) (xi70 xi71 : Int) (xl72 xl73 : List V) (xl74 xl75 : List V) (xl76 xl77 : List V) :
    roundOf (TAB.env 3) G (L3 G k) D3_2 X K [(.sl 1 xl66), (.int .i64 xi67), (.int .i64 xi68), (.str xs69), (.int .i64 xi70), (.int .i64 xi71), (.sl 1 xl72), (.sl 1 xl73), (.sl 1 xl74), (.sl 7 xl75), (.sl 6 xl76), (.sl 1 xl77)] = b3_2 G k (fun xl66 xi67 xi68 xs69 xi70 xi71 xl72 xl73 xl74 xl75 xl76 xl77 => X [(.sl 1 xl66), (.int .i64 xi67), (.int .i64 xi68), (.str xs69), (.int .i64 xi70), (.int .i64 xi71), (.sl 1 xl72), (.sl 1 xl73), (.sl 1 xl74), (.sl 7 xl75), (.sl 6 xl76), (.sl 1 xl77)]) (fun yl111 yi112 ys113 yi114 yi115 yl116 yl117 yl118 yl119 yl120 yl121 => K .normal (P3_2x.inst [(.sl 1 yl111), (.int .i64 yi112), (.str ys113), (.int .i64 yi114), (.int .i64 yi115), (.sl 1 yl116), (.sl 1 yl117), (.sl 1 yl118), (.sl 7 yl119), (.sl 6 yl120), (.sl 1 yl121)])) (fun yb122 => K .ret (P3_2r.inst [(.bool yb122)])) xl66 xi67 xi68 xs69 xi70 xi71 xl72 xl73 xl74 xl75 xl76 xl77 := by kernel_rfl
noncomputable def D3_0 : LoopD := { id := 0, body := loopAt 0 (bodyOf Try.f3), head := P3_0h, out := P3_0x, ret := P3_0r }
theorem l3_0_is {R : Type} (G : ORC R) (k : Nat) (X : List V → Option R) (K : Ex → St → Option R) (xl52 : List V) (xi53 : Int) (xs54 : ByteArray) (xi55 xi56 : Int) (xl57 xl58 : List V) (xl59 xl60 : List V) (xl61 xl62 : List V) :
    roundOf (TAB.env 3) G (L3 G k) D3_0 X K [(.sl 1 xl52), (.int .i64 xi53), (.str xs54), (.int .i64 xi55), (.int .i64 xi56), (.sl 1 xl57), (.sl 1 xl58), (.sl 1 xl59), (.sl 7 xl60), (.sl 6 xl61), (.sl 1 xl62)] = b3_0 G k (fun xl52 xi53 xs54 xi55 xi56 xl57 xl58 xl59 xl60 xl61 xl62 => X [(.sl 1 xl52), (.int .i64 xi53), (.str xs54), (.int .i64 xi55), (.int .i64 xi56), (.sl 1 xl57), (.sl 1 xl58), (.sl 1 xl59), (.sl 7 xl60), (.sl 6 xl61), (.sl 1 xl62)]) (fun _ => K .normal (P3_0x.inst [])) (fun yb123 => K .ret (P3_0r.inst [(.bool yb123)])) xl52 xi53 xs54 xi55 xi56 xl57 xl58 xl59 xl60 xl61 xl62 := by kernel_rfl
theorem f3_is {R : Type} (G : ORC R) (k : Nat) (K : List V → Option R) (al1 : List V) (ai2 ai3 : Int) :
    callF (TAB.env 3) G (L3 G k) Try.f3 S3 [(.sl 1 al1), (.int .i64 ai2), (.int .i64 ai3)] K = f3 G k al1 ai2 ai3 K := by kernel_rfl
theorem li3_2 {R : Type} (G : ORC R) (k : Nat) : LoopIs (TAB.env 3) G (L3 G k) 2 (loopAt 2 (bodyOf Try.f3)) :=
  ⟨D3_2, fun j vs K => rd3_2 G k K j vs, k, rfl, rfl, by kernel_rfl, by kernel_rfl, by kernel_rfl, (fun vs K => by unfold rd3_2; dsimp only; split <;> rfl),
    (fun j vs K r h => by
      unfold rd3_2 at h
      dsimp only at h
      split at h
      · rw [l3_2_is]; exact h
      · cases h), (fun S K r h => h)⟩
theorem li3_0 {R : Type} (G : ORC R) (k : Nat) : LoopIs (TAB.env 3) G (L3 G k) 0 (loopAt 0 (bodyOf Try.f3)) :=
  ⟨D3_0, fun j vs K => rd3_0 G k K j vs, k, rfl, rfl, by kernel_rfl, by kernel_rfl, by kernel_rfl, (fun vs K => by unfold rd3_0; dsimp only; split <;> rfl),
    (fun j vs K r h => by
      unfold rd3_0 at h
      dsimp only at h
      split at h
      · rw [l3_0_is]; exact h
      · cases h), (fun S K r h => h)⟩
theorem lo3 : loopsOf (bodyOf Try.f3) = [(0, loopAt 0 (bodyOf Try.f3)), (2, loopAt 2 (bodyOf Try.f3))] := by kernel_rfl
theorem la3 {R : Type} (G : ORC R) (k : Nat) : LoopsAre (TAB.env 3) G (L3 G k) (bodyOf Try.f3) :=
  loopsAre_of (by rw [lo3]; intro p hp; simp only [List.mem_cons, List.not_mem_nil, or_false] at hp; rcases hp with rfl | rfl <;> first | exact li3_0 G k | exact li3_2 G k)
def g3 {R : Type} (G : ORC R) (k : Nat) (args : List V) (K : List V → Option R) : Option R := match args with
  | [(.sl 1 al1), (.int .i64 ai2), (.int .i64 ai3)] => f3 G k al1 ai2 ai3 K
  | _ => none
theorem s3 {R : Type} {G : ORC R} {k : Nat} (hG : Sound Try.prog TAB G) (args : List V) (K : List V → Option R) (r : R) (h : g3 G k args K = some r) : ∃ o, CallOK Try.prog TAB.env 3 args o ∧ K o = some r := by
  unfold g3 at h
  split at h
  · rw [← f3_is] at h
    exact callF_sound TAB_chk MO hG Try.func3 (sg := S3) (by kernel_rfl) (by kernel_rfl) (la3 G k) h
  · cases h
end Go.Proofs.Ytjbppcgcblfkoaa.Vm
open Go Go.VM
set_option linter.unusedVariables false
set_option maxRecDepth 100000
set_option maxHeartbeats 4000000
namespace Go.Proofs.Ytjbppcgcblfkoaa.Vm
/-! ### cotillion/cotillionlaw15.known: function 6 -/
def L6 {R : Type} (_ : ORC R) (_ : Nat) : Nat → St → (Ex → St → Option R) → Option R := fun _ _ _ => none
def f6 {R : Type} (G : ORC R) (k : Nat)  (K : List V → Option R) : Option R :=
  (G 15 [(.agg [(.str ⟨#[]⟩), (.int .i64 0), (.int .i64 0), (.sl 3 []), (.sl 3 []), (.sl 3 []), (.sl 7 [(.agg [(.int .i64 1), (.str ⟨#[97]⟩), (.sl 8 []), (.sl 8 []), (.sl 5 []), (.sl 7 []), (.int .i64 0)])]), (.int .i64 0)])] fun o1 => (unCons o1 fun c2 r3 => (V.asSl c2 fun z4 l5 => (bif (z4 == 7) then (unNil r3 (G 10 [(.sl 7 l5), (.agg [(.int .i64 1), (.int .i64 (-1)), (.int .i64 (-1)), (.int .i64 0), (.int .i64 0), (.str ⟨#[]⟩)]), (.agg [(.int .i64 1), (.int .i64 (-1)), (.int .i64 (-1)), (.int .i64 0), (.int .i64 0), (.str ⟨#[]⟩)])] fun o6 => (unCons o6 fun c7 r8 => (V.asBool c7 fun b9 => (unNil r8 (bif (!b9) then (G 10 [(.sl 7 l5), (.agg [(.int .i64 1), (.int .i64 (-1)), (.int .i64 (-1)), (.int .i64 0), (.int .i64 0), (.str ⟨#[]⟩)]), (.agg [(.int .i64 1), (.int .i64 1), (.int .i64 0), (.int .i64 0), (.int .i64 0), (.str ⟨#[]⟩)])] fun o10 => (unCons o10 fun c11 r12 => (V.asBool c11 fun b13 => (unNil r12 (bif (!b13) then (G 10 [(.sl 7 l5), (.agg [(.int .i64 1), (.int .i64 1), (.int .i64 0), (.int .i64 0), (.int .i64 0), (.str ⟨#[]⟩)]), (.agg [(.int .i64 1), (.int .i64 1), (.int .i64 0), (.int .i64 0), (.int .i64 0), (.str ⟨#[]⟩)])] fun o14 => (unCons o14 fun c15 r16 => (V.asBool c15 fun b17 => (unNil r16 (bif b17 then (G 8 [(.sl 7 l5), (.sl 6 [(.agg [(.int .i64 1), (.int .i64 (-1)), (.int .i64 (-1)), (.int .i64 0), (.int .i64 0), (.str ⟨#[]⟩)]), (.agg [(.int .i64 1), (.int .i64 1), (.int .i64 0), (.int .i64 0), (.int .i64 0), (.str ⟨#[]⟩)])])] fun o18 => (unCons o18 fun c19 r20 => (V.asSl c19 fun z21 l22 => (bif (z21 == 1) then (unNil r20 (K [(.bool (((List.length l22 : Nat) : Int) == 2))])) else none)))) else (K [(.bool false)])))))) else (K [(.bool false)])))))) else (K [(.bool false)]))))))) else none))))
theorem f6_is {R : Type} (G : ORC R) (k : Nat) (K : List V → Option R)  :
    callF (TAB.env 6) G (L6 G k) Try.f6 S6 [] K = f6 G k  K := by kernel_rfl
theorem lo6 : loopsOf (bodyOf Try.f6) = [] := by kernel_rfl
theorem la6 {R : Type} (G : ORC R) (k : Nat) : LoopsAre (TAB.env 6) G (L6 G k) (bodyOf Try.f6) :=
  loopsAre_of (by rw [lo6]; intro p hp; cases hp)
def g6 {R : Type} (G : ORC R) (k : Nat) (args : List V) (K : List V → Option R) : Option R := match args with
  | [] => f6 G k  K
  | _ => none
theorem s6 {R : Type} {G : ORC R} {k : Nat} (hG : Sound Try.prog TAB G) (args : List V) (K : List V → Option R) (r : R) (h : g6 G k args K = some r) : ∃ o, CallOK Try.prog TAB.env 6 args o ∧ K o = some r := by
  unfold g6 at h
  split at h
  · rw [← f6_is] at h
    exact callF_sound TAB_chk MO hG Try.func6 (sg := S6) (by kernel_rfl) (by kernel_rfl) (la6 G k) h
  · cases h
end Go.Proofs.Ytjbppcgcblfkoaa.Vm
open Go Go.VM
set_option linter.unusedVariables false
set_option maxRecDepth 100000
namespace Go.Proofs.Ytjbppcgcblfkoaa.Vm
def gt {R : Type} (k : Nat) : Nat → ORC R
  | 0 => fun _ _ _ => none
  | j + 1 => fun f args K => match f with
    | 3 => g3 (gt k j) k args K
    | 6 => g6 (gt k j) k args K
    | 7 => g7 (gt k j) k args K
    | 8 => g8 (gt k j) k args K
    | 9 => g9 (gt k j) k args K
    | 10 => g10 (gt k j) k args K
    | 15 => g15 (gt k j) k args K
    | 16 => g16 (gt k j) k args K
    | 17 => g17 (gt k j) k args K
    | 18 => g18 (gt k j) k args K
    | 19 => g19 (gt k j) k args K
    | 20 => g20 (gt k j) k args K
    | 22 => g22 (gt k j) k args K
    | 24 => g24 (gt k j) k args K
    | 25 => g25 (gt k j) k args K
    | 26 => g26 (gt k j) k args K
    | 27 => g27 (gt k j) k args K
    | 28 => g28 (gt k j) k args K
    | 29 => g29 (gt k j) k args K
    | 30 => g30 (gt k j) k args K
    | 31 => g31 (gt k j) k args K
    | 32 => g32 (gt k j) k args K
    | 33 => g33 (gt k j) k args K
    | 34 => g34 (gt k j) k args K
    | 36 => g36 (gt k j) k args K
    | 37 => g37 (gt k j) k args K
    | 38 => g38 (gt k j) k args K
    | 39 => g39 (gt k j) k args K
    | 40 => g40 (gt k j) k args K
    | 41 => g41 (gt k j) k args K
    | 42 => g42 (gt k j) k args K
    | 43 => g43 (gt k j) k args K
    | 44 => g44 (gt k j) k args K
    | 45 => g45 (gt k j) k args K
    | 46 => g46 (gt k j) k args K
    | 47 => g47 (gt k j) k args K
    | 48 => g48 (gt k j) k args K
    | 49 => g49 (gt k j) k args K
    | 50 => g50 (gt k j) k args K
    | 51 => g51 (gt k j) k args K
    | 52 => g52 (gt k j) k args K
    | 53 => g53 (gt k j) k args K
    | 54 => g54 (gt k j) k args K
    | 55 => g55 (gt k j) k args K
    | 56 => g56 (gt k j) k args K
    | _ => none
theorem gt_sound {R : Type} (k : Nat) : ∀ j, Sound (R := R) Try.prog TAB (gt k j)
  | 0 => fun f args K r h => by cases h
  | j + 1 => fun f args K r h => by
    have ih := gt_sound (R := R) k j
    unfold gt at h
    split at h
    · exact s3 ih args K r h
    · exact s6 ih args K r h
    · exact s7 ih args K r h
    · exact s8 ih args K r h
    · exact s9 ih args K r h
    · exact s10 ih args K r h
    · exact s15 ih args K r h
    · exact s16 ih args K r h
    · exact s17 ih args K r h
    · exact s18 ih args K r h
    · exact s19 ih args K r h
    · exact s20 ih args K r h
    · exact s22 ih args K r h
    · exact s24 ih args K r h
    · exact s25 ih args K r h
    · exact s26 ih args K r h
    · exact s27 ih args K r h
    · exact s28 ih args K r h
    · exact s29 ih args K r h
    · exact s30 ih args K r h
    · exact s31 ih args K r h
    · exact s32 ih args K r h
    · exact s33 ih args K r h
    · exact s34 ih args K r h
    · exact s36 ih args K r h
    · exact s37 ih args K r h
    · exact s38 ih args K r h
    · exact s39 ih args K r h
    · exact s40 ih args K r h
    · exact s41 ih args K r h
    · exact s42 ih args K r h
    · exact s43 ih args K r h
    · exact s44 ih args K r h
    · exact s45 ih args K r h
    · exact s46 ih args K r h
    · exact s47 ih args K r h
    · exact s48 ih args K r h
    · exact s49 ih args K r h
    · exact s50 ih args K r h
    · exact s51 ih args K r h
    · exact s52 ih args K r h
    · exact s53 ih args K r h
    · exact s54 ih args K r h
    · exact s55 ih args K r h
    · exact s56 ih args K r h
    · cases h
end Go.Proofs.Ytjbppcgcblfkoaa.Vm
open Go Go.VM
set_option linter.unusedVariables false
set_option linter.unusedSimpArgs false
set_option maxRecDepth 100000
set_option maxHeartbeats 8000000
namespace Go.Proofs.Ytjbppcgcblfkoaa.Vm
section
variable {R : Type}
def Ev (P : ORC R → Prop) : Prop := ∃ N, ∀ j, N ≤ j → P (gt 10000 j)
theorem ev0 {P : ORC R → Prop} (h : ∀ j, P (gt 10000 (j + 1))) : Ev P := ⟨1, fun j hj => by obtain ⟨j', rfl⟩ : ∃ j', j = j' + 1 := ⟨j - 1, by omega⟩; exact h j'⟩
theorem evS {A P : ORC R → Prop} (hA : Ev A) (h : ∀ j, A (gt 10000 j) → P (gt 10000 (j + 1))) : Ev P := by
  obtain ⟨N, hN⟩ := hA
  refine ⟨N + 1, fun j hj => ?_⟩
  obtain ⟨j', rfl⟩ : ∃ j', j = j' + 1 := ⟨j - 1, by omega⟩
  exact h j' (hN j' (by omega))
theorem evA {A B : ORC R → Prop} (hA : Ev A) (hB : Ev B) : Ev fun G => A G ∧ B G := by
  obtain ⟨N, hN⟩ := hA
  obtain ⟨M, hM⟩ := hB
  exact ⟨N + M, fun j hj => ⟨hN j (by omega), hM j (by omega)⟩⟩
theorem evT {P : ORC R → Prop} (h : ∀ G, P G) : Ev P := ⟨0, fun j _ => h _⟩
theorem evPlace : Ev (R := R) PlaceS := ev0 fun j => by unfold PlaceS; exact place_ok (G := gt 10000 j) (k := 10000)
theorem evNext : Ev (R := R) NextS := evS evPlace fun j h => by unfold NextS; exact next_ok (G := gt 10000 j) (k := 10000) h
theorem evEvent : Ev (R := R) EventS := evS evPlace fun j h => by unfold EventS; exact event_ok (G := gt 10000 j) (k := 10000) h
theorem evPick : Ev (R := R) PickS := evS evNext fun j h => by unfold PickS; exact pick_ok (G := gt 10000 j) (k := 10000) h
theorem evDec1 : Ev (R := R) (DecS 1) := ev0 fun j => by unfold DecS; exact dec_step (G := gt 10000 j) (k := 10000) (d := 0) (by omega) (.inl rfl)
theorem evDec2 : Ev (R := R) (DecS 2) := evS evDec1 fun j h => by unfold DecS; exact dec_step (G := gt 10000 j) (k := 10000) (d := 1) (by omega) (.inr h)
theorem evDec3 : Ev (R := R) (DecS 3) := evS evDec2 fun j h => by unfold DecS; exact dec_step (G := gt 10000 j) (k := 10000) (d := 2) (by omega) (.inr h)
theorem evDig : Ev (R := R) DigS := evS evDec3 fun j h => by unfold DigS; exact dig_ok (G := gt 10000 j) (k := 10000) h
theorem evNames : Ev (R := R) NamesS := evS evDig fun j h => by unfold NamesS; exact names_ok (G := gt 10000 j) (k := 10000) (by omega) h
theorem evNumd : Ev (R := R) NumdS := evS evNext fun j h => by unfold NumdS; exact named_ok (G := gt 10000 j) (k := 10000) (by omega) h
theorem evPlain : Ev (R := R) PlainS := ev0 fun j => by unfold PlainS; exact plain_ok (G := gt 10000 j) (k := 10000) (by omega)
theorem evExpr : ∀ d, d ≤ 2 → Ev (R := R) (ExprOK d)
  | 0, _ => evS (evA evNext evPick) fun j h => by unfold ExprOK; exact expr_ok (G := gt 10000 j) (k := 10000) (d := 0) (by omega) h.1 h.2 (fun d' e => by omega)
  | d + 1, hd => evS (evA (evA evNext evPick) (evExpr d (by omega))) fun j h => by unfold ExprOK; exact expr_ok (G := gt 10000 j) (k := 10000) (d := d + 1) hd h.1.1 h.1.2 (fun d' e => by cases e; exact h.2)
theorem evBlock : ∀ d, d ≤ 2 → Ev (R := R) (BlockOK d)
  | 0, _ => evS (evA (evA evNext evPick) (evA evEvent (evExpr 2 (by omega)))) fun j h => by unfold BlockOK; exact block_ok (G := gt 10000 j) (k := 10000) (d := 0) (by omega) (by omega) h.1.1 h.1.2 h.2.1 h.2.2 (fun d' e => by omega)
  | d + 1, hd => evS (evA (evA (evA evNext evPick) (evA evEvent (evExpr 2 (by omega)))) (evBlock d (by omega))) fun j h => by unfold BlockOK; exact block_ok (G := gt 10000 j) (k := 10000) (d := d + 1) (by omega) hd h.1.1.1 h.1.1.2 h.1.2.1 h.1.2.2 (fun d' e => by cases e; exact h.2)
theorem evSt : ∀ d, d ≤ 2 → Ev (R := R) (StOK d)
  | 0, _ => evS (evA evNext evDig) fun j h => by unfold StOK; exact st_ok (G := gt 10000 j) (k := 10000) (d := 0) (by omega) (by omega) h.1 h.2 (fun d' e => by omega)
  | d + 1, hd => evS (evA (evA evNext evDig) (evSt d (by omega))) fun j h => by unfold StOK; exact st_ok (G := gt 10000 j) (k := 10000) (d := d + 1) (by omega) (by omega) h.1.1 h.1.2 (fun d' e => by cases e; exact h.2)
theorem evFill : ∀ d, Ev (R := R) (FillOK d)
  | 0 => evT fun G x a p c s all L left i K h => h.elim
  | d + 1 => evS (evA (evA (evA evNext evPick) (evA evEvent (evExpr 2 (by omega)))) (evA (evA (evBlock 2 (by omega)) (evBlock 1 (by omega))) (evFill d))) fun j h => by
    unfold FillOK; exact fill_ok (G := gt 10000 j) (k := 10000) (d := d + 1) (by omega) h.1.1.1 h.1.1.2 h.1.2.1 h.1.2.2 h.2.1.1 h.2.1.2 (fun d' e => by cases e; exact h.2.2)
theorem evChart : Ev (R := R) ChartOK := evS (evA (evA (evA evNext evNames) (evA evNumd evPlain)) (evA (evSt 2 (by omega)) (evFill 3))) fun j h => by
  unfold ChartOK; exact chart_ok (G := gt 10000 j) (k := 10000) (by omega) h.1.1.1 h.1.1.2 h.1.2.1 h.1.2.2 h.2.1 h.2.2
theorem evKind : Ev (R := R) KindOK := ev0 fun j => by unfold KindOK; exact kind_ok (G := gt 10000 j) (k := 10000)
theorem evIsSt : Ev (R := R) IsStOK := ev0 fun j => by unfold IsStOK; exact isst_ok (G := gt 10000 j) (k := 10000)
theorem evPut : ∀ d, Ev (R := R) (PutOK d)
  | 0 => evS (evA evKind evIsSt) fun j h => by unfold PutOK; exact put_ok (G := gt 10000 j) (k := 10000) (d := 0) (by omega) h.1 h.2 (fun d' e => by omega)
  | d + 1 => evS (evA (evA evKind evIsSt) (evPut d)) fun j h => by unfold PutOK; exact put_ok (G := gt 10000 j) (k := 10000) (d := d + 1) (by omega) h.1.1 h.1.2 (fun d' e => by cases e; exact h.2)
theorem evNodes : Ev (R := R) NodesOK := evS (evPut 3) fun j h => by unfold NodesOK; exact nodes_ok (G := gt 10000 j) (k := 10000) h
theorem evFind : Ev (R := R) FindOK := ev0 fun j => by unfold FindOK; exact find_ok (G := gt 10000 j) (k := 10000) (by omega)
theorem evIs : Ev (R := R) IsOK := ev0 fun j => by unfold IsOK; exact is_ok (G := gt 10000 j) (k := 10000)
theorem evIn : Ev (R := R) InOK := evS evIs fun j h => by unfold InOK; exact in_ok (G := gt 10000 j) (k := 10000) h
theorem evDom : Ev (R := R) DomOK := evS (evA evIs evIn) fun j h => by unfold DomOK; exact dom_ok (G := gt 10000 j) (k := 10000) (by omega) h.1 h.2
theorem evPl : Ev (R := R) PlOK := ev0 fun j => by unfold PlOK; exact pl_ok (G := gt 10000 j) (k := 10000) (by omega)
theorem evOp : Ev (R := R) OpOK := ev0 fun j => by unfold OpOK; exact op_ok (G := gt 10000 j) (k := 10000)
theorem evRExpr : ∀ d, Ev (R := R) (RExprOK d)
  | 0 => evT fun G c e a p t nd K _ h => h.elim
  | d + 1 => evS (evA (evA (evA evPl evFind) (evA evOp (evRExpr d))) (evA (P1 d) (P2 d))) fun j h => by
    unfold RExprOK; exact rexpr_ok (G := gt 10000 j) (k := 10000) h.1.1.1 h.1.1.2 h.1.2.1 h.1.2.2 h.2.1 h.2.2
where
  P1 (d : Nat) : Ev (R := R) (RBothOK 53 d) := evS (evRExpr d) fun j h => by unfold RBothOK; exact rand_ok (G := gt 10000 j) (k := 10000) h
  P2 (d : Nat) : Ev (R := R) (RBothOK 54 d) := evS (evRExpr d) fun j h => by unfold RBothOK; exact ror_ok (G := gt 10000 j) (k := 10000) h
theorem evRArg : Ev (R := R) RArgOK := evS (evRExpr 3) fun j h => by unfold RArgOK; exact rarg_ok (G := gt 10000 j) (k := 10000) h
theorem evRBl : ∀ d, Ev (R := R) (RBlOK d)
  | 0 => evS (A := RActOK 0) (evT fun G c e a p t nd K _ h => h.elim) fun j h => by unfold RBlOK; exact rbl_ok (G := gt 10000 j) (k := 10000) (by omega) h
  | d + 1 => evS (A := RActOK (d + 1)) (evS (evA (evA evPl (evRExpr 3)) (evA evRArg (evRBl d))) fun j h => by unfold RActOK; exact ract_ok (G := gt 10000 j) (k := 10000) h.1.1 h.1.2 h.2.1 h.2.2) fun j h => by unfold RBlOK; exact rbl_ok (G := gt 10000 j) (k := 10000) (by omega) h
theorem evBlk : Ev (R := R) (BlkOK 3) := evS (evRBl 3) fun j h => by unfold BlkOK; exact blk_ok (G := gt 10000 j) (k := 10000) (by decide) h
theorem evGd : Ev (R := R) GdOK := evS (evRExpr 3) fun j h => by unfold GdOK; exact gd_ok (G := gt 10000 j) (k := 10000) h
theorem evTexts : Ev (R := R) TextsOK := ev0 fun j => by unfold TextsOK; exact texts_ok (G := gt 10000 j) (k := 10000) (by omega)
theorem evNamesC : Ev (R := R) NamesC := evS (evA evTexts evNodes) fun j h => by unfold NamesC; exact names_c (G := gt 10000 j) (k := 10000) h.1 h.2
theorem evLb : Ev (R := R) LbOK := evS evBlk fun j h => by unfold LbOK; exact lb_ok (G := gt 10000 j) (k := 10000) h
theorem evSts : ∀ d, Ev (R := R) (StsOK d)
  | 0 => evS (evA (evA evFind evDom) (evA evLb evGd)) fun j h => by unfold StsOK; exact sts_ok (G := gt 10000 j) (k := 10000) (d := 0) (by omega) h.1.1 h.1.2 h.2.1 h.2.2 (fun d' e => by omega)
  | d + 1 => evS (evA (evA (evA evFind evDom) (evA evLb evGd)) (evSts d)) fun j h => by unfold StsOK; exact sts_ok (G := gt 10000 j) (k := 10000) (d := d + 1) (by omega) h.1.1.1 h.1.1.2 h.1.2.1 h.1.2.2 (fun d' e => by cases e; exact h.2)
theorem evTab : Ev (R := R) TabOK := evS (evA (evA evNamesC evTexts) (evA evNodes (evSts 3))) fun j h => by unfold TabOK; exact tab_ok (G := gt 10000 j) (k := 10000) (by omega) h.1.1 h.1.2 h.2.1 h.2.2
theorem evTbl : Ev (R := R) TblOK := evS (evA evChart evTab) fun j h => by unfold TblOK; exact tbl_ok (G := gt 10000 j) (k := 10000) h.1 h.2
theorem evRPair : Ev (R := R) RPairOK := evS evIn fun j h => by unfold RPairOK; exact rpair_ok (G := gt 10000 j) (k := 10000) h
theorem evCIs : Ev (R := R) CIsOK := ev0 fun j => by unfold CIsOK; exact cis_ok (G := gt 10000 j) (k := 10000)
theorem evCIn : Ev (R := R) CInOK := evS evCIs fun j h => by unfold CInOK; exact cin_ok (G := gt 10000 j) (k := 10000) h
theorem evCPair : Ev (R := R) CPairOK := evS evCIn fun j h => by unfold CPairOK; exact cpair_ok (G := gt 10000 j) (k := 10000) h
theorem evMat : Ev (R := R) MatOK := evS evCPair fun j h => by unfold MatOK; exact mat_ok (G := gt 10000 j) (k := 10000) (by omega) h
/-- The example holds. -/
def KnOK (G : ORC R) : Prop := ∀ K : List V → Option R, G 6 [] K = K [.bool true]
theorem evKn : Ev (R := R) KnOK := by
  refine ⟨10, fun j hj => ?_⟩
  obtain ⟨j', rfl⟩ : ∃ j', j = j' + 10 := ⟨j - 10, by omega⟩
  intro K
  show _ = _
  kernel_rfl
end
end Go.Proofs.Ytjbppcgcblfkoaa.Vm
open Go Go.VM
set_option linter.unusedVariables false
set_option linter.unusedSimpArgs false
set_option maxRecDepth 100000
set_option maxHeartbeats 8000000
namespace Go.Proofs.Ytjbppcgcblfkoaa.Vm
section
variable {R : Type} {G : ORC R} {k : Nat} {K : List V → Option R}
theorem rowsP_get {l : List Nd} {as_ es : List V} {i : Nat} {e : V} (h : as_[i]? = some e) : (rowsP l as_ es)[i]? = some (.sl 1 (rowP l (domE e) es)) := by unfold rowsP; rw [List.getElem?_map, h]; rfl
theorem rowP_get {l : List Nd} {a : Int} {es : List V} {i : Nat} {e : V} (h : es[i]? = some e) : (rowP l a es)[i]? = some (.bool (pairN l a (domE e))) := by unfold rowP; rw [List.getElem?_map, h]; rfl
theorem rowsP_len {l : List Nd} {as_ es : List V} : (rowsP l as_ es).length = as_.length := by simp [rowsP]
theorem rowP_len {l : List Nd} {a : Int} {es : List V} : (rowP l a es).length = es.length := by simp [rowP]
theorem inN_self {l : List Nd} {a b : Int} (h : inN l a b = true) : inN l b b = true := by
  unfold inN at h ⊢
  simp only [Bool.and_eq_true, decide_eq_true_eq] at h
  obtain ⟨⟨h1, h2, h3, h4, h5⟩, h6⟩ := h
  rw [decide_eq_true (show 0 ≤ b ∧ b < l.length ∧ 0 ≤ b ∧ b < l.length ∧ b ≥ b from ⟨h3, h4, h3, h4, by omega⟩)]
  cases hn : l[b.toNat]? with
  | none => rw [hn] at h6; cases h6
  | some n => rw [hn] at h6; simp at h6; simp; omega
theorem domAt_in {l : List Nd} {a b : Int} {i : Nat} (h : domAt l a b i = true) : inN l a i = true ∧ inN l b i = true ∧ (i : Int) ≠ a ∧ (i : Int) ≠ b := by
  unfold domAt at h
  simp only [Bool.and_eq_true, decide_eq_true_eq] at h
  exact ⟨h.1.2, h.2, h.1.1.1.2, h.1.1.2⟩
theorem edge_dom {ns : List Nd} {e : V} (h : EdgeS ns e) : domE e = -1 ∨ (0 ≤ domE e ∧ inN ns (domE e) (domE e) = true) := by
  obtain ⟨fr, to, dom, gd, ac, ev, rfl, _, _, _, h4, _⟩ := h
  show dom = -1 ∨ _
  rcases h4 with ⟨_, h⟩ | ⟨_, _, h⟩
  · exact .inl h
  · rcases domGo_at (l := ns) (a := fr) (b := to) (i := ns.length) with e | ⟨i, h1, h2, h3⟩
    · exact .inl (by rw [h]; exact e)
    · right
      have e2 : dom = (i : Int) := by rw [h]; exact h2
      show 0 ≤ dom ∧ inN ns dom dom = true
      rw [e2]
      exact ⟨by omega, inN_self (domAt_in h3).1⟩
theorem pair_self {ns ns0 : List Nd} {e : V} (hc : CoreEq ns ns0) (h : EdgeS ns0 e) : pairN ns (domE e) (domE e) = decide (domE e ≥ 0) := by
  unfold pairN
  rcases edge_dom h with h | ⟨h1, h2⟩
  · rw [h]; rfl
  · rw [inN_core hc, h2, decide_eq_true (show domE e ≥ 0 from h1)]; rfl
variable {Q : List V → Prop} {ns ns0 : List Nd} {es vars ports timers codes : List V} {nm : ByteArray} {st fu : Int}
theorem tells_in (hRP : RPairOK G) (hCP : CPairOK G) (he : ∀ e ∈ es, EdgeS ns0 e) (hel : es.length ≤ 100) {a : Nat} {ea : V} (hea : es[a]? = some ea)
    {Ko : List V → Int → ByteArray → Int → Int → List V → List V → List V → List V → List V → List V → Option R} {Kr : Bool → Option R} (hKo : W Q K (Ko (rowsP ns es es) a nm st fu vars ports timers (ns.map Nd.v) es codes)) :
    ∀ (j b : Nat), es.length - b < j → b ≤ es.length → W Q K (l3_2g G k Ko Kr j (rowsP ns es es) a b nm st fu vars ports timers (ns.map Nd.v) es codes)
  | 0, b, h1, h2 => by omega
  | j + 1, b, h1, h2 => by
    show W Q K (b3_2 G k (l3_2g G k Ko Kr j) Ko Kr (rowsP ns es es) a b nm st fu vars ports timers (ns.map Nd.v) es codes)
    unfold b3_2
    simp only [rowsP_len, Int.toNat_natCast]
    have ha : a < es.length := by
      rcases Nat.lt_or_ge a es.length with h | h
      · exact h
      · rw [List.getElem?_eq_none h] at hea; cases hea
    refine W_dec (fun h => ?_) (fun _ => hKo)
    obtain ⟨eb, heb⟩ : ∃ eb, es[b]? = some eb := ⟨_, List.getElem?_eq_getElem (by omega)⟩
    have hae := List.mem_of_getElem? hea
    have hbe := List.mem_of_getElem? heb
    obtain ⟨a1, a2, a3, a4, a5, s, ea1, ha3⟩ := edge_ed (he ea hae)
    obtain ⟨b1, b2, b3, b4, b5, t, eb1, hb3⟩ := edge_ed (he eb hbe)
    have da : domE ea = a3 := by rw [ea1]; rfl
    have db : domE eb = b3 := by rw [eb1]; rfl
    unfold RPairOK at hRP; unfold CPairOK at hCP
    refine W_and (W_yes (by omega) (W_yes (by omega) (W_nth ha (fun v hv _ => ?_))))
    rw [hea, Option.some.injEq] at hv; rw [← hv, ea1]
    refine W_asAgg (W_and (W_yes (by omega) (W_yes (by omega) (W_nth (by omega) (fun v hv _ => ?_)))))
    rw [heb, Option.some.injEq] at hv; rw [← hv, eb1]
    refine W_asAgg (W_call (hRP ns a1 a2 a3 a4 a5 b1 b2 b3 b4 b5 s t _) ?_)
    rintro _ rfl
    (repeat (with_reducible (first | (refine W_unCons ?_) | (refine W_unNil ?_) | (refine W_asInt ?_) | (refine W_asBool ?_) | (refine W_asStr ?_) | (refine W_asSl ?_) | (refine W_asAgg ?_) | (refine W_kd ?_) | (refine W_z ?_))))
    refine W_and (W_yes (by omega) (W_yes (by omega) (W_nth (by rw [rowsP_len]; exact ha) (fun v hv _ => ?_))))
    rw [rowsP_get hea, Option.some.injEq] at hv; rw [← hv]
    refine W_asSl (W_and (W_and (W_z (W_yes (by omega) (W_yes (by rw [rowP_len]; omega) (W_nth (by rw [rowP_len]; omega) (fun v hv _ => ?_)))))))
    rw [rowP_get heb, Option.some.injEq] at hv; rw [← hv, da, db]
    refine W_asBool (W_not (W_chk (beq_self_eq_true _) ?_))
    refine W_and (W_yes (by omega) (W_yes (by omega) (W_nth (by rw [rowsP_len]; omega) (fun v hv _ => ?_))))
    rw [rowsP_get heb, Option.some.injEq] at hv; rw [← hv]
    refine W_asSl (W_and (W_and (W_z (W_yes (by omega) (W_yes (by rw [rowP_len]; omega) (W_nth (by rw [rowP_len]; omega) (fun v hv _ => ?_)))))))
    rw [rowP_get hea, Option.some.injEq] at hv; rw [← hv, da, db, pairN_comm]
    refine W_asBool (W_not (W_chk (beq_self_eq_true _) ?_))
    refine W_and (W_yes (by omega) (W_yes (by omega) (W_nth ha (fun v hv _ => ?_))))
    rw [hea, Option.some.injEq] at hv; rw [← hv, ea1]
    refine W_asAgg (W_and (W_yes (by omega) (W_yes (by omega) (W_nth (by omega) (fun v hv _ => ?_)))))
    rw [heb, Option.some.injEq] at hv; rw [← hv, eb1]
    refine W_asAgg (W_call (hCP ns a1 a2 a3 a4 a5 b1 b2 b3 b4 b5 s t _ ha3 hb3) ?_)
    rintro _ rfl
    (repeat (with_reducible (first | (refine W_unCons ?_) | (refine W_unNil ?_) | (refine W_asInt ?_) | (refine W_asBool ?_) | (refine W_asStr ?_) | (refine W_asSl ?_) | (refine W_asAgg ?_) | (refine W_kd ?_) | (refine W_z ?_))))
    refine W_not (W_chk (beq_self_eq_true _) ?_)
    rw [wrap_id (n := (b : Int) + 1) (by omega)]
    exact tells_in hRP hCP he hel hea hKo j (b + 1) (by omega) (by omega)
theorem tells_out (hk : 1000 ≤ k) (hRP : RPairOK G) (hCP : CPairOK G) (hc : CoreEq ns ns0) (he : ∀ e ∈ es, EdgeS ns0 e) (hel : es.length ≤ 100)
    {Ko : Unit → Option R} {Kr : Bool → Option R} (hKo : W Q K (Ko ())) :
    ∀ (j a : Nat), es.length - a < j → a ≤ es.length → W Q K (l3_0g G k Ko Kr j (rowsP ns es es) a nm st fu vars ports timers (ns.map Nd.v) es codes)
  | 0, b, h1, h2 => by omega
  | j + 1, a, h1, h2 => by
    show W Q K (b3_0 G k (l3_0g G k Ko Kr j) Ko Kr (rowsP ns es es) a nm st fu vars ports timers (ns.map Nd.v) es codes)
    unfold b3_0
    simp only [rowsP_len, Int.toNat_natCast]
    refine W_dec (fun h => ?_) (fun _ => hKo)
    obtain ⟨ea, hea⟩ : ∃ ea, es[a]? = some ea := ⟨_, List.getElem?_eq_getElem (by omega)⟩
    have hae := List.mem_of_getElem? hea
    obtain ⟨a1, a2, a3, a4, a5, s, ea1, ha3⟩ := edge_ed (he ea hae)
    have da : domE ea = a3 := by rw [ea1]; rfl
    refine W_and (W_yes (by omega) (W_yes (by omega) (W_nth (by rw [rowsP_len]; omega) (fun v hv _ => ?_))))
    rw [rowsP_get hea, Option.some.injEq] at hv; rw [← hv]
    refine W_asSl ?_
    refine W_chk' (by rw [rowP_len]; simp) ?_
    unfold l3_2
    refine tells_in hRP hCP he hel hea ?_ k 0 (by omega) (by omega)
    simp only [rowsP_len, Int.toNat_natCast]
    refine W_and (W_yes (by omega) (W_yes (by omega) (W_nth (by rw [rowsP_len]; omega) (fun v hv _ => ?_))))
    rw [rowsP_get hea, Option.some.injEq] at hv; rw [← hv]
    refine W_asSl (W_and (W_and (W_z (W_yes (by omega) (W_yes (by rw [rowP_len]; omega) (W_nth (by rw [rowP_len]; omega) (fun v hv _ => ?_)))))))
    rw [rowP_get hea, Option.some.injEq] at hv; rw [← hv]
    refine W_asBool (W_and (W_yes (by omega) (W_yes (by omega) (W_nth (by omega) (fun v hv _ => ?_)))))
    rw [hea, Option.some.injEq] at hv; rw [← hv]
    rw [pair_self hc (he ea hae), da, ea1]
    (repeat (with_reducible (first | (refine W_unCons ?_) | (refine W_unNil ?_) | (refine W_asInt ?_) | (refine W_asBool ?_) | (refine W_asStr ?_) | (refine W_asSl ?_) | (refine W_asAgg ?_) | (refine W_kd ?_) | (refine W_z ?_))))
    refine W_not (W_chk (beq_self_eq_true _) ?_)
    rw [wrap_id (n := (a : Int) + 1) (by omega)]
    exact tells_out hk hRP hCP hc he hel hKo j (a + 1) (by omega) (by omega)
def TellsOK (G : ORC R) : Prop := ∀ (v : List V) (i j : Int) (K : List V → Option R), IntsS v → W (fun o => o = [.bool true]) K (G 3 [.sl 1 v, .int .i64 i, .int .i64 j] K)
theorem tells_ok (hk : 1000 ≤ k) (hKn : KnOK G) (hT : TblOK G) (hM : MatOK G) (hRP : RPairOK G) (hCP : CPairOK G) : TellsOK (fun _ args (K : List V → Option R) => g3 G k args K) := by
  intro v i j K hv
  show W _ K (f3 G k v i j K)
  unfold f3
  have kn : W (fun o => o = [.bool true]) K (G 6 [] fun o4 => unCons o4 fun c5 r6 => V.asBool c5 fun b7 => unNil r6 (K [.bool b7])) := by
    rw [hKn]
    (repeat (with_reducible (first | (refine W_unCons ?_) | (refine W_unNil ?_) | (refine W_asInt ?_) | (refine W_asBool ?_) | (refine W_asStr ?_) | (refine W_asSl ?_) | (refine W_asAgg ?_) | (refine W_kd ?_) | (refine W_z ?_))))
    exact W_ret rfl
  refine W_dec (fun _ => kn) (fun h => ?_)
  unfold TblOK at hT; unfold MatOK at hM
  refine W_call (hT v _ hv (by omega)) ?_
  rintro _ ⟨t, rfl, nm, st, fu, vars, ports, timers, ns, ns0, es, codes, rfl, t1, t2, t3, t4, t5, t6, t7, t8, t9⟩
  (repeat (with_reducible (first | (refine W_unCons ?_) | (refine W_unNil ?_) | (refine W_asInt ?_) | (refine W_asBool ?_) | (refine W_asStr ?_) | (refine W_asSl ?_) | (refine W_asAgg ?_) | (refine W_kd ?_) | (refine W_z ?_))))
  refine W_call (hM ns es _ (fun e he => edge_ed (t7 e he)) (by omega)) ?_
  rintro _ rfl
  (repeat (with_reducible (first | (refine W_unCons ?_) | (refine W_unNil ?_) | (refine W_asInt ?_) | (refine W_asBool ?_) | (refine W_asStr ?_) | (refine W_asSl ?_) | (refine W_asAgg ?_) | (refine W_kd ?_) | (refine W_z ?_))))
  refine W_chk' (by rw [rowsP_len]; simp) ?_
  unfold l3_0
  exact tells_out (a := 0) hk hRP hCP t4 t7 (by omega) kn k (by omega) (by omega)
end
end Go.Proofs.Ytjbppcgcblfkoaa.Vm
