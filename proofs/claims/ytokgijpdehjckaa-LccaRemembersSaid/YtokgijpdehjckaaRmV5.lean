/- The machine of values, told and shown true: a part. -/
import Derived.Test.YtokgijpdehjckaaRmV3
import Derived.Recover
import Derived.Laws.Cover3
set_option linter.unusedVariables false
set_option linter.unusedSimpArgs false
namespace Go.VM
def splitD (q : Oper → Bool) : Code → Option (List Code × Nat × Array Oper × List Code)
  | .seq a b => match splitD q a with
    | some (xs, r, ops, ys) => some (xs, r, ops, ys ++ [b])
    | none => match splitD q b with
      | some (xs, r, ops, ys) => some (a :: xs, r, ops, ys)
      | none => none
  | .region id ops false => match ops.back? with
    | some o => bif q o then some ([], id, ops, []) else none
    | none => none
  | _ => none
section
variable {P : Program} {Q : Exit → Act → World → Prop}
def wpL (P : Program) : List Code → (Act → World → Prop) → (Exit → Act → World → Prop) → Act → World → Prop
  | [], N, Q, a, w => N a w
  | c :: cs, N, Q, a, w => c.wp P (Exit.then (wpL P cs N Q) Q) a w
theorem then_then {M N : Act → World → Prop} : ∀ e a w, Exit.then M Q e a w → Exit.then M (Exit.then N Q) e a w := by
  intro e a w h; cases e <;> exact h
theorem wpL_mono {Q : Exit → Act → World → Prop} : ∀ {cs : List Code} {N N' : Act → World → Prop} {a : Act} {w : World}, wpL P cs N Q a w → (∀ a w, N a w → N' a w) → wpL P cs N' Q a w
  | [], N, N', a, w, h, hn => hn _ _ h
  | c :: cs, N, N', a, w, h, hn => wp_mono h fun e a w q => by
    cases e with
    | normal => exact wpL_mono (cs := cs) q hn
    | _ => exact q
theorem wpL_app : ∀ {xs ys : List Code} {N : Act → World → Prop} {a : Act} {w : World}, wpL P (xs ++ ys) N Q a w → wpL P xs (wpL P ys N Q) Q a w
  | [], ys, N, a, w, h => h
  | c :: xs, ys, N, a, w, h => wp_mono h fun e a w q => by
    cases e with
    | normal => exact wpL_app (xs := xs) q
    | _ => exact q
theorem wp_split {q : Oper → Bool} : ∀ {c : Code} {xs ys : List Code} {r : Nat} {ops : Array Oper} {N : Act → World → Prop} {a : Act} {w : World}, splitD q c = some (xs, r, ops, ys) →
    wpL P xs (fun a w => (Code.region r ops false).wp P (Exit.then (wpL P ys N Q) Q) a w) Q a w → c.wp P (Exit.then N Q) a w := by
  intro c
  induction c with
  | seq x y ihx ihy =>
    intro xs ys r ops N a w hs h
    unfold splitD at hs
    cases hx : splitD q x with
    | some qq =>
      obtain ⟨xs', r', ops', ys'⟩ := qq
      rw [hx] at hs
      simp only [Option.some.injEq, Prod.mk.injEq] at hs
      obtain ⟨rfl, rfl, rfl, rfl⟩ := hs
      refine wp_seq (wp_mono (ihx (N := fun a w => y.wp P (Exit.then N Q) a w) hx (wpL_mono h fun a w h => wp_mono h fun e a w q => ?_)) then_then)
      cases e with
      | normal => exact wpL_app (xs := ys') (ys := [y]) q
      | _ => exact q
    | none =>
      rw [hx] at hs
      dsimp only at hs
      cases hy : splitD q y with
      | none => rw [hy] at hs; cases hs
      | some qq =>
        obtain ⟨xs', r', ops', ys'⟩ := qq
        rw [hy] at hs
        simp only [Option.some.injEq, Prod.mk.injEq] at hs
        obtain ⟨rfl, rfl, rfl, rfl⟩ := hs
        refine wp_seq (wp_mono (wp_mono h fun e a w q => ?_) then_then)
        cases e with
        | normal => exact ihy hy q
        | _ => exact q
  | region id ops draw =>
    intro xs ys r ops' N a w hs h
    cases draw with
    | true => cases hs
    | false =>
      unfold splitD at hs
      split at hs
      · rename_i o ho
        cases hq : q o with
        | false => rw [hq] at hs; cases hs
        | true =>
          rw [hq] at hs
          simp only [cond_true, Option.some.injEq, Prod.mk.injEq] at hs
          obtain ⟨rfl, rfl, rfl, rfl⟩ := hs
          exact h
      · cases hs
  | _ => intro xs ys r ops N a w hs h; cases hs
theorem upon_then {o : Oper} {a : Act} {next N : Act → World → Prop} (r : Result Next) : o.upon P a next (Exit.then N Q) r = o.upon P a next Q r := by
  cases r with
  | ok n w => cases n <;> rfl
  | halt x w => cases x <;> rfl
theorem wpOps_app {ops : Array Oper} : ∀ {L L2 : List Nat} {a : Act} {w : World}, wpOps P ops (Exit.then (wpOps P ops Q L2) Q) L a w → wpOps P ops Q (L ++ L2) a w
  | [], L2, a, w, h => h
  | i :: L, L2, a, w, h => by
    rw [wpOps_cons] at h
    rw [List.cons_append, wpOps_cons]
    unfold wpOp at h ⊢
    cases ho : ops[i]? with
    | none => rw [ho] at h; exact wpOps_app h
    | some o =>
      rw [ho] at h
      dsimp only at h ⊢
      split at h
      · rename_i hw
        simp only [hw, if_true]
        rcases h with h | ⟨h1, a', w', h2⟩
        · refine .inl (Oper.wp_mono (K := wpOps P ops (Exit.then (wpOps P ops Q L2) Q) L) (fun a w h => wpOps_app h) ?_)
          unfold Oper.wp at h ⊢
          rw [upon_then] at h
          exact h
        · exact .inr ⟨h1, a', w', h2⟩
      · rename_i hw
        simp only [hw, if_false, Bool.false_eq_true]
        exact wpOps_app h
end
section
variable {R : Type}
def execL (E : Env) (G : FuncId → List V → (List V → Option R) → Option R) (L : Nat → St → (Ex → St → Option R) → Option R) : List Code → St → (Ex → St → Option R) → Option R
  | [], S, K => K .normal S
  | c :: cs, S, K => exec E G L c S fun e S => match e with
    | .normal => execL E G L cs S K
    | e => K e S
variable {P : Program} {EE : FuncId → Env} {E : Env} {G : FuncId → List V → (List V → Option R) → Option R} {L : Nat → St → (Ex → St → Option R) → Option R}
theorem execL_sound (hE : EnvOK P E) (hEE : ∀ f, EnvOK P (EE f)) (hsig : ∀ f, (EE f).sig = E.sig) (hpan : ∀ f, (EE f).panT = E.panT) (hmo : P.follows .mixedOrders = true)
    (hG : ∀ f args (K : List V → Option R) r, G f args K = some r → ∃ o, CallOK P EE f args o ∧ K o = some r) :
    ∀ {cs : List Code} {S : St} {K : Ex → St → Option R} {r : R}, (∀ c ∈ cs, LoopsAre E G L c) → execL E G L cs S K = some r →
      ∃ e S', K e S' = some r ∧ ∀ (fr : Fr) (a : Act) (w : World) (N : Act → World → Prop) (Q : Exit → Act → World → Prop), fr.base = E.base → (∀ b β, fr.bb0 b = some β → b ∈ E.kp) → SimX fr S a w →
        (∀ a' w', e = .normal → SimX fr S' a' w' → N a' w') → (∀ x a' w', x ≠ .normal → EndX E.panT fr e S' x a' w' → Q x a' w') → wpL P cs N Q a w
  | [], S, K, r, hL, h => ⟨.normal, S, h, fun fr a w N Q _ _ hs hN _ => hN a w rfl hs⟩
  | c :: cs, S, K, r, hL, h => by
    obtain ⟨e1, S1, h1, h2⟩ := (exec_some hG).1 (hL c List.mem_cons_self) h
    have hw := (exec_sound hE hEE hsig hpan hmo h1).1
    have other : e1 ≠ .normal → K e1 S1 = some r → ∃ e S', K e S' = some r ∧ ∀ (fr : Fr) (a : Act) (w : World) (N : Act → World → Prop) (Q : Exit → Act → World → Prop), fr.base = E.base → (∀ b β, fr.bb0 b = some β → b ∈ E.kp) → SimX fr S a w →
        (∀ a' w', e = .normal → SimX fr S' a' w' → N a' w') → (∀ x a' w', x ≠ .normal → EndX E.panT fr e S' x a' w' → Q x a' w') → wpL P (c :: cs) N Q a w := fun hne hk =>
      ⟨e1, S1, hk, fun fr a w N Q hb hbb hs hN hQ => wp_mono (hw fr a w hb hbb hs) fun x a' w' q => by
        cases x with
        | normal => exact absurd q.1 hne
        | _ => exact hQ _ a' w' (by simp) q⟩
    cases e1 with
    | normal =>
      obtain ⟨e, S', k1, k2⟩ := execL_sound hE hEE hsig hpan hmo hG (fun d hd => hL d (List.mem_cons_of_mem _ hd)) h2
      refine ⟨e, S', k1, fun fr a w N Q hb hbb hs hN hQ => wp_mono (hw fr a w hb hbb hs) fun x a' w' q => ?_⟩
      cases x with
      | normal => exact k2 fr a' w' N Q hb hbb q.2 hN hQ
      | exit i => exact absurd q.1 (by simp)
      | ret => exact absurd q.1 (by simp)
      | panic ch => obtain ⟨n, e, _⟩ := q; cases e
      | _ => exact q.elim
    | exit i => exact other (by simp) h2
    | ret => exact other (by simp) h2
    | pan n => exact other (by simp) h2
end
def rec1 (c : Array Value) (off : Nat) (n : Int) : Array Value := (c.toList.take off ++ [Value.int .i64 n] ++ c.toList.drop (off + 1)).toArray
def recW (w : World) (β : Nat) (c : Array Value) (n : Int) : World := (w.setRow β (rec1 c 0 0)).setRow β (rec1 (rec1 c 0 0) 5 n)
structure Catches (P : Program) (gf : FuncId) (T : TypeId) : Prop where
  fn : ∃ fn, P.funcs[gf]? = some fn ∧ (fn.name == "runtime.NumGoroutine") = false ∧ fn.body.isNone = false
  pan : ∀ (β : Nat) (c : Array Value) (ty : TypeId) (w : World) (n : Int), w.heap[β]? = some (.cells c ty (0, 0)) → c.size = 6 → CallsD P gf #[.pointer (some ⟨β, 0, none⟩)] (.panicking (thrown T n)) w fun e u' w' => (∃ v, e = .returned v) ∧ u' = .panicking [{ v := .iface T (.int .i64 n), recovered := true }] ∧ w' = recW w β c n
  idle : ∀ (β : Nat) (w : World), CallsD P gf #[.pointer (some ⟨β, 0, none⟩)] .returning w fun e u' w' => (∃ v, e = .returned v) ∧ u' = .returning ∧ w' = w
def finD {R : Type} (E : Env) (f : Func) (g : Sig) (S : St) (K : List V → Option R) : Option R := match finish E f g S with | some o => K o | none => none
section
variable {P : Program} {fr : Fr} {S : St} {a : Act} {w : World} {g : Gh}
end
section
variable {R : Type} {P : Program} {EE : FuncId → Env} {G : FuncId → List V → (List V → Option R) → Option R} {L : Nat → St → (Ex → St → Option R) → Option R}
theorem loops_split {E : Env} {q : Oper → Bool} : ∀ {c : Code} {xs ys : List Code} {r : Nat} {ops : Array Oper}, splitD q c = some (xs, r, ops, ys) → LoopsAre E G L c → (∀ x ∈ xs, LoopsAre E G L x) ∧ ∀ y ∈ ys, LoopsAre E G L y := by
  intro c
  induction c with
  | seq x y ihx ihy =>
    intro xs ys r ops hs hL
    unfold splitD at hs
    cases hx : splitD q x with
    | some qq =>
      obtain ⟨xs', r', ops', ys'⟩ := qq
      rw [hx] at hs
      simp only [Option.some.injEq, Prod.mk.injEq] at hs
      obtain ⟨rfl, rfl, rfl, rfl⟩ := hs
      obtain ⟨k1, k2⟩ := ihx hx hL.1
      refine ⟨k1, fun z hz => ?_⟩
      rcases List.mem_append.1 hz with hz | hz
      · exact k2 z hz
      · rw [List.mem_singleton.1 hz]; exact hL.2
    | none =>
      rw [hx] at hs
      dsimp only at hs
      cases hy : splitD q y with
      | none => rw [hy] at hs; cases hs
      | some qq =>
        obtain ⟨xs', r', ops', ys'⟩ := qq
        rw [hy] at hs
        simp only [Option.some.injEq, Prod.mk.injEq] at hs
        obtain ⟨rfl, rfl, rfl, rfl⟩ := hs
        obtain ⟨k1, k2⟩ := ihy hy hL.2
        refine ⟨fun z hz => ?_, k2⟩
        rcases List.mem_cons.1 hz with rfl | hz
        · exact hL.1
        · exact k1 z hz
  | region id ops draw =>
    intro xs ys r ops' hs hL
    cases draw with
    | true => cases hs
    | false =>
      unfold splitD at hs
      split at hs
      · rename_i o ho
        cases hq : q o with
        | false => rw [hq] at hs; cases hs
        | true =>
          rw [hq] at hs
          simp only [cond_true, Option.some.injEq, Prod.mk.injEq] at hs
          obtain ⟨rfl, rfl, rfl, rfl⟩ := hs
          exact ⟨by simp, by simp⟩
      · cases hs
  | _ => intro xs ys r ops hs; cases hs
def isNil (o : Oper) : Bool := match o.guard, o.op, o.dst with
  | none, .binOp .eql _ (.tmp _) (.const (.slice none 0 0)) _, some _ => true
  | _, _, _ => false
def nilX (E : Env) (ops : Array Oper) : Option (Tmp × Tmp) := match ops.back? with
  | some o => match o.guard, o.op, o.dst with
    | none, .binOp .eql T (.tmp x) (.const (.slice none 0 0)) _, some t => match E.ty T with
      | some d => (match d.under with | .slice _ => some (x, t) | _ => none)
      | none => none
    | _, _, _ => none
  | none => none
def finN (E : Env) (f : Func) (g : Sig) (e : Ex) (S : St) : Option (List V) := match e with
  | .normal => finD E f g S some
  | .ret => finD E f g S some
  | _ => none
def G0 {R : Type} : FuncId → List V → (List V → Option R) → Option R := fun _ _ _ => none
def L0 {R : Type} : Nat → St → (Ex → St → Option R) → Option R := fun _ _ _ => none
def callN (E : Env) (f : Func) (g : Sig) (vs : List V) : Option (List V × Option (List V)) :=
  match splitD isNil (bodyOf f) with
  | some (xs, rg, ops, ys) => execL E G0 L0 xs (initSt g f.ntmps vs) fun e S => match e with
    | .normal => runSeq E G0 ops rg (List.range (ops.size - 1)) S fun p S => match p, nilX E ops with
      | none, some (x, t) => (val1 (.tmp x) fun v => .asSl v fun z l => .ret [.slot t (.one (.sl z l) .pr)]).run G0 S 0 fun ws _ => match ws with
        | [.slot _ (.one (.sl _ l) _)] => (execL E G0 L0 ys (Wr.apps [.slot t (.one (.bool false) .pr)] S) (finN E f g)).bind fun o0 => match l with
          | [] => (execL E G0 L0 ys (Wr.apps [.slot t (.one (.bool true) .pr)] S) (finN E f g)).bind fun o1 => some (o0, some o1)
          | _ :: _ => some (o0, none)
        | _ => none
      | _, _ => none
    | _ => none
  | none => none
theorem nilX_some {E : Env} {ops : Array Oper} {x t : Tmp} (hE : EnvOK P E) (h : nilX E ops = some (x, t)) : ∃ o T yt, ops.back? = some o ∧ o.guard = none ∧ o.op = .binOp .eql T (.tmp x) (.const (.slice none 0 0)) yt ∧ o.dst = some t ∧ ∃ e, P.underlying T = some (.slice e) := by
  unfold nilX at h
  split at h
  · rename_i o ho
    split at h
    · rename_i T x' yt t' hg hop hd
      split at h
      · rename_i d hT
        split at h
        · rename_i e hu
          simp only [Option.some.injEq, Prod.mk.injEq] at h
          obtain ⟨rfl, rfl⟩ := h
          obtain ⟨u, q1, q2⟩ := (hE _ _ hT).under
          exact ⟨o, T, yt, ho, hg, hop, hd, e, by rw [q1, ut_slice (q2.trans hu)]⟩
        · cases h
      · cases h
    · cases h
  · cases h
theorem callN_ok {f : FuncId} {fn : Func} {sg : Sig}
    (hEE : ∀ f, EnvOK P (EE f)) (hsig : ∀ f g, (EE f).sig = (EE g).sig) (hpan : ∀ f g, (EE f).panT = (EE g).panT) (hkp : ∀ f b, b < (EE f).base → b ∈ (EE f).kp) (hmo : P.follows .mixedOrders = true) (hf : P.funcs[rf f]? = some fn) (hsg : (EE f).sig f = some sg) (hn : (fn.name == "runtime.NumGoroutine") = false) (hnt : sg.params.length ≤ fn.ntmps) (hb : (EE f).base = sg.boxes.length) (hnp : sg.pan = false) (hbody : fn.body.isNone = false)
    (hL : ∀ {R : Type}, LoopsAre (R := R) (EE f) G0 L0 (bodyOf fn)) {vs o : List V} {q : Option (List V)} (h : callN (EE f) fn sg vs = some (o, q)) (hq : ∀ o1, q = some o1 → o1 = o) : CallOK P EE f vs o := by
  have hG : ∀ {R : Type} (f : FuncId) args (K : List V → Option R) r, G0 f args K = some r → ∃ o, CallOK P EE f args o ∧ K o = some r := fun f args K r h => by cases h
  have hsig' := fun f' => hsig f' f
  have hpan' := fun f' => hpan f' f
  unfold callN at h
  cases hs : splitD isNil (bodyOf fn) with
  | none => rw [hs] at h; cases h
  | some qq =>
  obtain ⟨xs, rg, ops, ys⟩ := qq
  rw [hs] at h
  dsimp only at h
  obtain ⟨hLx, _⟩ := loops_split hs (hL (R := List V × Option (List V)))
  obtain ⟨_, hLy⟩ := loops_split hs (hL (R := List V))
  obtain ⟨e1, S1, h1, hw1⟩ := execL_sound (hEE f) hEE hsig' hpan' hmo hG hLx h
  cases e1 with
  | exit i => cases h1
  | ret => cases h1
  | pan n => cases h1
  | normal =>
  dsimp only at h1
  obtain ⟨p, S2, hrun, h2⟩ := runSeq_some hG h1
  cases p with
  | some n => cases h2
  | none =>
  cases hd : nilX (EE f) ops with
  | none => rw [hd] at h2; cases h2
  | some xt =>
  obtain ⟨x, t⟩ := xt
  rw [hd] at h2
  dsimp only at h2
  obtain ⟨ws, rm, hp, h3⟩ := run_rel hG S2 _ _ _ _ h2
  have ends : ∀ (b : Bool) (o' : List V), execL (EE f) G0 L0 ys (Wr.apps [.slot t (.one (.bool b) .pr)] S2) (finN (EE f) fn sg) = some o' →
      ∃ e3 S3, (e3 = .normal ∨ e3 = .ret) ∧ finish (EE f) fn sg S3 = some o' ∧ ∀ (fr : Fr) (a : Act) (w : World) (N : Act → World → Prop) (Q : Exit → Act → World → Prop), fr.base = (EE f).base → (∀ b β, fr.bb0 b = some β → b ∈ (EE f).kp) → SimX fr (Wr.apps [.slot t (.one (.bool b) .pr)] S2) a w →
        (∀ a' w', e3 = .normal → SimX fr S3 a' w' → N a' w') → (∀ x a' w', x ≠ .normal → EndX (EE f).panT fr e3 S3 x a' w' → Q x a' w') → wpL P ys N Q a w := fun b o' hx => by
    obtain ⟨e3, S3, k1, k2⟩ := execL_sound (hEE f) hEE hsig' hpan' hmo hG hLy hx
    refine ⟨e3, S3, ?_⟩
    have fin : finD (EE f) fn sg S3 some = some o' → finish (EE f) fn sg S3 = some o' := fun hq => by
      unfold finD at hq
      cases ho : finish (EE f) fn sg S3 with
      | none => rw [ho] at hq; cases hq
      | some o => rw [ho] at hq; exact hq
    cases e3 with
    | exit i => cases k1
    | pan n => cases k1
    | normal => exact ⟨.inl rfl, fin k1, k2⟩
    | ret => exact ⟨.inr rfl, fin k1, k2⟩
  obtain ⟨od, T, yt, y1, y2, y3, y4, e, y5⟩ := nilX_some (hEE f) hd
  have hbo : ∃ c, fn.body = some c ∧ bodyOf fn = c := by
    cases hcb : fn.body with
    | none => rw [hcb] at hbody; cases hbody
    | some c => exact ⟨c, rfl, by simp [bodyOf, hcb]⟩
  obtain ⟨c, hcb, hbo⟩ := hbo
  rw [hbo] at hs
  refine ⟨fn, sg, hf, hsg, hn, hbody, hnt, fun fr w g args hs0 hw0 hbase hsz => ?_⟩
  have hd0 : fr.defs = [] := hs0.defers.symm
  have hbb : ∀ b β, fr.bb0 b = some β → b ∈ (EE f).kp := fun b β hb0 => by
    refine hkp f b ?_
    have h3 := hs0.bb0 b β hb0
    rw [hb]
    rcases Nat.lt_or_ge b sg.boxes.length with k | k
    · exact k
    · have : (initSt sg fn.ntmps vs).bx b = none := by
        have e : initSt sg fn.ntmps vs = ⟨(initP sg.params vs).1 ++ List.replicate (fn.ntmps - (initP sg.params vs).1.length) (.undef, 0), initB sg.boxes (initP sg.params vs).2 ++ List.replicate fn.ntmps none⟩ := rfl
        rw [e, bx_eq]
        simp only
        rw [List.getElem?_append_right (by rw [initB_len]; exact k), List.getElem?_replicate]
        split <;> rfl
      rw [hs0.noBox b this] at h3; cases h3
  have hb1 : fr.base = (EE f).base := hbase.trans hb.symm
  refine calls_of_wp_defers hf hcb (wp_mono (wp_split (N := bodyPostD P fn (CallPost P (EE f) fn sg fr o) .normal) (Q := bodyPostD P fn (CallPost P (EE f) fn sg fr o)) hs ?_) fun e a w q => by cases e <;> exact q)
  refine hw1 fr _ w _ _ hb1 hbb ⟨g, hs0⟩ (fun a1 w1 _ hs1 => ?_) (fun x a' w' hx q => ?_)
  case _ =>
    refine wp_region ?_
    have hn0 : ops.size ≠ 0 := fun hz => by
      have : ops = #[] := Array.eq_empty_of_size_eq_zero hz
      rw [this] at y1; cases y1
    obtain ⟨nn, hnn⟩ : ∃ nn, ops.size = nn + 1 := ⟨ops.size - 1, by omega⟩
    rw [hnn] at hrun ⊢
    rw [Nat.add_sub_cancel] at hrun
    rw [List.range_succ]
    have hod : ops[nn]? = some od := by rw [Array.back?] at y1; rw [hnn, Nat.add_sub_cancel] at y1; exact y1
    refine wpOps_app (wpOps_of_runP (hEE f) hEE hsig' hpan' hb1 hrun hs1 (fun _ a2 w2 hs2 => ?_) (fun n hp => by cases hp))
    obtain ⟨g2, hs2⟩ := hs2
    show wpOps P ops _ [nn] a2 w2
    rw [wpOps_cons]
    unfold wpOp
    rw [hod]
    have hwt : Region.wanted od (yielded ops a2.tmps) = true := by simp [Region.wanted, y2]
    simp only [hwt, if_true]
    refine .inl ?_
    obtain ⟨v, rm1, hp1, hv⟩ := val1_ok hp hs2
    obtain ⟨z, l, rfl, hws, _⟩ := hp1
    subst hws
    obtain ⟨ad, cap, er, hcap, hcells⟩ := rv_sl hv
    have hrun2 : (execOp a2.eval od).run P w2 = .ok (.value (.bool ad.isNone)) w2 := by
      simp only [execOp, y3, er]
      have : (Act.eval a2 (.const (.slice none 0 0))) = .slice none 0 0 := rfl
      rw [this]
      have h10 := run_equalIn_slice_nil (P := P) w2 9999 T e ad l.length cap y5
      simp [eqGuard, binOp, Op.equal, Op.maxDepth, h10, run_program]
    unfold Oper.wp
    rw [hrun2, Oper.upon_value, y4]
    show wpL P ys _ _ _ _
    have hs3 := sim_dst hs2 (dst := some t) (s := .one (.bool ad.isNone) .pr) (fp := []) (r := .bool ad.isNone) (one_bool (g := g2)) (by simp) (by simp)
    have done : ∀ e3 S3, (e3 = .normal ∨ e3 = .ret) → finish (EE f) fn sg S3 = some o → (∀ (fr : Fr) (a : Act) (w : World) (N : Act → World → Prop) (Q : Exit → Act → World → Prop), fr.base = (EE f).base → (∀ b β, fr.bb0 b = some β → b ∈ (EE f).kp) → SimX fr (Wr.apps [.slot t (.one (.bool ad.isNone) .pr)] S2) a w →
        (∀ a' w', e3 = .normal → SimX fr S3 a' w' → N a' w') → (∀ x a' w', x ≠ .normal → EndX (EE f).panT fr e3 S3 x a' w' → Q x a' w') → wpL P ys N Q a w) →
        wpL P ys (bodyPostD P fn (CallPost P (EE f) fn sg fr o) .normal) (bodyPostD P fn (CallPost P (EE f) fn sg fr o)) (a2.put (some t) (.bool ad.isNone)) w2 := fun e3 S3 he hfin hw3 => by
      have quiet : ∀ (a' : Act) (w' : World), SimX fr S3 a' w' → Leaves P fn a'.tmps (CallPost P (EE f) fn sg fr o) a'.defers .returning w' := fun a' w' ⟨g3, hs3⟩ => by
        rw [hs3.defers, hd0]
        obtain ⟨ov, ob, rv, fo, fi, fob, fib, _, hl⟩ := leave_ok (P := P) (hEE f) hs3 hfin
        exact ⟨rv, hl.run, S3, a', g3, o, hs3, hfin, by unfold preO; rw [hnp]; rfl, hl.run⟩
      refine hw3 fr _ w2 _ _ hb1 hbb hs3 (fun a' w' _ k => quiet a' w' k) (fun x a' w' hx q => ?_)
      cases x with
      | normal => exact absurd rfl hx
      | ret => exact quiet a' w' q.2
      | exit i => have := q.1; rcases he with k | k <;> (rw [k] at this; cases this)
      | panic ch => obtain ⟨n, k', _⟩ := q; rcases he with k | k <;> (rw [k] at k'; cases k')
      | _ => exact q.elim
    dsimp only at h3
    cases hA : execL (EE f) G0 L0 ys (Wr.apps [.slot t (.one (.bool false) .pr)] S2) (finN (EE f) fn sg) with
    | none => rw [hA] at h3; cases h3
    | some o0 =>
    rw [hA] at h3
    simp only [Option.bind_some] at h3
    cases had : ad with
    | some ad' =>
      rw [had] at done hs3
      have ho : o0 = o := by
        cases l with
        | nil =>
          dsimp only at h3
          cases hB : execL (EE f) G0 L0 ys (Wr.apps [.slot t (.one (.bool true) .pr)] S2) (finN (EE f) fn sg) with
          | none => rw [hB] at h3; cases h3
          | some o1 => rw [hB] at h3; simp only [Option.bind_some, Option.some.injEq, Prod.mk.injEq] at h3; exact h3.1
        | cons y l => simp only [Option.some.injEq, Prod.mk.injEq] at h3; exact h3.1
      subst ho
      obtain ⟨e3, S3, q1, q2, q3⟩ := ends false o0 hA
      exact done e3 S3 q1 q2 q3
    | none =>
      rw [had] at done hs3 hcells
      have hl0 : l = [] := by
        have h0 : cap = 0 := hcells
        rw [h0] at hcap
        exact List.eq_nil_of_length_eq_zero (by omega)
      subst hl0
      dsimp only at h3
      cases hB : execL (EE f) G0 L0 ys (Wr.apps [.slot t (.one (.bool true) .pr)] S2) (finN (EE f) fn sg) with
      | none => rw [hB] at h3; cases h3
      | some o1 =>
        rw [hB] at h3
        simp only [Option.bind_some, Option.some.injEq, Prod.mk.injEq] at h3
        obtain ⟨rfl, rfl⟩ := h3
        have := hq o1 rfl
        subst this
        obtain ⟨e3, S3, q1, q2, q3⟩ := ends true o1 hB
        exact done e3 S3 q1 q2 q3
  case _ =>
    cases x with
    | normal => exact absurd rfl hx
    | exit i => have := q.1; cases this
    | ret => have := q.1; cases this
    | panic ch => obtain ⟨n, k, _⟩ := q; cases k
    | _ => exact q.elim
theorem callN_sound {T : Tab} {f : FuncId} {fn : Func} {sg : Sig} (hT : T.chk P = true) (hmo : P.follows .mixedOrders = true)
    (hf : P.funcs[rf f]? = some fn) (hsg : tlook T.sigs f = some sg) (hk : (fnChk fn sg && !sg.pan && !fn.body.isNone) = true) (hL : ∀ {R : Type}, LoopsAre (R := R) (T.env f) G0 L0 (bodyOf fn)) {vs o : List V} {q : Option (List V)} (h : callN (T.env f) fn sg vs = some (o, q)) (hq : ∀ o1, q = some o1 → o1 = o) : CallOK P T.env f vs o := by
  simp only [fnChk, Bool.and_eq_true, Bool.not_eq_true', decide_eq_true_eq] at hk
  exact callN_ok (EE := T.env) (fun f => T.ok hT f) (fun _ _ => rfl) (fun _ _ => rfl) (fun _ b hb => List.mem_append_left _ (List.mem_range.2 hb)) hmo hf hsg hk.1.1.1 hk.1.1.2 (Tab.base hsg) hk.1.2 hk.2 hL h hq
end
end Go.VM
