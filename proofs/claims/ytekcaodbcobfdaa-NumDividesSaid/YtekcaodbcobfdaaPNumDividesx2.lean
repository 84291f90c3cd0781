-- PRINTED BY print.sh 35421559b90ae4d0a3588c463048766b98c2df88dd9212a6774a882060cdf62d: not written by this session
import Derived.Test.YtekcaodbcobfdaaPNumDividesx0
import Derived.Test.YtekcaodbcobfdaaPNumDividesx1
namespace Go.Proofs.Ytekcaodbcobfdaa.PNumDivides
open Go.RowKit Go.Proofs.YtekcaodbcobfdaaW.PrintWords Go.Proofs.YtekcaodbcobfdaaW.PrintLast Go.Proofs.YtekcaodbcobfdaaW.PrintMore
attribute [local go_sem] max2_int min2_int max_two min_two max_three min_three max_four min_four   -- for this text's walks alone
set_option linter.unusedVariables false
set_option linter.unusedSimpArgs false

/-! ### cotillionlaw1_NumDivides: function 6 -/
def cotillionlaw1_NumDivides.j0 : Nat → Int → Int → Int → Int → Int → Int → Bool → Option (Bool)
  | 0, _, _, _, _, _, _, _ => none
  | k + 1, x0, x1, x5, x6, x7, x8, x31 => if x31 = true then (if x1 = 0 then (if x6 = 3 then (if x8 = 3 then (if x5 = 0 then ((cotillionlaw1_known.f k).bind fun t124 => (some t124)) else (some false)) else (if x1 = (-1) then (if x6 = 2 then (if x8 = 0 then (if x7 = 0 then (if x5 = 0 then ((cotillionlaw1_known.f k).bind fun t125 => (some t125)) else (some false)) else (some false)) else (some false)) else (some false)) else (some false))) else (if x1 = (-1) then (if x6 = 2 then (if x8 = 0 then (if x7 = 0 then (if x5 = 0 then ((cotillionlaw1_known.f k).bind fun t126 => (some t126)) else (some false)) else (some false)) else (some false)) else (some false)) else (some false))) else (if x1 = (-1) then (if x6 = 2 then (if x8 = 0 then (if x7 = 0 then (if x5 = 0 then ((cotillionlaw1_known.f k).bind fun t127 => (some t127)) else (some false)) else (some false)) else (some false)) else (some false)) else (some false))) else ((num_Mul.f k x1 x5).bind fun bt128 => ((num_Add.f bt128.1 x7).bind fun bt130 => (if x7 = 0 then (if bt128.2 = 0 then (if bt130.2 = 0 then (if bt130.1 = x0 then ((cotillionlaw1_known.f k).bind fun t132 => (some t132)) else (some false)) else (some false)) else (some false)) else (if x1 > 0 then (if x7 < x1 then (if x7 > (wrap64 (-x1)) then (if bt128.2 = 0 then (if bt130.2 = 0 then (if bt130.1 = x0 then (if ((decide (x7 < 0)) == (decide (x0 < 0))) = true then ((cotillionlaw1_known.f k).bind fun t133 => (some t133)) else (some false)) else (some false)) else (some false)) else (some false)) else (if x1 < 0 then (if x7 > x1 then (if x1 = (-9223372036854775808) then (if bt128.2 = 0 then (if bt130.2 = 0 then (if bt130.1 = x0 then (if ((decide (x7 < 0)) == (decide (x0 < 0))) = true then ((cotillionlaw1_known.f k).bind fun t134 => (some t134)) else (some false)) else (some false)) else (some false)) else (some false)) else (if bt128.2 = 0 then (if bt130.2 = 0 then (if bt130.1 = x0 then (if x7 < (wrap64 (-x1)) then (if ((decide (x7 < 0)) == (decide (x0 < 0))) = true then ((cotillionlaw1_known.f k).bind fun t135 => (some t135)) else (some false)) else (some false)) else (some false)) else (some false)) else (some false))) else (if bt128.2 = 0 then (if bt130.2 = 0 then (if bt130.1 = x0 then (some false) else (some false)) else (some false)) else (some false))) else (if bt128.2 = 0 then (if bt130.2 = 0 then (if bt130.1 = x0 then (some false) else (some false)) else (some false)) else (some false)))) else (if x1 < 0 then (if x7 > x1 then (if x1 = (-9223372036854775808) then (if bt128.2 = 0 then (if bt130.2 = 0 then (if bt130.1 = x0 then (if ((decide (x7 < 0)) == (decide (x0 < 0))) = true then ((cotillionlaw1_known.f k).bind fun t136 => (some t136)) else (some false)) else (some false)) else (some false)) else (some false)) else (if bt128.2 = 0 then (if bt130.2 = 0 then (if bt130.1 = x0 then (if x7 < (wrap64 (-x1)) then (if ((decide (x7 < 0)) == (decide (x0 < 0))) = true then ((cotillionlaw1_known.f k).bind fun t137 => (some t137)) else (some false)) else (some false)) else (some false)) else (some false)) else (some false))) else (if bt128.2 = 0 then (if bt130.2 = 0 then (if bt130.1 = x0 then (some false) else (some false)) else (some false)) else (some false))) else (if bt128.2 = 0 then (if bt130.2 = 0 then (if bt130.1 = x0 then (some false) else (some false)) else (some false)) else (some false)))) else (if x1 < 0 then (if x7 > x1 then (if x1 = (-9223372036854775808) then (if bt128.2 = 0 then (if bt130.2 = 0 then (if bt130.1 = x0 then (if ((decide (x7 < 0)) == (decide (x0 < 0))) = true then ((cotillionlaw1_known.f k).bind fun t138 => (some t138)) else (some false)) else (some false)) else (some false)) else (some false)) else (if bt128.2 = 0 then (if bt130.2 = 0 then (if bt130.1 = x0 then (if x7 < (wrap64 (-x1)) then (if ((decide (x7 < 0)) == (decide (x0 < 0))) = true then ((cotillionlaw1_known.f k).bind fun t139 => (some t139)) else (some false)) else (some false)) else (some false)) else (some false)) else (some false))) else (if bt128.2 = 0 then (if bt130.2 = 0 then (if bt130.1 = x0 then (some false) else (some false)) else (some false)) else (some false))) else (if bt128.2 = 0 then (if bt130.2 = 0 then (if bt130.1 = x0 then (some false) else (some false)) else (some false)) else (some false)))))))
def cotillionlaw1_NumDivides.f (k : Nat) (a0 : Int) (a1 : Int) : Option (Bool) := (num_Div.f a0 a1).bind fun bt120 => ((num_Mod.f a0 a1).bind fun bt122 => (if bt120.2 = 0 then (cotillionlaw1_NumDivides.j0 k a0 a1 bt120.1 bt120.2 bt122.1 bt122.2 (bt122.2 != 0)) else (cotillionlaw1_NumDivides.j0 k a0 a1 bt120.1 bt120.2 bt122.1 bt122.2 true)))
theorem cotillionlaw1_NumDivides.mono_l : ∀ k, (∀ y0 y1 y2 y3 y4 y5 y6, LeO (cotillionlaw1_NumDivides.j0 k y0 y1 y2 y3 y4 y5 y6) (cotillionlaw1_NumDivides.j0 (k + 1) y0 y1 y2 y3 y4 y5 y6))
  | 0 => fun _ _ _ _ _ _ _ r h => by simp [cotillionlaw1_NumDivides.j0] at h
  | k + 1 => by
    have ih0 := cotillionlaw1_NumDivides.mono_l k
    · intro y0 y1 y2 y3 y4 y5 y6
      unfold cotillionlaw1_NumDivides.j0
      repeat' first
      | (with_reducible exact ih0 _ _ _ _ _ _ _)
      | (with_reducible exact cotillionlaw1_known.mono _)
      | (with_reducible exact num_Mul.mono _ _ _)
      | (with_reducible exact LeO.refl _)
      | (with_reducible exact LeO.none _)
      | (with_reducible refine LeO.ite ?_ ?_)
      | (with_reducible refine LeO.bind ?_ (fun _ => ?_))
      | exact ih0 _ _ _ _ _ _ _
      | exact cotillionlaw1_known.mono _
      | exact num_Mul.mono _ _ _
      | exact LeO.none _
      | refine LeO.ite ?_ ?_
      | refine LeO.bind ?_ (fun _ => ?_)
theorem cotillionlaw1_NumDivides.mono : ∀ a0 a1 k, LeO (cotillionlaw1_NumDivides.f k a0 a1) (cotillionlaw1_NumDivides.f (k + 1) a0 a1) := by
  intro a0 a1 k
  have ih0 := cotillionlaw1_NumDivides.mono_l k
  unfold cotillionlaw1_NumDivides.f
  repeat' first
      | (with_reducible exact ih0 _ _ _ _ _ _ _)
      | (with_reducible exact cotillionlaw1_known.mono _)
      | (with_reducible exact num_Mul.mono _ _ _)
      | (with_reducible exact LeO.refl _)
      | (with_reducible exact LeO.none _)
      | (with_reducible refine LeO.ite ?_ ?_)
      | (with_reducible refine LeO.bind ?_ (fun _ => ?_))
      | exact ih0 _ _ _ _ _ _ _
      | exact cotillionlaw1_known.mono _
      | exact num_Mul.mono _ _ _
      | exact LeO.none _
      | refine LeO.ite ?_ ?_
      | refine LeO.bind ?_ (fun _ => ?_)
set_option maxHeartbeats 8000000 in
set_option maxRecDepth 100000 in
theorem cotillionlaw1_NumDivides.calls (k : Nat) (a0 : Int) (a1 : Int) (r : Bool) (w : World) (h : cotillionlaw1_NumDivides.f k a0 a1 = some r) :
    Calls Try.prog 6 #[.int .i64 a0, .int .i64 a1] w fun e w' => e = .returned (.bool r) ∧ Below w.heap.size w w' := by
  have HB := Aside0.mk (Below.refl w.heap.size w)
  have H : ((num_Div.f a0 a1).bind fun bt120 => ((num_Mod.f a0 a1).bind fun bt122 => (if bt120.2 = 0 then (cotillionlaw1_NumDivides.j0 k a0 a1 bt120.1 bt120.2 bt122.1 bt122.2 (bt122.2 != 0)) else (cotillionlaw1_NumDivides.j0 k a0 a1 bt120.1 bt120.2 bt122.1 bt122.2 true)))) = some r := h
  clear h
  replace H := Option.bind_eq_some_iff.mp H
  obtain ⟨⟨t120, t121⟩, A30, H⟩ := H
  replace H : ((num_Mod.f a0 a1).bind fun bt122 => (if t121 = 0 then (cotillionlaw1_NumDivides.j0 k a0 a1 t120 t121 bt122.1 bt122.2 (bt122.2 != 0)) else (cotillionlaw1_NumDivides.j0 k a0 a1 t120 t121 bt122.1 bt122.2 true))) = some r := H
  have A3 := Aside0.mk A30
  clear A30
  replace H := Option.bind_eq_some_iff.mp H
  obtain ⟨⟨t122, t123⟩, A40, H⟩ := H
  replace H : (if t121 = 0 then (cotillionlaw1_NumDivides.j0 k a0 a1 t120 t121 t122 t123 (t123 != 0)) else (cotillionlaw1_NumDivides.j0 k a0 a1 t120 t121 t122 t123 true)) = some r := H
  have A4 := Aside0.mk A40
  clear A40
  have HC5 := Aside0.mk H
  clear H
  go_enter Try.func6, Try.ntmps6
  go_upto_region 3 with (first | ((with_reducible refine gate_callee (f := 17) rfl ?_); refine goesL_ (some 17) rfl rfl Try.func17 (by kernel_rfl) rfl #[.int .i64 a0, .int .i64 a1] rfl (by (try simp only [List.map_toArray, List.map_cons, List.map_nil]); first | done | rfl | (simp only [List.length_drop, List.length_take]; rfl)) ?_; (with_reducible refine (num_Div.calls a0 a1 t120 t121 _ A3.out).mono ?_); rintro e w' ⟨rfl, ⟨nd, rfl⟩⟩; refine ⟨_, rfl, ?_⟩) | ((with_reducible refine gate_callee (f := 19) rfl ?_); refine goesL_ (some 23) rfl rfl Try.func19 (by kernel_rfl) rfl #[.int .i64 a0, .int .i64 a1] rfl (by (try simp only [List.map_toArray, List.map_cons, List.map_nil]); first | done | rfl | (simp only [List.length_drop, List.length_take]; rfl)) ?_; (with_reducible refine (num_Mod.calls a0 a1 t122 t123 _ A4.out).mono ?_); rintro e w' ⟨rfl, ⟨nd, rfl⟩⟩; refine ⟨_, rfl, ?_⟩))
  (try simp only [Act.put, List.setIfInBounds_toArray, List.set_cons_zero, List.set_cons_succ])
  go_cut [31] (fun v31 wc => ∃ (kq : Nat) (x31_4 : Bool), v31 = .bool x31_4 ∧ Aside0 (cotillionlaw1_NumDivides.j0 kq a0 a1 t120 t121 t122 t123 x31_4 = some r) ∧ Aside0 (kq ≤ k) ∧ Aside0 (Below w.heap.size w wc))
  case first =>
    have H := HC5.out
    clear HC5
    by_cases c6 : t121 = 0
    · rw [if_pos c6] at H
      have c6b0 : (t121 == 0) = true := beq_iff_eq.mpr c6
      have c6b1 : (t121 != 0) = false := bne_eq_false_iff_eq.mpr c6
      clear c6
      (first | rw [c6b0] | (simp only [i64_w, i32_w]; rw [c6b0]) | skip)
      have H' := Aside0.mk H
      clear H
      go_wp2
      go_meet
      case rel => exact ⟨_, ((t123 != 0)), (by first | rfl | (simp; done) | (simp [*]; done)), H', ⟨by first | omega | exact Nat.le_refl _⟩, ⟨by repeat (first | (with_reducible first | exact HB.out | apply below_alloc | apply pw_below_drewN | apply below_drew1) | exact HB.out)⟩⟩
    · rw [if_neg c6] at H
      have c6b0 : (t121 == 0) = false := beq_eq_false_iff_ne.mpr c6
      have c6b1 : (t121 != 0) = true := bne_iff_ne.mpr c6
      (first | rw [c6b0] | (simp only [i64_w, i32_w]; rw [c6b0]) | skip)
      have H' := Aside0.mk H
      clear H
      go_wp2
      go_meet
      case rel => exact ⟨_, (true), (by first | rfl | (simp; done) | (simp [*]; done)), H', ⟨by first | omega | exact Nat.le_refl _⟩, ⟨by repeat (first | (with_reducible first | exact HB.out | apply below_alloc | apply pw_below_drewN | apply below_drew1) | exact HB.out)⟩⟩
  case rest =>
    clear HC5
    try clear c1
    try clear p2
    try clear c6
    try clear c6b0
    try clear c6b1
    obtain ⟨kq, x31_4, rfl, HA, HJ4, HB⟩ := hcut
    cases kq with
    | zero => exact absurd HA.out (by simp [cotillionlaw1_NumDivides.j0])
    | succ kj4 =>
      have H := HA.out
      clear HA
      simp only [cotillionlaw1_NumDivides.j0] at H
      by_cases c7 : x31_4 = true
      · subst c7
        have H1 : (if a1 = 0 then (if t121 = 3 then (if t123 = 3 then (if t120 = 0 then ((cotillionlaw1_known.f kj4).bind fun t124 => (some t124)) else (some false)) else (if a1 = (-1) then (if t121 = 2 then (if t123 = 0 then (if t122 = 0 then (if t120 = 0 then ((cotillionlaw1_known.f kj4).bind fun t125 => (some t125)) else (some false)) else (some false)) else (some false)) else (some false)) else (some false))) else (if a1 = (-1) then (if t121 = 2 then (if t123 = 0 then (if t122 = 0 then (if t120 = 0 then ((cotillionlaw1_known.f kj4).bind fun t126 => (some t126)) else (some false)) else (some false)) else (some false)) else (some false)) else (some false))) else (if a1 = (-1) then (if t121 = 2 then (if t123 = 0 then (if t122 = 0 then (if t120 = 0 then ((cotillionlaw1_known.f kj4).bind fun t127 => (some t127)) else (some false)) else (some false)) else (some false)) else (some false)) else (some false))) = some r := by rw [if_pos rfl] at H; exact H
        clear H
        have H := H1
        clear H1
        by_cases c8 : a1 = 0
        · rw [if_pos c8] at H
          have c8b0 : (a1 == 0) = true := beq_iff_eq.mpr c8
          have c8b1 : (a1 != 0) = false := bne_eq_false_iff_eq.mpr c8
          clear c8
          by_cases c9 : t121 = 3
          · rw [if_pos c9] at H
            have c9b0 : (t121 == 3) = true := beq_iff_eq.mpr c9
            have c9b1 : (t121 != 3) = false := bne_eq_false_iff_eq.mpr c9
            clear c9
            by_cases c10 : t123 = 3
            · rw [if_pos c10] at H
              have c10b0 : (t123 == 3) = true := beq_iff_eq.mpr c10
              have c10b1 : (t123 != 3) = false := bne_eq_false_iff_eq.mpr c10
              clear c10
              by_cases c11 : t120 = 0
              · rw [if_pos c11] at H
                have c11b0 : (t120 == 0) = true := beq_iff_eq.mpr c11
                have c11b1 : (t120 != 0) = false := bne_eq_false_iff_eq.mpr c11
                clear c11
                replace H := Option.bind_eq_some_iff.mp H
                obtain ⟨t124, A120, H⟩ := H
                replace H : (some t124) = some r := H
                have A12 := Aside0.mk A120
                clear A120
                obtain rfl := Option.some.inj H
                go_wp2_with (first | (go_at_call 10; (with_reducible refine (cotillionlaw1_known.calls kj4  t124 _ A12.out).mono ?_); rintro e w13 ⟨rfl, hb⟩; have n0_ := Aside0.mk (below_step (by repeat (first | (with_reducible first | exact HB.out | apply below_alloc | apply pw_below_drewN | apply below_drew1) | exact HB.out)) hb); clear HB; have HB := n0_; clear n0_; (try clear hb); (try clear hb2); (try clear hk); (try clear hi)))
                go_ret
                exact ⟨by first | rfl | (simp [errW_none, errW_some] <;> rfl) | (simp [*, errW_none, errW_some] <;> rfl), by repeat (first | (with_reducible first | exact HB.out | apply below_alloc | apply pw_below_drewN | apply below_drew1) | exact HB.out)⟩
              · rw [if_neg c11] at H
                have c11b0 : (t120 == 0) = false := beq_eq_false_iff_ne.mpr c11
                have c11b1 : (t120 != 0) = true := bne_iff_ne.mpr c11
                obtain rfl := Option.some.inj H
                go_wp2
                go_ret
                exact ⟨by first | rfl | (simp [errW_none, errW_some] <;> rfl) | (simp [*, errW_none, errW_some] <;> rfl), by repeat (first | (with_reducible first | exact HB.out | apply below_alloc | apply pw_below_drewN | apply below_drew1) | exact HB.out)⟩
            · rw [if_neg c10] at H
              have c10b0 : (t123 == 3) = false := beq_eq_false_iff_ne.mpr c10
              have c10b1 : (t123 != 3) = true := bne_iff_ne.mpr c10
              by_cases c14 : a1 = (-1)
              · rw [if_pos c14] at H
                have c14b0 : (a1 == (-1)) = true := beq_iff_eq.mpr c14
                have c14b1 : (a1 != (-1)) = false := bne_eq_false_iff_eq.mpr c14
                clear c14
                by_cases c15 : t121 = 2
                · rw [if_pos c15] at H
                  have c15b0 : (t121 == 2) = true := beq_iff_eq.mpr c15
                  have c15b1 : (t121 != 2) = false := bne_eq_false_iff_eq.mpr c15
                  clear c15
                  by_cases c16 : t123 = 0
                  · rw [if_pos c16] at H
                    have c16b0 : (t123 == 0) = true := beq_iff_eq.mpr c16
                    have c16b1 : (t123 != 0) = false := bne_eq_false_iff_eq.mpr c16
                    clear c16
                    by_cases c17 : t122 = 0
                    · rw [if_pos c17] at H
                      have c17b0 : (t122 == 0) = true := beq_iff_eq.mpr c17
                      have c17b1 : (t122 != 0) = false := bne_eq_false_iff_eq.mpr c17
                      clear c17
                      by_cases c18 : t120 = 0
                      · rw [if_pos c18] at H
                        have c18b0 : (t120 == 0) = true := beq_iff_eq.mpr c18
                        have c18b1 : (t120 != 0) = false := bne_eq_false_iff_eq.mpr c18
                        clear c18
                        replace H := Option.bind_eq_some_iff.mp H
                        obtain ⟨t125, A190, H⟩ := H
                        replace H : (some t125) = some r := H
                        have A19 := Aside0.mk A190
                        clear A190
                        obtain rfl := Option.some.inj H
                        go_wp2_with (first | (go_at_call 10; (with_reducible refine (cotillionlaw1_known.calls kj4  t125 _ A19.out).mono ?_); rintro e w20 ⟨rfl, hb⟩; have n0_ := Aside0.mk (below_step (by repeat (first | (with_reducible first | exact HB.out | apply below_alloc | apply pw_below_drewN | apply below_drew1) | exact HB.out)) hb); clear HB; have HB := n0_; clear n0_; (try clear hb); (try clear hb2); (try clear hk); (try clear hi)))
                        go_ret
                        exact ⟨by first | rfl | (simp [errW_none, errW_some] <;> rfl) | (simp [*, errW_none, errW_some] <;> rfl), by repeat (first | (with_reducible first | exact HB.out | apply below_alloc | apply pw_below_drewN | apply below_drew1) | exact HB.out)⟩
                      · rw [if_neg c18] at H
                        have c18b0 : (t120 == 0) = false := beq_eq_false_iff_ne.mpr c18
                        have c18b1 : (t120 != 0) = true := bne_iff_ne.mpr c18
                        obtain rfl := Option.some.inj H
                        go_wp2
                        go_ret
                        exact ⟨by first | rfl | (simp [errW_none, errW_some] <;> rfl) | (simp [*, errW_none, errW_some] <;> rfl), by repeat (first | (with_reducible first | exact HB.out | apply below_alloc | apply pw_below_drewN | apply below_drew1) | exact HB.out)⟩
                    · rw [if_neg c17] at H
                      have c17b0 : (t122 == 0) = false := beq_eq_false_iff_ne.mpr c17
                      have c17b1 : (t122 != 0) = true := bne_iff_ne.mpr c17
                      obtain rfl := Option.some.inj H
                      go_wp2
                      go_ret
                      exact ⟨by first | rfl | (simp [errW_none, errW_some] <;> rfl) | (simp [*, errW_none, errW_some] <;> rfl), by repeat (first | (with_reducible first | exact HB.out | apply below_alloc | apply pw_below_drewN | apply below_drew1) | exact HB.out)⟩
                  · rw [if_neg c16] at H
                    have c16b0 : (t123 == 0) = false := beq_eq_false_iff_ne.mpr c16
                    have c16b1 : (t123 != 0) = true := bne_iff_ne.mpr c16
                    obtain rfl := Option.some.inj H
                    go_wp2
                    go_ret
                    exact ⟨by first | rfl | (simp [errW_none, errW_some] <;> rfl) | (simp [*, errW_none, errW_some] <;> rfl), by repeat (first | (with_reducible first | exact HB.out | apply below_alloc | apply pw_below_drewN | apply below_drew1) | exact HB.out)⟩
                · rw [if_neg c15] at H
                  have c15b0 : (t121 == 2) = false := beq_eq_false_iff_ne.mpr c15
                  have c15b1 : (t121 != 2) = true := bne_iff_ne.mpr c15
                  obtain rfl := Option.some.inj H
                  go_wp2
                  go_ret
                  exact ⟨by first | rfl | (simp [errW_none, errW_some] <;> rfl) | (simp [*, errW_none, errW_some] <;> rfl), by repeat (first | (with_reducible first | exact HB.out | apply below_alloc | apply pw_below_drewN | apply below_drew1) | exact HB.out)⟩
              · rw [if_neg c14] at H
                have c14b0 : (a1 == (-1)) = false := beq_eq_false_iff_ne.mpr c14
                have c14b1 : (a1 != (-1)) = true := bne_iff_ne.mpr c14
                obtain rfl := Option.some.inj H
                go_wp2
                go_ret
                exact ⟨by first | rfl | (simp [errW_none, errW_some] <;> rfl) | (simp [*, errW_none, errW_some] <;> rfl), by repeat (first | (with_reducible first | exact HB.out | apply below_alloc | apply pw_below_drewN | apply below_drew1) | exact HB.out)⟩
          · rw [if_neg c9] at H
            have c9b0 : (t121 == 3) = false := beq_eq_false_iff_ne.mpr c9
            have c9b1 : (t121 != 3) = true := bne_iff_ne.mpr c9
            by_cases c21 : a1 = (-1)
            · rw [if_pos c21] at H
              have c21b0 : (a1 == (-1)) = true := beq_iff_eq.mpr c21
              have c21b1 : (a1 != (-1)) = false := bne_eq_false_iff_eq.mpr c21
              clear c21
              by_cases c22 : t121 = 2
              · rw [if_pos c22] at H
                have c22b0 : (t121 == 2) = true := beq_iff_eq.mpr c22
                have c22b1 : (t121 != 2) = false := bne_eq_false_iff_eq.mpr c22
                clear c22
                by_cases c23 : t123 = 0
                · rw [if_pos c23] at H
                  have c23b0 : (t123 == 0) = true := beq_iff_eq.mpr c23
                  have c23b1 : (t123 != 0) = false := bne_eq_false_iff_eq.mpr c23
                  clear c23
                  by_cases c24 : t122 = 0
                  · rw [if_pos c24] at H
                    have c24b0 : (t122 == 0) = true := beq_iff_eq.mpr c24
                    have c24b1 : (t122 != 0) = false := bne_eq_false_iff_eq.mpr c24
                    clear c24
                    by_cases c25 : t120 = 0
                    · rw [if_pos c25] at H
                      have c25b0 : (t120 == 0) = true := beq_iff_eq.mpr c25
                      have c25b1 : (t120 != 0) = false := bne_eq_false_iff_eq.mpr c25
                      clear c25
                      replace H := Option.bind_eq_some_iff.mp H
                      obtain ⟨t126, A260, H⟩ := H
                      replace H : (some t126) = some r := H
                      have A26 := Aside0.mk A260
                      clear A260
                      obtain rfl := Option.some.inj H
                      go_wp2_with (first | (go_at_call 10; (with_reducible refine (cotillionlaw1_known.calls kj4  t126 _ A26.out).mono ?_); rintro e w27 ⟨rfl, hb⟩; have n0_ := Aside0.mk (below_step (by repeat (first | (with_reducible first | exact HB.out | apply below_alloc | apply pw_below_drewN | apply below_drew1) | exact HB.out)) hb); clear HB; have HB := n0_; clear n0_; (try clear hb); (try clear hb2); (try clear hk); (try clear hi)))
                      go_ret
                      exact ⟨by first | rfl | (simp [errW_none, errW_some] <;> rfl) | (simp [*, errW_none, errW_some] <;> rfl), by repeat (first | (with_reducible first | exact HB.out | apply below_alloc | apply pw_below_drewN | apply below_drew1) | exact HB.out)⟩
                    · rw [if_neg c25] at H
                      have c25b0 : (t120 == 0) = false := beq_eq_false_iff_ne.mpr c25
                      have c25b1 : (t120 != 0) = true := bne_iff_ne.mpr c25
                      obtain rfl := Option.some.inj H
                      go_wp2
                      go_ret
                      exact ⟨by first | rfl | (simp [errW_none, errW_some] <;> rfl) | (simp [*, errW_none, errW_some] <;> rfl), by repeat (first | (with_reducible first | exact HB.out | apply below_alloc | apply pw_below_drewN | apply below_drew1) | exact HB.out)⟩
                  · rw [if_neg c24] at H
                    have c24b0 : (t122 == 0) = false := beq_eq_false_iff_ne.mpr c24
                    have c24b1 : (t122 != 0) = true := bne_iff_ne.mpr c24
                    obtain rfl := Option.some.inj H
                    go_wp2
                    go_ret
                    exact ⟨by first | rfl | (simp [errW_none, errW_some] <;> rfl) | (simp [*, errW_none, errW_some] <;> rfl), by repeat (first | (with_reducible first | exact HB.out | apply below_alloc | apply pw_below_drewN | apply below_drew1) | exact HB.out)⟩
                · rw [if_neg c23] at H
                  have c23b0 : (t123 == 0) = false := beq_eq_false_iff_ne.mpr c23
                  have c23b1 : (t123 != 0) = true := bne_iff_ne.mpr c23
                  obtain rfl := Option.some.inj H
                  go_wp2
                  go_ret
                  exact ⟨by first | rfl | (simp [errW_none, errW_some] <;> rfl) | (simp [*, errW_none, errW_some] <;> rfl), by repeat (first | (with_reducible first | exact HB.out | apply below_alloc | apply pw_below_drewN | apply below_drew1) | exact HB.out)⟩
              · rw [if_neg c22] at H
                have c22b0 : (t121 == 2) = false := beq_eq_false_iff_ne.mpr c22
                have c22b1 : (t121 != 2) = true := bne_iff_ne.mpr c22
                obtain rfl := Option.some.inj H
                go_wp2
                go_ret
                exact ⟨by first | rfl | (simp [errW_none, errW_some] <;> rfl) | (simp [*, errW_none, errW_some] <;> rfl), by repeat (first | (with_reducible first | exact HB.out | apply below_alloc | apply pw_below_drewN | apply below_drew1) | exact HB.out)⟩
            · rw [if_neg c21] at H
              have c21b0 : (a1 == (-1)) = false := beq_eq_false_iff_ne.mpr c21
              have c21b1 : (a1 != (-1)) = true := bne_iff_ne.mpr c21
              obtain rfl := Option.some.inj H
              go_wp2
              go_ret
              exact ⟨by first | rfl | (simp [errW_none, errW_some] <;> rfl) | (simp [*, errW_none, errW_some] <;> rfl), by repeat (first | (with_reducible first | exact HB.out | apply below_alloc | apply pw_below_drewN | apply below_drew1) | exact HB.out)⟩
        · rw [if_neg c8] at H
          have c8b0 : (a1 == 0) = false := beq_eq_false_iff_ne.mpr c8
          have c8b1 : (a1 != 0) = true := bne_iff_ne.mpr c8
          by_cases c28 : a1 = (-1)
          · rw [if_pos c28] at H
            have c28b0 : (a1 == (-1)) = true := beq_iff_eq.mpr c28
            have c28b1 : (a1 != (-1)) = false := bne_eq_false_iff_eq.mpr c28
            clear c28
            by_cases c29 : t121 = 2
            · rw [if_pos c29] at H
              have c29b0 : (t121 == 2) = true := beq_iff_eq.mpr c29
              have c29b1 : (t121 != 2) = false := bne_eq_false_iff_eq.mpr c29
              clear c29
              by_cases c30 : t123 = 0
              · rw [if_pos c30] at H
                have c30b0 : (t123 == 0) = true := beq_iff_eq.mpr c30
                have c30b1 : (t123 != 0) = false := bne_eq_false_iff_eq.mpr c30
                clear c30
                by_cases c31 : t122 = 0
                · rw [if_pos c31] at H
                  have c31b0 : (t122 == 0) = true := beq_iff_eq.mpr c31
                  have c31b1 : (t122 != 0) = false := bne_eq_false_iff_eq.mpr c31
                  clear c31
                  by_cases c32 : t120 = 0
                  · rw [if_pos c32] at H
                    have c32b0 : (t120 == 0) = true := beq_iff_eq.mpr c32
                    have c32b1 : (t120 != 0) = false := bne_eq_false_iff_eq.mpr c32
                    clear c32
                    replace H := Option.bind_eq_some_iff.mp H
                    obtain ⟨t127, A330, H⟩ := H
                    replace H : (some t127) = some r := H
                    have A33 := Aside0.mk A330
                    clear A330
                    obtain rfl := Option.some.inj H
                    go_wp2_with (first | (go_at_call 10; (with_reducible refine (cotillionlaw1_known.calls kj4  t127 _ A33.out).mono ?_); rintro e w34 ⟨rfl, hb⟩; have n0_ := Aside0.mk (below_step (by repeat (first | (with_reducible first | exact HB.out | apply below_alloc | apply pw_below_drewN | apply below_drew1) | exact HB.out)) hb); clear HB; have HB := n0_; clear n0_; (try clear hb); (try clear hb2); (try clear hk); (try clear hi)))
                    go_ret
                    exact ⟨by first | rfl | (simp [errW_none, errW_some] <;> rfl) | (simp [*, errW_none, errW_some] <;> rfl), by repeat (first | (with_reducible first | exact HB.out | apply below_alloc | apply pw_below_drewN | apply below_drew1) | exact HB.out)⟩
                  · rw [if_neg c32] at H
                    have c32b0 : (t120 == 0) = false := beq_eq_false_iff_ne.mpr c32
                    have c32b1 : (t120 != 0) = true := bne_iff_ne.mpr c32
                    obtain rfl := Option.some.inj H
                    go_wp2
                    go_ret
                    exact ⟨by first | rfl | (simp [errW_none, errW_some] <;> rfl) | (simp [*, errW_none, errW_some] <;> rfl), by repeat (first | (with_reducible first | exact HB.out | apply below_alloc | apply pw_below_drewN | apply below_drew1) | exact HB.out)⟩
                · rw [if_neg c31] at H
                  have c31b0 : (t122 == 0) = false := beq_eq_false_iff_ne.mpr c31
                  have c31b1 : (t122 != 0) = true := bne_iff_ne.mpr c31
                  obtain rfl := Option.some.inj H
                  go_wp2
                  go_ret
                  exact ⟨by first | rfl | (simp [errW_none, errW_some] <;> rfl) | (simp [*, errW_none, errW_some] <;> rfl), by repeat (first | (with_reducible first | exact HB.out | apply below_alloc | apply pw_below_drewN | apply below_drew1) | exact HB.out)⟩
              · rw [if_neg c30] at H
                have c30b0 : (t123 == 0) = false := beq_eq_false_iff_ne.mpr c30
                have c30b1 : (t123 != 0) = true := bne_iff_ne.mpr c30
                obtain rfl := Option.some.inj H
                go_wp2
                go_ret
                exact ⟨by first | rfl | (simp [errW_none, errW_some] <;> rfl) | (simp [*, errW_none, errW_some] <;> rfl), by repeat (first | (with_reducible first | exact HB.out | apply below_alloc | apply pw_below_drewN | apply below_drew1) | exact HB.out)⟩
            · rw [if_neg c29] at H
              have c29b0 : (t121 == 2) = false := beq_eq_false_iff_ne.mpr c29
              have c29b1 : (t121 != 2) = true := bne_iff_ne.mpr c29
              obtain rfl := Option.some.inj H
              go_wp2
              go_ret
              exact ⟨by first | rfl | (simp [errW_none, errW_some] <;> rfl) | (simp [*, errW_none, errW_some] <;> rfl), by repeat (first | (with_reducible first | exact HB.out | apply below_alloc | apply pw_below_drewN | apply below_drew1) | exact HB.out)⟩
          · rw [if_neg c28] at H
            have c28b0 : (a1 == (-1)) = false := beq_eq_false_iff_ne.mpr c28
            have c28b1 : (a1 != (-1)) = true := bne_iff_ne.mpr c28
            obtain rfl := Option.some.inj H
            go_wp2
            go_ret
            exact ⟨by first | rfl | (simp [errW_none, errW_some] <;> rfl) | (simp [*, errW_none, errW_some] <;> rfl), by repeat (first | (with_reducible first | exact HB.out | apply below_alloc | apply pw_below_drewN | apply below_drew1) | exact HB.out)⟩
      · replace c7 := Bool.eq_false_iff.mpr c7
        subst c7
        have H1 : ((num_Mul.f kj4 a1 t120).bind fun bt128 => ((num_Add.f bt128.1 t122).bind fun bt130 => (if t122 = 0 then (if bt128.2 = 0 then (if bt130.2 = 0 then (if bt130.1 = a0 then ((cotillionlaw1_known.f kj4).bind fun t132 => (some t132)) else (some false)) else (some false)) else (some false)) else (if a1 > 0 then (if t122 < a1 then (if t122 > (wrap64 (-a1)) then (if bt128.2 = 0 then (if bt130.2 = 0 then (if bt130.1 = a0 then (if ((decide (t122 < 0)) == (decide (a0 < 0))) = true then ((cotillionlaw1_known.f kj4).bind fun t133 => (some t133)) else (some false)) else (some false)) else (some false)) else (some false)) else (if a1 < 0 then (if t122 > a1 then (if a1 = (-9223372036854775808) then (if bt128.2 = 0 then (if bt130.2 = 0 then (if bt130.1 = a0 then (if ((decide (t122 < 0)) == (decide (a0 < 0))) = true then ((cotillionlaw1_known.f kj4).bind fun t134 => (some t134)) else (some false)) else (some false)) else (some false)) else (some false)) else (if bt128.2 = 0 then (if bt130.2 = 0 then (if bt130.1 = a0 then (if t122 < (wrap64 (-a1)) then (if ((decide (t122 < 0)) == (decide (a0 < 0))) = true then ((cotillionlaw1_known.f kj4).bind fun t135 => (some t135)) else (some false)) else (some false)) else (some false)) else (some false)) else (some false))) else (if bt128.2 = 0 then (if bt130.2 = 0 then (if bt130.1 = a0 then (some false) else (some false)) else (some false)) else (some false))) else (if bt128.2 = 0 then (if bt130.2 = 0 then (if bt130.1 = a0 then (some false) else (some false)) else (some false)) else (some false)))) else (if a1 < 0 then (if t122 > a1 then (if a1 = (-9223372036854775808) then (if bt128.2 = 0 then (if bt130.2 = 0 then (if bt130.1 = a0 then (if ((decide (t122 < 0)) == (decide (a0 < 0))) = true then ((cotillionlaw1_known.f kj4).bind fun t136 => (some t136)) else (some false)) else (some false)) else (some false)) else (some false)) else (if bt128.2 = 0 then (if bt130.2 = 0 then (if bt130.1 = a0 then (if t122 < (wrap64 (-a1)) then (if ((decide (t122 < 0)) == (decide (a0 < 0))) = true then ((cotillionlaw1_known.f kj4).bind fun t137 => (some t137)) else (some false)) else (some false)) else (some false)) else (some false)) else (some false))) else (if bt128.2 = 0 then (if bt130.2 = 0 then (if bt130.1 = a0 then (some false) else (some false)) else (some false)) else (some false))) else (if bt128.2 = 0 then (if bt130.2 = 0 then (if bt130.1 = a0 then (some false) else (some false)) else (some false)) else (some false)))) else (if a1 < 0 then (if t122 > a1 then (if a1 = (-9223372036854775808) then (if bt128.2 = 0 then (if bt130.2 = 0 then (if bt130.1 = a0 then (if ((decide (t122 < 0)) == (decide (a0 < 0))) = true then ((cotillionlaw1_known.f kj4).bind fun t138 => (some t138)) else (some false)) else (some false)) else (some false)) else (some false)) else (if bt128.2 = 0 then (if bt130.2 = 0 then (if bt130.1 = a0 then (if t122 < (wrap64 (-a1)) then (if ((decide (t122 < 0)) == (decide (a0 < 0))) = true then ((cotillionlaw1_known.f kj4).bind fun t139 => (some t139)) else (some false)) else (some false)) else (some false)) else (some false)) else (some false))) else (if bt128.2 = 0 then (if bt130.2 = 0 then (if bt130.1 = a0 then (some false) else (some false)) else (some false)) else (some false))) else (if bt128.2 = 0 then (if bt130.2 = 0 then (if bt130.1 = a0 then (some false) else (some false)) else (some false)) else (some false))))))) = some r := by rw [if_neg (show ¬ (false = true) by decide)] at H; exact H
        clear H
        have H := H1
        clear H1
        replace H := Option.bind_eq_some_iff.mp H
        obtain ⟨⟨t128, t129⟩, A350, H⟩ := H
        replace H : ((num_Add.f t128 t122).bind fun bt130 => (if t122 = 0 then (if t129 = 0 then (if bt130.2 = 0 then (if bt130.1 = a0 then ((cotillionlaw1_known.f kj4).bind fun t132 => (some t132)) else (some false)) else (some false)) else (some false)) else (if a1 > 0 then (if t122 < a1 then (if t122 > (wrap64 (-a1)) then (if t129 = 0 then (if bt130.2 = 0 then (if bt130.1 = a0 then (if ((decide (t122 < 0)) == (decide (a0 < 0))) = true then ((cotillionlaw1_known.f kj4).bind fun t133 => (some t133)) else (some false)) else (some false)) else (some false)) else (some false)) else (if a1 < 0 then (if t122 > a1 then (if a1 = (-9223372036854775808) then (if t129 = 0 then (if bt130.2 = 0 then (if bt130.1 = a0 then (if ((decide (t122 < 0)) == (decide (a0 < 0))) = true then ((cotillionlaw1_known.f kj4).bind fun t134 => (some t134)) else (some false)) else (some false)) else (some false)) else (some false)) else (if t129 = 0 then (if bt130.2 = 0 then (if bt130.1 = a0 then (if t122 < (wrap64 (-a1)) then (if ((decide (t122 < 0)) == (decide (a0 < 0))) = true then ((cotillionlaw1_known.f kj4).bind fun t135 => (some t135)) else (some false)) else (some false)) else (some false)) else (some false)) else (some false))) else (if t129 = 0 then (if bt130.2 = 0 then (if bt130.1 = a0 then (some false) else (some false)) else (some false)) else (some false))) else (if t129 = 0 then (if bt130.2 = 0 then (if bt130.1 = a0 then (some false) else (some false)) else (some false)) else (some false)))) else (if a1 < 0 then (if t122 > a1 then (if a1 = (-9223372036854775808) then (if t129 = 0 then (if bt130.2 = 0 then (if bt130.1 = a0 then (if ((decide (t122 < 0)) == (decide (a0 < 0))) = true then ((cotillionlaw1_known.f kj4).bind fun t136 => (some t136)) else (some false)) else (some false)) else (some false)) else (some false)) else (if t129 = 0 then (if bt130.2 = 0 then (if bt130.1 = a0 then (if t122 < (wrap64 (-a1)) then (if ((decide (t122 < 0)) == (decide (a0 < 0))) = true then ((cotillionlaw1_known.f kj4).bind fun t137 => (some t137)) else (some false)) else (some false)) else (some false)) else (some false)) else (some false))) else (if t129 = 0 then (if bt130.2 = 0 then (if bt130.1 = a0 then (some false) else (some false)) else (some false)) else (some false))) else (if t129 = 0 then (if bt130.2 = 0 then (if bt130.1 = a0 then (some false) else (some false)) else (some false)) else (some false)))) else (if a1 < 0 then (if t122 > a1 then (if a1 = (-9223372036854775808) then (if t129 = 0 then (if bt130.2 = 0 then (if bt130.1 = a0 then (if ((decide (t122 < 0)) == (decide (a0 < 0))) = true then ((cotillionlaw1_known.f kj4).bind fun t138 => (some t138)) else (some false)) else (some false)) else (some false)) else (some false)) else (if t129 = 0 then (if bt130.2 = 0 then (if bt130.1 = a0 then (if t122 < (wrap64 (-a1)) then (if ((decide (t122 < 0)) == (decide (a0 < 0))) = true then ((cotillionlaw1_known.f kj4).bind fun t139 => (some t139)) else (some false)) else (some false)) else (some false)) else (some false)) else (some false))) else (if t129 = 0 then (if bt130.2 = 0 then (if bt130.1 = a0 then (some false) else (some false)) else (some false)) else (some false))) else (if t129 = 0 then (if bt130.2 = 0 then (if bt130.1 = a0 then (some false) else (some false)) else (some false)) else (some false)))))) = some r := H
        have A35 := Aside0.mk A350
        clear A350
        replace H := Option.bind_eq_some_iff.mp H
        obtain ⟨⟨t130, t131⟩, A360, H⟩ := H
        replace H : (if t122 = 0 then (if t129 = 0 then (if t131 = 0 then (if t130 = a0 then ((cotillionlaw1_known.f kj4).bind fun t132 => (some t132)) else (some false)) else (some false)) else (some false)) else (if a1 > 0 then (if t122 < a1 then (if t122 > (wrap64 (-a1)) then (if t129 = 0 then (if t131 = 0 then (if t130 = a0 then (if ((decide (t122 < 0)) == (decide (a0 < 0))) = true then ((cotillionlaw1_known.f kj4).bind fun t133 => (some t133)) else (some false)) else (some false)) else (some false)) else (some false)) else (if a1 < 0 then (if t122 > a1 then (if a1 = (-9223372036854775808) then (if t129 = 0 then (if t131 = 0 then (if t130 = a0 then (if ((decide (t122 < 0)) == (decide (a0 < 0))) = true then ((cotillionlaw1_known.f kj4).bind fun t134 => (some t134)) else (some false)) else (some false)) else (some false)) else (some false)) else (if t129 = 0 then (if t131 = 0 then (if t130 = a0 then (if t122 < (wrap64 (-a1)) then (if ((decide (t122 < 0)) == (decide (a0 < 0))) = true then ((cotillionlaw1_known.f kj4).bind fun t135 => (some t135)) else (some false)) else (some false)) else (some false)) else (some false)) else (some false))) else (if t129 = 0 then (if t131 = 0 then (if t130 = a0 then (some false) else (some false)) else (some false)) else (some false))) else (if t129 = 0 then (if t131 = 0 then (if t130 = a0 then (some false) else (some false)) else (some false)) else (some false)))) else (if a1 < 0 then (if t122 > a1 then (if a1 = (-9223372036854775808) then (if t129 = 0 then (if t131 = 0 then (if t130 = a0 then (if ((decide (t122 < 0)) == (decide (a0 < 0))) = true then ((cotillionlaw1_known.f kj4).bind fun t136 => (some t136)) else (some false)) else (some false)) else (some false)) else (some false)) else (if t129 = 0 then (if t131 = 0 then (if t130 = a0 then (if t122 < (wrap64 (-a1)) then (if ((decide (t122 < 0)) == (decide (a0 < 0))) = true then ((cotillionlaw1_known.f kj4).bind fun t137 => (some t137)) else (some false)) else (some false)) else (some false)) else (some false)) else (some false))) else (if t129 = 0 then (if t131 = 0 then (if t130 = a0 then (some false) else (some false)) else (some false)) else (some false))) else (if t129 = 0 then (if t131 = 0 then (if t130 = a0 then (some false) else (some false)) else (some false)) else (some false)))) else (if a1 < 0 then (if t122 > a1 then (if a1 = (-9223372036854775808) then (if t129 = 0 then (if t131 = 0 then (if t130 = a0 then (if ((decide (t122 < 0)) == (decide (a0 < 0))) = true then ((cotillionlaw1_known.f kj4).bind fun t138 => (some t138)) else (some false)) else (some false)) else (some false)) else (some false)) else (if t129 = 0 then (if t131 = 0 then (if t130 = a0 then (if t122 < (wrap64 (-a1)) then (if ((decide (t122 < 0)) == (decide (a0 < 0))) = true then ((cotillionlaw1_known.f kj4).bind fun t139 => (some t139)) else (some false)) else (some false)) else (some false)) else (some false)) else (some false))) else (if t129 = 0 then (if t131 = 0 then (if t130 = a0 then (some false) else (some false)) else (some false)) else (some false))) else (if t129 = 0 then (if t131 = 0 then (if t130 = a0 then (some false) else (some false)) else (some false)) else (some false))))) = some r := H
        have A36 := Aside0.mk A360
        clear A360
        by_cases c37 : t122 = 0
        · rw [if_pos c37] at H
          have c37b0 : (t122 == 0) = true := beq_iff_eq.mpr c37
          have c37b1 : (t122 != 0) = false := bne_eq_false_iff_eq.mpr c37
          clear c37
          by_cases c38 : t129 = 0
          · rw [if_pos c38] at H
            have c38b0 : (t129 == 0) = true := beq_iff_eq.mpr c38
            have c38b1 : (t129 != 0) = false := bne_eq_false_iff_eq.mpr c38
            clear c38
            by_cases c39 : t131 = 0
            · rw [if_pos c39] at H
              have c39b0 : (t131 == 0) = true := beq_iff_eq.mpr c39
              have c39b1 : (t131 != 0) = false := bne_eq_false_iff_eq.mpr c39
              clear c39
              by_cases c40 : t130 = a0
              · rw [if_pos c40] at H
                have c40b0 : (t130 == a0) = true := beq_iff_eq.mpr c40
                have c40b1 : (t130 != a0) = false := bne_eq_false_iff_eq.mpr c40
                clear c40
                replace H := Option.bind_eq_some_iff.mp H
                obtain ⟨t132, A410, H⟩ := H
                replace H : (some t132) = some r := H
                have A41 := Aside0.mk A410
                clear A410
                obtain rfl := Option.some.inj H
                go_wp2_with (first | ((with_reducible refine gate_callee (f := 15) rfl ?_); refine goesL_ (some 68) rfl rfl Try.func15 (by kernel_rfl) rfl #[.int .i64 a1, .int .i64 t120] rfl (by (try simp only [List.map_toArray, List.map_cons, List.map_nil]); first | done | rfl | (simp only [List.length_drop, List.length_take]; rfl)) ?_; (with_reducible refine (num_Mul.calls kj4 a1 t120 t128 t129 _ A35.out).mono ?_); rintro e w' ⟨rfl, ⟨nd, rfl⟩⟩; refine ⟨_, rfl, ?_⟩) | ((with_reducible refine gate_callee (f := 11) rfl ?_); refine goesL_ (some 74) rfl rfl Try.func11 (by kernel_rfl) rfl #[.int .i64 t128, .int .i64 t122] rfl (by (try simp only [List.map_toArray, List.map_cons, List.map_nil]); first | done | rfl | (simp only [List.length_drop, List.length_take]; rfl)) ?_; (with_reducible refine (num_Add.calls t128 t122 t130 t131 _ A36.out).mono ?_); rintro e w' ⟨rfl, ⟨nd, rfl⟩⟩; refine ⟨_, rfl, ?_⟩) | (go_at_call 10; (with_reducible refine (cotillionlaw1_known.calls kj4  t132 _ A41.out).mono ?_); rintro e w42 ⟨rfl, hb⟩; have n0_ := Aside0.mk (below_step (by repeat (first | (with_reducible first | exact HB.out | apply below_alloc | apply pw_below_drewN | apply below_drew1) | exact HB.out)) hb); clear HB; have HB := n0_; clear n0_; (try clear hb); (try clear hb2); (try clear hk); (try clear hi)))
                go_ret
                exact ⟨by first | rfl | (simp [errW_none, errW_some] <;> rfl) | (simp [*, errW_none, errW_some] <;> rfl), by repeat (first | (with_reducible first | exact HB.out | apply below_alloc | apply pw_below_drewN | apply below_drew1) | exact HB.out)⟩
              · rw [if_neg c40] at H
                have c40b0 : (t130 == a0) = false := beq_eq_false_iff_ne.mpr c40
                have c40b1 : (t130 != a0) = true := bne_iff_ne.mpr c40
                obtain rfl := Option.some.inj H
                go_wp2_with (first | ((with_reducible refine gate_callee (f := 15) rfl ?_); refine goesL_ (some 68) rfl rfl Try.func15 (by kernel_rfl) rfl #[.int .i64 a1, .int .i64 t120] rfl (by (try simp only [List.map_toArray, List.map_cons, List.map_nil]); first | done | rfl | (simp only [List.length_drop, List.length_take]; rfl)) ?_; (with_reducible refine (num_Mul.calls kj4 a1 t120 t128 t129 _ A35.out).mono ?_); rintro e w' ⟨rfl, ⟨nd, rfl⟩⟩; refine ⟨_, rfl, ?_⟩) | ((with_reducible refine gate_callee (f := 11) rfl ?_); refine goesL_ (some 74) rfl rfl Try.func11 (by kernel_rfl) rfl #[.int .i64 t128, .int .i64 t122] rfl (by (try simp only [List.map_toArray, List.map_cons, List.map_nil]); first | done | rfl | (simp only [List.length_drop, List.length_take]; rfl)) ?_; (with_reducible refine (num_Add.calls t128 t122 t130 t131 _ A36.out).mono ?_); rintro e w' ⟨rfl, ⟨nd, rfl⟩⟩; refine ⟨_, rfl, ?_⟩))
                go_ret
                exact ⟨by first | rfl | (simp [errW_none, errW_some] <;> rfl) | (simp [*, errW_none, errW_some] <;> rfl), by repeat (first | (with_reducible first | exact HB.out | apply below_alloc | apply pw_below_drewN | apply below_drew1) | exact HB.out)⟩
            · rw [if_neg c39] at H
              have c39b0 : (t131 == 0) = false := beq_eq_false_iff_ne.mpr c39
              have c39b1 : (t131 != 0) = true := bne_iff_ne.mpr c39
              obtain rfl := Option.some.inj H
              go_wp2_with (first | ((with_reducible refine gate_callee (f := 15) rfl ?_); refine goesL_ (some 68) rfl rfl Try.func15 (by kernel_rfl) rfl #[.int .i64 a1, .int .i64 t120] rfl (by (try simp only [List.map_toArray, List.map_cons, List.map_nil]); first | done | rfl | (simp only [List.length_drop, List.length_take]; rfl)) ?_; (with_reducible refine (num_Mul.calls kj4 a1 t120 t128 t129 _ A35.out).mono ?_); rintro e w' ⟨rfl, ⟨nd, rfl⟩⟩; refine ⟨_, rfl, ?_⟩) | ((with_reducible refine gate_callee (f := 11) rfl ?_); refine goesL_ (some 74) rfl rfl Try.func11 (by kernel_rfl) rfl #[.int .i64 t128, .int .i64 t122] rfl (by (try simp only [List.map_toArray, List.map_cons, List.map_nil]); first | done | rfl | (simp only [List.length_drop, List.length_take]; rfl)) ?_; (with_reducible refine (num_Add.calls t128 t122 t130 t131 _ A36.out).mono ?_); rintro e w' ⟨rfl, ⟨nd, rfl⟩⟩; refine ⟨_, rfl, ?_⟩))
              go_ret
              exact ⟨by first | rfl | (simp [errW_none, errW_some] <;> rfl) | (simp [*, errW_none, errW_some] <;> rfl), by repeat (first | (with_reducible first | exact HB.out | apply below_alloc | apply pw_below_drewN | apply below_drew1) | exact HB.out)⟩
          · rw [if_neg c38] at H
            have c38b0 : (t129 == 0) = false := beq_eq_false_iff_ne.mpr c38
            have c38b1 : (t129 != 0) = true := bne_iff_ne.mpr c38
            obtain rfl := Option.some.inj H
            go_wp2_with (first | ((with_reducible refine gate_callee (f := 15) rfl ?_); refine goesL_ (some 68) rfl rfl Try.func15 (by kernel_rfl) rfl #[.int .i64 a1, .int .i64 t120] rfl (by (try simp only [List.map_toArray, List.map_cons, List.map_nil]); first | done | rfl | (simp only [List.length_drop, List.length_take]; rfl)) ?_; (with_reducible refine (num_Mul.calls kj4 a1 t120 t128 t129 _ A35.out).mono ?_); rintro e w' ⟨rfl, ⟨nd, rfl⟩⟩; refine ⟨_, rfl, ?_⟩) | ((with_reducible refine gate_callee (f := 11) rfl ?_); refine goesL_ (some 74) rfl rfl Try.func11 (by kernel_rfl) rfl #[.int .i64 t128, .int .i64 t122] rfl (by (try simp only [List.map_toArray, List.map_cons, List.map_nil]); first | done | rfl | (simp only [List.length_drop, List.length_take]; rfl)) ?_; (with_reducible refine (num_Add.calls t128 t122 t130 t131 _ A36.out).mono ?_); rintro e w' ⟨rfl, ⟨nd, rfl⟩⟩; refine ⟨_, rfl, ?_⟩))
            go_ret
            exact ⟨by first | rfl | (simp [errW_none, errW_some] <;> rfl) | (simp [*, errW_none, errW_some] <;> rfl), by repeat (first | (with_reducible first | exact HB.out | apply below_alloc | apply pw_below_drewN | apply below_drew1) | exact HB.out)⟩
        · rw [if_neg c37] at H
          have c37b0 : (t122 == 0) = false := beq_eq_false_iff_ne.mpr c37
          have c37b1 : (t122 != 0) = true := bne_iff_ne.mpr c37
          by_cases c43 : a1 > 0
          · rw [if_pos c43] at H
            have c43b0 : decide (0 < a1) = true := decide_eq_true c43
            clear c43
            by_cases c44 : t122 < a1
            · rw [if_pos c44] at H
              have c44b0 : decide (t122 < a1) = true := decide_eq_true c44
              clear c44
              by_cases c45 : t122 > (wrap64 (-a1))
              · rw [if_pos c45] at H
                have c45b0 : decide ((wrap64 (-a1)) < t122) = true := decide_eq_true c45
                clear c45
                by_cases c46 : t129 = 0
                · rw [if_pos c46] at H
                  have c46b0 : (t129 == 0) = true := beq_iff_eq.mpr c46
                  have c46b1 : (t129 != 0) = false := bne_eq_false_iff_eq.mpr c46
                  clear c46
                  by_cases c47 : t131 = 0
                  · rw [if_pos c47] at H
                    have c47b0 : (t131 == 0) = true := beq_iff_eq.mpr c47
                    have c47b1 : (t131 != 0) = false := bne_eq_false_iff_eq.mpr c47
                    clear c47
                    by_cases c48 : t130 = a0
                    · rw [if_pos c48] at H
                      have c48b0 : (t130 == a0) = true := beq_iff_eq.mpr c48
                      have c48b1 : (t130 != a0) = false := bne_eq_false_iff_eq.mpr c48
                      clear c48
                      by_cases c49 : ((decide (t122 < 0)) == (decide (a0 < 0))) = true
                      · rw [if_pos c49] at H
                        have c49b0 : ((decide (t122 < 0)) == (decide (a0 < 0))) = true := c49
                        (try (have c49b1 : decide ((decide (t122 < 0)) = (decide (a0 < 0))) = true := by simpa using c49))
                        (try (have c49b2 : ((decide (t122 < 0)) == (decide (a0 < 0))) = true := by simpa using c49))
                        clear c49
                        replace H := Option.bind_eq_some_iff.mp H
                        obtain ⟨t133, A500, H⟩ := H
                        replace H : (some t133) = some r := H
                        have A50 := Aside0.mk A500
                        clear A500
                        obtain rfl := Option.some.inj H
                        go_wp2_with (first | ((with_reducible refine gate_callee (f := 15) rfl ?_); refine goesL_ (some 68) rfl rfl Try.func15 (by kernel_rfl) rfl #[.int .i64 a1, .int .i64 t120] rfl (by (try simp only [List.map_toArray, List.map_cons, List.map_nil]); first | done | rfl | (simp only [List.length_drop, List.length_take]; rfl)) ?_; (with_reducible refine (num_Mul.calls kj4 a1 t120 t128 t129 _ A35.out).mono ?_); rintro e w' ⟨rfl, ⟨nd, rfl⟩⟩; refine ⟨_, rfl, ?_⟩) | ((with_reducible refine gate_callee (f := 11) rfl ?_); refine goesL_ (some 74) rfl rfl Try.func11 (by kernel_rfl) rfl #[.int .i64 t128, .int .i64 t122] rfl (by (try simp only [List.map_toArray, List.map_cons, List.map_nil]); first | done | rfl | (simp only [List.length_drop, List.length_take]; rfl)) ?_; (with_reducible refine (num_Add.calls t128 t122 t130 t131 _ A36.out).mono ?_); rintro e w' ⟨rfl, ⟨nd, rfl⟩⟩; refine ⟨_, rfl, ?_⟩) | (go_at_call 10; (with_reducible refine (cotillionlaw1_known.calls kj4  t133 _ A50.out).mono ?_); rintro e w51 ⟨rfl, hb⟩; have n0_ := Aside0.mk (below_step (by repeat (first | (with_reducible first | exact HB.out | apply below_alloc | apply pw_below_drewN | apply below_drew1) | exact HB.out)) hb); clear HB; have HB := n0_; clear n0_; (try clear hb); (try clear hb2); (try clear hk); (try clear hi)))
                        go_ret
                        exact ⟨by first | rfl | (simp [errW_none, errW_some] <;> rfl) | (simp [*, errW_none, errW_some] <;> rfl), by repeat (first | (with_reducible first | exact HB.out | apply below_alloc | apply pw_below_drewN | apply below_drew1) | exact HB.out)⟩
                      · rw [if_neg c49] at H
                        have c49b0 : ((decide (t122 < 0)) == (decide (a0 < 0))) = false := by simpa using c49
                        (try (have c49b1 : decide ((decide (t122 < 0)) = (decide (a0 < 0))) = false := by simpa using c49))
                        (try (have c49b2 : ((decide (t122 < 0)) == (decide (a0 < 0))) = false := by simpa using c49))
                        (try (have c49b3 : ¬ ((decide (t122 < 0)) = (decide (a0 < 0))) := by simpa using c49))
                        clear c49
                        obtain rfl := Option.some.inj H
                        go_wp2_with (first | ((with_reducible refine gate_callee (f := 15) rfl ?_); refine goesL_ (some 68) rfl rfl Try.func15 (by kernel_rfl) rfl #[.int .i64 a1, .int .i64 t120] rfl (by (try simp only [List.map_toArray, List.map_cons, List.map_nil]); first | done | rfl | (simp only [List.length_drop, List.length_take]; rfl)) ?_; (with_reducible refine (num_Mul.calls kj4 a1 t120 t128 t129 _ A35.out).mono ?_); rintro e w' ⟨rfl, ⟨nd, rfl⟩⟩; refine ⟨_, rfl, ?_⟩) | ((with_reducible refine gate_callee (f := 11) rfl ?_); refine goesL_ (some 74) rfl rfl Try.func11 (by kernel_rfl) rfl #[.int .i64 t128, .int .i64 t122] rfl (by (try simp only [List.map_toArray, List.map_cons, List.map_nil]); first | done | rfl | (simp only [List.length_drop, List.length_take]; rfl)) ?_; (with_reducible refine (num_Add.calls t128 t122 t130 t131 _ A36.out).mono ?_); rintro e w' ⟨rfl, ⟨nd, rfl⟩⟩; refine ⟨_, rfl, ?_⟩))
                        go_ret
                        exact ⟨by first | rfl | (simp [errW_none, errW_some] <;> rfl) | (simp [*, errW_none, errW_some] <;> rfl), by repeat (first | (with_reducible first | exact HB.out | apply below_alloc | apply pw_below_drewN | apply below_drew1) | exact HB.out)⟩
                    · rw [if_neg c48] at H
                      have c48b0 : (t130 == a0) = false := beq_eq_false_iff_ne.mpr c48
                      have c48b1 : (t130 != a0) = true := bne_iff_ne.mpr c48
                      obtain rfl := Option.some.inj H
                      go_wp2_with (first | ((with_reducible refine gate_callee (f := 15) rfl ?_); refine goesL_ (some 68) rfl rfl Try.func15 (by kernel_rfl) rfl #[.int .i64 a1, .int .i64 t120] rfl (by (try simp only [List.map_toArray, List.map_cons, List.map_nil]); first | done | rfl | (simp only [List.length_drop, List.length_take]; rfl)) ?_; (with_reducible refine (num_Mul.calls kj4 a1 t120 t128 t129 _ A35.out).mono ?_); rintro e w' ⟨rfl, ⟨nd, rfl⟩⟩; refine ⟨_, rfl, ?_⟩) | ((with_reducible refine gate_callee (f := 11) rfl ?_); refine goesL_ (some 74) rfl rfl Try.func11 (by kernel_rfl) rfl #[.int .i64 t128, .int .i64 t122] rfl (by (try simp only [List.map_toArray, List.map_cons, List.map_nil]); first | done | rfl | (simp only [List.length_drop, List.length_take]; rfl)) ?_; (with_reducible refine (num_Add.calls t128 t122 t130 t131 _ A36.out).mono ?_); rintro e w' ⟨rfl, ⟨nd, rfl⟩⟩; refine ⟨_, rfl, ?_⟩))
                      go_ret
                      exact ⟨by first | rfl | (simp [errW_none, errW_some] <;> rfl) | (simp [*, errW_none, errW_some] <;> rfl), by repeat (first | (with_reducible first | exact HB.out | apply below_alloc | apply pw_below_drewN | apply below_drew1) | exact HB.out)⟩
                  · rw [if_neg c47] at H
                    have c47b0 : (t131 == 0) = false := beq_eq_false_iff_ne.mpr c47
                    have c47b1 : (t131 != 0) = true := bne_iff_ne.mpr c47
                    obtain rfl := Option.some.inj H
                    go_wp2_with (first | ((with_reducible refine gate_callee (f := 15) rfl ?_); refine goesL_ (some 68) rfl rfl Try.func15 (by kernel_rfl) rfl #[.int .i64 a1, .int .i64 t120] rfl (by (try simp only [List.map_toArray, List.map_cons, List.map_nil]); first | done | rfl | (simp only [List.length_drop, List.length_take]; rfl)) ?_; (with_reducible refine (num_Mul.calls kj4 a1 t120 t128 t129 _ A35.out).mono ?_); rintro e w' ⟨rfl, ⟨nd, rfl⟩⟩; refine ⟨_, rfl, ?_⟩) | ((with_reducible refine gate_callee (f := 11) rfl ?_); refine goesL_ (some 74) rfl rfl Try.func11 (by kernel_rfl) rfl #[.int .i64 t128, .int .i64 t122] rfl (by (try simp only [List.map_toArray, List.map_cons, List.map_nil]); first | done | rfl | (simp only [List.length_drop, List.length_take]; rfl)) ?_; (with_reducible refine (num_Add.calls t128 t122 t130 t131 _ A36.out).mono ?_); rintro e w' ⟨rfl, ⟨nd, rfl⟩⟩; refine ⟨_, rfl, ?_⟩))
                    go_ret
                    exact ⟨by first | rfl | (simp [errW_none, errW_some] <;> rfl) | (simp [*, errW_none, errW_some] <;> rfl), by repeat (first | (with_reducible first | exact HB.out | apply below_alloc | apply pw_below_drewN | apply below_drew1) | exact HB.out)⟩
                · rw [if_neg c46] at H
                  have c46b0 : (t129 == 0) = false := beq_eq_false_iff_ne.mpr c46
                  have c46b1 : (t129 != 0) = true := bne_iff_ne.mpr c46
                  obtain rfl := Option.some.inj H
                  go_wp2_with (first | ((with_reducible refine gate_callee (f := 15) rfl ?_); refine goesL_ (some 68) rfl rfl Try.func15 (by kernel_rfl) rfl #[.int .i64 a1, .int .i64 t120] rfl (by (try simp only [List.map_toArray, List.map_cons, List.map_nil]); first | done | rfl | (simp only [List.length_drop, List.length_take]; rfl)) ?_; (with_reducible refine (num_Mul.calls kj4 a1 t120 t128 t129 _ A35.out).mono ?_); rintro e w' ⟨rfl, ⟨nd, rfl⟩⟩; refine ⟨_, rfl, ?_⟩) | ((with_reducible refine gate_callee (f := 11) rfl ?_); refine goesL_ (some 74) rfl rfl Try.func11 (by kernel_rfl) rfl #[.int .i64 t128, .int .i64 t122] rfl (by (try simp only [List.map_toArray, List.map_cons, List.map_nil]); first | done | rfl | (simp only [List.length_drop, List.length_take]; rfl)) ?_; (with_reducible refine (num_Add.calls t128 t122 t130 t131 _ A36.out).mono ?_); rintro e w' ⟨rfl, ⟨nd, rfl⟩⟩; refine ⟨_, rfl, ?_⟩))
                  go_ret
                  exact ⟨by first | rfl | (simp [errW_none, errW_some] <;> rfl) | (simp [*, errW_none, errW_some] <;> rfl), by repeat (first | (with_reducible first | exact HB.out | apply below_alloc | apply pw_below_drewN | apply below_drew1) | exact HB.out)⟩
              · rw [if_neg c45] at H
                have c45b0 : decide ((wrap64 (-a1)) < t122) = false := decide_eq_false c45
                clear c45
                by_cases c52 : a1 < 0
                · rw [if_pos c52] at H
                  have c52b0 : decide (a1 < 0) = true := decide_eq_true c52
                  clear c52
                  by_cases c53 : t122 > a1
                  · rw [if_pos c53] at H
                    have c53b0 : decide (a1 < t122) = true := decide_eq_true c53
                    clear c53
                    by_cases c54 : a1 = (-9223372036854775808)
                    · rw [if_pos c54] at H
                      have c54b0 : (a1 == (-9223372036854775808)) = true := beq_iff_eq.mpr c54
                      have c54b1 : (a1 != (-9223372036854775808)) = false := bne_eq_false_iff_eq.mpr c54
                      clear c54
                      by_cases c55 : t129 = 0
                      · rw [if_pos c55] at H
                        have c55b0 : (t129 == 0) = true := beq_iff_eq.mpr c55
                        have c55b1 : (t129 != 0) = false := bne_eq_false_iff_eq.mpr c55
                        clear c55
                        by_cases c56 : t131 = 0
                        · rw [if_pos c56] at H
                          have c56b0 : (t131 == 0) = true := beq_iff_eq.mpr c56
                          have c56b1 : (t131 != 0) = false := bne_eq_false_iff_eq.mpr c56
                          clear c56
                          by_cases c57 : t130 = a0
                          · rw [if_pos c57] at H
                            have c57b0 : (t130 == a0) = true := beq_iff_eq.mpr c57
                            have c57b1 : (t130 != a0) = false := bne_eq_false_iff_eq.mpr c57
                            clear c57
                            by_cases c58 : ((decide (t122 < 0)) == (decide (a0 < 0))) = true
                            · rw [if_pos c58] at H
                              have c58b0 : ((decide (t122 < 0)) == (decide (a0 < 0))) = true := c58
                              (try (have c58b1 : decide ((decide (t122 < 0)) = (decide (a0 < 0))) = true := by simpa using c58))
                              (try (have c58b2 : ((decide (t122 < 0)) == (decide (a0 < 0))) = true := by simpa using c58))
                              clear c58
                              replace H := Option.bind_eq_some_iff.mp H
                              obtain ⟨t134, A590, H⟩ := H
                              replace H : (some t134) = some r := H
                              have A59 := Aside0.mk A590
                              clear A590
                              obtain rfl := Option.some.inj H
                              go_wp2_with (first | ((with_reducible refine gate_callee (f := 15) rfl ?_); refine goesL_ (some 68) rfl rfl Try.func15 (by kernel_rfl) rfl #[.int .i64 a1, .int .i64 t120] rfl (by (try simp only [List.map_toArray, List.map_cons, List.map_nil]); first | done | rfl | (simp only [List.length_drop, List.length_take]; rfl)) ?_; (with_reducible refine (num_Mul.calls kj4 a1 t120 t128 t129 _ A35.out).mono ?_); rintro e w' ⟨rfl, ⟨nd, rfl⟩⟩; refine ⟨_, rfl, ?_⟩) | ((with_reducible refine gate_callee (f := 11) rfl ?_); refine goesL_ (some 74) rfl rfl Try.func11 (by kernel_rfl) rfl #[.int .i64 t128, .int .i64 t122] rfl (by (try simp only [List.map_toArray, List.map_cons, List.map_nil]); first | done | rfl | (simp only [List.length_drop, List.length_take]; rfl)) ?_; (with_reducible refine (num_Add.calls t128 t122 t130 t131 _ A36.out).mono ?_); rintro e w' ⟨rfl, ⟨nd, rfl⟩⟩; refine ⟨_, rfl, ?_⟩) | (go_at_call 10; (with_reducible refine (cotillionlaw1_known.calls kj4  t134 _ A59.out).mono ?_); rintro e w60 ⟨rfl, hb⟩; have n0_ := Aside0.mk (below_step (by repeat (first | (with_reducible first | exact HB.out | apply below_alloc | apply pw_below_drewN | apply below_drew1) | exact HB.out)) hb); clear HB; have HB := n0_; clear n0_; (try clear hb); (try clear hb2); (try clear hk); (try clear hi)))
                              go_ret
                              exact ⟨by first | rfl | (simp [errW_none, errW_some] <;> rfl) | (simp [*, errW_none, errW_some] <;> rfl), by repeat (first | (with_reducible first | exact HB.out | apply below_alloc | apply pw_below_drewN | apply below_drew1) | exact HB.out)⟩
                            · rw [if_neg c58] at H
                              have c58b0 : ((decide (t122 < 0)) == (decide (a0 < 0))) = false := by simpa using c58
                              (try (have c58b1 : decide ((decide (t122 < 0)) = (decide (a0 < 0))) = false := by simpa using c58))
                              (try (have c58b2 : ((decide (t122 < 0)) == (decide (a0 < 0))) = false := by simpa using c58))
                              (try (have c58b3 : ¬ ((decide (t122 < 0)) = (decide (a0 < 0))) := by simpa using c58))
                              clear c58
                              obtain rfl := Option.some.inj H
                              go_wp2_with (first | ((with_reducible refine gate_callee (f := 15) rfl ?_); refine goesL_ (some 68) rfl rfl Try.func15 (by kernel_rfl) rfl #[.int .i64 a1, .int .i64 t120] rfl (by (try simp only [List.map_toArray, List.map_cons, List.map_nil]); first | done | rfl | (simp only [List.length_drop, List.length_take]; rfl)) ?_; (with_reducible refine (num_Mul.calls kj4 a1 t120 t128 t129 _ A35.out).mono ?_); rintro e w' ⟨rfl, ⟨nd, rfl⟩⟩; refine ⟨_, rfl, ?_⟩) | ((with_reducible refine gate_callee (f := 11) rfl ?_); refine goesL_ (some 74) rfl rfl Try.func11 (by kernel_rfl) rfl #[.int .i64 t128, .int .i64 t122] rfl (by (try simp only [List.map_toArray, List.map_cons, List.map_nil]); first | done | rfl | (simp only [List.length_drop, List.length_take]; rfl)) ?_; (with_reducible refine (num_Add.calls t128 t122 t130 t131 _ A36.out).mono ?_); rintro e w' ⟨rfl, ⟨nd, rfl⟩⟩; refine ⟨_, rfl, ?_⟩))
                              go_ret
                              exact ⟨by first | rfl | (simp [errW_none, errW_some] <;> rfl) | (simp [*, errW_none, errW_some] <;> rfl), by repeat (first | (with_reducible first | exact HB.out | apply below_alloc | apply pw_below_drewN | apply below_drew1) | exact HB.out)⟩
                          · rw [if_neg c57] at H
                            have c57b0 : (t130 == a0) = false := beq_eq_false_iff_ne.mpr c57
                            have c57b1 : (t130 != a0) = true := bne_iff_ne.mpr c57
                            obtain rfl := Option.some.inj H
                            go_wp2_with (first | ((with_reducible refine gate_callee (f := 15) rfl ?_); refine goesL_ (some 68) rfl rfl Try.func15 (by kernel_rfl) rfl #[.int .i64 a1, .int .i64 t120] rfl (by (try simp only [List.map_toArray, List.map_cons, List.map_nil]); first | done | rfl | (simp only [List.length_drop, List.length_take]; rfl)) ?_; (with_reducible refine (num_Mul.calls kj4 a1 t120 t128 t129 _ A35.out).mono ?_); rintro e w' ⟨rfl, ⟨nd, rfl⟩⟩; refine ⟨_, rfl, ?_⟩) | ((with_reducible refine gate_callee (f := 11) rfl ?_); refine goesL_ (some 74) rfl rfl Try.func11 (by kernel_rfl) rfl #[.int .i64 t128, .int .i64 t122] rfl (by (try simp only [List.map_toArray, List.map_cons, List.map_nil]); first | done | rfl | (simp only [List.length_drop, List.length_take]; rfl)) ?_; (with_reducible refine (num_Add.calls t128 t122 t130 t131 _ A36.out).mono ?_); rintro e w' ⟨rfl, ⟨nd, rfl⟩⟩; refine ⟨_, rfl, ?_⟩))
                            go_ret
                            exact ⟨by first | rfl | (simp [errW_none, errW_some] <;> rfl) | (simp [*, errW_none, errW_some] <;> rfl), by repeat (first | (with_reducible first | exact HB.out | apply below_alloc | apply pw_below_drewN | apply below_drew1) | exact HB.out)⟩
                        · rw [if_neg c56] at H
                          have c56b0 : (t131 == 0) = false := beq_eq_false_iff_ne.mpr c56
                          have c56b1 : (t131 != 0) = true := bne_iff_ne.mpr c56
                          obtain rfl := Option.some.inj H
                          go_wp2_with (first | ((with_reducible refine gate_callee (f := 15) rfl ?_); refine goesL_ (some 68) rfl rfl Try.func15 (by kernel_rfl) rfl #[.int .i64 a1, .int .i64 t120] rfl (by (try simp only [List.map_toArray, List.map_cons, List.map_nil]); first | done | rfl | (simp only [List.length_drop, List.length_take]; rfl)) ?_; (with_reducible refine (num_Mul.calls kj4 a1 t120 t128 t129 _ A35.out).mono ?_); rintro e w' ⟨rfl, ⟨nd, rfl⟩⟩; refine ⟨_, rfl, ?_⟩) | ((with_reducible refine gate_callee (f := 11) rfl ?_); refine goesL_ (some 74) rfl rfl Try.func11 (by kernel_rfl) rfl #[.int .i64 t128, .int .i64 t122] rfl (by (try simp only [List.map_toArray, List.map_cons, List.map_nil]); first | done | rfl | (simp only [List.length_drop, List.length_take]; rfl)) ?_; (with_reducible refine (num_Add.calls t128 t122 t130 t131 _ A36.out).mono ?_); rintro e w' ⟨rfl, ⟨nd, rfl⟩⟩; refine ⟨_, rfl, ?_⟩))
                          go_ret
                          exact ⟨by first | rfl | (simp [errW_none, errW_some] <;> rfl) | (simp [*, errW_none, errW_some] <;> rfl), by repeat (first | (with_reducible first | exact HB.out | apply below_alloc | apply pw_below_drewN | apply below_drew1) | exact HB.out)⟩
                      · rw [if_neg c55] at H
                        have c55b0 : (t129 == 0) = false := beq_eq_false_iff_ne.mpr c55
                        have c55b1 : (t129 != 0) = true := bne_iff_ne.mpr c55
                        obtain rfl := Option.some.inj H
                        go_wp2_with (first | ((with_reducible refine gate_callee (f := 15) rfl ?_); refine goesL_ (some 68) rfl rfl Try.func15 (by kernel_rfl) rfl #[.int .i64 a1, .int .i64 t120] rfl (by (try simp only [List.map_toArray, List.map_cons, List.map_nil]); first | done | rfl | (simp only [List.length_drop, List.length_take]; rfl)) ?_; (with_reducible refine (num_Mul.calls kj4 a1 t120 t128 t129 _ A35.out).mono ?_); rintro e w' ⟨rfl, ⟨nd, rfl⟩⟩; refine ⟨_, rfl, ?_⟩) | ((with_reducible refine gate_callee (f := 11) rfl ?_); refine goesL_ (some 74) rfl rfl Try.func11 (by kernel_rfl) rfl #[.int .i64 t128, .int .i64 t122] rfl (by (try simp only [List.map_toArray, List.map_cons, List.map_nil]); first | done | rfl | (simp only [List.length_drop, List.length_take]; rfl)) ?_; (with_reducible refine (num_Add.calls t128 t122 t130 t131 _ A36.out).mono ?_); rintro e w' ⟨rfl, ⟨nd, rfl⟩⟩; refine ⟨_, rfl, ?_⟩))
                        go_ret
                        exact ⟨by first | rfl | (simp [errW_none, errW_some] <;> rfl) | (simp [*, errW_none, errW_some] <;> rfl), by repeat (first | (with_reducible first | exact HB.out | apply below_alloc | apply pw_below_drewN | apply below_drew1) | exact HB.out)⟩
                    · rw [if_neg c54] at H
                      have c54b0 : (a1 == (-9223372036854775808)) = false := beq_eq_false_iff_ne.mpr c54
                      have c54b1 : (a1 != (-9223372036854775808)) = true := bne_iff_ne.mpr c54
                      by_cases c61 : t129 = 0
                      · rw [if_pos c61] at H
                        have c61b0 : (t129 == 0) = true := beq_iff_eq.mpr c61
                        have c61b1 : (t129 != 0) = false := bne_eq_false_iff_eq.mpr c61
                        clear c61
                        by_cases c62 : t131 = 0
                        · rw [if_pos c62] at H
                          have c62b0 : (t131 == 0) = true := beq_iff_eq.mpr c62
                          have c62b1 : (t131 != 0) = false := bne_eq_false_iff_eq.mpr c62
                          clear c62
                          by_cases c63 : t130 = a0
                          · rw [if_pos c63] at H
                            have c63b0 : (t130 == a0) = true := beq_iff_eq.mpr c63
                            have c63b1 : (t130 != a0) = false := bne_eq_false_iff_eq.mpr c63
                            clear c63
                            by_cases c64 : t122 < (wrap64 (-a1))
                            · rw [if_pos c64] at H
                              have c64b0 : decide (t122 < (wrap64 (-a1))) = true := decide_eq_true c64
                              clear c64
                              by_cases c65 : ((decide (t122 < 0)) == (decide (a0 < 0))) = true
                              · rw [if_pos c65] at H
                                have c65b0 : ((decide (t122 < 0)) == (decide (a0 < 0))) = true := c65
                                (try (have c65b1 : decide ((decide (t122 < 0)) = (decide (a0 < 0))) = true := by simpa using c65))
                                (try (have c65b2 : ((decide (t122 < 0)) == (decide (a0 < 0))) = true := by simpa using c65))
                                clear c65
                                replace H := Option.bind_eq_some_iff.mp H
                                obtain ⟨t135, A660, H⟩ := H
                                replace H : (some t135) = some r := H
                                have A66 := Aside0.mk A660
                                clear A660
                                obtain rfl := Option.some.inj H
                                go_wp2_with (first | ((with_reducible refine gate_callee (f := 15) rfl ?_); refine goesL_ (some 68) rfl rfl Try.func15 (by kernel_rfl) rfl #[.int .i64 a1, .int .i64 t120] rfl (by (try simp only [List.map_toArray, List.map_cons, List.map_nil]); first | done | rfl | (simp only [List.length_drop, List.length_take]; rfl)) ?_; (with_reducible refine (num_Mul.calls kj4 a1 t120 t128 t129 _ A35.out).mono ?_); rintro e w' ⟨rfl, ⟨nd, rfl⟩⟩; refine ⟨_, rfl, ?_⟩) | ((with_reducible refine gate_callee (f := 11) rfl ?_); refine goesL_ (some 74) rfl rfl Try.func11 (by kernel_rfl) rfl #[.int .i64 t128, .int .i64 t122] rfl (by (try simp only [List.map_toArray, List.map_cons, List.map_nil]); first | done | rfl | (simp only [List.length_drop, List.length_take]; rfl)) ?_; (with_reducible refine (num_Add.calls t128 t122 t130 t131 _ A36.out).mono ?_); rintro e w' ⟨rfl, ⟨nd, rfl⟩⟩; refine ⟨_, rfl, ?_⟩) | (go_at_call 10; (with_reducible refine (cotillionlaw1_known.calls kj4  t135 _ A66.out).mono ?_); rintro e w67 ⟨rfl, hb⟩; have n0_ := Aside0.mk (below_step (by repeat (first | (with_reducible first | exact HB.out | apply below_alloc | apply pw_below_drewN | apply below_drew1) | exact HB.out)) hb); clear HB; have HB := n0_; clear n0_; (try clear hb); (try clear hb2); (try clear hk); (try clear hi)))
                                go_ret
                                exact ⟨by first | rfl | (simp [errW_none, errW_some] <;> rfl) | (simp [*, errW_none, errW_some] <;> rfl), by repeat (first | (with_reducible first | exact HB.out | apply below_alloc | apply pw_below_drewN | apply below_drew1) | exact HB.out)⟩
                              · rw [if_neg c65] at H
                                have c65b0 : ((decide (t122 < 0)) == (decide (a0 < 0))) = false := by simpa using c65
                                (try (have c65b1 : decide ((decide (t122 < 0)) = (decide (a0 < 0))) = false := by simpa using c65))
                                (try (have c65b2 : ((decide (t122 < 0)) == (decide (a0 < 0))) = false := by simpa using c65))
                                (try (have c65b3 : ¬ ((decide (t122 < 0)) = (decide (a0 < 0))) := by simpa using c65))
                                clear c65
                                obtain rfl := Option.some.inj H
                                go_wp2_with (first | ((with_reducible refine gate_callee (f := 15) rfl ?_); refine goesL_ (some 68) rfl rfl Try.func15 (by kernel_rfl) rfl #[.int .i64 a1, .int .i64 t120] rfl (by (try simp only [List.map_toArray, List.map_cons, List.map_nil]); first | done | rfl | (simp only [List.length_drop, List.length_take]; rfl)) ?_; (with_reducible refine (num_Mul.calls kj4 a1 t120 t128 t129 _ A35.out).mono ?_); rintro e w' ⟨rfl, ⟨nd, rfl⟩⟩; refine ⟨_, rfl, ?_⟩) | ((with_reducible refine gate_callee (f := 11) rfl ?_); refine goesL_ (some 74) rfl rfl Try.func11 (by kernel_rfl) rfl #[.int .i64 t128, .int .i64 t122] rfl (by (try simp only [List.map_toArray, List.map_cons, List.map_nil]); first | done | rfl | (simp only [List.length_drop, List.length_take]; rfl)) ?_; (with_reducible refine (num_Add.calls t128 t122 t130 t131 _ A36.out).mono ?_); rintro e w' ⟨rfl, ⟨nd, rfl⟩⟩; refine ⟨_, rfl, ?_⟩))
                                go_ret
                                exact ⟨by first | rfl | (simp [errW_none, errW_some] <;> rfl) | (simp [*, errW_none, errW_some] <;> rfl), by repeat (first | (with_reducible first | exact HB.out | apply below_alloc | apply pw_below_drewN | apply below_drew1) | exact HB.out)⟩
                            · rw [if_neg c64] at H
                              have c64b0 : decide (t122 < (wrap64 (-a1))) = false := decide_eq_false c64
                              clear c64
                              obtain rfl := Option.some.inj H
                              go_wp2_with (first | ((with_reducible refine gate_callee (f := 15) rfl ?_); refine goesL_ (some 68) rfl rfl Try.func15 (by kernel_rfl) rfl #[.int .i64 a1, .int .i64 t120] rfl (by (try simp only [List.map_toArray, List.map_cons, List.map_nil]); first | done | rfl | (simp only [List.length_drop, List.length_take]; rfl)) ?_; (with_reducible refine (num_Mul.calls kj4 a1 t120 t128 t129 _ A35.out).mono ?_); rintro e w' ⟨rfl, ⟨nd, rfl⟩⟩; refine ⟨_, rfl, ?_⟩) | ((with_reducible refine gate_callee (f := 11) rfl ?_); refine goesL_ (some 74) rfl rfl Try.func11 (by kernel_rfl) rfl #[.int .i64 t128, .int .i64 t122] rfl (by (try simp only [List.map_toArray, List.map_cons, List.map_nil]); first | done | rfl | (simp only [List.length_drop, List.length_take]; rfl)) ?_; (with_reducible refine (num_Add.calls t128 t122 t130 t131 _ A36.out).mono ?_); rintro e w' ⟨rfl, ⟨nd, rfl⟩⟩; refine ⟨_, rfl, ?_⟩))
                              go_ret
                              exact ⟨by first | rfl | (simp [errW_none, errW_some] <;> rfl) | (simp [*, errW_none, errW_some] <;> rfl), by repeat (first | (with_reducible first | exact HB.out | apply below_alloc | apply pw_below_drewN | apply below_drew1) | exact HB.out)⟩
                          · rw [if_neg c63] at H
                            have c63b0 : (t130 == a0) = false := beq_eq_false_iff_ne.mpr c63
                            have c63b1 : (t130 != a0) = true := bne_iff_ne.mpr c63
                            obtain rfl := Option.some.inj H
                            go_wp2_with (first | ((with_reducible refine gate_callee (f := 15) rfl ?_); refine goesL_ (some 68) rfl rfl Try.func15 (by kernel_rfl) rfl #[.int .i64 a1, .int .i64 t120] rfl (by (try simp only [List.map_toArray, List.map_cons, List.map_nil]); first | done | rfl | (simp only [List.length_drop, List.length_take]; rfl)) ?_; (with_reducible refine (num_Mul.calls kj4 a1 t120 t128 t129 _ A35.out).mono ?_); rintro e w' ⟨rfl, ⟨nd, rfl⟩⟩; refine ⟨_, rfl, ?_⟩) | ((with_reducible refine gate_callee (f := 11) rfl ?_); refine goesL_ (some 74) rfl rfl Try.func11 (by kernel_rfl) rfl #[.int .i64 t128, .int .i64 t122] rfl (by (try simp only [List.map_toArray, List.map_cons, List.map_nil]); first | done | rfl | (simp only [List.length_drop, List.length_take]; rfl)) ?_; (with_reducible refine (num_Add.calls t128 t122 t130 t131 _ A36.out).mono ?_); rintro e w' ⟨rfl, ⟨nd, rfl⟩⟩; refine ⟨_, rfl, ?_⟩))
                            go_ret
                            exact ⟨by first | rfl | (simp [errW_none, errW_some] <;> rfl) | (simp [*, errW_none, errW_some] <;> rfl), by repeat (first | (with_reducible first | exact HB.out | apply below_alloc | apply pw_below_drewN | apply below_drew1) | exact HB.out)⟩
                        · rw [if_neg c62] at H
                          have c62b0 : (t131 == 0) = false := beq_eq_false_iff_ne.mpr c62
                          have c62b1 : (t131 != 0) = true := bne_iff_ne.mpr c62
                          obtain rfl := Option.some.inj H
                          go_wp2_with (first | ((with_reducible refine gate_callee (f := 15) rfl ?_); refine goesL_ (some 68) rfl rfl Try.func15 (by kernel_rfl) rfl #[.int .i64 a1, .int .i64 t120] rfl (by (try simp only [List.map_toArray, List.map_cons, List.map_nil]); first | done | rfl | (simp only [List.length_drop, List.length_take]; rfl)) ?_; (with_reducible refine (num_Mul.calls kj4 a1 t120 t128 t129 _ A35.out).mono ?_); rintro e w' ⟨rfl, ⟨nd, rfl⟩⟩; refine ⟨_, rfl, ?_⟩) | ((with_reducible refine gate_callee (f := 11) rfl ?_); refine goesL_ (some 74) rfl rfl Try.func11 (by kernel_rfl) rfl #[.int .i64 t128, .int .i64 t122] rfl (by (try simp only [List.map_toArray, List.map_cons, List.map_nil]); first | done | rfl | (simp only [List.length_drop, List.length_take]; rfl)) ?_; (with_reducible refine (num_Add.calls t128 t122 t130 t131 _ A36.out).mono ?_); rintro e w' ⟨rfl, ⟨nd, rfl⟩⟩; refine ⟨_, rfl, ?_⟩))
                          go_ret
                          exact ⟨by first | rfl | (simp [errW_none, errW_some] <;> rfl) | (simp [*, errW_none, errW_some] <;> rfl), by repeat (first | (with_reducible first | exact HB.out | apply below_alloc | apply pw_below_drewN | apply below_drew1) | exact HB.out)⟩
                      · rw [if_neg c61] at H
                        have c61b0 : (t129 == 0) = false := beq_eq_false_iff_ne.mpr c61
                        have c61b1 : (t129 != 0) = true := bne_iff_ne.mpr c61
                        obtain rfl := Option.some.inj H
                        go_wp2_with (first | ((with_reducible refine gate_callee (f := 15) rfl ?_); refine goesL_ (some 68) rfl rfl Try.func15 (by kernel_rfl) rfl #[.int .i64 a1, .int .i64 t120] rfl (by (try simp only [List.map_toArray, List.map_cons, List.map_nil]); first | done | rfl | (simp only [List.length_drop, List.length_take]; rfl)) ?_; (with_reducible refine (num_Mul.calls kj4 a1 t120 t128 t129 _ A35.out).mono ?_); rintro e w' ⟨rfl, ⟨nd, rfl⟩⟩; refine ⟨_, rfl, ?_⟩) | ((with_reducible refine gate_callee (f := 11) rfl ?_); refine goesL_ (some 74) rfl rfl Try.func11 (by kernel_rfl) rfl #[.int .i64 t128, .int .i64 t122] rfl (by (try simp only [List.map_toArray, List.map_cons, List.map_nil]); first | done | rfl | (simp only [List.length_drop, List.length_take]; rfl)) ?_; (with_reducible refine (num_Add.calls t128 t122 t130 t131 _ A36.out).mono ?_); rintro e w' ⟨rfl, ⟨nd, rfl⟩⟩; refine ⟨_, rfl, ?_⟩))
                        go_ret
                        exact ⟨by first | rfl | (simp [errW_none, errW_some] <;> rfl) | (simp [*, errW_none, errW_some] <;> rfl), by repeat (first | (with_reducible first | exact HB.out | apply below_alloc | apply pw_below_drewN | apply below_drew1) | exact HB.out)⟩
                  · rw [if_neg c53] at H
                    have c53b0 : decide (a1 < t122) = false := decide_eq_false c53
                    clear c53
                    by_cases c68 : t129 = 0
                    · rw [if_pos c68] at H
                      have c68b0 : (t129 == 0) = true := beq_iff_eq.mpr c68
                      have c68b1 : (t129 != 0) = false := bne_eq_false_iff_eq.mpr c68
                      clear c68
                      by_cases c69 : t131 = 0
                      · rw [if_pos c69] at H
                        have c69b0 : (t131 == 0) = true := beq_iff_eq.mpr c69
                        have c69b1 : (t131 != 0) = false := bne_eq_false_iff_eq.mpr c69
                        clear c69
                        by_cases c70 : t130 = a0
                        · rw [if_pos c70] at H
                          have c70b0 : (t130 == a0) = true := beq_iff_eq.mpr c70
                          have c70b1 : (t130 != a0) = false := bne_eq_false_iff_eq.mpr c70
                          clear c70
                          obtain rfl := Option.some.inj H
                          go_wp2_with (first | ((with_reducible refine gate_callee (f := 15) rfl ?_); refine goesL_ (some 68) rfl rfl Try.func15 (by kernel_rfl) rfl #[.int .i64 a1, .int .i64 t120] rfl (by (try simp only [List.map_toArray, List.map_cons, List.map_nil]); first | done | rfl | (simp only [List.length_drop, List.length_take]; rfl)) ?_; (with_reducible refine (num_Mul.calls kj4 a1 t120 t128 t129 _ A35.out).mono ?_); rintro e w' ⟨rfl, ⟨nd, rfl⟩⟩; refine ⟨_, rfl, ?_⟩) | ((with_reducible refine gate_callee (f := 11) rfl ?_); refine goesL_ (some 74) rfl rfl Try.func11 (by kernel_rfl) rfl #[.int .i64 t128, .int .i64 t122] rfl (by (try simp only [List.map_toArray, List.map_cons, List.map_nil]); first | done | rfl | (simp only [List.length_drop, List.length_take]; rfl)) ?_; (with_reducible refine (num_Add.calls t128 t122 t130 t131 _ A36.out).mono ?_); rintro e w' ⟨rfl, ⟨nd, rfl⟩⟩; refine ⟨_, rfl, ?_⟩))
                          go_ret
                          exact ⟨by first | rfl | (simp [errW_none, errW_some] <;> rfl) | (simp [*, errW_none, errW_some] <;> rfl), by repeat (first | (with_reducible first | exact HB.out | apply below_alloc | apply pw_below_drewN | apply below_drew1) | exact HB.out)⟩
                        · rw [if_neg c70] at H
                          have c70b0 : (t130 == a0) = false := beq_eq_false_iff_ne.mpr c70
                          have c70b1 : (t130 != a0) = true := bne_iff_ne.mpr c70
                          obtain rfl := Option.some.inj H
                          go_wp2_with (first | ((with_reducible refine gate_callee (f := 15) rfl ?_); refine goesL_ (some 68) rfl rfl Try.func15 (by kernel_rfl) rfl #[.int .i64 a1, .int .i64 t120] rfl (by (try simp only [List.map_toArray, List.map_cons, List.map_nil]); first | done | rfl | (simp only [List.length_drop, List.length_take]; rfl)) ?_; (with_reducible refine (num_Mul.calls kj4 a1 t120 t128 t129 _ A35.out).mono ?_); rintro e w' ⟨rfl, ⟨nd, rfl⟩⟩; refine ⟨_, rfl, ?_⟩) | ((with_reducible refine gate_callee (f := 11) rfl ?_); refine goesL_ (some 74) rfl rfl Try.func11 (by kernel_rfl) rfl #[.int .i64 t128, .int .i64 t122] rfl (by (try simp only [List.map_toArray, List.map_cons, List.map_nil]); first | done | rfl | (simp only [List.length_drop, List.length_take]; rfl)) ?_; (with_reducible refine (num_Add.calls t128 t122 t130 t131 _ A36.out).mono ?_); rintro e w' ⟨rfl, ⟨nd, rfl⟩⟩; refine ⟨_, rfl, ?_⟩))
                          go_ret
                          exact ⟨by first | rfl | (simp [errW_none, errW_some] <;> rfl) | (simp [*, errW_none, errW_some] <;> rfl), by repeat (first | (with_reducible first | exact HB.out | apply below_alloc | apply pw_below_drewN | apply below_drew1) | exact HB.out)⟩
                      · rw [if_neg c69] at H
                        have c69b0 : (t131 == 0) = false := beq_eq_false_iff_ne.mpr c69
                        have c69b1 : (t131 != 0) = true := bne_iff_ne.mpr c69
                        obtain rfl := Option.some.inj H
                        go_wp2_with (first | ((with_reducible refine gate_callee (f := 15) rfl ?_); refine goesL_ (some 68) rfl rfl Try.func15 (by kernel_rfl) rfl #[.int .i64 a1, .int .i64 t120] rfl (by (try simp only [List.map_toArray, List.map_cons, List.map_nil]); first | done | rfl | (simp only [List.length_drop, List.length_take]; rfl)) ?_; (with_reducible refine (num_Mul.calls kj4 a1 t120 t128 t129 _ A35.out).mono ?_); rintro e w' ⟨rfl, ⟨nd, rfl⟩⟩; refine ⟨_, rfl, ?_⟩) | ((with_reducible refine gate_callee (f := 11) rfl ?_); refine goesL_ (some 74) rfl rfl Try.func11 (by kernel_rfl) rfl #[.int .i64 t128, .int .i64 t122] rfl (by (try simp only [List.map_toArray, List.map_cons, List.map_nil]); first | done | rfl | (simp only [List.length_drop, List.length_take]; rfl)) ?_; (with_reducible refine (num_Add.calls t128 t122 t130 t131 _ A36.out).mono ?_); rintro e w' ⟨rfl, ⟨nd, rfl⟩⟩; refine ⟨_, rfl, ?_⟩))
                        go_ret
                        exact ⟨by first | rfl | (simp [errW_none, errW_some] <;> rfl) | (simp [*, errW_none, errW_some] <;> rfl), by repeat (first | (with_reducible first | exact HB.out | apply below_alloc | apply pw_below_drewN | apply below_drew1) | exact HB.out)⟩
                    · rw [if_neg c68] at H
                      have c68b0 : (t129 == 0) = false := beq_eq_false_iff_ne.mpr c68
                      have c68b1 : (t129 != 0) = true := bne_iff_ne.mpr c68
                      obtain rfl := Option.some.inj H
                      go_wp2_with (first | ((with_reducible refine gate_callee (f := 15) rfl ?_); refine goesL_ (some 68) rfl rfl Try.func15 (by kernel_rfl) rfl #[.int .i64 a1, .int .i64 t120] rfl (by (try simp only [List.map_toArray, List.map_cons, List.map_nil]); first | done | rfl | (simp only [List.length_drop, List.length_take]; rfl)) ?_; (with_reducible refine (num_Mul.calls kj4 a1 t120 t128 t129 _ A35.out).mono ?_); rintro e w' ⟨rfl, ⟨nd, rfl⟩⟩; refine ⟨_, rfl, ?_⟩) | ((with_reducible refine gate_callee (f := 11) rfl ?_); refine goesL_ (some 74) rfl rfl Try.func11 (by kernel_rfl) rfl #[.int .i64 t128, .int .i64 t122] rfl (by (try simp only [List.map_toArray, List.map_cons, List.map_nil]); first | done | rfl | (simp only [List.length_drop, List.length_take]; rfl)) ?_; (with_reducible refine (num_Add.calls t128 t122 t130 t131 _ A36.out).mono ?_); rintro e w' ⟨rfl, ⟨nd, rfl⟩⟩; refine ⟨_, rfl, ?_⟩))
                      go_ret
                      exact ⟨by first | rfl | (simp [errW_none, errW_some] <;> rfl) | (simp [*, errW_none, errW_some] <;> rfl), by repeat (first | (with_reducible first | exact HB.out | apply below_alloc | apply pw_below_drewN | apply below_drew1) | exact HB.out)⟩
                · rw [if_neg c52] at H
                  have c52b0 : decide (a1 < 0) = false := decide_eq_false c52
                  clear c52
                  by_cases c71 : t129 = 0
                  · rw [if_pos c71] at H
                    have c71b0 : (t129 == 0) = true := beq_iff_eq.mpr c71
                    have c71b1 : (t129 != 0) = false := bne_eq_false_iff_eq.mpr c71
                    clear c71
                    by_cases c72 : t131 = 0
                    · rw [if_pos c72] at H
                      have c72b0 : (t131 == 0) = true := beq_iff_eq.mpr c72
                      have c72b1 : (t131 != 0) = false := bne_eq_false_iff_eq.mpr c72
                      clear c72
                      by_cases c73 : t130 = a0
                      · rw [if_pos c73] at H
                        have c73b0 : (t130 == a0) = true := beq_iff_eq.mpr c73
                        have c73b1 : (t130 != a0) = false := bne_eq_false_iff_eq.mpr c73
                        clear c73
                        obtain rfl := Option.some.inj H
                        go_wp2_with (first | ((with_reducible refine gate_callee (f := 15) rfl ?_); refine goesL_ (some 68) rfl rfl Try.func15 (by kernel_rfl) rfl #[.int .i64 a1, .int .i64 t120] rfl (by (try simp only [List.map_toArray, List.map_cons, List.map_nil]); first | done | rfl | (simp only [List.length_drop, List.length_take]; rfl)) ?_; (with_reducible refine (num_Mul.calls kj4 a1 t120 t128 t129 _ A35.out).mono ?_); rintro e w' ⟨rfl, ⟨nd, rfl⟩⟩; refine ⟨_, rfl, ?_⟩) | ((with_reducible refine gate_callee (f := 11) rfl ?_); refine goesL_ (some 74) rfl rfl Try.func11 (by kernel_rfl) rfl #[.int .i64 t128, .int .i64 t122] rfl (by (try simp only [List.map_toArray, List.map_cons, List.map_nil]); first | done | rfl | (simp only [List.length_drop, List.length_take]; rfl)) ?_; (with_reducible refine (num_Add.calls t128 t122 t130 t131 _ A36.out).mono ?_); rintro e w' ⟨rfl, ⟨nd, rfl⟩⟩; refine ⟨_, rfl, ?_⟩))
                        go_ret
                        exact ⟨by first | rfl | (simp [errW_none, errW_some] <;> rfl) | (simp [*, errW_none, errW_some] <;> rfl), by repeat (first | (with_reducible first | exact HB.out | apply below_alloc | apply pw_below_drewN | apply below_drew1) | exact HB.out)⟩
                      · rw [if_neg c73] at H
                        have c73b0 : (t130 == a0) = false := beq_eq_false_iff_ne.mpr c73
                        have c73b1 : (t130 != a0) = true := bne_iff_ne.mpr c73
                        obtain rfl := Option.some.inj H
                        go_wp2_with (first | ((with_reducible refine gate_callee (f := 15) rfl ?_); refine goesL_ (some 68) rfl rfl Try.func15 (by kernel_rfl) rfl #[.int .i64 a1, .int .i64 t120] rfl (by (try simp only [List.map_toArray, List.map_cons, List.map_nil]); first | done | rfl | (simp only [List.length_drop, List.length_take]; rfl)) ?_; (with_reducible refine (num_Mul.calls kj4 a1 t120 t128 t129 _ A35.out).mono ?_); rintro e w' ⟨rfl, ⟨nd, rfl⟩⟩; refine ⟨_, rfl, ?_⟩) | ((with_reducible refine gate_callee (f := 11) rfl ?_); refine goesL_ (some 74) rfl rfl Try.func11 (by kernel_rfl) rfl #[.int .i64 t128, .int .i64 t122] rfl (by (try simp only [List.map_toArray, List.map_cons, List.map_nil]); first | done | rfl | (simp only [List.length_drop, List.length_take]; rfl)) ?_; (with_reducible refine (num_Add.calls t128 t122 t130 t131 _ A36.out).mono ?_); rintro e w' ⟨rfl, ⟨nd, rfl⟩⟩; refine ⟨_, rfl, ?_⟩))
                        go_ret
                        exact ⟨by first | rfl | (simp [errW_none, errW_some] <;> rfl) | (simp [*, errW_none, errW_some] <;> rfl), by repeat (first | (with_reducible first | exact HB.out | apply below_alloc | apply pw_below_drewN | apply below_drew1) | exact HB.out)⟩
                    · rw [if_neg c72] at H
                      have c72b0 : (t131 == 0) = false := beq_eq_false_iff_ne.mpr c72
                      have c72b1 : (t131 != 0) = true := bne_iff_ne.mpr c72
                      obtain rfl := Option.some.inj H
                      go_wp2_with (first | ((with_reducible refine gate_callee (f := 15) rfl ?_); refine goesL_ (some 68) rfl rfl Try.func15 (by kernel_rfl) rfl #[.int .i64 a1, .int .i64 t120] rfl (by (try simp only [List.map_toArray, List.map_cons, List.map_nil]); first | done | rfl | (simp only [List.length_drop, List.length_take]; rfl)) ?_; (with_reducible refine (num_Mul.calls kj4 a1 t120 t128 t129 _ A35.out).mono ?_); rintro e w' ⟨rfl, ⟨nd, rfl⟩⟩; refine ⟨_, rfl, ?_⟩) | ((with_reducible refine gate_callee (f := 11) rfl ?_); refine goesL_ (some 74) rfl rfl Try.func11 (by kernel_rfl) rfl #[.int .i64 t128, .int .i64 t122] rfl (by (try simp only [List.map_toArray, List.map_cons, List.map_nil]); first | done | rfl | (simp only [List.length_drop, List.length_take]; rfl)) ?_; (with_reducible refine (num_Add.calls t128 t122 t130 t131 _ A36.out).mono ?_); rintro e w' ⟨rfl, ⟨nd, rfl⟩⟩; refine ⟨_, rfl, ?_⟩))
                      go_ret
                      exact ⟨by first | rfl | (simp [errW_none, errW_some] <;> rfl) | (simp [*, errW_none, errW_some] <;> rfl), by repeat (first | (with_reducible first | exact HB.out | apply below_alloc | apply pw_below_drewN | apply below_drew1) | exact HB.out)⟩
                  · rw [if_neg c71] at H
                    have c71b0 : (t129 == 0) = false := beq_eq_false_iff_ne.mpr c71
                    have c71b1 : (t129 != 0) = true := bne_iff_ne.mpr c71
                    obtain rfl := Option.some.inj H
                    go_wp2_with (first | ((with_reducible refine gate_callee (f := 15) rfl ?_); refine goesL_ (some 68) rfl rfl Try.func15 (by kernel_rfl) rfl #[.int .i64 a1, .int .i64 t120] rfl (by (try simp only [List.map_toArray, List.map_cons, List.map_nil]); first | done | rfl | (simp only [List.length_drop, List.length_take]; rfl)) ?_; (with_reducible refine (num_Mul.calls kj4 a1 t120 t128 t129 _ A35.out).mono ?_); rintro e w' ⟨rfl, ⟨nd, rfl⟩⟩; refine ⟨_, rfl, ?_⟩) | ((with_reducible refine gate_callee (f := 11) rfl ?_); refine goesL_ (some 74) rfl rfl Try.func11 (by kernel_rfl) rfl #[.int .i64 t128, .int .i64 t122] rfl (by (try simp only [List.map_toArray, List.map_cons, List.map_nil]); first | done | rfl | (simp only [List.length_drop, List.length_take]; rfl)) ?_; (with_reducible refine (num_Add.calls t128 t122 t130 t131 _ A36.out).mono ?_); rintro e w' ⟨rfl, ⟨nd, rfl⟩⟩; refine ⟨_, rfl, ?_⟩))
                    go_ret
                    exact ⟨by first | rfl | (simp [errW_none, errW_some] <;> rfl) | (simp [*, errW_none, errW_some] <;> rfl), by repeat (first | (with_reducible first | exact HB.out | apply below_alloc | apply pw_below_drewN | apply below_drew1) | exact HB.out)⟩
            · rw [if_neg c44] at H
              have c44b0 : decide (t122 < a1) = false := decide_eq_false c44
              clear c44
              by_cases c74 : a1 < 0
              · rw [if_pos c74] at H
                have c74b0 : decide (a1 < 0) = true := decide_eq_true c74
                clear c74
                by_cases c75 : t122 > a1
                · rw [if_pos c75] at H
                  have c75b0 : decide (a1 < t122) = true := decide_eq_true c75
                  clear c75
                  by_cases c76 : a1 = (-9223372036854775808)
                  · rw [if_pos c76] at H
                    have c76b0 : (a1 == (-9223372036854775808)) = true := beq_iff_eq.mpr c76
                    have c76b1 : (a1 != (-9223372036854775808)) = false := bne_eq_false_iff_eq.mpr c76
                    clear c76
                    by_cases c77 : t129 = 0
                    · rw [if_pos c77] at H
                      have c77b0 : (t129 == 0) = true := beq_iff_eq.mpr c77
                      have c77b1 : (t129 != 0) = false := bne_eq_false_iff_eq.mpr c77
                      clear c77
                      by_cases c78 : t131 = 0
                      · rw [if_pos c78] at H
                        have c78b0 : (t131 == 0) = true := beq_iff_eq.mpr c78
                        have c78b1 : (t131 != 0) = false := bne_eq_false_iff_eq.mpr c78
                        clear c78
                        by_cases c79 : t130 = a0
                        · rw [if_pos c79] at H
                          have c79b0 : (t130 == a0) = true := beq_iff_eq.mpr c79
                          have c79b1 : (t130 != a0) = false := bne_eq_false_iff_eq.mpr c79
                          clear c79
                          by_cases c80 : ((decide (t122 < 0)) == (decide (a0 < 0))) = true
                          · rw [if_pos c80] at H
                            have c80b0 : ((decide (t122 < 0)) == (decide (a0 < 0))) = true := c80
                            (try (have c80b1 : decide ((decide (t122 < 0)) = (decide (a0 < 0))) = true := by simpa using c80))
                            (try (have c80b2 : ((decide (t122 < 0)) == (decide (a0 < 0))) = true := by simpa using c80))
                            clear c80
                            replace H := Option.bind_eq_some_iff.mp H
                            obtain ⟨t136, A810, H⟩ := H
                            replace H : (some t136) = some r := H
                            have A81 := Aside0.mk A810
                            clear A810
                            obtain rfl := Option.some.inj H
                            go_wp2_with (first | ((with_reducible refine gate_callee (f := 15) rfl ?_); refine goesL_ (some 68) rfl rfl Try.func15 (by kernel_rfl) rfl #[.int .i64 a1, .int .i64 t120] rfl (by (try simp only [List.map_toArray, List.map_cons, List.map_nil]); first | done | rfl | (simp only [List.length_drop, List.length_take]; rfl)) ?_; (with_reducible refine (num_Mul.calls kj4 a1 t120 t128 t129 _ A35.out).mono ?_); rintro e w' ⟨rfl, ⟨nd, rfl⟩⟩; refine ⟨_, rfl, ?_⟩) | ((with_reducible refine gate_callee (f := 11) rfl ?_); refine goesL_ (some 74) rfl rfl Try.func11 (by kernel_rfl) rfl #[.int .i64 t128, .int .i64 t122] rfl (by (try simp only [List.map_toArray, List.map_cons, List.map_nil]); first | done | rfl | (simp only [List.length_drop, List.length_take]; rfl)) ?_; (with_reducible refine (num_Add.calls t128 t122 t130 t131 _ A36.out).mono ?_); rintro e w' ⟨rfl, ⟨nd, rfl⟩⟩; refine ⟨_, rfl, ?_⟩) | (go_at_call 10; (with_reducible refine (cotillionlaw1_known.calls kj4  t136 _ A81.out).mono ?_); rintro e w82 ⟨rfl, hb⟩; have n0_ := Aside0.mk (below_step (by repeat (first | (with_reducible first | exact HB.out | apply below_alloc | apply pw_below_drewN | apply below_drew1) | exact HB.out)) hb); clear HB; have HB := n0_; clear n0_; (try clear hb); (try clear hb2); (try clear hk); (try clear hi)))
                            go_ret
                            exact ⟨by first | rfl | (simp [errW_none, errW_some] <;> rfl) | (simp [*, errW_none, errW_some] <;> rfl), by repeat (first | (with_reducible first | exact HB.out | apply below_alloc | apply pw_below_drewN | apply below_drew1) | exact HB.out)⟩
                          · rw [if_neg c80] at H
                            have c80b0 : ((decide (t122 < 0)) == (decide (a0 < 0))) = false := by simpa using c80
                            (try (have c80b1 : decide ((decide (t122 < 0)) = (decide (a0 < 0))) = false := by simpa using c80))
                            (try (have c80b2 : ((decide (t122 < 0)) == (decide (a0 < 0))) = false := by simpa using c80))
                            (try (have c80b3 : ¬ ((decide (t122 < 0)) = (decide (a0 < 0))) := by simpa using c80))
                            clear c80
                            obtain rfl := Option.some.inj H
                            go_wp2_with (first | ((with_reducible refine gate_callee (f := 15) rfl ?_); refine goesL_ (some 68) rfl rfl Try.func15 (by kernel_rfl) rfl #[.int .i64 a1, .int .i64 t120] rfl (by (try simp only [List.map_toArray, List.map_cons, List.map_nil]); first | done | rfl | (simp only [List.length_drop, List.length_take]; rfl)) ?_; (with_reducible refine (num_Mul.calls kj4 a1 t120 t128 t129 _ A35.out).mono ?_); rintro e w' ⟨rfl, ⟨nd, rfl⟩⟩; refine ⟨_, rfl, ?_⟩) | ((with_reducible refine gate_callee (f := 11) rfl ?_); refine goesL_ (some 74) rfl rfl Try.func11 (by kernel_rfl) rfl #[.int .i64 t128, .int .i64 t122] rfl (by (try simp only [List.map_toArray, List.map_cons, List.map_nil]); first | done | rfl | (simp only [List.length_drop, List.length_take]; rfl)) ?_; (with_reducible refine (num_Add.calls t128 t122 t130 t131 _ A36.out).mono ?_); rintro e w' ⟨rfl, ⟨nd, rfl⟩⟩; refine ⟨_, rfl, ?_⟩))
                            go_ret
                            exact ⟨by first | rfl | (simp [errW_none, errW_some] <;> rfl) | (simp [*, errW_none, errW_some] <;> rfl), by repeat (first | (with_reducible first | exact HB.out | apply below_alloc | apply pw_below_drewN | apply below_drew1) | exact HB.out)⟩
                        · rw [if_neg c79] at H
                          have c79b0 : (t130 == a0) = false := beq_eq_false_iff_ne.mpr c79
                          have c79b1 : (t130 != a0) = true := bne_iff_ne.mpr c79
                          obtain rfl := Option.some.inj H
                          go_wp2_with (first | ((with_reducible refine gate_callee (f := 15) rfl ?_); refine goesL_ (some 68) rfl rfl Try.func15 (by kernel_rfl) rfl #[.int .i64 a1, .int .i64 t120] rfl (by (try simp only [List.map_toArray, List.map_cons, List.map_nil]); first | done | rfl | (simp only [List.length_drop, List.length_take]; rfl)) ?_; (with_reducible refine (num_Mul.calls kj4 a1 t120 t128 t129 _ A35.out).mono ?_); rintro e w' ⟨rfl, ⟨nd, rfl⟩⟩; refine ⟨_, rfl, ?_⟩) | ((with_reducible refine gate_callee (f := 11) rfl ?_); refine goesL_ (some 74) rfl rfl Try.func11 (by kernel_rfl) rfl #[.int .i64 t128, .int .i64 t122] rfl (by (try simp only [List.map_toArray, List.map_cons, List.map_nil]); first | done | rfl | (simp only [List.length_drop, List.length_take]; rfl)) ?_; (with_reducible refine (num_Add.calls t128 t122 t130 t131 _ A36.out).mono ?_); rintro e w' ⟨rfl, ⟨nd, rfl⟩⟩; refine ⟨_, rfl, ?_⟩))
                          go_ret
                          exact ⟨by first | rfl | (simp [errW_none, errW_some] <;> rfl) | (simp [*, errW_none, errW_some] <;> rfl), by repeat (first | (with_reducible first | exact HB.out | apply below_alloc | apply pw_below_drewN | apply below_drew1) | exact HB.out)⟩
                      · rw [if_neg c78] at H
                        have c78b0 : (t131 == 0) = false := beq_eq_false_iff_ne.mpr c78
                        have c78b1 : (t131 != 0) = true := bne_iff_ne.mpr c78
                        obtain rfl := Option.some.inj H
                        go_wp2_with (first | ((with_reducible refine gate_callee (f := 15) rfl ?_); refine goesL_ (some 68) rfl rfl Try.func15 (by kernel_rfl) rfl #[.int .i64 a1, .int .i64 t120] rfl (by (try simp only [List.map_toArray, List.map_cons, List.map_nil]); first | done | rfl | (simp only [List.length_drop, List.length_take]; rfl)) ?_; (with_reducible refine (num_Mul.calls kj4 a1 t120 t128 t129 _ A35.out).mono ?_); rintro e w' ⟨rfl, ⟨nd, rfl⟩⟩; refine ⟨_, rfl, ?_⟩) | ((with_reducible refine gate_callee (f := 11) rfl ?_); refine goesL_ (some 74) rfl rfl Try.func11 (by kernel_rfl) rfl #[.int .i64 t128, .int .i64 t122] rfl (by (try simp only [List.map_toArray, List.map_cons, List.map_nil]); first | done | rfl | (simp only [List.length_drop, List.length_take]; rfl)) ?_; (with_reducible refine (num_Add.calls t128 t122 t130 t131 _ A36.out).mono ?_); rintro e w' ⟨rfl, ⟨nd, rfl⟩⟩; refine ⟨_, rfl, ?_⟩))
                        go_ret
                        exact ⟨by first | rfl | (simp [errW_none, errW_some] <;> rfl) | (simp [*, errW_none, errW_some] <;> rfl), by repeat (first | (with_reducible first | exact HB.out | apply below_alloc | apply pw_below_drewN | apply below_drew1) | exact HB.out)⟩
                    · rw [if_neg c77] at H
                      have c77b0 : (t129 == 0) = false := beq_eq_false_iff_ne.mpr c77
                      have c77b1 : (t129 != 0) = true := bne_iff_ne.mpr c77
                      obtain rfl := Option.some.inj H
                      go_wp2_with (first | ((with_reducible refine gate_callee (f := 15) rfl ?_); refine goesL_ (some 68) rfl rfl Try.func15 (by kernel_rfl) rfl #[.int .i64 a1, .int .i64 t120] rfl (by (try simp only [List.map_toArray, List.map_cons, List.map_nil]); first | done | rfl | (simp only [List.length_drop, List.length_take]; rfl)) ?_; (with_reducible refine (num_Mul.calls kj4 a1 t120 t128 t129 _ A35.out).mono ?_); rintro e w' ⟨rfl, ⟨nd, rfl⟩⟩; refine ⟨_, rfl, ?_⟩) | ((with_reducible refine gate_callee (f := 11) rfl ?_); refine goesL_ (some 74) rfl rfl Try.func11 (by kernel_rfl) rfl #[.int .i64 t128, .int .i64 t122] rfl (by (try simp only [List.map_toArray, List.map_cons, List.map_nil]); first | done | rfl | (simp only [List.length_drop, List.length_take]; rfl)) ?_; (with_reducible refine (num_Add.calls t128 t122 t130 t131 _ A36.out).mono ?_); rintro e w' ⟨rfl, ⟨nd, rfl⟩⟩; refine ⟨_, rfl, ?_⟩))
                      go_ret
                      exact ⟨by first | rfl | (simp [errW_none, errW_some] <;> rfl) | (simp [*, errW_none, errW_some] <;> rfl), by repeat (first | (with_reducible first | exact HB.out | apply below_alloc | apply pw_below_drewN | apply below_drew1) | exact HB.out)⟩
                  · rw [if_neg c76] at H
                    have c76b0 : (a1 == (-9223372036854775808)) = false := beq_eq_false_iff_ne.mpr c76
                    have c76b1 : (a1 != (-9223372036854775808)) = true := bne_iff_ne.mpr c76
                    by_cases c83 : t129 = 0
                    · rw [if_pos c83] at H
                      have c83b0 : (t129 == 0) = true := beq_iff_eq.mpr c83
                      have c83b1 : (t129 != 0) = false := bne_eq_false_iff_eq.mpr c83
                      clear c83
                      by_cases c84 : t131 = 0
                      · rw [if_pos c84] at H
                        have c84b0 : (t131 == 0) = true := beq_iff_eq.mpr c84
                        have c84b1 : (t131 != 0) = false := bne_eq_false_iff_eq.mpr c84
                        clear c84
                        by_cases c85 : t130 = a0
                        · rw [if_pos c85] at H
                          have c85b0 : (t130 == a0) = true := beq_iff_eq.mpr c85
                          have c85b1 : (t130 != a0) = false := bne_eq_false_iff_eq.mpr c85
                          clear c85
                          by_cases c86 : t122 < (wrap64 (-a1))
                          · rw [if_pos c86] at H
                            have c86b0 : decide (t122 < (wrap64 (-a1))) = true := decide_eq_true c86
                            clear c86
                            by_cases c87 : ((decide (t122 < 0)) == (decide (a0 < 0))) = true
                            · rw [if_pos c87] at H
                              have c87b0 : ((decide (t122 < 0)) == (decide (a0 < 0))) = true := c87
                              (try (have c87b1 : decide ((decide (t122 < 0)) = (decide (a0 < 0))) = true := by simpa using c87))
                              (try (have c87b2 : ((decide (t122 < 0)) == (decide (a0 < 0))) = true := by simpa using c87))
                              clear c87
                              replace H := Option.bind_eq_some_iff.mp H
                              obtain ⟨t137, A880, H⟩ := H
                              replace H : (some t137) = some r := H
                              have A88 := Aside0.mk A880
                              clear A880
                              obtain rfl := Option.some.inj H
                              go_wp2_with (first | ((with_reducible refine gate_callee (f := 15) rfl ?_); refine goesL_ (some 68) rfl rfl Try.func15 (by kernel_rfl) rfl #[.int .i64 a1, .int .i64 t120] rfl (by (try simp only [List.map_toArray, List.map_cons, List.map_nil]); first | done | rfl | (simp only [List.length_drop, List.length_take]; rfl)) ?_; (with_reducible refine (num_Mul.calls kj4 a1 t120 t128 t129 _ A35.out).mono ?_); rintro e w' ⟨rfl, ⟨nd, rfl⟩⟩; refine ⟨_, rfl, ?_⟩) | ((with_reducible refine gate_callee (f := 11) rfl ?_); refine goesL_ (some 74) rfl rfl Try.func11 (by kernel_rfl) rfl #[.int .i64 t128, .int .i64 t122] rfl (by (try simp only [List.map_toArray, List.map_cons, List.map_nil]); first | done | rfl | (simp only [List.length_drop, List.length_take]; rfl)) ?_; (with_reducible refine (num_Add.calls t128 t122 t130 t131 _ A36.out).mono ?_); rintro e w' ⟨rfl, ⟨nd, rfl⟩⟩; refine ⟨_, rfl, ?_⟩) | (go_at_call 10; (with_reducible refine (cotillionlaw1_known.calls kj4  t137 _ A88.out).mono ?_); rintro e w89 ⟨rfl, hb⟩; have n0_ := Aside0.mk (below_step (by repeat (first | (with_reducible first | exact HB.out | apply below_alloc | apply pw_below_drewN | apply below_drew1) | exact HB.out)) hb); clear HB; have HB := n0_; clear n0_; (try clear hb); (try clear hb2); (try clear hk); (try clear hi)))
                              go_ret
                              exact ⟨by first | rfl | (simp [errW_none, errW_some] <;> rfl) | (simp [*, errW_none, errW_some] <;> rfl), by repeat (first | (with_reducible first | exact HB.out | apply below_alloc | apply pw_below_drewN | apply below_drew1) | exact HB.out)⟩
                            · rw [if_neg c87] at H
                              have c87b0 : ((decide (t122 < 0)) == (decide (a0 < 0))) = false := by simpa using c87
                              (try (have c87b1 : decide ((decide (t122 < 0)) = (decide (a0 < 0))) = false := by simpa using c87))
                              (try (have c87b2 : ((decide (t122 < 0)) == (decide (a0 < 0))) = false := by simpa using c87))
                              (try (have c87b3 : ¬ ((decide (t122 < 0)) = (decide (a0 < 0))) := by simpa using c87))
                              clear c87
                              obtain rfl := Option.some.inj H
                              go_wp2_with (first | ((with_reducible refine gate_callee (f := 15) rfl ?_); refine goesL_ (some 68) rfl rfl Try.func15 (by kernel_rfl) rfl #[.int .i64 a1, .int .i64 t120] rfl (by (try simp only [List.map_toArray, List.map_cons, List.map_nil]); first | done | rfl | (simp only [List.length_drop, List.length_take]; rfl)) ?_; (with_reducible refine (num_Mul.calls kj4 a1 t120 t128 t129 _ A35.out).mono ?_); rintro e w' ⟨rfl, ⟨nd, rfl⟩⟩; refine ⟨_, rfl, ?_⟩) | ((with_reducible refine gate_callee (f := 11) rfl ?_); refine goesL_ (some 74) rfl rfl Try.func11 (by kernel_rfl) rfl #[.int .i64 t128, .int .i64 t122] rfl (by (try simp only [List.map_toArray, List.map_cons, List.map_nil]); first | done | rfl | (simp only [List.length_drop, List.length_take]; rfl)) ?_; (with_reducible refine (num_Add.calls t128 t122 t130 t131 _ A36.out).mono ?_); rintro e w' ⟨rfl, ⟨nd, rfl⟩⟩; refine ⟨_, rfl, ?_⟩))
                              go_ret
                              exact ⟨by first | rfl | (simp [errW_none, errW_some] <;> rfl) | (simp [*, errW_none, errW_some] <;> rfl), by repeat (first | (with_reducible first | exact HB.out | apply below_alloc | apply pw_below_drewN | apply below_drew1) | exact HB.out)⟩
                          · rw [if_neg c86] at H
                            have c86b0 : decide (t122 < (wrap64 (-a1))) = false := decide_eq_false c86
                            clear c86
                            obtain rfl := Option.some.inj H
                            go_wp2_with (first | ((with_reducible refine gate_callee (f := 15) rfl ?_); refine goesL_ (some 68) rfl rfl Try.func15 (by kernel_rfl) rfl #[.int .i64 a1, .int .i64 t120] rfl (by (try simp only [List.map_toArray, List.map_cons, List.map_nil]); first | done | rfl | (simp only [List.length_drop, List.length_take]; rfl)) ?_; (with_reducible refine (num_Mul.calls kj4 a1 t120 t128 t129 _ A35.out).mono ?_); rintro e w' ⟨rfl, ⟨nd, rfl⟩⟩; refine ⟨_, rfl, ?_⟩) | ((with_reducible refine gate_callee (f := 11) rfl ?_); refine goesL_ (some 74) rfl rfl Try.func11 (by kernel_rfl) rfl #[.int .i64 t128, .int .i64 t122] rfl (by (try simp only [List.map_toArray, List.map_cons, List.map_nil]); first | done | rfl | (simp only [List.length_drop, List.length_take]; rfl)) ?_; (with_reducible refine (num_Add.calls t128 t122 t130 t131 _ A36.out).mono ?_); rintro e w' ⟨rfl, ⟨nd, rfl⟩⟩; refine ⟨_, rfl, ?_⟩))
                            go_ret
                            exact ⟨by first | rfl | (simp [errW_none, errW_some] <;> rfl) | (simp [*, errW_none, errW_some] <;> rfl), by repeat (first | (with_reducible first | exact HB.out | apply below_alloc | apply pw_below_drewN | apply below_drew1) | exact HB.out)⟩
                        · rw [if_neg c85] at H
                          have c85b0 : (t130 == a0) = false := beq_eq_false_iff_ne.mpr c85
                          have c85b1 : (t130 != a0) = true := bne_iff_ne.mpr c85
                          obtain rfl := Option.some.inj H
                          go_wp2_with (first | ((with_reducible refine gate_callee (f := 15) rfl ?_); refine goesL_ (some 68) rfl rfl Try.func15 (by kernel_rfl) rfl #[.int .i64 a1, .int .i64 t120] rfl (by (try simp only [List.map_toArray, List.map_cons, List.map_nil]); first | done | rfl | (simp only [List.length_drop, List.length_take]; rfl)) ?_; (with_reducible refine (num_Mul.calls kj4 a1 t120 t128 t129 _ A35.out).mono ?_); rintro e w' ⟨rfl, ⟨nd, rfl⟩⟩; refine ⟨_, rfl, ?_⟩) | ((with_reducible refine gate_callee (f := 11) rfl ?_); refine goesL_ (some 74) rfl rfl Try.func11 (by kernel_rfl) rfl #[.int .i64 t128, .int .i64 t122] rfl (by (try simp only [List.map_toArray, List.map_cons, List.map_nil]); first | done | rfl | (simp only [List.length_drop, List.length_take]; rfl)) ?_; (with_reducible refine (num_Add.calls t128 t122 t130 t131 _ A36.out).mono ?_); rintro e w' ⟨rfl, ⟨nd, rfl⟩⟩; refine ⟨_, rfl, ?_⟩))
                          go_ret
                          exact ⟨by first | rfl | (simp [errW_none, errW_some] <;> rfl) | (simp [*, errW_none, errW_some] <;> rfl), by repeat (first | (with_reducible first | exact HB.out | apply below_alloc | apply pw_below_drewN | apply below_drew1) | exact HB.out)⟩
                      · rw [if_neg c84] at H
                        have c84b0 : (t131 == 0) = false := beq_eq_false_iff_ne.mpr c84
                        have c84b1 : (t131 != 0) = true := bne_iff_ne.mpr c84
                        obtain rfl := Option.some.inj H
                        go_wp2_with (first | ((with_reducible refine gate_callee (f := 15) rfl ?_); refine goesL_ (some 68) rfl rfl Try.func15 (by kernel_rfl) rfl #[.int .i64 a1, .int .i64 t120] rfl (by (try simp only [List.map_toArray, List.map_cons, List.map_nil]); first | done | rfl | (simp only [List.length_drop, List.length_take]; rfl)) ?_; (with_reducible refine (num_Mul.calls kj4 a1 t120 t128 t129 _ A35.out).mono ?_); rintro e w' ⟨rfl, ⟨nd, rfl⟩⟩; refine ⟨_, rfl, ?_⟩) | ((with_reducible refine gate_callee (f := 11) rfl ?_); refine goesL_ (some 74) rfl rfl Try.func11 (by kernel_rfl) rfl #[.int .i64 t128, .int .i64 t122] rfl (by (try simp only [List.map_toArray, List.map_cons, List.map_nil]); first | done | rfl | (simp only [List.length_drop, List.length_take]; rfl)) ?_; (with_reducible refine (num_Add.calls t128 t122 t130 t131 _ A36.out).mono ?_); rintro e w' ⟨rfl, ⟨nd, rfl⟩⟩; refine ⟨_, rfl, ?_⟩))
                        go_ret
                        exact ⟨by first | rfl | (simp [errW_none, errW_some] <;> rfl) | (simp [*, errW_none, errW_some] <;> rfl), by repeat (first | (with_reducible first | exact HB.out | apply below_alloc | apply pw_below_drewN | apply below_drew1) | exact HB.out)⟩
                    · rw [if_neg c83] at H
                      have c83b0 : (t129 == 0) = false := beq_eq_false_iff_ne.mpr c83
                      have c83b1 : (t129 != 0) = true := bne_iff_ne.mpr c83
                      obtain rfl := Option.some.inj H
                      go_wp2_with (first | ((with_reducible refine gate_callee (f := 15) rfl ?_); refine goesL_ (some 68) rfl rfl Try.func15 (by kernel_rfl) rfl #[.int .i64 a1, .int .i64 t120] rfl (by (try simp only [List.map_toArray, List.map_cons, List.map_nil]); first | done | rfl | (simp only [List.length_drop, List.length_take]; rfl)) ?_; (with_reducible refine (num_Mul.calls kj4 a1 t120 t128 t129 _ A35.out).mono ?_); rintro e w' ⟨rfl, ⟨nd, rfl⟩⟩; refine ⟨_, rfl, ?_⟩) | ((with_reducible refine gate_callee (f := 11) rfl ?_); refine goesL_ (some 74) rfl rfl Try.func11 (by kernel_rfl) rfl #[.int .i64 t128, .int .i64 t122] rfl (by (try simp only [List.map_toArray, List.map_cons, List.map_nil]); first | done | rfl | (simp only [List.length_drop, List.length_take]; rfl)) ?_; (with_reducible refine (num_Add.calls t128 t122 t130 t131 _ A36.out).mono ?_); rintro e w' ⟨rfl, ⟨nd, rfl⟩⟩; refine ⟨_, rfl, ?_⟩))
                      go_ret
                      exact ⟨by first | rfl | (simp [errW_none, errW_some] <;> rfl) | (simp [*, errW_none, errW_some] <;> rfl), by repeat (first | (with_reducible first | exact HB.out | apply below_alloc | apply pw_below_drewN | apply below_drew1) | exact HB.out)⟩
                · rw [if_neg c75] at H
                  have c75b0 : decide (a1 < t122) = false := decide_eq_false c75
                  clear c75
                  by_cases c90 : t129 = 0
                  · rw [if_pos c90] at H
                    have c90b0 : (t129 == 0) = true := beq_iff_eq.mpr c90
                    have c90b1 : (t129 != 0) = false := bne_eq_false_iff_eq.mpr c90
                    clear c90
                    by_cases c91 : t131 = 0
                    · rw [if_pos c91] at H
                      have c91b0 : (t131 == 0) = true := beq_iff_eq.mpr c91
                      have c91b1 : (t131 != 0) = false := bne_eq_false_iff_eq.mpr c91
                      clear c91
                      by_cases c92 : t130 = a0
                      · rw [if_pos c92] at H
                        have c92b0 : (t130 == a0) = true := beq_iff_eq.mpr c92
                        have c92b1 : (t130 != a0) = false := bne_eq_false_iff_eq.mpr c92
                        clear c92
                        obtain rfl := Option.some.inj H
                        go_wp2_with (first | ((with_reducible refine gate_callee (f := 15) rfl ?_); refine goesL_ (some 68) rfl rfl Try.func15 (by kernel_rfl) rfl #[.int .i64 a1, .int .i64 t120] rfl (by (try simp only [List.map_toArray, List.map_cons, List.map_nil]); first | done | rfl | (simp only [List.length_drop, List.length_take]; rfl)) ?_; (with_reducible refine (num_Mul.calls kj4 a1 t120 t128 t129 _ A35.out).mono ?_); rintro e w' ⟨rfl, ⟨nd, rfl⟩⟩; refine ⟨_, rfl, ?_⟩) | ((with_reducible refine gate_callee (f := 11) rfl ?_); refine goesL_ (some 74) rfl rfl Try.func11 (by kernel_rfl) rfl #[.int .i64 t128, .int .i64 t122] rfl (by (try simp only [List.map_toArray, List.map_cons, List.map_nil]); first | done | rfl | (simp only [List.length_drop, List.length_take]; rfl)) ?_; (with_reducible refine (num_Add.calls t128 t122 t130 t131 _ A36.out).mono ?_); rintro e w' ⟨rfl, ⟨nd, rfl⟩⟩; refine ⟨_, rfl, ?_⟩))
                        go_ret
                        exact ⟨by first | rfl | (simp [errW_none, errW_some] <;> rfl) | (simp [*, errW_none, errW_some] <;> rfl), by repeat (first | (with_reducible first | exact HB.out | apply below_alloc | apply pw_below_drewN | apply below_drew1) | exact HB.out)⟩
                      · rw [if_neg c92] at H
                        have c92b0 : (t130 == a0) = false := beq_eq_false_iff_ne.mpr c92
                        have c92b1 : (t130 != a0) = true := bne_iff_ne.mpr c92
                        obtain rfl := Option.some.inj H
                        go_wp2_with (first | ((with_reducible refine gate_callee (f := 15) rfl ?_); refine goesL_ (some 68) rfl rfl Try.func15 (by kernel_rfl) rfl #[.int .i64 a1, .int .i64 t120] rfl (by (try simp only [List.map_toArray, List.map_cons, List.map_nil]); first | done | rfl | (simp only [List.length_drop, List.length_take]; rfl)) ?_; (with_reducible refine (num_Mul.calls kj4 a1 t120 t128 t129 _ A35.out).mono ?_); rintro e w' ⟨rfl, ⟨nd, rfl⟩⟩; refine ⟨_, rfl, ?_⟩) | ((with_reducible refine gate_callee (f := 11) rfl ?_); refine goesL_ (some 74) rfl rfl Try.func11 (by kernel_rfl) rfl #[.int .i64 t128, .int .i64 t122] rfl (by (try simp only [List.map_toArray, List.map_cons, List.map_nil]); first | done | rfl | (simp only [List.length_drop, List.length_take]; rfl)) ?_; (with_reducible refine (num_Add.calls t128 t122 t130 t131 _ A36.out).mono ?_); rintro e w' ⟨rfl, ⟨nd, rfl⟩⟩; refine ⟨_, rfl, ?_⟩))
                        go_ret
                        exact ⟨by first | rfl | (simp [errW_none, errW_some] <;> rfl) | (simp [*, errW_none, errW_some] <;> rfl), by repeat (first | (with_reducible first | exact HB.out | apply below_alloc | apply pw_below_drewN | apply below_drew1) | exact HB.out)⟩
                    · rw [if_neg c91] at H
                      have c91b0 : (t131 == 0) = false := beq_eq_false_iff_ne.mpr c91
                      have c91b1 : (t131 != 0) = true := bne_iff_ne.mpr c91
                      obtain rfl := Option.some.inj H
                      go_wp2_with (first | ((with_reducible refine gate_callee (f := 15) rfl ?_); refine goesL_ (some 68) rfl rfl Try.func15 (by kernel_rfl) rfl #[.int .i64 a1, .int .i64 t120] rfl (by (try simp only [List.map_toArray, List.map_cons, List.map_nil]); first | done | rfl | (simp only [List.length_drop, List.length_take]; rfl)) ?_; (with_reducible refine (num_Mul.calls kj4 a1 t120 t128 t129 _ A35.out).mono ?_); rintro e w' ⟨rfl, ⟨nd, rfl⟩⟩; refine ⟨_, rfl, ?_⟩) | ((with_reducible refine gate_callee (f := 11) rfl ?_); refine goesL_ (some 74) rfl rfl Try.func11 (by kernel_rfl) rfl #[.int .i64 t128, .int .i64 t122] rfl (by (try simp only [List.map_toArray, List.map_cons, List.map_nil]); first | done | rfl | (simp only [List.length_drop, List.length_take]; rfl)) ?_; (with_reducible refine (num_Add.calls t128 t122 t130 t131 _ A36.out).mono ?_); rintro e w' ⟨rfl, ⟨nd, rfl⟩⟩; refine ⟨_, rfl, ?_⟩))
                      go_ret
                      exact ⟨by first | rfl | (simp [errW_none, errW_some] <;> rfl) | (simp [*, errW_none, errW_some] <;> rfl), by repeat (first | (with_reducible first | exact HB.out | apply below_alloc | apply pw_below_drewN | apply below_drew1) | exact HB.out)⟩
                  · rw [if_neg c90] at H
                    have c90b0 : (t129 == 0) = false := beq_eq_false_iff_ne.mpr c90
                    have c90b1 : (t129 != 0) = true := bne_iff_ne.mpr c90
                    obtain rfl := Option.some.inj H
                    go_wp2_with (first | ((with_reducible refine gate_callee (f := 15) rfl ?_); refine goesL_ (some 68) rfl rfl Try.func15 (by kernel_rfl) rfl #[.int .i64 a1, .int .i64 t120] rfl (by (try simp only [List.map_toArray, List.map_cons, List.map_nil]); first | done | rfl | (simp only [List.length_drop, List.length_take]; rfl)) ?_; (with_reducible refine (num_Mul.calls kj4 a1 t120 t128 t129 _ A35.out).mono ?_); rintro e w' ⟨rfl, ⟨nd, rfl⟩⟩; refine ⟨_, rfl, ?_⟩) | ((with_reducible refine gate_callee (f := 11) rfl ?_); refine goesL_ (some 74) rfl rfl Try.func11 (by kernel_rfl) rfl #[.int .i64 t128, .int .i64 t122] rfl (by (try simp only [List.map_toArray, List.map_cons, List.map_nil]); first | done | rfl | (simp only [List.length_drop, List.length_take]; rfl)) ?_; (with_reducible refine (num_Add.calls t128 t122 t130 t131 _ A36.out).mono ?_); rintro e w' ⟨rfl, ⟨nd, rfl⟩⟩; refine ⟨_, rfl, ?_⟩))
                    go_ret
                    exact ⟨by first | rfl | (simp [errW_none, errW_some] <;> rfl) | (simp [*, errW_none, errW_some] <;> rfl), by repeat (first | (with_reducible first | exact HB.out | apply below_alloc | apply pw_below_drewN | apply below_drew1) | exact HB.out)⟩
              · rw [if_neg c74] at H
                have c74b0 : decide (a1 < 0) = false := decide_eq_false c74
                clear c74
                by_cases c93 : t129 = 0
                · rw [if_pos c93] at H
                  have c93b0 : (t129 == 0) = true := beq_iff_eq.mpr c93
                  have c93b1 : (t129 != 0) = false := bne_eq_false_iff_eq.mpr c93
                  clear c93
                  by_cases c94 : t131 = 0
                  · rw [if_pos c94] at H
                    have c94b0 : (t131 == 0) = true := beq_iff_eq.mpr c94
                    have c94b1 : (t131 != 0) = false := bne_eq_false_iff_eq.mpr c94
                    clear c94
                    by_cases c95 : t130 = a0
                    · rw [if_pos c95] at H
                      have c95b0 : (t130 == a0) = true := beq_iff_eq.mpr c95
                      have c95b1 : (t130 != a0) = false := bne_eq_false_iff_eq.mpr c95
                      clear c95
                      obtain rfl := Option.some.inj H
                      go_wp2_with (first | ((with_reducible refine gate_callee (f := 15) rfl ?_); refine goesL_ (some 68) rfl rfl Try.func15 (by kernel_rfl) rfl #[.int .i64 a1, .int .i64 t120] rfl (by (try simp only [List.map_toArray, List.map_cons, List.map_nil]); first | done | rfl | (simp only [List.length_drop, List.length_take]; rfl)) ?_; (with_reducible refine (num_Mul.calls kj4 a1 t120 t128 t129 _ A35.out).mono ?_); rintro e w' ⟨rfl, ⟨nd, rfl⟩⟩; refine ⟨_, rfl, ?_⟩) | ((with_reducible refine gate_callee (f := 11) rfl ?_); refine goesL_ (some 74) rfl rfl Try.func11 (by kernel_rfl) rfl #[.int .i64 t128, .int .i64 t122] rfl (by (try simp only [List.map_toArray, List.map_cons, List.map_nil]); first | done | rfl | (simp only [List.length_drop, List.length_take]; rfl)) ?_; (with_reducible refine (num_Add.calls t128 t122 t130 t131 _ A36.out).mono ?_); rintro e w' ⟨rfl, ⟨nd, rfl⟩⟩; refine ⟨_, rfl, ?_⟩))
                      go_ret
                      exact ⟨by first | rfl | (simp [errW_none, errW_some] <;> rfl) | (simp [*, errW_none, errW_some] <;> rfl), by repeat (first | (with_reducible first | exact HB.out | apply below_alloc | apply pw_below_drewN | apply below_drew1) | exact HB.out)⟩
                    · rw [if_neg c95] at H
                      have c95b0 : (t130 == a0) = false := beq_eq_false_iff_ne.mpr c95
                      have c95b1 : (t130 != a0) = true := bne_iff_ne.mpr c95
                      obtain rfl := Option.some.inj H
                      go_wp2_with (first | ((with_reducible refine gate_callee (f := 15) rfl ?_); refine goesL_ (some 68) rfl rfl Try.func15 (by kernel_rfl) rfl #[.int .i64 a1, .int .i64 t120] rfl (by (try simp only [List.map_toArray, List.map_cons, List.map_nil]); first | done | rfl | (simp only [List.length_drop, List.length_take]; rfl)) ?_; (with_reducible refine (num_Mul.calls kj4 a1 t120 t128 t129 _ A35.out).mono ?_); rintro e w' ⟨rfl, ⟨nd, rfl⟩⟩; refine ⟨_, rfl, ?_⟩) | ((with_reducible refine gate_callee (f := 11) rfl ?_); refine goesL_ (some 74) rfl rfl Try.func11 (by kernel_rfl) rfl #[.int .i64 t128, .int .i64 t122] rfl (by (try simp only [List.map_toArray, List.map_cons, List.map_nil]); first | done | rfl | (simp only [List.length_drop, List.length_take]; rfl)) ?_; (with_reducible refine (num_Add.calls t128 t122 t130 t131 _ A36.out).mono ?_); rintro e w' ⟨rfl, ⟨nd, rfl⟩⟩; refine ⟨_, rfl, ?_⟩))
                      go_ret
                      exact ⟨by first | rfl | (simp [errW_none, errW_some] <;> rfl) | (simp [*, errW_none, errW_some] <;> rfl), by repeat (first | (with_reducible first | exact HB.out | apply below_alloc | apply pw_below_drewN | apply below_drew1) | exact HB.out)⟩
                  · rw [if_neg c94] at H
                    have c94b0 : (t131 == 0) = false := beq_eq_false_iff_ne.mpr c94
                    have c94b1 : (t131 != 0) = true := bne_iff_ne.mpr c94
                    obtain rfl := Option.some.inj H
                    go_wp2_with (first | ((with_reducible refine gate_callee (f := 15) rfl ?_); refine goesL_ (some 68) rfl rfl Try.func15 (by kernel_rfl) rfl #[.int .i64 a1, .int .i64 t120] rfl (by (try simp only [List.map_toArray, List.map_cons, List.map_nil]); first | done | rfl | (simp only [List.length_drop, List.length_take]; rfl)) ?_; (with_reducible refine (num_Mul.calls kj4 a1 t120 t128 t129 _ A35.out).mono ?_); rintro e w' ⟨rfl, ⟨nd, rfl⟩⟩; refine ⟨_, rfl, ?_⟩) | ((with_reducible refine gate_callee (f := 11) rfl ?_); refine goesL_ (some 74) rfl rfl Try.func11 (by kernel_rfl) rfl #[.int .i64 t128, .int .i64 t122] rfl (by (try simp only [List.map_toArray, List.map_cons, List.map_nil]); first | done | rfl | (simp only [List.length_drop, List.length_take]; rfl)) ?_; (with_reducible refine (num_Add.calls t128 t122 t130 t131 _ A36.out).mono ?_); rintro e w' ⟨rfl, ⟨nd, rfl⟩⟩; refine ⟨_, rfl, ?_⟩))
                    go_ret
                    exact ⟨by first | rfl | (simp [errW_none, errW_some] <;> rfl) | (simp [*, errW_none, errW_some] <;> rfl), by repeat (first | (with_reducible first | exact HB.out | apply below_alloc | apply pw_below_drewN | apply below_drew1) | exact HB.out)⟩
                · rw [if_neg c93] at H
                  have c93b0 : (t129 == 0) = false := beq_eq_false_iff_ne.mpr c93
                  have c93b1 : (t129 != 0) = true := bne_iff_ne.mpr c93
                  obtain rfl := Option.some.inj H
                  go_wp2_with (first | ((with_reducible refine gate_callee (f := 15) rfl ?_); refine goesL_ (some 68) rfl rfl Try.func15 (by kernel_rfl) rfl #[.int .i64 a1, .int .i64 t120] rfl (by (try simp only [List.map_toArray, List.map_cons, List.map_nil]); first | done | rfl | (simp only [List.length_drop, List.length_take]; rfl)) ?_; (with_reducible refine (num_Mul.calls kj4 a1 t120 t128 t129 _ A35.out).mono ?_); rintro e w' ⟨rfl, ⟨nd, rfl⟩⟩; refine ⟨_, rfl, ?_⟩) | ((with_reducible refine gate_callee (f := 11) rfl ?_); refine goesL_ (some 74) rfl rfl Try.func11 (by kernel_rfl) rfl #[.int .i64 t128, .int .i64 t122] rfl (by (try simp only [List.map_toArray, List.map_cons, List.map_nil]); first | done | rfl | (simp only [List.length_drop, List.length_take]; rfl)) ?_; (with_reducible refine (num_Add.calls t128 t122 t130 t131 _ A36.out).mono ?_); rintro e w' ⟨rfl, ⟨nd, rfl⟩⟩; refine ⟨_, rfl, ?_⟩))
                  go_ret
                  exact ⟨by first | rfl | (simp [errW_none, errW_some] <;> rfl) | (simp [*, errW_none, errW_some] <;> rfl), by repeat (first | (with_reducible first | exact HB.out | apply below_alloc | apply pw_below_drewN | apply below_drew1) | exact HB.out)⟩
          · rw [if_neg c43] at H
            have c43b0 : decide (0 < a1) = false := decide_eq_false c43
            clear c43
            by_cases c96 : a1 < 0
            · rw [if_pos c96] at H
              have c96b0 : decide (a1 < 0) = true := decide_eq_true c96
              clear c96
              by_cases c97 : t122 > a1
              · rw [if_pos c97] at H
                have c97b0 : decide (a1 < t122) = true := decide_eq_true c97
                clear c97
                by_cases c98 : a1 = (-9223372036854775808)
                · rw [if_pos c98] at H
                  have c98b0 : (a1 == (-9223372036854775808)) = true := beq_iff_eq.mpr c98
                  have c98b1 : (a1 != (-9223372036854775808)) = false := bne_eq_false_iff_eq.mpr c98
                  clear c98
                  by_cases c99 : t129 = 0
                  · rw [if_pos c99] at H
                    have c99b0 : (t129 == 0) = true := beq_iff_eq.mpr c99
                    have c99b1 : (t129 != 0) = false := bne_eq_false_iff_eq.mpr c99
                    clear c99
                    by_cases c100 : t131 = 0
                    · rw [if_pos c100] at H
                      have c100b0 : (t131 == 0) = true := beq_iff_eq.mpr c100
                      have c100b1 : (t131 != 0) = false := bne_eq_false_iff_eq.mpr c100
                      clear c100
                      by_cases c101 : t130 = a0
                      · rw [if_pos c101] at H
                        have c101b0 : (t130 == a0) = true := beq_iff_eq.mpr c101
                        have c101b1 : (t130 != a0) = false := bne_eq_false_iff_eq.mpr c101
                        clear c101
                        by_cases c102 : ((decide (t122 < 0)) == (decide (a0 < 0))) = true
                        · rw [if_pos c102] at H
                          have c102b0 : ((decide (t122 < 0)) == (decide (a0 < 0))) = true := c102
                          (try (have c102b1 : decide ((decide (t122 < 0)) = (decide (a0 < 0))) = true := by simpa using c102))
                          (try (have c102b2 : ((decide (t122 < 0)) == (decide (a0 < 0))) = true := by simpa using c102))
                          clear c102
                          replace H := Option.bind_eq_some_iff.mp H
                          obtain ⟨t138, A1030, H⟩ := H
                          replace H : (some t138) = some r := H
                          have A103 := Aside0.mk A1030
                          clear A1030
                          obtain rfl := Option.some.inj H
                          go_wp2_with (first | ((with_reducible refine gate_callee (f := 15) rfl ?_); refine goesL_ (some 68) rfl rfl Try.func15 (by kernel_rfl) rfl #[.int .i64 a1, .int .i64 t120] rfl (by (try simp only [List.map_toArray, List.map_cons, List.map_nil]); first | done | rfl | (simp only [List.length_drop, List.length_take]; rfl)) ?_; (with_reducible refine (num_Mul.calls kj4 a1 t120 t128 t129 _ A35.out).mono ?_); rintro e w' ⟨rfl, ⟨nd, rfl⟩⟩; refine ⟨_, rfl, ?_⟩) | ((with_reducible refine gate_callee (f := 11) rfl ?_); refine goesL_ (some 74) rfl rfl Try.func11 (by kernel_rfl) rfl #[.int .i64 t128, .int .i64 t122] rfl (by (try simp only [List.map_toArray, List.map_cons, List.map_nil]); first | done | rfl | (simp only [List.length_drop, List.length_take]; rfl)) ?_; (with_reducible refine (num_Add.calls t128 t122 t130 t131 _ A36.out).mono ?_); rintro e w' ⟨rfl, ⟨nd, rfl⟩⟩; refine ⟨_, rfl, ?_⟩) | (go_at_call 10; (with_reducible refine (cotillionlaw1_known.calls kj4  t138 _ A103.out).mono ?_); rintro e w104 ⟨rfl, hb⟩; have n0_ := Aside0.mk (below_step (by repeat (first | (with_reducible first | exact HB.out | apply below_alloc | apply pw_below_drewN | apply below_drew1) | exact HB.out)) hb); clear HB; have HB := n0_; clear n0_; (try clear hb); (try clear hb2); (try clear hk); (try clear hi)))
                          go_ret
                          exact ⟨by first | rfl | (simp [errW_none, errW_some] <;> rfl) | (simp [*, errW_none, errW_some] <;> rfl), by repeat (first | (with_reducible first | exact HB.out | apply below_alloc | apply pw_below_drewN | apply below_drew1) | exact HB.out)⟩
                        · rw [if_neg c102] at H
                          have c102b0 : ((decide (t122 < 0)) == (decide (a0 < 0))) = false := by simpa using c102
                          (try (have c102b1 : decide ((decide (t122 < 0)) = (decide (a0 < 0))) = false := by simpa using c102))
                          (try (have c102b2 : ((decide (t122 < 0)) == (decide (a0 < 0))) = false := by simpa using c102))
                          (try (have c102b3 : ¬ ((decide (t122 < 0)) = (decide (a0 < 0))) := by simpa using c102))
                          clear c102
                          obtain rfl := Option.some.inj H
                          go_wp2_with (first | ((with_reducible refine gate_callee (f := 15) rfl ?_); refine goesL_ (some 68) rfl rfl Try.func15 (by kernel_rfl) rfl #[.int .i64 a1, .int .i64 t120] rfl (by (try simp only [List.map_toArray, List.map_cons, List.map_nil]); first | done | rfl | (simp only [List.length_drop, List.length_take]; rfl)) ?_; (with_reducible refine (num_Mul.calls kj4 a1 t120 t128 t129 _ A35.out).mono ?_); rintro e w' ⟨rfl, ⟨nd, rfl⟩⟩; refine ⟨_, rfl, ?_⟩) | ((with_reducible refine gate_callee (f := 11) rfl ?_); refine goesL_ (some 74) rfl rfl Try.func11 (by kernel_rfl) rfl #[.int .i64 t128, .int .i64 t122] rfl (by (try simp only [List.map_toArray, List.map_cons, List.map_nil]); first | done | rfl | (simp only [List.length_drop, List.length_take]; rfl)) ?_; (with_reducible refine (num_Add.calls t128 t122 t130 t131 _ A36.out).mono ?_); rintro e w' ⟨rfl, ⟨nd, rfl⟩⟩; refine ⟨_, rfl, ?_⟩))
                          go_ret
                          exact ⟨by first | rfl | (simp [errW_none, errW_some] <;> rfl) | (simp [*, errW_none, errW_some] <;> rfl), by repeat (first | (with_reducible first | exact HB.out | apply below_alloc | apply pw_below_drewN | apply below_drew1) | exact HB.out)⟩
                      · rw [if_neg c101] at H
                        have c101b0 : (t130 == a0) = false := beq_eq_false_iff_ne.mpr c101
                        have c101b1 : (t130 != a0) = true := bne_iff_ne.mpr c101
                        obtain rfl := Option.some.inj H
                        go_wp2_with (first | ((with_reducible refine gate_callee (f := 15) rfl ?_); refine goesL_ (some 68) rfl rfl Try.func15 (by kernel_rfl) rfl #[.int .i64 a1, .int .i64 t120] rfl (by (try simp only [List.map_toArray, List.map_cons, List.map_nil]); first | done | rfl | (simp only [List.length_drop, List.length_take]; rfl)) ?_; (with_reducible refine (num_Mul.calls kj4 a1 t120 t128 t129 _ A35.out).mono ?_); rintro e w' ⟨rfl, ⟨nd, rfl⟩⟩; refine ⟨_, rfl, ?_⟩) | ((with_reducible refine gate_callee (f := 11) rfl ?_); refine goesL_ (some 74) rfl rfl Try.func11 (by kernel_rfl) rfl #[.int .i64 t128, .int .i64 t122] rfl (by (try simp only [List.map_toArray, List.map_cons, List.map_nil]); first | done | rfl | (simp only [List.length_drop, List.length_take]; rfl)) ?_; (with_reducible refine (num_Add.calls t128 t122 t130 t131 _ A36.out).mono ?_); rintro e w' ⟨rfl, ⟨nd, rfl⟩⟩; refine ⟨_, rfl, ?_⟩))
                        go_ret
                        exact ⟨by first | rfl | (simp [errW_none, errW_some] <;> rfl) | (simp [*, errW_none, errW_some] <;> rfl), by repeat (first | (with_reducible first | exact HB.out | apply below_alloc | apply pw_below_drewN | apply below_drew1) | exact HB.out)⟩
                    · rw [if_neg c100] at H
                      have c100b0 : (t131 == 0) = false := beq_eq_false_iff_ne.mpr c100
                      have c100b1 : (t131 != 0) = true := bne_iff_ne.mpr c100
                      obtain rfl := Option.some.inj H
                      go_wp2_with (first | ((with_reducible refine gate_callee (f := 15) rfl ?_); refine goesL_ (some 68) rfl rfl Try.func15 (by kernel_rfl) rfl #[.int .i64 a1, .int .i64 t120] rfl (by (try simp only [List.map_toArray, List.map_cons, List.map_nil]); first | done | rfl | (simp only [List.length_drop, List.length_take]; rfl)) ?_; (with_reducible refine (num_Mul.calls kj4 a1 t120 t128 t129 _ A35.out).mono ?_); rintro e w' ⟨rfl, ⟨nd, rfl⟩⟩; refine ⟨_, rfl, ?_⟩) | ((with_reducible refine gate_callee (f := 11) rfl ?_); refine goesL_ (some 74) rfl rfl Try.func11 (by kernel_rfl) rfl #[.int .i64 t128, .int .i64 t122] rfl (by (try simp only [List.map_toArray, List.map_cons, List.map_nil]); first | done | rfl | (simp only [List.length_drop, List.length_take]; rfl)) ?_; (with_reducible refine (num_Add.calls t128 t122 t130 t131 _ A36.out).mono ?_); rintro e w' ⟨rfl, ⟨nd, rfl⟩⟩; refine ⟨_, rfl, ?_⟩))
                      go_ret
                      exact ⟨by first | rfl | (simp [errW_none, errW_some] <;> rfl) | (simp [*, errW_none, errW_some] <;> rfl), by repeat (first | (with_reducible first | exact HB.out | apply below_alloc | apply pw_below_drewN | apply below_drew1) | exact HB.out)⟩
                  · rw [if_neg c99] at H
                    have c99b0 : (t129 == 0) = false := beq_eq_false_iff_ne.mpr c99
                    have c99b1 : (t129 != 0) = true := bne_iff_ne.mpr c99
                    obtain rfl := Option.some.inj H
                    go_wp2_with (first | ((with_reducible refine gate_callee (f := 15) rfl ?_); refine goesL_ (some 68) rfl rfl Try.func15 (by kernel_rfl) rfl #[.int .i64 a1, .int .i64 t120] rfl (by (try simp only [List.map_toArray, List.map_cons, List.map_nil]); first | done | rfl | (simp only [List.length_drop, List.length_take]; rfl)) ?_; (with_reducible refine (num_Mul.calls kj4 a1 t120 t128 t129 _ A35.out).mono ?_); rintro e w' ⟨rfl, ⟨nd, rfl⟩⟩; refine ⟨_, rfl, ?_⟩) | ((with_reducible refine gate_callee (f := 11) rfl ?_); refine goesL_ (some 74) rfl rfl Try.func11 (by kernel_rfl) rfl #[.int .i64 t128, .int .i64 t122] rfl (by (try simp only [List.map_toArray, List.map_cons, List.map_nil]); first | done | rfl | (simp only [List.length_drop, List.length_take]; rfl)) ?_; (with_reducible refine (num_Add.calls t128 t122 t130 t131 _ A36.out).mono ?_); rintro e w' ⟨rfl, ⟨nd, rfl⟩⟩; refine ⟨_, rfl, ?_⟩))
                    go_ret
                    exact ⟨by first | rfl | (simp [errW_none, errW_some] <;> rfl) | (simp [*, errW_none, errW_some] <;> rfl), by repeat (first | (with_reducible first | exact HB.out | apply below_alloc | apply pw_below_drewN | apply below_drew1) | exact HB.out)⟩
                · rw [if_neg c98] at H
                  have c98b0 : (a1 == (-9223372036854775808)) = false := beq_eq_false_iff_ne.mpr c98
                  have c98b1 : (a1 != (-9223372036854775808)) = true := bne_iff_ne.mpr c98
                  by_cases c105 : t129 = 0
                  · rw [if_pos c105] at H
                    have c105b0 : (t129 == 0) = true := beq_iff_eq.mpr c105
                    have c105b1 : (t129 != 0) = false := bne_eq_false_iff_eq.mpr c105
                    clear c105
                    by_cases c106 : t131 = 0
                    · rw [if_pos c106] at H
                      have c106b0 : (t131 == 0) = true := beq_iff_eq.mpr c106
                      have c106b1 : (t131 != 0) = false := bne_eq_false_iff_eq.mpr c106
                      clear c106
                      by_cases c107 : t130 = a0
                      · rw [if_pos c107] at H
                        have c107b0 : (t130 == a0) = true := beq_iff_eq.mpr c107
                        have c107b1 : (t130 != a0) = false := bne_eq_false_iff_eq.mpr c107
                        clear c107
                        by_cases c108 : t122 < (wrap64 (-a1))
                        · rw [if_pos c108] at H
                          have c108b0 : decide (t122 < (wrap64 (-a1))) = true := decide_eq_true c108
                          clear c108
                          by_cases c109 : ((decide (t122 < 0)) == (decide (a0 < 0))) = true
                          · rw [if_pos c109] at H
                            have c109b0 : ((decide (t122 < 0)) == (decide (a0 < 0))) = true := c109
                            (try (have c109b1 : decide ((decide (t122 < 0)) = (decide (a0 < 0))) = true := by simpa using c109))
                            (try (have c109b2 : ((decide (t122 < 0)) == (decide (a0 < 0))) = true := by simpa using c109))
                            clear c109
                            replace H := Option.bind_eq_some_iff.mp H
                            obtain ⟨t139, A1100, H⟩ := H
                            replace H : (some t139) = some r := H
                            have A110 := Aside0.mk A1100
                            clear A1100
                            obtain rfl := Option.some.inj H
                            go_wp2_with (first | ((with_reducible refine gate_callee (f := 15) rfl ?_); refine goesL_ (some 68) rfl rfl Try.func15 (by kernel_rfl) rfl #[.int .i64 a1, .int .i64 t120] rfl (by (try simp only [List.map_toArray, List.map_cons, List.map_nil]); first | done | rfl | (simp only [List.length_drop, List.length_take]; rfl)) ?_; (with_reducible refine (num_Mul.calls kj4 a1 t120 t128 t129 _ A35.out).mono ?_); rintro e w' ⟨rfl, ⟨nd, rfl⟩⟩; refine ⟨_, rfl, ?_⟩) | ((with_reducible refine gate_callee (f := 11) rfl ?_); refine goesL_ (some 74) rfl rfl Try.func11 (by kernel_rfl) rfl #[.int .i64 t128, .int .i64 t122] rfl (by (try simp only [List.map_toArray, List.map_cons, List.map_nil]); first | done | rfl | (simp only [List.length_drop, List.length_take]; rfl)) ?_; (with_reducible refine (num_Add.calls t128 t122 t130 t131 _ A36.out).mono ?_); rintro e w' ⟨rfl, ⟨nd, rfl⟩⟩; refine ⟨_, rfl, ?_⟩) | (go_at_call 10; (with_reducible refine (cotillionlaw1_known.calls kj4  t139 _ A110.out).mono ?_); rintro e w111 ⟨rfl, hb⟩; have n0_ := Aside0.mk (below_step (by repeat (first | (with_reducible first | exact HB.out | apply below_alloc | apply pw_below_drewN | apply below_drew1) | exact HB.out)) hb); clear HB; have HB := n0_; clear n0_; (try clear hb); (try clear hb2); (try clear hk); (try clear hi)))
                            go_ret
                            exact ⟨by first | rfl | (simp [errW_none, errW_some] <;> rfl) | (simp [*, errW_none, errW_some] <;> rfl), by repeat (first | (with_reducible first | exact HB.out | apply below_alloc | apply pw_below_drewN | apply below_drew1) | exact HB.out)⟩
                          · rw [if_neg c109] at H
                            have c109b0 : ((decide (t122 < 0)) == (decide (a0 < 0))) = false := by simpa using c109
                            (try (have c109b1 : decide ((decide (t122 < 0)) = (decide (a0 < 0))) = false := by simpa using c109))
                            (try (have c109b2 : ((decide (t122 < 0)) == (decide (a0 < 0))) = false := by simpa using c109))
                            (try (have c109b3 : ¬ ((decide (t122 < 0)) = (decide (a0 < 0))) := by simpa using c109))
                            clear c109
                            obtain rfl := Option.some.inj H
                            go_wp2_with (first | ((with_reducible refine gate_callee (f := 15) rfl ?_); refine goesL_ (some 68) rfl rfl Try.func15 (by kernel_rfl) rfl #[.int .i64 a1, .int .i64 t120] rfl (by (try simp only [List.map_toArray, List.map_cons, List.map_nil]); first | done | rfl | (simp only [List.length_drop, List.length_take]; rfl)) ?_; (with_reducible refine (num_Mul.calls kj4 a1 t120 t128 t129 _ A35.out).mono ?_); rintro e w' ⟨rfl, ⟨nd, rfl⟩⟩; refine ⟨_, rfl, ?_⟩) | ((with_reducible refine gate_callee (f := 11) rfl ?_); refine goesL_ (some 74) rfl rfl Try.func11 (by kernel_rfl) rfl #[.int .i64 t128, .int .i64 t122] rfl (by (try simp only [List.map_toArray, List.map_cons, List.map_nil]); first | done | rfl | (simp only [List.length_drop, List.length_take]; rfl)) ?_; (with_reducible refine (num_Add.calls t128 t122 t130 t131 _ A36.out).mono ?_); rintro e w' ⟨rfl, ⟨nd, rfl⟩⟩; refine ⟨_, rfl, ?_⟩))
                            go_ret
                            exact ⟨by first | rfl | (simp [errW_none, errW_some] <;> rfl) | (simp [*, errW_none, errW_some] <;> rfl), by repeat (first | (with_reducible first | exact HB.out | apply below_alloc | apply pw_below_drewN | apply below_drew1) | exact HB.out)⟩
                        · rw [if_neg c108] at H
                          have c108b0 : decide (t122 < (wrap64 (-a1))) = false := decide_eq_false c108
                          clear c108
                          obtain rfl := Option.some.inj H
                          go_wp2_with (first | ((with_reducible refine gate_callee (f := 15) rfl ?_); refine goesL_ (some 68) rfl rfl Try.func15 (by kernel_rfl) rfl #[.int .i64 a1, .int .i64 t120] rfl (by (try simp only [List.map_toArray, List.map_cons, List.map_nil]); first | done | rfl | (simp only [List.length_drop, List.length_take]; rfl)) ?_; (with_reducible refine (num_Mul.calls kj4 a1 t120 t128 t129 _ A35.out).mono ?_); rintro e w' ⟨rfl, ⟨nd, rfl⟩⟩; refine ⟨_, rfl, ?_⟩) | ((with_reducible refine gate_callee (f := 11) rfl ?_); refine goesL_ (some 74) rfl rfl Try.func11 (by kernel_rfl) rfl #[.int .i64 t128, .int .i64 t122] rfl (by (try simp only [List.map_toArray, List.map_cons, List.map_nil]); first | done | rfl | (simp only [List.length_drop, List.length_take]; rfl)) ?_; (with_reducible refine (num_Add.calls t128 t122 t130 t131 _ A36.out).mono ?_); rintro e w' ⟨rfl, ⟨nd, rfl⟩⟩; refine ⟨_, rfl, ?_⟩))
                          go_ret
                          exact ⟨by first | rfl | (simp [errW_none, errW_some] <;> rfl) | (simp [*, errW_none, errW_some] <;> rfl), by repeat (first | (with_reducible first | exact HB.out | apply below_alloc | apply pw_below_drewN | apply below_drew1) | exact HB.out)⟩
                      · rw [if_neg c107] at H
                        have c107b0 : (t130 == a0) = false := beq_eq_false_iff_ne.mpr c107
                        have c107b1 : (t130 != a0) = true := bne_iff_ne.mpr c107
                        obtain rfl := Option.some.inj H
                        go_wp2_with (first | ((with_reducible refine gate_callee (f := 15) rfl ?_); refine goesL_ (some 68) rfl rfl Try.func15 (by kernel_rfl) rfl #[.int .i64 a1, .int .i64 t120] rfl (by (try simp only [List.map_toArray, List.map_cons, List.map_nil]); first | done | rfl | (simp only [List.length_drop, List.length_take]; rfl)) ?_; (with_reducible refine (num_Mul.calls kj4 a1 t120 t128 t129 _ A35.out).mono ?_); rintro e w' ⟨rfl, ⟨nd, rfl⟩⟩; refine ⟨_, rfl, ?_⟩) | ((with_reducible refine gate_callee (f := 11) rfl ?_); refine goesL_ (some 74) rfl rfl Try.func11 (by kernel_rfl) rfl #[.int .i64 t128, .int .i64 t122] rfl (by (try simp only [List.map_toArray, List.map_cons, List.map_nil]); first | done | rfl | (simp only [List.length_drop, List.length_take]; rfl)) ?_; (with_reducible refine (num_Add.calls t128 t122 t130 t131 _ A36.out).mono ?_); rintro e w' ⟨rfl, ⟨nd, rfl⟩⟩; refine ⟨_, rfl, ?_⟩))
                        go_ret
                        exact ⟨by first | rfl | (simp [errW_none, errW_some] <;> rfl) | (simp [*, errW_none, errW_some] <;> rfl), by repeat (first | (with_reducible first | exact HB.out | apply below_alloc | apply pw_below_drewN | apply below_drew1) | exact HB.out)⟩
                    · rw [if_neg c106] at H
                      have c106b0 : (t131 == 0) = false := beq_eq_false_iff_ne.mpr c106
                      have c106b1 : (t131 != 0) = true := bne_iff_ne.mpr c106
                      obtain rfl := Option.some.inj H
                      go_wp2_with (first | ((with_reducible refine gate_callee (f := 15) rfl ?_); refine goesL_ (some 68) rfl rfl Try.func15 (by kernel_rfl) rfl #[.int .i64 a1, .int .i64 t120] rfl (by (try simp only [List.map_toArray, List.map_cons, List.map_nil]); first | done | rfl | (simp only [List.length_drop, List.length_take]; rfl)) ?_; (with_reducible refine (num_Mul.calls kj4 a1 t120 t128 t129 _ A35.out).mono ?_); rintro e w' ⟨rfl, ⟨nd, rfl⟩⟩; refine ⟨_, rfl, ?_⟩) | ((with_reducible refine gate_callee (f := 11) rfl ?_); refine goesL_ (some 74) rfl rfl Try.func11 (by kernel_rfl) rfl #[.int .i64 t128, .int .i64 t122] rfl (by (try simp only [List.map_toArray, List.map_cons, List.map_nil]); first | done | rfl | (simp only [List.length_drop, List.length_take]; rfl)) ?_; (with_reducible refine (num_Add.calls t128 t122 t130 t131 _ A36.out).mono ?_); rintro e w' ⟨rfl, ⟨nd, rfl⟩⟩; refine ⟨_, rfl, ?_⟩))
                      go_ret
                      exact ⟨by first | rfl | (simp [errW_none, errW_some] <;> rfl) | (simp [*, errW_none, errW_some] <;> rfl), by repeat (first | (with_reducible first | exact HB.out | apply below_alloc | apply pw_below_drewN | apply below_drew1) | exact HB.out)⟩
                  · rw [if_neg c105] at H
                    have c105b0 : (t129 == 0) = false := beq_eq_false_iff_ne.mpr c105
                    have c105b1 : (t129 != 0) = true := bne_iff_ne.mpr c105
                    obtain rfl := Option.some.inj H
                    go_wp2_with (first | ((with_reducible refine gate_callee (f := 15) rfl ?_); refine goesL_ (some 68) rfl rfl Try.func15 (by kernel_rfl) rfl #[.int .i64 a1, .int .i64 t120] rfl (by (try simp only [List.map_toArray, List.map_cons, List.map_nil]); first | done | rfl | (simp only [List.length_drop, List.length_take]; rfl)) ?_; (with_reducible refine (num_Mul.calls kj4 a1 t120 t128 t129 _ A35.out).mono ?_); rintro e w' ⟨rfl, ⟨nd, rfl⟩⟩; refine ⟨_, rfl, ?_⟩) | ((with_reducible refine gate_callee (f := 11) rfl ?_); refine goesL_ (some 74) rfl rfl Try.func11 (by kernel_rfl) rfl #[.int .i64 t128, .int .i64 t122] rfl (by (try simp only [List.map_toArray, List.map_cons, List.map_nil]); first | done | rfl | (simp only [List.length_drop, List.length_take]; rfl)) ?_; (with_reducible refine (num_Add.calls t128 t122 t130 t131 _ A36.out).mono ?_); rintro e w' ⟨rfl, ⟨nd, rfl⟩⟩; refine ⟨_, rfl, ?_⟩))
                    go_ret
                    exact ⟨by first | rfl | (simp [errW_none, errW_some] <;> rfl) | (simp [*, errW_none, errW_some] <;> rfl), by repeat (first | (with_reducible first | exact HB.out | apply below_alloc | apply pw_below_drewN | apply below_drew1) | exact HB.out)⟩
              · rw [if_neg c97] at H
                have c97b0 : decide (a1 < t122) = false := decide_eq_false c97
                clear c97
                by_cases c112 : t129 = 0
                · rw [if_pos c112] at H
                  have c112b0 : (t129 == 0) = true := beq_iff_eq.mpr c112
                  have c112b1 : (t129 != 0) = false := bne_eq_false_iff_eq.mpr c112
                  clear c112
                  by_cases c113 : t131 = 0
                  · rw [if_pos c113] at H
                    have c113b0 : (t131 == 0) = true := beq_iff_eq.mpr c113
                    have c113b1 : (t131 != 0) = false := bne_eq_false_iff_eq.mpr c113
                    clear c113
                    by_cases c114 : t130 = a0
                    · rw [if_pos c114] at H
                      have c114b0 : (t130 == a0) = true := beq_iff_eq.mpr c114
                      have c114b1 : (t130 != a0) = false := bne_eq_false_iff_eq.mpr c114
                      clear c114
                      obtain rfl := Option.some.inj H
                      go_wp2_with (first | ((with_reducible refine gate_callee (f := 15) rfl ?_); refine goesL_ (some 68) rfl rfl Try.func15 (by kernel_rfl) rfl #[.int .i64 a1, .int .i64 t120] rfl (by (try simp only [List.map_toArray, List.map_cons, List.map_nil]); first | done | rfl | (simp only [List.length_drop, List.length_take]; rfl)) ?_; (with_reducible refine (num_Mul.calls kj4 a1 t120 t128 t129 _ A35.out).mono ?_); rintro e w' ⟨rfl, ⟨nd, rfl⟩⟩; refine ⟨_, rfl, ?_⟩) | ((with_reducible refine gate_callee (f := 11) rfl ?_); refine goesL_ (some 74) rfl rfl Try.func11 (by kernel_rfl) rfl #[.int .i64 t128, .int .i64 t122] rfl (by (try simp only [List.map_toArray, List.map_cons, List.map_nil]); first | done | rfl | (simp only [List.length_drop, List.length_take]; rfl)) ?_; (with_reducible refine (num_Add.calls t128 t122 t130 t131 _ A36.out).mono ?_); rintro e w' ⟨rfl, ⟨nd, rfl⟩⟩; refine ⟨_, rfl, ?_⟩))
                      go_ret
                      exact ⟨by first | rfl | (simp [errW_none, errW_some] <;> rfl) | (simp [*, errW_none, errW_some] <;> rfl), by repeat (first | (with_reducible first | exact HB.out | apply below_alloc | apply pw_below_drewN | apply below_drew1) | exact HB.out)⟩
                    · rw [if_neg c114] at H
                      have c114b0 : (t130 == a0) = false := beq_eq_false_iff_ne.mpr c114
                      have c114b1 : (t130 != a0) = true := bne_iff_ne.mpr c114
                      obtain rfl := Option.some.inj H
                      go_wp2_with (first | ((with_reducible refine gate_callee (f := 15) rfl ?_); refine goesL_ (some 68) rfl rfl Try.func15 (by kernel_rfl) rfl #[.int .i64 a1, .int .i64 t120] rfl (by (try simp only [List.map_toArray, List.map_cons, List.map_nil]); first | done | rfl | (simp only [List.length_drop, List.length_take]; rfl)) ?_; (with_reducible refine (num_Mul.calls kj4 a1 t120 t128 t129 _ A35.out).mono ?_); rintro e w' ⟨rfl, ⟨nd, rfl⟩⟩; refine ⟨_, rfl, ?_⟩) | ((with_reducible refine gate_callee (f := 11) rfl ?_); refine goesL_ (some 74) rfl rfl Try.func11 (by kernel_rfl) rfl #[.int .i64 t128, .int .i64 t122] rfl (by (try simp only [List.map_toArray, List.map_cons, List.map_nil]); first | done | rfl | (simp only [List.length_drop, List.length_take]; rfl)) ?_; (with_reducible refine (num_Add.calls t128 t122 t130 t131 _ A36.out).mono ?_); rintro e w' ⟨rfl, ⟨nd, rfl⟩⟩; refine ⟨_, rfl, ?_⟩))
                      go_ret
                      exact ⟨by first | rfl | (simp [errW_none, errW_some] <;> rfl) | (simp [*, errW_none, errW_some] <;> rfl), by repeat (first | (with_reducible first | exact HB.out | apply below_alloc | apply pw_below_drewN | apply below_drew1) | exact HB.out)⟩
                  · rw [if_neg c113] at H
                    have c113b0 : (t131 == 0) = false := beq_eq_false_iff_ne.mpr c113
                    have c113b1 : (t131 != 0) = true := bne_iff_ne.mpr c113
                    obtain rfl := Option.some.inj H
                    go_wp2_with (first | ((with_reducible refine gate_callee (f := 15) rfl ?_); refine goesL_ (some 68) rfl rfl Try.func15 (by kernel_rfl) rfl #[.int .i64 a1, .int .i64 t120] rfl (by (try simp only [List.map_toArray, List.map_cons, List.map_nil]); first | done | rfl | (simp only [List.length_drop, List.length_take]; rfl)) ?_; (with_reducible refine (num_Mul.calls kj4 a1 t120 t128 t129 _ A35.out).mono ?_); rintro e w' ⟨rfl, ⟨nd, rfl⟩⟩; refine ⟨_, rfl, ?_⟩) | ((with_reducible refine gate_callee (f := 11) rfl ?_); refine goesL_ (some 74) rfl rfl Try.func11 (by kernel_rfl) rfl #[.int .i64 t128, .int .i64 t122] rfl (by (try simp only [List.map_toArray, List.map_cons, List.map_nil]); first | done | rfl | (simp only [List.length_drop, List.length_take]; rfl)) ?_; (with_reducible refine (num_Add.calls t128 t122 t130 t131 _ A36.out).mono ?_); rintro e w' ⟨rfl, ⟨nd, rfl⟩⟩; refine ⟨_, rfl, ?_⟩))
                    go_ret
                    exact ⟨by first | rfl | (simp [errW_none, errW_some] <;> rfl) | (simp [*, errW_none, errW_some] <;> rfl), by repeat (first | (with_reducible first | exact HB.out | apply below_alloc | apply pw_below_drewN | apply below_drew1) | exact HB.out)⟩
                · rw [if_neg c112] at H
                  have c112b0 : (t129 == 0) = false := beq_eq_false_iff_ne.mpr c112
                  have c112b1 : (t129 != 0) = true := bne_iff_ne.mpr c112
                  obtain rfl := Option.some.inj H
                  go_wp2_with (first | ((with_reducible refine gate_callee (f := 15) rfl ?_); refine goesL_ (some 68) rfl rfl Try.func15 (by kernel_rfl) rfl #[.int .i64 a1, .int .i64 t120] rfl (by (try simp only [List.map_toArray, List.map_cons, List.map_nil]); first | done | rfl | (simp only [List.length_drop, List.length_take]; rfl)) ?_; (with_reducible refine (num_Mul.calls kj4 a1 t120 t128 t129 _ A35.out).mono ?_); rintro e w' ⟨rfl, ⟨nd, rfl⟩⟩; refine ⟨_, rfl, ?_⟩) | ((with_reducible refine gate_callee (f := 11) rfl ?_); refine goesL_ (some 74) rfl rfl Try.func11 (by kernel_rfl) rfl #[.int .i64 t128, .int .i64 t122] rfl (by (try simp only [List.map_toArray, List.map_cons, List.map_nil]); first | done | rfl | (simp only [List.length_drop, List.length_take]; rfl)) ?_; (with_reducible refine (num_Add.calls t128 t122 t130 t131 _ A36.out).mono ?_); rintro e w' ⟨rfl, ⟨nd, rfl⟩⟩; refine ⟨_, rfl, ?_⟩))
                  go_ret
                  exact ⟨by first | rfl | (simp [errW_none, errW_some] <;> rfl) | (simp [*, errW_none, errW_some] <;> rfl), by repeat (first | (with_reducible first | exact HB.out | apply below_alloc | apply pw_below_drewN | apply below_drew1) | exact HB.out)⟩
            · rw [if_neg c96] at H
              have c96b0 : decide (a1 < 0) = false := decide_eq_false c96
              clear c96
              by_cases c115 : t129 = 0
              · rw [if_pos c115] at H
                have c115b0 : (t129 == 0) = true := beq_iff_eq.mpr c115
                have c115b1 : (t129 != 0) = false := bne_eq_false_iff_eq.mpr c115
                clear c115
                by_cases c116 : t131 = 0
                · rw [if_pos c116] at H
                  have c116b0 : (t131 == 0) = true := beq_iff_eq.mpr c116
                  have c116b1 : (t131 != 0) = false := bne_eq_false_iff_eq.mpr c116
                  clear c116
                  by_cases c117 : t130 = a0
                  · rw [if_pos c117] at H
                    have c117b0 : (t130 == a0) = true := beq_iff_eq.mpr c117
                    have c117b1 : (t130 != a0) = false := bne_eq_false_iff_eq.mpr c117
                    clear c117
                    obtain rfl := Option.some.inj H
                    go_wp2_with (first | ((with_reducible refine gate_callee (f := 15) rfl ?_); refine goesL_ (some 68) rfl rfl Try.func15 (by kernel_rfl) rfl #[.int .i64 a1, .int .i64 t120] rfl (by (try simp only [List.map_toArray, List.map_cons, List.map_nil]); first | done | rfl | (simp only [List.length_drop, List.length_take]; rfl)) ?_; (with_reducible refine (num_Mul.calls kj4 a1 t120 t128 t129 _ A35.out).mono ?_); rintro e w' ⟨rfl, ⟨nd, rfl⟩⟩; refine ⟨_, rfl, ?_⟩) | ((with_reducible refine gate_callee (f := 11) rfl ?_); refine goesL_ (some 74) rfl rfl Try.func11 (by kernel_rfl) rfl #[.int .i64 t128, .int .i64 t122] rfl (by (try simp only [List.map_toArray, List.map_cons, List.map_nil]); first | done | rfl | (simp only [List.length_drop, List.length_take]; rfl)) ?_; (with_reducible refine (num_Add.calls t128 t122 t130 t131 _ A36.out).mono ?_); rintro e w' ⟨rfl, ⟨nd, rfl⟩⟩; refine ⟨_, rfl, ?_⟩))
                    go_ret
                    exact ⟨by first | rfl | (simp [errW_none, errW_some] <;> rfl) | (simp [*, errW_none, errW_some] <;> rfl), by repeat (first | (with_reducible first | exact HB.out | apply below_alloc | apply pw_below_drewN | apply below_drew1) | exact HB.out)⟩
                  · rw [if_neg c117] at H
                    have c117b0 : (t130 == a0) = false := beq_eq_false_iff_ne.mpr c117
                    have c117b1 : (t130 != a0) = true := bne_iff_ne.mpr c117
                    obtain rfl := Option.some.inj H
                    go_wp2_with (first | ((with_reducible refine gate_callee (f := 15) rfl ?_); refine goesL_ (some 68) rfl rfl Try.func15 (by kernel_rfl) rfl #[.int .i64 a1, .int .i64 t120] rfl (by (try simp only [List.map_toArray, List.map_cons, List.map_nil]); first | done | rfl | (simp only [List.length_drop, List.length_take]; rfl)) ?_; (with_reducible refine (num_Mul.calls kj4 a1 t120 t128 t129 _ A35.out).mono ?_); rintro e w' ⟨rfl, ⟨nd, rfl⟩⟩; refine ⟨_, rfl, ?_⟩) | ((with_reducible refine gate_callee (f := 11) rfl ?_); refine goesL_ (some 74) rfl rfl Try.func11 (by kernel_rfl) rfl #[.int .i64 t128, .int .i64 t122] rfl (by (try simp only [List.map_toArray, List.map_cons, List.map_nil]); first | done | rfl | (simp only [List.length_drop, List.length_take]; rfl)) ?_; (with_reducible refine (num_Add.calls t128 t122 t130 t131 _ A36.out).mono ?_); rintro e w' ⟨rfl, ⟨nd, rfl⟩⟩; refine ⟨_, rfl, ?_⟩))
                    go_ret
                    exact ⟨by first | rfl | (simp [errW_none, errW_some] <;> rfl) | (simp [*, errW_none, errW_some] <;> rfl), by repeat (first | (with_reducible first | exact HB.out | apply below_alloc | apply pw_below_drewN | apply below_drew1) | exact HB.out)⟩
                · rw [if_neg c116] at H
                  have c116b0 : (t131 == 0) = false := beq_eq_false_iff_ne.mpr c116
                  have c116b1 : (t131 != 0) = true := bne_iff_ne.mpr c116
                  obtain rfl := Option.some.inj H
                  go_wp2_with (first | ((with_reducible refine gate_callee (f := 15) rfl ?_); refine goesL_ (some 68) rfl rfl Try.func15 (by kernel_rfl) rfl #[.int .i64 a1, .int .i64 t120] rfl (by (try simp only [List.map_toArray, List.map_cons, List.map_nil]); first | done | rfl | (simp only [List.length_drop, List.length_take]; rfl)) ?_; (with_reducible refine (num_Mul.calls kj4 a1 t120 t128 t129 _ A35.out).mono ?_); rintro e w' ⟨rfl, ⟨nd, rfl⟩⟩; refine ⟨_, rfl, ?_⟩) | ((with_reducible refine gate_callee (f := 11) rfl ?_); refine goesL_ (some 74) rfl rfl Try.func11 (by kernel_rfl) rfl #[.int .i64 t128, .int .i64 t122] rfl (by (try simp only [List.map_toArray, List.map_cons, List.map_nil]); first | done | rfl | (simp only [List.length_drop, List.length_take]; rfl)) ?_; (with_reducible refine (num_Add.calls t128 t122 t130 t131 _ A36.out).mono ?_); rintro e w' ⟨rfl, ⟨nd, rfl⟩⟩; refine ⟨_, rfl, ?_⟩))
                  go_ret
                  exact ⟨by first | rfl | (simp [errW_none, errW_some] <;> rfl) | (simp [*, errW_none, errW_some] <;> rfl), by repeat (first | (with_reducible first | exact HB.out | apply below_alloc | apply pw_below_drewN | apply below_drew1) | exact HB.out)⟩
              · rw [if_neg c115] at H
                have c115b0 : (t129 == 0) = false := beq_eq_false_iff_ne.mpr c115
                have c115b1 : (t129 != 0) = true := bne_iff_ne.mpr c115
                obtain rfl := Option.some.inj H
                go_wp2_with (first | ((with_reducible refine gate_callee (f := 15) rfl ?_); refine goesL_ (some 68) rfl rfl Try.func15 (by kernel_rfl) rfl #[.int .i64 a1, .int .i64 t120] rfl (by (try simp only [List.map_toArray, List.map_cons, List.map_nil]); first | done | rfl | (simp only [List.length_drop, List.length_take]; rfl)) ?_; (with_reducible refine (num_Mul.calls kj4 a1 t120 t128 t129 _ A35.out).mono ?_); rintro e w' ⟨rfl, ⟨nd, rfl⟩⟩; refine ⟨_, rfl, ?_⟩) | ((with_reducible refine gate_callee (f := 11) rfl ?_); refine goesL_ (some 74) rfl rfl Try.func11 (by kernel_rfl) rfl #[.int .i64 t128, .int .i64 t122] rfl (by (try simp only [List.map_toArray, List.map_cons, List.map_nil]); first | done | rfl | (simp only [List.length_drop, List.length_take]; rfl)) ?_; (with_reducible refine (num_Add.calls t128 t122 t130 t131 _ A36.out).mono ?_); rintro e w' ⟨rfl, ⟨nd, rfl⟩⟩; refine ⟨_, rfl, ?_⟩))
                go_ret
                exact ⟨by first | rfl | (simp [errW_none, errW_some] <;> rfl) | (simp [*, errW_none, errW_some] <;> rfl), by repeat (first | (with_reducible first | exact HB.out | apply below_alloc | apply pw_below_drewN | apply below_drew1) | exact HB.out)⟩

/-- THE ONE PURE STATEMENT of cotillionlaw1_NumDivides: yours. -/
def cotillionlaw1_NumDivides.Pure : Prop := ∀ (a0 : Int) (a1 : Int), (Lit.int .i64 a0).wf = true → (Lit.int .i64 a1).wf = true → ∃ k, cotillionlaw1_NumDivides.f k a0 a1 = some true
theorem cotillionlaw1_NumDivides.walk (P : cotillionlaw1_NumDivides.Pure) (a0 : Int) (a1 : Int) (w : World) (w0 : (Lit.int .i64 a0).wf = true) (w1 : (Lit.int .i64 a1).wf = true) :
    Calls Try.prog 6 #[.int .i64 a0, .int .i64 a1] w fun e w' => e = .returned (.bool true) ∧ Below w.heap.size w w' := by
  obtain ⟨k, h⟩ := P a0 a1 w0 w1
  refine (cotillionlaw1_NumDivides.calls k a0 a1 true w h).mono ?_
  rintro e w' ⟨rfl, hd⟩
  exact ⟨rfl, hd⟩

end Go.Proofs.Ytekcaodbcobfdaa.PNumDivides
