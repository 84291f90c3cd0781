-- PRINTED BY print.sh 35421559b90ae4d0a3588c463048766b98c2df88dd9212a6774a882060cdf62d: not written by this session
import Derived.Test.YtekcaodbcobfdaaPNumTurnedx0
import Derived.Test.YtekcaodbcobfdaaPNumTurnedx1
namespace Go.Proofs.Ytekcaodbcobfdaa.PNumTurned
open Go.RowKit Go.Proofs.YtekcaodbcobfdaaW.PrintWords Go.Proofs.YtekcaodbcobfdaaW.PrintLast Go.Proofs.YtekcaodbcobfdaaW.PrintMore
attribute [local go_sem] max2_int min2_int max_two min_two max_three min_three max_four min_four   -- for this text's walks alone
set_option linter.unusedVariables false
set_option linter.unusedSimpArgs false

/-! ### cotillionlaw1_NumTurned: function 7 -/
mutual
def cotillionlaw1_NumTurned.j0 : Nat → Int → Int → Int → Int → Int → Int → Bool → Option (Bool)
  | 0, _, _, _, _, _, _, _ => none
  | k + 1, x0, x1, x5, x6, x9, x10, x58 => if x58 = true then (some false) else (if x6 = 0 then ((num_Sub.f x5 x1).bind fun bt128 => (if bt128.1 = x0 then (if bt128.2 = 0 then (cotillionlaw1_NumTurned.j1 k x0 x1 x9 x10) else (some false)) else (some false))) else (cotillionlaw1_NumTurned.j1 k x0 x1 x9 x10))
def cotillionlaw1_NumTurned.j1 : Nat → Int → Int → Int → Int → Option (Bool)
  | 0, _, _, _, _ => none
  | k + 1, x0, x1, x9, x10 => if x10 = 0 then (if x1 = 0 then (cotillionlaw1_NumTurned.j2 k x0 x1 x9 false) else (if x1 = (-1) then (cotillionlaw1_NumTurned.j2 k x0 x1 x9 (!(x9 == (-9223372036854775808)))) else (cotillionlaw1_NumTurned.j2 k x0 x1 x9 (!false)))) else (cotillionlaw1_NumTurned.j2 k x0 x1 x9 false)
def cotillionlaw1_NumTurned.j2 : Nat → Int → Int → Int → Bool → Option (Bool)
  | 0, _, _, _, _ => none
  | k + 1, x0, x1, x9, x88 => if x88 = true then ((num_Div.f x9 x1).bind fun bt130 => (if bt130.1 = x0 then (if bt130.2 = 0 then ((cotillionlaw1_known.f k).bind fun t132 => (some t132)) else (some false)) else (some false))) else ((cotillionlaw1_known.f k).bind fun t133 => (some t133))
end
def cotillionlaw1_NumTurned.f (k : Nat) (a0 : Int) (a1 : Int) : Option (Bool) := (num_Add.f a0 a1).bind fun bt120 => ((num_Add.f a1 a0).bind fun bt122 => ((num_Mul.f k a0 a1).bind fun bt124 => ((num_Mul.f k a1 a0).bind fun bt126 => (if bt120.1 = bt122.1 then (if bt120.2 = bt122.2 then (if bt124.1 = bt126.1 then (cotillionlaw1_NumTurned.j0 k a0 a1 bt120.1 bt120.2 bt124.1 bt124.2 (bt124.2 != bt126.2)) else (cotillionlaw1_NumTurned.j0 k a0 a1 bt120.1 bt120.2 bt124.1 bt124.2 true)) else (cotillionlaw1_NumTurned.j0 k a0 a1 bt120.1 bt120.2 bt124.1 bt124.2 true)) else (cotillionlaw1_NumTurned.j0 k a0 a1 bt120.1 bt120.2 bt124.1 bt124.2 true)))))
theorem cotillionlaw1_NumTurned.mono_l : ∀ k, (∀ y0 y1 y2 y3 y4 y5 y6, LeO (cotillionlaw1_NumTurned.j0 k y0 y1 y2 y3 y4 y5 y6) (cotillionlaw1_NumTurned.j0 (k + 1) y0 y1 y2 y3 y4 y5 y6)) ∧ (∀ y0 y1 y2 y3, LeO (cotillionlaw1_NumTurned.j1 k y0 y1 y2 y3) (cotillionlaw1_NumTurned.j1 (k + 1) y0 y1 y2 y3)) ∧ (∀ y0 y1 y2 y3, LeO (cotillionlaw1_NumTurned.j2 k y0 y1 y2 y3) (cotillionlaw1_NumTurned.j2 (k + 1) y0 y1 y2 y3))
  | 0 => ⟨fun _ _ _ _ _ _ _ r h => by simp [cotillionlaw1_NumTurned.j0] at h, fun _ _ _ _ r h => by simp [cotillionlaw1_NumTurned.j1] at h, fun _ _ _ _ r h => by simp [cotillionlaw1_NumTurned.j2] at h⟩
  | k + 1 => by
    obtain ⟨ih0, ih1, ih2⟩ := cotillionlaw1_NumTurned.mono_l k
    refine ⟨?_, ?_, ?_⟩
    · intro y0 y1 y2 y3 y4 y5 y6
      unfold cotillionlaw1_NumTurned.j0
      repeat' first
      | (with_reducible exact ih0 _ _ _ _ _ _ _)
      | (with_reducible exact ih1 _ _ _ _)
      | (with_reducible exact ih2 _ _ _ _)
      | (with_reducible exact cotillionlaw1_known.mono _)
      | (with_reducible exact num_Mul.mono _ _ _)
      | (with_reducible exact LeO.refl _)
      | (with_reducible exact LeO.none _)
      | (with_reducible refine LeO.ite ?_ ?_)
      | (with_reducible refine LeO.bind ?_ (fun _ => ?_))
      | exact ih0 _ _ _ _ _ _ _
      | exact ih1 _ _ _ _
      | exact ih2 _ _ _ _
      | exact cotillionlaw1_known.mono _
      | exact num_Mul.mono _ _ _
      | exact LeO.none _
      | refine LeO.ite ?_ ?_
      | refine LeO.bind ?_ (fun _ => ?_)
    · intro y0 y1 y2 y3
      unfold cotillionlaw1_NumTurned.j1
      repeat' first
      | (with_reducible exact ih0 _ _ _ _ _ _ _)
      | (with_reducible exact ih1 _ _ _ _)
      | (with_reducible exact ih2 _ _ _ _)
      | (with_reducible exact cotillionlaw1_known.mono _)
      | (with_reducible exact num_Mul.mono _ _ _)
      | (with_reducible exact LeO.refl _)
      | (with_reducible exact LeO.none _)
      | (with_reducible refine LeO.ite ?_ ?_)
      | (with_reducible refine LeO.bind ?_ (fun _ => ?_))
      | exact ih0 _ _ _ _ _ _ _
      | exact ih1 _ _ _ _
      | exact ih2 _ _ _ _
      | exact cotillionlaw1_known.mono _
      | exact num_Mul.mono _ _ _
      | exact LeO.none _
      | refine LeO.ite ?_ ?_
      | refine LeO.bind ?_ (fun _ => ?_)
    · intro y0 y1 y2 y3
      unfold cotillionlaw1_NumTurned.j2
      repeat' first
      | (with_reducible exact ih0 _ _ _ _ _ _ _)
      | (with_reducible exact ih1 _ _ _ _)
      | (with_reducible exact ih2 _ _ _ _)
      | (with_reducible exact cotillionlaw1_known.mono _)
      | (with_reducible exact num_Mul.mono _ _ _)
      | (with_reducible exact LeO.refl _)
      | (with_reducible exact LeO.none _)
      | (with_reducible refine LeO.ite ?_ ?_)
      | (with_reducible refine LeO.bind ?_ (fun _ => ?_))
      | exact ih0 _ _ _ _ _ _ _
      | exact ih1 _ _ _ _
      | exact ih2 _ _ _ _
      | exact cotillionlaw1_known.mono _
      | exact num_Mul.mono _ _ _
      | exact LeO.none _
      | refine LeO.ite ?_ ?_
      | refine LeO.bind ?_ (fun _ => ?_)
theorem cotillionlaw1_NumTurned.mono : ∀ a0 a1 k, LeO (cotillionlaw1_NumTurned.f k a0 a1) (cotillionlaw1_NumTurned.f (k + 1) a0 a1) := by
  intro a0 a1 k
  obtain ⟨ih0, ih1, ih2⟩ := cotillionlaw1_NumTurned.mono_l k
  unfold cotillionlaw1_NumTurned.f
  repeat' first
      | (with_reducible exact ih0 _ _ _ _ _ _ _)
      | (with_reducible exact ih1 _ _ _ _)
      | (with_reducible exact ih2 _ _ _ _)
      | (with_reducible exact cotillionlaw1_known.mono _)
      | (with_reducible exact num_Mul.mono _ _ _)
      | (with_reducible exact LeO.refl _)
      | (with_reducible exact LeO.none _)
      | (with_reducible refine LeO.ite ?_ ?_)
      | (with_reducible refine LeO.bind ?_ (fun _ => ?_))
      | exact ih0 _ _ _ _ _ _ _
      | exact ih1 _ _ _ _
      | exact ih2 _ _ _ _
      | exact cotillionlaw1_known.mono _
      | exact num_Mul.mono _ _ _
      | exact LeO.none _
      | refine LeO.ite ?_ ?_
      | refine LeO.bind ?_ (fun _ => ?_)
set_option maxHeartbeats 8000000 in
set_option maxRecDepth 100000 in
theorem cotillionlaw1_NumTurned.calls (k : Nat) (a0 : Int) (a1 : Int) (r : Bool) (w : World) (h : cotillionlaw1_NumTurned.f k a0 a1 = some r) :
    Calls Try.prog 7 #[.int .i64 a0, .int .i64 a1] w fun e w' => e = .returned (.bool r) ∧ Below w.heap.size w w' := by
  have HB := Aside0.mk (Below.refl w.heap.size w)
  have H : ((num_Add.f a0 a1).bind fun bt120 => ((num_Add.f a1 a0).bind fun bt122 => ((num_Mul.f k a0 a1).bind fun bt124 => ((num_Mul.f k a1 a0).bind fun bt126 => (if bt120.1 = bt122.1 then (if bt120.2 = bt122.2 then (if bt124.1 = bt126.1 then (cotillionlaw1_NumTurned.j0 k a0 a1 bt120.1 bt120.2 bt124.1 bt124.2 (bt124.2 != bt126.2)) else (cotillionlaw1_NumTurned.j0 k a0 a1 bt120.1 bt120.2 bt124.1 bt124.2 true)) else (cotillionlaw1_NumTurned.j0 k a0 a1 bt120.1 bt120.2 bt124.1 bt124.2 true)) else (cotillionlaw1_NumTurned.j0 k a0 a1 bt120.1 bt120.2 bt124.1 bt124.2 true)))))) = some r := h
  clear h
  replace H := Option.bind_eq_some_iff.mp H
  obtain ⟨⟨t120, t121⟩, A30, H⟩ := H
  replace H : ((num_Add.f a1 a0).bind fun bt122 => ((num_Mul.f k a0 a1).bind fun bt124 => ((num_Mul.f k a1 a0).bind fun bt126 => (if t120 = bt122.1 then (if t121 = bt122.2 then (if bt124.1 = bt126.1 then (cotillionlaw1_NumTurned.j0 k a0 a1 t120 t121 bt124.1 bt124.2 (bt124.2 != bt126.2)) else (cotillionlaw1_NumTurned.j0 k a0 a1 t120 t121 bt124.1 bt124.2 true)) else (cotillionlaw1_NumTurned.j0 k a0 a1 t120 t121 bt124.1 bt124.2 true)) else (cotillionlaw1_NumTurned.j0 k a0 a1 t120 t121 bt124.1 bt124.2 true))))) = some r := H
  have A3 := Aside0.mk A30
  clear A30
  replace H := Option.bind_eq_some_iff.mp H
  obtain ⟨⟨t122, t123⟩, A40, H⟩ := H
  replace H : ((num_Mul.f k a0 a1).bind fun bt124 => ((num_Mul.f k a1 a0).bind fun bt126 => (if t120 = t122 then (if t121 = t123 then (if bt124.1 = bt126.1 then (cotillionlaw1_NumTurned.j0 k a0 a1 t120 t121 bt124.1 bt124.2 (bt124.2 != bt126.2)) else (cotillionlaw1_NumTurned.j0 k a0 a1 t120 t121 bt124.1 bt124.2 true)) else (cotillionlaw1_NumTurned.j0 k a0 a1 t120 t121 bt124.1 bt124.2 true)) else (cotillionlaw1_NumTurned.j0 k a0 a1 t120 t121 bt124.1 bt124.2 true)))) = some r := H
  have A4 := Aside0.mk A40
  clear A40
  replace H := Option.bind_eq_some_iff.mp H
  obtain ⟨⟨t124, t125⟩, A50, H⟩ := H
  replace H : ((num_Mul.f k a1 a0).bind fun bt126 => (if t120 = t122 then (if t121 = t123 then (if t124 = bt126.1 then (cotillionlaw1_NumTurned.j0 k a0 a1 t120 t121 t124 t125 (t125 != bt126.2)) else (cotillionlaw1_NumTurned.j0 k a0 a1 t120 t121 t124 t125 true)) else (cotillionlaw1_NumTurned.j0 k a0 a1 t120 t121 t124 t125 true)) else (cotillionlaw1_NumTurned.j0 k a0 a1 t120 t121 t124 t125 true))) = some r := H
  have A5 := Aside0.mk A50
  clear A50
  replace H := Option.bind_eq_some_iff.mp H
  obtain ⟨⟨t126, t127⟩, A60, H⟩ := H
  replace H : (if t120 = t122 then (if t121 = t123 then (if t124 = t126 then (cotillionlaw1_NumTurned.j0 k a0 a1 t120 t121 t124 t125 (t125 != t127)) else (cotillionlaw1_NumTurned.j0 k a0 a1 t120 t121 t124 t125 true)) else (cotillionlaw1_NumTurned.j0 k a0 a1 t120 t121 t124 t125 true)) else (cotillionlaw1_NumTurned.j0 k a0 a1 t120 t121 t124 t125 true)) = some r := H
  have A6 := Aside0.mk A60
  clear A60
  have HC7 := Aside0.mk H
  clear H
  go_enter Try.func7, Try.ntmps7
  go_upto_region 5 with (first | ((with_reducible refine gate_callee (f := 11) rfl ?_); refine goesL_ (some 20) rfl rfl Try.func11 (by kernel_rfl) rfl #[.int .i64 a0, .int .i64 a1] rfl (by (try simp only [List.map_toArray, List.map_cons, List.map_nil]); first | done | rfl | (simp only [List.length_drop, List.length_take]; rfl)) ?_; (with_reducible refine (num_Add.calls a0 a1 t120 t121 _ A3.out).mono ?_); rintro e w' ⟨rfl, ⟨nd, rfl⟩⟩; refine ⟨_, rfl, ?_⟩) | ((with_reducible refine gate_callee (f := 11) rfl ?_); refine goesL_ (some 26) rfl rfl Try.func11 (by kernel_rfl) rfl #[.int .i64 a1, .int .i64 a0] rfl (by (try simp only [List.map_toArray, List.map_cons, List.map_nil]); first | done | rfl | (simp only [List.length_drop, List.length_take]; rfl)) ?_; (with_reducible refine (num_Add.calls a1 a0 t122 t123 _ A4.out).mono ?_); rintro e w' ⟨rfl, ⟨nd, rfl⟩⟩; refine ⟨_, rfl, ?_⟩) | ((with_reducible refine gate_callee (f := 15) rfl ?_); refine goesL_ (some 32) rfl rfl Try.func15 (by kernel_rfl) rfl #[.int .i64 a0, .int .i64 a1] rfl (by (try simp only [List.map_toArray, List.map_cons, List.map_nil]); first | done | rfl | (simp only [List.length_drop, List.length_take]; rfl)) ?_; (with_reducible refine (num_Mul.calls k a0 a1 t124 t125 _ A5.out).mono ?_); rintro e w' ⟨rfl, ⟨nd, rfl⟩⟩; refine ⟨_, rfl, ?_⟩) | ((with_reducible refine gate_callee (f := 15) rfl ?_); refine goesL_ (some 38) rfl rfl Try.func15 (by kernel_rfl) rfl #[.int .i64 a1, .int .i64 a0] rfl (by (try simp only [List.map_toArray, List.map_cons, List.map_nil]); first | done | rfl | (simp only [List.length_drop, List.length_take]; rfl)) ?_; (with_reducible refine (num_Mul.calls k a1 a0 t126 t127 _ A6.out).mono ?_); rintro e w' ⟨rfl, ⟨nd, rfl⟩⟩; refine ⟨_, rfl, ?_⟩))
  (try simp only [Act.put, List.setIfInBounds_toArray, List.set_cons_zero, List.set_cons_succ])
  go_cut [58] (fun v58 wc => ∃ (kq : Nat) (x58_6 : Bool), v58 = .bool x58_6 ∧ Aside0 (cotillionlaw1_NumTurned.j0 kq a0 a1 t120 t121 t124 t125 x58_6 = some r) ∧ Aside0 (kq ≤ k) ∧ Aside0 (Below w.heap.size w wc))
  case first =>
    have H := HC7.out
    clear HC7
    by_cases c8 : t120 = t122
    · rw [if_pos c8] at H
      have c8b0 : (t120 == t122) = true := beq_iff_eq.mpr c8
      have c8b1 : (t120 != t122) = false := bne_eq_false_iff_eq.mpr c8
      clear c8
      (first | rw [c8b0] | (simp only [i64_w, i32_w]; rw [c8b0]) | skip)
      by_cases c9 : t121 = t123
      · rw [if_pos c9] at H
        have c9b0 : (t121 == t123) = true := beq_iff_eq.mpr c9
        have c9b1 : (t121 != t123) = false := bne_eq_false_iff_eq.mpr c9
        clear c9
        by_cases c10 : t124 = t126
        · rw [if_pos c10] at H
          have c10b0 : (t124 == t126) = true := beq_iff_eq.mpr c10
          have c10b1 : (t124 != t126) = false := bne_eq_false_iff_eq.mpr c10
          clear c10
          have H' := Aside0.mk H
          clear H
          go_wp2
          go_meet
          case rel => exact ⟨_, ((t125 != t127)), (by first | rfl | (simp; done) | (simp [*]; done)), H', ⟨by first | omega | exact Nat.le_refl _⟩, ⟨by repeat (first | (with_reducible first | exact HB.out | apply below_alloc | apply pw_below_drewN | apply below_drew1) | exact HB.out)⟩⟩
        · rw [if_neg c10] at H
          have c10b0 : (t124 == t126) = false := beq_eq_false_iff_ne.mpr c10
          have c10b1 : (t124 != t126) = true := bne_iff_ne.mpr c10
          have H' := Aside0.mk H
          clear H
          go_wp2
          go_meet
          case rel => exact ⟨_, (true), (by first | rfl | (simp; done) | (simp [*]; done)), H', ⟨by first | omega | exact Nat.le_refl _⟩, ⟨by repeat (first | (with_reducible first | exact HB.out | apply below_alloc | apply pw_below_drewN | apply below_drew1) | exact HB.out)⟩⟩
      · rw [if_neg c9] at H
        have c9b0 : (t121 == t123) = false := beq_eq_false_iff_ne.mpr c9
        have c9b1 : (t121 != t123) = true := bne_iff_ne.mpr c9
        have H' := Aside0.mk H
        clear H
        go_wp2
        go_meet
        case rel => exact ⟨_, (true), (by first | rfl | (simp; done) | (simp [*]; done)), H', ⟨by first | omega | exact Nat.le_refl _⟩, ⟨by repeat (first | (with_reducible first | exact HB.out | apply below_alloc | apply pw_below_drewN | apply below_drew1) | exact HB.out)⟩⟩
    · rw [if_neg c8] at H
      have c8b0 : (t120 == t122) = false := beq_eq_false_iff_ne.mpr c8
      have c8b1 : (t120 != t122) = true := bne_iff_ne.mpr c8
      (first | rw [c8b0] | (simp only [i64_w, i32_w]; rw [c8b0]) | skip)
      have H' := Aside0.mk H
      clear H
      go_wp2
      go_meet
      case rel => exact ⟨_, (true), (by first | rfl | (simp; done) | (simp [*]; done)), H', ⟨by first | omega | exact Nat.le_refl _⟩, ⟨by repeat (first | (with_reducible first | exact HB.out | apply below_alloc | apply pw_below_drewN | apply below_drew1) | exact HB.out)⟩⟩
  case rest =>
    clear HC7
    try clear c1
    try clear p2
    try clear c7
    try clear c8
    try clear c8b0
    try clear c8b1
    try clear c9
    try clear c9b0
    try clear c9b1
    try clear c10
    try clear c10b0
    try clear c10b1
    obtain ⟨kq, x58_6, rfl, HA, HJ6, HB⟩ := hcut
    cases kq with
    | zero => exact absurd HA.out (by simp [cotillionlaw1_NumTurned.j0])
    | succ kj6 =>
      have H := HA.out
      clear HA
      simp only [cotillionlaw1_NumTurned.j0] at H
      by_cases c11 : x58_6 = true
      · subst c11
        have H1 : (some false) = some r := by rw [if_pos rfl] at H; exact H
        clear H
        have H := H1
        clear H1
        obtain rfl := Option.some.inj H
        go_wp2
        go_ret
        exact ⟨by first | rfl | (simp [errW_none, errW_some] <;> rfl) | (simp [*, errW_none, errW_some] <;> rfl), by repeat (first | (with_reducible first | exact HB.out | apply below_alloc | apply pw_below_drewN | apply below_drew1) | exact HB.out)⟩
      · replace c11 := Bool.eq_false_iff.mpr c11
        subst c11
        have H1 : (if t121 = 0 then ((num_Sub.f t120 a1).bind fun bt128 => (if bt128.1 = a0 then (if bt128.2 = 0 then (cotillionlaw1_NumTurned.j1 kj6 a0 a1 t124 t125) else (some false)) else (some false))) else (cotillionlaw1_NumTurned.j1 kj6 a0 a1 t124 t125)) = some r := by rw [if_neg (show ¬ (false = true) by decide)] at H; exact H
        clear H
        have H := H1
        clear H1
        have HC12 := Aside0.mk H
        clear H
        go_upto_if 60 with (fail)
        go_cut [] (fun wc => ∃ (kq : Nat), Aside0 (cotillionlaw1_NumTurned.j1 kq a0 a1 t124 t125 = some r) ∧ Aside0 (kq ≤ kj6) ∧ Aside0 (Below w.heap.size w wc))
        case first =>
          have H := HC12.out
          clear HC12
          by_cases c13 : t121 = 0
          · rw [if_pos c13] at H
            have c13b0 : (t121 == 0) = true := beq_iff_eq.mpr c13
            have c13b1 : (t121 != 0) = false := bne_eq_false_iff_eq.mpr c13
            clear c13
            (first | rw [c13b0] | (simp only [i64_w, i32_w]; rw [c13b0]) | skip)
            replace H := Option.bind_eq_some_iff.mp H
            obtain ⟨⟨t128, t129⟩, A140, H⟩ := H
            replace H : (if t128 = a0 then (if t129 = 0 then (cotillionlaw1_NumTurned.j1 kj6 a0 a1 t124 t125) else (some false)) else (some false)) = some r := H
            have A14 := Aside0.mk A140
            clear A140
            by_cases c15 : t128 = a0
            · rw [if_pos c15] at H
              have c15b0 : (t128 == a0) = true := beq_iff_eq.mpr c15
              have c15b1 : (t128 != a0) = false := bne_eq_false_iff_eq.mpr c15
              clear c15
              by_cases c16 : t129 = 0
              · rw [if_pos c16] at H
                have c16b0 : (t129 == 0) = true := beq_iff_eq.mpr c16
                have c16b1 : (t129 != 0) = false := bne_eq_false_iff_eq.mpr c16
                clear c16
                have H' := Aside0.mk H
                clear H
                go_wp2_with (first | ((with_reducible refine gate_callee (f := 13) rfl ?_); refine goesL_ (some 64) rfl rfl Try.func13 (by kernel_rfl) rfl #[.int .i64 t120, .int .i64 a1] rfl (by (try simp only [List.map_toArray, List.map_cons, List.map_nil]); first | done | rfl | (simp only [List.length_drop, List.length_take]; rfl)) ?_; (with_reducible refine (num_Sub.calls t120 a1 t128 t129 _ A14.out).mono ?_); rintro e w' ⟨rfl, ⟨nd, rfl⟩⟩; refine ⟨_, rfl, ?_⟩))
                go_meet
                case rel => exact ⟨_, H', ⟨by have := HJ6.out; first | omega | exact Nat.le_refl _⟩, ⟨by repeat (first | (with_reducible first | exact HB.out | apply below_alloc | apply pw_below_drewN | apply below_drew1) | exact HB.out)⟩⟩
              · rw [if_neg c16] at H
                have c16b0 : (t129 == 0) = false := beq_eq_false_iff_ne.mpr c16
                have c16b1 : (t129 != 0) = true := bne_iff_ne.mpr c16
                obtain rfl := Option.some.inj H
                go_wp2_with (first | ((with_reducible refine gate_callee (f := 13) rfl ?_); refine goesL_ (some 64) rfl rfl Try.func13 (by kernel_rfl) rfl #[.int .i64 t120, .int .i64 a1] rfl (by (try simp only [List.map_toArray, List.map_cons, List.map_nil]); first | done | rfl | (simp only [List.length_drop, List.length_take]; rfl)) ?_; (with_reducible refine (num_Sub.calls t120 a1 t128 t129 _ A14.out).mono ?_); rintro e w' ⟨rfl, ⟨nd, rfl⟩⟩; refine ⟨_, rfl, ?_⟩))
                go_ret
                exact ⟨by first | rfl | (simp [errW_none, errW_some] <;> rfl) | (simp [*, errW_none, errW_some] <;> rfl), by repeat (first | (with_reducible first | exact HB.out | apply below_alloc | apply pw_below_drewN | apply below_drew1) | exact HB.out)⟩
            · rw [if_neg c15] at H
              have c15b0 : (t128 == a0) = false := beq_eq_false_iff_ne.mpr c15
              have c15b1 : (t128 != a0) = true := bne_iff_ne.mpr c15
              obtain rfl := Option.some.inj H
              go_wp2_with (first | ((with_reducible refine gate_callee (f := 13) rfl ?_); refine goesL_ (some 64) rfl rfl Try.func13 (by kernel_rfl) rfl #[.int .i64 t120, .int .i64 a1] rfl (by (try simp only [List.map_toArray, List.map_cons, List.map_nil]); first | done | rfl | (simp only [List.length_drop, List.length_take]; rfl)) ?_; (with_reducible refine (num_Sub.calls t120 a1 t128 t129 _ A14.out).mono ?_); rintro e w' ⟨rfl, ⟨nd, rfl⟩⟩; refine ⟨_, rfl, ?_⟩))
              go_ret
              exact ⟨by first | rfl | (simp [errW_none, errW_some] <;> rfl) | (simp [*, errW_none, errW_some] <;> rfl), by repeat (first | (with_reducible first | exact HB.out | apply below_alloc | apply pw_below_drewN | apply below_drew1) | exact HB.out)⟩
          · rw [if_neg c13] at H
            have c13b0 : (t121 == 0) = false := beq_eq_false_iff_ne.mpr c13
            have c13b1 : (t121 != 0) = true := bne_iff_ne.mpr c13
            (first | rw [c13b0] | (simp only [i64_w, i32_w]; rw [c13b0]) | skip)
            have H' := Aside0.mk H
            clear H
            go_wp2
            go_meet
            case rel => exact ⟨_, H', ⟨by have := HJ6.out; first | omega | exact Nat.le_refl _⟩, ⟨by repeat (first | (with_reducible first | exact HB.out | apply below_alloc | apply pw_below_drewN | apply below_drew1) | exact HB.out)⟩⟩
        case rest =>
          clear HC12
          try clear c1
          try clear p2
          try clear c7
          try clear c8
          try clear c8b0
          try clear c8b1
          try clear c9
          try clear c9b0
          try clear c9b1
          try clear c10
          try clear c10b0
          try clear c10b1
          try clear c11
          try clear c13
          try clear c13b0
          try clear c13b1
          try clear c15
          try clear c15b0
          try clear c15b1
          try clear c16
          try clear c16b0
          try clear c16b1
          try clear p2
          obtain ⟨kq, HA, HJ11, HB⟩ := hcut
          cases kq with
          | zero => exact absurd HA.out (by simp [cotillionlaw1_NumTurned.j1])
          | succ kj11 =>
            have H := HA.out
            clear HA
            simp only [cotillionlaw1_NumTurned.j1] at H
            have HC17 := Aside0.mk H
            clear H
            go_upto_region 11 with (fail)
            go_cut [88] (fun v88 wc => ∃ (kq : Nat) (x88_16 : Bool), v88 = .bool x88_16 ∧ Aside0 (cotillionlaw1_NumTurned.j2 kq a0 a1 t124 x88_16 = some r) ∧ Aside0 (kq ≤ kj11) ∧ Aside0 (Below w.heap.size w wc))
            case first =>
              have H := HC17.out
              clear HC17
              by_cases c18 : t125 = 0
              · rw [if_pos c18] at H
                have c18b0 : (t125 == 0) = true := beq_iff_eq.mpr c18
                have c18b1 : (t125 != 0) = false := bne_eq_false_iff_eq.mpr c18
                clear c18
                (first | rw [c18b0] | (simp only [i64_w, i32_w]; rw [c18b0]) | skip)
                by_cases c19 : a1 = 0
                · rw [if_pos c19] at H
                  have c19b0 : (a1 == 0) = true := beq_iff_eq.mpr c19
                  have c19b1 : (a1 != 0) = false := bne_eq_false_iff_eq.mpr c19
                  clear c19
                  have H' := Aside0.mk H
                  clear H
                  go_wp2
                  go_meet
                  case rel => exact ⟨_, (false), (by first | rfl | (simp; done) | (simp [*]; done)), H', ⟨by have := HJ6.out; have := HJ11.out; first | omega | exact Nat.le_refl _⟩, ⟨by repeat (first | (with_reducible first | exact HB.out | apply below_alloc | apply pw_below_drewN | apply below_drew1) | exact HB.out)⟩⟩
                · rw [if_neg c19] at H
                  have c19b0 : (a1 == 0) = false := beq_eq_false_iff_ne.mpr c19
                  have c19b1 : (a1 != 0) = true := bne_iff_ne.mpr c19
                  by_cases c20 : a1 = (-1)
                  · rw [if_pos c20] at H
                    have c20b0 : (a1 == (-1)) = true := beq_iff_eq.mpr c20
                    have c20b1 : (a1 != (-1)) = false := bne_eq_false_iff_eq.mpr c20
                    clear c20
                    have H' := Aside0.mk H
                    clear H
                    go_wp2
                    go_meet
                    case rel => exact ⟨_, (!(t124 == (-9223372036854775808))), (by first | rfl | (simp; done) | (simp [*]; done)), H', ⟨by have := HJ6.out; have := HJ11.out; first | omega | exact Nat.le_refl _⟩, ⟨by repeat (first | (with_reducible first | exact HB.out | apply below_alloc | apply pw_below_drewN | apply below_drew1) | exact HB.out)⟩⟩
                  · rw [if_neg c20] at H
                    have c20b0 : (a1 == (-1)) = false := beq_eq_false_iff_ne.mpr c20
                    have c20b1 : (a1 != (-1)) = true := bne_iff_ne.mpr c20
                    have H' := Aside0.mk H
                    clear H
                    go_wp2
                    go_meet
                    case rel => exact ⟨_, (!false), (by first | rfl | (simp; done) | (simp [*]; done)), H', ⟨by have := HJ6.out; have := HJ11.out; first | omega | exact Nat.le_refl _⟩, ⟨by repeat (first | (with_reducible first | exact HB.out | apply below_alloc | apply pw_below_drewN | apply below_drew1) | exact HB.out)⟩⟩
              · rw [if_neg c18] at H
                have c18b0 : (t125 == 0) = false := beq_eq_false_iff_ne.mpr c18
                have c18b1 : (t125 != 0) = true := bne_iff_ne.mpr c18
                (first | rw [c18b0] | (simp only [i64_w, i32_w]; rw [c18b0]) | skip)
                have H' := Aside0.mk H
                clear H
                go_wp2
                go_meet
                case rel => exact ⟨_, (false), (by first | rfl | (simp; done) | (simp [*]; done)), H', ⟨by have := HJ6.out; have := HJ11.out; first | omega | exact Nat.le_refl _⟩, ⟨by repeat (first | (with_reducible first | exact HB.out | apply below_alloc | apply pw_below_drewN | apply below_drew1) | exact HB.out)⟩⟩
            case rest =>
              clear HC17
              try clear c1
              try clear c2
              try clear p2
              try clear c7
              try clear c8
              try clear c8b0
              try clear c8b1
              try clear c9
              try clear c9b0
              try clear c9b1
              try clear c10
              try clear c10b0
              try clear c10b1
              try clear c11
              try clear c13
              try clear c13b0
              try clear c13b1
              try clear c15
              try clear c15b0
              try clear c15b1
              try clear c16
              try clear c16b0
              try clear c16b1
              try clear c18
              try clear c18b0
              try clear c18b1
              try clear c19
              try clear c19b0
              try clear c19b1
              try clear c20
              try clear c20b0
              try clear c20b1
              try clear p2
              obtain ⟨kq, x88_16, rfl, HA, HJ16, HB⟩ := hcut
              cases kq with
              | zero => exact absurd HA.out (by simp [cotillionlaw1_NumTurned.j2])
              | succ kj16 =>
                have H := HA.out
                clear HA
                simp only [cotillionlaw1_NumTurned.j2] at H
                by_cases c21 : x88_16 = true
                · subst c21
                  have H1 : ((num_Div.f t124 a1).bind fun bt130 => (if bt130.1 = a0 then (if bt130.2 = 0 then ((cotillionlaw1_known.f kj16).bind fun t132 => (some t132)) else (some false)) else (some false))) = some r := by rw [if_pos rfl] at H; exact H
                  clear H
                  have H := H1
                  clear H1
                  replace H := Option.bind_eq_some_iff.mp H
                  obtain ⟨⟨t130, t131⟩, A220, H⟩ := H
                  replace H : (if t130 = a0 then (if t131 = 0 then ((cotillionlaw1_known.f kj16).bind fun t132 => (some t132)) else (some false)) else (some false)) = some r := H
                  have A22 := Aside0.mk A220
                  clear A220
                  by_cases c23 : t130 = a0
                  · rw [if_pos c23] at H
                    have c23b0 : (t130 == a0) = true := beq_iff_eq.mpr c23
                    have c23b1 : (t130 != a0) = false := bne_eq_false_iff_eq.mpr c23
                    clear c23
                    by_cases c24 : t131 = 0
                    · rw [if_pos c24] at H
                      have c24b0 : (t131 == 0) = true := beq_iff_eq.mpr c24
                      have c24b1 : (t131 != 0) = false := bne_eq_false_iff_eq.mpr c24
                      clear c24
                      replace H := Option.bind_eq_some_iff.mp H
                      obtain ⟨t132, A250, H⟩ := H
                      replace H : (some t132) = some r := H
                      have A25 := Aside0.mk A250
                      clear A250
                      obtain rfl := Option.some.inj H
                      go_wp2_with (first | ((with_reducible refine gate_callee (f := 17) rfl ?_); refine goesL_ (some 92) rfl rfl Try.func17 (by kernel_rfl) rfl #[.int .i64 t124, .int .i64 a1] rfl (by (try simp only [List.map_toArray, List.map_cons, List.map_nil]); first | done | rfl | (simp only [List.length_drop, List.length_take]; rfl)) ?_; (with_reducible refine (num_Div.calls t124 a1 t130 t131 _ A22.out).mono ?_); rintro e w' ⟨rfl, ⟨nd, rfl⟩⟩; refine ⟨_, rfl, ?_⟩) | ((with_reducible refine gate_callee (f := 10) rfl ?_); refine goesL_ (some 102) rfl rfl Try.func10 (by kernel_rfl) rfl #[] rfl (by (try simp only [List.map_toArray, List.map_cons, List.map_nil]); first | done | rfl | (simp only [List.length_drop, List.length_take]; rfl)) ?_; (with_reducible refine (cotillionlaw1_known.calls kj16  t132 _ A25.out).mono ?_); rintro e w26 ⟨rfl, hb⟩; refine ⟨_, rfl, ?_⟩; have n0_ := Aside0.mk (below_step (by repeat (first | (with_reducible first | exact HB.out | apply below_alloc | apply pw_below_drewN | apply below_drew1) | exact HB.out)) hb); clear HB; have HB := n0_; clear n0_; (try clear hb); (try clear hb2); (try clear hk); (try clear hi)))
                      go_ret
                      exact ⟨by first | rfl | (simp [errW_none, errW_some] <;> rfl) | (simp [*, errW_none, errW_some] <;> rfl), by repeat (first | (with_reducible first | exact HB.out | apply below_alloc | apply pw_below_drewN | apply below_drew1) | exact HB.out)⟩
                    · rw [if_neg c24] at H
                      have c24b0 : (t131 == 0) = false := beq_eq_false_iff_ne.mpr c24
                      have c24b1 : (t131 != 0) = true := bne_iff_ne.mpr c24
                      obtain rfl := Option.some.inj H
                      go_wp2_with (first | ((with_reducible refine gate_callee (f := 17) rfl ?_); refine goesL_ (some 92) rfl rfl Try.func17 (by kernel_rfl) rfl #[.int .i64 t124, .int .i64 a1] rfl (by (try simp only [List.map_toArray, List.map_cons, List.map_nil]); first | done | rfl | (simp only [List.length_drop, List.length_take]; rfl)) ?_; (with_reducible refine (num_Div.calls t124 a1 t130 t131 _ A22.out).mono ?_); rintro e w' ⟨rfl, ⟨nd, rfl⟩⟩; refine ⟨_, rfl, ?_⟩))
                      go_ret
                      exact ⟨by first | rfl | (simp [errW_none, errW_some] <;> rfl) | (simp [*, errW_none, errW_some] <;> rfl), by repeat (first | (with_reducible first | exact HB.out | apply below_alloc | apply pw_below_drewN | apply below_drew1) | exact HB.out)⟩
                  · rw [if_neg c23] at H
                    have c23b0 : (t130 == a0) = false := beq_eq_false_iff_ne.mpr c23
                    have c23b1 : (t130 != a0) = true := bne_iff_ne.mpr c23
                    obtain rfl := Option.some.inj H
                    go_wp2_with (first | ((with_reducible refine gate_callee (f := 17) rfl ?_); refine goesL_ (some 92) rfl rfl Try.func17 (by kernel_rfl) rfl #[.int .i64 t124, .int .i64 a1] rfl (by (try simp only [List.map_toArray, List.map_cons, List.map_nil]); first | done | rfl | (simp only [List.length_drop, List.length_take]; rfl)) ?_; (with_reducible refine (num_Div.calls t124 a1 t130 t131 _ A22.out).mono ?_); rintro e w' ⟨rfl, ⟨nd, rfl⟩⟩; refine ⟨_, rfl, ?_⟩))
                    go_ret
                    exact ⟨by first | rfl | (simp [errW_none, errW_some] <;> rfl) | (simp [*, errW_none, errW_some] <;> rfl), by repeat (first | (with_reducible first | exact HB.out | apply below_alloc | apply pw_below_drewN | apply below_drew1) | exact HB.out)⟩
                · replace c21 := Bool.eq_false_iff.mpr c21
                  subst c21
                  have H1 : ((cotillionlaw1_known.f kj16).bind fun t133 => (some t133)) = some r := by rw [if_neg (show ¬ (false = true) by decide)] at H; exact H
                  clear H
                  have H := H1
                  clear H1
                  replace H := Option.bind_eq_some_iff.mp H
                  obtain ⟨t133, A270, H⟩ := H
                  replace H : (some t133) = some r := H
                  have A27 := Aside0.mk A270
                  clear A270
                  obtain rfl := Option.some.inj H
                  go_wp2_with (first | ((with_reducible refine gate_callee (f := 10) rfl ?_); refine goesL_ (some 102) rfl rfl Try.func10 (by kernel_rfl) rfl #[] rfl (by (try simp only [List.map_toArray, List.map_cons, List.map_nil]); first | done | rfl | (simp only [List.length_drop, List.length_take]; rfl)) ?_; (with_reducible refine (cotillionlaw1_known.calls kj16  t133 _ A27.out).mono ?_); rintro e w28 ⟨rfl, hb⟩; refine ⟨_, rfl, ?_⟩; have n0_ := Aside0.mk (below_step (by repeat (first | (with_reducible first | exact HB.out | apply below_alloc | apply pw_below_drewN | apply below_drew1) | exact HB.out)) hb); clear HB; have HB := n0_; clear n0_; (try clear hb); (try clear hb2); (try clear hk); (try clear hi)))
                  go_ret
                  exact ⟨by first | rfl | (simp [errW_none, errW_some] <;> rfl) | (simp [*, errW_none, errW_some] <;> rfl), by repeat (first | (with_reducible first | exact HB.out | apply below_alloc | apply pw_below_drewN | apply below_drew1) | exact HB.out)⟩

/-- THE ONE PURE STATEMENT of cotillionlaw1_NumTurned: yours. -/
def cotillionlaw1_NumTurned.Pure : Prop := ∀ (a0 : Int) (a1 : Int), (Lit.int .i64 a0).wf = true → (Lit.int .i64 a1).wf = true → ∃ k, cotillionlaw1_NumTurned.f k a0 a1 = some true
theorem cotillionlaw1_NumTurned.walk (P : cotillionlaw1_NumTurned.Pure) (a0 : Int) (a1 : Int) (w : World) (w0 : (Lit.int .i64 a0).wf = true) (w1 : (Lit.int .i64 a1).wf = true) :
    Calls Try.prog 7 #[.int .i64 a0, .int .i64 a1] w fun e w' => e = .returned (.bool true) ∧ Below w.heap.size w w' := by
  obtain ⟨k, h⟩ := P a0 a1 w0 w1
  refine (cotillionlaw1_NumTurned.calls k a0 a1 true w h).mono ?_
  rintro e w' ⟨rfl, hd⟩
  exact ⟨rfl, hd⟩

end Go.Proofs.Ytekcaodbcobfdaa.PNumTurned
