-- PRINTED BY print.sh 35421559b90ae4d0a3588c463048766b98c2df88dd9212a6774a882060cdf62d: not written by this session
import Derived.Test.YtekcaodbcobfdaaPNumTellsx0
import Derived.Test.YtekcaodbcobfdaaPNumTellsx1
import Derived.Test.YtekcaodbcobfdaaPNumTellsx2
namespace Go.Proofs.Ytekcaodbcobfdaa.PNumTells
open Go.RowKit Go.Proofs.YtekcaodbcobfdaaW.PrintWords Go.Proofs.YtekcaodbcobfdaaW.PrintLast Go.Proofs.YtekcaodbcobfdaaW.PrintMore
attribute [local go_sem] max2_int min2_int max_two min_two max_three min_three max_four min_four   -- for this text's walks alone
set_option linter.unusedVariables false
set_option linter.unusedSimpArgs false

/-! ### cotillionlaw1_NumTells: function 4 -/
def cotillionlaw1_NumTells.j0 : Nat → Int → Int → Bool → Option (Bool)
  | 0, _, _, _ => none
  | k + 1, x0, x1, x80 => if x80 = true then (some false) else ((num_Div.f x0 x1).bind fun bt134 => ((cotillionref1_Div.f x0 x1).bind fun bt136 => ((num_Mod.f x0 x1).bind fun bt138 => ((cotillionref1_Mod.f x0 x1).bind fun bt140 => ((num_Neg.f x0).bind fun bt142 => ((cotillionref1_Neg.f x0).bind fun bt144 => (if bt134.1 = bt136.1 then (if bt134.2 = bt136.2 then (if bt138.1 = bt140.1 then (if bt138.2 = bt140.2 then (if bt142.1 = bt144.1 then (if bt142.2 = bt144.2 then ((cotillionlaw1_known.f k).bind fun t146 => (some t146)) else (some false)) else (some false)) else (some false)) else (some false)) else (some false)) else (some false))))))))
def cotillionlaw1_NumTells.f (k : Nat) (a0 : Int) (a1 : Int) : Option (Bool) := (num_Add.f a0 a1).bind fun bt122 => ((cotillionref1_Add.f a0 a1).bind fun bt124 => ((num_Sub.f a0 a1).bind fun bt126 => ((cotillionref1_Sub.f a0 a1).bind fun bt128 => ((num_Mul.f k a0 a1).bind fun bt130 => ((cotillionref1_Mul.f k a0 a1).bind fun bt132 => (if bt122.1 = bt124.1 then (if bt122.2 = bt124.2 then (if bt126.1 = bt128.1 then (if bt126.2 = bt128.2 then (if bt130.1 = bt132.1 then (cotillionlaw1_NumTells.j0 k a0 a1 (bt130.2 != bt132.2)) else (cotillionlaw1_NumTells.j0 k a0 a1 true)) else (cotillionlaw1_NumTells.j0 k a0 a1 true)) else (cotillionlaw1_NumTells.j0 k a0 a1 true)) else (cotillionlaw1_NumTells.j0 k a0 a1 true)) else (cotillionlaw1_NumTells.j0 k a0 a1 true)))))))
theorem cotillionlaw1_NumTells.mono_l : ∀ k, (∀ y0 y1 y2, LeO (cotillionlaw1_NumTells.j0 k y0 y1 y2) (cotillionlaw1_NumTells.j0 (k + 1) y0 y1 y2))
  | 0 => fun _ _ _ r h => by simp [cotillionlaw1_NumTells.j0] at h
  | k + 1 => by
    have ih0 := cotillionlaw1_NumTells.mono_l k
    · intro y0 y1 y2
      unfold cotillionlaw1_NumTells.j0
      repeat' first
      | (with_reducible exact ih0 _ _ _)
      | (with_reducible exact cotillionlaw1_known.mono _)
      | (with_reducible exact cotillionref1_Mul.mono _ _ _)
      | (with_reducible exact num_Mul.mono _ _ _)
      | (with_reducible exact LeO.refl _)
      | (with_reducible exact LeO.none _)
      | (with_reducible refine LeO.ite ?_ ?_)
      | (with_reducible refine LeO.bind ?_ (fun _ => ?_))
      | exact ih0 _ _ _
      | exact cotillionlaw1_known.mono _
      | exact cotillionref1_Mul.mono _ _ _
      | exact num_Mul.mono _ _ _
      | exact LeO.none _
      | refine LeO.ite ?_ ?_
      | refine LeO.bind ?_ (fun _ => ?_)
theorem cotillionlaw1_NumTells.mono : ∀ a0 a1 k, LeO (cotillionlaw1_NumTells.f k a0 a1) (cotillionlaw1_NumTells.f (k + 1) a0 a1) := by
  intro a0 a1 k
  have ih0 := cotillionlaw1_NumTells.mono_l k
  unfold cotillionlaw1_NumTells.f
  repeat' first
      | (with_reducible exact ih0 _ _ _)
      | (with_reducible exact cotillionlaw1_known.mono _)
      | (with_reducible exact cotillionref1_Mul.mono _ _ _)
      | (with_reducible exact num_Mul.mono _ _ _)
      | (with_reducible exact LeO.refl _)
      | (with_reducible exact LeO.none _)
      | (with_reducible refine LeO.ite ?_ ?_)
      | (with_reducible refine LeO.bind ?_ (fun _ => ?_))
      | exact ih0 _ _ _
      | exact cotillionlaw1_known.mono _
      | exact cotillionref1_Mul.mono _ _ _
      | exact num_Mul.mono _ _ _
      | exact LeO.none _
      | refine LeO.ite ?_ ?_
      | refine LeO.bind ?_ (fun _ => ?_)
set_option maxHeartbeats 8000000 in
set_option maxRecDepth 100000 in
theorem cotillionlaw1_NumTells.calls (k : Nat) (a0 : Int) (a1 : Int) (r : Bool) (w : World) (h : cotillionlaw1_NumTells.f k a0 a1 = some r) :
    Calls Try.prog 4 #[.int .i64 a0, .int .i64 a1] w fun e w' => e = .returned (.bool r) ∧ Below w.heap.size w w' := by
  have HB := Aside0.mk (Below.refl w.heap.size w)
  have H : ((num_Add.f a0 a1).bind fun bt122 => ((cotillionref1_Add.f a0 a1).bind fun bt124 => ((num_Sub.f a0 a1).bind fun bt126 => ((cotillionref1_Sub.f a0 a1).bind fun bt128 => ((num_Mul.f k a0 a1).bind fun bt130 => ((cotillionref1_Mul.f k a0 a1).bind fun bt132 => (if bt122.1 = bt124.1 then (if bt122.2 = bt124.2 then (if bt126.1 = bt128.1 then (if bt126.2 = bt128.2 then (if bt130.1 = bt132.1 then (cotillionlaw1_NumTells.j0 k a0 a1 (bt130.2 != bt132.2)) else (cotillionlaw1_NumTells.j0 k a0 a1 true)) else (cotillionlaw1_NumTells.j0 k a0 a1 true)) else (cotillionlaw1_NumTells.j0 k a0 a1 true)) else (cotillionlaw1_NumTells.j0 k a0 a1 true)) else (cotillionlaw1_NumTells.j0 k a0 a1 true)))))))) = some r := h
  clear h
  replace H := Option.bind_eq_some_iff.mp H
  obtain ⟨⟨t122, t123⟩, A30, H⟩ := H
  replace H : ((cotillionref1_Add.f a0 a1).bind fun bt124 => ((num_Sub.f a0 a1).bind fun bt126 => ((cotillionref1_Sub.f a0 a1).bind fun bt128 => ((num_Mul.f k a0 a1).bind fun bt130 => ((cotillionref1_Mul.f k a0 a1).bind fun bt132 => (if t122 = bt124.1 then (if t123 = bt124.2 then (if bt126.1 = bt128.1 then (if bt126.2 = bt128.2 then (if bt130.1 = bt132.1 then (cotillionlaw1_NumTells.j0 k a0 a1 (bt130.2 != bt132.2)) else (cotillionlaw1_NumTells.j0 k a0 a1 true)) else (cotillionlaw1_NumTells.j0 k a0 a1 true)) else (cotillionlaw1_NumTells.j0 k a0 a1 true)) else (cotillionlaw1_NumTells.j0 k a0 a1 true)) else (cotillionlaw1_NumTells.j0 k a0 a1 true))))))) = some r := H
  have A3 := Aside0.mk A30
  clear A30
  replace H := Option.bind_eq_some_iff.mp H
  obtain ⟨⟨t124, t125⟩, A40, H⟩ := H
  replace H : ((num_Sub.f a0 a1).bind fun bt126 => ((cotillionref1_Sub.f a0 a1).bind fun bt128 => ((num_Mul.f k a0 a1).bind fun bt130 => ((cotillionref1_Mul.f k a0 a1).bind fun bt132 => (if t122 = t124 then (if t123 = t125 then (if bt126.1 = bt128.1 then (if bt126.2 = bt128.2 then (if bt130.1 = bt132.1 then (cotillionlaw1_NumTells.j0 k a0 a1 (bt130.2 != bt132.2)) else (cotillionlaw1_NumTells.j0 k a0 a1 true)) else (cotillionlaw1_NumTells.j0 k a0 a1 true)) else (cotillionlaw1_NumTells.j0 k a0 a1 true)) else (cotillionlaw1_NumTells.j0 k a0 a1 true)) else (cotillionlaw1_NumTells.j0 k a0 a1 true)))))) = some r := H
  have A4 := Aside0.mk A40
  clear A40
  replace H := Option.bind_eq_some_iff.mp H
  obtain ⟨⟨t126, t127⟩, A50, H⟩ := H
  replace H : ((cotillionref1_Sub.f a0 a1).bind fun bt128 => ((num_Mul.f k a0 a1).bind fun bt130 => ((cotillionref1_Mul.f k a0 a1).bind fun bt132 => (if t122 = t124 then (if t123 = t125 then (if t126 = bt128.1 then (if t127 = bt128.2 then (if bt130.1 = bt132.1 then (cotillionlaw1_NumTells.j0 k a0 a1 (bt130.2 != bt132.2)) else (cotillionlaw1_NumTells.j0 k a0 a1 true)) else (cotillionlaw1_NumTells.j0 k a0 a1 true)) else (cotillionlaw1_NumTells.j0 k a0 a1 true)) else (cotillionlaw1_NumTells.j0 k a0 a1 true)) else (cotillionlaw1_NumTells.j0 k a0 a1 true))))) = some r := H
  have A5 := Aside0.mk A50
  clear A50
  replace H := Option.bind_eq_some_iff.mp H
  obtain ⟨⟨t128, t129⟩, A60, H⟩ := H
  replace H : ((num_Mul.f k a0 a1).bind fun bt130 => ((cotillionref1_Mul.f k a0 a1).bind fun bt132 => (if t122 = t124 then (if t123 = t125 then (if t126 = t128 then (if t127 = t129 then (if bt130.1 = bt132.1 then (cotillionlaw1_NumTells.j0 k a0 a1 (bt130.2 != bt132.2)) else (cotillionlaw1_NumTells.j0 k a0 a1 true)) else (cotillionlaw1_NumTells.j0 k a0 a1 true)) else (cotillionlaw1_NumTells.j0 k a0 a1 true)) else (cotillionlaw1_NumTells.j0 k a0 a1 true)) else (cotillionlaw1_NumTells.j0 k a0 a1 true)))) = some r := H
  have A6 := Aside0.mk A60
  clear A60
  replace H := Option.bind_eq_some_iff.mp H
  obtain ⟨⟨t130, t131⟩, A70, H⟩ := H
  replace H : ((cotillionref1_Mul.f k a0 a1).bind fun bt132 => (if t122 = t124 then (if t123 = t125 then (if t126 = t128 then (if t127 = t129 then (if t130 = bt132.1 then (cotillionlaw1_NumTells.j0 k a0 a1 (t131 != bt132.2)) else (cotillionlaw1_NumTells.j0 k a0 a1 true)) else (cotillionlaw1_NumTells.j0 k a0 a1 true)) else (cotillionlaw1_NumTells.j0 k a0 a1 true)) else (cotillionlaw1_NumTells.j0 k a0 a1 true)) else (cotillionlaw1_NumTells.j0 k a0 a1 true))) = some r := H
  have A7 := Aside0.mk A70
  clear A70
  replace H := Option.bind_eq_some_iff.mp H
  obtain ⟨⟨t132, t133⟩, A80, H⟩ := H
  replace H : (if t122 = t124 then (if t123 = t125 then (if t126 = t128 then (if t127 = t129 then (if t130 = t132 then (cotillionlaw1_NumTells.j0 k a0 a1 (t131 != t133)) else (cotillionlaw1_NumTells.j0 k a0 a1 true)) else (cotillionlaw1_NumTells.j0 k a0 a1 true)) else (cotillionlaw1_NumTells.j0 k a0 a1 true)) else (cotillionlaw1_NumTells.j0 k a0 a1 true)) else (cotillionlaw1_NumTells.j0 k a0 a1 true)) = some r := H
  have A8 := Aside0.mk A80
  clear A80
  have HC9 := Aside0.mk H
  clear H
  go_enter Try.func4, Try.ntmps4
  go_upto_region 7 with (first | ((with_reducible refine gate_callee (f := 11) rfl ?_); refine goesL_ (some 20) rfl rfl Try.func11 (by kernel_rfl) rfl #[.int .i64 a0, .int .i64 a1] rfl (by (try simp only [List.map_toArray, List.map_cons, List.map_nil]); first | done | rfl | (simp only [List.length_drop, List.length_take]; rfl)) ?_; (with_reducible refine (num_Add.calls a0 a1 t122 t123 _ A3.out).mono ?_); rintro e w' ⟨rfl, ⟨nd, rfl⟩⟩; refine ⟨_, rfl, ?_⟩) | ((with_reducible refine gate_callee (f := 12) rfl ?_); refine goesL_ (some 26) rfl rfl Try.func12 (by kernel_rfl) rfl #[.int .i64 a0, .int .i64 a1] rfl (by (try simp only [List.map_toArray, List.map_cons, List.map_nil]); first | done | rfl | (simp only [List.length_drop, List.length_take]; rfl)) ?_; (with_reducible refine (cotillionref1_Add.calls a0 a1 t124 t125 _ A4.out).mono ?_); rintro e w' ⟨rfl, ⟨nd, rfl⟩⟩; refine ⟨_, rfl, ?_⟩) | ((with_reducible refine gate_callee (f := 13) rfl ?_); refine goesL_ (some 32) rfl rfl Try.func13 (by kernel_rfl) rfl #[.int .i64 a0, .int .i64 a1] rfl (by (try simp only [List.map_toArray, List.map_cons, List.map_nil]); first | done | rfl | (simp only [List.length_drop, List.length_take]; rfl)) ?_; (with_reducible refine (num_Sub.calls a0 a1 t126 t127 _ A5.out).mono ?_); rintro e w' ⟨rfl, ⟨nd, rfl⟩⟩; refine ⟨_, rfl, ?_⟩) | ((with_reducible refine gate_callee (f := 14) rfl ?_); refine goesL_ (some 38) rfl rfl Try.func14 (by kernel_rfl) rfl #[.int .i64 a0, .int .i64 a1] rfl (by (try simp only [List.map_toArray, List.map_cons, List.map_nil]); first | done | rfl | (simp only [List.length_drop, List.length_take]; rfl)) ?_; (with_reducible refine (cotillionref1_Sub.calls a0 a1 t128 t129 _ A6.out).mono ?_); rintro e w' ⟨rfl, ⟨nd, rfl⟩⟩; refine ⟨_, rfl, ?_⟩) | ((with_reducible refine gate_callee (f := 15) rfl ?_); refine goesL_ (some 44) rfl rfl Try.func15 (by kernel_rfl) rfl #[.int .i64 a0, .int .i64 a1] rfl (by (try simp only [List.map_toArray, List.map_cons, List.map_nil]); first | done | rfl | (simp only [List.length_drop, List.length_take]; rfl)) ?_; (with_reducible refine (num_Mul.calls k a0 a1 t130 t131 _ A7.out).mono ?_); rintro e w' ⟨rfl, ⟨nd, rfl⟩⟩; refine ⟨_, rfl, ?_⟩) | ((with_reducible refine gate_callee (f := 16) rfl ?_); refine goesL_ (some 50) rfl rfl Try.func16 (by kernel_rfl) rfl #[.int .i64 a0, .int .i64 a1] rfl (by (try simp only [List.map_toArray, List.map_cons, List.map_nil]); first | done | rfl | (simp only [List.length_drop, List.length_take]; rfl)) ?_; (with_reducible refine (cotillionref1_Mul.calls k a0 a1 t132 t133 _ A8.out).mono ?_); rintro e w' ⟨rfl, ⟨nd, rfl⟩⟩; refine ⟨_, rfl, ?_⟩))
  (try simp only [Act.put, List.setIfInBounds_toArray, List.set_cons_zero, List.set_cons_succ])
  go_cut [80] (fun v80 wc => ∃ (kq : Nat) (x80_8 : Bool), v80 = .bool x80_8 ∧ Aside0 (cotillionlaw1_NumTells.j0 kq a0 a1 x80_8 = some r) ∧ Aside0 (kq ≤ k) ∧ Aside0 (Below w.heap.size w wc))
  case first =>
    have H := HC9.out
    clear HC9
    by_cases c10 : t122 = t124
    · rw [if_pos c10] at H
      have c10b0 : (t122 == t124) = true := beq_iff_eq.mpr c10
      have c10b1 : (t122 != t124) = false := bne_eq_false_iff_eq.mpr c10
      clear c10
      (first | rw [c10b0] | (simp only [i64_w, i32_w]; rw [c10b0]) | skip)
      by_cases c11 : t123 = t125
      · rw [if_pos c11] at H
        have c11b0 : (t123 == t125) = true := beq_iff_eq.mpr c11
        have c11b1 : (t123 != t125) = false := bne_eq_false_iff_eq.mpr c11
        clear c11
        by_cases c12 : t126 = t128
        · rw [if_pos c12] at H
          have c12b0 : (t126 == t128) = true := beq_iff_eq.mpr c12
          have c12b1 : (t126 != t128) = false := bne_eq_false_iff_eq.mpr c12
          clear c12
          by_cases c13 : t127 = t129
          · rw [if_pos c13] at H
            have c13b0 : (t127 == t129) = true := beq_iff_eq.mpr c13
            have c13b1 : (t127 != t129) = false := bne_eq_false_iff_eq.mpr c13
            clear c13
            by_cases c14 : t130 = t132
            · rw [if_pos c14] at H
              have c14b0 : (t130 == t132) = true := beq_iff_eq.mpr c14
              have c14b1 : (t130 != t132) = false := bne_eq_false_iff_eq.mpr c14
              clear c14
              have H' := Aside0.mk H
              clear H
              go_wp2
              go_meet
              case rel => exact ⟨_, ((t131 != t133)), (by first | rfl | (simp; done) | (simp [*]; done)), H', ⟨by first | omega | exact Nat.le_refl _⟩, ⟨by repeat (first | (with_reducible first | exact HB.out | apply below_alloc | apply pw_below_drewN | apply below_drew1) | exact HB.out)⟩⟩
            · rw [if_neg c14] at H
              have c14b0 : (t130 == t132) = false := beq_eq_false_iff_ne.mpr c14
              have c14b1 : (t130 != t132) = true := bne_iff_ne.mpr c14
              have H' := Aside0.mk H
              clear H
              go_wp2
              go_meet
              case rel => exact ⟨_, (true), (by first | rfl | (simp; done) | (simp [*]; done)), H', ⟨by first | omega | exact Nat.le_refl _⟩, ⟨by repeat (first | (with_reducible first | exact HB.out | apply below_alloc | apply pw_below_drewN | apply below_drew1) | exact HB.out)⟩⟩
          · rw [if_neg c13] at H
            have c13b0 : (t127 == t129) = false := beq_eq_false_iff_ne.mpr c13
            have c13b1 : (t127 != t129) = true := bne_iff_ne.mpr c13
            have H' := Aside0.mk H
            clear H
            go_wp2
            go_meet
            case rel => exact ⟨_, (true), (by first | rfl | (simp; done) | (simp [*]; done)), H', ⟨by first | omega | exact Nat.le_refl _⟩, ⟨by repeat (first | (with_reducible first | exact HB.out | apply below_alloc | apply pw_below_drewN | apply below_drew1) | exact HB.out)⟩⟩
        · rw [if_neg c12] at H
          have c12b0 : (t126 == t128) = false := beq_eq_false_iff_ne.mpr c12
          have c12b1 : (t126 != t128) = true := bne_iff_ne.mpr c12
          have H' := Aside0.mk H
          clear H
          go_wp2
          go_meet
          case rel => exact ⟨_, (true), (by first | rfl | (simp; done) | (simp [*]; done)), H', ⟨by first | omega | exact Nat.le_refl _⟩, ⟨by repeat (first | (with_reducible first | exact HB.out | apply below_alloc | apply pw_below_drewN | apply below_drew1) | exact HB.out)⟩⟩
      · rw [if_neg c11] at H
        have c11b0 : (t123 == t125) = false := beq_eq_false_iff_ne.mpr c11
        have c11b1 : (t123 != t125) = true := bne_iff_ne.mpr c11
        have H' := Aside0.mk H
        clear H
        go_wp2
        go_meet
        case rel => exact ⟨_, (true), (by first | rfl | (simp; done) | (simp [*]; done)), H', ⟨by first | omega | exact Nat.le_refl _⟩, ⟨by repeat (first | (with_reducible first | exact HB.out | apply below_alloc | apply pw_below_drewN | apply below_drew1) | exact HB.out)⟩⟩
    · rw [if_neg c10] at H
      have c10b0 : (t122 == t124) = false := beq_eq_false_iff_ne.mpr c10
      have c10b1 : (t122 != t124) = true := bne_iff_ne.mpr c10
      (first | rw [c10b0] | (simp only [i64_w, i32_w]; rw [c10b0]) | skip)
      have H' := Aside0.mk H
      clear H
      go_wp2
      go_meet
      case rel => exact ⟨_, (true), (by first | rfl | (simp; done) | (simp [*]; done)), H', ⟨by first | omega | exact Nat.le_refl _⟩, ⟨by repeat (first | (with_reducible first | exact HB.out | apply below_alloc | apply pw_below_drewN | apply below_drew1) | exact HB.out)⟩⟩
  case rest =>
    clear HC9
    try clear c1
    try clear p2
    try clear c4
    try clear c10
    try clear c10b0
    try clear c10b1
    try clear c11
    try clear c11b0
    try clear c11b1
    try clear c12
    try clear c12b0
    try clear c12b1
    try clear c13
    try clear c13b0
    try clear c13b1
    try clear c14
    try clear c14b0
    try clear c14b1
    obtain ⟨kq, x80_8, rfl, HA, HJ8, HB⟩ := hcut
    cases kq with
    | zero => exact absurd HA.out (by simp [cotillionlaw1_NumTells.j0])
    | succ kj8 =>
      have H := HA.out
      clear HA
      simp only [cotillionlaw1_NumTells.j0] at H
      by_cases c15 : x80_8 = true
      · subst c15
        have H1 : (some false) = some r := by rw [if_pos rfl] at H; exact H
        clear H
        have H := H1
        clear H1
        obtain rfl := Option.some.inj H
        go_wp2
        go_ret
        exact ⟨by first | rfl | (simp [errW_none, errW_some] <;> rfl) | (simp [*, errW_none, errW_some] <;> rfl), by repeat (first | (with_reducible first | exact HB.out | apply below_alloc | apply pw_below_drewN | apply below_drew1) | exact HB.out)⟩
      · replace c15 := Bool.eq_false_iff.mpr c15
        subst c15
        have H1 : ((num_Div.f a0 a1).bind fun bt134 => ((cotillionref1_Div.f a0 a1).bind fun bt136 => ((num_Mod.f a0 a1).bind fun bt138 => ((cotillionref1_Mod.f a0 a1).bind fun bt140 => ((num_Neg.f a0).bind fun bt142 => ((cotillionref1_Neg.f a0).bind fun bt144 => (if bt134.1 = bt136.1 then (if bt134.2 = bt136.2 then (if bt138.1 = bt140.1 then (if bt138.2 = bt140.2 then (if bt142.1 = bt144.1 then (if bt142.2 = bt144.2 then ((cotillionlaw1_known.f kj8).bind fun t146 => (some t146)) else (some false)) else (some false)) else (some false)) else (some false)) else (some false)) else (some false)))))))) = some r := by rw [if_neg (show ¬ (false = true) by decide)] at H; exact H
        clear H
        have H := H1
        clear H1
        replace H := Option.bind_eq_some_iff.mp H
        obtain ⟨⟨t134, t135⟩, A160, H⟩ := H
        replace H : ((cotillionref1_Div.f a0 a1).bind fun bt136 => ((num_Mod.f a0 a1).bind fun bt138 => ((cotillionref1_Mod.f a0 a1).bind fun bt140 => ((num_Neg.f a0).bind fun bt142 => ((cotillionref1_Neg.f a0).bind fun bt144 => (if t134 = bt136.1 then (if t135 = bt136.2 then (if bt138.1 = bt140.1 then (if bt138.2 = bt140.2 then (if bt142.1 = bt144.1 then (if bt142.2 = bt144.2 then ((cotillionlaw1_known.f kj8).bind fun t146 => (some t146)) else (some false)) else (some false)) else (some false)) else (some false)) else (some false)) else (some false))))))) = some r := H
        have A16 := Aside0.mk A160
        clear A160
        replace H := Option.bind_eq_some_iff.mp H
        obtain ⟨⟨t136, t137⟩, A170, H⟩ := H
        replace H : ((num_Mod.f a0 a1).bind fun bt138 => ((cotillionref1_Mod.f a0 a1).bind fun bt140 => ((num_Neg.f a0).bind fun bt142 => ((cotillionref1_Neg.f a0).bind fun bt144 => (if t134 = t136 then (if t135 = t137 then (if bt138.1 = bt140.1 then (if bt138.2 = bt140.2 then (if bt142.1 = bt144.1 then (if bt142.2 = bt144.2 then ((cotillionlaw1_known.f kj8).bind fun t146 => (some t146)) else (some false)) else (some false)) else (some false)) else (some false)) else (some false)) else (some false)))))) = some r := H
        have A17 := Aside0.mk A170
        clear A170
        replace H := Option.bind_eq_some_iff.mp H
        obtain ⟨⟨t138, t139⟩, A180, H⟩ := H
        replace H : ((cotillionref1_Mod.f a0 a1).bind fun bt140 => ((num_Neg.f a0).bind fun bt142 => ((cotillionref1_Neg.f a0).bind fun bt144 => (if t134 = t136 then (if t135 = t137 then (if t138 = bt140.1 then (if t139 = bt140.2 then (if bt142.1 = bt144.1 then (if bt142.2 = bt144.2 then ((cotillionlaw1_known.f kj8).bind fun t146 => (some t146)) else (some false)) else (some false)) else (some false)) else (some false)) else (some false)) else (some false))))) = some r := H
        have A18 := Aside0.mk A180
        clear A180
        replace H := Option.bind_eq_some_iff.mp H
        obtain ⟨⟨t140, t141⟩, A190, H⟩ := H
        replace H : ((num_Neg.f a0).bind fun bt142 => ((cotillionref1_Neg.f a0).bind fun bt144 => (if t134 = t136 then (if t135 = t137 then (if t138 = t140 then (if t139 = t141 then (if bt142.1 = bt144.1 then (if bt142.2 = bt144.2 then ((cotillionlaw1_known.f kj8).bind fun t146 => (some t146)) else (some false)) else (some false)) else (some false)) else (some false)) else (some false)) else (some false)))) = some r := H
        have A19 := Aside0.mk A190
        clear A190
        replace H := Option.bind_eq_some_iff.mp H
        obtain ⟨⟨t142, t143⟩, A200, H⟩ := H
        replace H : ((cotillionref1_Neg.f a0).bind fun bt144 => (if t134 = t136 then (if t135 = t137 then (if t138 = t140 then (if t139 = t141 then (if t142 = bt144.1 then (if t143 = bt144.2 then ((cotillionlaw1_known.f kj8).bind fun t146 => (some t146)) else (some false)) else (some false)) else (some false)) else (some false)) else (some false)) else (some false))) = some r := H
        have A20 := Aside0.mk A200
        clear A200
        replace H := Option.bind_eq_some_iff.mp H
        obtain ⟨⟨t144, t145⟩, A210, H⟩ := H
        replace H : (if t134 = t136 then (if t135 = t137 then (if t138 = t140 then (if t139 = t141 then (if t142 = t144 then (if t143 = t145 then ((cotillionlaw1_known.f kj8).bind fun t146 => (some t146)) else (some false)) else (some false)) else (some false)) else (some false)) else (some false)) else (some false)) = some r := H
        have A21 := Aside0.mk A210
        clear A210
        by_cases c22 : t134 = t136
        · rw [if_pos c22] at H
          have c22b0 : (t134 == t136) = true := beq_iff_eq.mpr c22
          have c22b1 : (t134 != t136) = false := bne_eq_false_iff_eq.mpr c22
          clear c22
          by_cases c23 : t135 = t137
          · rw [if_pos c23] at H
            have c23b0 : (t135 == t137) = true := beq_iff_eq.mpr c23
            have c23b1 : (t135 != t137) = false := bne_eq_false_iff_eq.mpr c23
            clear c23
            by_cases c24 : t138 = t140
            · rw [if_pos c24] at H
              have c24b0 : (t138 == t140) = true := beq_iff_eq.mpr c24
              have c24b1 : (t138 != t140) = false := bne_eq_false_iff_eq.mpr c24
              clear c24
              by_cases c25 : t139 = t141
              · rw [if_pos c25] at H
                have c25b0 : (t139 == t141) = true := beq_iff_eq.mpr c25
                have c25b1 : (t139 != t141) = false := bne_eq_false_iff_eq.mpr c25
                clear c25
                by_cases c26 : t142 = t144
                · rw [if_pos c26] at H
                  have c26b0 : (t142 == t144) = true := beq_iff_eq.mpr c26
                  have c26b1 : (t142 != t144) = false := bne_eq_false_iff_eq.mpr c26
                  clear c26
                  by_cases c27 : t143 = t145
                  · rw [if_pos c27] at H
                    have c27b0 : (t143 == t145) = true := beq_iff_eq.mpr c27
                    have c27b1 : (t143 != t145) = false := bne_eq_false_iff_eq.mpr c27
                    clear c27
                    replace H := Option.bind_eq_some_iff.mp H
                    obtain ⟨t146, A280, H⟩ := H
                    replace H : (some t146) = some r := H
                    have A28 := Aside0.mk A280
                    clear A280
                    obtain rfl := Option.some.inj H
                    go_wp2_with (first | ((with_reducible refine gate_callee (f := 17) rfl ?_); refine goesL_ (some 84) rfl rfl Try.func17 (by kernel_rfl) rfl #[.int .i64 a0, .int .i64 a1] rfl (by (try simp only [List.map_toArray, List.map_cons, List.map_nil]); first | done | rfl | (simp only [List.length_drop, List.length_take]; rfl)) ?_; (with_reducible refine (num_Div.calls a0 a1 t134 t135 _ A16.out).mono ?_); rintro e w' ⟨rfl, ⟨nd, rfl⟩⟩; refine ⟨_, rfl, ?_⟩) | ((with_reducible refine gate_callee (f := 18) rfl ?_); refine goesL_ (some 90) rfl rfl Try.func18 (by kernel_rfl) rfl #[.int .i64 a0, .int .i64 a1] rfl (by (try simp only [List.map_toArray, List.map_cons, List.map_nil]); first | done | rfl | (simp only [List.length_drop, List.length_take]; rfl)) ?_; (with_reducible refine (cotillionref1_Div.calls a0 a1 t136 t137 _ A17.out).mono ?_); rintro e w' ⟨rfl, ⟨nd, rfl⟩⟩; refine ⟨_, rfl, ?_⟩) | ((with_reducible refine gate_callee (f := 19) rfl ?_); refine goesL_ (some 96) rfl rfl Try.func19 (by kernel_rfl) rfl #[.int .i64 a0, .int .i64 a1] rfl (by (try simp only [List.map_toArray, List.map_cons, List.map_nil]); first | done | rfl | (simp only [List.length_drop, List.length_take]; rfl)) ?_; (with_reducible refine (num_Mod.calls a0 a1 t138 t139 _ A18.out).mono ?_); rintro e w' ⟨rfl, ⟨nd, rfl⟩⟩; refine ⟨_, rfl, ?_⟩) | ((with_reducible refine gate_callee (f := 20) rfl ?_); refine goesL_ (some 102) rfl rfl Try.func20 (by kernel_rfl) rfl #[.int .i64 a0, .int .i64 a1] rfl (by (try simp only [List.map_toArray, List.map_cons, List.map_nil]); first | done | rfl | (simp only [List.length_drop, List.length_take]; rfl)) ?_; (with_reducible refine (cotillionref1_Mod.calls a0 a1 t140 t141 _ A19.out).mono ?_); rintro e w' ⟨rfl, ⟨nd, rfl⟩⟩; refine ⟨_, rfl, ?_⟩) | ((with_reducible refine gate_callee (f := 21) rfl ?_); refine goesL_ (some 107) rfl rfl Try.func21 (by kernel_rfl) rfl #[.int .i64 a0] rfl (by (try simp only [List.map_toArray, List.map_cons, List.map_nil]); first | done | rfl | (simp only [List.length_drop, List.length_take]; rfl)) ?_; (with_reducible refine (num_Neg.calls a0 t142 t143 _ A20.out).mono ?_); rintro e w' ⟨rfl, ⟨nd, rfl⟩⟩; refine ⟨_, rfl, ?_⟩) | ((with_reducible refine gate_callee (f := 22) rfl ?_); refine goesL_ (some 112) rfl rfl Try.func22 (by kernel_rfl) rfl #[.int .i64 a0] rfl (by (try simp only [List.map_toArray, List.map_cons, List.map_nil]); first | done | rfl | (simp only [List.length_drop, List.length_take]; rfl)) ?_; (with_reducible refine (cotillionref1_Neg.calls a0 t144 t145 _ A21.out).mono ?_); rintro e w' ⟨rfl, ⟨nd, rfl⟩⟩; refine ⟨_, rfl, ?_⟩) | (go_at_call 10; (with_reducible refine (cotillionlaw1_known.calls kj8  t146 _ A28.out).mono ?_); rintro e w29 ⟨rfl, hb⟩; have n0_ := Aside0.mk (below_step (by repeat (first | (with_reducible first | exact HB.out | apply below_alloc | apply pw_below_drewN | apply below_drew1) | exact HB.out)) hb); clear HB; have HB := n0_; clear n0_; (try clear hb); (try clear hb2); (try clear hk); (try clear hi)))
                    go_ret
                    exact ⟨by first | rfl | (simp [errW_none, errW_some] <;> rfl) | (simp [*, errW_none, errW_some] <;> rfl), by repeat (first | (with_reducible first | exact HB.out | apply below_alloc | apply pw_below_drewN | apply below_drew1) | exact HB.out)⟩
                  · rw [if_neg c27] at H
                    have c27b0 : (t143 == t145) = false := beq_eq_false_iff_ne.mpr c27
                    have c27b1 : (t143 != t145) = true := bne_iff_ne.mpr c27
                    obtain rfl := Option.some.inj H
                    go_wp2_with (first | ((with_reducible refine gate_callee (f := 17) rfl ?_); refine goesL_ (some 84) rfl rfl Try.func17 (by kernel_rfl) rfl #[.int .i64 a0, .int .i64 a1] rfl (by (try simp only [List.map_toArray, List.map_cons, List.map_nil]); first | done | rfl | (simp only [List.length_drop, List.length_take]; rfl)) ?_; (with_reducible refine (num_Div.calls a0 a1 t134 t135 _ A16.out).mono ?_); rintro e w' ⟨rfl, ⟨nd, rfl⟩⟩; refine ⟨_, rfl, ?_⟩) | ((with_reducible refine gate_callee (f := 18) rfl ?_); refine goesL_ (some 90) rfl rfl Try.func18 (by kernel_rfl) rfl #[.int .i64 a0, .int .i64 a1] rfl (by (try simp only [List.map_toArray, List.map_cons, List.map_nil]); first | done | rfl | (simp only [List.length_drop, List.length_take]; rfl)) ?_; (with_reducible refine (cotillionref1_Div.calls a0 a1 t136 t137 _ A17.out).mono ?_); rintro e w' ⟨rfl, ⟨nd, rfl⟩⟩; refine ⟨_, rfl, ?_⟩) | ((with_reducible refine gate_callee (f := 19) rfl ?_); refine goesL_ (some 96) rfl rfl Try.func19 (by kernel_rfl) rfl #[.int .i64 a0, .int .i64 a1] rfl (by (try simp only [List.map_toArray, List.map_cons, List.map_nil]); first | done | rfl | (simp only [List.length_drop, List.length_take]; rfl)) ?_; (with_reducible refine (num_Mod.calls a0 a1 t138 t139 _ A18.out).mono ?_); rintro e w' ⟨rfl, ⟨nd, rfl⟩⟩; refine ⟨_, rfl, ?_⟩) | ((with_reducible refine gate_callee (f := 20) rfl ?_); refine goesL_ (some 102) rfl rfl Try.func20 (by kernel_rfl) rfl #[.int .i64 a0, .int .i64 a1] rfl (by (try simp only [List.map_toArray, List.map_cons, List.map_nil]); first | done | rfl | (simp only [List.length_drop, List.length_take]; rfl)) ?_; (with_reducible refine (cotillionref1_Mod.calls a0 a1 t140 t141 _ A19.out).mono ?_); rintro e w' ⟨rfl, ⟨nd, rfl⟩⟩; refine ⟨_, rfl, ?_⟩) | ((with_reducible refine gate_callee (f := 21) rfl ?_); refine goesL_ (some 107) rfl rfl Try.func21 (by kernel_rfl) rfl #[.int .i64 a0] rfl (by (try simp only [List.map_toArray, List.map_cons, List.map_nil]); first | done | rfl | (simp only [List.length_drop, List.length_take]; rfl)) ?_; (with_reducible refine (num_Neg.calls a0 t142 t143 _ A20.out).mono ?_); rintro e w' ⟨rfl, ⟨nd, rfl⟩⟩; refine ⟨_, rfl, ?_⟩) | ((with_reducible refine gate_callee (f := 22) rfl ?_); refine goesL_ (some 112) rfl rfl Try.func22 (by kernel_rfl) rfl #[.int .i64 a0] rfl (by (try simp only [List.map_toArray, List.map_cons, List.map_nil]); first | done | rfl | (simp only [List.length_drop, List.length_take]; rfl)) ?_; (with_reducible refine (cotillionref1_Neg.calls a0 t144 t145 _ A21.out).mono ?_); rintro e w' ⟨rfl, ⟨nd, rfl⟩⟩; refine ⟨_, rfl, ?_⟩))
                    go_ret
                    exact ⟨by first | rfl | (simp [errW_none, errW_some] <;> rfl) | (simp [*, errW_none, errW_some] <;> rfl), by repeat (first | (with_reducible first | exact HB.out | apply below_alloc | apply pw_below_drewN | apply below_drew1) | exact HB.out)⟩
                · rw [if_neg c26] at H
                  have c26b0 : (t142 == t144) = false := beq_eq_false_iff_ne.mpr c26
                  have c26b1 : (t142 != t144) = true := bne_iff_ne.mpr c26
                  obtain rfl := Option.some.inj H
                  go_wp2_with (first | ((with_reducible refine gate_callee (f := 17) rfl ?_); refine goesL_ (some 84) rfl rfl Try.func17 (by kernel_rfl) rfl #[.int .i64 a0, .int .i64 a1] rfl (by (try simp only [List.map_toArray, List.map_cons, List.map_nil]); first | done | rfl | (simp only [List.length_drop, List.length_take]; rfl)) ?_; (with_reducible refine (num_Div.calls a0 a1 t134 t135 _ A16.out).mono ?_); rintro e w' ⟨rfl, ⟨nd, rfl⟩⟩; refine ⟨_, rfl, ?_⟩) | ((with_reducible refine gate_callee (f := 18) rfl ?_); refine goesL_ (some 90) rfl rfl Try.func18 (by kernel_rfl) rfl #[.int .i64 a0, .int .i64 a1] rfl (by (try simp only [List.map_toArray, List.map_cons, List.map_nil]); first | done | rfl | (simp only [List.length_drop, List.length_take]; rfl)) ?_; (with_reducible refine (cotillionref1_Div.calls a0 a1 t136 t137 _ A17.out).mono ?_); rintro e w' ⟨rfl, ⟨nd, rfl⟩⟩; refine ⟨_, rfl, ?_⟩) | ((with_reducible refine gate_callee (f := 19) rfl ?_); refine goesL_ (some 96) rfl rfl Try.func19 (by kernel_rfl) rfl #[.int .i64 a0, .int .i64 a1] rfl (by (try simp only [List.map_toArray, List.map_cons, List.map_nil]); first | done | rfl | (simp only [List.length_drop, List.length_take]; rfl)) ?_; (with_reducible refine (num_Mod.calls a0 a1 t138 t139 _ A18.out).mono ?_); rintro e w' ⟨rfl, ⟨nd, rfl⟩⟩; refine ⟨_, rfl, ?_⟩) | ((with_reducible refine gate_callee (f := 20) rfl ?_); refine goesL_ (some 102) rfl rfl Try.func20 (by kernel_rfl) rfl #[.int .i64 a0, .int .i64 a1] rfl (by (try simp only [List.map_toArray, List.map_cons, List.map_nil]); first | done | rfl | (simp only [List.length_drop, List.length_take]; rfl)) ?_; (with_reducible refine (cotillionref1_Mod.calls a0 a1 t140 t141 _ A19.out).mono ?_); rintro e w' ⟨rfl, ⟨nd, rfl⟩⟩; refine ⟨_, rfl, ?_⟩) | ((with_reducible refine gate_callee (f := 21) rfl ?_); refine goesL_ (some 107) rfl rfl Try.func21 (by kernel_rfl) rfl #[.int .i64 a0] rfl (by (try simp only [List.map_toArray, List.map_cons, List.map_nil]); first | done | rfl | (simp only [List.length_drop, List.length_take]; rfl)) ?_; (with_reducible refine (num_Neg.calls a0 t142 t143 _ A20.out).mono ?_); rintro e w' ⟨rfl, ⟨nd, rfl⟩⟩; refine ⟨_, rfl, ?_⟩) | ((with_reducible refine gate_callee (f := 22) rfl ?_); refine goesL_ (some 112) rfl rfl Try.func22 (by kernel_rfl) rfl #[.int .i64 a0] rfl (by (try simp only [List.map_toArray, List.map_cons, List.map_nil]); first | done | rfl | (simp only [List.length_drop, List.length_take]; rfl)) ?_; (with_reducible refine (cotillionref1_Neg.calls a0 t144 t145 _ A21.out).mono ?_); rintro e w' ⟨rfl, ⟨nd, rfl⟩⟩; refine ⟨_, rfl, ?_⟩))
                  go_ret
                  exact ⟨by first | rfl | (simp [errW_none, errW_some] <;> rfl) | (simp [*, errW_none, errW_some] <;> rfl), by repeat (first | (with_reducible first | exact HB.out | apply below_alloc | apply pw_below_drewN | apply below_drew1) | exact HB.out)⟩
              · rw [if_neg c25] at H
                have c25b0 : (t139 == t141) = false := beq_eq_false_iff_ne.mpr c25
                have c25b1 : (t139 != t141) = true := bne_iff_ne.mpr c25
                obtain rfl := Option.some.inj H
                go_wp2_with (first | ((with_reducible refine gate_callee (f := 17) rfl ?_); refine goesL_ (some 84) rfl rfl Try.func17 (by kernel_rfl) rfl #[.int .i64 a0, .int .i64 a1] rfl (by (try simp only [List.map_toArray, List.map_cons, List.map_nil]); first | done | rfl | (simp only [List.length_drop, List.length_take]; rfl)) ?_; (with_reducible refine (num_Div.calls a0 a1 t134 t135 _ A16.out).mono ?_); rintro e w' ⟨rfl, ⟨nd, rfl⟩⟩; refine ⟨_, rfl, ?_⟩) | ((with_reducible refine gate_callee (f := 18) rfl ?_); refine goesL_ (some 90) rfl rfl Try.func18 (by kernel_rfl) rfl #[.int .i64 a0, .int .i64 a1] rfl (by (try simp only [List.map_toArray, List.map_cons, List.map_nil]); first | done | rfl | (simp only [List.length_drop, List.length_take]; rfl)) ?_; (with_reducible refine (cotillionref1_Div.calls a0 a1 t136 t137 _ A17.out).mono ?_); rintro e w' ⟨rfl, ⟨nd, rfl⟩⟩; refine ⟨_, rfl, ?_⟩) | ((with_reducible refine gate_callee (f := 19) rfl ?_); refine goesL_ (some 96) rfl rfl Try.func19 (by kernel_rfl) rfl #[.int .i64 a0, .int .i64 a1] rfl (by (try simp only [List.map_toArray, List.map_cons, List.map_nil]); first | done | rfl | (simp only [List.length_drop, List.length_take]; rfl)) ?_; (with_reducible refine (num_Mod.calls a0 a1 t138 t139 _ A18.out).mono ?_); rintro e w' ⟨rfl, ⟨nd, rfl⟩⟩; refine ⟨_, rfl, ?_⟩) | ((with_reducible refine gate_callee (f := 20) rfl ?_); refine goesL_ (some 102) rfl rfl Try.func20 (by kernel_rfl) rfl #[.int .i64 a0, .int .i64 a1] rfl (by (try simp only [List.map_toArray, List.map_cons, List.map_nil]); first | done | rfl | (simp only [List.length_drop, List.length_take]; rfl)) ?_; (with_reducible refine (cotillionref1_Mod.calls a0 a1 t140 t141 _ A19.out).mono ?_); rintro e w' ⟨rfl, ⟨nd, rfl⟩⟩; refine ⟨_, rfl, ?_⟩) | ((with_reducible refine gate_callee (f := 21) rfl ?_); refine goesL_ (some 107) rfl rfl Try.func21 (by kernel_rfl) rfl #[.int .i64 a0] rfl (by (try simp only [List.map_toArray, List.map_cons, List.map_nil]); first | done | rfl | (simp only [List.length_drop, List.length_take]; rfl)) ?_; (with_reducible refine (num_Neg.calls a0 t142 t143 _ A20.out).mono ?_); rintro e w' ⟨rfl, ⟨nd, rfl⟩⟩; refine ⟨_, rfl, ?_⟩) | ((with_reducible refine gate_callee (f := 22) rfl ?_); refine goesL_ (some 112) rfl rfl Try.func22 (by kernel_rfl) rfl #[.int .i64 a0] rfl (by (try simp only [List.map_toArray, List.map_cons, List.map_nil]); first | done | rfl | (simp only [List.length_drop, List.length_take]; rfl)) ?_; (with_reducible refine (cotillionref1_Neg.calls a0 t144 t145 _ A21.out).mono ?_); rintro e w' ⟨rfl, ⟨nd, rfl⟩⟩; refine ⟨_, rfl, ?_⟩))
                go_ret
                exact ⟨by first | rfl | (simp [errW_none, errW_some] <;> rfl) | (simp [*, errW_none, errW_some] <;> rfl), by repeat (first | (with_reducible first | exact HB.out | apply below_alloc | apply pw_below_drewN | apply below_drew1) | exact HB.out)⟩
            · rw [if_neg c24] at H
              have c24b0 : (t138 == t140) = false := beq_eq_false_iff_ne.mpr c24
              have c24b1 : (t138 != t140) = true := bne_iff_ne.mpr c24
              obtain rfl := Option.some.inj H
              go_wp2_with (first | ((with_reducible refine gate_callee (f := 17) rfl ?_); refine goesL_ (some 84) rfl rfl Try.func17 (by kernel_rfl) rfl #[.int .i64 a0, .int .i64 a1] rfl (by (try simp only [List.map_toArray, List.map_cons, List.map_nil]); first | done | rfl | (simp only [List.length_drop, List.length_take]; rfl)) ?_; (with_reducible refine (num_Div.calls a0 a1 t134 t135 _ A16.out).mono ?_); rintro e w' ⟨rfl, ⟨nd, rfl⟩⟩; refine ⟨_, rfl, ?_⟩) | ((with_reducible refine gate_callee (f := 18) rfl ?_); refine goesL_ (some 90) rfl rfl Try.func18 (by kernel_rfl) rfl #[.int .i64 a0, .int .i64 a1] rfl (by (try simp only [List.map_toArray, List.map_cons, List.map_nil]); first | done | rfl | (simp only [List.length_drop, List.length_take]; rfl)) ?_; (with_reducible refine (cotillionref1_Div.calls a0 a1 t136 t137 _ A17.out).mono ?_); rintro e w' ⟨rfl, ⟨nd, rfl⟩⟩; refine ⟨_, rfl, ?_⟩) | ((with_reducible refine gate_callee (f := 19) rfl ?_); refine goesL_ (some 96) rfl rfl Try.func19 (by kernel_rfl) rfl #[.int .i64 a0, .int .i64 a1] rfl (by (try simp only [List.map_toArray, List.map_cons, List.map_nil]); first | done | rfl | (simp only [List.length_drop, List.length_take]; rfl)) ?_; (with_reducible refine (num_Mod.calls a0 a1 t138 t139 _ A18.out).mono ?_); rintro e w' ⟨rfl, ⟨nd, rfl⟩⟩; refine ⟨_, rfl, ?_⟩) | ((with_reducible refine gate_callee (f := 20) rfl ?_); refine goesL_ (some 102) rfl rfl Try.func20 (by kernel_rfl) rfl #[.int .i64 a0, .int .i64 a1] rfl (by (try simp only [List.map_toArray, List.map_cons, List.map_nil]); first | done | rfl | (simp only [List.length_drop, List.length_take]; rfl)) ?_; (with_reducible refine (cotillionref1_Mod.calls a0 a1 t140 t141 _ A19.out).mono ?_); rintro e w' ⟨rfl, ⟨nd, rfl⟩⟩; refine ⟨_, rfl, ?_⟩) | ((with_reducible refine gate_callee (f := 21) rfl ?_); refine goesL_ (some 107) rfl rfl Try.func21 (by kernel_rfl) rfl #[.int .i64 a0] rfl (by (try simp only [List.map_toArray, List.map_cons, List.map_nil]); first | done | rfl | (simp only [List.length_drop, List.length_take]; rfl)) ?_; (with_reducible refine (num_Neg.calls a0 t142 t143 _ A20.out).mono ?_); rintro e w' ⟨rfl, ⟨nd, rfl⟩⟩; refine ⟨_, rfl, ?_⟩) | ((with_reducible refine gate_callee (f := 22) rfl ?_); refine goesL_ (some 112) rfl rfl Try.func22 (by kernel_rfl) rfl #[.int .i64 a0] rfl (by (try simp only [List.map_toArray, List.map_cons, List.map_nil]); first | done | rfl | (simp only [List.length_drop, List.length_take]; rfl)) ?_; (with_reducible refine (cotillionref1_Neg.calls a0 t144 t145 _ A21.out).mono ?_); rintro e w' ⟨rfl, ⟨nd, rfl⟩⟩; refine ⟨_, rfl, ?_⟩))
              go_ret
              exact ⟨by first | rfl | (simp [errW_none, errW_some] <;> rfl) | (simp [*, errW_none, errW_some] <;> rfl), by repeat (first | (with_reducible first | exact HB.out | apply below_alloc | apply pw_below_drewN | apply below_drew1) | exact HB.out)⟩
          · rw [if_neg c23] at H
            have c23b0 : (t135 == t137) = false := beq_eq_false_iff_ne.mpr c23
            have c23b1 : (t135 != t137) = true := bne_iff_ne.mpr c23
            obtain rfl := Option.some.inj H
            go_wp2_with (first | ((with_reducible refine gate_callee (f := 17) rfl ?_); refine goesL_ (some 84) rfl rfl Try.func17 (by kernel_rfl) rfl #[.int .i64 a0, .int .i64 a1] rfl (by (try simp only [List.map_toArray, List.map_cons, List.map_nil]); first | done | rfl | (simp only [List.length_drop, List.length_take]; rfl)) ?_; (with_reducible refine (num_Div.calls a0 a1 t134 t135 _ A16.out).mono ?_); rintro e w' ⟨rfl, ⟨nd, rfl⟩⟩; refine ⟨_, rfl, ?_⟩) | ((with_reducible refine gate_callee (f := 18) rfl ?_); refine goesL_ (some 90) rfl rfl Try.func18 (by kernel_rfl) rfl #[.int .i64 a0, .int .i64 a1] rfl (by (try simp only [List.map_toArray, List.map_cons, List.map_nil]); first | done | rfl | (simp only [List.length_drop, List.length_take]; rfl)) ?_; (with_reducible refine (cotillionref1_Div.calls a0 a1 t136 t137 _ A17.out).mono ?_); rintro e w' ⟨rfl, ⟨nd, rfl⟩⟩; refine ⟨_, rfl, ?_⟩) | ((with_reducible refine gate_callee (f := 19) rfl ?_); refine goesL_ (some 96) rfl rfl Try.func19 (by kernel_rfl) rfl #[.int .i64 a0, .int .i64 a1] rfl (by (try simp only [List.map_toArray, List.map_cons, List.map_nil]); first | done | rfl | (simp only [List.length_drop, List.length_take]; rfl)) ?_; (with_reducible refine (num_Mod.calls a0 a1 t138 t139 _ A18.out).mono ?_); rintro e w' ⟨rfl, ⟨nd, rfl⟩⟩; refine ⟨_, rfl, ?_⟩) | ((with_reducible refine gate_callee (f := 20) rfl ?_); refine goesL_ (some 102) rfl rfl Try.func20 (by kernel_rfl) rfl #[.int .i64 a0, .int .i64 a1] rfl (by (try simp only [List.map_toArray, List.map_cons, List.map_nil]); first | done | rfl | (simp only [List.length_drop, List.length_take]; rfl)) ?_; (with_reducible refine (cotillionref1_Mod.calls a0 a1 t140 t141 _ A19.out).mono ?_); rintro e w' ⟨rfl, ⟨nd, rfl⟩⟩; refine ⟨_, rfl, ?_⟩) | ((with_reducible refine gate_callee (f := 21) rfl ?_); refine goesL_ (some 107) rfl rfl Try.func21 (by kernel_rfl) rfl #[.int .i64 a0] rfl (by (try simp only [List.map_toArray, List.map_cons, List.map_nil]); first | done | rfl | (simp only [List.length_drop, List.length_take]; rfl)) ?_; (with_reducible refine (num_Neg.calls a0 t142 t143 _ A20.out).mono ?_); rintro e w' ⟨rfl, ⟨nd, rfl⟩⟩; refine ⟨_, rfl, ?_⟩) | ((with_reducible refine gate_callee (f := 22) rfl ?_); refine goesL_ (some 112) rfl rfl Try.func22 (by kernel_rfl) rfl #[.int .i64 a0] rfl (by (try simp only [List.map_toArray, List.map_cons, List.map_nil]); first | done | rfl | (simp only [List.length_drop, List.length_take]; rfl)) ?_; (with_reducible refine (cotillionref1_Neg.calls a0 t144 t145 _ A21.out).mono ?_); rintro e w' ⟨rfl, ⟨nd, rfl⟩⟩; refine ⟨_, rfl, ?_⟩))
            go_ret
            exact ⟨by first | rfl | (simp [errW_none, errW_some] <;> rfl) | (simp [*, errW_none, errW_some] <;> rfl), by repeat (first | (with_reducible first | exact HB.out | apply below_alloc | apply pw_below_drewN | apply below_drew1) | exact HB.out)⟩
        · rw [if_neg c22] at H
          have c22b0 : (t134 == t136) = false := beq_eq_false_iff_ne.mpr c22
          have c22b1 : (t134 != t136) = true := bne_iff_ne.mpr c22
          obtain rfl := Option.some.inj H
          go_wp2_with (first | ((with_reducible refine gate_callee (f := 17) rfl ?_); refine goesL_ (some 84) rfl rfl Try.func17 (by kernel_rfl) rfl #[.int .i64 a0, .int .i64 a1] rfl (by (try simp only [List.map_toArray, List.map_cons, List.map_nil]); first | done | rfl | (simp only [List.length_drop, List.length_take]; rfl)) ?_; (with_reducible refine (num_Div.calls a0 a1 t134 t135 _ A16.out).mono ?_); rintro e w' ⟨rfl, ⟨nd, rfl⟩⟩; refine ⟨_, rfl, ?_⟩) | ((with_reducible refine gate_callee (f := 18) rfl ?_); refine goesL_ (some 90) rfl rfl Try.func18 (by kernel_rfl) rfl #[.int .i64 a0, .int .i64 a1] rfl (by (try simp only [List.map_toArray, List.map_cons, List.map_nil]); first | done | rfl | (simp only [List.length_drop, List.length_take]; rfl)) ?_; (with_reducible refine (cotillionref1_Div.calls a0 a1 t136 t137 _ A17.out).mono ?_); rintro e w' ⟨rfl, ⟨nd, rfl⟩⟩; refine ⟨_, rfl, ?_⟩) | ((with_reducible refine gate_callee (f := 19) rfl ?_); refine goesL_ (some 96) rfl rfl Try.func19 (by kernel_rfl) rfl #[.int .i64 a0, .int .i64 a1] rfl (by (try simp only [List.map_toArray, List.map_cons, List.map_nil]); first | done | rfl | (simp only [List.length_drop, List.length_take]; rfl)) ?_; (with_reducible refine (num_Mod.calls a0 a1 t138 t139 _ A18.out).mono ?_); rintro e w' ⟨rfl, ⟨nd, rfl⟩⟩; refine ⟨_, rfl, ?_⟩) | ((with_reducible refine gate_callee (f := 20) rfl ?_); refine goesL_ (some 102) rfl rfl Try.func20 (by kernel_rfl) rfl #[.int .i64 a0, .int .i64 a1] rfl (by (try simp only [List.map_toArray, List.map_cons, List.map_nil]); first | done | rfl | (simp only [List.length_drop, List.length_take]; rfl)) ?_; (with_reducible refine (cotillionref1_Mod.calls a0 a1 t140 t141 _ A19.out).mono ?_); rintro e w' ⟨rfl, ⟨nd, rfl⟩⟩; refine ⟨_, rfl, ?_⟩) | ((with_reducible refine gate_callee (f := 21) rfl ?_); refine goesL_ (some 107) rfl rfl Try.func21 (by kernel_rfl) rfl #[.int .i64 a0] rfl (by (try simp only [List.map_toArray, List.map_cons, List.map_nil]); first | done | rfl | (simp only [List.length_drop, List.length_take]; rfl)) ?_; (with_reducible refine (num_Neg.calls a0 t142 t143 _ A20.out).mono ?_); rintro e w' ⟨rfl, ⟨nd, rfl⟩⟩; refine ⟨_, rfl, ?_⟩) | ((with_reducible refine gate_callee (f := 22) rfl ?_); refine goesL_ (some 112) rfl rfl Try.func22 (by kernel_rfl) rfl #[.int .i64 a0] rfl (by (try simp only [List.map_toArray, List.map_cons, List.map_nil]); first | done | rfl | (simp only [List.length_drop, List.length_take]; rfl)) ?_; (with_reducible refine (cotillionref1_Neg.calls a0 t144 t145 _ A21.out).mono ?_); rintro e w' ⟨rfl, ⟨nd, rfl⟩⟩; refine ⟨_, rfl, ?_⟩))
          go_ret
          exact ⟨by first | rfl | (simp [errW_none, errW_some] <;> rfl) | (simp [*, errW_none, errW_some] <;> rfl), by repeat (first | (with_reducible first | exact HB.out | apply below_alloc | apply pw_below_drewN | apply below_drew1) | exact HB.out)⟩

/-- THE ONE PURE STATEMENT of cotillionlaw1_NumTells: yours. -/
def cotillionlaw1_NumTells.Pure : Prop := ∀ (a0 : Int) (a1 : Int), (Lit.int .i64 a0).wf = true → (Lit.int .i64 a1).wf = true → ∃ k, cotillionlaw1_NumTells.f k a0 a1 = some true
theorem cotillionlaw1_NumTells.walk (P : cotillionlaw1_NumTells.Pure) (a0 : Int) (a1 : Int) (w : World) (w0 : (Lit.int .i64 a0).wf = true) (w1 : (Lit.int .i64 a1).wf = true) :
    Calls Try.prog 4 #[.int .i64 a0, .int .i64 a1] w fun e w' => e = .returned (.bool true) ∧ Below w.heap.size w w' := by
  obtain ⟨k, h⟩ := P a0 a1 w0 w1
  refine (cotillionlaw1_NumTells.calls k a0 a1 true w h).mono ?_
  rintro e w' ⟨rfl, hd⟩
  exact ⟨rfl, hd⟩

end Go.Proofs.Ytekcaodbcobfdaa.PNumTells
