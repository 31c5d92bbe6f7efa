-- Written for this claim by wip/tools of this repo (after the kit's print; own contracts laid in).
import Derived.Test.YtpgkdagjlbcgkaaPAllx0
import Derived.Test.YtpgkdagjlbcgkaaPAllx1
import Derived.Test.YtpgkdagjlbcgkaaPAllx3
namespace Go.Proofs.Ytpgkdagjlbcgkaa.PAll
open Go.RowKit Go.Proofs.YtpgkdagjlbcgkaaW.PrintWords Go.Proofs.YtpgkdagjlbcgkaaW.PrintLast Go.Proofs.YtpgkdagjlbcgkaaW.PrintMore
attribute [local go_sem] max2_int min2_int max_two min_two max_three min_three max_four min_four   -- for this text's walks alone
set_option linter.unusedVariables false
set_option linter.unusedSimpArgs false

/-! ### epactlaw04_StampClocks: function 5 -/
def epactlaw04_StampClocks.j0 : Nat → Int → Int → Int → Bool → Option (Bool)
  | 0, _, _, _, _ => none
  | k + 1, x1, x2, x3, x9 => (stamp_Second.f k x1 x2 x3).bind fun bt246 => (if bt246.2 = true then ((stamp_Clock.f k bt246.1).bind fun bt248 => (if x9 = true then (if bt248.2.2.2 = true then (if bt248.1 = x1 then (if bt248.2.1 = x2 then (some (bt248.2.2.1 == x3)) else (none)) else (none)) else (none)) else (none))) else (if x9 = true then (some (bt246.1 == 0)) else (none)))
def epactlaw04_StampClocks.f (k : Nat) (a0 : Int) (a1 : Int) (a2 : Int) (a3 : Int) : Option (Bool) := (epactlaw04_small.f k).bind fun t239 => ((stamp_Clock.f k a0).bind fun bt240 => (if bt240.2.2.2 = true then ((stamp_Second.f k bt240.1 bt240.2.1 bt240.2.2.1).bind fun bt244 => (if bt244.2 = true then (if bt244.1 = a0 then (if bt240.1 > 23 then (none) else (if bt240.2.1 > 59 then (none) else (if ((bt240.2.2.1 == 60) != (a0 == 86400)) = true then (none) else (if bt240.2.2.1 > 60 then (none) else (epactlaw04_StampClocks.j0 k a1 a2 a3 t239))))) else (none)) else (none))) else (epactlaw04_StampClocks.j0 k a1 a2 a3 t239)))
theorem epactlaw04_StampClocks.mono_l : ∀ k, (∀ y0 y1 y2 y3, LeO (epactlaw04_StampClocks.j0 k y0 y1 y2 y3) (epactlaw04_StampClocks.j0 (k + 1) y0 y1 y2 y3))
  | 0 => fun _ _ _ _ r h => by simp [epactlaw04_StampClocks.j0] at h
  | k + 1 => by
    have ih0 := epactlaw04_StampClocks.mono_l k
    · intro y0 y1 y2 y3
      unfold epactlaw04_StampClocks.j0
      repeat' first
      | (with_reducible exact ih0 _ _ _ _)
      | (with_reducible exact epactlaw04_small.mono _)
      | (with_reducible exact stamp_Clock.mono _ _)
      | (with_reducible exact stamp_Second.mono _ _ _ _)
      | (with_reducible exact LeO.refl _)
      | (with_reducible exact LeO.none _)
      | (with_reducible refine LeO.ite ?_ ?_)
      | (with_reducible refine LeO.bind ?_ (fun _ => ?_))
      | exact ih0 _ _ _ _
      | exact epactlaw04_small.mono _
      | exact stamp_Clock.mono _ _
      | exact stamp_Second.mono _ _ _ _
      | exact LeO.none _
      | refine LeO.ite ?_ ?_
      | refine LeO.bind ?_ (fun _ => ?_)
theorem epactlaw04_StampClocks.mono : ∀ a0 a1 a2 a3 k, LeO (epactlaw04_StampClocks.f k a0 a1 a2 a3) (epactlaw04_StampClocks.f (k + 1) a0 a1 a2 a3) := by
  intro a0 a1 a2 a3 k
  have ih0 := epactlaw04_StampClocks.mono_l k
  unfold epactlaw04_StampClocks.f
  repeat' first
      | (with_reducible exact ih0 _ _ _ _)
      | (with_reducible exact epactlaw04_small.mono _)
      | (with_reducible exact stamp_Clock.mono _ _)
      | (with_reducible exact stamp_Second.mono _ _ _ _)
      | (with_reducible exact LeO.refl _)
      | (with_reducible exact LeO.none _)
      | (with_reducible refine LeO.ite ?_ ?_)
      | (with_reducible refine LeO.bind ?_ (fun _ => ?_))
      | exact ih0 _ _ _ _
      | exact epactlaw04_small.mono _
      | exact stamp_Clock.mono _ _
      | exact stamp_Second.mono _ _ _ _
      | exact LeO.none _
      | refine LeO.ite ?_ ?_
      | refine LeO.bind ?_ (fun _ => ?_)
set_option maxHeartbeats 8000000 in
set_option maxRecDepth 100000 in
theorem epactlaw04_StampClocks.calls (k : Nat) (a0 : Int) (a1 : Int) (a2 : Int) (a3 : Int) (r : Bool) (w : World) (h : epactlaw04_StampClocks.f k a0 a1 a2 a3 = some r) :
    Calls Try.prog 5 #[.int .i64 a0, .int .i64 a1, .int .i64 a2, .int .i64 a3] w fun e w' => e = .returned (.bool r) ∧ Below w.heap.size w w' := by
  have HB := Aside0.mk (Below.refl w.heap.size w)
  have H : ((epactlaw04_small.f k).bind fun t239 => ((stamp_Clock.f k a0).bind fun bt240 => (if bt240.2.2.2 = true then ((stamp_Second.f k bt240.1 bt240.2.1 bt240.2.2.1).bind fun bt244 => (if bt244.2 = true then (if bt244.1 = a0 then (if bt240.1 > 23 then (none) else (if bt240.2.1 > 59 then (none) else (if ((bt240.2.2.1 == 60) != (a0 == 86400)) = true then (none) else (if bt240.2.2.1 > 60 then (none) else (epactlaw04_StampClocks.j0 k a1 a2 a3 t239))))) else (none)) else (none))) else (epactlaw04_StampClocks.j0 k a1 a2 a3 t239)))) = some r := h
  clear h
  replace H := Option.bind_eq_some_iff.mp H
  obtain ⟨t239, A50, H⟩ := H
  replace H : ((stamp_Clock.f k a0).bind fun bt240 => (if bt240.2.2.2 = true then ((stamp_Second.f k bt240.1 bt240.2.1 bt240.2.2.1).bind fun bt244 => (if bt244.2 = true then (if bt244.1 = a0 then (if bt240.1 > 23 then (none) else (if bt240.2.1 > 59 then (none) else (if ((bt240.2.2.1 == 60) != (a0 == 86400)) = true then (none) else (if bt240.2.2.1 > 60 then (none) else (epactlaw04_StampClocks.j0 k a1 a2 a3 t239))))) else (none)) else (none))) else (epactlaw04_StampClocks.j0 k a1 a2 a3 t239))) = some r := H
  have A5 := Aside0.mk A50
  clear A50
  replace H := Option.bind_eq_some_iff.mp H
  obtain ⟨⟨t240, t241, t242, t243⟩, A60, H⟩ := H
  replace H : (if t243 = true then ((stamp_Second.f k t240 t241 t242).bind fun bt244 => (if bt244.2 = true then (if bt244.1 = a0 then (if t240 > 23 then (none) else (if t241 > 59 then (none) else (if ((t242 == 60) != (a0 == 86400)) = true then (none) else (if t242 > 60 then (none) else (epactlaw04_StampClocks.j0 k a1 a2 a3 t239))))) else (none)) else (none))) else (epactlaw04_StampClocks.j0 k a1 a2 a3 t239)) = some r := H
  have A6 := Aside0.mk A60
  clear A60
  have HC7 := Aside0.mk H
  clear H
  go_enter Try.func5, Try.ntmps5
  go_upto_if 30 with (first | ((with_reducible refine gate_callee (f := 8) rfl ?_); refine goesL_ (some 22) rfl rfl Try.func8 (by kernel_rfl) rfl #[] rfl (by (try simp only [List.map_toArray, List.map_cons, List.map_nil]); first | done | rfl | (simp only [List.length_drop, List.length_take]; rfl)) ?_; (with_reducible refine (epactlaw04_small.calls k  t239 _ A5.out).mono ?_); rintro e w8 ⟨rfl, hb⟩; refine ⟨_, rfl, ?_⟩; have n0_ := Aside0.mk (below_step (by repeat (first | (with_reducible first | exact HB.out | apply below_alloc | apply pw_below_drewN | apply below_drew1) | exact HB.out)) hb); clear HB; have HB := n0_; clear n0_; (try clear hb); (try clear hb2); (try clear hk); (try clear hi)) | ((with_reducible refine gate_callee (f := 9) rfl ?_); refine goesL_ (some 25) rfl rfl Try.func9 (by kernel_rfl) rfl #[.int .i64 a0] rfl (by (try simp only [List.map_toArray, List.map_cons, List.map_nil]); first | done | rfl | (simp only [List.length_drop, List.length_take]; rfl)) ?_; (with_reducible refine (stamp_Clock.calls k a0 t240 t241 t242 t243 _ A6.out).mono ?_); rintro e w' ⟨rfl, ⟨nd, rfl⟩⟩; refine ⟨_, rfl, ?_⟩))
  (try simp only [Act.put, List.setIfInBounds_toArray, List.set_cons_zero, List.set_cons_succ])
  go_cut [] (fun wc => ∃ (kq : Nat), Aside0 (epactlaw04_StampClocks.j0 kq a1 a2 a3 t239 = some r) ∧ Aside0 (kq ≤ k) ∧ Aside0 (Below w.heap.size w wc))
  case first =>
    have H := HC7.out
    clear HC7
    by_cases c9 : t243 = true
    · subst c9
      have H1 : ((stamp_Second.f k t240 t241 t242).bind fun bt244 => (if bt244.2 = true then (if bt244.1 = a0 then (if t240 > 23 then (none) else (if t241 > 59 then (none) else (if ((t242 == 60) != (a0 == 86400)) = true then (none) else (if t242 > 60 then (none) else (epactlaw04_StampClocks.j0 k a1 a2 a3 t239))))) else (none)) else (none))) = some r := by rw [if_pos rfl] at H; exact H
      clear H
      have H := H1
      clear H1
      replace H := Option.bind_eq_some_iff.mp H
      obtain ⟨⟨t244, t245⟩, A100, H⟩ := H
      replace H : (if t245 = true then (if t244 = a0 then (if t240 > 23 then (none) else (if t241 > 59 then (none) else (if ((t242 == 60) != (a0 == 86400)) = true then (none) else (if t242 > 60 then (none) else (epactlaw04_StampClocks.j0 k a1 a2 a3 t239))))) else (none)) else (none)) = some r := H
      have A10 := Aside0.mk A100
      clear A100
      by_cases c11 : t245 = true
      · subst c11
        have H1 : (if t244 = a0 then (if t240 > 23 then (none) else (if t241 > 59 then (none) else (if ((t242 == 60) != (a0 == 86400)) = true then (none) else (if t242 > 60 then (none) else (epactlaw04_StampClocks.j0 k a1 a2 a3 t239))))) else (none)) = some r := by rw [if_pos rfl] at H; exact H
        clear H
        have H := H1
        clear H1
        by_cases c12 : t244 = a0
        · rw [if_pos c12] at H
          have c12b0 : (t244 == a0) = true := beq_iff_eq.mpr c12
          have c12b1 : (t244 != a0) = false := bne_eq_false_iff_eq.mpr c12
          clear c12
          (first | rw [c12b0] | (simp only [i64_w, i32_w]; rw [c12b0]) | skip)
          by_cases c13 : t240 > 23
          · rw [if_pos c13] at H
            exact absurd H (by simp)
          · rw [if_neg c13] at H
            have c13b0 : decide (23 < t240) = false := decide_eq_false c13
            clear c13
            by_cases c14 : t241 > 59
            · rw [if_pos c14] at H
              exact absurd H (by simp)
            · rw [if_neg c14] at H
              have c14b0 : decide (59 < t241) = false := decide_eq_false c14
              clear c14
              by_cases c15 : ((t242 == 60) != (a0 == 86400)) = true
              · rw [if_pos c15] at H
                exact absurd H (by simp)
              · rw [if_neg c15] at H
                have c15b0 : ((t242 == 60) != (a0 == 86400)) = false := by first | (simp; done) | (simp at c15; done) | simpa using c15
                (try (have c15b1 : decide ((t242 == 60) = (a0 == 86400)) = true := by first | (simp; done) | (simp at c15; done) | simpa using c15))
                (try (have c15b2 : ((t242 == 60) == (a0 == 86400)) = true := by first | (simp; done) | (simp at c15; done) | simpa using c15))
                clear c15
                by_cases c16 : t242 > 60
                · rw [if_pos c16] at H
                  exact absurd H (by simp)
                · rw [if_neg c16] at H
                  have c16b0 : decide (60 < t242) = false := decide_eq_false c16
                  clear c16
                  have H' := Aside0.mk H
                  clear H
                  go_wp2_with (first | ((with_reducible refine gate_callee (f := 11) rfl ?_); refine goesL_ (some 35) rfl rfl Try.func11 (by kernel_rfl) rfl #[.int .i64 t240, .int .i64 t241, .int .i64 t242] rfl (by (try simp only [List.map_toArray, List.map_cons, List.map_nil]); first | done | rfl | (simp only [List.length_drop, List.length_take]; rfl)) ?_; (with_reducible refine (stamp_Second.calls k t240 t241 t242 t244 true _ A10.out).mono ?_); rintro e w17 ⟨rfl, hb⟩; refine ⟨_, rfl, ?_⟩; have n0_ := Aside0.mk (below_step (by repeat (first | (with_reducible first | exact HB.out | apply below_alloc | apply pw_below_drewN | apply below_drew1) | exact HB.out)) hb); clear HB; have HB := n0_; clear n0_; (try clear hb); (try clear hb2); (try clear hk); (try clear hi)))
                  go_meet
                  case rel => exact ⟨_, H', ⟨by first | omega | exact Nat.le_refl _⟩, ⟨by repeat (first | (with_reducible first | exact HB.out | apply below_alloc | apply pw_below_drewN | apply below_drew1) | exact HB.out)⟩⟩
        · rw [if_neg c12] at H
          exact absurd H (by simp)
      · replace c11 := Bool.eq_false_iff.mpr c11
        subst c11
        have H1 : (none) = some r := by rw [if_neg (show ¬ (false = true) by decide)] at H; exact H
        clear H
        have H := H1
        clear H1
        exact absurd H (by simp)
    · replace c9 := Bool.eq_false_iff.mpr c9
      subst c9
      have H1 : (epactlaw04_StampClocks.j0 k a1 a2 a3 t239) = some r := by rw [if_neg (show ¬ (false = true) by decide)] at H; exact H
      clear H
      have H := H1
      clear H1
      have H' := Aside0.mk H
      clear H
      go_wp2
      go_meet
      case rel => exact ⟨_, H', ⟨by first | omega | exact Nat.le_refl _⟩, ⟨by repeat (first | (with_reducible first | exact HB.out | apply below_alloc | apply pw_below_drewN | apply below_drew1) | exact HB.out)⟩⟩
  case rest =>
    clear HC7
    try clear c1
    try clear p2
    try clear c5
    try clear c8
    try clear c9
    try clear c11
    try clear c12
    try clear c12b0
    try clear c12b1
    try clear c13
    try clear c13b0
    try clear c14
    try clear c14b0
    try clear c15
    try clear c15b0
    try clear c15b1
    try clear c15b2
    try clear c16
    try clear c16b0
    obtain ⟨kq, HA, HJ6, HB⟩ := hcut
    cases kq with
    | zero => exact absurd HA.out (by simp [epactlaw04_StampClocks.j0])
    | succ kj6 =>
      have H := HA.out
      clear HA
      simp only [epactlaw04_StampClocks.j0] at H
      replace H := Option.bind_eq_some_iff.mp H
      obtain ⟨⟨t246, t247⟩, A180, H⟩ := H
      replace H : (if t247 = true then ((stamp_Clock.f kj6 t246).bind fun bt248 => (if t239 = true then (if bt248.2.2.2 = true then (if bt248.1 = a1 then (if bt248.2.1 = a2 then (some (bt248.2.2.1 == a3)) else (none)) else (none)) else (none)) else (none))) else (if t239 = true then (some (t246 == 0)) else (none))) = some r := H
      have A18 := Aside0.mk A180
      clear A180
      by_cases c19 : t247 = true
      · subst c19
        have H1 : ((stamp_Clock.f kj6 t246).bind fun bt248 => (if t239 = true then (if bt248.2.2.2 = true then (if bt248.1 = a1 then (if bt248.2.1 = a2 then (some (bt248.2.2.1 == a3)) else (none)) else (none)) else (none)) else (none))) = some r := by rw [if_pos rfl] at H; exact H
        clear H
        have H := H1
        clear H1
        replace H := Option.bind_eq_some_iff.mp H
        obtain ⟨⟨t248, t249, t250, t251⟩, A200, H⟩ := H
        replace H : (if t239 = true then (if t251 = true then (if t248 = a1 then (if t249 = a2 then (some (t250 == a3)) else (none)) else (none)) else (none)) else (none)) = some r := H
        have A20 := Aside0.mk A200
        clear A200
        by_cases c21 : t239 = true
        · subst c21
          have H1 : (if t251 = true then (if t248 = a1 then (if t249 = a2 then (some (t250 == a3)) else (none)) else (none)) else (none)) = some r := by rw [if_pos rfl] at H; exact H
          clear H
          have H := H1
          clear H1
          by_cases c22 : t251 = true
          · subst c22
            have H1 : (if t248 = a1 then (if t249 = a2 then (some (t250 == a3)) else (none)) else (none)) = some r := by rw [if_pos rfl] at H; exact H
            clear H
            have H := H1
            clear H1
            by_cases c23 : t248 = a1
            · rw [if_pos c23] at H
              have c23b0 : (t248 == a1) = true := beq_iff_eq.mpr c23
              have c23b1 : (t248 != a1) = false := bne_eq_false_iff_eq.mpr c23
              clear c23
              by_cases c24 : t249 = a2
              · rw [if_pos c24] at H
                have c24b0 : (t249 == a2) = true := beq_iff_eq.mpr c24
                have c24b1 : (t249 != a2) = false := bne_eq_false_iff_eq.mpr c24
                clear c24
                obtain rfl := Option.some.inj H
                go_wp2_with (first | ((with_reducible refine gate_callee (f := 11) rfl ?_); refine goesL_ (some 68) rfl rfl Try.func11 (by kernel_rfl) rfl #[.int .i64 a1, .int .i64 a2, .int .i64 a3] rfl (by (try simp only [List.map_toArray, List.map_cons, List.map_nil]); first | done | rfl | (simp only [List.length_drop, List.length_take]; rfl)) ?_; (with_reducible refine (stamp_Second.calls kj6 a1 a2 a3 t246 true _ A18.out).mono ?_); rintro e w25 ⟨rfl, hb⟩; refine ⟨_, rfl, ?_⟩; have n0_ := Aside0.mk (below_step (by repeat (first | (with_reducible first | exact HB.out | apply below_alloc | apply pw_below_drewN | apply below_drew1) | exact HB.out)) hb); clear HB; have HB := n0_; clear n0_; (try clear hb); (try clear hb2); (try clear hk); (try clear hi)) | ((with_reducible refine gate_callee (f := 9) rfl ?_); refine goesL_ (some 80) rfl rfl Try.func9 (by kernel_rfl) rfl #[.int .i64 t246] rfl (by (try simp only [List.map_toArray, List.map_cons, List.map_nil]); first | done | rfl | (simp only [List.length_drop, List.length_take]; rfl)) ?_; (with_reducible refine (stamp_Clock.calls kj6 t246 t248 t249 t250 true _ A20.out).mono ?_); rintro e w' ⟨rfl, ⟨nd, rfl⟩⟩; refine ⟨_, rfl, ?_⟩))
                go_ret
                exact ⟨by first | rfl | (simp [errW_none, errW_some] <;> rfl) | (simp [*, errW_none, errW_some] <;> rfl), by repeat (first | (with_reducible first | exact HB.out | apply below_alloc | apply pw_below_drewN | apply below_drew1) | exact HB.out)⟩
              · rw [if_neg c24] at H
                exact absurd H (by simp)
            · rw [if_neg c23] at H
              exact absurd H (by simp)
          · replace c22 := Bool.eq_false_iff.mpr c22
            subst c22
            have H1 : (none) = some r := by rw [if_neg (show ¬ (false = true) by decide)] at H; exact H
            clear H
            have H := H1
            clear H1
            exact absurd H (by simp)
        · replace c21 := Bool.eq_false_iff.mpr c21
          subst c21
          have H1 : (none) = some r := by rw [if_neg (show ¬ (false = true) by decide)] at H; exact H
          clear H
          have H := H1
          clear H1
          exact absurd H (by simp)
      · replace c19 := Bool.eq_false_iff.mpr c19
        subst c19
        have H1 : (if t239 = true then (some (t246 == 0)) else (none)) = some r := by rw [if_neg (show ¬ (false = true) by decide)] at H; exact H
        clear H
        have H := H1
        clear H1
        by_cases c26 : t239 = true
        · subst c26
          have H1 : (some (t246 == 0)) = some r := by rw [if_pos rfl] at H; exact H
          clear H
          have H := H1
          clear H1
          obtain rfl := Option.some.inj H
          go_wp2_with (first | ((with_reducible refine gate_callee (f := 11) rfl ?_); refine goesL_ (some 68) rfl rfl Try.func11 (by kernel_rfl) rfl #[.int .i64 a1, .int .i64 a2, .int .i64 a3] rfl (by (try simp only [List.map_toArray, List.map_cons, List.map_nil]); first | done | rfl | (simp only [List.length_drop, List.length_take]; rfl)) ?_; (with_reducible refine (stamp_Second.calls kj6 a1 a2 a3 t246 false _ A18.out).mono ?_); rintro e w27 ⟨rfl, hb⟩; refine ⟨_, rfl, ?_⟩; have n0_ := Aside0.mk (below_step (by repeat (first | (with_reducible first | exact HB.out | apply below_alloc | apply pw_below_drewN | apply below_drew1) | exact HB.out)) hb); clear HB; have HB := n0_; clear n0_; (try clear hb); (try clear hb2); (try clear hk); (try clear hi)))
          go_ret
          exact ⟨by first | rfl | (simp [errW_none, errW_some] <;> rfl) | (simp [*, errW_none, errW_some] <;> rfl), by repeat (first | (with_reducible first | exact HB.out | apply below_alloc | apply pw_below_drewN | apply below_drew1) | exact HB.out)⟩
        · replace c26 := Bool.eq_false_iff.mpr c26
          subst c26
          have H1 : (none) = some r := by rw [if_neg (show ¬ (false = true) by decide)] at H; exact H
          clear H
          have H := H1
          clear H1
          exact absurd H (by simp)

/-- THE ONE PURE STATEMENT of epactlaw04_StampClocks: yours. -/
def epactlaw04_StampClocks.Pure : Prop := ∀ (a0 : Int) (a1 : Int) (a2 : Int) (a3 : Int), (Lit.int .i64 a0).wf = true → (Lit.int .i64 a1).wf = true → (Lit.int .i64 a2).wf = true → (Lit.int .i64 a3).wf = true → ∃ k, epactlaw04_StampClocks.f k a0 a1 a2 a3 = some true
theorem epactlaw04_StampClocks.walk (P : epactlaw04_StampClocks.Pure) (a0 : Int) (a1 : Int) (a2 : Int) (a3 : Int) (w : World) (w0 : (Lit.int .i64 a0).wf = true) (w1 : (Lit.int .i64 a1).wf = true) (w2 : (Lit.int .i64 a2).wf = true) (w3 : (Lit.int .i64 a3).wf = true) :
    Calls Try.prog 5 #[.int .i64 a0, .int .i64 a1, .int .i64 a2, .int .i64 a3] w fun e w' => e = .returned (.bool true) ∧ Below w.heap.size w w' := by
  obtain ⟨k, h⟩ := P a0 a1 a2 a3 w0 w1 w2 w3
  refine (epactlaw04_StampClocks.calls k a0 a1 a2 a3 true w h).mono ?_
  rintro e w' ⟨rfl, hd⟩
  exact ⟨rfl, hd⟩

end Go.Proofs.Ytpgkdagjlbcgkaa.PAll
