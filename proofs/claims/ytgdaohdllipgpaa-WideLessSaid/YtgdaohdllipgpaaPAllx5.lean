-- Written for this claim by wip/tools of this repo (after the kit's print; own contracts laid in).
import Derived.Test.YtgdaohdllipgpaaPAllx0
import Derived.Test.YtgdaohdllipgpaaPAllx1
import Derived.Test.YtgdaohdllipgpaaPAllx2
namespace Go.Proofs.Ytgdaohdllipgpaa.PAll
open Go.RowKit Go.Proofs.YtgdaohdllipgpaaW.PrintWords Go.Proofs.YtgdaohdllipgpaaW.PrintLast Go.Proofs.YtgdaohdllipgpaaW.PrintMore
attribute [local go_sem] max2_int min2_int max_two min_two max_three min_three max_four min_four   -- for this text's walks alone
set_option linter.unusedVariables false
set_option linter.unusedSimpArgs false

/-! ### epactlaw02_WideOrder: function 6 -/
def epactlaw02_WideOrder.j0 : Nat → Int → Int → Bool → Int → Int → Bool → Bool → Option (Bool)
  | 0, _, _, _, _, _, _, _ => none
  | k + 1, x0, x1, x5, x6, x7, x8, x49 => if x49 = true then (some false) else (if x8 = true then (if x0 < 2147483648 then (if x1 < 2147483648 then (if x5 = true then (if x6 = 0 then (some (x7 == (wrap64 (x0 * x1)))) else (some false)) else (some false)) else (if x5 = true then (if x6 ≥ 0 then (some (decide (x7 ≥ 0))) else (some false)) else (some false))) else (if x5 = true then (if x6 ≥ 0 then (some (decide (x7 ≥ 0))) else (some false)) else (some false))) else (if x5 = true then (if x6 ≥ 0 then (some (decide (x7 ≥ 0))) else (some false)) else (some false)))
def epactlaw02_WideOrder.f (k : Nat) (a0 : Int) (a1 : Int) : Option (Bool) := (epactlaw02_small.f k).bind fun t202 => ((wide_Mul.f a0 a1).bind fun bt203 => ((wide_Mul.f a1 a0).bind fun bt206 => (if bt203.1 = bt206.1 then (if bt203.2.1 = bt206.2.1 then (if (bt203.2.2 != bt206.2.2) = true then (epactlaw02_WideOrder.j0 k a0 a1 t202 bt203.1 bt203.2.1 bt203.2.2 true) else (if a0 ≥ 0 then (epactlaw02_WideOrder.j0 k a0 a1 t202 bt203.1 bt203.2.1 bt203.2.2 (bt203.2.2 != (decide (a1 ≥ 0)))) else (epactlaw02_WideOrder.j0 k a0 a1 t202 bt203.1 bt203.2.1 bt203.2.2 (bt203.2.2 != false)))) else (epactlaw02_WideOrder.j0 k a0 a1 t202 bt203.1 bt203.2.1 bt203.2.2 true)) else (epactlaw02_WideOrder.j0 k a0 a1 t202 bt203.1 bt203.2.1 bt203.2.2 true))))
theorem epactlaw02_WideOrder.mono_l : ∀ k, (∀ y0 y1 y2 y3 y4 y5 y6, LeO (epactlaw02_WideOrder.j0 k y0 y1 y2 y3 y4 y5 y6) (epactlaw02_WideOrder.j0 (k + 1) y0 y1 y2 y3 y4 y5 y6))
  | 0 => fun _ _ _ _ _ _ _ r h => by simp [epactlaw02_WideOrder.j0] at h
  | k + 1 => by
    have ih0 := epactlaw02_WideOrder.mono_l k
    · intro y0 y1 y2 y3 y4 y5 y6
      unfold epactlaw02_WideOrder.j0
      repeat' first
      | (with_reducible exact ih0 _ _ _ _ _ _ _)
      | (with_reducible exact epactlaw02_small.mono _)
      | (with_reducible exact LeO.refl _)
      | (with_reducible exact LeO.none _)
      | (with_reducible refine LeO.ite ?_ ?_)
      | (with_reducible refine LeO.bind ?_ (fun _ => ?_))
      | exact ih0 _ _ _ _ _ _ _
      | exact epactlaw02_small.mono _
      | exact LeO.none _
      | refine LeO.ite ?_ ?_
      | refine LeO.bind ?_ (fun _ => ?_)
theorem epactlaw02_WideOrder.mono : ∀ a0 a1 k, LeO (epactlaw02_WideOrder.f k a0 a1) (epactlaw02_WideOrder.f (k + 1) a0 a1) := by
  intro a0 a1 k
  have ih0 := epactlaw02_WideOrder.mono_l k
  unfold epactlaw02_WideOrder.f
  repeat' first
      | (with_reducible exact ih0 _ _ _ _ _ _ _)
      | (with_reducible exact epactlaw02_small.mono _)
      | (with_reducible exact LeO.refl _)
      | (with_reducible exact LeO.none _)
      | (with_reducible refine LeO.ite ?_ ?_)
      | (with_reducible refine LeO.bind ?_ (fun _ => ?_))
      | exact ih0 _ _ _ _ _ _ _
      | exact epactlaw02_small.mono _
      | exact LeO.none _
      | refine LeO.ite ?_ ?_
      | refine LeO.bind ?_ (fun _ => ?_)
set_option maxHeartbeats 8000000 in
set_option maxRecDepth 100000 in
theorem epactlaw02_WideOrder.calls (k : Nat) (a0 : Int) (a1 : Int) (r : Bool) (w : World) (h : epactlaw02_WideOrder.f k a0 a1 = some r) :
    Calls Try.prog 6 #[.int .i64 a0, .int .i64 a1] w fun e w' => e = .returned (.bool r) ∧ Drawn0 w w' := by
  have H : ((epactlaw02_small.f k).bind fun t202 => ((wide_Mul.f a0 a1).bind fun bt203 => ((wide_Mul.f a1 a0).bind fun bt206 => (if bt203.1 = bt206.1 then (if bt203.2.1 = bt206.2.1 then (if (bt203.2.2 != bt206.2.2) = true then (epactlaw02_WideOrder.j0 k a0 a1 t202 bt203.1 bt203.2.1 bt203.2.2 true) else (if a0 ≥ 0 then (epactlaw02_WideOrder.j0 k a0 a1 t202 bt203.1 bt203.2.1 bt203.2.2 (bt203.2.2 != (decide (a1 ≥ 0)))) else (epactlaw02_WideOrder.j0 k a0 a1 t202 bt203.1 bt203.2.1 bt203.2.2 (bt203.2.2 != false)))) else (epactlaw02_WideOrder.j0 k a0 a1 t202 bt203.1 bt203.2.1 bt203.2.2 true)) else (epactlaw02_WideOrder.j0 k a0 a1 t202 bt203.1 bt203.2.1 bt203.2.2 true))))) = some r := h
  clear h
  replace H := Option.bind_eq_some_iff.mp H
  obtain ⟨t202, A30, H⟩ := H
  replace H : ((wide_Mul.f a0 a1).bind fun bt203 => ((wide_Mul.f a1 a0).bind fun bt206 => (if bt203.1 = bt206.1 then (if bt203.2.1 = bt206.2.1 then (if (bt203.2.2 != bt206.2.2) = true then (epactlaw02_WideOrder.j0 k a0 a1 t202 bt203.1 bt203.2.1 bt203.2.2 true) else (if a0 ≥ 0 then (epactlaw02_WideOrder.j0 k a0 a1 t202 bt203.1 bt203.2.1 bt203.2.2 (bt203.2.2 != (decide (a1 ≥ 0)))) else (epactlaw02_WideOrder.j0 k a0 a1 t202 bt203.1 bt203.2.1 bt203.2.2 (bt203.2.2 != false)))) else (epactlaw02_WideOrder.j0 k a0 a1 t202 bt203.1 bt203.2.1 bt203.2.2 true)) else (epactlaw02_WideOrder.j0 k a0 a1 t202 bt203.1 bt203.2.1 bt203.2.2 true)))) = some r := H
  have A3 := Aside0.mk A30
  clear A30
  replace H := Option.bind_eq_some_iff.mp H
  obtain ⟨⟨t203, t204, t205⟩, A40, H⟩ := H
  replace H : ((wide_Mul.f a1 a0).bind fun bt206 => (if t203 = bt206.1 then (if t204 = bt206.2.1 then (if (t205 != bt206.2.2) = true then (epactlaw02_WideOrder.j0 k a0 a1 t202 t203 t204 t205 true) else (if a0 ≥ 0 then (epactlaw02_WideOrder.j0 k a0 a1 t202 t203 t204 t205 (t205 != (decide (a1 ≥ 0)))) else (epactlaw02_WideOrder.j0 k a0 a1 t202 t203 t204 t205 (t205 != false)))) else (epactlaw02_WideOrder.j0 k a0 a1 t202 t203 t204 t205 true)) else (epactlaw02_WideOrder.j0 k a0 a1 t202 t203 t204 t205 true))) = some r := H
  have A4 := Aside0.mk A40
  clear A40
  replace H := Option.bind_eq_some_iff.mp H
  obtain ⟨⟨t206, t207, t208⟩, A50, H⟩ := H
  replace H : (if t203 = t206 then (if t204 = t207 then (if (t205 != t208) = true then (epactlaw02_WideOrder.j0 k a0 a1 t202 t203 t204 t205 true) else (if a0 ≥ 0 then (epactlaw02_WideOrder.j0 k a0 a1 t202 t203 t204 t205 (t205 != (decide (a1 ≥ 0)))) else (epactlaw02_WideOrder.j0 k a0 a1 t202 t203 t204 t205 (t205 != false)))) else (epactlaw02_WideOrder.j0 k a0 a1 t202 t203 t204 t205 true)) else (epactlaw02_WideOrder.j0 k a0 a1 t202 t203 t204 t205 true)) = some r := H
  have A5 := Aside0.mk A50
  clear A50
  have HC6 := Aside0.mk H
  clear H
  go_enter Try.func6, Try.ntmps6
  go_upto_region 4 with (first | ((with_reducible refine gate_callee (f := 9) rfl ?_); refine goesL_ (some 12) rfl rfl Try.func9 (by kernel_rfl) rfl #[] rfl (by (try simp only [List.map_toArray, List.map_cons, List.map_nil]); first | done | rfl | (simp only [List.length_drop, List.length_take]; rfl)) ?_; (with_reducible refine (epactlaw02_small.calls k  t202 _ A3.out).mono ?_); rintro e w' ⟨rfl, ⟨nd, rfl⟩⟩; refine ⟨_, rfl, ?_⟩) | ((with_reducible refine gate_callee (f := 10) rfl ?_); refine goesL_ (some 16) rfl rfl Try.func10 (by kernel_rfl) rfl #[.int .i64 a0, .int .i64 a1] rfl (by (try simp only [List.map_toArray, List.map_cons, List.map_nil]); first | done | rfl | (simp only [List.length_drop, List.length_take]; rfl)) ?_; (with_reducible refine (wide_Mul.calls a0 a1 t203 t204 t205 _ A4.out).mono ?_); rintro e w' ⟨rfl, ⟨nd, rfl⟩⟩; refine ⟨_, rfl, ?_⟩) | ((with_reducible refine gate_callee (f := 10) rfl ?_); refine goesL_ (some 23) rfl rfl Try.func10 (by kernel_rfl) rfl #[.int .i64 a1, .int .i64 a0] rfl (by (try simp only [List.map_toArray, List.map_cons, List.map_nil]); first | done | rfl | (simp only [List.length_drop, List.length_take]; rfl)) ?_; (with_reducible refine (wide_Mul.calls a1 a0 t206 t207 t208 _ A5.out).mono ?_); rintro e w' ⟨rfl, ⟨nd, rfl⟩⟩; refine ⟨_, rfl, ?_⟩))
  (try simp only [Act.put, List.setIfInBounds_toArray, List.set_cons_zero, List.set_cons_succ])
  go_cut [49] (fun v49 wc => ∃ (kq : Nat) (x49_5 : Bool), v49 = .bool x49_5 ∧ Aside0 (epactlaw02_WideOrder.j0 kq a0 a1 t202 t203 t204 t205 x49_5 = some r) ∧ Aside0 (kq ≤ k) ∧ Drawn0 w wc)
  case first =>
    have H := HC6.out
    clear HC6
    by_cases c7 : t203 = t206
    · rw [if_pos c7] at H
      have c7b0 : (t203 == t206) = true := beq_iff_eq.mpr c7
      have c7b1 : (t203 != t206) = false := bne_eq_false_iff_eq.mpr c7
      clear c7
      (first | rw [c7b0] | (simp only [i64_w, i32_w]; rw [c7b0]) | skip)
      by_cases c8 : t204 = t207
      · rw [if_pos c8] at H
        have c8b0 : (t204 == t207) = true := beq_iff_eq.mpr c8
        have c8b1 : (t204 != t207) = false := bne_eq_false_iff_eq.mpr c8
        clear c8
        by_cases c9 : (t205 != t208) = true
        · rw [if_pos c9] at H
          have c9b0 : (t205 != t208) = true := c9
          (try (have c9b1 : decide (t205 = t208) = false := by first | (simp; done) | (simp at c9; done) | simpa using c9))
          (try (have c9b2 : (t205 == t208) = false := by first | (simp; done) | (simp at c9; done) | simpa using c9))
          (try (have c9b3 : ¬ (t205 = t208) := by first | (simp; done) | (simp at c9; done) | simpa using c9))
          clear c9
          have H' := Aside0.mk H
          clear H
          go_wp2
          go_meet
          case rel => exact ⟨_, (true), (by first | rfl | (simp; done) | (simp [*]; done)), H', ⟨by first | omega | exact Nat.le_refl _⟩, by repeat (first | exact Drawn0.refl _ | apply Drawn0.step)⟩
        · rw [if_neg c9] at H
          have c9b0 : (t205 != t208) = false := by first | (simp; done) | (simp at c9; done) | simpa using c9
          (try (have c9b1 : decide (t205 = t208) = true := by first | (simp; done) | (simp at c9; done) | simpa using c9))
          (try (have c9b2 : (t205 == t208) = true := by first | (simp; done) | (simp at c9; done) | simpa using c9))
          clear c9
          by_cases c10 : a0 ≥ 0
          · rw [if_pos c10] at H
            have c10b0 : decide (0 ≤ a0) = true := decide_eq_true c10
            clear c10
            have H' := Aside0.mk H
            clear H
            go_wp2
            go_meet
            case rel => exact ⟨_, ((t205 != (decide (a1 ≥ 0)))), (by first | rfl | (simp; done) | (simp [*]; done)), H', ⟨by first | omega | exact Nat.le_refl _⟩, by repeat (first | exact Drawn0.refl _ | apply Drawn0.step)⟩
          · rw [if_neg c10] at H
            have c10b0 : decide (0 ≤ a0) = false := decide_eq_false c10
            clear c10
            have H' := Aside0.mk H
            clear H
            go_wp2
            go_meet
            case rel => exact ⟨_, ((t205 != false)), (by first | rfl | (simp; done) | (simp [*]; done)), H', ⟨by first | omega | exact Nat.le_refl _⟩, by repeat (first | exact Drawn0.refl _ | apply Drawn0.step)⟩
      · rw [if_neg c8] at H
        have c8b0 : (t204 == t207) = false := beq_eq_false_iff_ne.mpr c8
        have c8b1 : (t204 != t207) = true := bne_iff_ne.mpr c8
        have H' := Aside0.mk H
        clear H
        go_wp2
        go_meet
        case rel => exact ⟨_, (true), (by first | rfl | (simp; done) | (simp [*]; done)), H', ⟨by first | omega | exact Nat.le_refl _⟩, by repeat (first | exact Drawn0.refl _ | apply Drawn0.step)⟩
    · rw [if_neg c7] at H
      have c7b0 : (t203 == t206) = false := beq_eq_false_iff_ne.mpr c7
      have c7b1 : (t203 != t206) = true := bne_iff_ne.mpr c7
      (first | rw [c7b0] | (simp only [i64_w, i32_w]; rw [c7b0]) | skip)
      have H' := Aside0.mk H
      clear H
      go_wp2
      go_meet
      case rel => exact ⟨_, (true), (by first | rfl | (simp; done) | (simp [*]; done)), H', ⟨by first | omega | exact Nat.le_refl _⟩, by repeat (first | exact Drawn0.refl _ | apply Drawn0.step)⟩
  case rest =>
    clear HC6
    try clear c1
    try clear p2
    try clear c6
    try clear c7
    try clear c7b0
    try clear c7b1
    try clear c8
    try clear c8b0
    try clear c8b1
    try clear c9
    try clear c9b0
    try clear c9b1
    try clear c9b2
    try clear c10
    try clear c10b0
    obtain ⟨kq, x49_5, rfl, HA, HJ5, ⟨mc5, rfl⟩⟩ := hcut
    cases kq with
    | zero => exact absurd HA.out (by simp [epactlaw02_WideOrder.j0])
    | succ kj5 =>
      have H := HA.out
      clear HA
      simp only [epactlaw02_WideOrder.j0] at H
      by_cases c11 : x49_5 = true
      · subst c11
        have H1 : (some false) = some r := by rw [if_pos rfl] at H; exact H
        clear H
        have H := H1
        clear H1
        obtain rfl := Option.some.inj H
        go_wp2
        go_ret
        exact ⟨by first | rfl | (simp; done) | (simp [*]; done), by repeat (first | exact Drawn0.refl _ | apply Drawn0.step)⟩
      · replace c11 := Bool.eq_false_iff.mpr c11
        subst c11
        have H1 : (if t205 = true then (if a0 < 2147483648 then (if a1 < 2147483648 then (if t202 = true then (if t203 = 0 then (some (t204 == (wrap64 (a0 * a1)))) else (some false)) else (some false)) else (if t202 = true then (if t203 ≥ 0 then (some (decide (t204 ≥ 0))) else (some false)) else (some false))) else (if t202 = true then (if t203 ≥ 0 then (some (decide (t204 ≥ 0))) else (some false)) else (some false))) else (if t202 = true then (if t203 ≥ 0 then (some (decide (t204 ≥ 0))) else (some false)) else (some false))) = some r := by rw [if_neg (show ¬ (false = true) by decide)] at H; exact H
        clear H
        have H := H1
        clear H1
        by_cases c12 : t205 = true
        · subst c12
          have H1 : (if a0 < 2147483648 then (if a1 < 2147483648 then (if t202 = true then (if t203 = 0 then (some (t204 == (wrap64 (a0 * a1)))) else (some false)) else (some false)) else (if t202 = true then (if t203 ≥ 0 then (some (decide (t204 ≥ 0))) else (some false)) else (some false))) else (if t202 = true then (if t203 ≥ 0 then (some (decide (t204 ≥ 0))) else (some false)) else (some false))) = some r := by rw [if_pos rfl] at H; exact H
          clear H
          have H := H1
          clear H1
          by_cases c13 : a0 < 2147483648
          · rw [if_pos c13] at H
            have c13b0 : decide (a0 < 2147483648) = true := decide_eq_true c13
            clear c13
            by_cases c14 : a1 < 2147483648
            · rw [if_pos c14] at H
              have c14b0 : decide (a1 < 2147483648) = true := decide_eq_true c14
              clear c14
              by_cases c15 : t202 = true
              · subst c15
                have H1 : (if t203 = 0 then (some (t204 == (wrap64 (a0 * a1)))) else (some false)) = some r := by rw [if_pos rfl] at H; exact H
                clear H
                have H := H1
                clear H1
                by_cases c16 : t203 = 0
                · rw [if_pos c16] at H
                  have c16b0 : (t203 == 0) = true := beq_iff_eq.mpr c16
                  have c16b1 : (t203 != 0) = false := bne_eq_false_iff_eq.mpr c16
                  clear c16
                  obtain rfl := Option.some.inj H
                  go_wp2
                  go_ret
                  exact ⟨by first | rfl | (simp; done) | (simp [*]; done), by repeat (first | exact Drawn0.refl _ | apply Drawn0.step)⟩
                · rw [if_neg c16] at H
                  have c16b0 : (t203 == 0) = false := beq_eq_false_iff_ne.mpr c16
                  have c16b1 : (t203 != 0) = true := bne_iff_ne.mpr c16
                  obtain rfl := Option.some.inj H
                  go_wp2
                  go_ret
                  exact ⟨by first | rfl | (simp; done) | (simp [*]; done), by repeat (first | exact Drawn0.refl _ | apply Drawn0.step)⟩
              · replace c15 := Bool.eq_false_iff.mpr c15
                subst c15
                have H1 : (some false) = some r := by rw [if_neg (show ¬ (false = true) by decide)] at H; exact H
                clear H
                have H := H1
                clear H1
                obtain rfl := Option.some.inj H
                go_wp2
                go_ret
                exact ⟨by first | rfl | (simp; done) | (simp [*]; done), by repeat (first | exact Drawn0.refl _ | apply Drawn0.step)⟩
            · rw [if_neg c14] at H
              have c14b0 : decide (a1 < 2147483648) = false := decide_eq_false c14
              clear c14
              by_cases c17 : t202 = true
              · subst c17
                have H1 : (if t203 ≥ 0 then (some (decide (t204 ≥ 0))) else (some false)) = some r := by rw [if_pos rfl] at H; exact H
                clear H
                have H := H1
                clear H1
                by_cases c18 : t203 ≥ 0
                · rw [if_pos c18] at H
                  have c18b0 : decide (0 ≤ t203) = true := decide_eq_true c18
                  clear c18
                  obtain rfl := Option.some.inj H
                  go_wp2
                  go_ret
                  exact ⟨by first | rfl | (simp; done) | (simp [*]; done), by repeat (first | exact Drawn0.refl _ | apply Drawn0.step)⟩
                · rw [if_neg c18] at H
                  have c18b0 : decide (0 ≤ t203) = false := decide_eq_false c18
                  clear c18
                  obtain rfl := Option.some.inj H
                  go_wp2
                  go_ret
                  exact ⟨by first | rfl | (simp; done) | (simp [*]; done), by repeat (first | exact Drawn0.refl _ | apply Drawn0.step)⟩
              · replace c17 := Bool.eq_false_iff.mpr c17
                subst c17
                have H1 : (some false) = some r := by rw [if_neg (show ¬ (false = true) by decide)] at H; exact H
                clear H
                have H := H1
                clear H1
                obtain rfl := Option.some.inj H
                go_wp2
                go_ret
                exact ⟨by first | rfl | (simp; done) | (simp [*]; done), by repeat (first | exact Drawn0.refl _ | apply Drawn0.step)⟩
          · rw [if_neg c13] at H
            have c13b0 : decide (a0 < 2147483648) = false := decide_eq_false c13
            clear c13
            by_cases c19 : t202 = true
            · subst c19
              have H1 : (if t203 ≥ 0 then (some (decide (t204 ≥ 0))) else (some false)) = some r := by rw [if_pos rfl] at H; exact H
              clear H
              have H := H1
              clear H1
              by_cases c20 : t203 ≥ 0
              · rw [if_pos c20] at H
                have c20b0 : decide (0 ≤ t203) = true := decide_eq_true c20
                clear c20
                obtain rfl := Option.some.inj H
                go_wp2
                go_ret
                exact ⟨by first | rfl | (simp; done) | (simp [*]; done), by repeat (first | exact Drawn0.refl _ | apply Drawn0.step)⟩
              · rw [if_neg c20] at H
                have c20b0 : decide (0 ≤ t203) = false := decide_eq_false c20
                clear c20
                obtain rfl := Option.some.inj H
                go_wp2
                go_ret
                exact ⟨by first | rfl | (simp; done) | (simp [*]; done), by repeat (first | exact Drawn0.refl _ | apply Drawn0.step)⟩
            · replace c19 := Bool.eq_false_iff.mpr c19
              subst c19
              have H1 : (some false) = some r := by rw [if_neg (show ¬ (false = true) by decide)] at H; exact H
              clear H
              have H := H1
              clear H1
              obtain rfl := Option.some.inj H
              go_wp2
              go_ret
              exact ⟨by first | rfl | (simp; done) | (simp [*]; done), by repeat (first | exact Drawn0.refl _ | apply Drawn0.step)⟩
        · replace c12 := Bool.eq_false_iff.mpr c12
          subst c12
          have H1 : (if t202 = true then (if t203 ≥ 0 then (some (decide (t204 ≥ 0))) else (some false)) else (some false)) = some r := by rw [if_neg (show ¬ (false = true) by decide)] at H; exact H
          clear H
          have H := H1
          clear H1
          by_cases c21 : t202 = true
          · subst c21
            have H1 : (if t203 ≥ 0 then (some (decide (t204 ≥ 0))) else (some false)) = some r := by rw [if_pos rfl] at H; exact H
            clear H
            have H := H1
            clear H1
            by_cases c22 : t203 ≥ 0
            · rw [if_pos c22] at H
              have c22b0 : decide (0 ≤ t203) = true := decide_eq_true c22
              clear c22
              obtain rfl := Option.some.inj H
              go_wp2
              go_ret
              exact ⟨by first | rfl | (simp; done) | (simp [*]; done), by repeat (first | exact Drawn0.refl _ | apply Drawn0.step)⟩
            · rw [if_neg c22] at H
              have c22b0 : decide (0 ≤ t203) = false := decide_eq_false c22
              clear c22
              obtain rfl := Option.some.inj H
              go_wp2
              go_ret
              exact ⟨by first | rfl | (simp; done) | (simp [*]; done), by repeat (first | exact Drawn0.refl _ | apply Drawn0.step)⟩
          · replace c21 := Bool.eq_false_iff.mpr c21
            subst c21
            have H1 : (some false) = some r := by rw [if_neg (show ¬ (false = true) by decide)] at H; exact H
            clear H
            have H := H1
            clear H1
            obtain rfl := Option.some.inj H
            go_wp2
            go_ret
            exact ⟨by first | rfl | (simp; done) | (simp [*]; done), by repeat (first | exact Drawn0.refl _ | apply Drawn0.step)⟩

/-- THE ONE PURE STATEMENT of epactlaw02_WideOrder: yours. -/
def epactlaw02_WideOrder.Pure : Prop := ∀ (a0 : Int) (a1 : Int), (Lit.int .i64 a0).wf = true → (Lit.int .i64 a1).wf = true → ∃ k, epactlaw02_WideOrder.f k a0 a1 = some true
theorem epactlaw02_WideOrder.walk (P : epactlaw02_WideOrder.Pure) (a0 : Int) (a1 : Int) (w : World) (w0 : (Lit.int .i64 a0).wf = true) (w1 : (Lit.int .i64 a1).wf = true) :
    Calls Try.prog 6 #[.int .i64 a0, .int .i64 a1] w fun e w' => e = .returned (.bool true) ∧ Below w.heap.size w w' := by
  obtain ⟨k, h⟩ := P a0 a1 w0 w1
  refine (epactlaw02_WideOrder.calls k a0 a1 true w h).mono ?_
  rintro e w' ⟨rfl, hd⟩
  exact ⟨rfl, hd.below⟩

/-! ### epactlaw02_WideLess: function 7 -/
def epactlaw02_WideLess.j0 : Nat → Int → Int → Int → Int → Bool → Bool → Option (Bool)
  | 0, _, _, _, _, _, _ => none
  | k + 1, x0, x1, x2, x3, x9, x32 => if x32 = true then (if x9 = true then ((wide_Less.f x0 x1 x2 x3).bind fun t210 => (some (!t210))) else (some false)) else ((wide_Mul.f x0 x1).bind fun bt211 => ((wide_Mul.f x2 x3).bind fun bt214 => ((wide_Less.f x0 x1 x2 x3).bind fun t217 => ((wide_Less.f x2 x3 x0 x1).bind fun t218 => (if x9 = true then (if t217 = true then (if t218 = true then (some false) else (if bt211.1 = bt214.1 then (if (true == (bt211.2.1 != bt214.2.1)) = true then (if x3 = 9223372036854775807 then ((wide_Less.f x0 x1 x0 x1).bind fun t219 => (some (!t219))) else ((wide_Less.f x0 x1 x2 (wrap64 (x3 + 1))).bind fun t220 => (if t220 = true then ((wide_Less.f x0 x1 x0 x1).bind fun t221 => (some (!t221))) else (some false)))) else (some false)) else (if x3 = 9223372036854775807 then ((wide_Less.f x0 x1 x0 x1).bind fun t222 => (some (!t222))) else ((wide_Less.f x0 x1 x2 (wrap64 (x3 + 1))).bind fun t223 => (if t223 = true then ((wide_Less.f x0 x1 x0 x1).bind fun t224 => (some (!t224))) else (some false)))))) else (if bt211.1 = bt214.1 then (if (t218 == (bt211.2.1 != bt214.2.1)) = true then ((wide_Less.f x0 x1 x0 x1).bind fun t225 => (some (!t225))) else (some false)) else (if (t218 == true) = true then ((wide_Less.f x0 x1 x0 x1).bind fun t226 => (some (!t226))) else (some false)))) else (some false))))))
def epactlaw02_WideLess.f (k : Nat) (a0 : Int) (a1 : Int) (a2 : Int) (a3 : Int) : Option (Bool) := (epactlaw02_small.f k).bind fun t209 => (if a0 < 0 then (epactlaw02_WideLess.j0 k a0 a1 a2 a3 t209 true) else (if a1 < 0 then (epactlaw02_WideLess.j0 k a0 a1 a2 a3 t209 true) else (if a2 < 0 then (epactlaw02_WideLess.j0 k a0 a1 a2 a3 t209 true) else (epactlaw02_WideLess.j0 k a0 a1 a2 a3 t209 (decide (a3 < 0))))))
theorem epactlaw02_WideLess.mono_l : ∀ k, (∀ y0 y1 y2 y3 y4 y5, LeO (epactlaw02_WideLess.j0 k y0 y1 y2 y3 y4 y5) (epactlaw02_WideLess.j0 (k + 1) y0 y1 y2 y3 y4 y5))
  | 0 => fun _ _ _ _ _ _ r h => by simp [epactlaw02_WideLess.j0] at h
  | k + 1 => by
    have ih0 := epactlaw02_WideLess.mono_l k
    · intro y0 y1 y2 y3 y4 y5
      unfold epactlaw02_WideLess.j0
      repeat' first
      | (with_reducible exact ih0 _ _ _ _ _ _)
      | (with_reducible exact epactlaw02_small.mono _)
      | (with_reducible exact LeO.refl _)
      | (with_reducible exact LeO.none _)
      | (with_reducible refine LeO.ite ?_ ?_)
      | (with_reducible refine LeO.bind ?_ (fun _ => ?_))
      | exact ih0 _ _ _ _ _ _
      | exact epactlaw02_small.mono _
      | exact LeO.none _
      | refine LeO.ite ?_ ?_
      | refine LeO.bind ?_ (fun _ => ?_)
theorem epactlaw02_WideLess.mono : ∀ a0 a1 a2 a3 k, LeO (epactlaw02_WideLess.f k a0 a1 a2 a3) (epactlaw02_WideLess.f (k + 1) a0 a1 a2 a3) := by
  intro a0 a1 a2 a3 k
  have ih0 := epactlaw02_WideLess.mono_l k
  unfold epactlaw02_WideLess.f
  repeat' first
      | (with_reducible exact ih0 _ _ _ _ _ _)
      | (with_reducible exact epactlaw02_small.mono _)
      | (with_reducible exact LeO.refl _)
      | (with_reducible exact LeO.none _)
      | (with_reducible refine LeO.ite ?_ ?_)
      | (with_reducible refine LeO.bind ?_ (fun _ => ?_))
      | exact ih0 _ _ _ _ _ _
      | exact epactlaw02_small.mono _
      | exact LeO.none _
      | refine LeO.ite ?_ ?_
      | refine LeO.bind ?_ (fun _ => ?_)
set_option maxHeartbeats 8000000 in
set_option maxRecDepth 100000 in
theorem epactlaw02_WideLess.calls (k : Nat) (a0 : Int) (a1 : Int) (a2 : Int) (a3 : Int) (r : Bool) (w : World) (h : epactlaw02_WideLess.f k a0 a1 a2 a3 = some r) :
    Calls Try.prog 7 #[.int .i64 a0, .int .i64 a1, .int .i64 a2, .int .i64 a3] w fun e w' => e = .returned (.bool r) ∧ Drawn0 w w' := by
  have H : ((epactlaw02_small.f k).bind fun t209 => (if a0 < 0 then (epactlaw02_WideLess.j0 k a0 a1 a2 a3 t209 true) else (if a1 < 0 then (epactlaw02_WideLess.j0 k a0 a1 a2 a3 t209 true) else (if a2 < 0 then (epactlaw02_WideLess.j0 k a0 a1 a2 a3 t209 true) else (epactlaw02_WideLess.j0 k a0 a1 a2 a3 t209 (decide (a3 < 0))))))) = some r := h
  clear h
  replace H := Option.bind_eq_some_iff.mp H
  obtain ⟨t209, A50, H⟩ := H
  replace H : (if a0 < 0 then (epactlaw02_WideLess.j0 k a0 a1 a2 a3 t209 true) else (if a1 < 0 then (epactlaw02_WideLess.j0 k a0 a1 a2 a3 t209 true) else (if a2 < 0 then (epactlaw02_WideLess.j0 k a0 a1 a2 a3 t209 true) else (epactlaw02_WideLess.j0 k a0 a1 a2 a3 t209 (decide (a3 < 0)))))) = some r := H
  have A5 := Aside0.mk A50
  clear A50
  have HC6 := Aside0.mk H
  clear H
  go_enter Try.func7, Try.ntmps7
  go_upto_region 2 with (first | ((with_reducible refine gate_callee (f := 9) rfl ?_); refine goesL_ (some 18) rfl rfl Try.func9 (by kernel_rfl) rfl #[] rfl (by (try simp only [List.map_toArray, List.map_cons, List.map_nil]); first | done | rfl | (simp only [List.length_drop, List.length_take]; rfl)) ?_; (with_reducible refine (epactlaw02_small.calls k  t209 _ A5.out).mono ?_); rintro e w' ⟨rfl, ⟨nd, rfl⟩⟩; refine ⟨_, rfl, ?_⟩))
  (try simp only [Act.put, List.setIfInBounds_toArray, List.set_cons_zero, List.set_cons_succ])
  go_cut [32] (fun v32 wc => ∃ (kq : Nat) (x32_5 : Bool), v32 = .bool x32_5 ∧ Aside0 (epactlaw02_WideLess.j0 kq a0 a1 a2 a3 t209 x32_5 = some r) ∧ Aside0 (kq ≤ k) ∧ Drawn0 w wc)
  case first =>
    have H := HC6.out
    clear HC6
    by_cases c7 : a0 < 0
    · rw [if_pos c7] at H
      have c7b0 : decide (a0 < 0) = true := decide_eq_true c7
      clear c7
      (first | rw [c7b0] | (simp only [i64_w, i32_w]; rw [c7b0]) | skip)
      have H' := Aside0.mk H
      clear H
      go_wp2
      go_meet
      case rel => exact ⟨_, (true), (by first | rfl | (simp; done) | (simp [*]; done)), H', ⟨by first | omega | exact Nat.le_refl _⟩, by repeat (first | exact Drawn0.refl _ | apply Drawn0.step)⟩
    · rw [if_neg c7] at H
      have c7b0 : decide (a0 < 0) = false := decide_eq_false c7
      clear c7
      (first | rw [c7b0] | (simp only [i64_w, i32_w]; rw [c7b0]) | skip)
      by_cases c8 : a1 < 0
      · rw [if_pos c8] at H
        have c8b0 : decide (a1 < 0) = true := decide_eq_true c8
        clear c8
        have H' := Aside0.mk H
        clear H
        go_wp2
        go_meet
        case rel => exact ⟨_, (true), (by first | rfl | (simp; done) | (simp [*]; done)), H', ⟨by first | omega | exact Nat.le_refl _⟩, by repeat (first | exact Drawn0.refl _ | apply Drawn0.step)⟩
      · rw [if_neg c8] at H
        have c8b0 : decide (a1 < 0) = false := decide_eq_false c8
        clear c8
        by_cases c9 : a2 < 0
        · rw [if_pos c9] at H
          have c9b0 : decide (a2 < 0) = true := decide_eq_true c9
          clear c9
          have H' := Aside0.mk H
          clear H
          go_wp2
          go_meet
          case rel => exact ⟨_, (true), (by first | rfl | (simp; done) | (simp [*]; done)), H', ⟨by first | omega | exact Nat.le_refl _⟩, by repeat (first | exact Drawn0.refl _ | apply Drawn0.step)⟩
        · rw [if_neg c9] at H
          have c9b0 : decide (a2 < 0) = false := decide_eq_false c9
          clear c9
          have H' := Aside0.mk H
          clear H
          go_wp2
          go_meet
          case rel => exact ⟨_, (decide (a3 < 0)), (by first | rfl | (simp; done) | (simp [*]; done)), H', ⟨by first | omega | exact Nat.le_refl _⟩, by repeat (first | exact Drawn0.refl _ | apply Drawn0.step)⟩
  case rest =>
    clear HC6
    try clear p2
    try clear c7
    try clear c7b0
    try clear c8
    try clear c8b0
    try clear c9
    try clear c9b0
    obtain ⟨kq, x32_5, rfl, HA, HJ5, ⟨mc5, rfl⟩⟩ := hcut
    cases kq with
    | zero => exact absurd HA.out (by simp [epactlaw02_WideLess.j0])
    | succ kj5 =>
      have H := HA.out
      clear HA
      simp only [epactlaw02_WideLess.j0] at H
      by_cases c10 : x32_5 = true
      · subst c10
        have H1 : (if t209 = true then ((wide_Less.f a0 a1 a2 a3).bind fun t210 => (some (!t210))) else (some false)) = some r := by rw [if_pos rfl] at H; exact H
        clear H
        have H := H1
        clear H1
        by_cases c11 : t209 = true
        · subst c11
          have H1 : ((wide_Less.f a0 a1 a2 a3).bind fun t210 => (some (!t210))) = some r := by rw [if_pos rfl] at H; exact H
          clear H
          have H := H1
          clear H1
          replace H := Option.bind_eq_some_iff.mp H
          obtain ⟨t210, A120, H⟩ := H
          replace H : (some (!t210)) = some r := H
          have A12 := Aside0.mk A120
          clear A120
          obtain rfl := Option.some.inj H
          go_wp2_with (first | (go_at_call 16; (with_reducible refine (wide_Less.calls a0 a1 a2 a3 t210 _ A12.out).mono ?_); rintro e w' ⟨rfl, ⟨nd, rfl⟩⟩))
          go_ret
          exact ⟨by first | rfl | (simp; done) | (simp [*]; done), by repeat (first | exact Drawn0.refl _ | apply Drawn0.step)⟩
        · replace c11 := Bool.eq_false_iff.mpr c11
          subst c11
          have H1 : (some false) = some r := by rw [if_neg (show ¬ (false = true) by decide)] at H; exact H
          clear H
          have H := H1
          clear H1
          obtain rfl := Option.some.inj H
          go_wp2
          go_ret
          exact ⟨by first | rfl | (simp; done) | (simp [*]; done), by repeat (first | exact Drawn0.refl _ | apply Drawn0.step)⟩
      · replace c10 := Bool.eq_false_iff.mpr c10
        subst c10
        have H1 : ((wide_Mul.f a0 a1).bind fun bt211 => ((wide_Mul.f a2 a3).bind fun bt214 => ((wide_Less.f a0 a1 a2 a3).bind fun t217 => ((wide_Less.f a2 a3 a0 a1).bind fun t218 => (if t209 = true then (if t217 = true then (if t218 = true then (some false) else (if bt211.1 = bt214.1 then (if (true == (bt211.2.1 != bt214.2.1)) = true then (if a3 = 9223372036854775807 then ((wide_Less.f a0 a1 a0 a1).bind fun t219 => (some (!t219))) else ((wide_Less.f a0 a1 a2 (wrap64 (a3 + 1))).bind fun t220 => (if t220 = true then ((wide_Less.f a0 a1 a0 a1).bind fun t221 => (some (!t221))) else (some false)))) else (some false)) else (if a3 = 9223372036854775807 then ((wide_Less.f a0 a1 a0 a1).bind fun t222 => (some (!t222))) else ((wide_Less.f a0 a1 a2 (wrap64 (a3 + 1))).bind fun t223 => (if t223 = true then ((wide_Less.f a0 a1 a0 a1).bind fun t224 => (some (!t224))) else (some false)))))) else (if bt211.1 = bt214.1 then (if (t218 == (bt211.2.1 != bt214.2.1)) = true then ((wide_Less.f a0 a1 a0 a1).bind fun t225 => (some (!t225))) else (some false)) else (if (t218 == true) = true then ((wide_Less.f a0 a1 a0 a1).bind fun t226 => (some (!t226))) else (some false)))) else (some false)))))) = some r := by rw [if_neg (show ¬ (false = true) by decide)] at H; exact H
        clear H
        have H := H1
        clear H1
        replace H := Option.bind_eq_some_iff.mp H
        obtain ⟨⟨t211, t212, t213⟩, A130, H⟩ := H
        replace H : ((wide_Mul.f a2 a3).bind fun bt214 => ((wide_Less.f a0 a1 a2 a3).bind fun t217 => ((wide_Less.f a2 a3 a0 a1).bind fun t218 => (if t209 = true then (if t217 = true then (if t218 = true then (some false) else (if t211 = bt214.1 then (if (true == (t212 != bt214.2.1)) = true then (if a3 = 9223372036854775807 then ((wide_Less.f a0 a1 a0 a1).bind fun t219 => (some (!t219))) else ((wide_Less.f a0 a1 a2 (wrap64 (a3 + 1))).bind fun t220 => (if t220 = true then ((wide_Less.f a0 a1 a0 a1).bind fun t221 => (some (!t221))) else (some false)))) else (some false)) else (if a3 = 9223372036854775807 then ((wide_Less.f a0 a1 a0 a1).bind fun t222 => (some (!t222))) else ((wide_Less.f a0 a1 a2 (wrap64 (a3 + 1))).bind fun t223 => (if t223 = true then ((wide_Less.f a0 a1 a0 a1).bind fun t224 => (some (!t224))) else (some false)))))) else (if t211 = bt214.1 then (if (t218 == (t212 != bt214.2.1)) = true then ((wide_Less.f a0 a1 a0 a1).bind fun t225 => (some (!t225))) else (some false)) else (if (t218 == true) = true then ((wide_Less.f a0 a1 a0 a1).bind fun t226 => (some (!t226))) else (some false)))) else (some false))))) = some r := H
        have A13 := Aside0.mk A130
        clear A130
        replace H := Option.bind_eq_some_iff.mp H
        obtain ⟨⟨t214, t215, t216⟩, A140, H⟩ := H
        replace H : ((wide_Less.f a0 a1 a2 a3).bind fun t217 => ((wide_Less.f a2 a3 a0 a1).bind fun t218 => (if t209 = true then (if t217 = true then (if t218 = true then (some false) else (if t211 = t214 then (if (true == (t212 != t215)) = true then (if a3 = 9223372036854775807 then ((wide_Less.f a0 a1 a0 a1).bind fun t219 => (some (!t219))) else ((wide_Less.f a0 a1 a2 (wrap64 (a3 + 1))).bind fun t220 => (if t220 = true then ((wide_Less.f a0 a1 a0 a1).bind fun t221 => (some (!t221))) else (some false)))) else (some false)) else (if a3 = 9223372036854775807 then ((wide_Less.f a0 a1 a0 a1).bind fun t222 => (some (!t222))) else ((wide_Less.f a0 a1 a2 (wrap64 (a3 + 1))).bind fun t223 => (if t223 = true then ((wide_Less.f a0 a1 a0 a1).bind fun t224 => (some (!t224))) else (some false)))))) else (if t211 = t214 then (if (t218 == (t212 != t215)) = true then ((wide_Less.f a0 a1 a0 a1).bind fun t225 => (some (!t225))) else (some false)) else (if (t218 == true) = true then ((wide_Less.f a0 a1 a0 a1).bind fun t226 => (some (!t226))) else (some false)))) else (some false)))) = some r := H
        have A14 := Aside0.mk A140
        clear A140
        replace H := Option.bind_eq_some_iff.mp H
        obtain ⟨t217, A150, H⟩ := H
        replace H : ((wide_Less.f a2 a3 a0 a1).bind fun t218 => (if t209 = true then (if t217 = true then (if t218 = true then (some false) else (if t211 = t214 then (if (true == (t212 != t215)) = true then (if a3 = 9223372036854775807 then ((wide_Less.f a0 a1 a0 a1).bind fun t219 => (some (!t219))) else ((wide_Less.f a0 a1 a2 (wrap64 (a3 + 1))).bind fun t220 => (if t220 = true then ((wide_Less.f a0 a1 a0 a1).bind fun t221 => (some (!t221))) else (some false)))) else (some false)) else (if a3 = 9223372036854775807 then ((wide_Less.f a0 a1 a0 a1).bind fun t222 => (some (!t222))) else ((wide_Less.f a0 a1 a2 (wrap64 (a3 + 1))).bind fun t223 => (if t223 = true then ((wide_Less.f a0 a1 a0 a1).bind fun t224 => (some (!t224))) else (some false)))))) else (if t211 = t214 then (if (t218 == (t212 != t215)) = true then ((wide_Less.f a0 a1 a0 a1).bind fun t225 => (some (!t225))) else (some false)) else (if (t218 == true) = true then ((wide_Less.f a0 a1 a0 a1).bind fun t226 => (some (!t226))) else (some false)))) else (some false))) = some r := H
        have A15 := Aside0.mk A150
        clear A150
        replace H := Option.bind_eq_some_iff.mp H
        obtain ⟨t218, A160, H⟩ := H
        replace H : (if t209 = true then (if t217 = true then (if t218 = true then (some false) else (if t211 = t214 then (if (true == (t212 != t215)) = true then (if a3 = 9223372036854775807 then ((wide_Less.f a0 a1 a0 a1).bind fun t219 => (some (!t219))) else ((wide_Less.f a0 a1 a2 (wrap64 (a3 + 1))).bind fun t220 => (if t220 = true then ((wide_Less.f a0 a1 a0 a1).bind fun t221 => (some (!t221))) else (some false)))) else (some false)) else (if a3 = 9223372036854775807 then ((wide_Less.f a0 a1 a0 a1).bind fun t222 => (some (!t222))) else ((wide_Less.f a0 a1 a2 (wrap64 (a3 + 1))).bind fun t223 => (if t223 = true then ((wide_Less.f a0 a1 a0 a1).bind fun t224 => (some (!t224))) else (some false)))))) else (if t211 = t214 then (if (t218 == (t212 != t215)) = true then ((wide_Less.f a0 a1 a0 a1).bind fun t225 => (some (!t225))) else (some false)) else (if (t218 == true) = true then ((wide_Less.f a0 a1 a0 a1).bind fun t226 => (some (!t226))) else (some false)))) else (some false)) = some r := H
        have A16 := Aside0.mk A160
        clear A160
        by_cases c17 : t209 = true
        · subst c17
          have H1 : (if t217 = true then (if t218 = true then (some false) else (if t211 = t214 then (if (true == (t212 != t215)) = true then (if a3 = 9223372036854775807 then ((wide_Less.f a0 a1 a0 a1).bind fun t219 => (some (!t219))) else ((wide_Less.f a0 a1 a2 (wrap64 (a3 + 1))).bind fun t220 => (if t220 = true then ((wide_Less.f a0 a1 a0 a1).bind fun t221 => (some (!t221))) else (some false)))) else (some false)) else (if a3 = 9223372036854775807 then ((wide_Less.f a0 a1 a0 a1).bind fun t222 => (some (!t222))) else ((wide_Less.f a0 a1 a2 (wrap64 (a3 + 1))).bind fun t223 => (if t223 = true then ((wide_Less.f a0 a1 a0 a1).bind fun t224 => (some (!t224))) else (some false)))))) else (if t211 = t214 then (if (t218 == (t212 != t215)) = true then ((wide_Less.f a0 a1 a0 a1).bind fun t225 => (some (!t225))) else (some false)) else (if (t218 == true) = true then ((wide_Less.f a0 a1 a0 a1).bind fun t226 => (some (!t226))) else (some false)))) = some r := by rw [if_pos rfl] at H; exact H
          clear H
          have H := H1
          clear H1
          by_cases c18 : t217 = true
          · subst c18
            have H1 : (if t218 = true then (some false) else (if t211 = t214 then (if (true == (t212 != t215)) = true then (if a3 = 9223372036854775807 then ((wide_Less.f a0 a1 a0 a1).bind fun t219 => (some (!t219))) else ((wide_Less.f a0 a1 a2 (wrap64 (a3 + 1))).bind fun t220 => (if t220 = true then ((wide_Less.f a0 a1 a0 a1).bind fun t221 => (some (!t221))) else (some false)))) else (some false)) else (if a3 = 9223372036854775807 then ((wide_Less.f a0 a1 a0 a1).bind fun t222 => (some (!t222))) else ((wide_Less.f a0 a1 a2 (wrap64 (a3 + 1))).bind fun t223 => (if t223 = true then ((wide_Less.f a0 a1 a0 a1).bind fun t224 => (some (!t224))) else (some false)))))) = some r := by rw [if_pos rfl] at H; exact H
            clear H
            have H := H1
            clear H1
            by_cases c19 : t218 = true
            · subst c19
              have H1 : (some false) = some r := by rw [if_pos rfl] at H; exact H
              clear H
              have H := H1
              clear H1
              obtain rfl := Option.some.inj H
              go_wp2_with (first | ((with_reducible refine gate_callee (f := 10) rfl ?_); refine goesL_ (some 45) rfl rfl Try.func10 (by kernel_rfl) rfl #[.int .i64 a0, .int .i64 a1] rfl (by (try simp only [List.map_toArray, List.map_cons, List.map_nil]); first | done | rfl | (simp only [List.length_drop, List.length_take]; rfl)) ?_; (with_reducible refine (wide_Mul.calls a0 a1 t211 t212 t213 _ A13.out).mono ?_); rintro e w' ⟨rfl, ⟨nd, rfl⟩⟩; refine ⟨_, rfl, ?_⟩) | ((with_reducible refine gate_callee (f := 10) rfl ?_); refine goesL_ (some 52) rfl rfl Try.func10 (by kernel_rfl) rfl #[.int .i64 a2, .int .i64 a3] rfl (by (try simp only [List.map_toArray, List.map_cons, List.map_nil]); first | done | rfl | (simp only [List.length_drop, List.length_take]; rfl)) ?_; (with_reducible refine (wide_Mul.calls a2 a3 t214 t215 t216 _ A14.out).mono ?_); rintro e w' ⟨rfl, ⟨nd, rfl⟩⟩; refine ⟨_, rfl, ?_⟩) | ((with_reducible refine gate_callee (f := 16) rfl ?_); refine goesL_ (some 60) rfl rfl Try.func16 (by kernel_rfl) rfl #[.int .i64 a0, .int .i64 a1, .int .i64 a2, .int .i64 a3] rfl (by (try simp only [List.map_toArray, List.map_cons, List.map_nil]); first | done | rfl | (simp only [List.length_drop, List.length_take]; rfl)) ?_; (with_reducible refine (wide_Less.calls a0 a1 a2 a3 true _ A15.out).mono ?_); rintro e w' ⟨rfl, ⟨nd, rfl⟩⟩; refine ⟨_, rfl, ?_⟩) | ((with_reducible refine gate_callee (f := 16) rfl ?_); refine goesL_ (some 65) rfl rfl Try.func16 (by kernel_rfl) rfl #[.int .i64 a2, .int .i64 a3, .int .i64 a0, .int .i64 a1] rfl (by (try simp only [List.map_toArray, List.map_cons, List.map_nil]); first | done | rfl | (simp only [List.length_drop, List.length_take]; rfl)) ?_; (with_reducible refine (wide_Less.calls a2 a3 a0 a1 true _ A16.out).mono ?_); rintro e w' ⟨rfl, ⟨nd, rfl⟩⟩; refine ⟨_, rfl, ?_⟩))
              go_ret
              exact ⟨by first | rfl | (simp; done) | (simp [*]; done), by repeat (first | exact Drawn0.refl _ | apply Drawn0.step)⟩
            · replace c19 := Bool.eq_false_iff.mpr c19
              subst c19
              have H1 : (if t211 = t214 then (if (true == (t212 != t215)) = true then (if a3 = 9223372036854775807 then ((wide_Less.f a0 a1 a0 a1).bind fun t219 => (some (!t219))) else ((wide_Less.f a0 a1 a2 (wrap64 (a3 + 1))).bind fun t220 => (if t220 = true then ((wide_Less.f a0 a1 a0 a1).bind fun t221 => (some (!t221))) else (some false)))) else (some false)) else (if a3 = 9223372036854775807 then ((wide_Less.f a0 a1 a0 a1).bind fun t222 => (some (!t222))) else ((wide_Less.f a0 a1 a2 (wrap64 (a3 + 1))).bind fun t223 => (if t223 = true then ((wide_Less.f a0 a1 a0 a1).bind fun t224 => (some (!t224))) else (some false))))) = some r := by rw [if_neg (show ¬ (false = true) by decide)] at H; exact H
              clear H
              have H := H1
              clear H1
              by_cases c20 : t211 = t214
              · rw [if_pos c20] at H
                have c20b0 : (t211 == t214) = true := beq_iff_eq.mpr c20
                have c20b1 : (t211 != t214) = false := bne_eq_false_iff_eq.mpr c20
                clear c20
                by_cases c21 : (true == (t212 != t215)) = true
                · rw [if_pos c21] at H
                  have c21b0 : (true == (t212 != t215)) = true := c21
                  (try (have c21b1 : decide (true = (t212 != t215)) = true := by first | (simp; done) | (simp at c21; done) | simpa using c21))
                  (try (have c21b2 : (true == (t212 != t215)) = true := by first | (simp; done) | (simp at c21; done) | simpa using c21))
                  clear c21
                  by_cases c22 : a3 = 9223372036854775807
                  · rw [if_pos c22] at H
                    have c22b0 : (a3 == 9223372036854775807) = true := beq_iff_eq.mpr c22
                    have c22b1 : (a3 != 9223372036854775807) = false := bne_eq_false_iff_eq.mpr c22
                    clear c22
                    replace H := Option.bind_eq_some_iff.mp H
                    obtain ⟨t219, A230, H⟩ := H
                    replace H : (some (!t219)) = some r := H
                    have A23 := Aside0.mk A230
                    clear A230
                    obtain rfl := Option.some.inj H
                    go_wp2_with (first | ((with_reducible refine gate_callee (f := 10) rfl ?_); refine goesL_ (some 45) rfl rfl Try.func10 (by kernel_rfl) rfl #[.int .i64 a0, .int .i64 a1] rfl (by (try simp only [List.map_toArray, List.map_cons, List.map_nil]); first | done | rfl | (simp only [List.length_drop, List.length_take]; rfl)) ?_; (with_reducible refine (wide_Mul.calls a0 a1 t211 t212 t213 _ A13.out).mono ?_); rintro e w' ⟨rfl, ⟨nd, rfl⟩⟩; refine ⟨_, rfl, ?_⟩) | ((with_reducible refine gate_callee (f := 10) rfl ?_); refine goesL_ (some 52) rfl rfl Try.func10 (by kernel_rfl) rfl #[.int .i64 a2, .int .i64 a3] rfl (by (try simp only [List.map_toArray, List.map_cons, List.map_nil]); first | done | rfl | (simp only [List.length_drop, List.length_take]; rfl)) ?_; (with_reducible refine (wide_Mul.calls a2 a3 t214 t215 t216 _ A14.out).mono ?_); rintro e w' ⟨rfl, ⟨nd, rfl⟩⟩; refine ⟨_, rfl, ?_⟩) | ((with_reducible refine gate_callee (f := 16) rfl ?_); refine goesL_ (some 60) rfl rfl Try.func16 (by kernel_rfl) rfl #[.int .i64 a0, .int .i64 a1, .int .i64 a2, .int .i64 a3] rfl (by (try simp only [List.map_toArray, List.map_cons, List.map_nil]); first | done | rfl | (simp only [List.length_drop, List.length_take]; rfl)) ?_; (with_reducible refine (wide_Less.calls a0 a1 a2 a3 true _ A15.out).mono ?_); rintro e w' ⟨rfl, ⟨nd, rfl⟩⟩; refine ⟨_, rfl, ?_⟩) | ((with_reducible refine gate_callee (f := 16) rfl ?_); refine goesL_ (some 65) rfl rfl Try.func16 (by kernel_rfl) rfl #[.int .i64 a2, .int .i64 a3, .int .i64 a0, .int .i64 a1] rfl (by (try simp only [List.map_toArray, List.map_cons, List.map_nil]); first | done | rfl | (simp only [List.length_drop, List.length_take]; rfl)) ?_; (with_reducible refine (wide_Less.calls a2 a3 a0 a1 false _ A16.out).mono ?_); rintro e w' ⟨rfl, ⟨nd, rfl⟩⟩; refine ⟨_, rfl, ?_⟩) | (go_at_call 16; (with_reducible refine (wide_Less.calls a0 a1 a0 a1 t219 _ A23.out).mono ?_); rintro e w' ⟨rfl, ⟨nd, rfl⟩⟩))
                    go_ret
                    exact ⟨by first | rfl | (simp; done) | (simp [*]; done), by repeat (first | exact Drawn0.refl _ | apply Drawn0.step)⟩
                  · rw [if_neg c22] at H
                    have c22b0 : (a3 == 9223372036854775807) = false := beq_eq_false_iff_ne.mpr c22
                    have c22b1 : (a3 != 9223372036854775807) = true := bne_iff_ne.mpr c22
                    replace H := Option.bind_eq_some_iff.mp H
                    obtain ⟨t220, A240, H⟩ := H
                    replace H : (if t220 = true then ((wide_Less.f a0 a1 a0 a1).bind fun t221 => (some (!t221))) else (some false)) = some r := H
                    have A24 := Aside0.mk A240
                    clear A240
                    by_cases c25 : t220 = true
                    · subst c25
                      have H1 : ((wide_Less.f a0 a1 a0 a1).bind fun t221 => (some (!t221))) = some r := by rw [if_pos rfl] at H; exact H
                      clear H
                      have H := H1
                      clear H1
                      replace H := Option.bind_eq_some_iff.mp H
                      obtain ⟨t221, A260, H⟩ := H
                      replace H : (some (!t221)) = some r := H
                      have A26 := Aside0.mk A260
                      clear A260
                      obtain rfl := Option.some.inj H
                      go_wp2_with (first | ((with_reducible refine gate_callee (f := 10) rfl ?_); refine goesL_ (some 45) rfl rfl Try.func10 (by kernel_rfl) rfl #[.int .i64 a0, .int .i64 a1] rfl (by (try simp only [List.map_toArray, List.map_cons, List.map_nil]); first | done | rfl | (simp only [List.length_drop, List.length_take]; rfl)) ?_; (with_reducible refine (wide_Mul.calls a0 a1 t211 t212 t213 _ A13.out).mono ?_); rintro e w' ⟨rfl, ⟨nd, rfl⟩⟩; refine ⟨_, rfl, ?_⟩) | ((with_reducible refine gate_callee (f := 10) rfl ?_); refine goesL_ (some 52) rfl rfl Try.func10 (by kernel_rfl) rfl #[.int .i64 a2, .int .i64 a3] rfl (by (try simp only [List.map_toArray, List.map_cons, List.map_nil]); first | done | rfl | (simp only [List.length_drop, List.length_take]; rfl)) ?_; (with_reducible refine (wide_Mul.calls a2 a3 t214 t215 t216 _ A14.out).mono ?_); rintro e w' ⟨rfl, ⟨nd, rfl⟩⟩; refine ⟨_, rfl, ?_⟩) | ((with_reducible refine gate_callee (f := 16) rfl ?_); refine goesL_ (some 60) rfl rfl Try.func16 (by kernel_rfl) rfl #[.int .i64 a0, .int .i64 a1, .int .i64 a2, .int .i64 a3] rfl (by (try simp only [List.map_toArray, List.map_cons, List.map_nil]); first | done | rfl | (simp only [List.length_drop, List.length_take]; rfl)) ?_; (with_reducible refine (wide_Less.calls a0 a1 a2 a3 true _ A15.out).mono ?_); rintro e w' ⟨rfl, ⟨nd, rfl⟩⟩; refine ⟨_, rfl, ?_⟩) | ((with_reducible refine gate_callee (f := 16) rfl ?_); refine goesL_ (some 65) rfl rfl Try.func16 (by kernel_rfl) rfl #[.int .i64 a2, .int .i64 a3, .int .i64 a0, .int .i64 a1] rfl (by (try simp only [List.map_toArray, List.map_cons, List.map_nil]); first | done | rfl | (simp only [List.length_drop, List.length_take]; rfl)) ?_; (with_reducible refine (wide_Less.calls a2 a3 a0 a1 false _ A16.out).mono ?_); rintro e w' ⟨rfl, ⟨nd, rfl⟩⟩; refine ⟨_, rfl, ?_⟩) | (go_at_call 16; (with_reducible refine (wide_Less.calls a0 a1 a2 (wrap64 (a3 + 1)) true _ A24.out).mono ?_); rintro e w' ⟨rfl, ⟨nd, rfl⟩⟩) | (go_at_call 16; (with_reducible refine (wide_Less.calls a0 a1 a0 a1 t221 _ A26.out).mono ?_); rintro e w' ⟨rfl, ⟨nd, rfl⟩⟩))
                      go_ret
                      exact ⟨by first | rfl | (simp; done) | (simp [*]; done), by repeat (first | exact Drawn0.refl _ | apply Drawn0.step)⟩
                    · replace c25 := Bool.eq_false_iff.mpr c25
                      subst c25
                      have H1 : (some false) = some r := by rw [if_neg (show ¬ (false = true) by decide)] at H; exact H
                      clear H
                      have H := H1
                      clear H1
                      obtain rfl := Option.some.inj H
                      go_wp2_with (first | ((with_reducible refine gate_callee (f := 10) rfl ?_); refine goesL_ (some 45) rfl rfl Try.func10 (by kernel_rfl) rfl #[.int .i64 a0, .int .i64 a1] rfl (by (try simp only [List.map_toArray, List.map_cons, List.map_nil]); first | done | rfl | (simp only [List.length_drop, List.length_take]; rfl)) ?_; (with_reducible refine (wide_Mul.calls a0 a1 t211 t212 t213 _ A13.out).mono ?_); rintro e w' ⟨rfl, ⟨nd, rfl⟩⟩; refine ⟨_, rfl, ?_⟩) | ((with_reducible refine gate_callee (f := 10) rfl ?_); refine goesL_ (some 52) rfl rfl Try.func10 (by kernel_rfl) rfl #[.int .i64 a2, .int .i64 a3] rfl (by (try simp only [List.map_toArray, List.map_cons, List.map_nil]); first | done | rfl | (simp only [List.length_drop, List.length_take]; rfl)) ?_; (with_reducible refine (wide_Mul.calls a2 a3 t214 t215 t216 _ A14.out).mono ?_); rintro e w' ⟨rfl, ⟨nd, rfl⟩⟩; refine ⟨_, rfl, ?_⟩) | ((with_reducible refine gate_callee (f := 16) rfl ?_); refine goesL_ (some 60) rfl rfl Try.func16 (by kernel_rfl) rfl #[.int .i64 a0, .int .i64 a1, .int .i64 a2, .int .i64 a3] rfl (by (try simp only [List.map_toArray, List.map_cons, List.map_nil]); first | done | rfl | (simp only [List.length_drop, List.length_take]; rfl)) ?_; (with_reducible refine (wide_Less.calls a0 a1 a2 a3 true _ A15.out).mono ?_); rintro e w' ⟨rfl, ⟨nd, rfl⟩⟩; refine ⟨_, rfl, ?_⟩) | ((with_reducible refine gate_callee (f := 16) rfl ?_); refine goesL_ (some 65) rfl rfl Try.func16 (by kernel_rfl) rfl #[.int .i64 a2, .int .i64 a3, .int .i64 a0, .int .i64 a1] rfl (by (try simp only [List.map_toArray, List.map_cons, List.map_nil]); first | done | rfl | (simp only [List.length_drop, List.length_take]; rfl)) ?_; (with_reducible refine (wide_Less.calls a2 a3 a0 a1 false _ A16.out).mono ?_); rintro e w' ⟨rfl, ⟨nd, rfl⟩⟩; refine ⟨_, rfl, ?_⟩) | (go_at_call 16; (with_reducible refine (wide_Less.calls a0 a1 a2 (wrap64 (a3 + 1)) false _ A24.out).mono ?_); rintro e w' ⟨rfl, ⟨nd, rfl⟩⟩))
                      go_ret
                      exact ⟨by first | rfl | (simp; done) | (simp [*]; done), by repeat (first | exact Drawn0.refl _ | apply Drawn0.step)⟩
                · rw [if_neg c21] at H
                  have c21b0 : (true == (t212 != t215)) = false := by first | (simp; done) | (simp at c21; done) | simpa using c21
                  (try (have c21b1 : decide (true = (t212 != t215)) = false := by first | (simp; done) | (simp at c21; done) | simpa using c21))
                  (try (have c21b2 : (true == (t212 != t215)) = false := by first | (simp; done) | (simp at c21; done) | simpa using c21))
                  (try (have c21b3 : ¬ (true = (t212 != t215)) := by first | (simp; done) | (simp at c21; done) | simpa using c21))
                  clear c21
                  obtain rfl := Option.some.inj H
                  go_wp2_with (first | ((with_reducible refine gate_callee (f := 10) rfl ?_); refine goesL_ (some 45) rfl rfl Try.func10 (by kernel_rfl) rfl #[.int .i64 a0, .int .i64 a1] rfl (by (try simp only [List.map_toArray, List.map_cons, List.map_nil]); first | done | rfl | (simp only [List.length_drop, List.length_take]; rfl)) ?_; (with_reducible refine (wide_Mul.calls a0 a1 t211 t212 t213 _ A13.out).mono ?_); rintro e w' ⟨rfl, ⟨nd, rfl⟩⟩; refine ⟨_, rfl, ?_⟩) | ((with_reducible refine gate_callee (f := 10) rfl ?_); refine goesL_ (some 52) rfl rfl Try.func10 (by kernel_rfl) rfl #[.int .i64 a2, .int .i64 a3] rfl (by (try simp only [List.map_toArray, List.map_cons, List.map_nil]); first | done | rfl | (simp only [List.length_drop, List.length_take]; rfl)) ?_; (with_reducible refine (wide_Mul.calls a2 a3 t214 t215 t216 _ A14.out).mono ?_); rintro e w' ⟨rfl, ⟨nd, rfl⟩⟩; refine ⟨_, rfl, ?_⟩) | ((with_reducible refine gate_callee (f := 16) rfl ?_); refine goesL_ (some 60) rfl rfl Try.func16 (by kernel_rfl) rfl #[.int .i64 a0, .int .i64 a1, .int .i64 a2, .int .i64 a3] rfl (by (try simp only [List.map_toArray, List.map_cons, List.map_nil]); first | done | rfl | (simp only [List.length_drop, List.length_take]; rfl)) ?_; (with_reducible refine (wide_Less.calls a0 a1 a2 a3 true _ A15.out).mono ?_); rintro e w' ⟨rfl, ⟨nd, rfl⟩⟩; refine ⟨_, rfl, ?_⟩) | ((with_reducible refine gate_callee (f := 16) rfl ?_); refine goesL_ (some 65) rfl rfl Try.func16 (by kernel_rfl) rfl #[.int .i64 a2, .int .i64 a3, .int .i64 a0, .int .i64 a1] rfl (by (try simp only [List.map_toArray, List.map_cons, List.map_nil]); first | done | rfl | (simp only [List.length_drop, List.length_take]; rfl)) ?_; (with_reducible refine (wide_Less.calls a2 a3 a0 a1 false _ A16.out).mono ?_); rintro e w' ⟨rfl, ⟨nd, rfl⟩⟩; refine ⟨_, rfl, ?_⟩))
                  go_ret
                  exact ⟨by first | rfl | (simp; done) | (simp [*]; done), by repeat (first | exact Drawn0.refl _ | apply Drawn0.step)⟩
              · rw [if_neg c20] at H
                have c20b0 : (t211 == t214) = false := beq_eq_false_iff_ne.mpr c20
                have c20b1 : (t211 != t214) = true := bne_iff_ne.mpr c20
                by_cases c27 : a3 = 9223372036854775807
                · rw [if_pos c27] at H
                  have c27b0 : (a3 == 9223372036854775807) = true := beq_iff_eq.mpr c27
                  have c27b1 : (a3 != 9223372036854775807) = false := bne_eq_false_iff_eq.mpr c27
                  clear c27
                  replace H := Option.bind_eq_some_iff.mp H
                  obtain ⟨t222, A280, H⟩ := H
                  replace H : (some (!t222)) = some r := H
                  have A28 := Aside0.mk A280
                  clear A280
                  obtain rfl := Option.some.inj H
                  go_wp2_with (first | ((with_reducible refine gate_callee (f := 10) rfl ?_); refine goesL_ (some 45) rfl rfl Try.func10 (by kernel_rfl) rfl #[.int .i64 a0, .int .i64 a1] rfl (by (try simp only [List.map_toArray, List.map_cons, List.map_nil]); first | done | rfl | (simp only [List.length_drop, List.length_take]; rfl)) ?_; (with_reducible refine (wide_Mul.calls a0 a1 t211 t212 t213 _ A13.out).mono ?_); rintro e w' ⟨rfl, ⟨nd, rfl⟩⟩; refine ⟨_, rfl, ?_⟩) | ((with_reducible refine gate_callee (f := 10) rfl ?_); refine goesL_ (some 52) rfl rfl Try.func10 (by kernel_rfl) rfl #[.int .i64 a2, .int .i64 a3] rfl (by (try simp only [List.map_toArray, List.map_cons, List.map_nil]); first | done | rfl | (simp only [List.length_drop, List.length_take]; rfl)) ?_; (with_reducible refine (wide_Mul.calls a2 a3 t214 t215 t216 _ A14.out).mono ?_); rintro e w' ⟨rfl, ⟨nd, rfl⟩⟩; refine ⟨_, rfl, ?_⟩) | ((with_reducible refine gate_callee (f := 16) rfl ?_); refine goesL_ (some 60) rfl rfl Try.func16 (by kernel_rfl) rfl #[.int .i64 a0, .int .i64 a1, .int .i64 a2, .int .i64 a3] rfl (by (try simp only [List.map_toArray, List.map_cons, List.map_nil]); first | done | rfl | (simp only [List.length_drop, List.length_take]; rfl)) ?_; (with_reducible refine (wide_Less.calls a0 a1 a2 a3 true _ A15.out).mono ?_); rintro e w' ⟨rfl, ⟨nd, rfl⟩⟩; refine ⟨_, rfl, ?_⟩) | ((with_reducible refine gate_callee (f := 16) rfl ?_); refine goesL_ (some 65) rfl rfl Try.func16 (by kernel_rfl) rfl #[.int .i64 a2, .int .i64 a3, .int .i64 a0, .int .i64 a1] rfl (by (try simp only [List.map_toArray, List.map_cons, List.map_nil]); first | done | rfl | (simp only [List.length_drop, List.length_take]; rfl)) ?_; (with_reducible refine (wide_Less.calls a2 a3 a0 a1 false _ A16.out).mono ?_); rintro e w' ⟨rfl, ⟨nd, rfl⟩⟩; refine ⟨_, rfl, ?_⟩) | (go_at_call 16; (with_reducible refine (wide_Less.calls a0 a1 a0 a1 t222 _ A28.out).mono ?_); rintro e w' ⟨rfl, ⟨nd, rfl⟩⟩))
                  go_ret
                  exact ⟨by first | rfl | (simp; done) | (simp [*]; done), by repeat (first | exact Drawn0.refl _ | apply Drawn0.step)⟩
                · rw [if_neg c27] at H
                  have c27b0 : (a3 == 9223372036854775807) = false := beq_eq_false_iff_ne.mpr c27
                  have c27b1 : (a3 != 9223372036854775807) = true := bne_iff_ne.mpr c27
                  replace H := Option.bind_eq_some_iff.mp H
                  obtain ⟨t223, A290, H⟩ := H
                  replace H : (if t223 = true then ((wide_Less.f a0 a1 a0 a1).bind fun t224 => (some (!t224))) else (some false)) = some r := H
                  have A29 := Aside0.mk A290
                  clear A290
                  by_cases c30 : t223 = true
                  · subst c30
                    have H1 : ((wide_Less.f a0 a1 a0 a1).bind fun t224 => (some (!t224))) = some r := by rw [if_pos rfl] at H; exact H
                    clear H
                    have H := H1
                    clear H1
                    replace H := Option.bind_eq_some_iff.mp H
                    obtain ⟨t224, A310, H⟩ := H
                    replace H : (some (!t224)) = some r := H
                    have A31 := Aside0.mk A310
                    clear A310
                    obtain rfl := Option.some.inj H
                    go_wp2_with (first | ((with_reducible refine gate_callee (f := 10) rfl ?_); refine goesL_ (some 45) rfl rfl Try.func10 (by kernel_rfl) rfl #[.int .i64 a0, .int .i64 a1] rfl (by (try simp only [List.map_toArray, List.map_cons, List.map_nil]); first | done | rfl | (simp only [List.length_drop, List.length_take]; rfl)) ?_; (with_reducible refine (wide_Mul.calls a0 a1 t211 t212 t213 _ A13.out).mono ?_); rintro e w' ⟨rfl, ⟨nd, rfl⟩⟩; refine ⟨_, rfl, ?_⟩) | ((with_reducible refine gate_callee (f := 10) rfl ?_); refine goesL_ (some 52) rfl rfl Try.func10 (by kernel_rfl) rfl #[.int .i64 a2, .int .i64 a3] rfl (by (try simp only [List.map_toArray, List.map_cons, List.map_nil]); first | done | rfl | (simp only [List.length_drop, List.length_take]; rfl)) ?_; (with_reducible refine (wide_Mul.calls a2 a3 t214 t215 t216 _ A14.out).mono ?_); rintro e w' ⟨rfl, ⟨nd, rfl⟩⟩; refine ⟨_, rfl, ?_⟩) | ((with_reducible refine gate_callee (f := 16) rfl ?_); refine goesL_ (some 60) rfl rfl Try.func16 (by kernel_rfl) rfl #[.int .i64 a0, .int .i64 a1, .int .i64 a2, .int .i64 a3] rfl (by (try simp only [List.map_toArray, List.map_cons, List.map_nil]); first | done | rfl | (simp only [List.length_drop, List.length_take]; rfl)) ?_; (with_reducible refine (wide_Less.calls a0 a1 a2 a3 true _ A15.out).mono ?_); rintro e w' ⟨rfl, ⟨nd, rfl⟩⟩; refine ⟨_, rfl, ?_⟩) | ((with_reducible refine gate_callee (f := 16) rfl ?_); refine goesL_ (some 65) rfl rfl Try.func16 (by kernel_rfl) rfl #[.int .i64 a2, .int .i64 a3, .int .i64 a0, .int .i64 a1] rfl (by (try simp only [List.map_toArray, List.map_cons, List.map_nil]); first | done | rfl | (simp only [List.length_drop, List.length_take]; rfl)) ?_; (with_reducible refine (wide_Less.calls a2 a3 a0 a1 false _ A16.out).mono ?_); rintro e w' ⟨rfl, ⟨nd, rfl⟩⟩; refine ⟨_, rfl, ?_⟩) | (go_at_call 16; (with_reducible refine (wide_Less.calls a0 a1 a2 (wrap64 (a3 + 1)) true _ A29.out).mono ?_); rintro e w' ⟨rfl, ⟨nd, rfl⟩⟩) | (go_at_call 16; (with_reducible refine (wide_Less.calls a0 a1 a0 a1 t224 _ A31.out).mono ?_); rintro e w' ⟨rfl, ⟨nd, rfl⟩⟩))
                    go_ret
                    exact ⟨by first | rfl | (simp; done) | (simp [*]; done), by repeat (first | exact Drawn0.refl _ | apply Drawn0.step)⟩
                  · replace c30 := Bool.eq_false_iff.mpr c30
                    subst c30
                    have H1 : (some false) = some r := by rw [if_neg (show ¬ (false = true) by decide)] at H; exact H
                    clear H
                    have H := H1
                    clear H1
                    obtain rfl := Option.some.inj H
                    go_wp2_with (first | ((with_reducible refine gate_callee (f := 10) rfl ?_); refine goesL_ (some 45) rfl rfl Try.func10 (by kernel_rfl) rfl #[.int .i64 a0, .int .i64 a1] rfl (by (try simp only [List.map_toArray, List.map_cons, List.map_nil]); first | done | rfl | (simp only [List.length_drop, List.length_take]; rfl)) ?_; (with_reducible refine (wide_Mul.calls a0 a1 t211 t212 t213 _ A13.out).mono ?_); rintro e w' ⟨rfl, ⟨nd, rfl⟩⟩; refine ⟨_, rfl, ?_⟩) | ((with_reducible refine gate_callee (f := 10) rfl ?_); refine goesL_ (some 52) rfl rfl Try.func10 (by kernel_rfl) rfl #[.int .i64 a2, .int .i64 a3] rfl (by (try simp only [List.map_toArray, List.map_cons, List.map_nil]); first | done | rfl | (simp only [List.length_drop, List.length_take]; rfl)) ?_; (with_reducible refine (wide_Mul.calls a2 a3 t214 t215 t216 _ A14.out).mono ?_); rintro e w' ⟨rfl, ⟨nd, rfl⟩⟩; refine ⟨_, rfl, ?_⟩) | ((with_reducible refine gate_callee (f := 16) rfl ?_); refine goesL_ (some 60) rfl rfl Try.func16 (by kernel_rfl) rfl #[.int .i64 a0, .int .i64 a1, .int .i64 a2, .int .i64 a3] rfl (by (try simp only [List.map_toArray, List.map_cons, List.map_nil]); first | done | rfl | (simp only [List.length_drop, List.length_take]; rfl)) ?_; (with_reducible refine (wide_Less.calls a0 a1 a2 a3 true _ A15.out).mono ?_); rintro e w' ⟨rfl, ⟨nd, rfl⟩⟩; refine ⟨_, rfl, ?_⟩) | ((with_reducible refine gate_callee (f := 16) rfl ?_); refine goesL_ (some 65) rfl rfl Try.func16 (by kernel_rfl) rfl #[.int .i64 a2, .int .i64 a3, .int .i64 a0, .int .i64 a1] rfl (by (try simp only [List.map_toArray, List.map_cons, List.map_nil]); first | done | rfl | (simp only [List.length_drop, List.length_take]; rfl)) ?_; (with_reducible refine (wide_Less.calls a2 a3 a0 a1 false _ A16.out).mono ?_); rintro e w' ⟨rfl, ⟨nd, rfl⟩⟩; refine ⟨_, rfl, ?_⟩) | (go_at_call 16; (with_reducible refine (wide_Less.calls a0 a1 a2 (wrap64 (a3 + 1)) false _ A29.out).mono ?_); rintro e w' ⟨rfl, ⟨nd, rfl⟩⟩))
                    go_ret
                    exact ⟨by first | rfl | (simp; done) | (simp [*]; done), by repeat (first | exact Drawn0.refl _ | apply Drawn0.step)⟩
          · replace c18 := Bool.eq_false_iff.mpr c18
            subst c18
            have H1 : (if t211 = t214 then (if (t218 == (t212 != t215)) = true then ((wide_Less.f a0 a1 a0 a1).bind fun t225 => (some (!t225))) else (some false)) else (if (t218 == true) = true then ((wide_Less.f a0 a1 a0 a1).bind fun t226 => (some (!t226))) else (some false))) = some r := by rw [if_neg (show ¬ (false = true) by decide)] at H; exact H
            clear H
            have H := H1
            clear H1
            by_cases c32 : t211 = t214
            · rw [if_pos c32] at H
              have c32b0 : (t211 == t214) = true := beq_iff_eq.mpr c32
              have c32b1 : (t211 != t214) = false := bne_eq_false_iff_eq.mpr c32
              clear c32
              by_cases c33 : (t218 == (t212 != t215)) = true
              · rw [if_pos c33] at H
                have c33b0 : (t218 == (t212 != t215)) = true := c33
                (try (have c33b1 : decide (t218 = (t212 != t215)) = true := by first | (simp; done) | (simp at c33; done) | simpa using c33))
                (try (have c33b2 : (t218 == (t212 != t215)) = true := by first | (simp; done) | (simp at c33; done) | simpa using c33))
                clear c33
                replace H := Option.bind_eq_some_iff.mp H
                obtain ⟨t225, A340, H⟩ := H
                replace H : (some (!t225)) = some r := H
                have A34 := Aside0.mk A340
                clear A340
                obtain rfl := Option.some.inj H
                go_wp2_with (first | ((with_reducible refine gate_callee (f := 10) rfl ?_); refine goesL_ (some 45) rfl rfl Try.func10 (by kernel_rfl) rfl #[.int .i64 a0, .int .i64 a1] rfl (by (try simp only [List.map_toArray, List.map_cons, List.map_nil]); first | done | rfl | (simp only [List.length_drop, List.length_take]; rfl)) ?_; (with_reducible refine (wide_Mul.calls a0 a1 t211 t212 t213 _ A13.out).mono ?_); rintro e w' ⟨rfl, ⟨nd, rfl⟩⟩; refine ⟨_, rfl, ?_⟩) | ((with_reducible refine gate_callee (f := 10) rfl ?_); refine goesL_ (some 52) rfl rfl Try.func10 (by kernel_rfl) rfl #[.int .i64 a2, .int .i64 a3] rfl (by (try simp only [List.map_toArray, List.map_cons, List.map_nil]); first | done | rfl | (simp only [List.length_drop, List.length_take]; rfl)) ?_; (with_reducible refine (wide_Mul.calls a2 a3 t214 t215 t216 _ A14.out).mono ?_); rintro e w' ⟨rfl, ⟨nd, rfl⟩⟩; refine ⟨_, rfl, ?_⟩) | ((with_reducible refine gate_callee (f := 16) rfl ?_); refine goesL_ (some 60) rfl rfl Try.func16 (by kernel_rfl) rfl #[.int .i64 a0, .int .i64 a1, .int .i64 a2, .int .i64 a3] rfl (by (try simp only [List.map_toArray, List.map_cons, List.map_nil]); first | done | rfl | (simp only [List.length_drop, List.length_take]; rfl)) ?_; (with_reducible refine (wide_Less.calls a0 a1 a2 a3 false _ A15.out).mono ?_); rintro e w' ⟨rfl, ⟨nd, rfl⟩⟩; refine ⟨_, rfl, ?_⟩) | ((with_reducible refine gate_callee (f := 16) rfl ?_); refine goesL_ (some 65) rfl rfl Try.func16 (by kernel_rfl) rfl #[.int .i64 a2, .int .i64 a3, .int .i64 a0, .int .i64 a1] rfl (by (try simp only [List.map_toArray, List.map_cons, List.map_nil]); first | done | rfl | (simp only [List.length_drop, List.length_take]; rfl)) ?_; (with_reducible refine (wide_Less.calls a2 a3 a0 a1 t218 _ A16.out).mono ?_); rintro e w' ⟨rfl, ⟨nd, rfl⟩⟩; refine ⟨_, rfl, ?_⟩) | (go_at_call 16; (with_reducible refine (wide_Less.calls a0 a1 a0 a1 t225 _ A34.out).mono ?_); rintro e w' ⟨rfl, ⟨nd, rfl⟩⟩))
                go_ret
                exact ⟨by first | rfl | (simp; done) | (simp [*]; done), by repeat (first | exact Drawn0.refl _ | apply Drawn0.step)⟩
              · rw [if_neg c33] at H
                have c33b0 : (t218 == (t212 != t215)) = false := by first | (simp; done) | (simp at c33; done) | simpa using c33
                (try (have c33b1 : decide (t218 = (t212 != t215)) = false := by first | (simp; done) | (simp at c33; done) | simpa using c33))
                (try (have c33b2 : (t218 == (t212 != t215)) = false := by first | (simp; done) | (simp at c33; done) | simpa using c33))
                (try (have c33b3 : ¬ (t218 = (t212 != t215)) := by first | (simp; done) | (simp at c33; done) | simpa using c33))
                clear c33
                obtain rfl := Option.some.inj H
                go_wp2_with (first | ((with_reducible refine gate_callee (f := 10) rfl ?_); refine goesL_ (some 45) rfl rfl Try.func10 (by kernel_rfl) rfl #[.int .i64 a0, .int .i64 a1] rfl (by (try simp only [List.map_toArray, List.map_cons, List.map_nil]); first | done | rfl | (simp only [List.length_drop, List.length_take]; rfl)) ?_; (with_reducible refine (wide_Mul.calls a0 a1 t211 t212 t213 _ A13.out).mono ?_); rintro e w' ⟨rfl, ⟨nd, rfl⟩⟩; refine ⟨_, rfl, ?_⟩) | ((with_reducible refine gate_callee (f := 10) rfl ?_); refine goesL_ (some 52) rfl rfl Try.func10 (by kernel_rfl) rfl #[.int .i64 a2, .int .i64 a3] rfl (by (try simp only [List.map_toArray, List.map_cons, List.map_nil]); first | done | rfl | (simp only [List.length_drop, List.length_take]; rfl)) ?_; (with_reducible refine (wide_Mul.calls a2 a3 t214 t215 t216 _ A14.out).mono ?_); rintro e w' ⟨rfl, ⟨nd, rfl⟩⟩; refine ⟨_, rfl, ?_⟩) | ((with_reducible refine gate_callee (f := 16) rfl ?_); refine goesL_ (some 60) rfl rfl Try.func16 (by kernel_rfl) rfl #[.int .i64 a0, .int .i64 a1, .int .i64 a2, .int .i64 a3] rfl (by (try simp only [List.map_toArray, List.map_cons, List.map_nil]); first | done | rfl | (simp only [List.length_drop, List.length_take]; rfl)) ?_; (with_reducible refine (wide_Less.calls a0 a1 a2 a3 false _ A15.out).mono ?_); rintro e w' ⟨rfl, ⟨nd, rfl⟩⟩; refine ⟨_, rfl, ?_⟩) | ((with_reducible refine gate_callee (f := 16) rfl ?_); refine goesL_ (some 65) rfl rfl Try.func16 (by kernel_rfl) rfl #[.int .i64 a2, .int .i64 a3, .int .i64 a0, .int .i64 a1] rfl (by (try simp only [List.map_toArray, List.map_cons, List.map_nil]); first | done | rfl | (simp only [List.length_drop, List.length_take]; rfl)) ?_; (with_reducible refine (wide_Less.calls a2 a3 a0 a1 t218 _ A16.out).mono ?_); rintro e w' ⟨rfl, ⟨nd, rfl⟩⟩; refine ⟨_, rfl, ?_⟩))
                go_ret
                exact ⟨by first | rfl | (simp; done) | (simp [*]; done), by repeat (first | exact Drawn0.refl _ | apply Drawn0.step)⟩
            · rw [if_neg c32] at H
              have c32b0 : (t211 == t214) = false := beq_eq_false_iff_ne.mpr c32
              have c32b1 : (t211 != t214) = true := bne_iff_ne.mpr c32
              by_cases c35 : (t218 == true) = true
              · rw [if_pos c35] at H
                have c35b0 : (t218 == true) = true := c35
                (try (have c35b1 : decide (t218 = true) = true := by first | (simp; done) | (simp at c35; done) | simpa using c35))
                (try (have c35b2 : (t218 == true) = true := by first | (simp; done) | (simp at c35; done) | simpa using c35))
                clear c35
                replace H := Option.bind_eq_some_iff.mp H
                obtain ⟨t226, A360, H⟩ := H
                replace H : (some (!t226)) = some r := H
                have A36 := Aside0.mk A360
                clear A360
                obtain rfl := Option.some.inj H
                go_wp2_with (first | ((with_reducible refine gate_callee (f := 10) rfl ?_); refine goesL_ (some 45) rfl rfl Try.func10 (by kernel_rfl) rfl #[.int .i64 a0, .int .i64 a1] rfl (by (try simp only [List.map_toArray, List.map_cons, List.map_nil]); first | done | rfl | (simp only [List.length_drop, List.length_take]; rfl)) ?_; (with_reducible refine (wide_Mul.calls a0 a1 t211 t212 t213 _ A13.out).mono ?_); rintro e w' ⟨rfl, ⟨nd, rfl⟩⟩; refine ⟨_, rfl, ?_⟩) | ((with_reducible refine gate_callee (f := 10) rfl ?_); refine goesL_ (some 52) rfl rfl Try.func10 (by kernel_rfl) rfl #[.int .i64 a2, .int .i64 a3] rfl (by (try simp only [List.map_toArray, List.map_cons, List.map_nil]); first | done | rfl | (simp only [List.length_drop, List.length_take]; rfl)) ?_; (with_reducible refine (wide_Mul.calls a2 a3 t214 t215 t216 _ A14.out).mono ?_); rintro e w' ⟨rfl, ⟨nd, rfl⟩⟩; refine ⟨_, rfl, ?_⟩) | ((with_reducible refine gate_callee (f := 16) rfl ?_); refine goesL_ (some 60) rfl rfl Try.func16 (by kernel_rfl) rfl #[.int .i64 a0, .int .i64 a1, .int .i64 a2, .int .i64 a3] rfl (by (try simp only [List.map_toArray, List.map_cons, List.map_nil]); first | done | rfl | (simp only [List.length_drop, List.length_take]; rfl)) ?_; (with_reducible refine (wide_Less.calls a0 a1 a2 a3 false _ A15.out).mono ?_); rintro e w' ⟨rfl, ⟨nd, rfl⟩⟩; refine ⟨_, rfl, ?_⟩) | ((with_reducible refine gate_callee (f := 16) rfl ?_); refine goesL_ (some 65) rfl rfl Try.func16 (by kernel_rfl) rfl #[.int .i64 a2, .int .i64 a3, .int .i64 a0, .int .i64 a1] rfl (by (try simp only [List.map_toArray, List.map_cons, List.map_nil]); first | done | rfl | (simp only [List.length_drop, List.length_take]; rfl)) ?_; (with_reducible refine (wide_Less.calls a2 a3 a0 a1 t218 _ A16.out).mono ?_); rintro e w' ⟨rfl, ⟨nd, rfl⟩⟩; refine ⟨_, rfl, ?_⟩) | (go_at_call 16; (with_reducible refine (wide_Less.calls a0 a1 a0 a1 t226 _ A36.out).mono ?_); rintro e w' ⟨rfl, ⟨nd, rfl⟩⟩))
                go_ret
                exact ⟨by first | rfl | (simp; done) | (simp [*]; done), by repeat (first | exact Drawn0.refl _ | apply Drawn0.step)⟩
              · rw [if_neg c35] at H
                have c35b0 : (t218 == true) = false := by first | (simp; done) | (simp at c35; done) | simpa using c35
                (try (have c35b1 : decide (t218 = true) = false := by first | (simp; done) | (simp at c35; done) | simpa using c35))
                (try (have c35b2 : (t218 == true) = false := by first | (simp; done) | (simp at c35; done) | simpa using c35))
                (try (have c35b3 : ¬ (t218 = true) := by first | (simp; done) | (simp at c35; done) | simpa using c35))
                clear c35
                obtain rfl := Option.some.inj H
                go_wp2_with (first | ((with_reducible refine gate_callee (f := 10) rfl ?_); refine goesL_ (some 45) rfl rfl Try.func10 (by kernel_rfl) rfl #[.int .i64 a0, .int .i64 a1] rfl (by (try simp only [List.map_toArray, List.map_cons, List.map_nil]); first | done | rfl | (simp only [List.length_drop, List.length_take]; rfl)) ?_; (with_reducible refine (wide_Mul.calls a0 a1 t211 t212 t213 _ A13.out).mono ?_); rintro e w' ⟨rfl, ⟨nd, rfl⟩⟩; refine ⟨_, rfl, ?_⟩) | ((with_reducible refine gate_callee (f := 10) rfl ?_); refine goesL_ (some 52) rfl rfl Try.func10 (by kernel_rfl) rfl #[.int .i64 a2, .int .i64 a3] rfl (by (try simp only [List.map_toArray, List.map_cons, List.map_nil]); first | done | rfl | (simp only [List.length_drop, List.length_take]; rfl)) ?_; (with_reducible refine (wide_Mul.calls a2 a3 t214 t215 t216 _ A14.out).mono ?_); rintro e w' ⟨rfl, ⟨nd, rfl⟩⟩; refine ⟨_, rfl, ?_⟩) | ((with_reducible refine gate_callee (f := 16) rfl ?_); refine goesL_ (some 60) rfl rfl Try.func16 (by kernel_rfl) rfl #[.int .i64 a0, .int .i64 a1, .int .i64 a2, .int .i64 a3] rfl (by (try simp only [List.map_toArray, List.map_cons, List.map_nil]); first | done | rfl | (simp only [List.length_drop, List.length_take]; rfl)) ?_; (with_reducible refine (wide_Less.calls a0 a1 a2 a3 false _ A15.out).mono ?_); rintro e w' ⟨rfl, ⟨nd, rfl⟩⟩; refine ⟨_, rfl, ?_⟩) | ((with_reducible refine gate_callee (f := 16) rfl ?_); refine goesL_ (some 65) rfl rfl Try.func16 (by kernel_rfl) rfl #[.int .i64 a2, .int .i64 a3, .int .i64 a0, .int .i64 a1] rfl (by (try simp only [List.map_toArray, List.map_cons, List.map_nil]); first | done | rfl | (simp only [List.length_drop, List.length_take]; rfl)) ?_; (with_reducible refine (wide_Less.calls a2 a3 a0 a1 t218 _ A16.out).mono ?_); rintro e w' ⟨rfl, ⟨nd, rfl⟩⟩; refine ⟨_, rfl, ?_⟩))
                go_ret
                exact ⟨by first | rfl | (simp; done) | (simp [*]; done), by repeat (first | exact Drawn0.refl _ | apply Drawn0.step)⟩
        · replace c17 := Bool.eq_false_iff.mpr c17
          subst c17
          have H1 : (some false) = some r := by rw [if_neg (show ¬ (false = true) by decide)] at H; exact H
          clear H
          have H := H1
          clear H1
          obtain rfl := Option.some.inj H
          go_wp2_with (first | ((with_reducible refine gate_callee (f := 10) rfl ?_); refine goesL_ (some 45) rfl rfl Try.func10 (by kernel_rfl) rfl #[.int .i64 a0, .int .i64 a1] rfl (by (try simp only [List.map_toArray, List.map_cons, List.map_nil]); first | done | rfl | (simp only [List.length_drop, List.length_take]; rfl)) ?_; (with_reducible refine (wide_Mul.calls a0 a1 t211 t212 t213 _ A13.out).mono ?_); rintro e w' ⟨rfl, ⟨nd, rfl⟩⟩; refine ⟨_, rfl, ?_⟩) | ((with_reducible refine gate_callee (f := 10) rfl ?_); refine goesL_ (some 52) rfl rfl Try.func10 (by kernel_rfl) rfl #[.int .i64 a2, .int .i64 a3] rfl (by (try simp only [List.map_toArray, List.map_cons, List.map_nil]); first | done | rfl | (simp only [List.length_drop, List.length_take]; rfl)) ?_; (with_reducible refine (wide_Mul.calls a2 a3 t214 t215 t216 _ A14.out).mono ?_); rintro e w' ⟨rfl, ⟨nd, rfl⟩⟩; refine ⟨_, rfl, ?_⟩) | ((with_reducible refine gate_callee (f := 16) rfl ?_); refine goesL_ (some 60) rfl rfl Try.func16 (by kernel_rfl) rfl #[.int .i64 a0, .int .i64 a1, .int .i64 a2, .int .i64 a3] rfl (by (try simp only [List.map_toArray, List.map_cons, List.map_nil]); first | done | rfl | (simp only [List.length_drop, List.length_take]; rfl)) ?_; (with_reducible refine (wide_Less.calls a0 a1 a2 a3 t217 _ A15.out).mono ?_); rintro e w' ⟨rfl, ⟨nd, rfl⟩⟩; refine ⟨_, rfl, ?_⟩) | ((with_reducible refine gate_callee (f := 16) rfl ?_); refine goesL_ (some 65) rfl rfl Try.func16 (by kernel_rfl) rfl #[.int .i64 a2, .int .i64 a3, .int .i64 a0, .int .i64 a1] rfl (by (try simp only [List.map_toArray, List.map_cons, List.map_nil]); first | done | rfl | (simp only [List.length_drop, List.length_take]; rfl)) ?_; (with_reducible refine (wide_Less.calls a2 a3 a0 a1 t218 _ A16.out).mono ?_); rintro e w' ⟨rfl, ⟨nd, rfl⟩⟩; refine ⟨_, rfl, ?_⟩))
          go_ret
          exact ⟨by first | rfl | (simp; done) | (simp [*]; done), by repeat (first | exact Drawn0.refl _ | apply Drawn0.step)⟩

/-- THE ONE PURE STATEMENT of epactlaw02_WideLess: yours. -/
def epactlaw02_WideLess.Pure : Prop := ∀ (a0 : Int) (a1 : Int) (a2 : Int) (a3 : Int), (Lit.int .i64 a0).wf = true → (Lit.int .i64 a1).wf = true → (Lit.int .i64 a2).wf = true → (Lit.int .i64 a3).wf = true → ∃ k, epactlaw02_WideLess.f k a0 a1 a2 a3 = some true
theorem epactlaw02_WideLess.walk (P : epactlaw02_WideLess.Pure) (a0 : Int) (a1 : Int) (a2 : Int) (a3 : Int) (w : World) (w0 : (Lit.int .i64 a0).wf = true) (w1 : (Lit.int .i64 a1).wf = true) (w2 : (Lit.int .i64 a2).wf = true) (w3 : (Lit.int .i64 a3).wf = true) :
    Calls Try.prog 7 #[.int .i64 a0, .int .i64 a1, .int .i64 a2, .int .i64 a3] w fun e w' => e = .returned (.bool true) ∧ Below w.heap.size w w' := by
  obtain ⟨k, h⟩ := P a0 a1 a2 a3 w0 w1 w2 w3
  refine (epactlaw02_WideLess.calls k a0 a1 a2 a3 true w h).mono ?_
  rintro e w' ⟨rfl, hd⟩
  exact ⟨rfl, hd.below⟩

end Go.Proofs.Ytgdaohdllipgpaa.PAll
