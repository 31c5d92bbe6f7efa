-- Written for this claim by wip/tools of this repo (after the kit's print; own contracts laid in).
import Derived.Test.YtgdaohdllipgpaaPAllx0
import Derived.Test.YtgdaohdllipgpaaPAllx1
import Derived.Test.YtgdaohdllipgpaaPAllx2
namespace Go.Proofs.Ytgdaohdllipgpaa.PAll
open Go.RowKit Go.Proofs.YtgdaohdllipgpaaW.PrintWords Go.Proofs.YtgdaohdllipgpaaW.PrintLast Go.Proofs.YtgdaohdllipgpaaW.PrintMore
attribute [local go_sem] max2_int min2_int max_two min_two max_three min_three max_four min_four   -- for this text's walks alone
set_option linter.unusedVariables false
set_option linter.unusedSimpArgs false

/-! ### epactlaw02_WideParts: function 8 -/
def epactlaw02_WideParts.j0 : Nat → Int → Int → Int → Int → Bool → Bool → Option (Bool)
  | 0, _, _, _, _, _, _ => none
  | k + 1, x0, x1, x2, x3, x9, x42 => if x42 = true then (some x9) else ((wide_MulDiv.f k x0 x1 x2).bind fun bt228 => ((wide_MulDiv.f k (wrap64 (x0 * x3)) x1 (wrap64 (x2 * x3))).bind fun bt231 => (if x9 = true then (if (bt228.2.2 == bt231.2.2) = true then (if bt228.1 = bt231.1 then (if bt228.2.2 = true then (some (bt231.2.1 == (wrap64 (bt228.2.1 * x3)))) else (some true)) else (some false)) else (some false)) else (some false))))
def epactlaw02_WideParts.f (k : Nat) (a0 : Int) (a1 : Int) (a2 : Int) (a3 : Int) : Option (Bool) := (epactlaw02_small.f k).bind fun t227 => (if a0 < 0 then (epactlaw02_WideParts.j0 k a0 a1 a2 a3 t227 true) else (if a1 < 0 then (epactlaw02_WideParts.j0 k a0 a1 a2 a3 t227 true) else (if a2 < 1 then (epactlaw02_WideParts.j0 k a0 a1 a2 a3 t227 true) else (if a3 < 1 then (epactlaw02_WideParts.j0 k a0 a1 a2 a3 t227 true) else (if a3 > 1048576 then (epactlaw02_WideParts.j0 k a0 a1 a2 a3 t227 true) else (if a0 > 4398046511104 then (epactlaw02_WideParts.j0 k a0 a1 a2 a3 t227 true) else (epactlaw02_WideParts.j0 k a0 a1 a2 a3 t227 (decide (a2 > 4398046511104)))))))))
theorem epactlaw02_WideParts.mono_l : ∀ k, (∀ y0 y1 y2 y3 y4 y5, LeO (epactlaw02_WideParts.j0 k y0 y1 y2 y3 y4 y5) (epactlaw02_WideParts.j0 (k + 1) y0 y1 y2 y3 y4 y5))
  | 0 => fun _ _ _ _ _ _ r h => by simp [epactlaw02_WideParts.j0] at h
  | k + 1 => by
    have ih0 := epactlaw02_WideParts.mono_l k
    · intro y0 y1 y2 y3 y4 y5
      unfold epactlaw02_WideParts.j0
      repeat' first
      | (with_reducible exact ih0 _ _ _ _ _ _)
      | (with_reducible exact epactlaw02_small.mono _)
      | (with_reducible exact wide_MulDiv.mono _ _ _ _)
      | (with_reducible exact LeO.refl _)
      | (with_reducible exact LeO.none _)
      | (with_reducible refine LeO.ite ?_ ?_)
      | (with_reducible refine LeO.bind ?_ (fun _ => ?_))
      | exact ih0 _ _ _ _ _ _
      | exact epactlaw02_small.mono _
      | exact wide_MulDiv.mono _ _ _ _
      | exact LeO.none _
      | refine LeO.ite ?_ ?_
      | refine LeO.bind ?_ (fun _ => ?_)
theorem epactlaw02_WideParts.mono : ∀ a0 a1 a2 a3 k, LeO (epactlaw02_WideParts.f k a0 a1 a2 a3) (epactlaw02_WideParts.f (k + 1) a0 a1 a2 a3) := by
  intro a0 a1 a2 a3 k
  have ih0 := epactlaw02_WideParts.mono_l k
  unfold epactlaw02_WideParts.f
  repeat' first
      | (with_reducible exact ih0 _ _ _ _ _ _)
      | (with_reducible exact epactlaw02_small.mono _)
      | (with_reducible exact wide_MulDiv.mono _ _ _ _)
      | (with_reducible exact LeO.refl _)
      | (with_reducible exact LeO.none _)
      | (with_reducible refine LeO.ite ?_ ?_)
      | (with_reducible refine LeO.bind ?_ (fun _ => ?_))
      | exact ih0 _ _ _ _ _ _
      | exact epactlaw02_small.mono _
      | exact wide_MulDiv.mono _ _ _ _
      | exact LeO.none _
      | refine LeO.ite ?_ ?_
      | refine LeO.bind ?_ (fun _ => ?_)
set_option maxHeartbeats 8000000 in
set_option maxRecDepth 100000 in
theorem epactlaw02_WideParts.calls (k : Nat) (a0 : Int) (a1 : Int) (a2 : Int) (a3 : Int) (r : Bool) (w : World) (h : epactlaw02_WideParts.f k a0 a1 a2 a3 = some r) :
    Calls Try.prog 8 #[.int .i64 a0, .int .i64 a1, .int .i64 a2, .int .i64 a3] w fun e w' => e = .returned (.bool r) ∧ Drawn0 w w' := by
  have H : ((epactlaw02_small.f k).bind fun t227 => (if a0 < 0 then (epactlaw02_WideParts.j0 k a0 a1 a2 a3 t227 true) else (if a1 < 0 then (epactlaw02_WideParts.j0 k a0 a1 a2 a3 t227 true) else (if a2 < 1 then (epactlaw02_WideParts.j0 k a0 a1 a2 a3 t227 true) else (if a3 < 1 then (epactlaw02_WideParts.j0 k a0 a1 a2 a3 t227 true) else (if a3 > 1048576 then (epactlaw02_WideParts.j0 k a0 a1 a2 a3 t227 true) else (if a0 > 4398046511104 then (epactlaw02_WideParts.j0 k a0 a1 a2 a3 t227 true) else (epactlaw02_WideParts.j0 k a0 a1 a2 a3 t227 (decide (a2 > 4398046511104)))))))))) = some r := h
  clear h
  replace H := Option.bind_eq_some_iff.mp H
  obtain ⟨t227, A50, H⟩ := H
  replace H : (if a0 < 0 then (epactlaw02_WideParts.j0 k a0 a1 a2 a3 t227 true) else (if a1 < 0 then (epactlaw02_WideParts.j0 k a0 a1 a2 a3 t227 true) else (if a2 < 1 then (epactlaw02_WideParts.j0 k a0 a1 a2 a3 t227 true) else (if a3 < 1 then (epactlaw02_WideParts.j0 k a0 a1 a2 a3 t227 true) else (if a3 > 1048576 then (epactlaw02_WideParts.j0 k a0 a1 a2 a3 t227 true) else (if a0 > 4398046511104 then (epactlaw02_WideParts.j0 k a0 a1 a2 a3 t227 true) else (epactlaw02_WideParts.j0 k a0 a1 a2 a3 t227 (decide (a2 > 4398046511104))))))))) = some r := H
  have A5 := Aside0.mk A50
  clear A50
  have HC6 := Aside0.mk H
  clear H
  go_enter Try.func8, Try.ntmps8
  go_upto_region 2 with (first | ((with_reducible refine gate_callee (f := 9) rfl ?_); refine goesL_ (some 16) rfl rfl Try.func9 (by kernel_rfl) rfl #[] rfl (by (try simp only [List.map_toArray, List.map_cons, List.map_nil]); first | done | rfl | (simp only [List.length_drop, List.length_take]; rfl)) ?_; (with_reducible refine (epactlaw02_small.calls k  t227 _ A5.out).mono ?_); rintro e w' ⟨rfl, ⟨nd, rfl⟩⟩; refine ⟨_, rfl, ?_⟩))
  (try simp only [Act.put, List.setIfInBounds_toArray, List.set_cons_zero, List.set_cons_succ])
  go_cut [42] (fun v42 wc => ∃ (kq : Nat) (x42_5 : Bool), v42 = .bool x42_5 ∧ Aside0 (epactlaw02_WideParts.j0 kq a0 a1 a2 a3 t227 x42_5 = some r) ∧ Aside0 (kq ≤ k) ∧ Drawn0 w wc)
  case first =>
    have H := HC6.out
    clear HC6
    by_cases c7 : a0 < 0
    · rw [if_pos c7] at H
      have c7b0 : decide (a0 < 0) = true := decide_eq_true c7
      clear c7
      (first | rw [c7b0] | (simp only [i64_w, i32_w]; rw [c7b0]) | skip)
      have H' := Aside0.mk H
      clear H
      go_wp2
      go_meet
      case rel => exact ⟨_, (true), (by first | rfl | (simp; done) | (simp [*]; done)), H', ⟨by first | omega | exact Nat.le_refl _⟩, by repeat (first | exact Drawn0.refl _ | apply Drawn0.step)⟩
    · rw [if_neg c7] at H
      have c7b0 : decide (a0 < 0) = false := decide_eq_false c7
      clear c7
      (first | rw [c7b0] | (simp only [i64_w, i32_w]; rw [c7b0]) | skip)
      by_cases c8 : a1 < 0
      · rw [if_pos c8] at H
        have c8b0 : decide (a1 < 0) = true := decide_eq_true c8
        clear c8
        have H' := Aside0.mk H
        clear H
        go_wp2
        go_meet
        case rel => exact ⟨_, (true), (by first | rfl | (simp; done) | (simp [*]; done)), H', ⟨by first | omega | exact Nat.le_refl _⟩, by repeat (first | exact Drawn0.refl _ | apply Drawn0.step)⟩
      · rw [if_neg c8] at H
        have c8b0 : decide (a1 < 0) = false := decide_eq_false c8
        clear c8
        by_cases c9 : a2 < 1
        · rw [if_pos c9] at H
          have c9b0 : decide (a2 < 1) = true := decide_eq_true c9
          clear c9
          have H' := Aside0.mk H
          clear H
          go_wp2
          go_meet
          case rel => exact ⟨_, (true), (by first | rfl | (simp; done) | (simp [*]; done)), H', ⟨by first | omega | exact Nat.le_refl _⟩, by repeat (first | exact Drawn0.refl _ | apply Drawn0.step)⟩
        · rw [if_neg c9] at H
          have c9b0 : decide (a2 < 1) = false := decide_eq_false c9
          clear c9
          by_cases c10 : a3 < 1
          · rw [if_pos c10] at H
            have c10b0 : decide (a3 < 1) = true := decide_eq_true c10
            clear c10
            have H' := Aside0.mk H
            clear H
            go_wp2
            go_meet
            case rel => exact ⟨_, (true), (by first | rfl | (simp; done) | (simp [*]; done)), H', ⟨by first | omega | exact Nat.le_refl _⟩, by repeat (first | exact Drawn0.refl _ | apply Drawn0.step)⟩
          · rw [if_neg c10] at H
            have c10b0 : decide (a3 < 1) = false := decide_eq_false c10
            clear c10
            by_cases c11 : a3 > 1048576
            · rw [if_pos c11] at H
              have c11b0 : decide (1048576 < a3) = true := decide_eq_true c11
              clear c11
              have H' := Aside0.mk H
              clear H
              go_wp2
              go_meet
              case rel => exact ⟨_, (true), (by first | rfl | (simp; done) | (simp [*]; done)), H', ⟨by first | omega | exact Nat.le_refl _⟩, by repeat (first | exact Drawn0.refl _ | apply Drawn0.step)⟩
            · rw [if_neg c11] at H
              have c11b0 : decide (1048576 < a3) = false := decide_eq_false c11
              clear c11
              by_cases c12 : a0 > 4398046511104
              · rw [if_pos c12] at H
                have c12b0 : decide (4398046511104 < a0) = true := decide_eq_true c12
                clear c12
                have H' := Aside0.mk H
                clear H
                go_wp2
                go_meet
                case rel => exact ⟨_, (true), (by first | rfl | (simp; done) | (simp [*]; done)), H', ⟨by first | omega | exact Nat.le_refl _⟩, by repeat (first | exact Drawn0.refl _ | apply Drawn0.step)⟩
              · rw [if_neg c12] at H
                have c12b0 : decide (4398046511104 < a0) = false := decide_eq_false c12
                clear c12
                have H' := Aside0.mk H
                clear H
                go_wp2
                go_meet
                case rel => exact ⟨_, (decide (a2 > 4398046511104)), (by first | rfl | (simp; done) | (simp [*]; done)), H', ⟨by first | omega | exact Nat.le_refl _⟩, by repeat (first | exact Drawn0.refl _ | apply Drawn0.step)⟩
  case rest =>
    clear HC6
    try clear c1
    try clear p2
    try clear c7
    try clear c7b0
    try clear c8
    try clear c8b0
    try clear c9
    try clear c9b0
    try clear c10
    try clear c10b0
    try clear c11
    try clear c11b0
    try clear c12
    try clear c12b0
    obtain ⟨kq, x42_5, rfl, HA, HJ5, ⟨mc5, rfl⟩⟩ := hcut
    cases kq with
    | zero => exact absurd HA.out (by simp [epactlaw02_WideParts.j0])
    | succ kj5 =>
      have H := HA.out
      clear HA
      simp only [epactlaw02_WideParts.j0] at H
      by_cases c13 : x42_5 = true
      · subst c13
        have H1 : (some t227) = some r := by rw [if_pos rfl] at H; exact H
        clear H
        have H := H1
        clear H1
        obtain rfl := Option.some.inj H
        go_wp2
        go_ret
        exact ⟨by first | rfl | (simp; done) | (simp [*]; done), by repeat (first | exact Drawn0.refl _ | apply Drawn0.step)⟩
      · replace c13 := Bool.eq_false_iff.mpr c13
        subst c13
        have H1 : ((wide_MulDiv.f kj5 a0 a1 a2).bind fun bt228 => ((wide_MulDiv.f kj5 (wrap64 (a0 * a3)) a1 (wrap64 (a2 * a3))).bind fun bt231 => (if t227 = true then (if (bt228.2.2 == bt231.2.2) = true then (if bt228.1 = bt231.1 then (if bt228.2.2 = true then (some (bt231.2.1 == (wrap64 (bt228.2.1 * a3)))) else (some true)) else (some false)) else (some false)) else (some false)))) = some r := by rw [if_neg (show ¬ (false = true) by decide)] at H; exact H
        clear H
        have H := H1
        clear H1
        replace H := Option.bind_eq_some_iff.mp H
        obtain ⟨⟨t228, t229, t230⟩, A140, H⟩ := H
        replace H : ((wide_MulDiv.f kj5 (wrap64 (a0 * a3)) a1 (wrap64 (a2 * a3))).bind fun bt231 => (if t227 = true then (if (t230 == bt231.2.2) = true then (if t228 = bt231.1 then (if t230 = true then (some (bt231.2.1 == (wrap64 (t229 * a3)))) else (some true)) else (some false)) else (some false)) else (some false))) = some r := H
        have A14 := Aside0.mk A140
        clear A140
        replace H := Option.bind_eq_some_iff.mp H
        obtain ⟨⟨t231, t232, t233⟩, A150, H⟩ := H
        replace H : (if t227 = true then (if (t230 == t233) = true then (if t228 = t231 then (if t230 = true then (some (t232 == (wrap64 (t229 * a3)))) else (some true)) else (some false)) else (some false)) else (some false)) = some r := H
        have A15 := Aside0.mk A150
        clear A150
        by_cases c16 : t227 = true
        · subst c16
          have H1 : (if (t230 == t233) = true then (if t228 = t231 then (if t230 = true then (some (t232 == (wrap64 (t229 * a3)))) else (some true)) else (some false)) else (some false)) = some r := by rw [if_pos rfl] at H; exact H
          clear H
          have H := H1
          clear H1
          by_cases c17 : (t230 == t233) = true
          · rw [if_pos c17] at H
            have c17b0 : (t230 == t233) = true := c17
            (try (have c17b1 : decide (t230 = t233) = true := by first | (simp; done) | (simp at c17; done) | simpa using c17))
            (try (have c17b2 : (t230 == t233) = true := by first | (simp; done) | (simp at c17; done) | simpa using c17))
            clear c17
            by_cases c18 : t228 = t231
            · rw [if_pos c18] at H
              have c18b0 : (t228 == t231) = true := beq_iff_eq.mpr c18
              have c18b1 : (t228 != t231) = false := bne_eq_false_iff_eq.mpr c18
              clear c18
              by_cases c19 : t230 = true
              · subst c19
                have H1 : (some (t232 == (wrap64 (t229 * a3)))) = some r := by rw [if_pos rfl] at H; exact H
                clear H
                have H := H1
                clear H1
                obtain rfl := Option.some.inj H
                go_wp2_with (first | ((with_reducible refine gate_callee (f := 12) rfl ?_); refine goesL_ (some 48) rfl rfl Try.func12 (by kernel_rfl) rfl #[.int .i64 a0, .int .i64 a1, .int .i64 a2] rfl (by (try simp only [List.map_toArray, List.map_cons, List.map_nil]); first | done | rfl | (simp only [List.length_drop, List.length_take]; rfl)) ?_; (with_reducible refine (wide_MulDiv.calls kj5 a0 a1 a2 t228 t229 true _ A14.out).mono ?_); rintro e w' ⟨rfl, ⟨nd, rfl⟩⟩; refine ⟨_, rfl, ?_⟩) | ((with_reducible refine gate_callee (f := 12) rfl ?_); refine goesL_ (some 60) rfl rfl Try.func12 (by kernel_rfl) rfl #[.int .i64 (wrap64 (a0 * a3)), .int .i64 a1, .int .i64 (wrap64 (a2 * a3))] rfl (by (try simp only [List.map_toArray, List.map_cons, List.map_nil]); first | done | rfl | (simp only [List.length_drop, List.length_take]; rfl)) ?_; (with_reducible refine (wide_MulDiv.calls kj5 (wrap64 (a0 * a3)) a1 (wrap64 (a2 * a3)) t231 t232 t233 _ A15.out).mono ?_); rintro e w' ⟨rfl, ⟨nd, rfl⟩⟩; refine ⟨_, rfl, ?_⟩))
                go_ret
                exact ⟨by first | rfl | (simp; done) | (simp [*]; done), by repeat (first | exact Drawn0.refl _ | apply Drawn0.step)⟩
              · replace c19 := Bool.eq_false_iff.mpr c19
                subst c19
                have H1 : (some true) = some r := by rw [if_neg (show ¬ (false = true) by decide)] at H; exact H
                clear H
                have H := H1
                clear H1
                obtain rfl := Option.some.inj H
                go_wp2_with (first | ((with_reducible refine gate_callee (f := 12) rfl ?_); refine goesL_ (some 48) rfl rfl Try.func12 (by kernel_rfl) rfl #[.int .i64 a0, .int .i64 a1, .int .i64 a2] rfl (by (try simp only [List.map_toArray, List.map_cons, List.map_nil]); first | done | rfl | (simp only [List.length_drop, List.length_take]; rfl)) ?_; (with_reducible refine (wide_MulDiv.calls kj5 a0 a1 a2 t228 t229 false _ A14.out).mono ?_); rintro e w' ⟨rfl, ⟨nd, rfl⟩⟩; refine ⟨_, rfl, ?_⟩) | ((with_reducible refine gate_callee (f := 12) rfl ?_); refine goesL_ (some 60) rfl rfl Try.func12 (by kernel_rfl) rfl #[.int .i64 (wrap64 (a0 * a3)), .int .i64 a1, .int .i64 (wrap64 (a2 * a3))] rfl (by (try simp only [List.map_toArray, List.map_cons, List.map_nil]); first | done | rfl | (simp only [List.length_drop, List.length_take]; rfl)) ?_; (with_reducible refine (wide_MulDiv.calls kj5 (wrap64 (a0 * a3)) a1 (wrap64 (a2 * a3)) t231 t232 t233 _ A15.out).mono ?_); rintro e w' ⟨rfl, ⟨nd, rfl⟩⟩; refine ⟨_, rfl, ?_⟩))
                go_ret
                exact ⟨by first | rfl | (simp; done) | (simp [*]; done), by repeat (first | exact Drawn0.refl _ | apply Drawn0.step)⟩
            · rw [if_neg c18] at H
              have c18b0 : (t228 == t231) = false := beq_eq_false_iff_ne.mpr c18
              have c18b1 : (t228 != t231) = true := bne_iff_ne.mpr c18
              obtain rfl := Option.some.inj H
              go_wp2_with (first | ((with_reducible refine gate_callee (f := 12) rfl ?_); refine goesL_ (some 48) rfl rfl Try.func12 (by kernel_rfl) rfl #[.int .i64 a0, .int .i64 a1, .int .i64 a2] rfl (by (try simp only [List.map_toArray, List.map_cons, List.map_nil]); first | done | rfl | (simp only [List.length_drop, List.length_take]; rfl)) ?_; (with_reducible refine (wide_MulDiv.calls kj5 a0 a1 a2 t228 t229 t230 _ A14.out).mono ?_); rintro e w' ⟨rfl, ⟨nd, rfl⟩⟩; refine ⟨_, rfl, ?_⟩) | ((with_reducible refine gate_callee (f := 12) rfl ?_); refine goesL_ (some 60) rfl rfl Try.func12 (by kernel_rfl) rfl #[.int .i64 (wrap64 (a0 * a3)), .int .i64 a1, .int .i64 (wrap64 (a2 * a3))] rfl (by (try simp only [List.map_toArray, List.map_cons, List.map_nil]); first | done | rfl | (simp only [List.length_drop, List.length_take]; rfl)) ?_; (with_reducible refine (wide_MulDiv.calls kj5 (wrap64 (a0 * a3)) a1 (wrap64 (a2 * a3)) t231 t232 t233 _ A15.out).mono ?_); rintro e w' ⟨rfl, ⟨nd, rfl⟩⟩; refine ⟨_, rfl, ?_⟩))
              go_ret
              exact ⟨by first | rfl | (simp; done) | (simp [*]; done), by repeat (first | exact Drawn0.refl _ | apply Drawn0.step)⟩
          · rw [if_neg c17] at H
            have c17b0 : (t230 == t233) = false := by first | (simp; done) | (simp at c17; done) | simpa using c17
            (try (have c17b1 : decide (t230 = t233) = false := by first | (simp; done) | (simp at c17; done) | simpa using c17))
            (try (have c17b2 : (t230 == t233) = false := by first | (simp; done) | (simp at c17; done) | simpa using c17))
            (try (have c17b3 : ¬ (t230 = t233) := by first | (simp; done) | (simp at c17; done) | simpa using c17))
            clear c17
            obtain rfl := Option.some.inj H
            go_wp2_with (first | ((with_reducible refine gate_callee (f := 12) rfl ?_); refine goesL_ (some 48) rfl rfl Try.func12 (by kernel_rfl) rfl #[.int .i64 a0, .int .i64 a1, .int .i64 a2] rfl (by (try simp only [List.map_toArray, List.map_cons, List.map_nil]); first | done | rfl | (simp only [List.length_drop, List.length_take]; rfl)) ?_; (with_reducible refine (wide_MulDiv.calls kj5 a0 a1 a2 t228 t229 t230 _ A14.out).mono ?_); rintro e w' ⟨rfl, ⟨nd, rfl⟩⟩; refine ⟨_, rfl, ?_⟩) | ((with_reducible refine gate_callee (f := 12) rfl ?_); refine goesL_ (some 60) rfl rfl Try.func12 (by kernel_rfl) rfl #[.int .i64 (wrap64 (a0 * a3)), .int .i64 a1, .int .i64 (wrap64 (a2 * a3))] rfl (by (try simp only [List.map_toArray, List.map_cons, List.map_nil]); first | done | rfl | (simp only [List.length_drop, List.length_take]; rfl)) ?_; (with_reducible refine (wide_MulDiv.calls kj5 (wrap64 (a0 * a3)) a1 (wrap64 (a2 * a3)) t231 t232 t233 _ A15.out).mono ?_); rintro e w' ⟨rfl, ⟨nd, rfl⟩⟩; refine ⟨_, rfl, ?_⟩))
            go_ret
            exact ⟨by first | rfl | (simp; done) | (simp [*]; done), by repeat (first | exact Drawn0.refl _ | apply Drawn0.step)⟩
        · replace c16 := Bool.eq_false_iff.mpr c16
          subst c16
          have H1 : (some false) = some r := by rw [if_neg (show ¬ (false = true) by decide)] at H; exact H
          clear H
          have H := H1
          clear H1
          obtain rfl := Option.some.inj H
          go_wp2_with (first | ((with_reducible refine gate_callee (f := 12) rfl ?_); refine goesL_ (some 48) rfl rfl Try.func12 (by kernel_rfl) rfl #[.int .i64 a0, .int .i64 a1, .int .i64 a2] rfl (by (try simp only [List.map_toArray, List.map_cons, List.map_nil]); first | done | rfl | (simp only [List.length_drop, List.length_take]; rfl)) ?_; (with_reducible refine (wide_MulDiv.calls kj5 a0 a1 a2 t228 t229 t230 _ A14.out).mono ?_); rintro e w' ⟨rfl, ⟨nd, rfl⟩⟩; refine ⟨_, rfl, ?_⟩) | ((with_reducible refine gate_callee (f := 12) rfl ?_); refine goesL_ (some 60) rfl rfl Try.func12 (by kernel_rfl) rfl #[.int .i64 (wrap64 (a0 * a3)), .int .i64 a1, .int .i64 (wrap64 (a2 * a3))] rfl (by (try simp only [List.map_toArray, List.map_cons, List.map_nil]); first | done | rfl | (simp only [List.length_drop, List.length_take]; rfl)) ?_; (with_reducible refine (wide_MulDiv.calls kj5 (wrap64 (a0 * a3)) a1 (wrap64 (a2 * a3)) t231 t232 t233 _ A15.out).mono ?_); rintro e w' ⟨rfl, ⟨nd, rfl⟩⟩; refine ⟨_, rfl, ?_⟩))
          go_ret
          exact ⟨by first | rfl | (simp; done) | (simp [*]; done), by repeat (first | exact Drawn0.refl _ | apply Drawn0.step)⟩

/-- THE ONE PURE STATEMENT of epactlaw02_WideParts: yours. -/
def epactlaw02_WideParts.Pure : Prop := ∀ (a0 : Int) (a1 : Int) (a2 : Int) (a3 : Int), (Lit.int .i64 a0).wf = true → (Lit.int .i64 a1).wf = true → (Lit.int .i64 a2).wf = true → (Lit.int .i64 a3).wf = true → ∃ k, epactlaw02_WideParts.f k a0 a1 a2 a3 = some true
theorem epactlaw02_WideParts.walk (P : epactlaw02_WideParts.Pure) (a0 : Int) (a1 : Int) (a2 : Int) (a3 : Int) (w : World) (w0 : (Lit.int .i64 a0).wf = true) (w1 : (Lit.int .i64 a1).wf = true) (w2 : (Lit.int .i64 a2).wf = true) (w3 : (Lit.int .i64 a3).wf = true) :
    Calls Try.prog 8 #[.int .i64 a0, .int .i64 a1, .int .i64 a2, .int .i64 a3] w fun e w' => e = .returned (.bool true) ∧ Below w.heap.size w w' := by
  obtain ⟨k, h⟩ := P a0 a1 a2 a3 w0 w1 w2 w3
  refine (epactlaw02_WideParts.calls k a0 a1 a2 a3 true w h).mono ?_
  rintro e w' ⟨rfl, hd⟩
  exact ⟨rfl, hd.below⟩

end Go.Proofs.Ytgdaohdllipgpaa.PAll
