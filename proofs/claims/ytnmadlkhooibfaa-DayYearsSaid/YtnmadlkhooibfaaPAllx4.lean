-- Written for this claim by wip/tools of this repo (after the kit's print; own contracts laid in).
import Derived.Test.YtnmadlkhooibfaaPAllx0
import Derived.Test.YtnmadlkhooibfaaPAllx1
import Derived.Test.YtnmadlkhooibfaaPAllx2
namespace Go.Proofs.Ytnmadlkhooibfaa.PAll
open Go.RowKit Go.Proofs.YtnmadlkhooibfaaW.PrintWords Go.Proofs.YtnmadlkhooibfaaW.PrintLast Go.Proofs.YtnmadlkhooibfaaW.PrintMore
attribute [local go_sem] max2_int min2_int max_two min_two max_three min_three max_four min_four   -- for this text's walks alone
set_option linter.unusedVariables false
set_option linter.unusedSimpArgs false

/-! ### epactlaw03_DayYears: function 6 -/
mutual
def epactlaw03_DayYears.j0 : Nat → Int → Bool → Bool → Option (Bool)
  | 0, _, _, _ => none
  | k + 1, x0, x3, x19 => if x19 = true then (some x3) else ((day_Number.f k x0 1 1).bind fun bt182 => ((day_Number.f k x0 12 31).bind fun bt184 => ((day_Number.f k (wrap64 (x0 + 400)) 1 1).bind fun bt186 => ((day_Leap.f x0).bind fun t188 => (if t188 = true then (epactlaw03_DayYears.j1 k x0 x3 bt182.1 bt182.2 bt184.1 bt184.2 bt186.1 bt186.2 366) else (epactlaw03_DayYears.j1 k x0 x3 bt182.1 bt182.2 bt184.1 bt184.2 bt186.1 bt186.2 365))))))
def epactlaw03_DayYears.j1 : Nat → Int → Bool → Int → Bool → Int → Bool → Int → Bool → Int → Option (Bool)
  | 0, _, _, _, _, _, _, _, _, _ => none
  | k + 1, x0, x3, x4, x5, x6, x7, x8, x9, x10 => (day_Last.f x0 2).bind fun bt189 => (if x3 = true then (if x5 = true then (if x7 = true then (if x9 = true then (if (wrap64 ((wrap64 (x6 - x4)) + 1)) = x10 then (if (wrap64 (x8 - x4)) = 146097 then (if bt189.1 = (wrap64 (x10 - 337)) then ((day_Leap.f x0).bind fun t191 => ((day_Leap.f (wrap64 (x0 + 400))).bind fun t192 => (if (t191 == t192) = true then ((day_Week.f x4).bind fun t193 => ((day_Week.f x8).bind fun t194 => (some (t193 == t194)))) else (some false)))) else (some false)) else (some false)) else (some false)) else (some false)) else (some false)) else (some false)) else (some false))
end
def epactlaw03_DayYears.f (k : Nat) (a0 : Int) : Option (Bool) := (epactlaw03_small.f k).bind fun t181 => (if a0 < 1 then (epactlaw03_DayYears.j0 k a0 t181 true) else (epactlaw03_DayYears.j0 k a0 t181 (decide (a0 > 9598))))
theorem epactlaw03_DayYears.mono_l : ∀ k, (∀ y0 y1 y2, LeO (epactlaw03_DayYears.j0 k y0 y1 y2) (epactlaw03_DayYears.j0 (k + 1) y0 y1 y2)) ∧ (∀ y0 y1 y2 y3 y4 y5 y6 y7 y8, LeO (epactlaw03_DayYears.j1 k y0 y1 y2 y3 y4 y5 y6 y7 y8) (epactlaw03_DayYears.j1 (k + 1) y0 y1 y2 y3 y4 y5 y6 y7 y8))
  | 0 => ⟨fun _ _ _ r h => by simp [epactlaw03_DayYears.j0] at h, fun _ _ _ _ _ _ _ _ _ r h => by simp [epactlaw03_DayYears.j1] at h⟩
  | k + 1 => by
    obtain ⟨ih0, ih1⟩ := epactlaw03_DayYears.mono_l k
    refine ⟨?_, ?_⟩
    · intro y0 y1 y2
      unfold epactlaw03_DayYears.j0
      repeat' first
      | (with_reducible exact ih0 _ _ _)
      | (with_reducible exact ih1 _ _ _ _ _ _ _ _ _)
      | (with_reducible exact day_Number.mono _ _ _ _)
      | (with_reducible exact epactlaw03_small.mono _)
      | (with_reducible exact LeO.refl _)
      | (with_reducible exact LeO.none _)
      | (with_reducible refine LeO.ite ?_ ?_)
      | (with_reducible refine LeO.bind ?_ (fun _ => ?_))
      | exact ih0 _ _ _
      | exact ih1 _ _ _ _ _ _ _ _ _
      | exact day_Number.mono _ _ _ _
      | exact epactlaw03_small.mono _
      | exact LeO.none _
      | refine LeO.ite ?_ ?_
      | refine LeO.bind ?_ (fun _ => ?_)
    · intro y0 y1 y2 y3 y4 y5 y6 y7 y8
      unfold epactlaw03_DayYears.j1
      repeat' first
      | (with_reducible exact ih0 _ _ _)
      | (with_reducible exact ih1 _ _ _ _ _ _ _ _ _)
      | (with_reducible exact day_Number.mono _ _ _ _)
      | (with_reducible exact epactlaw03_small.mono _)
      | (with_reducible exact LeO.refl _)
      | (with_reducible exact LeO.none _)
      | (with_reducible refine LeO.ite ?_ ?_)
      | (with_reducible refine LeO.bind ?_ (fun _ => ?_))
      | exact ih0 _ _ _
      | exact ih1 _ _ _ _ _ _ _ _ _
      | exact day_Number.mono _ _ _ _
      | exact epactlaw03_small.mono _
      | exact LeO.none _
      | refine LeO.ite ?_ ?_
      | refine LeO.bind ?_ (fun _ => ?_)
theorem epactlaw03_DayYears.mono : ∀ a0 k, LeO (epactlaw03_DayYears.f k a0) (epactlaw03_DayYears.f (k + 1) a0) := by
  intro a0 k
  obtain ⟨ih0, ih1⟩ := epactlaw03_DayYears.mono_l k
  unfold epactlaw03_DayYears.f
  repeat' first
      | (with_reducible exact ih0 _ _ _)
      | (with_reducible exact ih1 _ _ _ _ _ _ _ _ _)
      | (with_reducible exact day_Number.mono _ _ _ _)
      | (with_reducible exact epactlaw03_small.mono _)
      | (with_reducible exact LeO.refl _)
      | (with_reducible exact LeO.none _)
      | (with_reducible refine LeO.ite ?_ ?_)
      | (with_reducible refine LeO.bind ?_ (fun _ => ?_))
      | exact ih0 _ _ _
      | exact ih1 _ _ _ _ _ _ _ _ _
      | exact day_Number.mono _ _ _ _
      | exact epactlaw03_small.mono _
      | exact LeO.none _
      | refine LeO.ite ?_ ?_
      | refine LeO.bind ?_ (fun _ => ?_)
set_option maxHeartbeats 8000000 in
set_option maxRecDepth 100000 in
theorem epactlaw03_DayYears.calls (k : Nat) (a0 : Int) (r : Bool) (w : World) (h : epactlaw03_DayYears.f k a0 = some r) :
    Calls Try.prog 6 #[.int .i64 a0] w fun e w' => e = .returned (.bool r) ∧ Drawn0 w w' := by
  have H : ((epactlaw03_small.f k).bind fun t181 => (if a0 < 1 then (epactlaw03_DayYears.j0 k a0 t181 true) else (epactlaw03_DayYears.j0 k a0 t181 (decide (a0 > 9598))))) = some r := h
  clear h
  replace H := Option.bind_eq_some_iff.mp H
  obtain ⟨t181, A20, H⟩ := H
  replace H : (if a0 < 1 then (epactlaw03_DayYears.j0 k a0 t181 true) else (epactlaw03_DayYears.j0 k a0 t181 (decide (a0 > 9598)))) = some r := H
  have A2 := Aside0.mk A20
  clear A20
  have HC3 := Aside0.mk H
  clear H
  go_enter Try.func6, Try.ntmps6
  go_upto_region 2 with (first | ((with_reducible refine gate_callee (f := 7) rfl ?_); refine goesL_ (some 13) rfl rfl Try.func7 (by kernel_rfl) rfl #[] rfl (by (try simp only [List.map_toArray, List.map_cons, List.map_nil]); first | done | rfl | (simp only [List.length_drop, List.length_take]; rfl)) ?_; (with_reducible refine (epactlaw03_small.calls k  t181 _ A2.out).mono ?_); rintro e w' ⟨rfl, ⟨nd, rfl⟩⟩; refine ⟨_, rfl, ?_⟩))
  (try simp only [Act.put, List.setIfInBounds_toArray, List.set_cons_zero, List.set_cons_succ])
  go_cut [19] (fun v19 wc => ∃ (kq : Nat) (x19_2 : Bool), v19 = .bool x19_2 ∧ Aside0 (epactlaw03_DayYears.j0 kq a0 t181 x19_2 = some r) ∧ Aside0 (kq ≤ k) ∧ Drawn0 w wc)
  case first =>
    have H := HC3.out
    clear HC3
    by_cases c4 : a0 < 1
    · rw [if_pos c4] at H
      have c4b0 : decide (a0 < 1) = true := decide_eq_true c4
      clear c4
      (first | rw [c4b0] | (simp only [i64_w, i32_w]; rw [c4b0]) | skip)
      have H' := Aside0.mk H
      clear H
      go_wp2
      go_meet
      case rel => exact ⟨_, (true), (by first | rfl | (simp; done) | (simp [*]; done)), H', ⟨by first | omega | exact Nat.le_refl _⟩, by repeat (first | exact Drawn0.refl _ | apply Drawn0.step)⟩
    · rw [if_neg c4] at H
      have c4b0 : decide (a0 < 1) = false := decide_eq_false c4
      clear c4
      (first | rw [c4b0] | (simp only [i64_w, i32_w]; rw [c4b0]) | skip)
      have H' := Aside0.mk H
      clear H
      go_wp2
      go_meet
      case rel => exact ⟨_, (decide (a0 > 9598)), (by first | rfl | (simp; done) | (simp [*]; done)), H', ⟨by first | omega | exact Nat.le_refl _⟩, by repeat (first | exact Drawn0.refl _ | apply Drawn0.step)⟩
  case rest =>
    clear HC3
    try clear p2
    try clear c4
    try clear c4b0
    obtain ⟨kq, x19_2, rfl, HA, HJ2, ⟨mc2, rfl⟩⟩ := hcut
    cases kq with
    | zero => exact absurd HA.out (by simp [epactlaw03_DayYears.j0])
    | succ kj2 =>
      have H := HA.out
      clear HA
      simp only [epactlaw03_DayYears.j0] at H
      by_cases c5 : x19_2 = true
      · subst c5
        have H1 : (some t181) = some r := by rw [if_pos rfl] at H; exact H
        clear H
        have H := H1
        clear H1
        obtain rfl := Option.some.inj H
        go_wp2
        go_ret
        exact ⟨by first | rfl | (simp; done) | (simp [*]; done), by repeat (first | exact Drawn0.refl _ | apply Drawn0.step)⟩
      · replace c5 := Bool.eq_false_iff.mpr c5
        subst c5
        have H1 : ((day_Number.f kj2 a0 1 1).bind fun bt182 => ((day_Number.f kj2 a0 12 31).bind fun bt184 => ((day_Number.f kj2 (wrap64 (a0 + 400)) 1 1).bind fun bt186 => ((day_Leap.f a0).bind fun t188 => (if t188 = true then (epactlaw03_DayYears.j1 kj2 a0 t181 bt182.1 bt182.2 bt184.1 bt184.2 bt186.1 bt186.2 366) else (epactlaw03_DayYears.j1 kj2 a0 t181 bt182.1 bt182.2 bt184.1 bt184.2 bt186.1 bt186.2 365)))))) = some r := by rw [if_neg (show ¬ (false = true) by decide)] at H; exact H
        clear H
        have H := H1
        clear H1
        replace H := Option.bind_eq_some_iff.mp H
        obtain ⟨⟨t182, t183⟩, A60, H⟩ := H
        replace H : ((day_Number.f kj2 a0 12 31).bind fun bt184 => ((day_Number.f kj2 (wrap64 (a0 + 400)) 1 1).bind fun bt186 => ((day_Leap.f a0).bind fun t188 => (if t188 = true then (epactlaw03_DayYears.j1 kj2 a0 t181 t182 t183 bt184.1 bt184.2 bt186.1 bt186.2 366) else (epactlaw03_DayYears.j1 kj2 a0 t181 t182 t183 bt184.1 bt184.2 bt186.1 bt186.2 365))))) = some r := H
        have A6 := Aside0.mk A60
        clear A60
        replace H := Option.bind_eq_some_iff.mp H
        obtain ⟨⟨t184, t185⟩, A70, H⟩ := H
        replace H : ((day_Number.f kj2 (wrap64 (a0 + 400)) 1 1).bind fun bt186 => ((day_Leap.f a0).bind fun t188 => (if t188 = true then (epactlaw03_DayYears.j1 kj2 a0 t181 t182 t183 t184 t185 bt186.1 bt186.2 366) else (epactlaw03_DayYears.j1 kj2 a0 t181 t182 t183 t184 t185 bt186.1 bt186.2 365)))) = some r := H
        have A7 := Aside0.mk A70
        clear A70
        replace H := Option.bind_eq_some_iff.mp H
        obtain ⟨⟨t186, t187⟩, A80, H⟩ := H
        replace H : ((day_Leap.f a0).bind fun t188 => (if t188 = true then (epactlaw03_DayYears.j1 kj2 a0 t181 t182 t183 t184 t185 t186 t187 366) else (epactlaw03_DayYears.j1 kj2 a0 t181 t182 t183 t184 t185 t186 t187 365))) = some r := H
        have A8 := Aside0.mk A80
        clear A80
        replace H := Option.bind_eq_some_iff.mp H
        obtain ⟨t188, A90, H⟩ := H
        replace H : (if t188 = true then (epactlaw03_DayYears.j1 kj2 a0 t181 t182 t183 t184 t185 t186 t187 366) else (epactlaw03_DayYears.j1 kj2 a0 t181 t182 t183 t184 t185 t186 t187 365)) = some r := H
        have A9 := Aside0.mk A90
        clear A90
        have HC10 := Aside0.mk H
        clear H
        go_upto_if 38 with (first | ((with_reducible refine gate_callee (f := 9) rfl ?_); refine goesL_ (some 23) rfl rfl Try.func9 (by kernel_rfl) rfl #[.int .i64 a0, .int .i64 1, .int .i64 1] rfl (by (try simp only [List.map_toArray, List.map_cons, List.map_nil]); first | done | rfl | (simp only [List.length_drop, List.length_take]; rfl)) ?_; (with_reducible refine (day_Number.calls kj2 a0 1 1 t182 t183 _ A6.out).mono ?_); rintro e w' ⟨rfl, ⟨nd, rfl⟩⟩; refine ⟨_, rfl, ?_⟩) | ((with_reducible refine gate_callee (f := 9) rfl ?_); refine goesL_ (some 28) rfl rfl Try.func9 (by kernel_rfl) rfl #[.int .i64 a0, .int .i64 12, .int .i64 31] rfl (by (try simp only [List.map_toArray, List.map_cons, List.map_nil]); first | done | rfl | (simp only [List.length_drop, List.length_take]; rfl)) ?_; (with_reducible refine (day_Number.calls kj2 a0 12 31 t184 t185 _ A7.out).mono ?_); rintro e w' ⟨rfl, ⟨nd, rfl⟩⟩; refine ⟨_, rfl, ?_⟩) | ((with_reducible refine gate_callee (f := 9) rfl ?_); refine goesL_ (some 34) rfl rfl Try.func9 (by kernel_rfl) rfl #[.int .i64 (wrap64 (a0 + 400)), .int .i64 1, .int .i64 1] rfl (by (try simp only [List.map_toArray, List.map_cons, List.map_nil]); first | done | rfl | (simp only [List.length_drop, List.length_take]; rfl)) ?_; (with_reducible refine (day_Number.calls kj2 (wrap64 (a0 + 400)) 1 1 t186 t187 _ A8.out).mono ?_); rintro e w' ⟨rfl, ⟨nd, rfl⟩⟩; refine ⟨_, rfl, ?_⟩) | ((with_reducible refine gate_callee (f := 13) rfl ?_); refine goesL_ (some 38) rfl rfl Try.func13 (by kernel_rfl) rfl #[.int .i64 a0] rfl (by (try simp only [List.map_toArray, List.map_cons, List.map_nil]); first | done | rfl | (simp only [List.length_drop, List.length_take]; rfl)) ?_; (with_reducible refine (day_Leap.calls a0 t188 _ A9.out).mono ?_); rintro e w' ⟨rfl, ⟨nd, rfl⟩⟩; refine ⟨_, rfl, ?_⟩))
        (try simp only [Act.put, List.setIfInBounds_toArray, List.set_cons_zero, List.set_cons_succ])
        go_cut [10] (fun v10 wc => ∃ (kq : Nat) (x10_9 : Int), v10 = .int .i64 x10_9 ∧ Aside0 (epactlaw03_DayYears.j1 kq a0 t181 t182 t183 t184 t185 t186 t187 x10_9 = some r) ∧ Aside0 (kq ≤ kj2) ∧ Drawn0 w wc)
        case first =>
          have H := HC10.out
          clear HC10
          by_cases c11 : t188 = true
          · subst c11
            have H1 : (epactlaw03_DayYears.j1 kj2 a0 t181 t182 t183 t184 t185 t186 t187 366) = some r := by rw [if_pos rfl] at H; exact H
            clear H
            have H := H1
            clear H1
            have H' := Aside0.mk H
            clear H
            go_wp2
            go_meet
            case rel => exact ⟨_, (366), (by first | rfl | (simp; done) | (simp [*]; done)), H', ⟨by have := HJ2.out; first | omega | exact Nat.le_refl _⟩, by repeat (first | exact Drawn0.refl _ | apply Drawn0.step)⟩
          · replace c11 := Bool.eq_false_iff.mpr c11
            subst c11
            have H1 : (epactlaw03_DayYears.j1 kj2 a0 t181 t182 t183 t184 t185 t186 t187 365) = some r := by rw [if_neg (show ¬ (false = true) by decide)] at H; exact H
            clear H
            have H := H1
            clear H1
            have H' := Aside0.mk H
            clear H
            go_wp2
            go_meet
            case rel => exact ⟨_, (365), (by first | rfl | (simp; done) | (simp [*]; done)), H', ⟨by have := HJ2.out; first | omega | exact Nat.le_refl _⟩, by repeat (first | exact Drawn0.refl _ | apply Drawn0.step)⟩
        case rest =>
          clear HC10
          try clear c1
          try clear c2
          try clear p2
          try clear c4
          try clear c4b0
          try clear c5
          try clear c6
          try clear p6
          try clear c7
          try clear c9
          try clear c11
          try clear p2
          obtain ⟨kq, x10_9, rfl, HA, HJ9, ⟨mc9, rfl⟩⟩ := hcut
          cases kq with
          | zero => exact absurd HA.out (by simp [epactlaw03_DayYears.j1])
          | succ kj9 =>
            have H := HA.out
            clear HA
            simp only [epactlaw03_DayYears.j1] at H
            replace H := Option.bind_eq_some_iff.mp H
            obtain ⟨⟨t189, t190⟩, A120, H⟩ := H
            replace H : (if t181 = true then (if t183 = true then (if t185 = true then (if t187 = true then (if (wrap64 ((wrap64 (t184 - t182)) + 1)) = x10_9 then (if (wrap64 (t186 - t182)) = 146097 then (if t189 = (wrap64 (x10_9 - 337)) then ((day_Leap.f a0).bind fun t191 => ((day_Leap.f (wrap64 (a0 + 400))).bind fun t192 => (if (t191 == t192) = true then ((day_Week.f t182).bind fun t193 => ((day_Week.f t186).bind fun t194 => (some (t193 == t194)))) else (some false)))) else (some false)) else (some false)) else (some false)) else (some false)) else (some false)) else (some false)) else (some false)) = some r := H
            have A12 := Aside0.mk A120
            clear A120
            by_cases c13 : t181 = true
            · subst c13
              have H1 : (if t183 = true then (if t185 = true then (if t187 = true then (if (wrap64 ((wrap64 (t184 - t182)) + 1)) = x10_9 then (if (wrap64 (t186 - t182)) = 146097 then (if t189 = (wrap64 (x10_9 - 337)) then ((day_Leap.f a0).bind fun t191 => ((day_Leap.f (wrap64 (a0 + 400))).bind fun t192 => (if (t191 == t192) = true then ((day_Week.f t182).bind fun t193 => ((day_Week.f t186).bind fun t194 => (some (t193 == t194)))) else (some false)))) else (some false)) else (some false)) else (some false)) else (some false)) else (some false)) else (some false)) = some r := by rw [if_pos rfl] at H; exact H
              clear H
              have H := H1
              clear H1
              by_cases c14 : t183 = true
              · subst c14
                have H1 : (if t185 = true then (if t187 = true then (if (wrap64 ((wrap64 (t184 - t182)) + 1)) = x10_9 then (if (wrap64 (t186 - t182)) = 146097 then (if t189 = (wrap64 (x10_9 - 337)) then ((day_Leap.f a0).bind fun t191 => ((day_Leap.f (wrap64 (a0 + 400))).bind fun t192 => (if (t191 == t192) = true then ((day_Week.f t182).bind fun t193 => ((day_Week.f t186).bind fun t194 => (some (t193 == t194)))) else (some false)))) else (some false)) else (some false)) else (some false)) else (some false)) else (some false)) = some r := by rw [if_pos rfl] at H; exact H
                clear H
                have H := H1
                clear H1
                by_cases c15 : t185 = true
                · subst c15
                  have H1 : (if t187 = true then (if (wrap64 ((wrap64 (t184 - t182)) + 1)) = x10_9 then (if (wrap64 (t186 - t182)) = 146097 then (if t189 = (wrap64 (x10_9 - 337)) then ((day_Leap.f a0).bind fun t191 => ((day_Leap.f (wrap64 (a0 + 400))).bind fun t192 => (if (t191 == t192) = true then ((day_Week.f t182).bind fun t193 => ((day_Week.f t186).bind fun t194 => (some (t193 == t194)))) else (some false)))) else (some false)) else (some false)) else (some false)) else (some false)) = some r := by rw [if_pos rfl] at H; exact H
                  clear H
                  have H := H1
                  clear H1
                  by_cases c16 : t187 = true
                  · subst c16
                    have H1 : (if (wrap64 ((wrap64 (t184 - t182)) + 1)) = x10_9 then (if (wrap64 (t186 - t182)) = 146097 then (if t189 = (wrap64 (x10_9 - 337)) then ((day_Leap.f a0).bind fun t191 => ((day_Leap.f (wrap64 (a0 + 400))).bind fun t192 => (if (t191 == t192) = true then ((day_Week.f t182).bind fun t193 => ((day_Week.f t186).bind fun t194 => (some (t193 == t194)))) else (some false)))) else (some false)) else (some false)) else (some false)) = some r := by rw [if_pos rfl] at H; exact H
                    clear H
                    have H := H1
                    clear H1
                    by_cases c17 : (wrap64 ((wrap64 (t184 - t182)) + 1)) = x10_9
                    · rw [if_pos c17] at H
                      have c17b0 : ((wrap64 ((wrap64 (t184 - t182)) + 1)) == x10_9) = true := beq_iff_eq.mpr c17
                      have c17b1 : ((wrap64 ((wrap64 (t184 - t182)) + 1)) != x10_9) = false := bne_eq_false_iff_eq.mpr c17
                      clear c17
                      by_cases c18 : (wrap64 (t186 - t182)) = 146097
                      · rw [if_pos c18] at H
                        have c18b0 : ((wrap64 (t186 - t182)) == 146097) = true := beq_iff_eq.mpr c18
                        have c18b1 : ((wrap64 (t186 - t182)) != 146097) = false := bne_eq_false_iff_eq.mpr c18
                        clear c18
                        by_cases c19 : t189 = (wrap64 (x10_9 - 337))
                        · rw [if_pos c19] at H
                          have c19b0 : (t189 == (wrap64 (x10_9 - 337))) = true := beq_iff_eq.mpr c19
                          have c19b1 : (t189 != (wrap64 (x10_9 - 337))) = false := bne_eq_false_iff_eq.mpr c19
                          clear c19
                          replace H := Option.bind_eq_some_iff.mp H
                          obtain ⟨t191, A200, H⟩ := H
                          replace H : ((day_Leap.f (wrap64 (a0 + 400))).bind fun t192 => (if (t191 == t192) = true then ((day_Week.f t182).bind fun t193 => ((day_Week.f t186).bind fun t194 => (some (t193 == t194)))) else (some false))) = some r := H
                          have A20 := Aside0.mk A200
                          clear A200
                          replace H := Option.bind_eq_some_iff.mp H
                          obtain ⟨t192, A210, H⟩ := H
                          replace H : (if (t191 == t192) = true then ((day_Week.f t182).bind fun t193 => ((day_Week.f t186).bind fun t194 => (some (t193 == t194)))) else (some false)) = some r := H
                          have A21 := Aside0.mk A210
                          clear A210
                          by_cases c22 : (t191 == t192) = true
                          · rw [if_pos c22] at H
                            have c22b0 : (t191 == t192) = true := c22
                            (try (have c22b1 : decide (t191 = t192) = true := by simpa using c22))
                            (try (have c22b2 : (t191 == t192) = true := by simpa using c22))
                            clear c22
                            replace H := Option.bind_eq_some_iff.mp H
                            obtain ⟨t193, A230, H⟩ := H
                            replace H : ((day_Week.f t186).bind fun t194 => (some (t193 == t194))) = some r := H
                            have A23 := Aside0.mk A230
                            clear A230
                            replace H := Option.bind_eq_some_iff.mp H
                            obtain ⟨t194, A240, H⟩ := H
                            replace H : (some (t193 == t194)) = some r := H
                            have A24 := Aside0.mk A240
                            clear A240
                            obtain rfl := Option.some.inj H
                            go_wp2_with (first | ((with_reducible refine gate_callee (f := 10) rfl ?_); refine goesL_ (some 41) rfl rfl Try.func10 (by kernel_rfl) rfl #[.int .i64 a0, .int .i64 2] rfl (by (try simp only [List.map_toArray, List.map_cons, List.map_nil]); first | done | rfl | (simp only [List.length_drop, List.length_take]; rfl)) ?_; (with_reducible refine (day_Last.calls a0 2 t189 t190 _ A12.out).mono ?_); rintro e w' ⟨rfl, ⟨nd, rfl⟩⟩; refine ⟨_, rfl, ?_⟩) | (go_at_call 13; (with_reducible refine (day_Leap.calls a0 t191 _ A20.out).mono ?_); rintro e w' ⟨rfl, ⟨nd, rfl⟩⟩) | (go_at_call 13; (with_reducible refine (day_Leap.calls (wrap64 (a0 + 400)) t192 _ A21.out).mono ?_); rintro e w' ⟨rfl, ⟨nd, rfl⟩⟩) | (go_at_call 11; (with_reducible refine (day_Week.calls t182 t193 _ A23.out).mono ?_); rintro e w' ⟨rfl, ⟨nd, rfl⟩⟩) | (go_at_call 11; (with_reducible refine (day_Week.calls t186 t194 _ A24.out).mono ?_); rintro e w' ⟨rfl, ⟨nd, rfl⟩⟩))
                            go_ret
                            exact ⟨by first | rfl | (simp; done) | (simp [*]; done), by repeat (first | exact Drawn0.refl _ | apply Drawn0.step)⟩
                          · rw [if_neg c22] at H
                            have c22b0 : (t191 == t192) = false := by simpa using c22
                            (try (have c22b1 : decide (t191 = t192) = false := by simpa using c22))
                            (try (have c22b2 : (t191 == t192) = false := by simpa using c22))
                            (try (have c22b3 : ¬ (t191 = t192) := by simpa using c22))
                            clear c22
                            obtain rfl := Option.some.inj H
                            go_wp2_with (first | ((with_reducible refine gate_callee (f := 10) rfl ?_); refine goesL_ (some 41) rfl rfl Try.func10 (by kernel_rfl) rfl #[.int .i64 a0, .int .i64 2] rfl (by (try simp only [List.map_toArray, List.map_cons, List.map_nil]); first | done | rfl | (simp only [List.length_drop, List.length_take]; rfl)) ?_; (with_reducible refine (day_Last.calls a0 2 t189 t190 _ A12.out).mono ?_); rintro e w' ⟨rfl, ⟨nd, rfl⟩⟩; refine ⟨_, rfl, ?_⟩) | (go_at_call 13; (with_reducible refine (day_Leap.calls a0 t191 _ A20.out).mono ?_); rintro e w' ⟨rfl, ⟨nd, rfl⟩⟩) | (go_at_call 13; (with_reducible refine (day_Leap.calls (wrap64 (a0 + 400)) t192 _ A21.out).mono ?_); rintro e w' ⟨rfl, ⟨nd, rfl⟩⟩))
                            go_ret
                            exact ⟨by first | rfl | (simp; done) | (simp [*]; done), by repeat (first | exact Drawn0.refl _ | apply Drawn0.step)⟩
                        · rw [if_neg c19] at H
                          have c19b0 : (t189 == (wrap64 (x10_9 - 337))) = false := beq_eq_false_iff_ne.mpr c19
                          have c19b1 : (t189 != (wrap64 (x10_9 - 337))) = true := bne_iff_ne.mpr c19
                          obtain rfl := Option.some.inj H
                          go_wp2_with (first | ((with_reducible refine gate_callee (f := 10) rfl ?_); refine goesL_ (some 41) rfl rfl Try.func10 (by kernel_rfl) rfl #[.int .i64 a0, .int .i64 2] rfl (by (try simp only [List.map_toArray, List.map_cons, List.map_nil]); first | done | rfl | (simp only [List.length_drop, List.length_take]; rfl)) ?_; (with_reducible refine (day_Last.calls a0 2 t189 t190 _ A12.out).mono ?_); rintro e w' ⟨rfl, ⟨nd, rfl⟩⟩; refine ⟨_, rfl, ?_⟩))
                          go_ret
                          exact ⟨by first | rfl | (simp; done) | (simp [*]; done), by repeat (first | exact Drawn0.refl _ | apply Drawn0.step)⟩
                      · rw [if_neg c18] at H
                        have c18b0 : ((wrap64 (t186 - t182)) == 146097) = false := beq_eq_false_iff_ne.mpr c18
                        have c18b1 : ((wrap64 (t186 - t182)) != 146097) = true := bne_iff_ne.mpr c18
                        obtain rfl := Option.some.inj H
                        go_wp2_with (first | ((with_reducible refine gate_callee (f := 10) rfl ?_); refine goesL_ (some 41) rfl rfl Try.func10 (by kernel_rfl) rfl #[.int .i64 a0, .int .i64 2] rfl (by (try simp only [List.map_toArray, List.map_cons, List.map_nil]); first | done | rfl | (simp only [List.length_drop, List.length_take]; rfl)) ?_; (with_reducible refine (day_Last.calls a0 2 t189 t190 _ A12.out).mono ?_); rintro e w' ⟨rfl, ⟨nd, rfl⟩⟩; refine ⟨_, rfl, ?_⟩))
                        go_ret
                        exact ⟨by first | rfl | (simp; done) | (simp [*]; done), by repeat (first | exact Drawn0.refl _ | apply Drawn0.step)⟩
                    · rw [if_neg c17] at H
                      have c17b0 : ((wrap64 ((wrap64 (t184 - t182)) + 1)) == x10_9) = false := beq_eq_false_iff_ne.mpr c17
                      have c17b1 : ((wrap64 ((wrap64 (t184 - t182)) + 1)) != x10_9) = true := bne_iff_ne.mpr c17
                      obtain rfl := Option.some.inj H
                      go_wp2_with (first | ((with_reducible refine gate_callee (f := 10) rfl ?_); refine goesL_ (some 41) rfl rfl Try.func10 (by kernel_rfl) rfl #[.int .i64 a0, .int .i64 2] rfl (by (try simp only [List.map_toArray, List.map_cons, List.map_nil]); first | done | rfl | (simp only [List.length_drop, List.length_take]; rfl)) ?_; (with_reducible refine (day_Last.calls a0 2 t189 t190 _ A12.out).mono ?_); rintro e w' ⟨rfl, ⟨nd, rfl⟩⟩; refine ⟨_, rfl, ?_⟩))
                      go_ret
                      exact ⟨by first | rfl | (simp; done) | (simp [*]; done), by repeat (first | exact Drawn0.refl _ | apply Drawn0.step)⟩
                  · replace c16 := Bool.eq_false_iff.mpr c16
                    subst c16
                    have H1 : (some false) = some r := by rw [if_neg (show ¬ (false = true) by decide)] at H; exact H
                    clear H
                    have H := H1
                    clear H1
                    obtain rfl := Option.some.inj H
                    go_wp2_with (first | ((with_reducible refine gate_callee (f := 10) rfl ?_); refine goesL_ (some 41) rfl rfl Try.func10 (by kernel_rfl) rfl #[.int .i64 a0, .int .i64 2] rfl (by (try simp only [List.map_toArray, List.map_cons, List.map_nil]); first | done | rfl | (simp only [List.length_drop, List.length_take]; rfl)) ?_; (with_reducible refine (day_Last.calls a0 2 t189 t190 _ A12.out).mono ?_); rintro e w' ⟨rfl, ⟨nd, rfl⟩⟩; refine ⟨_, rfl, ?_⟩))
                    go_ret
                    exact ⟨by first | rfl | (simp; done) | (simp [*]; done), by repeat (first | exact Drawn0.refl _ | apply Drawn0.step)⟩
                · replace c15 := Bool.eq_false_iff.mpr c15
                  subst c15
                  have H1 : (some false) = some r := by rw [if_neg (show ¬ (false = true) by decide)] at H; exact H
                  clear H
                  have H := H1
                  clear H1
                  obtain rfl := Option.some.inj H
                  go_wp2_with (first | ((with_reducible refine gate_callee (f := 10) rfl ?_); refine goesL_ (some 41) rfl rfl Try.func10 (by kernel_rfl) rfl #[.int .i64 a0, .int .i64 2] rfl (by (try simp only [List.map_toArray, List.map_cons, List.map_nil]); first | done | rfl | (simp only [List.length_drop, List.length_take]; rfl)) ?_; (with_reducible refine (day_Last.calls a0 2 t189 t190 _ A12.out).mono ?_); rintro e w' ⟨rfl, ⟨nd, rfl⟩⟩; refine ⟨_, rfl, ?_⟩))
                  go_ret
                  exact ⟨by first | rfl | (simp; done) | (simp [*]; done), by repeat (first | exact Drawn0.refl _ | apply Drawn0.step)⟩
              · replace c14 := Bool.eq_false_iff.mpr c14
                subst c14
                have H1 : (some false) = some r := by rw [if_neg (show ¬ (false = true) by decide)] at H; exact H
                clear H
                have H := H1
                clear H1
                obtain rfl := Option.some.inj H
                go_wp2_with (first | ((with_reducible refine gate_callee (f := 10) rfl ?_); refine goesL_ (some 41) rfl rfl Try.func10 (by kernel_rfl) rfl #[.int .i64 a0, .int .i64 2] rfl (by (try simp only [List.map_toArray, List.map_cons, List.map_nil]); first | done | rfl | (simp only [List.length_drop, List.length_take]; rfl)) ?_; (with_reducible refine (day_Last.calls a0 2 t189 t190 _ A12.out).mono ?_); rintro e w' ⟨rfl, ⟨nd, rfl⟩⟩; refine ⟨_, rfl, ?_⟩))
                go_ret
                exact ⟨by first | rfl | (simp; done) | (simp [*]; done), by repeat (first | exact Drawn0.refl _ | apply Drawn0.step)⟩
            · replace c13 := Bool.eq_false_iff.mpr c13
              subst c13
              have H1 : (some false) = some r := by rw [if_neg (show ¬ (false = true) by decide)] at H; exact H
              clear H
              have H := H1
              clear H1
              obtain rfl := Option.some.inj H
              go_wp2_with (first | ((with_reducible refine gate_callee (f := 10) rfl ?_); refine goesL_ (some 41) rfl rfl Try.func10 (by kernel_rfl) rfl #[.int .i64 a0, .int .i64 2] rfl (by (try simp only [List.map_toArray, List.map_cons, List.map_nil]); first | done | rfl | (simp only [List.length_drop, List.length_take]; rfl)) ?_; (with_reducible refine (day_Last.calls a0 2 t189 t190 _ A12.out).mono ?_); rintro e w' ⟨rfl, ⟨nd, rfl⟩⟩; refine ⟨_, rfl, ?_⟩))
              go_ret
              exact ⟨by first | rfl | (simp; done) | (simp [*]; done), by repeat (first | exact Drawn0.refl _ | apply Drawn0.step)⟩

/-- THE ONE PURE STATEMENT of epactlaw03_DayYears: yours. -/
def epactlaw03_DayYears.Pure : Prop := ∀ (a0 : Int), (Lit.int .i64 a0).wf = true → ∃ k, epactlaw03_DayYears.f k a0 = some true
theorem epactlaw03_DayYears.walk (P : epactlaw03_DayYears.Pure) (a0 : Int) (w : World) (w0 : (Lit.int .i64 a0).wf = true) :
    Calls Try.prog 6 #[.int .i64 a0] w fun e w' => e = .returned (.bool true) ∧ Below w.heap.size w w' := by
  obtain ⟨k, h⟩ := P a0 w0
  refine (epactlaw03_DayYears.calls k a0 true w h).mono ?_
  rintro e w' ⟨rfl, hd⟩
  exact ⟨rfl, hd.below⟩

end Go.Proofs.Ytnmadlkhooibfaa.PAll
