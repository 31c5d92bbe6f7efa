-- Written for this claim by wip/tools of this repo (after the kit's print; own contracts laid in).
import Derived.Test.YtpgkdagjlbcgkaaPAllx0
namespace Go.Proofs.Ytpgkdagjlbcgkaa.PAll
open Go.RowKit Go.Proofs.YtpgkdagjlbcgkaaW.PrintWords Go.Proofs.YtpgkdagjlbcgkaaW.PrintLast Go.Proofs.YtpgkdagjlbcgkaaW.PrintMore
attribute [local go_sem] max2_int min2_int max_two min_two max_three min_three max_four min_four   -- for this text's walks alone
set_option linter.unusedVariables false
set_option linter.unusedSimpArgs false

/-! ### stamp_Clock: function 9 -/
def stamp_Clock.j0 : Nat → Int → Bool → Option (Int × Int × Int × Bool)
  | 0, _, _ => none
  | k + 1, x0, x6 => if x6 = true then (some (0, 0, 0, false)) else (if x0 = 86400 then (some (23, 59, 60, true)) else (some (wrap64 (Int.tdiv x0 3600), Int.tmod (wrap64 (Int.tdiv x0 60)) 60, Int.tmod x0 60, true)))
def stamp_Clock.f (k : Nat) (a0 : Int) : Option (Int × Int × Int × Bool) := if a0 < 0 then (stamp_Clock.j0 k a0 true) else (stamp_Clock.j0 k a0 (decide (a0 > 86400)))
theorem stamp_Clock.mono_l : ∀ k, (∀ y0 y1, LeO (stamp_Clock.j0 k y0 y1) (stamp_Clock.j0 (k + 1) y0 y1))
  | 0 => fun _ _ r h => by simp [stamp_Clock.j0] at h
  | k + 1 => by
    have ih0 := stamp_Clock.mono_l k
    · intro y0 y1
      unfold stamp_Clock.j0
      repeat' first
      | (with_reducible exact ih0 _ _)
      | (with_reducible exact LeO.refl _)
      | (with_reducible exact LeO.none _)
      | (with_reducible refine LeO.ite ?_ ?_)
      | (with_reducible refine LeO.bind ?_ (fun _ => ?_))
      | exact ih0 _ _
      | exact LeO.none _
      | refine LeO.ite ?_ ?_
      | refine LeO.bind ?_ (fun _ => ?_)
theorem stamp_Clock.mono : ∀ a0 k, LeO (stamp_Clock.f k a0) (stamp_Clock.f (k + 1) a0) := by
  intro a0 k
  have ih0 := stamp_Clock.mono_l k
  unfold stamp_Clock.f
  repeat' first
      | (with_reducible exact ih0 _ _)
      | (with_reducible exact LeO.refl _)
      | (with_reducible exact LeO.none _)
      | (with_reducible refine LeO.ite ?_ ?_)
      | (with_reducible refine LeO.bind ?_ (fun _ => ?_))
      | exact ih0 _ _
      | exact LeO.none _
      | refine LeO.ite ?_ ?_
      | refine LeO.bind ?_ (fun _ => ?_)
set_option maxHeartbeats 8000000 in
set_option maxRecDepth 100000 in
theorem stamp_Clock.calls (k : Nat) (a0 : Int) (r1 : Int) (r2 : Int) (r3 : Int) (r4 : Bool) (w : World) (h : stamp_Clock.f k a0 = some (r1, r2, r3, r4)) :
    Calls Try.prog 9 #[.int .i64 a0] w fun e w' => e = .returned (.tuple #[.int .i64 r1, .int .i64 r2, .int .i64 r3, .bool r4]) ∧ Drawn0 w w' := by
  have H : (if a0 < 0 then (stamp_Clock.j0 k a0 true) else (stamp_Clock.j0 k a0 (decide (a0 > 86400)))) = some (r1, r2, r3, r4) := h
  clear h
  have HC2 := Aside0.mk H
  clear H
  go_enter Try.func9, Try.ntmps9
  go_upto_region 1 with (fail)
  go_cut [6] (fun v6 wc => ∃ (kq : Nat) (x6_1 : Bool), v6 = .bool x6_1 ∧ Aside0 (stamp_Clock.j0 kq a0 x6_1 = some (r1, r2, r3, r4)) ∧ Aside0 (kq ≤ k) ∧ Drawn0 w wc)
  case first =>
    have H := HC2.out
    clear HC2
    by_cases c3 : a0 < 0
    · rw [if_pos c3] at H
      have c3b0 : decide (a0 < 0) = true := decide_eq_true c3
      clear c3
      (first | rw [c3b0] | (simp only [i64_w, i32_w]; rw [c3b0]) | skip)
      have H' := Aside0.mk H
      clear H
      go_wp2
      go_meet
      case rel => exact ⟨_, (true), (by first | rfl | (simp; done) | (simp [*]; done)), H', ⟨by first | omega | exact Nat.le_refl _⟩, by repeat (first | exact Drawn0.refl _ | apply Drawn0.step)⟩
    · rw [if_neg c3] at H
      have c3b0 : decide (a0 < 0) = false := decide_eq_false c3
      clear c3
      (first | rw [c3b0] | (simp only [i64_w, i32_w]; rw [c3b0]) | skip)
      have H' := Aside0.mk H
      clear H
      go_wp2
      go_meet
      case rel => exact ⟨_, (decide (a0 > 86400)), (by first | rfl | (simp; done) | (simp [*]; done)), H', ⟨by first | omega | exact Nat.le_refl _⟩, by repeat (first | exact Drawn0.refl _ | apply Drawn0.step)⟩
  case rest =>
    clear HC2
    try clear p2
    try clear c3
    try clear c3b0
    obtain ⟨kq, x6_1, rfl, HA, HJ1, ⟨mc1, rfl⟩⟩ := hcut
    cases kq with
    | zero => exact absurd HA.out (by simp [stamp_Clock.j0])
    | succ kj1 =>
      have H := HA.out
      clear HA
      simp only [stamp_Clock.j0] at H
      by_cases c4 : x6_1 = true
      · subst c4
        have H1 : (some (0, 0, 0, false)) = some (r1, r2, r3, r4) := by rw [if_pos rfl] at H; exact H
        clear H
        have H := H1
        clear H1
        simp only [Option.some.injEq, Prod.mk.injEq] at H
        obtain ⟨rfl, rfl, rfl, rfl⟩ := H
        go_wp2
        refine bodyPost_ret (results_list (rs := [.tmp 2, .tmp 3, .tmp 4, .tmp 5]) rfl (by simp) (.tmp (.tmp (.tmp (.tmp .nil))))) rfl ?_
        exact ⟨by first | rfl | (simp; done) | (simp [*]; done), by repeat (first | exact Drawn0.refl _ | apply Drawn0.step)⟩
      · replace c4 := Bool.eq_false_iff.mpr c4
        subst c4
        have H1 : (if a0 = 86400 then (some (23, 59, 60, true)) else (some (wrap64 (Int.tdiv a0 3600), Int.tmod (wrap64 (Int.tdiv a0 60)) 60, Int.tmod a0 60, true))) = some (r1, r2, r3, r4) := by rw [if_neg (show ¬ (false = true) by decide)] at H; exact H
        clear H
        have H := H1
        clear H1
        by_cases c5 : a0 = 86400
        · rw [if_pos c5] at H
          have c5b0 : (a0 == 86400) = true := beq_iff_eq.mpr c5
          have c5b1 : (a0 != 86400) = false := bne_eq_false_iff_eq.mpr c5
          clear c5
          simp only [Option.some.injEq, Prod.mk.injEq] at H
          obtain ⟨rfl, rfl, rfl, rfl⟩ := H
          go_wp2
          refine bodyPost_ret (results_list (rs := [.tmp 2, .tmp 3, .tmp 4, .tmp 5]) rfl (by simp) (.tmp (.tmp (.tmp (.tmp .nil))))) rfl ?_
          exact ⟨by first | rfl | (simp; done) | (simp [*]; done), by repeat (first | exact Drawn0.refl _ | apply Drawn0.step)⟩
        · rw [if_neg c5] at H
          have c5b0 : (a0 == 86400) = false := beq_eq_false_iff_ne.mpr c5
          have c5b1 : (a0 != 86400) = true := bne_iff_ne.mpr c5
          simp only [Option.some.injEq, Prod.mk.injEq] at H
          obtain ⟨rfl, rfl, rfl, rfl⟩ := H
          go_wp2
          refine bodyPost_ret (results_list (rs := [.tmp 2, .tmp 3, .tmp 4, .tmp 5]) rfl (by simp) (.tmp (.tmp (.tmp (.tmp .nil))))) rfl ?_
          exact ⟨by first | rfl | (simp; done) | (simp [*]; done), by repeat (first | exact Drawn0.refl _ | apply Drawn0.step)⟩

/-! ### stamp_Second: function 11 -/
def stamp_Second.j0 : Nat → Int → Int → Int → Bool → Option (Int × Bool)
  | 0, _, _, _, _ => none
  | k + 1, x0, x1, x2, x17 => if x17 = true then (some (86400, true)) else (if (mn (mn x0 x1) x2) < 0 then (some (0, false)) else (if x0 > 23 then (some (0, false)) else (if x1 > 59 then (some (0, false)) else (if x2 > 59 then (some (0, false)) else (some (wrap64 ((wrap64 ((wrap64 ((wrap64 (x0 * 60)) + x1)) * 60)) + x2), true))))))
def stamp_Second.f (k : Nat) (a0 : Int) (a1 : Int) (a2 : Int) : Option (Int × Bool) := if a0 = 23 then (if a1 = 59 then (stamp_Second.j0 k a0 a1 a2 (a2 == 60)) else (stamp_Second.j0 k a0 a1 a2 false)) else (stamp_Second.j0 k a0 a1 a2 false)
theorem stamp_Second.mono_l : ∀ k, (∀ y0 y1 y2 y3, LeO (stamp_Second.j0 k y0 y1 y2 y3) (stamp_Second.j0 (k + 1) y0 y1 y2 y3))
  | 0 => fun _ _ _ _ r h => by simp [stamp_Second.j0] at h
  | k + 1 => by
    have ih0 := stamp_Second.mono_l k
    · intro y0 y1 y2 y3
      unfold stamp_Second.j0
      repeat' first
      | (with_reducible exact ih0 _ _ _ _)
      | (with_reducible exact LeO.refl _)
      | (with_reducible exact LeO.none _)
      | (with_reducible refine LeO.ite ?_ ?_)
      | (with_reducible refine LeO.bind ?_ (fun _ => ?_))
      | exact ih0 _ _ _ _
      | exact LeO.none _
      | refine LeO.ite ?_ ?_
      | refine LeO.bind ?_ (fun _ => ?_)
theorem stamp_Second.mono : ∀ a0 a1 a2 k, LeO (stamp_Second.f k a0 a1 a2) (stamp_Second.f (k + 1) a0 a1 a2) := by
  intro a0 a1 a2 k
  have ih0 := stamp_Second.mono_l k
  unfold stamp_Second.f
  repeat' first
      | (with_reducible exact ih0 _ _ _ _)
      | (with_reducible exact LeO.refl _)
      | (with_reducible exact LeO.none _)
      | (with_reducible refine LeO.ite ?_ ?_)
      | (with_reducible refine LeO.bind ?_ (fun _ => ?_))
      | exact ih0 _ _ _ _
      | exact LeO.none _
      | refine LeO.ite ?_ ?_
      | refine LeO.bind ?_ (fun _ => ?_)
set_option maxHeartbeats 8000000 in
set_option maxRecDepth 100000 in
theorem stamp_Second.calls (k : Nat) (a0 : Int) (a1 : Int) (a2 : Int) (r1 : Int) (r2 : Bool) (w : World) (h : stamp_Second.f k a0 a1 a2 = some (r1, r2)) :
    Calls Try.prog 11 #[.int .i64 a0, .int .i64 a1, .int .i64 a2] w fun e w' => e = .returned (.tuple #[.int .i64 r1, .bool r2]) ∧ Below w.heap.size w w' := by
  have HB := Aside0.mk (Below.refl w.heap.size w)
  have H : (if a0 = 23 then (if a1 = 59 then (stamp_Second.j0 k a0 a1 a2 (a2 == 60)) else (stamp_Second.j0 k a0 a1 a2 false)) else (stamp_Second.j0 k a0 a1 a2 false)) = some (r1, r2) := h
  clear h
  have HC4 := Aside0.mk H
  clear H
  go_enter Try.func11, Try.ntmps11
  go_upto_region 1 with (fail)
  go_cut [17] (fun v17 wc => ∃ (kq : Nat) (x17_3 : Bool), v17 = .bool x17_3 ∧ Aside0 (stamp_Second.j0 kq a0 a1 a2 x17_3 = some (r1, r2)) ∧ Aside0 (kq ≤ k) ∧ Aside0 (Below w.heap.size w wc))
  case first =>
    have H := HC4.out
    clear HC4
    by_cases c5 : a0 = 23
    · rw [if_pos c5] at H
      have c5b0 : (a0 == 23) = true := beq_iff_eq.mpr c5
      have c5b1 : (a0 != 23) = false := bne_eq_false_iff_eq.mpr c5
      clear c5
      (first | rw [c5b0] | (simp only [i64_w, i32_w]; rw [c5b0]) | skip)
      by_cases c6 : a1 = 59
      · rw [if_pos c6] at H
        have c6b0 : (a1 == 59) = true := beq_iff_eq.mpr c6
        have c6b1 : (a1 != 59) = false := bne_eq_false_iff_eq.mpr c6
        clear c6
        have H' := Aside0.mk H
        clear H
        go_wp2
        go_meet
        case rel => exact ⟨_, ((a2 == 60)), (by first | rfl | (simp; done) | (simp [*]; done)), H', ⟨by first | omega | exact Nat.le_refl _⟩, ⟨by repeat (first | (with_reducible first | exact HB.out | apply below_alloc | apply pw_below_drewN | apply below_drew1) | exact HB.out)⟩⟩
      · rw [if_neg c6] at H
        have c6b0 : (a1 == 59) = false := beq_eq_false_iff_ne.mpr c6
        have c6b1 : (a1 != 59) = true := bne_iff_ne.mpr c6
        have H' := Aside0.mk H
        clear H
        go_wp2
        go_meet
        case rel => exact ⟨_, (false), (by first | rfl | (simp; done) | (simp [*]; done)), H', ⟨by first | omega | exact Nat.le_refl _⟩, ⟨by repeat (first | (with_reducible first | exact HB.out | apply below_alloc | apply pw_below_drewN | apply below_drew1) | exact HB.out)⟩⟩
    · rw [if_neg c5] at H
      have c5b0 : (a0 == 23) = false := beq_eq_false_iff_ne.mpr c5
      have c5b1 : (a0 != 23) = true := bne_iff_ne.mpr c5
      (first | rw [c5b0] | (simp only [i64_w, i32_w]; rw [c5b0]) | skip)
      have H' := Aside0.mk H
      clear H
      go_wp2
      go_meet
      case rel => exact ⟨_, (false), (by first | rfl | (simp; done) | (simp [*]; done)), H', ⟨by first | omega | exact Nat.le_refl _⟩, ⟨by repeat (first | (with_reducible first | exact HB.out | apply below_alloc | apply pw_below_drewN | apply below_drew1) | exact HB.out)⟩⟩
  case rest =>
    clear HC4
    try clear c1
    try clear p2
    try clear c5
    try clear c5b0
    try clear c5b1
    try clear c6
    try clear c6b0
    try clear c6b1
    obtain ⟨kq, x17_3, rfl, HA, HJ3, HB⟩ := hcut
    cases kq with
    | zero => exact absurd HA.out (by simp [stamp_Second.j0])
    | succ kj3 =>
      have H := HA.out
      clear HA
      simp only [stamp_Second.j0] at H
      by_cases c7 : x17_3 = true
      · subst c7
        have H1 : (some (86400, true)) = some (r1, r2) := by rw [if_pos rfl] at H; exact H
        clear H
        have H := H1
        clear H1
        simp only [Option.some.injEq, Prod.mk.injEq] at H
        obtain ⟨rfl, rfl⟩ := H
        go_wp2
        go_ret2
        exact ⟨by first | rfl | (simp [errW_none, errW_some] <;> rfl) | (simp [*, errW_none, errW_some] <;> rfl), by repeat (first | (with_reducible first | exact HB.out | apply below_alloc | apply pw_below_drewN | apply below_drew1) | exact HB.out)⟩
      · replace c7 := Bool.eq_false_iff.mpr c7
        subst c7
        have H1 : (if (mn (mn a0 a1) a2) < 0 then (some (0, false)) else (if a0 > 23 then (some (0, false)) else (if a1 > 59 then (some (0, false)) else (if a2 > 59 then (some (0, false)) else (some (wrap64 ((wrap64 ((wrap64 ((wrap64 (a0 * 60)) + a1)) * 60)) + a2), true)))))) = some (r1, r2) := by rw [if_neg (show ¬ (false = true) by decide)] at H; exact H
        clear H
        have H := H1
        clear H1
        obtain ⟨ji8, hji8⟩ : ∃ j_ : Int, (mn a0 a1) = j_ := ⟨_, rfl⟩
        replace H : (if (mn (ji8) a2) < 0 then (some (0, false)) else (if a0 > 23 then (some (0, false)) else (if a1 > 59 then (some (0, false)) else (if a2 > 59 then (some (0, false)) else (some (wrap64 ((wrap64 ((wrap64 ((wrap64 (a0 * 60)) + a1)) * 60)) + a2), true)))))) = some (r1, r2) := by first | (rw [hji8] at H; exact H) | (simp only [hji8] at H ⊢; exact H)
        have hji8_ : (if a1 < a0 then a1 else a0) = ji8 := hji8
        obtain ⟨ji9, hji9⟩ : ∃ j_ : Int, (mn (ji8) a2) = j_ := ⟨_, rfl⟩
        replace H : (if (ji9) < 0 then (some (0, false)) else (if a0 > 23 then (some (0, false)) else (if a1 > 59 then (some (0, false)) else (if a2 > 59 then (some (0, false)) else (some (wrap64 ((wrap64 ((wrap64 ((wrap64 (a0 * 60)) + a1)) * 60)) + a2), true)))))) = some (r1, r2) := by first | (rw [hji9] at H; exact H) | (simp only [hji9] at H ⊢; exact H)
        have hji9_ : (if a2 < (ji8) then a2 else (ji8)) = ji9 := hji9
        by_cases c10 : (ji9) < 0
        · rw [if_pos c10] at H
          have c10b0 : decide ((ji9) < 0) = true := decide_eq_true c10
          clear c10
          simp only [Option.some.injEq, Prod.mk.injEq] at H
          obtain ⟨rfl, rfl⟩ := H
          go_wp2
          go_ret2
          exact ⟨by first | rfl | (simp [errW_none, errW_some] <;> rfl) | (simp only [← hji8, ← hji9]; first | rfl | (simp [errW_none, errW_some] <;> rfl)) | (simp [*, errW_none, errW_some] <;> rfl), by repeat (first | (with_reducible first | exact HB.out | apply below_alloc | apply pw_below_drewN | apply below_drew1) | exact HB.out)⟩
        · rw [if_neg c10] at H
          have c10b0 : decide ((ji9) < 0) = false := decide_eq_false c10
          clear c10
          by_cases c11 : a0 > 23
          · rw [if_pos c11] at H
            have c11b0 : decide (23 < a0) = true := decide_eq_true c11
            clear c11
            simp only [Option.some.injEq, Prod.mk.injEq] at H
            obtain ⟨rfl, rfl⟩ := H
            go_wp2
            go_ret2
            exact ⟨by first | rfl | (simp [errW_none, errW_some] <;> rfl) | (simp only [← hji8, ← hji9]; first | rfl | (simp [errW_none, errW_some] <;> rfl)) | (simp [*, errW_none, errW_some] <;> rfl), by repeat (first | (with_reducible first | exact HB.out | apply below_alloc | apply pw_below_drewN | apply below_drew1) | exact HB.out)⟩
          · rw [if_neg c11] at H
            have c11b0 : decide (23 < a0) = false := decide_eq_false c11
            clear c11
            by_cases c12 : a1 > 59
            · rw [if_pos c12] at H
              have c12b0 : decide (59 < a1) = true := decide_eq_true c12
              clear c12
              simp only [Option.some.injEq, Prod.mk.injEq] at H
              obtain ⟨rfl, rfl⟩ := H
              go_wp2
              go_ret2
              exact ⟨by first | rfl | (simp [errW_none, errW_some] <;> rfl) | (simp only [← hji8, ← hji9]; first | rfl | (simp [errW_none, errW_some] <;> rfl)) | (simp [*, errW_none, errW_some] <;> rfl), by repeat (first | (with_reducible first | exact HB.out | apply below_alloc | apply pw_below_drewN | apply below_drew1) | exact HB.out)⟩
            · rw [if_neg c12] at H
              have c12b0 : decide (59 < a1) = false := decide_eq_false c12
              clear c12
              by_cases c13 : a2 > 59
              · rw [if_pos c13] at H
                have c13b0 : decide (59 < a2) = true := decide_eq_true c13
                clear c13
                simp only [Option.some.injEq, Prod.mk.injEq] at H
                obtain ⟨rfl, rfl⟩ := H
                go_wp2
                go_ret2
                exact ⟨by first | rfl | (simp [errW_none, errW_some] <;> rfl) | (simp only [← hji8, ← hji9]; first | rfl | (simp [errW_none, errW_some] <;> rfl)) | (simp [*, errW_none, errW_some] <;> rfl), by repeat (first | (with_reducible first | exact HB.out | apply below_alloc | apply pw_below_drewN | apply below_drew1) | exact HB.out)⟩
              · rw [if_neg c13] at H
                have c13b0 : decide (59 < a2) = false := decide_eq_false c13
                clear c13
                simp only [Option.some.injEq, Prod.mk.injEq] at H
                obtain ⟨rfl, rfl⟩ := H
                go_wp2
                go_ret2
                exact ⟨by first | rfl | (simp [errW_none, errW_some] <;> rfl) | (simp only [← hji8, ← hji9]; first | rfl | (simp [errW_none, errW_some] <;> rfl)) | (simp [*, errW_none, errW_some] <;> rfl), by repeat (first | (with_reducible first | exact HB.out | apply below_alloc | apply pw_below_drewN | apply below_drew1) | exact HB.out)⟩

/-! ### num_Div: function 27 -/
def num_Div.f (a0 : Int) (a1 : Int) : Option (Int × Int × Bool) := if a1 < 1 then (some (0, 0, false)) else (if a1 = 0 then (none) else (if (Int.tmod a0 a1) < 0 then (some (wrap64 ((wrap64 (Int.tdiv a0 a1)) - 1), wrap64 ((Int.tmod a0 a1) + a1), true)) else (some (wrap64 (Int.tdiv a0 a1), Int.tmod a0 a1, true))))
set_option maxHeartbeats 8000000 in
set_option maxRecDepth 100000 in
theorem num_Div.calls (a0 : Int) (a1 : Int) (r1 : Int) (r2 : Int) (r3 : Bool) (w : World) (h : num_Div.f a0 a1 = some (r1, r2, r3)) :
    Calls Try.prog 27 #[.int .i64 a0, .int .i64 a1] w fun e w' => e = .returned (.tuple #[.int .i64 r1, .int .i64 r2, .bool r3]) ∧ Drawn0 w w' := by
  have H : (if a1 < 1 then (some (0, 0, false)) else (if a1 = 0 then (none) else (if (Int.tmod a0 a1) < 0 then (some (wrap64 ((wrap64 (Int.tdiv a0 a1)) - 1), wrap64 ((Int.tmod a0 a1) + a1), true)) else (some (wrap64 (Int.tdiv a0 a1), Int.tmod a0 a1, true))))) = some (r1, r2, r3) := h
  clear h
  by_cases c3 : a1 < 1
  · rw [if_pos c3] at H
    have c3b0 : decide (a1 < 1) = true := decide_eq_true c3
    clear c3
    simp only [Option.some.injEq, Prod.mk.injEq] at H
    obtain ⟨rfl, rfl, rfl⟩ := H
    go_enter Try.func27, Try.ntmps27
    go_wp2
    repeat (go_quiet (fail); try go_wp2)
    go_ret3
    exact ⟨by first | rfl | (simp; done) | (simp [*]; done), by repeat (first | exact Drawn0.refl _ | apply Drawn0.step)⟩
  · rw [if_neg c3] at H
    have c3b0 : decide (a1 < 1) = false := decide_eq_false c3
    clear c3
    by_cases c4 : a1 = 0
    · rw [if_pos c4] at H
      exact absurd H (by simp)
    · rw [if_neg c4] at H
      have c4b0 : (a1 == 0) = false := beq_eq_false_iff_ne.mpr c4
      have c4b1 : (a1 != 0) = true := bne_iff_ne.mpr c4
      by_cases c5 : (Int.tmod a0 a1) < 0
      · rw [if_pos c5] at H
        have c5b0 : decide ((Int.tmod a0 a1) < 0) = true := decide_eq_true c5
        clear c5
        simp only [Option.some.injEq, Prod.mk.injEq] at H
        obtain ⟨rfl, rfl, rfl⟩ := H
        go_enter Try.func27, Try.ntmps27
        go_wp2
        repeat (go_quiet (fail); try go_wp2)
        go_ret3
        exact ⟨by first | rfl | (simp; done) | (simp [*]; done), by repeat (first | exact Drawn0.refl _ | apply Drawn0.step)⟩
      · rw [if_neg c5] at H
        have c5b0 : decide ((Int.tmod a0 a1) < 0) = false := decide_eq_false c5
        clear c5
        simp only [Option.some.injEq, Prod.mk.injEq] at H
        obtain ⟨rfl, rfl, rfl⟩ := H
        go_enter Try.func27, Try.ntmps27
        go_wp2
        repeat (go_quiet (fail); try go_wp2)
        go_ret3
        exact ⟨by first | rfl | (simp; done) | (simp [*]; done), by repeat (first | exact Drawn0.refl _ | apply Drawn0.step)⟩

/-! ### day_Date: function 19 -/
def day_Date.j0 : Nat → Int → Bool → Option (Int × Int × Int × Bool)
  | 0, _, _ => none
  | k + 1, x0, x15 => if x15 = true then (some (0, 0, 0, false)) else ((num_Div.f (wrap64 (x0 + 719468)) 146097).bind fun bt101 => (if (wrap64 ((wrap64 (Int.tdiv (wrap64 ((wrap64 (5 * (wrap64 (bt101.2.1 - (wrap64 ((wrap64 ((wrap64 (365 * (wrap64 (Int.tdiv (wrap64 ((wrap64 ((wrap64 (bt101.2.1 - (wrap64 (Int.tdiv bt101.2.1 1460)))) + (wrap64 (Int.tdiv bt101.2.1 36524)))) - (wrap64 (Int.tdiv bt101.2.1 146096)))) 365)))) + (wrap64 (Int.tdiv (wrap64 (Int.tdiv (wrap64 ((wrap64 ((wrap64 (bt101.2.1 - (wrap64 (Int.tdiv bt101.2.1 1460)))) + (wrap64 (Int.tdiv bt101.2.1 36524)))) - (wrap64 (Int.tdiv bt101.2.1 146096)))) 365)) 4)))) - (wrap64 (Int.tdiv (wrap64 (Int.tdiv (wrap64 ((wrap64 ((wrap64 (bt101.2.1 - (wrap64 (Int.tdiv bt101.2.1 1460)))) + (wrap64 (Int.tdiv bt101.2.1 36524)))) - (wrap64 (Int.tdiv bt101.2.1 146096)))) 365)) 100)))))))) + 2)) 153)) + 3)) > 12 then (some (wrap64 ((wrap64 (400 * bt101.1)) + (wrap64 ((wrap64 (Int.tdiv (wrap64 ((wrap64 ((wrap64 (bt101.2.1 - (wrap64 (Int.tdiv bt101.2.1 1460)))) + (wrap64 (Int.tdiv bt101.2.1 36524)))) - (wrap64 (Int.tdiv bt101.2.1 146096)))) 365)) + 1))), wrap64 ((wrap64 ((wrap64 (Int.tdiv (wrap64 ((wrap64 (5 * (wrap64 (bt101.2.1 - (wrap64 ((wrap64 ((wrap64 (365 * (wrap64 (Int.tdiv (wrap64 ((wrap64 ((wrap64 (bt101.2.1 - (wrap64 (Int.tdiv bt101.2.1 1460)))) + (wrap64 (Int.tdiv bt101.2.1 36524)))) - (wrap64 (Int.tdiv bt101.2.1 146096)))) 365)))) + (wrap64 (Int.tdiv (wrap64 (Int.tdiv (wrap64 ((wrap64 ((wrap64 (bt101.2.1 - (wrap64 (Int.tdiv bt101.2.1 1460)))) + (wrap64 (Int.tdiv bt101.2.1 36524)))) - (wrap64 (Int.tdiv bt101.2.1 146096)))) 365)) 4)))) - (wrap64 (Int.tdiv (wrap64 (Int.tdiv (wrap64 ((wrap64 ((wrap64 (bt101.2.1 - (wrap64 (Int.tdiv bt101.2.1 1460)))) + (wrap64 (Int.tdiv bt101.2.1 36524)))) - (wrap64 (Int.tdiv bt101.2.1 146096)))) 365)) 100)))))))) + 2)) 153)) + 3)) - 12), wrap64 ((wrap64 ((wrap64 (bt101.2.1 - (wrap64 ((wrap64 ((wrap64 (365 * (wrap64 (Int.tdiv (wrap64 ((wrap64 ((wrap64 (bt101.2.1 - (wrap64 (Int.tdiv bt101.2.1 1460)))) + (wrap64 (Int.tdiv bt101.2.1 36524)))) - (wrap64 (Int.tdiv bt101.2.1 146096)))) 365)))) + (wrap64 (Int.tdiv (wrap64 (Int.tdiv (wrap64 ((wrap64 ((wrap64 (bt101.2.1 - (wrap64 (Int.tdiv bt101.2.1 1460)))) + (wrap64 (Int.tdiv bt101.2.1 36524)))) - (wrap64 (Int.tdiv bt101.2.1 146096)))) 365)) 4)))) - (wrap64 (Int.tdiv (wrap64 (Int.tdiv (wrap64 ((wrap64 ((wrap64 (bt101.2.1 - (wrap64 (Int.tdiv bt101.2.1 1460)))) + (wrap64 (Int.tdiv bt101.2.1 36524)))) - (wrap64 (Int.tdiv bt101.2.1 146096)))) 365)) 100)))))) - (wrap64 (Int.tdiv (wrap64 ((wrap64 (153 * (wrap64 (Int.tdiv (wrap64 ((wrap64 (5 * (wrap64 (bt101.2.1 - (wrap64 ((wrap64 ((wrap64 (365 * (wrap64 (Int.tdiv (wrap64 ((wrap64 ((wrap64 (bt101.2.1 - (wrap64 (Int.tdiv bt101.2.1 1460)))) + (wrap64 (Int.tdiv bt101.2.1 36524)))) - (wrap64 (Int.tdiv bt101.2.1 146096)))) 365)))) + (wrap64 (Int.tdiv (wrap64 (Int.tdiv (wrap64 ((wrap64 ((wrap64 (bt101.2.1 - (wrap64 (Int.tdiv bt101.2.1 1460)))) + (wrap64 (Int.tdiv bt101.2.1 36524)))) - (wrap64 (Int.tdiv bt101.2.1 146096)))) 365)) 4)))) - (wrap64 (Int.tdiv (wrap64 (Int.tdiv (wrap64 ((wrap64 ((wrap64 (bt101.2.1 - (wrap64 (Int.tdiv bt101.2.1 1460)))) + (wrap64 (Int.tdiv bt101.2.1 36524)))) - (wrap64 (Int.tdiv bt101.2.1 146096)))) 365)) 100)))))))) + 2)) 153)))) + 2)) 5)))) + 1), true)) else (some (wrap64 ((wrap64 (400 * bt101.1)) + (wrap64 (Int.tdiv (wrap64 ((wrap64 ((wrap64 (bt101.2.1 - (wrap64 (Int.tdiv bt101.2.1 1460)))) + (wrap64 (Int.tdiv bt101.2.1 36524)))) - (wrap64 (Int.tdiv bt101.2.1 146096)))) 365))), wrap64 ((wrap64 (Int.tdiv (wrap64 ((wrap64 (5 * (wrap64 (bt101.2.1 - (wrap64 ((wrap64 ((wrap64 (365 * (wrap64 (Int.tdiv (wrap64 ((wrap64 ((wrap64 (bt101.2.1 - (wrap64 (Int.tdiv bt101.2.1 1460)))) + (wrap64 (Int.tdiv bt101.2.1 36524)))) - (wrap64 (Int.tdiv bt101.2.1 146096)))) 365)))) + (wrap64 (Int.tdiv (wrap64 (Int.tdiv (wrap64 ((wrap64 ((wrap64 (bt101.2.1 - (wrap64 (Int.tdiv bt101.2.1 1460)))) + (wrap64 (Int.tdiv bt101.2.1 36524)))) - (wrap64 (Int.tdiv bt101.2.1 146096)))) 365)) 4)))) - (wrap64 (Int.tdiv (wrap64 (Int.tdiv (wrap64 ((wrap64 ((wrap64 (bt101.2.1 - (wrap64 (Int.tdiv bt101.2.1 1460)))) + (wrap64 (Int.tdiv bt101.2.1 36524)))) - (wrap64 (Int.tdiv bt101.2.1 146096)))) 365)) 100)))))))) + 2)) 153)) + 3), wrap64 ((wrap64 ((wrap64 (bt101.2.1 - (wrap64 ((wrap64 ((wrap64 (365 * (wrap64 (Int.tdiv (wrap64 ((wrap64 ((wrap64 (bt101.2.1 - (wrap64 (Int.tdiv bt101.2.1 1460)))) + (wrap64 (Int.tdiv bt101.2.1 36524)))) - (wrap64 (Int.tdiv bt101.2.1 146096)))) 365)))) + (wrap64 (Int.tdiv (wrap64 (Int.tdiv (wrap64 ((wrap64 ((wrap64 (bt101.2.1 - (wrap64 (Int.tdiv bt101.2.1 1460)))) + (wrap64 (Int.tdiv bt101.2.1 36524)))) - (wrap64 (Int.tdiv bt101.2.1 146096)))) 365)) 4)))) - (wrap64 (Int.tdiv (wrap64 (Int.tdiv (wrap64 ((wrap64 ((wrap64 (bt101.2.1 - (wrap64 (Int.tdiv bt101.2.1 1460)))) + (wrap64 (Int.tdiv bt101.2.1 36524)))) - (wrap64 (Int.tdiv bt101.2.1 146096)))) 365)) 100)))))) - (wrap64 (Int.tdiv (wrap64 ((wrap64 (153 * (wrap64 (Int.tdiv (wrap64 ((wrap64 (5 * (wrap64 (bt101.2.1 - (wrap64 ((wrap64 ((wrap64 (365 * (wrap64 (Int.tdiv (wrap64 ((wrap64 ((wrap64 (bt101.2.1 - (wrap64 (Int.tdiv bt101.2.1 1460)))) + (wrap64 (Int.tdiv bt101.2.1 36524)))) - (wrap64 (Int.tdiv bt101.2.1 146096)))) 365)))) + (wrap64 (Int.tdiv (wrap64 (Int.tdiv (wrap64 ((wrap64 ((wrap64 (bt101.2.1 - (wrap64 (Int.tdiv bt101.2.1 1460)))) + (wrap64 (Int.tdiv bt101.2.1 36524)))) - (wrap64 (Int.tdiv bt101.2.1 146096)))) 365)) 4)))) - (wrap64 (Int.tdiv (wrap64 (Int.tdiv (wrap64 ((wrap64 ((wrap64 (bt101.2.1 - (wrap64 (Int.tdiv bt101.2.1 1460)))) + (wrap64 (Int.tdiv bt101.2.1 36524)))) - (wrap64 (Int.tdiv bt101.2.1 146096)))) 365)) 100)))))))) + 2)) 153)))) + 2)) 5)))) + 1), true))))
def day_Date.f (k : Nat) (a0 : Int) : Option (Int × Int × Int × Bool) := if a0 < (-719162) then (day_Date.j0 k a0 true) else (day_Date.j0 k a0 (decide (a0 > 2932896)))
theorem day_Date.mono_l : ∀ k, (∀ y0 y1, LeO (day_Date.j0 k y0 y1) (day_Date.j0 (k + 1) y0 y1))
  | 0 => fun _ _ r h => by simp [day_Date.j0] at h
  | k + 1 => by
    have ih0 := day_Date.mono_l k
    · intro y0 y1
      unfold day_Date.j0
      repeat' first
      | (with_reducible exact ih0 _ _)
      | (with_reducible exact LeO.refl _)
      | (with_reducible exact LeO.none _)
      | (with_reducible refine LeO.ite ?_ ?_)
      | (with_reducible refine LeO.bind ?_ (fun _ => ?_))
      | exact ih0 _ _
      | exact LeO.none _
      | refine LeO.ite ?_ ?_
      | refine LeO.bind ?_ (fun _ => ?_)
theorem day_Date.mono : ∀ a0 k, LeO (day_Date.f k a0) (day_Date.f (k + 1) a0) := by
  intro a0 k
  have ih0 := day_Date.mono_l k
  unfold day_Date.f
  repeat' first
      | (with_reducible exact ih0 _ _)
      | (with_reducible exact LeO.refl _)
      | (with_reducible exact LeO.none _)
      | (with_reducible refine LeO.ite ?_ ?_)
      | (with_reducible refine LeO.bind ?_ (fun _ => ?_))
      | exact ih0 _ _
      | exact LeO.none _
      | refine LeO.ite ?_ ?_
      | refine LeO.bind ?_ (fun _ => ?_)
set_option maxHeartbeats 8000000 in
set_option maxRecDepth 100000 in
theorem day_Date.calls (k : Nat) (a0 : Int) (r1 : Int) (r2 : Int) (r3 : Int) (r4 : Bool) (w : World) (h : day_Date.f k a0 = some (r1, r2, r3, r4)) :
    Calls Try.prog 19 #[.int .i64 a0] w fun e w' => e = .returned (.tuple #[.int .i64 r1, .int .i64 r2, .int .i64 r3, .bool r4]) ∧ Drawn0 w w' := by
  have H : (if a0 < (-719162) then (day_Date.j0 k a0 true) else (day_Date.j0 k a0 (decide (a0 > 2932896)))) = some (r1, r2, r3, r4) := h
  clear h
  have HC2 := Aside0.mk H
  clear H
  go_enter Try.func19, Try.ntmps19
  go_upto_region 1 with (fail)
  go_cut [15] (fun v15 wc => ∃ (kq : Nat) (x15_1 : Bool), v15 = .bool x15_1 ∧ Aside0 (day_Date.j0 kq a0 x15_1 = some (r1, r2, r3, r4)) ∧ Aside0 (kq ≤ k) ∧ Drawn0 w wc)
  case first =>
    have H := HC2.out
    clear HC2
    by_cases c3 : a0 < (-719162)
    · rw [if_pos c3] at H
      have c3b0 : decide (a0 < (-719162)) = true := decide_eq_true c3
      clear c3
      (first | rw [c3b0] | (simp only [i64_w, i32_w]; rw [c3b0]) | skip)
      have H' := Aside0.mk H
      clear H
      go_wp2
      go_meet
      case rel => exact ⟨_, (true), (by first | rfl | (simp; done) | (simp [*]; done)), H', ⟨by first | omega | exact Nat.le_refl _⟩, by repeat (first | exact Drawn0.refl _ | apply Drawn0.step)⟩
    · rw [if_neg c3] at H
      have c3b0 : decide (a0 < (-719162)) = false := decide_eq_false c3
      clear c3
      (first | rw [c3b0] | (simp only [i64_w, i32_w]; rw [c3b0]) | skip)
      have H' := Aside0.mk H
      clear H
      go_wp2
      go_meet
      case rel => exact ⟨_, (decide (a0 > 2932896)), (by first | rfl | (simp; done) | (simp [*]; done)), H', ⟨by first | omega | exact Nat.le_refl _⟩, by repeat (first | exact Drawn0.refl _ | apply Drawn0.step)⟩
  case rest =>
    clear HC2
    try clear c1
    try clear p2
    try clear c3
    try clear c3b0
    obtain ⟨kq, x15_1, rfl, HA, HJ1, ⟨mc1, rfl⟩⟩ := hcut
    cases kq with
    | zero => exact absurd HA.out (by simp [day_Date.j0])
    | succ kj1 =>
      have H := HA.out
      clear HA
      simp only [day_Date.j0] at H
      by_cases c4 : x15_1 = true
      · subst c4
        have H1 : (some (0, 0, 0, false)) = some (r1, r2, r3, r4) := by rw [if_pos rfl] at H; exact H
        clear H
        have H := H1
        clear H1
        simp only [Option.some.injEq, Prod.mk.injEq] at H
        obtain ⟨rfl, rfl, rfl, rfl⟩ := H
        go_wp2
        refine bodyPost_ret (results_list (rs := [.tmp 2, .tmp 3, .tmp 4, .tmp 5]) rfl (by simp) (.tmp (.tmp (.tmp (.tmp .nil))))) rfl ?_
        exact ⟨by first | rfl | (simp; done) | (simp [*]; done), by repeat (first | exact Drawn0.refl _ | apply Drawn0.step)⟩
      · replace c4 := Bool.eq_false_iff.mpr c4
        subst c4
        have H1 : ((num_Div.f (wrap64 (a0 + 719468)) 146097).bind fun bt101 => (if (wrap64 ((wrap64 (Int.tdiv (wrap64 ((wrap64 (5 * (wrap64 (bt101.2.1 - (wrap64 ((wrap64 ((wrap64 (365 * (wrap64 (Int.tdiv (wrap64 ((wrap64 ((wrap64 (bt101.2.1 - (wrap64 (Int.tdiv bt101.2.1 1460)))) + (wrap64 (Int.tdiv bt101.2.1 36524)))) - (wrap64 (Int.tdiv bt101.2.1 146096)))) 365)))) + (wrap64 (Int.tdiv (wrap64 (Int.tdiv (wrap64 ((wrap64 ((wrap64 (bt101.2.1 - (wrap64 (Int.tdiv bt101.2.1 1460)))) + (wrap64 (Int.tdiv bt101.2.1 36524)))) - (wrap64 (Int.tdiv bt101.2.1 146096)))) 365)) 4)))) - (wrap64 (Int.tdiv (wrap64 (Int.tdiv (wrap64 ((wrap64 ((wrap64 (bt101.2.1 - (wrap64 (Int.tdiv bt101.2.1 1460)))) + (wrap64 (Int.tdiv bt101.2.1 36524)))) - (wrap64 (Int.tdiv bt101.2.1 146096)))) 365)) 100)))))))) + 2)) 153)) + 3)) > 12 then (some (wrap64 ((wrap64 (400 * bt101.1)) + (wrap64 ((wrap64 (Int.tdiv (wrap64 ((wrap64 ((wrap64 (bt101.2.1 - (wrap64 (Int.tdiv bt101.2.1 1460)))) + (wrap64 (Int.tdiv bt101.2.1 36524)))) - (wrap64 (Int.tdiv bt101.2.1 146096)))) 365)) + 1))), wrap64 ((wrap64 ((wrap64 (Int.tdiv (wrap64 ((wrap64 (5 * (wrap64 (bt101.2.1 - (wrap64 ((wrap64 ((wrap64 (365 * (wrap64 (Int.tdiv (wrap64 ((wrap64 ((wrap64 (bt101.2.1 - (wrap64 (Int.tdiv bt101.2.1 1460)))) + (wrap64 (Int.tdiv bt101.2.1 36524)))) - (wrap64 (Int.tdiv bt101.2.1 146096)))) 365)))) + (wrap64 (Int.tdiv (wrap64 (Int.tdiv (wrap64 ((wrap64 ((wrap64 (bt101.2.1 - (wrap64 (Int.tdiv bt101.2.1 1460)))) + (wrap64 (Int.tdiv bt101.2.1 36524)))) - (wrap64 (Int.tdiv bt101.2.1 146096)))) 365)) 4)))) - (wrap64 (Int.tdiv (wrap64 (Int.tdiv (wrap64 ((wrap64 ((wrap64 (bt101.2.1 - (wrap64 (Int.tdiv bt101.2.1 1460)))) + (wrap64 (Int.tdiv bt101.2.1 36524)))) - (wrap64 (Int.tdiv bt101.2.1 146096)))) 365)) 100)))))))) + 2)) 153)) + 3)) - 12), wrap64 ((wrap64 ((wrap64 (bt101.2.1 - (wrap64 ((wrap64 ((wrap64 (365 * (wrap64 (Int.tdiv (wrap64 ((wrap64 ((wrap64 (bt101.2.1 - (wrap64 (Int.tdiv bt101.2.1 1460)))) + (wrap64 (Int.tdiv bt101.2.1 36524)))) - (wrap64 (Int.tdiv bt101.2.1 146096)))) 365)))) + (wrap64 (Int.tdiv (wrap64 (Int.tdiv (wrap64 ((wrap64 ((wrap64 (bt101.2.1 - (wrap64 (Int.tdiv bt101.2.1 1460)))) + (wrap64 (Int.tdiv bt101.2.1 36524)))) - (wrap64 (Int.tdiv bt101.2.1 146096)))) 365)) 4)))) - (wrap64 (Int.tdiv (wrap64 (Int.tdiv (wrap64 ((wrap64 ((wrap64 (bt101.2.1 - (wrap64 (Int.tdiv bt101.2.1 1460)))) + (wrap64 (Int.tdiv bt101.2.1 36524)))) - (wrap64 (Int.tdiv bt101.2.1 146096)))) 365)) 100)))))) - (wrap64 (Int.tdiv (wrap64 ((wrap64 (153 * (wrap64 (Int.tdiv (wrap64 ((wrap64 (5 * (wrap64 (bt101.2.1 - (wrap64 ((wrap64 ((wrap64 (365 * (wrap64 (Int.tdiv (wrap64 ((wrap64 ((wrap64 (bt101.2.1 - (wrap64 (Int.tdiv bt101.2.1 1460)))) + (wrap64 (Int.tdiv bt101.2.1 36524)))) - (wrap64 (Int.tdiv bt101.2.1 146096)))) 365)))) + (wrap64 (Int.tdiv (wrap64 (Int.tdiv (wrap64 ((wrap64 ((wrap64 (bt101.2.1 - (wrap64 (Int.tdiv bt101.2.1 1460)))) + (wrap64 (Int.tdiv bt101.2.1 36524)))) - (wrap64 (Int.tdiv bt101.2.1 146096)))) 365)) 4)))) - (wrap64 (Int.tdiv (wrap64 (Int.tdiv (wrap64 ((wrap64 ((wrap64 (bt101.2.1 - (wrap64 (Int.tdiv bt101.2.1 1460)))) + (wrap64 (Int.tdiv bt101.2.1 36524)))) - (wrap64 (Int.tdiv bt101.2.1 146096)))) 365)) 100)))))))) + 2)) 153)))) + 2)) 5)))) + 1), true)) else (some (wrap64 ((wrap64 (400 * bt101.1)) + (wrap64 (Int.tdiv (wrap64 ((wrap64 ((wrap64 (bt101.2.1 - (wrap64 (Int.tdiv bt101.2.1 1460)))) + (wrap64 (Int.tdiv bt101.2.1 36524)))) - (wrap64 (Int.tdiv bt101.2.1 146096)))) 365))), wrap64 ((wrap64 (Int.tdiv (wrap64 ((wrap64 (5 * (wrap64 (bt101.2.1 - (wrap64 ((wrap64 ((wrap64 (365 * (wrap64 (Int.tdiv (wrap64 ((wrap64 ((wrap64 (bt101.2.1 - (wrap64 (Int.tdiv bt101.2.1 1460)))) + (wrap64 (Int.tdiv bt101.2.1 36524)))) - (wrap64 (Int.tdiv bt101.2.1 146096)))) 365)))) + (wrap64 (Int.tdiv (wrap64 (Int.tdiv (wrap64 ((wrap64 ((wrap64 (bt101.2.1 - (wrap64 (Int.tdiv bt101.2.1 1460)))) + (wrap64 (Int.tdiv bt101.2.1 36524)))) - (wrap64 (Int.tdiv bt101.2.1 146096)))) 365)) 4)))) - (wrap64 (Int.tdiv (wrap64 (Int.tdiv (wrap64 ((wrap64 ((wrap64 (bt101.2.1 - (wrap64 (Int.tdiv bt101.2.1 1460)))) + (wrap64 (Int.tdiv bt101.2.1 36524)))) - (wrap64 (Int.tdiv bt101.2.1 146096)))) 365)) 100)))))))) + 2)) 153)) + 3), wrap64 ((wrap64 ((wrap64 (bt101.2.1 - (wrap64 ((wrap64 ((wrap64 (365 * (wrap64 (Int.tdiv (wrap64 ((wrap64 ((wrap64 (bt101.2.1 - (wrap64 (Int.tdiv bt101.2.1 1460)))) + (wrap64 (Int.tdiv bt101.2.1 36524)))) - (wrap64 (Int.tdiv bt101.2.1 146096)))) 365)))) + (wrap64 (Int.tdiv (wrap64 (Int.tdiv (wrap64 ((wrap64 ((wrap64 (bt101.2.1 - (wrap64 (Int.tdiv bt101.2.1 1460)))) + (wrap64 (Int.tdiv bt101.2.1 36524)))) - (wrap64 (Int.tdiv bt101.2.1 146096)))) 365)) 4)))) - (wrap64 (Int.tdiv (wrap64 (Int.tdiv (wrap64 ((wrap64 ((wrap64 (bt101.2.1 - (wrap64 (Int.tdiv bt101.2.1 1460)))) + (wrap64 (Int.tdiv bt101.2.1 36524)))) - (wrap64 (Int.tdiv bt101.2.1 146096)))) 365)) 100)))))) - (wrap64 (Int.tdiv (wrap64 ((wrap64 (153 * (wrap64 (Int.tdiv (wrap64 ((wrap64 (5 * (wrap64 (bt101.2.1 - (wrap64 ((wrap64 ((wrap64 (365 * (wrap64 (Int.tdiv (wrap64 ((wrap64 ((wrap64 (bt101.2.1 - (wrap64 (Int.tdiv bt101.2.1 1460)))) + (wrap64 (Int.tdiv bt101.2.1 36524)))) - (wrap64 (Int.tdiv bt101.2.1 146096)))) 365)))) + (wrap64 (Int.tdiv (wrap64 (Int.tdiv (wrap64 ((wrap64 ((wrap64 (bt101.2.1 - (wrap64 (Int.tdiv bt101.2.1 1460)))) + (wrap64 (Int.tdiv bt101.2.1 36524)))) - (wrap64 (Int.tdiv bt101.2.1 146096)))) 365)) 4)))) - (wrap64 (Int.tdiv (wrap64 (Int.tdiv (wrap64 ((wrap64 ((wrap64 (bt101.2.1 - (wrap64 (Int.tdiv bt101.2.1 1460)))) + (wrap64 (Int.tdiv bt101.2.1 36524)))) - (wrap64 (Int.tdiv bt101.2.1 146096)))) 365)) 100)))))))) + 2)) 153)))) + 2)) 5)))) + 1), true)))) = some (r1, r2, r3, r4) := by rw [if_neg (show ¬ (false = true) by decide)] at H; exact H
        clear H
        have H := H1
        clear H1
        replace H := Option.bind_eq_some_iff.mp H
        obtain ⟨⟨t101, t102, t103⟩, A50, H⟩ := H
        replace H : (if (wrap64 ((wrap64 (Int.tdiv (wrap64 ((wrap64 (5 * (wrap64 (t102 - (wrap64 ((wrap64 ((wrap64 (365 * (wrap64 (Int.tdiv (wrap64 ((wrap64 ((wrap64 (t102 - (wrap64 (Int.tdiv t102 1460)))) + (wrap64 (Int.tdiv t102 36524)))) - (wrap64 (Int.tdiv t102 146096)))) 365)))) + (wrap64 (Int.tdiv (wrap64 (Int.tdiv (wrap64 ((wrap64 ((wrap64 (t102 - (wrap64 (Int.tdiv t102 1460)))) + (wrap64 (Int.tdiv t102 36524)))) - (wrap64 (Int.tdiv t102 146096)))) 365)) 4)))) - (wrap64 (Int.tdiv (wrap64 (Int.tdiv (wrap64 ((wrap64 ((wrap64 (t102 - (wrap64 (Int.tdiv t102 1460)))) + (wrap64 (Int.tdiv t102 36524)))) - (wrap64 (Int.tdiv t102 146096)))) 365)) 100)))))))) + 2)) 153)) + 3)) > 12 then (some (wrap64 ((wrap64 (400 * t101)) + (wrap64 ((wrap64 (Int.tdiv (wrap64 ((wrap64 ((wrap64 (t102 - (wrap64 (Int.tdiv t102 1460)))) + (wrap64 (Int.tdiv t102 36524)))) - (wrap64 (Int.tdiv t102 146096)))) 365)) + 1))), wrap64 ((wrap64 ((wrap64 (Int.tdiv (wrap64 ((wrap64 (5 * (wrap64 (t102 - (wrap64 ((wrap64 ((wrap64 (365 * (wrap64 (Int.tdiv (wrap64 ((wrap64 ((wrap64 (t102 - (wrap64 (Int.tdiv t102 1460)))) + (wrap64 (Int.tdiv t102 36524)))) - (wrap64 (Int.tdiv t102 146096)))) 365)))) + (wrap64 (Int.tdiv (wrap64 (Int.tdiv (wrap64 ((wrap64 ((wrap64 (t102 - (wrap64 (Int.tdiv t102 1460)))) + (wrap64 (Int.tdiv t102 36524)))) - (wrap64 (Int.tdiv t102 146096)))) 365)) 4)))) - (wrap64 (Int.tdiv (wrap64 (Int.tdiv (wrap64 ((wrap64 ((wrap64 (t102 - (wrap64 (Int.tdiv t102 1460)))) + (wrap64 (Int.tdiv t102 36524)))) - (wrap64 (Int.tdiv t102 146096)))) 365)) 100)))))))) + 2)) 153)) + 3)) - 12), wrap64 ((wrap64 ((wrap64 (t102 - (wrap64 ((wrap64 ((wrap64 (365 * (wrap64 (Int.tdiv (wrap64 ((wrap64 ((wrap64 (t102 - (wrap64 (Int.tdiv t102 1460)))) + (wrap64 (Int.tdiv t102 36524)))) - (wrap64 (Int.tdiv t102 146096)))) 365)))) + (wrap64 (Int.tdiv (wrap64 (Int.tdiv (wrap64 ((wrap64 ((wrap64 (t102 - (wrap64 (Int.tdiv t102 1460)))) + (wrap64 (Int.tdiv t102 36524)))) - (wrap64 (Int.tdiv t102 146096)))) 365)) 4)))) - (wrap64 (Int.tdiv (wrap64 (Int.tdiv (wrap64 ((wrap64 ((wrap64 (t102 - (wrap64 (Int.tdiv t102 1460)))) + (wrap64 (Int.tdiv t102 36524)))) - (wrap64 (Int.tdiv t102 146096)))) 365)) 100)))))) - (wrap64 (Int.tdiv (wrap64 ((wrap64 (153 * (wrap64 (Int.tdiv (wrap64 ((wrap64 (5 * (wrap64 (t102 - (wrap64 ((wrap64 ((wrap64 (365 * (wrap64 (Int.tdiv (wrap64 ((wrap64 ((wrap64 (t102 - (wrap64 (Int.tdiv t102 1460)))) + (wrap64 (Int.tdiv t102 36524)))) - (wrap64 (Int.tdiv t102 146096)))) 365)))) + (wrap64 (Int.tdiv (wrap64 (Int.tdiv (wrap64 ((wrap64 ((wrap64 (t102 - (wrap64 (Int.tdiv t102 1460)))) + (wrap64 (Int.tdiv t102 36524)))) - (wrap64 (Int.tdiv t102 146096)))) 365)) 4)))) - (wrap64 (Int.tdiv (wrap64 (Int.tdiv (wrap64 ((wrap64 ((wrap64 (t102 - (wrap64 (Int.tdiv t102 1460)))) + (wrap64 (Int.tdiv t102 36524)))) - (wrap64 (Int.tdiv t102 146096)))) 365)) 100)))))))) + 2)) 153)))) + 2)) 5)))) + 1), true)) else (some (wrap64 ((wrap64 (400 * t101)) + (wrap64 (Int.tdiv (wrap64 ((wrap64 ((wrap64 (t102 - (wrap64 (Int.tdiv t102 1460)))) + (wrap64 (Int.tdiv t102 36524)))) - (wrap64 (Int.tdiv t102 146096)))) 365))), wrap64 ((wrap64 (Int.tdiv (wrap64 ((wrap64 (5 * (wrap64 (t102 - (wrap64 ((wrap64 ((wrap64 (365 * (wrap64 (Int.tdiv (wrap64 ((wrap64 ((wrap64 (t102 - (wrap64 (Int.tdiv t102 1460)))) + (wrap64 (Int.tdiv t102 36524)))) - (wrap64 (Int.tdiv t102 146096)))) 365)))) + (wrap64 (Int.tdiv (wrap64 (Int.tdiv (wrap64 ((wrap64 ((wrap64 (t102 - (wrap64 (Int.tdiv t102 1460)))) + (wrap64 (Int.tdiv t102 36524)))) - (wrap64 (Int.tdiv t102 146096)))) 365)) 4)))) - (wrap64 (Int.tdiv (wrap64 (Int.tdiv (wrap64 ((wrap64 ((wrap64 (t102 - (wrap64 (Int.tdiv t102 1460)))) + (wrap64 (Int.tdiv t102 36524)))) - (wrap64 (Int.tdiv t102 146096)))) 365)) 100)))))))) + 2)) 153)) + 3), wrap64 ((wrap64 ((wrap64 (t102 - (wrap64 ((wrap64 ((wrap64 (365 * (wrap64 (Int.tdiv (wrap64 ((wrap64 ((wrap64 (t102 - (wrap64 (Int.tdiv t102 1460)))) + (wrap64 (Int.tdiv t102 36524)))) - (wrap64 (Int.tdiv t102 146096)))) 365)))) + (wrap64 (Int.tdiv (wrap64 (Int.tdiv (wrap64 ((wrap64 ((wrap64 (t102 - (wrap64 (Int.tdiv t102 1460)))) + (wrap64 (Int.tdiv t102 36524)))) - (wrap64 (Int.tdiv t102 146096)))) 365)) 4)))) - (wrap64 (Int.tdiv (wrap64 (Int.tdiv (wrap64 ((wrap64 ((wrap64 (t102 - (wrap64 (Int.tdiv t102 1460)))) + (wrap64 (Int.tdiv t102 36524)))) - (wrap64 (Int.tdiv t102 146096)))) 365)) 100)))))) - (wrap64 (Int.tdiv (wrap64 ((wrap64 (153 * (wrap64 (Int.tdiv (wrap64 ((wrap64 (5 * (wrap64 (t102 - (wrap64 ((wrap64 ((wrap64 (365 * (wrap64 (Int.tdiv (wrap64 ((wrap64 ((wrap64 (t102 - (wrap64 (Int.tdiv t102 1460)))) + (wrap64 (Int.tdiv t102 36524)))) - (wrap64 (Int.tdiv t102 146096)))) 365)))) + (wrap64 (Int.tdiv (wrap64 (Int.tdiv (wrap64 ((wrap64 ((wrap64 (t102 - (wrap64 (Int.tdiv t102 1460)))) + (wrap64 (Int.tdiv t102 36524)))) - (wrap64 (Int.tdiv t102 146096)))) 365)) 4)))) - (wrap64 (Int.tdiv (wrap64 (Int.tdiv (wrap64 ((wrap64 ((wrap64 (t102 - (wrap64 (Int.tdiv t102 1460)))) + (wrap64 (Int.tdiv t102 36524)))) - (wrap64 (Int.tdiv t102 146096)))) 365)) 100)))))))) + 2)) 153)))) + 2)) 5)))) + 1), true))) = some (r1, r2, r3, r4) := H
        have A5 := Aside0.mk A50
        clear A50
        by_cases c6 : (wrap64 ((wrap64 (Int.tdiv (wrap64 ((wrap64 (5 * (wrap64 (t102 - (wrap64 ((wrap64 ((wrap64 (365 * (wrap64 (Int.tdiv (wrap64 ((wrap64 ((wrap64 (t102 - (wrap64 (Int.tdiv t102 1460)))) + (wrap64 (Int.tdiv t102 36524)))) - (wrap64 (Int.tdiv t102 146096)))) 365)))) + (wrap64 (Int.tdiv (wrap64 (Int.tdiv (wrap64 ((wrap64 ((wrap64 (t102 - (wrap64 (Int.tdiv t102 1460)))) + (wrap64 (Int.tdiv t102 36524)))) - (wrap64 (Int.tdiv t102 146096)))) 365)) 4)))) - (wrap64 (Int.tdiv (wrap64 (Int.tdiv (wrap64 ((wrap64 ((wrap64 (t102 - (wrap64 (Int.tdiv t102 1460)))) + (wrap64 (Int.tdiv t102 36524)))) - (wrap64 (Int.tdiv t102 146096)))) 365)) 100)))))))) + 2)) 153)) + 3)) > 12
        · rw [if_pos c6] at H
          have c6b0 : decide (12 < (wrap64 ((wrap64 (Int.tdiv (wrap64 ((wrap64 (5 * (wrap64 (t102 - (wrap64 ((wrap64 ((wrap64 (365 * (wrap64 (Int.tdiv (wrap64 ((wrap64 ((wrap64 (t102 - (wrap64 (Int.tdiv t102 1460)))) + (wrap64 (Int.tdiv t102 36524)))) - (wrap64 (Int.tdiv t102 146096)))) 365)))) + (wrap64 (Int.tdiv (wrap64 (Int.tdiv (wrap64 ((wrap64 ((wrap64 (t102 - (wrap64 (Int.tdiv t102 1460)))) + (wrap64 (Int.tdiv t102 36524)))) - (wrap64 (Int.tdiv t102 146096)))) 365)) 4)))) - (wrap64 (Int.tdiv (wrap64 (Int.tdiv (wrap64 ((wrap64 ((wrap64 (t102 - (wrap64 (Int.tdiv t102 1460)))) + (wrap64 (Int.tdiv t102 36524)))) - (wrap64 (Int.tdiv t102 146096)))) 365)) 100)))))))) + 2)) 153)) + 3))) = true := decide_eq_true c6
          clear c6
          simp only [Option.some.injEq, Prod.mk.injEq] at H
          obtain ⟨rfl, rfl, rfl, rfl⟩ := H
          go_wp2_with (first | ((with_reducible refine gate_callee (f := 27) rfl ?_); refine goesL_ (some 19) rfl rfl Try.func27 (by kernel_rfl) rfl #[.int .i64 (wrap64 (a0 + 719468)), .int .i64 146097] rfl (by (try simp only [List.map_toArray, List.map_cons, List.map_nil]); first | done | rfl | (simp only [List.length_drop, List.length_take]; rfl)) ?_; (with_reducible refine (num_Div.calls (wrap64 (a0 + 719468)) 146097 t101 t102 t103 _ A5.out).mono ?_); rintro e w' ⟨rfl, ⟨nd, rfl⟩⟩; refine ⟨_, rfl, ?_⟩))
          refine bodyPost_ret (results_list (rs := [.tmp 2, .tmp 3, .tmp 4, .tmp 5]) rfl (by simp) (.tmp (.tmp (.tmp (.tmp .nil))))) rfl ?_
          exact ⟨by first | rfl | (simp; done) | (simp [*]; done), by repeat (first | exact Drawn0.refl _ | apply Drawn0.step)⟩
        · rw [if_neg c6] at H
          have c6b0 : decide (12 < (wrap64 ((wrap64 (Int.tdiv (wrap64 ((wrap64 (5 * (wrap64 (t102 - (wrap64 ((wrap64 ((wrap64 (365 * (wrap64 (Int.tdiv (wrap64 ((wrap64 ((wrap64 (t102 - (wrap64 (Int.tdiv t102 1460)))) + (wrap64 (Int.tdiv t102 36524)))) - (wrap64 (Int.tdiv t102 146096)))) 365)))) + (wrap64 (Int.tdiv (wrap64 (Int.tdiv (wrap64 ((wrap64 ((wrap64 (t102 - (wrap64 (Int.tdiv t102 1460)))) + (wrap64 (Int.tdiv t102 36524)))) - (wrap64 (Int.tdiv t102 146096)))) 365)) 4)))) - (wrap64 (Int.tdiv (wrap64 (Int.tdiv (wrap64 ((wrap64 ((wrap64 (t102 - (wrap64 (Int.tdiv t102 1460)))) + (wrap64 (Int.tdiv t102 36524)))) - (wrap64 (Int.tdiv t102 146096)))) 365)) 100)))))))) + 2)) 153)) + 3))) = false := decide_eq_false c6
          clear c6
          simp only [Option.some.injEq, Prod.mk.injEq] at H
          obtain ⟨rfl, rfl, rfl, rfl⟩ := H
          go_wp2_with (first | ((with_reducible refine gate_callee (f := 27) rfl ?_); refine goesL_ (some 19) rfl rfl Try.func27 (by kernel_rfl) rfl #[.int .i64 (wrap64 (a0 + 719468)), .int .i64 146097] rfl (by (try simp only [List.map_toArray, List.map_cons, List.map_nil]); first | done | rfl | (simp only [List.length_drop, List.length_take]; rfl)) ?_; (with_reducible refine (num_Div.calls (wrap64 (a0 + 719468)) 146097 t101 t102 t103 _ A5.out).mono ?_); rintro e w' ⟨rfl, ⟨nd, rfl⟩⟩; refine ⟨_, rfl, ?_⟩))
          refine bodyPost_ret (results_list (rs := [.tmp 2, .tmp 3, .tmp 4, .tmp 5]) rfl (by simp) (.tmp (.tmp (.tmp (.tmp .nil))))) rfl ?_
          exact ⟨by first | rfl | (simp; done) | (simp [*]; done), by repeat (first | exact Drawn0.refl _ | apply Drawn0.step)⟩

/-! ### stamp_fill: function 20 -/
-- by hand: wip/hand
/-- the bytes of a shape from its end on, its noughts filled with the digits of numbers -/
def stamp_fill.lp (sh : ByteArray) : Nat → Int → List Int → List UInt8 → Option (List UInt8)
  | 0, _, _, acc => some acc
  | n + 1, k, ns, acc => if sh.get! n ≠ 48 then stamp_fill.lp sh n (k - 1) ns (sh.get! n :: acc)
    else if 0 ≤ k ∧ k < ns.length then stamp_fill.lp sh n k (ns.set k.toNat (wrap64 (Int.tdiv (rd ns k) 10))) (UInt8.ofNat ((48 + Int.tmod (rd ns k) 10) % 256).toNat :: acc) else none
def stamp_fill.f (a0 : ByteArray) (l1 : List Int) : Option (ByteArray) :=
  if a0.size ≤ 30 ∧ 1 ≤ l1.length ∧ l1.length ≤ 30 then (stamp_fill.lp a0 a0.size (l1.length - 1) l1 []).map (fun l => ⟨l.toArray⟩) else none
/-- the row of bytes: ahead of a place the shape's, from there on what was laid -/
def stamp_fill.Out (wr : World) (gb cs n : Nat) (sh : ByteArray) (acc : List UInt8) : Prop :=
  acc.length + n = sh.size ∧ sh.size ≤ cs ∧ ∃ cur : Array Value, wr.heap[gb]? = some (.cells cur 5 (cs, cs + 1)) ∧ cur.size = cs ∧ (∀ j, j < n → cur[j]? = some (.int .u8 ((sh.get! j).toNat : Int))) ∧ ∀ j, j < acc.length → cur[n + j]? = some (.int .u8 ((acc.getD j 0).toNat : Int))
theorem stamp_fill.Out.cell {wr : World} {gb cs n : Nat} {sh : ByteArray} {acc : List UInt8} (h : stamp_fill.Out wr gb cs n sh acc) (j : Nat) (hj : j < n) : wr.cell? ⟨gb, j, none⟩ = some (.int .u8 ((sh.get! j).toNat : Int)) := by
  obtain ⟨_, _, cur, hh, _, h1, _⟩ := h
  simp [World.cell?, hh, h1 j hj]
theorem stamp_fill.Out.open_ {wr : World} {gb cs n : Nat} {sh : ByteArray} {acc : List UInt8} (h : stamp_fill.Out wr gb cs n sh acc) (j : Nat) (hj : j < n) : wr.frozen? ⟨gb, j, none⟩ = false := by
  obtain ⟨h0, h2, cur, hh, _, h1, _⟩ := h
  simp [World.frozen?, hh]; omega
theorem stamp_fill.Out.far {wr w2 : World} {gb cs n : Nat} {sh : ByteArray} {acc : List UInt8} (h : stamp_fill.Out wr gb cs n sh acc) (hm : w2.heap[gb]? = wr.heap[gb]?) : stamp_fill.Out w2 gb cs n sh acc := by
  unfold stamp_fill.Out; rw [hm]; exact h
theorem stamp_fill.Out.keep {wr : World} {gb cs n : Nat} {sh : ByteArray} {acc : List UInt8} (h : stamp_fill.Out wr gb cs (n + 1) sh acc) : stamp_fill.Out wr gb cs n sh (sh.get! n :: acc) := by
  obtain ⟨h0, h2, cur, hh, hs, h1, h3⟩ := h
  refine ⟨by simp; omega, h2, cur, hh, hs, fun j hj => h1 j (by omega), fun j hj => ?_⟩
  cases j with
  | zero => simpa using h1 n (by omega)
  | succ j => simp at hj; have := h3 j (by omega); rw [show n + (j + 1) = n + 1 + j by omega, this]; simp
theorem stamp_fill.Out.put {wr : World} {gb cs n : Nat} {sh : ByteArray} {acc : List UInt8} (b : UInt8) (h : stamp_fill.Out wr gb cs (n + 1) sh acc) : stamp_fill.Out (wr.setCell ⟨gb, n, none⟩ (.int .u8 (b.toNat : Int))) gb cs n sh (b :: acc) := by
  obtain ⟨h0, h2, cur, hh, hs, h1, h3⟩ := h
  refine ⟨by simp; omega, h2, cur.setIfInBounds n (.int .u8 (b.toNat : Int)), by simp [World.setCell, Array.getElem?_modify, hh], by simp [hs], fun j hj => ?_, fun j hj => ?_⟩
  · rw [Array.getElem?_setIfInBounds_ne (by omega)]; exact h1 j (by omega)
  · cases j with
    | zero => simp [Array.getElem?_setIfInBounds, hs]; omega
    | succ j => simp at hj; rw [Array.getElem?_setIfInBounds_ne (by omega), show n + (j + 1) = n + 1 + j by omega, h3 j (by omega)]; simp
theorem stamp_fill.Out.start (w : World) (s : ByteArray) : stamp_fill.Out (Go.Lib.bytesWorld w 5 s) w.heap.size (Go.Lib.bytesCells w 5 s).size s.size s [] := by
  have hz : s.size ≤ (Go.Lib.bytesCells w 5 s).size := by simp [Go.Lib.bytesCells]
  refine ⟨by simp, hz, Go.Lib.bytesCells w 5 s, Go.Lib.bytesWorld_at_new w 5 s, rfl, fun j hj => ?_, fun j hj => by simp at hj⟩
  have := Go.Lib.bytesWorld_cell w 5 s j hj
  simp only [World.cell?, Go.Lib.bytesWorld_at_new] at this
  simp at this
  rw [this]
  simp [ByteArray.get!, List.getD, hj]
set_option maxHeartbeats 8000000 in
theorem stamp_fill.calls (a0 : ByteArray) (A1 : Option Addr) (c1 : Nat) (l1 : List Int) (r : ByteArray) (w : World) {w0 : World} {ok : Nat → Prop} (hr1 : (Kd.int .i64).R 3 w w0.heap.size ok (.slice A1 l1.length c1) l1) (hb1 : Below w0.heap.size w0 w) (h : stamp_fill.f a0 l1 = some r) :
    Calls Try.prog 20 #[.string a0, .slice A1 l1.length c1] w fun e w' => e = .returned (.string r) ∧ Below w0.heap.size w0 w' := by
  unfold stamp_fill.f at h
  by_cases hs : a0.size ≤ 30 ∧ 1 ≤ l1.length ∧ l1.length ≤ 30
  · rw [if_pos hs] at h
    obtain ⟨out, hl, rfl⟩ := Option.map_eq_some_iff.mp h
    clear h
    obtain ⟨s0, s1, s2⟩ := hs
    obtain ⟨g, rfl, hg⟩ : ∃ g, A1 = some ⟨g, 0, none⟩ ∧ w0.heap.size ≤ g ∧ g < w.heap.size := by
      obtain ⟨_, hw | ⟨g, cap, cur, he, hb, hh, _⟩⟩ := Kd.own_of_R hr1
      · omega
      · injection he with he1 _ _
        exact ⟨g, he1, hb, by rcases Nat.lt_or_ge g w.heap.size with q | q; exact q; rw [Array.getElem?_eq_none q] at hh; exact absurd hh (by simp)⟩
    have hcv := Go.Lib.run_convert_string_bytes (P := Try.prog) w 9 35 5 a0 Try.underlying9 Try.underlying35 Try.underlying5
    have HS := stamp_fill.Out.start w a0
    have hw0 := below_size hb1
    have HBw : Below w.heap.size w (Go.Lib.bytesWorld w 5 a0) := ⟨by simp [Go.Lib.bytesWorld, World.freeze]; try rfl, by simp [Go.Lib.bytesWorld, World.freeze]; try rfl, by simp [Go.Lib.bytesWorld, World.freeze]; try rfl, by rw [Go.Lib.bytesWorld_size]; omega, fun j hj => Go.Lib.bytesWorld_at_old w 5 a0 j hj⟩
    have HB0 := Aside0.mk (below_step hb1 HBw)
    have HR0 : Aside0 ((Kd.int .i64).R 3 (Go.Lib.bytesWorld w 5 a0) w0.heap.size (fun k_ => k_ = g) (.slice (some ⟨g, 0, none⟩) l1.length c1) l1) :=
      ⟨Kd.R_move (Kd.R_of_own (Kd.own_of_R hr1) (fun k hk => by simpa [Value.ownBlock] using hk.symm)) (fun k hk => by subst hk; exact Go.Lib.bytesWorld_at_old w 5 a0 k hg.2)⟩
    clear HBw
    have HL := Aside0.mk hl
    have HS0 := Aside0.mk HS
    clear HS hl
    have hsz : (a0.size : Int) ≤ 30 := by omega
    have hle : (1 : Int) ≤ (l1.length : Int) := by omega
    have hle2 : (l1.length : Int) ≤ 30 := by omega
    go_enter Try.func20, Try.ntmps20
    go_wp2
    go_loopg [6, 7] a0.size (fun gg s6 s7 wr => ∃ (n : Nat) (k : Int) (ns : List Int) (acc : List UInt8), n ≤ a0.size ∧ n ≤ gg ∧ s6 = .int .i64 k ∧ s7 = .int .i64 ((n : Int) - 1) ∧ Aside (stamp_fill.lp a0 n k ns acc = some out) ∧ ns.length = l1.length ∧ -100 + (n : Int) ≤ k ∧ k ≤ 100 ∧ Aside ((Kd.int .i64).R 3 wr w0.heap.size (fun k_ => k_ = g) (.slice (some ⟨g, 0, none⟩) l1.length c1) ns) ∧ Aside (Below w0.heap.size w0 wr) ∧ Aside (stamp_fill.Out wr w.heap.size (Go.Lib.bytesCells w 5 a0).size n a0 acc))
    case atStart => exact ⟨a0.size, _, l1, [], Nat.le_refl _, Nat.le_refl _, rfl, rfl, HL.out, rfl, by omega, by omega, HR0.out, HB0.out, HS0.out⟩
    case round =>
      obtain ⟨n, k, ns, acc, n0, n1, rfl, rfl, HL, e0, k0, k1, HR, HB, HS⟩ := hrel
      have hgb : w.heap.size ≠ g := by omega
      cases n with
      | zero =>
        obtain rfl := Option.some.inj HL.out
        have hback : ∀ cap, (convert 35 9 (.slice (some ⟨w.heap.size, 0, none⟩) a0.size cap)).run Try.prog wr = .ok (.string ⟨acc.toArray⟩) wr := by
          intro cap
          obtain ⟨q0, q1, cur, q2, q3, q4, q5⟩ := HS.out
          have := Go.run_convert_bytes_back (P := Try.prog) wr 35 9 5 ⟨w.heap.size, 0, none⟩ cap acc Try.underlying35 Try.underlying5 Try.underlying9 (fun j hj => by
            have z := q5 j hj
            have ad : (⟨w.heap.size, 0, none⟩ : Addr).add j = ⟨w.heap.size, j, none⟩ := by by_cases j0 : j = 0 <;> simp [Addr.add, j0]
            rw [ad]
            simp [World.cell?, q2]
            rw [Nat.zero_add] at z
            rw [z]; simp [List.getD, hj])
          rw [show acc.length = a0.size by omega] at this
          exact this
        go_wp2
        go_ret
        exact ⟨rfl, HB.out⟩
      | succ m =>
        have hlp := HL.out
        simp only [stamp_fill.lp] at hlp
        have hc := HS.out.cell m (by omega)
        have e7 : ((m + 1 : Nat) : Int) - 1 = (m : Int) := by omega
        rw [e7]
        have hm : (m : Int) < (a0.size : Int) := by omega
        have hm0 : (0 : Int) ≤ (m : Int) := by omega
        by_cases hb : a0.get! m ≠ 48
        · rw [if_pos hb] at hlp
          have hbi : ((a0.get! m).toNat : Int) ≠ 48 := by
            intro h_; apply hb; apply UInt8.toNat_inj.mp; show (a0.get! m).toNat = 48; omega
          have HLP := Aside0.mk hlp
          clear hlp
          generalize ((a0.get! m).toNat : Int) = b at hc hbi
          go_wp2
          go_roundg m
          case measure => omega
          case rel => exact ⟨m, k - 1, ns, _, by omega, by omega, rfl, rfl, HLP.out, e0, by omega, by omega, HR.out, HB.out, HS.out.keep⟩
        · rw [if_neg hb] at hlp
          by_cases hk : 0 ≤ k ∧ k < ns.length
          · rw [if_pos hk] at hlp
            have HLP := Aside0.mk hlp
            clear hlp
            have hbe : ((a0.get! m).toNat : Int) = 48 := by
              have h_ : a0.get! m = 48 := Decidable.of_not_not hb
              rw [h_]; rfl
            rw [hbe] at hc
            have hk0 := hk.1
            have hk2 : k < (l1.length : Int) := by omega
            have hR := HR.out
            rw [← e0] at hR
            obtain ⟨hn, hnf⟩ := Kd.R_celln 0 hR k hk.1 (by omega)
            clear hR
            have hcf := HS.out.open_ m (by omega)
            generalize hx : rdOf 0 ns k = x at hn
            go_wp2
            go_region
            all_goals go_wp2
            have hx2 : rd ns k = x := hx
            rw [hx2] at HLP
            have eb : (((UInt8.ofNat ((48 + Int.tmod x 10) % 256).toNat).toNat : Nat) : Int) = (48 + Int.tmod x 10) % 256 := by
              rw [UInt8.toNat_ofNat']; omega
            go_roundg m
            case measure => omega
            case rel =>
              refine ⟨m, k, ns.set k.toNat (wrap64 (Int.tdiv x 10)), _, by omega, by omega, rfl, rfl, HLP.out, by simp; omega, by omega, by omega, ?_, ?_, ?_⟩
              · show Kd.R _ _ _ _ _ _ _
                refine Kd.R_drew (Kd.R_putn (Kd.R_move HR.out (fun k_ hk_ => ?_)) k _)
                subst hk_
                simp [World.setCell, Array.getElem?_modify]
                omega
              · show Below _ _ _
                exact ((HB.out.setCell (by omega) _).setCell hg.1 _).drew
              · show stamp_fill.Out _ _ _ _ _ _
                have hput := HS.out.put (UInt8.ofNat ((48 + Int.tmod x 10) % 256).toNat)
                rw [eb] at hput
                refine hput.far ?_
                have hgb2 : ¬ g = w.heap.size := by omega
                show ((wr.setCell _ _).setCell ⟨g, _, none⟩ _).heap[w.heap.size]? = _
                rw [World.setCell]
                simp only [Array.getElem?_modify, if_neg hgb2]
          · rw [if_neg hk] at hlp; exact absurd hlp (by simp)
  · rw [if_neg hs] at h; exact absurd h (by simp)

/-! ### stamp_Text: function 13 -/
def stamp_Text.f (k : Nat) (a0 : Int) (a1 : Int) : Option (ByteArray × Bool) := (day_Date.f k a0).bind fun bt104 => ((stamp_Clock.f k a1).bind fun bt108 => (if bt104.2.2.2 = true then (if bt108.2.2.2 = true then (if 0 ≤ 19 then (if 19 ≤ 20 then ((stamp_fill.f ((⟨#[48, 48, 48, 48, 45, 48, 48, 45, 48, 48, 84, 48, 48, 58, 48, 48, 58, 48, 48, 90]⟩ : ByteArray).extract 0 19) (([bt104.1, bt104.2.1, bt104.2.2.1, bt108.1, bt108.2.1, bt108.2.2.1] : List Int))).bind fun t115 => (if t115.size + ((⟨#[48, 48, 48, 48, 45, 48, 48, 45, 48, 48, 84, 48, 48, 58, 48, 48, 58, 48, 48, 90]⟩ : ByteArray).extract 19 (⟨#[48, 48, 48, 48, 45, 48, 48, 45, 48, 48, 84, 48, 48, 58, 48, 48, 58, 48, 48, 90]⟩ : ByteArray).size).size ≤ 9223372036854775807 then (some (t115 ++ ((⟨#[48, 48, 48, 48, 45, 48, 48, 45, 48, 48, 84, 48, 48, 58, 48, 48, 58, 48, 48, 90]⟩ : ByteArray).extract 19 (⟨#[48, 48, 48, 48, 45, 48, 48, 45, 48, 48, 84, 48, 48, 58, 48, 48, 58, 48, 48, 90]⟩ : ByteArray).size), true)) else (none))) else (none)) else (none)) else (some ((⟨#[]⟩ : ByteArray), false))) else (some ((⟨#[]⟩ : ByteArray), false))))
theorem stamp_Text.mono : ∀ a0 a1 k, LeO (stamp_Text.f k a0 a1) (stamp_Text.f (k + 1) a0 a1) := by
  intro a0 a1 k
  unfold stamp_Text.f
  repeat' first
      | (with_reducible exact day_Date.mono _ _)
      | (with_reducible exact stamp_Clock.mono _ _)
      | (with_reducible exact LeO.refl _)
      | (with_reducible exact LeO.none _)
      | (with_reducible refine LeO.ite ?_ ?_)
      | (with_reducible refine LeO.bind ?_ (fun _ => ?_))
      | exact day_Date.mono _ _
      | exact stamp_Clock.mono _ _
      | exact LeO.none _
      | refine LeO.ite ?_ ?_
      | refine LeO.bind ?_ (fun _ => ?_)
def stamp_Text.T5 : Bool × List (List Nat × List Nat) := (true, [([], []), ([], []), ([], []), ([], []), ([], []), ([], []), ([], []), ([1, 2, 3, 4, 5, 6], [1, 2, 3, 4, 5, 6]), ([0, 7], [0, 7]), ([], []), ([8, 9], [8, 9]), ([10, 8, 0, 1, 2, 3, 4, 5, 6, 7, 8, 9, 10], [10]), ([11, 0, 1, 2, 3, 4, 5, 6, 7, 8, 9, 10, 11], [])])
def stamp_Text.B5 : List Nat := [0, 0, 0, 0, 0, 0, 0, 126, 255, 0, 1023, 2047, 4095]
theorem stamp_Text.tab5 : rtab .any (opsOf Try.f13 5) = stamp_Text.T5 := by kernel_rfl
theorem stamp_Text.bits5 : waitsOk stamp_Text.T5.2 stamp_Text.B5 = true := by kernel_rfl
set_option maxHeartbeats 8000000 in
set_option maxRecDepth 100000 in
theorem stamp_Text.calls (k : Nat) (a0 : Int) (a1 : Int) (r1 : ByteArray) (r2 : Bool) (w : World) (h : stamp_Text.f k a0 a1 = some (r1, r2)) :
    Calls Try.prog 13 #[.int .i64 a0, .int .i64 a1] w fun e w' => e = .returned (.tuple #[.string r1, .bool r2]) ∧ Below w.heap.size w w' := by
  have HB := Aside0.mk (Below.refl w.heap.size w)
  have H : ((day_Date.f k a0).bind fun bt104 => ((stamp_Clock.f k a1).bind fun bt108 => (if bt104.2.2.2 = true then (if bt108.2.2.2 = true then (if 0 ≤ 19 then (if 19 ≤ 20 then ((stamp_fill.f ((⟨#[48, 48, 48, 48, 45, 48, 48, 45, 48, 48, 84, 48, 48, 58, 48, 48, 58, 48, 48, 90]⟩ : ByteArray).extract 0 19) (([bt104.1, bt104.2.1, bt104.2.2.1, bt108.1, bt108.2.1, bt108.2.2.1] : List Int))).bind fun t115 => (if t115.size + ((⟨#[48, 48, 48, 48, 45, 48, 48, 45, 48, 48, 84, 48, 48, 58, 48, 48, 58, 48, 48, 90]⟩ : ByteArray).extract 19 (⟨#[48, 48, 48, 48, 45, 48, 48, 45, 48, 48, 84, 48, 48, 58, 48, 48, 58, 48, 48, 90]⟩ : ByteArray).size).size ≤ 9223372036854775807 then (some (t115 ++ ((⟨#[48, 48, 48, 48, 45, 48, 48, 45, 48, 48, 84, 48, 48, 58, 48, 48, 58, 48, 48, 90]⟩ : ByteArray).extract 19 (⟨#[48, 48, 48, 48, 45, 48, 48, 45, 48, 48, 84, 48, 48, 58, 48, 48, 58, 48, 48, 90]⟩ : ByteArray).size), true)) else (none))) else (none)) else (none)) else (some ((⟨#[]⟩ : ByteArray), false))) else (some ((⟨#[]⟩ : ByteArray), false))))) = some (r1, r2) := h
  clear h
  replace H := Option.bind_eq_some_iff.mp H
  obtain ⟨⟨t104, t105, t106, t107⟩, A30, H⟩ := H
  replace H : ((stamp_Clock.f k a1).bind fun bt108 => (if t107 = true then (if bt108.2.2.2 = true then (if 0 ≤ 19 then (if 19 ≤ 20 then ((stamp_fill.f ((⟨#[48, 48, 48, 48, 45, 48, 48, 45, 48, 48, 84, 48, 48, 58, 48, 48, 58, 48, 48, 90]⟩ : ByteArray).extract 0 19) (([t104, t105, t106, bt108.1, bt108.2.1, bt108.2.2.1] : List Int))).bind fun t115 => (if t115.size + ((⟨#[48, 48, 48, 48, 45, 48, 48, 45, 48, 48, 84, 48, 48, 58, 48, 48, 58, 48, 48, 90]⟩ : ByteArray).extract 19 (⟨#[48, 48, 48, 48, 45, 48, 48, 45, 48, 48, 84, 48, 48, 58, 48, 48, 58, 48, 48, 90]⟩ : ByteArray).size).size ≤ 9223372036854775807 then (some (t115 ++ ((⟨#[48, 48, 48, 48, 45, 48, 48, 45, 48, 48, 84, 48, 48, 58, 48, 48, 58, 48, 48, 90]⟩ : ByteArray).extract 19 (⟨#[48, 48, 48, 48, 45, 48, 48, 45, 48, 48, 84, 48, 48, 58, 48, 48, 58, 48, 48, 90]⟩ : ByteArray).size), true)) else (none))) else (none)) else (none)) else (some ((⟨#[]⟩ : ByteArray), false))) else (some ((⟨#[]⟩ : ByteArray), false)))) = some (r1, r2) := H
  have A3 := Aside0.mk A30
  clear A30
  replace H := Option.bind_eq_some_iff.mp H
  obtain ⟨⟨t108, t109, t110, t111⟩, A40, H⟩ := H
  replace H : (if t107 = true then (if t111 = true then (if 0 ≤ 19 then (if 19 ≤ 20 then ((stamp_fill.f ((⟨#[48, 48, 48, 48, 45, 48, 48, 45, 48, 48, 84, 48, 48, 58, 48, 48, 58, 48, 48, 90]⟩ : ByteArray).extract 0 19) (([t104, t105, t106, t108, t109, t110] : List Int))).bind fun t115 => (if t115.size + ((⟨#[48, 48, 48, 48, 45, 48, 48, 45, 48, 48, 84, 48, 48, 58, 48, 48, 58, 48, 48, 90]⟩ : ByteArray).extract 19 (⟨#[48, 48, 48, 48, 45, 48, 48, 45, 48, 48, 84, 48, 48, 58, 48, 48, 58, 48, 48, 90]⟩ : ByteArray).size).size ≤ 9223372036854775807 then (some (t115 ++ ((⟨#[48, 48, 48, 48, 45, 48, 48, 45, 48, 48, 84, 48, 48, 58, 48, 48, 58, 48, 48, 90]⟩ : ByteArray).extract 19 (⟨#[48, 48, 48, 48, 45, 48, 48, 45, 48, 48, 84, 48, 48, 58, 48, 48, 58, 48, 48, 90]⟩ : ByteArray).size), true)) else (none))) else (none)) else (none)) else (some ((⟨#[]⟩ : ByteArray), false))) else (some ((⟨#[]⟩ : ByteArray), false))) = some (r1, r2) := H
  have A4 := Aside0.mk A40
  clear A40
  by_cases c5 : t107 = true
  · subst c5
    have H1 : (if t111 = true then (if 0 ≤ 19 then (if 19 ≤ 20 then ((stamp_fill.f ((⟨#[48, 48, 48, 48, 45, 48, 48, 45, 48, 48, 84, 48, 48, 58, 48, 48, 58, 48, 48, 90]⟩ : ByteArray).extract 0 19) (([t104, t105, t106, t108, t109, t110] : List Int))).bind fun t115 => (if t115.size + ((⟨#[48, 48, 48, 48, 45, 48, 48, 45, 48, 48, 84, 48, 48, 58, 48, 48, 58, 48, 48, 90]⟩ : ByteArray).extract 19 (⟨#[48, 48, 48, 48, 45, 48, 48, 45, 48, 48, 84, 48, 48, 58, 48, 48, 58, 48, 48, 90]⟩ : ByteArray).size).size ≤ 9223372036854775807 then (some (t115 ++ ((⟨#[48, 48, 48, 48, 45, 48, 48, 45, 48, 48, 84, 48, 48, 58, 48, 48, 58, 48, 48, 90]⟩ : ByteArray).extract 19 (⟨#[48, 48, 48, 48, 45, 48, 48, 45, 48, 48, 84, 48, 48, 58, 48, 48, 58, 48, 48, 90]⟩ : ByteArray).size), true)) else (none))) else (none)) else (none)) else (some ((⟨#[]⟩ : ByteArray), false))) = some (r1, r2) := by rw [if_pos rfl] at H; exact H
    clear H
    have H := H1
    clear H1
    by_cases c6 : t111 = true
    · subst c6
      have H1 : (if 0 ≤ 19 then (if 19 ≤ 20 then ((stamp_fill.f ((⟨#[48, 48, 48, 48, 45, 48, 48, 45, 48, 48, 84, 48, 48, 58, 48, 48, 58, 48, 48, 90]⟩ : ByteArray).extract 0 19) (([t104, t105, t106, t108, t109, t110] : List Int))).bind fun t115 => (if t115.size + ((⟨#[48, 48, 48, 48, 45, 48, 48, 45, 48, 48, 84, 48, 48, 58, 48, 48, 58, 48, 48, 90]⟩ : ByteArray).extract 19 (⟨#[48, 48, 48, 48, 45, 48, 48, 45, 48, 48, 84, 48, 48, 58, 48, 48, 58, 48, 48, 90]⟩ : ByteArray).size).size ≤ 9223372036854775807 then (some (t115 ++ ((⟨#[48, 48, 48, 48, 45, 48, 48, 45, 48, 48, 84, 48, 48, 58, 48, 48, 58, 48, 48, 90]⟩ : ByteArray).extract 19 (⟨#[48, 48, 48, 48, 45, 48, 48, 45, 48, 48, 84, 48, 48, 58, 48, 48, 58, 48, 48, 90]⟩ : ByteArray).size), true)) else (none))) else (none)) else (none)) = some (r1, r2) := by rw [if_pos rfl] at H; exact H
      clear H
      have H := H1
      clear H1
      by_cases c7 : 0 ≤ 19
      · rw [if_pos c7] at H
        have c7b0 := eq_true c7
        have c7b1 : decide (0 ≤ 19) = true := decide_eq_true c7
        clear c7
        by_cases c8 : 19 ≤ 20
        · rw [if_pos c8] at H
          have c8b0 := eq_true c8
          have c8b1 : decide (19 ≤ 20) = true := decide_eq_true c8
          clear c8
          obtain ⟨y112, hy112⟩ : ∃ y_ : List Int, y_ = (([t104, t105, t106, t108, t109, t110] : List Int)) := ⟨_, rfl⟩
          replace H : ((stamp_fill.f ((⟨#[48, 48, 48, 48, 45, 48, 48, 45, 48, 48, 84, 48, 48, 58, 48, 48, 58, 48, 48, 90]⟩ : ByteArray).extract 0 19) y112).bind fun t115 => (if t115.size + ((⟨#[48, 48, 48, 48, 45, 48, 48, 45, 48, 48, 84, 48, 48, 58, 48, 48, 58, 48, 48, 90]⟩ : ByteArray).extract 19 (⟨#[48, 48, 48, 48, 45, 48, 48, 45, 48, 48, 84, 48, 48, 58, 48, 48, 58, 48, 48, 90]⟩ : ByteArray).size).size ≤ 9223372036854775807 then (some (t115 ++ ((⟨#[48, 48, 48, 48, 45, 48, 48, 45, 48, 48, 84, 48, 48, 58, 48, 48, 58, 48, 48, 90]⟩ : ByteArray).extract 19 (⟨#[48, 48, 48, 48, 45, 48, 48, 45, 48, 48, 84, 48, 48, 58, 48, 48, 58, 48, 48, 90]⟩ : ByteArray).size), true)) else (none))) = some (r1, r2) := by first | (rw [hy112]; with_reducible exact H) | (have H2_ := (Option.bind_some _ _).symm.trans H; rw [hy112]; with_reducible exact H2_) | (have H2_ := (Option.bind_some _ _).symm.trans H; with_reducible exact H2_) | with_reducible exact H | (rw [hy112]; exact H) | exact H
          have Ny112 := Aside0.mk hy112
          clear hy112
          replace H := Option.bind_eq_some_iff.mp H
          obtain ⟨t115, A90, H⟩ := H
          replace H : (if t115.size + ((⟨#[48, 48, 48, 48, 45, 48, 48, 45, 48, 48, 84, 48, 48, 58, 48, 48, 58, 48, 48, 90]⟩ : ByteArray).extract 19 (⟨#[48, 48, 48, 48, 45, 48, 48, 45, 48, 48, 84, 48, 48, 58, 48, 48, 58, 48, 48, 90]⟩ : ByteArray).size).size ≤ 9223372036854775807 then (some (t115 ++ ((⟨#[48, 48, 48, 48, 45, 48, 48, 45, 48, 48, 84, 48, 48, 58, 48, 48, 58, 48, 48, 90]⟩ : ByteArray).extract 19 (⟨#[48, 48, 48, 48, 45, 48, 48, 45, 48, 48, 84, 48, 48, 58, 48, 48, 58, 48, 48, 90]⟩ : ByteArray).size), true)) else (none)) = some (r1, r2) := H
          have A9 := Aside0.mk A90
          clear A90
          have c10b0 := eq_true (of_decide_eq_true (by first | (with_reducible assumption) | assumption) : 19 ≤ 20)
          by_cases c11 : t115.size + ((⟨#[48, 48, 48, 48, 45, 48, 48, 45, 48, 48, 84, 48, 48, 58, 48, 48, 58, 48, 48, 90]⟩ : ByteArray).extract 19 (⟨#[48, 48, 48, 48, 45, 48, 48, 45, 48, 48, 84, 48, 48, 58, 48, 48, 58, 48, 48, 90]⟩ : ByteArray).size).size ≤ 9223372036854775807
          · rw [if_pos c11] at H
            have c11b0 := eq_true c11
            have c11b1 : decide (t115.size + ((⟨#[48, 48, 48, 48, 45, 48, 48, 45, 48, 48, 84, 48, 48, 58, 48, 48, 58, 48, 48, 90]⟩ : ByteArray).extract 19 (⟨#[48, 48, 48, 48, 45, 48, 48, 45, 48, 48, 84, 48, 48, 58, 48, 48, 58, 48, 48, 90]⟩ : ByteArray).size).size ≤ 9223372036854775807) = true := decide_eq_true c11
            try have c11b2 : (9223372036854775807 < t115.size + ((⟨#[48, 48, 48, 48, 45, 48, 48, 45, 48, 48, 84, 48, 48, 58, 48, 48, 58, 48, 48, 90]⟩ : ByteArray).extract 19 (⟨#[48, 48, 48, 48, 45, 48, 48, 45, 48, 48, 84, 48, 48, 58, 48, 48, 58, 48, 48, 90]⟩ : ByteArray).size).size) = False := eq_false (Nat.not_lt.2 c11)
            have c11b3 : (9223372036854775807 < t115.size + 1) = False := eq_false (by have hz_ : ((⟨#[48, 48, 48, 48, 45, 48, 48, 45, 48, 48, 84, 48, 48, 58, 48, 48, 58, 48, 48, 90]⟩ : ByteArray).extract 19 (⟨#[48, 48, 48, 48, 45, 48, 48, 45, 48, 48, 84, 48, 48, 58, 48, 48, 58, 48, 48, 90]⟩ : ByteArray).size).size = 1 := rfl; rw [hz_] at c11; omega)
            simp only [Option.some.injEq, Prod.mk.injEq] at H
            obtain ⟨rfl, rfl⟩ := H
            go_enter Try.func13, Try.ntmps13
            try go_wp2_with (first | ((with_reducible refine gate_callee (f := 19) rfl ?_); refine goesL_ (some 16) rfl rfl Try.func19 (by kernel_rfl) rfl #[.int .i64 a0] rfl (by (try simp only [List.map_toArray, List.map_cons, List.map_nil]); first | done | rfl | (simp only [List.length_drop, List.length_take]; rfl)) ?_; (with_reducible refine (day_Date.calls k a0 t104 t105 t106 true _ A3.out).mono ?_); rintro e w' ⟨rfl, ⟨nd0_, rfl⟩⟩; refine ⟨_, rfl, ?_⟩) | ((with_reducible refine gate_callee (f := 9) rfl ?_); refine goesL_ (some 23) rfl rfl Try.func9 (by kernel_rfl) rfl #[.int .i64 a1] rfl (by (try simp only [List.map_toArray, List.map_cons, List.map_nil]); first | done | rfl | (simp only [List.length_drop, List.length_take]; rfl)) ?_; (with_reducible refine (stamp_Clock.calls k a1 t108 t109 t110 true _ A4.out).mono ?_); rintro e w' ⟨rfl, ⟨nd1_, rfl⟩⟩; refine ⟨_, rfl, ?_⟩))
            have n0_ := Aside0.mk (below_drew1 (pw_below_drewN HB.out (nd0_ + nd1_)))
            clear HB
            have HB := n0_
            clear n0_
            refine start_ (n := 13) (S := fun w' => True) (ds := []) #[false, false, false, false, false, false, false, false, false, false, false, false, false] (by kernel_rfl) rfl rfl trivial (fun hHeld => ?_); refine with_tabW stamp_Text.tab5 stamp_Text.bits5 (fun HT_ HW_ => ?_)
            generalize (w.drewN (nd0_ + nd1_)).drew = w12 at HB hHeld ⊢
            refine pure_ (i := 0) (N := some 34) (v := ?_) (a' := ?_) #[true, false, false, false, false, false, false, false, false, false, false, false, false] rfl rfl (any_of HT_.out (by kernel_rfl)) (fun _ _ _ h => h) (Or.inl ⟨by rfl, ?_⟩) ?_ ?_
            rotate_left
            · intro w'
              go_simp
              with_reducible rfl
            rotate_left
            · simp only [Act.put, List.setIfInBounds_toArray, List.set_cons_zero, List.set_cons_succ, i64_w, i32_w]
              rfl
            refine pure_ (i := 1) (N := some 35) (v := ?_) (a' := ?_) #[true, true, false, false, false, false, false, false, false, false, false, false, false] rfl rfl (any_of HT_.out (by kernel_rfl)) (fun _ _ _ h => h) (Or.inl ⟨by rfl, ?_⟩) ?_ ?_
            rotate_left
            · intro w'
              go_simp
              with_reducible rfl
            rotate_left
            · simp only [Act.put, List.setIfInBounds_toArray, List.set_cons_zero, List.set_cons_succ, i64_w, i32_w]
              rfl
            refine pure_ (i := 2) (N := some 36) (v := ?_) (a' := ?_) #[true, true, true, false, false, false, false, false, false, false, false, false, false] rfl rfl (any_of HT_.out (by kernel_rfl)) (fun _ _ _ h => h) (Or.inl ⟨by rfl, ?_⟩) ?_ ?_
            rotate_left
            · intro w'
              go_simp
              with_reducible rfl
            rotate_left
            · simp only [Act.put, List.setIfInBounds_toArray, List.set_cons_zero, List.set_cons_succ, i64_w, i32_w]
              rfl
            refine pure_ (i := 3) (N := some 37) (v := ?_) (a' := ?_) #[true, true, true, true, false, false, false, false, false, false, false, false, false] rfl rfl (any_of HT_.out (by kernel_rfl)) (fun _ _ _ h => h) (Or.inl ⟨by rfl, ?_⟩) ?_ ?_
            rotate_left
            · intro w'
              go_simp
              with_reducible rfl
            rotate_left
            · simp only [Act.put, List.setIfInBounds_toArray, List.set_cons_zero, List.set_cons_succ, i64_w, i32_w]
              rfl
            refine pure_ (i := 4) (N := some 38) (v := ?_) (a' := ?_) #[true, true, true, true, true, false, false, false, false, false, false, false, false] rfl rfl (any_of HT_.out (by kernel_rfl)) (fun _ _ _ h => h) (Or.inl ⟨by rfl, ?_⟩) ?_ ?_
            rotate_left
            · intro w'
              go_simp
              with_reducible rfl
            rotate_left
            · simp only [Act.put, List.setIfInBounds_toArray, List.set_cons_zero, List.set_cons_succ, i64_w, i32_w]
              rfl
            refine pure_ (i := 5) (N := some 39) (v := ?_) (a' := ?_) #[true, true, true, true, true, true, false, false, false, false, false, false, false] rfl rfl (any_of HT_.out (by kernel_rfl)) (fun _ _ _ h => h) (Or.inl ⟨by rfl, ?_⟩) ?_ ?_
            rotate_left
            · intro w'
              go_simp
              with_reducible rfl
            rotate_left
            · simp only [Act.put, List.setIfInBounds_toArray, List.set_cons_zero, List.set_cons_succ, i64_w, i32_w]
              rfl
            refine pure_ (i := 6) (N := some 40) (v := ?_) (a' := ?_) #[true, true, true, true, true, true, true, false, false, false, false, false, false] rfl rfl (any_of HT_.out (by kernel_rfl)) (fun _ _ _ h => h) (Or.inl ⟨by rfl, ?_⟩) ?_ ?_
            rotate_left
            · intro w'
              go_simp
              with_reducible rfl
            rotate_left
            · simp only [Act.put, List.setIfInBounds_toArray, List.set_cons_zero, List.set_cons_succ, i64_w, i32_w]
              rfl
            refine pure_ (i := 9) (N := some 43) (v := ?_) (a' := ?_) #[true, true, true, true, true, true, true, false, false, true, false, false, false] rfl rfl (any_of HT_.out (by kernel_rfl)) (fun _ _ _ h => h) (Or.inl ⟨by rfl, ?_⟩) ?_ ?_
            rotate_left
            · intro w'
              go_simp
              with_reducible rfl
            rotate_left
            · simp only [Act.put, List.setIfInBounds_toArray, List.set_cons_zero, List.set_cons_succ, i64_w, i32_w]
              rfl
            refine one_ (i := 7) (N := some 41) #[true, true, true, true, true, true, true, true, false, true, false, false, false] rfl rfl (one_of HT_.out (by kernel_rfl)) (by decide) (fun K hK => ?_)
            refine Kd.R_lit_step (Kd.int .i64) _ 3 ?hg (N := 41) ?hd (xs := ([t104, t105, t106, t108, t109, t110] : List Int)) (inner := [.int .i64 t104, .int .i64 t105, .int .i64 t106, .int .i64 t108, .int .i64 t109, .int .i64 t110]) (ok := fun _ => True) (okp := fun _ => True) ?hr ?hp (fun _ hk => hk) trivial (Below.refl _ _) (Nat.le_refl _) (by simp) ?_; (case hd => rfl); (case hg => rfl); (case hr => first | (go_simp; done) | (go_simp; rfl)); (case hp => exact (Reps.one (show Kd.M (Kd.int .i64) _ _ _ t104 [.int .i64 t104] from rfl) (Reps.one (show Kd.M (Kd.int .i64) _ _ _ t105 [.int .i64 t105] from rfl) (Reps.one (show Kd.M (Kd.int .i64) _ _ _ t106 [.int .i64 t106] from rfl) (Reps.one (show Kd.M (Kd.int .i64) _ _ _ t108 [.int .i64 t108] from rfl) (Reps.one (show Kd.M (Kd.int .i64) _ _ _ t109 [.int .i64 t109] from rfl) (Reps.one (show Kd.M (Kd.int .i64) _ _ _ t110 [.int .i64 t110] from rfl) (Reps.none _ _))))))))
            intro v113 w13 ho14 hb hg_ hnew_
            clear hg_ hnew_
            (first | rw [← Ny112.out] at ho14 | (simp only [Int.reduceToNat] at ho14; rw [← Ny112.out] at ho14))
            have n0_ := Aside0.mk (Kd.R_lower ho14 (below_size (by repeat (first | (with_reducible first | exact HB.out | apply below_alloc | apply pw_below_drewN | apply below_drew1) | exact HB.out))))
            have n1_ := Aside0.mk (below_step (by repeat (first | (with_reducible first | exact HB.out | apply below_alloc | apply pw_below_drewN | apply below_drew1) | exact HB.out)) hb)
            clear HB
            have HO114 := n0_
            have HB := n1_
            clear n0_ n1_
            clear hb ho14
            obtain ⟨Ao15, co15, eo15⟩ := Kd.R_slice HO114.out
            (first | subst eo15 | (injection eo15 with f1_ f2_ f3_; have f4_ := f1_.symm; have f5_ := f3_.symm; clear f1_ f2_ f3_; subst f4_; subst f5_))
            refine hK.out _ _ trivial (fun hHeld => ?_)
            clear hK K
            refine norm_ (a' := ?_) ?_ ?_
            rotate_left
            · show Act.put _ (some 41) _ = _
              simp only [Act.put, List.setIfInBounds_toArray, List.set_cons_zero, List.set_cons_succ, i64_w, i32_w]
              rfl
            refine one_ (i := 8) (N := some 42) #[true, true, true, true, true, true, true, true, true, true, false, false, false] rfl rfl (one_of HT_.out (by kernel_rfl)) (by decide) (fun K hK => ?_)
            refine goes_ Try.func20 (by kernel_rfl) rfl #[.string ((⟨#[48, 48, 48, 48, 45, 48, 48, 45, 48, 48, 84, 48, 48, 58, 48, 48, 58, 48, 48, 90]⟩ : ByteArray).extract 0 19), .slice Ao15 y112.length co15] (by rfl) rfl rfl (by (try simp only [List.map_toArray, List.map_cons, List.map_nil]); first | done | rfl | (simp only [List.length_drop, List.length_take]; rfl)) ?_
            with_reducible refine (stamp_fill.calls (w0 := w) (ok := fun _ => True) ((⟨#[48, 48, 48, 48, 45, 48, 48, 45, 48, 48, 84, 48, 48, 58, 48, 48, 58, 48, 48, 90]⟩ : ByteArray).extract 0 19) _ _ y112 t115 _ ?side1 ?side2 A9.out).mono ?_
            (case side1 => exact (by (with_reducible repeat (first | apply Kd.R_alloc | apply Kd.R_drewN | apply Kd.R_drew)); exact HO114.out))
            (case side2 => repeat (first | (with_reducible first | exact HB.out | apply below_alloc | apply pw_below_drewN | apply below_drew1) | exact HB.out))
            rintro e w16 ⟨rfl, hb⟩
            refine ⟨_, rfl, ?_⟩
            have n1_ := Aside0.mk hb
            clear HO114
            clear HB
            have HB := n1_
            clear n1_
            (try clear hb)
            (try clear hb2)
            (try clear hk)
            (try clear hi)
            refine hK.out _ _ trivial (fun hHeld => ?_)
            clear hK K
            refine norm_ (a' := ?_) ?_ ?_
            rotate_left
            · show Act.put _ (some 42) _ = _
              simp only [Act.put, List.setIfInBounds_toArray, List.set_cons_zero, List.set_cons_succ, i64_w, i32_w]
              rfl
            refine pure_ (i := 10) (N := some 44) (v := ?_) (a' := ?_) #[true, true, true, true, true, true, true, true, true, true, true, false, false] rfl rfl (any_of HT_.out (by kernel_rfl)) (fun _ _ _ h => h) (Or.inl ⟨by rfl, ?_⟩) ?_ ?_
            rotate_left
            · intro w'
              go_simp
              with_reducible rfl
            rotate_left
            · simp only [Act.put, List.setIfInBounds_toArray, List.set_cons_zero, List.set_cons_succ, i64_w, i32_w]
              rfl
            refine pure_ (i := 11) (N := some 4) (v := ?_) (a' := ?_) #[true, true, true, true, true, true, true, true, true, true, true, true, false] rfl rfl (any_of HT_.out (by kernel_rfl)) (fun _ _ _ h => h) (Or.inl ⟨by rfl, ?_⟩) ?_ ?_
            rotate_left
            · intro w'
              go_simp
              with_reducible rfl
            rotate_left
            · simp only [Act.put, List.setIfInBounds_toArray, List.set_cons_zero, List.set_cons_succ, i64_w, i32_w]
              rfl
            refine pure_ (i := 12) (N := some 5) (v := ?_) (a' := ?_) #[true, true, true, true, true, true, true, true, true, true, true, true, true] rfl rfl (any_of HT_.out (by kernel_rfl)) (fun _ _ _ h => h) (Or.inl ⟨by rfl, ?_⟩) ?_ ?_
            rotate_left
            · intro w'
              go_simp
              with_reducible rfl
            rotate_left
            · simp only [Act.put, List.setIfInBounds_toArray, List.set_cons_zero, List.set_cons_succ, i64_w, i32_w]
              rfl
            refine done_ (done_of HT_.out (by kernel_rfl)) ?_
            try go_wp2
            go_ret2
            exact ⟨by first | rfl | (simp [errW_none, errW_some] <;> rfl) | (simp [*, errW_none, errW_some] <;> rfl), by repeat (first | (with_reducible first | exact HB.out | apply below_alloc | apply pw_below_drewN | apply below_drew1) | exact HB.out)⟩
          · rw [if_neg c11] at H
            exact absurd H (by simp)
        · rw [if_neg c8] at H
          exact absurd H (by simp)
      · rw [if_neg c7] at H
        exact absurd H (by simp)
    · replace c6 := Bool.eq_false_iff.mpr c6
      subst c6
      have H1 : (some ((⟨#[]⟩ : ByteArray), false)) = some (r1, r2) := by rw [if_neg (show ¬ (false = true) by decide)] at H; exact H
      clear H
      have H := H1
      clear H1
      simp only [Option.some.injEq, Prod.mk.injEq] at H
      obtain ⟨rfl, rfl⟩ := H
      go_enter Try.func13, Try.ntmps13
      go_wp2_with (first | ((with_reducible refine gate_callee (f := 19) rfl ?_); refine goesL_ (some 16) rfl rfl Try.func19 (by kernel_rfl) rfl #[.int .i64 a0] rfl (by (try simp only [List.map_toArray, List.map_cons, List.map_nil]); first | done | rfl | (simp only [List.length_drop, List.length_take]; rfl)) ?_; (with_reducible refine (day_Date.calls k a0 t104 t105 t106 true _ A3.out).mono ?_); rintro e w' ⟨rfl, ⟨nd, rfl⟩⟩; refine ⟨_, rfl, ?_⟩) | ((with_reducible refine gate_callee (f := 9) rfl ?_); refine goesL_ (some 23) rfl rfl Try.func9 (by kernel_rfl) rfl #[.int .i64 a1] rfl (by (try simp only [List.map_toArray, List.map_cons, List.map_nil]); first | done | rfl | (simp only [List.length_drop, List.length_take]; rfl)) ?_; (with_reducible refine (stamp_Clock.calls k a1 t108 t109 t110 false _ A4.out).mono ?_); rintro e w' ⟨rfl, ⟨nd, rfl⟩⟩; refine ⟨_, rfl, ?_⟩))
      go_ret2
      exact ⟨by first | rfl | (simp [errW_none, errW_some] <;> rfl) | (simp [*, errW_none, errW_some] <;> rfl), by repeat (first | (with_reducible first | exact HB.out | apply below_alloc | apply pw_below_drewN | apply below_drew1) | exact HB.out)⟩
  · replace c5 := Bool.eq_false_iff.mpr c5
    subst c5
    have H1 : (some ((⟨#[]⟩ : ByteArray), false)) = some (r1, r2) := by rw [if_neg (show ¬ (false = true) by decide)] at H; exact H
    clear H
    have H := H1
    clear H1
    simp only [Option.some.injEq, Prod.mk.injEq] at H
    obtain ⟨rfl, rfl⟩ := H
    go_enter Try.func13, Try.ntmps13
    go_wp2_with (first | ((with_reducible refine gate_callee (f := 19) rfl ?_); refine goesL_ (some 16) rfl rfl Try.func19 (by kernel_rfl) rfl #[.int .i64 a0] rfl (by (try simp only [List.map_toArray, List.map_cons, List.map_nil]); first | done | rfl | (simp only [List.length_drop, List.length_take]; rfl)) ?_; (with_reducible refine (day_Date.calls k a0 t104 t105 t106 false _ A3.out).mono ?_); rintro e w' ⟨rfl, ⟨nd, rfl⟩⟩; refine ⟨_, rfl, ?_⟩) | ((with_reducible refine gate_callee (f := 9) rfl ?_); refine goesL_ (some 23) rfl rfl Try.func9 (by kernel_rfl) rfl #[.int .i64 a1] rfl (by (try simp only [List.map_toArray, List.map_cons, List.map_nil]); first | done | rfl | (simp only [List.length_drop, List.length_take]; rfl)) ?_; (with_reducible refine (stamp_Clock.calls k a1 t108 t109 t110 t111 _ A4.out).mono ?_); rintro e w' ⟨rfl, ⟨nd, rfl⟩⟩; refine ⟨_, rfl, ?_⟩))
    go_ret2
    exact ⟨by first | rfl | (simp [errW_none, errW_some] <;> rfl) | (simp [*, errW_none, errW_some] <;> rfl), by repeat (first | (with_reducible first | exact HB.out | apply below_alloc | apply pw_below_drewN | apply below_drew1) | exact HB.out)⟩

end Go.Proofs.Ytpgkdagjlbcgkaa.PAll
