-- Written for this claim by wip/tools of this repo (after the kit's print; own contracts laid in).
import Derived.Test.YtfmibhepehhljaaPAllx0
namespace Go.Proofs.Ytfmibhepehhljaa.PAll
open Go.RowKit Go.Proofs.YtfmibhepehhljaaW.PrintWords Go.Proofs.YtfmibhepehhljaaW.PrintLast Go.Proofs.YtfmibhepehhljaaW.PrintMore
attribute [local go_sem] max2_int min2_int max_two min_two max_three min_three max_four min_four   -- for this text's walks alone
set_option linter.unusedVariables false
set_option linter.unusedSimpArgs false

/-! ### num_Div: function 40 -/
def num_Div.f (a0 : Int) (a1 : Int) : Option (Int × Int × Bool) := if a1 < 1 then (some (0, 0, false)) else (if a1 = 0 then (none) else (if (Int.tmod a0 a1) < 0 then (some (wrap64 ((wrap64 (Int.tdiv a0 a1)) - 1), wrap64 ((Int.tmod a0 a1) + a1), true)) else (some (wrap64 (Int.tdiv a0 a1), Int.tmod a0 a1, true))))
set_option maxHeartbeats 8000000 in
set_option maxRecDepth 100000 in
theorem num_Div.calls (a0 : Int) (a1 : Int) (r1 : Int) (r2 : Int) (r3 : Bool) (w : World) (h : num_Div.f a0 a1 = some (r1, r2, r3)) :
    Calls Try.prog 40 #[.int .i64 a0, .int .i64 a1] w fun e w' => e = .returned (.tuple #[.int .i64 r1, .int .i64 r2, .bool r3]) ∧ Drawn0 w w' := by
  have H : (if a1 < 1 then (some (0, 0, false)) else (if a1 = 0 then (none) else (if (Int.tmod a0 a1) < 0 then (some (wrap64 ((wrap64 (Int.tdiv a0 a1)) - 1), wrap64 ((Int.tmod a0 a1) + a1), true)) else (some (wrap64 (Int.tdiv a0 a1), Int.tmod a0 a1, true))))) = some (r1, r2, r3) := h
  clear h
  by_cases c3 : a1 < 1
  · rw [if_pos c3] at H
    have c3b0 : decide (a1 < 1) = true := decide_eq_true c3
    clear c3
    simp only [Option.some.injEq, Prod.mk.injEq] at H
    obtain ⟨rfl, rfl, rfl⟩ := H
    go_enter Try.func40, Try.ntmps40
    go_wp2
    repeat (go_quiet (fail); try go_wp2)
    go_ret3
    exact ⟨by first | rfl | (simp; done) | (simp [*]; done), by repeat (first | exact Drawn0.refl _ | apply Drawn0.step)⟩
  · rw [if_neg c3] at H
    have c3b0 : decide (a1 < 1) = false := decide_eq_false c3
    clear c3
    by_cases c4 : a1 = 0
    · rw [if_pos c4] at H
      exact absurd H (by simp)
    · rw [if_neg c4] at H
      have c4b0 : (a1 == 0) = false := beq_eq_false_iff_ne.mpr c4
      have c4b1 : (a1 != 0) = true := bne_iff_ne.mpr c4
      by_cases c5 : (Int.tmod a0 a1) < 0
      · rw [if_pos c5] at H
        have c5b0 : decide ((Int.tmod a0 a1) < 0) = true := decide_eq_true c5
        clear c5
        simp only [Option.some.injEq, Prod.mk.injEq] at H
        obtain ⟨rfl, rfl, rfl⟩ := H
        go_enter Try.func40, Try.ntmps40
        go_wp2
        repeat (go_quiet (fail); try go_wp2)
        go_ret3
        exact ⟨by first | rfl | (simp; done) | (simp [*]; done), by repeat (first | exact Drawn0.refl _ | apply Drawn0.step)⟩
      · rw [if_neg c5] at H
        have c5b0 : decide ((Int.tmod a0 a1) < 0) = false := decide_eq_false c5
        clear c5
        simp only [Option.some.injEq, Prod.mk.injEq] at H
        obtain ⟨rfl, rfl, rfl⟩ := H
        go_enter Try.func40, Try.ntmps40
        go_wp2
        repeat (go_quiet (fail); try go_wp2)
        go_ret3
        exact ⟨by first | rfl | (simp; done) | (simp [*]; done), by repeat (first | exact Drawn0.refl _ | apply Drawn0.step)⟩

/-! ### day_Date: function 36 -/
def day_Date.j0 : Nat → Int → Bool → Option (Int × Int × Int × Bool)
  | 0, _, _ => none
  | k + 1, x0, x15 => if x15 = true then (some (0, 0, 0, false)) else ((num_Div.f (wrap64 (x0 + 719468)) 146097).bind fun bt101 => (if (wrap64 ((wrap64 (Int.tdiv (wrap64 ((wrap64 (5 * (wrap64 (bt101.2.1 - (wrap64 ((wrap64 ((wrap64 (365 * (wrap64 (Int.tdiv (wrap64 ((wrap64 ((wrap64 (bt101.2.1 - (wrap64 (Int.tdiv bt101.2.1 1460)))) + (wrap64 (Int.tdiv bt101.2.1 36524)))) - (wrap64 (Int.tdiv bt101.2.1 146096)))) 365)))) + (wrap64 (Int.tdiv (wrap64 (Int.tdiv (wrap64 ((wrap64 ((wrap64 (bt101.2.1 - (wrap64 (Int.tdiv bt101.2.1 1460)))) + (wrap64 (Int.tdiv bt101.2.1 36524)))) - (wrap64 (Int.tdiv bt101.2.1 146096)))) 365)) 4)))) - (wrap64 (Int.tdiv (wrap64 (Int.tdiv (wrap64 ((wrap64 ((wrap64 (bt101.2.1 - (wrap64 (Int.tdiv bt101.2.1 1460)))) + (wrap64 (Int.tdiv bt101.2.1 36524)))) - (wrap64 (Int.tdiv bt101.2.1 146096)))) 365)) 100)))))))) + 2)) 153)) + 3)) > 12 then (some (wrap64 ((wrap64 (400 * bt101.1)) + (wrap64 ((wrap64 (Int.tdiv (wrap64 ((wrap64 ((wrap64 (bt101.2.1 - (wrap64 (Int.tdiv bt101.2.1 1460)))) + (wrap64 (Int.tdiv bt101.2.1 36524)))) - (wrap64 (Int.tdiv bt101.2.1 146096)))) 365)) + 1))), wrap64 ((wrap64 ((wrap64 (Int.tdiv (wrap64 ((wrap64 (5 * (wrap64 (bt101.2.1 - (wrap64 ((wrap64 ((wrap64 (365 * (wrap64 (Int.tdiv (wrap64 ((wrap64 ((wrap64 (bt101.2.1 - (wrap64 (Int.tdiv bt101.2.1 1460)))) + (wrap64 (Int.tdiv bt101.2.1 36524)))) - (wrap64 (Int.tdiv bt101.2.1 146096)))) 365)))) + (wrap64 (Int.tdiv (wrap64 (Int.tdiv (wrap64 ((wrap64 ((wrap64 (bt101.2.1 - (wrap64 (Int.tdiv bt101.2.1 1460)))) + (wrap64 (Int.tdiv bt101.2.1 36524)))) - (wrap64 (Int.tdiv bt101.2.1 146096)))) 365)) 4)))) - (wrap64 (Int.tdiv (wrap64 (Int.tdiv (wrap64 ((wrap64 ((wrap64 (bt101.2.1 - (wrap64 (Int.tdiv bt101.2.1 1460)))) + (wrap64 (Int.tdiv bt101.2.1 36524)))) - (wrap64 (Int.tdiv bt101.2.1 146096)))) 365)) 100)))))))) + 2)) 153)) + 3)) - 12), wrap64 ((wrap64 ((wrap64 (bt101.2.1 - (wrap64 ((wrap64 ((wrap64 (365 * (wrap64 (Int.tdiv (wrap64 ((wrap64 ((wrap64 (bt101.2.1 - (wrap64 (Int.tdiv bt101.2.1 1460)))) + (wrap64 (Int.tdiv bt101.2.1 36524)))) - (wrap64 (Int.tdiv bt101.2.1 146096)))) 365)))) + (wrap64 (Int.tdiv (wrap64 (Int.tdiv (wrap64 ((wrap64 ((wrap64 (bt101.2.1 - (wrap64 (Int.tdiv bt101.2.1 1460)))) + (wrap64 (Int.tdiv bt101.2.1 36524)))) - (wrap64 (Int.tdiv bt101.2.1 146096)))) 365)) 4)))) - (wrap64 (Int.tdiv (wrap64 (Int.tdiv (wrap64 ((wrap64 ((wrap64 (bt101.2.1 - (wrap64 (Int.tdiv bt101.2.1 1460)))) + (wrap64 (Int.tdiv bt101.2.1 36524)))) - (wrap64 (Int.tdiv bt101.2.1 146096)))) 365)) 100)))))) - (wrap64 (Int.tdiv (wrap64 ((wrap64 (153 * (wrap64 (Int.tdiv (wrap64 ((wrap64 (5 * (wrap64 (bt101.2.1 - (wrap64 ((wrap64 ((wrap64 (365 * (wrap64 (Int.tdiv (wrap64 ((wrap64 ((wrap64 (bt101.2.1 - (wrap64 (Int.tdiv bt101.2.1 1460)))) + (wrap64 (Int.tdiv bt101.2.1 36524)))) - (wrap64 (Int.tdiv bt101.2.1 146096)))) 365)))) + (wrap64 (Int.tdiv (wrap64 (Int.tdiv (wrap64 ((wrap64 ((wrap64 (bt101.2.1 - (wrap64 (Int.tdiv bt101.2.1 1460)))) + (wrap64 (Int.tdiv bt101.2.1 36524)))) - (wrap64 (Int.tdiv bt101.2.1 146096)))) 365)) 4)))) - (wrap64 (Int.tdiv (wrap64 (Int.tdiv (wrap64 ((wrap64 ((wrap64 (bt101.2.1 - (wrap64 (Int.tdiv bt101.2.1 1460)))) + (wrap64 (Int.tdiv bt101.2.1 36524)))) - (wrap64 (Int.tdiv bt101.2.1 146096)))) 365)) 100)))))))) + 2)) 153)))) + 2)) 5)))) + 1), true)) else (some (wrap64 ((wrap64 (400 * bt101.1)) + (wrap64 (Int.tdiv (wrap64 ((wrap64 ((wrap64 (bt101.2.1 - (wrap64 (Int.tdiv bt101.2.1 1460)))) + (wrap64 (Int.tdiv bt101.2.1 36524)))) - (wrap64 (Int.tdiv bt101.2.1 146096)))) 365))), wrap64 ((wrap64 (Int.tdiv (wrap64 ((wrap64 (5 * (wrap64 (bt101.2.1 - (wrap64 ((wrap64 ((wrap64 (365 * (wrap64 (Int.tdiv (wrap64 ((wrap64 ((wrap64 (bt101.2.1 - (wrap64 (Int.tdiv bt101.2.1 1460)))) + (wrap64 (Int.tdiv bt101.2.1 36524)))) - (wrap64 (Int.tdiv bt101.2.1 146096)))) 365)))) + (wrap64 (Int.tdiv (wrap64 (Int.tdiv (wrap64 ((wrap64 ((wrap64 (bt101.2.1 - (wrap64 (Int.tdiv bt101.2.1 1460)))) + (wrap64 (Int.tdiv bt101.2.1 36524)))) - (wrap64 (Int.tdiv bt101.2.1 146096)))) 365)) 4)))) - (wrap64 (Int.tdiv (wrap64 (Int.tdiv (wrap64 ((wrap64 ((wrap64 (bt101.2.1 - (wrap64 (Int.tdiv bt101.2.1 1460)))) + (wrap64 (Int.tdiv bt101.2.1 36524)))) - (wrap64 (Int.tdiv bt101.2.1 146096)))) 365)) 100)))))))) + 2)) 153)) + 3), wrap64 ((wrap64 ((wrap64 (bt101.2.1 - (wrap64 ((wrap64 ((wrap64 (365 * (wrap64 (Int.tdiv (wrap64 ((wrap64 ((wrap64 (bt101.2.1 - (wrap64 (Int.tdiv bt101.2.1 1460)))) + (wrap64 (Int.tdiv bt101.2.1 36524)))) - (wrap64 (Int.tdiv bt101.2.1 146096)))) 365)))) + (wrap64 (Int.tdiv (wrap64 (Int.tdiv (wrap64 ((wrap64 ((wrap64 (bt101.2.1 - (wrap64 (Int.tdiv bt101.2.1 1460)))) + (wrap64 (Int.tdiv bt101.2.1 36524)))) - (wrap64 (Int.tdiv bt101.2.1 146096)))) 365)) 4)))) - (wrap64 (Int.tdiv (wrap64 (Int.tdiv (wrap64 ((wrap64 ((wrap64 (bt101.2.1 - (wrap64 (Int.tdiv bt101.2.1 1460)))) + (wrap64 (Int.tdiv bt101.2.1 36524)))) - (wrap64 (Int.tdiv bt101.2.1 146096)))) 365)) 100)))))) - (wrap64 (Int.tdiv (wrap64 ((wrap64 (153 * (wrap64 (Int.tdiv (wrap64 ((wrap64 (5 * (wrap64 (bt101.2.1 - (wrap64 ((wrap64 ((wrap64 (365 * (wrap64 (Int.tdiv (wrap64 ((wrap64 ((wrap64 (bt101.2.1 - (wrap64 (Int.tdiv bt101.2.1 1460)))) + (wrap64 (Int.tdiv bt101.2.1 36524)))) - (wrap64 (Int.tdiv bt101.2.1 146096)))) 365)))) + (wrap64 (Int.tdiv (wrap64 (Int.tdiv (wrap64 ((wrap64 ((wrap64 (bt101.2.1 - (wrap64 (Int.tdiv bt101.2.1 1460)))) + (wrap64 (Int.tdiv bt101.2.1 36524)))) - (wrap64 (Int.tdiv bt101.2.1 146096)))) 365)) 4)))) - (wrap64 (Int.tdiv (wrap64 (Int.tdiv (wrap64 ((wrap64 ((wrap64 (bt101.2.1 - (wrap64 (Int.tdiv bt101.2.1 1460)))) + (wrap64 (Int.tdiv bt101.2.1 36524)))) - (wrap64 (Int.tdiv bt101.2.1 146096)))) 365)) 100)))))))) + 2)) 153)))) + 2)) 5)))) + 1), true))))
def day_Date.f (k : Nat) (a0 : Int) : Option (Int × Int × Int × Bool) := if a0 < (-719162) then (day_Date.j0 k a0 true) else (day_Date.j0 k a0 (decide (a0 > 2932896)))
theorem day_Date.mono_l : ∀ k, (∀ y0 y1, LeO (day_Date.j0 k y0 y1) (day_Date.j0 (k + 1) y0 y1))
  | 0 => fun _ _ r h => by simp [day_Date.j0] at h
  | k + 1 => by
    have ih0 := day_Date.mono_l k
    · intro y0 y1
      unfold day_Date.j0
      repeat' first
      | (with_reducible exact ih0 _ _)
      | (with_reducible exact LeO.refl _)
      | (with_reducible exact LeO.none _)
      | (with_reducible refine LeO.ite ?_ ?_)
      | (with_reducible refine LeO.bind ?_ (fun _ => ?_))
      | exact ih0 _ _
      | exact LeO.none _
      | refine LeO.ite ?_ ?_
      | refine LeO.bind ?_ (fun _ => ?_)
theorem day_Date.mono : ∀ a0 k, LeO (day_Date.f k a0) (day_Date.f (k + 1) a0) := by
  intro a0 k
  have ih0 := day_Date.mono_l k
  unfold day_Date.f
  repeat' first
      | (with_reducible exact ih0 _ _)
      | (with_reducible exact LeO.refl _)
      | (with_reducible exact LeO.none _)
      | (with_reducible refine LeO.ite ?_ ?_)
      | (with_reducible refine LeO.bind ?_ (fun _ => ?_))
      | exact ih0 _ _
      | exact LeO.none _
      | refine LeO.ite ?_ ?_
      | refine LeO.bind ?_ (fun _ => ?_)
set_option maxHeartbeats 8000000 in
set_option maxRecDepth 100000 in
theorem day_Date.calls (k : Nat) (a0 : Int) (r1 : Int) (r2 : Int) (r3 : Int) (r4 : Bool) (w : World) (h : day_Date.f k a0 = some (r1, r2, r3, r4)) :
    Calls Try.prog 36 #[.int .i64 a0] w fun e w' => e = .returned (.tuple #[.int .i64 r1, .int .i64 r2, .int .i64 r3, .bool r4]) ∧ Drawn0 w w' := by
  have H : (if a0 < (-719162) then (day_Date.j0 k a0 true) else (day_Date.j0 k a0 (decide (a0 > 2932896)))) = some (r1, r2, r3, r4) := h
  clear h
  have HC2 := Aside0.mk H
  clear H
  go_enter Try.func36, Try.ntmps36
  go_upto_region 1 with (fail)
  go_cut [15] (fun v15 wc => ∃ (kq : Nat) (x15_1 : Bool), v15 = .bool x15_1 ∧ Aside0 (day_Date.j0 kq a0 x15_1 = some (r1, r2, r3, r4)) ∧ Aside0 (kq ≤ k) ∧ Drawn0 w wc)
  case first =>
    have H := HC2.out
    clear HC2
    by_cases c3 : a0 < (-719162)
    · rw [if_pos c3] at H
      have c3b0 : decide (a0 < (-719162)) = true := decide_eq_true c3
      clear c3
      (first | rw [c3b0] | (simp only [i64_w, i32_w]; rw [c3b0]) | skip)
      have H' := Aside0.mk H
      clear H
      go_wp2
      go_meet
      case rel => exact ⟨_, (true), (by first | rfl | (simp; done) | (simp [*]; done)), H', ⟨by first | omega | exact Nat.le_refl _⟩, by repeat (first | exact Drawn0.refl _ | apply Drawn0.step)⟩
    · rw [if_neg c3] at H
      have c3b0 : decide (a0 < (-719162)) = false := decide_eq_false c3
      clear c3
      (first | rw [c3b0] | (simp only [i64_w, i32_w]; rw [c3b0]) | skip)
      have H' := Aside0.mk H
      clear H
      go_wp2
      go_meet
      case rel => exact ⟨_, (decide (a0 > 2932896)), (by first | rfl | (simp; done) | (simp [*]; done)), H', ⟨by first | omega | exact Nat.le_refl _⟩, by repeat (first | exact Drawn0.refl _ | apply Drawn0.step)⟩
  case rest =>
    clear HC2
    try clear p2
    try clear c3
    try clear c3b0
    obtain ⟨kq, x15_1, rfl, HA, HJ1, ⟨mc1, rfl⟩⟩ := hcut
    cases kq with
    | zero => exact absurd HA.out (by simp [day_Date.j0])
    | succ kj1 =>
      have H := HA.out
      clear HA
      simp only [day_Date.j0] at H
      by_cases c4 : x15_1 = true
      · subst c4
        have H1 : (some (0, 0, 0, false)) = some (r1, r2, r3, r4) := by rw [if_pos rfl] at H; exact H
        clear H
        have H := H1
        clear H1
        simp only [Option.some.injEq, Prod.mk.injEq] at H
        obtain ⟨rfl, rfl, rfl, rfl⟩ := H
        go_wp2
        refine bodyPost_ret (results_list (rs := [.tmp 2, .tmp 3, .tmp 4, .tmp 5]) rfl (by simp) (.tmp (.tmp (.tmp (.tmp .nil))))) rfl ?_
        exact ⟨by first | rfl | (simp; done) | (simp [*]; done), by repeat (first | exact Drawn0.refl _ | apply Drawn0.step)⟩
      · replace c4 := Bool.eq_false_iff.mpr c4
        subst c4
        have H1 : ((num_Div.f (wrap64 (a0 + 719468)) 146097).bind fun bt101 => (if (wrap64 ((wrap64 (Int.tdiv (wrap64 ((wrap64 (5 * (wrap64 (bt101.2.1 - (wrap64 ((wrap64 ((wrap64 (365 * (wrap64 (Int.tdiv (wrap64 ((wrap64 ((wrap64 (bt101.2.1 - (wrap64 (Int.tdiv bt101.2.1 1460)))) + (wrap64 (Int.tdiv bt101.2.1 36524)))) - (wrap64 (Int.tdiv bt101.2.1 146096)))) 365)))) + (wrap64 (Int.tdiv (wrap64 (Int.tdiv (wrap64 ((wrap64 ((wrap64 (bt101.2.1 - (wrap64 (Int.tdiv bt101.2.1 1460)))) + (wrap64 (Int.tdiv bt101.2.1 36524)))) - (wrap64 (Int.tdiv bt101.2.1 146096)))) 365)) 4)))) - (wrap64 (Int.tdiv (wrap64 (Int.tdiv (wrap64 ((wrap64 ((wrap64 (bt101.2.1 - (wrap64 (Int.tdiv bt101.2.1 1460)))) + (wrap64 (Int.tdiv bt101.2.1 36524)))) - (wrap64 (Int.tdiv bt101.2.1 146096)))) 365)) 100)))))))) + 2)) 153)) + 3)) > 12 then (some (wrap64 ((wrap64 (400 * bt101.1)) + (wrap64 ((wrap64 (Int.tdiv (wrap64 ((wrap64 ((wrap64 (bt101.2.1 - (wrap64 (Int.tdiv bt101.2.1 1460)))) + (wrap64 (Int.tdiv bt101.2.1 36524)))) - (wrap64 (Int.tdiv bt101.2.1 146096)))) 365)) + 1))), wrap64 ((wrap64 ((wrap64 (Int.tdiv (wrap64 ((wrap64 (5 * (wrap64 (bt101.2.1 - (wrap64 ((wrap64 ((wrap64 (365 * (wrap64 (Int.tdiv (wrap64 ((wrap64 ((wrap64 (bt101.2.1 - (wrap64 (Int.tdiv bt101.2.1 1460)))) + (wrap64 (Int.tdiv bt101.2.1 36524)))) - (wrap64 (Int.tdiv bt101.2.1 146096)))) 365)))) + (wrap64 (Int.tdiv (wrap64 (Int.tdiv (wrap64 ((wrap64 ((wrap64 (bt101.2.1 - (wrap64 (Int.tdiv bt101.2.1 1460)))) + (wrap64 (Int.tdiv bt101.2.1 36524)))) - (wrap64 (Int.tdiv bt101.2.1 146096)))) 365)) 4)))) - (wrap64 (Int.tdiv (wrap64 (Int.tdiv (wrap64 ((wrap64 ((wrap64 (bt101.2.1 - (wrap64 (Int.tdiv bt101.2.1 1460)))) + (wrap64 (Int.tdiv bt101.2.1 36524)))) - (wrap64 (Int.tdiv bt101.2.1 146096)))) 365)) 100)))))))) + 2)) 153)) + 3)) - 12), wrap64 ((wrap64 ((wrap64 (bt101.2.1 - (wrap64 ((wrap64 ((wrap64 (365 * (wrap64 (Int.tdiv (wrap64 ((wrap64 ((wrap64 (bt101.2.1 - (wrap64 (Int.tdiv bt101.2.1 1460)))) + (wrap64 (Int.tdiv bt101.2.1 36524)))) - (wrap64 (Int.tdiv bt101.2.1 146096)))) 365)))) + (wrap64 (Int.tdiv (wrap64 (Int.tdiv (wrap64 ((wrap64 ((wrap64 (bt101.2.1 - (wrap64 (Int.tdiv bt101.2.1 1460)))) + (wrap64 (Int.tdiv bt101.2.1 36524)))) - (wrap64 (Int.tdiv bt101.2.1 146096)))) 365)) 4)))) - (wrap64 (Int.tdiv (wrap64 (Int.tdiv (wrap64 ((wrap64 ((wrap64 (bt101.2.1 - (wrap64 (Int.tdiv bt101.2.1 1460)))) + (wrap64 (Int.tdiv bt101.2.1 36524)))) - (wrap64 (Int.tdiv bt101.2.1 146096)))) 365)) 100)))))) - (wrap64 (Int.tdiv (wrap64 ((wrap64 (153 * (wrap64 (Int.tdiv (wrap64 ((wrap64 (5 * (wrap64 (bt101.2.1 - (wrap64 ((wrap64 ((wrap64 (365 * (wrap64 (Int.tdiv (wrap64 ((wrap64 ((wrap64 (bt101.2.1 - (wrap64 (Int.tdiv bt101.2.1 1460)))) + (wrap64 (Int.tdiv bt101.2.1 36524)))) - (wrap64 (Int.tdiv bt101.2.1 146096)))) 365)))) + (wrap64 (Int.tdiv (wrap64 (Int.tdiv (wrap64 ((wrap64 ((wrap64 (bt101.2.1 - (wrap64 (Int.tdiv bt101.2.1 1460)))) + (wrap64 (Int.tdiv bt101.2.1 36524)))) - (wrap64 (Int.tdiv bt101.2.1 146096)))) 365)) 4)))) - (wrap64 (Int.tdiv (wrap64 (Int.tdiv (wrap64 ((wrap64 ((wrap64 (bt101.2.1 - (wrap64 (Int.tdiv bt101.2.1 1460)))) + (wrap64 (Int.tdiv bt101.2.1 36524)))) - (wrap64 (Int.tdiv bt101.2.1 146096)))) 365)) 100)))))))) + 2)) 153)))) + 2)) 5)))) + 1), true)) else (some (wrap64 ((wrap64 (400 * bt101.1)) + (wrap64 (Int.tdiv (wrap64 ((wrap64 ((wrap64 (bt101.2.1 - (wrap64 (Int.tdiv bt101.2.1 1460)))) + (wrap64 (Int.tdiv bt101.2.1 36524)))) - (wrap64 (Int.tdiv bt101.2.1 146096)))) 365))), wrap64 ((wrap64 (Int.tdiv (wrap64 ((wrap64 (5 * (wrap64 (bt101.2.1 - (wrap64 ((wrap64 ((wrap64 (365 * (wrap64 (Int.tdiv (wrap64 ((wrap64 ((wrap64 (bt101.2.1 - (wrap64 (Int.tdiv bt101.2.1 1460)))) + (wrap64 (Int.tdiv bt101.2.1 36524)))) - (wrap64 (Int.tdiv bt101.2.1 146096)))) 365)))) + (wrap64 (Int.tdiv (wrap64 (Int.tdiv (wrap64 ((wrap64 ((wrap64 (bt101.2.1 - (wrap64 (Int.tdiv bt101.2.1 1460)))) + (wrap64 (Int.tdiv bt101.2.1 36524)))) - (wrap64 (Int.tdiv bt101.2.1 146096)))) 365)) 4)))) - (wrap64 (Int.tdiv (wrap64 (Int.tdiv (wrap64 ((wrap64 ((wrap64 (bt101.2.1 - (wrap64 (Int.tdiv bt101.2.1 1460)))) + (wrap64 (Int.tdiv bt101.2.1 36524)))) - (wrap64 (Int.tdiv bt101.2.1 146096)))) 365)) 100)))))))) + 2)) 153)) + 3), wrap64 ((wrap64 ((wrap64 (bt101.2.1 - (wrap64 ((wrap64 ((wrap64 (365 * (wrap64 (Int.tdiv (wrap64 ((wrap64 ((wrap64 (bt101.2.1 - (wrap64 (Int.tdiv bt101.2.1 1460)))) + (wrap64 (Int.tdiv bt101.2.1 36524)))) - (wrap64 (Int.tdiv bt101.2.1 146096)))) 365)))) + (wrap64 (Int.tdiv (wrap64 (Int.tdiv (wrap64 ((wrap64 ((wrap64 (bt101.2.1 - (wrap64 (Int.tdiv bt101.2.1 1460)))) + (wrap64 (Int.tdiv bt101.2.1 36524)))) - (wrap64 (Int.tdiv bt101.2.1 146096)))) 365)) 4)))) - (wrap64 (Int.tdiv (wrap64 (Int.tdiv (wrap64 ((wrap64 ((wrap64 (bt101.2.1 - (wrap64 (Int.tdiv bt101.2.1 1460)))) + (wrap64 (Int.tdiv bt101.2.1 36524)))) - (wrap64 (Int.tdiv bt101.2.1 146096)))) 365)) 100)))))) - (wrap64 (Int.tdiv (wrap64 ((wrap64 (153 * (wrap64 (Int.tdiv (wrap64 ((wrap64 (5 * (wrap64 (bt101.2.1 - (wrap64 ((wrap64 ((wrap64 (365 * (wrap64 (Int.tdiv (wrap64 ((wrap64 ((wrap64 (bt101.2.1 - (wrap64 (Int.tdiv bt101.2.1 1460)))) + (wrap64 (Int.tdiv bt101.2.1 36524)))) - (wrap64 (Int.tdiv bt101.2.1 146096)))) 365)))) + (wrap64 (Int.tdiv (wrap64 (Int.tdiv (wrap64 ((wrap64 ((wrap64 (bt101.2.1 - (wrap64 (Int.tdiv bt101.2.1 1460)))) + (wrap64 (Int.tdiv bt101.2.1 36524)))) - (wrap64 (Int.tdiv bt101.2.1 146096)))) 365)) 4)))) - (wrap64 (Int.tdiv (wrap64 (Int.tdiv (wrap64 ((wrap64 ((wrap64 (bt101.2.1 - (wrap64 (Int.tdiv bt101.2.1 1460)))) + (wrap64 (Int.tdiv bt101.2.1 36524)))) - (wrap64 (Int.tdiv bt101.2.1 146096)))) 365)) 100)))))))) + 2)) 153)))) + 2)) 5)))) + 1), true)))) = some (r1, r2, r3, r4) := by rw [if_neg (show ¬ (false = true) by decide)] at H; exact H
        clear H
        have H := H1
        clear H1
        replace H := Option.bind_eq_some_iff.mp H
        obtain ⟨⟨t101, t102, t103⟩, A50, H⟩ := H
        replace H : (if (wrap64 ((wrap64 (Int.tdiv (wrap64 ((wrap64 (5 * (wrap64 (t102 - (wrap64 ((wrap64 ((wrap64 (365 * (wrap64 (Int.tdiv (wrap64 ((wrap64 ((wrap64 (t102 - (wrap64 (Int.tdiv t102 1460)))) + (wrap64 (Int.tdiv t102 36524)))) - (wrap64 (Int.tdiv t102 146096)))) 365)))) + (wrap64 (Int.tdiv (wrap64 (Int.tdiv (wrap64 ((wrap64 ((wrap64 (t102 - (wrap64 (Int.tdiv t102 1460)))) + (wrap64 (Int.tdiv t102 36524)))) - (wrap64 (Int.tdiv t102 146096)))) 365)) 4)))) - (wrap64 (Int.tdiv (wrap64 (Int.tdiv (wrap64 ((wrap64 ((wrap64 (t102 - (wrap64 (Int.tdiv t102 1460)))) + (wrap64 (Int.tdiv t102 36524)))) - (wrap64 (Int.tdiv t102 146096)))) 365)) 100)))))))) + 2)) 153)) + 3)) > 12 then (some (wrap64 ((wrap64 (400 * t101)) + (wrap64 ((wrap64 (Int.tdiv (wrap64 ((wrap64 ((wrap64 (t102 - (wrap64 (Int.tdiv t102 1460)))) + (wrap64 (Int.tdiv t102 36524)))) - (wrap64 (Int.tdiv t102 146096)))) 365)) + 1))), wrap64 ((wrap64 ((wrap64 (Int.tdiv (wrap64 ((wrap64 (5 * (wrap64 (t102 - (wrap64 ((wrap64 ((wrap64 (365 * (wrap64 (Int.tdiv (wrap64 ((wrap64 ((wrap64 (t102 - (wrap64 (Int.tdiv t102 1460)))) + (wrap64 (Int.tdiv t102 36524)))) - (wrap64 (Int.tdiv t102 146096)))) 365)))) + (wrap64 (Int.tdiv (wrap64 (Int.tdiv (wrap64 ((wrap64 ((wrap64 (t102 - (wrap64 (Int.tdiv t102 1460)))) + (wrap64 (Int.tdiv t102 36524)))) - (wrap64 (Int.tdiv t102 146096)))) 365)) 4)))) - (wrap64 (Int.tdiv (wrap64 (Int.tdiv (wrap64 ((wrap64 ((wrap64 (t102 - (wrap64 (Int.tdiv t102 1460)))) + (wrap64 (Int.tdiv t102 36524)))) - (wrap64 (Int.tdiv t102 146096)))) 365)) 100)))))))) + 2)) 153)) + 3)) - 12), wrap64 ((wrap64 ((wrap64 (t102 - (wrap64 ((wrap64 ((wrap64 (365 * (wrap64 (Int.tdiv (wrap64 ((wrap64 ((wrap64 (t102 - (wrap64 (Int.tdiv t102 1460)))) + (wrap64 (Int.tdiv t102 36524)))) - (wrap64 (Int.tdiv t102 146096)))) 365)))) + (wrap64 (Int.tdiv (wrap64 (Int.tdiv (wrap64 ((wrap64 ((wrap64 (t102 - (wrap64 (Int.tdiv t102 1460)))) + (wrap64 (Int.tdiv t102 36524)))) - (wrap64 (Int.tdiv t102 146096)))) 365)) 4)))) - (wrap64 (Int.tdiv (wrap64 (Int.tdiv (wrap64 ((wrap64 ((wrap64 (t102 - (wrap64 (Int.tdiv t102 1460)))) + (wrap64 (Int.tdiv t102 36524)))) - (wrap64 (Int.tdiv t102 146096)))) 365)) 100)))))) - (wrap64 (Int.tdiv (wrap64 ((wrap64 (153 * (wrap64 (Int.tdiv (wrap64 ((wrap64 (5 * (wrap64 (t102 - (wrap64 ((wrap64 ((wrap64 (365 * (wrap64 (Int.tdiv (wrap64 ((wrap64 ((wrap64 (t102 - (wrap64 (Int.tdiv t102 1460)))) + (wrap64 (Int.tdiv t102 36524)))) - (wrap64 (Int.tdiv t102 146096)))) 365)))) + (wrap64 (Int.tdiv (wrap64 (Int.tdiv (wrap64 ((wrap64 ((wrap64 (t102 - (wrap64 (Int.tdiv t102 1460)))) + (wrap64 (Int.tdiv t102 36524)))) - (wrap64 (Int.tdiv t102 146096)))) 365)) 4)))) - (wrap64 (Int.tdiv (wrap64 (Int.tdiv (wrap64 ((wrap64 ((wrap64 (t102 - (wrap64 (Int.tdiv t102 1460)))) + (wrap64 (Int.tdiv t102 36524)))) - (wrap64 (Int.tdiv t102 146096)))) 365)) 100)))))))) + 2)) 153)))) + 2)) 5)))) + 1), true)) else (some (wrap64 ((wrap64 (400 * t101)) + (wrap64 (Int.tdiv (wrap64 ((wrap64 ((wrap64 (t102 - (wrap64 (Int.tdiv t102 1460)))) + (wrap64 (Int.tdiv t102 36524)))) - (wrap64 (Int.tdiv t102 146096)))) 365))), wrap64 ((wrap64 (Int.tdiv (wrap64 ((wrap64 (5 * (wrap64 (t102 - (wrap64 ((wrap64 ((wrap64 (365 * (wrap64 (Int.tdiv (wrap64 ((wrap64 ((wrap64 (t102 - (wrap64 (Int.tdiv t102 1460)))) + (wrap64 (Int.tdiv t102 36524)))) - (wrap64 (Int.tdiv t102 146096)))) 365)))) + (wrap64 (Int.tdiv (wrap64 (Int.tdiv (wrap64 ((wrap64 ((wrap64 (t102 - (wrap64 (Int.tdiv t102 1460)))) + (wrap64 (Int.tdiv t102 36524)))) - (wrap64 (Int.tdiv t102 146096)))) 365)) 4)))) - (wrap64 (Int.tdiv (wrap64 (Int.tdiv (wrap64 ((wrap64 ((wrap64 (t102 - (wrap64 (Int.tdiv t102 1460)))) + (wrap64 (Int.tdiv t102 36524)))) - (wrap64 (Int.tdiv t102 146096)))) 365)) 100)))))))) + 2)) 153)) + 3), wrap64 ((wrap64 ((wrap64 (t102 - (wrap64 ((wrap64 ((wrap64 (365 * (wrap64 (Int.tdiv (wrap64 ((wrap64 ((wrap64 (t102 - (wrap64 (Int.tdiv t102 1460)))) + (wrap64 (Int.tdiv t102 36524)))) - (wrap64 (Int.tdiv t102 146096)))) 365)))) + (wrap64 (Int.tdiv (wrap64 (Int.tdiv (wrap64 ((wrap64 ((wrap64 (t102 - (wrap64 (Int.tdiv t102 1460)))) + (wrap64 (Int.tdiv t102 36524)))) - (wrap64 (Int.tdiv t102 146096)))) 365)) 4)))) - (wrap64 (Int.tdiv (wrap64 (Int.tdiv (wrap64 ((wrap64 ((wrap64 (t102 - (wrap64 (Int.tdiv t102 1460)))) + (wrap64 (Int.tdiv t102 36524)))) - (wrap64 (Int.tdiv t102 146096)))) 365)) 100)))))) - (wrap64 (Int.tdiv (wrap64 ((wrap64 (153 * (wrap64 (Int.tdiv (wrap64 ((wrap64 (5 * (wrap64 (t102 - (wrap64 ((wrap64 ((wrap64 (365 * (wrap64 (Int.tdiv (wrap64 ((wrap64 ((wrap64 (t102 - (wrap64 (Int.tdiv t102 1460)))) + (wrap64 (Int.tdiv t102 36524)))) - (wrap64 (Int.tdiv t102 146096)))) 365)))) + (wrap64 (Int.tdiv (wrap64 (Int.tdiv (wrap64 ((wrap64 ((wrap64 (t102 - (wrap64 (Int.tdiv t102 1460)))) + (wrap64 (Int.tdiv t102 36524)))) - (wrap64 (Int.tdiv t102 146096)))) 365)) 4)))) - (wrap64 (Int.tdiv (wrap64 (Int.tdiv (wrap64 ((wrap64 ((wrap64 (t102 - (wrap64 (Int.tdiv t102 1460)))) + (wrap64 (Int.tdiv t102 36524)))) - (wrap64 (Int.tdiv t102 146096)))) 365)) 100)))))))) + 2)) 153)))) + 2)) 5)))) + 1), true))) = some (r1, r2, r3, r4) := H
        have A5 := Aside0.mk A50
        clear A50
        by_cases c6 : (wrap64 ((wrap64 (Int.tdiv (wrap64 ((wrap64 (5 * (wrap64 (t102 - (wrap64 ((wrap64 ((wrap64 (365 * (wrap64 (Int.tdiv (wrap64 ((wrap64 ((wrap64 (t102 - (wrap64 (Int.tdiv t102 1460)))) + (wrap64 (Int.tdiv t102 36524)))) - (wrap64 (Int.tdiv t102 146096)))) 365)))) + (wrap64 (Int.tdiv (wrap64 (Int.tdiv (wrap64 ((wrap64 ((wrap64 (t102 - (wrap64 (Int.tdiv t102 1460)))) + (wrap64 (Int.tdiv t102 36524)))) - (wrap64 (Int.tdiv t102 146096)))) 365)) 4)))) - (wrap64 (Int.tdiv (wrap64 (Int.tdiv (wrap64 ((wrap64 ((wrap64 (t102 - (wrap64 (Int.tdiv t102 1460)))) + (wrap64 (Int.tdiv t102 36524)))) - (wrap64 (Int.tdiv t102 146096)))) 365)) 100)))))))) + 2)) 153)) + 3)) > 12
        · rw [if_pos c6] at H
          have c6b0 : decide (12 < (wrap64 ((wrap64 (Int.tdiv (wrap64 ((wrap64 (5 * (wrap64 (t102 - (wrap64 ((wrap64 ((wrap64 (365 * (wrap64 (Int.tdiv (wrap64 ((wrap64 ((wrap64 (t102 - (wrap64 (Int.tdiv t102 1460)))) + (wrap64 (Int.tdiv t102 36524)))) - (wrap64 (Int.tdiv t102 146096)))) 365)))) + (wrap64 (Int.tdiv (wrap64 (Int.tdiv (wrap64 ((wrap64 ((wrap64 (t102 - (wrap64 (Int.tdiv t102 1460)))) + (wrap64 (Int.tdiv t102 36524)))) - (wrap64 (Int.tdiv t102 146096)))) 365)) 4)))) - (wrap64 (Int.tdiv (wrap64 (Int.tdiv (wrap64 ((wrap64 ((wrap64 (t102 - (wrap64 (Int.tdiv t102 1460)))) + (wrap64 (Int.tdiv t102 36524)))) - (wrap64 (Int.tdiv t102 146096)))) 365)) 100)))))))) + 2)) 153)) + 3))) = true := decide_eq_true c6
          clear c6
          simp only [Option.some.injEq, Prod.mk.injEq] at H
          obtain ⟨rfl, rfl, rfl, rfl⟩ := H
          go_wp2_with (first | ((with_reducible refine gate_callee (f := 40) rfl ?_); refine goesL_ (some 19) rfl rfl Try.func40 (by kernel_rfl) rfl #[.int .i64 (wrap64 (a0 + 719468)), .int .i64 146097] rfl (by (try simp only [List.map_toArray, List.map_cons, List.map_nil]); first | done | rfl | (simp only [List.length_drop, List.length_take]; rfl)) ?_; (with_reducible refine (num_Div.calls (wrap64 (a0 + 719468)) 146097 t101 t102 t103 _ A5.out).mono ?_); rintro e w' ⟨rfl, ⟨nd, rfl⟩⟩; refine ⟨_, rfl, ?_⟩))
          refine bodyPost_ret (results_list (rs := [.tmp 2, .tmp 3, .tmp 4, .tmp 5]) rfl (by simp) (.tmp (.tmp (.tmp (.tmp .nil))))) rfl ?_
          exact ⟨by first | rfl | (simp; done) | (simp [*]; done), by repeat (first | exact Drawn0.refl _ | apply Drawn0.step)⟩
        · rw [if_neg c6] at H
          have c6b0 : decide (12 < (wrap64 ((wrap64 (Int.tdiv (wrap64 ((wrap64 (5 * (wrap64 (t102 - (wrap64 ((wrap64 ((wrap64 (365 * (wrap64 (Int.tdiv (wrap64 ((wrap64 ((wrap64 (t102 - (wrap64 (Int.tdiv t102 1460)))) + (wrap64 (Int.tdiv t102 36524)))) - (wrap64 (Int.tdiv t102 146096)))) 365)))) + (wrap64 (Int.tdiv (wrap64 (Int.tdiv (wrap64 ((wrap64 ((wrap64 (t102 - (wrap64 (Int.tdiv t102 1460)))) + (wrap64 (Int.tdiv t102 36524)))) - (wrap64 (Int.tdiv t102 146096)))) 365)) 4)))) - (wrap64 (Int.tdiv (wrap64 (Int.tdiv (wrap64 ((wrap64 ((wrap64 (t102 - (wrap64 (Int.tdiv t102 1460)))) + (wrap64 (Int.tdiv t102 36524)))) - (wrap64 (Int.tdiv t102 146096)))) 365)) 100)))))))) + 2)) 153)) + 3))) = false := decide_eq_false c6
          clear c6
          simp only [Option.some.injEq, Prod.mk.injEq] at H
          obtain ⟨rfl, rfl, rfl, rfl⟩ := H
          go_wp2_with (first | ((with_reducible refine gate_callee (f := 40) rfl ?_); refine goesL_ (some 19) rfl rfl Try.func40 (by kernel_rfl) rfl #[.int .i64 (wrap64 (a0 + 719468)), .int .i64 146097] rfl (by (try simp only [List.map_toArray, List.map_cons, List.map_nil]); first | done | rfl | (simp only [List.length_drop, List.length_take]; rfl)) ?_; (with_reducible refine (num_Div.calls (wrap64 (a0 + 719468)) 146097 t101 t102 t103 _ A5.out).mono ?_); rintro e w' ⟨rfl, ⟨nd, rfl⟩⟩; refine ⟨_, rfl, ?_⟩))
          refine bodyPost_ret (results_list (rs := [.tmp 2, .tmp 3, .tmp 4, .tmp 5]) rfl (by simp) (.tmp (.tmp (.tmp (.tmp .nil))))) rfl ?_
          exact ⟨by first | rfl | (simp; done) | (simp [*]; done), by repeat (first | exact Drawn0.refl _ | apply Drawn0.step)⟩

/-! ### day_Leap: function 41 -/
def day_Leap.f (a0 : Int) : Option (Bool) := if (Int.tmod a0 4) = 0 then (if (Int.tmod a0 100) = 0 then (some ((Int.tmod a0 400) == 0)) else (some true)) else (some false)
set_option maxHeartbeats 8000000 in
set_option maxRecDepth 100000 in
theorem day_Leap.calls (a0 : Int) (r : Bool) (w : World) (h : day_Leap.f a0 = some r) :
    Calls Try.prog 41 #[.int .i64 a0] w fun e w' => e = .returned (.bool r) ∧ Drawn0 w w' := by
  have H : (if (Int.tmod a0 4) = 0 then (if (Int.tmod a0 100) = 0 then (some ((Int.tmod a0 400) == 0)) else (some true)) else (some false)) = some r := h
  clear h
  by_cases c2 : (Int.tmod a0 4) = 0
  · rw [if_pos c2] at H
    have c2b0 : ((Int.tmod a0 4) == 0) = true := beq_iff_eq.mpr c2
    have c2b1 : ((Int.tmod a0 4) != 0) = false := bne_eq_false_iff_eq.mpr c2
    clear c2
    by_cases c3 : (Int.tmod a0 100) = 0
    · rw [if_pos c3] at H
      have c3b0 : ((Int.tmod a0 100) == 0) = true := beq_iff_eq.mpr c3
      have c3b1 : ((Int.tmod a0 100) != 0) = false := bne_eq_false_iff_eq.mpr c3
      clear c3
      obtain rfl := Option.some.inj H
      go_enter Try.func41, Try.ntmps41
      go_wp2
      go_ret
      exact ⟨by first | rfl | (simp; done) | (simp [*]; done), by repeat (first | exact Drawn0.refl _ | apply Drawn0.step)⟩
    · rw [if_neg c3] at H
      have c3b0 : ((Int.tmod a0 100) == 0) = false := beq_eq_false_iff_ne.mpr c3
      have c3b1 : ((Int.tmod a0 100) != 0) = true := bne_iff_ne.mpr c3
      obtain rfl := Option.some.inj H
      go_enter Try.func41, Try.ntmps41
      go_wp2
      go_ret
      exact ⟨by first | rfl | (simp; done) | (simp [*]; done), by repeat (first | exact Drawn0.refl _ | apply Drawn0.step)⟩
  · rw [if_neg c2] at H
    have c2b0 : ((Int.tmod a0 4) == 0) = false := beq_eq_false_iff_ne.mpr c2
    have c2b1 : ((Int.tmod a0 4) != 0) = true := bne_iff_ne.mpr c2
    obtain rfl := Option.some.inj H
    go_enter Try.func41, Try.ntmps41
    go_wp2
    go_ret
    exact ⟨by first | rfl | (simp; done) | (simp [*]; done), by repeat (first | exact Drawn0.refl _ | apply Drawn0.step)⟩

/-! ### day_Last: function 37 -/
-- by hand: wip/hand
/-- the months' days, of a year that is no leap year -/
def day_Last.tab (m : Int) : Int := if m = 2 then 28 else if m = 4 ∨ m = 6 ∨ m = 9 ∨ m = 11 then 30 else 31
def day_Last.f (a0 : Int) (a1 : Int) : Option (Int × Bool) :=
  if a0 < 1 ∨ a0 > 9999 ∨ a1 < 1 ∨ a1 > 12 then some (0, false)
  else if a1 = 2 then (day_Leap.f a0).bind fun t => some (if t = true then 29 else 28, true)
  else some (day_Last.tab a1, true)
theorem day_Last.at0 (w : World) : (Instr.index 54 (.agg #[.int .i64 31, .int .i64 28, .int .i64 31, .int .i64 30, .int .i64 31, .int .i64 30, .int .i64 31, .int .i64 31, .int .i64 30, .int .i64 31, .int .i64 30, .int .i64 31]) (.int .i64 0)).run Try.prog w = .ok (.int .i64 31) w := by kernel_rfl
theorem day_Last.at1 (w : World) : (Instr.index 54 (.agg #[.int .i64 31, .int .i64 28, .int .i64 31, .int .i64 30, .int .i64 31, .int .i64 30, .int .i64 31, .int .i64 31, .int .i64 30, .int .i64 31, .int .i64 30, .int .i64 31]) (.int .i64 1)).run Try.prog w = .ok (.int .i64 28) w := by kernel_rfl
theorem day_Last.at2 (w : World) : (Instr.index 54 (.agg #[.int .i64 31, .int .i64 28, .int .i64 31, .int .i64 30, .int .i64 31, .int .i64 30, .int .i64 31, .int .i64 31, .int .i64 30, .int .i64 31, .int .i64 30, .int .i64 31]) (.int .i64 2)).run Try.prog w = .ok (.int .i64 31) w := by kernel_rfl
theorem day_Last.at3 (w : World) : (Instr.index 54 (.agg #[.int .i64 31, .int .i64 28, .int .i64 31, .int .i64 30, .int .i64 31, .int .i64 30, .int .i64 31, .int .i64 31, .int .i64 30, .int .i64 31, .int .i64 30, .int .i64 31]) (.int .i64 3)).run Try.prog w = .ok (.int .i64 30) w := by kernel_rfl
theorem day_Last.at4 (w : World) : (Instr.index 54 (.agg #[.int .i64 31, .int .i64 28, .int .i64 31, .int .i64 30, .int .i64 31, .int .i64 30, .int .i64 31, .int .i64 31, .int .i64 30, .int .i64 31, .int .i64 30, .int .i64 31]) (.int .i64 4)).run Try.prog w = .ok (.int .i64 31) w := by kernel_rfl
theorem day_Last.at5 (w : World) : (Instr.index 54 (.agg #[.int .i64 31, .int .i64 28, .int .i64 31, .int .i64 30, .int .i64 31, .int .i64 30, .int .i64 31, .int .i64 31, .int .i64 30, .int .i64 31, .int .i64 30, .int .i64 31]) (.int .i64 5)).run Try.prog w = .ok (.int .i64 30) w := by kernel_rfl
theorem day_Last.at6 (w : World) : (Instr.index 54 (.agg #[.int .i64 31, .int .i64 28, .int .i64 31, .int .i64 30, .int .i64 31, .int .i64 30, .int .i64 31, .int .i64 31, .int .i64 30, .int .i64 31, .int .i64 30, .int .i64 31]) (.int .i64 6)).run Try.prog w = .ok (.int .i64 31) w := by kernel_rfl
theorem day_Last.at7 (w : World) : (Instr.index 54 (.agg #[.int .i64 31, .int .i64 28, .int .i64 31, .int .i64 30, .int .i64 31, .int .i64 30, .int .i64 31, .int .i64 31, .int .i64 30, .int .i64 31, .int .i64 30, .int .i64 31]) (.int .i64 7)).run Try.prog w = .ok (.int .i64 31) w := by kernel_rfl
theorem day_Last.at8 (w : World) : (Instr.index 54 (.agg #[.int .i64 31, .int .i64 28, .int .i64 31, .int .i64 30, .int .i64 31, .int .i64 30, .int .i64 31, .int .i64 31, .int .i64 30, .int .i64 31, .int .i64 30, .int .i64 31]) (.int .i64 8)).run Try.prog w = .ok (.int .i64 30) w := by kernel_rfl
theorem day_Last.at9 (w : World) : (Instr.index 54 (.agg #[.int .i64 31, .int .i64 28, .int .i64 31, .int .i64 30, .int .i64 31, .int .i64 30, .int .i64 31, .int .i64 31, .int .i64 30, .int .i64 31, .int .i64 30, .int .i64 31]) (.int .i64 9)).run Try.prog w = .ok (.int .i64 31) w := by kernel_rfl
theorem day_Last.at10 (w : World) : (Instr.index 54 (.agg #[.int .i64 31, .int .i64 28, .int .i64 31, .int .i64 30, .int .i64 31, .int .i64 30, .int .i64 31, .int .i64 31, .int .i64 30, .int .i64 31, .int .i64 30, .int .i64 31]) (.int .i64 10)).run Try.prog w = .ok (.int .i64 30) w := by kernel_rfl
theorem day_Last.at11 (w : World) : (Instr.index 54 (.agg #[.int .i64 31, .int .i64 28, .int .i64 31, .int .i64 30, .int .i64 31, .int .i64 30, .int .i64 31, .int .i64 31, .int .i64 30, .int .i64 31, .int .i64 30, .int .i64 31]) (.int .i64 11)).run Try.prog w = .ok (.int .i64 31) w := by kernel_rfl
set_option maxHeartbeats 8000000 in
set_option maxRecDepth 100000 in
theorem day_Last.calls (a0 : Int) (a1 : Int) (r1 : Int) (r2 : Bool) (w : World) (h : day_Last.f a0 a1 = some (r1, r2)) :
    Calls Try.prog 37 #[.int .i64 a0, .int .i64 a1] w fun e w' => e = .returned (.tuple #[.int .i64 r1, .bool r2]) ∧ Drawn0 w w' := by
  have H : (if a0 < 1 ∨ a0 > 9999 ∨ a1 < 1 ∨ a1 > 12 then some (0, false) else if a1 = 2 then (day_Leap.f a0).bind fun t => some (if t = true then 29 else 28, true) else some (day_Last.tab a1, true)) = some (r1, r2) := h
  clear h
  by_cases c1 : a0 < 1 ∨ a0 > 9999 ∨ a1 < 1 ∨ a1 > 12
  · rw [if_pos c1] at H
    simp only [Option.some.injEq, Prod.mk.injEq] at H
    obtain ⟨rfl, rfl⟩ := H
    have HX := Aside0.mk c1
    by_cases c2 : a0 < 1
    · clear c1
      have b2 : decide (a0 < 1) = true := decide_eq_true c2
      go_enter Try.func37, Try.ntmps37
      go_wp2
      repeat (go_quiet (fail); try go_wp2)
      go_ret2
      exact ⟨rfl, by repeat (first | exact Drawn0.refl _ | apply Drawn0.step)⟩
    · have b2 : decide (a0 < 1) = false := decide_eq_false c2
      by_cases c3 : 9999 < a0
      · clear c1
        have b3 : decide (9999 < a0) = true := decide_eq_true c3
        go_enter Try.func37, Try.ntmps37
        go_wp2
        repeat (go_quiet (fail); try go_wp2)
        go_ret2
        exact ⟨rfl, by repeat (first | exact Drawn0.refl _ | apply Drawn0.step)⟩
      · have b3 : decide (9999 < a0) = false := decide_eq_false c3
        by_cases c4 : a1 < 1
        · clear c1
          have b4 : decide (a1 < 1) = true := decide_eq_true c4
          go_enter Try.func37, Try.ntmps37
          go_wp2
          repeat (go_quiet (fail); try go_wp2)
          go_ret2
          exact ⟨rfl, by repeat (first | exact Drawn0.refl _ | apply Drawn0.step)⟩
        · have b4 : decide (a1 < 1) = false := decide_eq_false c4
          have c5 : 12 < a1 := by omega
          clear c1
          have b5 : decide (12 < a1) = true := decide_eq_true c5
          go_enter Try.func37, Try.ntmps37
          go_wp2
          repeat (go_quiet (fail); try go_wp2)
          go_ret2
          exact ⟨rfl, by repeat (first | exact Drawn0.refl _ | apply Drawn0.step)⟩
  · rw [if_neg c1] at H
    have b2 : decide (a0 < 1) = false := decide_eq_false (by omega)
    have b3 : decide (9999 < a0) = false := decide_eq_false (by omega)
    have c4 : a1 = 1 ∨ a1 = 2 ∨ a1 = 3 ∨ a1 = 4 ∨ a1 = 5 ∨ a1 = 6 ∨ a1 = 7 ∨ a1 = 8 ∨ a1 = 9 ∨ a1 = 10 ∨ a1 = 11 ∨ a1 = 12 := by omega
    clear c1
    rcases c4 with rfl | rfl | rfl | rfl | rfl | rfl | rfl | rfl | rfl | rfl | rfl | rfl
    case inr.inl =>
      rw [if_pos rfl] at H
      cases hl : day_Leap.f a0 with
      | none => rw [hl] at H; exact absurd H (by simp)
      | some t =>
        rw [hl] at H
        have hc := day_Leap.calls a0 t
        have HC := Aside0.mk hc
        clear hc
        have HL := Aside0.mk hl
        clear hl
        have hix := day_Last.at1
        cases t with
        | true =>
          simp only [Option.bind_some, if_true, Option.some.injEq, Prod.mk.injEq] at H
          obtain ⟨rfl, rfl⟩ := H
          go_enter Try.func37, Try.ntmps37
          go_wp2_with (go_at_call 41; refine (HC.out _ HL.out).mono ?_; rintro e w' ⟨rfl, hd⟩)
          go_ret2
          exact ⟨rfl, by repeat (first | exact Drawn0.refl _ | exact hd | apply Drawn0.step)⟩
        | false =>
          simp only [Option.bind_some, Bool.false_eq_true, if_false, Option.some.injEq, Prod.mk.injEq] at H
          obtain ⟨rfl, rfl⟩ := H
          go_enter Try.func37, Try.ntmps37
          go_wp2_with (go_at_call 41; refine (HC.out _ HL.out).mono ?_; rintro e w' ⟨rfl, hd⟩)
          go_ret2
          exact ⟨rfl, by repeat (first | exact Drawn0.refl _ | exact hd | apply Drawn0.step)⟩
    · rw [if_neg (by omega)] at H
      simp only [day_Last.tab] at H
      simp at H
      obtain ⟨rfl, rfl⟩ := H
      have hix := day_Last.at0
      go_enter Try.func37, Try.ntmps37
      go_wp2
      repeat (go_quiet (fail); try go_wp2)
      go_ret2
      exact ⟨rfl, by repeat (first | exact Drawn0.refl _ | apply Drawn0.step)⟩
    · rw [if_neg (by omega)] at H
      simp only [day_Last.tab] at H
      simp at H
      obtain ⟨rfl, rfl⟩ := H
      have hix := day_Last.at2
      go_enter Try.func37, Try.ntmps37
      go_wp2
      repeat (go_quiet (fail); try go_wp2)
      go_ret2
      exact ⟨rfl, by repeat (first | exact Drawn0.refl _ | apply Drawn0.step)⟩
    · rw [if_neg (by omega)] at H
      simp only [day_Last.tab] at H
      simp at H
      obtain ⟨rfl, rfl⟩ := H
      have hix := day_Last.at3
      go_enter Try.func37, Try.ntmps37
      go_wp2
      repeat (go_quiet (fail); try go_wp2)
      go_ret2
      exact ⟨rfl, by repeat (first | exact Drawn0.refl _ | apply Drawn0.step)⟩
    · rw [if_neg (by omega)] at H
      simp only [day_Last.tab] at H
      simp at H
      obtain ⟨rfl, rfl⟩ := H
      have hix := day_Last.at4
      go_enter Try.func37, Try.ntmps37
      go_wp2
      repeat (go_quiet (fail); try go_wp2)
      go_ret2
      exact ⟨rfl, by repeat (first | exact Drawn0.refl _ | apply Drawn0.step)⟩
    · rw [if_neg (by omega)] at H
      simp only [day_Last.tab] at H
      simp at H
      obtain ⟨rfl, rfl⟩ := H
      have hix := day_Last.at5
      go_enter Try.func37, Try.ntmps37
      go_wp2
      repeat (go_quiet (fail); try go_wp2)
      go_ret2
      exact ⟨rfl, by repeat (first | exact Drawn0.refl _ | apply Drawn0.step)⟩
    · rw [if_neg (by omega)] at H
      simp only [day_Last.tab] at H
      simp at H
      obtain ⟨rfl, rfl⟩ := H
      have hix := day_Last.at6
      go_enter Try.func37, Try.ntmps37
      go_wp2
      repeat (go_quiet (fail); try go_wp2)
      go_ret2
      exact ⟨rfl, by repeat (first | exact Drawn0.refl _ | apply Drawn0.step)⟩
    · rw [if_neg (by omega)] at H
      simp only [day_Last.tab] at H
      simp at H
      obtain ⟨rfl, rfl⟩ := H
      have hix := day_Last.at7
      go_enter Try.func37, Try.ntmps37
      go_wp2
      repeat (go_quiet (fail); try go_wp2)
      go_ret2
      exact ⟨rfl, by repeat (first | exact Drawn0.refl _ | apply Drawn0.step)⟩
    · rw [if_neg (by omega)] at H
      simp only [day_Last.tab] at H
      simp at H
      obtain ⟨rfl, rfl⟩ := H
      have hix := day_Last.at8
      go_enter Try.func37, Try.ntmps37
      go_wp2
      repeat (go_quiet (fail); try go_wp2)
      go_ret2
      exact ⟨rfl, by repeat (first | exact Drawn0.refl _ | apply Drawn0.step)⟩
    · rw [if_neg (by omega)] at H
      simp only [day_Last.tab] at H
      simp at H
      obtain ⟨rfl, rfl⟩ := H
      have hix := day_Last.at9
      go_enter Try.func37, Try.ntmps37
      go_wp2
      repeat (go_quiet (fail); try go_wp2)
      go_ret2
      exact ⟨rfl, by repeat (first | exact Drawn0.refl _ | apply Drawn0.step)⟩
    · rw [if_neg (by omega)] at H
      simp only [day_Last.tab] at H
      simp at H
      obtain ⟨rfl, rfl⟩ := H
      have hix := day_Last.at10
      go_enter Try.func37, Try.ntmps37
      go_wp2
      repeat (go_quiet (fail); try go_wp2)
      go_ret2
      exact ⟨rfl, by repeat (first | exact Drawn0.refl _ | apply Drawn0.step)⟩
    · rw [if_neg (by omega)] at H
      simp only [day_Last.tab] at H
      simp at H
      obtain ⟨rfl, rfl⟩ := H
      have hix := day_Last.at11
      go_enter Try.func37, Try.ntmps37
      go_wp2
      repeat (go_quiet (fail); try go_wp2)
      go_ret2
      exact ⟨rfl, by repeat (first | exact Drawn0.refl _ | apply Drawn0.step)⟩

/-! ### day_End: function 34 -/
def day_End.f (k : Nat) (a0 : Int) : Option (Bool) := (day_Date.f k a0).bind fun bt104 => ((day_Last.f bt104.1 bt104.2.1).bind fun bt108 => (if bt104.2.2.2 = true then (some (bt104.2.2.1 == bt108.1)) else (some false)))
theorem day_End.mono : ∀ a0 k, LeO (day_End.f k a0) (day_End.f (k + 1) a0) := by
  intro a0 k
  unfold day_End.f
  repeat' first
      | (with_reducible exact day_Date.mono _ _)
      | (with_reducible exact LeO.refl _)
      | (with_reducible exact LeO.none _)
      | (with_reducible refine LeO.ite ?_ ?_)
      | (with_reducible refine LeO.bind ?_ (fun _ => ?_))
      | exact day_Date.mono _ _
      | exact LeO.none _
      | refine LeO.ite ?_ ?_
      | refine LeO.bind ?_ (fun _ => ?_)
set_option maxHeartbeats 8000000 in
set_option maxRecDepth 100000 in
theorem day_End.calls (k : Nat) (a0 : Int) (r : Bool) (w : World) (h : day_End.f k a0 = some r) :
    Calls Try.prog 34 #[.int .i64 a0] w fun e w' => e = .returned (.bool r) ∧ Drawn0 w w' := by
  have H : ((day_Date.f k a0).bind fun bt104 => ((day_Last.f bt104.1 bt104.2.1).bind fun bt108 => (if bt104.2.2.2 = true then (some (bt104.2.2.1 == bt108.1)) else (some false)))) = some r := h
  clear h
  replace H := Option.bind_eq_some_iff.mp H
  obtain ⟨⟨t104, t105, t106, t107⟩, A20, H⟩ := H
  replace H : ((day_Last.f t104 t105).bind fun bt108 => (if t107 = true then (some (t106 == bt108.1)) else (some false))) = some r := H
  have A2 := Aside0.mk A20
  clear A20
  replace H := Option.bind_eq_some_iff.mp H
  obtain ⟨⟨t108, t109⟩, A30, H⟩ := H
  replace H : (if t107 = true then (some (t106 == t108)) else (some false)) = some r := H
  have A3 := Aside0.mk A30
  clear A30
  by_cases c4 : t107 = true
  · subst c4
    have H1 : (some (t106 == t108)) = some r := by rw [if_pos rfl] at H; exact H
    clear H
    have H := H1
    clear H1
    obtain rfl := Option.some.inj H
    go_enter Try.func34, Try.ntmps34
    go_wp2_with (first | ((with_reducible refine gate_callee (f := 36) rfl ?_); refine goesL_ (some 11) rfl rfl Try.func36 (by kernel_rfl) rfl #[.int .i64 a0] rfl (by (try simp only [List.map_toArray, List.map_cons, List.map_nil]); first | done | rfl | (simp only [List.length_drop, List.length_take]; rfl)) ?_; (with_reducible refine (day_Date.calls k a0 t104 t105 t106 true _ A2.out).mono ?_); rintro e w' ⟨rfl, ⟨nd, rfl⟩⟩; refine ⟨_, rfl, ?_⟩) | ((with_reducible refine gate_callee (f := 37) rfl ?_); refine goesL_ (some 19) rfl rfl Try.func37 (by kernel_rfl) rfl #[.int .i64 t104, .int .i64 t105] rfl (by (try simp only [List.map_toArray, List.map_cons, List.map_nil]); first | done | rfl | (simp only [List.length_drop, List.length_take]; rfl)) ?_; (with_reducible refine (day_Last.calls t104 t105 t108 t109 _ A3.out).mono ?_); rintro e w' ⟨rfl, ⟨nd, rfl⟩⟩; refine ⟨_, rfl, ?_⟩))
    go_ret
    exact ⟨by first | rfl | (simp; done) | (simp [*]; done), by repeat (first | exact Drawn0.refl _ | apply Drawn0.step)⟩
  · replace c4 := Bool.eq_false_iff.mpr c4
    subst c4
    have H1 : (some false) = some r := by rw [if_neg (show ¬ (false = true) by decide)] at H; exact H
    clear H
    have H := H1
    clear H1
    obtain rfl := Option.some.inj H
    go_enter Try.func34, Try.ntmps34
    go_wp2_with (first | ((with_reducible refine gate_callee (f := 36) rfl ?_); refine goesL_ (some 11) rfl rfl Try.func36 (by kernel_rfl) rfl #[.int .i64 a0] rfl (by (try simp only [List.map_toArray, List.map_cons, List.map_nil]); first | done | rfl | (simp only [List.length_drop, List.length_take]; rfl)) ?_; (with_reducible refine (day_Date.calls k a0 t104 t105 t106 false _ A2.out).mono ?_); rintro e w' ⟨rfl, ⟨nd, rfl⟩⟩; refine ⟨_, rfl, ?_⟩) | ((with_reducible refine gate_callee (f := 37) rfl ?_); refine goesL_ (some 19) rfl rfl Try.func37 (by kernel_rfl) rfl #[.int .i64 t104, .int .i64 t105] rfl (by (try simp only [List.map_toArray, List.map_cons, List.map_nil]); first | done | rfl | (simp only [List.length_drop, List.length_take]; rfl)) ?_; (with_reducible refine (day_Last.calls t104 t105 t108 t109 _ A3.out).mono ?_); rintro e w' ⟨rfl, ⟨nd, rfl⟩⟩; refine ⟨_, rfl, ?_⟩))
    go_ret
    exact ⟨by first | rfl | (simp; done) | (simp [*]; done), by repeat (first | exact Drawn0.refl _ | apply Drawn0.step)⟩

/-! ### leap_wrong: function 28 -/
mutual
def leap_wrong.j0 : Nat → Int → Bool → Int → Int → Bool → Option (Int)
  | 0, _, _, _, _, _ => none
  | k + 1, x2, x10, x111000, x111001, x111002 => if x10 = true then (some 9) else ((day_End.f k x111000).bind fun t111 => (if t111 = true then (if x111001 = 1 then (leap_wrong.j1 k x2 false x111000 x111001 x111002) else (leap_wrong.j1 k x2 (x111001 != (-1)) x111000 x111001 x111002)) else (some 5)))
def leap_wrong.j1 : Nat → Int → Bool → Int → Int → Bool → Option (Int)
  | 0, _, _, _, _, _ => none
  | k + 1, x2, x22, x111000, x111001, x111002 => if x22 = true then (some 6) else (if x111000 ≤ x2 then (some 4) else (some 0))
end
def leap_wrong.f (k : Nat) (a0 : Int) (a1_0 : Int) (a1_1 : Int) (a1_2 : Bool) (a2 : Int) : Option (Int) := if a0 ≥ 200 then (some 8) else (if a1_0 < 730 then (leap_wrong.j0 k a2 (decide (a1_0 < 730)) a1_0 a1_1 a1_2) else (leap_wrong.j0 k a2 (decide (a1_0 ≥ 2932896)) a1_0 a1_1 a1_2))
theorem leap_wrong.mono_l : ∀ k, (∀ y0 y1 y2 y3 y4, LeO (leap_wrong.j0 k y0 y1 y2 y3 y4) (leap_wrong.j0 (k + 1) y0 y1 y2 y3 y4)) ∧ (∀ y0 y1 y2 y3 y4, LeO (leap_wrong.j1 k y0 y1 y2 y3 y4) (leap_wrong.j1 (k + 1) y0 y1 y2 y3 y4))
  | 0 => ⟨fun _ _ _ _ _ r h => by simp [leap_wrong.j0] at h, fun _ _ _ _ _ r h => by simp [leap_wrong.j1] at h⟩
  | k + 1 => by
    obtain ⟨ih0, ih1⟩ := leap_wrong.mono_l k
    refine ⟨?_, ?_⟩
    · intro y0 y1 y2 y3 y4
      unfold leap_wrong.j0
      repeat' first
      | (with_reducible exact ih0 _ _ _ _ _)
      | (with_reducible exact ih1 _ _ _ _ _)
      | (with_reducible exact day_End.mono _ _)
      | (with_reducible exact LeO.refl _)
      | (with_reducible exact LeO.none _)
      | (with_reducible refine LeO.ite ?_ ?_)
      | (with_reducible refine LeO.bind ?_ (fun _ => ?_))
      | exact ih0 _ _ _ _ _
      | exact ih1 _ _ _ _ _
      | exact day_End.mono _ _
      | exact LeO.none _
      | refine LeO.ite ?_ ?_
      | refine LeO.bind ?_ (fun _ => ?_)
    · intro y0 y1 y2 y3 y4
      unfold leap_wrong.j1
      repeat' first
      | (with_reducible exact ih0 _ _ _ _ _)
      | (with_reducible exact ih1 _ _ _ _ _)
      | (with_reducible exact day_End.mono _ _)
      | (with_reducible exact LeO.refl _)
      | (with_reducible exact LeO.none _)
      | (with_reducible refine LeO.ite ?_ ?_)
      | (with_reducible refine LeO.bind ?_ (fun _ => ?_))
      | exact ih0 _ _ _ _ _
      | exact ih1 _ _ _ _ _
      | exact day_End.mono _ _
      | exact LeO.none _
      | refine LeO.ite ?_ ?_
      | refine LeO.bind ?_ (fun _ => ?_)
theorem leap_wrong.mono : ∀ a0 a1 a2 a3 a4 k, LeO (leap_wrong.f k a0 a1 a2 a3 a4) (leap_wrong.f (k + 1) a0 a1 a2 a3 a4) := by
  intro a0 a1 a2 a3 a4 k
  obtain ⟨ih0, ih1⟩ := leap_wrong.mono_l k
  unfold leap_wrong.f
  repeat' first
      | (with_reducible exact ih0 _ _ _ _ _)
      | (with_reducible exact ih1 _ _ _ _ _)
      | (with_reducible exact day_End.mono _ _)
      | (with_reducible exact LeO.refl _)
      | (with_reducible exact LeO.none _)
      | (with_reducible refine LeO.ite ?_ ?_)
      | (with_reducible refine LeO.bind ?_ (fun _ => ?_))
      | exact ih0 _ _ _ _ _
      | exact ih1 _ _ _ _ _
      | exact day_End.mono _ _
      | exact LeO.none _
      | refine LeO.ite ?_ ?_
      | refine LeO.bind ?_ (fun _ => ?_)
set_option maxHeartbeats 8000000 in
set_option maxRecDepth 100000 in
theorem leap_wrong.calls (k : Nat) (a0 : Int) (a1_0 : Int) (a1_1 : Int) (a1_2 : Bool) (a2 : Int) (r : Int) (w : World) (h : leap_wrong.f k a0 a1_0 a1_1 a1_2 a2 = some r) :
    Calls Try.prog 28 #[.int .i64 a0, .agg #[.int .i64 a1_0, .int .i64 a1_1, .bool a1_2], .int .i64 a2] w fun e w' => e = .returned (.int .i64 r) ∧ Below w.heap.size w w' := by
  have hu26 := Try.underlying26
  have HB := Aside0.mk (Below.refl w.heap.size w)
  have H : (if a0 ≥ 200 then (some 8) else (if a1_0 < 730 then (leap_wrong.j0 k a2 (decide (a1_0 < 730)) a1_0 a1_1 a1_2) else (leap_wrong.j0 k a2 (decide (a1_0 ≥ 2932896)) a1_0 a1_1 a1_2))) = some r := h
  clear h
  by_cases c4 : a0 ≥ 200
  · rw [if_pos c4] at H
    have c4b0 : decide (200 ≤ a0) = true := decide_eq_true c4
    clear c4
    obtain rfl := Option.some.inj H
    go_enter Try.func28, Try.ntmps28
    go_wp2_with (first | ((with_reducible refine gate_dst (N := 4) rfl ?_); refine box_event ?hg (N := 4) ?hd (cs := #[.int .i64 a1_0, .int .i64 a1_1, .bool a1_2]) (t := 26) ?hr ?_; (case hd => rfl); (case hg => rfl); (case hr => first | (go_simp; done) | (go_simp; rfl)); intro gb110 hg w5 hbox hb; have n0_ := Aside0.mk (below_step (by repeat (first | (with_reducible first | exact HB.out | apply below_alloc | apply pw_below_drewN | apply below_drew1) | exact HB.out)) hb); have n1_ := Aside0.mk (hbox); have n2_ := Aside0.mk ((by rw [hg]; exact (below_size (by repeat (first | (with_reducible first | exact HB.out | apply below_alloc | apply pw_below_drewN | apply below_drew1) | exact HB.out))) : w.heap.size ≤ gb110)); have n3_ := Aside0.mk ((by rw [hg]; exact (below_size (by repeat (first | (with_reducible first | exact HB.out | apply below_alloc | apply pw_below_drewN | apply below_drew1) | exact HB.out))) : w.heap.size ≤ gb110)); clear HB; have HB := n0_; have BK110 := n1_; have GW110 := n2_; have GE110 := n3_; clear n0_ n1_ n2_ n3_; clear hb hbox hg))
    go_ret
    exact ⟨by first | rfl | (simp [errW_none, errW_some] <;> rfl) | (simp [*, errW_none, errW_some] <;> rfl), by repeat (first | (with_reducible first | exact HB.out | apply below_alloc | apply pw_below_drewN | apply below_drew1 | refine below_set ?_ GE110.out) | exact HB.out)⟩
  · rw [if_neg c4] at H
    have c4b0 : decide (200 ≤ a0) = false := decide_eq_false c4
    clear c4
    have HC6 := Aside0.mk H
    clear H
    go_enter Try.func28, Try.ntmps28
    go_upto_if 10 with (first | ((with_reducible refine gate_dst (N := 4) rfl ?_); refine box_event ?hg (N := 4) ?hd (cs := #[.int .i64 a1_0, .int .i64 a1_1, .bool a1_2]) (t := 26) ?hr ?_; (case hd => rfl); (case hg => rfl); (case hr => first | (go_simp; done) | (go_simp; rfl)); intro gb110 hg w7 hbox hb; have n0_ := Aside0.mk (below_step (by repeat (first | (with_reducible first | exact HB.out | apply below_alloc | apply pw_below_drewN | apply below_drew1) | exact HB.out)) hb); have n1_ := Aside0.mk (hbox); have n2_ := Aside0.mk ((by rw [hg]; exact (below_size (by repeat (first | (with_reducible first | exact HB.out | apply below_alloc | apply pw_below_drewN | apply below_drew1) | exact HB.out))) : w.heap.size ≤ gb110)); have n3_ := Aside0.mk ((by rw [hg]; exact (below_size (by repeat (first | (with_reducible first | exact HB.out | apply below_alloc | apply pw_below_drewN | apply below_drew1) | exact HB.out))) : w.heap.size ≤ gb110)); clear HB; have HB := n0_; have BK110 := n1_; have GW110 := n2_; have GE110 := n3_; clear n0_ n1_ n2_ n3_; clear hb hbox hg; have hcz8_0 : w7.cell? ⟨gb110, 0, none⟩ = some (.int .i64 a1_0) := (blk_cell BK110.out 0).trans rfl; have hcz8_1 : w7.cell? ⟨gb110, 1, none⟩ = some (.int .i64 a1_1) := (blk_cell BK110.out 1).trans rfl; have hcz8_2 : w7.cell? ⟨gb110, 2, none⟩ = some (.bool a1_2) := (blk_cell BK110.out 2).trans rfl; have hfz8_0 := blk_frozen BK110.out 0; have hfz8_1 := blk_frozen BK110.out 1; have hfz8_2 := blk_frozen BK110.out 2))
    (try simp only [Act.put, List.setIfInBounds_toArray, List.set_cons_zero, List.set_cons_succ])
    go_cut [10] (fun v10 wc => ∃ (kq : Nat) (x10_5 : Bool), v10 = .bool x10_5 ∧ Aside0 (leap_wrong.j0 kq a2 x10_5 a1_0 a1_1 a1_2 = some r) ∧ Aside0 (kq ≤ k) ∧ Aside0 (wc.heap[gb110]? = some (.cells #[.int .i64 a1_0, .int .i64 a1_1, .bool a1_2] 26 (0, 0))) ∧ Aside0 (Below w.heap.size w wc))
    case first =>
      have H := HC6.out
      clear HC6
      by_cases c9 : a1_0 < 730
      · rw [if_pos c9] at H
        have c9b0 : decide (a1_0 < 730) = true := decide_eq_true c9
        clear c9
        (first | rw [c9b0] | (simp only [i64_w, i32_w]; rw [c9b0]) | skip)
        have H' := Aside0.mk H
        clear H
        go_wp2
        go_meet
        case rel => exact ⟨_, (decide (a1_0 < 730)), (by first | rfl | (simp; done) | (simp [*]; done)), H', ⟨by first | omega | exact Nat.le_refl _⟩, ⟨by (with_reducible repeat (first | refine blk_drewN ?_ _ | refine blk_drew ?_ | refine blk_alloc ?_ _)); exact BK110.out⟩, ⟨by repeat (first | (with_reducible first | exact HB.out | apply below_alloc | apply pw_below_drewN | apply below_drew1 | refine below_set ?_ GE110.out) | exact HB.out)⟩⟩
      · rw [if_neg c9] at H
        have c9b0 : decide (a1_0 < 730) = false := decide_eq_false c9
        clear c9
        (first | rw [c9b0] | (simp only [i64_w, i32_w]; rw [c9b0]) | skip)
        have H' := Aside0.mk H
        clear H
        have hcz10_0 : w7.cell? ⟨gb110, 0, none⟩ = some (.int .i64 a1_0) := (blk_cell BK110.out 0).trans rfl
        have hcz10_1 : w7.cell? ⟨gb110, 1, none⟩ = some (.int .i64 a1_1) := (blk_cell BK110.out 1).trans rfl
        have hcz10_2 : w7.cell? ⟨gb110, 2, none⟩ = some (.bool a1_2) := (blk_cell BK110.out 2).trans rfl
        have hfz10_0 := blk_frozen BK110.out 0
        have hfz10_1 := blk_frozen BK110.out 1
        have hfz10_2 := blk_frozen BK110.out 2
        go_wp2
        go_meet
        case rel => exact ⟨_, (decide (a1_0 ≥ 2932896)), (by first | rfl | (simp; done) | (simp [*]; done)), H', ⟨by first | omega | exact Nat.le_refl _⟩, ⟨by (with_reducible repeat (first | refine blk_drewN ?_ _ | refine blk_drew ?_ | refine blk_alloc ?_ _)); exact BK110.out⟩, ⟨by repeat (first | (with_reducible first | exact HB.out | apply below_alloc | apply pw_below_drewN | apply below_drew1 | refine below_set ?_ GE110.out) | exact HB.out)⟩⟩
    case rest =>
      clear HC6
      try clear c2
      try clear p2
      try clear c4
      try clear c4b0
      try clear c9
      try clear c9b0
      try clear hcz10_0
      try clear hcz10_1
      try clear hcz10_2
      try clear hcz8_0
      try clear hcz8_1
      try clear hcz8_2
      try clear hfz10_0
      try clear hfz10_1
      try clear hfz10_2
      try clear hfz8_0
      try clear hfz8_1
      try clear hfz8_2
      obtain ⟨kq, x10_5, rfl, HA, HJ5, BK110, HB⟩ := hcut
      cases kq with
      | zero => exact absurd HA.out (by simp [leap_wrong.j0])
      | succ kj5 =>
        have H := HA.out
        clear HA
        simp only [leap_wrong.j0] at H
        by_cases c11 : x10_5 = true
        · subst c11
          have H1 : (some 9) = some r := by rw [if_pos rfl] at H; exact H
          clear H
          have H := H1
          clear H1
          obtain rfl := Option.some.inj H
          go_wp2
          go_ret
          exact ⟨by first | rfl | (simp [errW_none, errW_some] <;> rfl) | (simp [*, errW_none, errW_some] <;> rfl), by repeat (first | (with_reducible first | exact HB.out | apply below_alloc | apply pw_below_drewN | apply below_drew1 | refine below_set ?_ GE110.out) | exact HB.out)⟩
        · replace c11 := Bool.eq_false_iff.mpr c11
          subst c11
          have H1 : ((day_End.f kj5 a1_0).bind fun t111 => (if t111 = true then (if a1_1 = 1 then (leap_wrong.j1 kj5 a2 false a1_0 a1_1 a1_2) else (leap_wrong.j1 kj5 a2 (a1_1 != (-1)) a1_0 a1_1 a1_2)) else (some 5))) = some r := by rw [if_neg (show ¬ (false = true) by decide)] at H; exact H
          clear H
          have H := H1
          clear H1
          replace H := Option.bind_eq_some_iff.mp H
          obtain ⟨t111, A120, H⟩ := H
          replace H : (if t111 = true then (if a1_1 = 1 then (leap_wrong.j1 kj5 a2 false a1_0 a1_1 a1_2) else (leap_wrong.j1 kj5 a2 (a1_1 != (-1)) a1_0 a1_1 a1_2)) else (some 5)) = some r := H
          have A12 := Aside0.mk A120
          clear A120
          by_cases c13 : t111 = true
          · subst c13
            have H1 : (if a1_1 = 1 then (leap_wrong.j1 kj5 a2 false a1_0 a1_1 a1_2) else (leap_wrong.j1 kj5 a2 (a1_1 != (-1)) a1_0 a1_1 a1_2)) = some r := by rw [if_pos rfl] at H; exact H
            clear H
            have H := H1
            clear H1
            have HC14 := Aside0.mk H
            clear H
            have hcz15_0 : wc.cell? ⟨gb110, 0, none⟩ = some (.int .i64 a1_0) := (blk_cell BK110.out 0).trans rfl
            have hcz15_1 : wc.cell? ⟨gb110, 1, none⟩ = some (.int .i64 a1_1) := (blk_cell BK110.out 1).trans rfl
            have hcz15_2 : wc.cell? ⟨gb110, 2, none⟩ = some (.bool a1_2) := (blk_cell BK110.out 2).trans rfl
            have hfz15_0 := blk_frozen BK110.out 0
            have hfz15_1 := blk_frozen BK110.out 1
            have hfz15_2 := blk_frozen BK110.out 2
            go_upto_region 8 with (first | ((with_reducible refine gate_callee (f := 34) rfl ?_); refine goesL_ (some 20) rfl rfl Try.func34 (by kernel_rfl) rfl #[.int .i64 a1_0] rfl (by (try simp only [List.map_toArray, List.map_cons, List.map_nil]); first | done | rfl | (simp only [List.length_drop, List.length_take]; rfl)) ?_; (with_reducible refine (day_End.calls kj5 a1_0 true _ A12.out).mono ?_); rintro e w' ⟨rfl, ⟨nd, rfl⟩⟩; refine ⟨_, rfl, ?_⟩))
            (try simp only [Act.put, List.setIfInBounds_toArray, List.set_cons_zero, List.set_cons_succ])
            go_cut [22] (fun v22 wc => ∃ (kq : Nat) (x22_13 : Bool), v22 = .bool x22_13 ∧ Aside0 (leap_wrong.j1 kq a2 x22_13 a1_0 a1_1 a1_2 = some r) ∧ Aside0 (kq ≤ kj5) ∧ Aside0 (wc.heap[gb110]? = some (.cells #[.int .i64 a1_0, .int .i64 a1_1, .bool a1_2] 26 (0, 0))) ∧ Aside0 (Below w.heap.size w wc))
            case first =>
              have H := HC14.out
              clear HC14
              by_cases c16 : a1_1 = 1
              · rw [if_pos c16] at H
                have c16b0 : (a1_1 == 1) = true := beq_iff_eq.mpr c16
                have c16b1 : (a1_1 != 1) = false := bne_eq_false_iff_eq.mpr c16
                clear c16
                (first | rw [c16b0] | (simp only [i64_w, i32_w]; rw [c16b0]) | skip)
                have H' := Aside0.mk H
                clear H
                have hcz17_0 : wc.cell? ⟨gb110, 0, none⟩ = some (.int .i64 a1_0) := (blk_cell BK110.out 0).trans rfl
                have hcz17_1 : wc.cell? ⟨gb110, 1, none⟩ = some (.int .i64 a1_1) := (blk_cell BK110.out 1).trans rfl
                have hcz17_2 : wc.cell? ⟨gb110, 2, none⟩ = some (.bool a1_2) := (blk_cell BK110.out 2).trans rfl
                have hfz17_0 := blk_frozen BK110.out 0
                have hfz17_1 := blk_frozen BK110.out 1
                have hfz17_2 := blk_frozen BK110.out 2
                go_wp2
                go_meet
                case rel => exact ⟨_, (false), (by first | rfl | (simp; done) | (simp [*]; done)), H', ⟨by have := HJ5.out; first | omega | exact Nat.le_refl _⟩, ⟨by (with_reducible repeat (first | refine blk_drewN ?_ _ | refine blk_drew ?_ | refine blk_alloc ?_ _)); exact BK110.out⟩, ⟨by repeat (first | (with_reducible first | exact HB.out | apply below_alloc | apply pw_below_drewN | apply below_drew1 | refine below_set ?_ GE110.out) | exact HB.out)⟩⟩
              · rw [if_neg c16] at H
                have c16b0 : (a1_1 == 1) = false := beq_eq_false_iff_ne.mpr c16
                have c16b1 : (a1_1 != 1) = true := bne_iff_ne.mpr c16
                (first | rw [c16b0] | (simp only [i64_w, i32_w]; rw [c16b0]) | skip)
                have H' := Aside0.mk H
                clear H
                have hcz18_0 : wc.cell? ⟨gb110, 0, none⟩ = some (.int .i64 a1_0) := (blk_cell BK110.out 0).trans rfl
                have hcz18_1 : wc.cell? ⟨gb110, 1, none⟩ = some (.int .i64 a1_1) := (blk_cell BK110.out 1).trans rfl
                have hcz18_2 : wc.cell? ⟨gb110, 2, none⟩ = some (.bool a1_2) := (blk_cell BK110.out 2).trans rfl
                have hfz18_0 := blk_frozen BK110.out 0
                have hfz18_1 := blk_frozen BK110.out 1
                have hfz18_2 := blk_frozen BK110.out 2
                go_wp2
                go_meet
                case rel => exact ⟨_, ((a1_1 != (-1))), (by first | rfl | (simp; done) | (simp [*]; done)), H', ⟨by have := HJ5.out; first | omega | exact Nat.le_refl _⟩, ⟨by (with_reducible repeat (first | refine blk_drewN ?_ _ | refine blk_drew ?_ | refine blk_alloc ?_ _)); exact BK110.out⟩, ⟨by repeat (first | (with_reducible first | exact HB.out | apply below_alloc | apply pw_below_drewN | apply below_drew1 | refine below_set ?_ GE110.out) | exact HB.out)⟩⟩
            case rest =>
              clear HC14
              try clear c1
              try clear c2
              try clear p2
              try clear c3
              try clear c4
              try clear c4b0
              try clear c9
              try clear c9b0
              try clear c11
              try clear c13
              try clear c16
              try clear c16b0
              try clear c16b1
              try clear hcz10_0
              try clear hcz10_1
              try clear hcz10_2
              try clear hcz15_0
              try clear hcz15_1
              try clear hcz15_2
              try clear hcz17_0
              try clear hcz17_1
              try clear hcz17_2
              try clear hcz18_0
              try clear hcz18_1
              try clear hcz18_2
              try clear hcz8_0
              try clear hcz8_1
              try clear hcz8_2
              try clear hfz10_0
              try clear hfz10_1
              try clear hfz10_2
              try clear hfz15_0
              try clear hfz15_1
              try clear hfz15_2
              try clear hfz17_0
              try clear hfz17_1
              try clear hfz17_2
              try clear hfz18_0
              try clear hfz18_1
              try clear hfz18_2
              try clear hfz8_0
              try clear hfz8_1
              try clear hfz8_2
              try clear p2
              obtain ⟨kq, x22_13, rfl, HA, HJ13, BK110, HB⟩ := hcut
              cases kq with
              | zero => exact absurd HA.out (by simp [leap_wrong.j1])
              | succ kj13 =>
                have H := HA.out
                clear HA
                simp only [leap_wrong.j1] at H
                by_cases c19 : x22_13 = true
                · subst c19
                  have H1 : (some 6) = some r := by rw [if_pos rfl] at H; exact H
                  clear H
                  have H := H1
                  clear H1
                  obtain rfl := Option.some.inj H
                  go_wp2
                  go_ret
                  exact ⟨by first | rfl | (simp [errW_none, errW_some] <;> rfl) | (simp [*, errW_none, errW_some] <;> rfl), by repeat (first | (with_reducible first | exact HB.out | apply below_alloc | apply pw_below_drewN | apply below_drew1 | refine below_set ?_ GE110.out) | exact HB.out)⟩
                · replace c19 := Bool.eq_false_iff.mpr c19
                  subst c19
                  have H1 : (if a1_0 ≤ a2 then (some 4) else (some 0)) = some r := by rw [if_neg (show ¬ (false = true) by decide)] at H; exact H
                  clear H
                  have H := H1
                  clear H1
                  by_cases c20 : a1_0 ≤ a2
                  · rw [if_pos c20] at H
                    have c20b0 : decide (a1_0 ≤ a2) = true := decide_eq_true c20
                    clear c20
                    obtain rfl := Option.some.inj H
                    have hcz21_0 : wc.cell? ⟨gb110, 0, none⟩ = some (.int .i64 a1_0) := (blk_cell BK110.out 0).trans rfl
                    have hcz21_1 : wc.cell? ⟨gb110, 1, none⟩ = some (.int .i64 a1_1) := (blk_cell BK110.out 1).trans rfl
                    have hcz21_2 : wc.cell? ⟨gb110, 2, none⟩ = some (.bool a1_2) := (blk_cell BK110.out 2).trans rfl
                    have hfz21_0 := blk_frozen BK110.out 0
                    have hfz21_1 := blk_frozen BK110.out 1
                    have hfz21_2 := blk_frozen BK110.out 2
                    go_wp2
                    go_ret
                    exact ⟨by first | rfl | (simp [errW_none, errW_some] <;> rfl) | (simp [*, errW_none, errW_some] <;> rfl), by repeat (first | (with_reducible first | exact HB.out | apply below_alloc | apply pw_below_drewN | apply below_drew1 | refine below_set ?_ GE110.out) | exact HB.out)⟩
                  · rw [if_neg c20] at H
                    have c20b0 : decide (a1_0 ≤ a2) = false := decide_eq_false c20
                    clear c20
                    obtain rfl := Option.some.inj H
                    have hcz22_0 : wc.cell? ⟨gb110, 0, none⟩ = some (.int .i64 a1_0) := (blk_cell BK110.out 0).trans rfl
                    have hcz22_1 : wc.cell? ⟨gb110, 1, none⟩ = some (.int .i64 a1_1) := (blk_cell BK110.out 1).trans rfl
                    have hcz22_2 : wc.cell? ⟨gb110, 2, none⟩ = some (.bool a1_2) := (blk_cell BK110.out 2).trans rfl
                    have hfz22_0 := blk_frozen BK110.out 0
                    have hfz22_1 := blk_frozen BK110.out 1
                    have hfz22_2 := blk_frozen BK110.out 2
                    go_wp2
                    go_ret
                    exact ⟨by first | rfl | (simp [errW_none, errW_some] <;> rfl) | (simp [*, errW_none, errW_some] <;> rfl), by repeat (first | (with_reducible first | exact HB.out | apply below_alloc | apply pw_below_drewN | apply below_drew1 | refine below_set ?_ GE110.out) | exact HB.out)⟩
          · replace c13 := Bool.eq_false_iff.mpr c13
            subst c13
            have H1 : (some 5) = some r := by rw [if_neg (show ¬ (false = true) by decide)] at H; exact H
            clear H
            have H := H1
            clear H1
            obtain rfl := Option.some.inj H
            have hcz23_0 : wc.cell? ⟨gb110, 0, none⟩ = some (.int .i64 a1_0) := (blk_cell BK110.out 0).trans rfl
            have hcz23_1 : wc.cell? ⟨gb110, 1, none⟩ = some (.int .i64 a1_1) := (blk_cell BK110.out 1).trans rfl
            have hcz23_2 : wc.cell? ⟨gb110, 2, none⟩ = some (.bool a1_2) := (blk_cell BK110.out 2).trans rfl
            have hfz23_0 := blk_frozen BK110.out 0
            have hfz23_1 := blk_frozen BK110.out 1
            have hfz23_2 := blk_frozen BK110.out 2
            go_wp2_with (first | ((with_reducible refine gate_callee (f := 34) rfl ?_); refine goesL_ (some 20) rfl rfl Try.func34 (by kernel_rfl) rfl #[.int .i64 a1_0] rfl (by (try simp only [List.map_toArray, List.map_cons, List.map_nil]); first | done | rfl | (simp only [List.length_drop, List.length_take]; rfl)) ?_; (with_reducible refine (day_End.calls kj5 a1_0 false _ A12.out).mono ?_); rintro e w' ⟨rfl, ⟨nd, rfl⟩⟩; refine ⟨_, rfl, ?_⟩))
            go_ret
            exact ⟨by first | rfl | (simp [errW_none, errW_some] <;> rfl) | (simp [*, errW_none, errW_some] <;> rfl), by repeat (first | (with_reducible first | exact HB.out | apply below_alloc | apply pw_below_drewN | apply below_drew1 | refine below_set ?_ GE110.out) | exact HB.out)⟩

end Go.Proofs.Ytfmibhepehhljaa.PAll
