-- Written for this claim by wip/tools of this repo (after the kit's print; own contracts laid in).
import Derived.Test.YthoigncoojcanaaPAllx0
import Derived.Test.YthoigncoojcanaaShort
import Derived.Test.YthoigncoojcanaaPAllx2
namespace Go.Proofs.Ythoigncoojcanaa.PAll
open Go.RowKit Go.Proofs.YthoigncoojcanaaW.PrintWords Go.Proofs.YthoigncoojcanaaW.PrintLast Go.Proofs.YthoigncoojcanaaW.PrintMore
attribute [local go_sem] max2_int min2_int max_two min_two max_three min_three max_four min_four   -- for this text's walks alone
set_option linter.unusedVariables false
set_option linter.unusedSimpArgs false

/-! ### day_Last: function 115 -/
-- by hand: wip/hand
/-- the months' days, of a year that is no leap year -/
def day_Last.tab (m : Int) : Int := if m = 2 then 28 else if m = 4 ∨ m = 6 ∨ m = 9 ∨ m = 11 then 30 else 31
def day_Last.f (a0 : Int) (a1 : Int) : Option (Int × Bool) :=
 if a0 < 1 ∨ a0 > 9999 ∨ a1 < 1 ∨ a1 > 12 then some (0, false)
 else if a1 = 2 then (day_Leap.f a0).bind fun t => some (if t = true then 29 else 28, true)
 else some (day_Last.tab a1, true)
theorem day_Last.at0 (w : World) : (Instr.index 107 (.agg #[.int .i64 31, .int .i64 28, .int .i64 31, .int .i64 30, .int .i64 31, .int .i64 30, .int .i64 31, .int .i64 31, .int .i64 30, .int .i64 31, .int .i64 30, .int .i64 31]) (.int .i64 0)).run Try.prog w = .ok (.int .i64 31) w := by kernel_rfl
theorem day_Last.at1 (w : World) : (Instr.index 107 (.agg #[.int .i64 31, .int .i64 28, .int .i64 31, .int .i64 30, .int .i64 31, .int .i64 30, .int .i64 31, .int .i64 31, .int .i64 30, .int .i64 31, .int .i64 30, .int .i64 31]) (.int .i64 1)).run Try.prog w = .ok (.int .i64 28) w := by kernel_rfl
theorem day_Last.at2 (w : World) : (Instr.index 107 (.agg #[.int .i64 31, .int .i64 28, .int .i64 31, .int .i64 30, .int .i64 31, .int .i64 30, .int .i64 31, .int .i64 31, .int .i64 30, .int .i64 31, .int .i64 30, .int .i64 31]) (.int .i64 2)).run Try.prog w = .ok (.int .i64 31) w := by kernel_rfl
theorem day_Last.at3 (w : World) : (Instr.index 107 (.agg #[.int .i64 31, .int .i64 28, .int .i64 31, .int .i64 30, .int .i64 31, .int .i64 30, .int .i64 31, .int .i64 31, .int .i64 30, .int .i64 31, .int .i64 30, .int .i64 31]) (.int .i64 3)).run Try.prog w = .ok (.int .i64 30) w := by kernel_rfl
theorem day_Last.at4 (w : World) : (Instr.index 107 (.agg #[.int .i64 31, .int .i64 28, .int .i64 31, .int .i64 30, .int .i64 31, .int .i64 30, .int .i64 31, .int .i64 31, .int .i64 30, .int .i64 31, .int .i64 30, .int .i64 31]) (.int .i64 4)).run Try.prog w = .ok (.int .i64 31) w := by kernel_rfl
theorem day_Last.at5 (w : World) : (Instr.index 107 (.agg #[.int .i64 31, .int .i64 28, .int .i64 31, .int .i64 30, .int .i64 31, .int .i64 30, .int .i64 31, .int .i64 31, .int .i64 30, .int .i64 31, .int .i64 30, .int .i64 31]) (.int .i64 5)).run Try.prog w = .ok (.int .i64 30) w := by kernel_rfl
theorem day_Last.at6 (w : World) : (Instr.index 107 (.agg #[.int .i64 31, .int .i64 28, .int .i64 31, .int .i64 30, .int .i64 31, .int .i64 30, .int .i64 31, .int .i64 31, .int .i64 30, .int .i64 31, .int .i64 30, .int .i64 31]) (.int .i64 6)).run Try.prog w = .ok (.int .i64 31) w := by kernel_rfl
theorem day_Last.at7 (w : World) : (Instr.index 107 (.agg #[.int .i64 31, .int .i64 28, .int .i64 31, .int .i64 30, .int .i64 31, .int .i64 30, .int .i64 31, .int .i64 31, .int .i64 30, .int .i64 31, .int .i64 30, .int .i64 31]) (.int .i64 7)).run Try.prog w = .ok (.int .i64 31) w := by kernel_rfl
theorem day_Last.at8 (w : World) : (Instr.index 107 (.agg #[.int .i64 31, .int .i64 28, .int .i64 31, .int .i64 30, .int .i64 31, .int .i64 30, .int .i64 31, .int .i64 31, .int .i64 30, .int .i64 31, .int .i64 30, .int .i64 31]) (.int .i64 8)).run Try.prog w = .ok (.int .i64 30) w := by kernel_rfl
theorem day_Last.at9 (w : World) : (Instr.index 107 (.agg #[.int .i64 31, .int .i64 28, .int .i64 31, .int .i64 30, .int .i64 31, .int .i64 30, .int .i64 31, .int .i64 31, .int .i64 30, .int .i64 31, .int .i64 30, .int .i64 31]) (.int .i64 9)).run Try.prog w = .ok (.int .i64 31) w := by kernel_rfl
theorem day_Last.at10 (w : World) : (Instr.index 107 (.agg #[.int .i64 31, .int .i64 28, .int .i64 31, .int .i64 30, .int .i64 31, .int .i64 30, .int .i64 31, .int .i64 31, .int .i64 30, .int .i64 31, .int .i64 30, .int .i64 31]) (.int .i64 10)).run Try.prog w = .ok (.int .i64 30) w := by kernel_rfl
theorem day_Last.at11 (w : World) : (Instr.index 107 (.agg #[.int .i64 31, .int .i64 28, .int .i64 31, .int .i64 30, .int .i64 31, .int .i64 30, .int .i64 31, .int .i64 31, .int .i64 30, .int .i64 31, .int .i64 30, .int .i64 31]) (.int .i64 11)).run Try.prog w = .ok (.int .i64 31) w := by kernel_rfl
set_option maxHeartbeats 8000000 in
set_option maxRecDepth 100000 in
theorem day_Last.calls (a0 : Int) (a1 : Int) (r1 : Int) (r2 : Bool) (w : World) (h : day_Last.f a0 a1 = some (r1, r2)) :
  Calls Try.prog 115 #[.int .i64 a0, .int .i64 a1] w fun e w' => e = .returned (.tuple #[.int .i64 r1, .bool r2]) ∧ Drawn0 w w' := by
 have H : (if a0 < 1 ∨ a0 > 9999 ∨ a1 < 1 ∨ a1 > 12 then some (0, false) else if a1 = 2 then (day_Leap.f a0).bind fun t => some (if t = true then 29 else 28, true) else some (day_Last.tab a1, true)) = some (r1, r2) := h
 clear h
 by_cases c1 : a0 < 1 ∨ a0 > 9999 ∨ a1 < 1 ∨ a1 > 12
 ·rw [if_pos c1] at H
  simp only [Option.some.injEq, Prod.mk.injEq] at H
  obtain ⟨rfl, rfl⟩ := H
  have HX := Aside0.mk c1
  by_cases c2 : a0 < 1
  ·clear c1
   have b2 : decide (a0 < 1) = true := decide_eq_true c2
   go_enter Try.func115, Try.ntmps115
   go_wp2
   repeat (go_quiet (fail); try go_wp2)
   go_ret2
   exact ⟨rfl, by repeat (first | exact Drawn0.refl _ | apply Drawn0.step)⟩
  ·have b2 : decide (a0 < 1) = false := decide_eq_false c2
   by_cases c3 : 9999 < a0
   ·clear c1
    have b3 : decide (9999 < a0) = true := decide_eq_true c3
    go_enter Try.func115, Try.ntmps115
    go_wp2
    repeat (go_quiet (fail); try go_wp2)
    go_ret2
    exact ⟨rfl, by repeat (first | exact Drawn0.refl _ | apply Drawn0.step)⟩
   ·have b3 : decide (9999 < a0) = false := decide_eq_false c3
    by_cases c4 : a1 < 1
    ·clear c1
     have b4 : decide (a1 < 1) = true := decide_eq_true c4
     go_enter Try.func115, Try.ntmps115
     go_wp2
     repeat (go_quiet (fail); try go_wp2)
     go_ret2
     exact ⟨rfl, by repeat (first | exact Drawn0.refl _ | apply Drawn0.step)⟩
    ·have b4 : decide (a1 < 1) = false := decide_eq_false c4
     have c5 : 12 < a1 := by omega
     clear c1
     have b5 : decide (12 < a1) = true := decide_eq_true c5
     go_enter Try.func115, Try.ntmps115
     go_wp2
     repeat (go_quiet (fail); try go_wp2)
     go_ret2
     exact ⟨rfl, by repeat (first | exact Drawn0.refl _ | apply Drawn0.step)⟩
 ·rw [if_neg c1] at H
  have b2 : decide (a0 < 1) = false := decide_eq_false (by omega)
  have b3 : decide (9999 < a0) = false := decide_eq_false (by omega)
  have c4 : a1 = 1 ∨ a1 = 2 ∨ a1 = 3 ∨ a1 = 4 ∨ a1 = 5 ∨ a1 = 6 ∨ a1 = 7 ∨ a1 = 8 ∨ a1 = 9 ∨ a1 = 10 ∨ a1 = 11 ∨ a1 = 12 := by omega
  clear c1
  rcases c4 with rfl | rfl | rfl | rfl | rfl | rfl | rfl | rfl | rfl | rfl | rfl | rfl
  case inr.inl =>
   rw [if_pos rfl] at H
   cases hl : day_Leap.f a0 with
   | none => rw [hl] at H; exact absurd H (by simp)
   | some t =>
    rw [hl] at H
    have hc := day_Leap.calls a0 t
    have HC := Aside0.mk hc
    clear hc
    have HL := Aside0.mk hl
    clear hl
    have hix := day_Last.at1
    cases t with
    | true =>
     simp only [Option.bind_some, if_true, Option.some.injEq, Prod.mk.injEq] at H
     obtain ⟨rfl, rfl⟩ := H
     go_enter Try.func115, Try.ntmps115
     go_wp2_with (go_at_call 117; refine (HC.out _ HL.out).mono ?_; rintro e w' ⟨rfl, hd⟩)
     go_ret2
     exact ⟨rfl, by repeat (first | exact Drawn0.refl _ | exact hd | apply Drawn0.step)⟩
    | false =>
     simp only [Option.bind_some, Bool.false_eq_true, if_false, Option.some.injEq, Prod.mk.injEq] at H
     obtain ⟨rfl, rfl⟩ := H
     go_enter Try.func115, Try.ntmps115
     go_wp2_with (go_at_call 117; refine (HC.out _ HL.out).mono ?_; rintro e w' ⟨rfl, hd⟩)
     go_ret2
     exact ⟨rfl, by repeat (first | exact Drawn0.refl _ | exact hd | apply Drawn0.step)⟩
  ·rw [if_neg (by omega)] at H
   simp only [day_Last.tab] at H
   simp at H
   obtain ⟨rfl, rfl⟩ := H
   have hix := day_Last.at0
   go_enter Try.func115, Try.ntmps115
   go_wp2
   repeat (go_quiet (fail); try go_wp2)
   go_ret2
   exact ⟨rfl, by repeat (first | exact Drawn0.refl _ | apply Drawn0.step)⟩
  ·rw [if_neg (by omega)] at H
   simp only [day_Last.tab] at H
   simp at H
   obtain ⟨rfl, rfl⟩ := H
   have hix := day_Last.at2
   go_enter Try.func115, Try.ntmps115
   go_wp2
   repeat (go_quiet (fail); try go_wp2)
   go_ret2
   exact ⟨rfl, by repeat (first | exact Drawn0.refl _ | apply Drawn0.step)⟩
  ·rw [if_neg (by omega)] at H
   simp only [day_Last.tab] at H
   simp at H
   obtain ⟨rfl, rfl⟩ := H
   have hix := day_Last.at3
   go_enter Try.func115, Try.ntmps115
   go_wp2
   repeat (go_quiet (fail); try go_wp2)
   go_ret2
   exact ⟨rfl, by repeat (first | exact Drawn0.refl _ | apply Drawn0.step)⟩
  ·rw [if_neg (by omega)] at H
   simp only [day_Last.tab] at H
   simp at H
   obtain ⟨rfl, rfl⟩ := H
   have hix := day_Last.at4
   go_enter Try.func115, Try.ntmps115
   go_wp2
   repeat (go_quiet (fail); try go_wp2)
   go_ret2
   exact ⟨rfl, by repeat (first | exact Drawn0.refl _ | apply Drawn0.step)⟩
  ·rw [if_neg (by omega)] at H
   simp only [day_Last.tab] at H
   simp at H
   obtain ⟨rfl, rfl⟩ := H
   have hix := day_Last.at5
   go_enter Try.func115, Try.ntmps115
   go_wp2
   repeat (go_quiet (fail); try go_wp2)
   go_ret2
   exact ⟨rfl, by repeat (first | exact Drawn0.refl _ | apply Drawn0.step)⟩
  ·rw [if_neg (by omega)] at H
   simp only [day_Last.tab] at H
   simp at H
   obtain ⟨rfl, rfl⟩ := H
   have hix := day_Last.at6
   go_enter Try.func115, Try.ntmps115
   go_wp2
   repeat (go_quiet (fail); try go_wp2)
   go_ret2
   exact ⟨rfl, by repeat (first | exact Drawn0.refl _ | apply Drawn0.step)⟩
  ·rw [if_neg (by omega)] at H
   simp only [day_Last.tab] at H
   simp at H
   obtain ⟨rfl, rfl⟩ := H
   have hix := day_Last.at7
   go_enter Try.func115, Try.ntmps115
   go_wp2
   repeat (go_quiet (fail); try go_wp2)
   go_ret2
   exact ⟨rfl, by repeat (first | exact Drawn0.refl _ | apply Drawn0.step)⟩
  ·rw [if_neg (by omega)] at H
   simp only [day_Last.tab] at H
   simp at H
   obtain ⟨rfl, rfl⟩ := H
   have hix := day_Last.at8
   go_enter Try.func115, Try.ntmps115
   go_wp2
   repeat (go_quiet (fail); try go_wp2)
   go_ret2
   exact ⟨rfl, by repeat (first | exact Drawn0.refl _ | apply Drawn0.step)⟩
  ·rw [if_neg (by omega)] at H
   simp only [day_Last.tab] at H
   simp at H
   obtain ⟨rfl, rfl⟩ := H
   have hix := day_Last.at9
   go_enter Try.func115, Try.ntmps115
   go_wp2
   repeat (go_quiet (fail); try go_wp2)
   go_ret2
   exact ⟨rfl, by repeat (first | exact Drawn0.refl _ | apply Drawn0.step)⟩
  ·rw [if_neg (by omega)] at H
   simp only [day_Last.tab] at H
   simp at H
   obtain ⟨rfl, rfl⟩ := H
   have hix := day_Last.at10
   go_enter Try.func115, Try.ntmps115
   go_wp2
   repeat (go_quiet (fail); try go_wp2)
   go_ret2
   exact ⟨rfl, by repeat (first | exact Drawn0.refl _ | apply Drawn0.step)⟩
  ·rw [if_neg (by omega)] at H
   simp only [day_Last.tab] at H
   simp at H
   obtain ⟨rfl, rfl⟩ := H
   have hix := day_Last.at11
   go_enter Try.func115, Try.ntmps115
   go_wp2
   repeat (go_quiet (fail); try go_wp2)
   go_ret2
   exact ⟨rfl, by repeat (first | exact Drawn0.refl _ | apply Drawn0.step)⟩

/-! ### day_End: function 109 -/
def day_End.f (k : Nat) (a0 : Int) : Option (Bool) := (day_Date.f k a0).bind fun bt111 => ((day_Last.f bt111.1 bt111.2.1).bind fun bt115 => (if bt111.2.2.2 = true then (some (bt111.2.2.1 == bt115.1)) else (some false)))
theorem day_End.mono : ∀ a0 k, LeO (day_End.f k a0) (day_End.f (k + 1) a0) := by
 intro a0 k
 unfold day_End.f
 repeat' first
   | (with_reducible exact day_Date.mono _ _)
   | (with_reducible exact LeO.refl _)
   | (with_reducible exact LeO.none _)
   | (with_reducible refine LeO.ite ?_ ?_)
   | (with_reducible refine LeO.bind ?_ (fun _ => ?_))
set_option maxHeartbeats 8000000 in
set_option maxRecDepth 100000 in
theorem day_End.calls (k : Nat) (a0 : Int) (r : Bool) (w : World) (h : day_End.f k a0 = some r) :
  Calls Try.prog 109 #[.int .i64 a0] w fun e w' => e = .returned (.bool r) ∧ Drawn0 w w' := by
 have H : ((day_Date.f k a0).bind fun bt111 => ((day_Last.f bt111.1 bt111.2.1).bind fun bt115 => (if bt111.2.2.2 = true then (some (bt111.2.2.1 == bt115.1)) else (some false)))) = some r := h
 clear h
 obtain ⟨⟨t111, t112, t113, t114⟩, A2, H⟩ := bnd H
 try dsimp only at H
 obtain ⟨⟨t115, t116⟩, A3, H⟩ := bnd H
 try dsimp only at H
 by_cases c4 : t114 = true
 ·subst c4
  rw [if_pos rfl] at H
  obtain rfl := Option.some.inj H
  go_enter Try.func109, Try.ntmps109
  go_wp2_with (first | (refine gN (some 11) Try.func114 #[.int .i64 a0] (day_Date.calls k a0 t111 t112 t113 true _ A2.out) ?_; intro nd) | (refine gN (some 19) Try.func115 #[.int .i64 t111, .int .i64 t112] (day_Last.calls t111 t112 t115 t116 _ A3.out) ?_; intro nd))
  go_ret
  exact fd
 ·replace c4 := Bool.eq_false_iff.mpr c4
  subst c4
  rw [if_neg (show ¬ (false = true) by decide)] at H
  obtain rfl := Option.some.inj H
  go_enter Try.func109, Try.ntmps109
  go_wp2_with (first | (refine gN (some 11) Try.func114 #[.int .i64 a0] (day_Date.calls k a0 t111 t112 t113 false _ A2.out) ?_; intro nd) | (refine gN (some 19) Try.func115 #[.int .i64 t111, .int .i64 t112] (day_Last.calls t111 t112 t115 t116 _ A3.out) ?_; intro nd))
  go_ret
  exact fd

/-! ### leap_wrong: function 102 -/
mutual
def leap_wrong.j0 : Nat → Int → Bool → Int → Int → Bool → Option (Int)
 | 0, _, _, _, _, _ => none
 | k + 1, x2, x10, x118000, x118001, x118002 => if x10 = true then (some 9) else ((day_End.f k x118000).bind fun t118 => (if t118 = true then (if x118001 = 1 then (leap_wrong.j1 k x2 false x118000 x118001 x118002) else (leap_wrong.j1 k x2 (x118001 != (-1)) x118000 x118001 x118002)) else (some 5)))
def leap_wrong.j1 : Nat → Int → Bool → Int → Int → Bool → Option (Int)
 | 0, _, _, _, _, _ => none
 | k + 1, x2, x22, x118000, x118001, x118002 => if x22 = true then (some 6) else (if x118000 ≤ x2 then (some 4) else (some 0))
end
def leap_wrong.f (k : Nat) (a0 : Int) (a1_0 : Int) (a1_1 : Int) (a1_2 : Bool) (a2 : Int) : Option (Int) := if a0 ≥ 200 then (some 8) else (if a1_0 < 730 then (leap_wrong.j0 k a2 (decide (a1_0 < 730)) a1_0 a1_1 a1_2) else (leap_wrong.j0 k a2 (decide (a1_0 ≥ 2932896)) a1_0 a1_1 a1_2))
theorem leap_wrong.mono_l : ∀ k, (∀ y0 y1 y2 y3 y4, LeO (leap_wrong.j0 k y0 y1 y2 y3 y4) (leap_wrong.j0 (k + 1) y0 y1 y2 y3 y4)) ∧ (∀ y0 y1 y2 y3 y4, LeO (leap_wrong.j1 k y0 y1 y2 y3 y4) (leap_wrong.j1 (k + 1) y0 y1 y2 y3 y4))
 | 0 => ⟨fun _ _ _ _ _ r h => by simp [leap_wrong.j0] at h, fun _ _ _ _ _ r h => by simp [leap_wrong.j1] at h⟩
 | k + 1 => by
  obtain ⟨ih0, ih1⟩ := leap_wrong.mono_l k
  refine ⟨?_, ?_⟩
  ·intro y0 y1 y2 y3 y4
   unfold leap_wrong.j0
   repeat' first
   | (with_reducible exact ih0 _ _ _ _ _)
   | (with_reducible exact ih1 _ _ _ _ _)
   | (with_reducible exact day_End.mono _ _)
   | (with_reducible exact LeO.refl _)
   | (with_reducible exact LeO.none _)
   | (with_reducible refine LeO.ite ?_ ?_)
   | (with_reducible refine LeO.bind ?_ (fun _ => ?_))
  ·intro y0 y1 y2 y3 y4
   unfold leap_wrong.j1
   repeat' first
   | (with_reducible exact ih0 _ _ _ _ _)
   | (with_reducible exact ih1 _ _ _ _ _)
   | (with_reducible exact day_End.mono _ _)
   | (with_reducible exact LeO.refl _)
   | (with_reducible exact LeO.none _)
   | (with_reducible refine LeO.ite ?_ ?_)
   | (with_reducible refine LeO.bind ?_ (fun _ => ?_))
theorem leap_wrong.mono : ∀ a0 a1 a2 a3 a4 k, LeO (leap_wrong.f k a0 a1 a2 a3 a4) (leap_wrong.f (k + 1) a0 a1 a2 a3 a4) := by
 intro a0 a1 a2 a3 a4 k
 obtain ⟨ih0, ih1⟩ := leap_wrong.mono_l k
 unfold leap_wrong.f
 repeat' first
   | (with_reducible exact ih0 _ _ _ _ _)
   | (with_reducible exact ih1 _ _ _ _ _)
   | (with_reducible exact day_End.mono _ _)
   | (with_reducible exact LeO.refl _)
   | (with_reducible exact LeO.none _)
   | (with_reducible refine LeO.ite ?_ ?_)
   | (with_reducible refine LeO.bind ?_ (fun _ => ?_))
set_option maxHeartbeats 8000000 in
set_option maxRecDepth 100000 in
theorem leap_wrong.calls (k : Nat) (a0 : Int) (a1_0 : Int) (a1_1 : Int) (a1_2 : Bool) (a2 : Int) (r : Int) (w : World) (h : leap_wrong.f k a0 a1_0 a1_1 a1_2 a2 = some r) :
  Calls Try.prog 102 #[.int .i64 a0, .agg #[.int .i64 a1_0, .int .i64 a1_1, .bool a1_2], .int .i64 a2] w fun e w' => e = .returned (.int .i64 r) ∧ Below w.heap.size w w' := by
 have hu49 := Try.underlying49
 have HB := Aside0.mk (Below.refl w.heap.size w)
 have H : (if a0 ≥ 200 then (some 8) else (if a1_0 < 730 then (leap_wrong.j0 k a2 (decide (a1_0 < 730)) a1_0 a1_1 a1_2) else (leap_wrong.j0 k a2 (decide (a1_0 ≥ 2932896)) a1_0 a1_1 a1_2))) = some r := h
 clear h
 by_cases c4 : a0 ≥ 200
 ·rw [if_pos c4] at H
  have c4b0 : decide (200 ≤ a0) = true := decide_eq_true c4
  clear c4
  obtain rfl := Option.some.inj H
  go_enter Try.func102, Try.ntmps102
  go_wp2_with (first | (refine bx 4 #[.int .i64 a1_0, .int .i64 a1_1, .bool a1_2] 49 ?_; intro gb117 hg w5 hbox hb; have n1_ := Aside0.mk (hbox); have GW117 := gw HB hg; have GE117 := gw HB hg; replace HB := bs HB hb; have BK117 := n1_; clear n1_; clear hb hbox hg))
  go_ret
  exact fi HB
 ·rw [if_neg c4] at H
  have c4b0 : decide (200 ≤ a0) = false := decide_eq_false c4
  clear c4
  have HC6 := Aside0.mk H
  clear H
  go_enter Try.func102, Try.ntmps102
  go_upto_if 10 with (first | (refine bx 4 #[.int .i64 a1_0, .int .i64 a1_1, .bool a1_2] 49 ?_; intro gb117 hg w7 hbox hb; have n1_ := Aside0.mk (hbox); have GW117 := gw HB hg; have GE117 := gw HB hg; replace HB := bs HB hb; have BK117 := n1_; clear n1_; clear hb hbox hg; have hcz8_0 := bc BK117 0; have hcz8_1 := bc BK117 1; have hcz8_2 := bc BK117 2; have hfz8_0 := bf BK117 0; have hfz8_1 := bf BK117 1; have hfz8_2 := bf BK117 2))
  (try simp only [Act.put, List.setIfInBounds_toArray, List.set_cons_zero, List.set_cons_succ])
  go_cut [10] (fun v10 wc => ∃ (kq : Nat) (x10_5 : Bool), v10 = .bool x10_5 ∧ Aside0 (leap_wrong.j0 kq a2 x10_5 a1_0 a1_1 a1_2 = some r) ∧ Aside0 (kq ≤ k) ∧ Aside0 (wc.heap[gb117]? = some (.cells #[.int .i64 a1_0, .int .i64 a1_1, .bool a1_2] 49 (0, 0))) ∧ Aside0 (Below w.heap.size w wc))
  case first =>
   have H := HC6.out
   clear HC6
   by_cases c9 : a1_0 < 730
   ·rw [if_pos c9] at H
    have c9b0 : decide (a1_0 < 730) = true := decide_eq_true c9
    clear c9
    (first | rw [c9b0] | (simp only [i64_w, i32_w]; rw [c9b0]) | skip)
    have H' := Aside0.mk H
    clear H
    go_wp2
    go_meet
    case rel => exact ⟨_, (decide (a1_0 < 730)), pr, H', om, ka BK117, ba HB⟩
   ·rw [if_neg c9] at H
    have c9b0 : decide (a1_0 < 730) = false := decide_eq_false c9
    clear c9
    (first | rw [c9b0] | (simp only [i64_w, i32_w]; rw [c9b0]) | skip)
    have H' := Aside0.mk H
    clear H
    have hcz10_0 := bc BK117 0
    have hcz10_1 := bc BK117 1
    have hcz10_2 := bc BK117 2
    have hfz10_0 := bf BK117 0
    have hfz10_1 := bf BK117 1
    have hfz10_2 := bf BK117 2
    go_wp2
    go_meet
    case rel => exact ⟨_, (decide (a1_0 ≥ 2932896)), pr, H', om, ka BK117, ba HB⟩
  case rest =>
   clear HC6
   try clear c1
   try clear p2
   try clear c4
   try clear c4b0
   try clear c9
   try clear c9b0
   try clear c10
   try clear hcz10_0
   try clear hcz10_1
   try clear hcz10_2
   try clear hcz8_0
   try clear hcz8_1
   try clear hcz8_2
   try clear hfz10_0
   try clear hfz10_1
   try clear hfz10_2
   try clear hfz8_0
   try clear hfz8_1
   try clear hfz8_2
   obtain ⟨kq, x10_5, rfl, HA, HJ5, BK117, HB⟩ := hcut
   cases kq with
   | zero => exact absurd HA.out (by simp [leap_wrong.j0])
   | succ kj5 =>
    have H := HA.out
    clear HA
    simp only [leap_wrong.j0] at H
    by_cases c11 : x10_5 = true
    ·subst c11
     rw [if_pos rfl] at H
     obtain rfl := Option.some.inj H
     go_wp2
     go_ret
     exact fi HB
    ·replace c11 := Bool.eq_false_iff.mpr c11
     subst c11
     rw [if_neg (show ¬ (false = true) by decide)] at H
     obtain ⟨t118, A12, H⟩ := bnd H
     try dsimp only at H
     by_cases c13 : t118 = true
     ·subst c13
      rw [if_pos rfl] at H
      have HC14 := Aside0.mk H
      clear H
      have hcz15_0 := bc BK117 0
      have hcz15_1 := bc BK117 1
      have hcz15_2 := bc BK117 2
      have hfz15_0 := bf BK117 0
      have hfz15_1 := bf BK117 1
      have hfz15_2 := bf BK117 2
      go_upto_region 8 with (first | (refine gN (some 20) Try.func109 #[.int .i64 a1_0] (day_End.calls kj5 a1_0 true _ A12.out) ?_; intro nd))
      (try simp only [Act.put, List.setIfInBounds_toArray, List.set_cons_zero, List.set_cons_succ])
      go_cut [22] (fun v22 wc => ∃ (kq : Nat) (x22_13 : Bool), v22 = .bool x22_13 ∧ Aside0 (leap_wrong.j1 kq a2 x22_13 a1_0 a1_1 a1_2 = some r) ∧ Aside0 (kq ≤ kj5) ∧ Aside0 (wc.heap[gb117]? = some (.cells #[.int .i64 a1_0, .int .i64 a1_1, .bool a1_2] 49 (0, 0))) ∧ Aside0 (Below w.heap.size w wc))
      case first =>
       have H := HC14.out
       clear HC14
       by_cases c16 : a1_1 = 1
       ·rw [if_pos c16] at H
        have c16b0 : (a1_1 == 1) = true := beq_iff_eq.mpr c16
        have c16b1 : (a1_1 != 1) = false := bne_eq_false_iff_eq.mpr c16
        clear c16
        (first | rw [c16b0] | (simp only [i64_w, i32_w]; rw [c16b0]) | skip)
        have H' := Aside0.mk H
        clear H
        have hcz17_0 := bc BK117 0
        have hcz17_1 := bc BK117 1
        have hcz17_2 := bc BK117 2
        have hfz17_0 := bf BK117 0
        have hfz17_1 := bf BK117 1
        have hfz17_2 := bf BK117 2
        go_wp2
        go_meet
        case rel => exact ⟨_, (false), pr, H', ⟨by have := HJ5.out; first | omega | exact Nat.le_refl _⟩, ka BK117, ba HB⟩
       ·rw [if_neg c16] at H
        have c16b0 : (a1_1 == 1) = false := beq_eq_false_iff_ne.mpr c16
        have c16b1 : (a1_1 != 1) = true := bne_iff_ne.mpr c16
        (first | rw [c16b0] | (simp only [i64_w, i32_w]; rw [c16b0]) | skip)
        have H' := Aside0.mk H
        clear H
        have hcz18_0 := bc BK117 0
        have hcz18_1 := bc BK117 1
        have hcz18_2 := bc BK117 2
        have hfz18_0 := bf BK117 0
        have hfz18_1 := bf BK117 1
        have hfz18_2 := bf BK117 2
        go_wp2
        go_meet
        case rel => exact ⟨_, ((a1_1 != (-1))), pr, H', ⟨by have := HJ5.out; first | omega | exact Nat.le_refl _⟩, ka BK117, ba HB⟩
      case rest =>
       clear HC14
       try clear c1
       try clear p2
       try clear c4
       try clear c4b0
       try clear c9
       try clear c9b0
       try clear c10
       try clear c11
       try clear c13
       try clear c16
       try clear c16b0
       try clear c16b1
       try clear hcz10_0
       try clear hcz10_1
       try clear hcz10_2
       try clear hcz15_0
       try clear hcz15_1
       try clear hcz15_2
       try clear hcz17_0
       try clear hcz17_1
       try clear hcz17_2
       try clear hcz18_0
       try clear hcz18_1
       try clear hcz18_2
       try clear hcz8_0
       try clear hcz8_1
       try clear hcz8_2
       try clear hfz10_0
       try clear hfz10_1
       try clear hfz10_2
       try clear hfz15_0
       try clear hfz15_1
       try clear hfz15_2
       try clear hfz17_0
       try clear hfz17_1
       try clear hfz17_2
       try clear hfz18_0
       try clear hfz18_1
       try clear hfz18_2
       try clear hfz8_0
       try clear hfz8_1
       try clear hfz8_2
       try clear p2
       obtain ⟨kq, x22_13, rfl, HA, HJ13, BK117, HB⟩ := hcut
       cases kq with
       | zero => exact absurd HA.out (by simp [leap_wrong.j1])
       | succ kj13 =>
        have H := HA.out
        clear HA
        simp only [leap_wrong.j1] at H
        by_cases c19 : x22_13 = true
        ·subst c19
         rw [if_pos rfl] at H
         obtain rfl := Option.some.inj H
         go_wp2
         go_ret
         exact fi HB
        ·replace c19 := Bool.eq_false_iff.mpr c19
         subst c19
         rw [if_neg (show ¬ (false = true) by decide)] at H
         by_cases c20 : a1_0 ≤ a2
         ·rw [if_pos c20] at H
          have c20b0 : decide (a1_0 ≤ a2) = true := decide_eq_true c20
          clear c20
          obtain rfl := Option.some.inj H
          have hcz21_0 := bc BK117 0
          have hcz21_1 := bc BK117 1
          have hcz21_2 := bc BK117 2
          have hfz21_0 := bf BK117 0
          have hfz21_1 := bf BK117 1
          have hfz21_2 := bf BK117 2
          go_wp2
          go_ret
          exact fi HB
         ·rw [if_neg c20] at H
          have c20b0 : decide (a1_0 ≤ a2) = false := decide_eq_false c20
          clear c20
          obtain rfl := Option.some.inj H
          have hcz22_0 := bc BK117 0
          have hcz22_1 := bc BK117 1
          have hcz22_2 := bc BK117 2
          have hfz22_0 := bf BK117 0
          have hfz22_1 := bf BK117 1
          have hfz22_2 := bf BK117 2
          go_wp2
          go_ret
          exact fi HB
     ·replace c13 := Bool.eq_false_iff.mpr c13
      subst c13
      rw [if_neg (show ¬ (false = true) by decide)] at H
      obtain rfl := Option.some.inj H
      have hcz23_0 := bc BK117 0
      have hcz23_1 := bc BK117 1
      have hcz23_2 := bc BK117 2
      have hfz23_0 := bf BK117 0
      have hfz23_1 := bf BK117 1
      have hfz23_2 := bf BK117 2
      go_wp2_with (first | (refine gN (some 20) Try.func109 #[.int .i64 a1_0] (day_End.calls kj5 a1_0 false _ A12.out) ?_; intro nd))
      go_ret
      exact fi HB

/-! ### leap_Check: function 88 -/
def leap_Check.l0 : Nat → Int → List (S49) → Int → Int → List (S49) → Bool → Int → Option (Int × Int)
 | 0, _, _, _, _, _, _, _ => none
 | k + 1, x4, x11, x12, x13, x120000, x120001, x120002 => if x13 < x12 then (if 0 ≤ x13 then (if x13 < (x11.length : Int) then ((leap_wrong.f k x13 ((rd_T49 x11 x13).f0) ((rd_T49 x11 x13).f1) ((rd_T49 x11 x13).f2) x4).bind fun t122 => (if t122 = 0 then (leap_Check.l0 k ((rd_T49 x11 x13).f0) x11 x12 (wrap64 (x13 + 1)) x120000 x120001 x120002) else (some (x13, t122)))) else (none)) else (none)) else (if x120001 = true then (if x120002 < (mx (wrap64 ((wrap64 (x4 + 1)) * 86400)) 63072000) then (some ((x120000.length : Int), 9)) else (if x120002 > 253402300799 then (some ((x120000.length : Int), 9)) else (some ((x120000.length : Int), 0)))) else (if x120002 < 0 then (some ((x120000.length : Int), 9)) else (if x120002 > 0 then (some ((x120000.length : Int), 9)) else (some ((x120000.length : Int), 0)))))
def leap_Check.f (k : Nat) (l0_0 : List (S49)) (a0_1 : Bool) (a0_2 : Int) : Option (Int × Int) := leap_Check.l0 k 729 l0_0 (l0_0.length : Int) 0 l0_0 a0_1 a0_2
theorem leap_Check.mono_l : ∀ k, (∀ y0 y1 y2 y3 y4 y5 y6, LeO (leap_Check.l0 k y0 y1 y2 y3 y4 y5 y6) (leap_Check.l0 (k + 1) y0 y1 y2 y3 y4 y5 y6))
 | 0 => fun _ _ _ _ _ _ _ r h => by simp [leap_Check.l0] at h
 | k + 1 => by
  have ih0 := leap_Check.mono_l k
  ·intro y0 y1 y2 y3 y4 y5 y6
   unfold leap_Check.l0
   repeat' first
   | (with_reducible exact ih0 _ _ _ _ _ _ _)
   | (with_reducible exact leap_wrong.mono _ _ _ _ _ _)
   | (with_reducible exact LeO.refl _)
   | (with_reducible exact LeO.none _)
   | (with_reducible refine LeO.ite ?_ ?_)
   | (with_reducible refine LeO.bind ?_ (fun _ => ?_))
theorem leap_Check.mono : ∀ a0 a1 a2 k, LeO (leap_Check.f k a0 a1 a2) (leap_Check.f (k + 1) a0 a1 a2) := by
 intro a0 a1 a2 k
 have ih0 := leap_Check.mono_l k
 unfold leap_Check.f
 repeat' first
   | (with_reducible exact ih0 _ _ _ _ _ _ _)
   | (with_reducible exact leap_wrong.mono _ _ _ _ _ _)
   | (with_reducible exact LeO.refl _)
   | (with_reducible exact LeO.none _)
   | (with_reducible refine LeO.ite ?_ ?_)
   | (with_reducible refine LeO.bind ?_ (fun _ => ?_))
set_option maxHeartbeats 8000000 in
set_option maxRecDepth 100000 in
theorem leap_Check.calls (k : Nat) (A0_0 : Option Addr) (c0_0 : Nat) (l0_0 : List (S49)) (a0_1 : Bool) (a0_2 : Int) (r1 : Int) (r2 : Int) (w : World) (hr0_0 : Kd.C k49 w A0_0 l0_0.length l0_0) (hc0_0 : l0_0.length ≤ c0_0) (h : leap_Check.f k l0_0 a0_1 a0_2 = some (r1, r2)) :
  Calls Try.prog 88 #[.agg #[.slice A0_0 l0_0.length c0_0, .bool a0_1, .int .i64 a0_2]] w fun e w' => e = .returned (.tuple #[.int .i64 r1, .int .i64 r2]) ∧ Below w.heap.size w w' := by
 have hu44 := Try.underlying44
 have hu49 := Try.underlying49
 have HR0_0 := Aside0.mk hr0_0
 have HC0_0 := Aside0.mk hc0_0
 clear hr0_0 hc0_0
 have HB := Aside0.mk (Below.refl w.heap.size w)
 have H : (leap_Check.l0 k 729 l0_0 (l0_0.length : Int) 0 l0_0 a0_1 a0_2) = some (r1, r2) := h
 clear h
 have H' := Aside0.mk H
 clear H
 go_enter Try.func88, Try.ntmps88
 go_wp2_with (first | (refine bx 1 #[.slice A0_0 l0_0.length c0_0, .bool a0_1, .int .i64 a0_2] 44 ?_; intro gb119 hg w2 hbox hb; have n1_ := Aside0.mk (hbox); have GW119 := gw HB hg; have GE119 := gw HB hg; replace HB := bs HB hb; have BK119 := n1_; clear n1_; clear hb hbox hg; have hcz3_0 := bc BK119 0; have hcz3_1 := bc BK119 1; have hcz3_2 := bc BK119 2; have hfz3_0 := bf BK119 0; have hfz3_1 := bf BK119 1; have hfz3_2 := bf BK119 2))
 go_loopg [4, 13] k (fun kq v4 v13 w' => ∃ (x4_1 : Int) (x13_1 : Int), v4 = .int .i64 x4_1 ∧ v13 = .int .i64 x13_1 ∧ Aside0 (leap_Check.l0 kq x4_1 l0_0 (l0_0.length : Int) x13_1 l0_0 a0_1 a0_2 = some (r1, r2)) ∧ Aside0 (kq ≤ k) ∧ Aside0 (w'.heap[gb119]? = some (.cells #[(.slice A0_0 l0_0.length c0_0), .bool a0_1, .int .i64 a0_2] 44 (0, 0))) ∧ Aside0 (Below w.heap.size w w'))
 case atStart => exact ⟨(729), (0), pr, pr, H', ⟨Nat.le_refl _⟩, ka BK119, ba HB⟩
 case round =>
  clear H'
  try clear p2
  try clear hcz3_0
  try clear hcz3_1
  try clear hcz3_2
  try clear hfz3_0
  try clear hfz3_1
  try clear hfz3_2
  obtain ⟨x4_1, x13_1, rfl, rfl, HA, HK1, BK119, HB⟩ := hrel
  cases gk with
  | zero => exact absurd HA.out (by simp [leap_Check.l0])
  | succ k1 =>
   have H := HA.out
   clear HA
   simp only [leap_Check.l0] at H
   by_cases c4 : x13_1 < (l0_0.length : Int)
   ·rw [if_pos c4] at H
    have c4b0 : decide (x13_1 < (l0_0.length : Int)) = true := decide_eq_true c4
    clear c4
    by_cases c5 : 0 ≤ x13_1
    ·rw [if_pos c5] at H
     have c5b0 : decide (0 ≤ x13_1) = true := decide_eq_true c5
     clear c5
     by_cases c6 : x13_1 < (l0_0.length : Int)
     ·rw [if_pos c6] at H
      have c6b0 : decide (x13_1 < (l0_0.length : Int)) = true := decide_eq_true c6
      clear c6
      obtain ⟨t122, A7, H⟩ := bnd H
      try dsimp only at H
      by_cases c8 : t122 = 0
      ·rw [if_pos c8] at H
       have c8b0 : (t122 == 0) = true := beq_iff_eq.mpr c8
       have c8b1 : (t122 != 0) = false := bne_eq_false_iff_eq.mpr c8
       clear c8
       have H' := Aside0.mk H
       clear H
       have p120 : 0 ≤ (x13_1 : Int) := pa
       have q120 : x13_1 < (l0_0.length : Int) := pa
       obtain ⟨ad120, e120, hx120_0, hx120_1, hx120_2⟩ := at_T49 HR0_0.out x13_1 p120 q120
       cases e120
       replace hx120_0 := hx HB hx120_0
       replace hx120_1 := hx HB hx120_1
       replace hx120_2 := hx HB hx120_2
       replace p120 := eq_true p120
       replace q120 := eq_true q120
       go_wp2_with (first | (refine bx 6 #[.int .i64 0, .int .i64 0, .bool false] 49 ?_; intro gb121 hg w9 hbox hb; have n2_ := Aside0.mk (hbox); have GW121 := gw HB hg; have GE121 := gw HB hg; have NB119_121 := nl BK119 hg; have NB121_119 := nr BK119 hg; replace BK119 := kb BK119 hb; replace HB := bs HB hb; have BK121 := n2_; clear n2_; clear hb hbox hg; have hnb10 := NB121_119.out; have hnc10 := NB119_121.out; have hcz11_0 := bc BK121 0; have hcz11_1 := bc BK121 1; have hcz11_2 := bc BK121 2; have hfz11_0 := bf BK121 0; have hfz11_1 := bf BK121 1; have hfz11_2 := bf BK121 2) | (refine gM (some 21) Try.func102 #[.int .i64 x13_1, .agg #[.int .i64 ((rd_T49 l0_0 x13_1).f0), .int .i64 ((rd_T49 l0_0 x13_1).f1), .bool ((rd_T49 l0_0 x13_1).f2)], .int .i64 x4_1] (leap_wrong.calls k1 x13_1 ((rd_T49 l0_0 x13_1).f0) ((rd_T49 l0_0 x13_1).f1) ((rd_T49 l0_0 x13_1).f2) x4_1 t122 _ A7.out) ?_; intro w12 hb; have n0_ := kf BK119 hb; have n1_ := Aside0.mk (blk_below (g := gb121) (o := .cells #[.int .i64 ((rd_T49 l0_0 x13_1).f0), .int .i64 ((rd_T49 l0_0 x13_1).f1), .bool ((rd_T49 l0_0 x13_1).f2)] 49 (0, 0)) (by (with_reducible repeat (first | refine blk_drewN ?_ _ | refine blk_drew ?_ | refine blk_alloc ?_ _)); refine blk_put (cs := #[.int .i64 ((rd_T49 l0_0 x13_1).f0), .int .i64 ((rd_T49 l0_0 x13_1).f1), .bool false]) ?_ 2 _ rfl; (with_reducible repeat (first | refine blk_drewN ?_ _ | refine blk_drew ?_ | refine blk_alloc ?_ _)); refine blk_put (cs := #[.int .i64 ((rd_T49 l0_0 x13_1).f0), .int .i64 0, .bool false]) ?_ 1 _ rfl; (with_reducible repeat (first | refine blk_drewN ?_ _ | refine blk_drew ?_ | refine blk_alloc ?_ _)); refine blk_put (cs := #[.int .i64 0, .int .i64 0, .bool false]) ?_ 0 _ rfl; (with_reducible repeat (first | refine blk_drewN ?_ _ | refine blk_drew ?_ | refine blk_alloc ?_ _)); exact BK121.out) hb); replace HB := bs HB hb; clear BK119; clear BK121; have BK119 := n0_; have BK121 := n1_; clear n0_ n1_; (try clear hb); have hcz13_0 := bc BK121 0; have hcz13_1 := bc BK121 1; have hcz13_2 := bc BK121 2; have hfz13_0 := bf BK121 0; have hfz13_1 := bf BK121 1; have hfz13_2 := bf BK121 2))
       go_roundg k1
       case measure => have := HK1.out; omega
       case rel => exact ⟨((rd_T49 l0_0 x13_1).f0), (wrap64 (x13_1 + 1)), pr, pr, H', ⟨by have := HK1.out; omega⟩, ka BK119, ba HB⟩
      ·rw [if_neg c8] at H
       have c8b0 : (t122 == 0) = false := beq_eq_false_iff_ne.mpr c8
       have c8b1 : (t122 != 0) = true := bne_iff_ne.mpr c8
       simp only [Option.some.injEq, Prod.mk.injEq] at H
       obtain ⟨rfl, rfl⟩ := H
       have p120 : 0 ≤ (x13_1 : Int) := pa
       have q120 : x13_1 < (l0_0.length : Int) := pa
       obtain ⟨ad120, e120, hx120_0, hx120_1, hx120_2⟩ := at_T49 HR0_0.out x13_1 p120 q120
       cases e120
       replace hx120_0 := hx HB hx120_0
       replace hx120_1 := hx HB hx120_1
       replace hx120_2 := hx HB hx120_2
       replace p120 := eq_true p120
       replace q120 := eq_true q120
       go_wp2_with (first | (refine bx 6 #[.int .i64 0, .int .i64 0, .bool false] 49 ?_; intro gb121 hg w14 hbox hb; have n2_ := Aside0.mk (hbox); have GW121 := gw HB hg; have GE121 := gw HB hg; have NB119_121 := nl BK119 hg; have NB121_119 := nr BK119 hg; replace BK119 := kb BK119 hb; replace HB := bs HB hb; have BK121 := n2_; clear n2_; clear hb hbox hg; have hnb15 := NB121_119.out; have hnc15 := NB119_121.out; have hcz16_0 := bc BK121 0; have hcz16_1 := bc BK121 1; have hcz16_2 := bc BK121 2; have hfz16_0 := bf BK121 0; have hfz16_1 := bf BK121 1; have hfz16_2 := bf BK121 2) | (refine gM (some 21) Try.func102 #[.int .i64 x13_1, .agg #[.int .i64 ((rd_T49 l0_0 x13_1).f0), .int .i64 ((rd_T49 l0_0 x13_1).f1), .bool ((rd_T49 l0_0 x13_1).f2)], .int .i64 x4_1] (leap_wrong.calls k1 x13_1 ((rd_T49 l0_0 x13_1).f0) ((rd_T49 l0_0 x13_1).f1) ((rd_T49 l0_0 x13_1).f2) x4_1 t122 _ A7.out) ?_; intro w17 hb; have n0_ := kf BK119 hb; have n1_ := Aside0.mk (blk_below (g := gb121) (o := .cells #[.int .i64 ((rd_T49 l0_0 x13_1).f0), .int .i64 ((rd_T49 l0_0 x13_1).f1), .bool ((rd_T49 l0_0 x13_1).f2)] 49 (0, 0)) (by (with_reducible repeat (first | refine blk_drewN ?_ _ | refine blk_drew ?_ | refine blk_alloc ?_ _)); refine blk_put (cs := #[.int .i64 ((rd_T49 l0_0 x13_1).f0), .int .i64 ((rd_T49 l0_0 x13_1).f1), .bool false]) ?_ 2 _ rfl; (with_reducible repeat (first | refine blk_drewN ?_ _ | refine blk_drew ?_ | refine blk_alloc ?_ _)); refine blk_put (cs := #[.int .i64 ((rd_T49 l0_0 x13_1).f0), .int .i64 0, .bool false]) ?_ 1 _ rfl; (with_reducible repeat (first | refine blk_drewN ?_ _ | refine blk_drew ?_ | refine blk_alloc ?_ _)); refine blk_put (cs := #[.int .i64 0, .int .i64 0, .bool false]) ?_ 0 _ rfl; (with_reducible repeat (first | refine blk_drewN ?_ _ | refine blk_drew ?_ | refine blk_alloc ?_ _)); exact BK121.out) hb); replace HB := bs HB hb; clear BK119; clear BK121; have BK119 := n0_; have BK121 := n1_; clear n0_ n1_; (try clear hb)))
       go_ret2
       exact fi HB
     ·rw [if_neg c6] at H
      exact absurd H (by simp)
    ·rw [if_neg c5] at H
     exact absurd H (by simp)
   ·rw [if_neg c4] at H
    have c4b0 : decide (x13_1 < (l0_0.length : Int)) = false := decide_eq_false c4
    clear c4
    by_cases c18 : a0_1 = true
    ·subst c18
     rw [if_pos rfl] at H
     obtain ⟨ji19, hji19⟩ : ∃ j_ : Int, (mx (wrap64 ((wrap64 (x4_1 + 1)) * 86400)) 63072000) = j_ := ⟨_, rfl⟩
     replace H : (if a0_2 < (ji19) then (some ((l0_0.length : Int), 9)) else (if a0_2 > 253402300799 then (some ((l0_0.length : Int), 9)) else (some ((l0_0.length : Int), 0)))) = some (r1, r2) := by first | (rw [hji19] at H; exact H) | (simp only [hji19] at H ⊢; exact H)
     have hji19_ : (if (wrap64 ((wrap64 (x4_1 + 1)) * 86400)) < 63072000 then 63072000 else (wrap64 ((wrap64 (x4_1 + 1)) * 86400))) = ji19 := hji19
     by_cases c20 : a0_2 < (ji19)
     ·rw [if_pos c20] at H
      have c20b0 : decide (a0_2 < (ji19)) = true := decide_eq_true c20
      clear c20
      simp only [Option.some.injEq, Prod.mk.injEq] at H
      obtain ⟨rfl, rfl⟩ := H
      have hcz21_0 := bc BK119 0
      have hcz21_1 := bc BK119 1
      have hcz21_2 := bc BK119 2
      have hfz21_0 := bf BK119 0
      have hfz21_1 := bf BK119 1
      have hfz21_2 := bf BK119 2
      go_wp2
      go_ret2
      exact ⟨by first | rfl | (simp [errW_none, errW_some] <;> rfl) | (simp only [← hji19]; first | rfl | (simp [errW_none, errW_some] <;> rfl)) | (simp [*, errW_none, errW_some] <;> rfl), by repeat (first | (with_reducible first | exact HB.out | apply below_alloc | apply pw_below_drewN | apply below_drew1 | refine below_set ?_ GE119.out) | exact HB.out)⟩
     ·rw [if_neg c20] at H
      have c20b0 : decide (a0_2 < (ji19)) = false := decide_eq_false c20
      clear c20
      by_cases c22 : a0_2 > 253402300799
      ·rw [if_pos c22] at H
       have c22b0 : decide (253402300799 < a0_2) = true := decide_eq_true c22
       clear c22
       simp only [Option.some.injEq, Prod.mk.injEq] at H
       obtain ⟨rfl, rfl⟩ := H
       have hcz23_0 := bc BK119 0
       have hcz23_1 := bc BK119 1
       have hcz23_2 := bc BK119 2
       have hfz23_0 := bf BK119 0
       have hfz23_1 := bf BK119 1
       have hfz23_2 := bf BK119 2
       go_wp2
       go_ret2
       exact ⟨by first | rfl | (simp [errW_none, errW_some] <;> rfl) | (simp only [← hji19]; first | rfl | (simp [errW_none, errW_some] <;> rfl)) | (simp [*, errW_none, errW_some] <;> rfl), by repeat (first | (with_reducible first | exact HB.out | apply below_alloc | apply pw_below_drewN | apply below_drew1 | refine below_set ?_ GE119.out) | exact HB.out)⟩
      ·rw [if_neg c22] at H
       have c22b0 : decide (253402300799 < a0_2) = false := decide_eq_false c22
       clear c22
       simp only [Option.some.injEq, Prod.mk.injEq] at H
       obtain ⟨rfl, rfl⟩ := H
       have hcz24_0 := bc BK119 0
       have hcz24_1 := bc BK119 1
       have hcz24_2 := bc BK119 2
       have hfz24_0 := bf BK119 0
       have hfz24_1 := bf BK119 1
       have hfz24_2 := bf BK119 2
       go_wp2
       go_ret2
       exact ⟨by first | rfl | (simp [errW_none, errW_some] <;> rfl) | (simp only [← hji19]; first | rfl | (simp [errW_none, errW_some] <;> rfl)) | (simp [*, errW_none, errW_some] <;> rfl), by repeat (first | (with_reducible first | exact HB.out | apply below_alloc | apply pw_below_drewN | apply below_drew1 | refine below_set ?_ GE119.out) | exact HB.out)⟩
    ·replace c18 := Bool.eq_false_iff.mpr c18
     subst c18
     rw [if_neg (show ¬ (false = true) by decide)] at H
     by_cases c25 : a0_2 < 0
     ·rw [if_pos c25] at H
      have c25b0 : decide (a0_2 < 0) = true := decide_eq_true c25
      clear c25
      simp only [Option.some.injEq, Prod.mk.injEq] at H
      obtain ⟨rfl, rfl⟩ := H
      have hcz26_0 := bc BK119 0
      have hcz26_1 := bc BK119 1
      have hcz26_2 := bc BK119 2
      have hfz26_0 := bf BK119 0
      have hfz26_1 := bf BK119 1
      have hfz26_2 := bf BK119 2
      go_wp2
      go_ret2
      exact fi HB
     ·rw [if_neg c25] at H
      have c25b0 : decide (a0_2 < 0) = false := decide_eq_false c25
      clear c25
      by_cases c27 : a0_2 > 0
      ·rw [if_pos c27] at H
       have c27b0 : decide (0 < a0_2) = true := decide_eq_true c27
       clear c27
       simp only [Option.some.injEq, Prod.mk.injEq] at H
       obtain ⟨rfl, rfl⟩ := H
       have hcz28_0 := bc BK119 0
       have hcz28_1 := bc BK119 1
       have hcz28_2 := bc BK119 2
       have hfz28_0 := bf BK119 0
       have hfz28_1 := bf BK119 1
       have hfz28_2 := bf BK119 2
       go_wp2
       go_ret2
       exact fi HB
      ·rw [if_neg c27] at H
       have c27b0 : decide (0 < a0_2) = false := decide_eq_false c27
       clear c27
       simp only [Option.some.injEq, Prod.mk.injEq] at H
       obtain ⟨rfl, rfl⟩ := H
       have hcz29_0 := bc BK119 0
       have hcz29_1 := bc BK119 1
       have hcz29_2 := bc BK119 2
       have hfz29_0 := bf BK119 0
       have hfz29_1 := bf BK119 1
       have hfz29_2 := bf BK119 2
       go_wp2
       go_ret2
       exact fi HB

/-! ### leap_Right: function 62 -/
def leap_Right.f (k : Nat) (l0_0 : List (S49)) (a0_1 : Bool) (a0_2 : Int) : Option (Bool) := (leap_Check.f k l0_0 a0_1 a0_2).bind fun bt124 => (some (bt124.2 == 0))
theorem leap_Right.mono : ∀ a0 a1 a2 k, LeO (leap_Right.f k a0 a1 a2) (leap_Right.f (k + 1) a0 a1 a2) := by
 intro a0 a1 a2 k
 unfold leap_Right.f
 repeat' first
   | (with_reducible exact leap_Check.mono _ _ _ _)
   | (with_reducible exact LeO.refl _)
   | (with_reducible exact LeO.none _)
   | (with_reducible refine LeO.ite ?_ ?_)
   | (with_reducible refine LeO.bind ?_ (fun _ => ?_))
set_option maxHeartbeats 8000000 in
set_option maxRecDepth 100000 in
theorem leap_Right.calls (k : Nat) (A0_0 : Option Addr) (c0_0 : Nat) (l0_0 : List (S49)) (a0_1 : Bool) (a0_2 : Int) (r : Bool) (w : World) (hr0_0 : Kd.C k49 w A0_0 l0_0.length l0_0) (hc0_0 : l0_0.length ≤ c0_0) (h : leap_Right.f k l0_0 a0_1 a0_2 = some r) :
  Calls Try.prog 62 #[.agg #[.slice A0_0 l0_0.length c0_0, .bool a0_1, .int .i64 a0_2]] w fun e w' => e = .returned (.bool r) ∧ Below w.heap.size w w' := by
 have hu44 := Try.underlying44
 have HR0_0 := Aside0.mk hr0_0
 have HC0_0 := Aside0.mk hc0_0
 clear hr0_0 hc0_0
 have HB := Aside0.mk (Below.refl w.heap.size w)
 have H : ((leap_Check.f k l0_0 a0_1 a0_2).bind fun bt124 => (some (bt124.2 == 0))) = some r := h
 clear h
 obtain ⟨⟨t124, t125⟩, A2, H⟩ := bnd H
 try dsimp only at H
 obtain rfl := Option.some.inj H
 go_enter Try.func62, Try.ntmps62
 go_wp2_with (first | (refine bx 1 #[.slice A0_0 l0_0.length c0_0, .bool a0_1, .int .i64 a0_2] 44 ?_; intro gb123 hg w3 hbox hb; have n1_ := Aside0.mk (hbox); have GW123 := gw HB hg; have GE123 := gw HB hg; replace HB := bs HB hb; have BK123 := n1_; clear n1_; clear hb hbox hg; have hcz4_0 := bc BK123 0; have hcz4_1 := bc BK123 1; have hcz4_2 := bc BK123 2; have hfz4_0 := bf BK123 0; have hfz4_1 := bf BK123 1; have hfz4_2 := bf BK123 2) | (refine gM (some 7) Try.func88 #[.agg #[.slice A0_0 l0_0.length c0_0, .bool a0_1, .int .i64 a0_2]] (leap_Check.calls k _ _ l0_0 a0_1 a0_2 t124 t125 _ ?side1 ?side2 A2.out) ?_; (case side1 => exact cb HR0_0 HB); (case side2 => exact HC0_0.out); intro w5 hb; replace BK123 := kb BK123 hb; replace HB := bs HB hb; (try clear hb)))
 go_ret
 exact fi HB

end Go.Proofs.Ythoigncoojcanaa.PAll
