-- Written for this claim by wip/tools of this repo (after the kit's print; own contracts laid in).
import Derived.Test.YthoigncoojcanaaPAllx0
import Derived.Test.YthoigncoojcanaaShort
namespace Go.Proofs.Ythoigncoojcanaa.PAll
open Go.RowKit Go.Proofs.YthoigncoojcanaaW.PrintWords Go.Proofs.YthoigncoojcanaaW.PrintLast Go.Proofs.YthoigncoojcanaaW.PrintMore
attribute [local go_sem] max2_int min2_int max_two min_two max_three min_three max_four min_four   -- for this text's walks alone
set_option linter.unusedVariables false
set_option linter.unusedSimpArgs false

/-! ### epactref12_ahead: function 107 -/
def epactref12_ahead.f (l0 : List (S53)) (a1 : Int) : Option (Int) := if a1 = 0 then (some 0) else (if 0 ≤ (wrap64 (a1 - 1)) then (if (wrap64 (a1 - 1)) < (l0.length : Int) then (some ((rd_T53 l0 (wrap64 (a1 - 1))).f1)) else (none)) else (none))
set_option maxHeartbeats 8000000 in
set_option maxRecDepth 100000 in
theorem epactref12_ahead.calls (A0 : Option Addr) (c0 : Nat) (l0 : List (S53)) (a1 : Int) (r : Int) (w : World) (hr0 : Kd.C k53 w A0 l0.length l0) (hc0 : l0.length ≤ c0) (h : epactref12_ahead.f l0 a1 = some r) :
  Calls Try.prog 107 #[.slice A0 l0.length c0, .int .i64 a1] w fun e w' => e = .returned (.int .i64 r) ∧ Drawn0 w w' := by
 have HR0 := Aside0.mk hr0
 have HC0 := Aside0.mk hc0
 clear hr0 hc0
 have H : (if a1 = 0 then (some 0) else (if 0 ≤ (wrap64 (a1 - 1)) then (if (wrap64 (a1 - 1)) < (l0.length : Int) then (some ((rd_T53 l0 (wrap64 (a1 - 1))).f1)) else (none)) else (none))) = some r := h
 clear h
 by_cases c3 : a1 = 0
 ·rw [if_pos c3] at H
  have c3b0 : (a1 == 0) = true := beq_iff_eq.mpr c3
  have c3b1 : (a1 != 0) = false := bne_eq_false_iff_eq.mpr c3
  clear c3
  obtain rfl := Option.some.inj H
  go_enter Try.func107, Try.ntmps107
  go_wp2
  go_ret
  exact fd
 ·rw [if_neg c3] at H
  have c3b0 : (a1 == 0) = false := beq_eq_false_iff_ne.mpr c3
  have c3b1 : (a1 != 0) = true := bne_iff_ne.mpr c3
  obtain ⟨ji4, hji4⟩ : ∃ j_ : Int, (wrap64 (a1 - 1)) = j_ := ⟨_, rfl⟩
  replace H : (if 0 ≤ (ji4) then (if (ji4) < (l0.length : Int) then (some ((rd_T53 l0 (ji4)).f1)) else (none)) else (none)) = some r := by first | (rw [hji4] at H; exact H) | (simp only [hji4] at H ⊢; exact H)
  have hji4w : (IntKind.i64.wrap (a1 - 1)) = ji4 := (i64_w _).trans hji4
  by_cases c5 : 0 ≤ (ji4)
  ·rw [if_pos c5] at H
   have c5b0 : decide (0 ≤ (ji4)) = true := decide_eq_true c5
   clear c5
   by_cases c6 : (ji4) < (l0.length : Int)
   ·rw [if_pos c6] at H
    have c6b0 : decide ((ji4) < (l0.length : Int)) = true := decide_eq_true c6
    clear c6
    obtain rfl := Option.some.inj H
    have p450 : 0 ≤ ((ji4) : Int) := pa
    have q450 : (ji4) < (l0.length : Int) := pa
    obtain ⟨ad450, e450, hx450_0, hx450_1⟩ := at_T53 HR0.out (ji4) p450 q450
    cases e450
    replace p450 := eq_true p450
    replace q450 := eq_true q450
    go_enter Try.func107, Try.ntmps107
    go_wp2
    go_ret
    exact ⟨by first | rfl | (simp; done) | (simp only [← hji4] <;> (first | rfl | simp)) | (simp [*]; done), by repeat (first | exact Drawn0.refl _ | apply Drawn0.step)⟩
   ·rw [if_neg c6] at H
    exact absurd H (by simp)
  ·rw [if_neg c5] at H
   exact absurd H (by simp)

/-! ### epactref12_leaps: function 99 -/
def epactref12_leaps.f (l0 : List (S53)) : Option (Int) := if (l0.length : Int) > 0 then (if 0 ≤ (wrap64 ((l0.length : Int) - 1)) then (if (wrap64 ((l0.length : Int) - 1)) < (l0.length : Int) then ((epactref12_ahead.f l0 (wrap64 ((l0.length : Int) - 1))).bind fun t452 => (if ((rd_T53 l0 (wrap64 ((l0.length : Int) - 1))).f1) = t452 then (some (wrap64 ((l0.length : Int) - 1))) else (some (l0.length : Int)))) else (none)) else (none)) else (some (l0.length : Int))
set_option maxHeartbeats 8000000 in
set_option maxRecDepth 100000 in
theorem epactref12_leaps.calls (A0 : Option Addr) (c0 : Nat) (l0 : List (S53)) (r : Int) (w : World) (hr0 : Kd.C k53 w A0 l0.length l0) (hc0 : l0.length ≤ c0) (h : epactref12_leaps.f l0 = some r) :
  Calls Try.prog 99 #[.slice A0 l0.length c0] w fun e w' => e = .returned (.int .i64 r) ∧ Drawn0 w w' := by
 have HR0 := Aside0.mk hr0
 have HC0 := Aside0.mk hc0
 clear hr0 hc0
 have H : (if (l0.length : Int) > 0 then (if 0 ≤ (wrap64 ((l0.length : Int) - 1)) then (if (wrap64 ((l0.length : Int) - 1)) < (l0.length : Int) then ((epactref12_ahead.f l0 (wrap64 ((l0.length : Int) - 1))).bind fun t452 => (if ((rd_T53 l0 (wrap64 ((l0.length : Int) - 1))).f1) = t452 then (some (wrap64 ((l0.length : Int) - 1))) else (some (l0.length : Int)))) else (none)) else (none)) else (some (l0.length : Int))) = some r := h
 clear h
 by_cases c2 : (l0.length : Int) > 0
 ·rw [if_pos c2] at H
  have c2b0 : decide (0 < (l0.length : Int)) = true := decide_eq_true c2
  have c2b1 : decide (0 < l0.length) = true := decide_eq_true (by omega)
  clear c2
  obtain ⟨ji3, hji3⟩ : ∃ j_ : Int, (wrap64 ((l0.length : Int) - 1)) = j_ := ⟨_, rfl⟩
  replace H : (if 0 ≤ (ji3) then (if (ji3) < (l0.length : Int) then ((epactref12_ahead.f l0 (ji3)).bind fun t452 => (if ((rd_T53 l0 (ji3)).f1) = t452 then (some ji3) else (some (l0.length : Int)))) else (none)) else (none)) = some r := by first | (rw [hji3] at H; exact H) | (simp only [hji3] at H ⊢; exact H)
  have hji3w : (IntKind.i64.wrap ((l0.length : Int) - 1)) = ji3 := (i64_w _).trans hji3
  by_cases c4 : 0 ≤ (ji3)
  ·rw [if_pos c4] at H
   have c4b0 : decide (0 ≤ (ji3)) = true := decide_eq_true c4
   clear c4
   by_cases c5 : (ji3) < (l0.length : Int)
   ·rw [if_pos c5] at H
    have c5b0 : decide ((ji3) < (l0.length : Int)) = true := decide_eq_true c5
    clear c5
    obtain ⟨t452, A6, H⟩ := bnd H
    try dsimp only at H
    by_cases c7 : ((rd_T53 l0 (ji3)).f1) = t452
    ·rw [if_pos c7] at H
     have c7b0 : (((rd_T53 l0 (ji3)).f1) == t452) = true := beq_iff_eq.mpr c7
     have c7b1 : (((rd_T53 l0 (ji3)).f1) != t452) = false := bne_eq_false_iff_eq.mpr c7
     clear c7
     obtain rfl := Option.some.inj H
     have p451 : 0 ≤ ((ji3) : Int) := pa
     have q451 : (ji3) < (l0.length : Int) := pa
     obtain ⟨ad451, e451, hx451_0, hx451_1⟩ := at_T53 HR0.out (ji3) p451 q451
     cases e451
     replace p451 := eq_true p451
     replace q451 := eq_true q451
     go_enter Try.func99, Try.ntmps99
     go_wp2_with (first | (go_at_call 107; (with_reducible refine (epactref12_ahead.calls _ _ l0 ji3 t452 _ ?side1 ?side2 A6.out).mono ?_); (case side1 => exact ca HR0); (case side2 => exact HC0.out); rintro e w' ⟨rfl, ⟨nd, rfl⟩⟩; (try first | exact ⟨rfl, _, World.drewN_drewN _ _ _⟩ | exact ⟨rfl, _, Eq.trans (World.drewN_drewN _ _ _) (congrArg (World.drewN _) (Nat.add_assoc _ _ _))⟩)))
     repeat (go_quiet (first | (go_at_call 107; (with_reducible refine (epactref12_ahead.calls _ _ l0 ji3 t452 _ ?side1 ?side2 A6.out).mono ?_); (case side1 => exact ca HR0); (case side2 => exact HC0.out); rintro e w' ⟨rfl, ⟨nd, rfl⟩⟩; (try first | exact ⟨rfl, _, World.drewN_drewN _ _ _⟩ | exact ⟨rfl, _, Eq.trans (World.drewN_drewN _ _ _) (congrArg (World.drewN _) (Nat.add_assoc _ _ _))⟩))); try go_wp2_with (first | (go_at_call 107; (with_reducible refine (epactref12_ahead.calls _ _ l0 ji3 t452 _ ?side1 ?side2 A6.out).mono ?_); (case side1 => exact ca HR0); (case side2 => exact HC0.out); rintro e w' ⟨rfl, ⟨nd, rfl⟩⟩; (try first | exact ⟨rfl, _, World.drewN_drewN _ _ _⟩ | exact ⟨rfl, _, Eq.trans (World.drewN_drewN _ _ _) (congrArg (World.drewN _) (Nat.add_assoc _ _ _))⟩))))
     go_ret
     exact ⟨by first | rfl | (simp; done) | (simp only [← hji3] <;> (first | rfl | simp)) | (simp [*]; done), by repeat (first | exact Drawn0.refl _ | apply Drawn0.step)⟩
    ·rw [if_neg c7] at H
     have c7b0 : (((rd_T53 l0 (ji3)).f1) == t452) = false := beq_eq_false_iff_ne.mpr c7
     have c7b1 : (((rd_T53 l0 (ji3)).f1) != t452) = true := bne_iff_ne.mpr c7
     obtain rfl := Option.some.inj H
     have p451 : 0 ≤ ((ji3) : Int) := pa
     have q451 : (ji3) < (l0.length : Int) := pa
     obtain ⟨ad451, e451, hx451_0, hx451_1⟩ := at_T53 HR0.out (ji3) p451 q451
     cases e451
     replace p451 := eq_true p451
     replace q451 := eq_true q451
     go_enter Try.func99, Try.ntmps99
     go_wp2_with (first | (go_at_call 107; (with_reducible refine (epactref12_ahead.calls _ _ l0 ji3 t452 _ ?side1 ?side2 A6.out).mono ?_); (case side1 => exact ca HR0); (case side2 => exact HC0.out); rintro e w' ⟨rfl, ⟨nd, rfl⟩⟩; (try first | exact ⟨rfl, _, World.drewN_drewN _ _ _⟩ | exact ⟨rfl, _, Eq.trans (World.drewN_drewN _ _ _) (congrArg (World.drewN _) (Nat.add_assoc _ _ _))⟩)))
     repeat (go_quiet (first | (go_at_call 107; (with_reducible refine (epactref12_ahead.calls _ _ l0 ji3 t452 _ ?side1 ?side2 A6.out).mono ?_); (case side1 => exact ca HR0); (case side2 => exact HC0.out); rintro e w' ⟨rfl, ⟨nd, rfl⟩⟩; (try first | exact ⟨rfl, _, World.drewN_drewN _ _ _⟩ | exact ⟨rfl, _, Eq.trans (World.drewN_drewN _ _ _) (congrArg (World.drewN _) (Nat.add_assoc _ _ _))⟩))); try go_wp2_with (first | (go_at_call 107; (with_reducible refine (epactref12_ahead.calls _ _ l0 ji3 t452 _ ?side1 ?side2 A6.out).mono ?_); (case side1 => exact ca HR0); (case side2 => exact HC0.out); rintro e w' ⟨rfl, ⟨nd, rfl⟩⟩; (try first | exact ⟨rfl, _, World.drewN_drewN _ _ _⟩ | exact ⟨rfl, _, Eq.trans (World.drewN_drewN _ _ _) (congrArg (World.drewN _) (Nat.add_assoc _ _ _))⟩))))
     go_ret
     exact ⟨by first | rfl | (simp; done) | (simp only [← hji3] <;> (first | rfl | simp)) | (simp [*]; done), by repeat (first | exact Drawn0.refl _ | apply Drawn0.step)⟩
   ·rw [if_neg c5] at H
    exact absurd H (by simp)
  ·rw [if_neg c4] at H
   exact absurd H (by simp)
 ·rw [if_neg c2] at H
  have c2b0 : decide (0 < (l0.length : Int)) = false := decide_eq_false c2
  have c2b1 : decide (0 < l0.length) = false := decide_eq_false (by omega)
  clear c2
  obtain rfl := Option.some.inj H
  go_enter Try.func99, Try.ntmps99
  go_wp2
  repeat (go_quiet (fail); try go_wp2)
  go_ret
  exact fd

/-! ### epactref01_Div: function 100 -/
def epactref01_Div.f (a0 : Int) (a1 : Int) : Option (Int × Int × Bool) := if a1 < 1 then (some (0, 0, false)) else (if a1 = 0 then (none) else (if (Int.tmod a0 a1) < 0 then (some (wrap64 ((wrap64 (Int.tdiv a0 a1)) - 1), wrap64 ((Int.tmod a0 a1) + a1), true)) else (some (wrap64 (Int.tdiv a0 a1), Int.tmod a0 a1, true))))
set_option maxHeartbeats 8000000 in
set_option maxRecDepth 100000 in
theorem epactref01_Div.calls (a0 : Int) (a1 : Int) (r1 : Int) (r2 : Int) (r3 : Bool) (w : World) (h : epactref01_Div.f a0 a1 = some (r1, r2, r3)) :
  Calls Try.prog 100 #[.int .i64 a0, .int .i64 a1] w fun e w' => e = .returned (.tuple #[.int .i64 r1, .int .i64 r2, .bool r3]) ∧ Drawn0 w w' := by
 have H : (if a1 < 1 then (some (0, 0, false)) else (if a1 = 0 then (none) else (if (Int.tmod a0 a1) < 0 then (some (wrap64 ((wrap64 (Int.tdiv a0 a1)) - 1), wrap64 ((Int.tmod a0 a1) + a1), true)) else (some (wrap64 (Int.tdiv a0 a1), Int.tmod a0 a1, true))))) = some (r1, r2, r3) := h
 clear h
 by_cases c3 : a1 < 1
 ·rw [if_pos c3] at H
  have c3b0 : decide (a1 < 1) = true := decide_eq_true c3
  clear c3
  simp only [Option.some.injEq, Prod.mk.injEq] at H
  obtain ⟨rfl, rfl, rfl⟩ := H
  go_enter Try.func100, Try.ntmps100
  go_wp2
  go_ret3
  exact fd
 ·rw [if_neg c3] at H
  have c3b0 : decide (a1 < 1) = false := decide_eq_false c3
  clear c3
  by_cases c4 : a1 = 0
  ·rw [if_pos c4] at H
   exact absurd H (by simp)
  ·rw [if_neg c4] at H
   have c4b0 : (a1 == 0) = false := beq_eq_false_iff_ne.mpr c4
   have c4b1 : (a1 != 0) = true := bne_iff_ne.mpr c4
   by_cases c5 : (Int.tmod a0 a1) < 0
   ·rw [if_pos c5] at H
    have c5b0 : decide ((Int.tmod a0 a1) < 0) = true := decide_eq_true c5
    clear c5
    simp only [Option.some.injEq, Prod.mk.injEq] at H
    obtain ⟨rfl, rfl, rfl⟩ := H
    go_enter Try.func100, Try.ntmps100
    go_wp2
    go_ret3
    exact fd
   ·rw [if_neg c5] at H
    have c5b0 : decide ((Int.tmod a0 a1) < 0) = false := decide_eq_false c5
    clear c5
    simp only [Option.some.injEq, Prod.mk.injEq] at H
    obtain ⟨rfl, rfl, rfl⟩ := H
    go_enter Try.func100, Try.ntmps100
    go_wp2
    go_ret3
    exact fd

/-! ### epactref03_Leap: function 121 -/
def epactref03_Leap.f (a0 : Int) : Option (Bool) := if (Int.tmod a0 4) = 0 then (if (Int.tmod a0 100) = 0 then (some ((Int.tmod a0 400) == 0)) else (some true)) else (some ((Int.tmod a0 400) == 0))
set_option maxHeartbeats 8000000 in
set_option maxRecDepth 100000 in
theorem epactref03_Leap.calls (a0 : Int) (r : Bool) (w : World) (h : epactref03_Leap.f a0 = some r) :
  Calls Try.prog 121 #[.int .i64 a0] w fun e w' => e = .returned (.bool r) ∧ Drawn0 w w' := by
 have H : (if (Int.tmod a0 4) = 0 then (if (Int.tmod a0 100) = 0 then (some ((Int.tmod a0 400) == 0)) else (some true)) else (some ((Int.tmod a0 400) == 0))) = some r := h
 clear h
 by_cases c2 : (Int.tmod a0 4) = 0
 ·rw [if_pos c2] at H
  have c2b0 : ((Int.tmod a0 4) == 0) = true := beq_iff_eq.mpr c2
  have c2b1 : ((Int.tmod a0 4) != 0) = false := bne_eq_false_iff_eq.mpr c2
  clear c2
  by_cases c3 : (Int.tmod a0 100) = 0
  ·rw [if_pos c3] at H
   have c3b0 : ((Int.tmod a0 100) == 0) = true := beq_iff_eq.mpr c3
   have c3b1 : ((Int.tmod a0 100) != 0) = false := bne_eq_false_iff_eq.mpr c3
   clear c3
   obtain rfl := Option.some.inj H
   go_enter Try.func121, Try.ntmps121
   go_wp2
   go_ret
   exact fd
  ·rw [if_neg c3] at H
   have c3b0 : ((Int.tmod a0 100) == 0) = false := beq_eq_false_iff_ne.mpr c3
   have c3b1 : ((Int.tmod a0 100) != 0) = true := bne_iff_ne.mpr c3
   obtain rfl := Option.some.inj H
   go_enter Try.func121, Try.ntmps121
   go_wp2
   go_ret
   exact fd
 ·rw [if_neg c2] at H
  have c2b0 : ((Int.tmod a0 4) == 0) = false := beq_eq_false_iff_ne.mpr c2
  have c2b1 : ((Int.tmod a0 4) != 0) = true := bne_iff_ne.mpr c2
  obtain rfl := Option.some.inj H
  go_enter Try.func121, Try.ntmps121
  go_wp2
  go_ret
  exact fd

/-! ### epactref03_days: function 119 -/
def epactref03_days.f (a0 : Int) (a1 : Int) : Option (Int) := (some (([31, 28, 31, 30, 31, 30, 31, 31, 30, 31, 30, 31] : List Int) : List Int)).bind fun y453 => (if a1 = 2 then ((epactref03_Leap.f a0).bind fun t456 => (if t456 = true then (some 29) else (if 0 ≤ (wrap64 (a1 - 1)) then (if (wrap64 (a1 - 1)) < (y453.length : Int) then (some (rd y453 (wrap64 (a1 - 1)))) else (none)) else (none)))) else (if 0 ≤ (wrap64 (a1 - 1)) then (if (wrap64 (a1 - 1)) < (y453.length : Int) then (some (rd y453 (wrap64 (a1 - 1)))) else (none)) else (none)))
set_option maxHeartbeats 8000000 in
set_option maxRecDepth 100000 in
theorem epactref03_days.calls (a0 : Int) (a1 : Int) (r : Int) (w : World) (h : epactref03_days.f a0 a1 = some r) :
  Calls Try.prog 119 #[.int .i64 a0, .int .i64 a1] w fun e w' => e = .returned (.int .i64 r) ∧ Below w.heap.size w w' := by
 have HB := Aside0.mk (Below.refl w.heap.size w)
 have H : ((some (([31, 28, 31, 30, 31, 30, 31, 31, 30, 31, 30, 31] : List Int) : List Int)).bind fun y453 => (if a1 = 2 then ((epactref03_Leap.f a0).bind fun t456 => (if t456 = true then (some 29) else (if 0 ≤ (wrap64 (a1 - 1)) then (if (wrap64 (a1 - 1)) < (y453.length : Int) then (some (rd y453 (wrap64 (a1 - 1)))) else (none)) else (none)))) else (if 0 ≤ (wrap64 (a1 - 1)) then (if (wrap64 (a1 - 1)) < (y453.length : Int) then (some (rd y453 (wrap64 (a1 - 1)))) else (none)) else (none)))) = some r := h
 clear h
 obtain ⟨y453, hy453⟩ : ∃ y_ : List Int, y_ = (([31, 28, 31, 30, 31, 30, 31, 31, 30, 31, 30, 31] : List Int)) := ⟨_, rfl⟩
 replace H : (if a1 = 2 then ((epactref03_Leap.f a0).bind fun t456 => (if t456 = true then (some 29) else (if 0 ≤ (wrap64 (a1 - 1)) then (if (wrap64 (a1 - 1)) < (y453.length : Int) then (some (rd y453 (wrap64 (a1 - 1)))) else (none)) else (none)))) else (if 0 ≤ (wrap64 (a1 - 1)) then (if (wrap64 (a1 - 1)) < (y453.length : Int) then (some (rd y453 (wrap64 (a1 - 1)))) else (none)) else (none))) = some r := by first | (rw [hy453]; with_reducible exact H) | (have H2_ := (Option.bind_some _ _).symm.trans H; rw [hy453]; with_reducible exact H2_) | (have H2_ := (Option.bind_some _ _).symm.trans H; with_reducible exact H2_) | with_reducible exact H | (rw [hy453]; exact H) | exact H
 have Ny453 := Aside0.mk hy453
 clear hy453
 by_cases c3 : a1 = 2
 ·rw [if_pos c3] at H
  have c3b0 : (a1 == 2) = true := beq_iff_eq.mpr c3
  have c3b1 : (a1 != 2) = false := bne_eq_false_iff_eq.mpr c3
  clear c3
  obtain ⟨t456, A4, H⟩ := bnd H
  try dsimp only at H
  by_cases c5 : t456 = true
  ·subst c5
   rw [if_pos rfl] at H
   obtain rfl := Option.some.inj H
   go_enter Try.func119, Try.ntmps119
   go_wp2_with (first | ((with_reducible refine gate_dst (N := 6) rfl ?_); refine Kd.R_lit (Kd.int .i64) _ 3 ?hg (N := 6) ?hd (xs := ([31, 28, 31, 30, 31, 30, 31, 31, 30, 31, 30, 31] : List Int)) (inner := [.int .i64 31, .int .i64 28, .int .i64 31, .int .i64 30, .int .i64 31, .int .i64 30, .int .i64 31, .int .i64 31, .int .i64 30, .int .i64 31, .int .i64 30, .int .i64 31]) (ok := fun _ => True) (okp := fun _ => True) ?hr ?hp (fun _ hk => hk) trivial (Below.refl _ _) (Nat.le_refl _) (by simp) ?_; (case hd => rfl); (case hg => rfl); (case hr => first | (go_simp; done) | (go_simp; rfl)); (case hp => exact (Reps.one (show Kd.M (Kd.int .i64) _ _ _ 31 [.int .i64 31] from rfl) (Reps.one (show Kd.M (Kd.int .i64) _ _ _ 28 [.int .i64 28] from rfl) (Reps.one (show Kd.M (Kd.int .i64) _ _ _ 31 [.int .i64 31] from rfl) (Reps.one (show Kd.M (Kd.int .i64) _ _ _ 30 [.int .i64 30] from rfl) (Reps.one (show Kd.M (Kd.int .i64) _ _ _ 31 [.int .i64 31] from rfl) (Reps.one (show Kd.M (Kd.int .i64) _ _ _ 30 [.int .i64 30] from rfl) (Reps.one (show Kd.M (Kd.int .i64) _ _ _ 31 [.int .i64 31] from rfl) (Reps.one (show Kd.M (Kd.int .i64) _ _ _ 31 [.int .i64 31] from rfl) (Reps.one (show Kd.M (Kd.int .i64) _ _ _ 30 [.int .i64 30] from rfl) (Reps.one (show Kd.M (Kd.int .i64) _ _ _ 31 [.int .i64 31] from rfl) (Reps.one (show Kd.M (Kd.int .i64) _ _ _ 30 [.int .i64 30] from rfl) (Reps.one (show Kd.M (Kd.int .i64) _ _ _ 31 [.int .i64 31] from rfl) (Reps.none _ _)))))))))))))); intro v454 w6 ho7 hb hg_ hnew_; clear hg_ hnew_; (first | rw [← Ny453.out] at ho7 | (simp only [Int.reduceToNat] at ho7; rw [← Ny453.out] at ho7)); have HO455 := lw ho7 HB; replace HB := bs HB hb; clear hb ho7) | (go_at_call 121; (with_reducible refine (epactref03_Leap.calls a0 true _ A4.out).mono ?_); rintro e w' ⟨rfl, ⟨nd, rfl⟩⟩))
   go_ret
   exact fi HB
  ·replace c5 := Bool.eq_false_iff.mpr c5
   subst c5
   rw [if_neg (show ¬ (false = true) by decide)] at H
   obtain ⟨ji8, hji8⟩ : ∃ j_ : Int, (wrap64 (a1 - 1)) = j_ := ⟨_, rfl⟩
   replace H : (if 0 ≤ (ji8) then (if (ji8) < (y453.length : Int) then (some (rd y453 (ji8))) else (none)) else (none)) = some r := by first | (rw [hji8] at H; exact H) | (simp only [hji8] at H ⊢; exact H)
   (try rw [hji8] at A4)
   have hji8w : (IntKind.i64.wrap (a1 - 1)) = ji8 := (i64_w _).trans hji8
   by_cases c9 : 0 ≤ (ji8)
   ·rw [if_pos c9] at H
    have c9b0 : decide (0 ≤ (ji8)) = true := decide_eq_true c9
    clear c9
    by_cases c10 : (ji8) < (y453.length : Int)
    ·rw [if_pos c10] at H
     have c10b0 : decide ((ji8) < (y453.length : Int)) = true := decide_eq_true c10
     clear c10
     obtain rfl := Option.some.inj H
     go_enter Try.func119, Try.ntmps119
     go_wp2_with (first | ((with_reducible refine gate_dst (N := 6) rfl ?_); refine Kd.R_lit (Kd.int .i64) _ 3 ?hg (N := 6) ?hd (xs := ([31, 28, 31, 30, 31, 30, 31, 31, 30, 31, 30, 31] : List Int)) (inner := [.int .i64 31, .int .i64 28, .int .i64 31, .int .i64 30, .int .i64 31, .int .i64 30, .int .i64 31, .int .i64 31, .int .i64 30, .int .i64 31, .int .i64 30, .int .i64 31]) (ok := fun _ => True) (okp := fun _ => True) ?hr ?hp (fun _ hk => hk) trivial (Below.refl _ _) (Nat.le_refl _) (by simp) ?_; (case hd => rfl); (case hg => rfl); (case hr => first | (go_simp; done) | (go_simp; rfl)); (case hp => exact (Reps.one (show Kd.M (Kd.int .i64) _ _ _ 31 [.int .i64 31] from rfl) (Reps.one (show Kd.M (Kd.int .i64) _ _ _ 28 [.int .i64 28] from rfl) (Reps.one (show Kd.M (Kd.int .i64) _ _ _ 31 [.int .i64 31] from rfl) (Reps.one (show Kd.M (Kd.int .i64) _ _ _ 30 [.int .i64 30] from rfl) (Reps.one (show Kd.M (Kd.int .i64) _ _ _ 31 [.int .i64 31] from rfl) (Reps.one (show Kd.M (Kd.int .i64) _ _ _ 30 [.int .i64 30] from rfl) (Reps.one (show Kd.M (Kd.int .i64) _ _ _ 31 [.int .i64 31] from rfl) (Reps.one (show Kd.M (Kd.int .i64) _ _ _ 31 [.int .i64 31] from rfl) (Reps.one (show Kd.M (Kd.int .i64) _ _ _ 30 [.int .i64 30] from rfl) (Reps.one (show Kd.M (Kd.int .i64) _ _ _ 31 [.int .i64 31] from rfl) (Reps.one (show Kd.M (Kd.int .i64) _ _ _ 30 [.int .i64 30] from rfl) (Reps.one (show Kd.M (Kd.int .i64) _ _ _ 31 [.int .i64 31] from rfl) (Reps.none _ _)))))))))))))); intro v454 w11 ho12 hb hg_ hnew_; clear hg_ hnew_; (first | rw [← Ny453.out] at ho12 | (simp only [Int.reduceToNat] at ho12; rw [← Ny453.out] at ho12)); have HO455 := lw ho12 HB; replace HB := bs HB hb; clear hb ho12) | (go_at_call 121; (with_reducible refine (epactref03_Leap.calls a0 false _ A4.out).mono ?_); rintro e w' ⟨rfl, ⟨nd, rfl⟩⟩; obtain ⟨Ao13, co13, eo13⟩ := Kd.R_slice HO455.out; subst eo13; have p457 : 0 ≤ ((ji8) : Int) := pa; have q457 : (ji8) < (y453.length : Int) := pa; obtain ⟨ad457, e457, hx457_0⟩ := Kd.at_int (Kd.R_reads' HO455.out).2.2 (ji8) p457 q457; cases e457; replace p457 := eq_true p457; replace q457 := eq_true q457))
     go_ret
     exact ⟨by first | rfl | (simp [errW_none, errW_some] <;> rfl) | (simp only [← hji8]; first | rfl | (simp [errW_none, errW_some] <;> rfl)) | (simp [*, errW_none, errW_some] <;> rfl), by repeat (first | (with_reducible first | exact HB.out | apply below_alloc | apply pw_below_drewN | apply below_drew1) | exact HB.out)⟩
    ·rw [if_neg c10] at H
     exact absurd H (by simp)
   ·rw [if_neg c9] at H
    exact absurd H (by simp)
 ·rw [if_neg c3] at H
  have c3b0 : (a1 == 2) = false := beq_eq_false_iff_ne.mpr c3
  have c3b1 : (a1 != 2) = true := bne_iff_ne.mpr c3
  obtain ⟨ji14, hji14⟩ : ∃ j_ : Int, (wrap64 (a1 - 1)) = j_ := ⟨_, rfl⟩
  replace H : (if 0 ≤ (ji14) then (if (ji14) < (y453.length : Int) then (some (rd y453 (ji14))) else (none)) else (none)) = some r := by first | (rw [hji14] at H; exact H) | (simp only [hji14] at H ⊢; exact H)
  have hji14w : (IntKind.i64.wrap (a1 - 1)) = ji14 := (i64_w _).trans hji14
  by_cases c15 : 0 ≤ (ji14)
  ·rw [if_pos c15] at H
   have c15b0 : decide (0 ≤ (ji14)) = true := decide_eq_true c15
   clear c15
   by_cases c16 : (ji14) < (y453.length : Int)
   ·rw [if_pos c16] at H
    have c16b0 : decide ((ji14) < (y453.length : Int)) = true := decide_eq_true c16
    clear c16
    obtain rfl := Option.some.inj H
    go_enter Try.func119, Try.ntmps119
    go_wp2_with (first | ((with_reducible refine gate_dst (N := 6) rfl ?_); refine Kd.R_lit (Kd.int .i64) _ 3 ?hg (N := 6) ?hd (xs := ([31, 28, 31, 30, 31, 30, 31, 31, 30, 31, 30, 31] : List Int)) (inner := [.int .i64 31, .int .i64 28, .int .i64 31, .int .i64 30, .int .i64 31, .int .i64 30, .int .i64 31, .int .i64 31, .int .i64 30, .int .i64 31, .int .i64 30, .int .i64 31]) (ok := fun _ => True) (okp := fun _ => True) ?hr ?hp (fun _ hk => hk) trivial (Below.refl _ _) (Nat.le_refl _) (by simp) ?_; (case hd => rfl); (case hg => rfl); (case hr => first | (go_simp; done) | (go_simp; rfl)); (case hp => exact (Reps.one (show Kd.M (Kd.int .i64) _ _ _ 31 [.int .i64 31] from rfl) (Reps.one (show Kd.M (Kd.int .i64) _ _ _ 28 [.int .i64 28] from rfl) (Reps.one (show Kd.M (Kd.int .i64) _ _ _ 31 [.int .i64 31] from rfl) (Reps.one (show Kd.M (Kd.int .i64) _ _ _ 30 [.int .i64 30] from rfl) (Reps.one (show Kd.M (Kd.int .i64) _ _ _ 31 [.int .i64 31] from rfl) (Reps.one (show Kd.M (Kd.int .i64) _ _ _ 30 [.int .i64 30] from rfl) (Reps.one (show Kd.M (Kd.int .i64) _ _ _ 31 [.int .i64 31] from rfl) (Reps.one (show Kd.M (Kd.int .i64) _ _ _ 31 [.int .i64 31] from rfl) (Reps.one (show Kd.M (Kd.int .i64) _ _ _ 30 [.int .i64 30] from rfl) (Reps.one (show Kd.M (Kd.int .i64) _ _ _ 31 [.int .i64 31] from rfl) (Reps.one (show Kd.M (Kd.int .i64) _ _ _ 30 [.int .i64 30] from rfl) (Reps.one (show Kd.M (Kd.int .i64) _ _ _ 31 [.int .i64 31] from rfl) (Reps.none _ _)))))))))))))); intro v454 w17 ho18 hb hg_ hnew_; clear hg_ hnew_; (first | rw [← Ny453.out] at ho18 | (simp only [Int.reduceToNat] at ho18; rw [← Ny453.out] at ho18)); have HO455 := lw ho18 HB; replace HB := bs HB hb; clear hb ho18; obtain ⟨Ao19, co19, eo19⟩ := Kd.R_slice HO455.out; subst eo19; have p458 : 0 ≤ ((ji14) : Int) := pa; have q458 : (ji14) < (y453.length : Int) := pa; obtain ⟨ad458, e458, hx458_0⟩ := Kd.at_int (Kd.R_reads' HO455.out).2.2 (ji14) p458 q458; cases e458; replace p458 := eq_true p458; replace q458 := eq_true q458))
    go_ret
    exact ⟨by first | rfl | (simp [errW_none, errW_some] <;> rfl) | (simp only [← hji14]; first | rfl | (simp [errW_none, errW_some] <;> rfl)) | (simp [*, errW_none, errW_some] <;> rfl), by repeat (first | (with_reducible first | exact HB.out | apply below_alloc | apply pw_below_drewN | apply below_drew1) | exact HB.out)⟩
   ·rw [if_neg c16] at H
    exact absurd H (by simp)
  ·rw [if_neg c15] at H
   exact absurd H (by simp)

/-! ### epactref03_first: function 120 -/
def epactref03_first.f (a0 : Int) : Option (Int) := some (wrap64 ((wrap64 ((wrap64 ((wrap64 ((wrap64 (365 * (wrap64 (a0 - 1)))) + (wrap64 (Int.tdiv (wrap64 (a0 - 1)) 4)))) - (wrap64 (Int.tdiv (wrap64 (a0 - 1)) 100)))) + (wrap64 (Int.tdiv (wrap64 (a0 - 1)) 400)))) + (-719162)))
set_option maxHeartbeats 8000000 in
set_option maxRecDepth 100000 in
theorem epactref03_first.calls (a0 : Int) (r : Int) (w : World) (h : epactref03_first.f a0 = some r) :
  Calls Try.prog 120 #[.int .i64 a0] w fun e w' => e = .returned (.int .i64 r) ∧ Drawn0 w w' := by
 have H : (some (wrap64 ((wrap64 ((wrap64 ((wrap64 ((wrap64 (365 * (wrap64 (a0 - 1)))) + (wrap64 (Int.tdiv (wrap64 (a0 - 1)) 4)))) - (wrap64 (Int.tdiv (wrap64 (a0 - 1)) 100)))) + (wrap64 (Int.tdiv (wrap64 (a0 - 1)) 400)))) + (-719162)))) = some r := h
 clear h
 obtain rfl := Option.some.inj H
 go_enter Try.func120, Try.ntmps120
 go_wp2
 go_ret
 exact fd

/-! ### epactref03_Date: function 118 -/
mutual
def epactref03_Date.j0 : Nat → Int → Bool → Option (Int × Int × Int × Bool)
 | 0, _, _ => none
 | k + 1, x0, x14 => if x14 = true then (some (0, 0, 0, false)) else (epactref03_Date.l0 k x0 (wrap64 ((wrap64 (Int.tdiv (wrap64 (x0 - (-719162))) 366)) + 1)))
def epactref03_Date.l0 : Nat → Int → Int → Option (Int × Int × Int × Bool)
 | 0, _, _ => none
 | k + 1, x0, x6 => (epactref03_first.f (wrap64 (x6 + 1))).bind fun t459 => (if t459 ≤ x0 then (epactref03_Date.l0 k x0 (wrap64 (x6 + 1))) else ((epactref03_first.f x6).bind fun t460 => (epactref03_Date.l1 k x6 (wrap64 (x0 - t460)) 1)))
def epactref03_Date.l1 : Nat → Int → Int → Int → Option (Int × Int × Int × Bool)
 | 0, _, _, _ => none
 | k + 1, x6, x7, x8 => (epactref03_days.f x6 x8).bind fun t461 => (if x7 ≥ t461 then ((epactref03_days.f x6 x8).bind fun t462 => (epactref03_Date.l1 k x6 (wrap64 (x7 - t462)) (wrap64 (x8 + 1)))) else (some (x6, x8, wrap64 (x7 + 1), true)))
end
def epactref03_Date.f (k : Nat) (a0 : Int) : Option (Int × Int × Int × Bool) := if a0 < (-719162) then (epactref03_Date.j0 k a0 true) else (epactref03_Date.j0 k a0 (decide (a0 > 2932896)))
theorem epactref03_Date.mono_l : ∀ k, (∀ y0 y1, LeO (epactref03_Date.j0 k y0 y1) (epactref03_Date.j0 (k + 1) y0 y1)) ∧ (∀ y0 y1, LeO (epactref03_Date.l0 k y0 y1) (epactref03_Date.l0 (k + 1) y0 y1)) ∧ (∀ y0 y1 y2, LeO (epactref03_Date.l1 k y0 y1 y2) (epactref03_Date.l1 (k + 1) y0 y1 y2))
 | 0 => ⟨fun _ _ r h => by simp [epactref03_Date.j0] at h, fun _ _ r h => by simp [epactref03_Date.l0] at h, fun _ _ _ r h => by simp [epactref03_Date.l1] at h⟩
 | k + 1 => by
  obtain ⟨ih0, ih1, ih2⟩ := epactref03_Date.mono_l k
  refine ⟨?_, ?_, ?_⟩
  ·intro y0 y1
   unfold epactref03_Date.j0
   repeat' first
   | (with_reducible exact ih0 _ _)
   | (with_reducible exact ih1 _ _)
   | (with_reducible exact ih2 _ _ _)
   | (with_reducible exact LeO.refl _)
   | (with_reducible exact LeO.none _)
   | (with_reducible refine LeO.ite ?_ ?_)
   | (with_reducible refine LeO.bind ?_ (fun _ => ?_))
  ·intro y0 y1
   unfold epactref03_Date.l0
   repeat' first
   | (with_reducible exact ih0 _ _)
   | (with_reducible exact ih1 _ _)
   | (with_reducible exact ih2 _ _ _)
   | (with_reducible exact LeO.refl _)
   | (with_reducible exact LeO.none _)
   | (with_reducible refine LeO.ite ?_ ?_)
   | (with_reducible refine LeO.bind ?_ (fun _ => ?_))
  ·intro y0 y1 y2
   unfold epactref03_Date.l1
   repeat' first
   | (with_reducible exact ih0 _ _)
   | (with_reducible exact ih1 _ _)
   | (with_reducible exact ih2 _ _ _)
   | (with_reducible exact LeO.refl _)
   | (with_reducible exact LeO.none _)
   | (with_reducible refine LeO.ite ?_ ?_)
   | (with_reducible refine LeO.bind ?_ (fun _ => ?_))
theorem epactref03_Date.mono : ∀ a0 k, LeO (epactref03_Date.f k a0) (epactref03_Date.f (k + 1) a0) := by
 intro a0 k
 obtain ⟨ih0, ih1, ih2⟩ := epactref03_Date.mono_l k
 unfold epactref03_Date.f
 repeat' first
   | (with_reducible exact ih0 _ _)
   | (with_reducible exact ih1 _ _)
   | (with_reducible exact ih2 _ _ _)
   | (with_reducible exact LeO.refl _)
   | (with_reducible exact LeO.none _)
   | (with_reducible refine LeO.ite ?_ ?_)
   | (with_reducible refine LeO.bind ?_ (fun _ => ?_))
set_option maxHeartbeats 8000000 in
set_option maxRecDepth 100000 in
theorem epactref03_Date.calls (k : Nat) (a0 : Int) (r1 : Int) (r2 : Int) (r3 : Int) (r4 : Bool) (w : World) (h : epactref03_Date.f k a0 = some (r1, r2, r3, r4)) :
  Calls Try.prog 118 #[.int .i64 a0] w fun e w' => e = .returned (.tuple #[.int .i64 r1, .int .i64 r2, .int .i64 r3, .bool r4]) ∧ Below w.heap.size w w' := by
 have HB := Aside0.mk (Below.refl w.heap.size w)
 have H : (if a0 < (-719162) then (epactref03_Date.j0 k a0 true) else (epactref03_Date.j0 k a0 (decide (a0 > 2932896)))) = some (r1, r2, r3, r4) := h
 clear h
 have HC2 := Aside0.mk H
 clear H
 go_enter Try.func118, Try.ntmps118
 go_upto_region 1 with (fail)
 go_cut [14] (fun v14 wc => ∃ (kq : Nat) (x14_1 : Bool), v14 = .bool x14_1 ∧ Aside0 (epactref03_Date.j0 kq a0 x14_1 = some (r1, r2, r3, r4)) ∧ Aside0 (kq ≤ k) ∧ Aside0 (Below w.heap.size w wc))
 case first =>
  have H := HC2.out
  clear HC2
  by_cases c3 : a0 < (-719162)
  ·rw [if_pos c3] at H
   have c3b0 : decide (a0 < (-719162)) = true := decide_eq_true c3
   clear c3
   (first | rw [c3b0] | (simp only [i64_w, i32_w]; rw [c3b0]) | skip)
   have H' := Aside0.mk H
   clear H
   go_wp2
   go_meet
   case rel => exact ⟨_, (true), pr, H', om, ba HB⟩
  ·rw [if_neg c3] at H
   have c3b0 : decide (a0 < (-719162)) = false := decide_eq_false c3
   clear c3
   (first | rw [c3b0] | (simp only [i64_w, i32_w]; rw [c3b0]) | skip)
   have H' := Aside0.mk H
   clear H
   go_wp2
   go_meet
   case rel => exact ⟨_, (decide (a0 > 2932896)), pr, H', om, ba HB⟩
 case rest =>
  clear HC2
  try clear c1
  try clear p2
  try clear c3
  try clear c3b0
  obtain ⟨kq, x14_1, rfl, HA, HJ1, HB⟩ := hcut
  cases kq with
  | zero => exact absurd HA.out (by simp [epactref03_Date.j0])
  | succ kj1 =>
   have H := HA.out
   clear HA
   simp only [epactref03_Date.j0] at H
   by_cases c4 : x14_1 = true
   ·subst c4
    rw [if_pos rfl] at H
    simp only [Option.some.injEq, Prod.mk.injEq] at H
    obtain ⟨rfl, rfl, rfl, rfl⟩ := H
    go_wp2
    refine bodyPost_ret (results_list (rs := [.tmp 2, .tmp 3, .tmp 4, .tmp 5]) rfl (by simp) (.tmp (.tmp (.tmp (.tmp .nil))))) rfl ?_
    exact fi HB
   ·replace c4 := Bool.eq_false_iff.mpr c4
    subst c4
    rw [if_neg (show ¬ (false = true) by decide)] at H
    have H' := Aside0.mk H
    clear H
    go_wp2
    go_loopg [6] kj1 (fun kq v6 w' => ∃ (x6_2 : Int), v6 = .int .i64 x6_2 ∧ Aside0 (epactref03_Date.l0 kq a0 x6_2 = some (r1, r2, r3, r4)) ∧ Aside0 (kq ≤ kj1) ∧ Aside0 (Below w.heap.size w w'))
    case atStart => exact ⟨(wrap64 ((wrap64 (Int.tdiv (wrap64 (a0 - (-719162))) 366)) + 1)), pr, H', ⟨Nat.le_refl _⟩, ba HB⟩
    case round =>
     clear H'
     try clear c1
     try clear p2
     try clear c3
     try clear c3b0
     try clear c4
     try clear p2
     obtain ⟨x6_2, rfl, HA, HK2, HB⟩ := hrel
     cases gk with
     | zero => exact absurd HA.out (by simp [epactref03_Date.l0])
     | succ k2 =>
      have H := HA.out
      clear HA
      simp only [epactref03_Date.l0] at H
      obtain ⟨t459, A5, H⟩ := bnd H
      try dsimp only at H
      by_cases c6 : t459 ≤ a0
      ·rw [if_pos c6] at H
       have c6b0 : decide (t459 ≤ a0) = true := decide_eq_true c6
       clear c6
       have H' := Aside0.mk H
       clear H
       go_wp2_with (first | (refine gN (some 21) Try.func120 #[.int .i64 (wrap64 (x6_2 + 1))] (epactref03_first.calls (wrap64 (x6_2 + 1)) t459 _ A5.out) ?_; intro nd))
       go_roundg k2
       case measure => have := HJ1.out; have := HK2.out; omega
       case rel => exact ⟨(wrap64 (x6_2 + 1)), pr, H', ⟨by have := HJ1.out; have := HK2.out; omega⟩, ba HB⟩
      ·rw [if_neg c6] at H
       have c6b0 : decide (t459 ≤ a0) = false := decide_eq_false c6
       clear c6
       obtain ⟨t460, A7, H⟩ := bnd H
       try dsimp only at H
       have H' := Aside0.mk H
       clear H
       go_wp2_with (first | (refine gN (some 21) Try.func120 #[.int .i64 (wrap64 (x6_2 + 1))] (epactref03_first.calls (wrap64 (x6_2 + 1)) t459 _ A5.out) ?_; intro nd) | (refine gN (some 28) Try.func120 #[.int .i64 x6_2] (epactref03_first.calls x6_2 t460 _ A7.out) ?_; intro nd))
       go_loopg [7, 8] k2 (fun kq v7 v8 w' => ∃ (x7_3 : Int) (x8_3 : Int), v7 = .int .i64 x7_3 ∧ v8 = .int .i64 x8_3 ∧ Aside0 (epactref03_Date.l1 kq x6_2 x7_3 x8_3 = some (r1, r2, r3, r4)) ∧ Aside0 (kq ≤ k2) ∧ Aside0 (Below w.heap.size w w'))
       case atStart => exact ⟨(wrap64 (a0 - t460)), (1), pr, pr, H', ⟨Nat.le_refl _⟩, ba HB⟩
       case round =>
        clear H'
        try clear c1
        try clear p2
        try clear c3
        try clear c3b0
        try clear c4
        try clear c6
        try clear c6b0
        try clear p6
        try clear p2
        obtain ⟨x7_3, x8_3, rfl, rfl, HA, HK3, HB⟩ := hrel
        cases gk with
        | zero => exact absurd HA.out (by simp [epactref03_Date.l1])
        | succ k3 =>
         have H := HA.out
         clear HA
         simp only [epactref03_Date.l1] at H
         obtain ⟨t461, A8, H⟩ := bnd H
         try dsimp only at H
         by_cases c9 : x7_3 ≥ t461
         ·rw [if_pos c9] at H
          have c9b0 : decide (t461 ≤ x7_3) = true := decide_eq_true c9
          clear c9
          obtain ⟨t462, A10, H⟩ := bnd H
          try dsimp only at H
          (try (obtain rfl : t462 = t461 := Option.some.inj (A10.out.symm.trans A8.out)))
          have H' := Aside0.mk H
          clear H
          go_wp2_with (first | (refine gM (some 33) Try.func119 #[.int .i64 x6_2, .int .i64 x8_3] (epactref03_days.calls x6_2 x8_3 t462 _ A8.out) ?_; intro w11 hb; replace HB := bs HB hb; (try clear hb)) | (refine gM (some 38) Try.func119 #[.int .i64 x6_2, .int .i64 x8_3] (epactref03_days.calls x6_2 x8_3 t462 _ A10.out) ?_; intro w12 hb; replace HB := bs HB hb; (try clear hb)))
          go_roundg k3
          case measure => have := HJ1.out; have := HK2.out; have := HK3.out; omega
          case rel => exact ⟨(wrap64 (x7_3 - t462)), (wrap64 (x8_3 + 1)), pr, pr, H', ⟨by have := HJ1.out; have := HK2.out; have := HK3.out; omega⟩, ba HB⟩
         ·rw [if_neg c9] at H
          have c9b0 : decide (t461 ≤ x7_3) = false := decide_eq_false c9
          clear c9
          simp only [Option.some.injEq, Prod.mk.injEq] at H
          obtain ⟨rfl, rfl, rfl, rfl⟩ := H
          go_wp2_with (first | (refine gM (some 33) Try.func119 #[.int .i64 x6_2, .int .i64 x8_3] (epactref03_days.calls x6_2 x8_3 t461 _ A8.out) ?_; intro w13 hb; replace HB := bs HB hb; (try clear hb)))
          refine bodyPost_ret (results_list (rs := [.tmp 2, .tmp 3, .tmp 4, .tmp 5]) rfl (by simp) (.tmp (.tmp (.tmp (.tmp .nil))))) rfl ?_
          exact fi HB

/-! ### epactref03_End: function 116 -/
def epactref03_End.f (k : Nat) (a0 : Int) : Option (Bool) := (epactref03_Date.f k a0).bind fun bt463 => (if bt463.2.2.2 = true then ((epactref03_days.f bt463.1 bt463.2.1).bind fun t467 => (some (bt463.2.2.1 == t467))) else (some false))
theorem epactref03_End.mono : ∀ a0 k, LeO (epactref03_End.f k a0) (epactref03_End.f (k + 1) a0) := by
 intro a0 k
 unfold epactref03_End.f
 repeat' first
   | (with_reducible exact epactref03_Date.mono _ _)
   | (with_reducible exact LeO.refl _)
   | (with_reducible exact LeO.none _)
   | (with_reducible refine LeO.ite ?_ ?_)
   | (with_reducible refine LeO.bind ?_ (fun _ => ?_))
set_option maxHeartbeats 8000000 in
set_option maxRecDepth 100000 in
theorem epactref03_End.calls (k : Nat) (a0 : Int) (r : Bool) (w : World) (h : epactref03_End.f k a0 = some r) :
  Calls Try.prog 116 #[.int .i64 a0] w fun e w' => e = .returned (.bool r) ∧ Below w.heap.size w w' := by
 have HB := Aside0.mk (Below.refl w.heap.size w)
 have H : ((epactref03_Date.f k a0).bind fun bt463 => (if bt463.2.2.2 = true then ((epactref03_days.f bt463.1 bt463.2.1).bind fun t467 => (some (bt463.2.2.1 == t467))) else (some false))) = some r := h
 clear h
 obtain ⟨⟨t463, t464, t465, t466⟩, A2, H⟩ := bnd H
 try dsimp only at H
 by_cases c3 : t466 = true
 ·subst c3
  rw [if_pos rfl] at H
  obtain ⟨t467, A4, H⟩ := bnd H
  try dsimp only at H
  obtain rfl := Option.some.inj H
  go_enter Try.func116, Try.ntmps116
  go_wp2_with (first | (refine gM (some 9) Try.func118 #[.int .i64 a0] (epactref03_Date.calls k a0 t463 t464 t465 true _ A2.out) ?_; intro w5 hb; replace HB := bs HB hb; (try clear hb)) | (go_at_call 119; (with_reducible refine (epactref03_days.calls t463 t464 t467 _ A4.out).mono ?_); rintro e w6 ⟨rfl, hb⟩; replace HB := bs HB hb; (try clear hb)))
  go_ret
  exact fi HB
 ·replace c3 := Bool.eq_false_iff.mpr c3
  subst c3
  rw [if_neg (show ¬ (false = true) by decide)] at H
  obtain rfl := Option.some.inj H
  go_enter Try.func116, Try.ntmps116
  go_wp2_with (first | (refine gM (some 9) Try.func118 #[.int .i64 a0] (epactref03_Date.calls k a0 t463 t464 t465 false _ A2.out) ?_; intro w7 hb; replace HB := bs HB hb; (try clear hb)))
  go_ret
  exact fi HB

end Go.Proofs.Ythoigncoojcanaa.PAll
